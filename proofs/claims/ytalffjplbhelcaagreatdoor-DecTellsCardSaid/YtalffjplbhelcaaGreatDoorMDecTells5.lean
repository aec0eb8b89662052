import Derived.Test.YtalffjplbhelcaaGreatDoorMDecTells4
import Derived.Test.YtalffjplbhelcaaGreatDoorMDecTells2
import Derived.Test.YtalffjplbhelcaaGreatDoorMDecTells1
set_option linter.unusedVariables false
set_option linter.unusedSimpArgs false
namespace Go.Proofs.YtalffjplbhelcaaGreatDoor
open Go.RowKit
attribute [local irreducible] AC AR DWalk
set_option maxRecDepth 100000 in
theorem c_rDigits (n : Nat) : n < 1000000000000000000 → Gets Tryz.prog 22 #[.int .i64 (n : Int)] (.string (byA (Lib.decDigits n))) := by
 induction n using Nat.strongRecOn with
 | _ n ih =>
  intro hn
  refine gets_fin Tryz.func22 rfl rfl rfl (aQ (aL (aA 2 (.string (⟨#[]⟩ : ByteArray)) rfl rfl (aN (aQ (aQ (aL (aM 3 (.int .i64 (n : Int)) rfl rfl (aB 4 (.bool (decide ((n : Int) < 0))) rfl rfl rfl (bi_lss rfl) (aN (ac_else' (b := decide ((n : Int) < 0)) (decide_eq_false (by omega)) rfl (ac_skip (aQ (aQ (aL (aM 9 (.int .i64 (n : Int)) rfl rfl (aB 10 (.bool (decide ((n : Int) < 10))) rfl rfl rfl (bi_lss rfl) (aN ?_))))))))))))))))))
  refine bool_split (decide ((n : Int) < 10)) (fun h1 => ?_) (fun h1 => ?_)
  ·refine ac_then' (b := decide ((n : Int) < 10)) h1 rfl (aQ (aL (aM 11 (.int .i64 (n : Int)) rfl rfl (aB 12 (.int .i64 (w64 (48 + (n : Int)))) rfl rfl rfl (bi_add rfl) (ao 13 rfl rfl (st_cv_int (k := .u8) (a := (w64 (48 + (n : Int)))) (c := (IntKind.u8.wrap (w64 (48 + (n : Int))))) Tryz.underlying5 Tryz.underlying3 rfl rfl rfl (ao 14 rfl rfl (st_bs (us := [(0, .int .u8 (IntKind.u8.wrap (w64 (48 + (n : Int)))))]) (cs := [.int .u8 (IntKind.u8.wrap (w64 (48 + (n : Int))))]) rfl rfl (bs76_1_0 _) fun g0 => (ao 15 rfl rfl (st_cvs (g := g0) (n := (IntKind.u8.wrap (w64 (48 + (n : Int))))) 0 rfl Tryz.underlying76 Tryz.underlying5 Tryz.underlying9 rfl rfl rfl rfl ?_))))))))))
   refine aA 2 (.string (byteS (IntKind.u8.wrap (w64 (48 + (n : Int)))))) rfl rfl (aN (ac_ret (fin_eq (v := .string (byteS (IntKind.u8.wrap (w64 (48 + (n : Int)))))) (congrArg Value.string (dg_one h1)) (fin_ret (res_tmp rfl rfl)))))
  ·refine ac_else' (b := decide ((n : Int) < 10)) h1 rfl (ac_skip (aQ ?_))
   refine ac_any follows 11 rfl (fun Φ stepR doneR permR => ?_)
   refine ((fun s5_29 => ?_) : (∀ (E : Env) (b5_7 : Nat), E 2 = .string ((byA (Lib.decDigits (n / 10))) ++ (byteS (IntKind.u8.wrap (w64 (48 + (Int.tmod (n : Int) 10)))))) → Φ 0 [true, true, true, true, true, true, true, true, true, true, true] E [⟨b5_7, [.int .u8 (IntKind.u8.wrap (w64 (48 + (Int.tmod (n : Int) 10))))], 5, false⟩]) → _) ?_
   ·have s5_28 : ∀ (E : Env) (b5_7 : Nat), E 2 = .string (⟨#[]⟩ : ByteArray) → E 25 = .string ((byA (Lib.decDigits (n / 10))) ++ (byteS (IntKind.u8.wrap (w64 (48 + (Int.tmod (n : Int) 10)))))) → Φ 1 [true, true, true, true, true, true, true, true, true, true, false] E [⟨b5_7, [.int .u8 (IntKind.u8.wrap (w64 (48 + (Int.tmod (n : Int) 10))))], 5, false⟩] := by
     intro E b5_7 q2 q25
     obtain ⟨E0, rfl⟩ : ∃ E0 : Env, E = ((E0.put (some 2) (.string (⟨#[]⟩ : ByteArray))).put (some 25) (.string ((byA (Lib.decDigits (n / 10))) ++ (byteS (IntKind.u8.wrap (w64 (48 + (Int.tmod (n : Int) 10)))))))) := ⟨E, by rw [put_self q2, put_self q25]⟩
     refine stepR 0 _ _ _ [10] (by kernel_rfl) rfl ⟨?_, trivial⟩
     ·refine opR_op (d := (some 2)) rfl rfl rfl (st_assign (v := .string ((byA (Lib.decDigits (n / 10))) ++ (byteS (IntKind.u8.wrap (w64 (48 + (Int.tmod (n : Int) 10))))))) rfl rfl ?_)
      exact s5_29 _ _ rfl
    have s5_27 : ∀ (E : Env) (b5_7 : Nat), E 2 = .string (⟨#[]⟩ : ByteArray) → E 18 = .string (byA (Lib.decDigits (n / 10))) → E 24 = .string (byteS (IntKind.u8.wrap (w64 (48 + (Int.tmod (n : Int) 10))))) → Φ 2 [true, true, true, true, true, true, true, true, true, false, false] E [⟨b5_7, [.int .u8 (IntKind.u8.wrap (w64 (48 + (Int.tmod (n : Int) 10))))], 5, false⟩] := by
     intro E b5_7 q2 q18 q24
     obtain ⟨E0, rfl⟩ : ∃ E0 : Env, E = (((E0.put (some 2) (.string (⟨#[]⟩ : ByteArray))).put (some 18) (.string (byA (Lib.decDigits (n / 10))))).put (some 24) (.string (byteS (IntKind.u8.wrap (w64 (48 + (Int.tmod (n : Int) 10))))))) := ⟨E, by rw [put_self q2, put_self q18, put_self q24]⟩
     refine stepR 1 _ _ _ [9] (by kernel_rfl) rfl ⟨?_, trivial⟩
     ·refine opR_op (d := (some 25)) rfl rfl rfl (st_bi (r := .string ((byA (Lib.decDigits (n / 10))) ++ (byteS (IntKind.u8.wrap (w64 (48 + (Int.tmod (n : Int) 10))))))) rfl rfl rfl (bi_sadd (sz_two (dg_size hn) (byteS_size _) (by decide))) ?_)
      exact s5_28 _ _ rfl rfl
    have s5_26 : ∀ (E : Env) (b5_7 : Nat), E 2 = .string (⟨#[]⟩ : ByteArray) → E 18 = .string (byA (Lib.decDigits (n / 10))) → E 23 = .slice (some ⟨b5_7, 0, none⟩) 1 1 → Φ 3 [true, true, true, true, true, true, true, true, false, false, false] E [⟨b5_7, [.int .u8 (IntKind.u8.wrap (w64 (48 + (Int.tmod (n : Int) 10))))], 5, false⟩] := by
     intro E b5_7 q2 q18 q23
     obtain ⟨E0, rfl⟩ : ∃ E0 : Env, E = (((E0.put (some 2) (.string (⟨#[]⟩ : ByteArray))).put (some 18) (.string (byA (Lib.decDigits (n / 10))))).put (some 23) (.slice (some ⟨b5_7, 0, none⟩) 1 1)) := ⟨E, by rw [put_self q2, put_self q18, put_self q23]⟩
     refine stepR 2 _ _ _ [8] (by kernel_rfl) rfl ⟨?_, trivial⟩
     ·refine opR_op (d := (some 24)) rfl rfl rfl (st_cvs (g := b5_7) (n := (IntKind.u8.wrap (w64 (48 + (Int.tmod (n : Int) 10))))) 0 rfl Tryz.underlying76 Tryz.underlying5 Tryz.underlying9 rfl rfl rfl rfl ?_)
      exact s5_27 _ _ rfl rfl rfl
    have s5_25 : ∀ (E : Env) (b5_7 : Nat), E 2 = .string (⟨#[]⟩ : ByteArray) → E 17 = .int .i64 (w64 (Int.tdiv (n : Int) 10)) → E 24 = .string (byteS (IntKind.u8.wrap (w64 (48 + (Int.tmod (n : Int) 10))))) → Φ 3 [true, true, false, true, true, true, true, true, true, false, false] E [⟨b5_7, [.int .u8 (IntKind.u8.wrap (w64 (48 + (Int.tmod (n : Int) 10))))], 5, false⟩] := by
     intro E b5_7 q2 q17 q24
     obtain ⟨E0, rfl⟩ : ∃ E0 : Env, E = (((E0.put (some 2) (.string (⟨#[]⟩ : ByteArray))).put (some 17) (.int .i64 (w64 (Int.tdiv (n : Int) 10)))).put (some 24) (.string (byteS (IntKind.u8.wrap (w64 (48 + (Int.tmod (n : Int) 10))))))) := ⟨E, by rw [put_self q2, put_self q17, put_self q24]⟩
     refine stepR 2 _ _ _ [2] (by kernel_rfl) rfl ⟨?_, trivial⟩
     ·refine opR_op (d := (some 18)) rfl rfl rfl (st_cf (dg_in (ih (n / 10) (by have := of_decide_eq_false h1; omega) (by omega)) (dg_arg hn)) Tryz.func22 rfl (by decide) rfl rfl rfl ?_)
      exact s5_27 _ _ rfl rfl rfl
    have s5_24 : ∀ (E : Env), E 2 = .string (⟨#[]⟩ : ByteArray) → E 18 = .string (byA (Lib.decDigits (n / 10))) → E 22 = .int .u8 (IntKind.u8.wrap (w64 (48 + (Int.tmod (n : Int) 10)))) → Φ 4 [true, true, true, true, true, true, true, false, false, false, false] E [] := by
     intro E q2 q18 q22
     obtain ⟨E0, rfl⟩ : ∃ E0 : Env, E = (((E0.put (some 2) (.string (⟨#[]⟩ : ByteArray))).put (some 18) (.string (byA (Lib.decDigits (n / 10))))).put (some 22) (.int .u8 (IntKind.u8.wrap (w64 (48 + (Int.tmod (n : Int) 10)))))) := ⟨E, by rw [put_self q2, put_self q18, put_self q22]⟩
     refine stepR 3 _ _ _ [7] (by kernel_rfl) rfl ⟨?_, trivial⟩
     ·refine opR_op (d := (some 23)) rfl rfl rfl (st_bs (us := [(0, .int .u8 (IntKind.u8.wrap (w64 (48 + (Int.tmod (n : Int) 10)))))]) (cs := [.int .u8 (IntKind.u8.wrap (w64 (48 + (Int.tmod (n : Int) 10))))]) rfl rfl (bs76_1_0 _) fun b5_7 => ?_)
      exact s5_26 _ _ rfl rfl rfl
    have s5_23 : ∀ (E : Env) (b5_7 : Nat), E 2 = .string (⟨#[]⟩ : ByteArray) → E 17 = .int .i64 (w64 (Int.tdiv (n : Int) 10)) → E 23 = .slice (some ⟨b5_7, 0, none⟩) 1 1 → Φ 4 [true, true, false, true, true, true, true, true, false, false, false] E [⟨b5_7, [.int .u8 (IntKind.u8.wrap (w64 (48 + (Int.tmod (n : Int) 10))))], 5, false⟩] := by
     intro E b5_7 q2 q17 q23
     obtain ⟨E0, rfl⟩ : ∃ E0 : Env, E = (((E0.put (some 2) (.string (⟨#[]⟩ : ByteArray))).put (some 17) (.int .i64 (w64 (Int.tdiv (n : Int) 10)))).put (some 23) (.slice (some ⟨b5_7, 0, none⟩) 1 1)) := ⟨E, by rw [put_self q2, put_self q17, put_self q23]⟩
     refine stepR 3 _ _ _ [2, 8] (by kernel_rfl) rfl ⟨?_, ?_, trivial⟩
     ·refine opR_op (d := (some 18)) rfl rfl rfl (st_cf (dg_in (ih (n / 10) (by have := of_decide_eq_false h1; omega) (by omega)) (dg_arg hn)) Tryz.func22 rfl (by decide) rfl rfl rfl ?_)
      exact s5_26 _ _ rfl rfl rfl
     ·refine opR_op (d := (some 24)) rfl rfl rfl (st_cvs (g := b5_7) (n := (IntKind.u8.wrap (w64 (48 + (Int.tmod (n : Int) 10))))) 0 rfl Tryz.underlying76 Tryz.underlying5 Tryz.underlying9 rfl rfl rfl rfl ?_)
      exact s5_25 _ _ rfl rfl rfl
    have s5_22 : ∀ (E : Env) (b5_7 : Nat), E 2 = .string (⟨#[]⟩ : ByteArray) → E 16 = .int .i64 (n : Int) → E 24 = .string (byteS (IntKind.u8.wrap (w64 (48 + (Int.tmod (n : Int) 10))))) → Φ 4 [true, false, false, true, true, true, true, true, true, false, false] E [⟨b5_7, [.int .u8 (IntKind.u8.wrap (w64 (48 + (Int.tmod (n : Int) 10))))], 5, false⟩] := by
     intro E b5_7 q2 q16 q24
     obtain ⟨E0, rfl⟩ : ∃ E0 : Env, E = (((E0.put (some 2) (.string (⟨#[]⟩ : ByteArray))).put (some 16) (.int .i64 (n : Int))).put (some 24) (.string (byteS (IntKind.u8.wrap (w64 (48 + (Int.tmod (n : Int) 10))))))) := ⟨E, by rw [put_self q2, put_self q16, put_self q24]⟩
     refine stepR 3 _ _ _ [1] (by kernel_rfl) rfl ⟨?_, trivial⟩
     ·refine opR_op (d := (some 17)) rfl rfl rfl (st_bi (r := .int .i64 (w64 (Int.tdiv (n : Int) 10))) rfl rfl rfl (bi_quo (by decide) rfl) ?_)
      exact s5_25 _ _ rfl rfl rfl
    have s5_21 : ∀ (E : Env), E 2 = .string (⟨#[]⟩ : ByteArray) → E 18 = .string (byA (Lib.decDigits (n / 10))) → E 21 = .int .i64 (w64 (48 + (Int.tmod (n : Int) 10))) → Φ 5 [true, true, true, true, true, true, false, false, false, false, false] E [] := by
     intro E q2 q18 q21
     obtain ⟨E0, rfl⟩ : ∃ E0 : Env, E = (((E0.put (some 2) (.string (⟨#[]⟩ : ByteArray))).put (some 18) (.string (byA (Lib.decDigits (n / 10))))).put (some 21) (.int .i64 (w64 (48 + (Int.tmod (n : Int) 10))))) := ⟨E, by rw [put_self q2, put_self q18, put_self q21]⟩
     refine stepR 4 _ _ _ [6] (by kernel_rfl) rfl ⟨?_, trivial⟩
     ·refine opR_op (d := (some 22)) rfl rfl rfl (st_cv_int (k := .u8) (a := (w64 (48 + (Int.tmod (n : Int) 10)))) (c := (IntKind.u8.wrap (w64 (48 + (Int.tmod (n : Int) 10))))) Tryz.underlying5 Tryz.underlying3 rfl rfl rfl ?_)
      exact s5_24 _ rfl rfl rfl
    have s5_20 : ∀ (E : Env), E 2 = .string (⟨#[]⟩ : ByteArray) → E 17 = .int .i64 (w64 (Int.tdiv (n : Int) 10)) → E 22 = .int .u8 (IntKind.u8.wrap (w64 (48 + (Int.tmod (n : Int) 10)))) → Φ 5 [true, true, false, true, true, true, true, false, false, false, false] E [] := by
     intro E q2 q17 q22
     obtain ⟨E0, rfl⟩ : ∃ E0 : Env, E = (((E0.put (some 2) (.string (⟨#[]⟩ : ByteArray))).put (some 17) (.int .i64 (w64 (Int.tdiv (n : Int) 10)))).put (some 22) (.int .u8 (IntKind.u8.wrap (w64 (48 + (Int.tmod (n : Int) 10)))))) := ⟨E, by rw [put_self q2, put_self q17, put_self q22]⟩
     refine stepR 4 _ _ _ [2, 7] (by kernel_rfl) rfl ⟨?_, ?_, trivial⟩
     ·refine opR_op (d := (some 18)) rfl rfl rfl (st_cf (dg_in (ih (n / 10) (by have := of_decide_eq_false h1; omega) (by omega)) (dg_arg hn)) Tryz.func22 rfl (by decide) rfl rfl rfl ?_)
      exact s5_24 _ rfl rfl rfl
     ·refine opR_op (d := (some 23)) rfl rfl rfl (st_bs (us := [(0, .int .u8 (IntKind.u8.wrap (w64 (48 + (Int.tmod (n : Int) 10)))))]) (cs := [.int .u8 (IntKind.u8.wrap (w64 (48 + (Int.tmod (n : Int) 10))))]) rfl rfl (bs76_1_0 _) fun b5_7 => ?_)
      exact s5_23 _ _ rfl rfl rfl
    have s5_19 : ∀ (E : Env) (b5_7 : Nat), E 2 = .string (⟨#[]⟩ : ByteArray) → E 16 = .int .i64 (n : Int) → E 23 = .slice (some ⟨b5_7, 0, none⟩) 1 1 → Φ 5 [true, false, false, true, true, true, true, true, false, false, false] E [⟨b5_7, [.int .u8 (IntKind.u8.wrap (w64 (48 + (Int.tmod (n : Int) 10))))], 5, false⟩] := by
     intro E b5_7 q2 q16 q23
     obtain ⟨E0, rfl⟩ : ∃ E0 : Env, E = (((E0.put (some 2) (.string (⟨#[]⟩ : ByteArray))).put (some 16) (.int .i64 (n : Int))).put (some 23) (.slice (some ⟨b5_7, 0, none⟩) 1 1)) := ⟨E, by rw [put_self q2, put_self q16, put_self q23]⟩
     refine stepR 4 _ _ _ [1, 8] (by kernel_rfl) rfl ⟨?_, ?_, trivial⟩
     ·refine opR_op (d := (some 17)) rfl rfl rfl (st_bi (r := .int .i64 (w64 (Int.tdiv (n : Int) 10))) rfl rfl rfl (bi_quo (by decide) rfl) ?_)
      exact s5_23 _ _ rfl rfl rfl
     ·refine opR_op (d := (some 24)) rfl rfl rfl (st_cvs (g := b5_7) (n := (IntKind.u8.wrap (w64 (48 + (Int.tmod (n : Int) 10))))) 0 rfl Tryz.underlying76 Tryz.underlying5 Tryz.underlying9 rfl rfl rfl rfl ?_)
      exact s5_22 _ _ rfl rfl rfl
    have s5_18 : ∀ (E : Env) (b5_7 : Nat), E 0 = .int .i64 (n : Int) → E 2 = .string (⟨#[]⟩ : ByteArray) → E 24 = .string (byteS (IntKind.u8.wrap (w64 (48 + (Int.tmod (n : Int) 10))))) → Φ 5 [false, false, false, true, true, true, true, true, true, false, false] E [⟨b5_7, [.int .u8 (IntKind.u8.wrap (w64 (48 + (Int.tmod (n : Int) 10))))], 5, false⟩] := by
     intro E b5_7 q0 q2 q24
     obtain ⟨E0, rfl⟩ : ∃ E0 : Env, E = (((E0.put (some 0) (.int .i64 (n : Int))).put (some 2) (.string (⟨#[]⟩ : ByteArray))).put (some 24) (.string (byteS (IntKind.u8.wrap (w64 (48 + (Int.tmod (n : Int) 10))))))) := ⟨E, by rw [put_self q0, put_self q2, put_self q24]⟩
     refine stepR 4 _ _ _ [0] (by kernel_rfl) rfl ⟨?_, trivial⟩
     ·refine opR_op (d := (some 16)) rfl rfl rfl (st_move (v := .int .i64 (n : Int)) rfl rfl ?_)
      exact s5_22 _ _ rfl rfl rfl
    have s5_17 : ∀ (E : Env), E 2 = .string (⟨#[]⟩ : ByteArray) → E 18 = .string (byA (Lib.decDigits (n / 10))) → E 20 = .int .i64 (Int.tmod (n : Int) 10) → Φ 6 [true, true, true, true, true, false, false, false, false, false, false] E [] := by
     intro E q2 q18 q20
     obtain ⟨E0, rfl⟩ : ∃ E0 : Env, E = (((E0.put (some 2) (.string (⟨#[]⟩ : ByteArray))).put (some 18) (.string (byA (Lib.decDigits (n / 10))))).put (some 20) (.int .i64 (Int.tmod (n : Int) 10))) := ⟨E, by rw [put_self q2, put_self q18, put_self q20]⟩
     refine stepR 5 _ _ _ [5] (by kernel_rfl) rfl ⟨?_, trivial⟩
     ·refine opR_op (d := (some 21)) rfl rfl rfl (st_bi (r := .int .i64 (w64 (48 + (Int.tmod (n : Int) 10)))) rfl rfl rfl (bi_add rfl) ?_)
      exact s5_21 _ rfl rfl rfl
    have s5_16 : ∀ (E : Env), E 2 = .string (⟨#[]⟩ : ByteArray) → E 17 = .int .i64 (w64 (Int.tdiv (n : Int) 10)) → E 21 = .int .i64 (w64 (48 + (Int.tmod (n : Int) 10))) → Φ 6 [true, true, false, true, true, true, false, false, false, false, false] E [] := by
     intro E q2 q17 q21
     obtain ⟨E0, rfl⟩ : ∃ E0 : Env, E = (((E0.put (some 2) (.string (⟨#[]⟩ : ByteArray))).put (some 17) (.int .i64 (w64 (Int.tdiv (n : Int) 10)))).put (some 21) (.int .i64 (w64 (48 + (Int.tmod (n : Int) 10))))) := ⟨E, by rw [put_self q2, put_self q17, put_self q21]⟩
     refine stepR 5 _ _ _ [2, 6] (by kernel_rfl) rfl ⟨?_, ?_, trivial⟩
     ·refine opR_op (d := (some 18)) rfl rfl rfl (st_cf (dg_in (ih (n / 10) (by have := of_decide_eq_false h1; omega) (by omega)) (dg_arg hn)) Tryz.func22 rfl (by decide) rfl rfl rfl ?_)
      exact s5_21 _ rfl rfl rfl
     ·refine opR_op (d := (some 22)) rfl rfl rfl (st_cv_int (k := .u8) (a := (w64 (48 + (Int.tmod (n : Int) 10)))) (c := (IntKind.u8.wrap (w64 (48 + (Int.tmod (n : Int) 10))))) Tryz.underlying5 Tryz.underlying3 rfl rfl rfl ?_)
      exact s5_20 _ rfl rfl rfl
    have s5_15 : ∀ (E : Env), E 2 = .string (⟨#[]⟩ : ByteArray) → E 16 = .int .i64 (n : Int) → E 22 = .int .u8 (IntKind.u8.wrap (w64 (48 + (Int.tmod (n : Int) 10)))) → Φ 6 [true, false, false, true, true, true, true, false, false, false, false] E [] := by
     intro E q2 q16 q22
     obtain ⟨E0, rfl⟩ : ∃ E0 : Env, E = (((E0.put (some 2) (.string (⟨#[]⟩ : ByteArray))).put (some 16) (.int .i64 (n : Int))).put (some 22) (.int .u8 (IntKind.u8.wrap (w64 (48 + (Int.tmod (n : Int) 10)))))) := ⟨E, by rw [put_self q2, put_self q16, put_self q22]⟩
     refine stepR 5 _ _ _ [1, 7] (by kernel_rfl) rfl ⟨?_, ?_, trivial⟩
     ·refine opR_op (d := (some 17)) rfl rfl rfl (st_bi (r := .int .i64 (w64 (Int.tdiv (n : Int) 10))) rfl rfl rfl (bi_quo (by decide) rfl) ?_)
      exact s5_20 _ rfl rfl rfl
     ·refine opR_op (d := (some 23)) rfl rfl rfl (st_bs (us := [(0, .int .u8 (IntKind.u8.wrap (w64 (48 + (Int.tmod (n : Int) 10)))))]) (cs := [.int .u8 (IntKind.u8.wrap (w64 (48 + (Int.tmod (n : Int) 10))))]) rfl rfl (bs76_1_0 _) fun b5_7 => ?_)
      exact s5_19 _ _ rfl rfl rfl
    have s5_14 : ∀ (E : Env) (b5_7 : Nat), E 0 = .int .i64 (n : Int) → E 2 = .string (⟨#[]⟩ : ByteArray) → E 23 = .slice (some ⟨b5_7, 0, none⟩) 1 1 → Φ 6 [false, false, false, true, true, true, true, true, false, false, false] E [⟨b5_7, [.int .u8 (IntKind.u8.wrap (w64 (48 + (Int.tmod (n : Int) 10))))], 5, false⟩] := by
     intro E b5_7 q0 q2 q23
     obtain ⟨E0, rfl⟩ : ∃ E0 : Env, E = (((E0.put (some 0) (.int .i64 (n : Int))).put (some 2) (.string (⟨#[]⟩ : ByteArray))).put (some 23) (.slice (some ⟨b5_7, 0, none⟩) 1 1)) := ⟨E, by rw [put_self q0, put_self q2, put_self q23]⟩
     refine stepR 5 _ _ _ [0, 8] (by kernel_rfl) rfl ⟨?_, ?_, trivial⟩
     ·refine opR_op (d := (some 16)) rfl rfl rfl (st_move (v := .int .i64 (n : Int)) rfl rfl ?_)
      exact s5_19 _ _ rfl rfl rfl
     ·refine opR_op (d := (some 24)) rfl rfl rfl (st_cvs (g := b5_7) (n := (IntKind.u8.wrap (w64 (48 + (Int.tmod (n : Int) 10))))) 0 rfl Tryz.underlying76 Tryz.underlying5 Tryz.underlying9 rfl rfl rfl rfl ?_)
      exact s5_18 _ _ rfl rfl rfl
    have s5_13 : ∀ (E : Env), E 2 = .string (⟨#[]⟩ : ByteArray) → E 18 = .string (byA (Lib.decDigits (n / 10))) → E 19 = .int .i64 (n : Int) → Φ 7 [true, true, true, true, false, false, false, false, false, false, false] E [] := by
     intro E q2 q18 q19
     obtain ⟨E0, rfl⟩ : ∃ E0 : Env, E = (((E0.put (some 2) (.string (⟨#[]⟩ : ByteArray))).put (some 18) (.string (byA (Lib.decDigits (n / 10))))).put (some 19) (.int .i64 (n : Int))) := ⟨E, by rw [put_self q2, put_self q18, put_self q19]⟩
     refine stepR 6 _ _ _ [4] (by kernel_rfl) rfl ⟨?_, trivial⟩
     ·refine opR_op (d := (some 20)) rfl rfl rfl (st_bi (r := .int .i64 (Int.tmod (n : Int) 10)) rfl rfl rfl (bi_rem (by decide) rfl) ?_)
      exact s5_17 _ rfl rfl rfl
    have s5_12 : ∀ (E : Env), E 2 = .string (⟨#[]⟩ : ByteArray) → E 17 = .int .i64 (w64 (Int.tdiv (n : Int) 10)) → E 20 = .int .i64 (Int.tmod (n : Int) 10) → Φ 7 [true, true, false, true, true, false, false, false, false, false, false] E [] := by
     intro E q2 q17 q20
     obtain ⟨E0, rfl⟩ : ∃ E0 : Env, E = (((E0.put (some 2) (.string (⟨#[]⟩ : ByteArray))).put (some 17) (.int .i64 (w64 (Int.tdiv (n : Int) 10)))).put (some 20) (.int .i64 (Int.tmod (n : Int) 10))) := ⟨E, by rw [put_self q2, put_self q17, put_self q20]⟩
     refine stepR 6 _ _ _ [2, 5] (by kernel_rfl) rfl ⟨?_, ?_, trivial⟩
     ·refine opR_op (d := (some 18)) rfl rfl rfl (st_cf (dg_in (ih (n / 10) (by have := of_decide_eq_false h1; omega) (by omega)) (dg_arg hn)) Tryz.func22 rfl (by decide) rfl rfl rfl ?_)
      exact s5_17 _ rfl rfl rfl
     ·refine opR_op (d := (some 21)) rfl rfl rfl (st_bi (r := .int .i64 (w64 (48 + (Int.tmod (n : Int) 10)))) rfl rfl rfl (bi_add rfl) ?_)
      exact s5_16 _ rfl rfl rfl
    have s5_11 : ∀ (E : Env), E 2 = .string (⟨#[]⟩ : ByteArray) → E 16 = .int .i64 (n : Int) → E 21 = .int .i64 (w64 (48 + (Int.tmod (n : Int) 10))) → Φ 7 [true, false, false, true, true, true, false, false, false, false, false] E [] := by
     intro E q2 q16 q21
     obtain ⟨E0, rfl⟩ : ∃ E0 : Env, E = (((E0.put (some 2) (.string (⟨#[]⟩ : ByteArray))).put (some 16) (.int .i64 (n : Int))).put (some 21) (.int .i64 (w64 (48 + (Int.tmod (n : Int) 10))))) := ⟨E, by rw [put_self q2, put_self q16, put_self q21]⟩
     refine stepR 6 _ _ _ [1, 6] (by kernel_rfl) rfl ⟨?_, ?_, trivial⟩
     ·refine opR_op (d := (some 17)) rfl rfl rfl (st_bi (r := .int .i64 (w64 (Int.tdiv (n : Int) 10))) rfl rfl rfl (bi_quo (by decide) rfl) ?_)
      exact s5_16 _ rfl rfl rfl
     ·refine opR_op (d := (some 22)) rfl rfl rfl (st_cv_int (k := .u8) (a := (w64 (48 + (Int.tmod (n : Int) 10)))) (c := (IntKind.u8.wrap (w64 (48 + (Int.tmod (n : Int) 10))))) Tryz.underlying5 Tryz.underlying3 rfl rfl rfl ?_)
      exact s5_15 _ rfl rfl rfl
    have s5_10 : ∀ (E : Env), E 0 = .int .i64 (n : Int) → E 2 = .string (⟨#[]⟩ : ByteArray) → E 22 = .int .u8 (IntKind.u8.wrap (w64 (48 + (Int.tmod (n : Int) 10)))) → Φ 7 [false, false, false, true, true, true, true, false, false, false, false] E [] := by
     intro E q0 q2 q22
     obtain ⟨E0, rfl⟩ : ∃ E0 : Env, E = (((E0.put (some 0) (.int .i64 (n : Int))).put (some 2) (.string (⟨#[]⟩ : ByteArray))).put (some 22) (.int .u8 (IntKind.u8.wrap (w64 (48 + (Int.tmod (n : Int) 10)))))) := ⟨E, by rw [put_self q0, put_self q2, put_self q22]⟩
     refine stepR 6 _ _ _ [0, 7] (by kernel_rfl) rfl ⟨?_, ?_, trivial⟩
     ·refine opR_op (d := (some 16)) rfl rfl rfl (st_move (v := .int .i64 (n : Int)) rfl rfl ?_)
      exact s5_15 _ rfl rfl rfl
     ·refine opR_op (d := (some 23)) rfl rfl rfl (st_bs (us := [(0, .int .u8 (IntKind.u8.wrap (w64 (48 + (Int.tmod (n : Int) 10)))))]) (cs := [.int .u8 (IntKind.u8.wrap (w64 (48 + (Int.tmod (n : Int) 10))))]) rfl rfl (bs76_1_0 _) fun b5_7 => ?_)
      exact s5_14 _ _ rfl rfl rfl
    have s5_9 : ∀ (E : Env), E 0 = .int .i64 (n : Int) → E 2 = .string (⟨#[]⟩ : ByteArray) → E 18 = .string (byA (Lib.decDigits (n / 10))) → Φ 8 [true, true, true, false, false, false, false, false, false, false, false] E [] := by
     intro E q0 q2 q18
     obtain ⟨E0, rfl⟩ : ∃ E0 : Env, E = (((E0.put (some 0) (.int .i64 (n : Int))).put (some 2) (.string (⟨#[]⟩ : ByteArray))).put (some 18) (.string (byA (Lib.decDigits (n / 10))))) := ⟨E, by rw [put_self q0, put_self q2, put_self q18]⟩
     refine stepR 7 _ _ _ [3] (by kernel_rfl) rfl ⟨?_, trivial⟩
     ·refine opR_op (d := (some 19)) rfl rfl rfl (st_move (v := .int .i64 (n : Int)) rfl rfl ?_)
      exact s5_13 _ rfl rfl rfl
    have s5_8 : ∀ (E : Env), E 2 = .string (⟨#[]⟩ : ByteArray) → E 17 = .int .i64 (w64 (Int.tdiv (n : Int) 10)) → E 19 = .int .i64 (n : Int) → Φ 8 [true, true, false, true, false, false, false, false, false, false, false] E [] := by
     intro E q2 q17 q19
     obtain ⟨E0, rfl⟩ : ∃ E0 : Env, E = (((E0.put (some 2) (.string (⟨#[]⟩ : ByteArray))).put (some 17) (.int .i64 (w64 (Int.tdiv (n : Int) 10)))).put (some 19) (.int .i64 (n : Int))) := ⟨E, by rw [put_self q2, put_self q17, put_self q19]⟩
     refine stepR 7 _ _ _ [2, 4] (by kernel_rfl) rfl ⟨?_, ?_, trivial⟩
     ·refine opR_op (d := (some 18)) rfl rfl rfl (st_cf (dg_in (ih (n / 10) (by have := of_decide_eq_false h1; omega) (by omega)) (dg_arg hn)) Tryz.func22 rfl (by decide) rfl rfl rfl ?_)
      exact s5_13 _ rfl rfl rfl
     ·refine opR_op (d := (some 20)) rfl rfl rfl (st_bi (r := .int .i64 (Int.tmod (n : Int) 10)) rfl rfl rfl (bi_rem (by decide) rfl) ?_)
      exact s5_12 _ rfl rfl rfl
    have s5_7 : ∀ (E : Env), E 2 = .string (⟨#[]⟩ : ByteArray) → E 16 = .int .i64 (n : Int) → E 20 = .int .i64 (Int.tmod (n : Int) 10) → Φ 8 [true, false, false, true, true, false, false, false, false, false, false] E [] := by
     intro E q2 q16 q20
     obtain ⟨E0, rfl⟩ : ∃ E0 : Env, E = (((E0.put (some 2) (.string (⟨#[]⟩ : ByteArray))).put (some 16) (.int .i64 (n : Int))).put (some 20) (.int .i64 (Int.tmod (n : Int) 10))) := ⟨E, by rw [put_self q2, put_self q16, put_self q20]⟩
     refine stepR 7 _ _ _ [1, 5] (by kernel_rfl) rfl ⟨?_, ?_, trivial⟩
     ·refine opR_op (d := (some 17)) rfl rfl rfl (st_bi (r := .int .i64 (w64 (Int.tdiv (n : Int) 10))) rfl rfl rfl (bi_quo (by decide) rfl) ?_)
      exact s5_12 _ rfl rfl rfl
     ·refine opR_op (d := (some 21)) rfl rfl rfl (st_bi (r := .int .i64 (w64 (48 + (Int.tmod (n : Int) 10)))) rfl rfl rfl (bi_add rfl) ?_)
      exact s5_11 _ rfl rfl rfl
    have s5_6 : ∀ (E : Env), E 0 = .int .i64 (n : Int) → E 2 = .string (⟨#[]⟩ : ByteArray) → E 21 = .int .i64 (w64 (48 + (Int.tmod (n : Int) 10))) → Φ 8 [false, false, false, true, true, true, false, false, false, false, false] E [] := by
     intro E q0 q2 q21
     obtain ⟨E0, rfl⟩ : ∃ E0 : Env, E = (((E0.put (some 0) (.int .i64 (n : Int))).put (some 2) (.string (⟨#[]⟩ : ByteArray))).put (some 21) (.int .i64 (w64 (48 + (Int.tmod (n : Int) 10))))) := ⟨E, by rw [put_self q0, put_self q2, put_self q21]⟩
     refine stepR 7 _ _ _ [0, 6] (by kernel_rfl) rfl ⟨?_, ?_, trivial⟩
     ·refine opR_op (d := (some 16)) rfl rfl rfl (st_move (v := .int .i64 (n : Int)) rfl rfl ?_)
      exact s5_11 _ rfl rfl rfl
     ·refine opR_op (d := (some 22)) rfl rfl rfl (st_cv_int (k := .u8) (a := (w64 (48 + (Int.tmod (n : Int) 10)))) (c := (IntKind.u8.wrap (w64 (48 + (Int.tmod (n : Int) 10))))) Tryz.underlying5 Tryz.underlying3 rfl rfl rfl ?_)
      exact s5_10 _ rfl rfl rfl
    have s5_5 : ∀ (E : Env), E 0 = .int .i64 (n : Int) → E 2 = .string (⟨#[]⟩ : ByteArray) → E 17 = .int .i64 (w64 (Int.tdiv (n : Int) 10)) → Φ 9 [true, true, false, false, false, false, false, false, false, false, false] E [] := by
     intro E q0 q2 q17
     obtain ⟨E0, rfl⟩ : ∃ E0 : Env, E = (((E0.put (some 0) (.int .i64 (n : Int))).put (some 2) (.string (⟨#[]⟩ : ByteArray))).put (some 17) (.int .i64 (w64 (Int.tdiv (n : Int) 10)))) := ⟨E, by rw [put_self q0, put_self q2, put_self q17]⟩
     refine stepR 8 _ _ _ [2, 3] (by kernel_rfl) rfl ⟨?_, ?_, trivial⟩
     ·refine opR_op (d := (some 18)) rfl rfl rfl (st_cf (dg_in (ih (n / 10) (by have := of_decide_eq_false h1; omega) (by omega)) (dg_arg hn)) Tryz.func22 rfl (by decide) rfl rfl rfl ?_)
      exact s5_9 _ rfl rfl rfl
     ·refine opR_op (d := (some 19)) rfl rfl rfl (st_move (v := .int .i64 (n : Int)) rfl rfl ?_)
      exact s5_8 _ rfl rfl rfl
    have s5_4 : ∀ (E : Env), E 2 = .string (⟨#[]⟩ : ByteArray) → E 16 = .int .i64 (n : Int) → E 19 = .int .i64 (n : Int) → Φ 9 [true, false, false, true, false, false, false, false, false, false, false] E [] := by
     intro E q2 q16 q19
     obtain ⟨E0, rfl⟩ : ∃ E0 : Env, E = (((E0.put (some 2) (.string (⟨#[]⟩ : ByteArray))).put (some 16) (.int .i64 (n : Int))).put (some 19) (.int .i64 (n : Int))) := ⟨E, by rw [put_self q2, put_self q16, put_self q19]⟩
     refine stepR 8 _ _ _ [1, 4] (by kernel_rfl) rfl ⟨?_, ?_, trivial⟩
     ·refine opR_op (d := (some 17)) rfl rfl rfl (st_bi (r := .int .i64 (w64 (Int.tdiv (n : Int) 10))) rfl rfl rfl (bi_quo (by decide) rfl) ?_)
      exact s5_8 _ rfl rfl rfl
     ·refine opR_op (d := (some 20)) rfl rfl rfl (st_bi (r := .int .i64 (Int.tmod (n : Int) 10)) rfl rfl rfl (bi_rem (by decide) rfl) ?_)
      exact s5_7 _ rfl rfl rfl
    have s5_3 : ∀ (E : Env), E 0 = .int .i64 (n : Int) → E 2 = .string (⟨#[]⟩ : ByteArray) → E 20 = .int .i64 (Int.tmod (n : Int) 10) → Φ 9 [false, false, false, true, true, false, false, false, false, false, false] E [] := by
     intro E q0 q2 q20
     obtain ⟨E0, rfl⟩ : ∃ E0 : Env, E = (((E0.put (some 0) (.int .i64 (n : Int))).put (some 2) (.string (⟨#[]⟩ : ByteArray))).put (some 20) (.int .i64 (Int.tmod (n : Int) 10))) := ⟨E, by rw [put_self q0, put_self q2, put_self q20]⟩
     refine stepR 8 _ _ _ [0, 5] (by kernel_rfl) rfl ⟨?_, ?_, trivial⟩
     ·refine opR_op (d := (some 16)) rfl rfl rfl (st_move (v := .int .i64 (n : Int)) rfl rfl ?_)
      exact s5_7 _ rfl rfl rfl
     ·refine opR_op (d := (some 21)) rfl rfl rfl (st_bi (r := .int .i64 (w64 (48 + (Int.tmod (n : Int) 10)))) rfl rfl rfl (bi_add rfl) ?_)
      exact s5_6 _ rfl rfl rfl
    have s5_2 : ∀ (E : Env), E 0 = .int .i64 (n : Int) → E 2 = .string (⟨#[]⟩ : ByteArray) → E 16 = .int .i64 (n : Int) → Φ 10 [true, false, false, false, false, false, false, false, false, false, false] E [] := by
     intro E q0 q2 q16
     obtain ⟨E0, rfl⟩ : ∃ E0 : Env, E = (((E0.put (some 0) (.int .i64 (n : Int))).put (some 2) (.string (⟨#[]⟩ : ByteArray))).put (some 16) (.int .i64 (n : Int))) := ⟨E, by rw [put_self q0, put_self q2, put_self q16]⟩
     refine stepR 9 _ _ _ [1, 3] (by kernel_rfl) rfl ⟨?_, ?_, trivial⟩
     ·refine opR_op (d := (some 17)) rfl rfl rfl (st_bi (r := .int .i64 (w64 (Int.tdiv (n : Int) 10))) rfl rfl rfl (bi_quo (by decide) rfl) ?_)
      exact s5_5 _ rfl rfl rfl
     ·refine opR_op (d := (some 19)) rfl rfl rfl (st_move (v := .int .i64 (n : Int)) rfl rfl ?_)
      exact s5_4 _ rfl rfl rfl
    have s5_1 : ∀ (E : Env), E 0 = .int .i64 (n : Int) → E 2 = .string (⟨#[]⟩ : ByteArray) → E 19 = .int .i64 (n : Int) → Φ 10 [false, false, false, true, false, false, false, false, false, false, false] E [] := by
     intro E q0 q2 q19
     obtain ⟨E0, rfl⟩ : ∃ E0 : Env, E = (((E0.put (some 0) (.int .i64 (n : Int))).put (some 2) (.string (⟨#[]⟩ : ByteArray))).put (some 19) (.int .i64 (n : Int))) := ⟨E, by rw [put_self q0, put_self q2, put_self q19]⟩
     refine stepR 9 _ _ _ [0, 4] (by kernel_rfl) rfl ⟨?_, ?_, trivial⟩
     ·refine opR_op (d := (some 16)) rfl rfl rfl (st_move (v := .int .i64 (n : Int)) rfl rfl ?_)
      exact s5_4 _ rfl rfl rfl
     ·refine opR_op (d := (some 20)) rfl rfl rfl (st_bi (r := .int .i64 (Int.tmod (n : Int) 10)) rfl rfl rfl (bi_rem (by decide) rfl) ?_)
      exact s5_3 _ rfl rfl rfl
    refine stepR 10 _ _ _ [0, 3] (by kernel_rfl) rfl ⟨?_, ?_, trivial⟩
    ·refine opR_op (d := (some 16)) rfl rfl rfl (st_move (v := .int .i64 (n : Int)) rfl rfl ?_)
     exact s5_2 _ rfl rfl rfl
    ·refine opR_op (d := (some 19)) rfl rfl rfl (st_move (v := .int .i64 (n : Int)) rfl rfl ?_)
     exact s5_1 _ rfl rfl rfl
   intro E b5_7 q2
   obtain ⟨E0, rfl⟩ : ∃ E0 : Env, E = (E0.put (some 2) (.string ((byA (Lib.decDigits (n / 10))) ++ (byteS (IntKind.u8.wrap (w64 (48 + (Int.tmod (n : Int) 10)))))))) := ⟨E, by rw [put_self q2]⟩
   refine doneR _ _ _ (by kernel_rfl) (ac_ret (fin_eq (v := .string ((byA (Lib.decDigits (n / 10))) ++ (byteS (IntKind.u8.wrap (w64 (48 + (Int.tmod (n : Int) 10))))))) (congrArg Value.string (dg_more h1)) (fin_ret (res_tmp rfl rfl))))
end Go.Proofs.YtalffjplbhelcaaGreatDoor
namespace Go.Proofs.YtalffjplbhelcaaGreatDoor
def rDigs (x : Int) : ByteArray := byA (Lib.decDigits x.toNat)
theorem c_rDigI (x : Int) (h : 0 ≤ x ∧ x < 1000000000000000000) : Gets Tryz.prog 22 #[.int .i64 x] (.string (rDigs x)) := by
  obtain ⟨n, rfl⟩ : ∃ n : Nat, x = (n : Int) := ⟨x.toNat, by omega⟩
  exact c_rDigits n (by omega)
theorem rDigs_sz {x : Int} (h : 0 ≤ x ∧ x < 1000000000000000000) : (rDigs x).size ≤ 18 := dg_len 17 x.toNat (Nat.lt_of_lt_of_le (show x.toNat < 1000000000000000000 by omega) (by decide))
theorem rDigs_pos (x : Int) : 0 ≤ (1 : Int) ∧ (1 : Int) ≤ ((rDigs x).size : Int) := by
  have h := List.length_pos_iff.2 (decDig_all x.toNat).2.2
  have e : (rDigs x).size = (Lib.decDigits x.toNat).length := rfl
  omega
end Go.Proofs.YtalffjplbhelcaaGreatDoor
namespace Go.Proofs.YtalffjplbhelcaaGreatDoor
theorem dg_pick (n : Int) {m : Int} (h0 : 0 < m) (h1 : m ≤ 1000000000000000000) : 0 ≤ hPick n m ∧ hPick n m < 1000000000000000000 := by
  have := hPick_lt n (m := m) h0 (by omega)
  omega
theorem t9_nz {s : ByteArray} (h : s.size ≤ 1000) : w64 (((s).size : Int) + 1) ≠ 0 := by
  rw [w64_in (by omega)]
  omega
theorem t9_cut (n : Int) {s : ByteArray} (h : s.size ≤ 1000) : 0 ≤ hPick n (w64 (((s).size : Int) + 1)) ∧ hPick n (w64 (((s).size : Int) + 1)) ≤ ((s).size : Int) := by
  have e : w64 (((s).size : Int) + 1) = ((s).size : Int) + 1 := w64_in (by omega)
  rw [e]
  have := hPick_lt n (m := ((s).size : Int) + 1) (by omega) (by omega)
  omega
theorem t9_in (scale x : Int) : 0 ≤ hPick scale 8 ∧ hPick scale 8 ≤ ((rDigs x ++ (⟨#[48, 48, 48, 48, 48, 48]⟩ : ByteArray)).size : Int) := by
  have := hPick_lt scale (m := 8) (by omega) (by omega)
  have h1 := rDigs_pos x
  have e : (⟨#[48, 48, 48, 48, 48, 48]⟩ : ByteArray).size = 6 := rfl
  rw [ByteArray.size_append', e]
  omega
def t9Ws : List ByteArray := [⟨#[45]⟩, ⟨#[46]⟩, ⟨#[32]⟩, ⟨#[48]⟩, ⟨#[97]⟩]
def t9W (k : Int) : ByteArray := t9Ws.getD k.toNat ⟨#[]⟩
theorem t9_p5 (n : Int) : 0 ≤ hPick n 5 ∧ hPick n 5 < 5 := hPick_lt n (m := 5) (by omega) (by omega)
theorem t9W_sz (k : Int) : (t9W k).size ≤ 1 := by
  unfold t9W
  by_cases h : k.toNat < 5
  · have h8 : k.toNat = 0 ∨ k.toNat = 1 ∨ k.toNat = 2 ∨ k.toNat = 3 ∨ k.toNat = 4 := by omega
    rcases h8 with e | e | e | e | e <;> rw [e] <;> decide
  · rw [List.getD_eq_getElem?_getD, List.getElem?_eq_none (by simp [t9Ws]; omega)]
    decide
end Go.Proofs.YtalffjplbhelcaaGreatDoor
namespace Go.Proofs.YtalffjplbhelcaaGreatDoor
open Go.RowKit
theorem bd78_0_1_2_3_4 (x0_0 : ByteArray) (x1_0 : ByteArray) (x2_0 : ByteArray) (x3_0 : ByteArray) (x4_0 : ByteArray) : Runs Tryz.prog (Instr.build 78 #[(0, .string x0_0), (1, .string x1_0), (2, .string x2_0), (3, .string x3_0), (4, .string x4_0)]) (.agg #[.string x0_0, .string x1_0, .string x2_0, .string x3_0, .string x4_0]) := ⟨fun w => by go_simp⟩
theorem cell9 : IsCell Tryz.prog 9 := ⟨⟨_, Tryz.underlying9, rfl, by kernel_rfl⟩⟩
end Go.Proofs.YtalffjplbhelcaaGreatDoor
