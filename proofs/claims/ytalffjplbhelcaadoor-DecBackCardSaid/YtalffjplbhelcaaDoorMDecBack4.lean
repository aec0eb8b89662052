import Derived.Test.YtalffjplbhelcaaDoorMDecBack3
import Derived.Test.YtalffjplbhelcaaDoorMDecBack2
import Derived.Test.YtalffjplbhelcaaDoorMDecBack1
set_option linter.unusedVariables false
set_option linter.unusedSimpArgs false
namespace Go.Proofs.YtalffjplbhelcaaDoor
open Go.RowKit
attribute [local irreducible] AC AR DWalk
set_option maxRecDepth 100000 in
theorem c_rDigits (n : Nat) : n < 1000000000000000000 → Gets Tryd.prog 16 #[.int .i64 (n : Int)] (.string (byA (Lib.decDigits n))) := by
 induction n using Nat.strongRecOn with
 | _ n ih =>
  intro hn
  refine gets_fin Tryd.func16 rfl rfl rfl (aQ (aL (aA 2 (.string (⟨#[]⟩ : ByteArray)) rfl rfl (aN (aQ (aQ (aL (aM 3 (.int .i64 (n : Int)) rfl rfl (aB 4 (.bool (decide ((n : Int) < 0))) rfl rfl rfl (bi_lss rfl) (aN (ac_else' (b := decide ((n : Int) < 0)) (decide_eq_false (by omega)) rfl (ac_skip (aQ (aQ (aL (aM 9 (.int .i64 (n : Int)) rfl rfl (aB 10 (.bool (decide ((n : Int) < 10))) rfl rfl rfl (bi_lss rfl) (aN ?_))))))))))))))))))
  refine bool_split (decide ((n : Int) < 10)) (fun h1 => ?_) (fun h1 => ?_)
  ·refine ac_then' (b := decide ((n : Int) < 10)) h1 rfl (aQ (aL (aM 11 (.int .i64 (n : Int)) rfl rfl (aB 12 (.int .i64 (w64 (48 + (n : Int)))) rfl rfl rfl (bi_add rfl) (ao 13 rfl rfl (st_cv_int (k := .u8) (a := (w64 (48 + (n : Int)))) (c := (IntKind.u8.wrap (w64 (48 + (n : Int))))) Tryd.underlying5 Tryd.underlying3 rfl rfl rfl (ao 14 rfl rfl (st_bs (us := [(0, .int .u8 (IntKind.u8.wrap (w64 (48 + (n : Int)))))]) (cs := [.int .u8 (IntKind.u8.wrap (w64 (48 + (n : Int))))]) rfl rfl (bs29_1_0 _) fun g0 => (ao 15 rfl rfl (st_cvs (g := g0) (n := (IntKind.u8.wrap (w64 (48 + (n : Int))))) 0 rfl Tryd.underlying29 Tryd.underlying5 Tryd.underlying9 rfl rfl rfl rfl ?_))))))))))
   refine aA 2 (.string (byteS (IntKind.u8.wrap (w64 (48 + (n : Int)))))) rfl rfl (aN (ac_ret (fin_eq (v := .string (byteS (IntKind.u8.wrap (w64 (48 + (n : Int)))))) (congrArg Value.string (dg_one h1)) (fin_ret (res_tmp rfl rfl)))))
  ·refine ac_else' (b := decide ((n : Int) < 10)) h1 rfl (ac_skip (aQ ?_))
   refine ac_any follows 11 rfl (fun Φ stepR doneR permR => ?_)
   refine ((fun s5_29 => ?_) : (∀ (E : Env) (b5_7 : Nat), E 2 = .string ((byA (Lib.decDigits (n / 10))) ++ (byteS (IntKind.u8.wrap (w64 (48 + (Int.tmod (n : Int) 10)))))) → Φ 0 [true, true, true, true, true, true, true, true, true, true, true] E [⟨b5_7, [.int .u8 (IntKind.u8.wrap (w64 (48 + (Int.tmod (n : Int) 10))))], 5, false⟩]) → _) ?_
   ·have s5_28 : ∀ (E : Env) (b5_7 : Nat), E 2 = .string (⟨#[]⟩ : ByteArray) → E 25 = .string ((byA (Lib.decDigits (n / 10))) ++ (byteS (IntKind.u8.wrap (w64 (48 + (Int.tmod (n : Int) 10)))))) → Φ 1 [true, true, true, true, true, true, true, true, true, true, false] E [⟨b5_7, [.int .u8 (IntKind.u8.wrap (w64 (48 + (Int.tmod (n : Int) 10))))], 5, false⟩] := by
     intro E b5_7 q2 q25
     obtain ⟨E0, rfl⟩ : ∃ E0 : Env, E = ((E0.put (some 2) (.string (⟨#[]⟩ : ByteArray))).put (some 25) (.string ((byA (Lib.decDigits (n / 10))) ++ (byteS (IntKind.u8.wrap (w64 (48 + (Int.tmod (n : Int) 10)))))))) := ⟨E, by rw [put_self q2, put_self q25]⟩
     refine stepR 0 _ _ _ [10] (by kernel_rfl) rfl ⟨?_, trivial⟩
     ·refine opR_op (d := (some 2)) rfl rfl rfl (st_assign (v := .string ((byA (Lib.decDigits (n / 10))) ++ (byteS (IntKind.u8.wrap (w64 (48 + (Int.tmod (n : Int) 10))))))) rfl rfl ?_)
      exact s5_29 _ _ rfl
    have s5_27 : ∀ (E : Env) (b5_7 : Nat), E 2 = .string (⟨#[]⟩ : ByteArray) → E 18 = .string (byA (Lib.decDigits (n / 10))) → E 24 = .string (byteS (IntKind.u8.wrap (w64 (48 + (Int.tmod (n : Int) 10))))) → Φ 2 [true, true, true, true, true, true, true, true, true, false, false] E [⟨b5_7, [.int .u8 (IntKind.u8.wrap (w64 (48 + (Int.tmod (n : Int) 10))))], 5, false⟩] := by
     intro E b5_7 q2 q18 q24
     obtain ⟨E0, rfl⟩ : ∃ E0 : Env, E = (((E0.put (some 2) (.string (⟨#[]⟩ : ByteArray))).put (some 18) (.string (byA (Lib.decDigits (n / 10))))).put (some 24) (.string (byteS (IntKind.u8.wrap (w64 (48 + (Int.tmod (n : Int) 10))))))) := ⟨E, by rw [put_self q2, put_self q18, put_self q24]⟩
     refine stepR 1 _ _ _ [9] (by kernel_rfl) rfl ⟨?_, trivial⟩
     ·refine opR_op (d := (some 25)) rfl rfl rfl (st_bi (r := .string ((byA (Lib.decDigits (n / 10))) ++ (byteS (IntKind.u8.wrap (w64 (48 + (Int.tmod (n : Int) 10))))))) rfl rfl rfl (bi_sadd (sz_two (dg_size hn) (byteS_size _) (by decide))) ?_)
      exact s5_28 _ _ rfl rfl
    have s5_26 : ∀ (E : Env) (b5_7 : Nat), E 2 = .string (⟨#[]⟩ : ByteArray) → E 18 = .string (byA (Lib.decDigits (n / 10))) → E 23 = .slice (some ⟨b5_7, 0, none⟩) 1 1 → Φ 3 [true, true, true, true, true, true, true, true, false, false, false] E [⟨b5_7, [.int .u8 (IntKind.u8.wrap (w64 (48 + (Int.tmod (n : Int) 10))))], 5, false⟩] := by
     intro E b5_7 q2 q18 q23
     obtain ⟨E0, rfl⟩ : ∃ E0 : Env, E = (((E0.put (some 2) (.string (⟨#[]⟩ : ByteArray))).put (some 18) (.string (byA (Lib.decDigits (n / 10))))).put (some 23) (.slice (some ⟨b5_7, 0, none⟩) 1 1)) := ⟨E, by rw [put_self q2, put_self q18, put_self q23]⟩
     refine stepR 2 _ _ _ [8] (by kernel_rfl) rfl ⟨?_, trivial⟩
     ·refine opR_op (d := (some 24)) rfl rfl rfl (st_cvs (g := b5_7) (n := (IntKind.u8.wrap (w64 (48 + (Int.tmod (n : Int) 10))))) 0 rfl Tryd.underlying29 Tryd.underlying5 Tryd.underlying9 rfl rfl rfl rfl ?_)
      exact s5_27 _ _ rfl rfl rfl
    have s5_25 : ∀ (E : Env) (b5_7 : Nat), E 2 = .string (⟨#[]⟩ : ByteArray) → E 17 = .int .i64 (w64 (Int.tdiv (n : Int) 10)) → E 24 = .string (byteS (IntKind.u8.wrap (w64 (48 + (Int.tmod (n : Int) 10))))) → Φ 3 [true, true, false, true, true, true, true, true, true, false, false] E [⟨b5_7, [.int .u8 (IntKind.u8.wrap (w64 (48 + (Int.tmod (n : Int) 10))))], 5, false⟩] := by
     intro E b5_7 q2 q17 q24
     obtain ⟨E0, rfl⟩ : ∃ E0 : Env, E = (((E0.put (some 2) (.string (⟨#[]⟩ : ByteArray))).put (some 17) (.int .i64 (w64 (Int.tdiv (n : Int) 10)))).put (some 24) (.string (byteS (IntKind.u8.wrap (w64 (48 + (Int.tmod (n : Int) 10))))))) := ⟨E, by rw [put_self q2, put_self q17, put_self q24]⟩
     refine stepR 2 _ _ _ [2] (by kernel_rfl) rfl ⟨?_, trivial⟩
     ·refine opR_op (d := (some 18)) rfl rfl rfl (st_cf (dg_in (ih (n / 10) (by have := of_decide_eq_false h1; omega) (by omega)) (dg_arg hn)) Tryd.func16 rfl (by decide) rfl rfl rfl ?_)
      exact s5_27 _ _ rfl rfl rfl
    have s5_24 : ∀ (E : Env), E 2 = .string (⟨#[]⟩ : ByteArray) → E 18 = .string (byA (Lib.decDigits (n / 10))) → E 22 = .int .u8 (IntKind.u8.wrap (w64 (48 + (Int.tmod (n : Int) 10)))) → Φ 4 [true, true, true, true, true, true, true, false, false, false, false] E [] := by
     intro E q2 q18 q22
     obtain ⟨E0, rfl⟩ : ∃ E0 : Env, E = (((E0.put (some 2) (.string (⟨#[]⟩ : ByteArray))).put (some 18) (.string (byA (Lib.decDigits (n / 10))))).put (some 22) (.int .u8 (IntKind.u8.wrap (w64 (48 + (Int.tmod (n : Int) 10)))))) := ⟨E, by rw [put_self q2, put_self q18, put_self q22]⟩
     refine stepR 3 _ _ _ [7] (by kernel_rfl) rfl ⟨?_, trivial⟩
     ·refine opR_op (d := (some 23)) rfl rfl rfl (st_bs (us := [(0, .int .u8 (IntKind.u8.wrap (w64 (48 + (Int.tmod (n : Int) 10)))))]) (cs := [.int .u8 (IntKind.u8.wrap (w64 (48 + (Int.tmod (n : Int) 10))))]) rfl rfl (bs29_1_0 _) fun b5_7 => ?_)
      exact s5_26 _ _ rfl rfl rfl
    have s5_23 : ∀ (E : Env) (b5_7 : Nat), E 2 = .string (⟨#[]⟩ : ByteArray) → E 17 = .int .i64 (w64 (Int.tdiv (n : Int) 10)) → E 23 = .slice (some ⟨b5_7, 0, none⟩) 1 1 → Φ 4 [true, true, false, true, true, true, true, true, false, false, false] E [⟨b5_7, [.int .u8 (IntKind.u8.wrap (w64 (48 + (Int.tmod (n : Int) 10))))], 5, false⟩] := by
     intro E b5_7 q2 q17 q23
     obtain ⟨E0, rfl⟩ : ∃ E0 : Env, E = (((E0.put (some 2) (.string (⟨#[]⟩ : ByteArray))).put (some 17) (.int .i64 (w64 (Int.tdiv (n : Int) 10)))).put (some 23) (.slice (some ⟨b5_7, 0, none⟩) 1 1)) := ⟨E, by rw [put_self q2, put_self q17, put_self q23]⟩
     refine stepR 3 _ _ _ [2, 8] (by kernel_rfl) rfl ⟨?_, ?_, trivial⟩
     ·refine opR_op (d := (some 18)) rfl rfl rfl (st_cf (dg_in (ih (n / 10) (by have := of_decide_eq_false h1; omega) (by omega)) (dg_arg hn)) Tryd.func16 rfl (by decide) rfl rfl rfl ?_)
      exact s5_26 _ _ rfl rfl rfl
     ·refine opR_op (d := (some 24)) rfl rfl rfl (st_cvs (g := b5_7) (n := (IntKind.u8.wrap (w64 (48 + (Int.tmod (n : Int) 10))))) 0 rfl Tryd.underlying29 Tryd.underlying5 Tryd.underlying9 rfl rfl rfl rfl ?_)
      exact s5_25 _ _ rfl rfl rfl
    have s5_22 : ∀ (E : Env) (b5_7 : Nat), E 2 = .string (⟨#[]⟩ : ByteArray) → E 16 = .int .i64 (n : Int) → E 24 = .string (byteS (IntKind.u8.wrap (w64 (48 + (Int.tmod (n : Int) 10))))) → Φ 4 [true, false, false, true, true, true, true, true, true, false, false] E [⟨b5_7, [.int .u8 (IntKind.u8.wrap (w64 (48 + (Int.tmod (n : Int) 10))))], 5, false⟩] := by
     intro E b5_7 q2 q16 q24
     obtain ⟨E0, rfl⟩ : ∃ E0 : Env, E = (((E0.put (some 2) (.string (⟨#[]⟩ : ByteArray))).put (some 16) (.int .i64 (n : Int))).put (some 24) (.string (byteS (IntKind.u8.wrap (w64 (48 + (Int.tmod (n : Int) 10))))))) := ⟨E, by rw [put_self q2, put_self q16, put_self q24]⟩
     refine stepR 3 _ _ _ [1] (by kernel_rfl) rfl ⟨?_, trivial⟩
     ·refine opR_op (d := (some 17)) rfl rfl rfl (st_bi (r := .int .i64 (w64 (Int.tdiv (n : Int) 10))) rfl rfl rfl (bi_quo (by decide) rfl) ?_)
      exact s5_25 _ _ rfl rfl rfl
    have s5_21 : ∀ (E : Env), E 2 = .string (⟨#[]⟩ : ByteArray) → E 18 = .string (byA (Lib.decDigits (n / 10))) → E 21 = .int .i64 (w64 (48 + (Int.tmod (n : Int) 10))) → Φ 5 [true, true, true, true, true, true, false, false, false, false, false] E [] := by
     intro E q2 q18 q21
     obtain ⟨E0, rfl⟩ : ∃ E0 : Env, E = (((E0.put (some 2) (.string (⟨#[]⟩ : ByteArray))).put (some 18) (.string (byA (Lib.decDigits (n / 10))))).put (some 21) (.int .i64 (w64 (48 + (Int.tmod (n : Int) 10))))) := ⟨E, by rw [put_self q2, put_self q18, put_self q21]⟩
     refine stepR 4 _ _ _ [6] (by kernel_rfl) rfl ⟨?_, trivial⟩
     ·refine opR_op (d := (some 22)) rfl rfl rfl (st_cv_int (k := .u8) (a := (w64 (48 + (Int.tmod (n : Int) 10)))) (c := (IntKind.u8.wrap (w64 (48 + (Int.tmod (n : Int) 10))))) Tryd.underlying5 Tryd.underlying3 rfl rfl rfl ?_)
      exact s5_24 _ rfl rfl rfl
    have s5_20 : ∀ (E : Env), E 2 = .string (⟨#[]⟩ : ByteArray) → E 17 = .int .i64 (w64 (Int.tdiv (n : Int) 10)) → E 22 = .int .u8 (IntKind.u8.wrap (w64 (48 + (Int.tmod (n : Int) 10)))) → Φ 5 [true, true, false, true, true, true, true, false, false, false, false] E [] := by
     intro E q2 q17 q22
     obtain ⟨E0, rfl⟩ : ∃ E0 : Env, E = (((E0.put (some 2) (.string (⟨#[]⟩ : ByteArray))).put (some 17) (.int .i64 (w64 (Int.tdiv (n : Int) 10)))).put (some 22) (.int .u8 (IntKind.u8.wrap (w64 (48 + (Int.tmod (n : Int) 10)))))) := ⟨E, by rw [put_self q2, put_self q17, put_self q22]⟩
     refine stepR 4 _ _ _ [2, 7] (by kernel_rfl) rfl ⟨?_, ?_, trivial⟩
     ·refine opR_op (d := (some 18)) rfl rfl rfl (st_cf (dg_in (ih (n / 10) (by have := of_decide_eq_false h1; omega) (by omega)) (dg_arg hn)) Tryd.func16 rfl (by decide) rfl rfl rfl ?_)
      exact s5_24 _ rfl rfl rfl
     ·refine opR_op (d := (some 23)) rfl rfl rfl (st_bs (us := [(0, .int .u8 (IntKind.u8.wrap (w64 (48 + (Int.tmod (n : Int) 10)))))]) (cs := [.int .u8 (IntKind.u8.wrap (w64 (48 + (Int.tmod (n : Int) 10))))]) rfl rfl (bs29_1_0 _) fun b5_7 => ?_)
      exact s5_23 _ _ rfl rfl rfl
    have s5_19 : ∀ (E : Env) (b5_7 : Nat), E 2 = .string (⟨#[]⟩ : ByteArray) → E 16 = .int .i64 (n : Int) → E 23 = .slice (some ⟨b5_7, 0, none⟩) 1 1 → Φ 5 [true, false, false, true, true, true, true, true, false, false, false] E [⟨b5_7, [.int .u8 (IntKind.u8.wrap (w64 (48 + (Int.tmod (n : Int) 10))))], 5, false⟩] := by
     intro E b5_7 q2 q16 q23
     obtain ⟨E0, rfl⟩ : ∃ E0 : Env, E = (((E0.put (some 2) (.string (⟨#[]⟩ : ByteArray))).put (some 16) (.int .i64 (n : Int))).put (some 23) (.slice (some ⟨b5_7, 0, none⟩) 1 1)) := ⟨E, by rw [put_self q2, put_self q16, put_self q23]⟩
     refine stepR 4 _ _ _ [1, 8] (by kernel_rfl) rfl ⟨?_, ?_, trivial⟩
     ·refine opR_op (d := (some 17)) rfl rfl rfl (st_bi (r := .int .i64 (w64 (Int.tdiv (n : Int) 10))) rfl rfl rfl (bi_quo (by decide) rfl) ?_)
      exact s5_23 _ _ rfl rfl rfl
     ·refine opR_op (d := (some 24)) rfl rfl rfl (st_cvs (g := b5_7) (n := (IntKind.u8.wrap (w64 (48 + (Int.tmod (n : Int) 10))))) 0 rfl Tryd.underlying29 Tryd.underlying5 Tryd.underlying9 rfl rfl rfl rfl ?_)
      exact s5_22 _ _ rfl rfl rfl
    have s5_18 : ∀ (E : Env) (b5_7 : Nat), E 0 = .int .i64 (n : Int) → E 2 = .string (⟨#[]⟩ : ByteArray) → E 24 = .string (byteS (IntKind.u8.wrap (w64 (48 + (Int.tmod (n : Int) 10))))) → Φ 5 [false, false, false, true, true, true, true, true, true, false, false] E [⟨b5_7, [.int .u8 (IntKind.u8.wrap (w64 (48 + (Int.tmod (n : Int) 10))))], 5, false⟩] := by
     intro E b5_7 q0 q2 q24
     obtain ⟨E0, rfl⟩ : ∃ E0 : Env, E = (((E0.put (some 0) (.int .i64 (n : Int))).put (some 2) (.string (⟨#[]⟩ : ByteArray))).put (some 24) (.string (byteS (IntKind.u8.wrap (w64 (48 + (Int.tmod (n : Int) 10))))))) := ⟨E, by rw [put_self q0, put_self q2, put_self q24]⟩
     refine stepR 4 _ _ _ [0] (by kernel_rfl) rfl ⟨?_, trivial⟩
     ·refine opR_op (d := (some 16)) rfl rfl rfl (st_move (v := .int .i64 (n : Int)) rfl rfl ?_)
      exact s5_22 _ _ rfl rfl rfl
    have s5_17 : ∀ (E : Env), E 2 = .string (⟨#[]⟩ : ByteArray) → E 18 = .string (byA (Lib.decDigits (n / 10))) → E 20 = .int .i64 (Int.tmod (n : Int) 10) → Φ 6 [true, true, true, true, true, false, false, false, false, false, false] E [] := by
     intro E q2 q18 q20
     obtain ⟨E0, rfl⟩ : ∃ E0 : Env, E = (((E0.put (some 2) (.string (⟨#[]⟩ : ByteArray))).put (some 18) (.string (byA (Lib.decDigits (n / 10))))).put (some 20) (.int .i64 (Int.tmod (n : Int) 10))) := ⟨E, by rw [put_self q2, put_self q18, put_self q20]⟩
     refine stepR 5 _ _ _ [5] (by kernel_rfl) rfl ⟨?_, trivial⟩
     ·refine opR_op (d := (some 21)) rfl rfl rfl (st_bi (r := .int .i64 (w64 (48 + (Int.tmod (n : Int) 10)))) rfl rfl rfl (bi_add rfl) ?_)
      exact s5_21 _ rfl rfl rfl
    have s5_16 : ∀ (E : Env), E 2 = .string (⟨#[]⟩ : ByteArray) → E 17 = .int .i64 (w64 (Int.tdiv (n : Int) 10)) → E 21 = .int .i64 (w64 (48 + (Int.tmod (n : Int) 10))) → Φ 6 [true, true, false, true, true, true, false, false, false, false, false] E [] := by
     intro E q2 q17 q21
     obtain ⟨E0, rfl⟩ : ∃ E0 : Env, E = (((E0.put (some 2) (.string (⟨#[]⟩ : ByteArray))).put (some 17) (.int .i64 (w64 (Int.tdiv (n : Int) 10)))).put (some 21) (.int .i64 (w64 (48 + (Int.tmod (n : Int) 10))))) := ⟨E, by rw [put_self q2, put_self q17, put_self q21]⟩
     refine stepR 5 _ _ _ [2, 6] (by kernel_rfl) rfl ⟨?_, ?_, trivial⟩
     ·refine opR_op (d := (some 18)) rfl rfl rfl (st_cf (dg_in (ih (n / 10) (by have := of_decide_eq_false h1; omega) (by omega)) (dg_arg hn)) Tryd.func16 rfl (by decide) rfl rfl rfl ?_)
      exact s5_21 _ rfl rfl rfl
     ·refine opR_op (d := (some 22)) rfl rfl rfl (st_cv_int (k := .u8) (a := (w64 (48 + (Int.tmod (n : Int) 10)))) (c := (IntKind.u8.wrap (w64 (48 + (Int.tmod (n : Int) 10))))) Tryd.underlying5 Tryd.underlying3 rfl rfl rfl ?_)
      exact s5_20 _ rfl rfl rfl
    have s5_15 : ∀ (E : Env), E 2 = .string (⟨#[]⟩ : ByteArray) → E 16 = .int .i64 (n : Int) → E 22 = .int .u8 (IntKind.u8.wrap (w64 (48 + (Int.tmod (n : Int) 10)))) → Φ 6 [true, false, false, true, true, true, true, false, false, false, false] E [] := by
     intro E q2 q16 q22
     obtain ⟨E0, rfl⟩ : ∃ E0 : Env, E = (((E0.put (some 2) (.string (⟨#[]⟩ : ByteArray))).put (some 16) (.int .i64 (n : Int))).put (some 22) (.int .u8 (IntKind.u8.wrap (w64 (48 + (Int.tmod (n : Int) 10)))))) := ⟨E, by rw [put_self q2, put_self q16, put_self q22]⟩
     refine stepR 5 _ _ _ [1, 7] (by kernel_rfl) rfl ⟨?_, ?_, trivial⟩
     ·refine opR_op (d := (some 17)) rfl rfl rfl (st_bi (r := .int .i64 (w64 (Int.tdiv (n : Int) 10))) rfl rfl rfl (bi_quo (by decide) rfl) ?_)
      exact s5_20 _ rfl rfl rfl
     ·refine opR_op (d := (some 23)) rfl rfl rfl (st_bs (us := [(0, .int .u8 (IntKind.u8.wrap (w64 (48 + (Int.tmod (n : Int) 10)))))]) (cs := [.int .u8 (IntKind.u8.wrap (w64 (48 + (Int.tmod (n : Int) 10))))]) rfl rfl (bs29_1_0 _) fun b5_7 => ?_)
      exact s5_19 _ _ rfl rfl rfl
    have s5_14 : ∀ (E : Env) (b5_7 : Nat), E 0 = .int .i64 (n : Int) → E 2 = .string (⟨#[]⟩ : ByteArray) → E 23 = .slice (some ⟨b5_7, 0, none⟩) 1 1 → Φ 6 [false, false, false, true, true, true, true, true, false, false, false] E [⟨b5_7, [.int .u8 (IntKind.u8.wrap (w64 (48 + (Int.tmod (n : Int) 10))))], 5, false⟩] := by
     intro E b5_7 q0 q2 q23
     obtain ⟨E0, rfl⟩ : ∃ E0 : Env, E = (((E0.put (some 0) (.int .i64 (n : Int))).put (some 2) (.string (⟨#[]⟩ : ByteArray))).put (some 23) (.slice (some ⟨b5_7, 0, none⟩) 1 1)) := ⟨E, by rw [put_self q0, put_self q2, put_self q23]⟩
     refine stepR 5 _ _ _ [0, 8] (by kernel_rfl) rfl ⟨?_, ?_, trivial⟩
     ·refine opR_op (d := (some 16)) rfl rfl rfl (st_move (v := .int .i64 (n : Int)) rfl rfl ?_)
      exact s5_19 _ _ rfl rfl rfl
     ·refine opR_op (d := (some 24)) rfl rfl rfl (st_cvs (g := b5_7) (n := (IntKind.u8.wrap (w64 (48 + (Int.tmod (n : Int) 10))))) 0 rfl Tryd.underlying29 Tryd.underlying5 Tryd.underlying9 rfl rfl rfl rfl ?_)
      exact s5_18 _ _ rfl rfl rfl
    have s5_13 : ∀ (E : Env), E 2 = .string (⟨#[]⟩ : ByteArray) → E 18 = .string (byA (Lib.decDigits (n / 10))) → E 19 = .int .i64 (n : Int) → Φ 7 [true, true, true, true, false, false, false, false, false, false, false] E [] := by
     intro E q2 q18 q19
     obtain ⟨E0, rfl⟩ : ∃ E0 : Env, E = (((E0.put (some 2) (.string (⟨#[]⟩ : ByteArray))).put (some 18) (.string (byA (Lib.decDigits (n / 10))))).put (some 19) (.int .i64 (n : Int))) := ⟨E, by rw [put_self q2, put_self q18, put_self q19]⟩
     refine stepR 6 _ _ _ [4] (by kernel_rfl) rfl ⟨?_, trivial⟩
     ·refine opR_op (d := (some 20)) rfl rfl rfl (st_bi (r := .int .i64 (Int.tmod (n : Int) 10)) rfl rfl rfl (bi_rem (by decide) rfl) ?_)
      exact s5_17 _ rfl rfl rfl
    have s5_12 : ∀ (E : Env), E 2 = .string (⟨#[]⟩ : ByteArray) → E 17 = .int .i64 (w64 (Int.tdiv (n : Int) 10)) → E 20 = .int .i64 (Int.tmod (n : Int) 10) → Φ 7 [true, true, false, true, true, false, false, false, false, false, false] E [] := by
     intro E q2 q17 q20
     obtain ⟨E0, rfl⟩ : ∃ E0 : Env, E = (((E0.put (some 2) (.string (⟨#[]⟩ : ByteArray))).put (some 17) (.int .i64 (w64 (Int.tdiv (n : Int) 10)))).put (some 20) (.int .i64 (Int.tmod (n : Int) 10))) := ⟨E, by rw [put_self q2, put_self q17, put_self q20]⟩
     refine stepR 6 _ _ _ [2, 5] (by kernel_rfl) rfl ⟨?_, ?_, trivial⟩
     ·refine opR_op (d := (some 18)) rfl rfl rfl (st_cf (dg_in (ih (n / 10) (by have := of_decide_eq_false h1; omega) (by omega)) (dg_arg hn)) Tryd.func16 rfl (by decide) rfl rfl rfl ?_)
      exact s5_17 _ rfl rfl rfl
     ·refine opR_op (d := (some 21)) rfl rfl rfl (st_bi (r := .int .i64 (w64 (48 + (Int.tmod (n : Int) 10)))) rfl rfl rfl (bi_add rfl) ?_)
      exact s5_16 _ rfl rfl rfl
    have s5_11 : ∀ (E : Env), E 2 = .string (⟨#[]⟩ : ByteArray) → E 16 = .int .i64 (n : Int) → E 21 = .int .i64 (w64 (48 + (Int.tmod (n : Int) 10))) → Φ 7 [true, false, false, true, true, true, false, false, false, false, false] E [] := by
     intro E q2 q16 q21
     obtain ⟨E0, rfl⟩ : ∃ E0 : Env, E = (((E0.put (some 2) (.string (⟨#[]⟩ : ByteArray))).put (some 16) (.int .i64 (n : Int))).put (some 21) (.int .i64 (w64 (48 + (Int.tmod (n : Int) 10))))) := ⟨E, by rw [put_self q2, put_self q16, put_self q21]⟩
     refine stepR 6 _ _ _ [1, 6] (by kernel_rfl) rfl ⟨?_, ?_, trivial⟩
     ·refine opR_op (d := (some 17)) rfl rfl rfl (st_bi (r := .int .i64 (w64 (Int.tdiv (n : Int) 10))) rfl rfl rfl (bi_quo (by decide) rfl) ?_)
      exact s5_16 _ rfl rfl rfl
     ·refine opR_op (d := (some 22)) rfl rfl rfl (st_cv_int (k := .u8) (a := (w64 (48 + (Int.tmod (n : Int) 10)))) (c := (IntKind.u8.wrap (w64 (48 + (Int.tmod (n : Int) 10))))) Tryd.underlying5 Tryd.underlying3 rfl rfl rfl ?_)
      exact s5_15 _ rfl rfl rfl
    have s5_10 : ∀ (E : Env), E 0 = .int .i64 (n : Int) → E 2 = .string (⟨#[]⟩ : ByteArray) → E 22 = .int .u8 (IntKind.u8.wrap (w64 (48 + (Int.tmod (n : Int) 10)))) → Φ 7 [false, false, false, true, true, true, true, false, false, false, false] E [] := by
     intro E q0 q2 q22
     obtain ⟨E0, rfl⟩ : ∃ E0 : Env, E = (((E0.put (some 0) (.int .i64 (n : Int))).put (some 2) (.string (⟨#[]⟩ : ByteArray))).put (some 22) (.int .u8 (IntKind.u8.wrap (w64 (48 + (Int.tmod (n : Int) 10)))))) := ⟨E, by rw [put_self q0, put_self q2, put_self q22]⟩
     refine stepR 6 _ _ _ [0, 7] (by kernel_rfl) rfl ⟨?_, ?_, trivial⟩
     ·refine opR_op (d := (some 16)) rfl rfl rfl (st_move (v := .int .i64 (n : Int)) rfl rfl ?_)
      exact s5_15 _ rfl rfl rfl
     ·refine opR_op (d := (some 23)) rfl rfl rfl (st_bs (us := [(0, .int .u8 (IntKind.u8.wrap (w64 (48 + (Int.tmod (n : Int) 10)))))]) (cs := [.int .u8 (IntKind.u8.wrap (w64 (48 + (Int.tmod (n : Int) 10))))]) rfl rfl (bs29_1_0 _) fun b5_7 => ?_)
      exact s5_14 _ _ rfl rfl rfl
    have s5_9 : ∀ (E : Env), E 0 = .int .i64 (n : Int) → E 2 = .string (⟨#[]⟩ : ByteArray) → E 18 = .string (byA (Lib.decDigits (n / 10))) → Φ 8 [true, true, true, false, false, false, false, false, false, false, false] E [] := by
     intro E q0 q2 q18
     obtain ⟨E0, rfl⟩ : ∃ E0 : Env, E = (((E0.put (some 0) (.int .i64 (n : Int))).put (some 2) (.string (⟨#[]⟩ : ByteArray))).put (some 18) (.string (byA (Lib.decDigits (n / 10))))) := ⟨E, by rw [put_self q0, put_self q2, put_self q18]⟩
     refine stepR 7 _ _ _ [3] (by kernel_rfl) rfl ⟨?_, trivial⟩
     ·refine opR_op (d := (some 19)) rfl rfl rfl (st_move (v := .int .i64 (n : Int)) rfl rfl ?_)
      exact s5_13 _ rfl rfl rfl
    have s5_8 : ∀ (E : Env), E 2 = .string (⟨#[]⟩ : ByteArray) → E 17 = .int .i64 (w64 (Int.tdiv (n : Int) 10)) → E 19 = .int .i64 (n : Int) → Φ 8 [true, true, false, true, false, false, false, false, false, false, false] E [] := by
     intro E q2 q17 q19
     obtain ⟨E0, rfl⟩ : ∃ E0 : Env, E = (((E0.put (some 2) (.string (⟨#[]⟩ : ByteArray))).put (some 17) (.int .i64 (w64 (Int.tdiv (n : Int) 10)))).put (some 19) (.int .i64 (n : Int))) := ⟨E, by rw [put_self q2, put_self q17, put_self q19]⟩
     refine stepR 7 _ _ _ [2, 4] (by kernel_rfl) rfl ⟨?_, ?_, trivial⟩
     ·refine opR_op (d := (some 18)) rfl rfl rfl (st_cf (dg_in (ih (n / 10) (by have := of_decide_eq_false h1; omega) (by omega)) (dg_arg hn)) Tryd.func16 rfl (by decide) rfl rfl rfl ?_)
      exact s5_13 _ rfl rfl rfl
     ·refine opR_op (d := (some 20)) rfl rfl rfl (st_bi (r := .int .i64 (Int.tmod (n : Int) 10)) rfl rfl rfl (bi_rem (by decide) rfl) ?_)
      exact s5_12 _ rfl rfl rfl
    have s5_7 : ∀ (E : Env), E 2 = .string (⟨#[]⟩ : ByteArray) → E 16 = .int .i64 (n : Int) → E 20 = .int .i64 (Int.tmod (n : Int) 10) → Φ 8 [true, false, false, true, true, false, false, false, false, false, false] E [] := by
     intro E q2 q16 q20
     obtain ⟨E0, rfl⟩ : ∃ E0 : Env, E = (((E0.put (some 2) (.string (⟨#[]⟩ : ByteArray))).put (some 16) (.int .i64 (n : Int))).put (some 20) (.int .i64 (Int.tmod (n : Int) 10))) := ⟨E, by rw [put_self q2, put_self q16, put_self q20]⟩
     refine stepR 7 _ _ _ [1, 5] (by kernel_rfl) rfl ⟨?_, ?_, trivial⟩
     ·refine opR_op (d := (some 17)) rfl rfl rfl (st_bi (r := .int .i64 (w64 (Int.tdiv (n : Int) 10))) rfl rfl rfl (bi_quo (by decide) rfl) ?_)
      exact s5_12 _ rfl rfl rfl
     ·refine opR_op (d := (some 21)) rfl rfl rfl (st_bi (r := .int .i64 (w64 (48 + (Int.tmod (n : Int) 10)))) rfl rfl rfl (bi_add rfl) ?_)
      exact s5_11 _ rfl rfl rfl
    have s5_6 : ∀ (E : Env), E 0 = .int .i64 (n : Int) → E 2 = .string (⟨#[]⟩ : ByteArray) → E 21 = .int .i64 (w64 (48 + (Int.tmod (n : Int) 10))) → Φ 8 [false, false, false, true, true, true, false, false, false, false, false] E [] := by
     intro E q0 q2 q21
     obtain ⟨E0, rfl⟩ : ∃ E0 : Env, E = (((E0.put (some 0) (.int .i64 (n : Int))).put (some 2) (.string (⟨#[]⟩ : ByteArray))).put (some 21) (.int .i64 (w64 (48 + (Int.tmod (n : Int) 10))))) := ⟨E, by rw [put_self q0, put_self q2, put_self q21]⟩
     refine stepR 7 _ _ _ [0, 6] (by kernel_rfl) rfl ⟨?_, ?_, trivial⟩
     ·refine opR_op (d := (some 16)) rfl rfl rfl (st_move (v := .int .i64 (n : Int)) rfl rfl ?_)
      exact s5_11 _ rfl rfl rfl
     ·refine opR_op (d := (some 22)) rfl rfl rfl (st_cv_int (k := .u8) (a := (w64 (48 + (Int.tmod (n : Int) 10)))) (c := (IntKind.u8.wrap (w64 (48 + (Int.tmod (n : Int) 10))))) Tryd.underlying5 Tryd.underlying3 rfl rfl rfl ?_)
      exact s5_10 _ rfl rfl rfl
    have s5_5 : ∀ (E : Env), E 0 = .int .i64 (n : Int) → E 2 = .string (⟨#[]⟩ : ByteArray) → E 17 = .int .i64 (w64 (Int.tdiv (n : Int) 10)) → Φ 9 [true, true, false, false, false, false, false, false, false, false, false] E [] := by
     intro E q0 q2 q17
     obtain ⟨E0, rfl⟩ : ∃ E0 : Env, E = (((E0.put (some 0) (.int .i64 (n : Int))).put (some 2) (.string (⟨#[]⟩ : ByteArray))).put (some 17) (.int .i64 (w64 (Int.tdiv (n : Int) 10)))) := ⟨E, by rw [put_self q0, put_self q2, put_self q17]⟩
     refine stepR 8 _ _ _ [2, 3] (by kernel_rfl) rfl ⟨?_, ?_, trivial⟩
     ·refine opR_op (d := (some 18)) rfl rfl rfl (st_cf (dg_in (ih (n / 10) (by have := of_decide_eq_false h1; omega) (by omega)) (dg_arg hn)) Tryd.func16 rfl (by decide) rfl rfl rfl ?_)
      exact s5_9 _ rfl rfl rfl
     ·refine opR_op (d := (some 19)) rfl rfl rfl (st_move (v := .int .i64 (n : Int)) rfl rfl ?_)
      exact s5_8 _ rfl rfl rfl
    have s5_4 : ∀ (E : Env), E 2 = .string (⟨#[]⟩ : ByteArray) → E 16 = .int .i64 (n : Int) → E 19 = .int .i64 (n : Int) → Φ 9 [true, false, false, true, false, false, false, false, false, false, false] E [] := by
     intro E q2 q16 q19
     obtain ⟨E0, rfl⟩ : ∃ E0 : Env, E = (((E0.put (some 2) (.string (⟨#[]⟩ : ByteArray))).put (some 16) (.int .i64 (n : Int))).put (some 19) (.int .i64 (n : Int))) := ⟨E, by rw [put_self q2, put_self q16, put_self q19]⟩
     refine stepR 8 _ _ _ [1, 4] (by kernel_rfl) rfl ⟨?_, ?_, trivial⟩
     ·refine opR_op (d := (some 17)) rfl rfl rfl (st_bi (r := .int .i64 (w64 (Int.tdiv (n : Int) 10))) rfl rfl rfl (bi_quo (by decide) rfl) ?_)
      exact s5_8 _ rfl rfl rfl
     ·refine opR_op (d := (some 20)) rfl rfl rfl (st_bi (r := .int .i64 (Int.tmod (n : Int) 10)) rfl rfl rfl (bi_rem (by decide) rfl) ?_)
      exact s5_7 _ rfl rfl rfl
    have s5_3 : ∀ (E : Env), E 0 = .int .i64 (n : Int) → E 2 = .string (⟨#[]⟩ : ByteArray) → E 20 = .int .i64 (Int.tmod (n : Int) 10) → Φ 9 [false, false, false, true, true, false, false, false, false, false, false] E [] := by
     intro E q0 q2 q20
     obtain ⟨E0, rfl⟩ : ∃ E0 : Env, E = (((E0.put (some 0) (.int .i64 (n : Int))).put (some 2) (.string (⟨#[]⟩ : ByteArray))).put (some 20) (.int .i64 (Int.tmod (n : Int) 10))) := ⟨E, by rw [put_self q0, put_self q2, put_self q20]⟩
     refine stepR 8 _ _ _ [0, 5] (by kernel_rfl) rfl ⟨?_, ?_, trivial⟩
     ·refine opR_op (d := (some 16)) rfl rfl rfl (st_move (v := .int .i64 (n : Int)) rfl rfl ?_)
      exact s5_7 _ rfl rfl rfl
     ·refine opR_op (d := (some 21)) rfl rfl rfl (st_bi (r := .int .i64 (w64 (48 + (Int.tmod (n : Int) 10)))) rfl rfl rfl (bi_add rfl) ?_)
      exact s5_6 _ rfl rfl rfl
    have s5_2 : ∀ (E : Env), E 0 = .int .i64 (n : Int) → E 2 = .string (⟨#[]⟩ : ByteArray) → E 16 = .int .i64 (n : Int) → Φ 10 [true, false, false, false, false, false, false, false, false, false, false] E [] := by
     intro E q0 q2 q16
     obtain ⟨E0, rfl⟩ : ∃ E0 : Env, E = (((E0.put (some 0) (.int .i64 (n : Int))).put (some 2) (.string (⟨#[]⟩ : ByteArray))).put (some 16) (.int .i64 (n : Int))) := ⟨E, by rw [put_self q0, put_self q2, put_self q16]⟩
     refine stepR 9 _ _ _ [1, 3] (by kernel_rfl) rfl ⟨?_, ?_, trivial⟩
     ·refine opR_op (d := (some 17)) rfl rfl rfl (st_bi (r := .int .i64 (w64 (Int.tdiv (n : Int) 10))) rfl rfl rfl (bi_quo (by decide) rfl) ?_)
      exact s5_5 _ rfl rfl rfl
     ·refine opR_op (d := (some 19)) rfl rfl rfl (st_move (v := .int .i64 (n : Int)) rfl rfl ?_)
      exact s5_4 _ rfl rfl rfl
    have s5_1 : ∀ (E : Env), E 0 = .int .i64 (n : Int) → E 2 = .string (⟨#[]⟩ : ByteArray) → E 19 = .int .i64 (n : Int) → Φ 10 [false, false, false, true, false, false, false, false, false, false, false] E [] := by
     intro E q0 q2 q19
     obtain ⟨E0, rfl⟩ : ∃ E0 : Env, E = (((E0.put (some 0) (.int .i64 (n : Int))).put (some 2) (.string (⟨#[]⟩ : ByteArray))).put (some 19) (.int .i64 (n : Int))) := ⟨E, by rw [put_self q0, put_self q2, put_self q19]⟩
     refine stepR 9 _ _ _ [0, 4] (by kernel_rfl) rfl ⟨?_, ?_, trivial⟩
     ·refine opR_op (d := (some 16)) rfl rfl rfl (st_move (v := .int .i64 (n : Int)) rfl rfl ?_)
      exact s5_4 _ rfl rfl rfl
     ·refine opR_op (d := (some 20)) rfl rfl rfl (st_bi (r := .int .i64 (Int.tmod (n : Int) 10)) rfl rfl rfl (bi_rem (by decide) rfl) ?_)
      exact s5_3 _ rfl rfl rfl
    refine stepR 10 _ _ _ [0, 3] (by kernel_rfl) rfl ⟨?_, ?_, trivial⟩
    ·refine opR_op (d := (some 16)) rfl rfl rfl (st_move (v := .int .i64 (n : Int)) rfl rfl ?_)
     exact s5_2 _ rfl rfl rfl
    ·refine opR_op (d := (some 19)) rfl rfl rfl (st_move (v := .int .i64 (n : Int)) rfl rfl ?_)
     exact s5_1 _ rfl rfl rfl
   intro E b5_7 q2
   obtain ⟨E0, rfl⟩ : ∃ E0 : Env, E = (E0.put (some 2) (.string ((byA (Lib.decDigits (n / 10))) ++ (byteS (IntKind.u8.wrap (w64 (48 + (Int.tmod (n : Int) 10)))))))) := ⟨E, by rw [put_self q2]⟩
   refine doneR _ _ _ (by kernel_rfl) (ac_ret (fin_eq (v := .string ((byA (Lib.decDigits (n / 10))) ++ (byteS (IntKind.u8.wrap (w64 (48 + (Int.tmod (n : Int) 10))))))) (congrArg Value.string (dg_more h1)) (fin_ret (res_tmp rfl rfl))))
end Go.Proofs.YtalffjplbhelcaaDoor
namespace Go.Proofs.YtalffjplbhelcaaDoor
def rDigs (x : Int) : ByteArray := byA (Lib.decDigits x.toNat)
theorem c_rDigI (x : Int) (h : 0 ≤ x ∧ x < 1000000000000000000) : Gets Tryd.prog 16 #[.int .i64 x] (.string (rDigs x)) := by
  obtain ⟨n, rfl⟩ : ∃ n : Nat, x = (n : Int) := ⟨x.toNat, by omega⟩
  exact c_rDigits n (by omega)
theorem rDigs_pos (x : Int) : 0 ≤ (1 : Int) ∧ (1 : Int) ≤ ((rDigs x).size : Int) := by
  have h := List.length_pos_iff.2 (decDig_all x.toNat).2.2
  have e : (rDigs x).size = (Lib.decDigits x.toNat).length := rfl
  omega
end Go.Proofs.YtalffjplbhelcaaDoor
namespace Go.Proofs.YtalffjplbhelcaaDoor
theorem byA_in {l : List UInt8} {pos : Nat} {b : UInt8} (h : l[pos]? = some b) : pos < (byA l).size := (List.getElem?_eq_some_iff.1 h).1
theorem byA_ge {l : List UInt8} {pos : Nat} (h : l.length ≤ pos) : ¬ pos < (byA l).size := Nat.not_lt.2 h
theorem byA_at {l : List UInt8} {pos : Nat} {b : UInt8} (h : l[pos]? = some b) {hp : pos < (byA l).size} : ((byA l)[pos]'hp).toNat = b.toNat := by
  obtain ⟨h1, h2⟩ := List.getElem?_eq_some_iff.1 h
  congr 1
theorem db_num {a : Nat} {b : UInt8} (ha : a < 1000000000) (hd : IsDig b) : w64 ((w64 (10 * (a : Int))) + (w64 (IntKind.i32.wrap ((b.toNat : Int) - 48)))) = ((a * 10 + (b.toNat - 48) : Nat) : Int) := by
  have := hd.1
  have := hd.2
  have e : IntKind.i32.wrap ((b.toNat : Int) - 48) = (b.toNat : Int) - 48 := by rw [IntKind.wrap_i32]; omega
  rw [e, w64_in (n := 10 * (a : Int)) (by omega), w64_in (n := (b.toNat : Int) - 48) (by omega), w64_in (by omega)]
  omega
theorem db_k {p : Program} {f : FuncId} {args : Array Value} {x y : Int} (hk : x = y) (h : Gets p f args (.int .i64 x)) : Gets p f args (.int .i64 y) := hk ▸ h
theorem db_pick (c : Int) : 0 ≤ hPick c 10000000 ∧ hPick c 10000000 < 10000000 := hPick_lt c (m := 10000000) (by omega) (by omega)
theorem db_nn (c : Int) : w64 ((hPick c 10000000) + 10000000) = (((hPick c 10000000).toNat + 10000000 : Nat) : Int) := by
  have := db_pick c
  rw [w64_in (by omega)]
  omega
theorem db_n (c : Int) : 0 ≤ w64 ((hPick c 10000000) + 10000000) ∧ w64 ((hPick c 10000000) + 10000000) < 1000000000000000000 := by
  have := db_pick c
  rw [db_nn]
  omega
def db7 (c : Int) : List UInt8 := (Lib.decDigits ((hPick c 10000000).toNat + 10000000)).drop 1
theorem dig_len : ∀ (k n : Nat), 10 ^ k ≤ n → n < 10 ^ (k + 1) → (Lib.decDigits n).length = k + 1
  | 0, n, h1, h2 => by rw [Lib.decDigits, dif_pos (by omega)]; rfl
  | k + 1, n, h1, h2 => by
    have e1 : 10 ^ (k + 1) = 10 ^ k * 10 := Nat.pow_succ ..
    have e2 : 10 ^ (k + 1 + 1) = 10 ^ (k + 1) * 10 := Nat.pow_succ ..
    have hp : 0 < 10 ^ k := Nat.pow_pos (by decide)
    rw [Lib.decDigits, dif_neg (by omega), List.length_append, dig_len k (n / 10) (by omega) (by omega)]
    rfl
theorem db7_len (c : Int) : (db7 c).length = 7 := by
  have := db_pick c
  have h := dig_len 7 ((hPick c 10000000).toNat + 10000000) (Nat.le_trans (show 10 ^ 7 ≤ 10000000 by decide) (by omega)) (Nat.lt_of_lt_of_le (show (hPick c 10000000).toNat + 10000000 < 100000000 by omega) (by decide))
  unfold db7
  rw [List.length_drop, h]
theorem db7_dig (c : Int) : ∀ b ∈ db7 c, IsDig b := fun b hb => (decDig_all _).1 b (List.mem_of_mem_drop hb)
def dbW (c : Int) : List UInt8 := (db7 c).take 3
def dbF (c : Int) (K : Nat) : List UInt8 := ((db7 c).drop 3).take K
def dbL (c : Int) (K : Nat) : List UInt8 := dbW c ++ dbF c K
theorem dbW_len (c : Int) : (dbW c).length = 3 := by unfold dbW; rw [List.length_take, db7_len]; rfl
theorem dbF_len (c : Int) {K : Nat} (h : K ≤ 4) : (dbF c K).length = K := by unfold dbF; rw [List.length_take, List.length_drop, db7_len]; omega
theorem dbW_dig (c : Int) : ∀ b ∈ dbW c, IsDig b := fun b hb => db7_dig c b (List.mem_of_mem_take hb)
theorem dbF_dig (c : Int) (K : Nat) : ∀ b ∈ dbF c K, IsDig b := fun b hb => db7_dig c b (List.mem_of_mem_drop (List.mem_of_mem_take hb))
theorem dbL_dig (c : Int) (K : Nat) : ∀ b ∈ dbL c K, IsDig b := fun b hb => (List.mem_append.1 hb).elim (dbW_dig c b) (dbF_dig c K b)
theorem dbL_len (c : Int) {K : Nat} (h : K ≤ 4) : (dbL c K).length ≤ 8 := by unfold dbL; rw [List.length_append, dbW_len, dbF_len c h]; omega
theorem db_d8 (c : Int) : ∃ b, Lib.decDigits ((hPick c 10000000).toNat + 10000000) = b :: db7 c := by
  unfold db7
  cases h : Lib.decDigits ((hPick c 10000000).toNat + 10000000) with
  | nil => exact absurd h (decDig_all _).2.2
  | cons b r => exact ⟨b, rfl⟩
theorem db_s7 (c : Int) : subS (rDigs (w64 ((hPick c 10000000) + 10000000))) 1 (((rDigs (w64 ((hPick c 10000000) + 10000000))).size : Nat) : Int) = byA (db7 c) := by
  rw [db_nn]
  show subS (byA (Lib.decDigits ((hPick c 10000000).toNat + 10000000))) 1 _ = _
  obtain ⟨b, e⟩ := db_d8 c
  show subS (byA (Lib.decDigits ((hPick c 10000000).toNat + 10000000))) 1 (((byA (Lib.decDigits ((hPick c 10000000).toNat + 10000000))).size : Nat) : Int) = _
  rw [e]
  exact sub_tl b (db7 c)
theorem sub_take (l : List UInt8) {k : Nat} (h : k ≤ l.length) : subS (byA l) 0 (k : Int) = byA (l.take k) := by
  have e := sub_rest (s := byA l) (i := 0) (w := l.take k) (post := l.drop k) (List.take_append_drop k l).symm
  have tl : (l.take k).length = k := by rw [List.length_take]; omega
  rw [tl, Nat.zero_add] at e
  exact e
theorem sub_drop (l : List UInt8) {k : Nat} (h : k ≤ l.length) : subS (byA l) (k : Int) (((byA l).size : Nat) : Int) = byA (l.drop k) := by
  have e := sub_rest (s := byA l) (i := k) (w := l.drop k) (post := []) (by rw [List.append_nil]; rfl)
  have dl : (l.drop k).length = l.length - k := List.length_drop
  rw [dl, show k + (l.length - k) = l.length by omega] at e
  exact e
theorem db_w (c : Int) : subS (subS (rDigs (w64 ((hPick c 10000000) + 10000000))) 1 (((rDigs (w64 ((hPick c 10000000) + 10000000))).size : Nat) : Int)) 0 3 = byA (dbW c) := by
  rw [db_s7]
  exact sub_take (db7 c) (k := 3) (by rw [db7_len]; decide)
theorem db_r (c : Int) : subS (subS (rDigs (w64 ((hPick c 10000000) + 10000000))) 1 (((rDigs (w64 ((hPick c 10000000) + 10000000))).size : Nat) : Int)) 3 (((subS (rDigs (w64 ((hPick c 10000000) + 10000000))) 1 (((rDigs (w64 ((hPick c 10000000) + 10000000))).size : Nat) : Int)).size : Nat) : Int) = byA ((db7 c).drop 3) := by
  rw [db_s7]
  exact sub_drop (db7 c) (k := 3) (by rw [db7_len]; decide)
theorem db_f (c : Int) {K : Nat} (h : K ≤ 4) : subS (subS (subS (rDigs (w64 ((hPick c 10000000) + 10000000))) 1 (((rDigs (w64 ((hPick c 10000000) + 10000000))).size : Nat) : Int)) 3 (((subS (rDigs (w64 ((hPick c 10000000) + 10000000))) 1 (((rDigs (w64 ((hPick c 10000000) + 10000000))).size : Nat) : Int)).size : Nat) : Int)) 0 (K : Int) = byA (dbF c K) := by
  rw [db_r]
  exact sub_take _ (by rw [List.length_drop, db7_len]; omega)
theorem db_app (c : Int) (K : Nat) (h : K ≤ 4) : subS (subS (rDigs (w64 ((hPick c 10000000) + 10000000))) 1 (((rDigs (w64 ((hPick c 10000000) + 10000000))).size : Nat) : Int)) 0 3 ++ subS (subS (subS (rDigs (w64 ((hPick c 10000000) + 10000000))) 1 (((rDigs (w64 ((hPick c 10000000) + 10000000))).size : Nat) : Int)) 3 (((subS (rDigs (w64 ((hPick c 10000000) + 10000000))) 1 (((rDigs (w64 ((hPick c 10000000) + 10000000))).size : Nat) : Int)).size : Nat) : Int)) 0 (K : Int) = byA (dbL c K) := by
  rw [db_w, db_f c h, byA_app]
  rfl
theorem db_in3 (c : Int) : 0 ≤ (3 : Int) ∧ (3 : Int) ≤ ((subS (rDigs (w64 ((hPick c 10000000) + 10000000))) 1 (((rDigs (w64 ((hPick c 10000000) + 10000000))).size : Nat) : Int)).size : Int) := by
  rw [db_s7]
  have : (byA (db7 c)).size = 7 := db7_len c
  omega
theorem db_inK (c : Int) {K : Nat} (h : K ≤ 4) : 0 ≤ (K : Int) ∧ (K : Int) ≤ ((subS (subS (rDigs (w64 ((hPick c 10000000) + 10000000))) 1 (((rDigs (w64 ((hPick c 10000000) + 10000000))).size : Nat) : Int)) 3 (((subS (rDigs (w64 ((hPick c 10000000) + 10000000))) 1 (((rDigs (w64 ((hPick c 10000000) + 10000000))).size : Nat) : Int)).size : Nat) : Int)).size : Int) := by
  rw [db_r]
  have : (byA ((db7 c).drop 3)).size = 4 := by show ((db7 c).drop 3).length = 4; rw [List.length_drop, db7_len]
  omega
theorem db_z (z : Int) : 0 ≤ hPick z 3 ∧ hPick z 3 ≤ (((⟨#[48, 48]⟩ : ByteArray).size : Nat) : Int) := by
  have := hPick_lt z (m := 3) (by omega) (by omega)
  have e : (⟨#[48, 48]⟩ : ByteArray).size = 2 := rfl
  rw [e]
  omega
def s7 (c : Int) : ByteArray := subS (rDigs (w64 ((hPick c 10000000) + 10000000))) 1 (((rDigs (w64 ((hPick c 10000000) + 10000000)))).size : Int)
def sW (c : Int) : ByteArray := subS (s7 c) 0 3
def sF (c K : Int) : ByteArray := subS (subS (s7 c) 3 (((s7 c)).size : Int)) 0 K
theorem s7_def (c : Int) : subS (rDigs (w64 ((hPick c 10000000) + 10000000))) 1 (((rDigs (w64 ((hPick c 10000000) + 10000000)))).size : Int) = s7 c := rfl
theorem sW_def (c : Int) : subS (s7 c) 0 3 = sW c := rfl
theorem sF_def (c K : Int) : subS (subS (s7 c) 3 (((s7 c)).size : Int)) 0 K = sF c K := rfl
theorem s7_eq (c : Int) : s7 c = byA (db7 c) := db_s7 c
theorem sW_eq (c : Int) : sW c = byA (dbW c) := db_w c
theorem sF_eq (c : Int) {K : Nat} (h : K ≤ 4) : sF c (K : Int) = byA (dbF c K) := db_f c h
theorem s7_sz (c : Int) : (s7 c).size ≤ 7 := by rw [s7_eq]; exact Nat.le_of_eq (db7_len c)
theorem sW_sz (c : Int) : (sW c).size ≤ 3 := by rw [sW_eq]; exact Nat.le_of_eq (dbW_len c)
theorem sF_sz (c K : Int) : (sF c K).size ≤ 7 := subS_le _ _ _ (subS_le _ _ _ (s7_sz c))
theorem s7_in3 (c : Int) : 0 ≤ (3 : Int) ∧ (3 : Int) ≤ ((s7 c).size : Int) := db_in3 c
theorem s4_in0 (c : Int) : 0 ≤ (0 : Int) ∧ (0 : Int) ≤ ((subS (s7 c) 3 (((s7 c)).size : Int)).size : Int) := db_inK c (K := 0) (by decide)
theorem sX0 (c : Int) : sW c ++ sF c 0 = byA (dbL c 0) := db_app c 0 (by decide)
theorem s4_in1 (c : Int) : 0 ≤ (1 : Int) ∧ (1 : Int) ≤ ((subS (s7 c) 3 (((s7 c)).size : Int)).size : Int) := db_inK c (K := 1) (by decide)
theorem sX1 (c : Int) : sW c ++ sF c 1 = byA (dbL c 1) := db_app c 1 (by decide)
theorem s4_in2 (c : Int) : 0 ≤ (2 : Int) ∧ (2 : Int) ≤ ((subS (s7 c) 3 (((s7 c)).size : Int)).size : Int) := db_inK c (K := 2) (by decide)
theorem sX2 (c : Int) : sW c ++ sF c 2 = byA (dbL c 2) := db_app c 2 (by decide)
theorem s4_in3 (c : Int) : 0 ≤ (3 : Int) ∧ (3 : Int) ≤ ((subS (s7 c) 3 (((s7 c)).size : Int)).size : Int) := db_inK c (K := 3) (by decide)
theorem sX3 (c : Int) : sW c ++ sF c 3 = byA (dbL c 3) := db_app c 3 (by decide)
theorem s4_in4 (c : Int) : 0 ≤ (4 : Int) ∧ (4 : Int) ≤ ((subS (s7 c) 3 (((s7 c)).size : Int)).size : Int) := db_inK c (K := 4) (by decide)
theorem sX4 (c : Int) : sW c ++ sF c 4 = byA (dbL c 4) := db_app c 4 (by decide)
end Go.Proofs.YtalffjplbhelcaaDoor
namespace Go.Proofs.YtalffjplbhelcaaDoor
open Go.RowKit
end Go.Proofs.YtalffjplbhelcaaDoor
namespace Go.Proofs.YtalffjplbhelcaaDoor
open Go.RowKit
attribute [local irreducible] AC AR DWalk
set_option maxRecDepth 100000 in
theorem db_go (v1 v2 v3 v13 v14 : Value) (l : List UInt8) (kI pos a : Nat) (b : UInt8) (hb : l[pos]? = some b) (hd : IsDig b) (ha : a < 1000000000) {H : List Box} {Q : Exit → Nat → Env → List Box → Prop} {E : Env} {c : Code} {j : Nat} (hc : Tryd.f7.body.bind (loopN 1) = some c) (q1 : E 1 = v1) (q2 : E 2 = v2) (q3 : E 3 = v3) (q13 : E 13 = v13) (q14 : E 14 = v14) (q16 : E 16 = .int .i64 (a : Int)) (q58 : E 58 = .pointer (some ⟨kI, 0, none⟩)) (K : ∀ E' : Env, E' 1 = v1 → E' 2 = v2 → E' 3 = v3 → E' 13 = v13 → E' 14 = v14 → E' 16 = .int .i64 ((a * 10 + (b.toNat - 48) : Nat) : Int) → E' 58 = .pointer (some ⟨kI, 0, none⟩) → AIRounds Tryd.prog 157 c kI (byA l) Q j (pos + 1) E' H) : AIRounds Tryd.prog 157 c kI (byA l) Q (j + 1) pos E H := by
 rw [show Tryd.f7.body.bind (loopN 1) = some _ from rfl] at hc
 cases hc
 obtain ⟨E0, rfl⟩ : ∃ E0 : Env, E = (((((((E0.put (some 1) (v1)).put (some 2) (v2)).put (some 3) (v3)).put (some 13) (v13)).put (some 14) (v14)).put (some 16) (.int .i64 (a : Int))).put (some 58) (.pointer (some ⟨kI, 0, none⟩))) := ⟨E, by rw [put_self q1, put_self q2, put_self q3, put_self q13, put_self q14, put_self q16, put_self q58]⟩
 refine air_round ?_
 refine aic_seq ?_
 refine aic_next rfl rfl rfl b.toNat (fun hp => ⟨byA_at hb, by have := hd.2; omega, ?_⟩) (fun hp => absurd (byA_in hb) hp)
 refine aX 60 (.bool true) rfl rfl rfl (aN ?_)
 refine ai_of' (aQ (ac_then rfl (ac_skip (ac_block (aQ (aL (aX 61 (.int .i32 (b.toNat : Int)) rfl rfl rfl (aA 18 (.int .i32 (b.toNat : Int)) rfl rfl (aN (aL (aM 62 (.int .i64 (a : Int)) rfl rfl (aB 63 (.int .i64 (w64 (10 * (a : Int)))) rfl rfl rfl (bi_mul rfl) (aM 64 (.int .i32 (b.toNat : Int)) rfl rfl (aB 65 (.int .i32 (IntKind.i32.wrap ((b.toNat : Int) - 48))) rfl rfl rfl (bk_sub32) (ao 66 rfl rfl (st_cv32 (a := (IntKind.i32.wrap ((b.toNat : Int) - 48))) rfl Tryd.underlying3 Tryd.underlying21 rfl (aB 67 (.int .i64 (w64 ((w64 (10 * (a : Int))) + (w64 (IntKind.i32.wrap ((b.toNat : Int) - 48)))))) rfl rfl rfl (bi_add rfl) ?_)))))))))))))))))
 refine aA 16 (.int .i64 (w64 ((w64 (10 * (a : Int))) + (w64 (IntKind.i32.wrap ((b.toNat : Int) - 48)))))) rfl rfl (aN ?_)
 exact K _ rfl rfl rfl rfl rfl (congrArg (Value.int .i64) (by rw [db_num ha hd])) rfl
set_option maxRecDepth 100000 in
theorem db_end (v1 v2 v3 v13 v14 : Value) (l : List UInt8) (kI pos a : Nat) (hl : l.length ≤ pos) {H : List Box} {Q : Exit → Nat → Env → List Box → Prop} {E : Env} {c : Code} {j : Nat} (hc : Tryd.f7.body.bind (loopN 1) = some c) (q1 : E 1 = v1) (q2 : E 2 = v2) (q3 : E 3 = v3) (q13 : E 13 = v13) (q14 : E 14 = v14) (q16 : E 16 = .int .i64 (a : Int)) (q58 : E 58 = .pointer (some ⟨kI, 0, none⟩)) (K : ∀ E' : Env, E' 1 = v1 → E' 2 = v2 → E' 3 = v3 → E' 13 = v13 → E' 14 = v14 → E' 16 = .int .i64 (a : Int) → Q (.exit 2) pos E' H) : AIRounds Tryd.prog 157 c kI (byA l) Q (j + 1) pos E H := by
 rw [show Tryd.f7.body.bind (loopN 1) = some _ from rfl] at hc
 cases hc
 obtain ⟨E0, rfl⟩ : ∃ E0 : Env, E = (((((((E0.put (some 1) (v1)).put (some 2) (v2)).put (some 3) (v3)).put (some 13) (v13)).put (some 14) (v14)).put (some 16) (.int .i64 (a : Int))).put (some 58) (.pointer (some ⟨kI, 0, none⟩))) := ⟨E, by rw [put_self q1, put_self q2, put_self q3, put_self q13, put_self q14, put_self q16, put_self q58]⟩
 refine air_round ?_
 refine aic_seq ?_
 refine aic_next rfl rfl rfl 0 (fun hp => absurd hp (byA_ge hl)) (fun hp => (aX 60 (.bool false) rfl rfl rfl (aN ?_)))
 refine ai_of' (aQ (ac_else rfl (ac_exit ?_)))
 exact K _ rfl rfl rfl rfl rfl rfl
theorem db_loop (v1 v2 v3 v13 v14 : Value) (kI : Nat) (l : List UInt8) (hd : ∀ b ∈ l, IsDig b) (h8 : l.length ≤ 8) {H : List Box} {Q : Exit → Nat → Env → List Box → Prop} {c : Code} (hc : Tryd.f7.body.bind (loopN 1) = some c) :
  ∀ (j pos : Nat) (E : Env), pos + j = l.length → E 1 = v1 → E 2 = v2 → E 3 = v3 → E 13 = v13 → E 14 = v14 → E 16 = .int .i64 ((dval 0 (l.take pos) : Nat) : Int) → E 58 = .pointer (some ⟨kI, 0, none⟩) →
   (∀ E' : Env, E' 1 = v1 → E' 2 = v2 → E' 3 = v3 → E' 13 = v13 → E' 14 = v14 → E' 16 = .int .i64 ((dval 0 l : Nat) : Int) → Q (.exit 2) l.length E' H) → AIRounds Tryd.prog 157 c kI (byA l) Q (j + 1) pos E H := by
 intro j
 induction j with
 | zero =>
  intro pos E hp q1 q2 q3 q13 q14 q16 q58 K
  obtain rfl : pos = l.length := by omega
  rw [List.take_length] at q16
  exact db_end v1 v2 v3 v13 v14 l kI l.length (dval 0 l) (Nat.le_refl _) hc q1 q2 q3 q13 q14 q16 q58 K
 | succ j ih =>
  intro pos E hp q1 q2 q3 q13 q14 q16 q58 K
  have hlt : pos < l.length := by omega
  have hb : l[pos]? = some l[pos] := List.getElem?_eq_getElem hlt
  have hv : dval 0 (l.take pos) < 1000000000 := by
   have h1 := dval_lt (l.take pos) 0 0 (fun b hb => hd b (List.mem_of_mem_take hb)) (by decide)
   have h2 : 10 ^ (0 + (l.take pos).length) ≤ 10 ^ 8 := Nat.pow_le_pow_right (by decide) (by rw [List.length_take]; omega)
   have h3 : (10 : Nat) ^ 8 = 100000000 := by decide
   omega
  refine db_go v1 v2 v3 v13 v14 l kI pos (dval 0 (l.take pos)) l[pos] hb (hd _ (List.getElem_mem hlt)) hv hc q1 q2 q3 q13 q14 q16 q58 (fun E' f1 f2 f3 f13 f14 f16 f58 => ih (pos + 1) E' (by omega) f1 f2 f3 f13 f14 ?_ f58 K)
  rw [f16, List.take_add_one, hb]
  show _ = Value.int .i64 ((dval 0 (l.take pos ++ [l[pos]]) : Nat) : Int)
  rw [dval_snoc]
theorem db_range (v1 v2 v3 v13 v14 : Value) (l : List UInt8) (hd : ∀ b ∈ l, IsDig b) (h8 : l.length ≤ 8) {Q : Exit → Env → List Box → Prop} {H : List Box} {c : Code} (hc : Tryd.f7.body.bind (loopN 1) = some c) (kI : Nat) {E : Env} (q1 : E 1 = v1) (q2 : E 2 = v2) (q3 : E 3 = v3) (q13 : E 13 = v13) (q14 : E 14 = v14) (q16 : E 16 = .int .i64 0) (q58 : E 58 = .pointer (some ⟨kI, 0, none⟩))
  (K : ∀ E' : Env, E' 1 = v1 → E' 2 = v2 → E' 3 = v3 → E' 13 = v13 → E' 14 = v14 → E' 16 = .int .i64 ((dval 0 l : Nat) : Int) → Q .normal E' H) : AIC Tryd.prog 157 (.block 2 (.loop c)) kI (byA l) 0 (fun e _ E H => Q e E H) E H := by
 refine aic_block (aic_rounds (l.length + 1) ?_)
 exact db_loop v1 v2 v3 v13 v14 kI l hd h8 hc l.length 0 E (Nat.zero_add _) q1 q2 q3 q13 q14 q16 q58 (fun E' f1 f2 f3 f13 f14 f16 => K E' f1 f2 f3 f13 f14 f16)
end Go.Proofs.YtalffjplbhelcaaDoor
namespace Go.Proofs.YtalffjplbhelcaaDoor
open Go.RowKit
attribute [local irreducible] AC AR DWalk
def ivRight (a : Iv) : Bool := (bif a.no then false else (bif numIn a.lo then (bif numIn a.hi then decide (a.lo ≤ a.hi) else false) else false))
set_option maxRecDepth 100000 in
theorem c_ivRight (a : Iv) : Gets Tryd.prog 22 #[.agg #[.int .i64 a.lo, .int .i64 a.hi, .bool a.no]] ((fun (r : Bool) => (.bool r : Value)) (ivRight a)) := by
 refine gets_fin Tryd.func22 rfl rfl rfl (aQ (aL (ao 1 rfl rfl (st_box (v := .agg #[.int .i64 a.lo, .int .i64 a.hi, .bool a.no]) (cs := [.int .i64 a.lo, .int .i64 a.hi, .bool a.no]) rfl rfl rfl fun g0 => (aA 2 (.bool false) rfl rfl (aN (aQ (aL (aF 3 fa57_2 rfl rfl (aD 4 (.bool a.no) cell4 0 rfl rfl rfl rfl (ao 5 rfl rfl (st_un (v := .bool (!a.no)) rfl rfl (un_not rfl) (aM 6 (.bool (!a.no)) rfl rfl ?_)))))))))))))
 refine bool_split (a.no) (fun h1 => ?_) (fun h1 => ?_)
 ·refine aK 7 (by show ((!a.no) == true) = false; rw [h1]; rfl) rfl (aK 8 (by show ((!a.no) == true) = false; rw [h1]; rfl) rfl (aK 9 (by show ((!a.no) == true) = false; rw [h1]; rfl) rfl (ao 10 rfl rfl (st_pkf' (b := !a.no) (v := .bool false) (by rw [h1]; rfl) rfl rfl rfl (aM 11 (.bool false) rfl rfl (aK 12 rfl rfl (aK 13 rfl rfl (aK 14 rfl rfl (ao 15 rfl rfl (st_pkf (v := .bool false) rfl rfl rfl (aM 16 (.bool false) rfl rfl (aK 17 rfl rfl (aK 18 rfl rfl (aK 19 rfl rfl (aK 20 rfl rfl (aK 21 rfl rfl (ao 22 rfl rfl (st_pkf (v := .bool false) rfl rfl rfl (aA 2 (.bool false) rfl rfl (aN (ac_ret ?_)))))))))))))))))))))
  exact fin_eq (v := .bool false) (by show _ = (fun (r : Bool) => (.bool r : Value)) (ivRight a); rw [ivRight, h1] <;> rfl) (fin_ret (res_tmp rfl rfl))
 ·refine ar_gd (d := (some 7)) (by show ((!a.no) == true) = true; rw [h1]; rfl) rfl (st_fa rfl fa57_0 rfl (ar_gd (d := (some 8)) (by show ((!a.no) == true) = true; rw [h1]; rfl) rfl (st_ldc (v := .int .i64 a.lo) cell3 0 rfl rfl rfl rfl rfl (ar_gd (d := (some 9)) (by show ((!a.no) == true) = true; rw [h1]; rfl) rfl (st_cf (c_numIn a.lo) Tryd.func46 rfl (by decide) rfl rfl rfl (ao 10 rfl rfl (st_pkt' (b := !a.no) (v := .bool (numIn a.lo)) (by rw [h1]; rfl) rfl rfl rfl (aM 11 (.bool (numIn a.lo)) rfl rfl ?_))))))))
  refine bool_split (numIn a.lo) (fun h2 => ?_) (fun h2 => ?_)
  ·refine ar_gd (d := (some 12)) (by show ((numIn a.lo) == true) = true; rw [h2]; rfl) rfl (st_fa rfl fa57_1 rfl (ar_gd (d := (some 13)) (by show ((numIn a.lo) == true) = true; rw [h2]; rfl) rfl (st_ldc (v := .int .i64 a.hi) cell3 0 rfl rfl rfl rfl rfl (ar_gd (d := (some 14)) (by show ((numIn a.lo) == true) = true; rw [h2]; rfl) rfl (st_cf (c_numIn a.hi) Tryd.func46 rfl (by decide) rfl rfl rfl (ao 15 rfl rfl (st_pkt' (b := numIn a.lo) (v := .bool (numIn a.hi)) h2 rfl rfl rfl (aM 16 (.bool (numIn a.hi)) rfl rfl ?_))))))))
   refine bool_split (numIn a.hi) (fun h3 => ?_) (fun h3 => ?_)
   ·refine ar_gd (d := (some 17)) (by show ((numIn a.hi) == true) = true; rw [h3]; rfl) rfl (st_fa rfl fa57_0 rfl (ar_gd (d := (some 18)) (by show ((numIn a.hi) == true) = true; rw [h3]; rfl) rfl (st_ldc (v := .int .i64 a.lo) cell3 0 rfl rfl rfl rfl rfl (ar_gd (d := (some 19)) (by show ((numIn a.hi) == true) = true; rw [h3]; rfl) rfl (st_fa rfl fa57_1 rfl (ar_gd (d := (some 20)) (by show ((numIn a.hi) == true) = true; rw [h3]; rfl) rfl (st_ldc (v := .int .i64 a.hi) cell3 0 rfl rfl rfl rfl rfl (ar_gd (d := (some 21)) (by show ((numIn a.hi) == true) = true; rw [h3]; rfl) rfl (st_bi (r := .bool (decide (a.lo ≤ a.hi))) rfl rfl rfl (bi_leq rfl) ?_)))))))))
    refine ao 22 rfl rfl (st_pkt' (b := numIn a.hi) (v := .bool (decide (a.lo ≤ a.hi))) h3 rfl rfl rfl (aA 2 (.bool (decide (a.lo ≤ a.hi))) rfl rfl (aN (ac_ret (fin_eq (v := .bool (decide (a.lo ≤ a.hi))) (by show _ = (fun (r : Bool) => (.bool r : Value)) (ivRight a); rw [ivRight, h3, h2, h1] <;> rfl) (fin_ret (res_tmp rfl rfl)))))))
   ·refine aK 17 (by show ((numIn a.hi) == true) = false; rw [h3]; rfl) rfl (aK 18 (by show ((numIn a.hi) == true) = false; rw [h3]; rfl) rfl (aK 19 (by show ((numIn a.hi) == true) = false; rw [h3]; rfl) rfl (aK 20 (by show ((numIn a.hi) == true) = false; rw [h3]; rfl) rfl (aK 21 (by show ((numIn a.hi) == true) = false; rw [h3]; rfl) rfl (ao 22 rfl rfl (st_pkf' (b := numIn a.hi) (v := .bool false) h3 rfl rfl rfl (aA 2 (.bool false) rfl rfl (aN (ac_ret (fin_eq (v := .bool false) (by show _ = (fun (r : Bool) => (.bool r : Value)) (ivRight a); rw [ivRight, h3, h2, h1] <;> rfl) (fin_ret (res_tmp rfl rfl))))))))))))
  ·refine aK 12 (by show ((numIn a.lo) == true) = false; rw [h2]; rfl) rfl (aK 13 (by show ((numIn a.lo) == true) = false; rw [h2]; rfl) rfl (aK 14 (by show ((numIn a.lo) == true) = false; rw [h2]; rfl) rfl (ao 15 rfl rfl (st_pkf' (b := numIn a.lo) (v := .bool false) h2 rfl rfl rfl (aM 16 (.bool false) rfl rfl (aK 17 rfl rfl (aK 18 rfl rfl (aK 19 rfl rfl (aK 20 rfl rfl (aK 21 rfl rfl (ao 22 rfl rfl (st_pkf (v := .bool false) rfl rfl rfl (aA 2 (.bool false) rfl rfl (aN (ac_ret (fin_eq (v := .bool false) (by show _ = (fun (r : Bool) => (.bool r : Value)) (ivRight a); rw [ivRight, h2, h1] <;> rfl) (fin_ret (res_tmp rfl rfl))))))))))))))))))
def ivNone  : Iv := (⟨0, 0, true⟩ : Iv)
set_option maxRecDepth 100000 in
theorem c_ivNone  : Gets Tryd.prog 24 #[] (Iv.v ivNone) := by
 refine gets_fin Tryd.func24 rfl rfl rfl (aQ (aL (ao 0 rfl rfl (st_new zero57 rfl fun g0 => (aN (aQ (aL (ao 1 rfl rfl (st_bd (us := [(2, .bool true)]) (v := .agg #[.int .i64 0, .int .i64 0, .bool true]) rfl rfl (bd57_2 _) (aS [.int .i64 0, .int .i64 0, .bool true] agg57 0 rfl rfl rfl rfl rfl rfl (aN (ac_ret (fin_eq (v := .agg #[.int .i64 0, .int .i64 0, .bool true]) rfl (fin_ret (res_c (vs := [.int .i64 0, .int .i64 0, .bool true]) agg57 0 rfl rfl rfl rfl rfl rfl)))))))))))))))
def ivOf (l : Int) (h : Int) : Iv := (bif ivRight (⟨l, h, false⟩ : Iv) then (⟨l, h, false⟩ : Iv) else ivNone)
set_option maxRecDepth 100000 in
theorem c_ivOf (l : Int) (h : Int) : Gets Tryd.prog 23 #[.int .i64 l, .int .i64 h] (Iv.v (ivOf l h)) := by
 refine gets_fin Tryd.func23 rfl rfl rfl (aQ (aL (ao 4 rfl rfl (st_new zero57 rfl fun g0 => (aN (aQ (aL (aM 6 (.int .i64 l) rfl rfl (aM 7 (.int .i64 h) rfl rfl (ao 8 rfl rfl (st_bd (us := [(0, .int .i64 l), (1, .int .i64 h)]) (v := .agg #[.int .i64 l, .int .i64 h, .bool false]) rfl rfl (bd57_0_1 _ _) (ao 5 rfl rfl (st_new zero57 rfl fun g1 => (aS [.int .i64 l, .int .i64 h, .bool false] agg57 0 rfl rfl rfl rfl rfl rfl (aN (aQ (aQ (aL (aG 9 [.int .i64 l, .int .i64 h, .bool false] agg57 0 rfl rfl rfl rfl rfl (aC 10 (c_ivRight (⟨l, h, false⟩ : Iv)) Tryd.func22 ⟨rfl, by decide⟩ rfl rfl ?_))))))))))))))))))))
 refine ao 11 rfl rfl (st_un (v := .bool (!(ivRight (⟨l, h, false⟩ : Iv)))) rfl rfl (un_not rfl) (aN ?_))
 refine bool_split (ivRight (⟨l, h, false⟩ : Iv)) (fun h1 => ?_) (fun h1 => ?_)
 ·refine ac_else' (b := !(ivRight (⟨l, h, false⟩ : Iv))) (by rw [h1]; rfl) rfl (ac_skip (aQ (aL (aG 13 [.int .i64 l, .int .i64 h, .bool false] agg57 0 rfl rfl rfl rfl rfl (aS [.int .i64 l, .int .i64 h, .bool false] agg57 1 rfl rfl rfl rfl rfl rfl (aN (ac_ret (fin_eq (v := .agg #[.int .i64 l, .int .i64 h, .bool false]) (by show _ = Iv.v (ivOf l h); rw [ivOf, h1] <;> rfl) (fin_ret (res_c (vs := [.int .i64 l, .int .i64 h, .bool false]) agg57 1 rfl rfl rfl rfl rfl rfl))))))))))
 ·refine ac_then' (b := !(ivRight (⟨l, h, false⟩ : Iv))) (by rw [h1]; rfl) rfl (aQ (aL (aC 12 c_ivNone Tryd.func24 ⟨rfl, by decide⟩ rfl rfl (aS [.int .i64 ivNone.lo, .int .i64 ivNone.hi, .bool ivNone.no] agg57 1 rfl rfl rfl rfl rfl rfl (aN (ac_ret (fin_eq (v := .agg #[.int .i64 ivNone.lo, .int .i64 ivNone.hi, .bool ivNone.no]) (by show _ = Iv.v (ivOf l h); rw [ivOf, h1] <;> rfl) (fin_ret (res_c (vs := [.int .i64 ivNone.lo, .int .i64 ivNone.hi, .bool ivNone.no]) agg57 1 rfl rfl rfl rfl rfl rfl)))))))))
end Go.Proofs.YtalffjplbhelcaaDoor
namespace Go.Proofs.YtalffjplbhelcaaDoor
open Go.RowKit
attribute [local irreducible] AC AR DWalk
def decOf_e0 (d : Dec) : Int := (numFloor (w64 (0 - (w64 (d.c * 65536)))) (decPower d.scale))
def decOf_e1 (d : Dec) : Iv := (ivOf (numFloor (w64 (d.c * 65536)) (decPower d.scale)) (w64 (0 - (decOf_e0 d))))
def decOf (d : Dec) : Iv := (bif decRight d then (decOf_e1 d) else ivNone)
set_option maxRecDepth 100000 in
theorem c_decOf (d : Dec) : Gets Tryd.prog 19 #[.agg #[.int .i64 d.c, .int .i64 d.scale]] (Iv.v (decOf d)) := by
 refine gets_fin Tryd.func19 rfl rfl rfl (aQ (aL (ao 1 rfl rfl (st_box (v := .agg #[.int .i64 d.c, .int .i64 d.scale]) (cs := [.int .i64 d.c, .int .i64 d.scale]) rfl rfl rfl fun g0 => (ao 2 rfl rfl (st_new zero57 rfl fun g1 => (aN (aQ (aQ (aL (aG 5 [.int .i64 d.c, .int .i64 d.scale] agg52 1 rfl rfl rfl rfl rfl (aC 6 (c_decRight d) Tryd.func21 ⟨rfl, by decide⟩ rfl rfl (ao 7 rfl rfl (st_un (v := .bool (!(decRight d))) rfl rfl (un_not rfl) (aN ?_)))))))))))))))
 refine bool_split (decRight d) (fun h1 => ?_) (fun h1 => ?_)
 ·refine ac_else' (b := !(decRight d)) (by rw [h1]; rfl) rfl (ac_skip (aQ ?_))
  refine ac_draw0 (id := 3) [0, 1, 2, 3, 4, 5, 6, 7] [] _ (by kernel_rfl) follows rfl  (dw_op (d := some 9) _ rfl rfl rfl (st_fa rfl fa52_0 rfl ⟨rfl, rfl⟩) (dw_op (d := some 10) _ rfl rfl rfl (st_ldc (v := .int .i64 d.c) cell3 1 rfl rfl rfl rfl rfl ⟨rfl, rfl⟩) (dw_op (d := some 11) _ rfl rfl rfl (st_bi (r := .int .i64 (w64 (d.c * 65536))) rfl rfl rfl (bi_mul rfl) ⟨rfl, rfl⟩) (dw_op (d := some 12) _ rfl rfl rfl (st_fa rfl fa52_1 rfl ⟨rfl, rfl⟩) (dw_op (d := some 13) _ rfl rfl rfl (st_ldc (v := .int .i64 d.scale) cell3 1 rfl rfl rfl rfl rfl ⟨rfl, rfl⟩) ?_)))))
  refine dw_op (d := some 14) _ rfl rfl rfl (st_cf (c_decPower d.scale (pow_ok d h1)) Tryd.func44 rfl (by decide) rfl rfl rfl ⟨rfl, rfl⟩) (dw_op (d := some 3) _ rfl rfl rfl (st_assign (v := .int .i64 (w64 (d.c * 65536))) rfl rfl ⟨rfl, rfl⟩) (dw_op (d := some 4) _ rfl rfl rfl (st_assign (v := .int .i64 (decPower d.scale)) rfl rfl ⟨rfl, rfl⟩) (dw_nil (aN (aQ (aL (aM 15 (.int .i64 (w64 (d.c * 65536))) rfl rfl (aM 16 (.int .i64 (decPower d.scale)) rfl rfl (aC 17 (c_numFloor (w64 (d.c * 65536)) (decPower d.scale)) Tryd.func45 ⟨rfl, by decide⟩ rfl rfl (aM 18 (.int .i64 (w64 (d.c * 65536))) rfl rfl ?_))))))))))
  refine ao 19 rfl rfl (st_un (v := .int .i64 (w64 (0 - (w64 (d.c * 65536))))) rfl rfl (un_neg rfl) (aM 20 (.int .i64 (decPower d.scale)) rfl rfl (aC 21 (c_numFloor (w64 (0 - (w64 (d.c * 65536)))) (decPower d.scale)) Tryd.func45 ⟨rfl, by decide⟩ rfl rfl (ao 22 rfl rfl (st_un (v := .int .i64 (w64 (0 - (decOf_e0 d)))) rfl rfl (un_neg rfl) (aC 23 (c_ivOf (numFloor (w64 (d.c * 65536)) (decPower d.scale)) (w64 (0 - (decOf_e0 d)))) Tryd.func23 ⟨rfl, by decide⟩ rfl rfl (aS [.int .i64 ((decOf_e1 d).lo), .int .i64 ((decOf_e1 d).hi), .bool ((decOf_e1 d).no)] agg57 0 rfl rfl rfl rfl rfl rfl (aN (ac_ret ?_)))))))))
  exact fin_eq (v := .agg #[.int .i64 ((decOf_e1 d).lo), .int .i64 ((decOf_e1 d).hi), .bool ((decOf_e1 d).no)]) (by show _ = Iv.v (decOf d); rw [decOf, h1] <;> rfl) (fin_ret (res_c (vs := [.int .i64 ((decOf_e1 d).lo), .int .i64 ((decOf_e1 d).hi), .bool ((decOf_e1 d).no)]) agg57 0 rfl rfl rfl rfl rfl rfl))
 ·refine ac_then' (b := !(decRight d)) (by rw [h1]; rfl) rfl (aQ (aL (aC 8 c_ivNone Tryd.func24 ⟨rfl, by decide⟩ rfl rfl (aS [.int .i64 ivNone.lo, .int .i64 ivNone.hi, .bool ivNone.no] agg57 0 rfl rfl rfl rfl rfl rfl (aN (ac_ret (fin_eq (v := .agg #[.int .i64 ivNone.lo, .int .i64 ivNone.hi, .bool ivNone.no]) (by show _ = Iv.v (decOf d); rw [decOf, h1] <;> rfl) (fin_ret (res_c (vs := [.int .i64 ivNone.lo, .int .i64 ivNone.hi, .bool ivNone.no]) agg57 0 rfl rfl rfl rfl rfl rfl)))))))))
end Go.Proofs.YtalffjplbhelcaaDoor
namespace Go.Proofs.YtalffjplbhelcaaDoor
open Go.RowKit
attribute [local irreducible] AC AR DWalk
def known9  : Bool := (bif (decRead (⟨#[49, 46, 53, 48]⟩ : ByteArray)).2 then (bif decide (((decRead (⟨#[49, 46, 53, 48]⟩ : ByteArray)).1) = (⟨15, 1⟩ : Dec)) then (bif sEq (decPrint ((decRead (⟨#[49, 46, 53, 48]⟩ : ByteArray)).1)) (⟨#[49, 46, 53]⟩ : ByteArray) then decide ((decOf ((decRead (⟨#[49, 46, 53, 48]⟩ : ByteArray)).1)) = (ivOf 98304 98304)) else false) else false) else false)
set_option maxRecDepth 100000 in
theorem c_known9 (tP : Nat) : Gives Tryd.prog 20 #[] [powBox tP] (fun u N => u = ((fun (r : Bool) => (.bool r : Value)) known9) ∧ N = []) := by
 refine gives_fin Tryd.func20 rfl rfl rfl rfl (AC.mono ?_ (fun e E H h => fing_v h rfl))
 refine aQ (aL (aA 0 (.bool false) rfl rfl (aN (aQ (aL (aC 4 (c_decRead (⟨#[49, 46, 53, 48]⟩ : ByteArray) (Nat.le_trans (show ((⟨#[49, 46, 53, 48]⟩ : ByteArray)).size ≤ 4 from Nat.le_refl _) (by decide))) Tryd.func17 ⟨rfl, by decide⟩ rfl rfl (aM 3 (.tuple #[.agg #[.int .i64 (((decRead (⟨#[49, 46, 53, 48]⟩ : ByteArray)).1).c), .int .i64 (((decRead (⟨#[49, 46, 53, 48]⟩ : ByteArray)).1).scale)], .bool ((decRead (⟨#[49, 46, 53, 48]⟩ : ByteArray)).2)]) rfl rfl (aX 5 (.agg #[.int .i64 (((decRead (⟨#[49, 46, 53, 48]⟩ : ByteArray)).1).c), .int .i64 (((decRead (⟨#[49, 46, 53, 48]⟩ : ByteArray)).1).scale)]) rfl rfl rfl ?_))))))))
 refine aX 6 (.bool ((decRead (⟨#[49, 46, 53, 48]⟩ : ByteArray)).2)) rfl rfl rfl (ao 1 rfl rfl (st_new zero52 rfl fun g0 => (aS [.int .i64 (((decRead (⟨#[49, 46, 53, 48]⟩ : ByteArray)).1).c), .int .i64 (((decRead (⟨#[49, 46, 53, 48]⟩ : ByteArray)).1).scale)] agg52 0 rfl rfl rfl rfl rfl rfl (aA 2 (.bool ((decRead (⟨#[49, 46, 53, 48]⟩ : ByteArray)).2)) rfl rfl (aN (aQ (aL (aM 7 (.bool ((decRead (⟨#[49, 46, 53, 48]⟩ : ByteArray)).2)) rfl rfl (aM 8 (.bool ((decRead (⟨#[49, 46, 53, 48]⟩ : ByteArray)).2)) rfl rfl ?_)))))))))
 refine bool_split ((decRead (⟨#[49, 46, 53, 48]⟩ : ByteArray)).2) (fun h1 => ?_) (fun h1 => ?_)
 ·refine ar_gd (d := (some 9)) (by show (((decRead (⟨#[49, 46, 53, 48]⟩ : ByteArray)).2) == true) = true; rw [h1]; rfl) rfl (st_lda (vs := [.int .i64 (((decRead (⟨#[49, 46, 53, 48]⟩ : ByteArray)).1).c), .int .i64 (((decRead (⟨#[49, 46, 53, 48]⟩ : ByteArray)).1).scale)]) agg52 0 rfl rfl rfl rfl rfl rfl (ar_gd (d := (some 10)) (by show (((decRead (⟨#[49, 46, 53, 48]⟩ : ByteArray)).2) == true) = true; rw [h1]; rfl) rfl (st_bd (us := [(0, .int .i64 15), (1, .int .i64 1)]) (v := .agg #[.int .i64 15, .int .i64 1]) rfl rfl (bd52_0_1 _ _) ?_)))
  refine ar_gd (d := (some 11)) (by show (((decRead (⟨#[49, 46, 53, 48]⟩ : ByteArray)).2) == true) = true; rw [h1]; rfl) rfl (st_bi (r := .bool (decide (((decRead (⟨#[49, 46, 53, 48]⟩ : ByteArray)).1) = (⟨15, 1⟩ : Dec)))) rfl rfl rfl (beql_52 ((decRead (⟨#[49, 46, 53, 48]⟩ : ByteArray)).1) (⟨15, 1⟩ : Dec) rfl) (ao 12 rfl rfl (st_pkt' (b := (decRead (⟨#[49, 46, 53, 48]⟩ : ByteArray)).2) (v := .bool (decide (((decRead (⟨#[49, 46, 53, 48]⟩ : ByteArray)).1) = (⟨15, 1⟩ : Dec)))) h1 rfl rfl rfl (aM 13 (.bool (decide (((decRead (⟨#[49, 46, 53, 48]⟩ : ByteArray)).1) = (⟨15, 1⟩ : Dec)))) rfl rfl ?_))))
  refine bool_split (decide (((decRead (⟨#[49, 46, 53, 48]⟩ : ByteArray)).1) = (⟨15, 1⟩ : Dec))) (fun h2 => ?_) (fun h2 => ?_)
  ·refine ar_gd (d := (some 14)) (by show ((decide (((decRead (⟨#[49, 46, 53, 48]⟩ : ByteArray)).1) = (⟨15, 1⟩ : Dec))) == true) = true; rw [h2]; rfl) rfl (st_lda (vs := [.int .i64 (((decRead (⟨#[49, 46, 53, 48]⟩ : ByteArray)).1).c), .int .i64 (((decRead (⟨#[49, 46, 53, 48]⟩ : ByteArray)).1).scale)]) agg52 0 rfl rfl rfl rfl rfl rfl ?_)
   refine ar_gd (d := (some 15)) (by show ((decide (((decRead (⟨#[49, 46, 53, 48]⟩ : ByteArray)).1) = (⟨15, 1⟩ : Dec))) == true) = true; rw [h2]; rfl) rfl (st_gr (R := [powBox tP]) (r := .string (decPrint ((decRead (⟨#[49, 46, 53, 48]⟩ : ByteArray)).1))) (c_decPrint ((decRead (⟨#[49, 46, 53, 48]⟩ : ByteArray)).1) tP) Tryd.func18 rfl (by decide) rfl rfl rfl (has_cons 1 _ rfl rfl rfl rfl has_nil) (by simp) ?_)
   refine ar_gd (d := (some 16)) (by show ((decide (((decRead (⟨#[49, 46, 53, 48]⟩ : ByteArray)).1) = (⟨15, 1⟩ : Dec))) == true) = true; rw [h2]; rfl) rfl (st_bi (r := .bool (sEq (decPrint ((decRead (⟨#[49, 46, 53, 48]⟩ : ByteArray)).1)) (⟨#[49, 46, 53]⟩ : ByteArray))) rfl rfl rfl (bi_seql rfl) (ao 17 rfl rfl (st_pkt' (b := decide (((decRead (⟨#[49, 46, 53, 48]⟩ : ByteArray)).1) = (⟨15, 1⟩ : Dec))) (v := .bool (sEq (decPrint ((decRead (⟨#[49, 46, 53, 48]⟩ : ByteArray)).1)) (⟨#[49, 46, 53]⟩ : ByteArray))) h2 rfl rfl rfl (aM 18 (.bool (sEq (decPrint ((decRead (⟨#[49, 46, 53, 48]⟩ : ByteArray)).1)) (⟨#[49, 46, 53]⟩ : ByteArray))) rfl rfl ?_))))
   refine bool_split (sEq (decPrint ((decRead (⟨#[49, 46, 53, 48]⟩ : ByteArray)).1)) (⟨#[49, 46, 53]⟩ : ByteArray)) (fun h3 => ?_) (fun h3 => ?_)
   ·refine ar_gd (d := (some 19)) (by show ((sEq (decPrint ((decRead (⟨#[49, 46, 53, 48]⟩ : ByteArray)).1)) (⟨#[49, 46, 53]⟩ : ByteArray)) == true) = true; rw [h3]; rfl) rfl (st_lda (vs := [.int .i64 (((decRead (⟨#[49, 46, 53, 48]⟩ : ByteArray)).1).c), .int .i64 (((decRead (⟨#[49, 46, 53, 48]⟩ : ByteArray)).1).scale)]) agg52 0 rfl rfl rfl rfl rfl rfl (ar_gd (d := (some 20)) (by show ((sEq (decPrint ((decRead (⟨#[49, 46, 53, 48]⟩ : ByteArray)).1)) (⟨#[49, 46, 53]⟩ : ByteArray)) == true) = true; rw [h3]; rfl) rfl (st_cf (c_decOf ((decRead (⟨#[49, 46, 53, 48]⟩ : ByteArray)).1)) Tryd.func19 rfl (by decide) rfl rfl rfl ?_)))
    refine ar_gd (d := (some 21)) (by show ((sEq (decPrint ((decRead (⟨#[49, 46, 53, 48]⟩ : ByteArray)).1)) (⟨#[49, 46, 53]⟩ : ByteArray)) == true) = true; rw [h3]; rfl) rfl (st_cf (c_ivOf 98304 98304) Tryd.func23 rfl (by decide) rfl rfl rfl (ar_gd (d := (some 22)) (by show ((sEq (decPrint ((decRead (⟨#[49, 46, 53, 48]⟩ : ByteArray)).1)) (⟨#[49, 46, 53]⟩ : ByteArray)) == true) = true; rw [h3]; rfl) rfl (st_bi (r := .bool (decide ((decOf ((decRead (⟨#[49, 46, 53, 48]⟩ : ByteArray)).1)) = (ivOf 98304 98304)))) rfl rfl rfl (beql_57 (decOf ((decRead (⟨#[49, 46, 53, 48]⟩ : ByteArray)).1)) (ivOf 98304 98304) rfl) ?_)))
    refine ao 23 rfl rfl (st_pkt' (b := sEq (decPrint ((decRead (⟨#[49, 46, 53, 48]⟩ : ByteArray)).1)) (⟨#[49, 46, 53]⟩ : ByteArray)) (v := .bool (decide ((decOf ((decRead (⟨#[49, 46, 53, 48]⟩ : ByteArray)).1)) = (ivOf 98304 98304)))) h3 rfl rfl rfl (aA 0 (.bool (decide ((decOf ((decRead (⟨#[49, 46, 53, 48]⟩ : ByteArray)).1)) = (ivOf 98304 98304)))) rfl rfl (aN (ac_ret (fin_eq (v := .bool (decide ((decOf ((decRead (⟨#[49, 46, 53, 48]⟩ : ByteArray)).1)) = (ivOf 98304 98304)))) (by show _ = (fun (r : Bool) => (.bool r : Value)) known9; rw [known9, h3, h2, h1] <;> rfl) (fin_ret (res_tmp rfl rfl)))))))
   ·refine aK 19 (by show ((sEq (decPrint ((decRead (⟨#[49, 46, 53, 48]⟩ : ByteArray)).1)) (⟨#[49, 46, 53]⟩ : ByteArray)) == true) = false; rw [h3]; rfl) rfl (aK 20 (by show ((sEq (decPrint ((decRead (⟨#[49, 46, 53, 48]⟩ : ByteArray)).1)) (⟨#[49, 46, 53]⟩ : ByteArray)) == true) = false; rw [h3]; rfl) rfl (aK 21 (by show ((sEq (decPrint ((decRead (⟨#[49, 46, 53, 48]⟩ : ByteArray)).1)) (⟨#[49, 46, 53]⟩ : ByteArray)) == true) = false; rw [h3]; rfl) rfl (aK 22 (by show ((sEq (decPrint ((decRead (⟨#[49, 46, 53, 48]⟩ : ByteArray)).1)) (⟨#[49, 46, 53]⟩ : ByteArray)) == true) = false; rw [h3]; rfl) rfl ?_)))
    refine ao 23 rfl rfl (st_pkf' (b := sEq (decPrint ((decRead (⟨#[49, 46, 53, 48]⟩ : ByteArray)).1)) (⟨#[49, 46, 53]⟩ : ByteArray)) (v := .bool false) h3 rfl rfl rfl (aA 0 (.bool false) rfl rfl (aN (ac_ret (fin_eq (v := .bool false) (by show _ = (fun (r : Bool) => (.bool r : Value)) known9; rw [known9, h3, h2, h1] <;> rfl) (fin_ret (res_tmp rfl rfl)))))))
  ·refine aK 14 (by show ((decide (((decRead (⟨#[49, 46, 53, 48]⟩ : ByteArray)).1) = (⟨15, 1⟩ : Dec))) == true) = false; rw [h2]; rfl) rfl (aK 15 (by show ((decide (((decRead (⟨#[49, 46, 53, 48]⟩ : ByteArray)).1) = (⟨15, 1⟩ : Dec))) == true) = false; rw [h2]; rfl) rfl (aK 16 (by show ((decide (((decRead (⟨#[49, 46, 53, 48]⟩ : ByteArray)).1) = (⟨15, 1⟩ : Dec))) == true) = false; rw [h2]; rfl) rfl (ao 17 rfl rfl (st_pkf' (b := decide (((decRead (⟨#[49, 46, 53, 48]⟩ : ByteArray)).1) = (⟨15, 1⟩ : Dec))) (v := .bool false) h2 rfl rfl rfl (aM 18 (.bool false) rfl rfl (aK 19 rfl rfl (aK 20 rfl rfl (aK 21 rfl rfl (aK 22 rfl rfl ?_)))))))))
   refine ao 23 rfl rfl (st_pkf (v := .bool false) rfl rfl rfl (aA 0 (.bool false) rfl rfl (aN (ac_ret (fin_eq (v := .bool false) (by show _ = (fun (r : Bool) => (.bool r : Value)) known9; rw [known9, h2, h1] <;> rfl) (fin_ret (res_tmp rfl rfl)))))))
 ·refine aK 9 (by show (((decRead (⟨#[49, 46, 53, 48]⟩ : ByteArray)).2) == true) = false; rw [h1]; rfl) rfl (aK 10 (by show (((decRead (⟨#[49, 46, 53, 48]⟩ : ByteArray)).2) == true) = false; rw [h1]; rfl) rfl (aK 11 (by show (((decRead (⟨#[49, 46, 53, 48]⟩ : ByteArray)).2) == true) = false; rw [h1]; rfl) rfl (ao 12 rfl rfl (st_pkf' (b := (decRead (⟨#[49, 46, 53, 48]⟩ : ByteArray)).2) (v := .bool false) h1 rfl rfl rfl (aM 13 (.bool false) rfl rfl (aK 14 rfl rfl (aK 15 rfl rfl (aK 16 rfl rfl (ao 17 rfl rfl (st_pkf (v := .bool false) rfl rfl rfl (aM 18 (.bool false) rfl rfl (aK 19 rfl rfl (aK 20 rfl rfl (aK 21 rfl rfl (aK 22 rfl rfl ?_)))))))))))))))
  refine ao 23 rfl rfl (st_pkf (v := .bool false) rfl rfl rfl (aA 0 (.bool false) rfl rfl (aN (ac_ret (fin_eq (v := .bool false) (by show _ = (fun (r : Bool) => (.bool r : Value)) known9; rw [known9, h1] <;> rfl) (fin_ret (res_tmp rfl rfl)))))))
end Go.Proofs.YtalffjplbhelcaaDoor
