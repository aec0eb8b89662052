import Derived.Test.YthngkopcadlciaaMNormalTells1
set_option linter.unusedVariables false
set_option linter.unusedSimpArgs false
namespace Go.Proofs.Ythngkopcadlciaa
open Go.RowKit
theorem agg26 : IsAgg Try.prog 26 3 := ⟨⟨_, Try.underlying26, rfl, by kernel_rfl⟩⟩
theorem agg57 : IsAgg Try.prog 57 9 := ⟨⟨_, Try.underlying57, rfl, by kernel_rfl⟩⟩
theorem bd118_0_1 (x0_0 : Int) (x1_0 : Int) : Runs Try.prog (Instr.build 118 #[(0, .int .i64 x0_0), (1, .int .i64 x1_0)]) (.agg #[.int .i64 x0_0, .int .i64 x1_0]) := ⟨fun w => by go_simp⟩
theorem bd26_0_1 (x0_0 : Int) (x1_0 : Int) : Runs Try.prog (Instr.build 26 #[(0, .int .i64 x0_0), (1, .int .i64 x1_0)]) (.agg #[.int .i64 x0_0, .int .i64 x1_0, .bool false]) := ⟨fun w => by go_simp⟩
theorem bd26_0_1_2 (x0_0 : Int) (x1_0 : Int) (x2_0 : Bool) : Runs Try.prog (Instr.build 26 #[(0, .int .i64 x0_0), (1, .int .i64 x1_0), (2, .bool x2_0)]) (.agg #[.int .i64 x0_0, .int .i64 x1_0, .bool x2_0]) := ⟨fun w => by go_simp⟩
theorem bd26_2 (x0_0 : Bool) : Runs Try.prog (Instr.build 26 #[(2, .bool x0_0)]) (.agg #[.int .i64 0, .int .i64 0, .bool x0_0]) := ⟨fun w => by go_simp⟩
theorem bd57_0a_1a_2a (x0_0 : Int) (x0_1 : Int) (x0_2 : Bool) (x1_0 : Int) (x1_1 : Int) (x1_2 : Bool) (x2_0 : Int) (x2_1 : Int) (x2_2 : Bool) : Runs Try.prog (Instr.build 57 #[(0, .agg #[.int .i64 x0_0, .int .i64 x0_1, .bool x0_2]), (1, .agg #[.int .i64 x1_0, .int .i64 x1_1, .bool x1_2]), (2, .agg #[.int .i64 x2_0, .int .i64 x2_1, .bool x2_2])]) (.agg #[.int .i64 x0_0, .int .i64 x0_1, .bool x0_2, .int .i64 x1_0, .int .i64 x1_1, .bool x1_2, .int .i64 x2_0, .int .i64 x2_1, .bool x2_2]) := ⟨fun w => by go_simp⟩
theorem cell3 : IsCell Try.prog 3 := ⟨⟨_, Try.underlying3, rfl, by kernel_rfl⟩⟩
theorem cell4 : IsCell Try.prog 4 := ⟨⟨_, Try.underlying4, rfl, by kernel_rfl⟩⟩
theorem fa26_0 (a : Addr) : Runs Try.prog (Instr.fieldAt 26 (.pointer (some a)) 0) (.pointer (some (a.add 0))) := run_fa (f := 0) (off := 0) (m := 1) Try.underlying26 rfl rfl (by kernel_rfl) (by decide) a
theorem fa26_1 (a : Addr) : Runs Try.prog (Instr.fieldAt 26 (.pointer (some a)) 1) (.pointer (some (a.add 1))) := run_fa (f := 1) (off := 1) (m := 1) Try.underlying26 rfl rfl (by kernel_rfl) (by decide) a
theorem fa26_2 (a : Addr) : Runs Try.prog (Instr.fieldAt 26 (.pointer (some a)) 2) (.pointer (some (a.add 2))) := run_fa (f := 2) (off := 2) (m := 1) Try.underlying26 rfl rfl (by kernel_rfl) (by decide) a
theorem fa57_0 (a : Addr) : Runs Try.prog (Instr.fieldAt 57 (.pointer (some a)) 0) (.pointer (some (a.add 0))) := run_fa (f := 0) (off := 0) (m := 3) Try.underlying57 rfl rfl (by kernel_rfl) (by decide) a
theorem fa57_1 (a : Addr) : Runs Try.prog (Instr.fieldAt 57 (.pointer (some a)) 1) (.pointer (some (a.add 3))) := run_fa (f := 1) (off := 3) (m := 3) Try.underlying57 rfl rfl (by kernel_rfl) (by decide) a
theorem fa57_2 (a : Addr) : Runs Try.prog (Instr.fieldAt 57 (.pointer (some a)) 2) (.pointer (some (a.add 6))) := run_fa (f := 2) (off := 6) (m := 3) Try.underlying57 rfl rfl (by kernel_rfl) (by decide) a
theorem ia60_0 (g off : Nat) : Runs Try.prog (Instr.indexAt 60 (.pointer (some ⟨g, off, none⟩)) (.int .i64 0)) (.pointer (some ⟨g, off + 0, none⟩)) := run_ia (i := 0) (m := 1) (j := 0) Try.underlying60 (by kernel_rfl) rfl g off (by decide) (by decide)
theorem ia60_1 (g off : Nat) : Runs Try.prog (Instr.indexAt 60 (.pointer (some ⟨g, off, none⟩)) (.int .i64 1)) (.pointer (some ⟨g, off + 1, none⟩)) := run_ia (i := 1) (m := 1) (j := 1) Try.underlying60 (by kernel_rfl) rfl g off (by decide) (by decide)
theorem ia60_2 (g off : Nat) : Runs Try.prog (Instr.indexAt 60 (.pointer (some ⟨g, off, none⟩)) (.int .i64 2)) (.pointer (some ⟨g, off + 2, none⟩)) := run_ia (i := 2) (m := 1) (j := 2) Try.underlying60 (by kernel_rfl) rfl g off (by decide) (by decide)
theorem ia60_3 (g off : Nat) : Runs Try.prog (Instr.indexAt 60 (.pointer (some ⟨g, off, none⟩)) (.int .i64 3)) (.pointer (some ⟨g, off + 3, none⟩)) := run_ia (i := 3) (m := 1) (j := 3) Try.underlying60 (by kernel_rfl) rfl g off (by decide) (by decide)
theorem ia60_4 (g off : Nat) : Runs Try.prog (Instr.indexAt 60 (.pointer (some ⟨g, off, none⟩)) (.int .i64 4)) (.pointer (some ⟨g, off + 4, none⟩)) := run_ia (i := 4) (m := 1) (j := 4) Try.underlying60 (by kernel_rfl) rfl g off (by decide) (by decide)
theorem ia60_5 (g off : Nat) : Runs Try.prog (Instr.indexAt 60 (.pointer (some ⟨g, off, none⟩)) (.int .i64 5)) (.pointer (some ⟨g, off + 5, none⟩)) := run_ia (i := 5) (m := 1) (j := 5) Try.underlying60 (by kernel_rfl) rfl g off (by decide) (by decide)
theorem ix118_0 (x0 : Int) (x1 : Int) : Runs Try.prog (Instr.index 118 (.agg #[.int .i64 x0, .int .i64 x1]) (.int .i64 0)) (.int .i64 x0) := run_ixc (xs := [.int .i64 x0, .int .i64 x1]) Try.underlying118 cell3 (by decide) (by decide) rfl
theorem ix118_1 (x0 : Int) (x1 : Int) : Runs Try.prog (Instr.index 118 (.agg #[.int .i64 x0, .int .i64 x1]) (.int .i64 1)) (.int .i64 x1) := run_ixc (xs := [.int .i64 x0, .int .i64 x1]) Try.underlying118 cell3 (by decide) (by decide) rfl
theorem zero26 : Zero Try.prog 26 [.int .i64 0, .int .i64 0, .bool false] := ⟨⟨.agg #[.int .i64 0, .int .i64 0, .bool false], by kernel_rfl, rfl⟩⟩
theorem zero57 : Zero Try.prog 57 [.int .i64 0, .int .i64 0, .bool false, .int .i64 0, .int .i64 0, .bool false, .int .i64 0, .int .i64 0, .bool false] := ⟨⟨.agg #[.int .i64 0, .int .i64 0, .bool false, .int .i64 0, .int .i64 0, .bool false, .int .i64 0, .int .i64 0, .bool false], by kernel_rfl, rfl⟩⟩
end Go.Proofs.Ythngkopcadlciaa
namespace Go.Proofs.Ythngkopcadlciaa
open Go.RowKit
attribute [local irreducible] AC AR DWalk
def rIn (n : Int) : Bool := (bif decide (n ≥ (-1073741824)) then decide (n ≤ 1073741824) else false)
set_option maxRecDepth 100000 in
theorem c_rIn (n : Int) : Gets Try.prog 92 #[.int .i64 n] ((fun (r : Bool) => (.bool r : Value)) (rIn n)) := by
 refine gets_fin Try.func92 rfl rfl rfl (aQ (aL (aA 2 (.bool false) rfl rfl (aN (aQ (aL (aM 3 (.int .i64 n) rfl rfl (aB 4 (.bool (decide (n ≥ (-1073741824)))) rfl rfl rfl (bi_geq rfl) (aM 5 (.bool (decide (n ≥ (-1073741824)))) rfl rfl ?_)))))))))
 refine bool_split (decide (n ≥ (-1073741824))) (fun h1 => ?_) (fun h1 => ?_)
 ·refine ar_gd (d := (some 6)) (by show ((decide (n ≥ (-1073741824))) == true) = true; rw [h1]; rfl) rfl (st_move (v := .int .i64 n) rfl rfl (ar_gd (d := (some 7)) (by show ((decide (n ≥ (-1073741824))) == true) = true; rw [h1]; rfl) rfl (st_bi (r := .bool (decide (n ≤ 1073741824))) rfl rfl rfl (bi_leq rfl) (ao 8 rfl rfl (st_pkt' (b := decide (n ≥ (-1073741824))) (v := .bool (decide (n ≤ 1073741824))) h1 rfl rfl rfl (aA 2 (.bool (decide (n ≤ 1073741824))) rfl rfl (aN (ac_ret (fin_eq (v := .bool (decide (n ≤ 1073741824))) (by show _ = (fun (r : Bool) => (.bool r : Value)) (rIn n); rw [rIn, h1] <;> rfl) (fin_ret (res_tmp rfl rfl)))))))))))
 ·refine aK 6 (by show ((decide (n ≥ (-1073741824))) == true) = false; rw [h1]; rfl) rfl (aK 7 (by show ((decide (n ≥ (-1073741824))) == true) = false; rw [h1]; rfl) rfl (ao 8 rfl rfl (st_pkf' (b := decide (n ≥ (-1073741824))) (v := .bool false) h1 rfl rfl rfl (aA 2 (.bool false) rfl rfl (aN (ac_ret (fin_eq (v := .bool false) (by show _ = (fun (r : Bool) => (.bool r : Value)) (rIn n); rw [rIn, h1] <;> rfl) (fin_ret (res_tmp rfl rfl)))))))))
def rFloor_e0 (a : Int) (b : Int) : Int := (bif (decide ((Int.tmod a b) < 0)) != (decide (b < 0)) then (w64 ((w64 (Int.tdiv a b)) - 1)) else (w64 (Int.tdiv a b)))
def rFloor (a : Int) (b : Int) : Int := (bif b == 0 then 0 else (bif (Int.tmod a b) != 0 then (rFloor_e0 a b) else w64 (Int.tdiv a b)))
set_option maxRecDepth 100000 in
theorem c_rFloor (a : Int) (b : Int) : Gets Try.prog 128 #[.int .i64 a, .int .i64 b] ((fun (r : Int) => (.int .i64 r : Value)) (rFloor a b)) := by
 refine gets_fin Try.func128 rfl rfl rfl (aQ (aL (aA 4 (.int .i64 0) rfl rfl (aN (aQ (aQ (aL (aM 7 (.int .i64 b) rfl rfl (aB 8 (.bool (b == 0)) rfl rfl rfl (bi_eql rfl) (aN ?_))))))))))
 refine bool_split (b == 0) (fun h1 => ?_) (fun h1 => ?_)
 ·refine ac_then' (b := b == 0) h1 rfl (aQ (aL (aA 4 (.int .i64 0) rfl rfl (aN (ac_ret (fin_eq (v := .int .i64 0) (by show _ = (fun (r : Int) => (.int .i64 r : Value)) (rFloor a b); rw [rFloor, h1] <;> rfl) (fin_ret (res_tmp rfl rfl))))))))
 ·refine ac_else' (b := b == 0) h1 rfl (ac_skip (aQ (aL (aM 9 (.int .i64 a) rfl rfl (aM 10 (.int .i64 b) rfl rfl (aB 11 (.int .i64 (w64 (Int.tdiv a b))) rfl rfl rfl (bi_quo (ne_of_beq0 h1) rfl) (aA 5 (.int .i64 (w64 (Int.tdiv a b))) rfl rfl (aN (aQ (aQ (aL (aM 12 (.int .i64 a) rfl rfl (aM 13 (.int .i64 b) rfl rfl (aB 14 (.int .i64 (Int.tmod a b)) rfl rfl rfl (bi_rem (ne_of_beq0 h1) rfl) (aA 6 (.int .i64 (Int.tmod a b)) rfl rfl (aN (aQ (aL (aM 15 (.int .i64 (Int.tmod a b)) rfl rfl (aB 16 (.bool ((Int.tmod a b) != 0)) rfl rfl rfl (bi_neq rfl) (aM 17 (.bool ((Int.tmod a b) != 0)) rfl rfl ?_)))))))))))))))))))))
  refine bool_split ((Int.tmod a b) != 0) (fun h2 => ?_) (fun h2 => ?_)
  ·refine ar_gd (d := (some 18)) (by show (((Int.tmod a b) != 0) == true) = true; rw [h2]; rfl) rfl (st_move (v := .int .i64 (Int.tmod a b)) rfl rfl (ar_gd (d := (some 19)) (by show (((Int.tmod a b) != 0) == true) = true; rw [h2]; rfl) rfl (st_bi (r := .bool (decide ((Int.tmod a b) < 0))) rfl rfl rfl (bi_lss rfl) (ar_gd (d := (some 20)) (by show (((Int.tmod a b) != 0) == true) = true; rw [h2]; rfl) rfl (st_move (v := .int .i64 b) rfl rfl (ar_gd (d := (some 21)) (by show (((Int.tmod a b) != 0) == true) = true; rw [h2]; rfl) rfl (st_bi (r := .bool (decide (b < 0))) rfl rfl rfl (bi_lss rfl) ?_)))))))
   refine ar_gd (d := (some 22)) (by show (((Int.tmod a b) != 0) == true) = true; rw [h2]; rfl) rfl (st_bi (r := .bool ((decide ((Int.tmod a b) < 0)) != (decide (b < 0)))) rfl rfl rfl (bb_neq Try.underlying4 rfl) (ao 23 rfl rfl (st_pkt' (b := (Int.tmod a b) != 0) (v := .bool ((decide ((Int.tmod a b) < 0)) != (decide (b < 0)))) h2 rfl rfl rfl (aN ?_))))
   refine ac_mergeE (fun E9 => (((Env.put E9 (some 24) (.int .i64 (w64 (Int.tdiv a b)))).put (some 25) (.int .i64 (w64 ((w64 (Int.tdiv a b)) - 1)))).put (some 5) (.int .i64 (w64 ((w64 (Int.tdiv a b)) - 1))))) (fun E9 => (((Env.put E9 (some 24) (bif (decide ((Int.tmod a b) < 0)) != (decide (b < 0)) then (.int .i64 (w64 (Int.tdiv a b)) : Value) else E9 24)).put (some 25) (bif (decide ((Int.tmod a b) < 0)) != (decide (b < 0)) then (.int .i64 (w64 ((w64 (Int.tdiv a b)) - 1)) : Value) else E9 25)).put (some 5) (.int .i64 (rFloor_e0 a b)))) (b := (decide ((Int.tmod a b) < 0)) != (decide (b < 0))) rfl (fun hm => ?_) (fun hm => ?_) (fun hm => ?_) ?_
   ·refine aL (aM 24 (.int .i64 (w64 (Int.tdiv a b))) rfl rfl (aB 25 (.int .i64 (w64 ((w64 (Int.tdiv a b)) - 1))) rfl rfl rfl (bi_sub rfl) (aA 5 (.int .i64 (w64 ((w64 (Int.tdiv a b)) - 1))) rfl rfl (aN ?_))))
    exact ⟨rfl, rfl, rfl⟩
   ·unfold rFloor_e0; rw [hm]; rfl
   ·unfold rFloor_e0; rw [hm]; exact ((put_self rfl).trans ((put_self rfl).trans (put_self rfl)))
   refine aQ (aL (aM 26 (.int .i64 (rFloor_e0 a b)) rfl rfl (aA 4 (.int .i64 (rFloor_e0 a b)) rfl rfl (aN (ac_ret (fin_eq (v := .int .i64 (rFloor_e0 a b)) (by show _ = (fun (r : Int) => (.int .i64 r : Value)) (rFloor a b); rw [rFloor, h2, h1] <;> rfl) (fin_ret (res_tmp rfl rfl))))))))
  ·refine aK 18 (by show (((Int.tmod a b) != 0) == true) = false; rw [h2]; rfl) rfl (aK 19 (by show (((Int.tmod a b) != 0) == true) = false; rw [h2]; rfl) rfl (aK 20 (by show (((Int.tmod a b) != 0) == true) = false; rw [h2]; rfl) rfl (aK 21 (by show (((Int.tmod a b) != 0) == true) = false; rw [h2]; rfl) rfl (aK 22 (by show (((Int.tmod a b) != 0) == true) = false; rw [h2]; rfl) rfl (ao 23 rfl rfl (st_pkf' (b := (Int.tmod a b) != 0) (v := .bool false) h2 rfl rfl rfl (aN (ac_else rfl (ac_skip (aQ (aL (aM 26 (.int .i64 (w64 (Int.tdiv a b))) rfl rfl (aA 4 (.int .i64 (w64 (Int.tdiv a b))) rfl rfl (aN (ac_ret ?_)))))))))))))))
   exact fin_eq (v := .int .i64 (w64 (Int.tdiv a b))) (by show _ = (fun (r : Int) => (.int .i64 r : Value)) (rFloor a b); rw [rFloor, h2, h1] <;> rfl) (fin_ret (res_tmp rfl rfl))
def rCeil_e0 (a : Int) (b : Int) : Int := (bif (w64 ((rFloor a b) * b)) != a then (w64 ((rFloor a b) + 1)) else (rFloor a b))
def rCeil (a : Int) (b : Int) : Int := (rCeil_e0 a b)
set_option maxRecDepth 100000 in
theorem c_rCeil (a : Int) (b : Int) : Gets Try.prog 130 #[.int .i64 a, .int .i64 b] ((fun (r : Int) => (.int .i64 r : Value)) (rCeil a b)) := by
 refine gets_fin Try.func130 rfl rfl rfl (aQ (aL (aA 4 (.int .i64 0) rfl rfl (aN (aQ (aL (aM 6 (.int .i64 a) rfl rfl (aM 7 (.int .i64 b) rfl rfl (aC 8 (c_rFloor a b) Try.func128 ⟨rfl, by decide⟩ rfl rfl (aA 5 (.int .i64 (rFloor a b)) rfl rfl (aN (aQ (aQ (aL (aM 9 (.int .i64 (rFloor a b)) rfl rfl (aM 10 (.int .i64 b) rfl rfl (aB 11 (.int .i64 (w64 ((rFloor a b) * b))) rfl rfl rfl (bi_mul rfl) (aM 12 (.int .i64 a) rfl rfl (aB 13 (.bool ((w64 ((rFloor a b) * b)) != a)) rfl rfl rfl (bi_neq rfl) (aN ?_))))))))))))))))))))
 refine ac_mergeE (fun E9 => (((Env.put E9 (some 14) (.int .i64 (rFloor a b))).put (some 15) (.int .i64 (w64 ((rFloor a b) + 1)))).put (some 5) (.int .i64 (w64 ((rFloor a b) + 1))))) (fun E9 => (((Env.put E9 (some 14) (bif (w64 ((rFloor a b) * b)) != a then (.int .i64 (rFloor a b) : Value) else E9 14)).put (some 15) (bif (w64 ((rFloor a b) * b)) != a then (.int .i64 (w64 ((rFloor a b) + 1)) : Value) else E9 15)).put (some 5) (.int .i64 (rCeil_e0 a b)))) (b := (w64 ((rFloor a b) * b)) != a) rfl (fun hm => ?_) (fun hm => ?_) (fun hm => ?_) ?_
 ·refine aL (aM 14 (.int .i64 (rFloor a b)) rfl rfl (aB 15 (.int .i64 (w64 ((rFloor a b) + 1))) rfl rfl rfl (bi_add rfl) (aA 5 (.int .i64 (w64 ((rFloor a b) + 1))) rfl rfl (aN ?_))))
  exact ⟨rfl, rfl, rfl⟩
 ·unfold rCeil_e0; rw [hm]; rfl
 ·unfold rCeil_e0; rw [hm]; exact ((put_self rfl).trans ((put_self rfl).trans (put_self rfl)))
 refine aQ (aL (aM 16 (.int .i64 (rCeil_e0 a b)) rfl rfl (aA 4 (.int .i64 (rCeil_e0 a b)) rfl rfl (aN (ac_ret (fin_eq (v := .int .i64 (rCeil_e0 a b)) rfl (fin_ret (res_tmp rfl rfl))))))))
def rTold (n : Int) : Int × Bool := (bif rIn n then (n, true) else (0, false))
set_option maxRecDepth 100000 in
theorem c_rTold (n : Int) : Gets Try.prog 131 #[.int .i64 n] ((fun (r : Int × Bool) => (.tuple #[.int .i64 r.1, .bool r.2] : Value)) (rTold n)) := by
 refine gets_fin Try.func131 rfl rfl rfl (aQ (aL (aA 2 (.int .i64 0) rfl rfl (aA 3 (.bool false) rfl rfl (aN (aQ (aQ (aL (aM 4 (.int .i64 n) rfl rfl (aC 5 (c_rIn n) Try.func92 ⟨rfl, by decide⟩ rfl rfl (ao 6 rfl rfl (st_un (v := .bool (!(rIn n))) rfl rfl (un_not rfl) (aN ?_)))))))))))))
 refine bool_split (rIn n) (fun h1 => ?_) (fun h1 => ?_)
 ·refine ac_else' (b := !(rIn n)) (by rw [h1]; rfl) rfl (ac_skip (aQ (aL (aM 7 (.int .i64 n) rfl rfl (aA 2 (.int .i64 n) rfl rfl (aA 3 (.bool true) rfl rfl (aN (ac_ret (fin_eq (v := .tuple #[.int .i64 n, .bool true]) (by show _ = (fun (r : Int × Bool) => (.tuple #[.int .i64 r.1, .bool r.2] : Value)) (rTold n); rw [rTold, h1] <;> rfl) (fin_ret (res_tt rfl rfl rfl)))))))))))
 ·refine ac_then' (b := !(rIn n)) (by rw [h1]; rfl) rfl (aQ (aL (aA 2 (.int .i64 0) rfl rfl (aA 3 (.bool false) rfl rfl (aN (ac_ret (fin_eq (v := .tuple #[.int .i64 0, .bool false]) (by show _ = (fun (r : Int × Bool) => (.tuple #[.int .i64 r.1, .bool r.2] : Value)) (rTold n); rw [rTold, h1] <;> rfl) (fin_ret (res_tt rfl rfl rfl)))))))))
def rMul (a : Int) (b : Int) (up : Bool) : Int × Bool := (bif rIn a then (bif rIn b then (bif up then ((rTold (rCeil (w64 (a * b)) 65536)).1, (rTold (rCeil (w64 (a * b)) 65536)).2) else ((rTold (rFloor (w64 (a * b)) 65536)).1, (rTold (rFloor (w64 (a * b)) 65536)).2)) else (0, false)) else (0, false))
set_option maxRecDepth 100000 in
theorem c_rMul (a : Int) (b : Int) (up : Bool) : Gets Try.prog 115 #[.int .i64 a, .int .i64 b, .bool up] ((fun (r : Int × Bool) => (.tuple #[.int .i64 r.1, .bool r.2] : Value)) (rMul a b up)) := by
 refine gets_fin Try.func115 rfl rfl rfl (aQ (aL (aA 6 (.int .i64 0) rfl rfl (aA 7 (.bool false) rfl rfl (aN (aQ (aQ (aL (aM 8 (.int .i64 a) rfl rfl (aC 9 (c_rIn a) Try.func92 ⟨rfl, by decide⟩ rfl rfl (ao 10 rfl rfl (st_un (v := .bool (!(rIn a))) rfl rfl (un_not rfl) (aM 11 (.bool (!(rIn a))) rfl rfl ?_)))))))))))))
 refine bool_split (rIn a) (fun h1 => ?_) (fun h1 => ?_)
 ·refine ar_gd (d := (some 12)) (by show ((!(rIn a)) == false) = true; rw [h1]; rfl) rfl (st_move (v := .int .i64 b) rfl rfl (ar_gd (d := (some 13)) (by show ((!(rIn a)) == false) = true; rw [h1]; rfl) rfl (st_cf (c_rIn b) Try.func92 rfl (by decide) rfl rfl rfl (ar_gd (d := (some 14)) (by show ((!(rIn a)) == false) = true; rw [h1]; rfl) rfl (st_un (v := .bool (!(rIn b))) rfl rfl (un_not rfl) (ao 15 rfl rfl (st_pkf' (b := !(rIn a)) (v := .bool (!(rIn b))) (by rw [h1]; rfl) rfl rfl rfl (aN ?_))))))))
  refine bool_split (rIn b) (fun h2 => ?_) (fun h2 => ?_)
  ·refine ac_else' (b := !(rIn b)) (by rw [h2]; rfl) rfl (ac_skip (aQ (aQ (aL (aM 16 (.bool up) rfl rfl (aN ?_))))))
   refine bool_split (up) (fun h3 => ?_) (fun h3 => ?_)
   ·refine ac_then' (b := up) h3 rfl (aQ (aL (aM 17 (.int .i64 a) rfl rfl (aM 18 (.int .i64 b) rfl rfl (aB 19 (.int .i64 (w64 (a * b))) rfl rfl rfl (bi_mul rfl) (aC 20 (c_rCeil (w64 (a * b)) 65536) Try.func130 ⟨rfl, by decide⟩ rfl rfl (aC 21 (c_rTold (rCeil (w64 (a * b)) 65536)) Try.func131 ⟨rfl, by decide⟩ rfl rfl (aX 22 (.int .i64 ((rTold (rCeil (w64 (a * b)) 65536)).1)) rfl rfl rfl (aX 23 (.bool ((rTold (rCeil (w64 (a * b)) 65536)).2)) rfl rfl rfl (aA 6 (.int .i64 ((rTold (rCeil (w64 (a * b)) 65536)).1)) rfl rfl (aA 7 (.bool ((rTold (rCeil (w64 (a * b)) 65536)).2)) rfl rfl (aN (ac_ret ?_)))))))))))))
    exact fin_eq (v := .tuple #[.int .i64 ((rTold (rCeil (w64 (a * b)) 65536)).1), .bool ((rTold (rCeil (w64 (a * b)) 65536)).2)]) (by show _ = (fun (r : Int × Bool) => (.tuple #[.int .i64 r.1, .bool r.2] : Value)) (rMul a b up); rw [rMul, h3, h2, h1] <;> rfl) (fin_ret (res_tt rfl rfl rfl))
   ·refine ac_else' (b := up) h3 rfl (ac_skip (aQ (aL (aM 24 (.int .i64 a) rfl rfl (aM 25 (.int .i64 b) rfl rfl (aB 26 (.int .i64 (w64 (a * b))) rfl rfl rfl (bi_mul rfl) (aC 27 (c_rFloor (w64 (a * b)) 65536) Try.func128 ⟨rfl, by decide⟩ rfl rfl (aC 28 (c_rTold (rFloor (w64 (a * b)) 65536)) Try.func131 ⟨rfl, by decide⟩ rfl rfl (aX 29 (.int .i64 ((rTold (rFloor (w64 (a * b)) 65536)).1)) rfl rfl rfl (aX 30 (.bool ((rTold (rFloor (w64 (a * b)) 65536)).2)) rfl rfl rfl (aA 6 (.int .i64 ((rTold (rFloor (w64 (a * b)) 65536)).1)) rfl rfl (aA 7 (.bool ((rTold (rFloor (w64 (a * b)) 65536)).2)) rfl rfl (aN (ac_ret ?_))))))))))))))
    exact fin_eq (v := .tuple #[.int .i64 ((rTold (rFloor (w64 (a * b)) 65536)).1), .bool ((rTold (rFloor (w64 (a * b)) 65536)).2)]) (by show _ = (fun (r : Int × Bool) => (.tuple #[.int .i64 r.1, .bool r.2] : Value)) (rMul a b up); rw [rMul, h3, h2, h1] <;> rfl) (fin_ret (res_tt rfl rfl rfl))
  ·refine ac_then' (b := !(rIn b)) (by rw [h2]; rfl) rfl (aQ (aL (aA 6 (.int .i64 0) rfl rfl (aA 7 (.bool false) rfl rfl (aN (ac_ret (fin_eq (v := .tuple #[.int .i64 0, .bool false]) (by show _ = (fun (r : Int × Bool) => (.tuple #[.int .i64 r.1, .bool r.2] : Value)) (rMul a b up); rw [rMul, h2, h1] <;> rfl) (fin_ret (res_tt rfl rfl rfl)))))))))
 ·refine aK 12 (by show ((!(rIn a)) == false) = false; rw [h1]; rfl) rfl (aK 13 (by show ((!(rIn a)) == false) = false; rw [h1]; rfl) rfl (aK 14 (by show ((!(rIn a)) == false) = false; rw [h1]; rfl) rfl (ao 15 rfl rfl (st_pkt' (b := !(rIn a)) (v := .bool true) (by rw [h1]; rfl) rfl rfl rfl (aN (ac_then rfl (aQ (aL (aA 6 (.int .i64 0) rfl rfl (aA 7 (.bool false) rfl rfl (aN (ac_ret (fin_eq (v := .tuple #[.int .i64 0, .bool false]) (by show _ = (fun (r : Int × Bool) => (.tuple #[.int .i64 r.1, .bool r.2] : Value)) (rMul a b up); rw [rMul, h1] <;> rfl) (fin_ret (res_tt rfl rfl rfl)))))))))))))))
def rDiv (a : Int) (b : Int) (up : Bool) : Int × Bool := (bif rIn a then (bif rIn b then (bif b == 0 then (0, false) else (bif up then ((rTold (rCeil (w64 (a * 65536)) b)).1, (rTold (rCeil (w64 (a * 65536)) b)).2) else ((rTold (rFloor (w64 (a * 65536)) b)).1, (rTold (rFloor (w64 (a * 65536)) b)).2))) else (0, false)) else (0, false))
set_option maxRecDepth 100000 in
theorem c_rDiv (a : Int) (b : Int) (up : Bool) : Gets Try.prog 132 #[.int .i64 a, .int .i64 b, .bool up] ((fun (r : Int × Bool) => (.tuple #[.int .i64 r.1, .bool r.2] : Value)) (rDiv a b up)) := by
 refine gets_fin Try.func132 rfl rfl rfl (aQ (aL (aA 6 (.int .i64 0) rfl rfl (aA 7 (.bool false) rfl rfl (aN (aQ (aQ (aL (aM 8 (.int .i64 a) rfl rfl (aC 9 (c_rIn a) Try.func92 ⟨rfl, by decide⟩ rfl rfl (ao 10 rfl rfl (st_un (v := .bool (!(rIn a))) rfl rfl (un_not rfl) (aM 11 (.bool (!(rIn a))) rfl rfl ?_)))))))))))))
 refine bool_split (rIn a) (fun h1 => ?_) (fun h1 => ?_)
 ·refine ar_gd (d := (some 12)) (by show ((!(rIn a)) == false) = true; rw [h1]; rfl) rfl (st_move (v := .int .i64 b) rfl rfl (ar_gd (d := (some 13)) (by show ((!(rIn a)) == false) = true; rw [h1]; rfl) rfl (st_cf (c_rIn b) Try.func92 rfl (by decide) rfl rfl rfl (ar_gd (d := (some 14)) (by show ((!(rIn a)) == false) = true; rw [h1]; rfl) rfl (st_un (v := .bool (!(rIn b))) rfl rfl (un_not rfl) (ao 15 rfl rfl (st_pkf' (b := !(rIn a)) (v := .bool (!(rIn b))) (by rw [h1]; rfl) rfl rfl rfl (aM 16 (.bool (!(rIn b))) rfl rfl ?_))))))))
  refine bool_split (rIn b) (fun h2 => ?_) (fun h2 => ?_)
  ·refine ar_gd (d := (some 17)) (by show ((!(rIn b)) == false) = true; rw [h2]; rfl) rfl (st_move (v := .int .i64 b) rfl rfl (ar_gd (d := (some 18)) (by show ((!(rIn b)) == false) = true; rw [h2]; rfl) rfl (st_bi (r := .bool (b == 0)) rfl rfl rfl (bi_eql rfl) (ao 19 rfl rfl (st_pkf' (b := !(rIn b)) (v := .bool (b == 0)) (by rw [h2]; rfl) rfl rfl rfl (aN ?_))))))
   refine bool_split (b == 0) (fun h3 => ?_) (fun h3 => ?_)
   ·refine ac_then' (b := b == 0) h3 rfl (aQ (aL (aA 6 (.int .i64 0) rfl rfl (aA 7 (.bool false) rfl rfl (aN (ac_ret (fin_eq (v := .tuple #[.int .i64 0, .bool false]) (by show _ = (fun (r : Int × Bool) => (.tuple #[.int .i64 r.1, .bool r.2] : Value)) (rDiv a b up); rw [rDiv, h3, h2, h1] <;> rfl) (fin_ret (res_tt rfl rfl rfl)))))))))
   ·refine ac_else' (b := b == 0) h3 rfl (ac_skip (aQ (aQ (aL (aM 20 (.bool up) rfl rfl (aN ?_))))))
    refine bool_split (up) (fun h4 => ?_) (fun h4 => ?_)
    ·refine ac_then' (b := up) h4 rfl (aQ (aL (aM 21 (.int .i64 a) rfl rfl (aB 22 (.int .i64 (w64 (a * 65536))) rfl rfl rfl (bi_mul rfl) (aM 23 (.int .i64 b) rfl rfl (aC 24 (c_rCeil (w64 (a * 65536)) b) Try.func130 ⟨rfl, by decide⟩ rfl rfl (aC 25 (c_rTold (rCeil (w64 (a * 65536)) b)) Try.func131 ⟨rfl, by decide⟩ rfl rfl (aX 26 (.int .i64 ((rTold (rCeil (w64 (a * 65536)) b)).1)) rfl rfl rfl (aX 27 (.bool ((rTold (rCeil (w64 (a * 65536)) b)).2)) rfl rfl rfl (aA 6 (.int .i64 ((rTold (rCeil (w64 (a * 65536)) b)).1)) rfl rfl (aA 7 (.bool ((rTold (rCeil (w64 (a * 65536)) b)).2)) rfl rfl (aN (ac_ret ?_)))))))))))))
     exact fin_eq (v := .tuple #[.int .i64 ((rTold (rCeil (w64 (a * 65536)) b)).1), .bool ((rTold (rCeil (w64 (a * 65536)) b)).2)]) (by show _ = (fun (r : Int × Bool) => (.tuple #[.int .i64 r.1, .bool r.2] : Value)) (rDiv a b up); rw [rDiv, h4, h3, h2, h1] <;> rfl) (fin_ret (res_tt rfl rfl rfl))
    ·refine ac_else' (b := up) h4 rfl (ac_skip (aQ (aL (aM 28 (.int .i64 a) rfl rfl (aB 29 (.int .i64 (w64 (a * 65536))) rfl rfl rfl (bi_mul rfl) (aM 30 (.int .i64 b) rfl rfl (aC 31 (c_rFloor (w64 (a * 65536)) b) Try.func128 ⟨rfl, by decide⟩ rfl rfl (aC 32 (c_rTold (rFloor (w64 (a * 65536)) b)) Try.func131 ⟨rfl, by decide⟩ rfl rfl (aX 33 (.int .i64 ((rTold (rFloor (w64 (a * 65536)) b)).1)) rfl rfl rfl (aX 34 (.bool ((rTold (rFloor (w64 (a * 65536)) b)).2)) rfl rfl rfl (aA 6 (.int .i64 ((rTold (rFloor (w64 (a * 65536)) b)).1)) rfl rfl (aA 7 (.bool ((rTold (rFloor (w64 (a * 65536)) b)).2)) rfl rfl (aN (ac_ret ?_))))))))))))))
     exact fin_eq (v := .tuple #[.int .i64 ((rTold (rFloor (w64 (a * 65536)) b)).1), .bool ((rTold (rFloor (w64 (a * 65536)) b)).2)]) (by show _ = (fun (r : Int × Bool) => (.tuple #[.int .i64 r.1, .bool r.2] : Value)) (rDiv a b up); rw [rDiv, h4, h3, h2, h1] <;> rfl) (fin_ret (res_tt rfl rfl rfl))
  ·refine aK 17 (by show ((!(rIn b)) == false) = false; rw [h2]; rfl) rfl (aK 18 (by show ((!(rIn b)) == false) = false; rw [h2]; rfl) rfl (ao 19 rfl rfl (st_pkt' (b := !(rIn b)) (v := .bool true) (by rw [h2]; rfl) rfl rfl rfl (aN (ac_then rfl (aQ (aL (aA 6 (.int .i64 0) rfl rfl (aA 7 (.bool false) rfl rfl (aN (ac_ret (fin_eq (v := .tuple #[.int .i64 0, .bool false]) (by show _ = (fun (r : Int × Bool) => (.tuple #[.int .i64 r.1, .bool r.2] : Value)) (rDiv a b up); rw [rDiv, h2, h1] <;> rfl) (fin_ret (res_tt rfl rfl rfl))))))))))))))
 ·refine aK 12 (by show ((!(rIn a)) == false) = false; rw [h1]; rfl) rfl (aK 13 (by show ((!(rIn a)) == false) = false; rw [h1]; rfl) rfl (aK 14 (by show ((!(rIn a)) == false) = false; rw [h1]; rfl) rfl (ao 15 rfl rfl (st_pkt' (b := !(rIn a)) (v := .bool true) (by rw [h1]; rfl) rfl rfl rfl (aM 16 (.bool true) rfl rfl (aK 17 rfl rfl (aK 18 rfl rfl (ao 19 rfl rfl (st_pkt (v := .bool true) rfl rfl rfl (aN (ac_then rfl (aQ (aL (aA 6 (.int .i64 0) rfl rfl (aA 7 (.bool false) rfl rfl (aN (ac_ret ?_)))))))))))))))))
  exact fin_eq (v := .tuple #[.int .i64 0, .bool false]) (by show _ = (fun (r : Int × Bool) => (.tuple #[.int .i64 r.1, .bool r.2] : Value)) (rDiv a b up); rw [rDiv, h1] <;> rfl) (fin_ret (res_tt rfl rfl rfl))
end Go.Proofs.Ythngkopcadlciaa
namespace Go.Proofs.Ythngkopcadlciaa
open Go.RowKit
attribute [local irreducible] AC AR DWalk
def rRootLoop (n : Int) : Nat → Int → Int
 | 0, r => r
 | j + 1, r => bif decide ((w64 ((w64 (r + (w64 (1 * 2 ^ (min (Int.toNat (IntKind.u64.wrap (j : Int))) 64))))) * (w64 (r + (w64 (1 * 2 ^ (min (Int.toNat (IntKind.u64.wrap (j : Int))) 64))))))) ≤ n) then rRootLoop n j (w64 (r + (w64 (1 * 2 ^ (min (Int.toNat (IntKind.u64.wrap (j : Int))) 64))))) else rRootLoop n j r
set_option maxRecDepth 100000 in
theorem c_rRoot_loop (n : Int) (up : Bool) {Q : Exit → Env → List Box → Prop} {H : List Box} {c : Code} (hc : Try.f113.body.bind loopOf = some c) : ∀ (j : Nat) (r k : Int) (E : Env), j ≤ 64 → k = (j : Int) - 1 → E 1 = .bool up → E 6 = .int .i64 n → E 7 = .int .i64 r → E 8 = .int .i64 k →
  (∀ E' : Env, E' 1 = .bool up → E' 6 = .int .i64 n → E' 7 = .int .i64 (rRootLoop n j r) → Q (.exit 0) E' H) → ARounds Try.prog 48 c Q (j + 1) E H := by
 rw [show Try.f113.body.bind loopOf = some _ from rfl] at hc
 cases hc
 intro j
 induction j with
 | zero =>
  intro r k E hj hk h1 h6 h7 h8 hn
  obtain rfl : k = -1 := by omega
  obtain ⟨E0, rfl⟩ := env4 h1 h6 h7 h8
  refine ar_round (aQ (aQ (aL (aM 19 (.int .i64 (-1)) rfl rfl (aB 20 (.bool false) rfl rfl rfl (bi_geq (by decide)) (aN (ac_else rfl (ac_exit ?_))))))))
  exact hn _ rfl rfl rfl
 | succ j ih =>
  intro r k E hj hk h1 h6 h7 h8 hn
  obtain rfl : k = (j : Int) := by omega
  obtain ⟨E0, rfl⟩ := env4 h1 h6 h7 h8
  have h0 : decide ((j : Int) ≥ 0) = true := decide_eq_true (by omega)
  refine ar_round ?_
  cases h9 : decide ((w64 ((w64 (r + (w64 (1 * 2 ^ (min (Int.toNat (IntKind.u64.wrap (j : Int))) 64))))) * (w64 (r + (w64 (1 * 2 ^ (min (Int.toNat (IntKind.u64.wrap (j : Int))) 64))))))) ≤ n) with
  | false =>
   refine aQ (aQ (aL (aM 19 (.int .i64 (j : Int)) rfl rfl (aB 20 (.bool (decide ((j : Int) ≥ 0))) rfl rfl rfl (bi_geq rfl) (aN (ac_then' (b := decide ((j : Int) ≥ 0)) h0 rfl (ac_skip (aQ (ac_block (aQ (aL (aM 23 (.int .i64 r) rfl rfl (aM 24 (.int .i64 (j : Int)) rfl rfl (ao 25 rfl rfl (st_cv_int (k := .u64) (a := (j : Int)) (c := (IntKind.u64.wrap (j : Int))) Try.underlying144 Try.underlying3 rfl rfl rfl (aB 26 (.int .i64 (w64 (1 * 2 ^ (min (Int.toNat (IntKind.u64.wrap (j : Int))) 64)))) rfl rfl rfl (bi_shl rfl (by rw [IntKind.wrap_u64]; omega)) ?_))))))))))))))))
   refine aB 27 (.int .i64 (w64 (r + (w64 (1 * 2 ^ (min (Int.toNat (IntKind.u64.wrap (j : Int))) 64)))))) rfl rfl rfl (bi_add rfl) (aA 9 (.int .i64 (w64 (r + (w64 (1 * 2 ^ (min (Int.toNat (IntKind.u64.wrap (j : Int))) 64)))))) rfl rfl (aN (aQ (aL (aM 28 (.int .i64 (w64 (r + (w64 (1 * 2 ^ (min (Int.toNat (IntKind.u64.wrap (j : Int))) 64)))))) rfl rfl (aM 29 (.int .i64 (w64 (r + (w64 (1 * 2 ^ (min (Int.toNat (IntKind.u64.wrap (j : Int))) 64)))))) rfl rfl (aB 30 (.int .i64 (w64 ((w64 (r + (w64 (1 * 2 ^ (min (Int.toNat (IntKind.u64.wrap (j : Int))) 64))))) * (w64 (r + (w64 (1 * 2 ^ (min (Int.toNat (IntKind.u64.wrap (j : Int))) 64)))))))) rfl rfl rfl (bi_mul rfl) ?_)))))))
   refine aM 31 (.int .i64 n) rfl rfl (aB 32 (.bool (decide ((w64 ((w64 (r + (w64 (1 * 2 ^ (min (Int.toNat (IntKind.u64.wrap (j : Int))) 64))))) * (w64 (r + (w64 (1 * 2 ^ (min (Int.toNat (IntKind.u64.wrap (j : Int))) 64))))))) ≤ n))) rfl rfl rfl (bi_leq rfl) (aN (ac_else' (b := decide ((w64 ((w64 (r + (w64 (1 * 2 ^ (min (Int.toNat (IntKind.u64.wrap (j : Int))) 64))))) * (w64 (r + (w64 (1 * 2 ^ (min (Int.toNat (IntKind.u64.wrap (j : Int))) 64))))))) ≤ n)) h9 rfl (ac_skip (aL (aM 21 (.int .i64 (j : Int)) rfl rfl (aB 22 (.int .i64 (w64 ((j : Int) - 1))) rfl rfl rfl (bi_sub rfl) (aA 8 (.int .i64 (w64 ((j : Int) - 1))) rfl rfl (aN ?_)))))))))
   refine ih _ _ _ (by omega) (w64_id (by omega)) rfl rfl rfl rfl (fun E' a b c => hn E' a b ?_)
   rw [c, rRootLoop, h9]; rfl
  | true =>
   refine aQ (aQ (aL (aM 19 (.int .i64 (j : Int)) rfl rfl (aB 20 (.bool (decide ((j : Int) ≥ 0))) rfl rfl rfl (bi_geq rfl) (aN (ac_then' (b := decide ((j : Int) ≥ 0)) h0 rfl (ac_skip (aQ (ac_block (aQ (aL (aM 23 (.int .i64 r) rfl rfl (aM 24 (.int .i64 (j : Int)) rfl rfl (ao 25 rfl rfl (st_cv_int (k := .u64) (a := (j : Int)) (c := (IntKind.u64.wrap (j : Int))) Try.underlying144 Try.underlying3 rfl rfl rfl (aB 26 (.int .i64 (w64 (1 * 2 ^ (min (Int.toNat (IntKind.u64.wrap (j : Int))) 64)))) rfl rfl rfl (bi_shl rfl (by rw [IntKind.wrap_u64]; omega)) ?_))))))))))))))))
   refine aB 27 (.int .i64 (w64 (r + (w64 (1 * 2 ^ (min (Int.toNat (IntKind.u64.wrap (j : Int))) 64)))))) rfl rfl rfl (bi_add rfl) (aA 9 (.int .i64 (w64 (r + (w64 (1 * 2 ^ (min (Int.toNat (IntKind.u64.wrap (j : Int))) 64)))))) rfl rfl (aN (aQ (aL (aM 28 (.int .i64 (w64 (r + (w64 (1 * 2 ^ (min (Int.toNat (IntKind.u64.wrap (j : Int))) 64)))))) rfl rfl (aM 29 (.int .i64 (w64 (r + (w64 (1 * 2 ^ (min (Int.toNat (IntKind.u64.wrap (j : Int))) 64)))))) rfl rfl (aB 30 (.int .i64 (w64 ((w64 (r + (w64 (1 * 2 ^ (min (Int.toNat (IntKind.u64.wrap (j : Int))) 64))))) * (w64 (r + (w64 (1 * 2 ^ (min (Int.toNat (IntKind.u64.wrap (j : Int))) 64)))))))) rfl rfl rfl (bi_mul rfl) ?_)))))))
   refine aM 31 (.int .i64 n) rfl rfl (aB 32 (.bool (decide ((w64 ((w64 (r + (w64 (1 * 2 ^ (min (Int.toNat (IntKind.u64.wrap (j : Int))) 64))))) * (w64 (r + (w64 (1 * 2 ^ (min (Int.toNat (IntKind.u64.wrap (j : Int))) 64))))))) ≤ n))) rfl rfl rfl (bi_leq rfl) (aN (ac_then' (b := decide ((w64 ((w64 (r + (w64 (1 * 2 ^ (min (Int.toNat (IntKind.u64.wrap (j : Int))) 64))))) * (w64 (r + (w64 (1 * 2 ^ (min (Int.toNat (IntKind.u64.wrap (j : Int))) 64))))))) ≤ n)) h9 rfl (aL (aM 33 (.int .i64 (w64 (r + (w64 (1 * 2 ^ (min (Int.toNat (IntKind.u64.wrap (j : Int))) 64)))))) rfl rfl ?_)))))
   refine aA 7 (.int .i64 (w64 (r + (w64 (1 * 2 ^ (min (Int.toNat (IntKind.u64.wrap (j : Int))) 64)))))) rfl rfl (aN (aL (aM 21 (.int .i64 (j : Int)) rfl rfl (aB 22 (.int .i64 (w64 ((j : Int) - 1))) rfl rfl rfl (bi_sub rfl) (aA 8 (.int .i64 (w64 ((j : Int) - 1))) rfl rfl (aN ?_))))))
   refine ih _ _ _ (by omega) (w64_id (by omega)) rfl rfl rfl rfl (fun E' a b c => hn E' a b ?_)
   rw [c, rRootLoop, h9]; rfl
def rRoot_e0 (a : Int) (up : Bool) : Int := (bif (w64 ((rRootLoop (w64 (a * 65536)) 24 0) * (rRootLoop (w64 (a * 65536)) 24 0))) != (w64 (a * 65536)) then (w64 ((rRootLoop (w64 (a * 65536)) 24 0) + 1)) else (rRootLoop (w64 (a * 65536)) 24 0))
def rRoot (a : Int) (up : Bool) : Int × Bool := (bif rIn a then (bif decide (a < 0) then (0, false) else (bif up then ((rTold (rRoot_e0 a up)).1, (rTold (rRoot_e0 a up)).2) else ((rTold (rRootLoop (w64 (a * 65536)) 24 0)).1, (rTold (rRootLoop (w64 (a * 65536)) 24 0)).2))) else (0, false))
set_option maxRecDepth 100000 in
theorem c_rRoot (a : Int) (up : Bool) : Gets Try.prog 113 #[.int .i64 a, .bool up] ((fun (r : Int × Bool) => (.tuple #[.int .i64 r.1, .bool r.2] : Value)) (rRoot a up)) := by
 refine gets_fin Try.func113 rfl rfl rfl (aQ (aL (aA 4 (.int .i64 0) rfl rfl (aA 5 (.bool false) rfl rfl (aN (aQ (aQ (aL (aM 10 (.int .i64 a) rfl rfl (aC 11 (c_rIn a) Try.func92 ⟨rfl, by decide⟩ rfl rfl (ao 12 rfl rfl (st_un (v := .bool (!(rIn a))) rfl rfl (un_not rfl) (aM 13 (.bool (!(rIn a))) rfl rfl ?_)))))))))))))
 refine bool_split (rIn a) (fun h1 => ?_) (fun h1 => ?_)
 ·refine ar_gd (d := (some 14)) (by show ((!(rIn a)) == false) = true; rw [h1]; rfl) rfl (st_move (v := .int .i64 a) rfl rfl (ar_gd (d := (some 15)) (by show ((!(rIn a)) == false) = true; rw [h1]; rfl) rfl (st_bi (r := .bool (decide (a < 0))) rfl rfl rfl (bi_lss rfl) (ao 16 rfl rfl (st_pkf' (b := !(rIn a)) (v := .bool (decide (a < 0))) (by rw [h1]; rfl) rfl rfl rfl (aN ?_))))))
  refine bool_split (decide (a < 0)) (fun h2 => ?_) (fun h2 => ?_)
  ·refine ac_then' (b := decide (a < 0)) h2 rfl (aQ (aL (aA 4 (.int .i64 0) rfl rfl (aA 5 (.bool false) rfl rfl (aN (ac_ret (fin_eq (v := .tuple #[.int .i64 0, .bool false]) (by show _ = (fun (r : Int × Bool) => (.tuple #[.int .i64 r.1, .bool r.2] : Value)) (rRoot a up); rw [rRoot, h2, h1] <;> rfl) (fin_ret (res_tt rfl rfl rfl)))))))))
  ·refine ac_else' (b := decide (a < 0)) h2 rfl (ac_skip (aQ (aL (aM 17 (.int .i64 a) rfl rfl (aB 18 (.int .i64 (w64 (a * 65536))) rfl rfl rfl (bi_mul rfl) (aA 6 (.int .i64 (w64 (a * 65536))) rfl rfl (aN (aQ (aL (aA 7 (.int .i64 0) rfl rfl (aN (aQ (aQ (aL (aA 8 (.int .i64 23) rfl rfl (aN (ac_block ?_)))))))))))))))))
   refine ac_rounds 25 ?_
   refine c_rRoot_loop (n := (w64 (a * 65536))) (up := up) rfl 24 0 _ _ (by decide) rfl rfl rfl rfl rfl (fun E1 q1 q6 q7 => ?_)
   obtain ⟨E0, rfl⟩ := env3 q1 q6 q7
   refine aQ (aQ (aL (aM 34 (.bool up) rfl rfl (aM 35 (.bool up) rfl rfl ?_))))
   refine bool_split (up) (fun h3 => ?_) (fun h3 => ?_)
   ·refine ar_gd (d := (some 36)) (by show (up == true) = true; rw [h3]; rfl) rfl (st_move (v := .int .i64 (rRootLoop (w64 (a * 65536)) 24 0)) rfl rfl (ar_gd (d := (some 37)) (by show (up == true) = true; rw [h3]; rfl) rfl (st_move (v := .int .i64 (rRootLoop (w64 (a * 65536)) 24 0)) rfl rfl (ar_gd (d := (some 38)) (by show (up == true) = true; rw [h3]; rfl) rfl (st_bi (r := .int .i64 (w64 ((rRootLoop (w64 (a * 65536)) 24 0) * (rRootLoop (w64 (a * 65536)) 24 0)))) rfl rfl rfl (bi_mul rfl) (ar_gd (d := (some 39)) (by show (up == true) = true; rw [h3]; rfl) rfl (st_move (v := .int .i64 (w64 (a * 65536))) rfl rfl ?_)))))))
    refine ar_gd (d := (some 40)) (by show (up == true) = true; rw [h3]; rfl) rfl (st_bi (r := .bool ((w64 ((rRootLoop (w64 (a * 65536)) 24 0) * (rRootLoop (w64 (a * 65536)) 24 0))) != (w64 (a * 65536)))) rfl rfl rfl (bi_neq rfl) (ao 41 rfl rfl (st_pkt' (b := up) (v := .bool ((w64 ((rRootLoop (w64 (a * 65536)) 24 0) * (rRootLoop (w64 (a * 65536)) 24 0))) != (w64 (a * 65536)))) h3 rfl rfl rfl (aN ?_))))
    refine ac_mergeE (fun E9 => (((Env.put E9 (some 42) (.int .i64 (rRootLoop (w64 (a * 65536)) 24 0))).put (some 43) (.int .i64 (w64 ((rRootLoop (w64 (a * 65536)) 24 0) + 1)))).put (some 7) (.int .i64 (w64 ((rRootLoop (w64 (a * 65536)) 24 0) + 1))))) (fun E9 => (((Env.put E9 (some 42) (bif (w64 ((rRootLoop (w64 (a * 65536)) 24 0) * (rRootLoop (w64 (a * 65536)) 24 0))) != (w64 (a * 65536)) then (.int .i64 (rRootLoop (w64 (a * 65536)) 24 0) : Value) else E9 42)).put (some 43) (bif (w64 ((rRootLoop (w64 (a * 65536)) 24 0) * (rRootLoop (w64 (a * 65536)) 24 0))) != (w64 (a * 65536)) then (.int .i64 (w64 ((rRootLoop (w64 (a * 65536)) 24 0) + 1)) : Value) else E9 43)).put (some 7) (.int .i64 (rRoot_e0 a up)))) (b := (w64 ((rRootLoop (w64 (a * 65536)) 24 0) * (rRootLoop (w64 (a * 65536)) 24 0))) != (w64 (a * 65536))) rfl (fun hm => ?_) (fun hm => ?_) (fun hm => ?_) ?_
    ·refine aL (aM 42 (.int .i64 (rRootLoop (w64 (a * 65536)) 24 0)) rfl rfl (aB 43 (.int .i64 (w64 ((rRootLoop (w64 (a * 65536)) 24 0) + 1))) rfl rfl rfl (bi_add rfl) (aA 7 (.int .i64 (w64 ((rRootLoop (w64 (a * 65536)) 24 0) + 1))) rfl rfl (aN ?_))))
     exact ⟨rfl, rfl, rfl⟩
    ·unfold rRoot_e0; rw [hm]; rfl
    ·unfold rRoot_e0; rw [hm]; exact ((put_self rfl).trans ((put_self rfl).trans (put_self rfl)))
    refine aQ (aL (aM 44 (.int .i64 (rRoot_e0 a up)) rfl rfl (aC 45 (c_rTold (rRoot_e0 a up)) Try.func131 ⟨rfl, by decide⟩ rfl rfl (aX 46 (.int .i64 ((rTold (rRoot_e0 a up)).1)) rfl rfl rfl (aX 47 (.bool ((rTold (rRoot_e0 a up)).2)) rfl rfl rfl (aA 4 (.int .i64 ((rTold (rRoot_e0 a up)).1)) rfl rfl (aA 5 (.bool ((rTold (rRoot_e0 a up)).2)) rfl rfl (aN (ac_ret (fin_eq (v := .tuple #[.int .i64 ((rTold (rRoot_e0 a up)).1), .bool ((rTold (rRoot_e0 a up)).2)]) (by show _ = (fun (r : Int × Bool) => (.tuple #[.int .i64 r.1, .bool r.2] : Value)) (rRoot a up); rw [rRoot, h3, h2, h1] <;> rfl) (fin_ret (res_tt rfl rfl rfl))))))))))))
   ·refine aK 36 (by show (up == true) = false; rw [h3]; rfl) rfl (aK 37 (by show (up == true) = false; rw [h3]; rfl) rfl (aK 38 (by show (up == true) = false; rw [h3]; rfl) rfl (aK 39 (by show (up == true) = false; rw [h3]; rfl) rfl (aK 40 (by show (up == true) = false; rw [h3]; rfl) rfl (ao 41 rfl rfl (st_pkf' (b := up) (v := .bool false) h3 rfl rfl rfl (aN (ac_else rfl (ac_skip (aQ (aL (aM 44 (.int .i64 (rRootLoop (w64 (a * 65536)) 24 0)) rfl rfl (aC 45 (c_rTold (rRootLoop (w64 (a * 65536)) 24 0)) Try.func131 ⟨rfl, by decide⟩ rfl rfl (aX 46 (.int .i64 ((rTold (rRootLoop (w64 (a * 65536)) 24 0)).1)) rfl rfl rfl ?_))))))))))))))
    refine aX 47 (.bool ((rTold (rRootLoop (w64 (a * 65536)) 24 0)).2)) rfl rfl rfl (aA 4 (.int .i64 ((rTold (rRootLoop (w64 (a * 65536)) 24 0)).1)) rfl rfl (aA 5 (.bool ((rTold (rRootLoop (w64 (a * 65536)) 24 0)).2)) rfl rfl (aN (ac_ret (fin_eq (v := .tuple #[.int .i64 ((rTold (rRootLoop (w64 (a * 65536)) 24 0)).1), .bool ((rTold (rRootLoop (w64 (a * 65536)) 24 0)).2)]) (by show _ = (fun (r : Int × Bool) => (.tuple #[.int .i64 r.1, .bool r.2] : Value)) (rRoot a up); rw [rRoot, h3, h2, h1] <;> rfl) (fin_ret (res_tt rfl rfl rfl)))))))
 ·refine aK 14 (by show ((!(rIn a)) == false) = false; rw [h1]; rfl) rfl (aK 15 (by show ((!(rIn a)) == false) = false; rw [h1]; rfl) rfl (ao 16 rfl rfl (st_pkt' (b := !(rIn a)) (v := .bool true) (by rw [h1]; rfl) rfl rfl rfl (aN (ac_then rfl (aQ (aL (aA 4 (.int .i64 0) rfl rfl (aA 5 (.bool false) rfl rfl (aN (ac_ret (fin_eq (v := .tuple #[.int .i64 0, .bool false]) (by show _ = (fun (r : Int × Bool) => (.tuple #[.int .i64 r.1, .bool r.2] : Value)) (rRoot a up); rw [rRoot, h1] <;> rfl) (fin_ret (res_tt rfl rfl rfl))))))))))))))
end Go.Proofs.Ythngkopcadlciaa
namespace Go.Proofs.Ythngkopcadlciaa
open Go.RowKit
attribute [local irreducible] AC AR DWalk
def numIn (n : Int) : Bool := (bif decide (n ≥ (-1073741824)) then decide (n ≤ 1073741824) else false)
set_option maxRecDepth 100000 in
theorem c_numIn (n : Int) : Gets Try.prog 65 #[.int .i64 n] ((fun (r : Bool) => (.bool r : Value)) (numIn n)) := by
 refine gets_fin Try.func65 rfl rfl rfl (aQ (aL (aA 2 (.bool false) rfl rfl (aN (aQ (aL (aM 3 (.int .i64 n) rfl rfl (aB 4 (.bool (decide (n ≥ (-1073741824)))) rfl rfl rfl (bi_geq rfl) (aM 5 (.bool (decide (n ≥ (-1073741824)))) rfl rfl ?_)))))))))
 refine bool_split (decide (n ≥ (-1073741824))) (fun h1 => ?_) (fun h1 => ?_)
 ·refine ar_gd (d := (some 6)) (by show ((decide (n ≥ (-1073741824))) == true) = true; rw [h1]; rfl) rfl (st_move (v := .int .i64 n) rfl rfl (ar_gd (d := (some 7)) (by show ((decide (n ≥ (-1073741824))) == true) = true; rw [h1]; rfl) rfl (st_bi (r := .bool (decide (n ≤ 1073741824))) rfl rfl rfl (bi_leq rfl) (ao 8 rfl rfl (st_pkt' (b := decide (n ≥ (-1073741824))) (v := .bool (decide (n ≤ 1073741824))) h1 rfl rfl rfl (aA 2 (.bool (decide (n ≤ 1073741824))) rfl rfl (aN (ac_ret (fin_eq (v := .bool (decide (n ≤ 1073741824))) (by show _ = (fun (r : Bool) => (.bool r : Value)) (numIn n); rw [numIn, h1] <;> rfl) (fin_ret (res_tmp rfl rfl)))))))))))
 ·refine aK 6 (by show ((decide (n ≥ (-1073741824))) == true) = false; rw [h1]; rfl) rfl (aK 7 (by show ((decide (n ≥ (-1073741824))) == true) = false; rw [h1]; rfl) rfl (ao 8 rfl rfl (st_pkf' (b := decide (n ≥ (-1073741824))) (v := .bool false) h1 rfl rfl rfl (aA 2 (.bool false) rfl rfl (aN (ac_ret (fin_eq (v := .bool false) (by show _ = (fun (r : Bool) => (.bool r : Value)) (numIn n); rw [numIn, h1] <;> rfl) (fin_ret (res_tmp rfl rfl)))))))))
def numFloor_e0 (a : Int) (b : Int) : Int := (bif (decide (a < 0)) != (decide (b < 0)) then (w64 ((w64 (Int.tdiv a b)) - 1)) else (w64 (Int.tdiv a b)))
def numFloor (a : Int) (b : Int) : Int := (bif b == 0 then 0 else (bif (Int.tmod a b) != 0 then (numFloor_e0 a b) else w64 (Int.tdiv a b)))
set_option maxRecDepth 100000 in
theorem c_numFloor (a : Int) (b : Int) : Gets Try.prog 121 #[.int .i64 a, .int .i64 b] ((fun (r : Int) => (.int .i64 r : Value)) (numFloor a b)) := by
 refine gets_fin Try.func121 rfl rfl rfl (aQ (aL (aA 4 (.int .i64 0) rfl rfl (aN (aQ (aQ (aL (aM 6 (.int .i64 b) rfl rfl (aB 7 (.bool (b == 0)) rfl rfl rfl (bi_eql rfl) (aN ?_))))))))))
 refine bool_split (b == 0) (fun h1 => ?_) (fun h1 => ?_)
 ·refine ac_then' (b := b == 0) h1 rfl (aQ (aL (aA 4 (.int .i64 0) rfl rfl (aN (ac_ret (fin_eq (v := .int .i64 0) (by show _ = (fun (r : Int) => (.int .i64 r : Value)) (numFloor a b); rw [numFloor, h1] <;> rfl) (fin_ret (res_tmp rfl rfl))))))))
 ·refine ac_else' (b := b == 0) h1 rfl (ac_skip (aQ (aL (aM 8 (.int .i64 a) rfl rfl (aM 9 (.int .i64 b) rfl rfl (aB 10 (.int .i64 (w64 (Int.tdiv a b))) rfl rfl rfl (bi_quo (ne_of_beq0 h1) rfl) (aA 5 (.int .i64 (w64 (Int.tdiv a b))) rfl rfl (aN (aQ (aQ (aL (aM 11 (.int .i64 a) rfl rfl (aM 12 (.int .i64 b) rfl rfl (aB 13 (.int .i64 (Int.tmod a b)) rfl rfl rfl (bi_rem (ne_of_beq0 h1) rfl) (aB 14 (.bool ((Int.tmod a b) != 0)) rfl rfl rfl (bi_neq rfl) (aM 15 (.bool ((Int.tmod a b) != 0)) rfl rfl ?_))))))))))))))))
  refine bool_split ((Int.tmod a b) != 0) (fun h2 => ?_) (fun h2 => ?_)
  ·refine ar_gd (d := (some 16)) (by show (((Int.tmod a b) != 0) == true) = true; rw [h2]; rfl) rfl (st_move (v := .int .i64 a) rfl rfl (ar_gd (d := (some 17)) (by show (((Int.tmod a b) != 0) == true) = true; rw [h2]; rfl) rfl (st_bi (r := .bool (decide (a < 0))) rfl rfl rfl (bi_lss rfl) (ar_gd (d := (some 18)) (by show (((Int.tmod a b) != 0) == true) = true; rw [h2]; rfl) rfl (st_move (v := .int .i64 b) rfl rfl (ar_gd (d := (some 19)) (by show (((Int.tmod a b) != 0) == true) = true; rw [h2]; rfl) rfl (st_bi (r := .bool (decide (b < 0))) rfl rfl rfl (bi_lss rfl) ?_)))))))
   refine ar_gd (d := (some 20)) (by show (((Int.tmod a b) != 0) == true) = true; rw [h2]; rfl) rfl (st_bi (r := .bool ((decide (a < 0)) != (decide (b < 0)))) rfl rfl rfl (bb_neq Try.underlying4 rfl) (ao 21 rfl rfl (st_pkt' (b := (Int.tmod a b) != 0) (v := .bool ((decide (a < 0)) != (decide (b < 0)))) h2 rfl rfl rfl (aN ?_))))
   refine ac_mergeE (fun E9 => (((Env.put E9 (some 22) (.int .i64 (w64 (Int.tdiv a b)))).put (some 23) (.int .i64 (w64 ((w64 (Int.tdiv a b)) - 1)))).put (some 5) (.int .i64 (w64 ((w64 (Int.tdiv a b)) - 1))))) (fun E9 => (((Env.put E9 (some 22) (bif (decide (a < 0)) != (decide (b < 0)) then (.int .i64 (w64 (Int.tdiv a b)) : Value) else E9 22)).put (some 23) (bif (decide (a < 0)) != (decide (b < 0)) then (.int .i64 (w64 ((w64 (Int.tdiv a b)) - 1)) : Value) else E9 23)).put (some 5) (.int .i64 (numFloor_e0 a b)))) (b := (decide (a < 0)) != (decide (b < 0))) rfl (fun hm => ?_) (fun hm => ?_) (fun hm => ?_) ?_
   ·refine aL (aM 22 (.int .i64 (w64 (Int.tdiv a b))) rfl rfl (aB 23 (.int .i64 (w64 ((w64 (Int.tdiv a b)) - 1))) rfl rfl rfl (bi_sub rfl) (aA 5 (.int .i64 (w64 ((w64 (Int.tdiv a b)) - 1))) rfl rfl (aN ?_))))
    exact ⟨rfl, rfl, rfl⟩
   ·unfold numFloor_e0; rw [hm]; rfl
   ·unfold numFloor_e0; rw [hm]; exact ((put_self rfl).trans ((put_self rfl).trans (put_self rfl)))
   refine aQ (aL (aM 24 (.int .i64 (numFloor_e0 a b)) rfl rfl (aA 4 (.int .i64 (numFloor_e0 a b)) rfl rfl (aN (ac_ret (fin_eq (v := .int .i64 (numFloor_e0 a b)) (by show _ = (fun (r : Int) => (.int .i64 r : Value)) (numFloor a b); rw [numFloor, h2, h1] <;> rfl) (fin_ret (res_tmp rfl rfl))))))))
  ·refine aK 16 (by show (((Int.tmod a b) != 0) == true) = false; rw [h2]; rfl) rfl (aK 17 (by show (((Int.tmod a b) != 0) == true) = false; rw [h2]; rfl) rfl (aK 18 (by show (((Int.tmod a b) != 0) == true) = false; rw [h2]; rfl) rfl (aK 19 (by show (((Int.tmod a b) != 0) == true) = false; rw [h2]; rfl) rfl (aK 20 (by show (((Int.tmod a b) != 0) == true) = false; rw [h2]; rfl) rfl (ao 21 rfl rfl (st_pkf' (b := (Int.tmod a b) != 0) (v := .bool false) h2 rfl rfl rfl (aN (ac_else rfl (ac_skip (aQ (aL (aM 24 (.int .i64 (w64 (Int.tdiv a b))) rfl rfl (aA 4 (.int .i64 (w64 (Int.tdiv a b))) rfl rfl (aN (ac_ret ?_)))))))))))))))
   exact fin_eq (v := .int .i64 (w64 (Int.tdiv a b))) (by show _ = (fun (r : Int) => (.int .i64 r : Value)) (numFloor a b); rw [numFloor, h2, h1] <;> rfl) (fin_ret (res_tmp rfl rfl))
def numRounded_e0 (a : Int) (b : Int) (up : Bool) : Int := (bif (Int.tmod a b) != 0 then (w64 ((numFloor a b) + 1)) else (numFloor a b))
def numRounded (a : Int) (b : Int) (up : Bool) : Int × Bool := (bif up then (bif numIn (numRounded_e0 a b up) then ((numRounded_e0 a b up), true) else (0, false)) else (bif numIn (numFloor a b) then ((numFloor a b), true) else (0, false)))
set_option maxRecDepth 100000 in
theorem c_numRounded (a : Int) (b : Int) (up : Bool) (hb : b ≠ 0) : Gets Try.prog 101 #[.int .i64 a, .int .i64 b, .bool up] ((fun (r : Int × Bool) => (.tuple #[.int .i64 r.1, .bool r.2] : Value)) (numRounded a b up)) := by
 refine gets_fin Try.func101 rfl rfl rfl (aQ (aL (aA 6 (.int .i64 0) rfl rfl (aA 7 (.bool false) rfl rfl (aN (aQ (aL (aM 9 (.int .i64 a) rfl rfl (aM 10 (.int .i64 b) rfl rfl (aC 11 (c_numFloor a b) Try.func121 ⟨rfl, by decide⟩ rfl rfl (aA 8 (.int .i64 (numFloor a b)) rfl rfl (aN (aQ (aQ (aL (aM 12 (.bool up) rfl rfl (aM 13 (.bool up) rfl rfl ?_)))))))))))))))))
 refine bool_split (up) (fun h1 => ?_) (fun h1 => ?_)
 ·refine ar_gd (d := (some 14)) (by show (up == true) = true; rw [h1]; rfl) rfl (st_move (v := .int .i64 a) rfl rfl (ar_gd (d := (some 15)) (by show (up == true) = true; rw [h1]; rfl) rfl (st_move (v := .int .i64 b) rfl rfl (ar_gd (d := (some 16)) (by show (up == true) = true; rw [h1]; rfl) rfl (st_bi (r := .int .i64 (Int.tmod a b)) rfl rfl rfl (bi_rem hb rfl) (ar_gd (d := (some 17)) (by show (up == true) = true; rw [h1]; rfl) rfl (st_bi (r := .bool ((Int.tmod a b) != 0)) rfl rfl rfl (bi_neq rfl) (ao 18 rfl rfl (st_pkt' (b := up) (v := .bool ((Int.tmod a b) != 0)) h1 rfl rfl rfl (aN ?_))))))))))
  refine ac_mergeE (fun E9 => (((Env.put E9 (some 19) (.int .i64 (numFloor a b))).put (some 20) (.int .i64 (w64 ((numFloor a b) + 1)))).put (some 8) (.int .i64 (w64 ((numFloor a b) + 1))))) (fun E9 => (((Env.put E9 (some 19) (bif (Int.tmod a b) != 0 then (.int .i64 (numFloor a b) : Value) else E9 19)).put (some 20) (bif (Int.tmod a b) != 0 then (.int .i64 (w64 ((numFloor a b) + 1)) : Value) else E9 20)).put (some 8) (.int .i64 (numRounded_e0 a b up)))) (b := (Int.tmod a b) != 0) rfl (fun hm => ?_) (fun hm => ?_) (fun hm => ?_) ?_
  ·refine aL (aM 19 (.int .i64 (numFloor a b)) rfl rfl (aB 20 (.int .i64 (w64 ((numFloor a b) + 1))) rfl rfl rfl (bi_add rfl) (aA 8 (.int .i64 (w64 ((numFloor a b) + 1))) rfl rfl (aN ?_))))
   exact ⟨rfl, rfl, rfl⟩
  ·unfold numRounded_e0; rw [hm]; rfl
  ·unfold numRounded_e0; rw [hm]; exact ((put_self rfl).trans ((put_self rfl).trans (put_self rfl)))
  refine aQ (aQ (aL (aM 21 (.int .i64 (numRounded_e0 a b up)) rfl rfl (aC 22 (c_numIn (numRounded_e0 a b up)) Try.func65 ⟨rfl, by decide⟩ rfl rfl (ao 23 rfl rfl (st_un (v := .bool (!(numIn (numRounded_e0 a b up)))) rfl rfl (un_not rfl) (aN ?_)))))))
  refine bool_split (numIn (numRounded_e0 a b up)) (fun h2 => ?_) (fun h2 => ?_)
  ·refine ac_else' (b := !(numIn (numRounded_e0 a b up))) (by rw [h2]; rfl) rfl (ac_skip (aQ (aL (aM 24 (.int .i64 (numRounded_e0 a b up)) rfl rfl (aA 6 (.int .i64 (numRounded_e0 a b up)) rfl rfl (aA 7 (.bool true) rfl rfl (aN (ac_ret (fin_eq (v := .tuple #[.int .i64 (numRounded_e0 a b up), .bool true]) (by show _ = (fun (r : Int × Bool) => (.tuple #[.int .i64 r.1, .bool r.2] : Value)) (numRounded a b up); rw [numRounded, h2, h1] <;> rfl) (fin_ret (res_tt rfl rfl rfl)))))))))))
  ·refine ac_then' (b := !(numIn (numRounded_e0 a b up))) (by rw [h2]; rfl) rfl (aQ (aL (aA 6 (.int .i64 0) rfl rfl (aA 7 (.bool false) rfl rfl (aN (ac_ret (fin_eq (v := .tuple #[.int .i64 0, .bool false]) (by show _ = (fun (r : Int × Bool) => (.tuple #[.int .i64 r.1, .bool r.2] : Value)) (numRounded a b up); rw [numRounded, h2, h1] <;> rfl) (fin_ret (res_tt rfl rfl rfl)))))))))
 ·refine aK 14 (by show (up == true) = false; rw [h1]; rfl) rfl (aK 15 (by show (up == true) = false; rw [h1]; rfl) rfl (aK 16 (by show (up == true) = false; rw [h1]; rfl) rfl (aK 17 (by show (up == true) = false; rw [h1]; rfl) rfl (ao 18 rfl rfl (st_pkf' (b := up) (v := .bool false) h1 rfl rfl rfl (aN (ac_else rfl (ac_skip (aQ (aQ (aL (aM 21 (.int .i64 (numFloor a b)) rfl rfl (aC 22 (c_numIn (numFloor a b)) Try.func65 ⟨rfl, by decide⟩ rfl rfl (ao 23 rfl rfl (st_un (v := .bool (!(numIn (numFloor a b)))) rfl rfl (un_not rfl) (aN ?_))))))))))))))))
  refine bool_split (numIn (numFloor a b)) (fun h2 => ?_) (fun h2 => ?_)
  ·refine ac_else' (b := !(numIn (numFloor a b))) (by rw [h2]; rfl) rfl (ac_skip (aQ (aL (aM 24 (.int .i64 (numFloor a b)) rfl rfl (aA 6 (.int .i64 (numFloor a b)) rfl rfl (aA 7 (.bool true) rfl rfl (aN (ac_ret (fin_eq (v := .tuple #[.int .i64 (numFloor a b), .bool true]) (by show _ = (fun (r : Int × Bool) => (.tuple #[.int .i64 r.1, .bool r.2] : Value)) (numRounded a b up); rw [numRounded, h2, h1] <;> rfl) (fin_ret (res_tt rfl rfl rfl)))))))))))
  ·refine ac_then' (b := !(numIn (numFloor a b))) (by rw [h2]; rfl) rfl (aQ (aL (aA 6 (.int .i64 0) rfl rfl (aA 7 (.bool false) rfl rfl (aN (ac_ret (fin_eq (v := .tuple #[.int .i64 0, .bool false]) (by show _ = (fun (r : Int × Bool) => (.tuple #[.int .i64 r.1, .bool r.2] : Value)) (numRounded a b up); rw [numRounded, h2, h1] <;> rfl) (fin_ret (res_tt rfl rfl rfl)))))))))
def numMul (a : Int) (b : Int) (up : Bool) : Int × Bool := (bif numIn a then (bif numIn b then ((numRounded (w64 (a * b)) 65536 up).1, (numRounded (w64 (a * b)) 65536 up).2) else (0, false)) else (0, false))
set_option maxRecDepth 100000 in
theorem c_numMul (a : Int) (b : Int) (up : Bool) : Gets Try.prog 100 #[.int .i64 a, .int .i64 b, .bool up] ((fun (r : Int × Bool) => (.tuple #[.int .i64 r.1, .bool r.2] : Value)) (numMul a b up)) := by
 refine gets_fin Try.func100 rfl rfl rfl (aQ (aL (aA 6 (.int .i64 0) rfl rfl (aA 7 (.bool false) rfl rfl (aN (aQ (aQ (aL (aM 8 (.int .i64 a) rfl rfl (aC 9 (c_numIn a) Try.func65 ⟨rfl, by decide⟩ rfl rfl (ao 10 rfl rfl (st_un (v := .bool (!(numIn a))) rfl rfl (un_not rfl) (aM 11 (.bool (!(numIn a))) rfl rfl ?_)))))))))))))
 refine bool_split (numIn a) (fun h1 => ?_) (fun h1 => ?_)
 ·refine ar_gd (d := (some 12)) (by show ((!(numIn a)) == false) = true; rw [h1]; rfl) rfl (st_move (v := .int .i64 b) rfl rfl (ar_gd (d := (some 13)) (by show ((!(numIn a)) == false) = true; rw [h1]; rfl) rfl (st_cf (c_numIn b) Try.func65 rfl (by decide) rfl rfl rfl (ar_gd (d := (some 14)) (by show ((!(numIn a)) == false) = true; rw [h1]; rfl) rfl (st_un (v := .bool (!(numIn b))) rfl rfl (un_not rfl) (ao 15 rfl rfl (st_pkf' (b := !(numIn a)) (v := .bool (!(numIn b))) (by rw [h1]; rfl) rfl rfl rfl (aN ?_))))))))
  refine bool_split (numIn b) (fun h2 => ?_) (fun h2 => ?_)
  ·refine ac_else' (b := !(numIn b)) (by rw [h2]; rfl) rfl (ac_skip (aQ (aL (aM 16 (.int .i64 a) rfl rfl (aM 17 (.int .i64 b) rfl rfl (aB 18 (.int .i64 (w64 (a * b))) rfl rfl rfl (bi_mul rfl) (aM 19 (.bool up) rfl rfl (aC 20 (c_numRounded (w64 (a * b)) 65536 up (by decide)) Try.func101 ⟨rfl, by decide⟩ rfl rfl (aX 21 (.int .i64 ((numRounded (w64 (a * b)) 65536 up).1)) rfl rfl rfl (aX 22 (.bool ((numRounded (w64 (a * b)) 65536 up).2)) rfl rfl rfl (aA 6 (.int .i64 ((numRounded (w64 (a * b)) 65536 up).1)) rfl rfl (aA 7 (.bool ((numRounded (w64 (a * b)) 65536 up).2)) rfl rfl (aN (ac_ret ?_))))))))))))))
   exact fin_eq (v := .tuple #[.int .i64 ((numRounded (w64 (a * b)) 65536 up).1), .bool ((numRounded (w64 (a * b)) 65536 up).2)]) (by show _ = (fun (r : Int × Bool) => (.tuple #[.int .i64 r.1, .bool r.2] : Value)) (numMul a b up); rw [numMul, h2, h1] <;> rfl) (fin_ret (res_tt rfl rfl rfl))
  ·refine ac_then' (b := !(numIn b)) (by rw [h2]; rfl) rfl (aQ (aL (aA 6 (.int .i64 0) rfl rfl (aA 7 (.bool false) rfl rfl (aN (ac_ret (fin_eq (v := .tuple #[.int .i64 0, .bool false]) (by show _ = (fun (r : Int × Bool) => (.tuple #[.int .i64 r.1, .bool r.2] : Value)) (numMul a b up); rw [numMul, h2, h1] <;> rfl) (fin_ret (res_tt rfl rfl rfl)))))))))
 ·refine aK 12 (by show ((!(numIn a)) == false) = false; rw [h1]; rfl) rfl (aK 13 (by show ((!(numIn a)) == false) = false; rw [h1]; rfl) rfl (aK 14 (by show ((!(numIn a)) == false) = false; rw [h1]; rfl) rfl (ao 15 rfl rfl (st_pkt' (b := !(numIn a)) (v := .bool true) (by rw [h1]; rfl) rfl rfl rfl (aN (ac_then rfl (aQ (aL (aA 6 (.int .i64 0) rfl rfl (aA 7 (.bool false) rfl rfl (aN (ac_ret (fin_eq (v := .tuple #[.int .i64 0, .bool false]) (by show _ = (fun (r : Int × Bool) => (.tuple #[.int .i64 r.1, .bool r.2] : Value)) (numMul a b up); rw [numMul, h1] <;> rfl) (fin_ret (res_tt rfl rfl rfl)))))))))))))))
def numDiv (a : Int) (b : Int) (up : Bool) : Int × Bool := (bif numIn a then (bif numIn b then (bif b == 0 then (0, false) else ((numRounded (w64 (a * 65536)) b up).1, (numRounded (w64 (a * 65536)) b up).2)) else (0, false)) else (0, false))
set_option maxRecDepth 100000 in
theorem c_numDiv (a : Int) (b : Int) (up : Bool) : Gets Try.prog 72 #[.int .i64 a, .int .i64 b, .bool up] ((fun (r : Int × Bool) => (.tuple #[.int .i64 r.1, .bool r.2] : Value)) (numDiv a b up)) := by
 refine gets_fin Try.func72 rfl rfl rfl (aQ (aL (aA 6 (.int .i64 0) rfl rfl (aA 7 (.bool false) rfl rfl (aN (aQ (aQ (aL (aM 8 (.int .i64 a) rfl rfl (aC 9 (c_numIn a) Try.func65 ⟨rfl, by decide⟩ rfl rfl (ao 10 rfl rfl (st_un (v := .bool (!(numIn a))) rfl rfl (un_not rfl) (aM 11 (.bool (!(numIn a))) rfl rfl ?_)))))))))))))
 refine bool_split (numIn a) (fun h1 => ?_) (fun h1 => ?_)
 ·refine ar_gd (d := (some 12)) (by show ((!(numIn a)) == false) = true; rw [h1]; rfl) rfl (st_move (v := .int .i64 b) rfl rfl (ar_gd (d := (some 13)) (by show ((!(numIn a)) == false) = true; rw [h1]; rfl) rfl (st_cf (c_numIn b) Try.func65 rfl (by decide) rfl rfl rfl (ar_gd (d := (some 14)) (by show ((!(numIn a)) == false) = true; rw [h1]; rfl) rfl (st_un (v := .bool (!(numIn b))) rfl rfl (un_not rfl) (ao 15 rfl rfl (st_pkf' (b := !(numIn a)) (v := .bool (!(numIn b))) (by rw [h1]; rfl) rfl rfl rfl (aM 16 (.bool (!(numIn b))) rfl rfl ?_))))))))
  refine bool_split (numIn b) (fun h2 => ?_) (fun h2 => ?_)
  ·refine ar_gd (d := (some 17)) (by show ((!(numIn b)) == false) = true; rw [h2]; rfl) rfl (st_move (v := .int .i64 b) rfl rfl (ar_gd (d := (some 18)) (by show ((!(numIn b)) == false) = true; rw [h2]; rfl) rfl (st_bi (r := .bool (b == 0)) rfl rfl rfl (bi_eql rfl) (ao 19 rfl rfl (st_pkf' (b := !(numIn b)) (v := .bool (b == 0)) (by rw [h2]; rfl) rfl rfl rfl (aN ?_))))))
   refine bool_split (b == 0) (fun h3 => ?_) (fun h3 => ?_)
   ·refine ac_then' (b := b == 0) h3 rfl (aQ (aL (aA 6 (.int .i64 0) rfl rfl (aA 7 (.bool false) rfl rfl (aN (ac_ret (fin_eq (v := .tuple #[.int .i64 0, .bool false]) (by show _ = (fun (r : Int × Bool) => (.tuple #[.int .i64 r.1, .bool r.2] : Value)) (numDiv a b up); rw [numDiv, h3, h2, h1] <;> rfl) (fin_ret (res_tt rfl rfl rfl)))))))))
   ·refine ac_else' (b := b == 0) h3 rfl (ac_skip (aQ (aL (aM 20 (.int .i64 a) rfl rfl (aB 21 (.int .i64 (w64 (a * 65536))) rfl rfl rfl (bi_mul rfl) (aM 22 (.int .i64 b) rfl rfl (aM 23 (.bool up) rfl rfl (aC 24 (c_numRounded (w64 (a * 65536)) b up (ne_of_beq0 h3)) Try.func101 ⟨rfl, by decide⟩ rfl rfl (aX 25 (.int .i64 ((numRounded (w64 (a * 65536)) b up).1)) rfl rfl rfl (aX 26 (.bool ((numRounded (w64 (a * 65536)) b up).2)) rfl rfl rfl (aA 6 (.int .i64 ((numRounded (w64 (a * 65536)) b up).1)) rfl rfl (aA 7 (.bool ((numRounded (w64 (a * 65536)) b up).2)) rfl rfl (aN (ac_ret ?_))))))))))))))
    exact fin_eq (v := .tuple #[.int .i64 ((numRounded (w64 (a * 65536)) b up).1), .bool ((numRounded (w64 (a * 65536)) b up).2)]) (by show _ = (fun (r : Int × Bool) => (.tuple #[.int .i64 r.1, .bool r.2] : Value)) (numDiv a b up); rw [numDiv, h3, h2, h1] <;> rfl) (fin_ret (res_tt rfl rfl rfl))
  ·refine aK 17 (by show ((!(numIn b)) == false) = false; rw [h2]; rfl) rfl (aK 18 (by show ((!(numIn b)) == false) = false; rw [h2]; rfl) rfl (ao 19 rfl rfl (st_pkt' (b := !(numIn b)) (v := .bool true) (by rw [h2]; rfl) rfl rfl rfl (aN (ac_then rfl (aQ (aL (aA 6 (.int .i64 0) rfl rfl (aA 7 (.bool false) rfl rfl (aN (ac_ret (fin_eq (v := .tuple #[.int .i64 0, .bool false]) (by show _ = (fun (r : Int × Bool) => (.tuple #[.int .i64 r.1, .bool r.2] : Value)) (numDiv a b up); rw [numDiv, h2, h1] <;> rfl) (fin_ret (res_tt rfl rfl rfl))))))))))))))
 ·refine aK 12 (by show ((!(numIn a)) == false) = false; rw [h1]; rfl) rfl (aK 13 (by show ((!(numIn a)) == false) = false; rw [h1]; rfl) rfl (aK 14 (by show ((!(numIn a)) == false) = false; rw [h1]; rfl) rfl (ao 15 rfl rfl (st_pkt' (b := !(numIn a)) (v := .bool true) (by rw [h1]; rfl) rfl rfl rfl (aM 16 (.bool true) rfl rfl (aK 17 rfl rfl (aK 18 rfl rfl (ao 19 rfl rfl (st_pkt (v := .bool true) rfl rfl rfl (aN (ac_then rfl (aQ (aL (aA 6 (.int .i64 0) rfl rfl (aA 7 (.bool false) rfl rfl (aN (ac_ret ?_)))))))))))))))))
  exact fin_eq (v := .tuple #[.int .i64 0, .bool false]) (by show _ = (fun (r : Int × Bool) => (.tuple #[.int .i64 r.1, .bool r.2] : Value)) (numDiv a b up); rw [numDiv, h1] <;> rfl) (fin_ret (res_tt rfl rfl rfl))
end Go.Proofs.Ythngkopcadlciaa
namespace Go.Proofs.Ythngkopcadlciaa
open Go.RowKit
attribute [local irreducible] AC AR DWalk
def numRootLoop (n : Int) : Nat → Int → Int
 | 0, r => r
 | j + 1, r => bif decide ((w64 ((orI r (w64 (1 * 2 ^ (min (Int.toNat (j : Int)) 64)))) * (orI r (w64 (1 * 2 ^ (min (Int.toNat (j : Int)) 64)))))) ≤ n) then numRootLoop n j (orI r (w64 (1 * 2 ^ (min (Int.toNat (j : Int)) 64)))) else numRootLoop n j r
set_option maxRecDepth 100000 in
theorem c_numRoot_loop (n : Int) (up : Bool) {Q : Exit → Env → List Box → Prop} {H : List Box} {c : Code} (hc : Try.f122.body.bind loopOf = some c) : ∀ (j : Nat) (r k : Int) (E : Env), j ≤ 64 → k = (j : Int) - 1 → E 1 = .bool up → E 6 = .int .i64 n → E 7 = .int .i64 r → E 8 = .int .i64 k →
  (∀ E' : Env, E' 1 = .bool up → E' 6 = .int .i64 n → E' 7 = .int .i64 (numRootLoop n j r) → Q (.exit 0) E' H) → ARounds Try.prog 44 c Q (j + 1) E H := by
 rw [show Try.f122.body.bind loopOf = some _ from rfl] at hc
 cases hc
 intro j
 induction j with
 | zero =>
  intro r k E hj hk h1 h6 h7 h8 hn
  obtain rfl : k = -1 := by omega
  obtain ⟨E0, rfl⟩ := env4 h1 h6 h7 h8
  refine ar_round (aQ (aQ (aL (aM 19 (.int .i64 (-1)) rfl rfl (aB 20 (.bool false) rfl rfl rfl (bi_geq (by decide)) (aN (ac_else rfl (ac_exit ?_))))))))
  exact hn _ rfl rfl rfl
 | succ j ih =>
  intro r k E hj hk h1 h6 h7 h8 hn
  obtain rfl : k = (j : Int) := by omega
  obtain ⟨E0, rfl⟩ := env4 h1 h6 h7 h8
  have h0 : decide ((j : Int) ≥ 0) = true := decide_eq_true (by omega)
  refine ar_round ?_
  cases h9 : decide ((w64 ((orI r (w64 (1 * 2 ^ (min (Int.toNat (j : Int)) 64)))) * (orI r (w64 (1 * 2 ^ (min (Int.toNat (j : Int)) 64)))))) ≤ n) with
  | false =>
   refine aQ (aQ (aL (aM 19 (.int .i64 (j : Int)) rfl rfl (aB 20 (.bool (decide ((j : Int) ≥ 0))) rfl rfl rfl (bi_geq rfl) (aN (ac_then' (b := decide ((j : Int) ≥ 0)) h0 rfl (ac_skip (aQ (ac_block (aQ (aL (aM 23 (.int .i64 r) rfl rfl (aM 24 (.int .i64 (j : Int)) rfl rfl (aB 25 (.int .i64 (w64 (1 * 2 ^ (min (Int.toNat (j : Int)) 64)))) rfl rfl rfl (bi_shl rfl (by omega)) (aB 26 (.int .i64 (orI r (w64 (1 * 2 ^ (min (Int.toNat (j : Int)) 64))))) rfl rfl rfl (bi_or rfl) (aA 9 (.int .i64 (orI r (w64 (1 * 2 ^ (min (Int.toNat (j : Int)) 64))))) rfl rfl (aN (aQ (aL (aM 27 (.int .i64 (orI r (w64 (1 * 2 ^ (min (Int.toNat (j : Int)) 64))))) rfl rfl ?_))))))))))))))))))))
   refine aM 28 (.int .i64 (orI r (w64 (1 * 2 ^ (min (Int.toNat (j : Int)) 64))))) rfl rfl (aB 29 (.int .i64 (w64 ((orI r (w64 (1 * 2 ^ (min (Int.toNat (j : Int)) 64)))) * (orI r (w64 (1 * 2 ^ (min (Int.toNat (j : Int)) 64))))))) rfl rfl rfl (bi_mul rfl) (aM 30 (.int .i64 n) rfl rfl (aB 31 (.bool (decide ((w64 ((orI r (w64 (1 * 2 ^ (min (Int.toNat (j : Int)) 64)))) * (orI r (w64 (1 * 2 ^ (min (Int.toNat (j : Int)) 64)))))) ≤ n))) rfl rfl rfl (bi_leq rfl) (aN (ac_else' (b := decide ((w64 ((orI r (w64 (1 * 2 ^ (min (Int.toNat (j : Int)) 64)))) * (orI r (w64 (1 * 2 ^ (min (Int.toNat (j : Int)) 64)))))) ≤ n)) h9 rfl (ac_skip (aL (aM 21 (.int .i64 (j : Int)) rfl rfl ?_))))))))
   refine aB 22 (.int .i64 (w64 ((j : Int) - 1))) rfl rfl rfl (bi_sub rfl) (aA 8 (.int .i64 (w64 ((j : Int) - 1))) rfl rfl (aN ?_))
   refine ih _ _ _ (by omega) (w64_id (by omega)) rfl rfl rfl rfl (fun E' a b c => hn E' a b ?_)
   rw [c, numRootLoop, h9]; rfl
  | true =>
   refine aQ (aQ (aL (aM 19 (.int .i64 (j : Int)) rfl rfl (aB 20 (.bool (decide ((j : Int) ≥ 0))) rfl rfl rfl (bi_geq rfl) (aN (ac_then' (b := decide ((j : Int) ≥ 0)) h0 rfl (ac_skip (aQ (ac_block (aQ (aL (aM 23 (.int .i64 r) rfl rfl (aM 24 (.int .i64 (j : Int)) rfl rfl (aB 25 (.int .i64 (w64 (1 * 2 ^ (min (Int.toNat (j : Int)) 64)))) rfl rfl rfl (bi_shl rfl (by omega)) (aB 26 (.int .i64 (orI r (w64 (1 * 2 ^ (min (Int.toNat (j : Int)) 64))))) rfl rfl rfl (bi_or rfl) (aA 9 (.int .i64 (orI r (w64 (1 * 2 ^ (min (Int.toNat (j : Int)) 64))))) rfl rfl (aN (aQ (aL (aM 27 (.int .i64 (orI r (w64 (1 * 2 ^ (min (Int.toNat (j : Int)) 64))))) rfl rfl ?_))))))))))))))))))))
   refine aM 28 (.int .i64 (orI r (w64 (1 * 2 ^ (min (Int.toNat (j : Int)) 64))))) rfl rfl (aB 29 (.int .i64 (w64 ((orI r (w64 (1 * 2 ^ (min (Int.toNat (j : Int)) 64)))) * (orI r (w64 (1 * 2 ^ (min (Int.toNat (j : Int)) 64))))))) rfl rfl rfl (bi_mul rfl) (aM 30 (.int .i64 n) rfl rfl (aB 31 (.bool (decide ((w64 ((orI r (w64 (1 * 2 ^ (min (Int.toNat (j : Int)) 64)))) * (orI r (w64 (1 * 2 ^ (min (Int.toNat (j : Int)) 64)))))) ≤ n))) rfl rfl rfl (bi_leq rfl) (aN (ac_then' (b := decide ((w64 ((orI r (w64 (1 * 2 ^ (min (Int.toNat (j : Int)) 64)))) * (orI r (w64 (1 * 2 ^ (min (Int.toNat (j : Int)) 64)))))) ≤ n)) h9 rfl (aL ?_))))))
   refine aM 32 (.int .i64 (orI r (w64 (1 * 2 ^ (min (Int.toNat (j : Int)) 64))))) rfl rfl (aA 7 (.int .i64 (orI r (w64 (1 * 2 ^ (min (Int.toNat (j : Int)) 64))))) rfl rfl (aN (aL (aM 21 (.int .i64 (j : Int)) rfl rfl (aB 22 (.int .i64 (w64 ((j : Int) - 1))) rfl rfl rfl (bi_sub rfl) (aA 8 (.int .i64 (w64 ((j : Int) - 1))) rfl rfl (aN ?_)))))))
   refine ih _ _ _ (by omega) (w64_id (by omega)) rfl rfl rfl rfl (fun E' a b c => hn E' a b ?_)
   rw [c, numRootLoop, h9]; rfl
def numRoot_e0 (a : Int) (up : Bool) : Int := (bif decide ((w64 ((numRootLoop (w64 (a * 65536)) 25 0) * (numRootLoop (w64 (a * 65536)) 25 0))) < (w64 (a * 65536))) then (w64 ((numRootLoop (w64 (a * 65536)) 25 0) + 1)) else (numRootLoop (w64 (a * 65536)) 25 0))
def numRoot (a : Int) (up : Bool) : Int × Bool := (bif decide (a < 0) then (0, false) else (bif numIn a then (bif up then ((numRoot_e0 a up), true) else (numRootLoop (w64 (a * 65536)) 25 0, true)) else (0, false)))
set_option maxRecDepth 100000 in
theorem c_numRoot (a : Int) (up : Bool) : Gets Try.prog 122 #[.int .i64 a, .bool up] ((fun (r : Int × Bool) => (.tuple #[.int .i64 r.1, .bool r.2] : Value)) (numRoot a up)) := by
 refine gets_fin Try.func122 rfl rfl rfl (aQ (aL (aA 4 (.int .i64 0) rfl rfl (aA 5 (.bool false) rfl rfl (aN (aQ (aQ (aL (aM 10 (.int .i64 a) rfl rfl (aB 11 (.bool (decide (a < 0))) rfl rfl rfl (bi_lss rfl) (aM 12 (.bool (decide (a < 0))) rfl rfl ?_)))))))))))
 refine bool_split (decide (a < 0)) (fun h1 => ?_) (fun h1 => ?_)
 ·refine aK 13 (by show ((decide (a < 0)) == false) = false; rw [h1]; rfl) rfl (aK 14 (by show ((decide (a < 0)) == false) = false; rw [h1]; rfl) rfl (aK 15 (by show ((decide (a < 0)) == false) = false; rw [h1]; rfl) rfl (ao 16 rfl rfl (st_pkt' (b := decide (a < 0)) (v := .bool true) h1 rfl rfl rfl (aN (ac_then rfl (aQ (aL (aA 4 (.int .i64 0) rfl rfl (aA 5 (.bool false) rfl rfl (aN (ac_ret (fin_eq (v := .tuple #[.int .i64 0, .bool false]) (by show _ = (fun (r : Int × Bool) => (.tuple #[.int .i64 r.1, .bool r.2] : Value)) (numRoot a up); rw [numRoot, h1] <;> rfl) (fin_ret (res_tt rfl rfl rfl)))))))))))))))
 ·refine ar_gd (d := (some 13)) (by show ((decide (a < 0)) == false) = true; rw [h1]; rfl) rfl (st_move (v := .int .i64 a) rfl rfl (ar_gd (d := (some 14)) (by show ((decide (a < 0)) == false) = true; rw [h1]; rfl) rfl (st_cf (c_numIn a) Try.func65 rfl (by decide) rfl rfl rfl (ar_gd (d := (some 15)) (by show ((decide (a < 0)) == false) = true; rw [h1]; rfl) rfl (st_un (v := .bool (!(numIn a))) rfl rfl (un_not rfl) (ao 16 rfl rfl (st_pkf' (b := decide (a < 0)) (v := .bool (!(numIn a))) h1 rfl rfl rfl (aN ?_))))))))
  refine bool_split (numIn a) (fun h2 => ?_) (fun h2 => ?_)
  ·refine ac_else' (b := !(numIn a)) (by rw [h2]; rfl) rfl (ac_skip (aQ (aL (aM 17 (.int .i64 a) rfl rfl (aB 18 (.int .i64 (w64 (a * 65536))) rfl rfl rfl (bi_mul rfl) (aA 6 (.int .i64 (w64 (a * 65536))) rfl rfl (aA 7 (.int .i64 0) rfl rfl (aN (aQ (aQ (aL (aA 8 (.int .i64 24) rfl rfl (aN (ac_block ?_))))))))))))))
   refine ac_rounds 26 ?_
   refine c_numRoot_loop (n := (w64 (a * 65536))) (up := up) rfl 25 0 _ _ (by decide) rfl rfl rfl rfl rfl (fun E1 q1 q6 q7 => ?_)
   obtain ⟨E0, rfl⟩ := env3 q1 q6 q7
   refine aQ (aQ (aL (aM 33 (.bool up) rfl rfl (aM 34 (.bool up) rfl rfl ?_))))
   refine bool_split (up) (fun h3 => ?_) (fun h3 => ?_)
   ·refine ar_gd (d := (some 35)) (by show (up == true) = true; rw [h3]; rfl) rfl (st_move (v := .int .i64 (numRootLoop (w64 (a * 65536)) 25 0)) rfl rfl (ar_gd (d := (some 36)) (by show (up == true) = true; rw [h3]; rfl) rfl (st_move (v := .int .i64 (numRootLoop (w64 (a * 65536)) 25 0)) rfl rfl (ar_gd (d := (some 37)) (by show (up == true) = true; rw [h3]; rfl) rfl (st_bi (r := .int .i64 (w64 ((numRootLoop (w64 (a * 65536)) 25 0) * (numRootLoop (w64 (a * 65536)) 25 0)))) rfl rfl rfl (bi_mul rfl) (ar_gd (d := (some 38)) (by show (up == true) = true; rw [h3]; rfl) rfl (st_move (v := .int .i64 (w64 (a * 65536))) rfl rfl ?_)))))))
    refine ar_gd (d := (some 39)) (by show (up == true) = true; rw [h3]; rfl) rfl (st_bi (r := .bool (decide ((w64 ((numRootLoop (w64 (a * 65536)) 25 0) * (numRootLoop (w64 (a * 65536)) 25 0))) < (w64 (a * 65536))))) rfl rfl rfl (bi_lss rfl) (ao 40 rfl rfl (st_pkt' (b := up) (v := .bool (decide ((w64 ((numRootLoop (w64 (a * 65536)) 25 0) * (numRootLoop (w64 (a * 65536)) 25 0))) < (w64 (a * 65536))))) h3 rfl rfl rfl (aN ?_))))
    refine ac_mergeE (fun E9 => (((Env.put E9 (some 41) (.int .i64 (numRootLoop (w64 (a * 65536)) 25 0))).put (some 42) (.int .i64 (w64 ((numRootLoop (w64 (a * 65536)) 25 0) + 1)))).put (some 7) (.int .i64 (w64 ((numRootLoop (w64 (a * 65536)) 25 0) + 1))))) (fun E9 => (((Env.put E9 (some 41) (bif decide ((w64 ((numRootLoop (w64 (a * 65536)) 25 0) * (numRootLoop (w64 (a * 65536)) 25 0))) < (w64 (a * 65536))) then (.int .i64 (numRootLoop (w64 (a * 65536)) 25 0) : Value) else E9 41)).put (some 42) (bif decide ((w64 ((numRootLoop (w64 (a * 65536)) 25 0) * (numRootLoop (w64 (a * 65536)) 25 0))) < (w64 (a * 65536))) then (.int .i64 (w64 ((numRootLoop (w64 (a * 65536)) 25 0) + 1)) : Value) else E9 42)).put (some 7) (.int .i64 (numRoot_e0 a up)))) (b := decide ((w64 ((numRootLoop (w64 (a * 65536)) 25 0) * (numRootLoop (w64 (a * 65536)) 25 0))) < (w64 (a * 65536)))) rfl (fun hm => ?_) (fun hm => ?_) (fun hm => ?_) ?_
    ·refine aL (aM 41 (.int .i64 (numRootLoop (w64 (a * 65536)) 25 0)) rfl rfl (aB 42 (.int .i64 (w64 ((numRootLoop (w64 (a * 65536)) 25 0) + 1))) rfl rfl rfl (bi_add rfl) (aA 7 (.int .i64 (w64 ((numRootLoop (w64 (a * 65536)) 25 0) + 1))) rfl rfl (aN ?_))))
     exact ⟨rfl, rfl, rfl⟩
    ·unfold numRoot_e0; rw [hm]; rfl
    ·unfold numRoot_e0; rw [hm]; exact ((put_self rfl).trans ((put_self rfl).trans (put_self rfl)))
    refine aQ (aL (aM 43 (.int .i64 (numRoot_e0 a up)) rfl rfl (aA 4 (.int .i64 (numRoot_e0 a up)) rfl rfl (aA 5 (.bool true) rfl rfl (aN (ac_ret (fin_eq (v := .tuple #[.int .i64 (numRoot_e0 a up), .bool true]) (by show _ = (fun (r : Int × Bool) => (.tuple #[.int .i64 r.1, .bool r.2] : Value)) (numRoot a up); rw [numRoot, h3, h2, h1] <;> rfl) (fin_ret (res_tt rfl rfl rfl)))))))))
   ·refine aK 35 (by show (up == true) = false; rw [h3]; rfl) rfl (aK 36 (by show (up == true) = false; rw [h3]; rfl) rfl (aK 37 (by show (up == true) = false; rw [h3]; rfl) rfl (aK 38 (by show (up == true) = false; rw [h3]; rfl) rfl (aK 39 (by show (up == true) = false; rw [h3]; rfl) rfl (ao 40 rfl rfl (st_pkf' (b := up) (v := .bool false) h3 rfl rfl rfl (aN (ac_else rfl (ac_skip (aQ (aL (aM 43 (.int .i64 (numRootLoop (w64 (a * 65536)) 25 0)) rfl rfl (aA 4 (.int .i64 (numRootLoop (w64 (a * 65536)) 25 0)) rfl rfl (aA 5 (.bool true) rfl rfl (aN (ac_ret ?_))))))))))))))))
    exact fin_eq (v := .tuple #[.int .i64 (numRootLoop (w64 (a * 65536)) 25 0), .bool true]) (by show _ = (fun (r : Int × Bool) => (.tuple #[.int .i64 r.1, .bool r.2] : Value)) (numRoot a up); rw [numRoot, h3, h2, h1] <;> rfl) (fin_ret (res_tt rfl rfl rfl))
  ·refine ac_then' (b := !(numIn a)) (by rw [h2]; rfl) rfl (aQ (aL (aA 4 (.int .i64 0) rfl rfl (aA 5 (.bool false) rfl rfl (aN (ac_ret (fin_eq (v := .tuple #[.int .i64 0, .bool false]) (by show _ = (fun (r : Int × Bool) => (.tuple #[.int .i64 r.1, .bool r.2] : Value)) (numRoot a up); rw [numRoot, h2, h1] <;> rfl) (fin_ret (res_tt rfl rfl rfl)))))))))
end Go.Proofs.Ythngkopcadlciaa
namespace Go.Proofs.Ythngkopcadlciaa
theorem w64_of {n : Int} (h : -9223372036854775808 ≤ n) (h' : n ≤ 9223372036854775807) : w64 n = n := w64_id ⟨h, h'⟩
theorem numIn_iff (n : Int) : numIn n = true ↔ -1073741824 ≤ n ∧ n ≤ 1073741824 := by
  unfold numIn
  by_cases h : n ≥ -1073741824 <;> simp [h] <;> omega
theorem rIn_eq (n : Int) : rIn n = numIn n := rfl
theorem tmod_lt_neg (a : Int) {b : Int} (hb : b < 0) : a.tmod b < -b ∧ b < a.tmod b := by
  have h1 := Int.tmod_lt_of_pos a (b := -b) (by omega)
  have h2 := Int.lt_tmod_of_pos a (b := -b) (by omega)
  rw [Int.tmod_neg] at h1 h2
  omega
theorem tmod_sign (a b : Int) : (0 ≤ a → 0 ≤ a.tmod b) ∧ (a ≤ 0 → a.tmod b ≤ 0) := by
  refine ⟨fun h => Int.tmod_nonneg b h, fun h => ?_⟩
  have := Int.tmod_nonneg b (a := -a) (by omega)
  rw [Int.neg_tmod] at this
  omega
theorem tdiv_abs (a : Int) {b : Int} (hb : b ≠ 0) (h : -9223372036854775808 < a ∧ a ≤ 9223372036854775807) : -9223372036854775807 ≤ a.tdiv b ∧ a.tdiv b ≤ 9223372036854775807 := by
  have h1 : (a.tdiv b).natAbs ≤ a.natAbs := by
    rw [Int.natAbs_tdiv]
    exact Nat.div_le_self _ _
  omega
theorem numFloor_spec (a : Int) {b : Int} (hb : b ≠ 0) (h : -9223372036854775808 < a ∧ a ≤ 9223372036854775807) :
    (0 < b → numFloor a b = a / b) ∧ (b < 0 → numFloor a b = (-a) / (-b)) := by
  have ht := tdiv_abs a hb h
  have he := Int.mul_tdiv_add_tmod a b
  have hs := tmod_sign a b
  have hne : (b == 0) = false := by simpa using hb
  have h0 : ∀ b' : Int, 0 < b' → ∀ a' q r : Int, b' * q + r = a' → 0 ≤ r → r < b' → a' / b' = q := fun b' hb' a' q r h1 h2 h3 =>
    ((Int.ediv_emod_unique (r := r) (q := q) hb').2 ⟨by omega, h2, h3⟩).1
  have hw1 : w64 (a.tdiv b) = a.tdiv b := w64_of (by omega) (by omega)
  have hw2 : w64 (a.tdiv b - 1) = a.tdiv b - 1 := w64_of (by omega) (by omega)
  unfold numFloor numFloor_e0
  rw [hne, hw1, hw2]
  simp only [cond_false]
  refine ⟨fun hp => ?_, fun hn => ?_⟩
  · have hl := Int.tmod_lt_of_pos a hp
    have hl' := Int.lt_tmod_of_pos a hp
    by_cases hr : a.tmod b = 0
    · simp only [hr, bne_self_eq_false, cond_false]
      exact (h0 b hp a _ _ he (by omega) (by omega)).symm
    · have hr' : (a.tmod b != 0) = true := by simpa using hr
      have hbn : decide (b < 0) = false := decide_eq_false (by omega)
      rw [hr', hbn]
      simp only [cond_true]
      by_cases ha : a < 0
      · simp only [ha, decide_true, Bool.bne_false, cond_true]
        refine (h0 b hp a (a.tdiv b - 1) (a.tmod b + b) ?_ (by omega) (by omega)).symm
        rw [Int.mul_sub, Int.mul_one]
        omega
      · simp only [ha, decide_false, bne_self_eq_false, cond_false]
        exact (h0 b hp a _ _ he (hs.1 (by omega)) hl).symm
  · obtain ⟨hl, hl'⟩ := tmod_lt_neg a hn
    have hpn : 0 < -b := by omega
    by_cases hr : a.tmod b = 0
    · simp only [hr, bne_self_eq_false, cond_false]
      refine (h0 (-b) hpn (-a) _ (-(a.tmod b)) ?_ (by omega) (by omega)).symm
      rw [Int.neg_mul]
      omega
    · have hr' : (a.tmod b != 0) = true := by simpa using hr
      have hbn : decide (b < 0) = true := decide_eq_true hn
      rw [hr', hbn]
      simp only [cond_true]
      by_cases ha : a < 0
      · simp only [ha, decide_true, bne_self_eq_false, cond_false]
        refine (h0 (-b) hpn (-a) _ (-(a.tmod b)) ?_ (by have := hs.2 (by omega); omega) (by omega)).symm
        rw [Int.neg_mul]
        omega
      · simp only [ha, decide_false, Bool.bne_true, Bool.not_false, cond_true]
        refine (h0 (-b) hpn (-a) (a.tdiv b - 1) (-(a.tmod b) - b) ?_ (by have := hs.1 (by omega); omega) (by have := hs.1 (by omega); omega)).symm
        rw [Int.mul_sub, Int.neg_mul, Int.mul_one]
        omega
theorem sign_of_tmod {a b : Int} (hr : ¬ a.tmod b = 0) : decide (a.tmod b < 0) = decide (a < 0) := by
  have hs := tmod_sign a b
  by_cases h : a < 0
  · have := hs.2 (by omega)
    rw [decide_eq_true h, decide_eq_true (by omega)]
  · have := hs.1 (by omega)
    rw [decide_eq_false h, decide_eq_false (by omega)]
theorem rFloor_eq (a b : Int) : rFloor a b = numFloor a b := by
  unfold rFloor rFloor_e0 numFloor numFloor_e0
  cases hb : b == 0
  · simp only [cond_false]
    by_cases hr : a.tmod b = 0
    · simp only [hr, bne_self_eq_false, cond_false]
    · rw [sign_of_tmod hr]
  · simp only [cond_true]
def dn (a b : Int) : Int := a / b
def upq (a b : Int) : Int := -((-a) / b)
def rq (a b : Int) (up : Bool) : Int := bif up then upq a b else dn a b
theorem dn_le {a b : Int} (hb : 0 < b) : dn a b * b ≤ a ∧ a < (dn a b + 1) * b := by
  unfold dn
  have h1 := Int.mul_ediv_add_emod a b
  have h2 := Int.emod_nonneg a (Int.ne_of_gt hb)
  have h3 := Int.emod_lt_of_pos a hb
  rw [Int.add_mul, Int.one_mul, Int.mul_comm]
  omega
theorem upq_eq {a b : Int} (hb : 0 < b) : upq a b = if a % b = 0 then a / b else a / b + 1 := by
  have h1 := Int.mul_ediv_add_emod a b
  have h2 := Int.emod_nonneg a (Int.ne_of_gt hb)
  have h3 := Int.emod_lt_of_pos a hb
  unfold upq
  split
  · rename_i h
    have : (-a) / b = -(a / b) := ((Int.ediv_emod_unique (r := 0) hb).2 ⟨by rw [Int.mul_neg]; omega, by omega, hb⟩).1
    omega
  · rename_i h
    have : (-a) / b = -(a / b) - 1 := ((Int.ediv_emod_unique (r := b - a % b) hb).2 ⟨by rw [Int.mul_sub, Int.mul_neg, Int.mul_one]; omega, by omega, by omega⟩).1
    omega
def told (q : Int) : Int × Bool := bif numIn q then (q, true) else (0, false)
theorem tmod_zero_iff (a : Int) (b : Int) : a.tmod b = 0 ↔ a % b = 0 := by
  rw [← Int.dvd_iff_tmod_eq_zero, Int.dvd_iff_emod_eq_zero]
theorem numRounded_pos (a : Int) {b : Int} (hb : 0 < b) (h : -9223372036854775808 < a ∧ a < 9223372036854775807) (up : Bool) : numRounded a b up = told (rq a b up) := by
  have hf := (numFloor_spec a (Int.ne_of_gt hb) (by omega)).1 hb
  have hq : -9223372036854775808 ≤ a / b ∧ a / b < 9223372036854775807 := by
    have h1 := tdiv_abs a (Int.ne_of_gt hb) (by omega)
    have h2 := dn_le (a := a) hb
    unfold dn at h2
    constructor
    · have : -9223372036854775808 * b ≤ a := by
        have : -9223372036854775808 * b ≤ -9223372036854775808 * 1 := Int.mul_le_mul_of_nonpos_left (by omega) (by omega)
        omega
      refine Decidable.byContradiction fun hc => ?_
      have : (a / b + 1) * b ≤ -9223372036854775808 * b := Int.mul_le_mul_of_nonneg_right (by omega) (by omega)
      omega
    · refine Decidable.byContradiction fun hc => ?_
      have : 9223372036854775807 * 1 ≤ a / b * b := Int.mul_le_mul (by omega) (by omega) (by omega) (by omega)
      omega
  unfold numRounded numRounded_e0 rq
  rw [hf]
  have hw : w64 (a / b + 1) = a / b + 1 := w64_of (by omega) (by omega)
  rw [hw]
  cases up
  · rfl
  · simp only [cond_true]
    rw [upq_eq hb]
    by_cases hz : a % b = 0
    · have h1 := (tmod_zero_iff a b).2 hz
      simp only [h1, bne_self_eq_false, cond_false, hz, if_true]
      rfl
    · have h1 : ¬ a.tmod b = 0 := fun e => hz ((tmod_zero_iff a b).1 e)
      have h2 : (a.tmod b != 0) = true := by simpa using h1
      simp only [h2, cond_true, hz, if_false]
      rfl
end Go.Proofs.Ythngkopcadlciaa
