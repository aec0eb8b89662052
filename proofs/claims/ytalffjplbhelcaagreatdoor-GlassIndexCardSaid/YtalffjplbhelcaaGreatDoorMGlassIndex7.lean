import Derived.Test.YtalffjplbhelcaaGreatDoorMGlassIndex6
import Derived.Test.YtalffjplbhelcaaGreatDoorMGlassIndex3
import Derived.Test.YtalffjplbhelcaaGreatDoorMGlassIndex4
import Derived.Test.YtalffjplbhelcaaGreatDoorMGlassIndex5
import Derived.Test.YtalffjplbhelcaaGreatDoorMGlassIndex2
import Derived.Lib.ItoaLen
set_option linter.unusedVariables false
set_option linter.unusedSimpArgs false
namespace Go.Proofs.YtalffjplbhelcaaGreatDoor
open Go.RowKit
attribute [local irreducible] AC AR DWalk
def gLnK (k : Int) : Iv := bif k == 0 then gLn0 else bif k == 1 then gLn1 else bif k == 2 then gLn2 else gLnN k
theorem c_gLnK (k : Int) : Gets Tryz.prog 18 #[.int .i64 k] (Iv.v (gLnK k)) := by
 by_cases h0 : k = 0
 ·subst h0; exact c_gLn0
 ·by_cases h1 : k = 1
  ·subst h1; exact c_gLn1
  ·by_cases h2 : k = 2
   ·subst h2; exact c_gLn2
   ·have e : gLnK k = gLnN k := by
     unfold gLnK
     rw [beq_eq_false_iff_ne.2 h0, beq_eq_false_iff_ne.2 h1, beq_eq_false_iff_ne.2 h2]
     rfl
    rw [e]
    exact c_gLnN k (by omega)
def gAbbe_e0 (x : Glass) : Iv := (ivDiv (ivSub (gIndex x gLn0) (ivPoint 65536)) (ivSub (gIndex x gLn1) (gIndex x gLn2)))
def gAbbe (x : Glass) : Iv := (gAbbe_e0 x)
set_option maxRecDepth 100000 in
theorem c_gAbbe (x : Glass) : Gets Tryz.prog 16 #[.agg (Glass.cells x).toArray] (Iv.v (gAbbe x)) := by
 refine gets_fin Tryz.func16 rfl rfl rfl (aQ (aL (ao 1 rfl rfl (st_box (v := .agg (Glass.cells x).toArray) (cs := (Glass.cells x)) rfl rfl rfl fun g0 => (ao 2 rfl rfl (st_new zero32 rfl fun g1 => (aN (aQ ?_))))))))
 refine ac_draw0 (id := 1) [0, 1, 2, 3, 4, 5, 6, 7, 8, 9, 10, 11, 12] [13] _ (by kernel_rfl) follows rfl  (dw_op (d := some 3) _ rfl rfl rfl (st_lda (vs := (Glass.cells x)) agg29 1 rfl rfl rfl rfl rfl rfl ⟨rfl, rfl⟩) (dw_op (d := some 4) _ rfl rfl rfl (st_cf (c_gLn0) Tryz.func18 rfl (by decide) rfl rfl rfl ⟨rfl, rfl⟩) (dw_op (d := some 5) _ rfl rfl rfl (st_cf (c_gIndex x gLn0) Tryz.func14 rfl (by decide) rfl rfl rfl ⟨rfl, rfl⟩) (dw_op (d := some 6) _ rfl rfl rfl (st_cf (c_ivPoint 65536) Tryz.func49 rfl (by decide) rfl rfl rfl ⟨rfl, rfl⟩) (dw_op (d := some 7) _ rfl rfl rfl (st_cf (c_ivSub (gIndex x gLn0) (ivPoint 65536)) Tryz.func53 rfl (by decide) rfl rfl rfl ⟨rfl, rfl⟩) ?_)))))
 refine dw_op (d := some 8) _ rfl rfl rfl (st_lda (vs := (Glass.cells x)) agg29 1 rfl rfl rfl rfl rfl rfl ⟨rfl, rfl⟩) (dw_op (d := some 9) _ rfl rfl rfl (st_cf (c_gLn1) Tryz.func18 rfl (by decide) rfl rfl rfl ⟨rfl, rfl⟩) (dw_op (d := some 10) _ rfl rfl rfl (st_cf (c_gIndex x gLn1) Tryz.func14 rfl (by decide) rfl rfl rfl ⟨rfl, rfl⟩) (dw_op (d := some 11) _ rfl rfl rfl (st_lda (vs := (Glass.cells x)) agg29 1 rfl rfl rfl rfl rfl rfl ⟨rfl, rfl⟩) (dw_op (d := some 12) _ rfl rfl rfl (st_cf (c_gLn2) Tryz.func18 rfl (by decide) rfl rfl rfl ⟨rfl, rfl⟩) (dw_op (d := some 13) _ rfl rfl rfl (st_cf (c_gIndex x gLn2) Tryz.func14 rfl (by decide) rfl rfl rfl ⟨rfl, rfl⟩) ?_)))))
 refine dw_op (d := some 14) _ rfl rfl rfl (st_cf (c_ivSub (gIndex x gLn1) (gIndex x gLn2)) Tryz.func53 rfl (by decide) rfl rfl rfl ⟨rfl, rfl⟩) (dw_op (d := some 15) _ rfl rfl rfl (st_cf (c_ivDiv (ivSub (gIndex x gLn0) (ivPoint 65536)) (ivSub (gIndex x gLn1) (gIndex x gLn2))) Tryz.func51 rfl (by decide) rfl rfl rfl ⟨rfl, rfl⟩) (dw_nil (aS [.int .i64 ((gAbbe_e0 x).lo), .int .i64 ((gAbbe_e0 x).hi), .bool ((gAbbe_e0 x).no)] agg32 0 rfl rfl rfl rfl rfl rfl (aN (ac_ret (fin_eq (v := (Iv.v (gAbbe_e0 x))) rfl (fin_ret (res_c (vs := [.int .i64 ((gAbbe_e0 x).lo), .int .i64 ((gAbbe_e0 x).hi), .bool ((gAbbe_e0 x).no)]) agg32 0 rfl rfl rfl rfl rfl rfl))))))))
end Go.Proofs.YtalffjplbhelcaaGreatDoor
namespace Go.Proofs.YtalffjplbhelcaaGreatDoor
open Go.RowKit
attribute [local irreducible] AC AR DWalk
def rRightDec (d : Dec) : Bool := (bif decide (d.c ≥ (-100000000000)) then (bif decide (d.c ≤ 100000000000) then (bif decide (d.scale ≥ 0) then (bif decide (d.scale ≤ 6) then (bif d.scale == 0 then true else (Int.tmod d.c 10) != 0) else false) else false) else false) else false)
set_option maxRecDepth 100000 in
theorem c_rRightDec (d : Dec) : Gets Tryz.prog 32 #[.agg #[.int .i64 d.c, .int .i64 d.scale]] ((fun (r : Bool) => (.bool r : Value)) (rRightDec d)) := by
 refine gets_fin Tryz.func32 rfl rfl rfl (aQ (aL (ao 1 rfl rfl (st_box (v := .agg #[.int .i64 d.c, .int .i64 d.scale]) (cs := [.int .i64 d.c, .int .i64 d.scale]) rfl rfl rfl fun g0 => (aA 2 (.bool false) rfl rfl (aN (aQ (aL (aF 3 fa26_0 rfl rfl (aD 4 (.int .i64 d.c) cell3 0 rfl rfl rfl rfl (aB 5 (.bool (decide (d.c ≥ (-100000000000)))) rfl rfl rfl (bi_geq rfl) (aM 6 (.bool (decide (d.c ≥ (-100000000000)))) rfl rfl ?_))))))))))))
 refine bool_split (decide (d.c ≥ (-100000000000))) (fun h1 => ?_) (fun h1 => ?_)
 ·refine ar_gd (d := (some 7)) (by show ((decide (d.c ≥ (-100000000000))) == true) = true; rw [h1]; rfl) rfl (st_fa rfl fa26_0 rfl (ar_gd (d := (some 8)) (by show ((decide (d.c ≥ (-100000000000))) == true) = true; rw [h1]; rfl) rfl (st_ldc (v := .int .i64 d.c) cell3 0 rfl rfl rfl rfl rfl (ar_gd (d := (some 9)) (by show ((decide (d.c ≥ (-100000000000))) == true) = true; rw [h1]; rfl) rfl (st_bi (r := .bool (decide (d.c ≤ 100000000000))) rfl rfl rfl (bi_leq rfl) (ao 10 rfl rfl (st_pkt' (b := decide (d.c ≥ (-100000000000))) (v := .bool (decide (d.c ≤ 100000000000))) h1 rfl rfl rfl (aM 11 (.bool (decide (d.c ≤ 100000000000))) rfl rfl ?_))))))))
  refine bool_split (decide (d.c ≤ 100000000000)) (fun h2 => ?_) (fun h2 => ?_)
  ·refine ar_gd (d := (some 12)) (by show ((decide (d.c ≤ 100000000000)) == true) = true; rw [h2]; rfl) rfl (st_fa rfl fa26_1 rfl (ar_gd (d := (some 13)) (by show ((decide (d.c ≤ 100000000000)) == true) = true; rw [h2]; rfl) rfl (st_ldc (v := .int .i64 d.scale) cell3 0 rfl rfl rfl rfl rfl (ar_gd (d := (some 14)) (by show ((decide (d.c ≤ 100000000000)) == true) = true; rw [h2]; rfl) rfl (st_bi (r := .bool (decide (d.scale ≥ 0))) rfl rfl rfl (bi_geq rfl) (ao 15 rfl rfl (st_pkt' (b := decide (d.c ≤ 100000000000)) (v := .bool (decide (d.scale ≥ 0))) h2 rfl rfl rfl (aM 16 (.bool (decide (d.scale ≥ 0))) rfl rfl ?_))))))))
   refine bool_split (decide (d.scale ≥ 0)) (fun h3 => ?_) (fun h3 => ?_)
   ·refine ar_gd (d := (some 17)) (by show ((decide (d.scale ≥ 0)) == true) = true; rw [h3]; rfl) rfl (st_fa rfl fa26_1 rfl (ar_gd (d := (some 18)) (by show ((decide (d.scale ≥ 0)) == true) = true; rw [h3]; rfl) rfl (st_ldc (v := .int .i64 d.scale) cell3 0 rfl rfl rfl rfl rfl (ar_gd (d := (some 19)) (by show ((decide (d.scale ≥ 0)) == true) = true; rw [h3]; rfl) rfl (st_bi (r := .bool (decide (d.scale ≤ 6))) rfl rfl rfl (bi_leq rfl) (ao 20 rfl rfl (st_pkt' (b := decide (d.scale ≥ 0)) (v := .bool (decide (d.scale ≤ 6))) h3 rfl rfl rfl (aM 21 (.bool (decide (d.scale ≤ 6))) rfl rfl ?_))))))))
    refine bool_split (decide (d.scale ≤ 6)) (fun h4 => ?_) (fun h4 => ?_)
    ·refine ar_gd (d := (some 22)) (by show ((decide (d.scale ≤ 6)) == true) = true; rw [h4]; rfl) rfl (st_fa rfl fa26_1 rfl (ar_gd (d := (some 23)) (by show ((decide (d.scale ≤ 6)) == true) = true; rw [h4]; rfl) rfl (st_ldc (v := .int .i64 d.scale) cell3 0 rfl rfl rfl rfl rfl (ar_gd (d := (some 24)) (by show ((decide (d.scale ≤ 6)) == true) = true; rw [h4]; rfl) rfl (st_bi (r := .bool (d.scale == 0)) rfl rfl rfl (bi_eql rfl) (ar_gd (d := (some 25)) (by show ((decide (d.scale ≤ 6)) == true) = true; rw [h4]; rfl) rfl (st_move (v := .bool (d.scale == 0)) rfl rfl ?_)))))))
     refine bool_split (d.scale == 0) (fun h5 => ?_) (fun h5 => ?_)
     ·refine aK 26 (by show ((d.scale == 0) == false) = false; rw [h5]; rfl) rfl (aK 27 (by show ((d.scale == 0) == false) = false; rw [h5]; rfl) rfl (aK 28 (by show ((d.scale == 0) == false) = false; rw [h5]; rfl) rfl (aK 29 (by show ((d.scale == 0) == false) = false; rw [h5]; rfl) rfl (ar_gd (d := (some 30)) (by show ((decide (d.scale ≤ 6)) == true) = true; rw [h4]; rfl) rfl (st_pkt' (b := d.scale == 0) (v := .bool true) h5 rfl rfl rfl (ao 31 rfl rfl (st_pkt' (b := decide (d.scale ≤ 6)) (v := .bool true) h4 rfl rfl rfl (aA 2 (.bool true) rfl rfl (aN (ac_ret ?_))))))))))
      exact fin_eq (v := .bool true) (by show _ = (fun (r : Bool) => (.bool r : Value)) (rRightDec d); rw [rRightDec, h5, h4, h3, h2, h1] <;> rfl) (fin_ret (res_tmp rfl rfl))
     ·refine ar_gd (d := (some 26)) (by show ((d.scale == 0) == false) = true; rw [h5]; rfl) rfl (st_fa rfl fa26_0 rfl (ar_gd (d := (some 27)) (by show ((d.scale == 0) == false) = true; rw [h5]; rfl) rfl (st_ldc (v := .int .i64 d.c) cell3 0 rfl rfl rfl rfl rfl (ar_gd (d := (some 28)) (by show ((d.scale == 0) == false) = true; rw [h5]; rfl) rfl (st_bi (r := .int .i64 (Int.tmod d.c 10)) rfl rfl rfl (bi_rem (by decide) rfl) (ar_gd (d := (some 29)) (by show ((d.scale == 0) == false) = true; rw [h5]; rfl) rfl (st_bi (r := .bool ((Int.tmod d.c 10) != 0)) rfl rfl rfl (bi_neq rfl) ?_)))))))
      refine ar_gd (d := (some 30)) (by show ((decide (d.scale ≤ 6)) == true) = true; rw [h4]; rfl) rfl (st_pkf' (b := d.scale == 0) (v := .bool ((Int.tmod d.c 10) != 0)) h5 rfl rfl rfl (ao 31 rfl rfl (st_pkt' (b := decide (d.scale ≤ 6)) (v := .bool ((Int.tmod d.c 10) != 0)) h4 rfl rfl rfl (aA 2 (.bool ((Int.tmod d.c 10) != 0)) rfl rfl (aN (ac_ret (fin_eq (v := .bool ((Int.tmod d.c 10) != 0)) (by show _ = (fun (r : Bool) => (.bool r : Value)) (rRightDec d); rw [rRightDec, h5, h4, h3, h2, h1] <;> rfl) (fin_ret (res_tmp rfl rfl)))))))))
    ·refine aK 22 (by show ((decide (d.scale ≤ 6)) == true) = false; rw [h4]; rfl) rfl (aK 23 (by show ((decide (d.scale ≤ 6)) == true) = false; rw [h4]; rfl) rfl (aK 24 (by show ((decide (d.scale ≤ 6)) == true) = false; rw [h4]; rfl) rfl (aK 25 (by show ((decide (d.scale ≤ 6)) == true) = false; rw [h4]; rfl) rfl (aK 26 rfl rfl (aK 27 rfl rfl (aK 28 rfl rfl (aK 29 rfl rfl (aK 30 (by show ((decide (d.scale ≤ 6)) == true) = false; rw [h4]; rfl) rfl (ao 31 rfl rfl (st_pkf' (b := decide (d.scale ≤ 6)) (v := .bool false) h4 rfl rfl rfl (aA 2 (.bool false) rfl rfl (aN (ac_ret ?_)))))))))))))
     exact fin_eq (v := .bool false) (by show _ = (fun (r : Bool) => (.bool r : Value)) (rRightDec d); rw [rRightDec, h4, h3, h2, h1] <;> rfl) (fin_ret (res_tmp rfl rfl))
   ·refine aK 17 (by show ((decide (d.scale ≥ 0)) == true) = false; rw [h3]; rfl) rfl (aK 18 (by show ((decide (d.scale ≥ 0)) == true) = false; rw [h3]; rfl) rfl (aK 19 (by show ((decide (d.scale ≥ 0)) == true) = false; rw [h3]; rfl) rfl (ao 20 rfl rfl (st_pkf' (b := decide (d.scale ≥ 0)) (v := .bool false) h3 rfl rfl rfl (aM 21 (.bool false) rfl rfl (aK 22 rfl rfl (aK 23 rfl rfl (aK 24 rfl rfl (aK 25 rfl rfl (aK 26 rfl rfl (aK 27 rfl rfl (aK 28 rfl rfl (aK 29 rfl rfl (aK 30 rfl rfl (ao 31 rfl rfl (st_pkf (v := .bool false) rfl rfl rfl (aA 2 (.bool false) rfl rfl (aN (ac_ret ?_)))))))))))))))))))
    exact fin_eq (v := .bool false) (by show _ = (fun (r : Bool) => (.bool r : Value)) (rRightDec d); rw [rRightDec, h3, h2, h1] <;> rfl) (fin_ret (res_tmp rfl rfl))
  ·refine aK 12 (by show ((decide (d.c ≤ 100000000000)) == true) = false; rw [h2]; rfl) rfl (aK 13 (by show ((decide (d.c ≤ 100000000000)) == true) = false; rw [h2]; rfl) rfl (aK 14 (by show ((decide (d.c ≤ 100000000000)) == true) = false; rw [h2]; rfl) rfl (ao 15 rfl rfl (st_pkf' (b := decide (d.c ≤ 100000000000)) (v := .bool false) h2 rfl rfl rfl (aM 16 (.bool false) rfl rfl (aK 17 rfl rfl (aK 18 rfl rfl (aK 19 rfl rfl (ao 20 rfl rfl (st_pkf (v := .bool false) rfl rfl rfl (aM 21 (.bool false) rfl rfl (aK 22 rfl rfl (aK 23 rfl rfl (aK 24 rfl rfl (aK 25 rfl rfl (aK 26 rfl rfl (aK 27 rfl rfl (aK 28 rfl rfl (aK 29 rfl rfl (aK 30 rfl rfl ?_))))))))))))))))))))
   refine ao 31 rfl rfl (st_pkf (v := .bool false) rfl rfl rfl (aA 2 (.bool false) rfl rfl (aN (ac_ret (fin_eq (v := .bool false) (by show _ = (fun (r : Bool) => (.bool r : Value)) (rRightDec d); rw [rRightDec, h2, h1] <;> rfl) (fin_ret (res_tmp rfl rfl)))))))
 ·refine aK 7 (by show ((decide (d.c ≥ (-100000000000))) == true) = false; rw [h1]; rfl) rfl (aK 8 (by show ((decide (d.c ≥ (-100000000000))) == true) = false; rw [h1]; rfl) rfl (aK 9 (by show ((decide (d.c ≥ (-100000000000))) == true) = false; rw [h1]; rfl) rfl (ao 10 rfl rfl (st_pkf' (b := decide (d.c ≥ (-100000000000))) (v := .bool false) h1 rfl rfl rfl (aM 11 (.bool false) rfl rfl (aK 12 rfl rfl (aK 13 rfl rfl (aK 14 rfl rfl (ao 15 rfl rfl (st_pkf (v := .bool false) rfl rfl rfl (aM 16 (.bool false) rfl rfl (aK 17 rfl rfl (aK 18 rfl rfl (aK 19 rfl rfl (ao 20 rfl rfl (st_pkf (v := .bool false) rfl rfl rfl (aM 21 (.bool false) rfl rfl (aK 22 rfl rfl ?_))))))))))))))))))
  refine aK 23 rfl rfl (aK 24 rfl rfl (aK 25 rfl rfl (aK 26 rfl rfl (aK 27 rfl rfl (aK 28 rfl rfl (aK 29 rfl rfl (aK 30 rfl rfl (ao 31 rfl rfl (st_pkf (v := .bool false) rfl rfl rfl (aA 2 (.bool false) rfl rfl (aN (ac_ret (fin_eq (v := .bool false) (by show _ = (fun (r : Bool) => (.bool r : Value)) (rRightDec d); rw [rRightDec, h1] <;> rfl) (fin_ret (res_tmp rfl rfl)))))))))))))))
end Go.Proofs.YtalffjplbhelcaaGreatDoor
namespace Go.Proofs.YtalffjplbhelcaaGreatDoor
section
variable {s : ByteArray} {n i : Nat} {line start : Int} {any_ : Bool} {out : List Tok}
theorem i_ne {s : ByteArray} {i : Nat} (h : i < s.size) : ((i : Int) == ((s).size : Int)) = false := by
  rw [beq_eq_false_iff_ne]; omega
end
end Go.Proofs.YtalffjplbhelcaaGreatDoor
namespace Go.Proofs.YtalffjplbhelcaaGreatDoor
section
variable {p : Program} {n : Nat} {o : Oper} {H : List Box} {ρ : Operand → Value} {K : Post}
end
end Go.Proofs.YtalffjplbhelcaaGreatDoor
namespace Go.Proofs.YtalffjplbhelcaaGreatDoor
open Go.RowKit
attribute [local irreducible] AC AR DWalk
def hPick_e0 (n : Int) (m : Int) : Int := (bif decide ((Int.tmod n m) < 0) then (w64 ((Int.tmod n m) + m)) else (Int.tmod n m))
def hPick (n : Int) (m : Int) : Int := (hPick_e0 n m)
set_option maxRecDepth 100000 in
theorem c_hPick (n : Int) (m : Int) (hm : m ≠ 0) : Gets Tryz.prog 10 #[.int .i64 n, .int .i64 m] ((fun (r : Int) => (.int .i64 r : Value)) (hPick n m)) := by
 refine gets_fin Tryz.func10 rfl rfl rfl (aQ (aL (aA 4 (.int .i64 0) rfl rfl (aN (aQ (aL (aM 5 (.int .i64 n) rfl rfl (aM 6 (.int .i64 m) rfl rfl (aB 7 (.int .i64 (Int.tmod n m)) rfl rfl rfl (bi_rem hm rfl) (aA 0 (.int .i64 (Int.tmod n m)) rfl rfl (aN (aQ (aQ (aL (aM 8 (.int .i64 (Int.tmod n m)) rfl rfl (aB 9 (.bool (decide ((Int.tmod n m) < 0))) rfl rfl rfl (bi_lss rfl) (aN ?_)))))))))))))))))
 refine ac_mergeE (fun E9 => ((((Env.put E9 (some 10) (.int .i64 (Int.tmod n m))).put (some 11) (.int .i64 m)).put (some 12) (.int .i64 (w64 ((Int.tmod n m) + m)))).put (some 0) (.int .i64 (w64 ((Int.tmod n m) + m))))) (fun E9 => ((((Env.put E9 (some 10) (bif decide ((Int.tmod n m) < 0) then (.int .i64 (Int.tmod n m) : Value) else E9 10)).put (some 11) (bif decide ((Int.tmod n m) < 0) then (.int .i64 m : Value) else E9 11)).put (some 12) (bif decide ((Int.tmod n m) < 0) then (.int .i64 (w64 ((Int.tmod n m) + m)) : Value) else E9 12)).put (some 0) (.int .i64 (hPick_e0 n m)))) (b := decide ((Int.tmod n m) < 0)) rfl (fun hm => ?_) (fun hm => ?_) (fun hm => ?_) ?_
 ·refine aL (aM 10 (.int .i64 (Int.tmod n m)) rfl rfl (aM 11 (.int .i64 m) rfl rfl (aB 12 (.int .i64 (w64 ((Int.tmod n m) + m))) rfl rfl rfl (bi_add rfl) (aA 0 (.int .i64 (w64 ((Int.tmod n m) + m))) rfl rfl (aN ?_)))))
  exact ⟨rfl, rfl, rfl⟩
 ·unfold hPick_e0; rw [hm]; rfl
 ·unfold hPick_e0; rw [hm]; exact ((put_self rfl).trans ((put_self rfl).trans ((put_self rfl).trans (put_self rfl))))
 refine aQ (aL (aM 13 (.int .i64 (hPick_e0 n m)) rfl rfl (aA 4 (.int .i64 (hPick_e0 n m)) rfl rfl (aN (ac_ret (fin_eq (v := .int .i64 (hPick_e0 n m)) rfl (fin_ret (res_tmp rfl rfl))))))))
end Go.Proofs.YtalffjplbhelcaaGreatDoor
namespace Go.Proofs.YtalffjplbhelcaaGreatDoor
theorem hPick_spec (n : Int) {m : Int} (hm : 0 < m) (hm' : m ≤ 9223372036854775807) : hPick n m = n % m := by
  have h1 := Int.tmod_lt_of_pos n hm
  have h2 := Int.lt_tmod_of_pos n hm
  have he := Int.mul_tdiv_add_tmod n m
  unfold hPick hPick_e0
  by_cases h : n.tmod m < 0
  · rw [decide_eq_true h, w64_in (by omega)]
    simp only [cond_true]
    refine (((Int.ediv_emod_unique (q := n.tdiv m - 1) hm).2 ⟨?_, by omega, by omega⟩).2).symm
    rw [Int.mul_sub, Int.mul_one]; omega
  · rw [decide_eq_false h]
    simp only [cond_false]
    exact (((Int.ediv_emod_unique (q := n.tdiv m) hm).2 ⟨by omega, by omega, by omega⟩).2).symm
theorem hPick_lt (n : Int) {m : Int} (hm : 0 < m) (hm' : m ≤ 9223372036854775807) : 0 ≤ hPick n m ∧ hPick n m < m := by
  rw [hPick_spec n hm hm']
  exact ⟨Int.emod_nonneg n (by omega), Int.emod_lt_of_pos n hm⟩
end Go.Proofs.YtalffjplbhelcaaGreatDoor
namespace Go.Proofs.YtalffjplbhelcaaGreatDoor
end Go.Proofs.YtalffjplbhelcaaGreatDoor
namespace Go.Proofs.YtalffjplbhelcaaGreatDoor
section
variable {p : Program} {n : Nat} {o : Oper} {H : List Box} {ρ : Operand → Value} {K : Post}
theorem st_ldm {t t0 : TypeId} {x : Operand} {g off : Nat} {cs : List Value} {ro : Bool} {v : Value} (ha : IsCell p t) (ho : o.op = .load t x) (hx : ρ x = .pointer (some ⟨g, off, none⟩)) (hm : (⟨g, cs, t0, ro⟩ : Box) ∈ H) (hc : cs[off]? = some v) (k : K v H) : Step p ρ o H K := by
  obtain ⟨i, hi⟩ := List.getElem?_of_mem hm
  exact st_ldc (g := g) (off := off) (v := v) ha i ho hx hi rfl hc k
end
theorem flatT_at (T : List Tok) (r : List Value) (i : Nat) (t : Tok) (h : T[i]? = some t) (j : Nat) (hj : j < 3) : (flatT T ++ r)[i * 3 + j]? = t.cells[j]? := by
  induction T generalizing i with
  | nil => simp at h
  | cons a T ih =>
    cases i with
    | zero =>
      simp only [List.getElem?_cons_zero, Option.some.injEq] at h
      subst h
      have e : flatT (a :: T) = a.cells ++ flatT T := by simp [flatT]
      rw [e, List.append_assoc, List.getElem?_append_left (by simp [Tok.cells]; omega)]
      simp
    | succ i =>
      simp only [List.getElem?_cons_succ] at h
      have e : flatT (a :: T) = a.cells ++ flatT T := by simp [flatT]
      rw [e, List.append_assoc, List.getElem?_append_right (by simp [Tok.cells]; omega)]
      have e2 : (i + 1) * 3 + j - a.cells.length = i * 3 + j := by simp [Tok.cells]; omega
      rw [e2]
      exact ih i h
theorem flatT_kind (T : List Tok) (r : List Value) (i : Nat) (t : Tok) (h : T[i]? = some t) : (flatT T ++ r)[0 + i * 3 + 0]? = some (.int .i64 t.kind) := by
  rw [Nat.zero_add]; exact flatT_at T r i t h 0 (by omega)
theorem flatT_text (T : List Tok) (r : List Value) (i : Nat) (t : Tok) (h : T[i]? = some t) : (flatT T ++ r)[0 + i * 3 + 1]? = some (.string t.text) := by
  rw [Nat.zero_add]; exact flatT_at T r i t h 1 (by omega)
theorem tok_cases {R : LRes} {v : Value} {N : List Box} (h : TokPost R v N) : ∃ (a : Option Addr) (ca : Nat), v = .tuple #[.slice a R.1.length ca, .complex .f64 R.2.1.re R.2.1.im, .int .i64 R.2.2] ∧ R.1.length ≤ 4001 ∧
    (∀ i, i < R.1.length → ∃ (g : Nat) (r : List Value), a = some ⟨g, 0, none⟩ ∧ (⟨g, flatT R.1 ++ r, 108, false⟩ : Box) ∈ N) := by
  obtain ⟨m, ca, aa, xs, rfl, rfl, h4, rfl, hR⟩ := h
  refine ⟨aa, ca, rfl, h4, fun i hi => ?_⟩
  rcases hR with ⟨h0, _⟩ | ⟨g, cap, rest, hv, hN, _⟩
  · omega
  · cases hv
    exact ⟨g, rest, rfl, by rw [hN]; exact List.mem_singleton.2 rfl⟩
end Go.Proofs.YtalffjplbhelcaaGreatDoor
namespace Go.Proofs.YtalffjplbhelcaaGreatDoor
open Go.RowKit
attribute [local irreducible] AC AR DWalk
end Go.Proofs.YtalffjplbhelcaaGreatDoor
namespace Go.Proofs.YtalffjplbhelcaaGreatDoor
theorem byA_app (a b : List UInt8) : byA a ++ byA b = byA (a ++ b) := by
  apply ByteArray.ext
  apply Array.ext'
  simp [byA]
end Go.Proofs.YtalffjplbhelcaaGreatDoor
namespace Go.Proofs.YtalffjplbhelcaaGreatDoor
def ito (d : Dec) : ByteArray := lItoa (max d.c (w64 (0 - d.c)))
theorem ito_lo {d : Dec} (h : decRight d = true) : -9223372036854775808 ≤ max d.c (w64 (0 - d.c)) := by
  have := dr_bounds h
  rw [w64_in (by omega)]
  omega
theorem ito_hi {d : Dec} (h : decRight d = true) : max d.c (w64 (0 - d.c)) ≤ 9223372036854775807 := by
  have := dr_bounds h
  rw [w64_in (by omega)]
  omega
theorem ito_sz {d : Dec} (h : decRight d = true) : (ito d).size ≤ 21 := by
  unfold ito lItoa
  rw [byA_size]
  exact Lib.itoa_length_le _ (ito_lo h) (ito_hi h)
def padN (d : Dec) : Int := max 0 (w64 (w64 (d.scale + 1) - ((ito d).size : Int)))
theorem padN_eq {d : Dec} (h : decRight d = true) : padN d = max 0 (d.scale + 1 - ((ito d).size : Int)) := by
  have := dr_bounds h
  have := ito_sz h
  unfold padN
  rw [w64_in (n := d.scale + 1) (by omega), w64_in (by omega)]
theorem pad_lo (d : Dec) : 0 ≤ padN d := by unfold padN; omega
theorem pad_le {d : Dec} (h : decRight d = true) : padN d ≤ 1000 := by
  have := dr_bounds h
  rw [padN_eq h]
  omega
def zer (d : Dec) : ByteArray := lRepeat (⟨#[48]⟩ : ByteArray) (padN d)
theorem rep_len : ∀ (k : Nat) (l : List UInt8), (Lib.repeatL l k).length = k * l.length
  | 0, l => by simp [Lib.repeatL]
  | k + 1, l => by
    have := rep_len k l
    simp only [Lib.repeatL, List.replicate_succ, List.flatten_cons, List.length_append] at this ⊢
    rw [this, Nat.succ_mul, Nat.add_comm]
theorem zer_size (d : Dec) : ((zer d).size : Int) = padN d := by
  unfold zer lRepeat
  rw [byA_size, rep_len]
  have := pad_lo d
  simp
  omega
theorem zer_sz {d : Dec} (h : decRight d = true) : (zer d).size ≤ 1000 := by
  have := zer_size d
  have := pad_le h
  omega
theorem pad_all {d : Dec} (h : decRight d = true) : w64 (((zer d ++ ito d).size : Int) - d.scale) = ((zer d ++ ito d).size : Int) - d.scale ∧ d.scale + 1 ≤ ((zer d ++ ito d).size : Int) := by
  have h1 := dr_bounds h
  have h2 := zer_size d
  have h3 := padN_eq h
  have h4 := ito_sz h
  have h5 := zer_sz h
  rw [ByteArray.size_append', w64_in (by omega)]
  omega
theorem pad_hi {d : Dec} (h : decRight d = true) : 0 ≤ w64 (((zer d ++ ito d).size : Int) - d.scale) ∧ w64 (((zer d ++ ito d).size : Int) - d.scale) ≤ ((zer d ++ ito d).size : Int) := by
  have h1 := dr_bounds h
  have h2 := pad_all h
  rw [h2.1]
  omega
end Go.Proofs.YtalffjplbhelcaaGreatDoor
namespace Go.Proofs.YtalffjplbhelcaaGreatDoor
open Go.RowKit
attribute [local irreducible] AC AR DWalk
def decPrint (d : Dec) : ByteArray := (bif decRight d then (bif decide ((((subS ((zer d) ++ (ito d)) 0 (w64 (((((zer d) ++ (ito d))).size : Int) - d.scale)))).size : Int) > 5) then (⟨#[]⟩ : ByteArray) else (bif decide (d.c < 0) then (bif sEq (subS ((zer d) ++ (ito d)) (w64 (((((zer d) ++ (ito d))).size : Int) - d.scale)) ((((zer d) ++ (ito d))).size : Int)) (⟨#[]⟩ : ByteArray) then ((⟨#[45]⟩ : ByteArray) ++ (subS ((zer d) ++ (ito d)) 0 (w64 (((((zer d) ++ (ito d))).size : Int) - d.scale)))) else ((((⟨#[45]⟩ : ByteArray) ++ (subS ((zer d) ++ (ito d)) 0 (w64 (((((zer d) ++ (ito d))).size : Int) - d.scale)))) ++ (⟨#[46]⟩ : ByteArray)) ++ (subS ((zer d) ++ (ito d)) (w64 (((((zer d) ++ (ito d))).size : Int) - d.scale)) ((((zer d) ++ (ito d))).size : Int)))) else (bif sEq (subS ((zer d) ++ (ito d)) (w64 (((((zer d) ++ (ito d))).size : Int) - d.scale)) ((((zer d) ++ (ito d))).size : Int)) (⟨#[]⟩ : ByteArray) then (subS ((zer d) ++ (ito d)) 0 (w64 (((((zer d) ++ (ito d))).size : Int) - d.scale))) else (((subS ((zer d) ++ (ito d)) 0 (w64 (((((zer d) ++ (ito d))).size : Int) - d.scale))) ++ (⟨#[46]⟩ : ByteArray)) ++ (subS ((zer d) ++ (ito d)) (w64 (((((zer d) ++ (ito d))).size : Int) - d.scale)) ((((zer d) ++ (ito d))).size : Int)))))) else (⟨#[]⟩ : ByteArray))
set_option maxRecDepth 100000 in
theorem c_decPrint (d : Dec) (tP : Nat) : Gives Tryz.prog 33 #[.agg #[.int .i64 d.c, .int .i64 d.scale]] [powBox tP] (fun u N => u = ((fun (r : ByteArray) => (.string r : Value)) (decPrint d)) ∧ N = []) := by
 refine gives_fin Tryz.func33 rfl rfl rfl rfl (AC.mono ?_ (fun e E H h => fing_v h rfl))
 refine aQ (aL (ao 1 rfl rfl (st_box (v := .agg #[.int .i64 d.c, .int .i64 d.scale]) (cs := [.int .i64 d.c, .int .i64 d.scale]) rfl rfl rfl fun g0 => (aA 2 (.string (⟨#[]⟩ : ByteArray)) rfl rfl (aN (aQ (aQ (aL (aG 6 [.int .i64 d.c, .int .i64 d.scale] agg26 0 rfl rfl rfl rfl rfl (aC 7 (c_decRight d) Tryz.func31 ⟨rfl, by decide⟩ rfl rfl (ao 8 rfl rfl (st_un (v := .bool (!(decRight d))) rfl rfl (un_not rfl) (aN ?_)))))))))))))
 refine bool_split (decRight d) (fun h1 => ?_) (fun h1 => ?_)
 ·refine ac_else' (b := !(decRight d)) (by rw [h1]; rfl) rfl (ac_skip (aQ (aL (aF 9 fa26_0 rfl rfl (aD 10 (.int .i64 d.c) cell3 0 rfl rfl rfl rfl (aF 11 fa26_0 rfl rfl (aD 12 (.int .i64 d.c) cell3 0 rfl rfl rfl rfl (ao 13 rfl rfl (st_un (v := .int .i64 (w64 (0 - d.c))) rfl rfl (un_neg rfl) (ao 14 rfl rfl (st_mx (x := d.c) (y := (w64 (0 - d.c))) (c := (max d.c (w64 (0 - d.c)))) rfl rfl rfl (ao 15 rfl rfl (st_gr (R := [powBox tP]) (r := .string (ito d)) (c_lItoa tP _ (ito_lo h1) (ito_hi h1)) Tryz.func73 rfl (by decide) rfl rfl rfl (has_cons 1 _ rfl rfl rfl rfl has_nil) (by simp) (aA 3 (.string (ito d)) rfl rfl (aN (aQ (aL (aF 16 fa26_1 rfl rfl ?_))))))))))))))))))
  refine aD 17 (.int .i64 d.scale) cell3 0 rfl rfl rfl rfl (aB 18 (.int .i64 (w64 (d.scale + 1))) rfl rfl rfl (bi_add rfl) (aM 19 (.string (ito d)) rfl rfl (ao 20 rfl rfl (st_slen (s := (ito d)) rfl Tryz.underlying9 rfl (aB 21 (.int .i64 (w64 ((w64 (d.scale + 1)) - (((ito d)).size : Int)))) rfl rfl rfl (bi_sub rfl) (ao 22 rfl rfl (st_mx (x := 0) (y := (w64 ((w64 (d.scale + 1)) - (((ito d)).size : Int)))) (c := (max 0 (w64 ((w64 (d.scale + 1)) - (((ito d)).size : Int))))) rfl rfl rfl (aC 23 (c_lRepeat (⟨#[48]⟩ : ByteArray) (padN d) (pad_lo d) (pad_le h1) (by decide)) Tryz.func74 ⟨rfl, by decide⟩ rfl rfl (aM 24 (.string (ito d)) rfl rfl ?_)))))))))
  refine aB 25 (.string ((zer d) ++ (ito d))) rfl rfl rfl (bi_sadd (sz_two (zer_sz h1) (ito_sz h1) (by decide))) (aA 3 (.string ((zer d) ++ (ito d))) rfl rfl (aN (aQ ?_)))
  refine ac_draw0 (id := 5) [0, 1, 2, 3, 4, 5, 6, 7, 8, 9, 10, 11, 12, 13, 14, 15] [] _ (by kernel_rfl) follows rfl  (dw_op (d := some 26) _ rfl rfl rfl (st_move (v := .string ((zer d) ++ (ito d))) rfl rfl ⟨rfl, rfl⟩) (dw_op (d := some 27) _ rfl rfl rfl (st_move (v := .string ((zer d) ++ (ito d))) rfl rfl ⟨rfl, rfl⟩) (dw_op (d := some 28) _ rfl rfl rfl (st_slen (s := ((zer d) ++ (ito d))) rfl Tryz.underlying9 rfl ⟨rfl, rfl⟩) (dw_op (d := some 29) _ rfl rfl rfl (st_fa rfl fa26_1 rfl ⟨rfl, rfl⟩) (dw_op (d := some 30) _ rfl rfl rfl (st_ldc (v := .int .i64 d.scale) cell3 0 rfl rfl rfl rfl rfl ⟨rfl, rfl⟩) ?_)))))
  refine dw_op (d := some 31) _ rfl rfl rfl (st_bi (r := .int .i64 (w64 (((((zer d) ++ (ito d))).size : Int) - d.scale))) rfl rfl rfl (bi_sub rfl) ⟨rfl, rfl⟩) (dw_op (d := some 32) _ rfl rfl rfl (st_ssh (pad_hi h1) rfl Tryz.underlying9 rfl rfl ⟨rfl, rfl⟩) (dw_op (d := some 33) _ rfl rfl rfl (st_move (v := .string ((zer d) ++ (ito d))) rfl rfl ⟨rfl, rfl⟩) (dw_op (d := some 34) _ rfl rfl rfl (st_move (v := .string ((zer d) ++ (ito d))) rfl rfl ⟨rfl, rfl⟩) (dw_op (d := some 35) _ rfl rfl rfl (st_slen (s := ((zer d) ++ (ito d))) rfl Tryz.underlying9 rfl ⟨rfl, rfl⟩) (dw_op (d := some 36) _ rfl rfl rfl (st_fa rfl fa26_1 rfl ⟨rfl, rfl⟩) ?_)))))
  refine dw_op (d := some 37) _ rfl rfl rfl (st_ldc (v := .int .i64 d.scale) cell3 0 rfl rfl rfl rfl rfl ⟨rfl, rfl⟩) (dw_op (d := some 38) _ rfl rfl rfl (st_bi (r := .int .i64 (w64 (((((zer d) ++ (ito d))).size : Int) - d.scale))) rfl rfl rfl (bi_sub rfl) ⟨rfl, rfl⟩) (dw_op (d := some 39) _ rfl rfl rfl (st_ssb (pad_hi h1) rfl Tryz.underlying9 rfl rfl ⟨rfl, rfl⟩) (dw_op (d := some 4) _ rfl rfl rfl (st_assign (v := .string (subS ((zer d) ++ (ito d)) 0 (w64 (((((zer d) ++ (ito d))).size : Int) - d.scale)))) rfl rfl ⟨rfl, rfl⟩) ?_)))
  refine dw_op (d := some 5) _ rfl rfl rfl (st_assign (v := .string (subS ((zer d) ++ (ito d)) (w64 (((((zer d) ++ (ito d))).size : Int) - d.scale)) ((((zer d) ++ (ito d))).size : Int))) rfl rfl ⟨rfl, rfl⟩) (dw_nil (aN (aQ (aQ (aL (aM 40 (.string (subS ((zer d) ++ (ito d)) 0 (w64 (((((zer d) ++ (ito d))).size : Int) - d.scale)))) rfl rfl (ao 41 rfl rfl (st_slen (s := (subS ((zer d) ++ (ito d)) 0 (w64 (((((zer d) ++ (ito d))).size : Int) - d.scale)))) rfl Tryz.underlying9 rfl (aB 42 (.bool (decide ((((subS ((zer d) ++ (ito d)) 0 (w64 (((((zer d) ++ (ito d))).size : Int) - d.scale)))).size : Int) > 5))) rfl rfl rfl (bi_gtr rfl) (aN ?_))))))))))
  refine bool_split (decide ((((subS ((zer d) ++ (ito d)) 0 (w64 (((((zer d) ++ (ito d))).size : Int) - d.scale)))).size : Int) > 5)) (fun h2 => ?_) (fun h2 => ?_)
  ·refine ac_then' (b := decide ((((subS ((zer d) ++ (ito d)) 0 (w64 (((((zer d) ++ (ito d))).size : Int) - d.scale)))).size : Int) > 5)) h2 rfl (aQ (aL (aA 2 (.string (⟨#[]⟩ : ByteArray)) rfl rfl (aN (ac_ret (fin_eq (v := .string (⟨#[]⟩ : ByteArray)) (by show _ = (fun (r : ByteArray) => (.string r : Value)) (decPrint d); rw [decPrint, h2, h1] <;> rfl) (fin_ret (res_tmp rfl rfl))))))))
  ·refine ac_else' (b := decide ((((subS ((zer d) ++ (ito d)) 0 (w64 (((((zer d) ++ (ito d))).size : Int) - d.scale)))).size : Int) > 5)) h2 rfl (ac_skip (aQ (aQ (aL (aF 43 fa26_0 rfl rfl (aD 44 (.int .i64 d.c) cell3 0 rfl rfl rfl rfl (aB 45 (.bool (decide (d.c < 0))) rfl rfl rfl (bi_lss rfl) (aN ?_))))))))
   refine bool_split (decide (d.c < 0)) (fun h3 => ?_) (fun h3 => ?_)
   ·refine ac_then' (b := decide (d.c < 0)) h3 rfl (aL (aM 46 (.string (subS ((zer d) ++ (ito d)) 0 (w64 (((((zer d) ++ (ito d))).size : Int) - d.scale)))) rfl rfl (aB 47 (.string ((⟨#[45]⟩ : ByteArray) ++ (subS ((zer d) ++ (ito d)) 0 (w64 (((((zer d) ++ (ito d))).size : Int) - d.scale))))) rfl rfl rfl (bi_sadd (sz_two (show ((⟨#[45]⟩ : ByteArray)).size ≤ 1 from Nat.le_refl _) (subS_le _ _ _ (sz_add (zer_sz h1) (ito_sz h1))) (by decide))) (aA 4 (.string ((⟨#[45]⟩ : ByteArray) ++ (subS ((zer d) ++ (ito d)) 0 (w64 (((((zer d) ++ (ito d))).size : Int) - d.scale))))) rfl rfl (aN (aQ (aQ (aL ?_))))))))
    refine aM 48 (.string (subS ((zer d) ++ (ito d)) (w64 (((((zer d) ++ (ito d))).size : Int) - d.scale)) ((((zer d) ++ (ito d))).size : Int))) rfl rfl (aB 49 (.bool (!(sEq (subS ((zer d) ++ (ito d)) (w64 (((((zer d) ++ (ito d))).size : Int) - d.scale)) ((((zer d) ++ (ito d))).size : Int)) (⟨#[]⟩ : ByteArray)))) rfl rfl rfl (bi_sneq rfl) (aN ?_))
    refine bool_split (sEq (subS ((zer d) ++ (ito d)) (w64 (((((zer d) ++ (ito d))).size : Int) - d.scale)) ((((zer d) ++ (ito d))).size : Int)) (⟨#[]⟩ : ByteArray)) (fun h4 => ?_) (fun h4 => ?_)
    ·refine ac_else' (b := !(sEq (subS ((zer d) ++ (ito d)) (w64 (((((zer d) ++ (ito d))).size : Int) - d.scale)) ((((zer d) ++ (ito d))).size : Int)) (⟨#[]⟩ : ByteArray))) (by rw [h4]; rfl) rfl (ac_skip (aQ (aL (aM 54 (.string ((⟨#[45]⟩ : ByteArray) ++ (subS ((zer d) ++ (ito d)) 0 (w64 (((((zer d) ++ (ito d))).size : Int) - d.scale))))) rfl rfl (aA 2 (.string ((⟨#[45]⟩ : ByteArray) ++ (subS ((zer d) ++ (ito d)) 0 (w64 (((((zer d) ++ (ito d))).size : Int) - d.scale))))) rfl rfl (aN (ac_ret ?_)))))))
     exact fin_eq (v := .string ((⟨#[45]⟩ : ByteArray) ++ (subS ((zer d) ++ (ito d)) 0 (w64 (((((zer d) ++ (ito d))).size : Int) - d.scale))))) (by show _ = (fun (r : ByteArray) => (.string r : Value)) (decPrint d); rw [decPrint, h4, h3, h2, h1] <;> rfl) (fin_ret (res_tmp rfl rfl))
    ·refine ac_then' (b := !(sEq (subS ((zer d) ++ (ito d)) (w64 (((((zer d) ++ (ito d))).size : Int) - d.scale)) ((((zer d) ++ (ito d))).size : Int)) (⟨#[]⟩ : ByteArray))) (by rw [h4]; rfl) rfl (aQ (aL (aM 50 (.string ((⟨#[45]⟩ : ByteArray) ++ (subS ((zer d) ++ (ito d)) 0 (w64 (((((zer d) ++ (ito d))).size : Int) - d.scale))))) rfl rfl ?_)))
     refine aB 51 (.string (((⟨#[45]⟩ : ByteArray) ++ (subS ((zer d) ++ (ito d)) 0 (w64 (((((zer d) ++ (ito d))).size : Int) - d.scale)))) ++ (⟨#[46]⟩ : ByteArray))) rfl rfl rfl (bi_sadd (sz_two (sz_add (show ((⟨#[45]⟩ : ByteArray)).size ≤ 1 from Nat.le_refl _) (subS_le _ _ _ (sz_add (zer_sz h1) (ito_sz h1)))) (show ((⟨#[46]⟩ : ByteArray)).size ≤ 1 from Nat.le_refl _) (by decide))) (aM 52 (.string (subS ((zer d) ++ (ito d)) (w64 (((((zer d) ++ (ito d))).size : Int) - d.scale)) ((((zer d) ++ (ito d))).size : Int))) rfl rfl ?_)
     refine aB 53 (.string ((((⟨#[45]⟩ : ByteArray) ++ (subS ((zer d) ++ (ito d)) 0 (w64 (((((zer d) ++ (ito d))).size : Int) - d.scale)))) ++ (⟨#[46]⟩ : ByteArray)) ++ (subS ((zer d) ++ (ito d)) (w64 (((((zer d) ++ (ito d))).size : Int) - d.scale)) ((((zer d) ++ (ito d))).size : Int)))) rfl rfl rfl (bi_sadd (sz_two (sz_add (sz_add (show ((⟨#[45]⟩ : ByteArray)).size ≤ 1 from Nat.le_refl _) (subS_le _ _ _ (sz_add (zer_sz h1) (ito_sz h1)))) (show ((⟨#[46]⟩ : ByteArray)).size ≤ 1 from Nat.le_refl _)) (subS_le _ _ _ (sz_add (zer_sz h1) (ito_sz h1))) (by decide))) ?_
     refine aA 2 (.string ((((⟨#[45]⟩ : ByteArray) ++ (subS ((zer d) ++ (ito d)) 0 (w64 (((((zer d) ++ (ito d))).size : Int) - d.scale)))) ++ (⟨#[46]⟩ : ByteArray)) ++ (subS ((zer d) ++ (ito d)) (w64 (((((zer d) ++ (ito d))).size : Int) - d.scale)) ((((zer d) ++ (ito d))).size : Int)))) rfl rfl (aN (ac_ret ?_))
     exact fin_eq (v := .string ((((⟨#[45]⟩ : ByteArray) ++ (subS ((zer d) ++ (ito d)) 0 (w64 (((((zer d) ++ (ito d))).size : Int) - d.scale)))) ++ (⟨#[46]⟩ : ByteArray)) ++ (subS ((zer d) ++ (ito d)) (w64 (((((zer d) ++ (ito d))).size : Int) - d.scale)) ((((zer d) ++ (ito d))).size : Int)))) (by show _ = (fun (r : ByteArray) => (.string r : Value)) (decPrint d); rw [decPrint, h4, h3, h2, h1] <;> rfl) (fin_ret (res_tmp rfl rfl))
   ·refine ac_else' (b := decide (d.c < 0)) h3 rfl (ac_skip (aQ (aQ (aL (aM 48 (.string (subS ((zer d) ++ (ito d)) (w64 (((((zer d) ++ (ito d))).size : Int) - d.scale)) ((((zer d) ++ (ito d))).size : Int))) rfl rfl (aB 49 (.bool (!(sEq (subS ((zer d) ++ (ito d)) (w64 (((((zer d) ++ (ito d))).size : Int) - d.scale)) ((((zer d) ++ (ito d))).size : Int)) (⟨#[]⟩ : ByteArray)))) rfl rfl rfl (bi_sneq rfl) (aN ?_)))))))
    refine bool_split (sEq (subS ((zer d) ++ (ito d)) (w64 (((((zer d) ++ (ito d))).size : Int) - d.scale)) ((((zer d) ++ (ito d))).size : Int)) (⟨#[]⟩ : ByteArray)) (fun h4 => ?_) (fun h4 => ?_)
    ·refine ac_else' (b := !(sEq (subS ((zer d) ++ (ito d)) (w64 (((((zer d) ++ (ito d))).size : Int) - d.scale)) ((((zer d) ++ (ito d))).size : Int)) (⟨#[]⟩ : ByteArray))) (by rw [h4]; rfl) rfl (ac_skip (aQ (aL (aM 54 (.string (subS ((zer d) ++ (ito d)) 0 (w64 (((((zer d) ++ (ito d))).size : Int) - d.scale)))) rfl rfl (aA 2 (.string (subS ((zer d) ++ (ito d)) 0 (w64 (((((zer d) ++ (ito d))).size : Int) - d.scale)))) rfl rfl (aN (ac_ret ?_)))))))
     exact fin_eq (v := .string (subS ((zer d) ++ (ito d)) 0 (w64 (((((zer d) ++ (ito d))).size : Int) - d.scale)))) (by show _ = (fun (r : ByteArray) => (.string r : Value)) (decPrint d); rw [decPrint, h4, h3, h2, h1] <;> rfl) (fin_ret (res_tmp rfl rfl))
    ·refine ac_then' (b := !(sEq (subS ((zer d) ++ (ito d)) (w64 (((((zer d) ++ (ito d))).size : Int) - d.scale)) ((((zer d) ++ (ito d))).size : Int)) (⟨#[]⟩ : ByteArray))) (by rw [h4]; rfl) rfl (aQ (aL (aM 50 (.string (subS ((zer d) ++ (ito d)) 0 (w64 (((((zer d) ++ (ito d))).size : Int) - d.scale)))) rfl rfl (aB 51 (.string ((subS ((zer d) ++ (ito d)) 0 (w64 (((((zer d) ++ (ito d))).size : Int) - d.scale))) ++ (⟨#[46]⟩ : ByteArray))) rfl rfl rfl (bi_sadd (sz_two (subS_le _ _ _ (sz_add (zer_sz h1) (ito_sz h1))) (show ((⟨#[46]⟩ : ByteArray)).size ≤ 1 from Nat.le_refl _) (by decide))) ?_))))
     refine aM 52 (.string (subS ((zer d) ++ (ito d)) (w64 (((((zer d) ++ (ito d))).size : Int) - d.scale)) ((((zer d) ++ (ito d))).size : Int))) rfl rfl (aB 53 (.string (((subS ((zer d) ++ (ito d)) 0 (w64 (((((zer d) ++ (ito d))).size : Int) - d.scale))) ++ (⟨#[46]⟩ : ByteArray)) ++ (subS ((zer d) ++ (ito d)) (w64 (((((zer d) ++ (ito d))).size : Int) - d.scale)) ((((zer d) ++ (ito d))).size : Int)))) rfl rfl rfl (bi_sadd (sz_two (sz_add (subS_le _ _ _ (sz_add (zer_sz h1) (ito_sz h1))) (show ((⟨#[46]⟩ : ByteArray)).size ≤ 1 from Nat.le_refl _)) (subS_le _ _ _ (sz_add (zer_sz h1) (ito_sz h1))) (by decide))) ?_)
     refine aA 2 (.string (((subS ((zer d) ++ (ito d)) 0 (w64 (((((zer d) ++ (ito d))).size : Int) - d.scale))) ++ (⟨#[46]⟩ : ByteArray)) ++ (subS ((zer d) ++ (ito d)) (w64 (((((zer d) ++ (ito d))).size : Int) - d.scale)) ((((zer d) ++ (ito d))).size : Int)))) rfl rfl (aN (ac_ret (fin_eq (v := .string (((subS ((zer d) ++ (ito d)) 0 (w64 (((((zer d) ++ (ito d))).size : Int) - d.scale))) ++ (⟨#[46]⟩ : ByteArray)) ++ (subS ((zer d) ++ (ito d)) (w64 (((((zer d) ++ (ito d))).size : Int) - d.scale)) ((((zer d) ++ (ito d))).size : Int)))) (by show _ = (fun (r : ByteArray) => (.string r : Value)) (decPrint d); rw [decPrint, h4, h3, h2, h1] <;> rfl) (fin_ret (res_tmp rfl rfl)))))
 ·refine ac_then' (b := !(decRight d)) (by rw [h1]; rfl) rfl (aQ (aL (aA 2 (.string (⟨#[]⟩ : ByteArray)) rfl rfl (aN (ac_ret (fin_eq (v := .string (⟨#[]⟩ : ByteArray)) (by show _ = (fun (r : ByteArray) => (.string r : Value)) (decPrint d); rw [decPrint, h1] <;> rfl) (fin_ret (res_tmp rfl rfl))))))))
end Go.Proofs.YtalffjplbhelcaaGreatDoor
namespace Go.Proofs.YtalffjplbhelcaaGreatDoor
def prForm (q1 q2 q3 : Bool) (a b : ByteArray) : ByteArray := bif q1 then (⟨#[]⟩ : ByteArray) else (bif q2 then (bif q3 then ((⟨#[45]⟩ : ByteArray) ++ a) else ((((⟨#[45]⟩ : ByteArray) ++ a) ++ (⟨#[46]⟩ : ByteArray)) ++ b)) else (bif q3 then a else ((a ++ (⟨#[46]⟩ : ByteArray)) ++ b)))
theorem prForm_sz (q1 q2 q3 : Bool) {a b : ByteArray} (ha : a.size ≤ 1021) (hb : b.size ≤ 1021) : (prForm q1 q2 q3 a b).size ≤ 3000 := by
  have h1 : (⟨#[45]⟩ : ByteArray).size = 1 := rfl
  have h2 : (⟨#[46]⟩ : ByteArray).size = 1 := rfl
  have h0 : (⟨#[]⟩ : ByteArray).size = 0 := rfl
  unfold prForm
  cases q1 <;> cases q2 <;> cases q3 <;> simp only [cond_false, cond_true, ByteArray.size_append', h0, h1, h2] <;> omega
theorem decPrint_form (d : Dec) : decPrint d = bif decRight d then prForm (decide (((subS (zer d ++ ito d) 0 (w64 (((zer d ++ ito d).size : Int) - d.scale))).size : Int) > 5)) (decide (d.c < 0)) (sEq (subS (zer d ++ ito d) (w64 (((zer d ++ ito d).size : Int) - d.scale)) ((zer d ++ ito d).size : Int)) (⟨#[]⟩ : ByteArray)) (subS (zer d ++ ito d) 0 (w64 (((zer d ++ ito d).size : Int) - d.scale))) (subS (zer d ++ ito d) (w64 (((zer d ++ ito d).size : Int) - d.scale)) ((zer d ++ ito d).size : Int)) else (⟨#[]⟩ : ByteArray) := by
  unfold decPrint prForm
  rfl
theorem print_sz (d : Dec) : (decPrint d).size ≤ 3000 := by
  rw [decPrint_form]
  cases h : decRight d
  · exact Nat.zero_le _
  · have h1 := zer_sz h
    have h2 := ito_sz h
    have h3 : (zer d ++ ito d).size ≤ 1021 := by rw [ByteArray.size_append']; omega
    exact prForm_sz _ _ _ (subS_le _ _ _ h3) (subS_le _ _ _ h3)
end Go.Proofs.YtalffjplbhelcaaGreatDoor
namespace Go.Proofs.YtalffjplbhelcaaGreatDoor
end Go.Proofs.YtalffjplbhelcaaGreatDoor
namespace Go.Proofs.YtalffjplbhelcaaGreatDoor
theorem dg_arg {n : Nat} (hn : n < 1000000000000000000) : w64 (Int.tdiv (n : Int) 10) = ((n / 10 : Nat) : Int) := by
  rw [Int.tdiv_eq_ediv_of_nonneg (by omega), w64_in (by omega)]
  omega
theorem dg_in {p : Program} {f : FuncId} {a b : Int} {v : Value} (h : Gets p f #[.int .i64 b] v) (e : a = b) : Gets p f #[.int .i64 a] v := e ▸ h
theorem dg_byte {k : Int} (h : 0 ≤ k ∧ k < 10) : byteS (IntKind.u8.wrap (w64 (48 + k))) = byA [UInt8.ofNat (48 + k.toNat)] := by
  rw [w64_in (by omega), IntKind.wrap_u8]
  unfold byteS byA
  rw [show ((48 + k) % 256).toNat = 48 + k.toNat by omega]
theorem dg_one {n : Nat} (h : decide ((n : Int) < 10) = true) : byteS (IntKind.u8.wrap (w64 (48 + (n : Int)))) = byA (Lib.decDigits n) := by
  have h := of_decide_eq_true h
  rw [dg_byte (by omega), Lib.decDigits, dif_pos (by omega), Int.toNat_natCast]
theorem dg_more {n : Nat} (h : decide ((n : Int) < 10) = false) : byA (Lib.decDigits (n / 10)) ++ byteS (IntKind.u8.wrap (w64 (48 + (Int.tmod (n : Int) 10)))) = byA (Lib.decDigits n) := by
  have h := of_decide_eq_false h
  have e : Int.tmod (n : Int) 10 = ((n % 10 : Nat) : Int) := by rw [Int.tmod_eq_emod_of_nonneg (by omega)]; omega
  rw [e, dg_byte (by omega), Int.toNat_natCast, byA_app]
  conv => rhs; rw [Lib.decDigits, dif_neg (by omega)]
theorem dg_len : ∀ (k n : Nat), n < 10 ^ (k + 1) → (Lib.decDigits n).length ≤ k + 1
  | 0, n, h => by rw [Lib.decDigits, dif_pos (by omega)]; simp
  | k + 1, n, h => by
    rw [Lib.decDigits]
    by_cases h10 : n < 10
    · rw [dif_pos h10]; simp
    · rw [dif_neg h10, List.length_append]
      have := dg_len k (n / 10) (by rw [Nat.pow_succ] at h; omega)
      simp only [List.length_singleton]
      omega
theorem dg_size {n : Nat} (h : n < 1000000000000000000) : (byA (Lib.decDigits (n / 10))).size ≤ 18 := dg_len 17 (n / 10) (by have : (10 : Nat) ^ (17 + 1) = 1000000000000000000 := by decide
                                                                                                                             omega)
end Go.Proofs.YtalffjplbhelcaaGreatDoor
namespace Go.Proofs.YtalffjplbhelcaaGreatDoor
open Go.RowKit
attribute [local irreducible] AC AR DWalk
set_option maxRecDepth 100000 in
theorem c_rDigits (n : Nat) : n < 1000000000000000000 → Gets Tryz.prog 22 #[.int .i64 (n : Int)] (.string (byA (Lib.decDigits n))) := by
 induction n using Nat.strongRecOn with
 | _ n ih =>
  intro hn
  refine gets_fin Tryz.func22 rfl rfl rfl (aQ (aL (aA 2 (.string (⟨#[]⟩ : ByteArray)) rfl rfl (aN (aQ (aQ (aL (aM 3 (.int .i64 (n : Int)) rfl rfl (aB 4 (.bool (decide ((n : Int) < 0))) rfl rfl rfl (bi_lss rfl) (aN (ac_else' (b := decide ((n : Int) < 0)) (decide_eq_false (by omega)) rfl (ac_skip (aQ (aQ (aL (aM 9 (.int .i64 (n : Int)) rfl rfl (aB 10 (.bool (decide ((n : Int) < 10))) rfl rfl rfl (bi_lss rfl) (aN ?_))))))))))))))))))
  refine bool_split (decide ((n : Int) < 10)) (fun h1 => ?_) (fun h1 => ?_)
  ·refine ac_then' (b := decide ((n : Int) < 10)) h1 rfl (aQ (aL (aM 11 (.int .i64 (n : Int)) rfl rfl (aB 12 (.int .i64 (w64 (48 + (n : Int)))) rfl rfl rfl (bi_add rfl) (ao 13 rfl rfl (st_cv_int (k := .u8) (a := (w64 (48 + (n : Int)))) (c := (IntKind.u8.wrap (w64 (48 + (n : Int))))) Tryz.underlying5 Tryz.underlying3 rfl rfl rfl (ao 14 rfl rfl (st_bs (us := [(0, .int .u8 (IntKind.u8.wrap (w64 (48 + (n : Int)))))]) (cs := [.int .u8 (IntKind.u8.wrap (w64 (48 + (n : Int))))]) rfl rfl (bs76_1_0 _) fun g0 => (ao 15 rfl rfl (st_cvs (g := g0) (n := (IntKind.u8.wrap (w64 (48 + (n : Int))))) 0 rfl Tryz.underlying76 Tryz.underlying5 Tryz.underlying9 rfl rfl rfl rfl ?_))))))))))
   refine aA 2 (.string (byteS (IntKind.u8.wrap (w64 (48 + (n : Int)))))) rfl rfl (aN (ac_ret (fin_eq (v := .string (byteS (IntKind.u8.wrap (w64 (48 + (n : Int)))))) (congrArg Value.string (dg_one h1)) (fin_ret (res_tmp rfl rfl)))))
  ·refine ac_else' (b := decide ((n : Int) < 10)) h1 rfl (ac_skip (aQ ?_))
   refine ac_any follows 11 rfl (fun Φ stepR doneR permR => ?_)
   refine ((fun s5_29 => ?_) : (∀ (E : Env) (b5_7 : Nat), E 2 = .string ((byA (Lib.decDigits (n / 10))) ++ (byteS (IntKind.u8.wrap (w64 (48 + (Int.tmod (n : Int) 10)))))) → Φ 0 [true, true, true, true, true, true, true, true, true, true, true] E [⟨b5_7, [.int .u8 (IntKind.u8.wrap (w64 (48 + (Int.tmod (n : Int) 10))))], 5, false⟩]) → _) ?_
   ·have s5_28 : ∀ (E : Env) (b5_7 : Nat), E 2 = .string (⟨#[]⟩ : ByteArray) → E 25 = .string ((byA (Lib.decDigits (n / 10))) ++ (byteS (IntKind.u8.wrap (w64 (48 + (Int.tmod (n : Int) 10)))))) → Φ 1 [true, true, true, true, true, true, true, true, true, true, false] E [⟨b5_7, [.int .u8 (IntKind.u8.wrap (w64 (48 + (Int.tmod (n : Int) 10))))], 5, false⟩] := by
     intro E b5_7 q2 q25
     obtain ⟨E0, rfl⟩ : ∃ E0 : Env, E = ((E0.put (some 2) (.string (⟨#[]⟩ : ByteArray))).put (some 25) (.string ((byA (Lib.decDigits (n / 10))) ++ (byteS (IntKind.u8.wrap (w64 (48 + (Int.tmod (n : Int) 10)))))))) := ⟨E, by rw [put_self q2, put_self q25]⟩
     refine stepR 0 _ _ _ [10] (by kernel_rfl) rfl ⟨?_, trivial⟩
     ·refine opR_op (d := (some 2)) rfl rfl rfl (st_assign (v := .string ((byA (Lib.decDigits (n / 10))) ++ (byteS (IntKind.u8.wrap (w64 (48 + (Int.tmod (n : Int) 10))))))) rfl rfl ?_)
      exact s5_29 _ _ rfl
    have s5_27 : ∀ (E : Env) (b5_7 : Nat), E 2 = .string (⟨#[]⟩ : ByteArray) → E 18 = .string (byA (Lib.decDigits (n / 10))) → E 24 = .string (byteS (IntKind.u8.wrap (w64 (48 + (Int.tmod (n : Int) 10))))) → Φ 2 [true, true, true, true, true, true, true, true, true, false, false] E [⟨b5_7, [.int .u8 (IntKind.u8.wrap (w64 (48 + (Int.tmod (n : Int) 10))))], 5, false⟩] := by
     intro E b5_7 q2 q18 q24
     obtain ⟨E0, rfl⟩ : ∃ E0 : Env, E = (((E0.put (some 2) (.string (⟨#[]⟩ : ByteArray))).put (some 18) (.string (byA (Lib.decDigits (n / 10))))).put (some 24) (.string (byteS (IntKind.u8.wrap (w64 (48 + (Int.tmod (n : Int) 10))))))) := ⟨E, by rw [put_self q2, put_self q18, put_self q24]⟩
     refine stepR 1 _ _ _ [9] (by kernel_rfl) rfl ⟨?_, trivial⟩
     ·refine opR_op (d := (some 25)) rfl rfl rfl (st_bi (r := .string ((byA (Lib.decDigits (n / 10))) ++ (byteS (IntKind.u8.wrap (w64 (48 + (Int.tmod (n : Int) 10))))))) rfl rfl rfl (bi_sadd (sz_two (dg_size hn) (byteS_size _) (by decide))) ?_)
      exact s5_28 _ _ rfl rfl
    have s5_26 : ∀ (E : Env) (b5_7 : Nat), E 2 = .string (⟨#[]⟩ : ByteArray) → E 18 = .string (byA (Lib.decDigits (n / 10))) → E 23 = .slice (some ⟨b5_7, 0, none⟩) 1 1 → Φ 3 [true, true, true, true, true, true, true, true, false, false, false] E [⟨b5_7, [.int .u8 (IntKind.u8.wrap (w64 (48 + (Int.tmod (n : Int) 10))))], 5, false⟩] := by
     intro E b5_7 q2 q18 q23
     obtain ⟨E0, rfl⟩ : ∃ E0 : Env, E = (((E0.put (some 2) (.string (⟨#[]⟩ : ByteArray))).put (some 18) (.string (byA (Lib.decDigits (n / 10))))).put (some 23) (.slice (some ⟨b5_7, 0, none⟩) 1 1)) := ⟨E, by rw [put_self q2, put_self q18, put_self q23]⟩
     refine stepR 2 _ _ _ [8] (by kernel_rfl) rfl ⟨?_, trivial⟩
     ·refine opR_op (d := (some 24)) rfl rfl rfl (st_cvs (g := b5_7) (n := (IntKind.u8.wrap (w64 (48 + (Int.tmod (n : Int) 10))))) 0 rfl Tryz.underlying76 Tryz.underlying5 Tryz.underlying9 rfl rfl rfl rfl ?_)
      exact s5_27 _ _ rfl rfl rfl
    have s5_25 : ∀ (E : Env) (b5_7 : Nat), E 2 = .string (⟨#[]⟩ : ByteArray) → E 17 = .int .i64 (w64 (Int.tdiv (n : Int) 10)) → E 24 = .string (byteS (IntKind.u8.wrap (w64 (48 + (Int.tmod (n : Int) 10))))) → Φ 3 [true, true, false, true, true, true, true, true, true, false, false] E [⟨b5_7, [.int .u8 (IntKind.u8.wrap (w64 (48 + (Int.tmod (n : Int) 10))))], 5, false⟩] := by
     intro E b5_7 q2 q17 q24
     obtain ⟨E0, rfl⟩ : ∃ E0 : Env, E = (((E0.put (some 2) (.string (⟨#[]⟩ : ByteArray))).put (some 17) (.int .i64 (w64 (Int.tdiv (n : Int) 10)))).put (some 24) (.string (byteS (IntKind.u8.wrap (w64 (48 + (Int.tmod (n : Int) 10))))))) := ⟨E, by rw [put_self q2, put_self q17, put_self q24]⟩
     refine stepR 2 _ _ _ [2] (by kernel_rfl) rfl ⟨?_, trivial⟩
     ·refine opR_op (d := (some 18)) rfl rfl rfl (st_cf (dg_in (ih (n / 10) (by have := of_decide_eq_false h1; omega) (by omega)) (dg_arg hn)) Tryz.func22 rfl (by decide) rfl rfl rfl ?_)
      exact s5_27 _ _ rfl rfl rfl
    have s5_24 : ∀ (E : Env), E 2 = .string (⟨#[]⟩ : ByteArray) → E 18 = .string (byA (Lib.decDigits (n / 10))) → E 22 = .int .u8 (IntKind.u8.wrap (w64 (48 + (Int.tmod (n : Int) 10)))) → Φ 4 [true, true, true, true, true, true, true, false, false, false, false] E [] := by
     intro E q2 q18 q22
     obtain ⟨E0, rfl⟩ : ∃ E0 : Env, E = (((E0.put (some 2) (.string (⟨#[]⟩ : ByteArray))).put (some 18) (.string (byA (Lib.decDigits (n / 10))))).put (some 22) (.int .u8 (IntKind.u8.wrap (w64 (48 + (Int.tmod (n : Int) 10)))))) := ⟨E, by rw [put_self q2, put_self q18, put_self q22]⟩
     refine stepR 3 _ _ _ [7] (by kernel_rfl) rfl ⟨?_, trivial⟩
     ·refine opR_op (d := (some 23)) rfl rfl rfl (st_bs (us := [(0, .int .u8 (IntKind.u8.wrap (w64 (48 + (Int.tmod (n : Int) 10)))))]) (cs := [.int .u8 (IntKind.u8.wrap (w64 (48 + (Int.tmod (n : Int) 10))))]) rfl rfl (bs76_1_0 _) fun b5_7 => ?_)
      exact s5_26 _ _ rfl rfl rfl
    have s5_23 : ∀ (E : Env) (b5_7 : Nat), E 2 = .string (⟨#[]⟩ : ByteArray) → E 17 = .int .i64 (w64 (Int.tdiv (n : Int) 10)) → E 23 = .slice (some ⟨b5_7, 0, none⟩) 1 1 → Φ 4 [true, true, false, true, true, true, true, true, false, false, false] E [⟨b5_7, [.int .u8 (IntKind.u8.wrap (w64 (48 + (Int.tmod (n : Int) 10))))], 5, false⟩] := by
     intro E b5_7 q2 q17 q23
     obtain ⟨E0, rfl⟩ : ∃ E0 : Env, E = (((E0.put (some 2) (.string (⟨#[]⟩ : ByteArray))).put (some 17) (.int .i64 (w64 (Int.tdiv (n : Int) 10)))).put (some 23) (.slice (some ⟨b5_7, 0, none⟩) 1 1)) := ⟨E, by rw [put_self q2, put_self q17, put_self q23]⟩
     refine stepR 3 _ _ _ [2, 8] (by kernel_rfl) rfl ⟨?_, ?_, trivial⟩
     ·refine opR_op (d := (some 18)) rfl rfl rfl (st_cf (dg_in (ih (n / 10) (by have := of_decide_eq_false h1; omega) (by omega)) (dg_arg hn)) Tryz.func22 rfl (by decide) rfl rfl rfl ?_)
      exact s5_26 _ _ rfl rfl rfl
     ·refine opR_op (d := (some 24)) rfl rfl rfl (st_cvs (g := b5_7) (n := (IntKind.u8.wrap (w64 (48 + (Int.tmod (n : Int) 10))))) 0 rfl Tryz.underlying76 Tryz.underlying5 Tryz.underlying9 rfl rfl rfl rfl ?_)
      exact s5_25 _ _ rfl rfl rfl
    have s5_22 : ∀ (E : Env) (b5_7 : Nat), E 2 = .string (⟨#[]⟩ : ByteArray) → E 16 = .int .i64 (n : Int) → E 24 = .string (byteS (IntKind.u8.wrap (w64 (48 + (Int.tmod (n : Int) 10))))) → Φ 4 [true, false, false, true, true, true, true, true, true, false, false] E [⟨b5_7, [.int .u8 (IntKind.u8.wrap (w64 (48 + (Int.tmod (n : Int) 10))))], 5, false⟩] := by
     intro E b5_7 q2 q16 q24
     obtain ⟨E0, rfl⟩ : ∃ E0 : Env, E = (((E0.put (some 2) (.string (⟨#[]⟩ : ByteArray))).put (some 16) (.int .i64 (n : Int))).put (some 24) (.string (byteS (IntKind.u8.wrap (w64 (48 + (Int.tmod (n : Int) 10))))))) := ⟨E, by rw [put_self q2, put_self q16, put_self q24]⟩
     refine stepR 3 _ _ _ [1] (by kernel_rfl) rfl ⟨?_, trivial⟩
     ·refine opR_op (d := (some 17)) rfl rfl rfl (st_bi (r := .int .i64 (w64 (Int.tdiv (n : Int) 10))) rfl rfl rfl (bi_quo (by decide) rfl) ?_)
      exact s5_25 _ _ rfl rfl rfl
    have s5_21 : ∀ (E : Env), E 2 = .string (⟨#[]⟩ : ByteArray) → E 18 = .string (byA (Lib.decDigits (n / 10))) → E 21 = .int .i64 (w64 (48 + (Int.tmod (n : Int) 10))) → Φ 5 [true, true, true, true, true, true, false, false, false, false, false] E [] := by
     intro E q2 q18 q21
     obtain ⟨E0, rfl⟩ : ∃ E0 : Env, E = (((E0.put (some 2) (.string (⟨#[]⟩ : ByteArray))).put (some 18) (.string (byA (Lib.decDigits (n / 10))))).put (some 21) (.int .i64 (w64 (48 + (Int.tmod (n : Int) 10))))) := ⟨E, by rw [put_self q2, put_self q18, put_self q21]⟩
     refine stepR 4 _ _ _ [6] (by kernel_rfl) rfl ⟨?_, trivial⟩
     ·refine opR_op (d := (some 22)) rfl rfl rfl (st_cv_int (k := .u8) (a := (w64 (48 + (Int.tmod (n : Int) 10)))) (c := (IntKind.u8.wrap (w64 (48 + (Int.tmod (n : Int) 10))))) Tryz.underlying5 Tryz.underlying3 rfl rfl rfl ?_)
      exact s5_24 _ rfl rfl rfl
    have s5_20 : ∀ (E : Env), E 2 = .string (⟨#[]⟩ : ByteArray) → E 17 = .int .i64 (w64 (Int.tdiv (n : Int) 10)) → E 22 = .int .u8 (IntKind.u8.wrap (w64 (48 + (Int.tmod (n : Int) 10)))) → Φ 5 [true, true, false, true, true, true, true, false, false, false, false] E [] := by
     intro E q2 q17 q22
     obtain ⟨E0, rfl⟩ : ∃ E0 : Env, E = (((E0.put (some 2) (.string (⟨#[]⟩ : ByteArray))).put (some 17) (.int .i64 (w64 (Int.tdiv (n : Int) 10)))).put (some 22) (.int .u8 (IntKind.u8.wrap (w64 (48 + (Int.tmod (n : Int) 10)))))) := ⟨E, by rw [put_self q2, put_self q17, put_self q22]⟩
     refine stepR 4 _ _ _ [2, 7] (by kernel_rfl) rfl ⟨?_, ?_, trivial⟩
     ·refine opR_op (d := (some 18)) rfl rfl rfl (st_cf (dg_in (ih (n / 10) (by have := of_decide_eq_false h1; omega) (by omega)) (dg_arg hn)) Tryz.func22 rfl (by decide) rfl rfl rfl ?_)
      exact s5_24 _ rfl rfl rfl
     ·refine opR_op (d := (some 23)) rfl rfl rfl (st_bs (us := [(0, .int .u8 (IntKind.u8.wrap (w64 (48 + (Int.tmod (n : Int) 10)))))]) (cs := [.int .u8 (IntKind.u8.wrap (w64 (48 + (Int.tmod (n : Int) 10))))]) rfl rfl (bs76_1_0 _) fun b5_7 => ?_)
      exact s5_23 _ _ rfl rfl rfl
    have s5_19 : ∀ (E : Env) (b5_7 : Nat), E 2 = .string (⟨#[]⟩ : ByteArray) → E 16 = .int .i64 (n : Int) → E 23 = .slice (some ⟨b5_7, 0, none⟩) 1 1 → Φ 5 [true, false, false, true, true, true, true, true, false, false, false] E [⟨b5_7, [.int .u8 (IntKind.u8.wrap (w64 (48 + (Int.tmod (n : Int) 10))))], 5, false⟩] := by
     intro E b5_7 q2 q16 q23
     obtain ⟨E0, rfl⟩ : ∃ E0 : Env, E = (((E0.put (some 2) (.string (⟨#[]⟩ : ByteArray))).put (some 16) (.int .i64 (n : Int))).put (some 23) (.slice (some ⟨b5_7, 0, none⟩) 1 1)) := ⟨E, by rw [put_self q2, put_self q16, put_self q23]⟩
     refine stepR 4 _ _ _ [1, 8] (by kernel_rfl) rfl ⟨?_, ?_, trivial⟩
     ·refine opR_op (d := (some 17)) rfl rfl rfl (st_bi (r := .int .i64 (w64 (Int.tdiv (n : Int) 10))) rfl rfl rfl (bi_quo (by decide) rfl) ?_)
      exact s5_23 _ _ rfl rfl rfl
     ·refine opR_op (d := (some 24)) rfl rfl rfl (st_cvs (g := b5_7) (n := (IntKind.u8.wrap (w64 (48 + (Int.tmod (n : Int) 10))))) 0 rfl Tryz.underlying76 Tryz.underlying5 Tryz.underlying9 rfl rfl rfl rfl ?_)
      exact s5_22 _ _ rfl rfl rfl
    have s5_18 : ∀ (E : Env) (b5_7 : Nat), E 0 = .int .i64 (n : Int) → E 2 = .string (⟨#[]⟩ : ByteArray) → E 24 = .string (byteS (IntKind.u8.wrap (w64 (48 + (Int.tmod (n : Int) 10))))) → Φ 5 [false, false, false, true, true, true, true, true, true, false, false] E [⟨b5_7, [.int .u8 (IntKind.u8.wrap (w64 (48 + (Int.tmod (n : Int) 10))))], 5, false⟩] := by
     intro E b5_7 q0 q2 q24
     obtain ⟨E0, rfl⟩ : ∃ E0 : Env, E = (((E0.put (some 0) (.int .i64 (n : Int))).put (some 2) (.string (⟨#[]⟩ : ByteArray))).put (some 24) (.string (byteS (IntKind.u8.wrap (w64 (48 + (Int.tmod (n : Int) 10))))))) := ⟨E, by rw [put_self q0, put_self q2, put_self q24]⟩
     refine stepR 4 _ _ _ [0] (by kernel_rfl) rfl ⟨?_, trivial⟩
     ·refine opR_op (d := (some 16)) rfl rfl rfl (st_move (v := .int .i64 (n : Int)) rfl rfl ?_)
      exact s5_22 _ _ rfl rfl rfl
    have s5_17 : ∀ (E : Env), E 2 = .string (⟨#[]⟩ : ByteArray) → E 18 = .string (byA (Lib.decDigits (n / 10))) → E 20 = .int .i64 (Int.tmod (n : Int) 10) → Φ 6 [true, true, true, true, true, false, false, false, false, false, false] E [] := by
     intro E q2 q18 q20
     obtain ⟨E0, rfl⟩ : ∃ E0 : Env, E = (((E0.put (some 2) (.string (⟨#[]⟩ : ByteArray))).put (some 18) (.string (byA (Lib.decDigits (n / 10))))).put (some 20) (.int .i64 (Int.tmod (n : Int) 10))) := ⟨E, by rw [put_self q2, put_self q18, put_self q20]⟩
     refine stepR 5 _ _ _ [5] (by kernel_rfl) rfl ⟨?_, trivial⟩
     ·refine opR_op (d := (some 21)) rfl rfl rfl (st_bi (r := .int .i64 (w64 (48 + (Int.tmod (n : Int) 10)))) rfl rfl rfl (bi_add rfl) ?_)
      exact s5_21 _ rfl rfl rfl
    have s5_16 : ∀ (E : Env), E 2 = .string (⟨#[]⟩ : ByteArray) → E 17 = .int .i64 (w64 (Int.tdiv (n : Int) 10)) → E 21 = .int .i64 (w64 (48 + (Int.tmod (n : Int) 10))) → Φ 6 [true, true, false, true, true, true, false, false, false, false, false] E [] := by
     intro E q2 q17 q21
     obtain ⟨E0, rfl⟩ : ∃ E0 : Env, E = (((E0.put (some 2) (.string (⟨#[]⟩ : ByteArray))).put (some 17) (.int .i64 (w64 (Int.tdiv (n : Int) 10)))).put (some 21) (.int .i64 (w64 (48 + (Int.tmod (n : Int) 10))))) := ⟨E, by rw [put_self q2, put_self q17, put_self q21]⟩
     refine stepR 5 _ _ _ [2, 6] (by kernel_rfl) rfl ⟨?_, ?_, trivial⟩
     ·refine opR_op (d := (some 18)) rfl rfl rfl (st_cf (dg_in (ih (n / 10) (by have := of_decide_eq_false h1; omega) (by omega)) (dg_arg hn)) Tryz.func22 rfl (by decide) rfl rfl rfl ?_)
      exact s5_21 _ rfl rfl rfl
     ·refine opR_op (d := (some 22)) rfl rfl rfl (st_cv_int (k := .u8) (a := (w64 (48 + (Int.tmod (n : Int) 10)))) (c := (IntKind.u8.wrap (w64 (48 + (Int.tmod (n : Int) 10))))) Tryz.underlying5 Tryz.underlying3 rfl rfl rfl ?_)
      exact s5_20 _ rfl rfl rfl
    have s5_15 : ∀ (E : Env), E 2 = .string (⟨#[]⟩ : ByteArray) → E 16 = .int .i64 (n : Int) → E 22 = .int .u8 (IntKind.u8.wrap (w64 (48 + (Int.tmod (n : Int) 10)))) → Φ 6 [true, false, false, true, true, true, true, false, false, false, false] E [] := by
     intro E q2 q16 q22
     obtain ⟨E0, rfl⟩ : ∃ E0 : Env, E = (((E0.put (some 2) (.string (⟨#[]⟩ : ByteArray))).put (some 16) (.int .i64 (n : Int))).put (some 22) (.int .u8 (IntKind.u8.wrap (w64 (48 + (Int.tmod (n : Int) 10)))))) := ⟨E, by rw [put_self q2, put_self q16, put_self q22]⟩
     refine stepR 5 _ _ _ [1, 7] (by kernel_rfl) rfl ⟨?_, ?_, trivial⟩
     ·refine opR_op (d := (some 17)) rfl rfl rfl (st_bi (r := .int .i64 (w64 (Int.tdiv (n : Int) 10))) rfl rfl rfl (bi_quo (by decide) rfl) ?_)
      exact s5_20 _ rfl rfl rfl
     ·refine opR_op (d := (some 23)) rfl rfl rfl (st_bs (us := [(0, .int .u8 (IntKind.u8.wrap (w64 (48 + (Int.tmod (n : Int) 10)))))]) (cs := [.int .u8 (IntKind.u8.wrap (w64 (48 + (Int.tmod (n : Int) 10))))]) rfl rfl (bs76_1_0 _) fun b5_7 => ?_)
      exact s5_19 _ _ rfl rfl rfl
    have s5_14 : ∀ (E : Env) (b5_7 : Nat), E 0 = .int .i64 (n : Int) → E 2 = .string (⟨#[]⟩ : ByteArray) → E 23 = .slice (some ⟨b5_7, 0, none⟩) 1 1 → Φ 6 [false, false, false, true, true, true, true, true, false, false, false] E [⟨b5_7, [.int .u8 (IntKind.u8.wrap (w64 (48 + (Int.tmod (n : Int) 10))))], 5, false⟩] := by
     intro E b5_7 q0 q2 q23
     obtain ⟨E0, rfl⟩ : ∃ E0 : Env, E = (((E0.put (some 0) (.int .i64 (n : Int))).put (some 2) (.string (⟨#[]⟩ : ByteArray))).put (some 23) (.slice (some ⟨b5_7, 0, none⟩) 1 1)) := ⟨E, by rw [put_self q0, put_self q2, put_self q23]⟩
     refine stepR 5 _ _ _ [0, 8] (by kernel_rfl) rfl ⟨?_, ?_, trivial⟩
     ·refine opR_op (d := (some 16)) rfl rfl rfl (st_move (v := .int .i64 (n : Int)) rfl rfl ?_)
      exact s5_19 _ _ rfl rfl rfl
     ·refine opR_op (d := (some 24)) rfl rfl rfl (st_cvs (g := b5_7) (n := (IntKind.u8.wrap (w64 (48 + (Int.tmod (n : Int) 10))))) 0 rfl Tryz.underlying76 Tryz.underlying5 Tryz.underlying9 rfl rfl rfl rfl ?_)
      exact s5_18 _ _ rfl rfl rfl
    have s5_13 : ∀ (E : Env), E 2 = .string (⟨#[]⟩ : ByteArray) → E 18 = .string (byA (Lib.decDigits (n / 10))) → E 19 = .int .i64 (n : Int) → Φ 7 [true, true, true, true, false, false, false, false, false, false, false] E [] := by
     intro E q2 q18 q19
     obtain ⟨E0, rfl⟩ : ∃ E0 : Env, E = (((E0.put (some 2) (.string (⟨#[]⟩ : ByteArray))).put (some 18) (.string (byA (Lib.decDigits (n / 10))))).put (some 19) (.int .i64 (n : Int))) := ⟨E, by rw [put_self q2, put_self q18, put_self q19]⟩
     refine stepR 6 _ _ _ [4] (by kernel_rfl) rfl ⟨?_, trivial⟩
     ·refine opR_op (d := (some 20)) rfl rfl rfl (st_bi (r := .int .i64 (Int.tmod (n : Int) 10)) rfl rfl rfl (bi_rem (by decide) rfl) ?_)
      exact s5_17 _ rfl rfl rfl
    have s5_12 : ∀ (E : Env), E 2 = .string (⟨#[]⟩ : ByteArray) → E 17 = .int .i64 (w64 (Int.tdiv (n : Int) 10)) → E 20 = .int .i64 (Int.tmod (n : Int) 10) → Φ 7 [true, true, false, true, true, false, false, false, false, false, false] E [] := by
     intro E q2 q17 q20
     obtain ⟨E0, rfl⟩ : ∃ E0 : Env, E = (((E0.put (some 2) (.string (⟨#[]⟩ : ByteArray))).put (some 17) (.int .i64 (w64 (Int.tdiv (n : Int) 10)))).put (some 20) (.int .i64 (Int.tmod (n : Int) 10))) := ⟨E, by rw [put_self q2, put_self q17, put_self q20]⟩
     refine stepR 6 _ _ _ [2, 5] (by kernel_rfl) rfl ⟨?_, ?_, trivial⟩
     ·refine opR_op (d := (some 18)) rfl rfl rfl (st_cf (dg_in (ih (n / 10) (by have := of_decide_eq_false h1; omega) (by omega)) (dg_arg hn)) Tryz.func22 rfl (by decide) rfl rfl rfl ?_)
      exact s5_17 _ rfl rfl rfl
     ·refine opR_op (d := (some 21)) rfl rfl rfl (st_bi (r := .int .i64 (w64 (48 + (Int.tmod (n : Int) 10)))) rfl rfl rfl (bi_add rfl) ?_)
      exact s5_16 _ rfl rfl rfl
    have s5_11 : ∀ (E : Env), E 2 = .string (⟨#[]⟩ : ByteArray) → E 16 = .int .i64 (n : Int) → E 21 = .int .i64 (w64 (48 + (Int.tmod (n : Int) 10))) → Φ 7 [true, false, false, true, true, true, false, false, false, false, false] E [] := by
     intro E q2 q16 q21
     obtain ⟨E0, rfl⟩ : ∃ E0 : Env, E = (((E0.put (some 2) (.string (⟨#[]⟩ : ByteArray))).put (some 16) (.int .i64 (n : Int))).put (some 21) (.int .i64 (w64 (48 + (Int.tmod (n : Int) 10))))) := ⟨E, by rw [put_self q2, put_self q16, put_self q21]⟩
     refine stepR 6 _ _ _ [1, 6] (by kernel_rfl) rfl ⟨?_, ?_, trivial⟩
     ·refine opR_op (d := (some 17)) rfl rfl rfl (st_bi (r := .int .i64 (w64 (Int.tdiv (n : Int) 10))) rfl rfl rfl (bi_quo (by decide) rfl) ?_)
      exact s5_16 _ rfl rfl rfl
     ·refine opR_op (d := (some 22)) rfl rfl rfl (st_cv_int (k := .u8) (a := (w64 (48 + (Int.tmod (n : Int) 10)))) (c := (IntKind.u8.wrap (w64 (48 + (Int.tmod (n : Int) 10))))) Tryz.underlying5 Tryz.underlying3 rfl rfl rfl ?_)
      exact s5_15 _ rfl rfl rfl
    have s5_10 : ∀ (E : Env), E 0 = .int .i64 (n : Int) → E 2 = .string (⟨#[]⟩ : ByteArray) → E 22 = .int .u8 (IntKind.u8.wrap (w64 (48 + (Int.tmod (n : Int) 10)))) → Φ 7 [false, false, false, true, true, true, true, false, false, false, false] E [] := by
     intro E q0 q2 q22
     obtain ⟨E0, rfl⟩ : ∃ E0 : Env, E = (((E0.put (some 0) (.int .i64 (n : Int))).put (some 2) (.string (⟨#[]⟩ : ByteArray))).put (some 22) (.int .u8 (IntKind.u8.wrap (w64 (48 + (Int.tmod (n : Int) 10)))))) := ⟨E, by rw [put_self q0, put_self q2, put_self q22]⟩
     refine stepR 6 _ _ _ [0, 7] (by kernel_rfl) rfl ⟨?_, ?_, trivial⟩
     ·refine opR_op (d := (some 16)) rfl rfl rfl (st_move (v := .int .i64 (n : Int)) rfl rfl ?_)
      exact s5_15 _ rfl rfl rfl
     ·refine opR_op (d := (some 23)) rfl rfl rfl (st_bs (us := [(0, .int .u8 (IntKind.u8.wrap (w64 (48 + (Int.tmod (n : Int) 10)))))]) (cs := [.int .u8 (IntKind.u8.wrap (w64 (48 + (Int.tmod (n : Int) 10))))]) rfl rfl (bs76_1_0 _) fun b5_7 => ?_)
      exact s5_14 _ _ rfl rfl rfl
    have s5_9 : ∀ (E : Env), E 0 = .int .i64 (n : Int) → E 2 = .string (⟨#[]⟩ : ByteArray) → E 18 = .string (byA (Lib.decDigits (n / 10))) → Φ 8 [true, true, true, false, false, false, false, false, false, false, false] E [] := by
     intro E q0 q2 q18
     obtain ⟨E0, rfl⟩ : ∃ E0 : Env, E = (((E0.put (some 0) (.int .i64 (n : Int))).put (some 2) (.string (⟨#[]⟩ : ByteArray))).put (some 18) (.string (byA (Lib.decDigits (n / 10))))) := ⟨E, by rw [put_self q0, put_self q2, put_self q18]⟩
     refine stepR 7 _ _ _ [3] (by kernel_rfl) rfl ⟨?_, trivial⟩
     ·refine opR_op (d := (some 19)) rfl rfl rfl (st_move (v := .int .i64 (n : Int)) rfl rfl ?_)
      exact s5_13 _ rfl rfl rfl
    have s5_8 : ∀ (E : Env), E 2 = .string (⟨#[]⟩ : ByteArray) → E 17 = .int .i64 (w64 (Int.tdiv (n : Int) 10)) → E 19 = .int .i64 (n : Int) → Φ 8 [true, true, false, true, false, false, false, false, false, false, false] E [] := by
     intro E q2 q17 q19
     obtain ⟨E0, rfl⟩ : ∃ E0 : Env, E = (((E0.put (some 2) (.string (⟨#[]⟩ : ByteArray))).put (some 17) (.int .i64 (w64 (Int.tdiv (n : Int) 10)))).put (some 19) (.int .i64 (n : Int))) := ⟨E, by rw [put_self q2, put_self q17, put_self q19]⟩
     refine stepR 7 _ _ _ [2, 4] (by kernel_rfl) rfl ⟨?_, ?_, trivial⟩
     ·refine opR_op (d := (some 18)) rfl rfl rfl (st_cf (dg_in (ih (n / 10) (by have := of_decide_eq_false h1; omega) (by omega)) (dg_arg hn)) Tryz.func22 rfl (by decide) rfl rfl rfl ?_)
      exact s5_13 _ rfl rfl rfl
     ·refine opR_op (d := (some 20)) rfl rfl rfl (st_bi (r := .int .i64 (Int.tmod (n : Int) 10)) rfl rfl rfl (bi_rem (by decide) rfl) ?_)
      exact s5_12 _ rfl rfl rfl
    have s5_7 : ∀ (E : Env), E 2 = .string (⟨#[]⟩ : ByteArray) → E 16 = .int .i64 (n : Int) → E 20 = .int .i64 (Int.tmod (n : Int) 10) → Φ 8 [true, false, false, true, true, false, false, false, false, false, false] E [] := by
     intro E q2 q16 q20
     obtain ⟨E0, rfl⟩ : ∃ E0 : Env, E = (((E0.put (some 2) (.string (⟨#[]⟩ : ByteArray))).put (some 16) (.int .i64 (n : Int))).put (some 20) (.int .i64 (Int.tmod (n : Int) 10))) := ⟨E, by rw [put_self q2, put_self q16, put_self q20]⟩
     refine stepR 7 _ _ _ [1, 5] (by kernel_rfl) rfl ⟨?_, ?_, trivial⟩
     ·refine opR_op (d := (some 17)) rfl rfl rfl (st_bi (r := .int .i64 (w64 (Int.tdiv (n : Int) 10))) rfl rfl rfl (bi_quo (by decide) rfl) ?_)
      exact s5_12 _ rfl rfl rfl
     ·refine opR_op (d := (some 21)) rfl rfl rfl (st_bi (r := .int .i64 (w64 (48 + (Int.tmod (n : Int) 10)))) rfl rfl rfl (bi_add rfl) ?_)
      exact s5_11 _ rfl rfl rfl
    have s5_6 : ∀ (E : Env), E 0 = .int .i64 (n : Int) → E 2 = .string (⟨#[]⟩ : ByteArray) → E 21 = .int .i64 (w64 (48 + (Int.tmod (n : Int) 10))) → Φ 8 [false, false, false, true, true, true, false, false, false, false, false] E [] := by
     intro E q0 q2 q21
     obtain ⟨E0, rfl⟩ : ∃ E0 : Env, E = (((E0.put (some 0) (.int .i64 (n : Int))).put (some 2) (.string (⟨#[]⟩ : ByteArray))).put (some 21) (.int .i64 (w64 (48 + (Int.tmod (n : Int) 10))))) := ⟨E, by rw [put_self q0, put_self q2, put_self q21]⟩
     refine stepR 7 _ _ _ [0, 6] (by kernel_rfl) rfl ⟨?_, ?_, trivial⟩
     ·refine opR_op (d := (some 16)) rfl rfl rfl (st_move (v := .int .i64 (n : Int)) rfl rfl ?_)
      exact s5_11 _ rfl rfl rfl
     ·refine opR_op (d := (some 22)) rfl rfl rfl (st_cv_int (k := .u8) (a := (w64 (48 + (Int.tmod (n : Int) 10)))) (c := (IntKind.u8.wrap (w64 (48 + (Int.tmod (n : Int) 10))))) Tryz.underlying5 Tryz.underlying3 rfl rfl rfl ?_)
      exact s5_10 _ rfl rfl rfl
    have s5_5 : ∀ (E : Env), E 0 = .int .i64 (n : Int) → E 2 = .string (⟨#[]⟩ : ByteArray) → E 17 = .int .i64 (w64 (Int.tdiv (n : Int) 10)) → Φ 9 [true, true, false, false, false, false, false, false, false, false, false] E [] := by
     intro E q0 q2 q17
     obtain ⟨E0, rfl⟩ : ∃ E0 : Env, E = (((E0.put (some 0) (.int .i64 (n : Int))).put (some 2) (.string (⟨#[]⟩ : ByteArray))).put (some 17) (.int .i64 (w64 (Int.tdiv (n : Int) 10)))) := ⟨E, by rw [put_self q0, put_self q2, put_self q17]⟩
     refine stepR 8 _ _ _ [2, 3] (by kernel_rfl) rfl ⟨?_, ?_, trivial⟩
     ·refine opR_op (d := (some 18)) rfl rfl rfl (st_cf (dg_in (ih (n / 10) (by have := of_decide_eq_false h1; omega) (by omega)) (dg_arg hn)) Tryz.func22 rfl (by decide) rfl rfl rfl ?_)
      exact s5_9 _ rfl rfl rfl
     ·refine opR_op (d := (some 19)) rfl rfl rfl (st_move (v := .int .i64 (n : Int)) rfl rfl ?_)
      exact s5_8 _ rfl rfl rfl
    have s5_4 : ∀ (E : Env), E 2 = .string (⟨#[]⟩ : ByteArray) → E 16 = .int .i64 (n : Int) → E 19 = .int .i64 (n : Int) → Φ 9 [true, false, false, true, false, false, false, false, false, false, false] E [] := by
     intro E q2 q16 q19
     obtain ⟨E0, rfl⟩ : ∃ E0 : Env, E = (((E0.put (some 2) (.string (⟨#[]⟩ : ByteArray))).put (some 16) (.int .i64 (n : Int))).put (some 19) (.int .i64 (n : Int))) := ⟨E, by rw [put_self q2, put_self q16, put_self q19]⟩
     refine stepR 8 _ _ _ [1, 4] (by kernel_rfl) rfl ⟨?_, ?_, trivial⟩
     ·refine opR_op (d := (some 17)) rfl rfl rfl (st_bi (r := .int .i64 (w64 (Int.tdiv (n : Int) 10))) rfl rfl rfl (bi_quo (by decide) rfl) ?_)
      exact s5_8 _ rfl rfl rfl
     ·refine opR_op (d := (some 20)) rfl rfl rfl (st_bi (r := .int .i64 (Int.tmod (n : Int) 10)) rfl rfl rfl (bi_rem (by decide) rfl) ?_)
      exact s5_7 _ rfl rfl rfl
    have s5_3 : ∀ (E : Env), E 0 = .int .i64 (n : Int) → E 2 = .string (⟨#[]⟩ : ByteArray) → E 20 = .int .i64 (Int.tmod (n : Int) 10) → Φ 9 [false, false, false, true, true, false, false, false, false, false, false] E [] := by
     intro E q0 q2 q20
     obtain ⟨E0, rfl⟩ : ∃ E0 : Env, E = (((E0.put (some 0) (.int .i64 (n : Int))).put (some 2) (.string (⟨#[]⟩ : ByteArray))).put (some 20) (.int .i64 (Int.tmod (n : Int) 10))) := ⟨E, by rw [put_self q0, put_self q2, put_self q20]⟩
     refine stepR 8 _ _ _ [0, 5] (by kernel_rfl) rfl ⟨?_, ?_, trivial⟩
     ·refine opR_op (d := (some 16)) rfl rfl rfl (st_move (v := .int .i64 (n : Int)) rfl rfl ?_)
      exact s5_7 _ rfl rfl rfl
     ·refine opR_op (d := (some 21)) rfl rfl rfl (st_bi (r := .int .i64 (w64 (48 + (Int.tmod (n : Int) 10)))) rfl rfl rfl (bi_add rfl) ?_)
      exact s5_6 _ rfl rfl rfl
    have s5_2 : ∀ (E : Env), E 0 = .int .i64 (n : Int) → E 2 = .string (⟨#[]⟩ : ByteArray) → E 16 = .int .i64 (n : Int) → Φ 10 [true, false, false, false, false, false, false, false, false, false, false] E [] := by
     intro E q0 q2 q16
     obtain ⟨E0, rfl⟩ : ∃ E0 : Env, E = (((E0.put (some 0) (.int .i64 (n : Int))).put (some 2) (.string (⟨#[]⟩ : ByteArray))).put (some 16) (.int .i64 (n : Int))) := ⟨E, by rw [put_self q0, put_self q2, put_self q16]⟩
     refine stepR 9 _ _ _ [1, 3] (by kernel_rfl) rfl ⟨?_, ?_, trivial⟩
     ·refine opR_op (d := (some 17)) rfl rfl rfl (st_bi (r := .int .i64 (w64 (Int.tdiv (n : Int) 10))) rfl rfl rfl (bi_quo (by decide) rfl) ?_)
      exact s5_5 _ rfl rfl rfl
     ·refine opR_op (d := (some 19)) rfl rfl rfl (st_move (v := .int .i64 (n : Int)) rfl rfl ?_)
      exact s5_4 _ rfl rfl rfl
    have s5_1 : ∀ (E : Env), E 0 = .int .i64 (n : Int) → E 2 = .string (⟨#[]⟩ : ByteArray) → E 19 = .int .i64 (n : Int) → Φ 10 [false, false, false, true, false, false, false, false, false, false, false] E [] := by
     intro E q0 q2 q19
     obtain ⟨E0, rfl⟩ : ∃ E0 : Env, E = (((E0.put (some 0) (.int .i64 (n : Int))).put (some 2) (.string (⟨#[]⟩ : ByteArray))).put (some 19) (.int .i64 (n : Int))) := ⟨E, by rw [put_self q0, put_self q2, put_self q19]⟩
     refine stepR 9 _ _ _ [0, 4] (by kernel_rfl) rfl ⟨?_, ?_, trivial⟩
     ·refine opR_op (d := (some 16)) rfl rfl rfl (st_move (v := .int .i64 (n : Int)) rfl rfl ?_)
      exact s5_4 _ rfl rfl rfl
     ·refine opR_op (d := (some 20)) rfl rfl rfl (st_bi (r := .int .i64 (Int.tmod (n : Int) 10)) rfl rfl rfl (bi_rem (by decide) rfl) ?_)
      exact s5_3 _ rfl rfl rfl
    refine stepR 10 _ _ _ [0, 3] (by kernel_rfl) rfl ⟨?_, ?_, trivial⟩
    ·refine opR_op (d := (some 16)) rfl rfl rfl (st_move (v := .int .i64 (n : Int)) rfl rfl ?_)
     exact s5_2 _ rfl rfl rfl
    ·refine opR_op (d := (some 19)) rfl rfl rfl (st_move (v := .int .i64 (n : Int)) rfl rfl ?_)
     exact s5_1 _ rfl rfl rfl
   intro E b5_7 q2
   obtain ⟨E0, rfl⟩ : ∃ E0 : Env, E = (E0.put (some 2) (.string ((byA (Lib.decDigits (n / 10))) ++ (byteS (IntKind.u8.wrap (w64 (48 + (Int.tmod (n : Int) 10)))))))) := ⟨E, by rw [put_self q2]⟩
   refine doneR _ _ _ (by kernel_rfl) (ac_ret (fin_eq (v := .string ((byA (Lib.decDigits (n / 10))) ++ (byteS (IntKind.u8.wrap (w64 (48 + (Int.tmod (n : Int) 10))))))) (congrArg Value.string (dg_more h1)) (fin_ret (res_tmp rfl rfl))))
end Go.Proofs.YtalffjplbhelcaaGreatDoor
namespace Go.Proofs.YtalffjplbhelcaaGreatDoor
def rDigs (x : Int) : ByteArray := byA (Lib.decDigits x.toNat)
theorem c_rDigI (x : Int) (h : 0 ≤ x ∧ x < 1000000000000000000) : Gets Tryz.prog 22 #[.int .i64 x] (.string (rDigs x)) := by
  obtain ⟨n, rfl⟩ : ∃ n : Nat, x = (n : Int) := ⟨x.toNat, by omega⟩
  exact c_rDigits n (by omega)
theorem rDigs_sz {x : Int} (h : 0 ≤ x ∧ x < 1000000000000000000) : (rDigs x).size ≤ 18 := dg_len 17 x.toNat (Nat.lt_of_lt_of_le (show x.toNat < 1000000000000000000 by omega) (by decide))
end Go.Proofs.YtalffjplbhelcaaGreatDoor
namespace Go.Proofs.YtalffjplbhelcaaGreatDoor
open Go.RowKit
attribute [local irreducible] AC AR DWalk
def rTen0  : Int := 1
set_option maxRecDepth 100000 in
theorem c_rTen0  : Gets Tryz.prog 75 #[.int .i64 0] ((fun (r : Int) => (.int .i64 r : Value)) rTen0) := by
 refine gets_fin Tryz.func75 rfl rfl rfl (aQ (aL (aA 2 (.int .i64 0) rfl rfl (aN (aQ (aL (aA 3 (.int .i64 1) rfl rfl (aN (aQ (ac_block ?_))))))))))
 refine ac_rounds 61 (ar_round (aQ (aQ (aL (aM 4 (.int .i64 0) rfl rfl (aB 5 (.bool false) rfl rfl rfl (bi_gtr (by decide)) (aN (ac_else rfl (ac_exit (aQ (aL (aM 10 (.int .i64 1) rfl rfl (aA 2 (.int .i64 1) rfl rfl (aN (ac_ret (fin_eq (v := .int .i64 1) rfl (fin_ret (res_tmp rfl rfl))))))))))))))))))
def rTen1  : Int := 10
set_option maxRecDepth 100000 in
theorem c_rTen1  : Gets Tryz.prog 75 #[.int .i64 1] ((fun (r : Int) => (.int .i64 r : Value)) rTen1) := by
 refine gets_fin Tryz.func75 rfl rfl rfl (aQ (aL (aA 2 (.int .i64 0) rfl rfl (aN (aQ (aL (aA 3 (.int .i64 1) rfl rfl (aN (aQ (ac_block ?_))))))))))
 refine ac_rounds 61 (ar_round (aQ (aQ (aL (aM 4 (.int .i64 1) rfl rfl (aB 5 (.bool true) rfl rfl rfl (bi_gtr (by decide)) (aN (ac_then rfl (ac_skip (aQ (ac_block (aL (aM 8 (.int .i64 1) rfl rfl (aB 9 (.int .i64 10) rfl rfl rfl (bi_mul (by decide)) (aA 3 (.int .i64 10) rfl rfl (aN (aL (aM 6 (.int .i64 1) rfl rfl (aB 7 (.int .i64 0) rfl rfl rfl (bi_sub (by decide)) (aA 0 (.int .i64 0) rfl rfl (aN (ar_round (aQ (aQ (aL (aM 4 (.int .i64 0) rfl rfl (aB 5 (.bool false) rfl rfl rfl (bi_gtr (by decide)) (aN (ac_else rfl (ac_exit (aQ (aL (aM 10 (.int .i64 10) rfl rfl (aA 2 (.int .i64 10) rfl rfl (aN (ac_ret ?_))))))))))))))))))))))))))))))))))))
 exact fin_eq (v := .int .i64 10) rfl (fin_ret (res_tmp rfl rfl))
def rTen2  : Int := 100
set_option maxRecDepth 100000 in
theorem c_rTen2  : Gets Tryz.prog 75 #[.int .i64 2] ((fun (r : Int) => (.int .i64 r : Value)) rTen2) := by
 refine gets_fin Tryz.func75 rfl rfl rfl (aQ (aL (aA 2 (.int .i64 0) rfl rfl (aN (aQ (aL (aA 3 (.int .i64 1) rfl rfl (aN (aQ (ac_block ?_))))))))))
 refine ac_rounds 61 (ar_round (aQ (aQ (aL (aM 4 (.int .i64 2) rfl rfl (aB 5 (.bool true) rfl rfl rfl (bi_gtr (by decide)) (aN (ac_then rfl (ac_skip (aQ (ac_block (aL (aM 8 (.int .i64 1) rfl rfl (aB 9 (.int .i64 10) rfl rfl rfl (bi_mul (by decide)) (aA 3 (.int .i64 10) rfl rfl (aN (aL (aM 6 (.int .i64 2) rfl rfl (aB 7 (.int .i64 1) rfl rfl rfl (bi_sub (by decide)) (aA 0 (.int .i64 1) rfl rfl (aN (ar_round (aQ (aQ (aL (aM 4 (.int .i64 1) rfl rfl (aB 5 (.bool true) rfl rfl rfl (bi_gtr (by decide)) (aN (ac_then rfl (ac_skip (aQ (ac_block (aL (aM 8 (.int .i64 10) rfl rfl (aB 9 (.int .i64 100) rfl rfl rfl (bi_mul (by decide)) ?_)))))))))))))))))))))))))))))))))))
 refine aA 3 (.int .i64 100) rfl rfl (aN (aL (aM 6 (.int .i64 1) rfl rfl (aB 7 (.int .i64 0) rfl rfl rfl (bi_sub (by decide)) (aA 0 (.int .i64 0) rfl rfl (aN (ar_round (aQ (aQ (aL (aM 4 (.int .i64 0) rfl rfl (aB 5 (.bool false) rfl rfl rfl (bi_gtr (by decide)) (aN (ac_else rfl (ac_exit (aQ (aL (aM 10 (.int .i64 100) rfl rfl (aA 2 (.int .i64 100) rfl rfl (aN (ac_ret (fin_eq (v := .int .i64 100) rfl (fin_ret (res_tmp rfl rfl))))))))))))))))))))))))
def rTen3  : Int := 1000
set_option maxRecDepth 100000 in
theorem c_rTen3  : Gets Tryz.prog 75 #[.int .i64 3] ((fun (r : Int) => (.int .i64 r : Value)) rTen3) := by
 refine gets_fin Tryz.func75 rfl rfl rfl (aQ (aL (aA 2 (.int .i64 0) rfl rfl (aN (aQ (aL (aA 3 (.int .i64 1) rfl rfl (aN (aQ (ac_block ?_))))))))))
 refine ac_rounds 61 (ar_round (aQ (aQ (aL (aM 4 (.int .i64 3) rfl rfl (aB 5 (.bool true) rfl rfl rfl (bi_gtr (by decide)) (aN (ac_then rfl (ac_skip (aQ (ac_block (aL (aM 8 (.int .i64 1) rfl rfl (aB 9 (.int .i64 10) rfl rfl rfl (bi_mul (by decide)) (aA 3 (.int .i64 10) rfl rfl (aN (aL (aM 6 (.int .i64 3) rfl rfl (aB 7 (.int .i64 2) rfl rfl rfl (bi_sub (by decide)) (aA 0 (.int .i64 2) rfl rfl (aN (ar_round (aQ (aQ (aL (aM 4 (.int .i64 2) rfl rfl (aB 5 (.bool true) rfl rfl rfl (bi_gtr (by decide)) (aN (ac_then rfl (ac_skip (aQ (ac_block (aL (aM 8 (.int .i64 10) rfl rfl (aB 9 (.int .i64 100) rfl rfl rfl (bi_mul (by decide)) ?_)))))))))))))))))))))))))))))))))))
 refine aA 3 (.int .i64 100) rfl rfl (aN (aL (aM 6 (.int .i64 2) rfl rfl (aB 7 (.int .i64 1) rfl rfl rfl (bi_sub (by decide)) (aA 0 (.int .i64 1) rfl rfl (aN (ar_round (aQ (aQ (aL (aM 4 (.int .i64 1) rfl rfl (aB 5 (.bool true) rfl rfl rfl (bi_gtr (by decide)) (aN (ac_then rfl (ac_skip (aQ (ac_block (aL (aM 8 (.int .i64 100) rfl rfl (aB 9 (.int .i64 1000) rfl rfl rfl (bi_mul (by decide)) (aA 3 (.int .i64 1000) rfl rfl (aN (aL (aM 6 (.int .i64 1) rfl rfl (aB 7 (.int .i64 0) rfl rfl rfl (bi_sub (by decide)) (aA 0 (.int .i64 0) rfl rfl (aN (ar_round (aQ (aQ (aL (aM 4 (.int .i64 0) rfl rfl (aB 5 (.bool false) rfl rfl rfl (bi_gtr (by decide)) (aN ?_))))))))))))))))))))))))))))))))))
 refine ac_else rfl (ac_exit (aQ (aL (aM 10 (.int .i64 1000) rfl rfl (aA 2 (.int .i64 1000) rfl rfl (aN (ac_ret (fin_eq (v := .int .i64 1000) rfl (fin_ret (res_tmp rfl rfl))))))))))
def rTen4  : Int := 10000
set_option maxRecDepth 100000 in
theorem c_rTen4  : Gets Tryz.prog 75 #[.int .i64 4] ((fun (r : Int) => (.int .i64 r : Value)) rTen4) := by
 refine gets_fin Tryz.func75 rfl rfl rfl (aQ (aL (aA 2 (.int .i64 0) rfl rfl (aN (aQ (aL (aA 3 (.int .i64 1) rfl rfl (aN (aQ (ac_block ?_))))))))))
 refine ac_rounds 61 (ar_round (aQ (aQ (aL (aM 4 (.int .i64 4) rfl rfl (aB 5 (.bool true) rfl rfl rfl (bi_gtr (by decide)) (aN (ac_then rfl (ac_skip (aQ (ac_block (aL (aM 8 (.int .i64 1) rfl rfl (aB 9 (.int .i64 10) rfl rfl rfl (bi_mul (by decide)) (aA 3 (.int .i64 10) rfl rfl (aN (aL (aM 6 (.int .i64 4) rfl rfl (aB 7 (.int .i64 3) rfl rfl rfl (bi_sub (by decide)) (aA 0 (.int .i64 3) rfl rfl (aN (ar_round (aQ (aQ (aL (aM 4 (.int .i64 3) rfl rfl (aB 5 (.bool true) rfl rfl rfl (bi_gtr (by decide)) (aN (ac_then rfl (ac_skip (aQ (ac_block (aL (aM 8 (.int .i64 10) rfl rfl (aB 9 (.int .i64 100) rfl rfl rfl (bi_mul (by decide)) ?_)))))))))))))))))))))))))))))))))))
 refine aA 3 (.int .i64 100) rfl rfl (aN (aL (aM 6 (.int .i64 3) rfl rfl (aB 7 (.int .i64 2) rfl rfl rfl (bi_sub (by decide)) (aA 0 (.int .i64 2) rfl rfl (aN (ar_round (aQ (aQ (aL (aM 4 (.int .i64 2) rfl rfl (aB 5 (.bool true) rfl rfl rfl (bi_gtr (by decide)) (aN (ac_then rfl (ac_skip (aQ (ac_block (aL (aM 8 (.int .i64 100) rfl rfl (aB 9 (.int .i64 1000) rfl rfl rfl (bi_mul (by decide)) (aA 3 (.int .i64 1000) rfl rfl (aN (aL (aM 6 (.int .i64 2) rfl rfl (aB 7 (.int .i64 1) rfl rfl rfl (bi_sub (by decide)) (aA 0 (.int .i64 1) rfl rfl (aN (ar_round (aQ (aQ (aL (aM 4 (.int .i64 1) rfl rfl (aB 5 (.bool true) rfl rfl rfl (bi_gtr (by decide)) (aN ?_))))))))))))))))))))))))))))))))))
 refine ac_then rfl (ac_skip (aQ (ac_block (aL (aM 8 (.int .i64 1000) rfl rfl (aB 9 (.int .i64 10000) rfl rfl rfl (bi_mul (by decide)) (aA 3 (.int .i64 10000) rfl rfl (aN (aL (aM 6 (.int .i64 1) rfl rfl (aB 7 (.int .i64 0) rfl rfl rfl (bi_sub (by decide)) (aA 0 (.int .i64 0) rfl rfl (aN (ar_round (aQ (aQ (aL (aM 4 (.int .i64 0) rfl rfl (aB 5 (.bool false) rfl rfl rfl (bi_gtr (by decide)) (aN (ac_else rfl (ac_exit (aQ (aL (aM 10 (.int .i64 10000) rfl rfl (aA 2 (.int .i64 10000) rfl rfl (aN (ac_ret (fin_eq (v := .int .i64 10000) rfl (fin_ret (res_tmp rfl rfl)))))))))))))))))))))))))))))))
def rTen5  : Int := 100000
set_option maxRecDepth 100000 in
theorem c_rTen5  : Gets Tryz.prog 75 #[.int .i64 5] ((fun (r : Int) => (.int .i64 r : Value)) rTen5) := by
 refine gets_fin Tryz.func75 rfl rfl rfl (aQ (aL (aA 2 (.int .i64 0) rfl rfl (aN (aQ (aL (aA 3 (.int .i64 1) rfl rfl (aN (aQ (ac_block ?_))))))))))
 refine ac_rounds 61 (ar_round (aQ (aQ (aL (aM 4 (.int .i64 5) rfl rfl (aB 5 (.bool true) rfl rfl rfl (bi_gtr (by decide)) (aN (ac_then rfl (ac_skip (aQ (ac_block (aL (aM 8 (.int .i64 1) rfl rfl (aB 9 (.int .i64 10) rfl rfl rfl (bi_mul (by decide)) (aA 3 (.int .i64 10) rfl rfl (aN (aL (aM 6 (.int .i64 5) rfl rfl (aB 7 (.int .i64 4) rfl rfl rfl (bi_sub (by decide)) (aA 0 (.int .i64 4) rfl rfl (aN (ar_round (aQ (aQ (aL (aM 4 (.int .i64 4) rfl rfl (aB 5 (.bool true) rfl rfl rfl (bi_gtr (by decide)) (aN (ac_then rfl (ac_skip (aQ (ac_block (aL (aM 8 (.int .i64 10) rfl rfl (aB 9 (.int .i64 100) rfl rfl rfl (bi_mul (by decide)) ?_)))))))))))))))))))))))))))))))))))
 refine aA 3 (.int .i64 100) rfl rfl (aN (aL (aM 6 (.int .i64 4) rfl rfl (aB 7 (.int .i64 3) rfl rfl rfl (bi_sub (by decide)) (aA 0 (.int .i64 3) rfl rfl (aN (ar_round (aQ (aQ (aL (aM 4 (.int .i64 3) rfl rfl (aB 5 (.bool true) rfl rfl rfl (bi_gtr (by decide)) (aN (ac_then rfl (ac_skip (aQ (ac_block (aL (aM 8 (.int .i64 100) rfl rfl (aB 9 (.int .i64 1000) rfl rfl rfl (bi_mul (by decide)) (aA 3 (.int .i64 1000) rfl rfl (aN (aL (aM 6 (.int .i64 3) rfl rfl (aB 7 (.int .i64 2) rfl rfl rfl (bi_sub (by decide)) (aA 0 (.int .i64 2) rfl rfl (aN (ar_round (aQ (aQ (aL (aM 4 (.int .i64 2) rfl rfl (aB 5 (.bool true) rfl rfl rfl (bi_gtr (by decide)) (aN ?_))))))))))))))))))))))))))))))))))
 refine ac_then rfl (ac_skip (aQ (ac_block (aL (aM 8 (.int .i64 1000) rfl rfl (aB 9 (.int .i64 10000) rfl rfl rfl (bi_mul (by decide)) (aA 3 (.int .i64 10000) rfl rfl (aN (aL (aM 6 (.int .i64 2) rfl rfl (aB 7 (.int .i64 1) rfl rfl rfl (bi_sub (by decide)) (aA 0 (.int .i64 1) rfl rfl (aN (ar_round (aQ (aQ (aL (aM 4 (.int .i64 1) rfl rfl (aB 5 (.bool true) rfl rfl rfl (bi_gtr (by decide)) (aN (ac_then rfl (ac_skip (aQ (ac_block (aL (aM 8 (.int .i64 10000) rfl rfl (aB 9 (.int .i64 100000) rfl rfl rfl (bi_mul (by decide)) (aA 3 (.int .i64 100000) rfl rfl (aN (aL (aM 6 (.int .i64 1) rfl rfl (aB 7 (.int .i64 0) rfl rfl rfl (bi_sub (by decide)) ?_))))))))))))))))))))))))))))))))
 refine aA 0 (.int .i64 0) rfl rfl (aN (ar_round (aQ (aQ (aL (aM 4 (.int .i64 0) rfl rfl (aB 5 (.bool false) rfl rfl rfl (bi_gtr (by decide)) (aN (ac_else rfl (ac_exit (aQ (aL (aM 10 (.int .i64 100000) rfl rfl (aA 2 (.int .i64 100000) rfl rfl (aN (ac_ret (fin_eq (v := .int .i64 100000) rfl (fin_ret (res_tmp rfl rfl)))))))))))))))))))
def rTen6  : Int := 1000000
set_option maxRecDepth 100000 in
theorem c_rTen6  : Gets Tryz.prog 75 #[.int .i64 6] ((fun (r : Int) => (.int .i64 r : Value)) rTen6) := by
 refine gets_fin Tryz.func75 rfl rfl rfl (aQ (aL (aA 2 (.int .i64 0) rfl rfl (aN (aQ (aL (aA 3 (.int .i64 1) rfl rfl (aN (aQ (ac_block ?_))))))))))
 refine ac_rounds 61 (ar_round (aQ (aQ (aL (aM 4 (.int .i64 6) rfl rfl (aB 5 (.bool true) rfl rfl rfl (bi_gtr (by decide)) (aN (ac_then rfl (ac_skip (aQ (ac_block (aL (aM 8 (.int .i64 1) rfl rfl (aB 9 (.int .i64 10) rfl rfl rfl (bi_mul (by decide)) (aA 3 (.int .i64 10) rfl rfl (aN (aL (aM 6 (.int .i64 6) rfl rfl (aB 7 (.int .i64 5) rfl rfl rfl (bi_sub (by decide)) (aA 0 (.int .i64 5) rfl rfl (aN (ar_round (aQ (aQ (aL (aM 4 (.int .i64 5) rfl rfl (aB 5 (.bool true) rfl rfl rfl (bi_gtr (by decide)) (aN (ac_then rfl (ac_skip (aQ (ac_block (aL (aM 8 (.int .i64 10) rfl rfl (aB 9 (.int .i64 100) rfl rfl rfl (bi_mul (by decide)) ?_)))))))))))))))))))))))))))))))))))
 refine aA 3 (.int .i64 100) rfl rfl (aN (aL (aM 6 (.int .i64 5) rfl rfl (aB 7 (.int .i64 4) rfl rfl rfl (bi_sub (by decide)) (aA 0 (.int .i64 4) rfl rfl (aN (ar_round (aQ (aQ (aL (aM 4 (.int .i64 4) rfl rfl (aB 5 (.bool true) rfl rfl rfl (bi_gtr (by decide)) (aN (ac_then rfl (ac_skip (aQ (ac_block (aL (aM 8 (.int .i64 100) rfl rfl (aB 9 (.int .i64 1000) rfl rfl rfl (bi_mul (by decide)) (aA 3 (.int .i64 1000) rfl rfl (aN (aL (aM 6 (.int .i64 4) rfl rfl (aB 7 (.int .i64 3) rfl rfl rfl (bi_sub (by decide)) (aA 0 (.int .i64 3) rfl rfl (aN (ar_round (aQ (aQ (aL (aM 4 (.int .i64 3) rfl rfl (aB 5 (.bool true) rfl rfl rfl (bi_gtr (by decide)) (aN ?_))))))))))))))))))))))))))))))))))
 refine ac_then rfl (ac_skip (aQ (ac_block (aL (aM 8 (.int .i64 1000) rfl rfl (aB 9 (.int .i64 10000) rfl rfl rfl (bi_mul (by decide)) (aA 3 (.int .i64 10000) rfl rfl (aN (aL (aM 6 (.int .i64 3) rfl rfl (aB 7 (.int .i64 2) rfl rfl rfl (bi_sub (by decide)) (aA 0 (.int .i64 2) rfl rfl (aN (ar_round (aQ (aQ (aL (aM 4 (.int .i64 2) rfl rfl (aB 5 (.bool true) rfl rfl rfl (bi_gtr (by decide)) (aN (ac_then rfl (ac_skip (aQ (ac_block (aL (aM 8 (.int .i64 10000) rfl rfl (aB 9 (.int .i64 100000) rfl rfl rfl (bi_mul (by decide)) (aA 3 (.int .i64 100000) rfl rfl (aN (aL (aM 6 (.int .i64 2) rfl rfl (aB 7 (.int .i64 1) rfl rfl rfl (bi_sub (by decide)) ?_))))))))))))))))))))))))))))))))
 refine aA 0 (.int .i64 1) rfl rfl (aN (ar_round (aQ (aQ (aL (aM 4 (.int .i64 1) rfl rfl (aB 5 (.bool true) rfl rfl rfl (bi_gtr (by decide)) (aN (ac_then rfl (ac_skip (aQ (ac_block (aL (aM 8 (.int .i64 100000) rfl rfl (aB 9 (.int .i64 1000000) rfl rfl rfl (bi_mul (by decide)) (aA 3 (.int .i64 1000000) rfl rfl (aN (aL (aM 6 (.int .i64 1) rfl rfl (aB 7 (.int .i64 0) rfl rfl rfl (bi_sub (by decide)) (aA 0 (.int .i64 0) rfl rfl (aN (ar_round (aQ (aQ (aL (aM 4 (.int .i64 0) rfl rfl (aB 5 (.bool false) rfl rfl rfl (bi_gtr (by decide)) (aN (ac_else rfl (ac_exit (aQ (aL (aM 10 (.int .i64 1000000) rfl rfl (aA 2 (.int .i64 1000000) rfl rfl (aN (ac_ret ?_)))))))))))))))))))))))))))))))))))))
 exact fin_eq (v := .int .i64 1000000) rfl (fin_ret (res_tmp rfl rfl))
end Go.Proofs.YtalffjplbhelcaaGreatDoor
namespace Go.Proofs.YtalffjplbhelcaaGreatDoor
theorem rr_dr (d : Dec) : rRightDec d = decRight d := rfl
theorem c_rTen (n : Int) (h : 0 ≤ n ∧ n ≤ 6) : Gets Tryz.prog 75 #[.int .i64 n] ((fun (r : Int) => (.int .i64 r : Value)) (decPower n)) := by
  rcases (by omega : n = 0 ∨ n = 1 ∨ n = 2 ∨ n = 3 ∨ n = 4 ∨ n = 5 ∨ n = 6) with rfl | rfl | rfl | rfl | rfl | rfl | rfl
  · exact c_rTen0
  · exact c_rTen1
  · exact c_rTen2
  · exact c_rTen3
  · exact c_rTen4
  · exact c_rTen5
  · exact c_rTen6
theorem rpow_ok (d : Dec) (h : rRightDec d = true) : 0 ≤ d.scale ∧ d.scale ≤ 6 := pow_ok d (by rw [← rr_dr]; exact h)
end Go.Proofs.YtalffjplbhelcaaGreatDoor
