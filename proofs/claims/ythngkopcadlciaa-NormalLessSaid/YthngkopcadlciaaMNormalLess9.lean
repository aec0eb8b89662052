import Derived.Test.YthngkopcadlciaaMNormalLess4
import Derived.Test.YthngkopcadlciaaMNormalLess8
import Derived.Test.YthngkopcadlciaaMNormalLess3
import Derived.Test.YthngkopcadlciaaMNormalLess5
import Derived.Test.YthngkopcadlciaaMNormalLess1
import Derived.Test.YthngkopcadlciaaMNormalLess6
import Derived.Test.YthngkopcadlciaaMNormalLess2
import Derived.Laws.Strings3
import Derived.Laws.Concat
import Derived.Laws.BytesString
set_option linter.unusedVariables false
set_option linter.unusedSimpArgs false
namespace Go.Proofs.Ythngkopcadlciaa
open Go.RowKit
attribute [local irreducible] AC AR DWalk
def vecOf (x : Iv) (y : Iv) (z : Iv) : V := (⟨x, y, z⟩ : V)
set_option maxRecDepth 100000 in
theorem c_vecOf (x : Iv) (y : Iv) (z : Iv) : Gets Try.prog 44 #[.agg #[.int .i64 x.lo, .int .i64 x.hi, .bool x.no], .agg #[.int .i64 y.lo, .int .i64 y.hi, .bool y.no], .agg #[.int .i64 z.lo, .int .i64 z.hi, .bool z.no]] (V.v (vecOf x y z)) := by
 refine gets_fin Try.func44 rfl rfl rfl (aQ (aL (ao 3 rfl rfl (st_box (v := .agg #[.int .i64 x.lo, .int .i64 x.hi, .bool x.no]) (cs := [.int .i64 x.lo, .int .i64 x.hi, .bool x.no]) rfl rfl rfl fun g0 => (ao 4 rfl rfl (st_box (v := .agg #[.int .i64 y.lo, .int .i64 y.hi, .bool y.no]) (cs := [.int .i64 y.lo, .int .i64 y.hi, .bool y.no]) rfl rfl rfl fun g1 => (ao 5 rfl rfl (st_box (v := .agg #[.int .i64 z.lo, .int .i64 z.hi, .bool z.no]) (cs := [.int .i64 z.lo, .int .i64 z.hi, .bool z.no]) rfl rfl rfl fun g2 => (ao 6 rfl rfl (st_new zero57 rfl fun g3 => (aN (aQ (aL (aG 7 [.int .i64 x.lo, .int .i64 x.hi, .bool x.no] agg26 3 rfl rfl rfl rfl rfl ?_))))))))))))))
 refine aG 8 [.int .i64 y.lo, .int .i64 y.hi, .bool y.no] agg26 2 rfl rfl rfl rfl rfl (aG 9 [.int .i64 z.lo, .int .i64 z.hi, .bool z.no] agg26 1 rfl rfl rfl rfl rfl (ao 10 rfl rfl (st_bd (us := [(0, .agg #[.int .i64 x.lo, .int .i64 x.hi, .bool x.no]), (1, .agg #[.int .i64 y.lo, .int .i64 y.hi, .bool y.no]), (2, .agg #[.int .i64 z.lo, .int .i64 z.hi, .bool z.no])]) (v := .agg #[.int .i64 x.lo, .int .i64 x.hi, .bool x.no, .int .i64 y.lo, .int .i64 y.hi, .bool y.no, .int .i64 z.lo, .int .i64 z.hi, .bool z.no]) rfl rfl (bd57_0a_1a_2a _ _ _ _ _ _ _ _ _) ?_)))
 refine aS [.int .i64 x.lo, .int .i64 x.hi, .bool x.no, .int .i64 y.lo, .int .i64 y.hi, .bool y.no, .int .i64 z.lo, .int .i64 z.hi, .bool z.no] agg57 0 rfl rfl rfl rfl rfl rfl (aN (ac_ret (fin_eq (v := .agg #[.int .i64 x.lo, .int .i64 x.hi, .bool x.no, .int .i64 y.lo, .int .i64 y.hi, .bool y.no, .int .i64 z.lo, .int .i64 z.hi, .bool z.no]) rfl (fin_ret (res_c (vs := [.int .i64 x.lo, .int .i64 x.hi, .bool x.no, .int .i64 y.lo, .int .i64 y.hi, .bool y.no, .int .i64 z.lo, .int .i64 z.hi, .bool z.no]) agg57 0 rfl rfl rfl rfl rfl rfl)))))
def vecRight (a : V) : Bool := (bif ivRight a.x then (bif ivRight a.y then ivRight a.z else false) else false)
set_option maxRecDepth 100000 in
theorem c_vecRight (a : V) : Gets Try.prog 50 #[.agg #[.int .i64 a.x.lo, .int .i64 a.x.hi, .bool a.x.no, .int .i64 a.y.lo, .int .i64 a.y.hi, .bool a.y.no, .int .i64 a.z.lo, .int .i64 a.z.hi, .bool a.z.no]] ((fun (r : Bool) => (.bool r : Value)) (vecRight a)) := by
 refine gets_fin Try.func50 rfl rfl rfl (aQ (aL (ao 1 rfl rfl (st_box (v := .agg #[.int .i64 a.x.lo, .int .i64 a.x.hi, .bool a.x.no, .int .i64 a.y.lo, .int .i64 a.y.hi, .bool a.y.no, .int .i64 a.z.lo, .int .i64 a.z.hi, .bool a.z.no]) (cs := [.int .i64 a.x.lo, .int .i64 a.x.hi, .bool a.x.no, .int .i64 a.y.lo, .int .i64 a.y.hi, .bool a.y.no, .int .i64 a.z.lo, .int .i64 a.z.hi, .bool a.z.no]) rfl rfl rfl fun g0 => (aA 2 (.bool false) rfl rfl (aN (aQ (aL (aF 3 fa57_0 rfl rfl (aG 4 [.int .i64 a.x.lo, .int .i64 a.x.hi, .bool a.x.no] agg26 0 rfl rfl rfl rfl rfl (aC 5 (c_ivRight a.x) Try.func25 ⟨rfl, by decide⟩ rfl rfl (aM 6 (.bool (ivRight a.x)) rfl rfl ?_))))))))))))
 refine bool_split (ivRight a.x) (fun h1 => ?_) (fun h1 => ?_)
 ·refine ar_gd (d := (some 7)) (by show ((ivRight a.x) == true) = true; rw [h1]; rfl) rfl (st_fa rfl fa57_1 rfl (ar_gd (d := (some 8)) (by show ((ivRight a.x) == true) = true; rw [h1]; rfl) rfl (st_lda (vs := [.int .i64 a.y.lo, .int .i64 a.y.hi, .bool a.y.no]) agg26 0 rfl rfl rfl rfl rfl rfl (ar_gd (d := (some 9)) (by show ((ivRight a.x) == true) = true; rw [h1]; rfl) rfl (st_cf (c_ivRight a.y) Try.func25 rfl (by decide) rfl rfl rfl (ao 10 rfl rfl (st_pkt' (b := ivRight a.x) (v := .bool (ivRight a.y)) h1 rfl rfl rfl (aM 11 (.bool (ivRight a.y)) rfl rfl ?_))))))))
  refine bool_split (ivRight a.y) (fun h2 => ?_) (fun h2 => ?_)
  ·refine ar_gd (d := (some 12)) (by show ((ivRight a.y) == true) = true; rw [h2]; rfl) rfl (st_fa rfl fa57_2 rfl (ar_gd (d := (some 13)) (by show ((ivRight a.y) == true) = true; rw [h2]; rfl) rfl (st_lda (vs := [.int .i64 a.z.lo, .int .i64 a.z.hi, .bool a.z.no]) agg26 0 rfl rfl rfl rfl rfl rfl (ar_gd (d := (some 14)) (by show ((ivRight a.y) == true) = true; rw [h2]; rfl) rfl (st_cf (c_ivRight a.z) Try.func25 rfl (by decide) rfl rfl rfl (ao 15 rfl rfl (st_pkt' (b := ivRight a.y) (v := .bool (ivRight a.z)) h2 rfl rfl rfl (aA 2 (.bool (ivRight a.z)) rfl rfl (aN (ac_ret ?_))))))))))
   exact fin_eq (v := .bool (ivRight a.z)) (by show _ = (fun (r : Bool) => (.bool r : Value)) (vecRight a); rw [vecRight, h2, h1] <;> rfl) (fin_ret (res_tmp rfl rfl))
  ·refine aK 12 (by show ((ivRight a.y) == true) = false; rw [h2]; rfl) rfl (aK 13 (by show ((ivRight a.y) == true) = false; rw [h2]; rfl) rfl (aK 14 (by show ((ivRight a.y) == true) = false; rw [h2]; rfl) rfl (ao 15 rfl rfl (st_pkf' (b := ivRight a.y) (v := .bool false) h2 rfl rfl rfl (aA 2 (.bool false) rfl rfl (aN (ac_ret (fin_eq (v := .bool false) (by show _ = (fun (r : Bool) => (.bool r : Value)) (vecRight a); rw [vecRight, h2, h1] <;> rfl) (fin_ret (res_tmp rfl rfl))))))))))
 ·refine aK 7 (by show ((ivRight a.x) == true) = false; rw [h1]; rfl) rfl (aK 8 (by show ((ivRight a.x) == true) = false; rw [h1]; rfl) rfl (aK 9 (by show ((ivRight a.x) == true) = false; rw [h1]; rfl) rfl (ao 10 rfl rfl (st_pkf' (b := ivRight a.x) (v := .bool false) h1 rfl rfl rfl (aM 11 (.bool false) rfl rfl (aK 12 rfl rfl (aK 13 rfl rfl (aK 14 rfl rfl (ao 15 rfl rfl (st_pkf (v := .bool false) rfl rfl rfl (aA 2 (.bool false) rfl rfl (aN (ac_ret (fin_eq (v := .bool false) (by show _ = (fun (r : Bool) => (.bool r : Value)) (vecRight a); rw [vecRight, h1] <;> rfl) (fin_ret (res_tmp rfl rfl))))))))))))))))
def vecLen2 (a : V) : Iv := (ivAdd (ivAdd (ivSqr a.x) (ivSqr a.y)) (ivSqr a.z))
set_option maxRecDepth 100000 in
theorem c_vecLen2 (a : V) : Gets Try.prog 52 #[.agg #[.int .i64 a.x.lo, .int .i64 a.x.hi, .bool a.x.no, .int .i64 a.y.lo, .int .i64 a.y.hi, .bool a.y.no, .int .i64 a.z.lo, .int .i64 a.z.hi, .bool a.z.no]] (Iv.v (vecLen2 a)) := by
 refine gets_fin Try.func52 rfl rfl rfl (aQ (aL (ao 1 rfl rfl (st_box (v := .agg #[.int .i64 a.x.lo, .int .i64 a.x.hi, .bool a.x.no, .int .i64 a.y.lo, .int .i64 a.y.hi, .bool a.y.no, .int .i64 a.z.lo, .int .i64 a.z.hi, .bool a.z.no]) (cs := [.int .i64 a.x.lo, .int .i64 a.x.hi, .bool a.x.no, .int .i64 a.y.lo, .int .i64 a.y.hi, .bool a.y.no, .int .i64 a.z.lo, .int .i64 a.z.hi, .bool a.z.no]) rfl rfl rfl fun g0 => (ao 2 rfl rfl (st_new zero26 rfl fun g1 => (aN (aQ ?_))))))))
 refine ac_draw0 (id := 1) [0, 1, 2, 3, 4, 5, 6, 7, 8, 9, 10] [11] _ (by kernel_rfl) follows rfl  (dw_op (d := some 3) _ rfl rfl rfl (st_fa rfl fa57_0 rfl ⟨rfl, rfl⟩) (dw_op (d := some 4) _ rfl rfl rfl (st_lda (vs := [.int .i64 a.x.lo, .int .i64 a.x.hi, .bool a.x.no]) agg26 1 rfl rfl rfl rfl rfl rfl ⟨rfl, rfl⟩) (dw_op (d := some 5) _ rfl rfl rfl (st_cf (c_ivSqr a.x) Try.func94 rfl (by decide) rfl rfl rfl ⟨rfl, rfl⟩) (dw_op (d := some 6) _ rfl rfl rfl (st_fa rfl fa57_1 rfl ⟨rfl, rfl⟩) (dw_op (d := some 7) _ rfl rfl rfl (st_lda (vs := [.int .i64 a.y.lo, .int .i64 a.y.hi, .bool a.y.no]) agg26 1 rfl rfl rfl rfl rfl rfl ⟨rfl, rfl⟩) ?_)))))
 refine dw_op (d := some 8) _ rfl rfl rfl (st_cf (c_ivSqr a.y) Try.func94 rfl (by decide) rfl rfl rfl ⟨rfl, rfl⟩) (dw_op (d := some 9) _ rfl rfl rfl (st_cf (c_ivAdd (ivSqr a.x) (ivSqr a.y)) Try.func67 rfl (by decide) rfl rfl rfl ⟨rfl, rfl⟩) (dw_op (d := some 10) _ rfl rfl rfl (st_fa rfl fa57_2 rfl ⟨rfl, rfl⟩) (dw_op (d := some 11) _ rfl rfl rfl (st_lda (vs := [.int .i64 a.z.lo, .int .i64 a.z.hi, .bool a.z.no]) agg26 1 rfl rfl rfl rfl rfl rfl ⟨rfl, rfl⟩) (dw_op (d := some 12) _ rfl rfl rfl (st_cf (c_ivSqr a.z) Try.func94 rfl (by decide) rfl rfl rfl ⟨rfl, rfl⟩) ?_))))
 refine dw_op (d := some 13) _ rfl rfl rfl (st_cf (c_ivAdd (ivAdd (ivSqr a.x) (ivSqr a.y)) (ivSqr a.z)) Try.func67 rfl (by decide) rfl rfl rfl ⟨rfl, rfl⟩) (dw_nil (aS [.int .i64 ((ivAdd (ivAdd (ivSqr a.x) (ivSqr a.y)) (ivSqr a.z)).lo), .int .i64 ((ivAdd (ivAdd (ivSqr a.x) (ivSqr a.y)) (ivSqr a.z)).hi), .bool ((ivAdd (ivAdd (ivSqr a.x) (ivSqr a.y)) (ivSqr a.z)).no)] agg26 0 rfl rfl rfl rfl rfl rfl (aN (ac_ret ?_))))
 exact fin_eq (v := .agg #[.int .i64 ((ivAdd (ivAdd (ivSqr a.x) (ivSqr a.y)) (ivSqr a.z)).lo), .int .i64 ((ivAdd (ivAdd (ivSqr a.x) (ivSqr a.y)) (ivSqr a.z)).hi), .bool ((ivAdd (ivAdd (ivSqr a.x) (ivSqr a.y)) (ivSqr a.z)).no)]) rfl (fin_ret (res_c (vs := [.int .i64 ((ivAdd (ivAdd (ivSqr a.x) (ivSqr a.y)) (ivSqr a.z)).lo), .int .i64 ((ivAdd (ivAdd (ivSqr a.x) (ivSqr a.y)) (ivSqr a.z)).hi), .bool ((ivAdd (ivAdd (ivSqr a.x) (ivSqr a.y)) (ivSqr a.z)).no)]) agg26 0 rfl rfl rfl rfl rfl rfl))
def vecUnit_e0 (a : V) : V := (vecOf (ivDiv a.x (ivRoot (vecLen2 a))) (ivDiv a.y (ivRoot (vecLen2 a))) (ivDiv a.z (ivRoot (vecLen2 a))))
def vecUnit (a : V) : V := (vecUnit_e0 a)
set_option maxRecDepth 100000 in
theorem c_vecUnit (a : V) : Gets Try.prog 93 #[.agg #[.int .i64 a.x.lo, .int .i64 a.x.hi, .bool a.x.no, .int .i64 a.y.lo, .int .i64 a.y.hi, .bool a.y.no, .int .i64 a.z.lo, .int .i64 a.z.hi, .bool a.z.no]] (V.v (vecUnit a)) := by
 refine gets_fin Try.func93 rfl rfl rfl (aQ (aL (ao 1 rfl rfl (st_box (v := .agg #[.int .i64 a.x.lo, .int .i64 a.x.hi, .bool a.x.no, .int .i64 a.y.lo, .int .i64 a.y.hi, .bool a.y.no, .int .i64 a.z.lo, .int .i64 a.z.hi, .bool a.z.no]) (cs := [.int .i64 a.x.lo, .int .i64 a.x.hi, .bool a.x.no, .int .i64 a.y.lo, .int .i64 a.y.hi, .bool a.y.no, .int .i64 a.z.lo, .int .i64 a.z.hi, .bool a.z.no]) rfl rfl rfl fun g0 => (ao 2 rfl rfl (st_new zero57 rfl fun g1 => (aN (aQ (aL (aG 4 [.int .i64 a.x.lo, .int .i64 a.x.hi, .bool a.x.no, .int .i64 a.y.lo, .int .i64 a.y.hi, .bool a.y.no, .int .i64 a.z.lo, .int .i64 a.z.hi, .bool a.z.no] agg57 1 rfl rfl rfl rfl rfl ?_))))))))))
 refine aC 5 (c_vecLen2 a) Try.func52 ⟨rfl, by decide⟩ rfl rfl (aC 6 (c_ivRoot (vecLen2 a)) Try.func102 ⟨rfl, by decide⟩ rfl rfl (ao 3 rfl rfl (st_new zero26 rfl fun g2 => (aS [.int .i64 ((ivRoot (vecLen2 a)).lo), .int .i64 ((ivRoot (vecLen2 a)).hi), .bool ((ivRoot (vecLen2 a)).no)] agg26 0 rfl rfl rfl rfl rfl rfl (aN (aQ ?_))))))
 refine ac_draw0 (id := 2) [0, 1, 2, 3, 4, 5, 6, 7, 8, 9, 10, 11, 12] [13] _ (by kernel_rfl) follows rfl  (dw_op (d := some 7) _ rfl rfl rfl (st_fa rfl fa57_0 rfl ⟨rfl, rfl⟩) (dw_op (d := some 8) _ rfl rfl rfl (st_lda (vs := [.int .i64 a.x.lo, .int .i64 a.x.hi, .bool a.x.no]) agg26 2 rfl rfl rfl rfl rfl rfl ⟨rfl, rfl⟩) (dw_op (d := some 9) _ rfl rfl rfl (st_lda (vs := [.int .i64 ((ivRoot (vecLen2 a)).lo), .int .i64 ((ivRoot (vecLen2 a)).hi), .bool ((ivRoot (vecLen2 a)).no)]) agg26 0 rfl rfl rfl rfl rfl rfl ⟨rfl, rfl⟩) (dw_op (d := some 10) _ rfl rfl rfl (st_cf (c_ivDiv a.x (ivRoot (vecLen2 a))) Try.func33 rfl (by decide) rfl rfl rfl ⟨rfl, rfl⟩) ?_))))
 refine dw_op (d := some 11) _ rfl rfl rfl (st_fa rfl fa57_1 rfl ⟨rfl, rfl⟩) (dw_op (d := some 12) _ rfl rfl rfl (st_lda (vs := [.int .i64 a.y.lo, .int .i64 a.y.hi, .bool a.y.no]) agg26 2 rfl rfl rfl rfl rfl rfl ⟨rfl, rfl⟩) (dw_op (d := some 13) _ rfl rfl rfl (st_lda (vs := [.int .i64 ((ivRoot (vecLen2 a)).lo), .int .i64 ((ivRoot (vecLen2 a)).hi), .bool ((ivRoot (vecLen2 a)).no)]) agg26 0 rfl rfl rfl rfl rfl rfl ⟨rfl, rfl⟩) (dw_op (d := some 14) _ rfl rfl rfl (st_cf (c_ivDiv a.y (ivRoot (vecLen2 a))) Try.func33 rfl (by decide) rfl rfl rfl ⟨rfl, rfl⟩) (dw_op (d := some 15) _ rfl rfl rfl (st_fa rfl fa57_2 rfl ⟨rfl, rfl⟩) ?_))))
 refine dw_op (d := some 16) _ rfl rfl rfl (st_lda (vs := [.int .i64 a.z.lo, .int .i64 a.z.hi, .bool a.z.no]) agg26 2 rfl rfl rfl rfl rfl rfl ⟨rfl, rfl⟩) (dw_op (d := some 17) _ rfl rfl rfl (st_lda (vs := [.int .i64 ((ivRoot (vecLen2 a)).lo), .int .i64 ((ivRoot (vecLen2 a)).hi), .bool ((ivRoot (vecLen2 a)).no)]) agg26 0 rfl rfl rfl rfl rfl rfl ⟨rfl, rfl⟩) (dw_op (d := some 18) _ rfl rfl rfl (st_cf (c_ivDiv a.z (ivRoot (vecLen2 a))) Try.func33 rfl (by decide) rfl rfl rfl ⟨rfl, rfl⟩) ?_))
 refine dw_op (d := some 19) _ rfl rfl rfl (st_cf (c_vecOf (ivDiv a.x (ivRoot (vecLen2 a))) (ivDiv a.y (ivRoot (vecLen2 a))) (ivDiv a.z (ivRoot (vecLen2 a)))) Try.func44 rfl (by decide) rfl rfl rfl ⟨rfl, rfl⟩) (dw_nil (aS [.int .i64 (((vecUnit_e0 a).x).lo), .int .i64 (((vecUnit_e0 a).x).hi), .bool (((vecUnit_e0 a).x).no), .int .i64 (((vecUnit_e0 a).y).lo), .int .i64 (((vecUnit_e0 a).y).hi), .bool (((vecUnit_e0 a).y).no), .int .i64 (((vecUnit_e0 a).z).lo), .int .i64 (((vecUnit_e0 a).z).hi), .bool (((vecUnit_e0 a).z).no)] agg57 1 rfl rfl rfl rfl rfl rfl (aN (ac_ret ?_))))
 exact fin_eq (v := .agg #[.int .i64 (((vecUnit_e0 a).x).lo), .int .i64 (((vecUnit_e0 a).x).hi), .bool (((vecUnit_e0 a).x).no), .int .i64 (((vecUnit_e0 a).y).lo), .int .i64 (((vecUnit_e0 a).y).hi), .bool (((vecUnit_e0 a).y).no), .int .i64 (((vecUnit_e0 a).z).lo), .int .i64 (((vecUnit_e0 a).z).hi), .bool (((vecUnit_e0 a).z).no)]) rfl (fin_ret (res_c (vs := [.int .i64 (((vecUnit_e0 a).x).lo), .int .i64 (((vecUnit_e0 a).x).hi), .bool (((vecUnit_e0 a).x).no), .int .i64 (((vecUnit_e0 a).y).lo), .int .i64 (((vecUnit_e0 a).y).hi), .bool (((vecUnit_e0 a).y).no), .int .i64 (((vecUnit_e0 a).z).lo), .int .i64 (((vecUnit_e0 a).z).hi), .bool (((vecUnit_e0 a).z).no)]) agg57 1 rfl rfl rfl rfl rfl rfl))
def vecInside (a : V) (b : V) : Bool := (bif ivInside a.x b.x then (bif ivInside a.y b.y then ivInside a.z b.z else false) else false)
set_option maxRecDepth 100000 in
theorem c_vecInside (a : V) (b : V) : Gets Try.prog 51 #[.agg #[.int .i64 a.x.lo, .int .i64 a.x.hi, .bool a.x.no, .int .i64 a.y.lo, .int .i64 a.y.hi, .bool a.y.no, .int .i64 a.z.lo, .int .i64 a.z.hi, .bool a.z.no], .agg #[.int .i64 b.x.lo, .int .i64 b.x.hi, .bool b.x.no, .int .i64 b.y.lo, .int .i64 b.y.hi, .bool b.y.no, .int .i64 b.z.lo, .int .i64 b.z.hi, .bool b.z.no]] ((fun (r : Bool) => (.bool r : Value)) (vecInside a b)) := by
 refine gets_fin Try.func51 rfl rfl rfl (aQ (aL (ao 2 rfl rfl (st_box (v := .agg #[.int .i64 a.x.lo, .int .i64 a.x.hi, .bool a.x.no, .int .i64 a.y.lo, .int .i64 a.y.hi, .bool a.y.no, .int .i64 a.z.lo, .int .i64 a.z.hi, .bool a.z.no]) (cs := [.int .i64 a.x.lo, .int .i64 a.x.hi, .bool a.x.no, .int .i64 a.y.lo, .int .i64 a.y.hi, .bool a.y.no, .int .i64 a.z.lo, .int .i64 a.z.hi, .bool a.z.no]) rfl rfl rfl fun g0 => ?_))))
 refine ao 3 rfl rfl (st_box (v := .agg #[.int .i64 b.x.lo, .int .i64 b.x.hi, .bool b.x.no, .int .i64 b.y.lo, .int .i64 b.y.hi, .bool b.y.no, .int .i64 b.z.lo, .int .i64 b.z.hi, .bool b.z.no]) (cs := [.int .i64 b.x.lo, .int .i64 b.x.hi, .bool b.x.no, .int .i64 b.y.lo, .int .i64 b.y.hi, .bool b.y.no, .int .i64 b.z.lo, .int .i64 b.z.hi, .bool b.z.no]) rfl rfl rfl fun g1 => (aA 4 (.bool false) rfl rfl (aN (aQ (aL (aF 5 fa57_0 rfl rfl (aG 6 [.int .i64 a.x.lo, .int .i64 a.x.hi, .bool a.x.no] agg26 1 rfl rfl rfl rfl rfl (aF 7 fa57_0 rfl rfl (aG 8 [.int .i64 b.x.lo, .int .i64 b.x.hi, .bool b.x.no] agg26 0 rfl rfl rfl rfl rfl ?_)))))))))
 refine aC 9 (c_ivInside a.x b.x) Try.func26 ⟨rfl, by decide⟩ rfl rfl (aM 10 (.bool (ivInside a.x b.x)) rfl rfl ?_)
 refine bool_split (ivInside a.x b.x) (fun h1 => ?_) (fun h1 => ?_)
 ·refine ar_gd (d := (some 11)) (by show ((ivInside a.x b.x) == true) = true; rw [h1]; rfl) rfl (st_fa rfl fa57_1 rfl (ar_gd (d := (some 12)) (by show ((ivInside a.x b.x) == true) = true; rw [h1]; rfl) rfl (st_lda (vs := [.int .i64 a.y.lo, .int .i64 a.y.hi, .bool a.y.no]) agg26 1 rfl rfl rfl rfl rfl rfl (ar_gd (d := (some 13)) (by show ((ivInside a.x b.x) == true) = true; rw [h1]; rfl) rfl (st_fa rfl fa57_1 rfl (ar_gd (d := (some 14)) (by show ((ivInside a.x b.x) == true) = true; rw [h1]; rfl) rfl (st_lda (vs := [.int .i64 b.y.lo, .int .i64 b.y.hi, .bool b.y.no]) agg26 0 rfl rfl rfl rfl rfl rfl ?_)))))))
  refine ar_gd (d := (some 15)) (by show ((ivInside a.x b.x) == true) = true; rw [h1]; rfl) rfl (st_cf (c_ivInside a.y b.y) Try.func26 rfl (by decide) rfl rfl rfl (ao 16 rfl rfl (st_pkt' (b := ivInside a.x b.x) (v := .bool (ivInside a.y b.y)) h1 rfl rfl rfl (aM 17 (.bool (ivInside a.y b.y)) rfl rfl ?_))))
  refine bool_split (ivInside a.y b.y) (fun h2 => ?_) (fun h2 => ?_)
  ·refine ar_gd (d := (some 18)) (by show ((ivInside a.y b.y) == true) = true; rw [h2]; rfl) rfl (st_fa rfl fa57_2 rfl (ar_gd (d := (some 19)) (by show ((ivInside a.y b.y) == true) = true; rw [h2]; rfl) rfl (st_lda (vs := [.int .i64 a.z.lo, .int .i64 a.z.hi, .bool a.z.no]) agg26 1 rfl rfl rfl rfl rfl rfl (ar_gd (d := (some 20)) (by show ((ivInside a.y b.y) == true) = true; rw [h2]; rfl) rfl (st_fa rfl fa57_2 rfl (ar_gd (d := (some 21)) (by show ((ivInside a.y b.y) == true) = true; rw [h2]; rfl) rfl (st_lda (vs := [.int .i64 b.z.lo, .int .i64 b.z.hi, .bool b.z.no]) agg26 0 rfl rfl rfl rfl rfl rfl ?_)))))))
   refine ar_gd (d := (some 22)) (by show ((ivInside a.y b.y) == true) = true; rw [h2]; rfl) rfl (st_cf (c_ivInside a.z b.z) Try.func26 rfl (by decide) rfl rfl rfl (ao 23 rfl rfl (st_pkt' (b := ivInside a.y b.y) (v := .bool (ivInside a.z b.z)) h2 rfl rfl rfl (aA 4 (.bool (ivInside a.z b.z)) rfl rfl (aN (ac_ret (fin_eq (v := .bool (ivInside a.z b.z)) (by show _ = (fun (r : Bool) => (.bool r : Value)) (vecInside a b); rw [vecInside, h2, h1] <;> rfl) (fin_ret (res_tmp rfl rfl)))))))))
  ·refine aK 18 (by show ((ivInside a.y b.y) == true) = false; rw [h2]; rfl) rfl (aK 19 (by show ((ivInside a.y b.y) == true) = false; rw [h2]; rfl) rfl (aK 20 (by show ((ivInside a.y b.y) == true) = false; rw [h2]; rfl) rfl (aK 21 (by show ((ivInside a.y b.y) == true) = false; rw [h2]; rfl) rfl (aK 22 (by show ((ivInside a.y b.y) == true) = false; rw [h2]; rfl) rfl (ao 23 rfl rfl (st_pkf' (b := ivInside a.y b.y) (v := .bool false) h2 rfl rfl rfl (aA 4 (.bool false) rfl rfl (aN (ac_ret (fin_eq (v := .bool false) (by show _ = (fun (r : Bool) => (.bool r : Value)) (vecInside a b); rw [vecInside, h2, h1] <;> rfl) (fin_ret (res_tmp rfl rfl))))))))))))
 ·refine aK 11 (by show ((ivInside a.x b.x) == true) = false; rw [h1]; rfl) rfl (aK 12 (by show ((ivInside a.x b.x) == true) = false; rw [h1]; rfl) rfl (aK 13 (by show ((ivInside a.x b.x) == true) = false; rw [h1]; rfl) rfl (aK 14 (by show ((ivInside a.x b.x) == true) = false; rw [h1]; rfl) rfl (aK 15 (by show ((ivInside a.x b.x) == true) = false; rw [h1]; rfl) rfl (ao 16 rfl rfl (st_pkf' (b := ivInside a.x b.x) (v := .bool false) h1 rfl rfl rfl (aM 17 (.bool false) rfl rfl (aK 18 rfl rfl (aK 19 rfl rfl (aK 20 rfl rfl (aK 21 rfl rfl (aK 22 rfl rfl (ao 23 rfl rfl (st_pkf (v := .bool false) rfl rfl rfl (aA 4 (.bool false) rfl rfl (aN (ac_ret ?_)))))))))))))))))
  exact fin_eq (v := .bool false) (by show _ = (fun (r : Bool) => (.bool r : Value)) (vecInside a b); rw [vecInside, h1] <;> rfl) (fin_ret (res_tmp rfl rfl))
def vecMirror (a : V) : V := (⟨a.x, (ivNeg a.y), a.z⟩ : V)
set_option maxRecDepth 100000 in
theorem c_vecMirror (a : V) : Gets Try.prog 54 #[.agg #[.int .i64 a.x.lo, .int .i64 a.x.hi, .bool a.x.no, .int .i64 a.y.lo, .int .i64 a.y.hi, .bool a.y.no, .int .i64 a.z.lo, .int .i64 a.z.hi, .bool a.z.no]] (V.v (vecMirror a)) := by
 refine gets_fin Try.func54 rfl rfl rfl (aQ (aL (ao 1 rfl rfl (st_box (v := .agg #[.int .i64 a.x.lo, .int .i64 a.x.hi, .bool a.x.no, .int .i64 a.y.lo, .int .i64 a.y.hi, .bool a.y.no, .int .i64 a.z.lo, .int .i64 a.z.hi, .bool a.z.no]) (cs := [.int .i64 a.x.lo, .int .i64 a.x.hi, .bool a.x.no, .int .i64 a.y.lo, .int .i64 a.y.hi, .bool a.y.no, .int .i64 a.z.lo, .int .i64 a.z.hi, .bool a.z.no]) rfl rfl rfl fun g0 => (ao 2 rfl rfl (st_new zero57 rfl fun g1 => (aN (aQ (aL (aF 3 fa57_1 rfl rfl (aG 4 [.int .i64 a.y.lo, .int .i64 a.y.hi, .bool a.y.no] agg26 1 rfl rfl rfl rfl rfl (aC 5 (c_ivNeg a.y) Try.func39 ⟨rfl, by decide⟩ rfl rfl (aF 6 fa57_1 rfl rfl ?_)))))))))))))
 refine aS [.int .i64 a.x.lo, .int .i64 a.x.hi, .bool a.x.no, .int .i64 ((ivNeg a.y).lo), .int .i64 ((ivNeg a.y).hi), .bool ((ivNeg a.y).no), .int .i64 a.z.lo, .int .i64 a.z.hi, .bool a.z.no] agg26 1 rfl rfl rfl rfl rfl rfl (aN (aQ (aL (aG 7 [.int .i64 a.x.lo, .int .i64 a.x.hi, .bool a.x.no, .int .i64 ((ivNeg a.y).lo), .int .i64 ((ivNeg a.y).hi), .bool ((ivNeg a.y).no), .int .i64 a.z.lo, .int .i64 a.z.hi, .bool a.z.no] agg57 1 rfl rfl rfl rfl rfl (aS [.int .i64 a.x.lo, .int .i64 a.x.hi, .bool a.x.no, .int .i64 ((ivNeg a.y).lo), .int .i64 ((ivNeg a.y).hi), .bool ((ivNeg a.y).no), .int .i64 a.z.lo, .int .i64 a.z.hi, .bool a.z.no] agg57 0 rfl rfl rfl rfl rfl rfl (aN (ac_ret ?_)))))))
 exact fin_eq (v := .agg #[.int .i64 a.x.lo, .int .i64 a.x.hi, .bool a.x.no, .int .i64 ((ivNeg a.y).lo), .int .i64 ((ivNeg a.y).hi), .bool ((ivNeg a.y).no), .int .i64 a.z.lo, .int .i64 a.z.hi, .bool a.z.no]) rfl (fin_ret (res_c (vs := [.int .i64 a.x.lo, .int .i64 a.x.hi, .bool a.x.no, .int .i64 ((ivNeg a.y).lo), .int .i64 ((ivNeg a.y).hi), .bool ((ivNeg a.y).no), .int .i64 a.z.lo, .int .i64 a.z.hi, .bool a.z.no]) agg57 0 rfl rfl rfl rfl rfl rfl))
end Go.Proofs.Ythngkopcadlciaa
namespace Go.Proofs.Ythngkopcadlciaa
open Go.RowKit
attribute [local irreducible] AC AR DWalk
def hInV (a : V) (x : Int) (y : Int) : V := (⟨(hIn a.x x y), (hIn a.y (w64 (Int.tdiv x 3)) (w64 (Int.tdiv y 5))), (hIn a.z (w64 (Int.tdiv x 7)) (w64 (Int.tdiv y 11)))⟩ : V)
set_option maxRecDepth 100000 in
theorem c_hInV (a : V) (x : Int) (y : Int) : Gets Try.prog 49 #[.agg #[.int .i64 a.x.lo, .int .i64 a.x.hi, .bool a.x.no, .int .i64 a.y.lo, .int .i64 a.y.hi, .bool a.y.no, .int .i64 a.z.lo, .int .i64 a.z.hi, .bool a.z.no], .int .i64 x, .int .i64 y] (V.v (hInV a x y)) := by
 refine gets_fin Try.func49 rfl rfl rfl (aQ (aL (ao 3 rfl rfl (st_box (v := .agg #[.int .i64 a.x.lo, .int .i64 a.x.hi, .bool a.x.no, .int .i64 a.y.lo, .int .i64 a.y.hi, .bool a.y.no, .int .i64 a.z.lo, .int .i64 a.z.hi, .bool a.z.no]) (cs := [.int .i64 a.x.lo, .int .i64 a.x.hi, .bool a.x.no, .int .i64 a.y.lo, .int .i64 a.y.hi, .bool a.y.no, .int .i64 a.z.lo, .int .i64 a.z.hi, .bool a.z.no]) rfl rfl rfl fun g0 => (ao 6 rfl rfl (st_new zero57 rfl fun g1 => (aN (aQ ?_))))))))
 refine ac_draw0 (id := 1) [0, 1, 2, 3, 4, 5, 6, 7, 8, 9, 10, 11, 12, 13, 14, 15, 16, 17, 18, 19] [20] _ (by kernel_rfl) follows rfl  (dw_op (d := some 7) _ rfl rfl rfl (st_fa rfl fa57_0 rfl ⟨rfl, rfl⟩) (dw_op (d := some 8) _ rfl rfl rfl (st_lda (vs := [.int .i64 a.x.lo, .int .i64 a.x.hi, .bool a.x.no]) agg26 1 rfl rfl rfl rfl rfl rfl ⟨rfl, rfl⟩) (dw_op (d := some 9) _ rfl rfl rfl (st_move (v := .int .i64 x) rfl rfl ⟨rfl, rfl⟩) (dw_op (d := some 10) _ rfl rfl rfl (st_move (v := .int .i64 y) rfl rfl ⟨rfl, rfl⟩) (dw_op (d := some 11) _ rfl rfl rfl (st_cf (c_hIn a.x x y) Try.func41 rfl (by decide) rfl rfl rfl ⟨rfl, rfl⟩) ?_)))))
 refine dw_op (d := some 12) _ rfl rfl rfl (st_fa rfl fa57_1 rfl ⟨rfl, rfl⟩) (dw_op (d := some 13) _ rfl rfl rfl (st_lda (vs := [.int .i64 a.y.lo, .int .i64 a.y.hi, .bool a.y.no]) agg26 1 rfl rfl rfl rfl rfl rfl ⟨rfl, rfl⟩) (dw_op (d := some 14) _ rfl rfl rfl (st_move (v := .int .i64 x) rfl rfl ⟨rfl, rfl⟩) (dw_op (d := some 15) _ rfl rfl rfl (st_bi (r := .int .i64 (w64 (Int.tdiv x 3))) rfl rfl rfl (bi_quo (by decide) rfl) ⟨rfl, rfl⟩) (dw_op (d := some 16) _ rfl rfl rfl (st_move (v := .int .i64 y) rfl rfl ⟨rfl, rfl⟩) (dw_op (d := some 17) _ rfl rfl rfl (st_bi (r := .int .i64 (w64 (Int.tdiv y 5))) rfl rfl rfl (bi_quo (by decide) rfl) ⟨rfl, rfl⟩) ?_)))))
 refine dw_op (d := some 18) _ rfl rfl rfl (st_cf (c_hIn a.y (w64 (Int.tdiv x 3)) (w64 (Int.tdiv y 5))) Try.func41 rfl (by decide) rfl rfl rfl ⟨rfl, rfl⟩) (dw_op (d := some 19) _ rfl rfl rfl (st_fa rfl fa57_2 rfl ⟨rfl, rfl⟩) (dw_op (d := some 20) _ rfl rfl rfl (st_lda (vs := [.int .i64 a.z.lo, .int .i64 a.z.hi, .bool a.z.no]) agg26 1 rfl rfl rfl rfl rfl rfl ⟨rfl, rfl⟩) (dw_op (d := some 21) _ rfl rfl rfl (st_move (v := .int .i64 x) rfl rfl ⟨rfl, rfl⟩) (dw_op (d := some 22) _ rfl rfl rfl (st_bi (r := .int .i64 (w64 (Int.tdiv x 7))) rfl rfl rfl (bi_quo (by decide) rfl) ⟨rfl, rfl⟩) (dw_op (d := some 23) _ rfl rfl rfl (st_move (v := .int .i64 y) rfl rfl ⟨rfl, rfl⟩) ?_)))))
 refine dw_op (d := some 24) _ rfl rfl rfl (st_bi (r := .int .i64 (w64 (Int.tdiv y 11))) rfl rfl rfl (bi_quo (by decide) rfl) ⟨rfl, rfl⟩) (dw_op (d := some 25) _ rfl rfl rfl (st_cf (c_hIn a.z (w64 (Int.tdiv x 7)) (w64 (Int.tdiv y 11))) Try.func41 rfl (by decide) rfl rfl rfl ⟨rfl, rfl⟩) ?_)
 refine dw_op (d := some 26) _ rfl rfl rfl (st_bd (us := [(0, .agg #[.int .i64 ((hIn a.x x y).lo), .int .i64 ((hIn a.x x y).hi), .bool ((hIn a.x x y).no)]), (1, .agg #[.int .i64 ((hIn a.y (w64 (Int.tdiv x 3)) (w64 (Int.tdiv y 5))).lo), .int .i64 ((hIn a.y (w64 (Int.tdiv x 3)) (w64 (Int.tdiv y 5))).hi), .bool ((hIn a.y (w64 (Int.tdiv x 3)) (w64 (Int.tdiv y 5))).no)]), (2, .agg #[.int .i64 ((hIn a.z (w64 (Int.tdiv x 7)) (w64 (Int.tdiv y 11))).lo), .int .i64 ((hIn a.z (w64 (Int.tdiv x 7)) (w64 (Int.tdiv y 11))).hi), .bool ((hIn a.z (w64 (Int.tdiv x 7)) (w64 (Int.tdiv y 11))).no)])]) (v := .agg #[.int .i64 ((hIn a.x x y).lo), .int .i64 ((hIn a.x x y).hi), .bool ((hIn a.x x y).no), .int .i64 ((hIn a.y (w64 (Int.tdiv x 3)) (w64 (Int.tdiv y 5))).lo), .int .i64 ((hIn a.y (w64 (Int.tdiv x 3)) (w64 (Int.tdiv y 5))).hi), .bool ((hIn a.y (w64 (Int.tdiv x 3)) (w64 (Int.tdiv y 5))).no), .int .i64 ((hIn a.z (w64 (Int.tdiv x 7)) (w64 (Int.tdiv y 11))).lo), .int .i64 ((hIn a.z (w64 (Int.tdiv x 7)) (w64 (Int.tdiv y 11))).hi), .bool ((hIn a.z (w64 (Int.tdiv x 7)) (w64 (Int.tdiv y 11))).no)]) rfl rfl (bd57_0a_1a_2a _ _ _ _ _ _ _ _ _) ⟨rfl, rfl⟩) ?_
 refine dw_nil (aS [.int .i64 ((hIn a.x x y).lo), .int .i64 ((hIn a.x x y).hi), .bool ((hIn a.x x y).no), .int .i64 ((hIn a.y (w64 (Int.tdiv x 3)) (w64 (Int.tdiv y 5))).lo), .int .i64 ((hIn a.y (w64 (Int.tdiv x 3)) (w64 (Int.tdiv y 5))).hi), .bool ((hIn a.y (w64 (Int.tdiv x 3)) (w64 (Int.tdiv y 5))).no), .int .i64 ((hIn a.z (w64 (Int.tdiv x 7)) (w64 (Int.tdiv y 11))).lo), .int .i64 ((hIn a.z (w64 (Int.tdiv x 7)) (w64 (Int.tdiv y 11))).hi), .bool ((hIn a.z (w64 (Int.tdiv x 7)) (w64 (Int.tdiv y 11))).no)] agg57 0 rfl rfl rfl rfl rfl rfl (aN (ac_ret ?_)))
 exact fin_eq (v := .agg #[.int .i64 ((hIn a.x x y).lo), .int .i64 ((hIn a.x x y).hi), .bool ((hIn a.x x y).no), .int .i64 ((hIn a.y (w64 (Int.tdiv x 3)) (w64 (Int.tdiv y 5))).lo), .int .i64 ((hIn a.y (w64 (Int.tdiv x 3)) (w64 (Int.tdiv y 5))).hi), .bool ((hIn a.y (w64 (Int.tdiv x 3)) (w64 (Int.tdiv y 5))).no), .int .i64 ((hIn a.z (w64 (Int.tdiv x 7)) (w64 (Int.tdiv y 11))).lo), .int .i64 ((hIn a.z (w64 (Int.tdiv x 7)) (w64 (Int.tdiv y 11))).hi), .bool ((hIn a.z (w64 (Int.tdiv x 7)) (w64 (Int.tdiv y 11))).no)]) rfl (fin_ret (res_c (vs := [.int .i64 ((hIn a.x x y).lo), .int .i64 ((hIn a.x x y).hi), .bool ((hIn a.x x y).no), .int .i64 ((hIn a.y (w64 (Int.tdiv x 3)) (w64 (Int.tdiv y 5))).lo), .int .i64 ((hIn a.y (w64 (Int.tdiv x 3)) (w64 (Int.tdiv y 5))).hi), .bool ((hIn a.y (w64 (Int.tdiv x 3)) (w64 (Int.tdiv y 5))).no), .int .i64 ((hIn a.z (w64 (Int.tdiv x 7)) (w64 (Int.tdiv y 11))).lo), .int .i64 ((hIn a.z (w64 (Int.tdiv x 7)) (w64 (Int.tdiv y 11))).hi), .bool ((hIn a.z (w64 (Int.tdiv x 7)) (w64 (Int.tdiv y 11))).no)]) agg57 0 rfl rfl rfl rfl rfl rfl))
def hV (l : A6) : V := (⟨(hIv l.a0 l.a1), (hIv l.a2 l.a3), (hIv l.a4 l.a5)⟩ : V)
end Go.Proofs.Ythngkopcadlciaa
namespace Go.Proofs.Ythngkopcadlciaa
def RV (a : V) : Prop := R a.x ∧ R a.y ∧ R a.z
def LeV (a b : V) : Prop := Le a.x b.x ∧ Le a.y b.y ∧ Le a.z b.z
theorem vecRight_iff (a : V) : vecRight a = true ↔ RV a := by
  unfold vecRight RV
  rw [← ivRight_iff, ← ivRight_iff, ← ivRight_iff]
  cases ivRight a.x <;> cases ivRight a.y <;> cases ivRight a.z <;> simp
theorem le_len2 {a c : V} (h1 : LeV a c) : Le (vecLen2 a) (vecLen2 c) := le_add (le_add (le_sqr h1.1) (le_sqr h1.2.1)) (le_sqr h1.2.2)
theorem leV_unit {a c : V} (h1 : LeV a c) : LeV (vecUnit a) (vecUnit c) := ⟨le_div h1.1 (le_root (le_len2 h1)), le_div h1.2.1 (le_root (le_len2 h1)), le_div h1.2.2 (le_root (le_len2 h1))⟩
theorem hInV_Le (a : V) (x y : Int) : LeV (hInV a x y) a := ⟨hIn_Le _ _ _, hIn_Le _ _ _, hIn_Le _ _ _⟩
end Go.Proofs.Ythngkopcadlciaa
namespace Go.Proofs.Ythngkopcadlciaa
open Go.RowKit
attribute [local irreducible] AC AR DWalk
def vecTurn (a : V) (k : Int) : V := (bif decide (0 < (Int.tmod (w64 ((Int.tmod k 4) + 4)) 4)) then (bif decide (1 < (Int.tmod (w64 ((Int.tmod k 4) + 4)) 4)) then (bif decide (2 < (Int.tmod (w64 ((Int.tmod k 4) + 4)) 4)) then (bif decide (3 < (Int.tmod (w64 ((Int.tmod k 4) + 4)) 4)) then (⟨(ivNeg (ivNeg a.x)), (ivNeg (ivNeg a.y)), a.z⟩ : V) else (⟨(ivNeg (ivNeg a.y)), (ivNeg a.x), a.z⟩ : V)) else (⟨(ivNeg a.x), (ivNeg a.y), a.z⟩ : V)) else (⟨(ivNeg a.y), a.x, a.z⟩ : V)) else a)
set_option maxRecDepth 100000 in
theorem c_vecTurn (a : V) (k : Int) : Gets Try.prog 53 #[.agg #[.int .i64 a.x.lo, .int .i64 a.x.hi, .bool a.x.no, .int .i64 a.y.lo, .int .i64 a.y.hi, .bool a.y.no, .int .i64 a.z.lo, .int .i64 a.z.hi, .bool a.z.no], .int .i64 k] (V.v (vecTurn a k)) := by
 refine gets_fin Try.func53 rfl rfl rfl (aQ (aL (ao 2 rfl rfl (st_box (v := .agg #[.int .i64 a.x.lo, .int .i64 a.x.hi, .bool a.x.no, .int .i64 a.y.lo, .int .i64 a.y.hi, .bool a.y.no, .int .i64 a.z.lo, .int .i64 a.z.hi, .bool a.z.no]) (cs := [.int .i64 a.x.lo, .int .i64 a.x.hi, .bool a.x.no, .int .i64 a.y.lo, .int .i64 a.y.hi, .bool a.y.no, .int .i64 a.z.lo, .int .i64 a.z.hi, .bool a.z.no]) rfl rfl rfl fun g0 => (ao 4 rfl rfl (st_new zero57 rfl fun g1 => (aN (aQ (aQ (aL (aM 5 (.int .i64 k) rfl rfl (aB 6 (.int .i64 (Int.tmod k 4)) rfl rfl rfl (bi_rem (by decide) rfl) (aB 7 (.int .i64 (w64 ((Int.tmod k 4) + 4))) rfl rfl rfl (bi_add rfl) ?_)))))))))))))
 refine aB 8 (.int .i64 (Int.tmod (w64 ((Int.tmod k 4) + 4)) 4)) rfl rfl rfl (bi_rem (by decide) rfl) (aM 9 (.int .i64 0) rfl rfl (aN (ac_block ?_)))
 refine ac_rounds 61 (ar_round (aQ (aL (aB 10 (.bool (decide (0 < (Int.tmod (w64 ((Int.tmod k 4) + 4)) 4)))) rfl rfl rfl (bi_lss rfl) (aN (aQ ?_))))))
 refine bool_split (decide (0 < (Int.tmod (w64 ((Int.tmod k 4) + 4)) 4))) (fun h1 => ?_) (fun h1 => ?_)
 ·refine ac_then' (b := decide (0 < (Int.tmod (w64 ((Int.tmod k 4) + 4)) 4))) h1 rfl (ac_skip (aQ (ac_block ?_)))
  refine ac_draw0 (id := 3) [0, 1, 2, 3, 4, 5] [6, 7, 8] _ (by kernel_rfl) follows rfl  (dw_op (d := some 11) _ rfl rfl rfl (st_fa rfl fa57_1 rfl ⟨rfl, rfl⟩) (dw_op (d := some 12) _ rfl rfl rfl (st_lda (vs := [.int .i64 a.y.lo, .int .i64 a.y.hi, .bool a.y.no]) agg26 1 rfl rfl rfl rfl rfl rfl ⟨rfl, rfl⟩) (dw_op (d := some 13) _ rfl rfl rfl (st_cf (c_ivNeg a.y) Try.func39 rfl (by decide) rfl rfl rfl ⟨rfl, rfl⟩) (dw_op (d := some 14) _ rfl rfl rfl (st_fa rfl fa57_0 rfl ⟨rfl, rfl⟩) (dw_op (d := some 15) _ rfl rfl rfl (st_lda (vs := [.int .i64 a.x.lo, .int .i64 a.x.hi, .bool a.x.no]) agg26 1 rfl rfl rfl rfl rfl rfl ⟨rfl, rfl⟩) ?_)))))
  refine dw_op (d := some 16) _ rfl rfl rfl (st_fa rfl fa57_0 rfl ⟨rfl, rfl⟩) (dw_nil (aS [.int .i64 ((ivNeg a.y).lo), .int .i64 ((ivNeg a.y).hi), .bool ((ivNeg a.y).no), .int .i64 a.y.lo, .int .i64 a.y.hi, .bool a.y.no, .int .i64 a.z.lo, .int .i64 a.z.hi, .bool a.z.no] agg26 1 rfl rfl rfl rfl rfl rfl (aF 17 fa57_1 rfl rfl (aS [.int .i64 ((ivNeg a.y).lo), .int .i64 ((ivNeg a.y).hi), .bool ((ivNeg a.y).no), .int .i64 a.x.lo, .int .i64 a.x.hi, .bool a.x.no, .int .i64 a.z.lo, .int .i64 a.z.hi, .bool a.z.no] agg26 1 rfl rfl rfl rfl rfl rfl (aN (aL (aB 18 (.int .i64 1) rfl rfl rfl (bi_add (by decide)) (aM 9 (.int .i64 1) rfl rfl (aN (ar_round (aQ (aL ?_))))))))))))
  refine aB 10 (.bool (decide (1 < (Int.tmod (w64 ((Int.tmod k 4) + 4)) 4)))) rfl rfl rfl (bi_lss rfl) (aN (aQ ?_))
  refine bool_split (decide (1 < (Int.tmod (w64 ((Int.tmod k 4) + 4)) 4))) (fun h2 => ?_) (fun h2 => ?_)
  ·refine ac_then' (b := decide (1 < (Int.tmod (w64 ((Int.tmod k 4) + 4)) 4))) h2 rfl (ac_skip (aQ (ac_block ?_)))
   refine ac_draw0 (id := 3) [0, 1, 2, 3, 4, 5] [6, 7, 8] _ (by kernel_rfl) follows rfl  (dw_op (d := some 11) _ rfl rfl rfl (st_fa rfl fa57_1 rfl ⟨rfl, rfl⟩) (dw_op (d := some 12) _ rfl rfl rfl (st_lda (vs := [.int .i64 a.x.lo, .int .i64 a.x.hi, .bool a.x.no]) agg26 1 rfl rfl rfl rfl rfl rfl ⟨rfl, rfl⟩) (dw_op (d := some 13) _ rfl rfl rfl (st_cf (c_ivNeg a.x) Try.func39 rfl (by decide) rfl rfl rfl ⟨rfl, rfl⟩) (dw_op (d := some 14) _ rfl rfl rfl (st_fa rfl fa57_0 rfl ⟨rfl, rfl⟩) (dw_op (d := some 15) _ rfl rfl rfl (st_lda (vs := [.int .i64 ((ivNeg a.y).lo), .int .i64 ((ivNeg a.y).hi), .bool ((ivNeg a.y).no)]) agg26 1 rfl rfl rfl rfl rfl rfl ⟨rfl, rfl⟩) ?_)))))
   refine dw_op (d := some 16) _ rfl rfl rfl (st_fa rfl fa57_0 rfl ⟨rfl, rfl⟩) (dw_nil (aS [.int .i64 ((ivNeg a.x).lo), .int .i64 ((ivNeg a.x).hi), .bool ((ivNeg a.x).no), .int .i64 a.x.lo, .int .i64 a.x.hi, .bool a.x.no, .int .i64 a.z.lo, .int .i64 a.z.hi, .bool a.z.no] agg26 1 rfl rfl rfl rfl rfl rfl (aF 17 fa57_1 rfl rfl (aS [.int .i64 ((ivNeg a.x).lo), .int .i64 ((ivNeg a.x).hi), .bool ((ivNeg a.x).no), .int .i64 ((ivNeg a.y).lo), .int .i64 ((ivNeg a.y).hi), .bool ((ivNeg a.y).no), .int .i64 a.z.lo, .int .i64 a.z.hi, .bool a.z.no] agg26 1 rfl rfl rfl rfl rfl rfl (aN (aL (aB 18 (.int .i64 2) rfl rfl rfl (bi_add (by decide)) (aM 9 (.int .i64 2) rfl rfl (aN ?_)))))))))
   refine ar_round (aQ (aL (aB 10 (.bool (decide (2 < (Int.tmod (w64 ((Int.tmod k 4) + 4)) 4)))) rfl rfl rfl (bi_lss rfl) (aN (aQ ?_)))))
   refine bool_split (decide (2 < (Int.tmod (w64 ((Int.tmod k 4) + 4)) 4))) (fun h3 => ?_) (fun h3 => ?_)
   ·refine ac_then' (b := decide (2 < (Int.tmod (w64 ((Int.tmod k 4) + 4)) 4))) h3 rfl (ac_skip (aQ (ac_block ?_)))
    refine ac_draw0 (id := 3) [0, 1, 2, 3, 4, 5] [6, 7, 8] _ (by kernel_rfl) follows rfl  (dw_op (d := some 11) _ rfl rfl rfl (st_fa rfl fa57_1 rfl ⟨rfl, rfl⟩) (dw_op (d := some 12) _ rfl rfl rfl (st_lda (vs := [.int .i64 ((ivNeg a.y).lo), .int .i64 ((ivNeg a.y).hi), .bool ((ivNeg a.y).no)]) agg26 1 rfl rfl rfl rfl rfl rfl ⟨rfl, rfl⟩) (dw_op (d := some 13) _ rfl rfl rfl (st_cf (c_ivNeg (ivNeg a.y)) Try.func39 rfl (by decide) rfl rfl rfl ⟨rfl, rfl⟩) (dw_op (d := some 14) _ rfl rfl rfl (st_fa rfl fa57_0 rfl ⟨rfl, rfl⟩) ?_))))
    refine dw_op (d := some 15) _ rfl rfl rfl (st_lda (vs := [.int .i64 ((ivNeg a.x).lo), .int .i64 ((ivNeg a.x).hi), .bool ((ivNeg a.x).no)]) agg26 1 rfl rfl rfl rfl rfl rfl ⟨rfl, rfl⟩) (dw_op (d := some 16) _ rfl rfl rfl (st_fa rfl fa57_0 rfl ⟨rfl, rfl⟩) (dw_nil (aS [.int .i64 ((ivNeg (ivNeg a.y)).lo), .int .i64 ((ivNeg (ivNeg a.y)).hi), .bool ((ivNeg (ivNeg a.y)).no), .int .i64 ((ivNeg a.y).lo), .int .i64 ((ivNeg a.y).hi), .bool ((ivNeg a.y).no), .int .i64 a.z.lo, .int .i64 a.z.hi, .bool a.z.no] agg26 1 rfl rfl rfl rfl rfl rfl (aF 17 fa57_1 rfl rfl ?_))))
    refine aS [.int .i64 ((ivNeg (ivNeg a.y)).lo), .int .i64 ((ivNeg (ivNeg a.y)).hi), .bool ((ivNeg (ivNeg a.y)).no), .int .i64 ((ivNeg a.x).lo), .int .i64 ((ivNeg a.x).hi), .bool ((ivNeg a.x).no), .int .i64 a.z.lo, .int .i64 a.z.hi, .bool a.z.no] agg26 1 rfl rfl rfl rfl rfl rfl (aN (aL (aB 18 (.int .i64 3) rfl rfl rfl (bi_add (by decide)) (aM 9 (.int .i64 3) rfl rfl (aN (ar_round (aQ (aL (aB 10 (.bool (decide (3 < (Int.tmod (w64 ((Int.tmod k 4) + 4)) 4)))) rfl rfl rfl (bi_lss rfl) (aN (aQ ?_)))))))))))
    refine bool_split (decide (3 < (Int.tmod (w64 ((Int.tmod k 4) + 4)) 4))) (fun h4 => ?_) (fun h4 => ?_)
    ·refine ac_then' (b := decide (3 < (Int.tmod (w64 ((Int.tmod k 4) + 4)) 4))) h4 rfl (ac_skip (aQ (ac_block ?_)))
     refine ac_draw0 (id := 3) [0, 1, 2, 3, 4, 5] [6, 7, 8] _ (by kernel_rfl) follows rfl  (dw_op (d := some 11) _ rfl rfl rfl (st_fa rfl fa57_1 rfl ⟨rfl, rfl⟩) (dw_op (d := some 12) _ rfl rfl rfl (st_lda (vs := [.int .i64 ((ivNeg a.x).lo), .int .i64 ((ivNeg a.x).hi), .bool ((ivNeg a.x).no)]) agg26 1 rfl rfl rfl rfl rfl rfl ⟨rfl, rfl⟩) (dw_op (d := some 13) _ rfl rfl rfl (st_cf (c_ivNeg (ivNeg a.x)) Try.func39 rfl (by decide) rfl rfl rfl ⟨rfl, rfl⟩) (dw_op (d := some 14) _ rfl rfl rfl (st_fa rfl fa57_0 rfl ⟨rfl, rfl⟩) ?_))))
     refine dw_op (d := some 15) _ rfl rfl rfl (st_lda (vs := [.int .i64 ((ivNeg (ivNeg a.y)).lo), .int .i64 ((ivNeg (ivNeg a.y)).hi), .bool ((ivNeg (ivNeg a.y)).no)]) agg26 1 rfl rfl rfl rfl rfl rfl ⟨rfl, rfl⟩) (dw_op (d := some 16) _ rfl rfl rfl (st_fa rfl fa57_0 rfl ⟨rfl, rfl⟩) (dw_nil (aS [.int .i64 ((ivNeg (ivNeg a.x)).lo), .int .i64 ((ivNeg (ivNeg a.x)).hi), .bool ((ivNeg (ivNeg a.x)).no), .int .i64 ((ivNeg a.x).lo), .int .i64 ((ivNeg a.x).hi), .bool ((ivNeg a.x).no), .int .i64 a.z.lo, .int .i64 a.z.hi, .bool a.z.no] agg26 1 rfl rfl rfl rfl rfl rfl (aF 17 fa57_1 rfl rfl ?_))))
     refine aS [.int .i64 ((ivNeg (ivNeg a.x)).lo), .int .i64 ((ivNeg (ivNeg a.x)).hi), .bool ((ivNeg (ivNeg a.x)).no), .int .i64 ((ivNeg (ivNeg a.y)).lo), .int .i64 ((ivNeg (ivNeg a.y)).hi), .bool ((ivNeg (ivNeg a.y)).no), .int .i64 a.z.lo, .int .i64 a.z.hi, .bool a.z.no] agg26 1 rfl rfl rfl rfl rfl rfl (aN (aL (aB 18 (.int .i64 4) rfl rfl rfl (bi_add (by decide)) (aM 9 (.int .i64 4) rfl rfl (aN (ar_round (aQ (aL (aB 10 (.bool (decide (4 < (Int.tmod (w64 ((Int.tmod k 4) + 4)) 4)))) rfl rfl rfl (bi_lss rfl) (aN (aQ (ac_else' (b := decide (4 < (Int.tmod (w64 ((Int.tmod k 4) + 4)) 4))) (turn_lt k) rfl (ac_exit (aQ (aL ?_)))))))))))))))
     refine aG 19 [.int .i64 ((ivNeg (ivNeg a.x)).lo), .int .i64 ((ivNeg (ivNeg a.x)).hi), .bool ((ivNeg (ivNeg a.x)).no), .int .i64 ((ivNeg (ivNeg a.y)).lo), .int .i64 ((ivNeg (ivNeg a.y)).hi), .bool ((ivNeg (ivNeg a.y)).no), .int .i64 a.z.lo, .int .i64 a.z.hi, .bool a.z.no] agg57 1 rfl rfl rfl rfl rfl (aS [.int .i64 ((ivNeg (ivNeg a.x)).lo), .int .i64 ((ivNeg (ivNeg a.x)).hi), .bool ((ivNeg (ivNeg a.x)).no), .int .i64 ((ivNeg (ivNeg a.y)).lo), .int .i64 ((ivNeg (ivNeg a.y)).hi), .bool ((ivNeg (ivNeg a.y)).no), .int .i64 a.z.lo, .int .i64 a.z.hi, .bool a.z.no] agg57 0 rfl rfl rfl rfl rfl rfl (aN (ac_ret ?_)))
     exact fin_eq (v := .agg #[.int .i64 ((ivNeg (ivNeg a.x)).lo), .int .i64 ((ivNeg (ivNeg a.x)).hi), .bool ((ivNeg (ivNeg a.x)).no), .int .i64 ((ivNeg (ivNeg a.y)).lo), .int .i64 ((ivNeg (ivNeg a.y)).hi), .bool ((ivNeg (ivNeg a.y)).no), .int .i64 a.z.lo, .int .i64 a.z.hi, .bool a.z.no]) (by show _ = V.v (vecTurn a k); rw [vecTurn, h4, h3, h2, h1] <;> rfl) (fin_ret (res_c (vs := [.int .i64 ((ivNeg (ivNeg a.x)).lo), .int .i64 ((ivNeg (ivNeg a.x)).hi), .bool ((ivNeg (ivNeg a.x)).no), .int .i64 ((ivNeg (ivNeg a.y)).lo), .int .i64 ((ivNeg (ivNeg a.y)).hi), .bool ((ivNeg (ivNeg a.y)).no), .int .i64 a.z.lo, .int .i64 a.z.hi, .bool a.z.no]) agg57 0 rfl rfl rfl rfl rfl rfl))
    ·refine ac_else' (b := decide (3 < (Int.tmod (w64 ((Int.tmod k 4) + 4)) 4))) h4 rfl (ac_exit (aQ (aL (aG 19 [.int .i64 ((ivNeg (ivNeg a.y)).lo), .int .i64 ((ivNeg (ivNeg a.y)).hi), .bool ((ivNeg (ivNeg a.y)).no), .int .i64 ((ivNeg a.x).lo), .int .i64 ((ivNeg a.x).hi), .bool ((ivNeg a.x).no), .int .i64 a.z.lo, .int .i64 a.z.hi, .bool a.z.no] agg57 1 rfl rfl rfl rfl rfl (aS [.int .i64 ((ivNeg (ivNeg a.y)).lo), .int .i64 ((ivNeg (ivNeg a.y)).hi), .bool ((ivNeg (ivNeg a.y)).no), .int .i64 ((ivNeg a.x).lo), .int .i64 ((ivNeg a.x).hi), .bool ((ivNeg a.x).no), .int .i64 a.z.lo, .int .i64 a.z.hi, .bool a.z.no] agg57 0 rfl rfl rfl rfl rfl rfl (aN (ac_ret ?_)))))))
     exact fin_eq (v := .agg #[.int .i64 ((ivNeg (ivNeg a.y)).lo), .int .i64 ((ivNeg (ivNeg a.y)).hi), .bool ((ivNeg (ivNeg a.y)).no), .int .i64 ((ivNeg a.x).lo), .int .i64 ((ivNeg a.x).hi), .bool ((ivNeg a.x).no), .int .i64 a.z.lo, .int .i64 a.z.hi, .bool a.z.no]) (by show _ = V.v (vecTurn a k); rw [vecTurn, h4, h3, h2, h1] <;> rfl) (fin_ret (res_c (vs := [.int .i64 ((ivNeg (ivNeg a.y)).lo), .int .i64 ((ivNeg (ivNeg a.y)).hi), .bool ((ivNeg (ivNeg a.y)).no), .int .i64 ((ivNeg a.x).lo), .int .i64 ((ivNeg a.x).hi), .bool ((ivNeg a.x).no), .int .i64 a.z.lo, .int .i64 a.z.hi, .bool a.z.no]) agg57 0 rfl rfl rfl rfl rfl rfl))
   ·refine ac_else' (b := decide (2 < (Int.tmod (w64 ((Int.tmod k 4) + 4)) 4))) h3 rfl (ac_exit (aQ (aL (aG 19 [.int .i64 ((ivNeg a.x).lo), .int .i64 ((ivNeg a.x).hi), .bool ((ivNeg a.x).no), .int .i64 ((ivNeg a.y).lo), .int .i64 ((ivNeg a.y).hi), .bool ((ivNeg a.y).no), .int .i64 a.z.lo, .int .i64 a.z.hi, .bool a.z.no] agg57 1 rfl rfl rfl rfl rfl (aS [.int .i64 ((ivNeg a.x).lo), .int .i64 ((ivNeg a.x).hi), .bool ((ivNeg a.x).no), .int .i64 ((ivNeg a.y).lo), .int .i64 ((ivNeg a.y).hi), .bool ((ivNeg a.y).no), .int .i64 a.z.lo, .int .i64 a.z.hi, .bool a.z.no] agg57 0 rfl rfl rfl rfl rfl rfl (aN (ac_ret ?_)))))))
    exact fin_eq (v := .agg #[.int .i64 ((ivNeg a.x).lo), .int .i64 ((ivNeg a.x).hi), .bool ((ivNeg a.x).no), .int .i64 ((ivNeg a.y).lo), .int .i64 ((ivNeg a.y).hi), .bool ((ivNeg a.y).no), .int .i64 a.z.lo, .int .i64 a.z.hi, .bool a.z.no]) (by show _ = V.v (vecTurn a k); rw [vecTurn, h3, h2, h1] <;> rfl) (fin_ret (res_c (vs := [.int .i64 ((ivNeg a.x).lo), .int .i64 ((ivNeg a.x).hi), .bool ((ivNeg a.x).no), .int .i64 ((ivNeg a.y).lo), .int .i64 ((ivNeg a.y).hi), .bool ((ivNeg a.y).no), .int .i64 a.z.lo, .int .i64 a.z.hi, .bool a.z.no]) agg57 0 rfl rfl rfl rfl rfl rfl))
  ·refine ac_else' (b := decide (1 < (Int.tmod (w64 ((Int.tmod k 4) + 4)) 4))) h2 rfl (ac_exit (aQ (aL (aG 19 [.int .i64 ((ivNeg a.y).lo), .int .i64 ((ivNeg a.y).hi), .bool ((ivNeg a.y).no), .int .i64 a.x.lo, .int .i64 a.x.hi, .bool a.x.no, .int .i64 a.z.lo, .int .i64 a.z.hi, .bool a.z.no] agg57 1 rfl rfl rfl rfl rfl (aS [.int .i64 ((ivNeg a.y).lo), .int .i64 ((ivNeg a.y).hi), .bool ((ivNeg a.y).no), .int .i64 a.x.lo, .int .i64 a.x.hi, .bool a.x.no, .int .i64 a.z.lo, .int .i64 a.z.hi, .bool a.z.no] agg57 0 rfl rfl rfl rfl rfl rfl (aN (ac_ret ?_)))))))
   exact fin_eq (v := .agg #[.int .i64 ((ivNeg a.y).lo), .int .i64 ((ivNeg a.y).hi), .bool ((ivNeg a.y).no), .int .i64 a.x.lo, .int .i64 a.x.hi, .bool a.x.no, .int .i64 a.z.lo, .int .i64 a.z.hi, .bool a.z.no]) (by show _ = V.v (vecTurn a k); rw [vecTurn, h2, h1] <;> rfl) (fin_ret (res_c (vs := [.int .i64 ((ivNeg a.y).lo), .int .i64 ((ivNeg a.y).hi), .bool ((ivNeg a.y).no), .int .i64 a.x.lo, .int .i64 a.x.hi, .bool a.x.no, .int .i64 a.z.lo, .int .i64 a.z.hi, .bool a.z.no]) agg57 0 rfl rfl rfl rfl rfl rfl))
 ·refine ac_else' (b := decide (0 < (Int.tmod (w64 ((Int.tmod k 4) + 4)) 4))) h1 rfl (ac_exit (aQ (aL (aG 19 [.int .i64 a.x.lo, .int .i64 a.x.hi, .bool a.x.no, .int .i64 a.y.lo, .int .i64 a.y.hi, .bool a.y.no, .int .i64 a.z.lo, .int .i64 a.z.hi, .bool a.z.no] agg57 1 rfl rfl rfl rfl rfl (aS [.int .i64 a.x.lo, .int .i64 a.x.hi, .bool a.x.no, .int .i64 a.y.lo, .int .i64 a.y.hi, .bool a.y.no, .int .i64 a.z.lo, .int .i64 a.z.hi, .bool a.z.no] agg57 0 rfl rfl rfl rfl rfl rfl (aN (ac_ret ?_)))))))
  exact fin_eq (v := .agg #[.int .i64 a.x.lo, .int .i64 a.x.hi, .bool a.x.no, .int .i64 a.y.lo, .int .i64 a.y.hi, .bool a.y.no, .int .i64 a.z.lo, .int .i64 a.z.hi, .bool a.z.no]) (by show _ = V.v (vecTurn a k); rw [vecTurn, h1] <;> rfl) (fin_ret (res_c (vs := [.int .i64 a.x.lo, .int .i64 a.x.hi, .bool a.x.no, .int .i64 a.y.lo, .int .i64 a.y.hi, .bool a.y.no, .int .i64 a.z.lo, .int .i64 a.z.hi, .bool a.z.no]) agg57 0 rfl rfl rfl rfl rfl rfl))
end Go.Proofs.Ythngkopcadlciaa
namespace Go.Proofs.Ythngkopcadlciaa
open Go.RowKit
attribute [local irreducible] AC AR DWalk
end Go.Proofs.Ythngkopcadlciaa
namespace Go.Proofs.Ythngkopcadlciaa
open Go.RowKit
attribute [local irreducible] AC AR DWalk
end Go.Proofs.Ythngkopcadlciaa
namespace Go.Proofs.Ythngkopcadlciaa
open Go.RowKit
attribute [local irreducible] AC AR DWalk
end Go.Proofs.Ythngkopcadlciaa
namespace Go.Proofs.Ythngkopcadlciaa
def turn1 (a : V) : V := ⟨ivNeg a.y, a.x, a.z⟩
def turn2 (a : V) : V := ⟨ivNeg a.x, ivNeg a.y, a.z⟩
def turn3 (a : V) : V := ⟨ivNeg (ivNeg a.y), ivNeg a.x, a.z⟩
theorem vecTurn_spec (a : V) (k : Int) : (k % 4 = 0 ∧ vecTurn a k = a) ∨ (k % 4 = 1 ∧ vecTurn a k = turn1 a) ∨ (k % 4 = 2 ∧ vecTurn a k = turn2 a) ∨ (k % 4 = 3 ∧ vecTurn a k = turn3 a) := by
  unfold vecTurn turn1 turn2 turn3
  rw [turn_mod]
  have h : k % 4 = 0 ∨ k % 4 = 1 ∨ k % 4 = 2 ∨ k % 4 = 3 := by omega
  rcases h with h | h | h | h <;> rw [h] <;> simp
theorem k4 (k : Int) : k % 4 = 0 ∨ k % 4 = 1 ∨ k % 4 = 2 ∨ k % 4 = 3 := by omega
theorem t0 {k : Int} (h : k % 4 = 0) (a : V) : vecTurn a k = a := by
  rcases vecTurn_spec a k with ⟨h', e⟩ | ⟨h', e⟩ | ⟨h', e⟩ | ⟨h', e⟩ <;> first | exact e | (exfalso; omega)
theorem t1 {k : Int} (h : k % 4 = 1) (a : V) : vecTurn a k = turn1 a := by
  rcases vecTurn_spec a k with ⟨h', e⟩ | ⟨h', e⟩ | ⟨h', e⟩ | ⟨h', e⟩ <;> first | exact e | (exfalso; omega)
theorem t2 {k : Int} (h : k % 4 = 2) (a : V) : vecTurn a k = turn1 (turn1 a) := by
  rcases vecTurn_spec a k with ⟨h', e⟩ | ⟨h', e⟩ | ⟨h', e⟩ | ⟨h', e⟩ <;> first | exact e | (exfalso; omega)
theorem t3 {k : Int} (h : k % 4 = 3) (a : V) : vecTurn a k = turn1 (turn1 (turn1 a)) := by
  rcases vecTurn_spec a k with ⟨h', e⟩ | ⟨h', e⟩ | ⟨h', e⟩ | ⟨h', e⟩ <;> first | exact e | (exfalso; omega)
theorem len2_turn1 (a : V) : vecLen2 (turn1 a) = vecLen2 a := by
  unfold vecLen2 turn1
  simp only [ivSqr_neg]
  rw [ivAdd_comm (ivSqr a.y)]
theorem rq_negv (n c : Int) (up : Bool) : rq (-n) c (!up) = -(rq n c up) := by
  unfold rq upq dn
  cases up
  · simp
  · simp
theorem dq_negl (x : Int) {y : Int} (h : y ≠ 0) (up : Bool) : dq (-x) y (!up) = -(dq x y up) := by
  unfold dq
  rw [← rq_negv]
  by_cases hn : y < 0
  · rw [decide_eq_true hn]; simp only [cond_true, Int.neg_mul]
  · rw [decide_eq_false hn]; simp only [cond_false, Int.neg_mul]
theorem dq_negf (x : Int) {y : Int} (h : y ≠ 0) : dq (-x) y false = -(dq x y true) := dq_negl x h true
theorem dq_negt (x : Int) {y : Int} (h : y ≠ 0) : dq (-x) y true = -(dq x y false) := dq_negl x h false
theorem ivDiv_negl (a b : Iv) : ivDiv (ivNeg a) b = ivNeg (ivDiv a b) := by
  by_cases h : R a ∧ R b ∧ ¬ (b.lo ≤ 0 ∧ 0 ≤ b.hi)
  · rw [ivDiv_val (R_neg.2 h.1) h.2.1 h.2.2, ivDiv_val h.1 h.2.1 h.2.2, ivNeg_of]
    have hb := h.2.1.2
    have e1 : qn (ivNeg a) b = -(qx a b) := by
      rw [ivNeg_spec h.1]
      unfold qn qx min4 max4
      simp only
      simp (disch := omega) only [dq_negf]
      omega
    have e2 : qx (ivNeg a) b = -(qn a b) := by
      rw [ivNeg_spec h.1]
      unfold qn qx min4 max4
      simp only
      simp (disch := omega) only [dq_negt]
      omega
    rw [e1, e2]
  · rw [ivDiv_out h, ivDiv_out (fun k => h ⟨R_neg.1 k.1, k.2⟩), ivNeg_none]
theorem unit_turn1 (a : V) : vecUnit (turn1 a) = turn1 (vecUnit a) := by
  unfold vecUnit vecUnit_e0 vecOf
  rw [len2_turn1]
  unfold turn1
  simp only [ivDiv_negl]
theorem len2_mirror (a : V) : vecLen2 (vecMirror a) = vecLen2 a := by
  unfold vecLen2 vecMirror
  simp only [ivSqr_neg]
theorem unit_mirror (a : V) : vecUnit (vecMirror a) = vecMirror (vecUnit a) := by
  unfold vecUnit vecUnit_e0 vecOf
  rw [len2_mirror]
  unfold vecMirror
  simp only [ivDiv_negl]
end Go.Proofs.Ythngkopcadlciaa
namespace Go.Proofs.Ythngkopcadlciaa
theorem ivTimes_neg (a : Iv) (k : Int) : ivTimes (ivNeg a) k = ivNeg (ivTimes a k) := by
  by_cases h : R a ∧ (-1073741824 ≤ k ∧ k ≤ 1073741824)
  · rw [ivTimes_spec h.1 h.2, ivTimes_spec (R_neg.2 h.1) h.2, ivNeg_of, ivNeg_spec h.1]
    simp only [Int.mul_neg]
    congr 1 <;> omega
  · rw [ivTimes_out h, ivTimes_out (fun k' => h ⟨R_neg.1 k'.1, k'.2⟩), ivNeg_none]
theorem le_round {s : Surf} {r' r : Iv} (h : Le r' r) : Le (sagRound s r').1 (sagRound s r).1 ∧ Le (sagRound s r').2 (sagRound s r).2 := by
  have h0 : Le (ivRoot (sagRound_e0 s r')) (ivRoot (sagRound_e0 s r)) := le_root (le_sub (Le.rfl' _) (le_mul (Le.rfl' _) h))
  exact ⟨le_div (le_mul (Le.rfl' _) h) (le_add (Le.rfl' _) h0), le_div (Le.rfl' _) (le_times 2 h0)⟩
theorem le_sagZ {s : Surf} {r' r : Iv} (h : Le r' r) : Le (sagZ s r') (sagZ s r) := by
  unfold sagZ
  cases s.bent
  · exact (le_round h).1
  · exact le_add (le_round h).1 (le_horner (le_div h (Le.rfl' _)) _ _ ⟨Le.rfl' _, Le.rfl' _, Le.rfl' _, Le.rfl' _, trivial⟩)
theorem le_sagM {s : Surf} {r' r : Iv} (h : Le r' r) : Le (sagM s r') (sagM s r) := by
  unfold sagM
  cases s.bent
  · exact (le_round h).2
  · exact le_add (le_round h).2 (le_div (le_horner (le_div h (Le.rfl' _)) _ _ ⟨Le.rfl' _, Le.rfl' _, Le.rfl' _, trivial⟩) (Le.rfl' _))
theorem sagOf_yes {s : Surf} {r : Iv} (h1 : R (sagZ s r)) (h2 : R (sagM s r)) : sagOf s r = (sagZ s r, sagM s r) := by
  rw [sagOf_form, ivRight_t h1, ivRight_t h2]; rfl
theorem sagOf_no {s : Surf} {r : Iv} (h : ¬ (R (sagZ s r) ∧ R (sagM s r))) : sagOf s r = (ivNone, ivNone) := by
  rw [sagOf_form]
  by_cases h1 : R (sagZ s r)
  · rw [ivRight_t h1, ivRight_f (fun h2 => h ⟨h1, h2⟩)]; rfl
  · rw [ivRight_f h1]; rfl
theorem le_sag {s : Surf} {r' r : Iv} (h : Le r' r) : Le (sagOf s r').1 (sagOf s r).1 ∧ Le (sagOf s r').2 (sagOf s r).2 ∧ (R (sagOf s r).1 → R (sagOf s r).2) := by
  by_cases hb : R (sagZ s r) ∧ R (sagM s r)
  · obtain ⟨h1, h2⟩ := hb
    have k1 := le_sagZ (s := s) h h1
    have k2 := le_sagM (s := s) h h2
    rw [sagOf_yes h1 h2, sagOf_yes k1.1 k2.1]
    exact ⟨fun _ => k1, fun _ => k2, fun _ => h2⟩
  · rw [sagOf_no hb]
    exact ⟨Le.none _, Le.none _, fun k => absurd k R_none⟩
end Go.Proofs.Ythngkopcadlciaa
namespace Go.Proofs.Ythngkopcadlciaa
open Go.RowKit
attribute [local irreducible] AC AR DWalk
structure Dec where
 c : Int
 scale : Int
deriving DecidableEq
@[reducible] def Dec.v (s : Dec) : Value := .agg #[.int .i64 s.c, .int .i64 s.scale]
end Go.Proofs.Ythngkopcadlciaa
namespace Go.Proofs.Ythngkopcadlciaa
open Go.RowKit
attribute [local irreducible] AC AR DWalk
end Go.Proofs.Ythngkopcadlciaa
namespace Go.Proofs.Ythngkopcadlciaa
end Go.Proofs.Ythngkopcadlciaa
namespace Go.Proofs.Ythngkopcadlciaa
open Go.RowKit
attribute [local irreducible] AC AR DWalk
end Go.Proofs.Ythngkopcadlciaa
namespace Go.Proofs.Ythngkopcadlciaa
open Go.RowKit
attribute [local irreducible] AC AR DWalk
structure D3 where
 d0 : Dec
 d1 : Dec
 d2 : Dec
structure Glass where
 name : ByteArray
 b : D3
 c : D3
def Glass.cells (s : Glass) : List Value := [.string s.name, .int .i64 s.b.d0.c, .int .i64 s.b.d0.scale, .int .i64 s.b.d1.c, .int .i64 s.b.d1.scale, .int .i64 s.b.d2.c, .int .i64 s.b.d2.scale, .int .i64 s.c.d0.c, .int .i64 s.c.d0.scale, .int .i64 s.c.d1.c, .int .i64 s.c.d1.scale, .int .i64 s.c.d2.c, .int .i64 s.c.d2.scale]
structure Face where
 stop : Bool
 radius : Dec
 aperture : Dec
 thick : Dec
 conic : Dec
 a4 : Dec
 a6 : Dec
 glass : ByteArray
def Face.cells (s : Face) : List Value := [.bool s.stop, .int .i64 s.radius.c, .int .i64 s.radius.scale, .int .i64 s.aperture.c, .int .i64 s.aperture.scale, .int .i64 s.thick.c, .int .i64 s.thick.scale, .int .i64 s.conic.c, .int .i64 s.conic.scale, .int .i64 s.a4.c, .int .i64 s.a4.scale, .int .i64 s.a6.c, .int .i64 s.a6.scale, .string s.glass]
structure RawFace where
 kind : Int
 r : Int
 a : Int
 t : Int
 g : Int
 k : Int
def RawFace.cells (s : RawFace) : List Value := [.int .i64 s.kind, .int .i64 s.r, .int .i64 s.a, .int .i64 s.t, .int .i64 s.g, .int .i64 s.k]
def surfC (s : Surf) : List Value := [.bool s.stop, .bool s.bent, .int .i64 s.curve.lo, .int .i64 s.curve.hi, .bool s.curve.no, .int .i64 s.conic.lo, .int .i64 s.conic.hi, .bool s.conic.no, .int .i64 s.a4.lo, .int .i64 s.a4.hi, .bool s.a4.no, .int .i64 s.a6.lo, .int .i64 s.a6.hi, .bool s.a6.no, .int .i64 s.at_.lo, .int .i64 s.at_.hi, .bool s.at_.no, .int .i64 s.open2.lo, .int .i64 s.open2.hi, .bool s.open2.no, .int .i64 s.ratio.lo, .int .i64 s.ratio.hi, .bool s.ratio.no]
theorem dec_eq (a b : Dec) : decide (a = b) = ((a.c == b.c) && (a.scale == b.scale)) := by
 obtain ⟨x, y⟩ := a
 obtain ⟨u, v⟩ := b
 rw [Bool.eq_iff_iff]
 simp [Dec.mk.injEq]
theorem stood_dec : Try.prog.stoodInHeld 83 = false := by kernel_rfl
theorem eqr_dec (a b : Dec) (d : Nat) (w : World) : (Op.equalIn (d + 2) 83 a.v b.v).run Try.prog w = .ok (decide (a = b)) w := by
 rw [dec_eq]
 refine eqf_s (xs := [.int .i64 a.c, .int .i64 a.scale]) (ys := [.int .i64 b.c, .int .i64 b.scale]) Try.underlying83 stood_dec ?_
 refine eqf_c (by decide) (part_c cell_int rfl) (part_c cell_int rfl) (run_equalIn_int _ _ _ _ _ _ _ Try.underlying3) ?_
 have := eqf_c (p := Try.prog) (d := d + 1) (xs := [.int .i64 a.c, .int .i64 a.scale]) (ys := [.int .i64 b.c, .int .i64 b.scale]) (w := w) (f := { name := "Scale", type := 3, offset := 1, embedded := false, tag := "", pkgPath := "", byteOffset := 8 }) (fs := []) (by decide) (part_c cell_int rfl) (part_c cell_int rfl) (run_equalIn_int _ _ _ _ _ _ _ Try.underlying3) eqf_n
 rw [Bool.and_true] at this
 exact this
theorem guard_dec : Try.prog.eqGuardType Try.prog.depth 83 = false := by kernel_rfl
theorem beql_83 (a b : Dec) {d : Bool} (h : decide (a = b) = d) (x y : Operand) : Runs Try.prog (do eqGuard .eql 83 x y a.v b.v; binOp .eql 83 a.v b.v) (.bool d) := bs_eql guard_dec (fun w => eqr_dec a b 9998 w) h x y
end Go.Proofs.Ythngkopcadlciaa
namespace Go.Proofs.Ythngkopcadlciaa
open Go.RowKit
def sEq (a b : ByteArray) : Bool := a.toList == b.toList
def byteS (n : Int) : ByteArray := ⟨#[UInt8.ofNat n.toNat]⟩
theorem byteS_size (n : Int) : (byteS n).size ≤ 1 := Nat.le_refl _
theorem sz_add {a b : ByteArray} {m n : Nat} (h : a.size ≤ m) (k : b.size ≤ n) : (a ++ b).size ≤ m + n := by
  rw [ByteArray.size_append']; omega
theorem sz_ext {a : ByteArray} {m : Nat} (l h : Nat) (k : a.size ≤ m) : (a.extract l h).size ≤ m := by
  rw [ByteArray.size_extract]; omega
theorem sz_two {a b : ByteArray} {m n : Nat} (h : a.size ≤ m) (k : b.size ≤ n) (hm : m + n ≤ 9223372036854775807) : a.size + b.size ≤ 9223372036854775807 := by omega
section
variable {p : Program} {n : Nat} {ops : Array Oper} {Q : Exit → Env → List Box → Prop} {l : List Oper} {E : Env} {H : List Box} {o : Oper} {ρ : Operand → Value} {K : Post}
theorem st_slen {t : TypeId} {args : List Operand} {s : ByteArray} (ho : o.op = .call { callee := .builtin .len, args := args.toArray, argTypes := #[t] }) (hu : p.underlying t = some .string) (hv : args.map ρ = [.string s]) (k : K (.int .i64 (s.size : Int)) H) : Step p ρ o H K := by
  refine st_val (fun w => ?_) k
  rw [execOp, ho]
  simp only [resolve, List.map_toArray, hv]
  simp [invoke, builtin, Builtin.len_, Sem.run_bind, run_underlying hu w, goInt]
theorem bi_sadd {t : Nat} {a b : ByteArray} (h : a.size + b.size ≤ 9223372036854775807) (x y : Operand) : Runs p (do eqGuard .add t x y (.string a) (.string b); binOp .add t (.string a) (.string b)) (.string (a ++ b)) := ⟨fun w => by
  have := run_string_add_sum (P := p) (w := w) a b h
  simpa [eqGuard, binOp] using this⟩
theorem bi_seql {t : Nat} {a b : ByteArray} {d : Bool} (h : sEq a b = d) (x y : Operand) : Runs p (do eqGuard .eql t x y (.string a) (.string b); binOp .eql t (.string a) (.string b)) (.bool d) := ⟨fun w => by
  subst h
  simp [eqGuard, binOp, Op.stringOp, sEq]⟩
theorem bi_sneq {t : Nat} {a b : ByteArray} {d : Bool} (h : (!sEq a b) = d) (x y : Operand) : Runs p (do eqGuard .neq t x y (.string a) (.string b); binOp .neq t (.string a) (.string b)) (.bool d) := ⟨fun w => by
  subst h
  simp [eqGuard, binOp, Op.stringOp, sEq]⟩
def sAt (s : ByteArray) (i : Nat) : Int := (((s[i]?).getD 0).toNat : Int)
theorem st_six {t : TypeId} {x y : Operand} {s : ByteArray} {i : Nat} (ho : o.op = .index t x y) (hu : p.underlying t = some .string) (hx : ρ x = .string s) (hy : ρ y = .int .i64 i) (hi : i < s.size) (k : K (.int .u8 (sAt s i)) H) : Step p ρ o H K := by
  refine st_run (s := Instr.index t (.string s) (.int .i64 i)) (by rw [execOp, ho]; simp only [hx, hy]) ⟨fun w => ?_⟩ k
  have h0 : (0 : Int) ≤ i := by omega
  have hb := ByteArray.getElem?_lt' s i hi
  simp [Instr.index, asIntOf, Sem.run_bind, run_underlying hu w, h0, hb, sAt]
theorem st_sslo {t : TypeId} {x y : Operand} {s : ByteArray} {i : Nat} (ho : o.op = .slice t x (some y) none none) (hu : p.underlying t = some .string) (hx : ρ x = .string s) (hy : ρ y = .int .i64 i) (hi : i ≤ s.size) (k : K (.string (s.extract i s.size)) H) : Step p ρ o H K := by
  refine st_run (s := Instr.sliceAt t (.string s) (some (.int .i64 i)) none none) (by rw [execOp, ho]; simp only [hx, hy, Option.map_none, Option.map_some]) ⟨fun w => ?_⟩ k
  have h0 : (0 : Int) ≤ i := by omega
  have hh : (i : Int) ≤ s.size := by omega
  simp [Instr.sliceAt, Instr.slice, Instr.sliceBounds, Sem.run_bind, run_underlying hu w, run_sliceBound, h0, hh, hi]
theorem st_cvs {t u e : Nat} {x : Operand} {g : Nat} {b : Box} {n : Int} (i : Nat) (ho : o.op = .convert t u x) (ht : p.underlying t = some (.slice e)) (he : p.underlying e = some (.int .u8)) (hu : p.underlying u = some .string) (hx : ρ x = .slice (some ⟨g, 0, none⟩) 1 1) (hm : H[i]? = some b) (hg : b.g = g) (hc : b.cs = [.int .u8 n])
    (k : K (.string (byteS n)) H) : Step p ρ o H K := by
  intro F β w hO hB
  obtain ⟨fr, _, hb⟩ := (hO.at_ b (List.mem_append_left _ (List.mem_of_getElem? hm))).2
  subst hg
  have hl := run_loadCells_list (P := p) (w := w) ⟨b.g, 0, none⟩ [.int .u8 n] fun j v hj => by
    rw [add_at, Nat.zero_add, cell_of_row w b.g j _ _ _ hb, hc]
    simpa using hj
  have h1 := run_bytesToString (P := p) (w := w) ⟨b.g, 0, none⟩ 1 1 [n] hl
  have e1 : (execOp ρ o).run p w = .ok (.value (.string (byteS n))) w := by
    rw [execOp, ho]
    simp only [hx]
    simp only [Sem.run_bind]
    rw [run_convert_bytes_string w t u e _ _ _ ht he hu, h1]
    rfl
  rw [e1]
  exact ⟨H, k, hO, hB⟩
end
section
variable {p : Program} {t : Nat} {a b : Int} {d : Bool} {k : IntKind}
theorem bk_leq (h : decide (a ≤ b) = d) (x y : Operand) : Runs p (do eqGuard .leq t x y (.int k a) (.int k b); binOp .leq t (.int k a) (.int k b)) (.bool d) := ⟨fun w => by rw [← h]; cases k <;> rfl⟩
theorem bk_geq (h : decide (a ≥ b) = d) (x y : Operand) : Runs p (do eqGuard .geq t x y (.int k a) (.int k b); binOp .geq t (.int k a) (.int k b)) (.bool d) := ⟨fun w => by rw [← h]; cases k <;> rfl⟩
theorem bk_eql (h : (a == b) = d) (x y : Operand) : Runs p (do eqGuard .eql t x y (.int k a) (.int k b); binOp .eql t (.int k a) (.int k b)) (.bool d) := ⟨fun w => by rw [← h]; cases k <;> rfl⟩
end
end Go.Proofs.Ythngkopcadlciaa
namespace Go.Proofs.Ythngkopcadlciaa
open Go.RowKit
attribute [local irreducible] AC AR DWalk
def rFind (x0 : Glass) (x1 : Glass) (name : ByteArray) : Glass × Bool := (bif sEq x0.name name then (x0, true) else (bif sEq x1.name name then (x1, true) else ((⟨(⟨#[]⟩ : ByteArray), (⟨(⟨0, 0⟩ : Dec), (⟨0, 0⟩ : Dec), (⟨0, 0⟩ : Dec)⟩ : D3), (⟨(⟨0, 0⟩ : Dec), (⟨0, 0⟩ : Dec), (⟨0, 0⟩ : Dec)⟩ : D3)⟩ : Glass), false)))
set_option maxRecDepth 100000 in
set_option maxHeartbeats 4000000 in
theorem c_rFind (x0 : Glass) (x1 : Glass) (name : ByteArray) (g cap : Nat) (rest : List Value) : Gives Try.prog 108 #[.slice (some ⟨g, 0, none⟩) 2 cap, .string name] [⟨g, [.string x0.name, .int .i64 x0.b.d0.c, .int .i64 x0.b.d0.scale, .int .i64 x0.b.d1.c, .int .i64 x0.b.d1.scale, .int .i64 x0.b.d2.c, .int .i64 x0.b.d2.scale, .int .i64 x0.c.d0.c, .int .i64 x0.c.d0.scale, .int .i64 x0.c.d1.c, .int .i64 x0.c.d1.scale, .int .i64 x0.c.d2.c, .int .i64 x0.c.d2.scale, .string x1.name, .int .i64 x1.b.d0.c, .int .i64 x1.b.d0.scale, .int .i64 x1.b.d1.c, .int .i64 x1.b.d1.scale, .int .i64 x1.b.d2.c, .int .i64 x1.b.d2.scale, .int .i64 x1.c.d0.c, .int .i64 x1.c.d0.scale, .int .i64 x1.c.d1.c, .int .i64 x1.c.d1.scale, .int .i64 x1.c.d2.c, .int .i64 x1.c.d2.scale] ++ rest, 122, true⟩] (fun u N => u = ((fun (r : Glass × Bool) => (.tuple #[.agg #[.string r.1.name, .int .i64 r.1.b.d0.c, .int .i64 r.1.b.d0.scale, .int .i64 r.1.b.d1.c, .int .i64 r.1.b.d1.scale, .int .i64 r.1.b.d2.c, .int .i64 r.1.b.d2.scale, .int .i64 r.1.c.d0.c, .int .i64 r.1.c.d0.scale, .int .i64 r.1.c.d1.c, .int .i64 r.1.c.d1.scale, .int .i64 r.1.c.d2.c, .int .i64 r.1.c.d2.scale], .bool r.2] : Value)) (rFind x0 x1 name)) ∧ N = []) := by
 refine gives_fin Try.func108 rfl rfl rfl rfl (AC.mono ?_ (fun e E H h => fing_v h rfl))
 refine aQ (aL (ao 4 rfl rfl (st_new zero122 rfl fun g0 => (aA 5 (.bool false) rfl rfl (aN (aQ (aQ (aL (aA 6 (.int .i64 0) rfl rfl (aN (ac_block ?_)))))))))))
 refine ac_rounds 61 (ar_round (aQ (aQ (aL (aM 7 (.int .i64 0) rfl rfl (aM 8 (.slice (some ⟨g, 0, none⟩) 2 cap) rfl rfl (ao 9 rfl rfl (st_ln (a := some ⟨g, 0, none⟩) (m := 2) (c := cap) rfl Try.underlying104 rfl (aB 10 (.bool true) rfl rfl rfl (bi_lss (by decide)) (aN (ac_then rfl (ac_skip (aQ (ac_block (aQ (aL (aM 13 (.slice (some ⟨g, 0, none⟩) 2 cap) rfl rfl (aM 14 (.int .i64 0) rfl rfl (ao 15 rfl rfl (st_sa (g := g) (off := 0) (m := 2) (c := cap) (s := 13) (i := 0) rfl Try.underlying104 (by kernel_rfl) rfl rfl (by decide) (aF 16 fa122_0 rfl rfl (aD 17 (.string x0.name) cell9 1 rfl rfl rfl rfl (aM 18 (.string name) rfl rfl ?_)))))))))))))))))))))))
 refine aB 19 (.bool (sEq x0.name name)) rfl rfl rfl (bi_seql rfl) (aN ?_)
 refine bool_split (sEq x0.name name) (fun h1 => ?_) (fun h1 => ?_)
 ·refine ac_then' (b := sEq x0.name name) h1 rfl (aQ (aL (aM 20 (.slice (some ⟨g, 0, none⟩) 2 cap) rfl rfl (aM 21 (.int .i64 0) rfl rfl (ao 22 rfl rfl (st_sa (g := g) (off := 0) (m := 2) (c := cap) (s := 13) (i := 0) rfl Try.underlying104 (by kernel_rfl) rfl rfl (by decide) (aG 23 [.string x0.name, .int .i64 x0.b.d0.c, .int .i64 x0.b.d0.scale, .int .i64 x0.b.d1.c, .int .i64 x0.b.d1.scale, .int .i64 x0.b.d2.c, .int .i64 x0.b.d2.scale, .int .i64 x0.c.d0.c, .int .i64 x0.c.d0.scale, .int .i64 x0.c.d1.c, .int .i64 x0.c.d1.scale, .int .i64 x0.c.d2.c, .int .i64 x0.c.d2.scale] agg122 1 rfl rfl rfl rfl rfl ?_)))))))
  refine aS [.string x0.name, .int .i64 x0.b.d0.c, .int .i64 x0.b.d0.scale, .int .i64 x0.b.d1.c, .int .i64 x0.b.d1.scale, .int .i64 x0.b.d2.c, .int .i64 x0.b.d2.scale, .int .i64 x0.c.d0.c, .int .i64 x0.c.d0.scale, .int .i64 x0.c.d1.c, .int .i64 x0.c.d1.scale, .int .i64 x0.c.d2.c, .int .i64 x0.c.d2.scale] agg122 0 rfl rfl rfl rfl rfl rfl (aA 5 (.bool true) rfl rfl (aN (ac_ret ?_)))
  exact fin_eq (v := .tuple #[.agg #[.string x0.name, .int .i64 x0.b.d0.c, .int .i64 x0.b.d0.scale, .int .i64 x0.b.d1.c, .int .i64 x0.b.d1.scale, .int .i64 x0.b.d2.c, .int .i64 x0.b.d2.scale, .int .i64 x0.c.d0.c, .int .i64 x0.c.d0.scale, .int .i64 x0.c.d1.c, .int .i64 x0.c.d1.scale, .int .i64 x0.c.d2.c, .int .i64 x0.c.d2.scale], .bool true]) (by show _ = (fun (r : Glass × Bool) => (.tuple #[.agg #[.string r.1.name, .int .i64 r.1.b.d0.c, .int .i64 r.1.b.d0.scale, .int .i64 r.1.b.d1.c, .int .i64 r.1.b.d1.scale, .int .i64 r.1.b.d2.c, .int .i64 r.1.b.d2.scale, .int .i64 r.1.c.d0.c, .int .i64 r.1.c.d0.scale, .int .i64 r.1.c.d1.c, .int .i64 r.1.c.d1.scale, .int .i64 r.1.c.d2.c, .int .i64 r.1.c.d2.scale], .bool r.2] : Value)) (rFind x0 x1 name); rw [rFind, h1] <;> rfl) (fin_ret (res_ct (vs := [.string x0.name, .int .i64 x0.b.d0.c, .int .i64 x0.b.d0.scale, .int .i64 x0.b.d1.c, .int .i64 x0.b.d1.scale, .int .i64 x0.b.d2.c, .int .i64 x0.b.d2.scale, .int .i64 x0.c.d0.c, .int .i64 x0.c.d0.scale, .int .i64 x0.c.d1.c, .int .i64 x0.c.d1.scale, .int .i64 x0.c.d2.c, .int .i64 x0.c.d2.scale]) agg122 0 rfl rfl rfl rfl rfl rfl rfl))
 ·refine ac_else' (b := sEq x0.name name) h1 rfl (ac_skip (aL (aM 11 (.int .i64 0) rfl rfl (aB 12 (.int .i64 1) rfl rfl rfl (bi_add (by decide)) (aA 6 (.int .i64 1) rfl rfl (aN (ar_round (aQ (aQ (aL (aM 7 (.int .i64 1) rfl rfl (aM 8 (.slice (some ⟨g, 0, none⟩) 2 cap) rfl rfl (ao 9 rfl rfl (st_ln (a := some ⟨g, 0, none⟩) (m := 2) (c := cap) rfl Try.underlying104 rfl (aB 10 (.bool true) rfl rfl rfl (bi_lss (by decide)) (aN (ac_then rfl (ac_skip (aQ (ac_block (aQ (aL (aM 13 (.slice (some ⟨g, 0, none⟩) 2 cap) rfl rfl (aM 14 (.int .i64 1) rfl rfl ?_))))))))))))))))))))))))
  refine ao 15 rfl rfl (st_sa (g := g) (off := 0) (m := 2) (c := cap) (s := 13) (i := 1) rfl Try.underlying104 (by kernel_rfl) rfl rfl (by decide) (aF 16 fa122_0 rfl rfl (aD 17 (.string x1.name) cell9 1 rfl rfl rfl rfl (aM 18 (.string name) rfl rfl (aB 19 (.bool (sEq x1.name name)) rfl rfl rfl (bi_seql rfl) (aN ?_))))))
  refine bool_split (sEq x1.name name) (fun h2 => ?_) (fun h2 => ?_)
  ·refine ac_then' (b := sEq x1.name name) h2 rfl (aQ (aL (aM 20 (.slice (some ⟨g, 0, none⟩) 2 cap) rfl rfl (aM 21 (.int .i64 1) rfl rfl (ao 22 rfl rfl (st_sa (g := g) (off := 0) (m := 2) (c := cap) (s := 13) (i := 1) rfl Try.underlying104 (by kernel_rfl) rfl rfl (by decide) (aG 23 [.string x1.name, .int .i64 x1.b.d0.c, .int .i64 x1.b.d0.scale, .int .i64 x1.b.d1.c, .int .i64 x1.b.d1.scale, .int .i64 x1.b.d2.c, .int .i64 x1.b.d2.scale, .int .i64 x1.c.d0.c, .int .i64 x1.c.d0.scale, .int .i64 x1.c.d1.c, .int .i64 x1.c.d1.scale, .int .i64 x1.c.d2.c, .int .i64 x1.c.d2.scale] agg122 1 rfl rfl rfl rfl rfl ?_)))))))
   refine aS [.string x1.name, .int .i64 x1.b.d0.c, .int .i64 x1.b.d0.scale, .int .i64 x1.b.d1.c, .int .i64 x1.b.d1.scale, .int .i64 x1.b.d2.c, .int .i64 x1.b.d2.scale, .int .i64 x1.c.d0.c, .int .i64 x1.c.d0.scale, .int .i64 x1.c.d1.c, .int .i64 x1.c.d1.scale, .int .i64 x1.c.d2.c, .int .i64 x1.c.d2.scale] agg122 0 rfl rfl rfl rfl rfl rfl (aA 5 (.bool true) rfl rfl (aN (ac_ret ?_)))
   exact fin_eq (v := .tuple #[.agg #[.string x1.name, .int .i64 x1.b.d0.c, .int .i64 x1.b.d0.scale, .int .i64 x1.b.d1.c, .int .i64 x1.b.d1.scale, .int .i64 x1.b.d2.c, .int .i64 x1.b.d2.scale, .int .i64 x1.c.d0.c, .int .i64 x1.c.d0.scale, .int .i64 x1.c.d1.c, .int .i64 x1.c.d1.scale, .int .i64 x1.c.d2.c, .int .i64 x1.c.d2.scale], .bool true]) (by show _ = (fun (r : Glass × Bool) => (.tuple #[.agg #[.string r.1.name, .int .i64 r.1.b.d0.c, .int .i64 r.1.b.d0.scale, .int .i64 r.1.b.d1.c, .int .i64 r.1.b.d1.scale, .int .i64 r.1.b.d2.c, .int .i64 r.1.b.d2.scale, .int .i64 r.1.c.d0.c, .int .i64 r.1.c.d0.scale, .int .i64 r.1.c.d1.c, .int .i64 r.1.c.d1.scale, .int .i64 r.1.c.d2.c, .int .i64 r.1.c.d2.scale], .bool r.2] : Value)) (rFind x0 x1 name); rw [rFind, h2, h1] <;> rfl) (fin_ret (res_ct (vs := [.string x1.name, .int .i64 x1.b.d0.c, .int .i64 x1.b.d0.scale, .int .i64 x1.b.d1.c, .int .i64 x1.b.d1.scale, .int .i64 x1.b.d2.c, .int .i64 x1.b.d2.scale, .int .i64 x1.c.d0.c, .int .i64 x1.c.d0.scale, .int .i64 x1.c.d1.c, .int .i64 x1.c.d1.scale, .int .i64 x1.c.d2.c, .int .i64 x1.c.d2.scale]) agg122 0 rfl rfl rfl rfl rfl rfl rfl))
  ·refine ac_else' (b := sEq x1.name name) h2 rfl (ac_skip (aL (aM 11 (.int .i64 1) rfl rfl (aB 12 (.int .i64 2) rfl rfl rfl (bi_add (by decide)) (aA 6 (.int .i64 2) rfl rfl (aN (ar_round (aQ (aQ (aL (aM 7 (.int .i64 2) rfl rfl (aM 8 (.slice (some ⟨g, 0, none⟩) 2 cap) rfl rfl (ao 9 rfl rfl (st_ln (a := some ⟨g, 0, none⟩) (m := 2) (c := cap) rfl Try.underlying104 rfl (aB 10 (.bool false) rfl rfl rfl (bi_lss (by decide)) (aN (ac_else rfl (ac_exit (aQ (aL ?_))))))))))))))))))))
   refine ao 24 rfl rfl (st_bd (us := []) (v := .agg #[.string (⟨#[]⟩ : ByteArray), .int .i64 0, .int .i64 0, .int .i64 0, .int .i64 0, .int .i64 0, .int .i64 0, .int .i64 0, .int .i64 0, .int .i64 0, .int .i64 0, .int .i64 0, .int .i64 0]) rfl rfl (bd122_ ) (aS [.string (⟨#[]⟩ : ByteArray), .int .i64 0, .int .i64 0, .int .i64 0, .int .i64 0, .int .i64 0, .int .i64 0, .int .i64 0, .int .i64 0, .int .i64 0, .int .i64 0, .int .i64 0, .int .i64 0] agg122 0 rfl rfl rfl rfl rfl rfl (aA 5 (.bool false) rfl rfl (aN (ac_ret ?_)))))
   exact fin_eq (v := .tuple #[.agg #[.string (⟨#[]⟩ : ByteArray), .int .i64 0, .int .i64 0, .int .i64 0, .int .i64 0, .int .i64 0, .int .i64 0, .int .i64 0, .int .i64 0, .int .i64 0, .int .i64 0, .int .i64 0, .int .i64 0], .bool false]) (by show _ = (fun (r : Glass × Bool) => (.tuple #[.agg #[.string r.1.name, .int .i64 r.1.b.d0.c, .int .i64 r.1.b.d0.scale, .int .i64 r.1.b.d1.c, .int .i64 r.1.b.d1.scale, .int .i64 r.1.b.d2.c, .int .i64 r.1.b.d2.scale, .int .i64 r.1.c.d0.c, .int .i64 r.1.c.d0.scale, .int .i64 r.1.c.d1.c, .int .i64 r.1.c.d1.scale, .int .i64 r.1.c.d2.c, .int .i64 r.1.c.d2.scale], .bool r.2] : Value)) (rFind x0 x1 name); rw [rFind, h2, h1] <;> rfl) (fin_ret (res_ct (vs := [.string (⟨#[]⟩ : ByteArray), .int .i64 0, .int .i64 0, .int .i64 0, .int .i64 0, .int .i64 0, .int .i64 0, .int .i64 0, .int .i64 0, .int .i64 0, .int .i64 0, .int .i64 0, .int .i64 0]) agg122 0 rfl rfl rfl rfl rfl rfl rfl))
theorem c_rFindG (x0 x1 : Glass) (name : ByteArray) (g cap : Nat) (rg rest : List Value) (h : rg = x0.cells ++ x1.cells ++ rest) : Gives Try.prog 108 #[.slice (some ⟨g, 0, none⟩) 2 cap, .string name] [⟨g, rg, 122, true⟩] (fun u N => u = .tuple #[.agg #[.string (((rFind x0 x1 name).1).name), .int .i64 (((((rFind x0 x1 name).1).b).d0).c), .int .i64 (((((rFind x0 x1 name).1).b).d0).scale), .int .i64 (((((rFind x0 x1 name).1).b).d1).c), .int .i64 (((((rFind x0 x1 name).1).b).d1).scale), .int .i64 (((((rFind x0 x1 name).1).b).d2).c), .int .i64 (((((rFind x0 x1 name).1).b).d2).scale), .int .i64 (((((rFind x0 x1 name).1).c).d0).c), .int .i64 (((((rFind x0 x1 name).1).c).d0).scale), .int .i64 (((((rFind x0 x1 name).1).c).d1).c), .int .i64 (((((rFind x0 x1 name).1).c).d1).scale), .int .i64 (((((rFind x0 x1 name).1).c).d2).c), .int .i64 (((((rFind x0 x1 name).1).c).d2).scale)], .bool ((rFind x0 x1 name).2)] ∧ N = []) := by
 subst h
 exact c_rFind x0 x1 name g cap rest
end Go.Proofs.Ythngkopcadlciaa
