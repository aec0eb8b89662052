import Derived.Test.YthngkopcadlciaaREndsD
import Derived.Test.YthngkopcadlciaaMSceneFirst6
import Derived.Test.YthngkopcadlciaaMSceneFirst4
import Derived.Test.YthngkopcadlciaaMSceneFirst0
set_option linter.unusedVariables false
set_option linter.unusedSimpArgs false
namespace Go.Proofs.Ythngkopcadlciaa
open Go.RowKit
attribute [local irreducible] AC AR DWalk
def rVecLen2 (a : V) : Iv := (rAdd (rAdd (rSqr a.x) (rSqr a.y)) (rSqr a.z))
set_option maxRecDepth 100000 in
theorem c_rVecLen2 (a : V) : Gets Try.prog 116 #[.agg #[.int .i64 a.x.lo, .int .i64 a.x.hi, .bool a.x.no, .int .i64 a.y.lo, .int .i64 a.y.hi, .bool a.y.no, .int .i64 a.z.lo, .int .i64 a.z.hi, .bool a.z.no]] (Iv.v (rVecLen2 a)) := by
  refine gets_fin Try.func116 rfl rfl rfl ?_
  refine ac_seq ?_
  refine ac_region_lit ?_
  refine ao 1 rfl rfl (st_box (v := .agg #[.int .i64 a.x.lo, .int .i64 a.x.hi, .bool a.x.no, .int .i64 a.y.lo, .int .i64 a.y.hi, .bool a.y.no, .int .i64 a.z.lo, .int .i64 a.z.hi, .bool a.z.no]) (cs := [.int .i64 a.x.lo, .int .i64 a.x.hi, .bool a.x.no, .int .i64 a.y.lo, .int .i64 a.y.hi, .bool a.y.no, .int .i64 a.z.lo, .int .i64 a.z.hi, .bool a.z.no]) rfl rfl rfl fun g0 => ?_)
  refine ao 2 rfl rfl (st_new zero26 rfl fun g1 => ?_)
  refine ar_nil ?_
  refine ac_seq ?_
  refine ac_draw0 (id := 1) [0, 1, 2, 3, 4, 5, 6, 7, 8, 9, 10] [11] _ (by kernel_rfl) follows rfl  ?_
  refine dw_op (d := (some 3)) (.pointer (some ⟨g0, 0, none⟩)) rfl rfl rfl (st_fa (g := g0) (off := 0) rfl fa57_0 rfl ⟨rfl, rfl⟩) ?_
  refine dw_op (d := (some 4)) (.agg #[.int .i64 a.x.lo, .int .i64 a.x.hi, .bool a.x.no]) rfl rfl rfl (st_lda (g := g0) (off := 0) (vs := [.int .i64 a.x.lo, .int .i64 a.x.hi, .bool a.x.no]) agg26 1 rfl rfl rfl rfl rfl rfl ⟨rfl, rfl⟩) ?_
  refine dw_op (d := (some 5)) (.agg #[.int .i64 ((rSqr a.x).lo), .int .i64 ((rSqr a.x).hi), .bool ((rSqr a.x).no)]) rfl rfl rfl (st_cf (vs := [.agg #[.int .i64 a.x.lo, .int .i64 a.x.hi, .bool a.x.no]]) (r := .agg #[.int .i64 ((rSqr a.x).lo), .int .i64 ((rSqr a.x).hi), .bool ((rSqr a.x).no)]) (c_rSqr a.x) Try.func84 rfl (by decide) rfl rfl rfl ⟨rfl, rfl⟩) ?_
  refine dw_op (d := (some 6)) (.pointer (some ⟨g0, 3, none⟩)) rfl rfl rfl (st_fa (g := g0) (off := 0) rfl fa57_1 rfl ⟨rfl, rfl⟩) ?_
  refine dw_op (d := (some 7)) (.agg #[.int .i64 a.y.lo, .int .i64 a.y.hi, .bool a.y.no]) rfl rfl rfl (st_lda (g := g0) (off := 3) (vs := [.int .i64 a.y.lo, .int .i64 a.y.hi, .bool a.y.no]) agg26 1 rfl rfl rfl rfl rfl rfl ⟨rfl, rfl⟩) ?_
  refine dw_op (d := (some 8)) (.agg #[.int .i64 ((rSqr a.y).lo), .int .i64 ((rSqr a.y).hi), .bool ((rSqr a.y).no)]) rfl rfl rfl (st_cf (vs := [.agg #[.int .i64 a.y.lo, .int .i64 a.y.hi, .bool a.y.no]]) (r := .agg #[.int .i64 ((rSqr a.y).lo), .int .i64 ((rSqr a.y).hi), .bool ((rSqr a.y).no)]) (c_rSqr a.y) Try.func84 rfl (by decide) rfl rfl rfl ⟨rfl, rfl⟩) ?_
  refine dw_op (d := (some 9)) (.agg #[.int .i64 ((rAdd (rSqr a.x) (rSqr a.y)).lo), .int .i64 ((rAdd (rSqr a.x) (rSqr a.y)).hi), .bool ((rAdd (rSqr a.x) (rSqr a.y)).no)]) rfl rfl rfl (st_cf (vs := [.agg #[.int .i64 ((rSqr a.x).lo), .int .i64 ((rSqr a.x).hi), .bool ((rSqr a.x).no)], .agg #[.int .i64 ((rSqr a.y).lo), .int .i64 ((rSqr a.y).hi), .bool ((rSqr a.y).no)]]) (r := .agg #[.int .i64 ((rAdd (rSqr a.x) (rSqr a.y)).lo), .int .i64 ((rAdd (rSqr a.x) (rSqr a.y)).hi), .bool ((rAdd (rSqr a.x) (rSqr a.y)).no)]) (c_rAdd (rSqr a.x) (rSqr a.y)) Try.func86 rfl (by decide) rfl rfl rfl ⟨rfl, rfl⟩) ?_
  refine dw_op (d := (some 10)) (.pointer (some ⟨g0, 6, none⟩)) rfl rfl rfl (st_fa (g := g0) (off := 0) rfl fa57_2 rfl ⟨rfl, rfl⟩) ?_
  refine dw_op (d := (some 11)) (.agg #[.int .i64 a.z.lo, .int .i64 a.z.hi, .bool a.z.no]) rfl rfl rfl (st_lda (g := g0) (off := 6) (vs := [.int .i64 a.z.lo, .int .i64 a.z.hi, .bool a.z.no]) agg26 1 rfl rfl rfl rfl rfl rfl ⟨rfl, rfl⟩) ?_
  refine dw_op (d := (some 12)) (.agg #[.int .i64 ((rSqr a.z).lo), .int .i64 ((rSqr a.z).hi), .bool ((rSqr a.z).no)]) rfl rfl rfl (st_cf (vs := [.agg #[.int .i64 a.z.lo, .int .i64 a.z.hi, .bool a.z.no]]) (r := .agg #[.int .i64 ((rSqr a.z).lo), .int .i64 ((rSqr a.z).hi), .bool ((rSqr a.z).no)]) (c_rSqr a.z) Try.func84 rfl (by decide) rfl rfl rfl ⟨rfl, rfl⟩) ?_
  refine dw_op (d := (some 13)) (.agg #[.int .i64 ((rAdd (rAdd (rSqr a.x) (rSqr a.y)) (rSqr a.z)).lo), .int .i64 ((rAdd (rAdd (rSqr a.x) (rSqr a.y)) (rSqr a.z)).hi), .bool ((rAdd (rAdd (rSqr a.x) (rSqr a.y)) (rSqr a.z)).no)]) rfl rfl rfl (st_cf (vs := [.agg #[.int .i64 ((rAdd (rSqr a.x) (rSqr a.y)).lo), .int .i64 ((rAdd (rSqr a.x) (rSqr a.y)).hi), .bool ((rAdd (rSqr a.x) (rSqr a.y)).no)], .agg #[.int .i64 ((rSqr a.z).lo), .int .i64 ((rSqr a.z).hi), .bool ((rSqr a.z).no)]]) (r := .agg #[.int .i64 ((rAdd (rAdd (rSqr a.x) (rSqr a.y)) (rSqr a.z)).lo), .int .i64 ((rAdd (rAdd (rSqr a.x) (rSqr a.y)) (rSqr a.z)).hi), .bool ((rAdd (rAdd (rSqr a.x) (rSqr a.y)) (rSqr a.z)).no)]) (c_rAdd (rAdd (rSqr a.x) (rSqr a.y)) (rSqr a.z)) Try.func86 rfl (by decide) rfl rfl rfl ⟨rfl, rfl⟩) ?_
  refine dw_nil ?_
  refine ar_op (d := none) rfl rfl (st_sta (g := g1) (off := 0) (us := [.int .i64 ((rAdd (rAdd (rSqr a.x) (rSqr a.y)) (rSqr a.z)).lo), .int .i64 ((rAdd (rAdd (rSqr a.x) (rSqr a.y)) (rSqr a.z)).hi), .bool ((rAdd (rAdd (rSqr a.x) (rSqr a.y)) (rSqr a.z)).no)]) (cs := [.int .i64 ((rAdd (rAdd (rSqr a.x) (rSqr a.y)) (rSqr a.z)).lo), .int .i64 ((rAdd (rAdd (rSqr a.x) (rSqr a.y)) (rSqr a.z)).hi), .bool ((rAdd (rAdd (rSqr a.x) (rSqr a.y)) (rSqr a.z)).no)]) agg26 0 rfl rfl rfl rfl rfl rfl rfl rfl rfl ?_)
  refine ar_nil ?_
  refine ac_ret ?_
  exact fin_eq (v := .agg #[.int .i64 ((rAdd (rAdd (rSqr a.x) (rSqr a.y)) (rSqr a.z)).lo), .int .i64 ((rAdd (rAdd (rSqr a.x) (rSqr a.y)) (rSqr a.z)).hi), .bool ((rAdd (rAdd (rSqr a.x) (rSqr a.y)) (rSqr a.z)).no)]) rfl (fin_ret (res_c (vs := [.int .i64 ((rAdd (rAdd (rSqr a.x) (rSqr a.y)) (rSqr a.z)).lo), .int .i64 ((rAdd (rAdd (rSqr a.x) (rSqr a.y)) (rSqr a.z)).hi), .bool ((rAdd (rAdd (rSqr a.x) (rSqr a.y)) (rSqr a.z)).no)]) agg26 0 rfl rfl rfl rfl rfl rfl))
def rVecUnit (a : V) : V := (⟨(rDivIv a.x (rRootIv (rVecLen2 a))), (rDivIv a.y (rRootIv (rVecLen2 a))), (rDivIv a.z (rRootIv (rVecLen2 a)))⟩ : V)
set_option maxRecDepth 100000 in
theorem c_rVecUnit (a : V) : Gets Try.prog 95 #[.agg #[.int .i64 a.x.lo, .int .i64 a.x.hi, .bool a.x.no, .int .i64 a.y.lo, .int .i64 a.y.hi, .bool a.y.no, .int .i64 a.z.lo, .int .i64 a.z.hi, .bool a.z.no]] (V.v (rVecUnit a)) := by
  refine gets_fin Try.func95 rfl rfl rfl ?_
  refine ac_seq ?_
  refine ac_region_lit ?_
  refine ao 1 rfl rfl (st_box (v := .agg #[.int .i64 a.x.lo, .int .i64 a.x.hi, .bool a.x.no, .int .i64 a.y.lo, .int .i64 a.y.hi, .bool a.y.no, .int .i64 a.z.lo, .int .i64 a.z.hi, .bool a.z.no]) (cs := [.int .i64 a.x.lo, .int .i64 a.x.hi, .bool a.x.no, .int .i64 a.y.lo, .int .i64 a.y.hi, .bool a.y.no, .int .i64 a.z.lo, .int .i64 a.z.hi, .bool a.z.no]) rfl rfl rfl fun g0 => ?_)
  refine ao 2 rfl rfl (st_new zero57 rfl fun g1 => ?_)
  refine ar_nil ?_
  refine ac_seq ?_
  refine ac_region_lit ?_
  refine ao 4 rfl rfl (st_lda (g := g0) (off := 0) (vs := [.int .i64 a.x.lo, .int .i64 a.x.hi, .bool a.x.no, .int .i64 a.y.lo, .int .i64 a.y.hi, .bool a.y.no, .int .i64 a.z.lo, .int .i64 a.z.hi, .bool a.z.no]) agg57 1 rfl rfl rfl rfl rfl rfl ?_)
  refine ao 5 rfl rfl (st_cf (vs := [.agg #[.int .i64 a.x.lo, .int .i64 a.x.hi, .bool a.x.no, .int .i64 a.y.lo, .int .i64 a.y.hi, .bool a.y.no, .int .i64 a.z.lo, .int .i64 a.z.hi, .bool a.z.no]]) (r := .agg #[.int .i64 ((rVecLen2 a).lo), .int .i64 ((rVecLen2 a).hi), .bool ((rVecLen2 a).no)]) (c_rVecLen2 a) Try.func116 rfl (by decide) rfl rfl rfl ?_)
  refine ao 6 rfl rfl (st_cf (vs := [.agg #[.int .i64 ((rVecLen2 a).lo), .int .i64 ((rVecLen2 a).hi), .bool ((rVecLen2 a).no)]]) (r := .agg #[.int .i64 ((rRootIv (rVecLen2 a)).lo), .int .i64 ((rRootIv (rVecLen2 a)).hi), .bool ((rRootIv (rVecLen2 a)).no)]) (c_rRootIv (rVecLen2 a)) Try.func81 rfl (by decide) rfl rfl rfl ?_)
  refine ao 3 rfl rfl (st_new zero26 rfl fun g2 => ?_)
  refine ar_op (d := none) rfl rfl (st_sta (g := g2) (off := 0) (us := [.int .i64 ((rRootIv (rVecLen2 a)).lo), .int .i64 ((rRootIv (rVecLen2 a)).hi), .bool ((rRootIv (rVecLen2 a)).no)]) (cs := [.int .i64 ((rRootIv (rVecLen2 a)).lo), .int .i64 ((rRootIv (rVecLen2 a)).hi), .bool ((rRootIv (rVecLen2 a)).no)]) agg26 0 rfl rfl rfl rfl rfl rfl rfl rfl rfl ?_)
  refine ar_nil ?_
  refine ac_seq ?_
  refine ac_draw0 (id := 2) [0, 1, 2, 3, 4, 5, 6, 7, 8, 9, 10, 11, 12] [13] _ (by kernel_rfl) follows rfl  ?_
  refine dw_op (d := (some 7)) (.pointer (some ⟨g0, 0, none⟩)) rfl rfl rfl (st_fa (g := g0) (off := 0) rfl fa57_0 rfl ⟨rfl, rfl⟩) ?_
  refine dw_op (d := (some 8)) (.agg #[.int .i64 a.x.lo, .int .i64 a.x.hi, .bool a.x.no]) rfl rfl rfl (st_lda (g := g0) (off := 0) (vs := [.int .i64 a.x.lo, .int .i64 a.x.hi, .bool a.x.no]) agg26 2 rfl rfl rfl rfl rfl rfl ⟨rfl, rfl⟩) ?_
  refine dw_op (d := (some 9)) (.agg #[.int .i64 ((rRootIv (rVecLen2 a)).lo), .int .i64 ((rRootIv (rVecLen2 a)).hi), .bool ((rRootIv (rVecLen2 a)).no)]) rfl rfl rfl (st_lda (g := g2) (off := 0) (vs := [.int .i64 ((rRootIv (rVecLen2 a)).lo), .int .i64 ((rRootIv (rVecLen2 a)).hi), .bool ((rRootIv (rVecLen2 a)).no)]) agg26 0 rfl rfl rfl rfl rfl rfl ⟨rfl, rfl⟩) ?_
  refine dw_op (d := (some 10)) (.agg #[.int .i64 ((rDivIv a.x (rRootIv (rVecLen2 a))).lo), .int .i64 ((rDivIv a.x (rRootIv (rVecLen2 a))).hi), .bool ((rDivIv a.x (rRootIv (rVecLen2 a))).no)]) rfl rfl rfl (st_cf (vs := [.agg #[.int .i64 a.x.lo, .int .i64 a.x.hi, .bool a.x.no], .agg #[.int .i64 ((rRootIv (rVecLen2 a)).lo), .int .i64 ((rRootIv (rVecLen2 a)).hi), .bool ((rRootIv (rVecLen2 a)).no)]]) (r := .agg #[.int .i64 ((rDivIv a.x (rRootIv (rVecLen2 a))).lo), .int .i64 ((rDivIv a.x (rRootIv (rVecLen2 a))).hi), .bool ((rDivIv a.x (rRootIv (rVecLen2 a))).no)]) (c_rDivIv a.x (rRootIv (rVecLen2 a))) Try.func85 rfl (by decide) rfl rfl rfl ⟨rfl, rfl⟩) ?_
  refine dw_op (d := (some 11)) (.pointer (some ⟨g0, 3, none⟩)) rfl rfl rfl (st_fa (g := g0) (off := 0) rfl fa57_1 rfl ⟨rfl, rfl⟩) ?_
  refine dw_op (d := (some 12)) (.agg #[.int .i64 a.y.lo, .int .i64 a.y.hi, .bool a.y.no]) rfl rfl rfl (st_lda (g := g0) (off := 3) (vs := [.int .i64 a.y.lo, .int .i64 a.y.hi, .bool a.y.no]) agg26 2 rfl rfl rfl rfl rfl rfl ⟨rfl, rfl⟩) ?_
  refine dw_op (d := (some 13)) (.agg #[.int .i64 ((rRootIv (rVecLen2 a)).lo), .int .i64 ((rRootIv (rVecLen2 a)).hi), .bool ((rRootIv (rVecLen2 a)).no)]) rfl rfl rfl (st_lda (g := g2) (off := 0) (vs := [.int .i64 ((rRootIv (rVecLen2 a)).lo), .int .i64 ((rRootIv (rVecLen2 a)).hi), .bool ((rRootIv (rVecLen2 a)).no)]) agg26 0 rfl rfl rfl rfl rfl rfl ⟨rfl, rfl⟩) ?_
  refine dw_op (d := (some 14)) (.agg #[.int .i64 ((rDivIv a.y (rRootIv (rVecLen2 a))).lo), .int .i64 ((rDivIv a.y (rRootIv (rVecLen2 a))).hi), .bool ((rDivIv a.y (rRootIv (rVecLen2 a))).no)]) rfl rfl rfl (st_cf (vs := [.agg #[.int .i64 a.y.lo, .int .i64 a.y.hi, .bool a.y.no], .agg #[.int .i64 ((rRootIv (rVecLen2 a)).lo), .int .i64 ((rRootIv (rVecLen2 a)).hi), .bool ((rRootIv (rVecLen2 a)).no)]]) (r := .agg #[.int .i64 ((rDivIv a.y (rRootIv (rVecLen2 a))).lo), .int .i64 ((rDivIv a.y (rRootIv (rVecLen2 a))).hi), .bool ((rDivIv a.y (rRootIv (rVecLen2 a))).no)]) (c_rDivIv a.y (rRootIv (rVecLen2 a))) Try.func85 rfl (by decide) rfl rfl rfl ⟨rfl, rfl⟩) ?_
  refine dw_op (d := (some 15)) (.pointer (some ⟨g0, 6, none⟩)) rfl rfl rfl (st_fa (g := g0) (off := 0) rfl fa57_2 rfl ⟨rfl, rfl⟩) ?_
  refine dw_op (d := (some 16)) (.agg #[.int .i64 a.z.lo, .int .i64 a.z.hi, .bool a.z.no]) rfl rfl rfl (st_lda (g := g0) (off := 6) (vs := [.int .i64 a.z.lo, .int .i64 a.z.hi, .bool a.z.no]) agg26 2 rfl rfl rfl rfl rfl rfl ⟨rfl, rfl⟩) ?_
  refine dw_op (d := (some 17)) (.agg #[.int .i64 ((rRootIv (rVecLen2 a)).lo), .int .i64 ((rRootIv (rVecLen2 a)).hi), .bool ((rRootIv (rVecLen2 a)).no)]) rfl rfl rfl (st_lda (g := g2) (off := 0) (vs := [.int .i64 ((rRootIv (rVecLen2 a)).lo), .int .i64 ((rRootIv (rVecLen2 a)).hi), .bool ((rRootIv (rVecLen2 a)).no)]) agg26 0 rfl rfl rfl rfl rfl rfl ⟨rfl, rfl⟩) ?_
  refine dw_op (d := (some 18)) (.agg #[.int .i64 ((rDivIv a.z (rRootIv (rVecLen2 a))).lo), .int .i64 ((rDivIv a.z (rRootIv (rVecLen2 a))).hi), .bool ((rDivIv a.z (rRootIv (rVecLen2 a))).no)]) rfl rfl rfl (st_cf (vs := [.agg #[.int .i64 a.z.lo, .int .i64 a.z.hi, .bool a.z.no], .agg #[.int .i64 ((rRootIv (rVecLen2 a)).lo), .int .i64 ((rRootIv (rVecLen2 a)).hi), .bool ((rRootIv (rVecLen2 a)).no)]]) (r := .agg #[.int .i64 ((rDivIv a.z (rRootIv (rVecLen2 a))).lo), .int .i64 ((rDivIv a.z (rRootIv (rVecLen2 a))).hi), .bool ((rDivIv a.z (rRootIv (rVecLen2 a))).no)]) (c_rDivIv a.z (rRootIv (rVecLen2 a))) Try.func85 rfl (by decide) rfl rfl rfl ⟨rfl, rfl⟩) ?_
  refine dw_op (d := (some 19)) (.agg #[.int .i64 ((rDivIv a.x (rRootIv (rVecLen2 a))).lo), .int .i64 ((rDivIv a.x (rRootIv (rVecLen2 a))).hi), .bool ((rDivIv a.x (rRootIv (rVecLen2 a))).no), .int .i64 ((rDivIv a.y (rRootIv (rVecLen2 a))).lo), .int .i64 ((rDivIv a.y (rRootIv (rVecLen2 a))).hi), .bool ((rDivIv a.y (rRootIv (rVecLen2 a))).no), .int .i64 ((rDivIv a.z (rRootIv (rVecLen2 a))).lo), .int .i64 ((rDivIv a.z (rRootIv (rVecLen2 a))).hi), .bool ((rDivIv a.z (rRootIv (rVecLen2 a))).no)]) rfl rfl rfl (st_bd (us := [(0, .agg #[.int .i64 ((rDivIv a.x (rRootIv (rVecLen2 a))).lo), .int .i64 ((rDivIv a.x (rRootIv (rVecLen2 a))).hi), .bool ((rDivIv a.x (rRootIv (rVecLen2 a))).no)]), (1, .agg #[.int .i64 ((rDivIv a.y (rRootIv (rVecLen2 a))).lo), .int .i64 ((rDivIv a.y (rRootIv (rVecLen2 a))).hi), .bool ((rDivIv a.y (rRootIv (rVecLen2 a))).no)]), (2, .agg #[.int .i64 ((rDivIv a.z (rRootIv (rVecLen2 a))).lo), .int .i64 ((rDivIv a.z (rRootIv (rVecLen2 a))).hi), .bool ((rDivIv a.z (rRootIv (rVecLen2 a))).no)])]) (v := .agg #[.int .i64 ((rDivIv a.x (rRootIv (rVecLen2 a))).lo), .int .i64 ((rDivIv a.x (rRootIv (rVecLen2 a))).hi), .bool ((rDivIv a.x (rRootIv (rVecLen2 a))).no), .int .i64 ((rDivIv a.y (rRootIv (rVecLen2 a))).lo), .int .i64 ((rDivIv a.y (rRootIv (rVecLen2 a))).hi), .bool ((rDivIv a.y (rRootIv (rVecLen2 a))).no), .int .i64 ((rDivIv a.z (rRootIv (rVecLen2 a))).lo), .int .i64 ((rDivIv a.z (rRootIv (rVecLen2 a))).hi), .bool ((rDivIv a.z (rRootIv (rVecLen2 a))).no)]) rfl rfl (bd57_0a_1a_2a _ _ _ _ _ _ _ _ _) ⟨rfl, rfl⟩) ?_
  refine dw_nil ?_
  refine ar_op (d := none) rfl rfl (st_sta (g := g1) (off := 0) (us := [.int .i64 ((rDivIv a.x (rRootIv (rVecLen2 a))).lo), .int .i64 ((rDivIv a.x (rRootIv (rVecLen2 a))).hi), .bool ((rDivIv a.x (rRootIv (rVecLen2 a))).no), .int .i64 ((rDivIv a.y (rRootIv (rVecLen2 a))).lo), .int .i64 ((rDivIv a.y (rRootIv (rVecLen2 a))).hi), .bool ((rDivIv a.y (rRootIv (rVecLen2 a))).no), .int .i64 ((rDivIv a.z (rRootIv (rVecLen2 a))).lo), .int .i64 ((rDivIv a.z (rRootIv (rVecLen2 a))).hi), .bool ((rDivIv a.z (rRootIv (rVecLen2 a))).no)]) (cs := [.int .i64 ((rDivIv a.x (rRootIv (rVecLen2 a))).lo), .int .i64 ((rDivIv a.x (rRootIv (rVecLen2 a))).hi), .bool ((rDivIv a.x (rRootIv (rVecLen2 a))).no), .int .i64 ((rDivIv a.y (rRootIv (rVecLen2 a))).lo), .int .i64 ((rDivIv a.y (rRootIv (rVecLen2 a))).hi), .bool ((rDivIv a.y (rRootIv (rVecLen2 a))).no), .int .i64 ((rDivIv a.z (rRootIv (rVecLen2 a))).lo), .int .i64 ((rDivIv a.z (rRootIv (rVecLen2 a))).hi), .bool ((rDivIv a.z (rRootIv (rVecLen2 a))).no)]) agg57 1 rfl rfl rfl rfl rfl rfl rfl rfl rfl ?_)
  refine ar_nil ?_
  refine ac_ret ?_
  exact fin_eq (v := .agg #[.int .i64 ((rDivIv a.x (rRootIv (rVecLen2 a))).lo), .int .i64 ((rDivIv a.x (rRootIv (rVecLen2 a))).hi), .bool ((rDivIv a.x (rRootIv (rVecLen2 a))).no), .int .i64 ((rDivIv a.y (rRootIv (rVecLen2 a))).lo), .int .i64 ((rDivIv a.y (rRootIv (rVecLen2 a))).hi), .bool ((rDivIv a.y (rRootIv (rVecLen2 a))).no), .int .i64 ((rDivIv a.z (rRootIv (rVecLen2 a))).lo), .int .i64 ((rDivIv a.z (rRootIv (rVecLen2 a))).hi), .bool ((rDivIv a.z (rRootIv (rVecLen2 a))).no)]) rfl (fin_ret (res_c (vs := [.int .i64 ((rDivIv a.x (rRootIv (rVecLen2 a))).lo), .int .i64 ((rDivIv a.x (rRootIv (rVecLen2 a))).hi), .bool ((rDivIv a.x (rRootIv (rVecLen2 a))).no), .int .i64 ((rDivIv a.y (rRootIv (rVecLen2 a))).lo), .int .i64 ((rDivIv a.y (rRootIv (rVecLen2 a))).hi), .bool ((rDivIv a.y (rRootIv (rVecLen2 a))).no), .int .i64 ((rDivIv a.z (rRootIv (rVecLen2 a))).lo), .int .i64 ((rDivIv a.z (rRootIv (rVecLen2 a))).hi), .bool ((rDivIv a.z (rRootIv (rVecLen2 a))).no)]) agg57 1 rfl rfl rfl rfl rfl rfl))
end Go.Proofs.Ythngkopcadlciaa
namespace Go.Proofs.Ythngkopcadlciaa
open Go.RowKit
attribute [local irreducible] AC AR DWalk
def hRay_e0 (r : RawRay) : Int := (bif (Int.tmod r.wide 5) == 3 then 0 else (hPick r.wide 9000))
def hRay_e1 (r : RawRay) : Int := (bif (Int.tmod r.wide 5) == 3 then 0 else (hPick r.wide 400))
def hRay_e2 (r : RawRay) (wv : Int) (vv : Int) : V := (rVecUnit (⟨(hWide (w64 ((hPick r.u 30000) - 15000)) vv), (hWide (w64 ((hPick r.w 30000) - 15000)) vv), (⟨65536, 65536, false⟩ : Iv)⟩ : V))
def hRay_c6 (r : RawRay) (wv : Int) (vv : Int) : Ray := (⟨(⟨(hWide (w64 ((hPick r.x 655360) - 327680)) wv), (hWide (w64 ((hPick r.y 655360) - 327680)) wv), (⟨0, 0, false⟩ : Iv)⟩ : V), (hRay_e2 r wv vv)⟩ : Ray)
set_option maxRecDepth 100000 in
theorem c_hRay_c6 (r : RawRay) (wv : Int) (vv : Int) {VV : Value} (b0 b1 : Nat) {E : Env} {c : Code} (hc : Try.f56.body.bind (tailOf 6) = some c) (q1 : E 1 = .pointer (some ⟨b1, 0, none⟩)) (q2 : E 2 = .pointer (some ⟨b0, 0, none⟩)) (q3 : E 3 = .int .i64 wv) (q4 : E 4 = .int .i64 vv) (HV : VV = Ray.v (hRay_c6 r wv vv)) : AC Try.prog 58 c (Fin Try.prog Try.f56 58 (VV)) E [⟨b0, [.int .i64 0, .int .i64 0, .bool false, .int .i64 0, .int .i64 0, .bool false, .int .i64 0, .int .i64 0, .bool false, .int .i64 0, .int .i64 0, .bool false, .int .i64 0, .int .i64 0, .bool false, .int .i64 0, .int .i64 0, .bool false], 77, false⟩, ⟨b1, [.int .i64 r.x, .int .i64 r.y, .int .i64 r.u, .int .i64 r.w, .int .i64 r.wide, .int .i64 r.lean], 73, false⟩] := by
  rw [show Try.f56.body.bind (tailOf 6) = some _ from rfl] at hc
  cases hc
  obtain ⟨E0, rfl⟩ : ∃ E0 : Env, E = ((((E0.put (some 1) (.pointer (some ⟨b1, 0, none⟩))).put (some 2) (.pointer (some ⟨b0, 0, none⟩))).put (some 3) (.int .i64 wv)).put (some 4) (.int .i64 vv)) := ⟨E, by rw [put_self q1, put_self q2, put_self q3, put_self q4]⟩
  refine ac_seq ?_
  refine ac_draw1 (id := 9) [0, 1, 2, 3, 4, 5, 6, 7, 8, 9, 10, 11, 12, 13, 14] [16] 15 5 57 _ _ (by kernel_rfl) follows rfl zero57 ⟨_, rfl, rfl, rfl, rfl⟩ ?_
  refine dw_op (d := (some 27)) (.pointer (some ⟨b1, 2, none⟩)) rfl rfl rfl (st_fa (g := b1) (off := 0) rfl fa73_2 rfl ⟨rfl, rfl⟩) ?_
  refine dw_op (d := (some 28)) (.int .i64 r.u) rfl rfl rfl (st_ldc (g := b1) (off := 2) (v := .int .i64 r.u) cell3 1 rfl rfl rfl rfl rfl ⟨rfl, rfl⟩) ?_
  refine dw_op (d := (some 29)) (.int .i64 (hPick r.u 30000)) rfl rfl rfl (st_cf (vs := [.int .i64 r.u, .int .i64 30000]) (r := .int .i64 (hPick r.u 30000)) (c_hPick r.u 30000 (by decide)) Try.func19 rfl (by decide) rfl rfl rfl ⟨rfl, rfl⟩) ?_
  refine dw_op (d := (some 30)) (.int .i64 (w64 ((hPick r.u 30000) - 15000))) rfl rfl rfl (st_bi (u := .int .i64 (hPick r.u 30000)) (v := .int .i64 15000) (r := .int .i64 (w64 ((hPick r.u 30000) - 15000))) rfl rfl rfl (bi_sub rfl) ⟨rfl, rfl⟩) ?_
  refine dw_op (d := (some 31)) (.int .i64 vv) rfl rfl rfl (st_move (v := .int .i64 vv) rfl rfl ⟨rfl, rfl⟩) ?_
  refine dw_op (d := (some 32)) (.agg #[.int .i64 ((hWide (w64 ((hPick r.u 30000) - 15000)) vv).lo), .int .i64 ((hWide (w64 ((hPick r.u 30000) - 15000)) vv).hi), .bool ((hWide (w64 ((hPick r.u 30000) - 15000)) vv).no)]) rfl rfl rfl (st_cf (vs := [.int .i64 (w64 ((hPick r.u 30000) - 15000)), .int .i64 vv]) (r := .agg #[.int .i64 ((hWide (w64 ((hPick r.u 30000) - 15000)) vv).lo), .int .i64 ((hWide (w64 ((hPick r.u 30000) - 15000)) vv).hi), .bool ((hWide (w64 ((hPick r.u 30000) - 15000)) vv).no)]) (c_hWide (w64 ((hPick r.u 30000) - 15000)) vv) Try.func20 rfl (by decide) rfl rfl rfl ⟨rfl, rfl⟩) ?_
  refine dw_op (d := (some 33)) (.pointer (some ⟨b1, 3, none⟩)) rfl rfl rfl (st_fa (g := b1) (off := 0) rfl fa73_3 rfl ⟨rfl, rfl⟩) ?_
  refine dw_op (d := (some 34)) (.int .i64 r.w) rfl rfl rfl (st_ldc (g := b1) (off := 3) (v := .int .i64 r.w) cell3 1 rfl rfl rfl rfl rfl ⟨rfl, rfl⟩) ?_
  refine dw_op (d := (some 35)) (.int .i64 (hPick r.w 30000)) rfl rfl rfl (st_cf (vs := [.int .i64 r.w, .int .i64 30000]) (r := .int .i64 (hPick r.w 30000)) (c_hPick r.w 30000 (by decide)) Try.func19 rfl (by decide) rfl rfl rfl ⟨rfl, rfl⟩) ?_
  refine dw_op (d := (some 36)) (.int .i64 (w64 ((hPick r.w 30000) - 15000))) rfl rfl rfl (st_bi (u := .int .i64 (hPick r.w 30000)) (v := .int .i64 15000) (r := .int .i64 (w64 ((hPick r.w 30000) - 15000))) rfl rfl rfl (bi_sub rfl) ⟨rfl, rfl⟩) ?_
  refine dw_op (d := (some 37)) (.int .i64 vv) rfl rfl rfl (st_move (v := .int .i64 vv) rfl rfl ⟨rfl, rfl⟩) ?_
  refine dw_op (d := (some 38)) (.agg #[.int .i64 ((hWide (w64 ((hPick r.w 30000) - 15000)) vv).lo), .int .i64 ((hWide (w64 ((hPick r.w 30000) - 15000)) vv).hi), .bool ((hWide (w64 ((hPick r.w 30000) - 15000)) vv).no)]) rfl rfl rfl (st_cf (vs := [.int .i64 (w64 ((hPick r.w 30000) - 15000)), .int .i64 vv]) (r := .agg #[.int .i64 ((hWide (w64 ((hPick r.w 30000) - 15000)) vv).lo), .int .i64 ((hWide (w64 ((hPick r.w 30000) - 15000)) vv).hi), .bool ((hWide (w64 ((hPick r.w 30000) - 15000)) vv).no)]) (c_hWide (w64 ((hPick r.w 30000) - 15000)) vv) Try.func20 rfl (by decide) rfl rfl rfl ⟨rfl, rfl⟩) ?_
  refine dw_op (d := (some 39)) (.agg #[.int .i64 65536, .int .i64 65536, .bool false]) rfl rfl rfl (st_bd (us := [(0, .int .i64 65536), (1, .int .i64 65536)]) (v := .agg #[.int .i64 65536, .int .i64 65536, .bool false]) rfl rfl (bd26_0_1 _ _) ⟨rfl, rfl⟩) ?_
  refine dw_op (d := (some 40)) (.agg #[.int .i64 ((hWide (w64 ((hPick r.u 30000) - 15000)) vv).lo), .int .i64 ((hWide (w64 ((hPick r.u 30000) - 15000)) vv).hi), .bool ((hWide (w64 ((hPick r.u 30000) - 15000)) vv).no), .int .i64 ((hWide (w64 ((hPick r.w 30000) - 15000)) vv).lo), .int .i64 ((hWide (w64 ((hPick r.w 30000) - 15000)) vv).hi), .bool ((hWide (w64 ((hPick r.w 30000) - 15000)) vv).no), .int .i64 65536, .int .i64 65536, .bool false]) rfl rfl rfl (st_bd (us := [(0, .agg #[.int .i64 ((hWide (w64 ((hPick r.u 30000) - 15000)) vv).lo), .int .i64 ((hWide (w64 ((hPick r.u 30000) - 15000)) vv).hi), .bool ((hWide (w64 ((hPick r.u 30000) - 15000)) vv).no)]), (1, .agg #[.int .i64 ((hWide (w64 ((hPick r.w 30000) - 15000)) vv).lo), .int .i64 ((hWide (w64 ((hPick r.w 30000) - 15000)) vv).hi), .bool ((hWide (w64 ((hPick r.w 30000) - 15000)) vv).no)]), (2, .agg #[.int .i64 65536, .int .i64 65536, .bool false])]) (v := .agg #[.int .i64 ((hWide (w64 ((hPick r.u 30000) - 15000)) vv).lo), .int .i64 ((hWide (w64 ((hPick r.u 30000) - 15000)) vv).hi), .bool ((hWide (w64 ((hPick r.u 30000) - 15000)) vv).no), .int .i64 ((hWide (w64 ((hPick r.w 30000) - 15000)) vv).lo), .int .i64 ((hWide (w64 ((hPick r.w 30000) - 15000)) vv).hi), .bool ((hWide (w64 ((hPick r.w 30000) - 15000)) vv).no), .int .i64 65536, .int .i64 65536, .bool false]) rfl rfl (bd57_0a_1a_2a _ _ _ _ _ _ _ _ _) ⟨rfl, rfl⟩) ?_
  refine dw_op (d := (some 41)) (.agg #[.int .i64 (((hRay_e2 r wv vv).x).lo), .int .i64 (((hRay_e2 r wv vv).x).hi), .bool (((hRay_e2 r wv vv).x).no), .int .i64 (((hRay_e2 r wv vv).y).lo), .int .i64 (((hRay_e2 r wv vv).y).hi), .bool (((hRay_e2 r wv vv).y).no), .int .i64 (((hRay_e2 r wv vv).z).lo), .int .i64 (((hRay_e2 r wv vv).z).hi), .bool (((hRay_e2 r wv vv).z).no)]) rfl rfl rfl (st_cf (vs := [.agg #[.int .i64 ((hWide (w64 ((hPick r.u 30000) - 15000)) vv).lo), .int .i64 ((hWide (w64 ((hPick r.u 30000) - 15000)) vv).hi), .bool ((hWide (w64 ((hPick r.u 30000) - 15000)) vv).no), .int .i64 ((hWide (w64 ((hPick r.w 30000) - 15000)) vv).lo), .int .i64 ((hWide (w64 ((hPick r.w 30000) - 15000)) vv).hi), .bool ((hWide (w64 ((hPick r.w 30000) - 15000)) vv).no), .int .i64 65536, .int .i64 65536, .bool false]]) (r := .agg #[.int .i64 (((hRay_e2 r wv vv).x).lo), .int .i64 (((hRay_e2 r wv vv).x).hi), .bool (((hRay_e2 r wv vv).x).no), .int .i64 (((hRay_e2 r wv vv).y).lo), .int .i64 (((hRay_e2 r wv vv).y).hi), .bool (((hRay_e2 r wv vv).y).no), .int .i64 (((hRay_e2 r wv vv).z).lo), .int .i64 (((hRay_e2 r wv vv).z).hi), .bool (((hRay_e2 r wv vv).z).no)]) (c_rVecUnit (⟨(hWide (w64 ((hPick r.u 30000) - 15000)) vv), (hWide (w64 ((hPick r.w 30000) - 15000)) vv), (⟨65536, 65536, false⟩ : Iv)⟩ : V)) Try.func95 rfl (by decide) rfl rfl rfl ⟨rfl, rfl⟩) ?_
  refine dw_nil ?_
  intro g2
  refine ar_op (d := none) rfl rfl (st_sta (g := g2) (off := 0) (us := [.int .i64 (((hRay_e2 r wv vv).x).lo), .int .i64 (((hRay_e2 r wv vv).x).hi), .bool (((hRay_e2 r wv vv).x).no), .int .i64 (((hRay_e2 r wv vv).y).lo), .int .i64 (((hRay_e2 r wv vv).y).hi), .bool (((hRay_e2 r wv vv).y).no), .int .i64 (((hRay_e2 r wv vv).z).lo), .int .i64 (((hRay_e2 r wv vv).z).hi), .bool (((hRay_e2 r wv vv).z).no)]) (cs := [.int .i64 (((hRay_e2 r wv vv).x).lo), .int .i64 (((hRay_e2 r wv vv).x).hi), .bool (((hRay_e2 r wv vv).x).no), .int .i64 (((hRay_e2 r wv vv).y).lo), .int .i64 (((hRay_e2 r wv vv).y).hi), .bool (((hRay_e2 r wv vv).y).no), .int .i64 (((hRay_e2 r wv vv).z).lo), .int .i64 (((hRay_e2 r wv vv).z).hi), .bool (((hRay_e2 r wv vv).z).no)]) agg57 0 rfl rfl rfl rfl rfl rfl rfl rfl rfl ?_)
  refine ar_nil ?_
  refine ac_seq ?_
  refine ac_draw0 (id := 10) [0, 1, 2, 3, 4, 5, 6, 7, 8, 9, 10, 11, 12, 13, 14, 15] [16] _ (by kernel_rfl) follows rfl  ?_
  refine dw_op (d := (some 42)) (.pointer (some ⟨b1, 0, none⟩)) rfl rfl rfl (st_fa (g := b1) (off := 0) rfl fa73_0 rfl ⟨rfl, rfl⟩) ?_
  refine dw_op (d := (some 43)) (.int .i64 r.x) rfl rfl rfl (st_ldc (g := b1) (off := 0) (v := .int .i64 r.x) cell3 2 rfl rfl rfl rfl rfl ⟨rfl, rfl⟩) ?_
  refine dw_op (d := (some 44)) (.int .i64 (hPick r.x 655360)) rfl rfl rfl (st_cf (vs := [.int .i64 r.x, .int .i64 655360]) (r := .int .i64 (hPick r.x 655360)) (c_hPick r.x 655360 (by decide)) Try.func19 rfl (by decide) rfl rfl rfl ⟨rfl, rfl⟩) ?_
  refine dw_op (d := (some 45)) (.int .i64 (w64 ((hPick r.x 655360) - 327680))) rfl rfl rfl (st_bi (u := .int .i64 (hPick r.x 655360)) (v := .int .i64 327680) (r := .int .i64 (w64 ((hPick r.x 655360) - 327680))) rfl rfl rfl (bi_sub rfl) ⟨rfl, rfl⟩) ?_
  refine dw_op (d := (some 46)) (.int .i64 wv) rfl rfl rfl (st_move (v := .int .i64 wv) rfl rfl ⟨rfl, rfl⟩) ?_
  refine dw_op (d := (some 47)) (.agg #[.int .i64 ((hWide (w64 ((hPick r.x 655360) - 327680)) wv).lo), .int .i64 ((hWide (w64 ((hPick r.x 655360) - 327680)) wv).hi), .bool ((hWide (w64 ((hPick r.x 655360) - 327680)) wv).no)]) rfl rfl rfl (st_cf (vs := [.int .i64 (w64 ((hPick r.x 655360) - 327680)), .int .i64 wv]) (r := .agg #[.int .i64 ((hWide (w64 ((hPick r.x 655360) - 327680)) wv).lo), .int .i64 ((hWide (w64 ((hPick r.x 655360) - 327680)) wv).hi), .bool ((hWide (w64 ((hPick r.x 655360) - 327680)) wv).no)]) (c_hWide (w64 ((hPick r.x 655360) - 327680)) wv) Try.func20 rfl (by decide) rfl rfl rfl ⟨rfl, rfl⟩) ?_
  refine dw_op (d := (some 48)) (.pointer (some ⟨b1, 1, none⟩)) rfl rfl rfl (st_fa (g := b1) (off := 0) rfl fa73_1 rfl ⟨rfl, rfl⟩) ?_
  refine dw_op (d := (some 49)) (.int .i64 r.y) rfl rfl rfl (st_ldc (g := b1) (off := 1) (v := .int .i64 r.y) cell3 2 rfl rfl rfl rfl rfl ⟨rfl, rfl⟩) ?_
  refine dw_op (d := (some 50)) (.int .i64 (hPick r.y 655360)) rfl rfl rfl (st_cf (vs := [.int .i64 r.y, .int .i64 655360]) (r := .int .i64 (hPick r.y 655360)) (c_hPick r.y 655360 (by decide)) Try.func19 rfl (by decide) rfl rfl rfl ⟨rfl, rfl⟩) ?_
  refine dw_op (d := (some 51)) (.int .i64 (w64 ((hPick r.y 655360) - 327680))) rfl rfl rfl (st_bi (u := .int .i64 (hPick r.y 655360)) (v := .int .i64 327680) (r := .int .i64 (w64 ((hPick r.y 655360) - 327680))) rfl rfl rfl (bi_sub rfl) ⟨rfl, rfl⟩) ?_
  refine dw_op (d := (some 52)) (.int .i64 wv) rfl rfl rfl (st_move (v := .int .i64 wv) rfl rfl ⟨rfl, rfl⟩) ?_
  refine dw_op (d := (some 53)) (.agg #[.int .i64 ((hWide (w64 ((hPick r.y 655360) - 327680)) wv).lo), .int .i64 ((hWide (w64 ((hPick r.y 655360) - 327680)) wv).hi), .bool ((hWide (w64 ((hPick r.y 655360) - 327680)) wv).no)]) rfl rfl rfl (st_cf (vs := [.int .i64 (w64 ((hPick r.y 655360) - 327680)), .int .i64 wv]) (r := .agg #[.int .i64 ((hWide (w64 ((hPick r.y 655360) - 327680)) wv).lo), .int .i64 ((hWide (w64 ((hPick r.y 655360) - 327680)) wv).hi), .bool ((hWide (w64 ((hPick r.y 655360) - 327680)) wv).no)]) (c_hWide (w64 ((hPick r.y 655360) - 327680)) wv) Try.func20 rfl (by decide) rfl rfl rfl ⟨rfl, rfl⟩) ?_
  refine dw_op (d := (some 54)) (.agg #[.int .i64 0, .int .i64 0, .bool false]) rfl rfl rfl (st_bd (us := []) (v := .agg #[.int .i64 0, .int .i64 0, .bool false]) rfl rfl (bd26_ ) ⟨rfl, rfl⟩) ?_
  refine dw_op (d := (some 55)) (.agg #[.int .i64 ((hWide (w64 ((hPick r.x 655360) - 327680)) wv).lo), .int .i64 ((hWide (w64 ((hPick r.x 655360) - 327680)) wv).hi), .bool ((hWide (w64 ((hPick r.x 655360) - 327680)) wv).no), .int .i64 ((hWide (w64 ((hPick r.y 655360) - 327680)) wv).lo), .int .i64 ((hWide (w64 ((hPick r.y 655360) - 327680)) wv).hi), .bool ((hWide (w64 ((hPick r.y 655360) - 327680)) wv).no), .int .i64 0, .int .i64 0, .bool false]) rfl rfl rfl (st_bd (us := [(0, .agg #[.int .i64 ((hWide (w64 ((hPick r.x 655360) - 327680)) wv).lo), .int .i64 ((hWide (w64 ((hPick r.x 655360) - 327680)) wv).hi), .bool ((hWide (w64 ((hPick r.x 655360) - 327680)) wv).no)]), (1, .agg #[.int .i64 ((hWide (w64 ((hPick r.y 655360) - 327680)) wv).lo), .int .i64 ((hWide (w64 ((hPick r.y 655360) - 327680)) wv).hi), .bool ((hWide (w64 ((hPick r.y 655360) - 327680)) wv).no)]), (2, .agg #[.int .i64 0, .int .i64 0, .bool false])]) (v := .agg #[.int .i64 ((hWide (w64 ((hPick r.x 655360) - 327680)) wv).lo), .int .i64 ((hWide (w64 ((hPick r.x 655360) - 327680)) wv).hi), .bool ((hWide (w64 ((hPick r.x 655360) - 327680)) wv).no), .int .i64 ((hWide (w64 ((hPick r.y 655360) - 327680)) wv).lo), .int .i64 ((hWide (w64 ((hPick r.y 655360) - 327680)) wv).hi), .bool ((hWide (w64 ((hPick r.y 655360) - 327680)) wv).no), .int .i64 0, .int .i64 0, .bool false]) rfl rfl (bd57_0a_1a_2a _ _ _ _ _ _ _ _ _) ⟨rfl, rfl⟩) ?_
  refine dw_op (d := (some 56)) (.agg #[.int .i64 (((hRay_e2 r wv vv).x).lo), .int .i64 (((hRay_e2 r wv vv).x).hi), .bool (((hRay_e2 r wv vv).x).no), .int .i64 (((hRay_e2 r wv vv).y).lo), .int .i64 (((hRay_e2 r wv vv).y).hi), .bool (((hRay_e2 r wv vv).y).no), .int .i64 (((hRay_e2 r wv vv).z).lo), .int .i64 (((hRay_e2 r wv vv).z).hi), .bool (((hRay_e2 r wv vv).z).no)]) rfl rfl rfl (st_lda (g := g2) (off := 0) (vs := [.int .i64 (((hRay_e2 r wv vv).x).lo), .int .i64 (((hRay_e2 r wv vv).x).hi), .bool (((hRay_e2 r wv vv).x).no), .int .i64 (((hRay_e2 r wv vv).y).lo), .int .i64 (((hRay_e2 r wv vv).y).hi), .bool (((hRay_e2 r wv vv).y).no), .int .i64 (((hRay_e2 r wv vv).z).lo), .int .i64 (((hRay_e2 r wv vv).z).hi), .bool (((hRay_e2 r wv vv).z).no)]) agg57 0 rfl rfl rfl rfl rfl rfl ⟨rfl, rfl⟩) ?_
  refine dw_op (d := (some 57)) (.agg #[.int .i64 ((hWide (w64 ((hPick r.x 655360) - 327680)) wv).lo), .int .i64 ((hWide (w64 ((hPick r.x 655360) - 327680)) wv).hi), .bool ((hWide (w64 ((hPick r.x 655360) - 327680)) wv).no), .int .i64 ((hWide (w64 ((hPick r.y 655360) - 327680)) wv).lo), .int .i64 ((hWide (w64 ((hPick r.y 655360) - 327680)) wv).hi), .bool ((hWide (w64 ((hPick r.y 655360) - 327680)) wv).no), .int .i64 0, .int .i64 0, .bool false, .int .i64 (((hRay_e2 r wv vv).x).lo), .int .i64 (((hRay_e2 r wv vv).x).hi), .bool (((hRay_e2 r wv vv).x).no), .int .i64 (((hRay_e2 r wv vv).y).lo), .int .i64 (((hRay_e2 r wv vv).y).hi), .bool (((hRay_e2 r wv vv).y).no), .int .i64 (((hRay_e2 r wv vv).z).lo), .int .i64 (((hRay_e2 r wv vv).z).hi), .bool (((hRay_e2 r wv vv).z).no)]) rfl rfl rfl (st_bd (us := [(0, .agg #[.int .i64 ((hWide (w64 ((hPick r.x 655360) - 327680)) wv).lo), .int .i64 ((hWide (w64 ((hPick r.x 655360) - 327680)) wv).hi), .bool ((hWide (w64 ((hPick r.x 655360) - 327680)) wv).no), .int .i64 ((hWide (w64 ((hPick r.y 655360) - 327680)) wv).lo), .int .i64 ((hWide (w64 ((hPick r.y 655360) - 327680)) wv).hi), .bool ((hWide (w64 ((hPick r.y 655360) - 327680)) wv).no), .int .i64 0, .int .i64 0, .bool false]), (1, .agg #[.int .i64 (((hRay_e2 r wv vv).x).lo), .int .i64 (((hRay_e2 r wv vv).x).hi), .bool (((hRay_e2 r wv vv).x).no), .int .i64 (((hRay_e2 r wv vv).y).lo), .int .i64 (((hRay_e2 r wv vv).y).hi), .bool (((hRay_e2 r wv vv).y).no), .int .i64 (((hRay_e2 r wv vv).z).lo), .int .i64 (((hRay_e2 r wv vv).z).hi), .bool (((hRay_e2 r wv vv).z).no)])]) (v := .agg #[.int .i64 ((hWide (w64 ((hPick r.x 655360) - 327680)) wv).lo), .int .i64 ((hWide (w64 ((hPick r.x 655360) - 327680)) wv).hi), .bool ((hWide (w64 ((hPick r.x 655360) - 327680)) wv).no), .int .i64 ((hWide (w64 ((hPick r.y 655360) - 327680)) wv).lo), .int .i64 ((hWide (w64 ((hPick r.y 655360) - 327680)) wv).hi), .bool ((hWide (w64 ((hPick r.y 655360) - 327680)) wv).no), .int .i64 0, .int .i64 0, .bool false, .int .i64 (((hRay_e2 r wv vv).x).lo), .int .i64 (((hRay_e2 r wv vv).x).hi), .bool (((hRay_e2 r wv vv).x).no), .int .i64 (((hRay_e2 r wv vv).y).lo), .int .i64 (((hRay_e2 r wv vv).y).hi), .bool (((hRay_e2 r wv vv).y).no), .int .i64 (((hRay_e2 r wv vv).z).lo), .int .i64 (((hRay_e2 r wv vv).z).hi), .bool (((hRay_e2 r wv vv).z).no)]) rfl rfl (bd77_0a_1a _ _ _ _ _ _ _ _ _ _ _ _ _ _ _ _ _ _) ⟨rfl, rfl⟩) ?_
  refine dw_nil ?_
  refine ar_op (d := none) rfl rfl (st_sta (g := b0) (off := 0) (us := [.int .i64 ((hWide (w64 ((hPick r.x 655360) - 327680)) wv).lo), .int .i64 ((hWide (w64 ((hPick r.x 655360) - 327680)) wv).hi), .bool ((hWide (w64 ((hPick r.x 655360) - 327680)) wv).no), .int .i64 ((hWide (w64 ((hPick r.y 655360) - 327680)) wv).lo), .int .i64 ((hWide (w64 ((hPick r.y 655360) - 327680)) wv).hi), .bool ((hWide (w64 ((hPick r.y 655360) - 327680)) wv).no), .int .i64 0, .int .i64 0, .bool false, .int .i64 (((hRay_e2 r wv vv).x).lo), .int .i64 (((hRay_e2 r wv vv).x).hi), .bool (((hRay_e2 r wv vv).x).no), .int .i64 (((hRay_e2 r wv vv).y).lo), .int .i64 (((hRay_e2 r wv vv).y).hi), .bool (((hRay_e2 r wv vv).y).no), .int .i64 (((hRay_e2 r wv vv).z).lo), .int .i64 (((hRay_e2 r wv vv).z).hi), .bool (((hRay_e2 r wv vv).z).no)]) (cs := [.int .i64 ((hWide (w64 ((hPick r.x 655360) - 327680)) wv).lo), .int .i64 ((hWide (w64 ((hPick r.x 655360) - 327680)) wv).hi), .bool ((hWide (w64 ((hPick r.x 655360) - 327680)) wv).no), .int .i64 ((hWide (w64 ((hPick r.y 655360) - 327680)) wv).lo), .int .i64 ((hWide (w64 ((hPick r.y 655360) - 327680)) wv).hi), .bool ((hWide (w64 ((hPick r.y 655360) - 327680)) wv).no), .int .i64 0, .int .i64 0, .bool false, .int .i64 (((hRay_e2 r wv vv).x).lo), .int .i64 (((hRay_e2 r wv vv).x).hi), .bool (((hRay_e2 r wv vv).x).no), .int .i64 (((hRay_e2 r wv vv).y).lo), .int .i64 (((hRay_e2 r wv vv).y).hi), .bool (((hRay_e2 r wv vv).y).no), .int .i64 (((hRay_e2 r wv vv).z).lo), .int .i64 (((hRay_e2 r wv vv).z).hi), .bool (((hRay_e2 r wv vv).z).no)]) agg77 1 rfl rfl rfl rfl rfl rfl rfl rfl rfl ?_)
  refine ar_nil ?_
  refine ac_ret ?_
  exact fin_eq (v := .agg #[.int .i64 ((hWide (w64 ((hPick r.x 655360) - 327680)) wv).lo), .int .i64 ((hWide (w64 ((hPick r.x 655360) - 327680)) wv).hi), .bool ((hWide (w64 ((hPick r.x 655360) - 327680)) wv).no), .int .i64 ((hWide (w64 ((hPick r.y 655360) - 327680)) wv).lo), .int .i64 ((hWide (w64 ((hPick r.y 655360) - 327680)) wv).hi), .bool ((hWide (w64 ((hPick r.y 655360) - 327680)) wv).no), .int .i64 0, .int .i64 0, .bool false, .int .i64 (((hRay_e2 r wv vv).x).lo), .int .i64 (((hRay_e2 r wv vv).x).hi), .bool (((hRay_e2 r wv vv).x).no), .int .i64 (((hRay_e2 r wv vv).y).lo), .int .i64 (((hRay_e2 r wv vv).y).hi), .bool (((hRay_e2 r wv vv).y).no), .int .i64 (((hRay_e2 r wv vv).z).lo), .int .i64 (((hRay_e2 r wv vv).z).hi), .bool (((hRay_e2 r wv vv).z).no)]) (by rw [HV]; show _ = Ray.v (hRay_c6 r wv vv); rw [hRay_c6] <;> rfl) (fin_ret (res_c (vs := [.int .i64 ((hWide (w64 ((hPick r.x 655360) - 327680)) wv).lo), .int .i64 ((hWide (w64 ((hPick r.x 655360) - 327680)) wv).hi), .bool ((hWide (w64 ((hPick r.x 655360) - 327680)) wv).no), .int .i64 ((hWide (w64 ((hPick r.y 655360) - 327680)) wv).lo), .int .i64 ((hWide (w64 ((hPick r.y 655360) - 327680)) wv).hi), .bool ((hWide (w64 ((hPick r.y 655360) - 327680)) wv).no), .int .i64 0, .int .i64 0, .bool false, .int .i64 (((hRay_e2 r wv vv).x).lo), .int .i64 (((hRay_e2 r wv vv).x).hi), .bool (((hRay_e2 r wv vv).x).no), .int .i64 (((hRay_e2 r wv vv).y).lo), .int .i64 (((hRay_e2 r wv vv).y).hi), .bool (((hRay_e2 r wv vv).y).no), .int .i64 (((hRay_e2 r wv vv).z).lo), .int .i64 (((hRay_e2 r wv vv).z).hi), .bool (((hRay_e2 r wv vv).z).no)]) agg77 1 rfl rfl rfl rfl rfl rfl))
def hRay (r : RawRay) : Ray := (bif (Int.tmod r.wide 5) == 4 then (bif (Int.tmod r.lean 3) == 2 then (hRay_c6 r (hRay_e0 r) (hPick r.lean 200)) else (hRay_c6 r (hRay_e0 r) 0)) else (bif (Int.tmod r.lean 3) == 2 then (hRay_c6 r (hRay_e1 r) (hPick r.lean 200)) else (hRay_c6 r (hRay_e1 r) 0)))
set_option maxRecDepth 100000 in
theorem c_hRay (r : RawRay) : Gets Try.prog 56 #[.agg #[.int .i64 r.x, .int .i64 r.y, .int .i64 r.u, .int .i64 r.w, .int .i64 r.wide, .int .i64 r.lean]] (Ray.v (hRay r)) := by
  refine gets_fin Try.func56 rfl rfl rfl ?_
  refine ac_seq ?_
  refine ac_region_lit ?_
  refine ao 1 rfl rfl (st_box (v := .agg #[.int .i64 r.x, .int .i64 r.y, .int .i64 r.u, .int .i64 r.w, .int .i64 r.wide, .int .i64 r.lean]) (cs := [.int .i64 r.x, .int .i64 r.y, .int .i64 r.u, .int .i64 r.w, .int .i64 r.wide, .int .i64 r.lean]) rfl rfl rfl fun g0 => ?_)
  refine ao 2 rfl rfl (st_new zero77 rfl fun g1 => ?_)
  refine ar_nil ?_
  refine ac_seq ?_
  refine ac_region_lit ?_
  refine ao 6 rfl rfl (st_fa (g := g0) (off := 0) rfl fa73_4 rfl ?_)
  refine ao 7 rfl rfl (st_ldc (g := g0) (off := 4) (v := .int .i64 r.wide) cell3 1 rfl rfl rfl rfl rfl ?_)
  refine ao 8 rfl rfl (st_cf (vs := [.int .i64 r.wide, .int .i64 400]) (r := .int .i64 (hPick r.wide 400)) (c_hPick r.wide 400 (by decide)) Try.func19 rfl (by decide) rfl rfl rfl ?_)
  refine ao 3 rfl rfl (st_assign (v := .int .i64 (hPick r.wide 400)) rfl rfl ?_)
  refine ar_nil ?_
  refine ac_seq ?_
  refine ac_seq ?_
  refine ac_region_lit ?_
  refine ao 9 rfl rfl (st_fa (g := g0) (off := 0) rfl fa73_4 rfl ?_)
  refine ao 10 rfl rfl (st_ldc (g := g0) (off := 4) (v := .int .i64 r.wide) cell3 1 rfl rfl rfl rfl rfl ?_)
  refine ao 11 rfl rfl (st_bi (u := .int .i64 r.wide) (v := .int .i64 5) (r := .int .i64 (Int.tmod r.wide 5)) rfl rfl rfl (bi_rem (by decide) rfl) ?_)
  refine ao 12 rfl rfl (st_bi (u := .int .i64 (Int.tmod r.wide 5)) (v := .int .i64 4) (r := .bool ((Int.tmod r.wide 5) == 4)) rfl rfl rfl (bi_eql rfl) ?_)
  refine ar_nil ?_
  refine bool_split ((Int.tmod r.wide 5) == 4) (fun h1 => ?_) (fun h1 => ?_)
  · refine ac_then' (b := (Int.tmod r.wide 5) == 4) h1 rfl ?_
    refine ac_region_lit ?_
    refine ao 13 rfl rfl (st_fa (g := g0) (off := 0) rfl fa73_4 rfl ?_)
    refine ao 14 rfl rfl (st_ldc (g := g0) (off := 4) (v := .int .i64 r.wide) cell3 1 rfl rfl rfl rfl rfl ?_)
    refine ao 15 rfl rfl (st_cf (vs := [.int .i64 r.wide, .int .i64 9000]) (r := .int .i64 (hPick r.wide 9000)) (c_hPick r.wide 9000 (by decide)) Try.func19 rfl (by decide) rfl rfl rfl ?_)
    refine ao 3 rfl rfl (st_assign (v := .int .i64 (hPick r.wide 9000)) rfl rfl ?_)
    refine ar_nil ?_
    refine ac_seq ?_
    refine ac_seq ?_
    refine ac_region_lit ?_
    refine ao 16 rfl rfl (st_fa (g := g0) (off := 0) rfl fa73_4 rfl ?_)
    refine ao 17 rfl rfl (st_ldc (g := g0) (off := 4) (v := .int .i64 r.wide) cell3 1 rfl rfl rfl rfl rfl ?_)
    refine ao 18 rfl rfl (st_bi (u := .int .i64 r.wide) (v := .int .i64 5) (r := .int .i64 (Int.tmod r.wide 5)) rfl rfl rfl (bi_rem (by decide) rfl) ?_)
    refine ao 19 rfl rfl (st_bi (u := .int .i64 (Int.tmod r.wide 5)) (v := .int .i64 3) (r := .bool ((Int.tmod r.wide 5) == 3)) rfl rfl rfl (bi_eql rfl) ?_)
    refine ar_nil ?_
    refine ac_mergeE (fun E9 => (Env.put E9 (some 3) (.int .i64 0))) (fun E9 => (Env.put E9 (some 3) (.int .i64 (hRay_e0 r)))) (b := (Int.tmod r.wide 5) == 3) rfl (fun hm => ?_) (fun hm => ?_) (fun hm => ?_) ?_
    · refine ac_region_lit ?_
      refine ao 3 rfl rfl (st_assign (v := .int .i64 0) rfl rfl ?_)
      refine ar_nil ?_
      exact ⟨rfl, rfl, rfl⟩
    · unfold hRay_e0; rw [hm]; rfl
    · unfold hRay_e0; rw [hm]; exact (put_self rfl)
    refine ac_seq ?_
    refine ac_region_lit ?_
    refine ao 4 rfl rfl (st_assign (v := .int .i64 0) rfl rfl ?_)
    refine ar_nil ?_
    refine ac_seq ?_
    refine ac_seq ?_
    refine ac_region_lit ?_
    refine ao 20 rfl rfl (st_fa (g := g0) (off := 0) rfl fa73_5 rfl ?_)
    refine ao 21 rfl rfl (st_ldc (g := g0) (off := 5) (v := .int .i64 r.lean) cell3 1 rfl rfl rfl rfl rfl ?_)
    refine ao 22 rfl rfl (st_bi (u := .int .i64 r.lean) (v := .int .i64 3) (r := .int .i64 (Int.tmod r.lean 3)) rfl rfl rfl (bi_rem (by decide) rfl) ?_)
    refine ao 23 rfl rfl (st_bi (u := .int .i64 (Int.tmod r.lean 3)) (v := .int .i64 2) (r := .bool ((Int.tmod r.lean 3) == 2)) rfl rfl rfl (bi_eql rfl) ?_)
    refine ar_nil ?_
    refine bool_split ((Int.tmod r.lean 3) == 2) (fun h2 => ?_) (fun h2 => ?_)
    · refine ac_then' (b := (Int.tmod r.lean 3) == 2) h2 rfl ?_
      refine ac_region_lit ?_
      refine ao 24 rfl rfl (st_fa (g := g0) (off := 0) rfl fa73_5 rfl ?_)
      refine ao 25 rfl rfl (st_ldc (g := g0) (off := 5) (v := .int .i64 r.lean) cell3 1 rfl rfl rfl rfl rfl ?_)
      refine ao 26 rfl rfl (st_cf (vs := [.int .i64 r.lean, .int .i64 200]) (r := .int .i64 (hPick r.lean 200)) (c_hPick r.lean 200 (by decide)) Try.func19 rfl (by decide) rfl rfl rfl ?_)
      refine ao 4 rfl rfl (st_assign (v := .int .i64 (hPick r.lean 200)) rfl rfl ?_)
      refine ar_nil ?_
      exact ac_drop (List.Sublist.cons_cons _ (List.Sublist.cons_cons _ List.Sublist.slnil)) (c_hRay_c6 r (hRay_e0 r) (hPick r.lean 200) g1 g0 rfl rfl rfl rfl rfl (congrArg Ray.v (show (hRay r) = _ from (eT h1 (eT h2 rfl)))))
    · refine ac_else' (b := (Int.tmod r.lean 3) == 2) h2 rfl ?_
      refine ac_skip ?_
      exact ac_drop (List.Sublist.cons_cons _ (List.Sublist.cons_cons _ List.Sublist.slnil)) (c_hRay_c6 r (hRay_e0 r) 0 g1 g0 rfl rfl rfl rfl rfl (congrArg Ray.v (show (hRay r) = _ from (eT h1 (eF h2 rfl)))))
  · refine ac_else' (b := (Int.tmod r.wide 5) == 4) h1 rfl ?_
    refine ac_skip ?_
    refine ac_seq ?_
    refine ac_seq ?_
    refine ac_region_lit ?_
    refine ao 16 rfl rfl (st_fa (g := g0) (off := 0) rfl fa73_4 rfl ?_)
    refine ao 17 rfl rfl (st_ldc (g := g0) (off := 4) (v := .int .i64 r.wide) cell3 1 rfl rfl rfl rfl rfl ?_)
    refine ao 18 rfl rfl (st_bi (u := .int .i64 r.wide) (v := .int .i64 5) (r := .int .i64 (Int.tmod r.wide 5)) rfl rfl rfl (bi_rem (by decide) rfl) ?_)
    refine ao 19 rfl rfl (st_bi (u := .int .i64 (Int.tmod r.wide 5)) (v := .int .i64 3) (r := .bool ((Int.tmod r.wide 5) == 3)) rfl rfl rfl (bi_eql rfl) ?_)
    refine ar_nil ?_
    refine ac_mergeE (fun E9 => (Env.put E9 (some 3) (.int .i64 0))) (fun E9 => (Env.put E9 (some 3) (.int .i64 (hRay_e1 r)))) (b := (Int.tmod r.wide 5) == 3) rfl (fun hm => ?_) (fun hm => ?_) (fun hm => ?_) ?_
    · refine ac_region_lit ?_
      refine ao 3 rfl rfl (st_assign (v := .int .i64 0) rfl rfl ?_)
      refine ar_nil ?_
      exact ⟨rfl, rfl, rfl⟩
    · unfold hRay_e1; rw [hm]; rfl
    · unfold hRay_e1; rw [hm]; exact (put_self rfl)
    refine ac_seq ?_
    refine ac_region_lit ?_
    refine ao 4 rfl rfl (st_assign (v := .int .i64 0) rfl rfl ?_)
    refine ar_nil ?_
    refine ac_seq ?_
    refine ac_seq ?_
    refine ac_region_lit ?_
    refine ao 20 rfl rfl (st_fa (g := g0) (off := 0) rfl fa73_5 rfl ?_)
    refine ao 21 rfl rfl (st_ldc (g := g0) (off := 5) (v := .int .i64 r.lean) cell3 1 rfl rfl rfl rfl rfl ?_)
    refine ao 22 rfl rfl (st_bi (u := .int .i64 r.lean) (v := .int .i64 3) (r := .int .i64 (Int.tmod r.lean 3)) rfl rfl rfl (bi_rem (by decide) rfl) ?_)
    refine ao 23 rfl rfl (st_bi (u := .int .i64 (Int.tmod r.lean 3)) (v := .int .i64 2) (r := .bool ((Int.tmod r.lean 3) == 2)) rfl rfl rfl (bi_eql rfl) ?_)
    refine ar_nil ?_
    refine bool_split ((Int.tmod r.lean 3) == 2) (fun h2 => ?_) (fun h2 => ?_)
    · refine ac_then' (b := (Int.tmod r.lean 3) == 2) h2 rfl ?_
      refine ac_region_lit ?_
      refine ao 24 rfl rfl (st_fa (g := g0) (off := 0) rfl fa73_5 rfl ?_)
      refine ao 25 rfl rfl (st_ldc (g := g0) (off := 5) (v := .int .i64 r.lean) cell3 1 rfl rfl rfl rfl rfl ?_)
      refine ao 26 rfl rfl (st_cf (vs := [.int .i64 r.lean, .int .i64 200]) (r := .int .i64 (hPick r.lean 200)) (c_hPick r.lean 200 (by decide)) Try.func19 rfl (by decide) rfl rfl rfl ?_)
      refine ao 4 rfl rfl (st_assign (v := .int .i64 (hPick r.lean 200)) rfl rfl ?_)
      refine ar_nil ?_
      exact ac_drop (List.Sublist.cons_cons _ (List.Sublist.cons_cons _ List.Sublist.slnil)) (c_hRay_c6 r (hRay_e1 r) (hPick r.lean 200) g1 g0 rfl rfl rfl rfl rfl (congrArg Ray.v (show (hRay r) = _ from (eF h1 (eT h2 rfl)))))
    · refine ac_else' (b := (Int.tmod r.lean 3) == 2) h2 rfl ?_
      refine ac_skip ?_
      exact ac_drop (List.Sublist.cons_cons _ (List.Sublist.cons_cons _ List.Sublist.slnil)) (c_hRay_c6 r (hRay_e1 r) 0 g1 g0 rfl rfl rfl rfl rfl (congrArg Ray.v (show (hRay r) = _ from (eF h1 (eF h2 rfl)))))
end Go.Proofs.Ythngkopcadlciaa