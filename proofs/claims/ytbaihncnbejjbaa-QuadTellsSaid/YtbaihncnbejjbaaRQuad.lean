import Derived.Test.YtbaihncnbejjbaaFacts3
import Derived.Test.YtbaihncnbejjbaaREndsD
set_option linter.unusedVariables false
set_option linter.unusedSimpArgs false
namespace Go.Proofs.Ytbaihncnbejjbaa
open Go.RowKit

attribute [local irreducible] AC AR DWalk
def rNear_e0 (a : Iv) (b : Iv) (c : Iv) : Bool := (rRight (rDivIv c (rSub (rRootIv (rSub (rSqr b) (rMulIv a c))) b)))
def rNear (a : Iv) (b : Iv) (c : Iv) : Iv × Int := (bif rRight (rSub (rSqr b) (rMulIv a c)) then (bif decide (((rSub (rSqr b) (rMulIv a c)).hi) < 0) then (rNone, 2) else (bif decide (((rSub (rSqr b) (rMulIv a c)).lo) < 0) then (rNone, 0) else (bif rNear_e0 a b c then ((rDivIv c (rSub (rRootIv (rSub (rSqr b) (rMulIv a c))) b)), 1) else (rNone, 0)))) else (rNone, 0))
set_option maxRecDepth 100000 in
theorem c_rNear (a : Iv) (b : Iv) (c : Iv) : Gets Try.prog 86 #[.agg #[.int .i64 a.lo, .int .i64 a.hi, .bool a.no], .agg #[.int .i64 b.lo, .int .i64 b.hi, .bool b.no], .agg #[.int .i64 c.lo, .int .i64 c.hi, .bool c.no]] ((fun (r : Iv × Int) => (.tuple #[.agg #[.int .i64 r.1.lo, .int .i64 r.1.hi, .bool r.1.no], .int .i64 r.2] : Value)) (rNear a b c)) := by
  refine gets_fin Try.func86 rfl rfl rfl ?_
  refine ac_seq ?_
  refine ac_region_lit ?_
  refine ao 3 rfl rfl (st_box (v := .agg #[.int .i64 a.lo, .int .i64 a.hi, .bool a.no]) (cs := [.int .i64 a.lo, .int .i64 a.hi, .bool a.no]) rfl rfl rfl fun g0 => ?_)
  refine ao 4 rfl rfl (st_box (v := .agg #[.int .i64 b.lo, .int .i64 b.hi, .bool b.no]) (cs := [.int .i64 b.lo, .int .i64 b.hi, .bool b.no]) rfl rfl rfl fun g1 => ?_)
  refine ao 5 rfl rfl (st_box (v := .agg #[.int .i64 c.lo, .int .i64 c.hi, .bool c.no]) (cs := [.int .i64 c.lo, .int .i64 c.hi, .bool c.no]) rfl rfl rfl fun g2 => ?_)
  refine ao 6 rfl rfl (st_new zero35 rfl fun g3 => ?_)
  refine ao 7 rfl rfl (st_assign (v := .int .i64 0) rfl rfl ?_)
  refine ar_nil ?_
  refine ac_seq ?_
  refine ac_draw1 (id := 1) [0, 1, 2, 3, 4, 5] [7] 6 8 35 _ _ (by kernel_rfl) follows rfl zero35 ⟨_, rfl, rfl, rfl, rfl⟩ ?_
  refine dw_op (d := (some 10)) (.agg #[.int .i64 b.lo, .int .i64 b.hi, .bool b.no]) rfl rfl rfl (st_lda (g := g1) (off := 0) (vs := [.int .i64 b.lo, .int .i64 b.hi, .bool b.no]) agg35 2 rfl rfl rfl rfl rfl rfl ⟨rfl, rfl⟩) ?_
  refine dw_op (d := (some 11)) (.agg #[.int .i64 ((rSqr b).lo), .int .i64 ((rSqr b).hi), .bool ((rSqr b).no)]) rfl rfl rfl (st_cf (vs := [.agg #[.int .i64 b.lo, .int .i64 b.hi, .bool b.no]]) (r := .agg #[.int .i64 ((rSqr b).lo), .int .i64 ((rSqr b).hi), .bool ((rSqr b).no)]) (c_rSqr b) Try.func111 rfl (by decide) rfl rfl rfl ⟨rfl, rfl⟩) ?_
  refine dw_op (d := (some 12)) (.agg #[.int .i64 a.lo, .int .i64 a.hi, .bool a.no]) rfl rfl rfl (st_lda (g := g0) (off := 0) (vs := [.int .i64 a.lo, .int .i64 a.hi, .bool a.no]) agg35 3 rfl rfl rfl rfl rfl rfl ⟨rfl, rfl⟩) ?_
  refine dw_op (d := (some 13)) (.agg #[.int .i64 c.lo, .int .i64 c.hi, .bool c.no]) rfl rfl rfl (st_lda (g := g2) (off := 0) (vs := [.int .i64 c.lo, .int .i64 c.hi, .bool c.no]) agg35 1 rfl rfl rfl rfl rfl rfl ⟨rfl, rfl⟩) ?_
  refine dw_op (d := (some 14)) (.agg #[.int .i64 ((rMulIv a c).lo), .int .i64 ((rMulIv a c).hi), .bool ((rMulIv a c).no)]) rfl rfl rfl (st_cf (vs := [.agg #[.int .i64 a.lo, .int .i64 a.hi, .bool a.no], .agg #[.int .i64 c.lo, .int .i64 c.hi, .bool c.no]]) (r := .agg #[.int .i64 ((rMulIv a c).lo), .int .i64 ((rMulIv a c).hi), .bool ((rMulIv a c).no)]) (c_rMulIv a c) Try.func109 rfl (by decide) rfl rfl rfl ⟨rfl, rfl⟩) ?_
  refine dw_op (d := (some 15)) (.agg #[.int .i64 ((rSub (rSqr b) (rMulIv a c)).lo), .int .i64 ((rSub (rSqr b) (rMulIv a c)).hi), .bool ((rSub (rSqr b) (rMulIv a c)).no)]) rfl rfl rfl (st_cf (vs := [.agg #[.int .i64 ((rSqr b).lo), .int .i64 ((rSqr b).hi), .bool ((rSqr b).no)], .agg #[.int .i64 ((rMulIv a c).lo), .int .i64 ((rMulIv a c).hi), .bool ((rMulIv a c).no)]]) (r := .agg #[.int .i64 ((rSub (rSqr b) (rMulIv a c)).lo), .int .i64 ((rSub (rSqr b) (rMulIv a c)).hi), .bool ((rSub (rSqr b) (rMulIv a c)).no)]) (c_rSub (rSqr b) (rMulIv a c)) Try.func107 rfl (by decide) rfl rfl rfl ⟨rfl, rfl⟩) ?_
  refine dw_nil ?_
  intro g4
  refine ar_op (d := none) rfl rfl (st_sta (g := g4) (off := 0) (us := [.int .i64 ((rSub (rSqr b) (rMulIv a c)).lo), .int .i64 ((rSub (rSqr b) (rMulIv a c)).hi), .bool ((rSub (rSqr b) (rMulIv a c)).no)]) (cs := [.int .i64 ((rSub (rSqr b) (rMulIv a c)).lo), .int .i64 ((rSub (rSqr b) (rMulIv a c)).hi), .bool ((rSub (rSqr b) (rMulIv a c)).no)]) agg35 0 rfl rfl rfl rfl rfl rfl rfl rfl rfl ?_)
  refine ar_nil ?_
  refine ac_seq ?_
  refine ac_block ?_
  refine ac_seq ?_
  refine ac_region_lit ?_
  refine ao 17 rfl rfl (st_lda (g := g4) (off := 0) (vs := [.int .i64 ((rSub (rSqr b) (rMulIv a c)).lo), .int .i64 ((rSub (rSqr b) (rMulIv a c)).hi), .bool ((rSub (rSqr b) (rMulIv a c)).no)]) agg35 0 rfl rfl rfl rfl rfl rfl ?_)
  refine ao 18 rfl rfl (st_cf (vs := [.agg #[.int .i64 ((rSub (rSqr b) (rMulIv a c)).lo), .int .i64 ((rSub (rSqr b) (rMulIv a c)).hi), .bool ((rSub (rSqr b) (rMulIv a c)).no)]]) (r := .bool (rRight (rSub (rSqr b) (rMulIv a c)))) (c_rRight (rSub (rSqr b) (rMulIv a c))) Try.func57 rfl (by decide) rfl rfl rfl ?_)
  refine ao 19 rfl rfl (st_un (u := .bool (rRight (rSub (rSqr b) (rMulIv a c)))) (v := .bool (!(rRight (rSub (rSqr b) (rMulIv a c))))) rfl rfl (un_not rfl) ?_)
  refine ao 16 rfl rfl (st_assign (v := .bool (!(rRight (rSub (rSqr b) (rMulIv a c))))) rfl rfl ?_)
  refine ar_nil ?_
  refine bool_split (rRight (rSub (rSqr b) (rMulIv a c))) (fun h1 => ?_) (fun h1 => ?_)
  · refine ac_else' (b := !(rRight (rSub (rSqr b) (rMulIv a c)))) (by rw [h1]; rfl) rfl ?_
    refine ac_seq ?_
    refine ac_region_lit ?_
    refine ao 22 rfl rfl (st_fa (g := g4) (off := 0) rfl fa35_1 rfl ?_)
    refine ao 23 rfl rfl (st_ldc (g := g4) (off := 1) (v := .int .i64 ((rSub (rSqr b) (rMulIv a c)).hi)) cell3 0 rfl rfl rfl rfl rfl ?_)
    refine ao 24 rfl rfl (st_bi (u := .int .i64 ((rSub (rSqr b) (rMulIv a c)).hi)) (v := .int .i64 0) (r := .bool (decide (((rSub (rSqr b) (rMulIv a c)).hi) < 0))) rfl rfl rfl (bi_lss rfl) ?_)
    refine ao 21 rfl rfl (st_assign (v := .bool (decide (((rSub (rSqr b) (rMulIv a c)).hi) < 0))) rfl rfl ?_)
    refine ar_nil ?_
    refine bool_split (decide (((rSub (rSqr b) (rMulIv a c)).hi) < 0)) (fun h2 => ?_) (fun h2 => ?_)
    · refine ac_then' (b := decide (((rSub (rSqr b) (rMulIv a c)).hi) < 0)) h2 rfl ?_
      refine ac_seq ?_
      refine ac_region_lit ?_
      refine ao 25 rfl rfl (st_cf (vs := []) (r := .agg #[.int .i64 rNone.lo, .int .i64 rNone.hi, .bool rNone.no]) c_rNone Try.func147 rfl (by decide) rfl rfl rfl ?_)
      refine ar_op (d := none) rfl rfl (st_sta (g := g3) (off := 0) (us := [.int .i64 rNone.lo, .int .i64 rNone.hi, .bool rNone.no]) (cs := [.int .i64 rNone.lo, .int .i64 rNone.hi, .bool rNone.no]) agg35 1 rfl rfl rfl rfl rfl rfl rfl rfl rfl ?_)
      refine ao 7 rfl rfl (st_assign (v := .int .i64 2) rfl rfl ?_)
      refine ar_nil ?_
      refine ac_ret ?_
      exact fin_eq (v := .tuple #[.agg #[.int .i64 rNone.lo, .int .i64 rNone.hi, .bool rNone.no], .int .i64 2]) (by show _ = (fun (r : Iv × Int) => (.tuple #[.agg #[.int .i64 r.1.lo, .int .i64 r.1.hi, .bool r.1.no], .int .i64 r.2] : Value)) (rNear a b c); rw [rNear, h2, h1] <;> rfl) (fin_ret (res_ct (vs := [.int .i64 rNone.lo, .int .i64 rNone.hi, .bool rNone.no]) agg35 1 rfl rfl rfl rfl rfl rfl rfl))
    · refine ac_else' (b := decide (((rSub (rSqr b) (rMulIv a c)).hi) < 0)) h2 rfl ?_
      refine ac_seq ?_
      refine ac_region_lit ?_
      refine ao 27 rfl rfl (st_fa (g := g4) (off := 0) rfl fa35_0 rfl ?_)
      refine ao 28 rfl rfl (st_ldc (g := g4) (off := 0) (v := .int .i64 ((rSub (rSqr b) (rMulIv a c)).lo)) cell3 0 rfl rfl rfl rfl rfl ?_)
      refine ao 29 rfl rfl (st_bi (u := .int .i64 ((rSub (rSqr b) (rMulIv a c)).lo)) (v := .int .i64 0) (r := .bool (decide (((rSub (rSqr b) (rMulIv a c)).lo) < 0))) rfl rfl rfl (bi_lss rfl) ?_)
      refine ao 26 rfl rfl (st_assign (v := .bool (decide (((rSub (rSqr b) (rMulIv a c)).lo) < 0))) rfl rfl ?_)
      refine ar_nil ?_
      refine bool_split (decide (((rSub (rSqr b) (rMulIv a c)).lo) < 0)) (fun h3 => ?_) (fun h3 => ?_)
      · refine ac_then' (b := decide (((rSub (rSqr b) (rMulIv a c)).lo) < 0)) h3 rfl ?_
        refine ac_seq ?_
        refine ac_region_lit ?_
        refine ao 30 rfl rfl (st_cf (vs := []) (r := .agg #[.int .i64 rNone.lo, .int .i64 rNone.hi, .bool rNone.no]) c_rNone Try.func147 rfl (by decide) rfl rfl rfl ?_)
        refine ar_op (d := none) rfl rfl (st_sta (g := g3) (off := 0) (us := [.int .i64 rNone.lo, .int .i64 rNone.hi, .bool rNone.no]) (cs := [.int .i64 rNone.lo, .int .i64 rNone.hi, .bool rNone.no]) agg35 1 rfl rfl rfl rfl rfl rfl rfl rfl rfl ?_)
        refine ao 7 rfl rfl (st_assign (v := .int .i64 0) rfl rfl ?_)
        refine ar_nil ?_
        refine ac_ret ?_
        exact fin_eq (v := .tuple #[.agg #[.int .i64 rNone.lo, .int .i64 rNone.hi, .bool rNone.no], .int .i64 0]) (by show _ = (fun (r : Iv × Int) => (.tuple #[.agg #[.int .i64 r.1.lo, .int .i64 r.1.hi, .bool r.1.no], .int .i64 r.2] : Value)) (rNear a b c); rw [rNear, h3, h2, h1] <;> rfl) (fin_ret (res_ct (vs := [.int .i64 rNone.lo, .int .i64 rNone.hi, .bool rNone.no]) agg35 1 rfl rfl rfl rfl rfl rfl rfl))
      · refine ac_else' (b := decide (((rSub (rSqr b) (rMulIv a c)).lo) < 0)) h3 rfl ?_
        refine ac_skip ?_
        refine ac_seq ?_
        refine ac_draw1 (id := 8) [0, 1, 2, 3, 4, 5] [7] 6 9 35 _ _ (by kernel_rfl) follows rfl zero35 ⟨_, rfl, rfl, rfl, rfl⟩ ?_
        refine dw_op (d := (some 31)) (.agg #[.int .i64 c.lo, .int .i64 c.hi, .bool c.no]) rfl rfl rfl (st_lda (g := g2) (off := 0) (vs := [.int .i64 c.lo, .int .i64 c.hi, .bool c.no]) agg35 2 rfl rfl rfl rfl rfl rfl ⟨rfl, rfl⟩) ?_
        refine dw_op (d := (some 32)) (.agg #[.int .i64 ((rSub (rSqr b) (rMulIv a c)).lo), .int .i64 ((rSub (rSqr b) (rMulIv a c)).hi), .bool ((rSub (rSqr b) (rMulIv a c)).no)]) rfl rfl rfl (st_lda (g := g4) (off := 0) (vs := [.int .i64 ((rSub (rSqr b) (rMulIv a c)).lo), .int .i64 ((rSub (rSqr b) (rMulIv a c)).hi), .bool ((rSub (rSqr b) (rMulIv a c)).no)]) agg35 0 rfl rfl rfl rfl rfl rfl ⟨rfl, rfl⟩) ?_
        refine dw_op (d := (some 33)) (.agg #[.int .i64 ((rRootIv (rSub (rSqr b) (rMulIv a c))).lo), .int .i64 ((rRootIv (rSub (rSqr b) (rMulIv a c))).hi), .bool ((rRootIv (rSub (rSqr b) (rMulIv a c))).no)]) rfl rfl rfl (st_cf (vs := [.agg #[.int .i64 ((rSub (rSqr b) (rMulIv a c)).lo), .int .i64 ((rSub (rSqr b) (rMulIv a c)).hi), .bool ((rSub (rSqr b) (rMulIv a c)).no)]]) (r := .agg #[.int .i64 ((rRootIv (rSub (rSqr b) (rMulIv a c))).lo), .int .i64 ((rRootIv (rSub (rSqr b) (rMulIv a c))).hi), .bool ((rRootIv (rSub (rSqr b) (rMulIv a c))).no)]) (c_rRootIv (rSub (rSqr b) (rMulIv a c))) Try.func113 rfl (by decide) rfl rfl rfl ⟨rfl, rfl⟩) ?_
        refine dw_op (d := (some 34)) (.agg #[.int .i64 b.lo, .int .i64 b.hi, .bool b.no]) rfl rfl rfl (st_lda (g := g1) (off := 0) (vs := [.int .i64 b.lo, .int .i64 b.hi, .bool b.no]) agg35 3 rfl rfl rfl rfl rfl rfl ⟨rfl, rfl⟩) ?_
        refine dw_op (d := (some 35)) (.agg #[.int .i64 ((rSub (rRootIv (rSub (rSqr b) (rMulIv a c))) b).lo), .int .i64 ((rSub (rRootIv (rSub (rSqr b) (rMulIv a c))) b).hi), .bool ((rSub (rRootIv (rSub (rSqr b) (rMulIv a c))) b).no)]) rfl rfl rfl (st_cf (vs := [.agg #[.int .i64 ((rRootIv (rSub (rSqr b) (rMulIv a c))).lo), .int .i64 ((rRootIv (rSub (rSqr b) (rMulIv a c))).hi), .bool ((rRootIv (rSub (rSqr b) (rMulIv a c))).no)], .agg #[.int .i64 b.lo, .int .i64 b.hi, .bool b.no]]) (r := .agg #[.int .i64 ((rSub (rRootIv (rSub (rSqr b) (rMulIv a c))) b).lo), .int .i64 ((rSub (rRootIv (rSub (rSqr b) (rMulIv a c))) b).hi), .bool ((rSub (rRootIv (rSub (rSqr b) (rMulIv a c))) b).no)]) (c_rSub (rRootIv (rSub (rSqr b) (rMulIv a c))) b) Try.func107 rfl (by decide) rfl rfl rfl ⟨rfl, rfl⟩) ?_
        refine dw_op (d := (some 36)) (.agg #[.int .i64 ((rDivIv c (rSub (rRootIv (rSub (rSqr b) (rMulIv a c))) b)).lo), .int .i64 ((rDivIv c (rSub (rRootIv (rSub (rSqr b) (rMulIv a c))) b)).hi), .bool ((rDivIv c (rSub (rRootIv (rSub (rSqr b) (rMulIv a c))) b)).no)]) rfl rfl rfl (st_cf (vs := [.agg #[.int .i64 c.lo, .int .i64 c.hi, .bool c.no], .agg #[.int .i64 ((rSub (rRootIv (rSub (rSqr b) (rMulIv a c))) b).lo), .int .i64 ((rSub (rRootIv (rSub (rSqr b) (rMulIv a c))) b).hi), .bool ((rSub (rRootIv (rSub (rSqr b) (rMulIv a c))) b).no)]]) (r := .agg #[.int .i64 ((rDivIv c (rSub (rRootIv (rSub (rSqr b) (rMulIv a c))) b)).lo), .int .i64 ((rDivIv c (rSub (rRootIv (rSub (rSqr b) (rMulIv a c))) b)).hi), .bool ((rDivIv c (rSub (rRootIv (rSub (rSqr b) (rMulIv a c))) b)).no)]) (c_rDivIv c (rSub (rRootIv (rSub (rSqr b) (rMulIv a c))) b)) Try.func112 rfl (by decide) rfl rfl rfl ⟨rfl, rfl⟩) ?_
        refine dw_nil ?_
        intro g5
        refine ar_op (d := none) rfl rfl (st_sta (g := g5) (off := 0) (us := [.int .i64 ((rDivIv c (rSub (rRootIv (rSub (rSqr b) (rMulIv a c))) b)).lo), .int .i64 ((rDivIv c (rSub (rRootIv (rSub (rSqr b) (rMulIv a c))) b)).hi), .bool ((rDivIv c (rSub (rRootIv (rSub (rSqr b) (rMulIv a c))) b)).no)]) (cs := [.int .i64 ((rDivIv c (rSub (rRootIv (rSub (rSqr b) (rMulIv a c))) b)).lo), .int .i64 ((rDivIv c (rSub (rRootIv (rSub (rSqr b) (rMulIv a c))) b)).hi), .bool ((rDivIv c (rSub (rRootIv (rSub (rSqr b) (rMulIv a c))) b)).no)]) agg35 0 rfl rfl rfl rfl rfl rfl rfl rfl rfl ?_)
        refine ar_nil ?_
        refine ac_seq ?_
        refine ac_seq ?_
        refine ac_region_lit ?_
        refine ao 37 rfl rfl (st_lda (g := g5) (off := 0) (vs := [.int .i64 ((rDivIv c (rSub (rRootIv (rSub (rSqr b) (rMulIv a c))) b)).lo), .int .i64 ((rDivIv c (rSub (rRootIv (rSub (rSqr b) (rMulIv a c))) b)).hi), .bool ((rDivIv c (rSub (rRootIv (rSub (rSqr b) (rMulIv a c))) b)).no)]) agg35 0 rfl rfl rfl rfl rfl rfl ?_)
        refine ao 38 rfl rfl (st_cf (vs := [.agg #[.int .i64 ((rDivIv c (rSub (rRootIv (rSub (rSqr b) (rMulIv a c))) b)).lo), .int .i64 ((rDivIv c (rSub (rRootIv (rSub (rSqr b) (rMulIv a c))) b)).hi), .bool ((rDivIv c (rSub (rRootIv (rSub (rSqr b) (rMulIv a c))) b)).no)]]) (r := .bool (rNear_e0 a b c)) (c_rRight (rDivIv c (rSub (rRootIv (rSub (rSqr b) (rMulIv a c))) b))) Try.func57 rfl (by decide) rfl rfl rfl ?_)
        refine ao 39 rfl rfl (st_un (u := .bool (rNear_e0 a b c)) (v := .bool (!(rNear_e0 a b c))) rfl rfl (un_not rfl) ?_)
        refine ar_nil ?_
        refine bool_split (rNear_e0 a b c) (fun h4 => ?_) (fun h4 => ?_)
        · refine ac_else' (b := !(rNear_e0 a b c)) (by rw [h4]; rfl) rfl ?_
          refine ac_skip ?_
          refine ac_seq ?_
          refine ac_region_lit ?_
          refine ao 41 rfl rfl (st_lda (g := g5) (off := 0) (vs := [.int .i64 ((rDivIv c (rSub (rRootIv (rSub (rSqr b) (rMulIv a c))) b)).lo), .int .i64 ((rDivIv c (rSub (rRootIv (rSub (rSqr b) (rMulIv a c))) b)).hi), .bool ((rDivIv c (rSub (rRootIv (rSub (rSqr b) (rMulIv a c))) b)).no)]) agg35 0 rfl rfl rfl rfl rfl rfl ?_)
          refine ar_op (d := none) rfl rfl (st_sta (g := g3) (off := 0) (us := [.int .i64 ((rDivIv c (rSub (rRootIv (rSub (rSqr b) (rMulIv a c))) b)).lo), .int .i64 ((rDivIv c (rSub (rRootIv (rSub (rSqr b) (rMulIv a c))) b)).hi), .bool ((rDivIv c (rSub (rRootIv (rSub (rSqr b) (rMulIv a c))) b)).no)]) (cs := [.int .i64 ((rDivIv c (rSub (rRootIv (rSub (rSqr b) (rMulIv a c))) b)).lo), .int .i64 ((rDivIv c (rSub (rRootIv (rSub (rSqr b) (rMulIv a c))) b)).hi), .bool ((rDivIv c (rSub (rRootIv (rSub (rSqr b) (rMulIv a c))) b)).no)]) agg35 2 rfl rfl rfl rfl rfl rfl rfl rfl rfl ?_)
          refine ao 7 rfl rfl (st_assign (v := .int .i64 1) rfl rfl ?_)
          refine ar_nil ?_
          refine ac_ret ?_
          exact fin_eq (v := .tuple #[.agg #[.int .i64 ((rDivIv c (rSub (rRootIv (rSub (rSqr b) (rMulIv a c))) b)).lo), .int .i64 ((rDivIv c (rSub (rRootIv (rSub (rSqr b) (rMulIv a c))) b)).hi), .bool ((rDivIv c (rSub (rRootIv (rSub (rSqr b) (rMulIv a c))) b)).no)], .int .i64 1]) (by show _ = (fun (r : Iv × Int) => (.tuple #[.agg #[.int .i64 r.1.lo, .int .i64 r.1.hi, .bool r.1.no], .int .i64 r.2] : Value)) (rNear a b c); rw [rNear, h4, h3, h2, h1] <;> rfl) (fin_ret (res_ct (vs := [.int .i64 ((rDivIv c (rSub (rRootIv (rSub (rSqr b) (rMulIv a c))) b)).lo), .int .i64 ((rDivIv c (rSub (rRootIv (rSub (rSqr b) (rMulIv a c))) b)).hi), .bool ((rDivIv c (rSub (rRootIv (rSub (rSqr b) (rMulIv a c))) b)).no)]) agg35 2 rfl rfl rfl rfl rfl rfl rfl))
        · refine ac_then' (b := !(rNear_e0 a b c)) (by rw [h4]; rfl) rfl ?_
          refine ac_seq ?_
          refine ac_region_lit ?_
          refine ao 40 rfl rfl (st_cf (vs := []) (r := .agg #[.int .i64 rNone.lo, .int .i64 rNone.hi, .bool rNone.no]) c_rNone Try.func147 rfl (by decide) rfl rfl rfl ?_)
          refine ar_op (d := none) rfl rfl (st_sta (g := g3) (off := 0) (us := [.int .i64 rNone.lo, .int .i64 rNone.hi, .bool rNone.no]) (cs := [.int .i64 rNone.lo, .int .i64 rNone.hi, .bool rNone.no]) agg35 2 rfl rfl rfl rfl rfl rfl rfl rfl rfl ?_)
          refine ao 7 rfl rfl (st_assign (v := .int .i64 0) rfl rfl ?_)
          refine ar_nil ?_
          refine ac_ret ?_
          exact fin_eq (v := .tuple #[.agg #[.int .i64 rNone.lo, .int .i64 rNone.hi, .bool rNone.no], .int .i64 0]) (by show _ = (fun (r : Iv × Int) => (.tuple #[.agg #[.int .i64 r.1.lo, .int .i64 r.1.hi, .bool r.1.no], .int .i64 r.2] : Value)) (rNear a b c); rw [rNear, h4, h3, h2, h1] <;> rfl) (fin_ret (res_ct (vs := [.int .i64 rNone.lo, .int .i64 rNone.hi, .bool rNone.no]) agg35 2 rfl rfl rfl rfl rfl rfl rfl))
  · refine ac_then' (b := !(rRight (rSub (rSqr b) (rMulIv a c)))) (by rw [h1]; rfl) rfl ?_
    refine ac_seq ?_
    refine ac_region_lit ?_
    refine ao 20 rfl rfl (st_cf (vs := []) (r := .agg #[.int .i64 rNone.lo, .int .i64 rNone.hi, .bool rNone.no]) c_rNone Try.func147 rfl (by decide) rfl rfl rfl ?_)
    refine ar_op (d := none) rfl rfl (st_sta (g := g3) (off := 0) (us := [.int .i64 rNone.lo, .int .i64 rNone.hi, .bool rNone.no]) (cs := [.int .i64 rNone.lo, .int .i64 rNone.hi, .bool rNone.no]) agg35 1 rfl rfl rfl rfl rfl rfl rfl rfl rfl ?_)
    refine ao 7 rfl rfl (st_assign (v := .int .i64 0) rfl rfl ?_)
    refine ar_nil ?_
    refine ac_ret ?_
    exact fin_eq (v := .tuple #[.agg #[.int .i64 rNone.lo, .int .i64 rNone.hi, .bool rNone.no], .int .i64 0]) (by show _ = (fun (r : Iv × Int) => (.tuple #[.agg #[.int .i64 r.1.lo, .int .i64 r.1.hi, .bool r.1.no], .int .i64 r.2] : Value)) (rNear a b c); rw [rNear, h1] <;> rfl) (fin_ret (res_ct (vs := [.int .i64 rNone.lo, .int .i64 rNone.hi, .bool rNone.no]) agg35 1 rfl rfl rfl rfl rfl rfl rfl))
end Go.Proofs.Ytbaihncnbejjbaa
