import Derived.Test.YtbaihncnbejjbaaFacts3
import Derived.Test.YtbaihncnbejjbaaRVec
set_option linter.unusedVariables false
set_option linter.unusedSimpArgs false
namespace Go.Proofs.Ytbaihncnbejjbaa
open Go.RowKit

attribute [local irreducible] AC AR DWalk
def r14None  : Iv := rNone
set_option maxRecDepth 100000 in
theorem c_r14None  : Gets Try.prog 153 #[] (Iv.v r14None) := by
  refine gets_fin Try.func153 rfl rfl rfl ?_
  refine ac_seq ?_
  refine ac_region_lit ?_
  refine ao 0 rfl rfl (st_new zero35 rfl fun g0 => ?_)
  refine ar_nil ?_
  refine ac_seq ?_
  refine ac_region_lit ?_
  refine ao 1 rfl rfl (st_cf (vs := []) (r := .agg #[.int .i64 rNone.lo, .int .i64 rNone.hi, .bool rNone.no]) c_rNone Try.func147 rfl (by decide) rfl rfl rfl ?_)
  refine ar_op (d := none) rfl rfl (st_sta (g := g0) (off := 0) (us := [.int .i64 rNone.lo, .int .i64 rNone.hi, .bool rNone.no]) (cs := [.int .i64 rNone.lo, .int .i64 rNone.hi, .bool rNone.no]) agg35 0 rfl rfl rfl rfl rfl rfl rfl rfl rfl ?_)
  refine ar_nil ?_
  refine ac_ret ?_
  exact fin_eq (v := .agg #[.int .i64 rNone.lo, .int .i64 rNone.hi, .bool rNone.no]) rfl (fin_ret (res_c (vs := [.int .i64 rNone.lo, .int .i64 rNone.hi, .bool rNone.no]) agg35 0 rfl rfl rfl rfl rfl rfl))
def r14NoV  : V := (⟨r14None, r14None, r14None⟩ : V)
set_option maxRecDepth 100000 in
theorem c_r14NoV  : Gets Try.prog 150 #[] (V.v r14NoV) := by
  refine gets_fin Try.func150 rfl rfl rfl ?_
  refine ac_seq ?_
  refine ac_region_lit ?_
  refine ao 0 rfl rfl (st_new zero58 rfl fun g0 => ?_)
  refine ar_nil ?_
  refine ac_seq ?_
  refine ac_region_lit ?_
  refine ao 1 rfl rfl (st_cf (vs := []) (r := .agg #[.int .i64 r14None.lo, .int .i64 r14None.hi, .bool r14None.no]) c_r14None Try.func153 rfl (by decide) rfl rfl rfl ?_)
  refine ao 2 rfl rfl (st_cf (vs := []) (r := .agg #[.int .i64 r14None.lo, .int .i64 r14None.hi, .bool r14None.no]) c_r14None Try.func153 rfl (by decide) rfl rfl rfl ?_)
  refine ao 3 rfl rfl (st_cf (vs := []) (r := .agg #[.int .i64 r14None.lo, .int .i64 r14None.hi, .bool r14None.no]) c_r14None Try.func153 rfl (by decide) rfl rfl rfl ?_)
  refine ao 4 rfl rfl (st_bd (us := [(0, .agg #[.int .i64 r14None.lo, .int .i64 r14None.hi, .bool r14None.no]), (1, .agg #[.int .i64 r14None.lo, .int .i64 r14None.hi, .bool r14None.no]), (2, .agg #[.int .i64 r14None.lo, .int .i64 r14None.hi, .bool r14None.no])]) (v := .agg #[.int .i64 r14None.lo, .int .i64 r14None.hi, .bool r14None.no, .int .i64 r14None.lo, .int .i64 r14None.hi, .bool r14None.no, .int .i64 r14None.lo, .int .i64 r14None.hi, .bool r14None.no]) rfl rfl (bd58_0a_1a_2a _ _ _ _ _ _ _ _ _) ?_)
  refine ar_op (d := none) rfl rfl (st_sta (g := g0) (off := 0) (us := [.int .i64 r14None.lo, .int .i64 r14None.hi, .bool r14None.no, .int .i64 r14None.lo, .int .i64 r14None.hi, .bool r14None.no, .int .i64 r14None.lo, .int .i64 r14None.hi, .bool r14None.no]) (cs := [.int .i64 r14None.lo, .int .i64 r14None.hi, .bool r14None.no, .int .i64 r14None.lo, .int .i64 r14None.hi, .bool r14None.no, .int .i64 r14None.lo, .int .i64 r14None.hi, .bool r14None.no]) agg58 0 rfl rfl rfl rfl rfl rfl rfl rfl rfl ?_)
  refine ar_nil ?_
  refine ac_ret ?_
  exact fin_eq (v := .agg #[.int .i64 r14None.lo, .int .i64 r14None.hi, .bool r14None.no, .int .i64 r14None.lo, .int .i64 r14None.hi, .bool r14None.no, .int .i64 r14None.lo, .int .i64 r14None.hi, .bool r14None.no]) rfl (fin_ret (res_c (vs := [.int .i64 r14None.lo, .int .i64 r14None.hi, .bool r14None.no, .int .i64 r14None.lo, .int .i64 r14None.hi, .bool r14None.no, .int .i64 r14None.lo, .int .i64 r14None.hi, .bool r14None.no]) agg58 0 rfl rfl rfl rfl rfl rfl))
def rBend_e0 (d : V) (n : V) (ratio : Iv) : Iv := (rMulIv (rSqr ratio) (rSub (rPoint 65536) (rSqr (rVecDot d n))))
def rBend_e1 (d : V) (n : V) (ratio : Iv) : Iv := (rSub (rRootIv (rSub (rPoint 65536) (rBend_e0 d n ratio))) (rMulIv ratio (rVecDot d n)))
def rBend_e2 (d : V) (n : V) (ratio : Iv) : V := (rVecAdd (rVecScale d ratio) (rVecScale n (rBend_e1 d n ratio)))
def rBend (d : V) (n : V) (ratio : Iv) : V × Int := (bif rRight (rVecDot d n) then (bif decide (((rVecDot d n).lo) ≤ 0) then (r14NoV, 0) else (bif rRight (rSub (rPoint 65536) (rBend_e0 d n ratio)) then (bif decide (((rSub (rPoint 65536) (rBend_e0 d n ratio)).hi) < 0) then (r14NoV, 2) else (bif decide (((rSub (rPoint 65536) (rBend_e0 d n ratio)).lo) < 0) then (r14NoV, 0) else (bif rVecRight (rBend_e2 d n ratio) then ((rBend_e2 d n ratio), 1) else (r14NoV, 0)))) else (r14NoV, 0))) else (r14NoV, 0))
set_option maxRecDepth 100000 in
theorem c_rBend (d : V) (n : V) (ratio : Iv) : Gets Try.prog 121 #[.agg #[.int .i64 d.x.lo, .int .i64 d.x.hi, .bool d.x.no, .int .i64 d.y.lo, .int .i64 d.y.hi, .bool d.y.no, .int .i64 d.z.lo, .int .i64 d.z.hi, .bool d.z.no], .agg #[.int .i64 n.x.lo, .int .i64 n.x.hi, .bool n.x.no, .int .i64 n.y.lo, .int .i64 n.y.hi, .bool n.y.no, .int .i64 n.z.lo, .int .i64 n.z.hi, .bool n.z.no], .agg #[.int .i64 ratio.lo, .int .i64 ratio.hi, .bool ratio.no]] ((fun (r : V × Int) => (.tuple #[.agg #[.int .i64 r.1.x.lo, .int .i64 r.1.x.hi, .bool r.1.x.no, .int .i64 r.1.y.lo, .int .i64 r.1.y.hi, .bool r.1.y.no, .int .i64 r.1.z.lo, .int .i64 r.1.z.hi, .bool r.1.z.no], .int .i64 r.2] : Value)) (rBend d n ratio)) := by
  refine gets_fin Try.func121 rfl rfl rfl ?_
  refine ac_seq ?_
  refine ac_region_lit ?_
  refine ao 3 rfl rfl (st_box (v := .agg #[.int .i64 d.x.lo, .int .i64 d.x.hi, .bool d.x.no, .int .i64 d.y.lo, .int .i64 d.y.hi, .bool d.y.no, .int .i64 d.z.lo, .int .i64 d.z.hi, .bool d.z.no]) (cs := [.int .i64 d.x.lo, .int .i64 d.x.hi, .bool d.x.no, .int .i64 d.y.lo, .int .i64 d.y.hi, .bool d.y.no, .int .i64 d.z.lo, .int .i64 d.z.hi, .bool d.z.no]) rfl rfl rfl fun g0 => ?_)
  refine ao 4 rfl rfl (st_box (v := .agg #[.int .i64 n.x.lo, .int .i64 n.x.hi, .bool n.x.no, .int .i64 n.y.lo, .int .i64 n.y.hi, .bool n.y.no, .int .i64 n.z.lo, .int .i64 n.z.hi, .bool n.z.no]) (cs := [.int .i64 n.x.lo, .int .i64 n.x.hi, .bool n.x.no, .int .i64 n.y.lo, .int .i64 n.y.hi, .bool n.y.no, .int .i64 n.z.lo, .int .i64 n.z.hi, .bool n.z.no]) rfl rfl rfl fun g1 => ?_)
  refine ao 5 rfl rfl (st_box (v := .agg #[.int .i64 ratio.lo, .int .i64 ratio.hi, .bool ratio.no]) (cs := [.int .i64 ratio.lo, .int .i64 ratio.hi, .bool ratio.no]) rfl rfl rfl fun g2 => ?_)
  refine ao 6 rfl rfl (st_new zero58 rfl fun g3 => ?_)
  refine ao 7 rfl rfl (st_assign (v := .int .i64 0) rfl rfl ?_)
  refine ar_nil ?_
  refine ac_seq ?_
  refine ac_region_lit ?_
  refine ao 12 rfl rfl (st_cf (vs := [.int .i64 65536]) (r := .agg #[.int .i64 ((rPoint 65536).lo), .int .i64 ((rPoint 65536).hi), .bool ((rPoint 65536).no)]) (c_rPoint 65536) Try.func104 rfl (by decide) rfl rfl rfl ?_)
  refine ao 8 rfl rfl (st_new zero35 rfl fun g4 => ?_)
  refine ar_op (d := none) rfl rfl (st_sta (g := g4) (off := 0) (us := [.int .i64 ((rPoint 65536).lo), .int .i64 ((rPoint 65536).hi), .bool ((rPoint 65536).no)]) (cs := [.int .i64 ((rPoint 65536).lo), .int .i64 ((rPoint 65536).hi), .bool ((rPoint 65536).no)]) agg35 0 rfl rfl rfl rfl rfl rfl rfl rfl rfl ?_)
  refine ar_nil ?_
  refine ac_seq ?_
  refine ac_region_lit ?_
  refine ao 13 rfl rfl (st_lda (g := g0) (off := 0) (vs := [.int .i64 d.x.lo, .int .i64 d.x.hi, .bool d.x.no, .int .i64 d.y.lo, .int .i64 d.y.hi, .bool d.y.no, .int .i64 d.z.lo, .int .i64 d.z.hi, .bool d.z.no]) agg58 4 rfl rfl rfl rfl rfl rfl ?_)
  refine ao 14 rfl rfl (st_lda (g := g1) (off := 0) (vs := [.int .i64 n.x.lo, .int .i64 n.x.hi, .bool n.x.no, .int .i64 n.y.lo, .int .i64 n.y.hi, .bool n.y.no, .int .i64 n.z.lo, .int .i64 n.z.hi, .bool n.z.no]) agg58 3 rfl rfl rfl rfl rfl rfl ?_)
  refine ao 15 rfl rfl (st_cf (vs := [.agg #[.int .i64 d.x.lo, .int .i64 d.x.hi, .bool d.x.no, .int .i64 d.y.lo, .int .i64 d.y.hi, .bool d.y.no, .int .i64 d.z.lo, .int .i64 d.z.hi, .bool d.z.no], .agg #[.int .i64 n.x.lo, .int .i64 n.x.hi, .bool n.x.no, .int .i64 n.y.lo, .int .i64 n.y.hi, .bool n.y.no, .int .i64 n.z.lo, .int .i64 n.z.hi, .bool n.z.no]]) (r := .agg #[.int .i64 ((rVecDot d n).lo), .int .i64 ((rVecDot d n).hi), .bool ((rVecDot d n).no)]) (c_rVecDot d n) Try.func126 rfl (by decide) rfl rfl rfl ?_)
  refine ao 9 rfl rfl (st_new zero35 rfl fun g5 => ?_)
  refine ar_op (d := none) rfl rfl (st_sta (g := g5) (off := 0) (us := [.int .i64 ((rVecDot d n).lo), .int .i64 ((rVecDot d n).hi), .bool ((rVecDot d n).no)]) (cs := [.int .i64 ((rVecDot d n).lo), .int .i64 ((rVecDot d n).hi), .bool ((rVecDot d n).no)]) agg35 0 rfl rfl rfl rfl rfl rfl rfl rfl rfl ?_)
  refine ar_nil ?_
  refine ac_seq ?_
  refine ac_seq ?_
  refine ac_region_lit ?_
  refine ao 16 rfl rfl (st_lda (g := g5) (off := 0) (vs := [.int .i64 ((rVecDot d n).lo), .int .i64 ((rVecDot d n).hi), .bool ((rVecDot d n).no)]) agg35 0 rfl rfl rfl rfl rfl rfl ?_)
  refine ao 17 rfl rfl (st_cf (vs := [.agg #[.int .i64 ((rVecDot d n).lo), .int .i64 ((rVecDot d n).hi), .bool ((rVecDot d n).no)]]) (r := .bool (rRight (rVecDot d n))) (c_rRight (rVecDot d n)) Try.func57 rfl (by decide) rfl rfl rfl ?_)
  refine ao 18 rfl rfl (st_un (u := .bool (rRight (rVecDot d n))) (v := .bool (!(rRight (rVecDot d n)))) rfl rfl (un_not rfl) ?_)
  refine ao 19 rfl rfl (st_move (v := .bool (!(rRight (rVecDot d n)))) rfl rfl ?_)
  refine bool_split (rRight (rVecDot d n)) (fun h1 => ?_) (fun h1 => ?_)
  · refine ar_gd (d := (some 20)) (by show ((!(rRight (rVecDot d n))) == false) = true; rw [h1]; rfl) rfl (st_fa (g := g5) (off := 0) rfl fa35_0 rfl ?_)
    refine ar_gd (d := (some 21)) (by show ((!(rRight (rVecDot d n))) == false) = true; rw [h1]; rfl) rfl (st_ldc (g := g5) (off := 0) (v := .int .i64 ((rVecDot d n).lo)) cell3 0 rfl rfl rfl rfl rfl ?_)
    refine ar_gd (d := (some 22)) (by show ((!(rRight (rVecDot d n))) == false) = true; rw [h1]; rfl) rfl (st_bi (u := .int .i64 ((rVecDot d n).lo)) (v := .int .i64 0) (r := .bool (decide (((rVecDot d n).lo) ≤ 0))) rfl rfl rfl (bi_leq rfl) ?_)
    refine ao 23 rfl rfl (st_pkf' (b := !(rRight (rVecDot d n))) (v := .bool (decide (((rVecDot d n).lo) ≤ 0))) (by rw [h1]; rfl) rfl rfl rfl ?_)
    refine ar_nil ?_
    refine bool_split (decide (((rVecDot d n).lo) ≤ 0)) (fun h2 => ?_) (fun h2 => ?_)
    · refine ac_then' (b := decide (((rVecDot d n).lo) ≤ 0)) h2 rfl ?_
      refine ac_seq ?_
      refine ac_region_lit ?_
      refine ao 24 rfl rfl (st_cf (vs := []) (r := .agg #[.int .i64 r14NoV.x.lo, .int .i64 r14NoV.x.hi, .bool r14NoV.x.no, .int .i64 r14NoV.y.lo, .int .i64 r14NoV.y.hi, .bool r14NoV.y.no, .int .i64 r14NoV.z.lo, .int .i64 r14NoV.z.hi, .bool r14NoV.z.no]) c_r14NoV Try.func150 rfl (by decide) rfl rfl rfl ?_)
      refine ar_op (d := none) rfl rfl (st_sta (g := g3) (off := 0) (us := [.int .i64 r14NoV.x.lo, .int .i64 r14NoV.x.hi, .bool r14NoV.x.no, .int .i64 r14NoV.y.lo, .int .i64 r14NoV.y.hi, .bool r14NoV.y.no, .int .i64 r14NoV.z.lo, .int .i64 r14NoV.z.hi, .bool r14NoV.z.no]) (cs := [.int .i64 r14NoV.x.lo, .int .i64 r14NoV.x.hi, .bool r14NoV.x.no, .int .i64 r14NoV.y.lo, .int .i64 r14NoV.y.hi, .bool r14NoV.y.no, .int .i64 r14NoV.z.lo, .int .i64 r14NoV.z.hi, .bool r14NoV.z.no]) agg58 2 rfl rfl rfl rfl rfl rfl rfl rfl rfl ?_)
      refine ao 7 rfl rfl (st_assign (v := .int .i64 0) rfl rfl ?_)
      refine ar_nil ?_
      refine ac_ret ?_
      exact fin_eq (v := .tuple #[.agg #[.int .i64 r14NoV.x.lo, .int .i64 r14NoV.x.hi, .bool r14NoV.x.no, .int .i64 r14NoV.y.lo, .int .i64 r14NoV.y.hi, .bool r14NoV.y.no, .int .i64 r14NoV.z.lo, .int .i64 r14NoV.z.hi, .bool r14NoV.z.no], .int .i64 0]) (by show _ = (fun (r : V × Int) => (.tuple #[.agg #[.int .i64 r.1.x.lo, .int .i64 r.1.x.hi, .bool r.1.x.no, .int .i64 r.1.y.lo, .int .i64 r.1.y.hi, .bool r.1.y.no, .int .i64 r.1.z.lo, .int .i64 r.1.z.hi, .bool r.1.z.no], .int .i64 r.2] : Value)) (rBend d n ratio); rw [rBend, h2, h1] <;> rfl) (fin_ret (res_ct (vs := [.int .i64 r14NoV.x.lo, .int .i64 r14NoV.x.hi, .bool r14NoV.x.no, .int .i64 r14NoV.y.lo, .int .i64 r14NoV.y.hi, .bool r14NoV.y.no, .int .i64 r14NoV.z.lo, .int .i64 r14NoV.z.hi, .bool r14NoV.z.no]) agg58 2 rfl rfl rfl rfl rfl rfl rfl))
    · refine ac_else' (b := decide (((rVecDot d n).lo) ≤ 0)) h2 rfl ?_
      refine ac_skip ?_
      refine ac_seq ?_
      refine ac_draw1 (id := 5) [0, 1, 2, 3, 4, 5, 6, 7, 8] [10] 9 10 35 _ _ (by kernel_rfl) follows rfl zero35 ⟨_, rfl, rfl, rfl, rfl⟩ ?_
      refine dw_op (d := (some 25)) (.agg #[.int .i64 ((rPoint 65536).lo), .int .i64 ((rPoint 65536).hi), .bool ((rPoint 65536).no)]) rfl rfl rfl (st_lda (g := g4) (off := 0) (vs := [.int .i64 ((rPoint 65536).lo), .int .i64 ((rPoint 65536).hi), .bool ((rPoint 65536).no)]) agg35 1 rfl rfl rfl rfl rfl rfl ⟨rfl, rfl⟩) ?_
      refine dw_op (d := (some 26)) (.agg #[.int .i64 ratio.lo, .int .i64 ratio.hi, .bool ratio.no]) rfl rfl rfl (st_lda (g := g2) (off := 0) (vs := [.int .i64 ratio.lo, .int .i64 ratio.hi, .bool ratio.no]) agg35 3 rfl rfl rfl rfl rfl rfl ⟨rfl, rfl⟩) ?_
      refine dw_op (d := (some 27)) (.agg #[.int .i64 ((rSqr ratio).lo), .int .i64 ((rSqr ratio).hi), .bool ((rSqr ratio).no)]) rfl rfl rfl (st_cf (vs := [.agg #[.int .i64 ratio.lo, .int .i64 ratio.hi, .bool ratio.no]]) (r := .agg #[.int .i64 ((rSqr ratio).lo), .int .i64 ((rSqr ratio).hi), .bool ((rSqr ratio).no)]) (c_rSqr ratio) Try.func111 rfl (by decide) rfl rfl rfl ⟨rfl, rfl⟩) ?_
      refine dw_op (d := (some 28)) (.agg #[.int .i64 ((rPoint 65536).lo), .int .i64 ((rPoint 65536).hi), .bool ((rPoint 65536).no)]) rfl rfl rfl (st_lda (g := g4) (off := 0) (vs := [.int .i64 ((rPoint 65536).lo), .int .i64 ((rPoint 65536).hi), .bool ((rPoint 65536).no)]) agg35 1 rfl rfl rfl rfl rfl rfl ⟨rfl, rfl⟩) ?_
      refine dw_op (d := (some 29)) (.agg #[.int .i64 ((rVecDot d n).lo), .int .i64 ((rVecDot d n).hi), .bool ((rVecDot d n).no)]) rfl rfl rfl (st_lda (g := g5) (off := 0) (vs := [.int .i64 ((rVecDot d n).lo), .int .i64 ((rVecDot d n).hi), .bool ((rVecDot d n).no)]) agg35 0 rfl rfl rfl rfl rfl rfl ⟨rfl, rfl⟩) ?_
      refine dw_op (d := (some 30)) (.agg #[.int .i64 ((rSqr (rVecDot d n)).lo), .int .i64 ((rSqr (rVecDot d n)).hi), .bool ((rSqr (rVecDot d n)).no)]) rfl rfl rfl (st_cf (vs := [.agg #[.int .i64 ((rVecDot d n).lo), .int .i64 ((rVecDot d n).hi), .bool ((rVecDot d n).no)]]) (r := .agg #[.int .i64 ((rSqr (rVecDot d n)).lo), .int .i64 ((rSqr (rVecDot d n)).hi), .bool ((rSqr (rVecDot d n)).no)]) (c_rSqr (rVecDot d n)) Try.func111 rfl (by decide) rfl rfl rfl ⟨rfl, rfl⟩) ?_
      refine dw_op (d := (some 31)) (.agg #[.int .i64 ((rSub (rPoint 65536) (rSqr (rVecDot d n))).lo), .int .i64 ((rSub (rPoint 65536) (rSqr (rVecDot d n))).hi), .bool ((rSub (rPoint 65536) (rSqr (rVecDot d n))).no)]) rfl rfl rfl (st_cf (vs := [.agg #[.int .i64 ((rPoint 65536).lo), .int .i64 ((rPoint 65536).hi), .bool ((rPoint 65536).no)], .agg #[.int .i64 ((rSqr (rVecDot d n)).lo), .int .i64 ((rSqr (rVecDot d n)).hi), .bool ((rSqr (rVecDot d n)).no)]]) (r := .agg #[.int .i64 ((rSub (rPoint 65536) (rSqr (rVecDot d n))).lo), .int .i64 ((rSub (rPoint 65536) (rSqr (rVecDot d n))).hi), .bool ((rSub (rPoint 65536) (rSqr (rVecDot d n))).no)]) (c_rSub (rPoint 65536) (rSqr (rVecDot d n))) Try.func107 rfl (by decide) rfl rfl rfl ⟨rfl, rfl⟩) ?_
      refine dw_op (d := (some 32)) (.agg #[.int .i64 ((rBend_e0 d n ratio).lo), .int .i64 ((rBend_e0 d n ratio).hi), .bool ((rBend_e0 d n ratio).no)]) rfl rfl rfl (st_cf (vs := [.agg #[.int .i64 ((rSqr ratio).lo), .int .i64 ((rSqr ratio).hi), .bool ((rSqr ratio).no)], .agg #[.int .i64 ((rSub (rPoint 65536) (rSqr (rVecDot d n))).lo), .int .i64 ((rSub (rPoint 65536) (rSqr (rVecDot d n))).hi), .bool ((rSub (rPoint 65536) (rSqr (rVecDot d n))).no)]]) (r := .agg #[.int .i64 ((rBend_e0 d n ratio).lo), .int .i64 ((rBend_e0 d n ratio).hi), .bool ((rBend_e0 d n ratio).no)]) (c_rMulIv (rSqr ratio) (rSub (rPoint 65536) (rSqr (rVecDot d n)))) Try.func109 rfl (by decide) rfl rfl rfl ⟨rfl, rfl⟩) ?_
      refine dw_op (d := (some 33)) (.agg #[.int .i64 ((rSub (rPoint 65536) (rBend_e0 d n ratio)).lo), .int .i64 ((rSub (rPoint 65536) (rBend_e0 d n ratio)).hi), .bool ((rSub (rPoint 65536) (rBend_e0 d n ratio)).no)]) rfl rfl rfl (st_cf (vs := [.agg #[.int .i64 ((rPoint 65536).lo), .int .i64 ((rPoint 65536).hi), .bool ((rPoint 65536).no)], .agg #[.int .i64 ((rBend_e0 d n ratio).lo), .int .i64 ((rBend_e0 d n ratio).hi), .bool ((rBend_e0 d n ratio).no)]]) (r := .agg #[.int .i64 ((rSub (rPoint 65536) (rBend_e0 d n ratio)).lo), .int .i64 ((rSub (rPoint 65536) (rBend_e0 d n ratio)).hi), .bool ((rSub (rPoint 65536) (rBend_e0 d n ratio)).no)]) (c_rSub (rPoint 65536) (rBend_e0 d n ratio)) Try.func107 rfl (by decide) rfl rfl rfl ⟨rfl, rfl⟩) ?_
      refine dw_nil ?_
      intro g6
      refine ar_op (d := none) rfl rfl (st_sta (g := g6) (off := 0) (us := [.int .i64 ((rSub (rPoint 65536) (rBend_e0 d n ratio)).lo), .int .i64 ((rSub (rPoint 65536) (rBend_e0 d n ratio)).hi), .bool ((rSub (rPoint 65536) (rBend_e0 d n ratio)).no)]) (cs := [.int .i64 ((rSub (rPoint 65536) (rBend_e0 d n ratio)).lo), .int .i64 ((rSub (rPoint 65536) (rBend_e0 d n ratio)).hi), .bool ((rSub (rPoint 65536) (rBend_e0 d n ratio)).no)]) agg35 0 rfl rfl rfl rfl rfl rfl rfl rfl rfl ?_)
      refine ar_nil ?_
      refine ac_seq ?_
      refine ac_block ?_
      refine ac_seq ?_
      refine ac_region_lit ?_
      refine ao 35 rfl rfl (st_lda (g := g6) (off := 0) (vs := [.int .i64 ((rSub (rPoint 65536) (rBend_e0 d n ratio)).lo), .int .i64 ((rSub (rPoint 65536) (rBend_e0 d n ratio)).hi), .bool ((rSub (rPoint 65536) (rBend_e0 d n ratio)).no)]) agg35 0 rfl rfl rfl rfl rfl rfl ?_)
      refine ao 36 rfl rfl (st_cf (vs := [.agg #[.int .i64 ((rSub (rPoint 65536) (rBend_e0 d n ratio)).lo), .int .i64 ((rSub (rPoint 65536) (rBend_e0 d n ratio)).hi), .bool ((rSub (rPoint 65536) (rBend_e0 d n ratio)).no)]]) (r := .bool (rRight (rSub (rPoint 65536) (rBend_e0 d n ratio)))) (c_rRight (rSub (rPoint 65536) (rBend_e0 d n ratio))) Try.func57 rfl (by decide) rfl rfl rfl ?_)
      refine ao 37 rfl rfl (st_un (u := .bool (rRight (rSub (rPoint 65536) (rBend_e0 d n ratio)))) (v := .bool (!(rRight (rSub (rPoint 65536) (rBend_e0 d n ratio))))) rfl rfl (un_not rfl) ?_)
      refine ao 34 rfl rfl (st_assign (v := .bool (!(rRight (rSub (rPoint 65536) (rBend_e0 d n ratio))))) rfl rfl ?_)
      refine ar_nil ?_
      refine bool_split (rRight (rSub (rPoint 65536) (rBend_e0 d n ratio))) (fun h3 => ?_) (fun h3 => ?_)
      · refine ac_else' (b := !(rRight (rSub (rPoint 65536) (rBend_e0 d n ratio)))) (by rw [h3]; rfl) rfl ?_
        refine ac_seq ?_
        refine ac_region_lit ?_
        refine ao 40 rfl rfl (st_fa (g := g6) (off := 0) rfl fa35_1 rfl ?_)
        refine ao 41 rfl rfl (st_ldc (g := g6) (off := 1) (v := .int .i64 ((rSub (rPoint 65536) (rBend_e0 d n ratio)).hi)) cell3 0 rfl rfl rfl rfl rfl ?_)
        refine ao 42 rfl rfl (st_bi (u := .int .i64 ((rSub (rPoint 65536) (rBend_e0 d n ratio)).hi)) (v := .int .i64 0) (r := .bool (decide (((rSub (rPoint 65536) (rBend_e0 d n ratio)).hi) < 0))) rfl rfl rfl (bi_lss rfl) ?_)
        refine ao 39 rfl rfl (st_assign (v := .bool (decide (((rSub (rPoint 65536) (rBend_e0 d n ratio)).hi) < 0))) rfl rfl ?_)
        refine ar_nil ?_
        refine bool_split (decide (((rSub (rPoint 65536) (rBend_e0 d n ratio)).hi) < 0)) (fun h4 => ?_) (fun h4 => ?_)
        · refine ac_then' (b := decide (((rSub (rPoint 65536) (rBend_e0 d n ratio)).hi) < 0)) h4 rfl ?_
          refine ac_seq ?_
          refine ac_region_lit ?_
          refine ao 43 rfl rfl (st_cf (vs := []) (r := .agg #[.int .i64 r14NoV.x.lo, .int .i64 r14NoV.x.hi, .bool r14NoV.x.no, .int .i64 r14NoV.y.lo, .int .i64 r14NoV.y.hi, .bool r14NoV.y.no, .int .i64 r14NoV.z.lo, .int .i64 r14NoV.z.hi, .bool r14NoV.z.no]) c_r14NoV Try.func150 rfl (by decide) rfl rfl rfl ?_)
          refine ar_op (d := none) rfl rfl (st_sta (g := g3) (off := 0) (us := [.int .i64 r14NoV.x.lo, .int .i64 r14NoV.x.hi, .bool r14NoV.x.no, .int .i64 r14NoV.y.lo, .int .i64 r14NoV.y.hi, .bool r14NoV.y.no, .int .i64 r14NoV.z.lo, .int .i64 r14NoV.z.hi, .bool r14NoV.z.no]) (cs := [.int .i64 r14NoV.x.lo, .int .i64 r14NoV.x.hi, .bool r14NoV.x.no, .int .i64 r14NoV.y.lo, .int .i64 r14NoV.y.hi, .bool r14NoV.y.no, .int .i64 r14NoV.z.lo, .int .i64 r14NoV.z.hi, .bool r14NoV.z.no]) agg58 3 rfl rfl rfl rfl rfl rfl rfl rfl rfl ?_)
          refine ao 7 rfl rfl (st_assign (v := .int .i64 2) rfl rfl ?_)
          refine ar_nil ?_
          refine ac_ret ?_
          exact fin_eq (v := .tuple #[.agg #[.int .i64 r14NoV.x.lo, .int .i64 r14NoV.x.hi, .bool r14NoV.x.no, .int .i64 r14NoV.y.lo, .int .i64 r14NoV.y.hi, .bool r14NoV.y.no, .int .i64 r14NoV.z.lo, .int .i64 r14NoV.z.hi, .bool r14NoV.z.no], .int .i64 2]) (by show _ = (fun (r : V × Int) => (.tuple #[.agg #[.int .i64 r.1.x.lo, .int .i64 r.1.x.hi, .bool r.1.x.no, .int .i64 r.1.y.lo, .int .i64 r.1.y.hi, .bool r.1.y.no, .int .i64 r.1.z.lo, .int .i64 r.1.z.hi, .bool r.1.z.no], .int .i64 r.2] : Value)) (rBend d n ratio); rw [rBend, h4, h3, h2, h1] <;> rfl) (fin_ret (res_ct (vs := [.int .i64 r14NoV.x.lo, .int .i64 r14NoV.x.hi, .bool r14NoV.x.no, .int .i64 r14NoV.y.lo, .int .i64 r14NoV.y.hi, .bool r14NoV.y.no, .int .i64 r14NoV.z.lo, .int .i64 r14NoV.z.hi, .bool r14NoV.z.no]) agg58 3 rfl rfl rfl rfl rfl rfl rfl))
        · refine ac_else' (b := decide (((rSub (rPoint 65536) (rBend_e0 d n ratio)).hi) < 0)) h4 rfl ?_
          refine ac_seq ?_
          refine ac_region_lit ?_
          refine ao 45 rfl rfl (st_fa (g := g6) (off := 0) rfl fa35_0 rfl ?_)
          refine ao 46 rfl rfl (st_ldc (g := g6) (off := 0) (v := .int .i64 ((rSub (rPoint 65536) (rBend_e0 d n ratio)).lo)) cell3 0 rfl rfl rfl rfl rfl ?_)
          refine ao 47 rfl rfl (st_bi (u := .int .i64 ((rSub (rPoint 65536) (rBend_e0 d n ratio)).lo)) (v := .int .i64 0) (r := .bool (decide (((rSub (rPoint 65536) (rBend_e0 d n ratio)).lo) < 0))) rfl rfl rfl (bi_lss rfl) ?_)
          refine ao 44 rfl rfl (st_assign (v := .bool (decide (((rSub (rPoint 65536) (rBend_e0 d n ratio)).lo) < 0))) rfl rfl ?_)
          refine ar_nil ?_
          refine bool_split (decide (((rSub (rPoint 65536) (rBend_e0 d n ratio)).lo) < 0)) (fun h5 => ?_) (fun h5 => ?_)
          · refine ac_then' (b := decide (((rSub (rPoint 65536) (rBend_e0 d n ratio)).lo) < 0)) h5 rfl ?_
            refine ac_seq ?_
            refine ac_region_lit ?_
            refine ao 48 rfl rfl (st_cf (vs := []) (r := .agg #[.int .i64 r14NoV.x.lo, .int .i64 r14NoV.x.hi, .bool r14NoV.x.no, .int .i64 r14NoV.y.lo, .int .i64 r14NoV.y.hi, .bool r14NoV.y.no, .int .i64 r14NoV.z.lo, .int .i64 r14NoV.z.hi, .bool r14NoV.z.no]) c_r14NoV Try.func150 rfl (by decide) rfl rfl rfl ?_)
            refine ar_op (d := none) rfl rfl (st_sta (g := g3) (off := 0) (us := [.int .i64 r14NoV.x.lo, .int .i64 r14NoV.x.hi, .bool r14NoV.x.no, .int .i64 r14NoV.y.lo, .int .i64 r14NoV.y.hi, .bool r14NoV.y.no, .int .i64 r14NoV.z.lo, .int .i64 r14NoV.z.hi, .bool r14NoV.z.no]) (cs := [.int .i64 r14NoV.x.lo, .int .i64 r14NoV.x.hi, .bool r14NoV.x.no, .int .i64 r14NoV.y.lo, .int .i64 r14NoV.y.hi, .bool r14NoV.y.no, .int .i64 r14NoV.z.lo, .int .i64 r14NoV.z.hi, .bool r14NoV.z.no]) agg58 3 rfl rfl rfl rfl rfl rfl rfl rfl rfl ?_)
            refine ao 7 rfl rfl (st_assign (v := .int .i64 0) rfl rfl ?_)
            refine ar_nil ?_
            refine ac_ret ?_
            exact fin_eq (v := .tuple #[.agg #[.int .i64 r14NoV.x.lo, .int .i64 r14NoV.x.hi, .bool r14NoV.x.no, .int .i64 r14NoV.y.lo, .int .i64 r14NoV.y.hi, .bool r14NoV.y.no, .int .i64 r14NoV.z.lo, .int .i64 r14NoV.z.hi, .bool r14NoV.z.no], .int .i64 0]) (by show _ = (fun (r : V × Int) => (.tuple #[.agg #[.int .i64 r.1.x.lo, .int .i64 r.1.x.hi, .bool r.1.x.no, .int .i64 r.1.y.lo, .int .i64 r.1.y.hi, .bool r.1.y.no, .int .i64 r.1.z.lo, .int .i64 r.1.z.hi, .bool r.1.z.no], .int .i64 r.2] : Value)) (rBend d n ratio); rw [rBend, h5, h4, h3, h2, h1] <;> rfl) (fin_ret (res_ct (vs := [.int .i64 r14NoV.x.lo, .int .i64 r14NoV.x.hi, .bool r14NoV.x.no, .int .i64 r14NoV.y.lo, .int .i64 r14NoV.y.hi, .bool r14NoV.y.no, .int .i64 r14NoV.z.lo, .int .i64 r14NoV.z.hi, .bool r14NoV.z.no]) agg58 3 rfl rfl rfl rfl rfl rfl rfl))
          · refine ac_else' (b := decide (((rSub (rPoint 65536) (rBend_e0 d n ratio)).lo) < 0)) h5 rfl ?_
            refine ac_skip ?_
            refine ac_seq ?_
            refine ac_draw1 (id := 12) [0, 1, 2, 3, 4, 5, 6, 7, 8, 9, 10, 11] [13] 12 11 58 _ _ (by kernel_rfl) follows rfl zero58 ⟨_, rfl, rfl, rfl, rfl⟩ ?_
            refine dw_op (d := (some 49)) (.agg #[.int .i64 d.x.lo, .int .i64 d.x.hi, .bool d.x.no, .int .i64 d.y.lo, .int .i64 d.y.hi, .bool d.y.no, .int .i64 d.z.lo, .int .i64 d.z.hi, .bool d.z.no]) rfl rfl rfl (st_lda (g := g0) (off := 0) (vs := [.int .i64 d.x.lo, .int .i64 d.x.hi, .bool d.x.no, .int .i64 d.y.lo, .int .i64 d.y.hi, .bool d.y.no, .int .i64 d.z.lo, .int .i64 d.z.hi, .bool d.z.no]) agg58 6 rfl rfl rfl rfl rfl rfl ⟨rfl, rfl⟩) ?_
            refine dw_op (d := (some 50)) (.agg #[.int .i64 ratio.lo, .int .i64 ratio.hi, .bool ratio.no]) rfl rfl rfl (st_lda (g := g2) (off := 0) (vs := [.int .i64 ratio.lo, .int .i64 ratio.hi, .bool ratio.no]) agg35 4 rfl rfl rfl rfl rfl rfl ⟨rfl, rfl⟩) ?_
            refine dw_op (d := (some 51)) (.agg #[.int .i64 (((rVecScale d ratio).x).lo), .int .i64 (((rVecScale d ratio).x).hi), .bool (((rVecScale d ratio).x).no), .int .i64 (((rVecScale d ratio).y).lo), .int .i64 (((rVecScale d ratio).y).hi), .bool (((rVecScale d ratio).y).no), .int .i64 (((rVecScale d ratio).z).lo), .int .i64 (((rVecScale d ratio).z).hi), .bool (((rVecScale d ratio).z).no)]) rfl rfl rfl (st_cf (vs := [.agg #[.int .i64 d.x.lo, .int .i64 d.x.hi, .bool d.x.no, .int .i64 d.y.lo, .int .i64 d.y.hi, .bool d.y.no, .int .i64 d.z.lo, .int .i64 d.z.hi, .bool d.z.no], .agg #[.int .i64 ratio.lo, .int .i64 ratio.hi, .bool ratio.no]]) (r := .agg #[.int .i64 (((rVecScale d ratio).x).lo), .int .i64 (((rVecScale d ratio).x).hi), .bool (((rVecScale d ratio).x).no), .int .i64 (((rVecScale d ratio).y).lo), .int .i64 (((rVecScale d ratio).y).hi), .bool (((rVecScale d ratio).y).no), .int .i64 (((rVecScale d ratio).z).lo), .int .i64 (((rVecScale d ratio).z).hi), .bool (((rVecScale d ratio).z).no)]) (c_rVecScale d ratio) Try.func125 rfl (by decide) rfl rfl rfl ⟨rfl, rfl⟩) ?_
            refine dw_op (d := (some 52)) (.agg #[.int .i64 n.x.lo, .int .i64 n.x.hi, .bool n.x.no, .int .i64 n.y.lo, .int .i64 n.y.hi, .bool n.y.no, .int .i64 n.z.lo, .int .i64 n.z.hi, .bool n.z.no]) rfl rfl rfl (st_lda (g := g1) (off := 0) (vs := [.int .i64 n.x.lo, .int .i64 n.x.hi, .bool n.x.no, .int .i64 n.y.lo, .int .i64 n.y.hi, .bool n.y.no, .int .i64 n.z.lo, .int .i64 n.z.hi, .bool n.z.no]) agg58 5 rfl rfl rfl rfl rfl rfl ⟨rfl, rfl⟩) ?_
            refine dw_op (d := (some 53)) (.agg #[.int .i64 ((rSub (rPoint 65536) (rBend_e0 d n ratio)).lo), .int .i64 ((rSub (rPoint 65536) (rBend_e0 d n ratio)).hi), .bool ((rSub (rPoint 65536) (rBend_e0 d n ratio)).no)]) rfl rfl rfl (st_lda (g := g6) (off := 0) (vs := [.int .i64 ((rSub (rPoint 65536) (rBend_e0 d n ratio)).lo), .int .i64 ((rSub (rPoint 65536) (rBend_e0 d n ratio)).hi), .bool ((rSub (rPoint 65536) (rBend_e0 d n ratio)).no)]) agg35 0 rfl rfl rfl rfl rfl rfl ⟨rfl, rfl⟩) ?_
            refine dw_op (d := (some 54)) (.agg #[.int .i64 ((rRootIv (rSub (rPoint 65536) (rBend_e0 d n ratio))).lo), .int .i64 ((rRootIv (rSub (rPoint 65536) (rBend_e0 d n ratio))).hi), .bool ((rRootIv (rSub (rPoint 65536) (rBend_e0 d n ratio))).no)]) rfl rfl rfl (st_cf (vs := [.agg #[.int .i64 ((rSub (rPoint 65536) (rBend_e0 d n ratio)).lo), .int .i64 ((rSub (rPoint 65536) (rBend_e0 d n ratio)).hi), .bool ((rSub (rPoint 65536) (rBend_e0 d n ratio)).no)]]) (r := .agg #[.int .i64 ((rRootIv (rSub (rPoint 65536) (rBend_e0 d n ratio))).lo), .int .i64 ((rRootIv (rSub (rPoint 65536) (rBend_e0 d n ratio))).hi), .bool ((rRootIv (rSub (rPoint 65536) (rBend_e0 d n ratio))).no)]) (c_rRootIv (rSub (rPoint 65536) (rBend_e0 d n ratio))) Try.func113 rfl (by decide) rfl rfl rfl ⟨rfl, rfl⟩) ?_
            refine dw_op (d := (some 55)) (.agg #[.int .i64 ratio.lo, .int .i64 ratio.hi, .bool ratio.no]) rfl rfl rfl (st_lda (g := g2) (off := 0) (vs := [.int .i64 ratio.lo, .int .i64 ratio.hi, .bool ratio.no]) agg35 4 rfl rfl rfl rfl rfl rfl ⟨rfl, rfl⟩) ?_
            refine dw_op (d := (some 56)) (.agg #[.int .i64 ((rVecDot d n).lo), .int .i64 ((rVecDot d n).hi), .bool ((rVecDot d n).no)]) rfl rfl rfl (st_lda (g := g5) (off := 0) (vs := [.int .i64 ((rVecDot d n).lo), .int .i64 ((rVecDot d n).hi), .bool ((rVecDot d n).no)]) agg35 1 rfl rfl rfl rfl rfl rfl ⟨rfl, rfl⟩) ?_
            refine dw_op (d := (some 57)) (.agg #[.int .i64 ((rMulIv ratio (rVecDot d n)).lo), .int .i64 ((rMulIv ratio (rVecDot d n)).hi), .bool ((rMulIv ratio (rVecDot d n)).no)]) rfl rfl rfl (st_cf (vs := [.agg #[.int .i64 ratio.lo, .int .i64 ratio.hi, .bool ratio.no], .agg #[.int .i64 ((rVecDot d n).lo), .int .i64 ((rVecDot d n).hi), .bool ((rVecDot d n).no)]]) (r := .agg #[.int .i64 ((rMulIv ratio (rVecDot d n)).lo), .int .i64 ((rMulIv ratio (rVecDot d n)).hi), .bool ((rMulIv ratio (rVecDot d n)).no)]) (c_rMulIv ratio (rVecDot d n)) Try.func109 rfl (by decide) rfl rfl rfl ⟨rfl, rfl⟩) ?_
            refine dw_op (d := (some 58)) (.agg #[.int .i64 ((rBend_e1 d n ratio).lo), .int .i64 ((rBend_e1 d n ratio).hi), .bool ((rBend_e1 d n ratio).no)]) rfl rfl rfl (st_cf (vs := [.agg #[.int .i64 ((rRootIv (rSub (rPoint 65536) (rBend_e0 d n ratio))).lo), .int .i64 ((rRootIv (rSub (rPoint 65536) (rBend_e0 d n ratio))).hi), .bool ((rRootIv (rSub (rPoint 65536) (rBend_e0 d n ratio))).no)], .agg #[.int .i64 ((rMulIv ratio (rVecDot d n)).lo), .int .i64 ((rMulIv ratio (rVecDot d n)).hi), .bool ((rMulIv ratio (rVecDot d n)).no)]]) (r := .agg #[.int .i64 ((rBend_e1 d n ratio).lo), .int .i64 ((rBend_e1 d n ratio).hi), .bool ((rBend_e1 d n ratio).no)]) (c_rSub (rRootIv (rSub (rPoint 65536) (rBend_e0 d n ratio))) (rMulIv ratio (rVecDot d n))) Try.func107 rfl (by decide) rfl rfl rfl ⟨rfl, rfl⟩) ?_
            refine dw_op (d := (some 59)) (.agg #[.int .i64 (((rVecScale n (rBend_e1 d n ratio)).x).lo), .int .i64 (((rVecScale n (rBend_e1 d n ratio)).x).hi), .bool (((rVecScale n (rBend_e1 d n ratio)).x).no), .int .i64 (((rVecScale n (rBend_e1 d n ratio)).y).lo), .int .i64 (((rVecScale n (rBend_e1 d n ratio)).y).hi), .bool (((rVecScale n (rBend_e1 d n ratio)).y).no), .int .i64 (((rVecScale n (rBend_e1 d n ratio)).z).lo), .int .i64 (((rVecScale n (rBend_e1 d n ratio)).z).hi), .bool (((rVecScale n (rBend_e1 d n ratio)).z).no)]) rfl rfl rfl (st_cf (vs := [.agg #[.int .i64 n.x.lo, .int .i64 n.x.hi, .bool n.x.no, .int .i64 n.y.lo, .int .i64 n.y.hi, .bool n.y.no, .int .i64 n.z.lo, .int .i64 n.z.hi, .bool n.z.no], .agg #[.int .i64 ((rBend_e1 d n ratio).lo), .int .i64 ((rBend_e1 d n ratio).hi), .bool ((rBend_e1 d n ratio).no)]]) (r := .agg #[.int .i64 (((rVecScale n (rBend_e1 d n ratio)).x).lo), .int .i64 (((rVecScale n (rBend_e1 d n ratio)).x).hi), .bool (((rVecScale n (rBend_e1 d n ratio)).x).no), .int .i64 (((rVecScale n (rBend_e1 d n ratio)).y).lo), .int .i64 (((rVecScale n (rBend_e1 d n ratio)).y).hi), .bool (((rVecScale n (rBend_e1 d n ratio)).y).no), .int .i64 (((rVecScale n (rBend_e1 d n ratio)).z).lo), .int .i64 (((rVecScale n (rBend_e1 d n ratio)).z).hi), .bool (((rVecScale n (rBend_e1 d n ratio)).z).no)]) (c_rVecScale n (rBend_e1 d n ratio)) Try.func125 rfl (by decide) rfl rfl rfl ⟨rfl, rfl⟩) ?_
            refine dw_op (d := (some 60)) (.agg #[.int .i64 (((rBend_e2 d n ratio).x).lo), .int .i64 (((rBend_e2 d n ratio).x).hi), .bool (((rBend_e2 d n ratio).x).no), .int .i64 (((rBend_e2 d n ratio).y).lo), .int .i64 (((rBend_e2 d n ratio).y).hi), .bool (((rBend_e2 d n ratio).y).no), .int .i64 (((rBend_e2 d n ratio).z).lo), .int .i64 (((rBend_e2 d n ratio).z).hi), .bool (((rBend_e2 d n ratio).z).no)]) rfl rfl rfl (st_cf (vs := [.agg #[.int .i64 (((rVecScale d ratio).x).lo), .int .i64 (((rVecScale d ratio).x).hi), .bool (((rVecScale d ratio).x).no), .int .i64 (((rVecScale d ratio).y).lo), .int .i64 (((rVecScale d ratio).y).hi), .bool (((rVecScale d ratio).y).no), .int .i64 (((rVecScale d ratio).z).lo), .int .i64 (((rVecScale d ratio).z).hi), .bool (((rVecScale d ratio).z).no)], .agg #[.int .i64 (((rVecScale n (rBend_e1 d n ratio)).x).lo), .int .i64 (((rVecScale n (rBend_e1 d n ratio)).x).hi), .bool (((rVecScale n (rBend_e1 d n ratio)).x).no), .int .i64 (((rVecScale n (rBend_e1 d n ratio)).y).lo), .int .i64 (((rVecScale n (rBend_e1 d n ratio)).y).hi), .bool (((rVecScale n (rBend_e1 d n ratio)).y).no), .int .i64 (((rVecScale n (rBend_e1 d n ratio)).z).lo), .int .i64 (((rVecScale n (rBend_e1 d n ratio)).z).hi), .bool (((rVecScale n (rBend_e1 d n ratio)).z).no)]]) (r := .agg #[.int .i64 (((rBend_e2 d n ratio).x).lo), .int .i64 (((rBend_e2 d n ratio).x).hi), .bool (((rBend_e2 d n ratio).x).no), .int .i64 (((rBend_e2 d n ratio).y).lo), .int .i64 (((rBend_e2 d n ratio).y).hi), .bool (((rBend_e2 d n ratio).y).no), .int .i64 (((rBend_e2 d n ratio).z).lo), .int .i64 (((rBend_e2 d n ratio).z).hi), .bool (((rBend_e2 d n ratio).z).no)]) (c_rVecAdd (rVecScale d ratio) (rVecScale n (rBend_e1 d n ratio))) Try.func123 rfl (by decide) rfl rfl rfl ⟨rfl, rfl⟩) ?_
            refine dw_nil ?_
            intro g7
            refine ar_op (d := none) rfl rfl (st_sta (g := g7) (off := 0) (us := [.int .i64 (((rBend_e2 d n ratio).x).lo), .int .i64 (((rBend_e2 d n ratio).x).hi), .bool (((rBend_e2 d n ratio).x).no), .int .i64 (((rBend_e2 d n ratio).y).lo), .int .i64 (((rBend_e2 d n ratio).y).hi), .bool (((rBend_e2 d n ratio).y).no), .int .i64 (((rBend_e2 d n ratio).z).lo), .int .i64 (((rBend_e2 d n ratio).z).hi), .bool (((rBend_e2 d n ratio).z).no)]) (cs := [.int .i64 (((rBend_e2 d n ratio).x).lo), .int .i64 (((rBend_e2 d n ratio).x).hi), .bool (((rBend_e2 d n ratio).x).no), .int .i64 (((rBend_e2 d n ratio).y).lo), .int .i64 (((rBend_e2 d n ratio).y).hi), .bool (((rBend_e2 d n ratio).y).no), .int .i64 (((rBend_e2 d n ratio).z).lo), .int .i64 (((rBend_e2 d n ratio).z).hi), .bool (((rBend_e2 d n ratio).z).no)]) agg58 0 rfl rfl rfl rfl rfl rfl rfl rfl rfl ?_)
            refine ar_nil ?_
            refine ac_seq ?_
            refine ac_seq ?_
            refine ac_region_lit ?_
            refine ao 61 rfl rfl (st_lda (g := g7) (off := 0) (vs := [.int .i64 (((rBend_e2 d n ratio).x).lo), .int .i64 (((rBend_e2 d n ratio).x).hi), .bool (((rBend_e2 d n ratio).x).no), .int .i64 (((rBend_e2 d n ratio).y).lo), .int .i64 (((rBend_e2 d n ratio).y).hi), .bool (((rBend_e2 d n ratio).y).no), .int .i64 (((rBend_e2 d n ratio).z).lo), .int .i64 (((rBend_e2 d n ratio).z).hi), .bool (((rBend_e2 d n ratio).z).no)]) agg58 0 rfl rfl rfl rfl rfl rfl ?_)
            refine ao 62 rfl rfl (st_cf (vs := [.agg #[.int .i64 (((rBend_e2 d n ratio).x).lo), .int .i64 (((rBend_e2 d n ratio).x).hi), .bool (((rBend_e2 d n ratio).x).no), .int .i64 (((rBend_e2 d n ratio).y).lo), .int .i64 (((rBend_e2 d n ratio).y).hi), .bool (((rBend_e2 d n ratio).y).no), .int .i64 (((rBend_e2 d n ratio).z).lo), .int .i64 (((rBend_e2 d n ratio).z).hi), .bool (((rBend_e2 d n ratio).z).no)]]) (r := .bool (rVecRight (rBend_e2 d n ratio))) (c_rVecRight (rBend_e2 d n ratio)) Try.func122 rfl (by decide) rfl rfl rfl ?_)
            refine ao 63 rfl rfl (st_un (u := .bool (rVecRight (rBend_e2 d n ratio))) (v := .bool (!(rVecRight (rBend_e2 d n ratio)))) rfl rfl (un_not rfl) ?_)
            refine ar_nil ?_
            refine bool_split (rVecRight (rBend_e2 d n ratio)) (fun h6 => ?_) (fun h6 => ?_)
            · refine ac_else' (b := !(rVecRight (rBend_e2 d n ratio))) (by rw [h6]; rfl) rfl ?_
              refine ac_skip ?_
              refine ac_seq ?_
              refine ac_region_lit ?_
              refine ao 65 rfl rfl (st_lda (g := g7) (off := 0) (vs := [.int .i64 (((rBend_e2 d n ratio).x).lo), .int .i64 (((rBend_e2 d n ratio).x).hi), .bool (((rBend_e2 d n ratio).x).no), .int .i64 (((rBend_e2 d n ratio).y).lo), .int .i64 (((rBend_e2 d n ratio).y).hi), .bool (((rBend_e2 d n ratio).y).no), .int .i64 (((rBend_e2 d n ratio).z).lo), .int .i64 (((rBend_e2 d n ratio).z).hi), .bool (((rBend_e2 d n ratio).z).no)]) agg58 0 rfl rfl rfl rfl rfl rfl ?_)
              refine ar_op (d := none) rfl rfl (st_sta (g := g3) (off := 0) (us := [.int .i64 (((rBend_e2 d n ratio).x).lo), .int .i64 (((rBend_e2 d n ratio).x).hi), .bool (((rBend_e2 d n ratio).x).no), .int .i64 (((rBend_e2 d n ratio).y).lo), .int .i64 (((rBend_e2 d n ratio).y).hi), .bool (((rBend_e2 d n ratio).y).no), .int .i64 (((rBend_e2 d n ratio).z).lo), .int .i64 (((rBend_e2 d n ratio).z).hi), .bool (((rBend_e2 d n ratio).z).no)]) (cs := [.int .i64 (((rBend_e2 d n ratio).x).lo), .int .i64 (((rBend_e2 d n ratio).x).hi), .bool (((rBend_e2 d n ratio).x).no), .int .i64 (((rBend_e2 d n ratio).y).lo), .int .i64 (((rBend_e2 d n ratio).y).hi), .bool (((rBend_e2 d n ratio).y).no), .int .i64 (((rBend_e2 d n ratio).z).lo), .int .i64 (((rBend_e2 d n ratio).z).hi), .bool (((rBend_e2 d n ratio).z).no)]) agg58 4 rfl rfl rfl rfl rfl rfl rfl rfl rfl ?_)
              refine ao 7 rfl rfl (st_assign (v := .int .i64 1) rfl rfl ?_)
              refine ar_nil ?_
              refine ac_ret ?_
              exact fin_eq (v := .tuple #[.agg #[.int .i64 (((rBend_e2 d n ratio).x).lo), .int .i64 (((rBend_e2 d n ratio).x).hi), .bool (((rBend_e2 d n ratio).x).no), .int .i64 (((rBend_e2 d n ratio).y).lo), .int .i64 (((rBend_e2 d n ratio).y).hi), .bool (((rBend_e2 d n ratio).y).no), .int .i64 (((rBend_e2 d n ratio).z).lo), .int .i64 (((rBend_e2 d n ratio).z).hi), .bool (((rBend_e2 d n ratio).z).no)], .int .i64 1]) (by show _ = (fun (r : V × Int) => (.tuple #[.agg #[.int .i64 r.1.x.lo, .int .i64 r.1.x.hi, .bool r.1.x.no, .int .i64 r.1.y.lo, .int .i64 r.1.y.hi, .bool r.1.y.no, .int .i64 r.1.z.lo, .int .i64 r.1.z.hi, .bool r.1.z.no], .int .i64 r.2] : Value)) (rBend d n ratio); rw [rBend, h6, h5, h4, h3, h2, h1] <;> rfl) (fin_ret (res_ct (vs := [.int .i64 (((rBend_e2 d n ratio).x).lo), .int .i64 (((rBend_e2 d n ratio).x).hi), .bool (((rBend_e2 d n ratio).x).no), .int .i64 (((rBend_e2 d n ratio).y).lo), .int .i64 (((rBend_e2 d n ratio).y).hi), .bool (((rBend_e2 d n ratio).y).no), .int .i64 (((rBend_e2 d n ratio).z).lo), .int .i64 (((rBend_e2 d n ratio).z).hi), .bool (((rBend_e2 d n ratio).z).no)]) agg58 4 rfl rfl rfl rfl rfl rfl rfl))
            · refine ac_then' (b := !(rVecRight (rBend_e2 d n ratio))) (by rw [h6]; rfl) rfl ?_
              refine ac_seq ?_
              refine ac_region_lit ?_
              refine ao 64 rfl rfl (st_cf (vs := []) (r := .agg #[.int .i64 r14NoV.x.lo, .int .i64 r14NoV.x.hi, .bool r14NoV.x.no, .int .i64 r14NoV.y.lo, .int .i64 r14NoV.y.hi, .bool r14NoV.y.no, .int .i64 r14NoV.z.lo, .int .i64 r14NoV.z.hi, .bool r14NoV.z.no]) c_r14NoV Try.func150 rfl (by decide) rfl rfl rfl ?_)
              refine ar_op (d := none) rfl rfl (st_sta (g := g3) (off := 0) (us := [.int .i64 r14NoV.x.lo, .int .i64 r14NoV.x.hi, .bool r14NoV.x.no, .int .i64 r14NoV.y.lo, .int .i64 r14NoV.y.hi, .bool r14NoV.y.no, .int .i64 r14NoV.z.lo, .int .i64 r14NoV.z.hi, .bool r14NoV.z.no]) (cs := [.int .i64 r14NoV.x.lo, .int .i64 r14NoV.x.hi, .bool r14NoV.x.no, .int .i64 r14NoV.y.lo, .int .i64 r14NoV.y.hi, .bool r14NoV.y.no, .int .i64 r14NoV.z.lo, .int .i64 r14NoV.z.hi, .bool r14NoV.z.no]) agg58 4 rfl rfl rfl rfl rfl rfl rfl rfl rfl ?_)
              refine ao 7 rfl rfl (st_assign (v := .int .i64 0) rfl rfl ?_)
              refine ar_nil ?_
              refine ac_ret ?_
              exact fin_eq (v := .tuple #[.agg #[.int .i64 r14NoV.x.lo, .int .i64 r14NoV.x.hi, .bool r14NoV.x.no, .int .i64 r14NoV.y.lo, .int .i64 r14NoV.y.hi, .bool r14NoV.y.no, .int .i64 r14NoV.z.lo, .int .i64 r14NoV.z.hi, .bool r14NoV.z.no], .int .i64 0]) (by show _ = (fun (r : V × Int) => (.tuple #[.agg #[.int .i64 r.1.x.lo, .int .i64 r.1.x.hi, .bool r.1.x.no, .int .i64 r.1.y.lo, .int .i64 r.1.y.hi, .bool r.1.y.no, .int .i64 r.1.z.lo, .int .i64 r.1.z.hi, .bool r.1.z.no], .int .i64 r.2] : Value)) (rBend d n ratio); rw [rBend, h6, h5, h4, h3, h2, h1] <;> rfl) (fin_ret (res_ct (vs := [.int .i64 r14NoV.x.lo, .int .i64 r14NoV.x.hi, .bool r14NoV.x.no, .int .i64 r14NoV.y.lo, .int .i64 r14NoV.y.hi, .bool r14NoV.y.no, .int .i64 r14NoV.z.lo, .int .i64 r14NoV.z.hi, .bool r14NoV.z.no]) agg58 4 rfl rfl rfl rfl rfl rfl rfl))
      · refine ac_then' (b := !(rRight (rSub (rPoint 65536) (rBend_e0 d n ratio)))) (by rw [h3]; rfl) rfl ?_
        refine ac_seq ?_
        refine ac_region_lit ?_
        refine ao 38 rfl rfl (st_cf (vs := []) (r := .agg #[.int .i64 r14NoV.x.lo, .int .i64 r14NoV.x.hi, .bool r14NoV.x.no, .int .i64 r14NoV.y.lo, .int .i64 r14NoV.y.hi, .bool r14NoV.y.no, .int .i64 r14NoV.z.lo, .int .i64 r14NoV.z.hi, .bool r14NoV.z.no]) c_r14NoV Try.func150 rfl (by decide) rfl rfl rfl ?_)
        refine ar_op (d := none) rfl rfl (st_sta (g := g3) (off := 0) (us := [.int .i64 r14NoV.x.lo, .int .i64 r14NoV.x.hi, .bool r14NoV.x.no, .int .i64 r14NoV.y.lo, .int .i64 r14NoV.y.hi, .bool r14NoV.y.no, .int .i64 r14NoV.z.lo, .int .i64 r14NoV.z.hi, .bool r14NoV.z.no]) (cs := [.int .i64 r14NoV.x.lo, .int .i64 r14NoV.x.hi, .bool r14NoV.x.no, .int .i64 r14NoV.y.lo, .int .i64 r14NoV.y.hi, .bool r14NoV.y.no, .int .i64 r14NoV.z.lo, .int .i64 r14NoV.z.hi, .bool r14NoV.z.no]) agg58 3 rfl rfl rfl rfl rfl rfl rfl rfl rfl ?_)
        refine ao 7 rfl rfl (st_assign (v := .int .i64 0) rfl rfl ?_)
        refine ar_nil ?_
        refine ac_ret ?_
        exact fin_eq (v := .tuple #[.agg #[.int .i64 r14NoV.x.lo, .int .i64 r14NoV.x.hi, .bool r14NoV.x.no, .int .i64 r14NoV.y.lo, .int .i64 r14NoV.y.hi, .bool r14NoV.y.no, .int .i64 r14NoV.z.lo, .int .i64 r14NoV.z.hi, .bool r14NoV.z.no], .int .i64 0]) (by show _ = (fun (r : V × Int) => (.tuple #[.agg #[.int .i64 r.1.x.lo, .int .i64 r.1.x.hi, .bool r.1.x.no, .int .i64 r.1.y.lo, .int .i64 r.1.y.hi, .bool r.1.y.no, .int .i64 r.1.z.lo, .int .i64 r.1.z.hi, .bool r.1.z.no], .int .i64 r.2] : Value)) (rBend d n ratio); rw [rBend, h3, h2, h1] <;> rfl) (fin_ret (res_ct (vs := [.int .i64 r14NoV.x.lo, .int .i64 r14NoV.x.hi, .bool r14NoV.x.no, .int .i64 r14NoV.y.lo, .int .i64 r14NoV.y.hi, .bool r14NoV.y.no, .int .i64 r14NoV.z.lo, .int .i64 r14NoV.z.hi, .bool r14NoV.z.no]) agg58 3 rfl rfl rfl rfl rfl rfl rfl))
  · refine ar_sk (d := (some 20)) (by show ((!(rRight (rVecDot d n))) == false) = false; rw [h1]; rfl) rfl ?_
    refine ar_sk (d := (some 21)) (by show ((!(rRight (rVecDot d n))) == false) = false; rw [h1]; rfl) rfl ?_
    refine ar_sk (d := (some 22)) (by show ((!(rRight (rVecDot d n))) == false) = false; rw [h1]; rfl) rfl ?_
    refine ao 23 rfl rfl (st_pkt' (b := !(rRight (rVecDot d n))) (v := .bool true) (by rw [h1]; rfl) rfl rfl rfl ?_)
    refine ar_nil ?_
    refine ac_then rfl ?_
    refine ac_seq ?_
    refine ac_region_lit ?_
    refine ao 24 rfl rfl (st_cf (vs := []) (r := .agg #[.int .i64 r14NoV.x.lo, .int .i64 r14NoV.x.hi, .bool r14NoV.x.no, .int .i64 r14NoV.y.lo, .int .i64 r14NoV.y.hi, .bool r14NoV.y.no, .int .i64 r14NoV.z.lo, .int .i64 r14NoV.z.hi, .bool r14NoV.z.no]) c_r14NoV Try.func150 rfl (by decide) rfl rfl rfl ?_)
    refine ar_op (d := none) rfl rfl (st_sta (g := g3) (off := 0) (us := [.int .i64 r14NoV.x.lo, .int .i64 r14NoV.x.hi, .bool r14NoV.x.no, .int .i64 r14NoV.y.lo, .int .i64 r14NoV.y.hi, .bool r14NoV.y.no, .int .i64 r14NoV.z.lo, .int .i64 r14NoV.z.hi, .bool r14NoV.z.no]) (cs := [.int .i64 r14NoV.x.lo, .int .i64 r14NoV.x.hi, .bool r14NoV.x.no, .int .i64 r14NoV.y.lo, .int .i64 r14NoV.y.hi, .bool r14NoV.y.no, .int .i64 r14NoV.z.lo, .int .i64 r14NoV.z.hi, .bool r14NoV.z.no]) agg58 2 rfl rfl rfl rfl rfl rfl rfl rfl rfl ?_)
    refine ao 7 rfl rfl (st_assign (v := .int .i64 0) rfl rfl ?_)
    refine ar_nil ?_
    refine ac_ret ?_
    exact fin_eq (v := .tuple #[.agg #[.int .i64 r14NoV.x.lo, .int .i64 r14NoV.x.hi, .bool r14NoV.x.no, .int .i64 r14NoV.y.lo, .int .i64 r14NoV.y.hi, .bool r14NoV.y.no, .int .i64 r14NoV.z.lo, .int .i64 r14NoV.z.hi, .bool r14NoV.z.no], .int .i64 0]) (by show _ = (fun (r : V × Int) => (.tuple #[.agg #[.int .i64 r.1.x.lo, .int .i64 r.1.x.hi, .bool r.1.x.no, .int .i64 r.1.y.lo, .int .i64 r.1.y.hi, .bool r.1.y.no, .int .i64 r.1.z.lo, .int .i64 r.1.z.hi, .bool r.1.z.no], .int .i64 r.2] : Value)) (rBend d n ratio); rw [rBend, h1] <;> rfl) (fin_ret (res_ct (vs := [.int .i64 r14NoV.x.lo, .int .i64 r14NoV.x.hi, .bool r14NoV.x.no, .int .i64 r14NoV.y.lo, .int .i64 r14NoV.y.hi, .bool r14NoV.y.no, .int .i64 r14NoV.z.lo, .int .i64 r14NoV.z.hi, .bool r14NoV.z.no]) agg58 2 rfl rfl rfl rfl rfl rfl rfl))
end Go.Proofs.Ytbaihncnbejjbaa
