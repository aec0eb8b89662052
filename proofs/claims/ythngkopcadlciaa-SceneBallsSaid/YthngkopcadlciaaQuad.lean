import Derived.Test.YthngkopcadlciaaEndsD
set_option linter.unusedVariables false
set_option linter.unusedSimpArgs false
namespace Go.Proofs.Ythngkopcadlciaa
open Go.RowKit

attribute [local irreducible] AC AR DWalk
def quadNear (a : Iv) (b : Iv) (c : Iv) : Iv × Int := (bif (ivSub (ivSqr b) (ivMul a c)).no then (ivNone, 0) else (bif decide (((ivSub (ivSqr b) (ivMul a c)).hi) < 0) then (ivNone, 2) else (bif decide (((ivSub (ivSqr b) (ivMul a c)).lo) < 0) then (ivNone, 0) else (bif (ivDiv c (ivSub (ivRoot (ivSub (ivSqr b) (ivMul a c))) b)).no then (ivNone, 0) else ((⟨(ivDiv c (ivSub (ivRoot (ivSub (ivSqr b) (ivMul a c))) b)).lo, (ivDiv c (ivSub (ivRoot (ivSub (ivSqr b) (ivMul a c))) b)).hi, false⟩ : Iv), 1)))))
set_option maxRecDepth 100000 in
theorem c_quadNear (a : Iv) (b : Iv) (c : Iv) : Gets Try.prog 119 #[.agg #[.int .i64 a.lo, .int .i64 a.hi, .bool a.no], .agg #[.int .i64 b.lo, .int .i64 b.hi, .bool b.no], .agg #[.int .i64 c.lo, .int .i64 c.hi, .bool c.no]] ((fun (r : Iv × Int) => (.tuple #[.agg #[.int .i64 r.1.lo, .int .i64 r.1.hi, .bool r.1.no], .int .i64 r.2] : Value)) (quadNear a b c)) := by
  refine gets_fin Try.func119 rfl rfl rfl ?_
  refine ac_seq ?_
  refine ac_region_lit ?_
  refine ao 3 rfl rfl (st_box (v := .agg #[.int .i64 a.lo, .int .i64 a.hi, .bool a.no]) (cs := [.int .i64 a.lo, .int .i64 a.hi, .bool a.no]) rfl rfl rfl fun g0 => ?_)
  refine ao 4 rfl rfl (st_box (v := .agg #[.int .i64 b.lo, .int .i64 b.hi, .bool b.no]) (cs := [.int .i64 b.lo, .int .i64 b.hi, .bool b.no]) rfl rfl rfl fun g1 => ?_)
  refine ao 5 rfl rfl (st_box (v := .agg #[.int .i64 c.lo, .int .i64 c.hi, .bool c.no]) (cs := [.int .i64 c.lo, .int .i64 c.hi, .bool c.no]) rfl rfl rfl fun g2 => ?_)
  refine ao 6 rfl rfl (st_new zero26 rfl fun g3 => ?_)
  refine ao 7 rfl rfl (st_assign (v := .int .i64 0) rfl rfl ?_)
  refine ar_nil ?_
  refine ac_seq ?_
  refine ac_draw1 (id := 1) [0, 1, 2, 3, 4, 5] [7] 6 8 26 _ _ (by kernel_rfl) follows rfl zero26 ⟨_, rfl, rfl, rfl, rfl⟩ ?_
  refine dw_op (d := (some 10)) (.agg #[.int .i64 b.lo, .int .i64 b.hi, .bool b.no]) rfl rfl rfl (st_lda (g := g1) (off := 0) (vs := [.int .i64 b.lo, .int .i64 b.hi, .bool b.no]) agg26 2 rfl rfl rfl rfl rfl rfl ⟨rfl, rfl⟩) ?_
  refine dw_op (d := (some 11)) (.agg #[.int .i64 ((ivSqr b).lo), .int .i64 ((ivSqr b).hi), .bool ((ivSqr b).no)]) rfl rfl rfl (st_cf (vs := [.agg #[.int .i64 b.lo, .int .i64 b.hi, .bool b.no]]) (r := .agg #[.int .i64 ((ivSqr b).lo), .int .i64 ((ivSqr b).hi), .bool ((ivSqr b).no)]) (c_ivSqr b) Try.func94 rfl (by decide) rfl rfl rfl ⟨rfl, rfl⟩) ?_
  refine dw_op (d := (some 12)) (.agg #[.int .i64 a.lo, .int .i64 a.hi, .bool a.no]) rfl rfl rfl (st_lda (g := g0) (off := 0) (vs := [.int .i64 a.lo, .int .i64 a.hi, .bool a.no]) agg26 3 rfl rfl rfl rfl rfl rfl ⟨rfl, rfl⟩) ?_
  refine dw_op (d := (some 13)) (.agg #[.int .i64 c.lo, .int .i64 c.hi, .bool c.no]) rfl rfl rfl (st_lda (g := g2) (off := 0) (vs := [.int .i64 c.lo, .int .i64 c.hi, .bool c.no]) agg26 1 rfl rfl rfl rfl rfl rfl ⟨rfl, rfl⟩) ?_
  refine dw_op (d := (some 14)) (.agg #[.int .i64 ((ivMul a c).lo), .int .i64 ((ivMul a c).hi), .bool ((ivMul a c).no)]) rfl rfl rfl (st_cf (vs := [.agg #[.int .i64 a.lo, .int .i64 a.hi, .bool a.no], .agg #[.int .i64 c.lo, .int .i64 c.hi, .bool c.no]]) (r := .agg #[.int .i64 ((ivMul a c).lo), .int .i64 ((ivMul a c).hi), .bool ((ivMul a c).no)]) (c_ivMul a c) Try.func68 rfl (by decide) rfl rfl rfl ⟨rfl, rfl⟩) ?_
  refine dw_op (d := (some 15)) (.agg #[.int .i64 ((ivSub (ivSqr b) (ivMul a c)).lo), .int .i64 ((ivSub (ivSqr b) (ivMul a c)).hi), .bool ((ivSub (ivSqr b) (ivMul a c)).no)]) rfl rfl rfl (st_cf (vs := [.agg #[.int .i64 ((ivSqr b).lo), .int .i64 ((ivSqr b).hi), .bool ((ivSqr b).no)], .agg #[.int .i64 ((ivMul a c).lo), .int .i64 ((ivMul a c).hi), .bool ((ivMul a c).no)]]) (r := .agg #[.int .i64 ((ivSub (ivSqr b) (ivMul a c)).lo), .int .i64 ((ivSub (ivSqr b) (ivMul a c)).hi), .bool ((ivSub (ivSqr b) (ivMul a c)).no)]) (c_ivSub (ivSqr b) (ivMul a c)) Try.func30 rfl (by decide) rfl rfl rfl ⟨rfl, rfl⟩) ?_
  refine dw_nil ?_
  intro g4
  refine ar_op (d := none) rfl rfl (st_sta (g := g4) (off := 0) (us := [.int .i64 ((ivSub (ivSqr b) (ivMul a c)).lo), .int .i64 ((ivSub (ivSqr b) (ivMul a c)).hi), .bool ((ivSub (ivSqr b) (ivMul a c)).no)]) (cs := [.int .i64 ((ivSub (ivSqr b) (ivMul a c)).lo), .int .i64 ((ivSub (ivSqr b) (ivMul a c)).hi), .bool ((ivSub (ivSqr b) (ivMul a c)).no)]) agg26 0 rfl rfl rfl rfl rfl rfl rfl rfl rfl ?_)
  refine ar_nil ?_
  refine ac_seq ?_
  refine ac_block ?_
  refine ac_seq ?_
  refine ac_region_lit ?_
  refine ao 17 rfl rfl (st_fa (g := g4) (off := 0) rfl fa26_2 rfl ?_)
  refine ao 18 rfl rfl (st_ldc (g := g4) (off := 2) (v := .bool ((ivSub (ivSqr b) (ivMul a c)).no)) cell4 0 rfl rfl rfl rfl rfl ?_)
  refine ao 16 rfl rfl (st_assign (v := .bool ((ivSub (ivSqr b) (ivMul a c)).no)) rfl rfl ?_)
  refine ar_nil ?_
  refine bool_split ((ivSub (ivSqr b) (ivMul a c)).no) (fun h1 => ?_) (fun h1 => ?_)
  · refine ac_then' (b := (ivSub (ivSqr b) (ivMul a c)).no) h1 rfl ?_
    refine ac_seq ?_
    refine ac_region_lit ?_
    refine ao 19 rfl rfl (st_cf (vs := []) (r := .agg #[.int .i64 ivNone.lo, .int .i64 ivNone.hi, .bool ivNone.no]) c_ivNone Try.func28 rfl (by decide) rfl rfl rfl ?_)
    refine ar_op (d := none) rfl rfl (st_sta (g := g3) (off := 0) (us := [.int .i64 ivNone.lo, .int .i64 ivNone.hi, .bool ivNone.no]) (cs := [.int .i64 ivNone.lo, .int .i64 ivNone.hi, .bool ivNone.no]) agg26 1 rfl rfl rfl rfl rfl rfl rfl rfl rfl ?_)
    refine ao 7 rfl rfl (st_assign (v := .int .i64 0) rfl rfl ?_)
    refine ar_nil ?_
    refine ac_ret ?_
    exact fin_eq (v := .tuple #[.agg #[.int .i64 ivNone.lo, .int .i64 ivNone.hi, .bool ivNone.no], .int .i64 0]) (by show _ = (fun (r : Iv × Int) => (.tuple #[.agg #[.int .i64 r.1.lo, .int .i64 r.1.hi, .bool r.1.no], .int .i64 r.2] : Value)) (quadNear a b c); rw [quadNear, h1] <;> rfl) (fin_ret (res_ct (vs := [.int .i64 ivNone.lo, .int .i64 ivNone.hi, .bool ivNone.no]) agg26 1 rfl rfl rfl rfl rfl rfl rfl))
  · refine ac_else' (b := (ivSub (ivSqr b) (ivMul a c)).no) h1 rfl ?_
    refine ac_seq ?_
    refine ac_region_lit ?_
    refine ao 21 rfl rfl (st_fa (g := g4) (off := 0) rfl fa26_1 rfl ?_)
    refine ao 22 rfl rfl (st_ldc (g := g4) (off := 1) (v := .int .i64 ((ivSub (ivSqr b) (ivMul a c)).hi)) cell3 0 rfl rfl rfl rfl rfl ?_)
    refine ao 23 rfl rfl (st_bi (u := .int .i64 ((ivSub (ivSqr b) (ivMul a c)).hi)) (v := .int .i64 0) (r := .bool (decide (((ivSub (ivSqr b) (ivMul a c)).hi) < 0))) rfl rfl rfl (bi_lss rfl) ?_)
    refine ao 20 rfl rfl (st_assign (v := .bool (decide (((ivSub (ivSqr b) (ivMul a c)).hi) < 0))) rfl rfl ?_)
    refine ar_nil ?_
    refine bool_split (decide (((ivSub (ivSqr b) (ivMul a c)).hi) < 0)) (fun h2 => ?_) (fun h2 => ?_)
    · refine ac_then' (b := decide (((ivSub (ivSqr b) (ivMul a c)).hi) < 0)) h2 rfl ?_
      refine ac_seq ?_
      refine ac_region_lit ?_
      refine ao 24 rfl rfl (st_cf (vs := []) (r := .agg #[.int .i64 ivNone.lo, .int .i64 ivNone.hi, .bool ivNone.no]) c_ivNone Try.func28 rfl (by decide) rfl rfl rfl ?_)
      refine ar_op (d := none) rfl rfl (st_sta (g := g3) (off := 0) (us := [.int .i64 ivNone.lo, .int .i64 ivNone.hi, .bool ivNone.no]) (cs := [.int .i64 ivNone.lo, .int .i64 ivNone.hi, .bool ivNone.no]) agg26 1 rfl rfl rfl rfl rfl rfl rfl rfl rfl ?_)
      refine ao 7 rfl rfl (st_assign (v := .int .i64 2) rfl rfl ?_)
      refine ar_nil ?_
      refine ac_ret ?_
      exact fin_eq (v := .tuple #[.agg #[.int .i64 ivNone.lo, .int .i64 ivNone.hi, .bool ivNone.no], .int .i64 2]) (by show _ = (fun (r : Iv × Int) => (.tuple #[.agg #[.int .i64 r.1.lo, .int .i64 r.1.hi, .bool r.1.no], .int .i64 r.2] : Value)) (quadNear a b c); rw [quadNear, h2, h1] <;> rfl) (fin_ret (res_ct (vs := [.int .i64 ivNone.lo, .int .i64 ivNone.hi, .bool ivNone.no]) agg26 1 rfl rfl rfl rfl rfl rfl rfl))
    · refine ac_else' (b := decide (((ivSub (ivSqr b) (ivMul a c)).hi) < 0)) h2 rfl ?_
      refine ac_seq ?_
      refine ac_region_lit ?_
      refine ao 26 rfl rfl (st_fa (g := g4) (off := 0) rfl fa26_0 rfl ?_)
      refine ao 27 rfl rfl (st_ldc (g := g4) (off := 0) (v := .int .i64 ((ivSub (ivSqr b) (ivMul a c)).lo)) cell3 0 rfl rfl rfl rfl rfl ?_)
      refine ao 28 rfl rfl (st_bi (u := .int .i64 ((ivSub (ivSqr b) (ivMul a c)).lo)) (v := .int .i64 0) (r := .bool (decide (((ivSub (ivSqr b) (ivMul a c)).lo) < 0))) rfl rfl rfl (bi_lss rfl) ?_)
      refine ao 25 rfl rfl (st_assign (v := .bool (decide (((ivSub (ivSqr b) (ivMul a c)).lo) < 0))) rfl rfl ?_)
      refine ar_nil ?_
      refine bool_split (decide (((ivSub (ivSqr b) (ivMul a c)).lo) < 0)) (fun h3 => ?_) (fun h3 => ?_)
      · refine ac_then' (b := decide (((ivSub (ivSqr b) (ivMul a c)).lo) < 0)) h3 rfl ?_
        refine ac_seq ?_
        refine ac_region_lit ?_
        refine ao 29 rfl rfl (st_cf (vs := []) (r := .agg #[.int .i64 ivNone.lo, .int .i64 ivNone.hi, .bool ivNone.no]) c_ivNone Try.func28 rfl (by decide) rfl rfl rfl ?_)
        refine ar_op (d := none) rfl rfl (st_sta (g := g3) (off := 0) (us := [.int .i64 ivNone.lo, .int .i64 ivNone.hi, .bool ivNone.no]) (cs := [.int .i64 ivNone.lo, .int .i64 ivNone.hi, .bool ivNone.no]) agg26 1 rfl rfl rfl rfl rfl rfl rfl rfl rfl ?_)
        refine ao 7 rfl rfl (st_assign (v := .int .i64 0) rfl rfl ?_)
        refine ar_nil ?_
        refine ac_ret ?_
        exact fin_eq (v := .tuple #[.agg #[.int .i64 ivNone.lo, .int .i64 ivNone.hi, .bool ivNone.no], .int .i64 0]) (by show _ = (fun (r : Iv × Int) => (.tuple #[.agg #[.int .i64 r.1.lo, .int .i64 r.1.hi, .bool r.1.no], .int .i64 r.2] : Value)) (quadNear a b c); rw [quadNear, h3, h2, h1] <;> rfl) (fin_ret (res_ct (vs := [.int .i64 ivNone.lo, .int .i64 ivNone.hi, .bool ivNone.no]) agg26 1 rfl rfl rfl rfl rfl rfl rfl))
      · refine ac_else' (b := decide (((ivSub (ivSqr b) (ivMul a c)).lo) < 0)) h3 rfl ?_
        refine ac_skip ?_
        refine ac_seq ?_
        refine ac_draw1 (id := 8) [0, 1, 2, 3, 4, 5] [7] 6 9 26 _ _ (by kernel_rfl) follows rfl zero26 ⟨_, rfl, rfl, rfl, rfl⟩ ?_
        refine dw_op (d := (some 30)) (.agg #[.int .i64 c.lo, .int .i64 c.hi, .bool c.no]) rfl rfl rfl (st_lda (g := g2) (off := 0) (vs := [.int .i64 c.lo, .int .i64 c.hi, .bool c.no]) agg26 2 rfl rfl rfl rfl rfl rfl ⟨rfl, rfl⟩) ?_
        refine dw_op (d := (some 31)) (.agg #[.int .i64 ((ivSub (ivSqr b) (ivMul a c)).lo), .int .i64 ((ivSub (ivSqr b) (ivMul a c)).hi), .bool ((ivSub (ivSqr b) (ivMul a c)).no)]) rfl rfl rfl (st_lda (g := g4) (off := 0) (vs := [.int .i64 ((ivSub (ivSqr b) (ivMul a c)).lo), .int .i64 ((ivSub (ivSqr b) (ivMul a c)).hi), .bool ((ivSub (ivSqr b) (ivMul a c)).no)]) agg26 0 rfl rfl rfl rfl rfl rfl ⟨rfl, rfl⟩) ?_
        refine dw_op (d := (some 32)) (.agg #[.int .i64 ((ivRoot (ivSub (ivSqr b) (ivMul a c))).lo), .int .i64 ((ivRoot (ivSub (ivSqr b) (ivMul a c))).hi), .bool ((ivRoot (ivSub (ivSqr b) (ivMul a c))).no)]) rfl rfl rfl (st_cf (vs := [.agg #[.int .i64 ((ivSub (ivSqr b) (ivMul a c)).lo), .int .i64 ((ivSub (ivSqr b) (ivMul a c)).hi), .bool ((ivSub (ivSqr b) (ivMul a c)).no)]]) (r := .agg #[.int .i64 ((ivRoot (ivSub (ivSqr b) (ivMul a c))).lo), .int .i64 ((ivRoot (ivSub (ivSqr b) (ivMul a c))).hi), .bool ((ivRoot (ivSub (ivSqr b) (ivMul a c))).no)]) (c_ivRoot (ivSub (ivSqr b) (ivMul a c))) Try.func102 rfl (by decide) rfl rfl rfl ⟨rfl, rfl⟩) ?_
        refine dw_op (d := (some 33)) (.agg #[.int .i64 b.lo, .int .i64 b.hi, .bool b.no]) rfl rfl rfl (st_lda (g := g1) (off := 0) (vs := [.int .i64 b.lo, .int .i64 b.hi, .bool b.no]) agg26 3 rfl rfl rfl rfl rfl rfl ⟨rfl, rfl⟩) ?_
        refine dw_op (d := (some 34)) (.agg #[.int .i64 ((ivSub (ivRoot (ivSub (ivSqr b) (ivMul a c))) b).lo), .int .i64 ((ivSub (ivRoot (ivSub (ivSqr b) (ivMul a c))) b).hi), .bool ((ivSub (ivRoot (ivSub (ivSqr b) (ivMul a c))) b).no)]) rfl rfl rfl (st_cf (vs := [.agg #[.int .i64 ((ivRoot (ivSub (ivSqr b) (ivMul a c))).lo), .int .i64 ((ivRoot (ivSub (ivSqr b) (ivMul a c))).hi), .bool ((ivRoot (ivSub (ivSqr b) (ivMul a c))).no)], .agg #[.int .i64 b.lo, .int .i64 b.hi, .bool b.no]]) (r := .agg #[.int .i64 ((ivSub (ivRoot (ivSub (ivSqr b) (ivMul a c))) b).lo), .int .i64 ((ivSub (ivRoot (ivSub (ivSqr b) (ivMul a c))) b).hi), .bool ((ivSub (ivRoot (ivSub (ivSqr b) (ivMul a c))) b).no)]) (c_ivSub (ivRoot (ivSub (ivSqr b) (ivMul a c))) b) Try.func30 rfl (by decide) rfl rfl rfl ⟨rfl, rfl⟩) ?_
        refine dw_op (d := (some 35)) (.agg #[.int .i64 ((ivDiv c (ivSub (ivRoot (ivSub (ivSqr b) (ivMul a c))) b)).lo), .int .i64 ((ivDiv c (ivSub (ivRoot (ivSub (ivSqr b) (ivMul a c))) b)).hi), .bool ((ivDiv c (ivSub (ivRoot (ivSub (ivSqr b) (ivMul a c))) b)).no)]) rfl rfl rfl (st_cf (vs := [.agg #[.int .i64 c.lo, .int .i64 c.hi, .bool c.no], .agg #[.int .i64 ((ivSub (ivRoot (ivSub (ivSqr b) (ivMul a c))) b).lo), .int .i64 ((ivSub (ivRoot (ivSub (ivSqr b) (ivMul a c))) b).hi), .bool ((ivSub (ivRoot (ivSub (ivSqr b) (ivMul a c))) b).no)]]) (r := .agg #[.int .i64 ((ivDiv c (ivSub (ivRoot (ivSub (ivSqr b) (ivMul a c))) b)).lo), .int .i64 ((ivDiv c (ivSub (ivRoot (ivSub (ivSqr b) (ivMul a c))) b)).hi), .bool ((ivDiv c (ivSub (ivRoot (ivSub (ivSqr b) (ivMul a c))) b)).no)]) (c_ivDiv c (ivSub (ivRoot (ivSub (ivSqr b) (ivMul a c))) b)) Try.func33 rfl (by decide) rfl rfl rfl ⟨rfl, rfl⟩) ?_
        refine dw_nil ?_
        intro g5
        refine ar_op (d := none) rfl rfl (st_sta (g := g5) (off := 0) (us := [.int .i64 ((ivDiv c (ivSub (ivRoot (ivSub (ivSqr b) (ivMul a c))) b)).lo), .int .i64 ((ivDiv c (ivSub (ivRoot (ivSub (ivSqr b) (ivMul a c))) b)).hi), .bool ((ivDiv c (ivSub (ivRoot (ivSub (ivSqr b) (ivMul a c))) b)).no)]) (cs := [.int .i64 ((ivDiv c (ivSub (ivRoot (ivSub (ivSqr b) (ivMul a c))) b)).lo), .int .i64 ((ivDiv c (ivSub (ivRoot (ivSub (ivSqr b) (ivMul a c))) b)).hi), .bool ((ivDiv c (ivSub (ivRoot (ivSub (ivSqr b) (ivMul a c))) b)).no)]) agg26 0 rfl rfl rfl rfl rfl rfl rfl rfl rfl ?_)
        refine ar_nil ?_
        refine ac_seq ?_
        refine ac_seq ?_
        refine ac_region_lit ?_
        refine ao 36 rfl rfl (st_fa (g := g5) (off := 0) rfl fa26_2 rfl ?_)
        refine ao 37 rfl rfl (st_ldc (g := g5) (off := 2) (v := .bool ((ivDiv c (ivSub (ivRoot (ivSub (ivSqr b) (ivMul a c))) b)).no)) cell4 0 rfl rfl rfl rfl rfl ?_)
        refine ar_nil ?_
        refine bool_split ((ivDiv c (ivSub (ivRoot (ivSub (ivSqr b) (ivMul a c))) b)).no) (fun h4 => ?_) (fun h4 => ?_)
        · refine ac_then' (b := (ivDiv c (ivSub (ivRoot (ivSub (ivSqr b) (ivMul a c))) b)).no) h4 rfl ?_
          refine ac_seq ?_
          refine ac_region_lit ?_
          refine ao 38 rfl rfl (st_cf (vs := []) (r := .agg #[.int .i64 ivNone.lo, .int .i64 ivNone.hi, .bool ivNone.no]) c_ivNone Try.func28 rfl (by decide) rfl rfl rfl ?_)
          refine ar_op (d := none) rfl rfl (st_sta (g := g3) (off := 0) (us := [.int .i64 ivNone.lo, .int .i64 ivNone.hi, .bool ivNone.no]) (cs := [.int .i64 ivNone.lo, .int .i64 ivNone.hi, .bool ivNone.no]) agg26 2 rfl rfl rfl rfl rfl rfl rfl rfl rfl ?_)
          refine ao 7 rfl rfl (st_assign (v := .int .i64 0) rfl rfl ?_)
          refine ar_nil ?_
          refine ac_ret ?_
          exact fin_eq (v := .tuple #[.agg #[.int .i64 ivNone.lo, .int .i64 ivNone.hi, .bool ivNone.no], .int .i64 0]) (by show _ = (fun (r : Iv × Int) => (.tuple #[.agg #[.int .i64 r.1.lo, .int .i64 r.1.hi, .bool r.1.no], .int .i64 r.2] : Value)) (quadNear a b c); rw [quadNear, h4, h3, h2, h1] <;> rfl) (fin_ret (res_ct (vs := [.int .i64 ivNone.lo, .int .i64 ivNone.hi, .bool ivNone.no]) agg26 2 rfl rfl rfl rfl rfl rfl rfl))
        · refine ac_else' (b := (ivDiv c (ivSub (ivRoot (ivSub (ivSqr b) (ivMul a c))) b)).no) h4 rfl ?_
          refine ac_skip ?_
          refine ac_seq ?_
          refine ac_region_lit ?_
          refine ao 39 rfl rfl (st_lda (g := g5) (off := 0) (vs := [.int .i64 ((ivDiv c (ivSub (ivRoot (ivSub (ivSqr b) (ivMul a c))) b)).lo), .int .i64 ((ivDiv c (ivSub (ivRoot (ivSub (ivSqr b) (ivMul a c))) b)).hi), .bool ((ivDiv c (ivSub (ivRoot (ivSub (ivSqr b) (ivMul a c))) b)).no)]) agg26 0 rfl rfl rfl rfl rfl rfl ?_)
          refine ar_op (d := none) rfl rfl (st_sta (g := g3) (off := 0) (us := [.int .i64 ((ivDiv c (ivSub (ivRoot (ivSub (ivSqr b) (ivMul a c))) b)).lo), .int .i64 ((ivDiv c (ivSub (ivRoot (ivSub (ivSqr b) (ivMul a c))) b)).hi), .bool ((ivDiv c (ivSub (ivRoot (ivSub (ivSqr b) (ivMul a c))) b)).no)]) (cs := [.int .i64 ((ivDiv c (ivSub (ivRoot (ivSub (ivSqr b) (ivMul a c))) b)).lo), .int .i64 ((ivDiv c (ivSub (ivRoot (ivSub (ivSqr b) (ivMul a c))) b)).hi), .bool ((ivDiv c (ivSub (ivRoot (ivSub (ivSqr b) (ivMul a c))) b)).no)]) agg26 2 rfl rfl rfl rfl rfl rfl rfl rfl rfl ?_)
          refine ao 7 rfl rfl (st_assign (v := .int .i64 1) rfl rfl ?_)
          refine ar_nil ?_
          refine ac_ret ?_
          exact fin_eq (v := .tuple #[.agg #[.int .i64 ((ivDiv c (ivSub (ivRoot (ivSub (ivSqr b) (ivMul a c))) b)).lo), .int .i64 ((ivDiv c (ivSub (ivRoot (ivSub (ivSqr b) (ivMul a c))) b)).hi), .bool ((ivDiv c (ivSub (ivRoot (ivSub (ivSqr b) (ivMul a c))) b)).no)], .int .i64 1]) (by show _ = (fun (r : Iv × Int) => (.tuple #[.agg #[.int .i64 r.1.lo, .int .i64 r.1.hi, .bool r.1.no], .int .i64 r.2] : Value)) (quadNear a b c); rw [quadNear, h4, h3, h2, h1] <;> rfl) (fin_ret (res_ct (vs := [.int .i64 ((ivDiv c (ivSub (ivRoot (ivSub (ivSqr b) (ivMul a c))) b)).lo), .int .i64 ((ivDiv c (ivSub (ivRoot (ivSub (ivSqr b) (ivMul a c))) b)).hi), .bool ((ivDiv c (ivSub (ivRoot (ivSub (ivSqr b) (ivMul a c))) b)).no)]) agg26 2 rfl rfl rfl rfl rfl rfl rfl))
end Go.Proofs.Ythngkopcadlciaa
