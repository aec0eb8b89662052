import Derived.Test.YtbaihncnbejjbaaFacts2
import Derived.Test.YtbaihncnbejjbaaVec
import Derived.Test.YtbaihncnbejjbaaPPick
set_option linter.unusedVariables false
set_option linter.unusedSimpArgs false
namespace Go.Proofs.Ytbaihncnbejjbaa
open Go.RowKit

attribute [local irreducible] AC AR DWalk
def vecTurn (a : V) (k : Int) : V := (bif decide (0 < (Int.tmod (w64 ((Int.tmod k 4) + 4)) 4)) then (bif decide (1 < (Int.tmod (w64 ((Int.tmod k 4) + 4)) 4)) then (bif decide (2 < (Int.tmod (w64 ((Int.tmod k 4) + 4)) 4)) then (bif decide (3 < (Int.tmod (w64 ((Int.tmod k 4) + 4)) 4)) then (⟨(ivNeg (ivNeg a.x)), (ivNeg (ivNeg a.y)), a.z⟩ : V) else (⟨(ivNeg (ivNeg a.y)), (ivNeg a.x), a.z⟩ : V)) else (⟨(ivNeg a.x), (ivNeg a.y), a.z⟩ : V)) else (⟨(ivNeg a.y), a.x, a.z⟩ : V)) else a)
set_option maxRecDepth 100000 in
theorem c_vecTurn (a : V) (k : Int) : Gets Try.prog 81 #[.agg #[.int .i64 a.x.lo, .int .i64 a.x.hi, .bool a.x.no, .int .i64 a.y.lo, .int .i64 a.y.hi, .bool a.y.no, .int .i64 a.z.lo, .int .i64 a.z.hi, .bool a.z.no], .int .i64 k] (V.v (vecTurn a k)) := by
  refine gets_fin Try.func81 rfl rfl rfl ?_
  refine ac_seq ?_
  refine ac_region_lit ?_
  refine ao 2 rfl rfl (st_box (v := .agg #[.int .i64 a.x.lo, .int .i64 a.x.hi, .bool a.x.no, .int .i64 a.y.lo, .int .i64 a.y.hi, .bool a.y.no, .int .i64 a.z.lo, .int .i64 a.z.hi, .bool a.z.no]) (cs := [.int .i64 a.x.lo, .int .i64 a.x.hi, .bool a.x.no, .int .i64 a.y.lo, .int .i64 a.y.hi, .bool a.y.no, .int .i64 a.z.lo, .int .i64 a.z.hi, .bool a.z.no]) rfl rfl rfl fun g0 => ?_)
  refine ao 4 rfl rfl (st_new zero58 rfl fun g1 => ?_)
  refine ar_nil ?_
  refine ac_seq ?_
  refine ac_seq ?_
  refine ac_region_lit ?_
  refine ao 5 rfl rfl (st_move (v := .int .i64 k) rfl rfl ?_)
  refine ao 6 rfl rfl (st_bi (u := .int .i64 k) (v := .int .i64 4) (r := .int .i64 (Int.tmod k 4)) rfl rfl rfl (bi_rem (by decide) rfl) ?_)
  refine ao 7 rfl rfl (st_bi (u := .int .i64 (Int.tmod k 4)) (v := .int .i64 4) (r := .int .i64 (w64 ((Int.tmod k 4) + 4))) rfl rfl rfl (bi_add rfl) ?_)
  refine ao 8 rfl rfl (st_bi (u := .int .i64 (w64 ((Int.tmod k 4) + 4))) (v := .int .i64 4) (r := .int .i64 (Int.tmod (w64 ((Int.tmod k 4) + 4)) 4)) rfl rfl rfl (bi_rem (by decide) rfl) ?_)
  refine ao 9 rfl rfl (st_move (v := .int .i64 0) rfl rfl ?_)
  refine ar_nil ?_
  refine ac_block ?_
  refine ac_rounds 61 ?_
  refine ar_round ?_
  refine ac_seq ?_
  refine ac_region_lit ?_
  refine ao 10 rfl rfl (st_bi (u := .int .i64 0) (v := .int .i64 (Int.tmod (w64 ((Int.tmod k 4) + 4)) 4)) (r := .bool (decide (0 < (Int.tmod (w64 ((Int.tmod k 4) + 4)) 4)))) rfl rfl rfl (bi_lss rfl) ?_)
  refine ar_nil ?_
  refine ac_seq ?_
  refine bool_split (decide (0 < (Int.tmod (w64 ((Int.tmod k 4) + 4)) 4))) (fun h1 => ?_) (fun h1 => ?_)
  · refine ac_then' (b := decide (0 < (Int.tmod (w64 ((Int.tmod k 4) + 4)) 4))) h1 rfl ?_
    refine ac_skip ?_
    refine ac_seq ?_
    refine ac_block ?_
    refine ac_draw0 (id := 3) [0, 1, 2, 3, 4, 5] [6, 7, 8] _ (by kernel_rfl) follows rfl  ?_
    refine dw_op (d := (some 11)) (.pointer (some ⟨g0, 3, none⟩)) rfl rfl rfl (st_fa (g := g0) (off := 0) rfl fa58_1 rfl ⟨rfl, rfl⟩) ?_
    refine dw_op (d := (some 12)) (.agg #[.int .i64 a.y.lo, .int .i64 a.y.hi, .bool a.y.no]) rfl rfl rfl (st_lda (g := g0) (off := 3) (vs := [.int .i64 a.y.lo, .int .i64 a.y.hi, .bool a.y.no]) agg35 1 rfl rfl rfl rfl rfl rfl ⟨rfl, rfl⟩) ?_
    refine dw_op (d := (some 13)) (.agg #[.int .i64 ((ivNeg a.y).lo), .int .i64 ((ivNeg a.y).hi), .bool ((ivNeg a.y).no)]) rfl rfl rfl (st_cf (vs := [.agg #[.int .i64 a.y.lo, .int .i64 a.y.hi, .bool a.y.no]]) (r := .agg #[.int .i64 ((ivNeg a.y).lo), .int .i64 ((ivNeg a.y).hi), .bool ((ivNeg a.y).no)]) (c_ivNeg a.y) Try.func67 rfl (by decide) rfl rfl rfl ⟨rfl, rfl⟩) ?_
    refine dw_op (d := (some 14)) (.pointer (some ⟨g0, 0, none⟩)) rfl rfl rfl (st_fa (g := g0) (off := 0) rfl fa58_0 rfl ⟨rfl, rfl⟩) ?_
    refine dw_op (d := (some 15)) (.agg #[.int .i64 a.x.lo, .int .i64 a.x.hi, .bool a.x.no]) rfl rfl rfl (st_lda (g := g0) (off := 0) (vs := [.int .i64 a.x.lo, .int .i64 a.x.hi, .bool a.x.no]) agg35 1 rfl rfl rfl rfl rfl rfl ⟨rfl, rfl⟩) ?_
    refine dw_op (d := (some 16)) (.pointer (some ⟨g0, 0, none⟩)) rfl rfl rfl (st_fa (g := g0) (off := 0) rfl fa58_0 rfl ⟨rfl, rfl⟩) ?_
    refine dw_nil ?_
    refine ar_op (d := none) rfl rfl (st_sta (g := g0) (off := 0) (us := [.int .i64 ((ivNeg a.y).lo), .int .i64 ((ivNeg a.y).hi), .bool ((ivNeg a.y).no)]) (cs := [.int .i64 ((ivNeg a.y).lo), .int .i64 ((ivNeg a.y).hi), .bool ((ivNeg a.y).no), .int .i64 a.y.lo, .int .i64 a.y.hi, .bool a.y.no, .int .i64 a.z.lo, .int .i64 a.z.hi, .bool a.z.no]) agg35 1 rfl rfl rfl rfl rfl rfl rfl rfl rfl ?_)
    refine ao 17 rfl rfl (st_fa (g := g0) (off := 0) rfl fa58_1 rfl ?_)
    refine ar_op (d := none) rfl rfl (st_sta (g := g0) (off := 3) (us := [.int .i64 a.x.lo, .int .i64 a.x.hi, .bool a.x.no]) (cs := [.int .i64 ((ivNeg a.y).lo), .int .i64 ((ivNeg a.y).hi), .bool ((ivNeg a.y).no), .int .i64 a.x.lo, .int .i64 a.x.hi, .bool a.x.no, .int .i64 a.z.lo, .int .i64 a.z.hi, .bool a.z.no]) agg35 1 rfl rfl rfl rfl rfl rfl rfl rfl rfl ?_)
    refine ar_nil ?_
    refine ac_region_lit ?_
    refine ao 18 rfl rfl (st_bi (u := .int .i64 0) (v := .int .i64 1) (r := .int .i64 1) rfl rfl rfl (bi_add (by decide)) ?_)
    refine ao 9 rfl rfl (st_move (v := .int .i64 1) rfl rfl ?_)
    refine ar_nil ?_
    refine ar_round ?_
    refine ac_seq ?_
    refine ac_region_lit ?_
    refine ao 10 rfl rfl (st_bi (u := .int .i64 1) (v := .int .i64 (Int.tmod (w64 ((Int.tmod k 4) + 4)) 4)) (r := .bool (decide (1 < (Int.tmod (w64 ((Int.tmod k 4) + 4)) 4)))) rfl rfl rfl (bi_lss rfl) ?_)
    refine ar_nil ?_
    refine ac_seq ?_
    refine bool_split (decide (1 < (Int.tmod (w64 ((Int.tmod k 4) + 4)) 4))) (fun h2 => ?_) (fun h2 => ?_)
    · refine ac_then' (b := decide (1 < (Int.tmod (w64 ((Int.tmod k 4) + 4)) 4))) h2 rfl ?_
      refine ac_skip ?_
      refine ac_seq ?_
      refine ac_block ?_
      refine ac_draw0 (id := 3) [0, 1, 2, 3, 4, 5] [6, 7, 8] _ (by kernel_rfl) follows rfl  ?_
      refine dw_op (d := (some 11)) (.pointer (some ⟨g0, 3, none⟩)) rfl rfl rfl (st_fa (g := g0) (off := 0) rfl fa58_1 rfl ⟨rfl, rfl⟩) ?_
      refine dw_op (d := (some 12)) (.agg #[.int .i64 a.x.lo, .int .i64 a.x.hi, .bool a.x.no]) rfl rfl rfl (st_lda (g := g0) (off := 3) (vs := [.int .i64 a.x.lo, .int .i64 a.x.hi, .bool a.x.no]) agg35 1 rfl rfl rfl rfl rfl rfl ⟨rfl, rfl⟩) ?_
      refine dw_op (d := (some 13)) (.agg #[.int .i64 ((ivNeg a.x).lo), .int .i64 ((ivNeg a.x).hi), .bool ((ivNeg a.x).no)]) rfl rfl rfl (st_cf (vs := [.agg #[.int .i64 a.x.lo, .int .i64 a.x.hi, .bool a.x.no]]) (r := .agg #[.int .i64 ((ivNeg a.x).lo), .int .i64 ((ivNeg a.x).hi), .bool ((ivNeg a.x).no)]) (c_ivNeg a.x) Try.func67 rfl (by decide) rfl rfl rfl ⟨rfl, rfl⟩) ?_
      refine dw_op (d := (some 14)) (.pointer (some ⟨g0, 0, none⟩)) rfl rfl rfl (st_fa (g := g0) (off := 0) rfl fa58_0 rfl ⟨rfl, rfl⟩) ?_
      refine dw_op (d := (some 15)) (.agg #[.int .i64 ((ivNeg a.y).lo), .int .i64 ((ivNeg a.y).hi), .bool ((ivNeg a.y).no)]) rfl rfl rfl (st_lda (g := g0) (off := 0) (vs := [.int .i64 ((ivNeg a.y).lo), .int .i64 ((ivNeg a.y).hi), .bool ((ivNeg a.y).no)]) agg35 1 rfl rfl rfl rfl rfl rfl ⟨rfl, rfl⟩) ?_
      refine dw_op (d := (some 16)) (.pointer (some ⟨g0, 0, none⟩)) rfl rfl rfl (st_fa (g := g0) (off := 0) rfl fa58_0 rfl ⟨rfl, rfl⟩) ?_
      refine dw_nil ?_
      refine ar_op (d := none) rfl rfl (st_sta (g := g0) (off := 0) (us := [.int .i64 ((ivNeg a.x).lo), .int .i64 ((ivNeg a.x).hi), .bool ((ivNeg a.x).no)]) (cs := [.int .i64 ((ivNeg a.x).lo), .int .i64 ((ivNeg a.x).hi), .bool ((ivNeg a.x).no), .int .i64 a.x.lo, .int .i64 a.x.hi, .bool a.x.no, .int .i64 a.z.lo, .int .i64 a.z.hi, .bool a.z.no]) agg35 1 rfl rfl rfl rfl rfl rfl rfl rfl rfl ?_)
      refine ao 17 rfl rfl (st_fa (g := g0) (off := 0) rfl fa58_1 rfl ?_)
      refine ar_op (d := none) rfl rfl (st_sta (g := g0) (off := 3) (us := [.int .i64 ((ivNeg a.y).lo), .int .i64 ((ivNeg a.y).hi), .bool ((ivNeg a.y).no)]) (cs := [.int .i64 ((ivNeg a.x).lo), .int .i64 ((ivNeg a.x).hi), .bool ((ivNeg a.x).no), .int .i64 ((ivNeg a.y).lo), .int .i64 ((ivNeg a.y).hi), .bool ((ivNeg a.y).no), .int .i64 a.z.lo, .int .i64 a.z.hi, .bool a.z.no]) agg35 1 rfl rfl rfl rfl rfl rfl rfl rfl rfl ?_)
      refine ar_nil ?_
      refine ac_region_lit ?_
      refine ao 18 rfl rfl (st_bi (u := .int .i64 1) (v := .int .i64 1) (r := .int .i64 2) rfl rfl rfl (bi_add (by decide)) ?_)
      refine ao 9 rfl rfl (st_move (v := .int .i64 2) rfl rfl ?_)
      refine ar_nil ?_
      refine ar_round ?_
      refine ac_seq ?_
      refine ac_region_lit ?_
      refine ao 10 rfl rfl (st_bi (u := .int .i64 2) (v := .int .i64 (Int.tmod (w64 ((Int.tmod k 4) + 4)) 4)) (r := .bool (decide (2 < (Int.tmod (w64 ((Int.tmod k 4) + 4)) 4)))) rfl rfl rfl (bi_lss rfl) ?_)
      refine ar_nil ?_
      refine ac_seq ?_
      refine bool_split (decide (2 < (Int.tmod (w64 ((Int.tmod k 4) + 4)) 4))) (fun h3 => ?_) (fun h3 => ?_)
      · refine ac_then' (b := decide (2 < (Int.tmod (w64 ((Int.tmod k 4) + 4)) 4))) h3 rfl ?_
        refine ac_skip ?_
        refine ac_seq ?_
        refine ac_block ?_
        refine ac_draw0 (id := 3) [0, 1, 2, 3, 4, 5] [6, 7, 8] _ (by kernel_rfl) follows rfl  ?_
        refine dw_op (d := (some 11)) (.pointer (some ⟨g0, 3, none⟩)) rfl rfl rfl (st_fa (g := g0) (off := 0) rfl fa58_1 rfl ⟨rfl, rfl⟩) ?_
        refine dw_op (d := (some 12)) (.agg #[.int .i64 ((ivNeg a.y).lo), .int .i64 ((ivNeg a.y).hi), .bool ((ivNeg a.y).no)]) rfl rfl rfl (st_lda (g := g0) (off := 3) (vs := [.int .i64 ((ivNeg a.y).lo), .int .i64 ((ivNeg a.y).hi), .bool ((ivNeg a.y).no)]) agg35 1 rfl rfl rfl rfl rfl rfl ⟨rfl, rfl⟩) ?_
        refine dw_op (d := (some 13)) (.agg #[.int .i64 ((ivNeg (ivNeg a.y)).lo), .int .i64 ((ivNeg (ivNeg a.y)).hi), .bool ((ivNeg (ivNeg a.y)).no)]) rfl rfl rfl (st_cf (vs := [.agg #[.int .i64 ((ivNeg a.y).lo), .int .i64 ((ivNeg a.y).hi), .bool ((ivNeg a.y).no)]]) (r := .agg #[.int .i64 ((ivNeg (ivNeg a.y)).lo), .int .i64 ((ivNeg (ivNeg a.y)).hi), .bool ((ivNeg (ivNeg a.y)).no)]) (c_ivNeg (ivNeg a.y)) Try.func67 rfl (by decide) rfl rfl rfl ⟨rfl, rfl⟩) ?_
        refine dw_op (d := (some 14)) (.pointer (some ⟨g0, 0, none⟩)) rfl rfl rfl (st_fa (g := g0) (off := 0) rfl fa58_0 rfl ⟨rfl, rfl⟩) ?_
        refine dw_op (d := (some 15)) (.agg #[.int .i64 ((ivNeg a.x).lo), .int .i64 ((ivNeg a.x).hi), .bool ((ivNeg a.x).no)]) rfl rfl rfl (st_lda (g := g0) (off := 0) (vs := [.int .i64 ((ivNeg a.x).lo), .int .i64 ((ivNeg a.x).hi), .bool ((ivNeg a.x).no)]) agg35 1 rfl rfl rfl rfl rfl rfl ⟨rfl, rfl⟩) ?_
        refine dw_op (d := (some 16)) (.pointer (some ⟨g0, 0, none⟩)) rfl rfl rfl (st_fa (g := g0) (off := 0) rfl fa58_0 rfl ⟨rfl, rfl⟩) ?_
        refine dw_nil ?_
        refine ar_op (d := none) rfl rfl (st_sta (g := g0) (off := 0) (us := [.int .i64 ((ivNeg (ivNeg a.y)).lo), .int .i64 ((ivNeg (ivNeg a.y)).hi), .bool ((ivNeg (ivNeg a.y)).no)]) (cs := [.int .i64 ((ivNeg (ivNeg a.y)).lo), .int .i64 ((ivNeg (ivNeg a.y)).hi), .bool ((ivNeg (ivNeg a.y)).no), .int .i64 ((ivNeg a.y).lo), .int .i64 ((ivNeg a.y).hi), .bool ((ivNeg a.y).no), .int .i64 a.z.lo, .int .i64 a.z.hi, .bool a.z.no]) agg35 1 rfl rfl rfl rfl rfl rfl rfl rfl rfl ?_)
        refine ao 17 rfl rfl (st_fa (g := g0) (off := 0) rfl fa58_1 rfl ?_)
        refine ar_op (d := none) rfl rfl (st_sta (g := g0) (off := 3) (us := [.int .i64 ((ivNeg a.x).lo), .int .i64 ((ivNeg a.x).hi), .bool ((ivNeg a.x).no)]) (cs := [.int .i64 ((ivNeg (ivNeg a.y)).lo), .int .i64 ((ivNeg (ivNeg a.y)).hi), .bool ((ivNeg (ivNeg a.y)).no), .int .i64 ((ivNeg a.x).lo), .int .i64 ((ivNeg a.x).hi), .bool ((ivNeg a.x).no), .int .i64 a.z.lo, .int .i64 a.z.hi, .bool a.z.no]) agg35 1 rfl rfl rfl rfl rfl rfl rfl rfl rfl ?_)
        refine ar_nil ?_
        refine ac_region_lit ?_
        refine ao 18 rfl rfl (st_bi (u := .int .i64 2) (v := .int .i64 1) (r := .int .i64 3) rfl rfl rfl (bi_add (by decide)) ?_)
        refine ao 9 rfl rfl (st_move (v := .int .i64 3) rfl rfl ?_)
        refine ar_nil ?_
        refine ar_round ?_
        refine ac_seq ?_
        refine ac_region_lit ?_
        refine ao 10 rfl rfl (st_bi (u := .int .i64 3) (v := .int .i64 (Int.tmod (w64 ((Int.tmod k 4) + 4)) 4)) (r := .bool (decide (3 < (Int.tmod (w64 ((Int.tmod k 4) + 4)) 4)))) rfl rfl rfl (bi_lss rfl) ?_)
        refine ar_nil ?_
        refine ac_seq ?_
        refine bool_split (decide (3 < (Int.tmod (w64 ((Int.tmod k 4) + 4)) 4))) (fun h4 => ?_) (fun h4 => ?_)
        · refine ac_then' (b := decide (3 < (Int.tmod (w64 ((Int.tmod k 4) + 4)) 4))) h4 rfl ?_
          refine ac_skip ?_
          refine ac_seq ?_
          refine ac_block ?_
          refine ac_draw0 (id := 3) [0, 1, 2, 3, 4, 5] [6, 7, 8] _ (by kernel_rfl) follows rfl  ?_
          refine dw_op (d := (some 11)) (.pointer (some ⟨g0, 3, none⟩)) rfl rfl rfl (st_fa (g := g0) (off := 0) rfl fa58_1 rfl ⟨rfl, rfl⟩) ?_
          refine dw_op (d := (some 12)) (.agg #[.int .i64 ((ivNeg a.x).lo), .int .i64 ((ivNeg a.x).hi), .bool ((ivNeg a.x).no)]) rfl rfl rfl (st_lda (g := g0) (off := 3) (vs := [.int .i64 ((ivNeg a.x).lo), .int .i64 ((ivNeg a.x).hi), .bool ((ivNeg a.x).no)]) agg35 1 rfl rfl rfl rfl rfl rfl ⟨rfl, rfl⟩) ?_
          refine dw_op (d := (some 13)) (.agg #[.int .i64 ((ivNeg (ivNeg a.x)).lo), .int .i64 ((ivNeg (ivNeg a.x)).hi), .bool ((ivNeg (ivNeg a.x)).no)]) rfl rfl rfl (st_cf (vs := [.agg #[.int .i64 ((ivNeg a.x).lo), .int .i64 ((ivNeg a.x).hi), .bool ((ivNeg a.x).no)]]) (r := .agg #[.int .i64 ((ivNeg (ivNeg a.x)).lo), .int .i64 ((ivNeg (ivNeg a.x)).hi), .bool ((ivNeg (ivNeg a.x)).no)]) (c_ivNeg (ivNeg a.x)) Try.func67 rfl (by decide) rfl rfl rfl ⟨rfl, rfl⟩) ?_
          refine dw_op (d := (some 14)) (.pointer (some ⟨g0, 0, none⟩)) rfl rfl rfl (st_fa (g := g0) (off := 0) rfl fa58_0 rfl ⟨rfl, rfl⟩) ?_
          refine dw_op (d := (some 15)) (.agg #[.int .i64 ((ivNeg (ivNeg a.y)).lo), .int .i64 ((ivNeg (ivNeg a.y)).hi), .bool ((ivNeg (ivNeg a.y)).no)]) rfl rfl rfl (st_lda (g := g0) (off := 0) (vs := [.int .i64 ((ivNeg (ivNeg a.y)).lo), .int .i64 ((ivNeg (ivNeg a.y)).hi), .bool ((ivNeg (ivNeg a.y)).no)]) agg35 1 rfl rfl rfl rfl rfl rfl ⟨rfl, rfl⟩) ?_
          refine dw_op (d := (some 16)) (.pointer (some ⟨g0, 0, none⟩)) rfl rfl rfl (st_fa (g := g0) (off := 0) rfl fa58_0 rfl ⟨rfl, rfl⟩) ?_
          refine dw_nil ?_
          refine ar_op (d := none) rfl rfl (st_sta (g := g0) (off := 0) (us := [.int .i64 ((ivNeg (ivNeg a.x)).lo), .int .i64 ((ivNeg (ivNeg a.x)).hi), .bool ((ivNeg (ivNeg a.x)).no)]) (cs := [.int .i64 ((ivNeg (ivNeg a.x)).lo), .int .i64 ((ivNeg (ivNeg a.x)).hi), .bool ((ivNeg (ivNeg a.x)).no), .int .i64 ((ivNeg a.x).lo), .int .i64 ((ivNeg a.x).hi), .bool ((ivNeg a.x).no), .int .i64 a.z.lo, .int .i64 a.z.hi, .bool a.z.no]) agg35 1 rfl rfl rfl rfl rfl rfl rfl rfl rfl ?_)
          refine ao 17 rfl rfl (st_fa (g := g0) (off := 0) rfl fa58_1 rfl ?_)
          refine ar_op (d := none) rfl rfl (st_sta (g := g0) (off := 3) (us := [.int .i64 ((ivNeg (ivNeg a.y)).lo), .int .i64 ((ivNeg (ivNeg a.y)).hi), .bool ((ivNeg (ivNeg a.y)).no)]) (cs := [.int .i64 ((ivNeg (ivNeg a.x)).lo), .int .i64 ((ivNeg (ivNeg a.x)).hi), .bool ((ivNeg (ivNeg a.x)).no), .int .i64 ((ivNeg (ivNeg a.y)).lo), .int .i64 ((ivNeg (ivNeg a.y)).hi), .bool ((ivNeg (ivNeg a.y)).no), .int .i64 a.z.lo, .int .i64 a.z.hi, .bool a.z.no]) agg35 1 rfl rfl rfl rfl rfl rfl rfl rfl rfl ?_)
          refine ar_nil ?_
          refine ac_region_lit ?_
          refine ao 18 rfl rfl (st_bi (u := .int .i64 3) (v := .int .i64 1) (r := .int .i64 4) rfl rfl rfl (bi_add (by decide)) ?_)
          refine ao 9 rfl rfl (st_move (v := .int .i64 4) rfl rfl ?_)
          refine ar_nil ?_
          refine ar_round ?_
          refine ac_seq ?_
          refine ac_region_lit ?_
          refine ao 10 rfl rfl (st_bi (u := .int .i64 4) (v := .int .i64 (Int.tmod (w64 ((Int.tmod k 4) + 4)) 4)) (r := .bool (decide (4 < (Int.tmod (w64 ((Int.tmod k 4) + 4)) 4)))) rfl rfl rfl (bi_lss rfl) ?_)
          refine ar_nil ?_
          refine ac_seq ?_
          refine ac_else' (b := decide (4 < (Int.tmod (w64 ((Int.tmod k 4) + 4)) 4))) (turn_lt k) rfl ?_
          refine ac_exit ?_
          refine ac_seq ?_
          refine ac_region_lit ?_
          refine ao 19 rfl rfl (st_lda (g := g0) (off := 0) (vs := [.int .i64 ((ivNeg (ivNeg a.x)).lo), .int .i64 ((ivNeg (ivNeg a.x)).hi), .bool ((ivNeg (ivNeg a.x)).no), .int .i64 ((ivNeg (ivNeg a.y)).lo), .int .i64 ((ivNeg (ivNeg a.y)).hi), .bool ((ivNeg (ivNeg a.y)).no), .int .i64 a.z.lo, .int .i64 a.z.hi, .bool a.z.no]) agg58 1 rfl rfl rfl rfl rfl rfl ?_)
          refine ar_op (d := none) rfl rfl (st_sta (g := g1) (off := 0) (us := [.int .i64 ((ivNeg (ivNeg a.x)).lo), .int .i64 ((ivNeg (ivNeg a.x)).hi), .bool ((ivNeg (ivNeg a.x)).no), .int .i64 ((ivNeg (ivNeg a.y)).lo), .int .i64 ((ivNeg (ivNeg a.y)).hi), .bool ((ivNeg (ivNeg a.y)).no), .int .i64 a.z.lo, .int .i64 a.z.hi, .bool a.z.no]) (cs := [.int .i64 ((ivNeg (ivNeg a.x)).lo), .int .i64 ((ivNeg (ivNeg a.x)).hi), .bool ((ivNeg (ivNeg a.x)).no), .int .i64 ((ivNeg (ivNeg a.y)).lo), .int .i64 ((ivNeg (ivNeg a.y)).hi), .bool ((ivNeg (ivNeg a.y)).no), .int .i64 a.z.lo, .int .i64 a.z.hi, .bool a.z.no]) agg58 0 rfl rfl rfl rfl rfl rfl rfl rfl rfl ?_)
          refine ar_nil ?_
          refine ac_ret ?_
          exact fin_eq (v := .agg #[.int .i64 ((ivNeg (ivNeg a.x)).lo), .int .i64 ((ivNeg (ivNeg a.x)).hi), .bool ((ivNeg (ivNeg a.x)).no), .int .i64 ((ivNeg (ivNeg a.y)).lo), .int .i64 ((ivNeg (ivNeg a.y)).hi), .bool ((ivNeg (ivNeg a.y)).no), .int .i64 a.z.lo, .int .i64 a.z.hi, .bool a.z.no]) (by show _ = V.v (vecTurn a k); rw [vecTurn, h4, h3, h2, h1] <;> rfl) (fin_ret (res_c (vs := [.int .i64 ((ivNeg (ivNeg a.x)).lo), .int .i64 ((ivNeg (ivNeg a.x)).hi), .bool ((ivNeg (ivNeg a.x)).no), .int .i64 ((ivNeg (ivNeg a.y)).lo), .int .i64 ((ivNeg (ivNeg a.y)).hi), .bool ((ivNeg (ivNeg a.y)).no), .int .i64 a.z.lo, .int .i64 a.z.hi, .bool a.z.no]) agg58 0 rfl rfl rfl rfl rfl rfl))
        · refine ac_else' (b := decide (3 < (Int.tmod (w64 ((Int.tmod k 4) + 4)) 4))) h4 rfl ?_
          refine ac_exit ?_
          refine ac_seq ?_
          refine ac_region_lit ?_
          refine ao 19 rfl rfl (st_lda (g := g0) (off := 0) (vs := [.int .i64 ((ivNeg (ivNeg a.y)).lo), .int .i64 ((ivNeg (ivNeg a.y)).hi), .bool ((ivNeg (ivNeg a.y)).no), .int .i64 ((ivNeg a.x).lo), .int .i64 ((ivNeg a.x).hi), .bool ((ivNeg a.x).no), .int .i64 a.z.lo, .int .i64 a.z.hi, .bool a.z.no]) agg58 1 rfl rfl rfl rfl rfl rfl ?_)
          refine ar_op (d := none) rfl rfl (st_sta (g := g1) (off := 0) (us := [.int .i64 ((ivNeg (ivNeg a.y)).lo), .int .i64 ((ivNeg (ivNeg a.y)).hi), .bool ((ivNeg (ivNeg a.y)).no), .int .i64 ((ivNeg a.x).lo), .int .i64 ((ivNeg a.x).hi), .bool ((ivNeg a.x).no), .int .i64 a.z.lo, .int .i64 a.z.hi, .bool a.z.no]) (cs := [.int .i64 ((ivNeg (ivNeg a.y)).lo), .int .i64 ((ivNeg (ivNeg a.y)).hi), .bool ((ivNeg (ivNeg a.y)).no), .int .i64 ((ivNeg a.x).lo), .int .i64 ((ivNeg a.x).hi), .bool ((ivNeg a.x).no), .int .i64 a.z.lo, .int .i64 a.z.hi, .bool a.z.no]) agg58 0 rfl rfl rfl rfl rfl rfl rfl rfl rfl ?_)
          refine ar_nil ?_
          refine ac_ret ?_
          exact fin_eq (v := .agg #[.int .i64 ((ivNeg (ivNeg a.y)).lo), .int .i64 ((ivNeg (ivNeg a.y)).hi), .bool ((ivNeg (ivNeg a.y)).no), .int .i64 ((ivNeg a.x).lo), .int .i64 ((ivNeg a.x).hi), .bool ((ivNeg a.x).no), .int .i64 a.z.lo, .int .i64 a.z.hi, .bool a.z.no]) (by show _ = V.v (vecTurn a k); rw [vecTurn, h4, h3, h2, h1] <;> rfl) (fin_ret (res_c (vs := [.int .i64 ((ivNeg (ivNeg a.y)).lo), .int .i64 ((ivNeg (ivNeg a.y)).hi), .bool ((ivNeg (ivNeg a.y)).no), .int .i64 ((ivNeg a.x).lo), .int .i64 ((ivNeg a.x).hi), .bool ((ivNeg a.x).no), .int .i64 a.z.lo, .int .i64 a.z.hi, .bool a.z.no]) agg58 0 rfl rfl rfl rfl rfl rfl))
      · refine ac_else' (b := decide (2 < (Int.tmod (w64 ((Int.tmod k 4) + 4)) 4))) h3 rfl ?_
        refine ac_exit ?_
        refine ac_seq ?_
        refine ac_region_lit ?_
        refine ao 19 rfl rfl (st_lda (g := g0) (off := 0) (vs := [.int .i64 ((ivNeg a.x).lo), .int .i64 ((ivNeg a.x).hi), .bool ((ivNeg a.x).no), .int .i64 ((ivNeg a.y).lo), .int .i64 ((ivNeg a.y).hi), .bool ((ivNeg a.y).no), .int .i64 a.z.lo, .int .i64 a.z.hi, .bool a.z.no]) agg58 1 rfl rfl rfl rfl rfl rfl ?_)
        refine ar_op (d := none) rfl rfl (st_sta (g := g1) (off := 0) (us := [.int .i64 ((ivNeg a.x).lo), .int .i64 ((ivNeg a.x).hi), .bool ((ivNeg a.x).no), .int .i64 ((ivNeg a.y).lo), .int .i64 ((ivNeg a.y).hi), .bool ((ivNeg a.y).no), .int .i64 a.z.lo, .int .i64 a.z.hi, .bool a.z.no]) (cs := [.int .i64 ((ivNeg a.x).lo), .int .i64 ((ivNeg a.x).hi), .bool ((ivNeg a.x).no), .int .i64 ((ivNeg a.y).lo), .int .i64 ((ivNeg a.y).hi), .bool ((ivNeg a.y).no), .int .i64 a.z.lo, .int .i64 a.z.hi, .bool a.z.no]) agg58 0 rfl rfl rfl rfl rfl rfl rfl rfl rfl ?_)
        refine ar_nil ?_
        refine ac_ret ?_
        exact fin_eq (v := .agg #[.int .i64 ((ivNeg a.x).lo), .int .i64 ((ivNeg a.x).hi), .bool ((ivNeg a.x).no), .int .i64 ((ivNeg a.y).lo), .int .i64 ((ivNeg a.y).hi), .bool ((ivNeg a.y).no), .int .i64 a.z.lo, .int .i64 a.z.hi, .bool a.z.no]) (by show _ = V.v (vecTurn a k); rw [vecTurn, h3, h2, h1] <;> rfl) (fin_ret (res_c (vs := [.int .i64 ((ivNeg a.x).lo), .int .i64 ((ivNeg a.x).hi), .bool ((ivNeg a.x).no), .int .i64 ((ivNeg a.y).lo), .int .i64 ((ivNeg a.y).hi), .bool ((ivNeg a.y).no), .int .i64 a.z.lo, .int .i64 a.z.hi, .bool a.z.no]) agg58 0 rfl rfl rfl rfl rfl rfl))
    · refine ac_else' (b := decide (1 < (Int.tmod (w64 ((Int.tmod k 4) + 4)) 4))) h2 rfl ?_
      refine ac_exit ?_
      refine ac_seq ?_
      refine ac_region_lit ?_
      refine ao 19 rfl rfl (st_lda (g := g0) (off := 0) (vs := [.int .i64 ((ivNeg a.y).lo), .int .i64 ((ivNeg a.y).hi), .bool ((ivNeg a.y).no), .int .i64 a.x.lo, .int .i64 a.x.hi, .bool a.x.no, .int .i64 a.z.lo, .int .i64 a.z.hi, .bool a.z.no]) agg58 1 rfl rfl rfl rfl rfl rfl ?_)
      refine ar_op (d := none) rfl rfl (st_sta (g := g1) (off := 0) (us := [.int .i64 ((ivNeg a.y).lo), .int .i64 ((ivNeg a.y).hi), .bool ((ivNeg a.y).no), .int .i64 a.x.lo, .int .i64 a.x.hi, .bool a.x.no, .int .i64 a.z.lo, .int .i64 a.z.hi, .bool a.z.no]) (cs := [.int .i64 ((ivNeg a.y).lo), .int .i64 ((ivNeg a.y).hi), .bool ((ivNeg a.y).no), .int .i64 a.x.lo, .int .i64 a.x.hi, .bool a.x.no, .int .i64 a.z.lo, .int .i64 a.z.hi, .bool a.z.no]) agg58 0 rfl rfl rfl rfl rfl rfl rfl rfl rfl ?_)
      refine ar_nil ?_
      refine ac_ret ?_
      exact fin_eq (v := .agg #[.int .i64 ((ivNeg a.y).lo), .int .i64 ((ivNeg a.y).hi), .bool ((ivNeg a.y).no), .int .i64 a.x.lo, .int .i64 a.x.hi, .bool a.x.no, .int .i64 a.z.lo, .int .i64 a.z.hi, .bool a.z.no]) (by show _ = V.v (vecTurn a k); rw [vecTurn, h2, h1] <;> rfl) (fin_ret (res_c (vs := [.int .i64 ((ivNeg a.y).lo), .int .i64 ((ivNeg a.y).hi), .bool ((ivNeg a.y).no), .int .i64 a.x.lo, .int .i64 a.x.hi, .bool a.x.no, .int .i64 a.z.lo, .int .i64 a.z.hi, .bool a.z.no]) agg58 0 rfl rfl rfl rfl rfl rfl))
  · refine ac_else' (b := decide (0 < (Int.tmod (w64 ((Int.tmod k 4) + 4)) 4))) h1 rfl ?_
    refine ac_exit ?_
    refine ac_seq ?_
    refine ac_region_lit ?_
    refine ao 19 rfl rfl (st_lda (g := g0) (off := 0) (vs := [.int .i64 a.x.lo, .int .i64 a.x.hi, .bool a.x.no, .int .i64 a.y.lo, .int .i64 a.y.hi, .bool a.y.no, .int .i64 a.z.lo, .int .i64 a.z.hi, .bool a.z.no]) agg58 1 rfl rfl rfl rfl rfl rfl ?_)
    refine ar_op (d := none) rfl rfl (st_sta (g := g1) (off := 0) (us := [.int .i64 a.x.lo, .int .i64 a.x.hi, .bool a.x.no, .int .i64 a.y.lo, .int .i64 a.y.hi, .bool a.y.no, .int .i64 a.z.lo, .int .i64 a.z.hi, .bool a.z.no]) (cs := [.int .i64 a.x.lo, .int .i64 a.x.hi, .bool a.x.no, .int .i64 a.y.lo, .int .i64 a.y.hi, .bool a.y.no, .int .i64 a.z.lo, .int .i64 a.z.hi, .bool a.z.no]) agg58 0 rfl rfl rfl rfl rfl rfl rfl rfl rfl ?_)
    refine ar_nil ?_
    refine ac_ret ?_
    exact fin_eq (v := .agg #[.int .i64 a.x.lo, .int .i64 a.x.hi, .bool a.x.no, .int .i64 a.y.lo, .int .i64 a.y.hi, .bool a.y.no, .int .i64 a.z.lo, .int .i64 a.z.hi, .bool a.z.no]) (by show _ = V.v (vecTurn a k); rw [vecTurn, h1] <;> rfl) (fin_ret (res_c (vs := [.int .i64 a.x.lo, .int .i64 a.x.hi, .bool a.x.no, .int .i64 a.y.lo, .int .i64 a.y.hi, .bool a.y.no, .int .i64 a.z.lo, .int .i64 a.z.hi, .bool a.z.no]) agg58 0 rfl rfl rfl rfl rfl rfl))
end Go.Proofs.Ytbaihncnbejjbaa
