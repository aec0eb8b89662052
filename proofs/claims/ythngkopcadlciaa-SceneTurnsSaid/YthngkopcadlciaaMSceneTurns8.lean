import Derived.Test.YthngkopcadlciaaMSceneTurns7
import Derived.Test.YthngkopcadlciaaMSceneTurns4
import Derived.Test.YthngkopcadlciaaREndsD
import Derived.Test.YthngkopcadlciaaMSceneTurns0
import Derived.Laws.Append
import Derived.Test.YthngkopcadlciaaMSceneTurns1
set_option linter.unusedVariables false
set_option linter.unusedSimpArgs false
namespace Go.Proofs.Ythngkopcadlciaa
open Go.RowKit
attribute [local irreducible] AC AR DWalk
def vecTurn (a : V) (k : Int) : V := (bif decide (0 < (Int.tmod (w64 ((Int.tmod k 4) + 4)) 4)) then (bif decide (1 < (Int.tmod (w64 ((Int.tmod k 4) + 4)) 4)) then (bif decide (2 < (Int.tmod (w64 ((Int.tmod k 4) + 4)) 4)) then (bif decide (3 < (Int.tmod (w64 ((Int.tmod k 4) + 4)) 4)) then (⟨(ivNeg (ivNeg a.x)), (ivNeg (ivNeg a.y)), a.z⟩ : V) else (⟨(ivNeg (ivNeg a.y)), (ivNeg a.x), a.z⟩ : V)) else (⟨(ivNeg a.x), (ivNeg a.y), a.z⟩ : V)) else (⟨(ivNeg a.y), a.x, a.z⟩ : V)) else a)
set_option maxRecDepth 100000 in
theorem c_vecTurn (a : V) (k : Int) : Gets Try.prog 53 #[.agg #[.int .i64 a.x.lo, .int .i64 a.x.hi, .bool a.x.no, .int .i64 a.y.lo, .int .i64 a.y.hi, .bool a.y.no, .int .i64 a.z.lo, .int .i64 a.z.hi, .bool a.z.no], .int .i64 k] (V.v (vecTurn a k)) := by
  refine gets_fin Try.func53 rfl rfl rfl ?_
  refine ac_seq ?_
  refine ac_region_lit ?_
  refine ao 2 rfl rfl (st_box (v := .agg #[.int .i64 a.x.lo, .int .i64 a.x.hi, .bool a.x.no, .int .i64 a.y.lo, .int .i64 a.y.hi, .bool a.y.no, .int .i64 a.z.lo, .int .i64 a.z.hi, .bool a.z.no]) (cs := [.int .i64 a.x.lo, .int .i64 a.x.hi, .bool a.x.no, .int .i64 a.y.lo, .int .i64 a.y.hi, .bool a.y.no, .int .i64 a.z.lo, .int .i64 a.z.hi, .bool a.z.no]) rfl rfl rfl fun g0 => ?_)
  refine ao 4 rfl rfl (st_new zero57 rfl fun g1 => ?_)
  refine ar_nil ?_
  refine ac_seq ?_
  refine ac_seq ?_
  refine ac_region_lit ?_
  refine ao 5 rfl rfl (st_move (v := .int .i64 k) rfl rfl ?_)
  refine ao 6 rfl rfl (st_bi (u := .int .i64 k) (v := .int .i64 4) (r := .int .i64 (Int.tmod k 4)) rfl rfl rfl (bi_rem (by decide) rfl) ?_)
  refine ao 7 rfl rfl (st_bi (u := .int .i64 (Int.tmod k 4)) (v := .int .i64 4) (r := .int .i64 (w64 ((Int.tmod k 4) + 4))) rfl rfl rfl (bi_add rfl) ?_)
  refine ao 8 rfl rfl (st_bi (u := .int .i64 (w64 ((Int.tmod k 4) + 4))) (v := .int .i64 4) (r := .int .i64 (Int.tmod (w64 ((Int.tmod k 4) + 4)) 4)) rfl rfl rfl (bi_rem (by decide) rfl) ?_)
  refine ao 9 rfl rfl (st_move (v := .int .i64 0) rfl rfl ?_)
  refine ar_nil ?_
  refine ac_block ?_
  refine ac_rounds 61 ?_
  refine ar_round ?_
  refine ac_seq ?_
  refine ac_region_lit ?_
  refine ao 10 rfl rfl (st_bi (u := .int .i64 0) (v := .int .i64 (Int.tmod (w64 ((Int.tmod k 4) + 4)) 4)) (r := .bool (decide (0 < (Int.tmod (w64 ((Int.tmod k 4) + 4)) 4)))) rfl rfl rfl (bi_lss rfl) ?_)
  refine ar_nil ?_
  refine ac_seq ?_
  refine bool_split (decide (0 < (Int.tmod (w64 ((Int.tmod k 4) + 4)) 4))) (fun h1 => ?_) (fun h1 => ?_)
  · refine ac_then' (b := decide (0 < (Int.tmod (w64 ((Int.tmod k 4) + 4)) 4))) h1 rfl ?_
    refine ac_skip ?_
    refine ac_seq ?_
    refine ac_block ?_
    refine ac_draw0 (id := 3) [0, 1, 2, 3, 4, 5] [6, 7, 8] _ (by kernel_rfl) follows rfl  ?_
    refine dw_op (d := (some 11)) (.pointer (some ⟨g0, 3, none⟩)) rfl rfl rfl (st_fa (g := g0) (off := 0) rfl fa57_1 rfl ⟨rfl, rfl⟩) ?_
    refine dw_op (d := (some 12)) (.agg #[.int .i64 a.y.lo, .int .i64 a.y.hi, .bool a.y.no]) rfl rfl rfl (st_lda (g := g0) (off := 3) (vs := [.int .i64 a.y.lo, .int .i64 a.y.hi, .bool a.y.no]) agg26 1 rfl rfl rfl rfl rfl rfl ⟨rfl, rfl⟩) ?_
    refine dw_op (d := (some 13)) (.agg #[.int .i64 ((ivNeg a.y).lo), .int .i64 ((ivNeg a.y).hi), .bool ((ivNeg a.y).no)]) rfl rfl rfl (st_cf (vs := [.agg #[.int .i64 a.y.lo, .int .i64 a.y.hi, .bool a.y.no]]) (r := .agg #[.int .i64 ((ivNeg a.y).lo), .int .i64 ((ivNeg a.y).hi), .bool ((ivNeg a.y).no)]) (c_ivNeg a.y) Try.func39 rfl (by decide) rfl rfl rfl ⟨rfl, rfl⟩) ?_
    refine dw_op (d := (some 14)) (.pointer (some ⟨g0, 0, none⟩)) rfl rfl rfl (st_fa (g := g0) (off := 0) rfl fa57_0 rfl ⟨rfl, rfl⟩) ?_
    refine dw_op (d := (some 15)) (.agg #[.int .i64 a.x.lo, .int .i64 a.x.hi, .bool a.x.no]) rfl rfl rfl (st_lda (g := g0) (off := 0) (vs := [.int .i64 a.x.lo, .int .i64 a.x.hi, .bool a.x.no]) agg26 1 rfl rfl rfl rfl rfl rfl ⟨rfl, rfl⟩) ?_
    refine dw_op (d := (some 16)) (.pointer (some ⟨g0, 0, none⟩)) rfl rfl rfl (st_fa (g := g0) (off := 0) rfl fa57_0 rfl ⟨rfl, rfl⟩) ?_
    refine dw_nil ?_
    refine ar_op (d := none) rfl rfl (st_sta (g := g0) (off := 0) (us := [.int .i64 ((ivNeg a.y).lo), .int .i64 ((ivNeg a.y).hi), .bool ((ivNeg a.y).no)]) (cs := [.int .i64 ((ivNeg a.y).lo), .int .i64 ((ivNeg a.y).hi), .bool ((ivNeg a.y).no), .int .i64 a.y.lo, .int .i64 a.y.hi, .bool a.y.no, .int .i64 a.z.lo, .int .i64 a.z.hi, .bool a.z.no]) agg26 1 rfl rfl rfl rfl rfl rfl rfl rfl rfl ?_)
    refine ao 17 rfl rfl (st_fa (g := g0) (off := 0) rfl fa57_1 rfl ?_)
    refine ar_op (d := none) rfl rfl (st_sta (g := g0) (off := 3) (us := [.int .i64 a.x.lo, .int .i64 a.x.hi, .bool a.x.no]) (cs := [.int .i64 ((ivNeg a.y).lo), .int .i64 ((ivNeg a.y).hi), .bool ((ivNeg a.y).no), .int .i64 a.x.lo, .int .i64 a.x.hi, .bool a.x.no, .int .i64 a.z.lo, .int .i64 a.z.hi, .bool a.z.no]) agg26 1 rfl rfl rfl rfl rfl rfl rfl rfl rfl ?_)
    refine ar_nil ?_
    refine ac_region_lit ?_
    refine ao 18 rfl rfl (st_bi (u := .int .i64 0) (v := .int .i64 1) (r := .int .i64 1) rfl rfl rfl (bi_add (by decide)) ?_)
    refine ao 9 rfl rfl (st_move (v := .int .i64 1) rfl rfl ?_)
    refine ar_nil ?_
    refine ar_round ?_
    refine ac_seq ?_
    refine ac_region_lit ?_
    refine ao 10 rfl rfl (st_bi (u := .int .i64 1) (v := .int .i64 (Int.tmod (w64 ((Int.tmod k 4) + 4)) 4)) (r := .bool (decide (1 < (Int.tmod (w64 ((Int.tmod k 4) + 4)) 4)))) rfl rfl rfl (bi_lss rfl) ?_)
    refine ar_nil ?_
    refine ac_seq ?_
    refine bool_split (decide (1 < (Int.tmod (w64 ((Int.tmod k 4) + 4)) 4))) (fun h2 => ?_) (fun h2 => ?_)
    · refine ac_then' (b := decide (1 < (Int.tmod (w64 ((Int.tmod k 4) + 4)) 4))) h2 rfl ?_
      refine ac_skip ?_
      refine ac_seq ?_
      refine ac_block ?_
      refine ac_draw0 (id := 3) [0, 1, 2, 3, 4, 5] [6, 7, 8] _ (by kernel_rfl) follows rfl  ?_
      refine dw_op (d := (some 11)) (.pointer (some ⟨g0, 3, none⟩)) rfl rfl rfl (st_fa (g := g0) (off := 0) rfl fa57_1 rfl ⟨rfl, rfl⟩) ?_
      refine dw_op (d := (some 12)) (.agg #[.int .i64 a.x.lo, .int .i64 a.x.hi, .bool a.x.no]) rfl rfl rfl (st_lda (g := g0) (off := 3) (vs := [.int .i64 a.x.lo, .int .i64 a.x.hi, .bool a.x.no]) agg26 1 rfl rfl rfl rfl rfl rfl ⟨rfl, rfl⟩) ?_
      refine dw_op (d := (some 13)) (.agg #[.int .i64 ((ivNeg a.x).lo), .int .i64 ((ivNeg a.x).hi), .bool ((ivNeg a.x).no)]) rfl rfl rfl (st_cf (vs := [.agg #[.int .i64 a.x.lo, .int .i64 a.x.hi, .bool a.x.no]]) (r := .agg #[.int .i64 ((ivNeg a.x).lo), .int .i64 ((ivNeg a.x).hi), .bool ((ivNeg a.x).no)]) (c_ivNeg a.x) Try.func39 rfl (by decide) rfl rfl rfl ⟨rfl, rfl⟩) ?_
      refine dw_op (d := (some 14)) (.pointer (some ⟨g0, 0, none⟩)) rfl rfl rfl (st_fa (g := g0) (off := 0) rfl fa57_0 rfl ⟨rfl, rfl⟩) ?_
      refine dw_op (d := (some 15)) (.agg #[.int .i64 ((ivNeg a.y).lo), .int .i64 ((ivNeg a.y).hi), .bool ((ivNeg a.y).no)]) rfl rfl rfl (st_lda (g := g0) (off := 0) (vs := [.int .i64 ((ivNeg a.y).lo), .int .i64 ((ivNeg a.y).hi), .bool ((ivNeg a.y).no)]) agg26 1 rfl rfl rfl rfl rfl rfl ⟨rfl, rfl⟩) ?_
      refine dw_op (d := (some 16)) (.pointer (some ⟨g0, 0, none⟩)) rfl rfl rfl (st_fa (g := g0) (off := 0) rfl fa57_0 rfl ⟨rfl, rfl⟩) ?_
      refine dw_nil ?_
      refine ar_op (d := none) rfl rfl (st_sta (g := g0) (off := 0) (us := [.int .i64 ((ivNeg a.x).lo), .int .i64 ((ivNeg a.x).hi), .bool ((ivNeg a.x).no)]) (cs := [.int .i64 ((ivNeg a.x).lo), .int .i64 ((ivNeg a.x).hi), .bool ((ivNeg a.x).no), .int .i64 a.x.lo, .int .i64 a.x.hi, .bool a.x.no, .int .i64 a.z.lo, .int .i64 a.z.hi, .bool a.z.no]) agg26 1 rfl rfl rfl rfl rfl rfl rfl rfl rfl ?_)
      refine ao 17 rfl rfl (st_fa (g := g0) (off := 0) rfl fa57_1 rfl ?_)
      refine ar_op (d := none) rfl rfl (st_sta (g := g0) (off := 3) (us := [.int .i64 ((ivNeg a.y).lo), .int .i64 ((ivNeg a.y).hi), .bool ((ivNeg a.y).no)]) (cs := [.int .i64 ((ivNeg a.x).lo), .int .i64 ((ivNeg a.x).hi), .bool ((ivNeg a.x).no), .int .i64 ((ivNeg a.y).lo), .int .i64 ((ivNeg a.y).hi), .bool ((ivNeg a.y).no), .int .i64 a.z.lo, .int .i64 a.z.hi, .bool a.z.no]) agg26 1 rfl rfl rfl rfl rfl rfl rfl rfl rfl ?_)
      refine ar_nil ?_
      refine ac_region_lit ?_
      refine ao 18 rfl rfl (st_bi (u := .int .i64 1) (v := .int .i64 1) (r := .int .i64 2) rfl rfl rfl (bi_add (by decide)) ?_)
      refine ao 9 rfl rfl (st_move (v := .int .i64 2) rfl rfl ?_)
      refine ar_nil ?_
      refine ar_round ?_
      refine ac_seq ?_
      refine ac_region_lit ?_
      refine ao 10 rfl rfl (st_bi (u := .int .i64 2) (v := .int .i64 (Int.tmod (w64 ((Int.tmod k 4) + 4)) 4)) (r := .bool (decide (2 < (Int.tmod (w64 ((Int.tmod k 4) + 4)) 4)))) rfl rfl rfl (bi_lss rfl) ?_)
      refine ar_nil ?_
      refine ac_seq ?_
      refine bool_split (decide (2 < (Int.tmod (w64 ((Int.tmod k 4) + 4)) 4))) (fun h3 => ?_) (fun h3 => ?_)
      · refine ac_then' (b := decide (2 < (Int.tmod (w64 ((Int.tmod k 4) + 4)) 4))) h3 rfl ?_
        refine ac_skip ?_
        refine ac_seq ?_
        refine ac_block ?_
        refine ac_draw0 (id := 3) [0, 1, 2, 3, 4, 5] [6, 7, 8] _ (by kernel_rfl) follows rfl  ?_
        refine dw_op (d := (some 11)) (.pointer (some ⟨g0, 3, none⟩)) rfl rfl rfl (st_fa (g := g0) (off := 0) rfl fa57_1 rfl ⟨rfl, rfl⟩) ?_
        refine dw_op (d := (some 12)) (.agg #[.int .i64 ((ivNeg a.y).lo), .int .i64 ((ivNeg a.y).hi), .bool ((ivNeg a.y).no)]) rfl rfl rfl (st_lda (g := g0) (off := 3) (vs := [.int .i64 ((ivNeg a.y).lo), .int .i64 ((ivNeg a.y).hi), .bool ((ivNeg a.y).no)]) agg26 1 rfl rfl rfl rfl rfl rfl ⟨rfl, rfl⟩) ?_
        refine dw_op (d := (some 13)) (.agg #[.int .i64 ((ivNeg (ivNeg a.y)).lo), .int .i64 ((ivNeg (ivNeg a.y)).hi), .bool ((ivNeg (ivNeg a.y)).no)]) rfl rfl rfl (st_cf (vs := [.agg #[.int .i64 ((ivNeg a.y).lo), .int .i64 ((ivNeg a.y).hi), .bool ((ivNeg a.y).no)]]) (r := .agg #[.int .i64 ((ivNeg (ivNeg a.y)).lo), .int .i64 ((ivNeg (ivNeg a.y)).hi), .bool ((ivNeg (ivNeg a.y)).no)]) (c_ivNeg (ivNeg a.y)) Try.func39 rfl (by decide) rfl rfl rfl ⟨rfl, rfl⟩) ?_
        refine dw_op (d := (some 14)) (.pointer (some ⟨g0, 0, none⟩)) rfl rfl rfl (st_fa (g := g0) (off := 0) rfl fa57_0 rfl ⟨rfl, rfl⟩) ?_
        refine dw_op (d := (some 15)) (.agg #[.int .i64 ((ivNeg a.x).lo), .int .i64 ((ivNeg a.x).hi), .bool ((ivNeg a.x).no)]) rfl rfl rfl (st_lda (g := g0) (off := 0) (vs := [.int .i64 ((ivNeg a.x).lo), .int .i64 ((ivNeg a.x).hi), .bool ((ivNeg a.x).no)]) agg26 1 rfl rfl rfl rfl rfl rfl ⟨rfl, rfl⟩) ?_
        refine dw_op (d := (some 16)) (.pointer (some ⟨g0, 0, none⟩)) rfl rfl rfl (st_fa (g := g0) (off := 0) rfl fa57_0 rfl ⟨rfl, rfl⟩) ?_
        refine dw_nil ?_
        refine ar_op (d := none) rfl rfl (st_sta (g := g0) (off := 0) (us := [.int .i64 ((ivNeg (ivNeg a.y)).lo), .int .i64 ((ivNeg (ivNeg a.y)).hi), .bool ((ivNeg (ivNeg a.y)).no)]) (cs := [.int .i64 ((ivNeg (ivNeg a.y)).lo), .int .i64 ((ivNeg (ivNeg a.y)).hi), .bool ((ivNeg (ivNeg a.y)).no), .int .i64 ((ivNeg a.y).lo), .int .i64 ((ivNeg a.y).hi), .bool ((ivNeg a.y).no), .int .i64 a.z.lo, .int .i64 a.z.hi, .bool a.z.no]) agg26 1 rfl rfl rfl rfl rfl rfl rfl rfl rfl ?_)
        refine ao 17 rfl rfl (st_fa (g := g0) (off := 0) rfl fa57_1 rfl ?_)
        refine ar_op (d := none) rfl rfl (st_sta (g := g0) (off := 3) (us := [.int .i64 ((ivNeg a.x).lo), .int .i64 ((ivNeg a.x).hi), .bool ((ivNeg a.x).no)]) (cs := [.int .i64 ((ivNeg (ivNeg a.y)).lo), .int .i64 ((ivNeg (ivNeg a.y)).hi), .bool ((ivNeg (ivNeg a.y)).no), .int .i64 ((ivNeg a.x).lo), .int .i64 ((ivNeg a.x).hi), .bool ((ivNeg a.x).no), .int .i64 a.z.lo, .int .i64 a.z.hi, .bool a.z.no]) agg26 1 rfl rfl rfl rfl rfl rfl rfl rfl rfl ?_)
        refine ar_nil ?_
        refine ac_region_lit ?_
        refine ao 18 rfl rfl (st_bi (u := .int .i64 2) (v := .int .i64 1) (r := .int .i64 3) rfl rfl rfl (bi_add (by decide)) ?_)
        refine ao 9 rfl rfl (st_move (v := .int .i64 3) rfl rfl ?_)
        refine ar_nil ?_
        refine ar_round ?_
        refine ac_seq ?_
        refine ac_region_lit ?_
        refine ao 10 rfl rfl (st_bi (u := .int .i64 3) (v := .int .i64 (Int.tmod (w64 ((Int.tmod k 4) + 4)) 4)) (r := .bool (decide (3 < (Int.tmod (w64 ((Int.tmod k 4) + 4)) 4)))) rfl rfl rfl (bi_lss rfl) ?_)
        refine ar_nil ?_
        refine ac_seq ?_
        refine bool_split (decide (3 < (Int.tmod (w64 ((Int.tmod k 4) + 4)) 4))) (fun h4 => ?_) (fun h4 => ?_)
        · refine ac_then' (b := decide (3 < (Int.tmod (w64 ((Int.tmod k 4) + 4)) 4))) h4 rfl ?_
          refine ac_skip ?_
          refine ac_seq ?_
          refine ac_block ?_
          refine ac_draw0 (id := 3) [0, 1, 2, 3, 4, 5] [6, 7, 8] _ (by kernel_rfl) follows rfl  ?_
          refine dw_op (d := (some 11)) (.pointer (some ⟨g0, 3, none⟩)) rfl rfl rfl (st_fa (g := g0) (off := 0) rfl fa57_1 rfl ⟨rfl, rfl⟩) ?_
          refine dw_op (d := (some 12)) (.agg #[.int .i64 ((ivNeg a.x).lo), .int .i64 ((ivNeg a.x).hi), .bool ((ivNeg a.x).no)]) rfl rfl rfl (st_lda (g := g0) (off := 3) (vs := [.int .i64 ((ivNeg a.x).lo), .int .i64 ((ivNeg a.x).hi), .bool ((ivNeg a.x).no)]) agg26 1 rfl rfl rfl rfl rfl rfl ⟨rfl, rfl⟩) ?_
          refine dw_op (d := (some 13)) (.agg #[.int .i64 ((ivNeg (ivNeg a.x)).lo), .int .i64 ((ivNeg (ivNeg a.x)).hi), .bool ((ivNeg (ivNeg a.x)).no)]) rfl rfl rfl (st_cf (vs := [.agg #[.int .i64 ((ivNeg a.x).lo), .int .i64 ((ivNeg a.x).hi), .bool ((ivNeg a.x).no)]]) (r := .agg #[.int .i64 ((ivNeg (ivNeg a.x)).lo), .int .i64 ((ivNeg (ivNeg a.x)).hi), .bool ((ivNeg (ivNeg a.x)).no)]) (c_ivNeg (ivNeg a.x)) Try.func39 rfl (by decide) rfl rfl rfl ⟨rfl, rfl⟩) ?_
          refine dw_op (d := (some 14)) (.pointer (some ⟨g0, 0, none⟩)) rfl rfl rfl (st_fa (g := g0) (off := 0) rfl fa57_0 rfl ⟨rfl, rfl⟩) ?_
          refine dw_op (d := (some 15)) (.agg #[.int .i64 ((ivNeg (ivNeg a.y)).lo), .int .i64 ((ivNeg (ivNeg a.y)).hi), .bool ((ivNeg (ivNeg a.y)).no)]) rfl rfl rfl (st_lda (g := g0) (off := 0) (vs := [.int .i64 ((ivNeg (ivNeg a.y)).lo), .int .i64 ((ivNeg (ivNeg a.y)).hi), .bool ((ivNeg (ivNeg a.y)).no)]) agg26 1 rfl rfl rfl rfl rfl rfl ⟨rfl, rfl⟩) ?_
          refine dw_op (d := (some 16)) (.pointer (some ⟨g0, 0, none⟩)) rfl rfl rfl (st_fa (g := g0) (off := 0) rfl fa57_0 rfl ⟨rfl, rfl⟩) ?_
          refine dw_nil ?_
          refine ar_op (d := none) rfl rfl (st_sta (g := g0) (off := 0) (us := [.int .i64 ((ivNeg (ivNeg a.x)).lo), .int .i64 ((ivNeg (ivNeg a.x)).hi), .bool ((ivNeg (ivNeg a.x)).no)]) (cs := [.int .i64 ((ivNeg (ivNeg a.x)).lo), .int .i64 ((ivNeg (ivNeg a.x)).hi), .bool ((ivNeg (ivNeg a.x)).no), .int .i64 ((ivNeg a.x).lo), .int .i64 ((ivNeg a.x).hi), .bool ((ivNeg a.x).no), .int .i64 a.z.lo, .int .i64 a.z.hi, .bool a.z.no]) agg26 1 rfl rfl rfl rfl rfl rfl rfl rfl rfl ?_)
          refine ao 17 rfl rfl (st_fa (g := g0) (off := 0) rfl fa57_1 rfl ?_)
          refine ar_op (d := none) rfl rfl (st_sta (g := g0) (off := 3) (us := [.int .i64 ((ivNeg (ivNeg a.y)).lo), .int .i64 ((ivNeg (ivNeg a.y)).hi), .bool ((ivNeg (ivNeg a.y)).no)]) (cs := [.int .i64 ((ivNeg (ivNeg a.x)).lo), .int .i64 ((ivNeg (ivNeg a.x)).hi), .bool ((ivNeg (ivNeg a.x)).no), .int .i64 ((ivNeg (ivNeg a.y)).lo), .int .i64 ((ivNeg (ivNeg a.y)).hi), .bool ((ivNeg (ivNeg a.y)).no), .int .i64 a.z.lo, .int .i64 a.z.hi, .bool a.z.no]) agg26 1 rfl rfl rfl rfl rfl rfl rfl rfl rfl ?_)
          refine ar_nil ?_
          refine ac_region_lit ?_
          refine ao 18 rfl rfl (st_bi (u := .int .i64 3) (v := .int .i64 1) (r := .int .i64 4) rfl rfl rfl (bi_add (by decide)) ?_)
          refine ao 9 rfl rfl (st_move (v := .int .i64 4) rfl rfl ?_)
          refine ar_nil ?_
          refine ar_round ?_
          refine ac_seq ?_
          refine ac_region_lit ?_
          refine ao 10 rfl rfl (st_bi (u := .int .i64 4) (v := .int .i64 (Int.tmod (w64 ((Int.tmod k 4) + 4)) 4)) (r := .bool (decide (4 < (Int.tmod (w64 ((Int.tmod k 4) + 4)) 4)))) rfl rfl rfl (bi_lss rfl) ?_)
          refine ar_nil ?_
          refine ac_seq ?_
          refine ac_else' (b := decide (4 < (Int.tmod (w64 ((Int.tmod k 4) + 4)) 4))) (turn_lt k) rfl ?_
          refine ac_exit ?_
          refine ac_seq ?_
          refine ac_region_lit ?_
          refine ao 19 rfl rfl (st_lda (g := g0) (off := 0) (vs := [.int .i64 ((ivNeg (ivNeg a.x)).lo), .int .i64 ((ivNeg (ivNeg a.x)).hi), .bool ((ivNeg (ivNeg a.x)).no), .int .i64 ((ivNeg (ivNeg a.y)).lo), .int .i64 ((ivNeg (ivNeg a.y)).hi), .bool ((ivNeg (ivNeg a.y)).no), .int .i64 a.z.lo, .int .i64 a.z.hi, .bool a.z.no]) agg57 1 rfl rfl rfl rfl rfl rfl ?_)
          refine ar_op (d := none) rfl rfl (st_sta (g := g1) (off := 0) (us := [.int .i64 ((ivNeg (ivNeg a.x)).lo), .int .i64 ((ivNeg (ivNeg a.x)).hi), .bool ((ivNeg (ivNeg a.x)).no), .int .i64 ((ivNeg (ivNeg a.y)).lo), .int .i64 ((ivNeg (ivNeg a.y)).hi), .bool ((ivNeg (ivNeg a.y)).no), .int .i64 a.z.lo, .int .i64 a.z.hi, .bool a.z.no]) (cs := [.int .i64 ((ivNeg (ivNeg a.x)).lo), .int .i64 ((ivNeg (ivNeg a.x)).hi), .bool ((ivNeg (ivNeg a.x)).no), .int .i64 ((ivNeg (ivNeg a.y)).lo), .int .i64 ((ivNeg (ivNeg a.y)).hi), .bool ((ivNeg (ivNeg a.y)).no), .int .i64 a.z.lo, .int .i64 a.z.hi, .bool a.z.no]) agg57 0 rfl rfl rfl rfl rfl rfl rfl rfl rfl ?_)
          refine ar_nil ?_
          refine ac_ret ?_
          exact fin_eq (v := .agg #[.int .i64 ((ivNeg (ivNeg a.x)).lo), .int .i64 ((ivNeg (ivNeg a.x)).hi), .bool ((ivNeg (ivNeg a.x)).no), .int .i64 ((ivNeg (ivNeg a.y)).lo), .int .i64 ((ivNeg (ivNeg a.y)).hi), .bool ((ivNeg (ivNeg a.y)).no), .int .i64 a.z.lo, .int .i64 a.z.hi, .bool a.z.no]) (by show _ = V.v (vecTurn a k); rw [vecTurn, h4, h3, h2, h1] <;> rfl) (fin_ret (res_c (vs := [.int .i64 ((ivNeg (ivNeg a.x)).lo), .int .i64 ((ivNeg (ivNeg a.x)).hi), .bool ((ivNeg (ivNeg a.x)).no), .int .i64 ((ivNeg (ivNeg a.y)).lo), .int .i64 ((ivNeg (ivNeg a.y)).hi), .bool ((ivNeg (ivNeg a.y)).no), .int .i64 a.z.lo, .int .i64 a.z.hi, .bool a.z.no]) agg57 0 rfl rfl rfl rfl rfl rfl))
        · refine ac_else' (b := decide (3 < (Int.tmod (w64 ((Int.tmod k 4) + 4)) 4))) h4 rfl ?_
          refine ac_exit ?_
          refine ac_seq ?_
          refine ac_region_lit ?_
          refine ao 19 rfl rfl (st_lda (g := g0) (off := 0) (vs := [.int .i64 ((ivNeg (ivNeg a.y)).lo), .int .i64 ((ivNeg (ivNeg a.y)).hi), .bool ((ivNeg (ivNeg a.y)).no), .int .i64 ((ivNeg a.x).lo), .int .i64 ((ivNeg a.x).hi), .bool ((ivNeg a.x).no), .int .i64 a.z.lo, .int .i64 a.z.hi, .bool a.z.no]) agg57 1 rfl rfl rfl rfl rfl rfl ?_)
          refine ar_op (d := none) rfl rfl (st_sta (g := g1) (off := 0) (us := [.int .i64 ((ivNeg (ivNeg a.y)).lo), .int .i64 ((ivNeg (ivNeg a.y)).hi), .bool ((ivNeg (ivNeg a.y)).no), .int .i64 ((ivNeg a.x).lo), .int .i64 ((ivNeg a.x).hi), .bool ((ivNeg a.x).no), .int .i64 a.z.lo, .int .i64 a.z.hi, .bool a.z.no]) (cs := [.int .i64 ((ivNeg (ivNeg a.y)).lo), .int .i64 ((ivNeg (ivNeg a.y)).hi), .bool ((ivNeg (ivNeg a.y)).no), .int .i64 ((ivNeg a.x).lo), .int .i64 ((ivNeg a.x).hi), .bool ((ivNeg a.x).no), .int .i64 a.z.lo, .int .i64 a.z.hi, .bool a.z.no]) agg57 0 rfl rfl rfl rfl rfl rfl rfl rfl rfl ?_)
          refine ar_nil ?_
          refine ac_ret ?_
          exact fin_eq (v := .agg #[.int .i64 ((ivNeg (ivNeg a.y)).lo), .int .i64 ((ivNeg (ivNeg a.y)).hi), .bool ((ivNeg (ivNeg a.y)).no), .int .i64 ((ivNeg a.x).lo), .int .i64 ((ivNeg a.x).hi), .bool ((ivNeg a.x).no), .int .i64 a.z.lo, .int .i64 a.z.hi, .bool a.z.no]) (by show _ = V.v (vecTurn a k); rw [vecTurn, h4, h3, h2, h1] <;> rfl) (fin_ret (res_c (vs := [.int .i64 ((ivNeg (ivNeg a.y)).lo), .int .i64 ((ivNeg (ivNeg a.y)).hi), .bool ((ivNeg (ivNeg a.y)).no), .int .i64 ((ivNeg a.x).lo), .int .i64 ((ivNeg a.x).hi), .bool ((ivNeg a.x).no), .int .i64 a.z.lo, .int .i64 a.z.hi, .bool a.z.no]) agg57 0 rfl rfl rfl rfl rfl rfl))
      · refine ac_else' (b := decide (2 < (Int.tmod (w64 ((Int.tmod k 4) + 4)) 4))) h3 rfl ?_
        refine ac_exit ?_
        refine ac_seq ?_
        refine ac_region_lit ?_
        refine ao 19 rfl rfl (st_lda (g := g0) (off := 0) (vs := [.int .i64 ((ivNeg a.x).lo), .int .i64 ((ivNeg a.x).hi), .bool ((ivNeg a.x).no), .int .i64 ((ivNeg a.y).lo), .int .i64 ((ivNeg a.y).hi), .bool ((ivNeg a.y).no), .int .i64 a.z.lo, .int .i64 a.z.hi, .bool a.z.no]) agg57 1 rfl rfl rfl rfl rfl rfl ?_)
        refine ar_op (d := none) rfl rfl (st_sta (g := g1) (off := 0) (us := [.int .i64 ((ivNeg a.x).lo), .int .i64 ((ivNeg a.x).hi), .bool ((ivNeg a.x).no), .int .i64 ((ivNeg a.y).lo), .int .i64 ((ivNeg a.y).hi), .bool ((ivNeg a.y).no), .int .i64 a.z.lo, .int .i64 a.z.hi, .bool a.z.no]) (cs := [.int .i64 ((ivNeg a.x).lo), .int .i64 ((ivNeg a.x).hi), .bool ((ivNeg a.x).no), .int .i64 ((ivNeg a.y).lo), .int .i64 ((ivNeg a.y).hi), .bool ((ivNeg a.y).no), .int .i64 a.z.lo, .int .i64 a.z.hi, .bool a.z.no]) agg57 0 rfl rfl rfl rfl rfl rfl rfl rfl rfl ?_)
        refine ar_nil ?_
        refine ac_ret ?_
        exact fin_eq (v := .agg #[.int .i64 ((ivNeg a.x).lo), .int .i64 ((ivNeg a.x).hi), .bool ((ivNeg a.x).no), .int .i64 ((ivNeg a.y).lo), .int .i64 ((ivNeg a.y).hi), .bool ((ivNeg a.y).no), .int .i64 a.z.lo, .int .i64 a.z.hi, .bool a.z.no]) (by show _ = V.v (vecTurn a k); rw [vecTurn, h3, h2, h1] <;> rfl) (fin_ret (res_c (vs := [.int .i64 ((ivNeg a.x).lo), .int .i64 ((ivNeg a.x).hi), .bool ((ivNeg a.x).no), .int .i64 ((ivNeg a.y).lo), .int .i64 ((ivNeg a.y).hi), .bool ((ivNeg a.y).no), .int .i64 a.z.lo, .int .i64 a.z.hi, .bool a.z.no]) agg57 0 rfl rfl rfl rfl rfl rfl))
    · refine ac_else' (b := decide (1 < (Int.tmod (w64 ((Int.tmod k 4) + 4)) 4))) h2 rfl ?_
      refine ac_exit ?_
      refine ac_seq ?_
      refine ac_region_lit ?_
      refine ao 19 rfl rfl (st_lda (g := g0) (off := 0) (vs := [.int .i64 ((ivNeg a.y).lo), .int .i64 ((ivNeg a.y).hi), .bool ((ivNeg a.y).no), .int .i64 a.x.lo, .int .i64 a.x.hi, .bool a.x.no, .int .i64 a.z.lo, .int .i64 a.z.hi, .bool a.z.no]) agg57 1 rfl rfl rfl rfl rfl rfl ?_)
      refine ar_op (d := none) rfl rfl (st_sta (g := g1) (off := 0) (us := [.int .i64 ((ivNeg a.y).lo), .int .i64 ((ivNeg a.y).hi), .bool ((ivNeg a.y).no), .int .i64 a.x.lo, .int .i64 a.x.hi, .bool a.x.no, .int .i64 a.z.lo, .int .i64 a.z.hi, .bool a.z.no]) (cs := [.int .i64 ((ivNeg a.y).lo), .int .i64 ((ivNeg a.y).hi), .bool ((ivNeg a.y).no), .int .i64 a.x.lo, .int .i64 a.x.hi, .bool a.x.no, .int .i64 a.z.lo, .int .i64 a.z.hi, .bool a.z.no]) agg57 0 rfl rfl rfl rfl rfl rfl rfl rfl rfl ?_)
      refine ar_nil ?_
      refine ac_ret ?_
      exact fin_eq (v := .agg #[.int .i64 ((ivNeg a.y).lo), .int .i64 ((ivNeg a.y).hi), .bool ((ivNeg a.y).no), .int .i64 a.x.lo, .int .i64 a.x.hi, .bool a.x.no, .int .i64 a.z.lo, .int .i64 a.z.hi, .bool a.z.no]) (by show _ = V.v (vecTurn a k); rw [vecTurn, h2, h1] <;> rfl) (fin_ret (res_c (vs := [.int .i64 ((ivNeg a.y).lo), .int .i64 ((ivNeg a.y).hi), .bool ((ivNeg a.y).no), .int .i64 a.x.lo, .int .i64 a.x.hi, .bool a.x.no, .int .i64 a.z.lo, .int .i64 a.z.hi, .bool a.z.no]) agg57 0 rfl rfl rfl rfl rfl rfl))
  · refine ac_else' (b := decide (0 < (Int.tmod (w64 ((Int.tmod k 4) + 4)) 4))) h1 rfl ?_
    refine ac_exit ?_
    refine ac_seq ?_
    refine ac_region_lit ?_
    refine ao 19 rfl rfl (st_lda (g := g0) (off := 0) (vs := [.int .i64 a.x.lo, .int .i64 a.x.hi, .bool a.x.no, .int .i64 a.y.lo, .int .i64 a.y.hi, .bool a.y.no, .int .i64 a.z.lo, .int .i64 a.z.hi, .bool a.z.no]) agg57 1 rfl rfl rfl rfl rfl rfl ?_)
    refine ar_op (d := none) rfl rfl (st_sta (g := g1) (off := 0) (us := [.int .i64 a.x.lo, .int .i64 a.x.hi, .bool a.x.no, .int .i64 a.y.lo, .int .i64 a.y.hi, .bool a.y.no, .int .i64 a.z.lo, .int .i64 a.z.hi, .bool a.z.no]) (cs := [.int .i64 a.x.lo, .int .i64 a.x.hi, .bool a.x.no, .int .i64 a.y.lo, .int .i64 a.y.hi, .bool a.y.no, .int .i64 a.z.lo, .int .i64 a.z.hi, .bool a.z.no]) agg57 0 rfl rfl rfl rfl rfl rfl rfl rfl rfl ?_)
    refine ar_nil ?_
    refine ac_ret ?_
    exact fin_eq (v := .agg #[.int .i64 a.x.lo, .int .i64 a.x.hi, .bool a.x.no, .int .i64 a.y.lo, .int .i64 a.y.hi, .bool a.y.no, .int .i64 a.z.lo, .int .i64 a.z.hi, .bool a.z.no]) (by show _ = V.v (vecTurn a k); rw [vecTurn, h1] <;> rfl) (fin_ret (res_c (vs := [.int .i64 a.x.lo, .int .i64 a.x.hi, .bool a.x.no, .int .i64 a.y.lo, .int .i64 a.y.hi, .bool a.y.no, .int .i64 a.z.lo, .int .i64 a.z.hi, .bool a.z.no]) agg57 0 rfl rfl rfl rfl rfl rfl))
end Go.Proofs.Ythngkopcadlciaa
namespace Go.Proofs.Ythngkopcadlciaa
open Go.RowKit
attribute [local irreducible] AC AR DWalk
def rVecLen2 (a : V) : Iv := (rAdd (rAdd (rSqr a.x) (rSqr a.y)) (rSqr a.z))
set_option maxRecDepth 100000 in
theorem c_rVecLen2 (a : V) : Gets Try.prog 116 #[.agg #[.int .i64 a.x.lo, .int .i64 a.x.hi, .bool a.x.no, .int .i64 a.y.lo, .int .i64 a.y.hi, .bool a.y.no, .int .i64 a.z.lo, .int .i64 a.z.hi, .bool a.z.no]] (Iv.v (rVecLen2 a)) := by
  refine gets_fin Try.func116 rfl rfl rfl ?_
  refine ac_seq ?_
  refine ac_region_lit ?_
  refine ao 1 rfl rfl (st_box (v := .agg #[.int .i64 a.x.lo, .int .i64 a.x.hi, .bool a.x.no, .int .i64 a.y.lo, .int .i64 a.y.hi, .bool a.y.no, .int .i64 a.z.lo, .int .i64 a.z.hi, .bool a.z.no]) (cs := [.int .i64 a.x.lo, .int .i64 a.x.hi, .bool a.x.no, .int .i64 a.y.lo, .int .i64 a.y.hi, .bool a.y.no, .int .i64 a.z.lo, .int .i64 a.z.hi, .bool a.z.no]) rfl rfl rfl fun g0 => ?_)
  refine ao 2 rfl rfl (st_new zero26 rfl fun g1 => ?_)
  refine ar_nil ?_
  refine ac_seq ?_
  refine ac_draw0 (id := 1) [0, 1, 2, 3, 4, 5, 6, 7, 8, 9, 10] [11] _ (by kernel_rfl) follows rfl  ?_
  refine dw_op (d := (some 3)) (.pointer (some ⟨g0, 0, none⟩)) rfl rfl rfl (st_fa (g := g0) (off := 0) rfl fa57_0 rfl ⟨rfl, rfl⟩) ?_
  refine dw_op (d := (some 4)) (.agg #[.int .i64 a.x.lo, .int .i64 a.x.hi, .bool a.x.no]) rfl rfl rfl (st_lda (g := g0) (off := 0) (vs := [.int .i64 a.x.lo, .int .i64 a.x.hi, .bool a.x.no]) agg26 1 rfl rfl rfl rfl rfl rfl ⟨rfl, rfl⟩) ?_
  refine dw_op (d := (some 5)) (.agg #[.int .i64 ((rSqr a.x).lo), .int .i64 ((rSqr a.x).hi), .bool ((rSqr a.x).no)]) rfl rfl rfl (st_cf (vs := [.agg #[.int .i64 a.x.lo, .int .i64 a.x.hi, .bool a.x.no]]) (r := .agg #[.int .i64 ((rSqr a.x).lo), .int .i64 ((rSqr a.x).hi), .bool ((rSqr a.x).no)]) (c_rSqr a.x) Try.func84 rfl (by decide) rfl rfl rfl ⟨rfl, rfl⟩) ?_
  refine dw_op (d := (some 6)) (.pointer (some ⟨g0, 3, none⟩)) rfl rfl rfl (st_fa (g := g0) (off := 0) rfl fa57_1 rfl ⟨rfl, rfl⟩) ?_
  refine dw_op (d := (some 7)) (.agg #[.int .i64 a.y.lo, .int .i64 a.y.hi, .bool a.y.no]) rfl rfl rfl (st_lda (g := g0) (off := 3) (vs := [.int .i64 a.y.lo, .int .i64 a.y.hi, .bool a.y.no]) agg26 1 rfl rfl rfl rfl rfl rfl ⟨rfl, rfl⟩) ?_
  refine dw_op (d := (some 8)) (.agg #[.int .i64 ((rSqr a.y).lo), .int .i64 ((rSqr a.y).hi), .bool ((rSqr a.y).no)]) rfl rfl rfl (st_cf (vs := [.agg #[.int .i64 a.y.lo, .int .i64 a.y.hi, .bool a.y.no]]) (r := .agg #[.int .i64 ((rSqr a.y).lo), .int .i64 ((rSqr a.y).hi), .bool ((rSqr a.y).no)]) (c_rSqr a.y) Try.func84 rfl (by decide) rfl rfl rfl ⟨rfl, rfl⟩) ?_
  refine dw_op (d := (some 9)) (.agg #[.int .i64 ((rAdd (rSqr a.x) (rSqr a.y)).lo), .int .i64 ((rAdd (rSqr a.x) (rSqr a.y)).hi), .bool ((rAdd (rSqr a.x) (rSqr a.y)).no)]) rfl rfl rfl (st_cf (vs := [.agg #[.int .i64 ((rSqr a.x).lo), .int .i64 ((rSqr a.x).hi), .bool ((rSqr a.x).no)], .agg #[.int .i64 ((rSqr a.y).lo), .int .i64 ((rSqr a.y).hi), .bool ((rSqr a.y).no)]]) (r := .agg #[.int .i64 ((rAdd (rSqr a.x) (rSqr a.y)).lo), .int .i64 ((rAdd (rSqr a.x) (rSqr a.y)).hi), .bool ((rAdd (rSqr a.x) (rSqr a.y)).no)]) (c_rAdd (rSqr a.x) (rSqr a.y)) Try.func86 rfl (by decide) rfl rfl rfl ⟨rfl, rfl⟩) ?_
  refine dw_op (d := (some 10)) (.pointer (some ⟨g0, 6, none⟩)) rfl rfl rfl (st_fa (g := g0) (off := 0) rfl fa57_2 rfl ⟨rfl, rfl⟩) ?_
  refine dw_op (d := (some 11)) (.agg #[.int .i64 a.z.lo, .int .i64 a.z.hi, .bool a.z.no]) rfl rfl rfl (st_lda (g := g0) (off := 6) (vs := [.int .i64 a.z.lo, .int .i64 a.z.hi, .bool a.z.no]) agg26 1 rfl rfl rfl rfl rfl rfl ⟨rfl, rfl⟩) ?_
  refine dw_op (d := (some 12)) (.agg #[.int .i64 ((rSqr a.z).lo), .int .i64 ((rSqr a.z).hi), .bool ((rSqr a.z).no)]) rfl rfl rfl (st_cf (vs := [.agg #[.int .i64 a.z.lo, .int .i64 a.z.hi, .bool a.z.no]]) (r := .agg #[.int .i64 ((rSqr a.z).lo), .int .i64 ((rSqr a.z).hi), .bool ((rSqr a.z).no)]) (c_rSqr a.z) Try.func84 rfl (by decide) rfl rfl rfl ⟨rfl, rfl⟩) ?_
  refine dw_op (d := (some 13)) (.agg #[.int .i64 ((rAdd (rAdd (rSqr a.x) (rSqr a.y)) (rSqr a.z)).lo), .int .i64 ((rAdd (rAdd (rSqr a.x) (rSqr a.y)) (rSqr a.z)).hi), .bool ((rAdd (rAdd (rSqr a.x) (rSqr a.y)) (rSqr a.z)).no)]) rfl rfl rfl (st_cf (vs := [.agg #[.int .i64 ((rAdd (rSqr a.x) (rSqr a.y)).lo), .int .i64 ((rAdd (rSqr a.x) (rSqr a.y)).hi), .bool ((rAdd (rSqr a.x) (rSqr a.y)).no)], .agg #[.int .i64 ((rSqr a.z).lo), .int .i64 ((rSqr a.z).hi), .bool ((rSqr a.z).no)]]) (r := .agg #[.int .i64 ((rAdd (rAdd (rSqr a.x) (rSqr a.y)) (rSqr a.z)).lo), .int .i64 ((rAdd (rAdd (rSqr a.x) (rSqr a.y)) (rSqr a.z)).hi), .bool ((rAdd (rAdd (rSqr a.x) (rSqr a.y)) (rSqr a.z)).no)]) (c_rAdd (rAdd (rSqr a.x) (rSqr a.y)) (rSqr a.z)) Try.func86 rfl (by decide) rfl rfl rfl ⟨rfl, rfl⟩) ?_
  refine dw_nil ?_
  refine ar_op (d := none) rfl rfl (st_sta (g := g1) (off := 0) (us := [.int .i64 ((rAdd (rAdd (rSqr a.x) (rSqr a.y)) (rSqr a.z)).lo), .int .i64 ((rAdd (rAdd (rSqr a.x) (rSqr a.y)) (rSqr a.z)).hi), .bool ((rAdd (rAdd (rSqr a.x) (rSqr a.y)) (rSqr a.z)).no)]) (cs := [.int .i64 ((rAdd (rAdd (rSqr a.x) (rSqr a.y)) (rSqr a.z)).lo), .int .i64 ((rAdd (rAdd (rSqr a.x) (rSqr a.y)) (rSqr a.z)).hi), .bool ((rAdd (rAdd (rSqr a.x) (rSqr a.y)) (rSqr a.z)).no)]) agg26 0 rfl rfl rfl rfl rfl rfl rfl rfl rfl ?_)
  refine ar_nil ?_
  refine ac_ret ?_
  exact fin_eq (v := .agg #[.int .i64 ((rAdd (rAdd (rSqr a.x) (rSqr a.y)) (rSqr a.z)).lo), .int .i64 ((rAdd (rAdd (rSqr a.x) (rSqr a.y)) (rSqr a.z)).hi), .bool ((rAdd (rAdd (rSqr a.x) (rSqr a.y)) (rSqr a.z)).no)]) rfl (fin_ret (res_c (vs := [.int .i64 ((rAdd (rAdd (rSqr a.x) (rSqr a.y)) (rSqr a.z)).lo), .int .i64 ((rAdd (rAdd (rSqr a.x) (rSqr a.y)) (rSqr a.z)).hi), .bool ((rAdd (rAdd (rSqr a.x) (rSqr a.y)) (rSqr a.z)).no)]) agg26 0 rfl rfl rfl rfl rfl rfl))
def rVecUnit (a : V) : V := (⟨(rDivIv a.x (rRootIv (rVecLen2 a))), (rDivIv a.y (rRootIv (rVecLen2 a))), (rDivIv a.z (rRootIv (rVecLen2 a)))⟩ : V)
set_option maxRecDepth 100000 in
theorem c_rVecUnit (a : V) : Gets Try.prog 95 #[.agg #[.int .i64 a.x.lo, .int .i64 a.x.hi, .bool a.x.no, .int .i64 a.y.lo, .int .i64 a.y.hi, .bool a.y.no, .int .i64 a.z.lo, .int .i64 a.z.hi, .bool a.z.no]] (V.v (rVecUnit a)) := by
  refine gets_fin Try.func95 rfl rfl rfl ?_
  refine ac_seq ?_
  refine ac_region_lit ?_
  refine ao 1 rfl rfl (st_box (v := .agg #[.int .i64 a.x.lo, .int .i64 a.x.hi, .bool a.x.no, .int .i64 a.y.lo, .int .i64 a.y.hi, .bool a.y.no, .int .i64 a.z.lo, .int .i64 a.z.hi, .bool a.z.no]) (cs := [.int .i64 a.x.lo, .int .i64 a.x.hi, .bool a.x.no, .int .i64 a.y.lo, .int .i64 a.y.hi, .bool a.y.no, .int .i64 a.z.lo, .int .i64 a.z.hi, .bool a.z.no]) rfl rfl rfl fun g0 => ?_)
  refine ao 2 rfl rfl (st_new zero57 rfl fun g1 => ?_)
  refine ar_nil ?_
  refine ac_seq ?_
  refine ac_region_lit ?_
  refine ao 4 rfl rfl (st_lda (g := g0) (off := 0) (vs := [.int .i64 a.x.lo, .int .i64 a.x.hi, .bool a.x.no, .int .i64 a.y.lo, .int .i64 a.y.hi, .bool a.y.no, .int .i64 a.z.lo, .int .i64 a.z.hi, .bool a.z.no]) agg57 1 rfl rfl rfl rfl rfl rfl ?_)
  refine ao 5 rfl rfl (st_cf (vs := [.agg #[.int .i64 a.x.lo, .int .i64 a.x.hi, .bool a.x.no, .int .i64 a.y.lo, .int .i64 a.y.hi, .bool a.y.no, .int .i64 a.z.lo, .int .i64 a.z.hi, .bool a.z.no]]) (r := .agg #[.int .i64 ((rVecLen2 a).lo), .int .i64 ((rVecLen2 a).hi), .bool ((rVecLen2 a).no)]) (c_rVecLen2 a) Try.func116 rfl (by decide) rfl rfl rfl ?_)
  refine ao 6 rfl rfl (st_cf (vs := [.agg #[.int .i64 ((rVecLen2 a).lo), .int .i64 ((rVecLen2 a).hi), .bool ((rVecLen2 a).no)]]) (r := .agg #[.int .i64 ((rRootIv (rVecLen2 a)).lo), .int .i64 ((rRootIv (rVecLen2 a)).hi), .bool ((rRootIv (rVecLen2 a)).no)]) (c_rRootIv (rVecLen2 a)) Try.func81 rfl (by decide) rfl rfl rfl ?_)
  refine ao 3 rfl rfl (st_new zero26 rfl fun g2 => ?_)
  refine ar_op (d := none) rfl rfl (st_sta (g := g2) (off := 0) (us := [.int .i64 ((rRootIv (rVecLen2 a)).lo), .int .i64 ((rRootIv (rVecLen2 a)).hi), .bool ((rRootIv (rVecLen2 a)).no)]) (cs := [.int .i64 ((rRootIv (rVecLen2 a)).lo), .int .i64 ((rRootIv (rVecLen2 a)).hi), .bool ((rRootIv (rVecLen2 a)).no)]) agg26 0 rfl rfl rfl rfl rfl rfl rfl rfl rfl ?_)
  refine ar_nil ?_
  refine ac_seq ?_
  refine ac_draw0 (id := 2) [0, 1, 2, 3, 4, 5, 6, 7, 8, 9, 10, 11, 12] [13] _ (by kernel_rfl) follows rfl  ?_
  refine dw_op (d := (some 7)) (.pointer (some ⟨g0, 0, none⟩)) rfl rfl rfl (st_fa (g := g0) (off := 0) rfl fa57_0 rfl ⟨rfl, rfl⟩) ?_
  refine dw_op (d := (some 8)) (.agg #[.int .i64 a.x.lo, .int .i64 a.x.hi, .bool a.x.no]) rfl rfl rfl (st_lda (g := g0) (off := 0) (vs := [.int .i64 a.x.lo, .int .i64 a.x.hi, .bool a.x.no]) agg26 2 rfl rfl rfl rfl rfl rfl ⟨rfl, rfl⟩) ?_
  refine dw_op (d := (some 9)) (.agg #[.int .i64 ((rRootIv (rVecLen2 a)).lo), .int .i64 ((rRootIv (rVecLen2 a)).hi), .bool ((rRootIv (rVecLen2 a)).no)]) rfl rfl rfl (st_lda (g := g2) (off := 0) (vs := [.int .i64 ((rRootIv (rVecLen2 a)).lo), .int .i64 ((rRootIv (rVecLen2 a)).hi), .bool ((rRootIv (rVecLen2 a)).no)]) agg26 0 rfl rfl rfl rfl rfl rfl ⟨rfl, rfl⟩) ?_
  refine dw_op (d := (some 10)) (.agg #[.int .i64 ((rDivIv a.x (rRootIv (rVecLen2 a))).lo), .int .i64 ((rDivIv a.x (rRootIv (rVecLen2 a))).hi), .bool ((rDivIv a.x (rRootIv (rVecLen2 a))).no)]) rfl rfl rfl (st_cf (vs := [.agg #[.int .i64 a.x.lo, .int .i64 a.x.hi, .bool a.x.no], .agg #[.int .i64 ((rRootIv (rVecLen2 a)).lo), .int .i64 ((rRootIv (rVecLen2 a)).hi), .bool ((rRootIv (rVecLen2 a)).no)]]) (r := .agg #[.int .i64 ((rDivIv a.x (rRootIv (rVecLen2 a))).lo), .int .i64 ((rDivIv a.x (rRootIv (rVecLen2 a))).hi), .bool ((rDivIv a.x (rRootIv (rVecLen2 a))).no)]) (c_rDivIv a.x (rRootIv (rVecLen2 a))) Try.func85 rfl (by decide) rfl rfl rfl ⟨rfl, rfl⟩) ?_
  refine dw_op (d := (some 11)) (.pointer (some ⟨g0, 3, none⟩)) rfl rfl rfl (st_fa (g := g0) (off := 0) rfl fa57_1 rfl ⟨rfl, rfl⟩) ?_
  refine dw_op (d := (some 12)) (.agg #[.int .i64 a.y.lo, .int .i64 a.y.hi, .bool a.y.no]) rfl rfl rfl (st_lda (g := g0) (off := 3) (vs := [.int .i64 a.y.lo, .int .i64 a.y.hi, .bool a.y.no]) agg26 2 rfl rfl rfl rfl rfl rfl ⟨rfl, rfl⟩) ?_
  refine dw_op (d := (some 13)) (.agg #[.int .i64 ((rRootIv (rVecLen2 a)).lo), .int .i64 ((rRootIv (rVecLen2 a)).hi), .bool ((rRootIv (rVecLen2 a)).no)]) rfl rfl rfl (st_lda (g := g2) (off := 0) (vs := [.int .i64 ((rRootIv (rVecLen2 a)).lo), .int .i64 ((rRootIv (rVecLen2 a)).hi), .bool ((rRootIv (rVecLen2 a)).no)]) agg26 0 rfl rfl rfl rfl rfl rfl ⟨rfl, rfl⟩) ?_
  refine dw_op (d := (some 14)) (.agg #[.int .i64 ((rDivIv a.y (rRootIv (rVecLen2 a))).lo), .int .i64 ((rDivIv a.y (rRootIv (rVecLen2 a))).hi), .bool ((rDivIv a.y (rRootIv (rVecLen2 a))).no)]) rfl rfl rfl (st_cf (vs := [.agg #[.int .i64 a.y.lo, .int .i64 a.y.hi, .bool a.y.no], .agg #[.int .i64 ((rRootIv (rVecLen2 a)).lo), .int .i64 ((rRootIv (rVecLen2 a)).hi), .bool ((rRootIv (rVecLen2 a)).no)]]) (r := .agg #[.int .i64 ((rDivIv a.y (rRootIv (rVecLen2 a))).lo), .int .i64 ((rDivIv a.y (rRootIv (rVecLen2 a))).hi), .bool ((rDivIv a.y (rRootIv (rVecLen2 a))).no)]) (c_rDivIv a.y (rRootIv (rVecLen2 a))) Try.func85 rfl (by decide) rfl rfl rfl ⟨rfl, rfl⟩) ?_
  refine dw_op (d := (some 15)) (.pointer (some ⟨g0, 6, none⟩)) rfl rfl rfl (st_fa (g := g0) (off := 0) rfl fa57_2 rfl ⟨rfl, rfl⟩) ?_
  refine dw_op (d := (some 16)) (.agg #[.int .i64 a.z.lo, .int .i64 a.z.hi, .bool a.z.no]) rfl rfl rfl (st_lda (g := g0) (off := 6) (vs := [.int .i64 a.z.lo, .int .i64 a.z.hi, .bool a.z.no]) agg26 2 rfl rfl rfl rfl rfl rfl ⟨rfl, rfl⟩) ?_
  refine dw_op (d := (some 17)) (.agg #[.int .i64 ((rRootIv (rVecLen2 a)).lo), .int .i64 ((rRootIv (rVecLen2 a)).hi), .bool ((rRootIv (rVecLen2 a)).no)]) rfl rfl rfl (st_lda (g := g2) (off := 0) (vs := [.int .i64 ((rRootIv (rVecLen2 a)).lo), .int .i64 ((rRootIv (rVecLen2 a)).hi), .bool ((rRootIv (rVecLen2 a)).no)]) agg26 0 rfl rfl rfl rfl rfl rfl ⟨rfl, rfl⟩) ?_
  refine dw_op (d := (some 18)) (.agg #[.int .i64 ((rDivIv a.z (rRootIv (rVecLen2 a))).lo), .int .i64 ((rDivIv a.z (rRootIv (rVecLen2 a))).hi), .bool ((rDivIv a.z (rRootIv (rVecLen2 a))).no)]) rfl rfl rfl (st_cf (vs := [.agg #[.int .i64 a.z.lo, .int .i64 a.z.hi, .bool a.z.no], .agg #[.int .i64 ((rRootIv (rVecLen2 a)).lo), .int .i64 ((rRootIv (rVecLen2 a)).hi), .bool ((rRootIv (rVecLen2 a)).no)]]) (r := .agg #[.int .i64 ((rDivIv a.z (rRootIv (rVecLen2 a))).lo), .int .i64 ((rDivIv a.z (rRootIv (rVecLen2 a))).hi), .bool ((rDivIv a.z (rRootIv (rVecLen2 a))).no)]) (c_rDivIv a.z (rRootIv (rVecLen2 a))) Try.func85 rfl (by decide) rfl rfl rfl ⟨rfl, rfl⟩) ?_
  refine dw_op (d := (some 19)) (.agg #[.int .i64 ((rDivIv a.x (rRootIv (rVecLen2 a))).lo), .int .i64 ((rDivIv a.x (rRootIv (rVecLen2 a))).hi), .bool ((rDivIv a.x (rRootIv (rVecLen2 a))).no), .int .i64 ((rDivIv a.y (rRootIv (rVecLen2 a))).lo), .int .i64 ((rDivIv a.y (rRootIv (rVecLen2 a))).hi), .bool ((rDivIv a.y (rRootIv (rVecLen2 a))).no), .int .i64 ((rDivIv a.z (rRootIv (rVecLen2 a))).lo), .int .i64 ((rDivIv a.z (rRootIv (rVecLen2 a))).hi), .bool ((rDivIv a.z (rRootIv (rVecLen2 a))).no)]) rfl rfl rfl (st_bd (us := [(0, .agg #[.int .i64 ((rDivIv a.x (rRootIv (rVecLen2 a))).lo), .int .i64 ((rDivIv a.x (rRootIv (rVecLen2 a))).hi), .bool ((rDivIv a.x (rRootIv (rVecLen2 a))).no)]), (1, .agg #[.int .i64 ((rDivIv a.y (rRootIv (rVecLen2 a))).lo), .int .i64 ((rDivIv a.y (rRootIv (rVecLen2 a))).hi), .bool ((rDivIv a.y (rRootIv (rVecLen2 a))).no)]), (2, .agg #[.int .i64 ((rDivIv a.z (rRootIv (rVecLen2 a))).lo), .int .i64 ((rDivIv a.z (rRootIv (rVecLen2 a))).hi), .bool ((rDivIv a.z (rRootIv (rVecLen2 a))).no)])]) (v := .agg #[.int .i64 ((rDivIv a.x (rRootIv (rVecLen2 a))).lo), .int .i64 ((rDivIv a.x (rRootIv (rVecLen2 a))).hi), .bool ((rDivIv a.x (rRootIv (rVecLen2 a))).no), .int .i64 ((rDivIv a.y (rRootIv (rVecLen2 a))).lo), .int .i64 ((rDivIv a.y (rRootIv (rVecLen2 a))).hi), .bool ((rDivIv a.y (rRootIv (rVecLen2 a))).no), .int .i64 ((rDivIv a.z (rRootIv (rVecLen2 a))).lo), .int .i64 ((rDivIv a.z (rRootIv (rVecLen2 a))).hi), .bool ((rDivIv a.z (rRootIv (rVecLen2 a))).no)]) rfl rfl (bd57_0a_1a_2a _ _ _ _ _ _ _ _ _) ⟨rfl, rfl⟩) ?_
  refine dw_nil ?_
  refine ar_op (d := none) rfl rfl (st_sta (g := g1) (off := 0) (us := [.int .i64 ((rDivIv a.x (rRootIv (rVecLen2 a))).lo), .int .i64 ((rDivIv a.x (rRootIv (rVecLen2 a))).hi), .bool ((rDivIv a.x (rRootIv (rVecLen2 a))).no), .int .i64 ((rDivIv a.y (rRootIv (rVecLen2 a))).lo), .int .i64 ((rDivIv a.y (rRootIv (rVecLen2 a))).hi), .bool ((rDivIv a.y (rRootIv (rVecLen2 a))).no), .int .i64 ((rDivIv a.z (rRootIv (rVecLen2 a))).lo), .int .i64 ((rDivIv a.z (rRootIv (rVecLen2 a))).hi), .bool ((rDivIv a.z (rRootIv (rVecLen2 a))).no)]) (cs := [.int .i64 ((rDivIv a.x (rRootIv (rVecLen2 a))).lo), .int .i64 ((rDivIv a.x (rRootIv (rVecLen2 a))).hi), .bool ((rDivIv a.x (rRootIv (rVecLen2 a))).no), .int .i64 ((rDivIv a.y (rRootIv (rVecLen2 a))).lo), .int .i64 ((rDivIv a.y (rRootIv (rVecLen2 a))).hi), .bool ((rDivIv a.y (rRootIv (rVecLen2 a))).no), .int .i64 ((rDivIv a.z (rRootIv (rVecLen2 a))).lo), .int .i64 ((rDivIv a.z (rRootIv (rVecLen2 a))).hi), .bool ((rDivIv a.z (rRootIv (rVecLen2 a))).no)]) agg57 1 rfl rfl rfl rfl rfl rfl rfl rfl rfl ?_)
  refine ar_nil ?_
  refine ac_ret ?_
  exact fin_eq (v := .agg #[.int .i64 ((rDivIv a.x (rRootIv (rVecLen2 a))).lo), .int .i64 ((rDivIv a.x (rRootIv (rVecLen2 a))).hi), .bool ((rDivIv a.x (rRootIv (rVecLen2 a))).no), .int .i64 ((rDivIv a.y (rRootIv (rVecLen2 a))).lo), .int .i64 ((rDivIv a.y (rRootIv (rVecLen2 a))).hi), .bool ((rDivIv a.y (rRootIv (rVecLen2 a))).no), .int .i64 ((rDivIv a.z (rRootIv (rVecLen2 a))).lo), .int .i64 ((rDivIv a.z (rRootIv (rVecLen2 a))).hi), .bool ((rDivIv a.z (rRootIv (rVecLen2 a))).no)]) rfl (fin_ret (res_c (vs := [.int .i64 ((rDivIv a.x (rRootIv (rVecLen2 a))).lo), .int .i64 ((rDivIv a.x (rRootIv (rVecLen2 a))).hi), .bool ((rDivIv a.x (rRootIv (rVecLen2 a))).no), .int .i64 ((rDivIv a.y (rRootIv (rVecLen2 a))).lo), .int .i64 ((rDivIv a.y (rRootIv (rVecLen2 a))).hi), .bool ((rDivIv a.y (rRootIv (rVecLen2 a))).no), .int .i64 ((rDivIv a.z (rRootIv (rVecLen2 a))).lo), .int .i64 ((rDivIv a.z (rRootIv (rVecLen2 a))).hi), .bool ((rDivIv a.z (rRootIv (rVecLen2 a))).no)]) agg57 1 rfl rfl rfl rfl rfl rfl))
def rVecRight (a : V) : Bool := (bif rRight a.x then (bif rRight a.y then rRight a.z else false) else false)
def rVecAdd (a : V) (b : V) : V := (⟨(rAdd a.x b.x), (rAdd a.y b.y), (rAdd a.z b.z)⟩ : V)
def rVecSub (a : V) (b : V) : V := (⟨(rSub a.x b.x), (rSub a.y b.y), (rSub a.z b.z)⟩ : V)
def rVecScale (a : V) (k : Iv) : V := (⟨(rMulIv a.x k), (rMulIv a.y k), (rMulIv a.z k)⟩ : V)
def rVecDot_e0 (a : V) (b : V) : Iv := (rAdd (rAdd (rMulIv a.x b.x) (rMulIv a.y b.y)) (rMulIv a.z b.z))
def rVecDot (a : V) (b : V) : Iv := (rVecDot_e0 a b)
def rVecAlong (r : Ray) (t : Iv) : V := (rVecAdd r.o (rVecScale r.d t))
def rVecHull (a : V) (b : V) : V := (⟨(rHull a.x b.x), (rHull a.y b.y), (rHull a.z b.z)⟩ : V)
def rVecInside (a : V) (b : V) : Bool := (bif rInside a.x b.x then (bif rInside a.y b.y then rInside a.z b.z else false) else false)
def rVecMirror (a : V) : V := (⟨a.x, (rNeg a.y), a.z⟩ : V)
end Go.Proofs.Ythngkopcadlciaa
namespace Go.Proofs.Ythngkopcadlciaa
open Go.RowKit
attribute [local irreducible] AC AR DWalk
def rVecTurn_e0 (a : V) (k : Int) : Int := (bif decide ((Int.tmod k 4) < 0) then (w64 ((Int.tmod k 4) + 4)) else (Int.tmod k 4))
def rVecTurn (a : V) (k : Int) : V := (bif decide ((rVecTurn_e0 a k) > 0) then (bif decide ((w64 ((rVecTurn_e0 a k) - 1)) > 0) then (bif decide ((w64 ((w64 ((rVecTurn_e0 a k) - 1)) - 1)) > 0) then (⟨(rNeg (rNeg a.y)), (rNeg a.x), a.z⟩ : V) else (⟨(rNeg a.x), (rNeg a.y), a.z⟩ : V)) else (⟨(rNeg a.y), a.x, a.z⟩ : V)) else a)
end Go.Proofs.Ythngkopcadlciaa
namespace Go.Proofs.Ythngkopcadlciaa
open Go.RowKit
attribute [local irreducible] AC AR DWalk
def hInV (a : V) (x : Int) (y : Int) : V := (⟨(hIn a.x x y), (hIn a.y (w64 (Int.tdiv x 3)) (w64 (Int.tdiv y 5))), (hIn a.z (w64 (Int.tdiv x 7)) (w64 (Int.tdiv y 11)))⟩ : V)
set_option maxRecDepth 100000 in
theorem c_hInV (a : V) (x : Int) (y : Int) : Gets Try.prog 49 #[.agg #[.int .i64 a.x.lo, .int .i64 a.x.hi, .bool a.x.no, .int .i64 a.y.lo, .int .i64 a.y.hi, .bool a.y.no, .int .i64 a.z.lo, .int .i64 a.z.hi, .bool a.z.no], .int .i64 x, .int .i64 y] (V.v (hInV a x y)) := by
  refine gets_fin Try.func49 rfl rfl rfl ?_
  refine ac_seq ?_
  refine ac_region_lit ?_
  refine ao 3 rfl rfl (st_box (v := .agg #[.int .i64 a.x.lo, .int .i64 a.x.hi, .bool a.x.no, .int .i64 a.y.lo, .int .i64 a.y.hi, .bool a.y.no, .int .i64 a.z.lo, .int .i64 a.z.hi, .bool a.z.no]) (cs := [.int .i64 a.x.lo, .int .i64 a.x.hi, .bool a.x.no, .int .i64 a.y.lo, .int .i64 a.y.hi, .bool a.y.no, .int .i64 a.z.lo, .int .i64 a.z.hi, .bool a.z.no]) rfl rfl rfl fun g0 => ?_)
  refine ao 6 rfl rfl (st_new zero57 rfl fun g1 => ?_)
  refine ar_nil ?_
  refine ac_seq ?_
  refine ac_draw0 (id := 1) [0, 1, 2, 3, 4, 5, 6, 7, 8, 9, 10, 11, 12, 13, 14, 15, 16, 17, 18, 19] [20] _ (by kernel_rfl) follows rfl  ?_
  refine dw_op (d := (some 7)) (.pointer (some ⟨g0, 0, none⟩)) rfl rfl rfl (st_fa (g := g0) (off := 0) rfl fa57_0 rfl ⟨rfl, rfl⟩) ?_
  refine dw_op (d := (some 8)) (.agg #[.int .i64 a.x.lo, .int .i64 a.x.hi, .bool a.x.no]) rfl rfl rfl (st_lda (g := g0) (off := 0) (vs := [.int .i64 a.x.lo, .int .i64 a.x.hi, .bool a.x.no]) agg26 1 rfl rfl rfl rfl rfl rfl ⟨rfl, rfl⟩) ?_
  refine dw_op (d := (some 9)) (.int .i64 x) rfl rfl rfl (st_move (v := .int .i64 x) rfl rfl ⟨rfl, rfl⟩) ?_
  refine dw_op (d := (some 10)) (.int .i64 y) rfl rfl rfl (st_move (v := .int .i64 y) rfl rfl ⟨rfl, rfl⟩) ?_
  refine dw_op (d := (some 11)) (.agg #[.int .i64 ((hIn a.x x y).lo), .int .i64 ((hIn a.x x y).hi), .bool ((hIn a.x x y).no)]) rfl rfl rfl (st_cf (vs := [.agg #[.int .i64 a.x.lo, .int .i64 a.x.hi, .bool a.x.no], .int .i64 x, .int .i64 y]) (r := .agg #[.int .i64 ((hIn a.x x y).lo), .int .i64 ((hIn a.x x y).hi), .bool ((hIn a.x x y).no)]) (c_hIn a.x x y) Try.func41 rfl (by decide) rfl rfl rfl ⟨rfl, rfl⟩) ?_
  refine dw_op (d := (some 12)) (.pointer (some ⟨g0, 3, none⟩)) rfl rfl rfl (st_fa (g := g0) (off := 0) rfl fa57_1 rfl ⟨rfl, rfl⟩) ?_
  refine dw_op (d := (some 13)) (.agg #[.int .i64 a.y.lo, .int .i64 a.y.hi, .bool a.y.no]) rfl rfl rfl (st_lda (g := g0) (off := 3) (vs := [.int .i64 a.y.lo, .int .i64 a.y.hi, .bool a.y.no]) agg26 1 rfl rfl rfl rfl rfl rfl ⟨rfl, rfl⟩) ?_
  refine dw_op (d := (some 14)) (.int .i64 x) rfl rfl rfl (st_move (v := .int .i64 x) rfl rfl ⟨rfl, rfl⟩) ?_
  refine dw_op (d := (some 15)) (.int .i64 (w64 (Int.tdiv x 3))) rfl rfl rfl (st_bi (u := .int .i64 x) (v := .int .i64 3) (r := .int .i64 (w64 (Int.tdiv x 3))) rfl rfl rfl (bi_quo (by decide) rfl) ⟨rfl, rfl⟩) ?_
  refine dw_op (d := (some 16)) (.int .i64 y) rfl rfl rfl (st_move (v := .int .i64 y) rfl rfl ⟨rfl, rfl⟩) ?_
  refine dw_op (d := (some 17)) (.int .i64 (w64 (Int.tdiv y 5))) rfl rfl rfl (st_bi (u := .int .i64 y) (v := .int .i64 5) (r := .int .i64 (w64 (Int.tdiv y 5))) rfl rfl rfl (bi_quo (by decide) rfl) ⟨rfl, rfl⟩) ?_
  refine dw_op (d := (some 18)) (.agg #[.int .i64 ((hIn a.y (w64 (Int.tdiv x 3)) (w64 (Int.tdiv y 5))).lo), .int .i64 ((hIn a.y (w64 (Int.tdiv x 3)) (w64 (Int.tdiv y 5))).hi), .bool ((hIn a.y (w64 (Int.tdiv x 3)) (w64 (Int.tdiv y 5))).no)]) rfl rfl rfl (st_cf (vs := [.agg #[.int .i64 a.y.lo, .int .i64 a.y.hi, .bool a.y.no], .int .i64 (w64 (Int.tdiv x 3)), .int .i64 (w64 (Int.tdiv y 5))]) (r := .agg #[.int .i64 ((hIn a.y (w64 (Int.tdiv x 3)) (w64 (Int.tdiv y 5))).lo), .int .i64 ((hIn a.y (w64 (Int.tdiv x 3)) (w64 (Int.tdiv y 5))).hi), .bool ((hIn a.y (w64 (Int.tdiv x 3)) (w64 (Int.tdiv y 5))).no)]) (c_hIn a.y (w64 (Int.tdiv x 3)) (w64 (Int.tdiv y 5))) Try.func41 rfl (by decide) rfl rfl rfl ⟨rfl, rfl⟩) ?_
  refine dw_op (d := (some 19)) (.pointer (some ⟨g0, 6, none⟩)) rfl rfl rfl (st_fa (g := g0) (off := 0) rfl fa57_2 rfl ⟨rfl, rfl⟩) ?_
  refine dw_op (d := (some 20)) (.agg #[.int .i64 a.z.lo, .int .i64 a.z.hi, .bool a.z.no]) rfl rfl rfl (st_lda (g := g0) (off := 6) (vs := [.int .i64 a.z.lo, .int .i64 a.z.hi, .bool a.z.no]) agg26 1 rfl rfl rfl rfl rfl rfl ⟨rfl, rfl⟩) ?_
  refine dw_op (d := (some 21)) (.int .i64 x) rfl rfl rfl (st_move (v := .int .i64 x) rfl rfl ⟨rfl, rfl⟩) ?_
  refine dw_op (d := (some 22)) (.int .i64 (w64 (Int.tdiv x 7))) rfl rfl rfl (st_bi (u := .int .i64 x) (v := .int .i64 7) (r := .int .i64 (w64 (Int.tdiv x 7))) rfl rfl rfl (bi_quo (by decide) rfl) ⟨rfl, rfl⟩) ?_
  refine dw_op (d := (some 23)) (.int .i64 y) rfl rfl rfl (st_move (v := .int .i64 y) rfl rfl ⟨rfl, rfl⟩) ?_
  refine dw_op (d := (some 24)) (.int .i64 (w64 (Int.tdiv y 11))) rfl rfl rfl (st_bi (u := .int .i64 y) (v := .int .i64 11) (r := .int .i64 (w64 (Int.tdiv y 11))) rfl rfl rfl (bi_quo (by decide) rfl) ⟨rfl, rfl⟩) ?_
  refine dw_op (d := (some 25)) (.agg #[.int .i64 ((hIn a.z (w64 (Int.tdiv x 7)) (w64 (Int.tdiv y 11))).lo), .int .i64 ((hIn a.z (w64 (Int.tdiv x 7)) (w64 (Int.tdiv y 11))).hi), .bool ((hIn a.z (w64 (Int.tdiv x 7)) (w64 (Int.tdiv y 11))).no)]) rfl rfl rfl (st_cf (vs := [.agg #[.int .i64 a.z.lo, .int .i64 a.z.hi, .bool a.z.no], .int .i64 (w64 (Int.tdiv x 7)), .int .i64 (w64 (Int.tdiv y 11))]) (r := .agg #[.int .i64 ((hIn a.z (w64 (Int.tdiv x 7)) (w64 (Int.tdiv y 11))).lo), .int .i64 ((hIn a.z (w64 (Int.tdiv x 7)) (w64 (Int.tdiv y 11))).hi), .bool ((hIn a.z (w64 (Int.tdiv x 7)) (w64 (Int.tdiv y 11))).no)]) (c_hIn a.z (w64 (Int.tdiv x 7)) (w64 (Int.tdiv y 11))) Try.func41 rfl (by decide) rfl rfl rfl ⟨rfl, rfl⟩) ?_
  refine dw_op (d := (some 26)) (.agg #[.int .i64 ((hIn a.x x y).lo), .int .i64 ((hIn a.x x y).hi), .bool ((hIn a.x x y).no), .int .i64 ((hIn a.y (w64 (Int.tdiv x 3)) (w64 (Int.tdiv y 5))).lo), .int .i64 ((hIn a.y (w64 (Int.tdiv x 3)) (w64 (Int.tdiv y 5))).hi), .bool ((hIn a.y (w64 (Int.tdiv x 3)) (w64 (Int.tdiv y 5))).no), .int .i64 ((hIn a.z (w64 (Int.tdiv x 7)) (w64 (Int.tdiv y 11))).lo), .int .i64 ((hIn a.z (w64 (Int.tdiv x 7)) (w64 (Int.tdiv y 11))).hi), .bool ((hIn a.z (w64 (Int.tdiv x 7)) (w64 (Int.tdiv y 11))).no)]) rfl rfl rfl (st_bd (us := [(0, .agg #[.int .i64 ((hIn a.x x y).lo), .int .i64 ((hIn a.x x y).hi), .bool ((hIn a.x x y).no)]), (1, .agg #[.int .i64 ((hIn a.y (w64 (Int.tdiv x 3)) (w64 (Int.tdiv y 5))).lo), .int .i64 ((hIn a.y (w64 (Int.tdiv x 3)) (w64 (Int.tdiv y 5))).hi), .bool ((hIn a.y (w64 (Int.tdiv x 3)) (w64 (Int.tdiv y 5))).no)]), (2, .agg #[.int .i64 ((hIn a.z (w64 (Int.tdiv x 7)) (w64 (Int.tdiv y 11))).lo), .int .i64 ((hIn a.z (w64 (Int.tdiv x 7)) (w64 (Int.tdiv y 11))).hi), .bool ((hIn a.z (w64 (Int.tdiv x 7)) (w64 (Int.tdiv y 11))).no)])]) (v := .agg #[.int .i64 ((hIn a.x x y).lo), .int .i64 ((hIn a.x x y).hi), .bool ((hIn a.x x y).no), .int .i64 ((hIn a.y (w64 (Int.tdiv x 3)) (w64 (Int.tdiv y 5))).lo), .int .i64 ((hIn a.y (w64 (Int.tdiv x 3)) (w64 (Int.tdiv y 5))).hi), .bool ((hIn a.y (w64 (Int.tdiv x 3)) (w64 (Int.tdiv y 5))).no), .int .i64 ((hIn a.z (w64 (Int.tdiv x 7)) (w64 (Int.tdiv y 11))).lo), .int .i64 ((hIn a.z (w64 (Int.tdiv x 7)) (w64 (Int.tdiv y 11))).hi), .bool ((hIn a.z (w64 (Int.tdiv x 7)) (w64 (Int.tdiv y 11))).no)]) rfl rfl (bd57_0a_1a_2a _ _ _ _ _ _ _ _ _) ⟨rfl, rfl⟩) ?_
  refine dw_nil ?_
  refine ar_op (d := none) rfl rfl (st_sta (g := g1) (off := 0) (us := [.int .i64 ((hIn a.x x y).lo), .int .i64 ((hIn a.x x y).hi), .bool ((hIn a.x x y).no), .int .i64 ((hIn a.y (w64 (Int.tdiv x 3)) (w64 (Int.tdiv y 5))).lo), .int .i64 ((hIn a.y (w64 (Int.tdiv x 3)) (w64 (Int.tdiv y 5))).hi), .bool ((hIn a.y (w64 (Int.tdiv x 3)) (w64 (Int.tdiv y 5))).no), .int .i64 ((hIn a.z (w64 (Int.tdiv x 7)) (w64 (Int.tdiv y 11))).lo), .int .i64 ((hIn a.z (w64 (Int.tdiv x 7)) (w64 (Int.tdiv y 11))).hi), .bool ((hIn a.z (w64 (Int.tdiv x 7)) (w64 (Int.tdiv y 11))).no)]) (cs := [.int .i64 ((hIn a.x x y).lo), .int .i64 ((hIn a.x x y).hi), .bool ((hIn a.x x y).no), .int .i64 ((hIn a.y (w64 (Int.tdiv x 3)) (w64 (Int.tdiv y 5))).lo), .int .i64 ((hIn a.y (w64 (Int.tdiv x 3)) (w64 (Int.tdiv y 5))).hi), .bool ((hIn a.y (w64 (Int.tdiv x 3)) (w64 (Int.tdiv y 5))).no), .int .i64 ((hIn a.z (w64 (Int.tdiv x 7)) (w64 (Int.tdiv y 11))).lo), .int .i64 ((hIn a.z (w64 (Int.tdiv x 7)) (w64 (Int.tdiv y 11))).hi), .bool ((hIn a.z (w64 (Int.tdiv x 7)) (w64 (Int.tdiv y 11))).no)]) agg57 0 rfl rfl rfl rfl rfl rfl rfl rfl rfl ?_)
  refine ar_nil ?_
  refine ac_ret ?_
  exact fin_eq (v := .agg #[.int .i64 ((hIn a.x x y).lo), .int .i64 ((hIn a.x x y).hi), .bool ((hIn a.x x y).no), .int .i64 ((hIn a.y (w64 (Int.tdiv x 3)) (w64 (Int.tdiv y 5))).lo), .int .i64 ((hIn a.y (w64 (Int.tdiv x 3)) (w64 (Int.tdiv y 5))).hi), .bool ((hIn a.y (w64 (Int.tdiv x 3)) (w64 (Int.tdiv y 5))).no), .int .i64 ((hIn a.z (w64 (Int.tdiv x 7)) (w64 (Int.tdiv y 11))).lo), .int .i64 ((hIn a.z (w64 (Int.tdiv x 7)) (w64 (Int.tdiv y 11))).hi), .bool ((hIn a.z (w64 (Int.tdiv x 7)) (w64 (Int.tdiv y 11))).no)]) rfl (fin_ret (res_c (vs := [.int .i64 ((hIn a.x x y).lo), .int .i64 ((hIn a.x x y).hi), .bool ((hIn a.x x y).no), .int .i64 ((hIn a.y (w64 (Int.tdiv x 3)) (w64 (Int.tdiv y 5))).lo), .int .i64 ((hIn a.y (w64 (Int.tdiv x 3)) (w64 (Int.tdiv y 5))).hi), .bool ((hIn a.y (w64 (Int.tdiv x 3)) (w64 (Int.tdiv y 5))).no), .int .i64 ((hIn a.z (w64 (Int.tdiv x 7)) (w64 (Int.tdiv y 11))).lo), .int .i64 ((hIn a.z (w64 (Int.tdiv x 7)) (w64 (Int.tdiv y 11))).hi), .bool ((hIn a.z (w64 (Int.tdiv x 7)) (w64 (Int.tdiv y 11))).no)]) agg57 0 rfl rfl rfl rfl rfl rfl))
def hV (l : A6) : V := (⟨(hIv l.a0 l.a1), (hIv l.a2 l.a3), (hIv l.a4 l.a5)⟩ : V)
set_option maxRecDepth 100000 in
theorem c_hV (l : A6) : Gets Try.prog 47 #[.agg #[.int .i64 l.a0, .int .i64 l.a1, .int .i64 l.a2, .int .i64 l.a3, .int .i64 l.a4, .int .i64 l.a5]] (V.v (hV l)) := by
  refine gets_fin Try.func47 rfl rfl rfl ?_
  refine ac_seq ?_
  refine ac_region_lit ?_
  refine ao 1 rfl rfl (st_box (v := .agg #[.int .i64 l.a0, .int .i64 l.a1, .int .i64 l.a2, .int .i64 l.a3, .int .i64 l.a4, .int .i64 l.a5]) (cs := [.int .i64 l.a0, .int .i64 l.a1, .int .i64 l.a2, .int .i64 l.a3, .int .i64 l.a4, .int .i64 l.a5]) rfl rfl rfl fun g0 => ?_)
  refine ao 2 rfl rfl (st_new zero57 rfl fun g1 => ?_)
  refine ar_nil ?_
  refine ac_seq ?_
  refine ac_draw0 (id := 1) [0, 1, 2, 3, 4, 5, 6, 7, 8, 9, 10, 11, 12, 13, 14, 15] [16] _ (by kernel_rfl) follows rfl  ?_
  refine dw_op (d := (some 3)) (.pointer (some ⟨g0, 0, none⟩)) rfl rfl rfl (st_ia (u := .pointer (some ⟨g0, 0, none⟩)) (i := .int .i64 0) (v := .pointer (some ⟨g0, 0, none⟩)) rfl rfl rfl (ia60_0 _ _) ⟨rfl, rfl⟩) ?_
  refine dw_op (d := (some 4)) (.int .i64 l.a0) rfl rfl rfl (st_ldc (g := g0) (off := 0) (v := .int .i64 l.a0) cell3 1 rfl rfl rfl rfl rfl ⟨rfl, rfl⟩) ?_
  refine dw_op (d := (some 5)) (.pointer (some ⟨g0, 1, none⟩)) rfl rfl rfl (st_ia (u := .pointer (some ⟨g0, 0, none⟩)) (i := .int .i64 1) (v := .pointer (some ⟨g0, 1, none⟩)) rfl rfl rfl (ia60_1 _ _) ⟨rfl, rfl⟩) ?_
  refine dw_op (d := (some 6)) (.int .i64 l.a1) rfl rfl rfl (st_ldc (g := g0) (off := 1) (v := .int .i64 l.a1) cell3 1 rfl rfl rfl rfl rfl ⟨rfl, rfl⟩) ?_
  refine dw_op (d := (some 7)) (.agg #[.int .i64 ((hIv l.a0 l.a1).lo), .int .i64 ((hIv l.a0 l.a1).hi), .bool ((hIv l.a0 l.a1).no)]) rfl rfl rfl (st_cf (vs := [.int .i64 l.a0, .int .i64 l.a1]) (r := .agg #[.int .i64 ((hIv l.a0 l.a1).lo), .int .i64 ((hIv l.a0 l.a1).hi), .bool ((hIv l.a0 l.a1).no)]) (c_hIv l.a0 l.a1) Try.func37 rfl (by decide) rfl rfl rfl ⟨rfl, rfl⟩) ?_
  refine dw_op (d := (some 8)) (.pointer (some ⟨g0, 2, none⟩)) rfl rfl rfl (st_ia (u := .pointer (some ⟨g0, 0, none⟩)) (i := .int .i64 2) (v := .pointer (some ⟨g0, 2, none⟩)) rfl rfl rfl (ia60_2 _ _) ⟨rfl, rfl⟩) ?_
  refine dw_op (d := (some 9)) (.int .i64 l.a2) rfl rfl rfl (st_ldc (g := g0) (off := 2) (v := .int .i64 l.a2) cell3 1 rfl rfl rfl rfl rfl ⟨rfl, rfl⟩) ?_
  refine dw_op (d := (some 10)) (.pointer (some ⟨g0, 3, none⟩)) rfl rfl rfl (st_ia (u := .pointer (some ⟨g0, 0, none⟩)) (i := .int .i64 3) (v := .pointer (some ⟨g0, 3, none⟩)) rfl rfl rfl (ia60_3 _ _) ⟨rfl, rfl⟩) ?_
  refine dw_op (d := (some 11)) (.int .i64 l.a3) rfl rfl rfl (st_ldc (g := g0) (off := 3) (v := .int .i64 l.a3) cell3 1 rfl rfl rfl rfl rfl ⟨rfl, rfl⟩) ?_
  refine dw_op (d := (some 12)) (.agg #[.int .i64 ((hIv l.a2 l.a3).lo), .int .i64 ((hIv l.a2 l.a3).hi), .bool ((hIv l.a2 l.a3).no)]) rfl rfl rfl (st_cf (vs := [.int .i64 l.a2, .int .i64 l.a3]) (r := .agg #[.int .i64 ((hIv l.a2 l.a3).lo), .int .i64 ((hIv l.a2 l.a3).hi), .bool ((hIv l.a2 l.a3).no)]) (c_hIv l.a2 l.a3) Try.func37 rfl (by decide) rfl rfl rfl ⟨rfl, rfl⟩) ?_
  refine dw_op (d := (some 13)) (.pointer (some ⟨g0, 4, none⟩)) rfl rfl rfl (st_ia (u := .pointer (some ⟨g0, 0, none⟩)) (i := .int .i64 4) (v := .pointer (some ⟨g0, 4, none⟩)) rfl rfl rfl (ia60_4 _ _) ⟨rfl, rfl⟩) ?_
  refine dw_op (d := (some 14)) (.int .i64 l.a4) rfl rfl rfl (st_ldc (g := g0) (off := 4) (v := .int .i64 l.a4) cell3 1 rfl rfl rfl rfl rfl ⟨rfl, rfl⟩) ?_
  refine dw_op (d := (some 15)) (.pointer (some ⟨g0, 5, none⟩)) rfl rfl rfl (st_ia (u := .pointer (some ⟨g0, 0, none⟩)) (i := .int .i64 5) (v := .pointer (some ⟨g0, 5, none⟩)) rfl rfl rfl (ia60_5 _ _) ⟨rfl, rfl⟩) ?_
  refine dw_op (d := (some 16)) (.int .i64 l.a5) rfl rfl rfl (st_ldc (g := g0) (off := 5) (v := .int .i64 l.a5) cell3 1 rfl rfl rfl rfl rfl ⟨rfl, rfl⟩) ?_
  refine dw_op (d := (some 17)) (.agg #[.int .i64 ((hIv l.a4 l.a5).lo), .int .i64 ((hIv l.a4 l.a5).hi), .bool ((hIv l.a4 l.a5).no)]) rfl rfl rfl (st_cf (vs := [.int .i64 l.a4, .int .i64 l.a5]) (r := .agg #[.int .i64 ((hIv l.a4 l.a5).lo), .int .i64 ((hIv l.a4 l.a5).hi), .bool ((hIv l.a4 l.a5).no)]) (c_hIv l.a4 l.a5) Try.func37 rfl (by decide) rfl rfl rfl ⟨rfl, rfl⟩) ?_
  refine dw_op (d := (some 18)) (.agg #[.int .i64 ((hIv l.a0 l.a1).lo), .int .i64 ((hIv l.a0 l.a1).hi), .bool ((hIv l.a0 l.a1).no), .int .i64 ((hIv l.a2 l.a3).lo), .int .i64 ((hIv l.a2 l.a3).hi), .bool ((hIv l.a2 l.a3).no), .int .i64 ((hIv l.a4 l.a5).lo), .int .i64 ((hIv l.a4 l.a5).hi), .bool ((hIv l.a4 l.a5).no)]) rfl rfl rfl (st_bd (us := [(0, .agg #[.int .i64 ((hIv l.a0 l.a1).lo), .int .i64 ((hIv l.a0 l.a1).hi), .bool ((hIv l.a0 l.a1).no)]), (1, .agg #[.int .i64 ((hIv l.a2 l.a3).lo), .int .i64 ((hIv l.a2 l.a3).hi), .bool ((hIv l.a2 l.a3).no)]), (2, .agg #[.int .i64 ((hIv l.a4 l.a5).lo), .int .i64 ((hIv l.a4 l.a5).hi), .bool ((hIv l.a4 l.a5).no)])]) (v := .agg #[.int .i64 ((hIv l.a0 l.a1).lo), .int .i64 ((hIv l.a0 l.a1).hi), .bool ((hIv l.a0 l.a1).no), .int .i64 ((hIv l.a2 l.a3).lo), .int .i64 ((hIv l.a2 l.a3).hi), .bool ((hIv l.a2 l.a3).no), .int .i64 ((hIv l.a4 l.a5).lo), .int .i64 ((hIv l.a4 l.a5).hi), .bool ((hIv l.a4 l.a5).no)]) rfl rfl (bd57_0a_1a_2a _ _ _ _ _ _ _ _ _) ⟨rfl, rfl⟩) ?_
  refine dw_nil ?_
  refine ar_op (d := none) rfl rfl (st_sta (g := g1) (off := 0) (us := [.int .i64 ((hIv l.a0 l.a1).lo), .int .i64 ((hIv l.a0 l.a1).hi), .bool ((hIv l.a0 l.a1).no), .int .i64 ((hIv l.a2 l.a3).lo), .int .i64 ((hIv l.a2 l.a3).hi), .bool ((hIv l.a2 l.a3).no), .int .i64 ((hIv l.a4 l.a5).lo), .int .i64 ((hIv l.a4 l.a5).hi), .bool ((hIv l.a4 l.a5).no)]) (cs := [.int .i64 ((hIv l.a0 l.a1).lo), .int .i64 ((hIv l.a0 l.a1).hi), .bool ((hIv l.a0 l.a1).no), .int .i64 ((hIv l.a2 l.a3).lo), .int .i64 ((hIv l.a2 l.a3).hi), .bool ((hIv l.a2 l.a3).no), .int .i64 ((hIv l.a4 l.a5).lo), .int .i64 ((hIv l.a4 l.a5).hi), .bool ((hIv l.a4 l.a5).no)]) agg57 0 rfl rfl rfl rfl rfl rfl rfl rfl rfl ?_)
  refine ar_nil ?_
  refine ac_ret ?_
  exact fin_eq (v := .agg #[.int .i64 ((hIv l.a0 l.a1).lo), .int .i64 ((hIv l.a0 l.a1).hi), .bool ((hIv l.a0 l.a1).no), .int .i64 ((hIv l.a2 l.a3).lo), .int .i64 ((hIv l.a2 l.a3).hi), .bool ((hIv l.a2 l.a3).no), .int .i64 ((hIv l.a4 l.a5).lo), .int .i64 ((hIv l.a4 l.a5).hi), .bool ((hIv l.a4 l.a5).no)]) rfl (fin_ret (res_c (vs := [.int .i64 ((hIv l.a0 l.a1).lo), .int .i64 ((hIv l.a0 l.a1).hi), .bool ((hIv l.a0 l.a1).no), .int .i64 ((hIv l.a2 l.a3).lo), .int .i64 ((hIv l.a2 l.a3).hi), .bool ((hIv l.a2 l.a3).no), .int .i64 ((hIv l.a4 l.a5).lo), .int .i64 ((hIv l.a4 l.a5).hi), .bool ((hIv l.a4 l.a5).no)]) agg57 0 rfl rfl rfl rfl rfl rfl))
end Go.Proofs.Ythngkopcadlciaa
namespace Go.Proofs.Ythngkopcadlciaa
def RV (a : V) : Prop := R a.x ∧ R a.y ∧ R a.z
def LeV (a b : V) : Prop := Le a.x b.x ∧ Le a.y b.y ∧ Le a.z b.z
theorem vecRight_iff (a : V) : vecRight a = true ↔ RV a := by
  unfold vecRight RV
  rw [← ivRight_iff, ← ivRight_iff, ← ivRight_iff]
  cases ivRight a.x <;> cases ivRight a.y <;> cases ivRight a.z <;> simp
theorem LeV.rfl' (a : V) : LeV a a := ⟨Le.rfl' _, Le.rfl' _, Le.rfl' _⟩
theorem rVecRight_eq (a : V) : rVecRight a = vecRight a := rfl
theorem rVecAdd_eq (a b : V) : rVecAdd a b = vecAdd a b := by
  unfold rVecAdd vecAdd vecOf
  simp only [rAdd_eq]
theorem rVecSub_eq (a b : V) : rVecSub a b = vecSub a b := by
  unfold rVecSub vecSub vecOf
  simp only [rSub_eq]
theorem rVecScale_eq (a : V) (k : Iv) : rVecScale a k = vecScale a k := by
  unfold rVecScale vecScale vecOf
  simp only [rMulIv_eq]
theorem rVecDot_eq (a b : V) : rVecDot a b = vecDot a b := by
  unfold rVecDot rVecDot_e0 vecDot vecDot_e0
  simp only [rMulIv_eq, rAdd_eq]
theorem rVecLen2_eq (a : V) : rVecLen2 a = vecLen2 a := by
  unfold rVecLen2 vecLen2
  simp only [rSqr_eq, rAdd_eq]
theorem rVecUnit_eq (a : V) : rVecUnit a = vecUnit a := by
  unfold rVecUnit vecUnit vecUnit_e0 vecOf
  simp only [rDivIv_eq, rRootIv_eq, rVecLen2_eq]
theorem rVecAlong_eq (r : Ray) (t : Iv) : rVecAlong r t = vecAlong r t := by
  unfold rVecAlong vecAlong
  rw [rVecAdd_eq, rVecScale_eq]
theorem rVecHull_eq (a b : V) : rVecHull a b = vecHull a b := by
  unfold rVecHull vecHull vecOf
  simp only [rHull_eq]
theorem rVecInside_eq (a b : V) : rVecInside a b = vecInside a b := by
  unfold rVecInside vecInside
  simp only [rInside_eq]
theorem rVecMirror_eq (a : V) : rVecMirror a = vecMirror a := rfl
def turn1 (a : V) : V := ⟨ivNeg a.y, a.x, a.z⟩
def turn2 (a : V) : V := ⟨ivNeg a.x, ivNeg a.y, a.z⟩
def turn3 (a : V) : V := ⟨ivNeg (ivNeg a.y), ivNeg a.x, a.z⟩
theorem vecTurn_spec (a : V) (k : Int) : (k % 4 = 0 ∧ vecTurn a k = a) ∨ (k % 4 = 1 ∧ vecTurn a k = turn1 a) ∨ (k % 4 = 2 ∧ vecTurn a k = turn2 a) ∨ (k % 4 = 3 ∧ vecTurn a k = turn3 a) := by
  unfold vecTurn turn1 turn2 turn3
  rw [turn_mod]
  have h : k % 4 = 0 ∨ k % 4 = 1 ∨ k % 4 = 2 ∨ k % 4 = 3 := by omega
  rcases h with h | h | h | h <;> rw [h] <;> simp
theorem k4 (k : Int) : k % 4 = 0 ∨ k % 4 = 1 ∨ k % 4 = 2 ∨ k % 4 = 3 := by omega
theorem t0 {k : Int} (h : k % 4 = 0) (a : V) : vecTurn a k = a := by
  rcases vecTurn_spec a k with ⟨h', e⟩ | ⟨h', e⟩ | ⟨h', e⟩ | ⟨h', e⟩ <;> first | exact e | (exfalso; omega)
theorem t1 {k : Int} (h : k % 4 = 1) (a : V) : vecTurn a k = turn1 a := by
  rcases vecTurn_spec a k with ⟨h', e⟩ | ⟨h', e⟩ | ⟨h', e⟩ | ⟨h', e⟩ <;> first | exact e | (exfalso; omega)
theorem t2 {k : Int} (h : k % 4 = 2) (a : V) : vecTurn a k = turn1 (turn1 a) := by
  rcases vecTurn_spec a k with ⟨h', e⟩ | ⟨h', e⟩ | ⟨h', e⟩ | ⟨h', e⟩ <;> first | exact e | (exfalso; omega)
theorem t3 {k : Int} (h : k % 4 = 3) (a : V) : vecTurn a k = turn1 (turn1 (turn1 a)) := by
  rcases vecTurn_spec a k with ⟨h', e⟩ | ⟨h', e⟩ | ⟨h', e⟩ | ⟨h', e⟩ <;> first | exact e | (exfalso; omega)
theorem rVecTurn_eq (a : V) (k : Int) : rVecTurn a k = vecTurn a k := by
  unfold rVecTurn rVecTurn_e0 vecTurn
  rw [turn_mod, rturn_mod]
  have h : k % 4 = 0 ∨ k % 4 = 1 ∨ k % 4 = 2 ∨ k % 4 = 3 := by omega
  rcases h with h | h | h | h <;> rw [h] <;> rfl
theorem leV_add {a b c d : V} (h1 : LeV a c) (h2 : LeV b d) : LeV (vecAdd a b) (vecAdd c d) := ⟨le_add h1.1 h2.1, le_add h1.2.1 h2.2.1, le_add h1.2.2 h2.2.2⟩
theorem leV_sub {a b c d : V} (h1 : LeV a c) (h2 : LeV b d) : LeV (vecSub a b) (vecSub c d) := ⟨le_sub h1.1 h2.1, le_sub h1.2.1 h2.2.1, le_sub h1.2.2 h2.2.2⟩
theorem leV_scale {a c : V} {k j : Iv} (h1 : LeV a c) (h2 : Le k j) : LeV (vecScale a k) (vecScale c j) := ⟨le_mul h1.1 h2, le_mul h1.2.1 h2, le_mul h1.2.2 h2⟩
theorem le_dot {a b c d : V} (h1 : LeV a c) (h2 : LeV b d) : Le (vecDot a b) (vecDot c d) := le_add (le_add (le_mul h1.1 h2.1) (le_mul h1.2.1 h2.2.1)) (le_mul h1.2.2 h2.2.2)
theorem le_len2 {a c : V} (h1 : LeV a c) : Le (vecLen2 a) (vecLen2 c) := le_add (le_add (le_sqr h1.1) (le_sqr h1.2.1)) (le_sqr h1.2.2)
theorem leV_unit {a c : V} (h1 : LeV a c) : LeV (vecUnit a) (vecUnit c) := ⟨le_div h1.1 (le_root (le_len2 h1)), le_div h1.2.1 (le_root (le_len2 h1)), le_div h1.2.2 (le_root (le_len2 h1))⟩
theorem leV_along {a c : Ray} {t s : Iv} (h1 : LeV a.o c.o) (h2 : LeV a.d c.d) (h3 : Le t s) : LeV (vecAlong a t) (vecAlong c s) := leV_add h1 (leV_scale h2 h3)
theorem hInV_Le (a : V) (x y : Int) : LeV (hInV a x y) a := ⟨hIn_Le _ _ _, hIn_Le _ _ _, hIn_Le _ _ _⟩
theorem ivMul_neg2 (a b : Iv) : ivMul (ivNeg a) (ivNeg b) = ivMul a b := by
  by_cases h : R a ∧ R b
  · rw [ivMul_negl, ivMul_negr]
    by_cases k : R (ivMul a b)
    · exact ivNeg_neg k
    · have e : ivMul a b = ivNone := by
        rw [ivMul_spec h.1 h.2] at k ⊢
        exact ivOf_out (fun q => k (R_of.2 q))
      rw [e, ivNeg_none, ivNeg_none]
  · rw [ivMul_out h, ivMul_out (fun k => h ⟨R_neg.1 k.1, R_neg.1 k.2⟩)]
theorem dot_turn1 (a b : V) : vecDot (turn1 a) (turn1 b) = vecDot a b := by
  unfold vecDot vecDot_e0 turn1
  simp only [ivMul_neg2]
  rw [ivAdd_comm (ivMul a.y b.y)]
theorem turn2_eq (a : V) : turn2 a = turn1 (turn1 a) := rfl
theorem turn3_eq (a : V) : turn3 a = turn1 (turn1 (turn1 a)) := rfl
theorem dot_turn (a b : V) (k : Int) : vecDot (vecTurn a k) (vecTurn b k) = vecDot a b := by
  rcases k4 k with h | h | h | h
  · rw [t0 h, t0 h]
  · rw [t1 h, t1 h, dot_turn1]
  · rw [t2 h, t2 h, dot_turn1, dot_turn1]
  · rw [t3 h, t3 h, dot_turn1, dot_turn1, dot_turn1]
theorem len2_turn1 (a : V) : vecLen2 (turn1 a) = vecLen2 a := by
  unfold vecLen2 turn1
  simp only [ivSqr_neg]
  rw [ivAdd_comm (ivSqr a.y)]
theorem len2_turn (a : V) (k : Int) : vecLen2 (vecTurn a k) = vecLen2 a := by
  rcases k4 k with h | h | h | h
  · rw [t0 h]
  · rw [t1 h, len2_turn1]
  · rw [t2 h, len2_turn1, len2_turn1]
  · rw [t3 h, len2_turn1, len2_turn1, len2_turn1]
theorem add_turn1 (a b : V) : turn1 (vecAdd a b) = vecAdd (turn1 a) (turn1 b) := by
  unfold vecAdd vecOf turn1
  simp only [ivNeg_add]
theorem add_turn (a b : V) (k : Int) : vecTurn (vecAdd a b) k = vecAdd (vecTurn a k) (vecTurn b k) := by
  rcases k4 k with h | h | h | h
  · rw [t0 h, t0 h, t0 h]
  · rw [t1 h, t1 h, t1 h, add_turn1]
  · rw [t2 h, t2 h, t2 h, add_turn1, add_turn1]
  · rw [t3 h, t3 h, t3 h, add_turn1, add_turn1, add_turn1]
theorem rq_negv (n c : Int) (up : Bool) : rq (-n) c (!up) = -(rq n c up) := by
  unfold rq upq dn
  cases up
  · simp
  · simp
theorem dq_negl (x : Int) {y : Int} (h : y ≠ 0) (up : Bool) : dq (-x) y (!up) = -(dq x y up) := by
  unfold dq
  rw [← rq_negv]
  by_cases hn : y < 0
  · rw [decide_eq_true hn]; simp only [cond_true, Int.neg_mul]
  · rw [decide_eq_false hn]; simp only [cond_false, Int.neg_mul]
theorem dq_negf (x : Int) {y : Int} (h : y ≠ 0) : dq (-x) y false = -(dq x y true) := dq_negl x h true
theorem dq_negt (x : Int) {y : Int} (h : y ≠ 0) : dq (-x) y true = -(dq x y false) := dq_negl x h false
theorem ivDiv_negl (a b : Iv) : ivDiv (ivNeg a) b = ivNeg (ivDiv a b) := by
  by_cases h : R a ∧ R b ∧ ¬ (b.lo ≤ 0 ∧ 0 ≤ b.hi)
  · rw [ivDiv_val (R_neg.2 h.1) h.2.1 h.2.2, ivDiv_val h.1 h.2.1 h.2.2, ivNeg_of]
    have hb := h.2.1.2
    have e1 : qn (ivNeg a) b = -(qx a b) := by
      rw [ivNeg_spec h.1]
      unfold qn qx min4 max4
      simp only
      simp (disch := omega) only [dq_negf]
      omega
    have e2 : qx (ivNeg a) b = -(qn a b) := by
      rw [ivNeg_spec h.1]
      unfold qn qx min4 max4
      simp only
      simp (disch := omega) only [dq_negt]
      omega
    rw [e1, e2]
  · rw [ivDiv_out h, ivDiv_out (fun k => h ⟨R_neg.1 k.1, k.2⟩), ivNeg_none]
theorem unit_turn1 (a : V) : vecUnit (turn1 a) = turn1 (vecUnit a) := by
  unfold vecUnit vecUnit_e0 vecOf
  rw [len2_turn1]
  unfold turn1
  simp only [ivDiv_negl]
theorem vecTurn_1 (a : V) : vecTurn a 1 = turn1 a := t1 rfl a
theorem turn1_4 {a : V} (h : RV a) : turn1 (turn1 (turn1 (turn1 a))) = a := by
  unfold turn1
  simp only
  rw [ivNeg_neg h.1, ivNeg_neg h.2.1]
theorem turn_back {a : V} (ha : RV a) {k j : Int} (h : (k + j) % 4 = 0) : vecTurn (vecTurn a k) j = a := by
  have e4 := turn1_4 ha
  rcases k4 k with h1 | h1 | h1 | h1
  · rw [t0 h1, t0 (by omega)]
  · rw [t1 h1, t3 (by omega), e4]
  · rw [t2 h1, t2 (by omega), e4]
  · rw [t3 h1, t1 (by omega), e4]
theorem dot_mirror (a b : V) : vecDot (vecMirror a) (vecMirror b) = vecDot a b := by
  unfold vecDot vecDot_e0 vecMirror
  simp only [ivMul_neg2]
theorem len2_mirror (a : V) : vecLen2 (vecMirror a) = vecLen2 a := by
  unfold vecLen2 vecMirror
  simp only [ivSqr_neg]
theorem unit_mirror (a : V) : vecUnit (vecMirror a) = vecMirror (vecUnit a) := by
  unfold vecUnit vecUnit_e0 vecOf
  rw [len2_mirror]
  unfold vecMirror
  simp only [ivDiv_negl]
theorem mirror2 {a : V} (h : RV a) : vecMirror (vecMirror a) = a := by
  unfold vecMirror
  simp only
  rw [ivNeg_neg h.2.1]
end Go.Proofs.Ythngkopcadlciaa
namespace Go.Proofs.Ythngkopcadlciaa
def pt (n : Int) : Iv := ⟨n, n, false⟩
theorem R_pt {n : Int} (h : -1073741824 ≤ n ∧ n ≤ 1073741824) : R (pt n) := R_mk h.1 (by omega) h.2
theorem point_eq {n : Int} (h : -1073741824 ≤ n ∧ n ≤ 1073741824) : ivPoint n = pt n := ivOf_in ⟨h.1, by omega, h.2⟩
theorem whole_eq {k : Int} (h : -16384 ≤ k ∧ k ≤ 16384) : ivWhole k = pt (k * 65536) := by
  unfold ivWhole
  rw [(numIn_iff k).2 (by omega), w64_of (by omega) (by omega)]
  exact point_eq (by omega)
theorem add_pt {a b : Int} (ha : -1073741824 ≤ a ∧ a ≤ 1073741824) (hb : -1073741824 ≤ b ∧ b ≤ 1073741824) (h : -1073741824 ≤ a + b ∧ a + b ≤ 1073741824) : ivAdd (pt a) (pt b) = pt (a + b) := by
  rw [ivAdd_spec (R_pt ha) (R_pt hb)]
  exact ivOf_in ⟨h.1, by simp [pt], h.2⟩
theorem sub_pt {a b : Int} (ha : -1073741824 ≤ a ∧ a ≤ 1073741824) (hb : -1073741824 ≤ b ∧ b ≤ 1073741824) (h : -1073741824 ≤ a - b ∧ a - b ≤ 1073741824) : ivSub (pt a) (pt b) = pt (a - b) := by
  rw [ivSub_spec (R_pt ha) (R_pt hb)]
  exact ivOf_in ⟨h.1, by simp [pt], h.2⟩
theorem neg_pt {a : Int} (ha : -1073741824 ≤ a ∧ a ≤ 1073741824) : ivNeg (pt a) = pt (-a) := by
  rw [ivNeg_spec (R_pt ha)]; rfl
theorem times_pt {a k : Int} (ha : -1073741824 ≤ a ∧ a ≤ 1073741824) (hk : -1073741824 ≤ k ∧ k ≤ 1073741824) (h : -1073741824 ≤ k * a ∧ k * a ≤ 1073741824) : ivTimes (pt a) k = pt (k * a) := by
  rw [ivTimes_spec (R_pt ha) hk]
  show ivOf (min (k * a) (k * a)) (max (k * a) (k * a)) = _
  rw [Int.min_self, Int.max_self]
  exact ivOf_in ⟨h.1, by omega, h.2⟩
theorem mul_pt {a b c : Int} (ha : -1073741824 ≤ a ∧ a ≤ 1073741824) (hb : -1073741824 ≤ b ∧ b ≤ 1073741824) (hc : a * b = c * 65536) (h : -1073741824 ≤ c ∧ c ≤ 1073741824) : ivMul (pt a) (pt b) = pt c := by
  rw [ivMul_spec (R_pt ha) (R_pt hb)]
  have e1 : mn (pt a) (pt b) = c * 65536 := by
    show min4 (a * b) (a * b) (a * b) (a * b) = _
    simp [min4, hc]
  have e2 : mx (pt a) (pt b) = c * 65536 := by
    show max4 (a * b) (a * b) (a * b) (a * b) = _
    simp [max4, hc]
  rw [e1, e2]
  have d1 : dn (c * 65536) 65536 = c := Int.mul_ediv_cancel c (by decide)
  have d2 : upq (c * 65536) 65536 = c := by
    have h1 := (upq_le_iff (u := c) (n := c * 65536) (c := 65536) (by decide)).2 (Int.le_refl _)
    have h2 := dn_le_upq (a := c * 65536) (b := 65536) (by decide)
    omega
  rw [d1, d2]
  exact ivOf_in ⟨h.1, Int.le_refl _, h.2⟩
theorem mul_wh {a b : Int} (ha : -16384 ≤ a ∧ a ≤ 16384) (hb : -16384 ≤ b ∧ b ≤ 16384) (h : -16384 ≤ a * b ∧ a * b ≤ 16384) : ivMul (pt (a * 65536)) (pt (b * 65536)) = pt (a * b * 65536) := by
  refine mul_pt (by omega) (by omega) ?_ (by omega)
  rw [Int.mul_assoc a 65536, Int.mul_comm 65536 (b * 65536), ← Int.mul_assoc a, ← Int.mul_assoc a]
theorem add_wh {a b : Int} (ha : -16384 ≤ a ∧ a ≤ 16384) (hb : -16384 ≤ b ∧ b ≤ 16384) (h : -16384 ≤ a + b ∧ a + b ≤ 16384) : ivAdd (pt (a * 65536)) (pt (b * 65536)) = pt ((a + b) * 65536) := by
  rw [add_pt (by omega) (by omega) (by omega), Int.add_mul]
theorem sub_wh {a b : Int} (ha : -16384 ≤ a ∧ a ≤ 16384) (hb : -16384 ≤ b ∧ b ≤ 16384) (h : -16384 ≤ a - b ∧ a - b ≤ 16384) : ivSub (pt (a * 65536)) (pt (b * 65536)) = pt ((a - b) * 65536) := by
  rw [sub_pt (by omega) (by omega) (by omega), Int.sub_mul]
theorem times_wh {a k : Int} (ha : -16384 ≤ a ∧ a ≤ 16384) (hk : -16384 ≤ k ∧ k ≤ 16384) (h : -16384 ≤ k * a ∧ k * a ≤ 16384) : ivTimes (pt (a * 65536)) k = pt (k * a * 65536) := by
  rw [times_pt (by omega) (by omega) (by rw [← Int.mul_assoc]; omega), ← Int.mul_assoc]
end Go.Proofs.Ythngkopcadlciaa
namespace Go.Proofs.Ythngkopcadlciaa
open Go.RowKit
structure SlT (p : Program) (t e : TypeId) (s by_ : Nat) : Prop where
  un : p.underlying t = some (.slice e)
  ex : ∃ z, (p.info? e).map (fun i => (i.zero, i.size, i.bytes)) = some (some z, s, by_) ∧ z.cells.size = s ∧ 0 < s
theorem SlT.out {p : Program} {t e : TypeId} {s by_ : Nat} (h : SlT p t e s by_) : ∃ i z, p.info? e = some i ∧ i.zero = some z ∧ i.size = s ∧ i.bytes = by_ ∧ z.cells.size = s ∧ 0 < s := by
  obtain ⟨z, h1, h2, h3⟩ := h.ex
  cases hq : p.info? e with
  | none => simp [hq] at h1
  | some i =>
    simp only [hq, Option.map_some, Option.some.injEq, Prod.mk.injEq] at h1
    exact ⟨i, z, rfl, h1.1, h1.2.1, h1.2.2, h2, h3⟩
def Row (e s n : Nat) (xs : List Value) (v : Value) (N : List Box) : Prop :=
  (n = 0 ∧ xs = [] ∧ v = .slice none 0 0 ∧ N = []) ∨ ∃ g cap rest, v = .slice (some ⟨g, 0, none⟩) n cap ∧ N = [⟨g, xs ++ rest, e, false⟩] ∧ xs.length = n * s ∧ (xs ++ rest).length = cap * s ∧ n ≤ cap ∧ cap ≤ maxLen
theorem Row.nil (e s : Nat) : Row e s 0 [] (.slice none 0 0) [] := .inl ⟨rfl, rfl, rfl, rfl⟩
theorem Row.len {e s n : Nat} {xs : List Value} {v : Value} {N : List Box} (h : Row e s n xs v N) : xs.length = n * s := by
  rcases h with ⟨rfl, rfl, _⟩ | ⟨g, cap, rest, _, _, h, _⟩
  · simp
  · exact h
section
variable {p : Program} {n : Nat} {ops : Array Oper} {Q : Exit → Env → List Box → Prop} {l : List Oper} {E : Env} {H : List Box} {o : Oper} {ρ : Operand → Value} {K : Post}
theorem st_app {t e s by_ k m c gt : Nat} {x y : Operand} {v : Value} {xs news r : List Value} {N A B : List Box} {bt : Box} (hs : SlT p t e s by_) (ho : o.op = .call { callee := .builtin .append, args := #[x, y], argTypes := #[t, t] })
    (hx : ρ x = v) (hy : ρ y = .slice (some ⟨gt, 0, none⟩) m c) (hR : Row e s k xs v N) (hH : H = A ++ (N ++ B)) (hbt : bt ∈ A ++ B) (hg : bt.g = gt) (hc : bt.cs = news ++ r) (hl : news.length = m * s) (h1 : news.all (·.oneCell') = true) (hm : 0 < m)
    (h63 : k + m ≤ maxLen) (hby : (k + m) * by_ ≤ 140737488355328) (kk : ∀ v' N', Row e s (k + m) (xs ++ news) v' N' → K v' (N' ++ (A ++ B))) : Step p ρ o H K := by
  intro F β w hO hB
  have hu := hs.un
  obtain ⟨inf, z, hi, hz, hsz, hbz, hzc, hs0⟩ := hs.out
  subst hsz hbz hH
  have hsmall : k + m ≤ 9223372036854775807 := by simp only [maxLen] at h63; omega
  have hO1 : Own β (N ++ (A ++ B ++ F)) w := by
    refine hO.perm ?_
    have h1 : (A ++ (N ++ B) ++ F).Perm ((N ++ (A ++ B)) ++ F) := List.Perm.append_right F (by
      rw [← List.append_assoc, ← List.append_assoc]
      exact List.Perm.append_right B List.perm_append_comm)
    rw [List.append_assoc N] at h1
    exact h1
  have hat : ∀ j u, news[j]? = some u → w.cell? ((⟨gt, 0, none⟩ : Addr).add j) = some u := by
    intro j u hj
    obtain ⟨fr, _, hb⟩ := (hO1.at_ bt (List.mem_append_right _ (List.mem_append_left _ hbt))).2
    rw [add_at, Nat.zero_add, ← hg, cell_of_row w bt.g j _ _ _ hb, hc]
    simp only [List.getElem?_toArray]
    rw [List.getElem?_append_left (List.getElem?_eq_some_iff.1 hj).1, hj]
  have ex : ∀ w, (execOp ρ o).run p w = (match (Builtin.append_ #[t, t] o.type #[v, .slice (some ⟨gt, 0, none⟩) m c]).run p w with | .ok u w' => .ok (.value u) w' | .halt x w' => .halt x w') := by
    intro w
    rw [execOp, ho]
    simp only [resolve, List.map_toArray, List.map_cons, List.map_nil, hx, hy]
    simp [invoke, builtin, Sem.run_bind]
    cases (Builtin.append_ #[t, t] o.type #[v, .slice (some ⟨gt, 0, none⟩) m c]).run p w <;> rfl
  have zl : ∀ j, (Builtin.zeroCells z.cells j).toList.length = j * inf.size := by intro j; simp [Builtin.zeroCells, hzc]
  rw [ex]
  rcases hR with ⟨rfl, rfl, rfl, rfl⟩ | ⟨g, cap, rest, rfl, rfl, hxl, hcl, hkc, hcm⟩
  · have hr := run_append_nil (P := p) w t o.type e inf z hu hi hz ⟨gt, 0, none⟩ m c news hl hat hm (by omega) (by simp only [Nat.zero_add] at hby; omega)
    rw [hr]
    have hge := grownCap_ge w m 0 e
    have hcm := grownCap_le_maxLen w m 0 e (by omega)
    refine ⟨_, kk _ [⟨w.heap.size, news ++ (Builtin.zeroCells z.cells (grownCap w m 0 e - m)).toList, e, false⟩] (.inr ⟨w.heap.size, _, _, by rw [Nat.zero_add], rfl, by rw [Nat.zero_add]; exact hl, ?_, by omega, hcm⟩), ?_, (hB.drew).alloc _⟩
    · simp only [List.nil_append, List.length_append, zl, hl, ← Nat.add_mul]
      congr 1
      omega
    · have h3 := hO1.drew.alloc (news ++ (Builtin.zeroCells z.cells (grownCap w m 0 e - m)).toList) e
      simp only [List.nil_append] at h3 ⊢
      have e1 : (news ++ (Builtin.zeroCells z.cells (grownCap w m 0 e - m)).toList).toArray = news.toArray ++ Builtin.zeroCells z.cells (grownCap w m 0 e - m) := by
        apply Array.ext'
        simp
      rw [e1] at h3
      exact h3
  · obtain ⟨fr, hf, hgb⟩ := (hO1.at_ _ (List.mem_append_left _ (List.mem_singleton.2 rfl))).2
    obtain rfl := hf rfl
    simp only at hgb
    by_cases hroom : k + m ≤ cap
    · have hfit : k * inf.size + news.length ≤ (xs ++ rest).toArray.size := by
        simp only [List.size_toArray, hcl, hl, ← Nat.add_mul]
        exact Nat.mul_le_mul_right _ hroom
      have hr := run_append_room (P := p) w t o.type e inf hu hi g k cap (xs ++ rest).toArray hgb ⟨gt, 0, none⟩ m c news hl hat (fun u hu => List.all_eq_true.1 h1 u hu) hroom hfit
      rw [hr]
      have e1 : (xs ++ rest).toArray.toList.take (k * inf.size) ++ news ++ (xs ++ rest).toArray.toList.drop (k * inf.size + news.length) = xs ++ news ++ rest.drop news.length := by
        simp only [List.toList_toArray]
        rw [← hxl, List.take_left, List.drop_length_add_append]
      rw [e1]
      have hmay : β.may g := (((hO1.at_ _ (List.mem_append_left _ (List.mem_singleton.2 rfl))).1).resolve_left (by simp))
      refine ⟨_, kk _ [⟨g, xs ++ news ++ rest.drop news.length, e, false⟩] (.inr ⟨g, cap, _, rfl, rfl, ?_, ?_, hroom, hcm⟩), ?_, hB.setRow _ _ hmay⟩
      · rw [List.length_append, hxl, hl, Nat.add_mul]
      · rw [← hcl]
        simp only [List.length_append, List.length_drop]
        have : news.length ≤ rest.length := by
          have := hfit
          simp only [List.size_toArray, List.length_append, hxl] at this
          omega
        omega
      · have h3 := hO1.set 0 _ rfl rfl (xs ++ news ++ rest.drop news.length)
        exact h3
    · have hold : ∀ j u, xs[j]? = some u → w.cell? ((⟨g, 0, none⟩ : Addr).add j) = some u := by
        intro j u hj
        rw [add_at, Nat.zero_add, cell_of_row w g j _ _ _ hgb]
        simp only [List.getElem?_toArray]
        rw [List.getElem?_append_left (List.getElem?_eq_some_iff.1 hj).1, hj]
      have hr := run_append_grow (P := p) w t o.type e inf z hu hi hz ⟨g, 0, none⟩ k cap xs hxl hold ⟨gt, 0, none⟩ m c news hl hat (by omega) (by omega) (growslice_fits (by omega) hby)
      rw [hr]
      have hge := grownCap_ge w (k + m) cap e
      have hcm := grownCap_le_maxLen w (k + m) cap e h63
      refine ⟨_, kk _ [⟨w.heap.size, xs ++ news ++ (Builtin.zeroCells z.cells (grownCap w (k + m) cap e - (k + m))).toList, e, false⟩] (.inr ⟨w.heap.size, _, _, rfl, rfl, ?_, ?_, hge, hcm⟩), ?_, (hB.drew).alloc _⟩
      · rw [List.length_append, hxl, hl, Nat.add_mul]
      · simp only [List.length_append, zl, hl, hxl, ← Nat.add_mul]
        congr 1
        omega
      · have h2 : Own β (A ++ B ++ F) w := Own.sub (List.sublist_append_right _ _) hO1
        have h3 := h2.drew.alloc (xs ++ news ++ (Builtin.zeroCells z.cells (grownCap w (k + m) cap e - (k + m))).toList) e
        have e1 : (xs ++ news ++ (Builtin.zeroCells z.cells (grownCap w (k + m) cap e - (k + m))).toList).toArray = xs.toArray ++ news.toArray ++ Builtin.zeroCells z.cells (grownCap w (k + m) cap e - (k + m)) := by
          apply Array.ext'
          simp
        rw [e1] at h3
        exact h3
theorem ar_perm {H' : List Box} (hp : H.Perm H') (h : AR p n ops Q l E H) : AR p n ops Q l E H' :=
  fun β w a hO hB hs => h β w a (hO.perm hp.symm) hB hs
theorem Row.form {e s n : Nat} {xs : List Value} {v : Value} {N : List Box} (h : Row e s n xs v N) : ∃ a cap, v = .slice a n cap := by
  rcases h with ⟨rfl, _, rfl, _⟩ | ⟨g, cap, rest, rfl, _⟩
  · exact ⟨_, _, rfl⟩
  · exact ⟨_, _, rfl⟩
theorem st_appZ {t e s by_ k m c gt : Nat} {x y : Operand} {v : Value} {xs news r : List Value} {N A : List Box} {bt : Box} (hs : SlT p t e s by_) (ho : o.op = .call { callee := .builtin .append, args := #[x, y], argTypes := #[t, t] })
    (hx : ρ x = v) (hy : ρ y = .slice (some ⟨gt, 0, none⟩) m c) (hR : Row e s k xs v N) (hH : H = A ++ N) (hbt : bt ∈ A) (hg : bt.g = gt) (hc : bt.cs = news ++ r) (hl : news.length = m * s) (h1 : news.all (·.oneCell') = true) (hm : 0 < m)
    (h63 : k + m ≤ maxLen) (hby : (k + m) * by_ ≤ 140737488355328) (hK : ∀ v H H', H.Perm H' → K v H → K v H') (kk : ∀ v' N', Row e s (k + m) (xs ++ news) v' N' → K v' (A ++ N')) : Step p ρ o H K :=
  st_app (A := A) (B := []) hs ho hx hy hR (by rw [hH, List.append_nil]) (by rw [List.append_nil]; exact hbt) hg hc hl h1 hm h63 hby fun v' N' h => by
    rw [List.append_nil]
    exact hK _ _ _ List.perm_append_comm (kk v' N' h)
end
end Go.Proofs.Ythngkopcadlciaa
namespace Go.Proofs.Ythngkopcadlciaa
open Go.RowKit
section
variable {p : Program} {n : Nat} {ops : Array Oper} {Q : Exit → Env → List Box → Prop}
def AAny (p : Program) (n : Nat) (ops : Array Oper) (Q : Exit → Env → List Box → Prop) (fuel : Nat) (L : List Bool) (E : Env) (H : List Box) : Prop :=
  ∀ β w a, Own β H w → Keeps β w → Sees n E a → wpAny p .any ops (AQ n β Q) fuel L.toArray a w
def OpR (p : Program) (n : Nat) (ops : Array Oper) (E : Env) (H : List Box) (i : Nat) (K : Env → List Box → Prop) : Prop :=
  ∃ o, ops[i]? = some o ∧ ((yld n ops E o = true ∧ Step p (ev n E) o H fun v H' => K (E.put o.dst v) H') ∨ (yld n ops E o = false ∧ K (E.put o.dst undef) H))
def Each (P : Nat → Prop) : List Nat → Prop
  | [] => True
  | i :: is => P i ∧ Each P is
theorem each_mem {P : Nat → Prop} : ∀ {is : List Nat}, Each P is → ∀ i ∈ is, P i
  | [], _, _, h => by cases h
  | j :: is, h, i, hi => by
    rcases List.mem_cons.1 hi with rfl | hi
    · exact h.1
    · exact each_mem h.2 i hi
theorem opR_op {E : Env} {H : List Box} {i : Nat} {d : Option Nat} {K : Env → List Box → Prop} {o : Oper} (ho : ops[i]? = some o) (hg : o.guard = none) (hd : o.dst = d) (h : Step p (ev n E) o H fun v H' => K (E.put d v) H') : OpR p n ops E H i K := by
  subst hd
  exact ⟨o, ho, .inl ⟨by unfold yld; rw [hg], h⟩⟩
theorem opR_gd {E : Env} {H : List Box} {i : Nat} {d : Option Nat} {K : Env → List Box → Prop} {o : Oper} (ho : ops[i]? = some o) (hg : yld n ops E o = true) (hd : o.dst = d) (h : Step p (ev n E) o H fun v H' => K (E.put d v) H') : OpR p n ops E H i K := by
  subst hd
  exact ⟨o, ho, .inl ⟨hg, h⟩⟩
theorem opR_sk {E : Env} {H : List Box} {i : Nat} {d : Option Nat} {K : Env → List Box → Prop} {o : Oper} (ho : ops[i]? = some o) (hg : yld n ops E o = false) (hd : o.dst = d) (h : K (E.put d undef) H) : OpR p n ops E H i K := by
  subst hd
  exact ⟨o, ho, .inr ⟨hg, h⟩⟩
def StepRule (p : Program) (n : Nat) (ops : Array Oper) (Φ : Nat → List Bool → Env → List Box → Prop) : Prop :=
  ∀ fuel L E H is, Region.ready .any ops L.toArray = is → is.isEmpty = false → Each (fun i => OpR p n ops E H i (Φ fuel (L.set i true))) is → Φ (fuel + 1) L E H
def PermRule (Φ : Nat → List Bool → Env → List Box → Prop) : Prop := ∀ fuel L E H H', H.Perm H' → Φ fuel L E H → Φ fuel L E H'
theorem ac_any {id : Nat} {E : Env} {H : List Box} (hm : p.follows .mixedOrders = true) (k : Nat) (hk : ops.size = k)
    (h : ∀ Φ : Nat → List Bool → Env → List Box → Prop, StepRule p n ops Φ → (∀ L E H, Region.ready .any ops L.toArray = [] → Q .normal E H → Φ 0 L E H) → PermRule Φ → Φ k (List.replicate k false) E H) : AC p n (.region id ops true) Q E H := by
  have key := h (AAny p n ops Q) (by
    intro fuel L E H is hr hne he β w a hO hB hs
    refine ⟨fun h => ?_, fun i hi => ?_⟩
    · rw [hr] at h
      rw [h] at hne
      cases hne
    · rw [hr] at hi
      obtain ⟨o, ho, hop⟩ := each_mem he i hi
      unfold wpOp
      simp only [ho]
      rw [hs.yld]
      rcases hop with ⟨hw, hst⟩ | ⟨hw, hk⟩
      · rw [hw, if_pos rfl]
        refine .inl (hst.wp hs hO hB fun v H' w' k hO' hB' => ?_)
        have := k β w' _ hO' hB' (hs.put _ _)
        rwa [← List.setIfInBounds_toArray] at this
      · rw [hw, if_neg (by simp)]
        have := hk β w _ hO hB (hs.put _ _)
        rwa [← List.setIfInBounds_toArray] at this) (by
    intro L E H hr hq β w a hO hB hs
    exact ⟨hr, E, H, hq, hs, hO, hB⟩) (fun fuel L E H H' hp h β w a hO hB hs => h β w a (hO.perm hp.symm) hB hs)
  intro β w a hO hB hs
  refine wp_region_any hm ?_
  have := key β { w with drawn := w.drawn + 1 } a hO.drew hB.drew hs
  rw [← hk] at this
  rwa [List.toArray_replicate] at this
end
theorem Row.pos {e s n : Nat} {xs : List Value} {v : Value} {N : List Box} (h : Row e s n xs v N) (hn : 0 < n) : ∃ g cap rest, v = .slice (some ⟨g, 0, none⟩) n cap ∧ N = [⟨g, xs ++ rest, e, false⟩] ∧ (xs.length = n * s ∧ (xs ++ rest).length = cap * s ∧ n ≤ cap ∧ cap ≤ maxLen) := by
  rcases h with ⟨rfl, _⟩ | ⟨g, cap, rest, h1, h2, h3, h4, h5, h6⟩
  · cases hn
  · exact ⟨g, cap, rest, h1, h2, h3, h4, h5, h6⟩
theorem Row.mk {e s n g cap : Nat} {xs rest : List Value} (h : xs.length = n * s ∧ (xs ++ rest).length = cap * s ∧ n ≤ cap ∧ cap ≤ maxLen) : Row e s n xs (.slice (some ⟨g, 0, none⟩) n cap) [⟨g, xs ++ rest, e, false⟩] := .inr ⟨g, cap, rest, rfl, rfl, h.1, h.2.1, h.2.2.1, h.2.2.2⟩
def FinG (p : Program) (fn : Func) (n : Nat) (K : Post) : Exit → Env → List Box → Prop := fun e E H => (e = .ret ∨ e = .normal) ∧ ∃ v N, K v N ∧ List.Sublist N H ∧ (N.all fun b => !b.ro) = true ∧ Res p fn n E H v
theorem gives_fin {p : Program} {f : FuncId} {fn : Func} {c : Code} {args : Array Value} {K : Post} {R : List Box} {n : Nat} (hf : p.funcs[f]? = some fn) (hb : fn.body = some c) (hn : fn.ntmps = n) (ha : Nat.ble args.size n = true) (hr : (R.all fun b => b.ro) = true)
    (h : AC p n c (FinG p fn n K) (envOf args) R) : Gives p f args R K := by
  intro w hA hnd
  refine calls_of_wp hf hb ?_
  refine Code.wp_mono ?_ (h ⟨fun _ => False, w⟩ w _ (own_start hA hnd (fun b hb => List.all_eq_true.1 hr b hb)) (Keeps.refl _ _) (sees_start hn ha))
  rintro e a w' ⟨E, H, ⟨he, v, N, hk, hsub, hN, hres⟩, hs, hO, hB⟩
  have hall : ∀ b ∈ N, b.ro = false := fun b hb => by simpa using List.all_eq_true.1 hN b hb
  rcases he with rfl | rfl
  · exact ⟨hs.defers, v, hres _ _ _ hO hs, v, N, rfl, hk, Own.sub hsub hO, hall, hB.below⟩
  · exact ⟨hs.defers, v, hres _ _ _ hO hs, v, N, rfl, hk, Own.sub hsub hO, hall, hB.below⟩
theorem np_fing {p : Program} {fn : Func} {n : Nat} {K : Post} : ∀ c E H, ¬ FinG p fn n K (.panic c) E H := fun c E H h => by
  rcases h.1 with h | h <;> cases h
theorem fing_ret {p : Program} {fn : Func} {n : Nat} {K : Post} {E : Env} {H N : List Box} {v : Value} (hk : K v N) (hs : List.Sublist N H) (hN : (N.all fun b => !b.ro) = true) (h : Res p fn n E H v) : FinG p fn n K .ret E H := ⟨.inl rfl, v, N, hk, hs, hN, h⟩
theorem fing_end {p : Program} {fn : Func} {n : Nat} {K : Post} {E : Env} {H N : List Box} {v : Value} (hk : K v N) (hs : List.Sublist N H) (hN : (N.all fun b => !b.ro) = true) (h : Res p fn n E H v) : FinG p fn n K .normal E H := ⟨.inr rfl, v, N, hk, hs, hN, h⟩
theorem fing_v {p : Program} {fn : Func} {n : Nat} {u v : Value} {e : Exit} {E : Env} {H : List Box} (h : Fin p fn n v e E H) (hv : v = u) : FinG p fn n (fun w N => w = u ∧ N = []) e E H := ⟨h.1, v, [], ⟨hv, rfl⟩, List.nil_sublist _, rfl, h.2⟩
end Go.Proofs.Ythngkopcadlciaa
namespace Go.Proofs.Ythngkopcadlciaa
open Go.RowKit
theorem bs24_1_0a (x0_0 : Int) (x0_1 : Int) (x0_2 : Bool) : Makes Try.prog (Instr.buildSlice 24 1 #[(0, .agg #[.int .i64 x0_0, .int .i64 x0_1, .bool x0_2])]) 1 [.int .i64 x0_0, .int .i64 x0_1, .bool x0_2] 26 := ⟨fun w => by go_simp⟩
theorem bs24_2_0a_1a (x0_0 : Int) (x0_1 : Int) (x0_2 : Bool) (x1_0 : Int) (x1_1 : Int) (x1_2 : Bool) : Makes Try.prog (Instr.buildSlice 24 2 #[(0, .agg #[.int .i64 x0_0, .int .i64 x0_1, .bool x0_2]), (1, .agg #[.int .i64 x1_0, .int .i64 x1_1, .bool x1_2])]) 2 [.int .i64 x0_0, .int .i64 x0_1, .bool x0_2, .int .i64 x1_0, .int .i64 x1_1, .bool x1_2] 26 := ⟨fun w => by go_simp⟩
theorem bs24_3_0a_1a_2a (x0_0 : Int) (x0_1 : Int) (x0_2 : Bool) (x1_0 : Int) (x1_1 : Int) (x1_2 : Bool) (x2_0 : Int) (x2_1 : Int) (x2_2 : Bool) : Makes Try.prog (Instr.buildSlice 24 3 #[(0, .agg #[.int .i64 x0_0, .int .i64 x0_1, .bool x0_2]), (1, .agg #[.int .i64 x1_0, .int .i64 x1_1, .bool x1_2]), (2, .agg #[.int .i64 x2_0, .int .i64 x2_1, .bool x2_2])]) 3 [.int .i64 x0_0, .int .i64 x0_1, .bool x0_2, .int .i64 x1_0, .int .i64 x1_1, .bool x1_2, .int .i64 x2_0, .int .i64 x2_1, .bool x2_2] 26 := ⟨fun w => by go_simp⟩
theorem slT24 : SlT Try.prog 24 26 3 24 := ⟨Try.underlying24, .agg #[.int .i64 0, .int .i64 0, .bool false], by kernel_rfl, rfl, by decide⟩
end Go.Proofs.Ythngkopcadlciaa
namespace Go.Proofs.Ythngkopcadlciaa
open Go.RowKit
theorem agg41 : IsAgg Try.prog 41 23 := ⟨⟨_, Try.underlying41, rfl, by kernel_rfl⟩⟩
theorem bd41_2a_3a_4a_5a_6a_7a_8a (x0_0 : Int) (x0_1 : Int) (x0_2 : Bool) (x1_0 : Int) (x1_1 : Int) (x1_2 : Bool) (x2_0 : Int) (x2_1 : Int) (x2_2 : Bool) (x3_0 : Int) (x3_1 : Int) (x3_2 : Bool) (x4_0 : Int) (x4_1 : Int) (x4_2 : Bool) (x5_0 : Int) (x5_1 : Int) (x5_2 : Bool) (x6_0 : Int) (x6_1 : Int) (x6_2 : Bool) : Runs Try.prog (Instr.build 41 #[(2, .agg #[.int .i64 x0_0, .int .i64 x0_1, .bool x0_2]), (3, .agg #[.int .i64 x1_0, .int .i64 x1_1, .bool x1_2]), (4, .agg #[.int .i64 x2_0, .int .i64 x2_1, .bool x2_2]), (5, .agg #[.int .i64 x3_0, .int .i64 x3_1, .bool x3_2]), (6, .agg #[.int .i64 x4_0, .int .i64 x4_1, .bool x4_2]), (7, .agg #[.int .i64 x5_0, .int .i64 x5_1, .bool x5_2]), (8, .agg #[.int .i64 x6_0, .int .i64 x6_1, .bool x6_2])]) (.agg #[.bool false, .bool false, .int .i64 x0_0, .int .i64 x0_1, .bool x0_2, .int .i64 x1_0, .int .i64 x1_1, .bool x1_2, .int .i64 x2_0, .int .i64 x2_1, .bool x2_2, .int .i64 x3_0, .int .i64 x3_1, .bool x3_2, .int .i64 x4_0, .int .i64 x4_1, .bool x4_2, .int .i64 x5_0, .int .i64 x5_1, .bool x5_2, .int .i64 x6_0, .int .i64 x6_1, .bool x6_2]) := ⟨fun w => by go_simp⟩
theorem bs24_4_0a_1a_2a_3a (x0_0 : Int) (x0_1 : Int) (x0_2 : Bool) (x1_0 : Int) (x1_1 : Int) (x1_2 : Bool) (x2_0 : Int) (x2_1 : Int) (x2_2 : Bool) (x3_0 : Int) (x3_1 : Int) (x3_2 : Bool) : Makes Try.prog (Instr.buildSlice 24 4 #[(0, .agg #[.int .i64 x0_0, .int .i64 x0_1, .bool x0_2]), (1, .agg #[.int .i64 x1_0, .int .i64 x1_1, .bool x1_2]), (2, .agg #[.int .i64 x2_0, .int .i64 x2_1, .bool x2_2]), (3, .agg #[.int .i64 x3_0, .int .i64 x3_1, .bool x3_2])]) 4 [.int .i64 x0_0, .int .i64 x0_1, .bool x0_2, .int .i64 x1_0, .int .i64 x1_1, .bool x1_2, .int .i64 x2_0, .int .i64 x2_1, .bool x2_2, .int .i64 x3_0, .int .i64 x3_1, .bool x3_2] 26 := ⟨fun w => by go_simp⟩
theorem fa41_1 (a : Addr) : Runs Try.prog (Instr.fieldAt 41 (.pointer (some a)) 1) (.pointer (some (a.add 1))) := run_fa (f := 1) (off := 1) (m := 1) Try.underlying41 rfl rfl (by kernel_rfl) (by decide) a
theorem fa41_2 (a : Addr) : Runs Try.prog (Instr.fieldAt 41 (.pointer (some a)) 2) (.pointer (some (a.add 2))) := run_fa (f := 2) (off := 2) (m := 3) Try.underlying41 rfl rfl (by kernel_rfl) (by decide) a
theorem fa41_3 (a : Addr) : Runs Try.prog (Instr.fieldAt 41 (.pointer (some a)) 3) (.pointer (some (a.add 5))) := run_fa (f := 3) (off := 5) (m := 3) Try.underlying41 rfl rfl (by kernel_rfl) (by decide) a
theorem fa41_4 (a : Addr) : Runs Try.prog (Instr.fieldAt 41 (.pointer (some a)) 4) (.pointer (some (a.add 8))) := run_fa (f := 4) (off := 8) (m := 3) Try.underlying41 rfl rfl (by kernel_rfl) (by decide) a
theorem fa41_5 (a : Addr) : Runs Try.prog (Instr.fieldAt 41 (.pointer (some a)) 5) (.pointer (some (a.add 11))) := run_fa (f := 5) (off := 11) (m := 3) Try.underlying41 rfl rfl (by kernel_rfl) (by decide) a
theorem zero41 : Zero Try.prog 41 [.bool false, .bool false, .int .i64 0, .int .i64 0, .bool false, .int .i64 0, .int .i64 0, .bool false, .int .i64 0, .int .i64 0, .bool false, .int .i64 0, .int .i64 0, .bool false, .int .i64 0, .int .i64 0, .bool false, .int .i64 0, .int .i64 0, .bool false, .int .i64 0, .int .i64 0, .bool false] := ⟨⟨.agg #[.bool false, .bool false, .int .i64 0, .int .i64 0, .bool false, .int .i64 0, .int .i64 0, .bool false, .int .i64 0, .int .i64 0, .bool false, .int .i64 0, .int .i64 0, .bool false, .int .i64 0, .int .i64 0, .bool false, .int .i64 0, .int .i64 0, .bool false, .int .i64 0, .int .i64 0, .bool false], by kernel_rfl, rfl⟩⟩
end Go.Proofs.Ythngkopcadlciaa
namespace Go.Proofs.Ythngkopcadlciaa
open Go.RowKit
theorem agg73 : IsAgg Try.prog 73 6 := ⟨⟨_, Try.underlying73, rfl, by kernel_rfl⟩⟩
theorem agg77 : IsAgg Try.prog 77 18 := ⟨⟨_, Try.underlying77, rfl, by kernel_rfl⟩⟩
theorem agg83 : IsAgg Try.prog 83 2 := ⟨⟨_, Try.underlying83, rfl, by kernel_rfl⟩⟩
theorem agg84 : IsAgg Try.prog 84 3 := ⟨⟨_, Try.underlying84, rfl, by kernel_rfl⟩⟩
theorem agg86 : IsAgg Try.prog 86 12 := ⟨⟨_, Try.underlying86, rfl, by kernel_rfl⟩⟩
theorem bd26_  : Runs Try.prog (Instr.build 26 #[]) (.agg #[.int .i64 0, .int .i64 0, .bool false]) := ⟨fun w => by go_simp⟩
theorem bd77_0a_1a (x0_0 : Int) (x0_1 : Int) (x0_2 : Bool) (x0_3 : Int) (x0_4 : Int) (x0_5 : Bool) (x0_6 : Int) (x0_7 : Int) (x0_8 : Bool) (x1_0 : Int) (x1_1 : Int) (x1_2 : Bool) (x1_3 : Int) (x1_4 : Int) (x1_5 : Bool) (x1_6 : Int) (x1_7 : Int) (x1_8 : Bool) : Runs Try.prog (Instr.build 77 #[(0, .agg #[.int .i64 x0_0, .int .i64 x0_1, .bool x0_2, .int .i64 x0_3, .int .i64 x0_4, .bool x0_5, .int .i64 x0_6, .int .i64 x0_7, .bool x0_8]), (1, .agg #[.int .i64 x1_0, .int .i64 x1_1, .bool x1_2, .int .i64 x1_3, .int .i64 x1_4, .bool x1_5, .int .i64 x1_6, .int .i64 x1_7, .bool x1_8])]) (.agg #[.int .i64 x0_0, .int .i64 x0_1, .bool x0_2, .int .i64 x0_3, .int .i64 x0_4, .bool x0_5, .int .i64 x0_6, .int .i64 x0_7, .bool x0_8, .int .i64 x1_0, .int .i64 x1_1, .bool x1_2, .int .i64 x1_3, .int .i64 x1_4, .bool x1_5, .int .i64 x1_6, .int .i64 x1_7, .bool x1_8]) := ⟨fun w => by go_simp⟩
theorem bd83_0_1 (x0_0 : Int) (x1_0 : Int) : Runs Try.prog (Instr.build 83 #[(0, .int .i64 x0_0), (1, .int .i64 x1_0)]) (.agg #[.int .i64 x0_0, .int .i64 x1_0]) := ⟨fun w => by go_simp⟩
theorem bd83_0 (x0_0 : Int) : Runs Try.prog (Instr.build 83 #[(0, .int .i64 x0_0)]) (.agg #[.int .i64 x0_0, .int .i64 0]) := ⟨fun w => by go_simp⟩
theorem bd84_0_1_2 (x0_0 : Int) (x1_0 : Int) (x2_0 : Int) : Runs Try.prog (Instr.build 84 #[(0, .int .i64 x0_0), (1, .int .i64 x1_0), (2, .int .i64 x2_0)]) (.agg #[.int .i64 x0_0, .int .i64 x1_0, .int .i64 x2_0]) := ⟨fun w => by go_simp⟩
theorem bd86_0_1a_2a_3a_4a_5a (x0_0 : Int) (x1_0 : Int) (x1_1 : Int) (x2_0 : Int) (x2_1 : Int) (x3_0 : Int) (x3_1 : Int) (x4_0 : Int) (x4_1 : Int) (x5_0 : Int) (x5_1 : Int) (x5_2 : Int) : Runs Try.prog (Instr.build 86 #[(0, .int .i64 x0_0), (1, .agg #[.int .i64 x1_0, .int .i64 x1_1]), (2, .agg #[.int .i64 x2_0, .int .i64 x2_1]), (3, .agg #[.int .i64 x3_0, .int .i64 x3_1]), (4, .agg #[.int .i64 x4_0, .int .i64 x4_1]), (5, .agg #[.int .i64 x5_0, .int .i64 x5_1, .int .i64 x5_2])]) (.agg #[.int .i64 x0_0, .int .i64 x1_0, .int .i64 x1_1, .int .i64 x2_0, .int .i64 x2_1, .int .i64 x3_0, .int .i64 x3_1, .int .i64 x4_0, .int .i64 x4_1, .int .i64 x5_0, .int .i64 x5_1, .int .i64 x5_2]) := ⟨fun w => by go_simp⟩
theorem bd86_0_3a (x0_0 : Int) (x1_0 : Int) (x1_1 : Int) : Runs Try.prog (Instr.build 86 #[(0, .int .i64 x0_0), (3, .agg #[.int .i64 x1_0, .int .i64 x1_1])]) (.agg #[.int .i64 x0_0, .int .i64 0, .int .i64 0, .int .i64 0, .int .i64 0, .int .i64 x1_0, .int .i64 x1_1, .int .i64 0, .int .i64 0, .int .i64 0, .int .i64 0, .int .i64 0]) := ⟨fun w => by go_simp⟩
theorem bd86_0_3a_4a_5a (x0_0 : Int) (x1_0 : Int) (x1_1 : Int) (x2_0 : Int) (x2_1 : Int) (x3_0 : Int) (x3_1 : Int) (x3_2 : Int) : Runs Try.prog (Instr.build 86 #[(0, .int .i64 x0_0), (3, .agg #[.int .i64 x1_0, .int .i64 x1_1]), (4, .agg #[.int .i64 x2_0, .int .i64 x2_1]), (5, .agg #[.int .i64 x3_0, .int .i64 x3_1, .int .i64 x3_2])]) (.agg #[.int .i64 x0_0, .int .i64 0, .int .i64 0, .int .i64 0, .int .i64 0, .int .i64 x1_0, .int .i64 x1_1, .int .i64 x2_0, .int .i64 x2_1, .int .i64 x3_0, .int .i64 x3_1, .int .i64 x3_2]) := ⟨fun w => by go_simp⟩
theorem bd86_0_3a_5a (x0_0 : Int) (x1_0 : Int) (x1_1 : Int) (x2_0 : Int) (x2_1 : Int) (x2_2 : Int) : Runs Try.prog (Instr.build 86 #[(0, .int .i64 x0_0), (3, .agg #[.int .i64 x1_0, .int .i64 x1_1]), (5, .agg #[.int .i64 x2_0, .int .i64 x2_1, .int .i64 x2_2])]) (.agg #[.int .i64 x0_0, .int .i64 0, .int .i64 0, .int .i64 0, .int .i64 0, .int .i64 x1_0, .int .i64 x1_1, .int .i64 0, .int .i64 0, .int .i64 x2_0, .int .i64 x2_1, .int .i64 x2_2]) := ⟨fun w => by go_simp⟩
theorem bd95_0a_1a (x0_0 : Int) (x0_1 : Int) (x0_2 : Int) (x0_3 : Int) (x0_4 : Int) (x0_5 : Int) (x0_6 : Int) (x0_7 : Int) (x0_8 : Int) (x0_9 : Int) (x0_10 : Int) (x0_11 : Int) (x1_0 : Int) (x1_1 : Int) (x1_2 : Int) (x1_3 : Int) (x1_4 : Int) (x1_5 : Int) (x1_6 : Int) (x1_7 : Int) (x1_8 : Int) (x1_9 : Int) (x1_10 : Int) (x1_11 : Int) : Runs Try.prog (Instr.build 95 #[(0, .agg #[.int .i64 x0_0, .int .i64 x0_1, .int .i64 x0_2, .int .i64 x0_3, .int .i64 x0_4, .int .i64 x0_5, .int .i64 x0_6, .int .i64 x0_7, .int .i64 x0_8, .int .i64 x0_9, .int .i64 x0_10, .int .i64 x0_11]), (1, .agg #[.int .i64 x1_0, .int .i64 x1_1, .int .i64 x1_2, .int .i64 x1_3, .int .i64 x1_4, .int .i64 x1_5, .int .i64 x1_6, .int .i64 x1_7, .int .i64 x1_8, .int .i64 x1_9, .int .i64 x1_10, .int .i64 x1_11])]) (.agg #[.int .i64 x0_0, .int .i64 x0_1, .int .i64 x0_2, .int .i64 x0_3, .int .i64 x0_4, .int .i64 x0_5, .int .i64 x0_6, .int .i64 x0_7, .int .i64 x0_8, .int .i64 x0_9, .int .i64 x0_10, .int .i64 x0_11, .int .i64 x1_0, .int .i64 x1_1, .int .i64 x1_2, .int .i64 x1_3, .int .i64 x1_4, .int .i64 x1_5, .int .i64 x1_6, .int .i64 x1_7, .int .i64 x1_8, .int .i64 x1_9, .int .i64 x1_10, .int .i64 x1_11]) := ⟨fun w => by go_simp⟩
theorem bs74_1_0a (x0_0 : Int) (x0_1 : Int) (x0_2 : Int) (x0_3 : Int) (x0_4 : Int) (x0_5 : Int) (x0_6 : Int) (x0_7 : Int) (x0_8 : Int) (x0_9 : Int) (x0_10 : Int) (x0_11 : Int) : Makes Try.prog (Instr.buildSlice 74 1 #[(0, .agg #[.int .i64 x0_0, .int .i64 x0_1, .int .i64 x0_2, .int .i64 x0_3, .int .i64 x0_4, .int .i64 x0_5, .int .i64 x0_6, .int .i64 x0_7, .int .i64 x0_8, .int .i64 x0_9, .int .i64 x0_10, .int .i64 x0_11])]) 1 [.int .i64 x0_0, .int .i64 x0_1, .int .i64 x0_2, .int .i64 x0_3, .int .i64 x0_4, .int .i64 x0_5, .int .i64 x0_6, .int .i64 x0_7, .int .i64 x0_8, .int .i64 x0_9, .int .i64 x0_10, .int .i64 x0_11] 86 := ⟨fun w => by go_simp⟩
theorem bs74_3_0a_1a_2a (x0_0 : Int) (x0_1 : Int) (x0_2 : Int) (x0_3 : Int) (x0_4 : Int) (x0_5 : Int) (x0_6 : Int) (x0_7 : Int) (x0_8 : Int) (x0_9 : Int) (x0_10 : Int) (x0_11 : Int) (x1_0 : Int) (x1_1 : Int) (x1_2 : Int) (x1_3 : Int) (x1_4 : Int) (x1_5 : Int) (x1_6 : Int) (x1_7 : Int) (x1_8 : Int) (x1_9 : Int) (x1_10 : Int) (x1_11 : Int) (x2_0 : Int) (x2_1 : Int) (x2_2 : Int) (x2_3 : Int) (x2_4 : Int) (x2_5 : Int) (x2_6 : Int) (x2_7 : Int) (x2_8 : Int) (x2_9 : Int) (x2_10 : Int) (x2_11 : Int) : Makes Try.prog (Instr.buildSlice 74 3 #[(0, .agg #[.int .i64 x0_0, .int .i64 x0_1, .int .i64 x0_2, .int .i64 x0_3, .int .i64 x0_4, .int .i64 x0_5, .int .i64 x0_6, .int .i64 x0_7, .int .i64 x0_8, .int .i64 x0_9, .int .i64 x0_10, .int .i64 x0_11]), (1, .agg #[.int .i64 x1_0, .int .i64 x1_1, .int .i64 x1_2, .int .i64 x1_3, .int .i64 x1_4, .int .i64 x1_5, .int .i64 x1_6, .int .i64 x1_7, .int .i64 x1_8, .int .i64 x1_9, .int .i64 x1_10, .int .i64 x1_11]), (2, .agg #[.int .i64 x2_0, .int .i64 x2_1, .int .i64 x2_2, .int .i64 x2_3, .int .i64 x2_4, .int .i64 x2_5, .int .i64 x2_6, .int .i64 x2_7, .int .i64 x2_8, .int .i64 x2_9, .int .i64 x2_10, .int .i64 x2_11])]) 3 [.int .i64 x0_0, .int .i64 x0_1, .int .i64 x0_2, .int .i64 x0_3, .int .i64 x0_4, .int .i64 x0_5, .int .i64 x0_6, .int .i64 x0_7, .int .i64 x0_8, .int .i64 x0_9, .int .i64 x0_10, .int .i64 x0_11, .int .i64 x1_0, .int .i64 x1_1, .int .i64 x1_2, .int .i64 x1_3, .int .i64 x1_4, .int .i64 x1_5, .int .i64 x1_6, .int .i64 x1_7, .int .i64 x1_8, .int .i64 x1_9, .int .i64 x1_10, .int .i64 x1_11, .int .i64 x2_0, .int .i64 x2_1, .int .i64 x2_2, .int .i64 x2_3, .int .i64 x2_4, .int .i64 x2_5, .int .i64 x2_6, .int .i64 x2_7, .int .i64 x2_8, .int .i64 x2_9, .int .i64 x2_10, .int .i64 x2_11] 86 := ⟨fun w => by go_simp⟩
theorem fa73_0 (a : Addr) : Runs Try.prog (Instr.fieldAt 73 (.pointer (some a)) 0) (.pointer (some (a.add 0))) := run_fa (f := 0) (off := 0) (m := 1) Try.underlying73 rfl rfl (by kernel_rfl) (by decide) a
theorem fa73_1 (a : Addr) : Runs Try.prog (Instr.fieldAt 73 (.pointer (some a)) 1) (.pointer (some (a.add 1))) := run_fa (f := 1) (off := 1) (m := 1) Try.underlying73 rfl rfl (by kernel_rfl) (by decide) a
theorem fa73_2 (a : Addr) : Runs Try.prog (Instr.fieldAt 73 (.pointer (some a)) 2) (.pointer (some (a.add 2))) := run_fa (f := 2) (off := 2) (m := 1) Try.underlying73 rfl rfl (by kernel_rfl) (by decide) a
theorem fa73_3 (a : Addr) : Runs Try.prog (Instr.fieldAt 73 (.pointer (some a)) 3) (.pointer (some (a.add 3))) := run_fa (f := 3) (off := 3) (m := 1) Try.underlying73 rfl rfl (by kernel_rfl) (by decide) a
theorem fa73_4 (a : Addr) : Runs Try.prog (Instr.fieldAt 73 (.pointer (some a)) 4) (.pointer (some (a.add 4))) := run_fa (f := 4) (off := 4) (m := 1) Try.underlying73 rfl rfl (by kernel_rfl) (by decide) a
theorem fa73_5 (a : Addr) : Runs Try.prog (Instr.fieldAt 73 (.pointer (some a)) 5) (.pointer (some (a.add 5))) := run_fa (f := 5) (off := 5) (m := 1) Try.underlying73 rfl rfl (by kernel_rfl) (by decide) a
theorem fa77_0 (a : Addr) : Runs Try.prog (Instr.fieldAt 77 (.pointer (some a)) 0) (.pointer (some (a.add 0))) := run_fa (f := 0) (off := 0) (m := 9) Try.underlying77 rfl rfl (by kernel_rfl) (by decide) a
theorem fa77_1 (a : Addr) : Runs Try.prog (Instr.fieldAt 77 (.pointer (some a)) 1) (.pointer (some (a.add 9))) := run_fa (f := 1) (off := 9) (m := 9) Try.underlying77 rfl rfl (by kernel_rfl) (by decide) a
theorem fa83_0 (a : Addr) : Runs Try.prog (Instr.fieldAt 83 (.pointer (some a)) 0) (.pointer (some (a.add 0))) := run_fa (f := 0) (off := 0) (m := 1) Try.underlying83 rfl rfl (by kernel_rfl) (by decide) a
theorem fa83_1 (a : Addr) : Runs Try.prog (Instr.fieldAt 83 (.pointer (some a)) 1) (.pointer (some (a.add 1))) := run_fa (f := 1) (off := 1) (m := 1) Try.underlying83 rfl rfl (by kernel_rfl) (by decide) a
theorem fa86_0 (a : Addr) : Runs Try.prog (Instr.fieldAt 86 (.pointer (some a)) 0) (.pointer (some (a.add 0))) := run_fa (f := 0) (off := 0) (m := 1) Try.underlying86 rfl rfl (by kernel_rfl) (by decide) a
theorem fa86_1 (a : Addr) : Runs Try.prog (Instr.fieldAt 86 (.pointer (some a)) 1) (.pointer (some (a.add 1))) := run_fa (f := 1) (off := 1) (m := 2) Try.underlying86 rfl rfl (by kernel_rfl) (by decide) a
theorem fa86_2 (a : Addr) : Runs Try.prog (Instr.fieldAt 86 (.pointer (some a)) 2) (.pointer (some (a.add 3))) := run_fa (f := 2) (off := 3) (m := 2) Try.underlying86 rfl rfl (by kernel_rfl) (by decide) a
theorem fa86_3 (a : Addr) : Runs Try.prog (Instr.fieldAt 86 (.pointer (some a)) 3) (.pointer (some (a.add 5))) := run_fa (f := 3) (off := 5) (m := 2) Try.underlying86 rfl rfl (by kernel_rfl) (by decide) a
theorem fa86_4 (a : Addr) : Runs Try.prog (Instr.fieldAt 86 (.pointer (some a)) 4) (.pointer (some (a.add 7))) := run_fa (f := 4) (off := 7) (m := 2) Try.underlying86 rfl rfl (by kernel_rfl) (by decide) a
theorem ix95_0 (x0 : Int) (x1 : Int) (x2 : Int) (x3 : Int) (x4 : Int) (x5 : Int) (x6 : Int) (x7 : Int) (x8 : Int) (x9 : Int) (x10 : Int) (x11 : Int) (x12 : Int) (x13 : Int) (x14 : Int) (x15 : Int) (x16 : Int) (x17 : Int) (x18 : Int) (x19 : Int) (x20 : Int) (x21 : Int) (x22 : Int) (x23 : Int) : Runs Try.prog (Instr.index 95 (.agg #[.int .i64 x0, .int .i64 x1, .int .i64 x2, .int .i64 x3, .int .i64 x4, .int .i64 x5, .int .i64 x6, .int .i64 x7, .int .i64 x8, .int .i64 x9, .int .i64 x10, .int .i64 x11, .int .i64 x12, .int .i64 x13, .int .i64 x14, .int .i64 x15, .int .i64 x16, .int .i64 x17, .int .i64 x18, .int .i64 x19, .int .i64 x20, .int .i64 x21, .int .i64 x22, .int .i64 x23]) (.int .i64 0)) (.agg #[.int .i64 x0, .int .i64 x1, .int .i64 x2, .int .i64 x3, .int .i64 x4, .int .i64 x5, .int .i64 x6, .int .i64 x7, .int .i64 x8, .int .i64 x9, .int .i64 x10, .int .i64 x11]) := run_ixa (xs := [.int .i64 x0, .int .i64 x1, .int .i64 x2, .int .i64 x3, .int .i64 x4, .int .i64 x5, .int .i64 x6, .int .i64 x7, .int .i64 x8, .int .i64 x9, .int .i64 x10, .int .i64 x11, .int .i64 x12, .int .i64 x13, .int .i64 x14, .int .i64 x15, .int .i64 x16, .int .i64 x17, .int .i64 x18, .int .i64 x19, .int .i64 x20, .int .i64 x21, .int .i64 x22, .int .i64 x23]) Try.underlying95 agg86 (by decide) (by decide) rfl rfl
theorem ix95_1 (x0 : Int) (x1 : Int) (x2 : Int) (x3 : Int) (x4 : Int) (x5 : Int) (x6 : Int) (x7 : Int) (x8 : Int) (x9 : Int) (x10 : Int) (x11 : Int) (x12 : Int) (x13 : Int) (x14 : Int) (x15 : Int) (x16 : Int) (x17 : Int) (x18 : Int) (x19 : Int) (x20 : Int) (x21 : Int) (x22 : Int) (x23 : Int) : Runs Try.prog (Instr.index 95 (.agg #[.int .i64 x0, .int .i64 x1, .int .i64 x2, .int .i64 x3, .int .i64 x4, .int .i64 x5, .int .i64 x6, .int .i64 x7, .int .i64 x8, .int .i64 x9, .int .i64 x10, .int .i64 x11, .int .i64 x12, .int .i64 x13, .int .i64 x14, .int .i64 x15, .int .i64 x16, .int .i64 x17, .int .i64 x18, .int .i64 x19, .int .i64 x20, .int .i64 x21, .int .i64 x22, .int .i64 x23]) (.int .i64 1)) (.agg #[.int .i64 x12, .int .i64 x13, .int .i64 x14, .int .i64 x15, .int .i64 x16, .int .i64 x17, .int .i64 x18, .int .i64 x19, .int .i64 x20, .int .i64 x21, .int .i64 x22, .int .i64 x23]) := run_ixa (xs := [.int .i64 x0, .int .i64 x1, .int .i64 x2, .int .i64 x3, .int .i64 x4, .int .i64 x5, .int .i64 x6, .int .i64 x7, .int .i64 x8, .int .i64 x9, .int .i64 x10, .int .i64 x11, .int .i64 x12, .int .i64 x13, .int .i64 x14, .int .i64 x15, .int .i64 x16, .int .i64 x17, .int .i64 x18, .int .i64 x19, .int .i64 x20, .int .i64 x21, .int .i64 x22, .int .i64 x23]) Try.underlying95 agg86 (by decide) (by decide) rfl rfl
theorem slT74 : SlT Try.prog 74 86 12 96 := ⟨Try.underlying74, .agg #[.int .i64 0, .int .i64 0, .int .i64 0, .int .i64 0, .int .i64 0, .int .i64 0, .int .i64 0, .int .i64 0, .int .i64 0, .int .i64 0, .int .i64 0, .int .i64 0], by kernel_rfl, rfl, by decide⟩
theorem zero77 : Zero Try.prog 77 [.int .i64 0, .int .i64 0, .bool false, .int .i64 0, .int .i64 0, .bool false, .int .i64 0, .int .i64 0, .bool false, .int .i64 0, .int .i64 0, .bool false, .int .i64 0, .int .i64 0, .bool false, .int .i64 0, .int .i64 0, .bool false] := ⟨⟨.agg #[.int .i64 0, .int .i64 0, .bool false, .int .i64 0, .int .i64 0, .bool false, .int .i64 0, .int .i64 0, .bool false, .int .i64 0, .int .i64 0, .bool false, .int .i64 0, .int .i64 0, .bool false, .int .i64 0, .int .i64 0, .bool false], by kernel_rfl, rfl⟩⟩
theorem zero83 : Zero Try.prog 83 [.int .i64 0, .int .i64 0] := ⟨⟨.agg #[.int .i64 0, .int .i64 0], by kernel_rfl, rfl⟩⟩
theorem zero84 : Zero Try.prog 84 [.int .i64 0, .int .i64 0, .int .i64 0] := ⟨⟨.agg #[.int .i64 0, .int .i64 0, .int .i64 0], by kernel_rfl, rfl⟩⟩
theorem zero86 : Zero Try.prog 86 [.int .i64 0, .int .i64 0, .int .i64 0, .int .i64 0, .int .i64 0, .int .i64 0, .int .i64 0, .int .i64 0, .int .i64 0, .int .i64 0, .int .i64 0, .int .i64 0] := ⟨⟨.agg #[.int .i64 0, .int .i64 0, .int .i64 0, .int .i64 0, .int .i64 0, .int .i64 0, .int .i64 0, .int .i64 0, .int .i64 0, .int .i64 0, .int .i64 0, .int .i64 0], by kernel_rfl, rfl⟩⟩
end Go.Proofs.Ythngkopcadlciaa
namespace Go.Proofs.Ythngkopcadlciaa
open Go.RowKit
attribute [local irreducible] AC AR DWalk
structure Dec where
  c : Int
  scale : Int
deriving DecidableEq
@[reducible] def Dec.v (s : Dec) : Value := .agg #[.int .i64 s.c, .int .i64 s.scale]
structure A3 where
  a0 : Int
  a1 : Int
  a2 : Int
deriving DecidableEq
@[reducible] def A3.v (s : A3) : Value := .agg #[.int .i64 s.a0, .int .i64 s.a1, .int .i64 s.a2]
structure Shape where
  kind : Int
  x : Dec
  y : Dec
  z : Dec
  r : Dec
  glow : A3
deriving DecidableEq
@[reducible] def Shape.v (s : Shape) : Value := .agg #[.int .i64 s.kind, .int .i64 s.x.c, .int .i64 s.x.scale, .int .i64 s.y.c, .int .i64 s.y.scale, .int .i64 s.z.c, .int .i64 s.z.scale, .int .i64 s.r.c, .int .i64 s.r.scale, .int .i64 s.glow.a0, .int .i64 s.glow.a1, .int .i64 s.glow.a2]
structure RawRay where
  x : Int
  y : Int
  u : Int
  w : Int
  wide : Int
  lean : Int
deriving DecidableEq
@[reducible] def RawRay.v (s : RawRay) : Value := .agg #[.int .i64 s.x, .int .i64 s.y, .int .i64 s.u, .int .i64 s.w, .int .i64 s.wide, .int .i64 s.lean]
@[reducible] def Ray.v (s : Ray) : Value := .agg #[.int .i64 s.o.x.lo, .int .i64 s.o.x.hi, .bool s.o.x.no, .int .i64 s.o.y.lo, .int .i64 s.o.y.hi, .bool s.o.y.no, .int .i64 s.o.z.lo, .int .i64 s.o.z.hi, .bool s.o.z.no, .int .i64 s.d.x.lo, .int .i64 s.d.x.hi, .bool s.d.x.no, .int .i64 s.d.y.lo, .int .i64 s.d.y.hi, .bool s.d.y.no, .int .i64 s.d.z.lo, .int .i64 s.d.z.hi, .bool s.d.z.no]
end Go.Proofs.Ythngkopcadlciaa