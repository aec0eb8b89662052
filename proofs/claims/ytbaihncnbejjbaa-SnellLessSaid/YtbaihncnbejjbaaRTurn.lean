import Derived.Test.YtbaihncnbejjbaaFacts2
import Derived.Test.YtbaihncnbejjbaaRVec
import Derived.Test.YtbaihncnbejjbaaPPick
set_option linter.unusedVariables false
set_option linter.unusedSimpArgs false
namespace Go.Proofs.Ytbaihncnbejjbaa
open Go.RowKit

attribute [local irreducible] AC AR DWalk
def rVecTurn_e0 (a : V) (k : Int) : Int := (bif decide ((Int.tmod k 4) < 0) then (w64 ((Int.tmod k 4) + 4)) else (Int.tmod k 4))
def rVecTurn (a : V) (k : Int) : V := (bif decide ((rVecTurn_e0 a k) > 0) then (bif decide ((w64 ((rVecTurn_e0 a k) - 1)) > 0) then (bif decide ((w64 ((w64 ((rVecTurn_e0 a k) - 1)) - 1)) > 0) then (⟨(rNeg (rNeg a.y)), (rNeg a.x), a.z⟩ : V) else (⟨(rNeg a.x), (rNeg a.y), a.z⟩ : V)) else (⟨(rNeg a.y), a.x, a.z⟩ : V)) else a)
set_option maxRecDepth 100000 in
theorem c_rVecTurn (a : V) (k : Int) : Gets Try.prog 132 #[.agg #[.int .i64 a.x.lo, .int .i64 a.x.hi, .bool a.x.no, .int .i64 a.y.lo, .int .i64 a.y.hi, .bool a.y.no, .int .i64 a.z.lo, .int .i64 a.z.hi, .bool a.z.no], .int .i64 k] (V.v (rVecTurn a k)) := by
  refine gets_fin Try.func132 rfl rfl rfl ?_
  refine ac_seq ?_
  refine ac_region_lit ?_
  refine ao 2 rfl rfl (st_box (v := .agg #[.int .i64 a.x.lo, .int .i64 a.x.hi, .bool a.x.no, .int .i64 a.y.lo, .int .i64 a.y.hi, .bool a.y.no, .int .i64 a.z.lo, .int .i64 a.z.hi, .bool a.z.no]) (cs := [.int .i64 a.x.lo, .int .i64 a.x.hi, .bool a.x.no, .int .i64 a.y.lo, .int .i64 a.y.hi, .bool a.y.no, .int .i64 a.z.lo, .int .i64 a.z.hi, .bool a.z.no]) rfl rfl rfl fun g0 => ?_)
  refine ao 4 rfl rfl (st_new zero58 rfl fun g1 => ?_)
  refine ar_nil ?_
  refine ac_seq ?_
  refine ac_region_lit ?_
  refine ao 5 rfl rfl (st_move (v := .int .i64 k) rfl rfl ?_)
  refine ao 6 rfl rfl (st_bi (u := .int .i64 k) (v := .int .i64 4) (r := .int .i64 (Int.tmod k 4)) rfl rfl rfl (bi_rem (by decide) rfl) ?_)
  refine ao 1 rfl rfl (st_assign (v := .int .i64 (Int.tmod k 4)) rfl rfl ?_)
  refine ar_nil ?_
  refine ac_seq ?_
  refine ac_seq ?_
  refine ac_region_lit ?_
  refine ao 7 rfl rfl (st_move (v := .int .i64 (Int.tmod k 4)) rfl rfl ?_)
  refine ao 8 rfl rfl (st_bi (u := .int .i64 (Int.tmod k 4)) (v := .int .i64 0) (r := .bool (decide ((Int.tmod k 4) < 0))) rfl rfl rfl (bi_lss rfl) ?_)
  refine ar_nil ?_
  refine ac_mergeE (fun E9 => (((Env.put E9 (some 9) (.int .i64 (Int.tmod k 4))).put (some 10) (.int .i64 (w64 ((Int.tmod k 4) + 4)))).put (some 1) (.int .i64 (w64 ((Int.tmod k 4) + 4))))) (fun E9 => (((Env.put E9 (some 9) (bif decide ((Int.tmod k 4) < 0) then (.int .i64 (Int.tmod k 4) : Value) else E9 9)).put (some 10) (bif decide ((Int.tmod k 4) < 0) then (.int .i64 (w64 ((Int.tmod k 4) + 4)) : Value) else E9 10)).put (some 1) (.int .i64 (rVecTurn_e0 a k)))) (b := decide ((Int.tmod k 4) < 0)) rfl (fun hm => ?_) (fun hm => ?_) (fun hm => ?_) ?_
  · refine ac_region_lit ?_
    refine ao 9 rfl rfl (st_move (v := .int .i64 (Int.tmod k 4)) rfl rfl ?_)
    refine ao 10 rfl rfl (st_bi (u := .int .i64 (Int.tmod k 4)) (v := .int .i64 4) (r := .int .i64 (w64 ((Int.tmod k 4) + 4))) rfl rfl rfl (bi_add rfl) ?_)
    refine ao 1 rfl rfl (st_assign (v := .int .i64 (w64 ((Int.tmod k 4) + 4))) rfl rfl ?_)
    refine ar_nil ?_
    exact ⟨rfl, rfl, rfl⟩
  · unfold rVecTurn_e0; rw [hm]; rfl
  · unfold rVecTurn_e0; rw [hm]; exact ((put_self rfl).trans ((put_self rfl).trans (put_self rfl)))
  refine ac_seq ?_
  refine ac_block ?_
  refine ac_rounds 61 ?_
  refine ar_round ?_
  refine ac_seq ?_
  refine ac_seq ?_
  refine ac_region_lit ?_
  refine ao 11 rfl rfl (st_move (v := .int .i64 (rVecTurn_e0 a k)) rfl rfl ?_)
  refine ao 12 rfl rfl (st_bi (u := .int .i64 (rVecTurn_e0 a k)) (v := .int .i64 0) (r := .bool (decide ((rVecTurn_e0 a k) > 0))) rfl rfl rfl (bi_gtr rfl) ?_)
  refine ar_nil ?_
  refine bool_split (decide ((rVecTurn_e0 a k) > 0)) (fun h1 => ?_) (fun h1 => ?_)
  · refine ac_then' (b := decide ((rVecTurn_e0 a k) > 0)) h1 rfl ?_
    refine ac_skip ?_
    refine ac_seq ?_
    refine ac_block ?_
    refine ac_draw0 (id := 6) [0, 1, 2, 3, 4, 5, 6, 7] [8] _ (by kernel_rfl) follows rfl  ?_
    refine dw_op (d := (some 15)) (.pointer (some ⟨g0, 3, none⟩)) rfl rfl rfl (st_fa (g := g0) (off := 0) rfl fa58_1 rfl ⟨rfl, rfl⟩) ?_
    refine dw_op (d := (some 16)) (.agg #[.int .i64 a.y.lo, .int .i64 a.y.hi, .bool a.y.no]) rfl rfl rfl (st_lda (g := g0) (off := 3) (vs := [.int .i64 a.y.lo, .int .i64 a.y.hi, .bool a.y.no]) agg35 1 rfl rfl rfl rfl rfl rfl ⟨rfl, rfl⟩) ?_
    refine dw_op (d := (some 17)) (.agg #[.int .i64 ((rNeg a.y).lo), .int .i64 ((rNeg a.y).hi), .bool ((rNeg a.y).no)]) rfl rfl rfl (st_cf (vs := [.agg #[.int .i64 a.y.lo, .int .i64 a.y.hi, .bool a.y.no]]) (r := .agg #[.int .i64 ((rNeg a.y).lo), .int .i64 ((rNeg a.y).hi), .bool ((rNeg a.y).no)]) (c_rNeg a.y) Try.func108 rfl (by decide) rfl rfl rfl ⟨rfl, rfl⟩) ?_
    refine dw_op (d := (some 18)) (.pointer (some ⟨g0, 0, none⟩)) rfl rfl rfl (st_fa (g := g0) (off := 0) rfl fa58_0 rfl ⟨rfl, rfl⟩) ?_
    refine dw_op (d := (some 19)) (.agg #[.int .i64 a.x.lo, .int .i64 a.x.hi, .bool a.x.no]) rfl rfl rfl (st_lda (g := g0) (off := 0) (vs := [.int .i64 a.x.lo, .int .i64 a.x.hi, .bool a.x.no]) agg35 1 rfl rfl rfl rfl rfl rfl ⟨rfl, rfl⟩) ?_
    refine dw_op (d := (some 20)) (.pointer (some ⟨g0, 6, none⟩)) rfl rfl rfl (st_fa (g := g0) (off := 0) rfl fa58_2 rfl ⟨rfl, rfl⟩) ?_
    refine dw_op (d := (some 21)) (.agg #[.int .i64 a.z.lo, .int .i64 a.z.hi, .bool a.z.no]) rfl rfl rfl (st_lda (g := g0) (off := 6) (vs := [.int .i64 a.z.lo, .int .i64 a.z.hi, .bool a.z.no]) agg35 1 rfl rfl rfl rfl rfl rfl ⟨rfl, rfl⟩) ?_
    refine dw_op (d := (some 22)) (.agg #[.int .i64 ((rNeg a.y).lo), .int .i64 ((rNeg a.y).hi), .bool ((rNeg a.y).no), .int .i64 a.x.lo, .int .i64 a.x.hi, .bool a.x.no, .int .i64 a.z.lo, .int .i64 a.z.hi, .bool a.z.no]) rfl rfl rfl (st_bd (us := [(0, .agg #[.int .i64 ((rNeg a.y).lo), .int .i64 ((rNeg a.y).hi), .bool ((rNeg a.y).no)]), (1, .agg #[.int .i64 a.x.lo, .int .i64 a.x.hi, .bool a.x.no]), (2, .agg #[.int .i64 a.z.lo, .int .i64 a.z.hi, .bool a.z.no])]) (v := .agg #[.int .i64 ((rNeg a.y).lo), .int .i64 ((rNeg a.y).hi), .bool ((rNeg a.y).no), .int .i64 a.x.lo, .int .i64 a.x.hi, .bool a.x.no, .int .i64 a.z.lo, .int .i64 a.z.hi, .bool a.z.no]) rfl rfl (bd58_0a_1a_2a _ _ _ _ _ _ _ _ _) ⟨rfl, rfl⟩) ?_
    refine dw_nil ?_
    refine ar_op (d := none) rfl rfl (st_sta (g := g0) (off := 0) (us := [.int .i64 ((rNeg a.y).lo), .int .i64 ((rNeg a.y).hi), .bool ((rNeg a.y).no), .int .i64 a.x.lo, .int .i64 a.x.hi, .bool a.x.no, .int .i64 a.z.lo, .int .i64 a.z.hi, .bool a.z.no]) (cs := [.int .i64 ((rNeg a.y).lo), .int .i64 ((rNeg a.y).hi), .bool ((rNeg a.y).no), .int .i64 a.x.lo, .int .i64 a.x.hi, .bool a.x.no, .int .i64 a.z.lo, .int .i64 a.z.hi, .bool a.z.no]) agg58 1 rfl rfl rfl rfl rfl rfl rfl rfl rfl ?_)
    refine ar_nil ?_
    refine ac_region_lit ?_
    refine ao 13 rfl rfl (st_move (v := .int .i64 (rVecTurn_e0 a k)) rfl rfl ?_)
    refine ao 14 rfl rfl (st_bi (u := .int .i64 (rVecTurn_e0 a k)) (v := .int .i64 1) (r := .int .i64 (w64 ((rVecTurn_e0 a k) - 1))) rfl rfl rfl (bi_sub rfl) ?_)
    refine ao 1 rfl rfl (st_assign (v := .int .i64 (w64 ((rVecTurn_e0 a k) - 1))) rfl rfl ?_)
    refine ar_nil ?_
    refine ar_round ?_
    refine ac_seq ?_
    refine ac_seq ?_
    refine ac_region_lit ?_
    refine ao 11 rfl rfl (st_move (v := .int .i64 (w64 ((rVecTurn_e0 a k) - 1))) rfl rfl ?_)
    refine ao 12 rfl rfl (st_bi (u := .int .i64 (w64 ((rVecTurn_e0 a k) - 1))) (v := .int .i64 0) (r := .bool (decide ((w64 ((rVecTurn_e0 a k) - 1)) > 0))) rfl rfl rfl (bi_gtr rfl) ?_)
    refine ar_nil ?_
    refine bool_split (decide ((w64 ((rVecTurn_e0 a k) - 1)) > 0)) (fun h2 => ?_) (fun h2 => ?_)
    · refine ac_then' (b := decide ((w64 ((rVecTurn_e0 a k) - 1)) > 0)) h2 rfl ?_
      refine ac_skip ?_
      refine ac_seq ?_
      refine ac_block ?_
      refine ac_draw0 (id := 6) [0, 1, 2, 3, 4, 5, 6, 7] [8] _ (by kernel_rfl) follows rfl  ?_
      refine dw_op (d := (some 15)) (.pointer (some ⟨g0, 3, none⟩)) rfl rfl rfl (st_fa (g := g0) (off := 0) rfl fa58_1 rfl ⟨rfl, rfl⟩) ?_
      refine dw_op (d := (some 16)) (.agg #[.int .i64 a.x.lo, .int .i64 a.x.hi, .bool a.x.no]) rfl rfl rfl (st_lda (g := g0) (off := 3) (vs := [.int .i64 a.x.lo, .int .i64 a.x.hi, .bool a.x.no]) agg35 1 rfl rfl rfl rfl rfl rfl ⟨rfl, rfl⟩) ?_
      refine dw_op (d := (some 17)) (.agg #[.int .i64 ((rNeg a.x).lo), .int .i64 ((rNeg a.x).hi), .bool ((rNeg a.x).no)]) rfl rfl rfl (st_cf (vs := [.agg #[.int .i64 a.x.lo, .int .i64 a.x.hi, .bool a.x.no]]) (r := .agg #[.int .i64 ((rNeg a.x).lo), .int .i64 ((rNeg a.x).hi), .bool ((rNeg a.x).no)]) (c_rNeg a.x) Try.func108 rfl (by decide) rfl rfl rfl ⟨rfl, rfl⟩) ?_
      refine dw_op (d := (some 18)) (.pointer (some ⟨g0, 0, none⟩)) rfl rfl rfl (st_fa (g := g0) (off := 0) rfl fa58_0 rfl ⟨rfl, rfl⟩) ?_
      refine dw_op (d := (some 19)) (.agg #[.int .i64 ((rNeg a.y).lo), .int .i64 ((rNeg a.y).hi), .bool ((rNeg a.y).no)]) rfl rfl rfl (st_lda (g := g0) (off := 0) (vs := [.int .i64 ((rNeg a.y).lo), .int .i64 ((rNeg a.y).hi), .bool ((rNeg a.y).no)]) agg35 1 rfl rfl rfl rfl rfl rfl ⟨rfl, rfl⟩) ?_
      refine dw_op (d := (some 20)) (.pointer (some ⟨g0, 6, none⟩)) rfl rfl rfl (st_fa (g := g0) (off := 0) rfl fa58_2 rfl ⟨rfl, rfl⟩) ?_
      refine dw_op (d := (some 21)) (.agg #[.int .i64 a.z.lo, .int .i64 a.z.hi, .bool a.z.no]) rfl rfl rfl (st_lda (g := g0) (off := 6) (vs := [.int .i64 a.z.lo, .int .i64 a.z.hi, .bool a.z.no]) agg35 1 rfl rfl rfl rfl rfl rfl ⟨rfl, rfl⟩) ?_
      refine dw_op (d := (some 22)) (.agg #[.int .i64 ((rNeg a.x).lo), .int .i64 ((rNeg a.x).hi), .bool ((rNeg a.x).no), .int .i64 ((rNeg a.y).lo), .int .i64 ((rNeg a.y).hi), .bool ((rNeg a.y).no), .int .i64 a.z.lo, .int .i64 a.z.hi, .bool a.z.no]) rfl rfl rfl (st_bd (us := [(0, .agg #[.int .i64 ((rNeg a.x).lo), .int .i64 ((rNeg a.x).hi), .bool ((rNeg a.x).no)]), (1, .agg #[.int .i64 ((rNeg a.y).lo), .int .i64 ((rNeg a.y).hi), .bool ((rNeg a.y).no)]), (2, .agg #[.int .i64 a.z.lo, .int .i64 a.z.hi, .bool a.z.no])]) (v := .agg #[.int .i64 ((rNeg a.x).lo), .int .i64 ((rNeg a.x).hi), .bool ((rNeg a.x).no), .int .i64 ((rNeg a.y).lo), .int .i64 ((rNeg a.y).hi), .bool ((rNeg a.y).no), .int .i64 a.z.lo, .int .i64 a.z.hi, .bool a.z.no]) rfl rfl (bd58_0a_1a_2a _ _ _ _ _ _ _ _ _) ⟨rfl, rfl⟩) ?_
      refine dw_nil ?_
      refine ar_op (d := none) rfl rfl (st_sta (g := g0) (off := 0) (us := [.int .i64 ((rNeg a.x).lo), .int .i64 ((rNeg a.x).hi), .bool ((rNeg a.x).no), .int .i64 ((rNeg a.y).lo), .int .i64 ((rNeg a.y).hi), .bool ((rNeg a.y).no), .int .i64 a.z.lo, .int .i64 a.z.hi, .bool a.z.no]) (cs := [.int .i64 ((rNeg a.x).lo), .int .i64 ((rNeg a.x).hi), .bool ((rNeg a.x).no), .int .i64 ((rNeg a.y).lo), .int .i64 ((rNeg a.y).hi), .bool ((rNeg a.y).no), .int .i64 a.z.lo, .int .i64 a.z.hi, .bool a.z.no]) agg58 1 rfl rfl rfl rfl rfl rfl rfl rfl rfl ?_)
      refine ar_nil ?_
      refine ac_region_lit ?_
      refine ao 13 rfl rfl (st_move (v := .int .i64 (w64 ((rVecTurn_e0 a k) - 1))) rfl rfl ?_)
      refine ao 14 rfl rfl (st_bi (u := .int .i64 (w64 ((rVecTurn_e0 a k) - 1))) (v := .int .i64 1) (r := .int .i64 (w64 ((w64 ((rVecTurn_e0 a k) - 1)) - 1))) rfl rfl rfl (bi_sub rfl) ?_)
      refine ao 1 rfl rfl (st_assign (v := .int .i64 (w64 ((w64 ((rVecTurn_e0 a k) - 1)) - 1))) rfl rfl ?_)
      refine ar_nil ?_
      refine ar_round ?_
      refine ac_seq ?_
      refine ac_seq ?_
      refine ac_region_lit ?_
      refine ao 11 rfl rfl (st_move (v := .int .i64 (w64 ((w64 ((rVecTurn_e0 a k) - 1)) - 1))) rfl rfl ?_)
      refine ao 12 rfl rfl (st_bi (u := .int .i64 (w64 ((w64 ((rVecTurn_e0 a k) - 1)) - 1))) (v := .int .i64 0) (r := .bool (decide ((w64 ((w64 ((rVecTurn_e0 a k) - 1)) - 1)) > 0))) rfl rfl rfl (bi_gtr rfl) ?_)
      refine ar_nil ?_
      refine bool_split (decide ((w64 ((w64 ((rVecTurn_e0 a k) - 1)) - 1)) > 0)) (fun h3 => ?_) (fun h3 => ?_)
      · refine ac_then' (b := decide ((w64 ((w64 ((rVecTurn_e0 a k) - 1)) - 1)) > 0)) h3 rfl ?_
        refine ac_skip ?_
        refine ac_seq ?_
        refine ac_block ?_
        refine ac_draw0 (id := 6) [0, 1, 2, 3, 4, 5, 6, 7] [8] _ (by kernel_rfl) follows rfl  ?_
        refine dw_op (d := (some 15)) (.pointer (some ⟨g0, 3, none⟩)) rfl rfl rfl (st_fa (g := g0) (off := 0) rfl fa58_1 rfl ⟨rfl, rfl⟩) ?_
        refine dw_op (d := (some 16)) (.agg #[.int .i64 ((rNeg a.y).lo), .int .i64 ((rNeg a.y).hi), .bool ((rNeg a.y).no)]) rfl rfl rfl (st_lda (g := g0) (off := 3) (vs := [.int .i64 ((rNeg a.y).lo), .int .i64 ((rNeg a.y).hi), .bool ((rNeg a.y).no)]) agg35 1 rfl rfl rfl rfl rfl rfl ⟨rfl, rfl⟩) ?_
        refine dw_op (d := (some 17)) (.agg #[.int .i64 ((rNeg (rNeg a.y)).lo), .int .i64 ((rNeg (rNeg a.y)).hi), .bool ((rNeg (rNeg a.y)).no)]) rfl rfl rfl (st_cf (vs := [.agg #[.int .i64 ((rNeg a.y).lo), .int .i64 ((rNeg a.y).hi), .bool ((rNeg a.y).no)]]) (r := .agg #[.int .i64 ((rNeg (rNeg a.y)).lo), .int .i64 ((rNeg (rNeg a.y)).hi), .bool ((rNeg (rNeg a.y)).no)]) (c_rNeg (rNeg a.y)) Try.func108 rfl (by decide) rfl rfl rfl ⟨rfl, rfl⟩) ?_
        refine dw_op (d := (some 18)) (.pointer (some ⟨g0, 0, none⟩)) rfl rfl rfl (st_fa (g := g0) (off := 0) rfl fa58_0 rfl ⟨rfl, rfl⟩) ?_
        refine dw_op (d := (some 19)) (.agg #[.int .i64 ((rNeg a.x).lo), .int .i64 ((rNeg a.x).hi), .bool ((rNeg a.x).no)]) rfl rfl rfl (st_lda (g := g0) (off := 0) (vs := [.int .i64 ((rNeg a.x).lo), .int .i64 ((rNeg a.x).hi), .bool ((rNeg a.x).no)]) agg35 1 rfl rfl rfl rfl rfl rfl ⟨rfl, rfl⟩) ?_
        refine dw_op (d := (some 20)) (.pointer (some ⟨g0, 6, none⟩)) rfl rfl rfl (st_fa (g := g0) (off := 0) rfl fa58_2 rfl ⟨rfl, rfl⟩) ?_
        refine dw_op (d := (some 21)) (.agg #[.int .i64 a.z.lo, .int .i64 a.z.hi, .bool a.z.no]) rfl rfl rfl (st_lda (g := g0) (off := 6) (vs := [.int .i64 a.z.lo, .int .i64 a.z.hi, .bool a.z.no]) agg35 1 rfl rfl rfl rfl rfl rfl ⟨rfl, rfl⟩) ?_
        refine dw_op (d := (some 22)) (.agg #[.int .i64 ((rNeg (rNeg a.y)).lo), .int .i64 ((rNeg (rNeg a.y)).hi), .bool ((rNeg (rNeg a.y)).no), .int .i64 ((rNeg a.x).lo), .int .i64 ((rNeg a.x).hi), .bool ((rNeg a.x).no), .int .i64 a.z.lo, .int .i64 a.z.hi, .bool a.z.no]) rfl rfl rfl (st_bd (us := [(0, .agg #[.int .i64 ((rNeg (rNeg a.y)).lo), .int .i64 ((rNeg (rNeg a.y)).hi), .bool ((rNeg (rNeg a.y)).no)]), (1, .agg #[.int .i64 ((rNeg a.x).lo), .int .i64 ((rNeg a.x).hi), .bool ((rNeg a.x).no)]), (2, .agg #[.int .i64 a.z.lo, .int .i64 a.z.hi, .bool a.z.no])]) (v := .agg #[.int .i64 ((rNeg (rNeg a.y)).lo), .int .i64 ((rNeg (rNeg a.y)).hi), .bool ((rNeg (rNeg a.y)).no), .int .i64 ((rNeg a.x).lo), .int .i64 ((rNeg a.x).hi), .bool ((rNeg a.x).no), .int .i64 a.z.lo, .int .i64 a.z.hi, .bool a.z.no]) rfl rfl (bd58_0a_1a_2a _ _ _ _ _ _ _ _ _) ⟨rfl, rfl⟩) ?_
        refine dw_nil ?_
        refine ar_op (d := none) rfl rfl (st_sta (g := g0) (off := 0) (us := [.int .i64 ((rNeg (rNeg a.y)).lo), .int .i64 ((rNeg (rNeg a.y)).hi), .bool ((rNeg (rNeg a.y)).no), .int .i64 ((rNeg a.x).lo), .int .i64 ((rNeg a.x).hi), .bool ((rNeg a.x).no), .int .i64 a.z.lo, .int .i64 a.z.hi, .bool a.z.no]) (cs := [.int .i64 ((rNeg (rNeg a.y)).lo), .int .i64 ((rNeg (rNeg a.y)).hi), .bool ((rNeg (rNeg a.y)).no), .int .i64 ((rNeg a.x).lo), .int .i64 ((rNeg a.x).hi), .bool ((rNeg a.x).no), .int .i64 a.z.lo, .int .i64 a.z.hi, .bool a.z.no]) agg58 1 rfl rfl rfl rfl rfl rfl rfl rfl rfl ?_)
        refine ar_nil ?_
        refine ac_region_lit ?_
        refine ao 13 rfl rfl (st_move (v := .int .i64 (w64 ((w64 ((rVecTurn_e0 a k) - 1)) - 1))) rfl rfl ?_)
        refine ao 14 rfl rfl (st_bi (u := .int .i64 (w64 ((w64 ((rVecTurn_e0 a k) - 1)) - 1))) (v := .int .i64 1) (r := .int .i64 (w64 ((w64 ((w64 ((rVecTurn_e0 a k) - 1)) - 1)) - 1))) rfl rfl rfl (bi_sub rfl) ?_)
        refine ao 1 rfl rfl (st_assign (v := .int .i64 (w64 ((w64 ((w64 ((rVecTurn_e0 a k) - 1)) - 1)) - 1))) rfl rfl ?_)
        refine ar_nil ?_
        refine ar_round ?_
        refine ac_seq ?_
        refine ac_seq ?_
        refine ac_region_lit ?_
        refine ao 11 rfl rfl (st_move (v := .int .i64 (w64 ((w64 ((w64 ((rVecTurn_e0 a k) - 1)) - 1)) - 1))) rfl rfl ?_)
        refine ao 12 rfl rfl (st_bi (u := .int .i64 (w64 ((w64 ((w64 ((rVecTurn_e0 a k) - 1)) - 1)) - 1))) (v := .int .i64 0) (r := .bool (decide ((w64 ((w64 ((w64 ((rVecTurn_e0 a k) - 1)) - 1)) - 1)) > 0))) rfl rfl rfl (bi_gtr rfl) ?_)
        refine ar_nil ?_
        refine ac_else' (b := decide ((w64 ((w64 ((w64 ((rVecTurn_e0 a k) - 1)) - 1)) - 1)) > 0)) (by unfold rVecTurn_e0; exact rturn_lt k) rfl ?_
        refine ac_exit ?_
        refine ac_seq ?_
        refine ac_region_lit ?_
        refine ao 23 rfl rfl (st_lda (g := g0) (off := 0) (vs := [.int .i64 ((rNeg (rNeg a.y)).lo), .int .i64 ((rNeg (rNeg a.y)).hi), .bool ((rNeg (rNeg a.y)).no), .int .i64 ((rNeg a.x).lo), .int .i64 ((rNeg a.x).hi), .bool ((rNeg a.x).no), .int .i64 a.z.lo, .int .i64 a.z.hi, .bool a.z.no]) agg58 1 rfl rfl rfl rfl rfl rfl ?_)
        refine ar_op (d := none) rfl rfl (st_sta (g := g1) (off := 0) (us := [.int .i64 ((rNeg (rNeg a.y)).lo), .int .i64 ((rNeg (rNeg a.y)).hi), .bool ((rNeg (rNeg a.y)).no), .int .i64 ((rNeg a.x).lo), .int .i64 ((rNeg a.x).hi), .bool ((rNeg a.x).no), .int .i64 a.z.lo, .int .i64 a.z.hi, .bool a.z.no]) (cs := [.int .i64 ((rNeg (rNeg a.y)).lo), .int .i64 ((rNeg (rNeg a.y)).hi), .bool ((rNeg (rNeg a.y)).no), .int .i64 ((rNeg a.x).lo), .int .i64 ((rNeg a.x).hi), .bool ((rNeg a.x).no), .int .i64 a.z.lo, .int .i64 a.z.hi, .bool a.z.no]) agg58 0 rfl rfl rfl rfl rfl rfl rfl rfl rfl ?_)
        refine ar_nil ?_
        refine ac_ret ?_
        exact fin_eq (v := .agg #[.int .i64 ((rNeg (rNeg a.y)).lo), .int .i64 ((rNeg (rNeg a.y)).hi), .bool ((rNeg (rNeg a.y)).no), .int .i64 ((rNeg a.x).lo), .int .i64 ((rNeg a.x).hi), .bool ((rNeg a.x).no), .int .i64 a.z.lo, .int .i64 a.z.hi, .bool a.z.no]) (by show _ = V.v (rVecTurn a k); rw [rVecTurn, h3, h2, h1] <;> rfl) (fin_ret (res_c (vs := [.int .i64 ((rNeg (rNeg a.y)).lo), .int .i64 ((rNeg (rNeg a.y)).hi), .bool ((rNeg (rNeg a.y)).no), .int .i64 ((rNeg a.x).lo), .int .i64 ((rNeg a.x).hi), .bool ((rNeg a.x).no), .int .i64 a.z.lo, .int .i64 a.z.hi, .bool a.z.no]) agg58 0 rfl rfl rfl rfl rfl rfl))
      · refine ac_else' (b := decide ((w64 ((w64 ((rVecTurn_e0 a k) - 1)) - 1)) > 0)) h3 rfl ?_
        refine ac_exit ?_
        refine ac_seq ?_
        refine ac_region_lit ?_
        refine ao 23 rfl rfl (st_lda (g := g0) (off := 0) (vs := [.int .i64 ((rNeg a.x).lo), .int .i64 ((rNeg a.x).hi), .bool ((rNeg a.x).no), .int .i64 ((rNeg a.y).lo), .int .i64 ((rNeg a.y).hi), .bool ((rNeg a.y).no), .int .i64 a.z.lo, .int .i64 a.z.hi, .bool a.z.no]) agg58 1 rfl rfl rfl rfl rfl rfl ?_)
        refine ar_op (d := none) rfl rfl (st_sta (g := g1) (off := 0) (us := [.int .i64 ((rNeg a.x).lo), .int .i64 ((rNeg a.x).hi), .bool ((rNeg a.x).no), .int .i64 ((rNeg a.y).lo), .int .i64 ((rNeg a.y).hi), .bool ((rNeg a.y).no), .int .i64 a.z.lo, .int .i64 a.z.hi, .bool a.z.no]) (cs := [.int .i64 ((rNeg a.x).lo), .int .i64 ((rNeg a.x).hi), .bool ((rNeg a.x).no), .int .i64 ((rNeg a.y).lo), .int .i64 ((rNeg a.y).hi), .bool ((rNeg a.y).no), .int .i64 a.z.lo, .int .i64 a.z.hi, .bool a.z.no]) agg58 0 rfl rfl rfl rfl rfl rfl rfl rfl rfl ?_)
        refine ar_nil ?_
        refine ac_ret ?_
        exact fin_eq (v := .agg #[.int .i64 ((rNeg a.x).lo), .int .i64 ((rNeg a.x).hi), .bool ((rNeg a.x).no), .int .i64 ((rNeg a.y).lo), .int .i64 ((rNeg a.y).hi), .bool ((rNeg a.y).no), .int .i64 a.z.lo, .int .i64 a.z.hi, .bool a.z.no]) (by show _ = V.v (rVecTurn a k); rw [rVecTurn, h3, h2, h1] <;> rfl) (fin_ret (res_c (vs := [.int .i64 ((rNeg a.x).lo), .int .i64 ((rNeg a.x).hi), .bool ((rNeg a.x).no), .int .i64 ((rNeg a.y).lo), .int .i64 ((rNeg a.y).hi), .bool ((rNeg a.y).no), .int .i64 a.z.lo, .int .i64 a.z.hi, .bool a.z.no]) agg58 0 rfl rfl rfl rfl rfl rfl))
    · refine ac_else' (b := decide ((w64 ((rVecTurn_e0 a k) - 1)) > 0)) h2 rfl ?_
      refine ac_exit ?_
      refine ac_seq ?_
      refine ac_region_lit ?_
      refine ao 23 rfl rfl (st_lda (g := g0) (off := 0) (vs := [.int .i64 ((rNeg a.y).lo), .int .i64 ((rNeg a.y).hi), .bool ((rNeg a.y).no), .int .i64 a.x.lo, .int .i64 a.x.hi, .bool a.x.no, .int .i64 a.z.lo, .int .i64 a.z.hi, .bool a.z.no]) agg58 1 rfl rfl rfl rfl rfl rfl ?_)
      refine ar_op (d := none) rfl rfl (st_sta (g := g1) (off := 0) (us := [.int .i64 ((rNeg a.y).lo), .int .i64 ((rNeg a.y).hi), .bool ((rNeg a.y).no), .int .i64 a.x.lo, .int .i64 a.x.hi, .bool a.x.no, .int .i64 a.z.lo, .int .i64 a.z.hi, .bool a.z.no]) (cs := [.int .i64 ((rNeg a.y).lo), .int .i64 ((rNeg a.y).hi), .bool ((rNeg a.y).no), .int .i64 a.x.lo, .int .i64 a.x.hi, .bool a.x.no, .int .i64 a.z.lo, .int .i64 a.z.hi, .bool a.z.no]) agg58 0 rfl rfl rfl rfl rfl rfl rfl rfl rfl ?_)
      refine ar_nil ?_
      refine ac_ret ?_
      exact fin_eq (v := .agg #[.int .i64 ((rNeg a.y).lo), .int .i64 ((rNeg a.y).hi), .bool ((rNeg a.y).no), .int .i64 a.x.lo, .int .i64 a.x.hi, .bool a.x.no, .int .i64 a.z.lo, .int .i64 a.z.hi, .bool a.z.no]) (by show _ = V.v (rVecTurn a k); rw [rVecTurn, h2, h1] <;> rfl) (fin_ret (res_c (vs := [.int .i64 ((rNeg a.y).lo), .int .i64 ((rNeg a.y).hi), .bool ((rNeg a.y).no), .int .i64 a.x.lo, .int .i64 a.x.hi, .bool a.x.no, .int .i64 a.z.lo, .int .i64 a.z.hi, .bool a.z.no]) agg58 0 rfl rfl rfl rfl rfl rfl))
  · refine ac_else' (b := decide ((rVecTurn_e0 a k) > 0)) h1 rfl ?_
    refine ac_exit ?_
    refine ac_seq ?_
    refine ac_region_lit ?_
    refine ao 23 rfl rfl (st_lda (g := g0) (off := 0) (vs := [.int .i64 a.x.lo, .int .i64 a.x.hi, .bool a.x.no, .int .i64 a.y.lo, .int .i64 a.y.hi, .bool a.y.no, .int .i64 a.z.lo, .int .i64 a.z.hi, .bool a.z.no]) agg58 1 rfl rfl rfl rfl rfl rfl ?_)
    refine ar_op (d := none) rfl rfl (st_sta (g := g1) (off := 0) (us := [.int .i64 a.x.lo, .int .i64 a.x.hi, .bool a.x.no, .int .i64 a.y.lo, .int .i64 a.y.hi, .bool a.y.no, .int .i64 a.z.lo, .int .i64 a.z.hi, .bool a.z.no]) (cs := [.int .i64 a.x.lo, .int .i64 a.x.hi, .bool a.x.no, .int .i64 a.y.lo, .int .i64 a.y.hi, .bool a.y.no, .int .i64 a.z.lo, .int .i64 a.z.hi, .bool a.z.no]) agg58 0 rfl rfl rfl rfl rfl rfl rfl rfl rfl ?_)
    refine ar_nil ?_
    refine ac_ret ?_
    exact fin_eq (v := .agg #[.int .i64 a.x.lo, .int .i64 a.x.hi, .bool a.x.no, .int .i64 a.y.lo, .int .i64 a.y.hi, .bool a.y.no, .int .i64 a.z.lo, .int .i64 a.z.hi, .bool a.z.no]) (by show _ = V.v (rVecTurn a k); rw [rVecTurn, h1] <;> rfl) (fin_ret (res_c (vs := [.int .i64 a.x.lo, .int .i64 a.x.hi, .bool a.x.no, .int .i64 a.y.lo, .int .i64 a.y.hi, .bool a.y.no, .int .i64 a.z.lo, .int .i64 a.z.hi, .bool a.z.no]) agg58 0 rfl rfl rfl rfl rfl rfl))
end Go.Proofs.Ytbaihncnbejjbaa
