import Derived.Test.YtbaihncnbejjbaaK2
import Derived.Test.YtbaihncnbejjbaaHand
set_option linter.unusedVariables false
set_option linter.unusedSimpArgs false
namespace Go.Proofs.Ytbaihncnbejjbaa
open Go.RowKit

attribute [local irreducible] AC AR DWalk
def lawIvBacks_e0 (a : Int) (b : Int) (c : Int) (d : Int) : Bool := (ivInside (hTame a b) (ivSub (ivAdd (hTame a b) (hTame c d)) (hTame c d)))
def lawIvBacks_e1 (a : Int) (b : Int) (c : Int) (d : Int) : Bool := (ivRight (ivMul (ivDiv (hTame a b) (hTame c d)) (hTame c d)))
def lawIvBacks_e2 (a : Int) (b : Int) (c : Int) (d : Int) : Bool := (ivInside (hTame a b) (ivMul (ivDiv (hTame a b) (hTame c d)) (hTame c d)))
def lawIvBacks (a : Int) (b : Int) (c : Int) (d : Int) : Bool := (bif known2 then (bif lawIvBacks_e0 a b c d then (bif ivRight (ivRoot (hTame a b)) then (bif ivInside (hTame a b) (ivSqr (ivRoot (hTame a b))) then (bif lawIvBacks_e1 a b c d then lawIvBacks_e2 a b c d else true) else false) else (bif lawIvBacks_e1 a b c d then lawIvBacks_e2 a b c d else true)) else false) else false)
set_option maxRecDepth 100000 in
theorem c_lawIvBacks (a : Int) (b : Int) (c : Int) (d : Int) (H : (lawIvBacks a b c d) = true) : Gets Try.prog 12 #[.int .i64 a, .int .i64 b, .int .i64 c, .int .i64 d] (.bool true) := by
  refine gets_fin Try.func12 rfl rfl rfl ?_
  refine ac_seq ?_
  refine ac_region_lit ?_
  refine ao 8 rfl rfl (st_assign (v := .bool false) rfl rfl ?_)
  refine ar_nil ?_
  refine ac_seq ?_
  refine ac_region_lit ?_
  refine ao 14 rfl rfl (st_move (v := .int .i64 a) rfl rfl ?_)
  refine ao 15 rfl rfl (st_move (v := .int .i64 b) rfl rfl ?_)
  refine ao 16 rfl rfl (st_cf (vs := [.int .i64 a, .int .i64 b]) (r := .agg #[.int .i64 ((hTame a b).lo), .int .i64 ((hTame a b).hi), .bool ((hTame a b).no)]) (c_hTame a b) Try.func72 rfl (by decide) rfl rfl rfl ?_)
  refine ao 9 rfl rfl (st_new zero35 rfl fun g0 => ?_)
  refine ar_op (d := none) rfl rfl (st_sta (g := g0) (off := 0) (us := [.int .i64 ((hTame a b).lo), .int .i64 ((hTame a b).hi), .bool ((hTame a b).no)]) (cs := [.int .i64 ((hTame a b).lo), .int .i64 ((hTame a b).hi), .bool ((hTame a b).no)]) agg35 0 rfl rfl rfl rfl rfl rfl rfl rfl rfl ?_)
  refine ar_nil ?_
  refine ac_seq ?_
  refine ac_region_lit ?_
  refine ao 17 rfl rfl (st_move (v := .int .i64 c) rfl rfl ?_)
  refine ao 18 rfl rfl (st_move (v := .int .i64 d) rfl rfl ?_)
  refine ao 19 rfl rfl (st_cf (vs := [.int .i64 c, .int .i64 d]) (r := .agg #[.int .i64 ((hTame c d).lo), .int .i64 ((hTame c d).hi), .bool ((hTame c d).no)]) (c_hTame c d) Try.func72 rfl (by decide) rfl rfl rfl ?_)
  refine ao 10 rfl rfl (st_new zero35 rfl fun g1 => ?_)
  refine ar_op (d := none) rfl rfl (st_sta (g := g1) (off := 0) (us := [.int .i64 ((hTame c d).lo), .int .i64 ((hTame c d).hi), .bool ((hTame c d).no)]) (cs := [.int .i64 ((hTame c d).lo), .int .i64 ((hTame c d).hi), .bool ((hTame c d).no)]) agg35 0 rfl rfl rfl rfl rfl rfl rfl rfl rfl ?_)
  refine ar_nil ?_
  refine ac_seq ?_
  refine ac_seq ?_
  refine ac_draw0 (id := 3) [0, 1, 2, 3, 4, 5, 6, 7, 8, 9, 10, 11] [] _ (by kernel_rfl) follows rfl  ?_
  refine dw_op (d := (some 20)) (.bool known2) rfl rfl rfl (st_cf (vs := []) (r := .bool known2) c_known2 Try.func58 rfl (by decide) rfl rfl rfl ⟨rfl, rfl⟩) ?_
  refine dw_op (d := (some 21)) (.bool (!known2)) rfl rfl rfl (st_un (u := .bool known2) (v := .bool (!known2)) rfl rfl (un_not rfl) ⟨rfl, rfl⟩) ?_
  refine dw_op (d := (some 22)) (.bool (!known2)) rfl rfl rfl (st_move (v := .bool (!known2)) rfl rfl ⟨rfl, rfl⟩) ?_
  refine bool_split (known2) (fun h1 => ?_) (fun h1 => nomatch (show false = true from (show (lawIvBacks a b c d) = _ from (eF h1 rfl)).symm.trans H))
  refine dw_gd (d := (some 23)) (.agg #[.int .i64 ((hTame a b).lo), .int .i64 ((hTame a b).hi), .bool ((hTame a b).no)]) rfl (by show ((!known2) == false) = true; rw [h1]; rfl) rfl (st_lda (g := g0) (off := 0) (vs := [.int .i64 ((hTame a b).lo), .int .i64 ((hTame a b).hi), .bool ((hTame a b).no)]) agg35 1 rfl rfl rfl rfl rfl rfl ⟨rfl, rfl⟩) ?_
  refine dw_gd (d := (some 24)) (.agg #[.int .i64 ((hTame a b).lo), .int .i64 ((hTame a b).hi), .bool ((hTame a b).no)]) rfl (by show ((!known2) == false) = true; rw [h1]; rfl) rfl (st_lda (g := g0) (off := 0) (vs := [.int .i64 ((hTame a b).lo), .int .i64 ((hTame a b).hi), .bool ((hTame a b).no)]) agg35 1 rfl rfl rfl rfl rfl rfl ⟨rfl, rfl⟩) ?_
  refine dw_gd (d := (some 25)) (.agg #[.int .i64 ((hTame c d).lo), .int .i64 ((hTame c d).hi), .bool ((hTame c d).no)]) rfl (by show ((!known2) == false) = true; rw [h1]; rfl) rfl (st_lda (g := g1) (off := 0) (vs := [.int .i64 ((hTame c d).lo), .int .i64 ((hTame c d).hi), .bool ((hTame c d).no)]) agg35 0 rfl rfl rfl rfl rfl rfl ⟨rfl, rfl⟩) ?_
  refine dw_gd (d := (some 26)) (.agg #[.int .i64 ((ivAdd (hTame a b) (hTame c d)).lo), .int .i64 ((ivAdd (hTame a b) (hTame c d)).hi), .bool ((ivAdd (hTame a b) (hTame c d)).no)]) rfl (by show ((!known2) == false) = true; rw [h1]; rfl) rfl (st_cf (vs := [.agg #[.int .i64 ((hTame a b).lo), .int .i64 ((hTame a b).hi), .bool ((hTame a b).no)], .agg #[.int .i64 ((hTame c d).lo), .int .i64 ((hTame c d).hi), .bool ((hTame c d).no)]]) (r := .agg #[.int .i64 ((ivAdd (hTame a b) (hTame c d)).lo), .int .i64 ((ivAdd (hTame a b) (hTame c d)).hi), .bool ((ivAdd (hTame a b) (hTame c d)).no)]) (c_ivAdd (hTame a b) (hTame c d)) Try.func65 rfl (by decide) rfl rfl rfl ⟨rfl, rfl⟩) ?_
  refine dw_gd (d := (some 27)) (.agg #[.int .i64 ((hTame c d).lo), .int .i64 ((hTame c d).hi), .bool ((hTame c d).no)]) rfl (by show ((!known2) == false) = true; rw [h1]; rfl) rfl (st_lda (g := g1) (off := 0) (vs := [.int .i64 ((hTame c d).lo), .int .i64 ((hTame c d).hi), .bool ((hTame c d).no)]) agg35 0 rfl rfl rfl rfl rfl rfl ⟨rfl, rfl⟩) ?_
  refine dw_gd (d := (some 28)) (.agg #[.int .i64 ((ivSub (ivAdd (hTame a b) (hTame c d)) (hTame c d)).lo), .int .i64 ((ivSub (ivAdd (hTame a b) (hTame c d)) (hTame c d)).hi), .bool ((ivSub (ivAdd (hTame a b) (hTame c d)) (hTame c d)).no)]) rfl (by show ((!known2) == false) = true; rw [h1]; rfl) rfl (st_cf (vs := [.agg #[.int .i64 ((ivAdd (hTame a b) (hTame c d)).lo), .int .i64 ((ivAdd (hTame a b) (hTame c d)).hi), .bool ((ivAdd (hTame a b) (hTame c d)).no)], .agg #[.int .i64 ((hTame c d).lo), .int .i64 ((hTame c d).hi), .bool ((hTame c d).no)]]) (r := .agg #[.int .i64 ((ivSub (ivAdd (hTame a b) (hTame c d)) (hTame c d)).lo), .int .i64 ((ivSub (ivAdd (hTame a b) (hTame c d)) (hTame c d)).hi), .bool ((ivSub (ivAdd (hTame a b) (hTame c d)) (hTame c d)).no)]) (c_ivSub (ivAdd (hTame a b) (hTame c d)) (hTame c d)) Try.func66 rfl (by decide) rfl rfl rfl ⟨rfl, rfl⟩) ?_
  refine dw_gd (d := (some 29)) (.bool (lawIvBacks_e0 a b c d)) rfl (by show ((!known2) == false) = true; rw [h1]; rfl) rfl (st_cf (vs := [.agg #[.int .i64 ((hTame a b).lo), .int .i64 ((hTame a b).hi), .bool ((hTame a b).no)], .agg #[.int .i64 ((ivSub (ivAdd (hTame a b) (hTame c d)) (hTame c d)).lo), .int .i64 ((ivSub (ivAdd (hTame a b) (hTame c d)) (hTame c d)).hi), .bool ((ivSub (ivAdd (hTame a b) (hTame c d)) (hTame c d)).no)]]) (r := .bool (lawIvBacks_e0 a b c d)) (c_ivInside (hTame a b) (ivSub (ivAdd (hTame a b) (hTame c d)) (hTame c d))) Try.func55 rfl (by decide) rfl rfl rfl ⟨rfl, rfl⟩) ?_
  refine dw_gd (d := (some 30)) (.bool (!(lawIvBacks_e0 a b c d))) rfl (by show ((!known2) == false) = true; rw [h1]; rfl) rfl (st_un (u := .bool (lawIvBacks_e0 a b c d)) (v := .bool (!(lawIvBacks_e0 a b c d))) rfl rfl (un_not rfl) ⟨rfl, rfl⟩) ?_
  refine dw_op (d := (some 31)) (.bool (!(lawIvBacks_e0 a b c d))) rfl rfl rfl (st_pkf' (b := !known2) (v := .bool (!(lawIvBacks_e0 a b c d))) (by rw [h1]; rfl) rfl rfl rfl ⟨rfl, rfl⟩) ?_
  refine dw_nil ?_
  refine ar_nil ?_
  refine bool_split (lawIvBacks_e0 a b c d) (fun h2 => ?_) (fun h2 => nomatch (show false = true from (show (lawIvBacks a b c d) = _ from (eT h1 (eF h2 rfl))).symm.trans H))
  refine ac_else' (b := !(lawIvBacks_e0 a b c d)) (by rw [h2]; rfl) rfl ?_
  refine ac_skip ?_
  refine ac_seq ?_
  refine ac_seq ?_
  refine ac_region_lit ?_
  refine ao 32 rfl rfl (st_lda (g := g0) (off := 0) (vs := [.int .i64 ((hTame a b).lo), .int .i64 ((hTame a b).hi), .bool ((hTame a b).no)]) agg35 1 rfl rfl rfl rfl rfl rfl ?_)
  refine ao 33 rfl rfl (st_cf (vs := [.agg #[.int .i64 ((hTame a b).lo), .int .i64 ((hTame a b).hi), .bool ((hTame a b).no)]]) (r := .agg #[.int .i64 ((ivRoot (hTame a b)).lo), .int .i64 ((ivRoot (hTame a b)).hi), .bool ((ivRoot (hTame a b)).no)]) (c_ivRoot (hTame a b)) Try.func74 rfl (by decide) rfl rfl rfl ?_)
  refine ao 11 rfl rfl (st_new zero35 rfl fun g2 => ?_)
  refine ar_op (d := none) rfl rfl (st_sta (g := g2) (off := 0) (us := [.int .i64 ((ivRoot (hTame a b)).lo), .int .i64 ((ivRoot (hTame a b)).hi), .bool ((ivRoot (hTame a b)).no)]) (cs := [.int .i64 ((ivRoot (hTame a b)).lo), .int .i64 ((ivRoot (hTame a b)).hi), .bool ((ivRoot (hTame a b)).no)]) agg35 0 rfl rfl rfl rfl rfl rfl rfl rfl rfl ?_)
  refine ar_nil ?_
  refine ac_seq ?_
  refine ac_draw0 (id := 6) [0, 1, 2, 3, 4, 5, 6, 7, 8] [] _ (by kernel_rfl) follows rfl  ?_
  refine dw_op (d := (some 34)) (.agg #[.int .i64 ((ivRoot (hTame a b)).lo), .int .i64 ((ivRoot (hTame a b)).hi), .bool ((ivRoot (hTame a b)).no)]) rfl rfl rfl (st_lda (g := g2) (off := 0) (vs := [.int .i64 ((ivRoot (hTame a b)).lo), .int .i64 ((ivRoot (hTame a b)).hi), .bool ((ivRoot (hTame a b)).no)]) agg35 0 rfl rfl rfl rfl rfl rfl ⟨rfl, rfl⟩) ?_
  refine dw_op (d := (some 35)) (.bool (ivRight (ivRoot (hTame a b)))) rfl rfl rfl (st_cf (vs := [.agg #[.int .i64 ((ivRoot (hTame a b)).lo), .int .i64 ((ivRoot (hTame a b)).hi), .bool ((ivRoot (hTame a b)).no)]]) (r := .bool (ivRight (ivRoot (hTame a b)))) (c_ivRight (ivRoot (hTame a b))) Try.func54 rfl (by decide) rfl rfl rfl ⟨rfl, rfl⟩) ?_
  refine dw_op (d := (some 36)) (.bool (ivRight (ivRoot (hTame a b)))) rfl rfl rfl (st_move (v := .bool (ivRight (ivRoot (hTame a b)))) rfl rfl ⟨rfl, rfl⟩) ?_
  refine bool_split (ivRight (ivRoot (hTame a b))) (fun h3 => ?_) (fun h3 => ?_)
  · refine dw_gd (d := (some 37)) (.agg #[.int .i64 ((hTame a b).lo), .int .i64 ((hTame a b).hi), .bool ((hTame a b).no)]) rfl (by show ((ivRight (ivRoot (hTame a b))) == true) = true; rw [h3]; rfl) rfl (st_lda (g := g0) (off := 0) (vs := [.int .i64 ((hTame a b).lo), .int .i64 ((hTame a b).hi), .bool ((hTame a b).no)]) agg35 2 rfl rfl rfl rfl rfl rfl ⟨rfl, rfl⟩) ?_
    refine dw_gd (d := (some 38)) (.agg #[.int .i64 ((ivRoot (hTame a b)).lo), .int .i64 ((ivRoot (hTame a b)).hi), .bool ((ivRoot (hTame a b)).no)]) rfl (by show ((ivRight (ivRoot (hTame a b))) == true) = true; rw [h3]; rfl) rfl (st_lda (g := g2) (off := 0) (vs := [.int .i64 ((ivRoot (hTame a b)).lo), .int .i64 ((ivRoot (hTame a b)).hi), .bool ((ivRoot (hTame a b)).no)]) agg35 0 rfl rfl rfl rfl rfl rfl ⟨rfl, rfl⟩) ?_
    refine dw_gd (d := (some 39)) (.agg #[.int .i64 ((ivSqr (ivRoot (hTame a b))).lo), .int .i64 ((ivSqr (ivRoot (hTame a b))).hi), .bool ((ivSqr (ivRoot (hTame a b))).no)]) rfl (by show ((ivRight (ivRoot (hTame a b))) == true) = true; rw [h3]; rfl) rfl (st_cf (vs := [.agg #[.int .i64 ((ivRoot (hTame a b)).lo), .int .i64 ((ivRoot (hTame a b)).hi), .bool ((ivRoot (hTame a b)).no)]]) (r := .agg #[.int .i64 ((ivSqr (ivRoot (hTame a b))).lo), .int .i64 ((ivSqr (ivRoot (hTame a b))).hi), .bool ((ivSqr (ivRoot (hTame a b))).no)]) (c_ivSqr (ivRoot (hTame a b))) Try.func63 rfl (by decide) rfl rfl rfl ⟨rfl, rfl⟩) ?_
    refine dw_gd (d := (some 40)) (.bool (ivInside (hTame a b) (ivSqr (ivRoot (hTame a b))))) rfl (by show ((ivRight (ivRoot (hTame a b))) == true) = true; rw [h3]; rfl) rfl (st_cf (vs := [.agg #[.int .i64 ((hTame a b).lo), .int .i64 ((hTame a b).hi), .bool ((hTame a b).no)], .agg #[.int .i64 ((ivSqr (ivRoot (hTame a b))).lo), .int .i64 ((ivSqr (ivRoot (hTame a b))).hi), .bool ((ivSqr (ivRoot (hTame a b))).no)]]) (r := .bool (ivInside (hTame a b) (ivSqr (ivRoot (hTame a b))))) (c_ivInside (hTame a b) (ivSqr (ivRoot (hTame a b)))) Try.func55 rfl (by decide) rfl rfl rfl ⟨rfl, rfl⟩) ?_
    refine dw_gd (d := (some 41)) (.bool (!(ivInside (hTame a b) (ivSqr (ivRoot (hTame a b)))))) rfl (by show ((ivRight (ivRoot (hTame a b))) == true) = true; rw [h3]; rfl) rfl (st_un (u := .bool (ivInside (hTame a b) (ivSqr (ivRoot (hTame a b))))) (v := .bool (!(ivInside (hTame a b) (ivSqr (ivRoot (hTame a b)))))) rfl rfl (un_not rfl) ⟨rfl, rfl⟩) ?_
    refine dw_op (d := (some 42)) (.bool (!(ivInside (hTame a b) (ivSqr (ivRoot (hTame a b)))))) rfl rfl rfl (st_pkt' (b := ivRight (ivRoot (hTame a b))) (v := .bool (!(ivInside (hTame a b) (ivSqr (ivRoot (hTame a b)))))) h3 rfl rfl rfl ⟨rfl, rfl⟩) ?_
    refine dw_nil ?_
    refine ar_nil ?_
    refine bool_split (ivInside (hTame a b) (ivSqr (ivRoot (hTame a b)))) (fun h4 => ?_) (fun h4 => nomatch (show false = true from (show (lawIvBacks a b c d) = _ from (eT h1 (eT h2 (eT h3 (eF h4 rfl))))).symm.trans H))
    refine ac_else' (b := !(ivInside (hTame a b) (ivSqr (ivRoot (hTame a b))))) (by rw [h4]; rfl) rfl ?_
    refine ac_skip ?_
    refine ac_seq ?_
    refine ac_region_lit ?_
    refine ao 43 rfl rfl (st_lda (g := g0) (off := 0) (vs := [.int .i64 ((hTame a b).lo), .int .i64 ((hTame a b).hi), .bool ((hTame a b).no)]) agg35 2 rfl rfl rfl rfl rfl rfl ?_)
    refine ao 44 rfl rfl (st_lda (g := g1) (off := 0) (vs := [.int .i64 ((hTame c d).lo), .int .i64 ((hTame c d).hi), .bool ((hTame c d).no)]) agg35 1 rfl rfl rfl rfl rfl rfl ?_)
    refine ao 45 rfl rfl (st_cf (vs := [.agg #[.int .i64 ((hTame a b).lo), .int .i64 ((hTame a b).hi), .bool ((hTame a b).no)], .agg #[.int .i64 ((hTame c d).lo), .int .i64 ((hTame c d).hi), .bool ((hTame c d).no)]]) (r := .agg #[.int .i64 ((ivDiv (hTame a b) (hTame c d)).lo), .int .i64 ((ivDiv (hTame a b) (hTame c d)).hi), .bool ((ivDiv (hTame a b) (hTame c d)).no)]) (c_ivDiv (hTame a b) (hTame c d)) Try.func73 rfl (by decide) rfl rfl rfl ?_)
    refine ao 12 rfl rfl (st_new zero35 rfl fun g3 => ?_)
    refine ar_op (d := none) rfl rfl (st_sta (g := g3) (off := 0) (us := [.int .i64 ((ivDiv (hTame a b) (hTame c d)).lo), .int .i64 ((ivDiv (hTame a b) (hTame c d)).hi), .bool ((ivDiv (hTame a b) (hTame c d)).no)]) (cs := [.int .i64 ((ivDiv (hTame a b) (hTame c d)).lo), .int .i64 ((ivDiv (hTame a b) (hTame c d)).hi), .bool ((ivDiv (hTame a b) (hTame c d)).no)]) agg35 0 rfl rfl rfl rfl rfl rfl rfl rfl rfl ?_)
    refine ar_nil ?_
    refine ac_seq ?_
    refine ac_region_lit ?_
    refine ao 46 rfl rfl (st_lda (g := g3) (off := 0) (vs := [.int .i64 ((ivDiv (hTame a b) (hTame c d)).lo), .int .i64 ((ivDiv (hTame a b) (hTame c d)).hi), .bool ((ivDiv (hTame a b) (hTame c d)).no)]) agg35 0 rfl rfl rfl rfl rfl rfl ?_)
    refine ao 47 rfl rfl (st_lda (g := g1) (off := 0) (vs := [.int .i64 ((hTame c d).lo), .int .i64 ((hTame c d).hi), .bool ((hTame c d).no)]) agg35 2 rfl rfl rfl rfl rfl rfl ?_)
    refine ao 48 rfl rfl (st_cf (vs := [.agg #[.int .i64 ((ivDiv (hTame a b) (hTame c d)).lo), .int .i64 ((ivDiv (hTame a b) (hTame c d)).hi), .bool ((ivDiv (hTame a b) (hTame c d)).no)], .agg #[.int .i64 ((hTame c d).lo), .int .i64 ((hTame c d).hi), .bool ((hTame c d).no)]]) (r := .agg #[.int .i64 ((ivMul (ivDiv (hTame a b) (hTame c d)) (hTame c d)).lo), .int .i64 ((ivMul (ivDiv (hTame a b) (hTame c d)) (hTame c d)).hi), .bool ((ivMul (ivDiv (hTame a b) (hTame c d)) (hTame c d)).no)]) (c_ivMul (ivDiv (hTame a b) (hTame c d)) (hTame c d)) Try.func64 rfl (by decide) rfl rfl rfl ?_)
    refine ao 13 rfl rfl (st_new zero35 rfl fun g4 => ?_)
    refine ar_op (d := none) rfl rfl (st_sta (g := g4) (off := 0) (us := [.int .i64 ((ivMul (ivDiv (hTame a b) (hTame c d)) (hTame c d)).lo), .int .i64 ((ivMul (ivDiv (hTame a b) (hTame c d)) (hTame c d)).hi), .bool ((ivMul (ivDiv (hTame a b) (hTame c d)) (hTame c d)).no)]) (cs := [.int .i64 ((ivMul (ivDiv (hTame a b) (hTame c d)) (hTame c d)).lo), .int .i64 ((ivMul (ivDiv (hTame a b) (hTame c d)) (hTame c d)).hi), .bool ((ivMul (ivDiv (hTame a b) (hTame c d)) (hTame c d)).no)]) agg35 0 rfl rfl rfl rfl rfl rfl rfl rfl rfl ?_)
    refine ar_nil ?_
    refine ac_seq ?_
    refine ac_region_lit ?_
    refine ao 49 rfl rfl (st_lda (g := g4) (off := 0) (vs := [.int .i64 ((ivMul (ivDiv (hTame a b) (hTame c d)) (hTame c d)).lo), .int .i64 ((ivMul (ivDiv (hTame a b) (hTame c d)) (hTame c d)).hi), .bool ((ivMul (ivDiv (hTame a b) (hTame c d)) (hTame c d)).no)]) agg35 0 rfl rfl rfl rfl rfl rfl ?_)
    refine ao 50 rfl rfl (st_cf (vs := [.agg #[.int .i64 ((ivMul (ivDiv (hTame a b) (hTame c d)) (hTame c d)).lo), .int .i64 ((ivMul (ivDiv (hTame a b) (hTame c d)) (hTame c d)).hi), .bool ((ivMul (ivDiv (hTame a b) (hTame c d)) (hTame c d)).no)]]) (r := .bool (lawIvBacks_e1 a b c d)) (c_ivRight (ivMul (ivDiv (hTame a b) (hTame c d)) (hTame c d))) Try.func54 rfl (by decide) rfl rfl rfl ?_)
    refine ao 51 rfl rfl (st_un (u := .bool (lawIvBacks_e1 a b c d)) (v := .bool (!(lawIvBacks_e1 a b c d))) rfl rfl (un_not rfl) ?_)
    refine ao 52 rfl rfl (st_move (v := .bool (!(lawIvBacks_e1 a b c d))) rfl rfl ?_)
    refine bool_split (lawIvBacks_e1 a b c d) (fun h5 => ?_) (fun h5 => ?_)
    · refine ar_gd (d := (some 53)) (by show ((!(lawIvBacks_e1 a b c d)) == false) = true; rw [h5]; rfl) rfl (st_lda (g := g0) (off := 0) (vs := [.int .i64 ((hTame a b).lo), .int .i64 ((hTame a b).hi), .bool ((hTame a b).no)]) agg35 4 rfl rfl rfl rfl rfl rfl ?_)
      refine ar_gd (d := (some 54)) (by show ((!(lawIvBacks_e1 a b c d)) == false) = true; rw [h5]; rfl) rfl (st_lda (g := g4) (off := 0) (vs := [.int .i64 ((ivMul (ivDiv (hTame a b) (hTame c d)) (hTame c d)).lo), .int .i64 ((ivMul (ivDiv (hTame a b) (hTame c d)) (hTame c d)).hi), .bool ((ivMul (ivDiv (hTame a b) (hTame c d)) (hTame c d)).no)]) agg35 0 rfl rfl rfl rfl rfl rfl ?_)
      refine ar_gd (d := (some 55)) (by show ((!(lawIvBacks_e1 a b c d)) == false) = true; rw [h5]; rfl) rfl (st_cf (vs := [.agg #[.int .i64 ((hTame a b).lo), .int .i64 ((hTame a b).hi), .bool ((hTame a b).no)], .agg #[.int .i64 ((ivMul (ivDiv (hTame a b) (hTame c d)) (hTame c d)).lo), .int .i64 ((ivMul (ivDiv (hTame a b) (hTame c d)) (hTame c d)).hi), .bool ((ivMul (ivDiv (hTame a b) (hTame c d)) (hTame c d)).no)]]) (r := .bool (lawIvBacks_e2 a b c d)) (c_ivInside (hTame a b) (ivMul (ivDiv (hTame a b) (hTame c d)) (hTame c d))) Try.func55 rfl (by decide) rfl rfl rfl ?_)
      refine ao 56 rfl rfl (st_pkf' (b := !(lawIvBacks_e1 a b c d)) (v := .bool (lawIvBacks_e2 a b c d)) (by rw [h5]; rfl) rfl rfl rfl ?_)
      refine ao 8 rfl rfl (st_assign (v := .bool (lawIvBacks_e2 a b c d)) rfl rfl ?_)
      refine ar_nil ?_
      refine ac_ret ?_
      exact fin_eq (v := .bool (lawIvBacks_e2 a b c d)) (congrArg Value.bool (show (lawIvBacks_e2 a b c d) = true from (show (lawIvBacks a b c d) = _ from (eT h1 (eT h2 (eT h3 (eT h4 (eT h5 rfl)))))).symm.trans H)) (fin_ret (res_tmp rfl rfl))
    · refine ar_sk (d := (some 53)) (by show ((!(lawIvBacks_e1 a b c d)) == false) = false; rw [h5]; rfl) rfl ?_
      refine ar_sk (d := (some 54)) (by show ((!(lawIvBacks_e1 a b c d)) == false) = false; rw [h5]; rfl) rfl ?_
      refine ar_sk (d := (some 55)) (by show ((!(lawIvBacks_e1 a b c d)) == false) = false; rw [h5]; rfl) rfl ?_
      refine ao 56 rfl rfl (st_pkt' (b := !(lawIvBacks_e1 a b c d)) (v := .bool true) (by rw [h5]; rfl) rfl rfl rfl ?_)
      refine ao 8 rfl rfl (st_assign (v := .bool true) rfl rfl ?_)
      refine ar_nil ?_
      refine ac_ret ?_
      exact fin_eq (by first | rfl | (rw [h5, h4, h3, h2, h1] <;> rfl)) (fin_ret (res_tmp rfl rfl))
  · refine dw_sk (d := (some 37)) rfl (by show ((ivRight (ivRoot (hTame a b))) == true) = false; rw [h3]; rfl) rfl ?_
    refine dw_sk (d := (some 38)) rfl (by show ((ivRight (ivRoot (hTame a b))) == true) = false; rw [h3]; rfl) rfl ?_
    refine dw_sk (d := (some 39)) rfl (by show ((ivRight (ivRoot (hTame a b))) == true) = false; rw [h3]; rfl) rfl ?_
    refine dw_sk (d := (some 40)) rfl (by show ((ivRight (ivRoot (hTame a b))) == true) = false; rw [h3]; rfl) rfl ?_
    refine dw_sk (d := (some 41)) rfl (by show ((ivRight (ivRoot (hTame a b))) == true) = false; rw [h3]; rfl) rfl ?_
    refine dw_op (d := (some 42)) (.bool false) rfl rfl rfl (st_pkf' (b := ivRight (ivRoot (hTame a b))) (v := .bool false) h3 rfl rfl rfl ⟨rfl, rfl⟩) ?_
    refine dw_nil ?_
    refine ar_nil ?_
    refine ac_else rfl ?_
    refine ac_skip ?_
    refine ac_seq ?_
    refine ac_region_lit ?_
    refine ao 43 rfl rfl (st_lda (g := g0) (off := 0) (vs := [.int .i64 ((hTame a b).lo), .int .i64 ((hTame a b).hi), .bool ((hTame a b).no)]) agg35 2 rfl rfl rfl rfl rfl rfl ?_)
    refine ao 44 rfl rfl (st_lda (g := g1) (off := 0) (vs := [.int .i64 ((hTame c d).lo), .int .i64 ((hTame c d).hi), .bool ((hTame c d).no)]) agg35 1 rfl rfl rfl rfl rfl rfl ?_)
    refine ao 45 rfl rfl (st_cf (vs := [.agg #[.int .i64 ((hTame a b).lo), .int .i64 ((hTame a b).hi), .bool ((hTame a b).no)], .agg #[.int .i64 ((hTame c d).lo), .int .i64 ((hTame c d).hi), .bool ((hTame c d).no)]]) (r := .agg #[.int .i64 ((ivDiv (hTame a b) (hTame c d)).lo), .int .i64 ((ivDiv (hTame a b) (hTame c d)).hi), .bool ((ivDiv (hTame a b) (hTame c d)).no)]) (c_ivDiv (hTame a b) (hTame c d)) Try.func73 rfl (by decide) rfl rfl rfl ?_)
    refine ao 12 rfl rfl (st_new zero35 rfl fun g3 => ?_)
    refine ar_op (d := none) rfl rfl (st_sta (g := g3) (off := 0) (us := [.int .i64 ((ivDiv (hTame a b) (hTame c d)).lo), .int .i64 ((ivDiv (hTame a b) (hTame c d)).hi), .bool ((ivDiv (hTame a b) (hTame c d)).no)]) (cs := [.int .i64 ((ivDiv (hTame a b) (hTame c d)).lo), .int .i64 ((ivDiv (hTame a b) (hTame c d)).hi), .bool ((ivDiv (hTame a b) (hTame c d)).no)]) agg35 0 rfl rfl rfl rfl rfl rfl rfl rfl rfl ?_)
    refine ar_nil ?_
    refine ac_seq ?_
    refine ac_region_lit ?_
    refine ao 46 rfl rfl (st_lda (g := g3) (off := 0) (vs := [.int .i64 ((ivDiv (hTame a b) (hTame c d)).lo), .int .i64 ((ivDiv (hTame a b) (hTame c d)).hi), .bool ((ivDiv (hTame a b) (hTame c d)).no)]) agg35 0 rfl rfl rfl rfl rfl rfl ?_)
    refine ao 47 rfl rfl (st_lda (g := g1) (off := 0) (vs := [.int .i64 ((hTame c d).lo), .int .i64 ((hTame c d).hi), .bool ((hTame c d).no)]) agg35 2 rfl rfl rfl rfl rfl rfl ?_)
    refine ao 48 rfl rfl (st_cf (vs := [.agg #[.int .i64 ((ivDiv (hTame a b) (hTame c d)).lo), .int .i64 ((ivDiv (hTame a b) (hTame c d)).hi), .bool ((ivDiv (hTame a b) (hTame c d)).no)], .agg #[.int .i64 ((hTame c d).lo), .int .i64 ((hTame c d).hi), .bool ((hTame c d).no)]]) (r := .agg #[.int .i64 ((ivMul (ivDiv (hTame a b) (hTame c d)) (hTame c d)).lo), .int .i64 ((ivMul (ivDiv (hTame a b) (hTame c d)) (hTame c d)).hi), .bool ((ivMul (ivDiv (hTame a b) (hTame c d)) (hTame c d)).no)]) (c_ivMul (ivDiv (hTame a b) (hTame c d)) (hTame c d)) Try.func64 rfl (by decide) rfl rfl rfl ?_)
    refine ao 13 rfl rfl (st_new zero35 rfl fun g4 => ?_)
    refine ar_op (d := none) rfl rfl (st_sta (g := g4) (off := 0) (us := [.int .i64 ((ivMul (ivDiv (hTame a b) (hTame c d)) (hTame c d)).lo), .int .i64 ((ivMul (ivDiv (hTame a b) (hTame c d)) (hTame c d)).hi), .bool ((ivMul (ivDiv (hTame a b) (hTame c d)) (hTame c d)).no)]) (cs := [.int .i64 ((ivMul (ivDiv (hTame a b) (hTame c d)) (hTame c d)).lo), .int .i64 ((ivMul (ivDiv (hTame a b) (hTame c d)) (hTame c d)).hi), .bool ((ivMul (ivDiv (hTame a b) (hTame c d)) (hTame c d)).no)]) agg35 0 rfl rfl rfl rfl rfl rfl rfl rfl rfl ?_)
    refine ar_nil ?_
    refine ac_seq ?_
    refine ac_region_lit ?_
    refine ao 49 rfl rfl (st_lda (g := g4) (off := 0) (vs := [.int .i64 ((ivMul (ivDiv (hTame a b) (hTame c d)) (hTame c d)).lo), .int .i64 ((ivMul (ivDiv (hTame a b) (hTame c d)) (hTame c d)).hi), .bool ((ivMul (ivDiv (hTame a b) (hTame c d)) (hTame c d)).no)]) agg35 0 rfl rfl rfl rfl rfl rfl ?_)
    refine ao 50 rfl rfl (st_cf (vs := [.agg #[.int .i64 ((ivMul (ivDiv (hTame a b) (hTame c d)) (hTame c d)).lo), .int .i64 ((ivMul (ivDiv (hTame a b) (hTame c d)) (hTame c d)).hi), .bool ((ivMul (ivDiv (hTame a b) (hTame c d)) (hTame c d)).no)]]) (r := .bool (lawIvBacks_e1 a b c d)) (c_ivRight (ivMul (ivDiv (hTame a b) (hTame c d)) (hTame c d))) Try.func54 rfl (by decide) rfl rfl rfl ?_)
    refine ao 51 rfl rfl (st_un (u := .bool (lawIvBacks_e1 a b c d)) (v := .bool (!(lawIvBacks_e1 a b c d))) rfl rfl (un_not rfl) ?_)
    refine ao 52 rfl rfl (st_move (v := .bool (!(lawIvBacks_e1 a b c d))) rfl rfl ?_)
    refine bool_split (lawIvBacks_e1 a b c d) (fun h4 => ?_) (fun h4 => ?_)
    · refine ar_gd (d := (some 53)) (by show ((!(lawIvBacks_e1 a b c d)) == false) = true; rw [h4]; rfl) rfl (st_lda (g := g0) (off := 0) (vs := [.int .i64 ((hTame a b).lo), .int .i64 ((hTame a b).hi), .bool ((hTame a b).no)]) agg35 4 rfl rfl rfl rfl rfl rfl ?_)
      refine ar_gd (d := (some 54)) (by show ((!(lawIvBacks_e1 a b c d)) == false) = true; rw [h4]; rfl) rfl (st_lda (g := g4) (off := 0) (vs := [.int .i64 ((ivMul (ivDiv (hTame a b) (hTame c d)) (hTame c d)).lo), .int .i64 ((ivMul (ivDiv (hTame a b) (hTame c d)) (hTame c d)).hi), .bool ((ivMul (ivDiv (hTame a b) (hTame c d)) (hTame c d)).no)]) agg35 0 rfl rfl rfl rfl rfl rfl ?_)
      refine ar_gd (d := (some 55)) (by show ((!(lawIvBacks_e1 a b c d)) == false) = true; rw [h4]; rfl) rfl (st_cf (vs := [.agg #[.int .i64 ((hTame a b).lo), .int .i64 ((hTame a b).hi), .bool ((hTame a b).no)], .agg #[.int .i64 ((ivMul (ivDiv (hTame a b) (hTame c d)) (hTame c d)).lo), .int .i64 ((ivMul (ivDiv (hTame a b) (hTame c d)) (hTame c d)).hi), .bool ((ivMul (ivDiv (hTame a b) (hTame c d)) (hTame c d)).no)]]) (r := .bool (lawIvBacks_e2 a b c d)) (c_ivInside (hTame a b) (ivMul (ivDiv (hTame a b) (hTame c d)) (hTame c d))) Try.func55 rfl (by decide) rfl rfl rfl ?_)
      refine ao 56 rfl rfl (st_pkf' (b := !(lawIvBacks_e1 a b c d)) (v := .bool (lawIvBacks_e2 a b c d)) (by rw [h4]; rfl) rfl rfl rfl ?_)
      refine ao 8 rfl rfl (st_assign (v := .bool (lawIvBacks_e2 a b c d)) rfl rfl ?_)
      refine ar_nil ?_
      refine ac_ret ?_
      exact fin_eq (v := .bool (lawIvBacks_e2 a b c d)) (congrArg Value.bool (show (lawIvBacks_e2 a b c d) = true from (show (lawIvBacks a b c d) = _ from (eT h1 (eT h2 (eF h3 (eT h4 rfl))))).symm.trans H)) (fin_ret (res_tmp rfl rfl))
    · refine ar_sk (d := (some 53)) (by show ((!(lawIvBacks_e1 a b c d)) == false) = false; rw [h4]; rfl) rfl ?_
      refine ar_sk (d := (some 54)) (by show ((!(lawIvBacks_e1 a b c d)) == false) = false; rw [h4]; rfl) rfl ?_
      refine ar_sk (d := (some 55)) (by show ((!(lawIvBacks_e1 a b c d)) == false) = false; rw [h4]; rfl) rfl ?_
      refine ao 56 rfl rfl (st_pkt' (b := !(lawIvBacks_e1 a b c d)) (v := .bool true) (by rw [h4]; rfl) rfl rfl rfl ?_)
      refine ao 8 rfl rfl (st_assign (v := .bool true) rfl rfl ?_)
      refine ar_nil ?_
      refine ac_ret ?_
      exact fin_eq (by first | rfl | (rw [h4, h3, h2, h1] <;> rfl)) (fin_ret (res_tmp rfl rfl))
end Go.Proofs.Ytbaihncnbejjbaa
