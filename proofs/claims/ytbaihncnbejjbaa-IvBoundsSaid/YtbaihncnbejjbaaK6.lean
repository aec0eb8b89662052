import Derived.Test.YtbaihncnbejjbaaFacts3
import Derived.Test.YtbaihncnbejjbaaQuad
import Derived.Test.YtbaihncnbejjbaaPick
set_option linter.unusedVariables false
set_option linter.unusedSimpArgs false
namespace Go.Proofs.Ytbaihncnbejjbaa
open Go.RowKit

attribute [local irreducible] AC AR DWalk
def known6  : Bool := (bif ((quadNear (ivWhole 0) (ivWhole (-1)) (ivWhole (-6))).2) == 1 then decide (((quadNear (ivWhole 0) (ivWhole (-1)) (ivWhole (-6))).1) = (ivWhole (-3))) else false)
set_option maxRecDepth 100000 in
theorem c_known6  : Gets Try.prog 85 #[] ((fun (r : Bool) => (.bool r : Value)) known6) := by
  refine gets_fin Try.func85 rfl rfl rfl ?_
  refine ac_seq ?_
  refine ac_region_lit ?_
  refine ao 0 rfl rfl (st_assign (v := .bool false) rfl rfl ?_)
  refine ar_nil ?_
  refine ac_seq ?_
  refine ac_region_lit ?_
  refine ao 4 rfl rfl (st_cf (vs := [.int .i64 0]) (r := .agg #[.int .i64 ((ivWhole 0).lo), .int .i64 ((ivWhole 0).hi), .bool ((ivWhole 0).no)]) (c_ivWhole 0) Try.func50 rfl (by decide) rfl rfl rfl ?_)
  refine ao 5 rfl rfl (st_cf (vs := [.int .i64 (-1)]) (r := .agg #[.int .i64 ((ivWhole (-1)).lo), .int .i64 ((ivWhole (-1)).hi), .bool ((ivWhole (-1)).no)]) (c_ivWhole (-1)) Try.func50 rfl (by decide) rfl rfl rfl ?_)
  refine ao 6 rfl rfl (st_cf (vs := [.int .i64 (-6)]) (r := .agg #[.int .i64 ((ivWhole (-6)).lo), .int .i64 ((ivWhole (-6)).hi), .bool ((ivWhole (-6)).no)]) (c_ivWhole (-6)) Try.func50 rfl (by decide) rfl rfl rfl ?_)
  refine ao 7 rfl rfl (st_cf (vs := [.agg #[.int .i64 ((ivWhole 0).lo), .int .i64 ((ivWhole 0).hi), .bool ((ivWhole 0).no)], .agg #[.int .i64 ((ivWhole (-1)).lo), .int .i64 ((ivWhole (-1)).hi), .bool ((ivWhole (-1)).no)], .agg #[.int .i64 ((ivWhole (-6)).lo), .int .i64 ((ivWhole (-6)).hi), .bool ((ivWhole (-6)).no)]]) (r := .tuple #[.agg #[.int .i64 (((quadNear (ivWhole 0) (ivWhole (-1)) (ivWhole (-6))).1).lo), .int .i64 (((quadNear (ivWhole 0) (ivWhole (-1)) (ivWhole (-6))).1).hi), .bool (((quadNear (ivWhole 0) (ivWhole (-1)) (ivWhole (-6))).1).no)], .int .i64 ((quadNear (ivWhole 0) (ivWhole (-1)) (ivWhole (-6))).2)]) (c_quadNear (ivWhole 0) (ivWhole (-1)) (ivWhole (-6))) Try.func83 rfl (by decide) rfl rfl rfl ?_)
  refine ao 3 rfl rfl (st_move (v := .tuple #[.agg #[.int .i64 (((quadNear (ivWhole 0) (ivWhole (-1)) (ivWhole (-6))).1).lo), .int .i64 (((quadNear (ivWhole 0) (ivWhole (-1)) (ivWhole (-6))).1).hi), .bool (((quadNear (ivWhole 0) (ivWhole (-1)) (ivWhole (-6))).1).no)], .int .i64 ((quadNear (ivWhole 0) (ivWhole (-1)) (ivWhole (-6))).2)]) rfl rfl ?_)
  refine ao 8 rfl rfl (st_ex (vs := [.agg #[.int .i64 (((quadNear (ivWhole 0) (ivWhole (-1)) (ivWhole (-6))).1).lo), .int .i64 (((quadNear (ivWhole 0) (ivWhole (-1)) (ivWhole (-6))).1).hi), .bool (((quadNear (ivWhole 0) (ivWhole (-1)) (ivWhole (-6))).1).no)], .int .i64 ((quadNear (ivWhole 0) (ivWhole (-1)) (ivWhole (-6))).2)]) (v := .agg #[.int .i64 (((quadNear (ivWhole 0) (ivWhole (-1)) (ivWhole (-6))).1).lo), .int .i64 (((quadNear (ivWhole 0) (ivWhole (-1)) (ivWhole (-6))).1).hi), .bool (((quadNear (ivWhole 0) (ivWhole (-1)) (ivWhole (-6))).1).no)]) rfl rfl rfl ?_)
  refine ao 9 rfl rfl (st_ex (vs := [.agg #[.int .i64 (((quadNear (ivWhole 0) (ivWhole (-1)) (ivWhole (-6))).1).lo), .int .i64 (((quadNear (ivWhole 0) (ivWhole (-1)) (ivWhole (-6))).1).hi), .bool (((quadNear (ivWhole 0) (ivWhole (-1)) (ivWhole (-6))).1).no)], .int .i64 ((quadNear (ivWhole 0) (ivWhole (-1)) (ivWhole (-6))).2)]) (v := .int .i64 ((quadNear (ivWhole 0) (ivWhole (-1)) (ivWhole (-6))).2)) rfl rfl rfl ?_)
  refine ao 1 rfl rfl (st_new zero35 rfl fun g0 => ?_)
  refine ar_op (d := none) rfl rfl (st_sta (g := g0) (off := 0) (us := [.int .i64 (((quadNear (ivWhole 0) (ivWhole (-1)) (ivWhole (-6))).1).lo), .int .i64 (((quadNear (ivWhole 0) (ivWhole (-1)) (ivWhole (-6))).1).hi), .bool (((quadNear (ivWhole 0) (ivWhole (-1)) (ivWhole (-6))).1).no)]) (cs := [.int .i64 (((quadNear (ivWhole 0) (ivWhole (-1)) (ivWhole (-6))).1).lo), .int .i64 (((quadNear (ivWhole 0) (ivWhole (-1)) (ivWhole (-6))).1).hi), .bool (((quadNear (ivWhole 0) (ivWhole (-1)) (ivWhole (-6))).1).no)]) agg35 0 rfl rfl rfl rfl rfl rfl rfl rfl rfl ?_)
  refine ao 2 rfl rfl (st_assign (v := .int .i64 ((quadNear (ivWhole 0) (ivWhole (-1)) (ivWhole (-6))).2)) rfl rfl ?_)
  refine ar_nil ?_
  refine ac_seq ?_
  refine ac_draw0 (id := 2) [0, 1, 2, 3, 4, 5, 6, 7] [] _ (by kernel_rfl) follows rfl  ?_
  refine dw_op (d := (some 10)) (.int .i64 ((quadNear (ivWhole 0) (ivWhole (-1)) (ivWhole (-6))).2)) rfl rfl rfl (st_move (v := .int .i64 ((quadNear (ivWhole 0) (ivWhole (-1)) (ivWhole (-6))).2)) rfl rfl ⟨rfl, rfl⟩) ?_
  refine dw_op (d := (some 11)) (.bool (((quadNear (ivWhole 0) (ivWhole (-1)) (ivWhole (-6))).2) == 1)) rfl rfl rfl (st_bi (u := .int .i64 ((quadNear (ivWhole 0) (ivWhole (-1)) (ivWhole (-6))).2)) (v := .int .i64 1) (r := .bool (((quadNear (ivWhole 0) (ivWhole (-1)) (ivWhole (-6))).2) == 1)) rfl rfl rfl (bi_eql rfl) ⟨rfl, rfl⟩) ?_
  refine dw_op (d := (some 12)) (.bool (((quadNear (ivWhole 0) (ivWhole (-1)) (ivWhole (-6))).2) == 1)) rfl rfl rfl (st_move (v := .bool (((quadNear (ivWhole 0) (ivWhole (-1)) (ivWhole (-6))).2) == 1)) rfl rfl ⟨rfl, rfl⟩) ?_
  refine bool_split (((quadNear (ivWhole 0) (ivWhole (-1)) (ivWhole (-6))).2) == 1) (fun h1 => ?_) (fun h1 => ?_)
  · refine dw_gd (d := (some 13)) (.agg #[.int .i64 (((quadNear (ivWhole 0) (ivWhole (-1)) (ivWhole (-6))).1).lo), .int .i64 (((quadNear (ivWhole 0) (ivWhole (-1)) (ivWhole (-6))).1).hi), .bool (((quadNear (ivWhole 0) (ivWhole (-1)) (ivWhole (-6))).1).no)]) rfl (by show ((((quadNear (ivWhole 0) (ivWhole (-1)) (ivWhole (-6))).2) == 1) == true) = true; rw [h1]; rfl) rfl (st_lda (g := g0) (off := 0) (vs := [.int .i64 (((quadNear (ivWhole 0) (ivWhole (-1)) (ivWhole (-6))).1).lo), .int .i64 (((quadNear (ivWhole 0) (ivWhole (-1)) (ivWhole (-6))).1).hi), .bool (((quadNear (ivWhole 0) (ivWhole (-1)) (ivWhole (-6))).1).no)]) agg35 0 rfl rfl rfl rfl rfl rfl ⟨rfl, rfl⟩) ?_
    refine dw_gd (d := (some 14)) (.agg #[.int .i64 ((ivWhole (-3)).lo), .int .i64 ((ivWhole (-3)).hi), .bool ((ivWhole (-3)).no)]) rfl (by show ((((quadNear (ivWhole 0) (ivWhole (-1)) (ivWhole (-6))).2) == 1) == true) = true; rw [h1]; rfl) rfl (st_cf (vs := [.int .i64 (-3)]) (r := .agg #[.int .i64 ((ivWhole (-3)).lo), .int .i64 ((ivWhole (-3)).hi), .bool ((ivWhole (-3)).no)]) (c_ivWhole (-3)) Try.func50 rfl (by decide) rfl rfl rfl ⟨rfl, rfl⟩) ?_
    refine dw_gd (d := (some 15)) (.bool (decide (((quadNear (ivWhole 0) (ivWhole (-1)) (ivWhole (-6))).1) = (ivWhole (-3))))) rfl (by show ((((quadNear (ivWhole 0) (ivWhole (-1)) (ivWhole (-6))).2) == 1) == true) = true; rw [h1]; rfl) rfl (st_bi (u := .agg #[.int .i64 (((quadNear (ivWhole 0) (ivWhole (-1)) (ivWhole (-6))).1).lo), .int .i64 (((quadNear (ivWhole 0) (ivWhole (-1)) (ivWhole (-6))).1).hi), .bool (((quadNear (ivWhole 0) (ivWhole (-1)) (ivWhole (-6))).1).no)]) (v := .agg #[.int .i64 ((ivWhole (-3)).lo), .int .i64 ((ivWhole (-3)).hi), .bool ((ivWhole (-3)).no)]) (r := .bool (decide (((quadNear (ivWhole 0) (ivWhole (-1)) (ivWhole (-6))).1) = (ivWhole (-3))))) rfl rfl rfl (beql_35 ((quadNear (ivWhole 0) (ivWhole (-1)) (ivWhole (-6))).1) (ivWhole (-3)) rfl) ⟨rfl, rfl⟩) ?_
    refine dw_op (d := (some 16)) (.bool (decide (((quadNear (ivWhole 0) (ivWhole (-1)) (ivWhole (-6))).1) = (ivWhole (-3))))) rfl rfl rfl (st_pkt' (b := ((quadNear (ivWhole 0) (ivWhole (-1)) (ivWhole (-6))).2) == 1) (v := .bool (decide (((quadNear (ivWhole 0) (ivWhole (-1)) (ivWhole (-6))).1) = (ivWhole (-3))))) h1 rfl rfl rfl ⟨rfl, rfl⟩) ?_
    refine dw_op (d := (some 0)) (.bool (decide (((quadNear (ivWhole 0) (ivWhole (-1)) (ivWhole (-6))).1) = (ivWhole (-3))))) rfl rfl rfl (st_assign (v := .bool (decide (((quadNear (ivWhole 0) (ivWhole (-1)) (ivWhole (-6))).1) = (ivWhole (-3))))) rfl rfl ⟨rfl, rfl⟩) ?_
    refine dw_nil ?_
    refine ar_nil ?_
    refine ac_ret ?_
    exact fin_eq (v := .bool (decide (((quadNear (ivWhole 0) (ivWhole (-1)) (ivWhole (-6))).1) = (ivWhole (-3))))) (by show _ = (fun (r : Bool) => (.bool r : Value)) known6; rw [known6, h1] <;> rfl) (fin_ret (res_tmp rfl rfl))
  · refine dw_sk (d := (some 13)) rfl (by show ((((quadNear (ivWhole 0) (ivWhole (-1)) (ivWhole (-6))).2) == 1) == true) = false; rw [h1]; rfl) rfl ?_
    refine dw_sk (d := (some 14)) rfl (by show ((((quadNear (ivWhole 0) (ivWhole (-1)) (ivWhole (-6))).2) == 1) == true) = false; rw [h1]; rfl) rfl ?_
    refine dw_sk (d := (some 15)) rfl (by show ((((quadNear (ivWhole 0) (ivWhole (-1)) (ivWhole (-6))).2) == 1) == true) = false; rw [h1]; rfl) rfl ?_
    refine dw_op (d := (some 16)) (.bool false) rfl rfl rfl (st_pkf' (b := ((quadNear (ivWhole 0) (ivWhole (-1)) (ivWhole (-6))).2) == 1) (v := .bool false) h1 rfl rfl rfl ⟨rfl, rfl⟩) ?_
    refine dw_op (d := (some 0)) (.bool false) rfl rfl rfl (st_assign (v := .bool false) rfl rfl ⟨rfl, rfl⟩) ?_
    refine dw_nil ?_
    refine ar_nil ?_
    refine ac_ret ?_
    exact fin_eq (v := .bool false) (by show _ = (fun (r : Bool) => (.bool r : Value)) known6; rw [known6, h1] <;> rfl) (fin_ret (res_tmp rfl rfl))
end Go.Proofs.Ytbaihncnbejjbaa
