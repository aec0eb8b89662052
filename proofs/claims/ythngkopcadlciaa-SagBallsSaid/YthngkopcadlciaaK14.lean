import Derived.Test.YthngkopcadlciaaSag
import Derived.Test.YthngkopcadlciaaPick
set_option linter.unusedVariables false
set_option linter.unusedSimpArgs false
namespace Go.Proofs.Ythngkopcadlciaa
open Go.RowKit

attribute [local irreducible] AC AR DWalk
def flat14  : Surf := (⟨false, false, (ivPoint 0), (ivWhole 1), (ivPoint 0), (ivPoint 0), (ivPoint 0), (ivWhole 100), (ivWhole 1)⟩ : Surf)
set_option maxRecDepth 100000 in
theorem c_flat14  : Gets Try.prog 32 #[] (Surf.v flat14) := by
  refine gets_fin Try.func32 rfl rfl rfl ?_
  refine ac_seq ?_
  refine ac_region_lit ?_
  refine ao 0 rfl rfl (st_new zero41 rfl fun g0 => ?_)
  refine ar_nil ?_
  refine ac_seq ?_
  refine ac_region_lit ?_
  refine ao 1 rfl rfl (st_cf (vs := [.int .i64 0]) (r := .agg #[.int .i64 ((ivPoint 0).lo), .int .i64 ((ivPoint 0).hi), .bool ((ivPoint 0).no)]) (c_ivPoint 0) Try.func29 rfl (by decide) rfl rfl rfl ?_)
  refine ao 2 rfl rfl (st_cf (vs := [.int .i64 1]) (r := .agg #[.int .i64 ((ivWhole 1).lo), .int .i64 ((ivWhole 1).hi), .bool ((ivWhole 1).no)]) (c_ivWhole 1) Try.func21 rfl (by decide) rfl rfl rfl ?_)
  refine ao 3 rfl rfl (st_cf (vs := [.int .i64 0]) (r := .agg #[.int .i64 ((ivPoint 0).lo), .int .i64 ((ivPoint 0).hi), .bool ((ivPoint 0).no)]) (c_ivPoint 0) Try.func29 rfl (by decide) rfl rfl rfl ?_)
  refine ao 4 rfl rfl (st_cf (vs := [.int .i64 0]) (r := .agg #[.int .i64 ((ivPoint 0).lo), .int .i64 ((ivPoint 0).hi), .bool ((ivPoint 0).no)]) (c_ivPoint 0) Try.func29 rfl (by decide) rfl rfl rfl ?_)
  refine ao 5 rfl rfl (st_cf (vs := [.int .i64 0]) (r := .agg #[.int .i64 ((ivPoint 0).lo), .int .i64 ((ivPoint 0).hi), .bool ((ivPoint 0).no)]) (c_ivPoint 0) Try.func29 rfl (by decide) rfl rfl rfl ?_)
  refine ao 6 rfl rfl (st_cf (vs := [.int .i64 100]) (r := .agg #[.int .i64 ((ivWhole 100).lo), .int .i64 ((ivWhole 100).hi), .bool ((ivWhole 100).no)]) (c_ivWhole 100) Try.func21 rfl (by decide) rfl rfl rfl ?_)
  refine ao 7 rfl rfl (st_cf (vs := [.int .i64 1]) (r := .agg #[.int .i64 ((ivWhole 1).lo), .int .i64 ((ivWhole 1).hi), .bool ((ivWhole 1).no)]) (c_ivWhole 1) Try.func21 rfl (by decide) rfl rfl rfl ?_)
  refine ao 8 rfl rfl (st_bd (us := [(2, .agg #[.int .i64 ((ivPoint 0).lo), .int .i64 ((ivPoint 0).hi), .bool ((ivPoint 0).no)]), (3, .agg #[.int .i64 ((ivWhole 1).lo), .int .i64 ((ivWhole 1).hi), .bool ((ivWhole 1).no)]), (4, .agg #[.int .i64 ((ivPoint 0).lo), .int .i64 ((ivPoint 0).hi), .bool ((ivPoint 0).no)]), (5, .agg #[.int .i64 ((ivPoint 0).lo), .int .i64 ((ivPoint 0).hi), .bool ((ivPoint 0).no)]), (6, .agg #[.int .i64 ((ivPoint 0).lo), .int .i64 ((ivPoint 0).hi), .bool ((ivPoint 0).no)]), (7, .agg #[.int .i64 ((ivWhole 100).lo), .int .i64 ((ivWhole 100).hi), .bool ((ivWhole 100).no)]), (8, .agg #[.int .i64 ((ivWhole 1).lo), .int .i64 ((ivWhole 1).hi), .bool ((ivWhole 1).no)])]) (v := .agg #[.bool false, .bool false, .int .i64 ((ivPoint 0).lo), .int .i64 ((ivPoint 0).hi), .bool ((ivPoint 0).no), .int .i64 ((ivWhole 1).lo), .int .i64 ((ivWhole 1).hi), .bool ((ivWhole 1).no), .int .i64 ((ivPoint 0).lo), .int .i64 ((ivPoint 0).hi), .bool ((ivPoint 0).no), .int .i64 ((ivPoint 0).lo), .int .i64 ((ivPoint 0).hi), .bool ((ivPoint 0).no), .int .i64 ((ivPoint 0).lo), .int .i64 ((ivPoint 0).hi), .bool ((ivPoint 0).no), .int .i64 ((ivWhole 100).lo), .int .i64 ((ivWhole 100).hi), .bool ((ivWhole 100).no), .int .i64 ((ivWhole 1).lo), .int .i64 ((ivWhole 1).hi), .bool ((ivWhole 1).no)]) rfl rfl (bd41_2a_3a_4a_5a_6a_7a_8a _ _ _ _ _ _ _ _ _ _ _ _ _ _ _ _ _ _ _ _ _) ?_)
  refine ar_op (d := none) rfl rfl (st_sta (g := g0) (off := 0) (us := [.bool false, .bool false, .int .i64 ((ivPoint 0).lo), .int .i64 ((ivPoint 0).hi), .bool ((ivPoint 0).no), .int .i64 ((ivWhole 1).lo), .int .i64 ((ivWhole 1).hi), .bool ((ivWhole 1).no), .int .i64 ((ivPoint 0).lo), .int .i64 ((ivPoint 0).hi), .bool ((ivPoint 0).no), .int .i64 ((ivPoint 0).lo), .int .i64 ((ivPoint 0).hi), .bool ((ivPoint 0).no), .int .i64 ((ivPoint 0).lo), .int .i64 ((ivPoint 0).hi), .bool ((ivPoint 0).no), .int .i64 ((ivWhole 100).lo), .int .i64 ((ivWhole 100).hi), .bool ((ivWhole 100).no), .int .i64 ((ivWhole 1).lo), .int .i64 ((ivWhole 1).hi), .bool ((ivWhole 1).no)]) (cs := [.bool false, .bool false, .int .i64 ((ivPoint 0).lo), .int .i64 ((ivPoint 0).hi), .bool ((ivPoint 0).no), .int .i64 ((ivWhole 1).lo), .int .i64 ((ivWhole 1).hi), .bool ((ivWhole 1).no), .int .i64 ((ivPoint 0).lo), .int .i64 ((ivPoint 0).hi), .bool ((ivPoint 0).no), .int .i64 ((ivPoint 0).lo), .int .i64 ((ivPoint 0).hi), .bool ((ivPoint 0).no), .int .i64 ((ivPoint 0).lo), .int .i64 ((ivPoint 0).hi), .bool ((ivPoint 0).no), .int .i64 ((ivWhole 100).lo), .int .i64 ((ivWhole 100).hi), .bool ((ivWhole 100).no), .int .i64 ((ivWhole 1).lo), .int .i64 ((ivWhole 1).hi), .bool ((ivWhole 1).no)]) agg41 0 rfl rfl rfl rfl rfl rfl rfl rfl rfl ?_)
  refine ar_nil ?_
  refine ac_ret ?_
  exact fin_eq (v := .agg #[.bool false, .bool false, .int .i64 ((ivPoint 0).lo), .int .i64 ((ivPoint 0).hi), .bool ((ivPoint 0).no), .int .i64 ((ivWhole 1).lo), .int .i64 ((ivWhole 1).hi), .bool ((ivWhole 1).no), .int .i64 ((ivPoint 0).lo), .int .i64 ((ivPoint 0).hi), .bool ((ivPoint 0).no), .int .i64 ((ivPoint 0).lo), .int .i64 ((ivPoint 0).hi), .bool ((ivPoint 0).no), .int .i64 ((ivPoint 0).lo), .int .i64 ((ivPoint 0).hi), .bool ((ivPoint 0).no), .int .i64 ((ivWhole 100).lo), .int .i64 ((ivWhole 100).hi), .bool ((ivWhole 100).no), .int .i64 ((ivWhole 1).lo), .int .i64 ((ivWhole 1).hi), .bool ((ivWhole 1).no)]) rfl (fin_ret (res_c (vs := [.bool false, .bool false, .int .i64 ((ivPoint 0).lo), .int .i64 ((ivPoint 0).hi), .bool ((ivPoint 0).no), .int .i64 ((ivWhole 1).lo), .int .i64 ((ivWhole 1).hi), .bool ((ivWhole 1).no), .int .i64 ((ivPoint 0).lo), .int .i64 ((ivPoint 0).hi), .bool ((ivPoint 0).no), .int .i64 ((ivPoint 0).lo), .int .i64 ((ivPoint 0).hi), .bool ((ivPoint 0).no), .int .i64 ((ivPoint 0).lo), .int .i64 ((ivPoint 0).hi), .bool ((ivPoint 0).no), .int .i64 ((ivWhole 100).lo), .int .i64 ((ivWhole 100).hi), .bool ((ivWhole 100).no), .int .i64 ((ivWhole 1).lo), .int .i64 ((ivWhole 1).hi), .bool ((ivWhole 1).no)]) agg41 0 rfl rfl rfl rfl rfl rfl))
def known14  : Bool := (bif decide (((sagOf flat14 (ivWhole 9)).1) = (ivPoint 0)) then (bif decide (((sagOf flat14 (ivWhole 9)).2) = (ivPoint 0)) then ivRight ((sagOf flat14 (ivWhole 9)).1) else false) else false)
set_option maxRecDepth 100000 in
theorem c_known14  : Gets Try.prog 35 #[] ((fun (r : Bool) => (.bool r : Value)) known14) := by
  refine gets_fin Try.func35 rfl rfl rfl ?_
  refine ac_seq ?_
  refine ac_region_lit ?_
  refine ao 0 rfl rfl (st_assign (v := .bool false) rfl rfl ?_)
  refine ar_nil ?_
  refine ac_seq ?_
  refine ac_region_lit ?_
  refine ao 4 rfl rfl (st_cf (vs := []) (r := .agg #[.bool flat14.stop, .bool flat14.bent, .int .i64 flat14.curve.lo, .int .i64 flat14.curve.hi, .bool flat14.curve.no, .int .i64 flat14.conic.lo, .int .i64 flat14.conic.hi, .bool flat14.conic.no, .int .i64 flat14.a4.lo, .int .i64 flat14.a4.hi, .bool flat14.a4.no, .int .i64 flat14.a6.lo, .int .i64 flat14.a6.hi, .bool flat14.a6.no, .int .i64 flat14.at_.lo, .int .i64 flat14.at_.hi, .bool flat14.at_.no, .int .i64 flat14.open2.lo, .int .i64 flat14.open2.hi, .bool flat14.open2.no, .int .i64 flat14.ratio.lo, .int .i64 flat14.ratio.hi, .bool flat14.ratio.no]) c_flat14 Try.func32 rfl (by decide) rfl rfl rfl ?_)
  refine ao 5 rfl rfl (st_cf (vs := [.int .i64 9]) (r := .agg #[.int .i64 ((ivWhole 9).lo), .int .i64 ((ivWhole 9).hi), .bool ((ivWhole 9).no)]) (c_ivWhole 9) Try.func21 rfl (by decide) rfl rfl rfl ?_)
  refine ao 6 rfl rfl (st_cf (vs := [.agg #[.bool flat14.stop, .bool flat14.bent, .int .i64 flat14.curve.lo, .int .i64 flat14.curve.hi, .bool flat14.curve.no, .int .i64 flat14.conic.lo, .int .i64 flat14.conic.hi, .bool flat14.conic.no, .int .i64 flat14.a4.lo, .int .i64 flat14.a4.hi, .bool flat14.a4.no, .int .i64 flat14.a6.lo, .int .i64 flat14.a6.hi, .bool flat14.a6.no, .int .i64 flat14.at_.lo, .int .i64 flat14.at_.hi, .bool flat14.at_.no, .int .i64 flat14.open2.lo, .int .i64 flat14.open2.hi, .bool flat14.open2.no, .int .i64 flat14.ratio.lo, .int .i64 flat14.ratio.hi, .bool flat14.ratio.no], .agg #[.int .i64 ((ivWhole 9).lo), .int .i64 ((ivWhole 9).hi), .bool ((ivWhole 9).no)]]) (r := .tuple #[.agg #[.int .i64 (((sagOf flat14 (ivWhole 9)).1).lo), .int .i64 (((sagOf flat14 (ivWhole 9)).1).hi), .bool (((sagOf flat14 (ivWhole 9)).1).no)], .agg #[.int .i64 (((sagOf flat14 (ivWhole 9)).2).lo), .int .i64 (((sagOf flat14 (ivWhole 9)).2).hi), .bool (((sagOf flat14 (ivWhole 9)).2).no)]]) (c_sagOf flat14 (ivWhole 9)) Try.func34 rfl (by decide) rfl rfl rfl ?_)
  refine ao 3 rfl rfl (st_move (v := .tuple #[.agg #[.int .i64 (((sagOf flat14 (ivWhole 9)).1).lo), .int .i64 (((sagOf flat14 (ivWhole 9)).1).hi), .bool (((sagOf flat14 (ivWhole 9)).1).no)], .agg #[.int .i64 (((sagOf flat14 (ivWhole 9)).2).lo), .int .i64 (((sagOf flat14 (ivWhole 9)).2).hi), .bool (((sagOf flat14 (ivWhole 9)).2).no)]]) rfl rfl ?_)
  refine ao 7 rfl rfl (st_ex (vs := [.agg #[.int .i64 (((sagOf flat14 (ivWhole 9)).1).lo), .int .i64 (((sagOf flat14 (ivWhole 9)).1).hi), .bool (((sagOf flat14 (ivWhole 9)).1).no)], .agg #[.int .i64 (((sagOf flat14 (ivWhole 9)).2).lo), .int .i64 (((sagOf flat14 (ivWhole 9)).2).hi), .bool (((sagOf flat14 (ivWhole 9)).2).no)]]) (v := .agg #[.int .i64 (((sagOf flat14 (ivWhole 9)).1).lo), .int .i64 (((sagOf flat14 (ivWhole 9)).1).hi), .bool (((sagOf flat14 (ivWhole 9)).1).no)]) rfl rfl rfl ?_)
  refine ao 8 rfl rfl (st_ex (vs := [.agg #[.int .i64 (((sagOf flat14 (ivWhole 9)).1).lo), .int .i64 (((sagOf flat14 (ivWhole 9)).1).hi), .bool (((sagOf flat14 (ivWhole 9)).1).no)], .agg #[.int .i64 (((sagOf flat14 (ivWhole 9)).2).lo), .int .i64 (((sagOf flat14 (ivWhole 9)).2).hi), .bool (((sagOf flat14 (ivWhole 9)).2).no)]]) (v := .agg #[.int .i64 (((sagOf flat14 (ivWhole 9)).2).lo), .int .i64 (((sagOf flat14 (ivWhole 9)).2).hi), .bool (((sagOf flat14 (ivWhole 9)).2).no)]) rfl rfl rfl ?_)
  refine ao 1 rfl rfl (st_new zero26 rfl fun g0 => ?_)
  refine ao 2 rfl rfl (st_new zero26 rfl fun g1 => ?_)
  refine ar_op (d := none) rfl rfl (st_sta (g := g0) (off := 0) (us := [.int .i64 (((sagOf flat14 (ivWhole 9)).1).lo), .int .i64 (((sagOf flat14 (ivWhole 9)).1).hi), .bool (((sagOf flat14 (ivWhole 9)).1).no)]) (cs := [.int .i64 (((sagOf flat14 (ivWhole 9)).1).lo), .int .i64 (((sagOf flat14 (ivWhole 9)).1).hi), .bool (((sagOf flat14 (ivWhole 9)).1).no)]) agg26 1 rfl rfl rfl rfl rfl rfl rfl rfl rfl ?_)
  refine ar_op (d := none) rfl rfl (st_sta (g := g1) (off := 0) (us := [.int .i64 (((sagOf flat14 (ivWhole 9)).2).lo), .int .i64 (((sagOf flat14 (ivWhole 9)).2).hi), .bool (((sagOf flat14 (ivWhole 9)).2).no)]) (cs := [.int .i64 (((sagOf flat14 (ivWhole 9)).2).lo), .int .i64 (((sagOf flat14 (ivWhole 9)).2).hi), .bool (((sagOf flat14 (ivWhole 9)).2).no)]) agg26 0 rfl rfl rfl rfl rfl rfl rfl rfl rfl ?_)
  refine ar_nil ?_
  refine ac_seq ?_
  refine ac_draw0 (id := 2) [0, 1, 2, 3, 4, 5, 6, 7, 8, 9, 10, 11, 12] [] _ (by kernel_rfl) follows rfl  ?_
  refine dw_op (d := (some 9)) (.agg #[.int .i64 (((sagOf flat14 (ivWhole 9)).1).lo), .int .i64 (((sagOf flat14 (ivWhole 9)).1).hi), .bool (((sagOf flat14 (ivWhole 9)).1).no)]) rfl rfl rfl (st_lda (g := g0) (off := 0) (vs := [.int .i64 (((sagOf flat14 (ivWhole 9)).1).lo), .int .i64 (((sagOf flat14 (ivWhole 9)).1).hi), .bool (((sagOf flat14 (ivWhole 9)).1).no)]) agg26 1 rfl rfl rfl rfl rfl rfl ⟨rfl, rfl⟩) ?_
  refine dw_op (d := (some 10)) (.agg #[.int .i64 ((ivPoint 0).lo), .int .i64 ((ivPoint 0).hi), .bool ((ivPoint 0).no)]) rfl rfl rfl (st_cf (vs := [.int .i64 0]) (r := .agg #[.int .i64 ((ivPoint 0).lo), .int .i64 ((ivPoint 0).hi), .bool ((ivPoint 0).no)]) (c_ivPoint 0) Try.func29 rfl (by decide) rfl rfl rfl ⟨rfl, rfl⟩) ?_
  refine dw_op (d := (some 11)) (.bool (decide (((sagOf flat14 (ivWhole 9)).1) = (ivPoint 0)))) rfl rfl rfl (st_bi (u := .agg #[.int .i64 (((sagOf flat14 (ivWhole 9)).1).lo), .int .i64 (((sagOf flat14 (ivWhole 9)).1).hi), .bool (((sagOf flat14 (ivWhole 9)).1).no)]) (v := .agg #[.int .i64 ((ivPoint 0).lo), .int .i64 ((ivPoint 0).hi), .bool ((ivPoint 0).no)]) (r := .bool (decide (((sagOf flat14 (ivWhole 9)).1) = (ivPoint 0)))) rfl rfl rfl (beql_26 ((sagOf flat14 (ivWhole 9)).1) (ivPoint 0) rfl) ⟨rfl, rfl⟩) ?_
  refine dw_op (d := (some 12)) (.bool (decide (((sagOf flat14 (ivWhole 9)).1) = (ivPoint 0)))) rfl rfl rfl (st_move (v := .bool (decide (((sagOf flat14 (ivWhole 9)).1) = (ivPoint 0)))) rfl rfl ⟨rfl, rfl⟩) ?_
  refine bool_split (decide (((sagOf flat14 (ivWhole 9)).1) = (ivPoint 0))) (fun h1 => ?_) (fun h1 => ?_)
  · refine dw_gd (d := (some 13)) (.agg #[.int .i64 (((sagOf flat14 (ivWhole 9)).2).lo), .int .i64 (((sagOf flat14 (ivWhole 9)).2).hi), .bool (((sagOf flat14 (ivWhole 9)).2).no)]) rfl (by show ((decide (((sagOf flat14 (ivWhole 9)).1) = (ivPoint 0))) == true) = true; rw [h1]; rfl) rfl (st_lda (g := g1) (off := 0) (vs := [.int .i64 (((sagOf flat14 (ivWhole 9)).2).lo), .int .i64 (((sagOf flat14 (ivWhole 9)).2).hi), .bool (((sagOf flat14 (ivWhole 9)).2).no)]) agg26 0 rfl rfl rfl rfl rfl rfl ⟨rfl, rfl⟩) ?_
    refine dw_gd (d := (some 14)) (.agg #[.int .i64 ((ivPoint 0).lo), .int .i64 ((ivPoint 0).hi), .bool ((ivPoint 0).no)]) rfl (by show ((decide (((sagOf flat14 (ivWhole 9)).1) = (ivPoint 0))) == true) = true; rw [h1]; rfl) rfl (st_cf (vs := [.int .i64 0]) (r := .agg #[.int .i64 ((ivPoint 0).lo), .int .i64 ((ivPoint 0).hi), .bool ((ivPoint 0).no)]) (c_ivPoint 0) Try.func29 rfl (by decide) rfl rfl rfl ⟨rfl, rfl⟩) ?_
    refine dw_gd (d := (some 15)) (.bool (decide (((sagOf flat14 (ivWhole 9)).2) = (ivPoint 0)))) rfl (by show ((decide (((sagOf flat14 (ivWhole 9)).1) = (ivPoint 0))) == true) = true; rw [h1]; rfl) rfl (st_bi (u := .agg #[.int .i64 (((sagOf flat14 (ivWhole 9)).2).lo), .int .i64 (((sagOf flat14 (ivWhole 9)).2).hi), .bool (((sagOf flat14 (ivWhole 9)).2).no)]) (v := .agg #[.int .i64 ((ivPoint 0).lo), .int .i64 ((ivPoint 0).hi), .bool ((ivPoint 0).no)]) (r := .bool (decide (((sagOf flat14 (ivWhole 9)).2) = (ivPoint 0)))) rfl rfl rfl (beql_26 ((sagOf flat14 (ivWhole 9)).2) (ivPoint 0) rfl) ⟨rfl, rfl⟩) ?_
    refine dw_op (d := (some 16)) (.bool (decide (((sagOf flat14 (ivWhole 9)).2) = (ivPoint 0)))) rfl rfl rfl (st_pkt' (b := decide (((sagOf flat14 (ivWhole 9)).1) = (ivPoint 0))) (v := .bool (decide (((sagOf flat14 (ivWhole 9)).2) = (ivPoint 0)))) h1 rfl rfl rfl ⟨rfl, rfl⟩) ?_
    refine dw_op (d := (some 17)) (.bool (decide (((sagOf flat14 (ivWhole 9)).2) = (ivPoint 0)))) rfl rfl rfl (st_move (v := .bool (decide (((sagOf flat14 (ivWhole 9)).2) = (ivPoint 0)))) rfl rfl ⟨rfl, rfl⟩) ?_
    refine bool_split (decide (((sagOf flat14 (ivWhole 9)).2) = (ivPoint 0))) (fun h2 => ?_) (fun h2 => ?_)
    · refine dw_gd (d := (some 18)) (.agg #[.int .i64 (((sagOf flat14 (ivWhole 9)).1).lo), .int .i64 (((sagOf flat14 (ivWhole 9)).1).hi), .bool (((sagOf flat14 (ivWhole 9)).1).no)]) rfl (by show ((decide (((sagOf flat14 (ivWhole 9)).2) = (ivPoint 0))) == true) = true; rw [h2]; rfl) rfl (st_lda (g := g0) (off := 0) (vs := [.int .i64 (((sagOf flat14 (ivWhole 9)).1).lo), .int .i64 (((sagOf flat14 (ivWhole 9)).1).hi), .bool (((sagOf flat14 (ivWhole 9)).1).no)]) agg26 1 rfl rfl rfl rfl rfl rfl ⟨rfl, rfl⟩) ?_
      refine dw_gd (d := (some 19)) (.bool (ivRight ((sagOf flat14 (ivWhole 9)).1))) rfl (by show ((decide (((sagOf flat14 (ivWhole 9)).2) = (ivPoint 0))) == true) = true; rw [h2]; rfl) rfl (st_cf (vs := [.agg #[.int .i64 (((sagOf flat14 (ivWhole 9)).1).lo), .int .i64 (((sagOf flat14 (ivWhole 9)).1).hi), .bool (((sagOf flat14 (ivWhole 9)).1).no)]]) (r := .bool (ivRight ((sagOf flat14 (ivWhole 9)).1))) (c_ivRight ((sagOf flat14 (ivWhole 9)).1)) Try.func25 rfl (by decide) rfl rfl rfl ⟨rfl, rfl⟩) ?_
      refine dw_op (d := (some 20)) (.bool (ivRight ((sagOf flat14 (ivWhole 9)).1))) rfl rfl rfl (st_pkt' (b := decide (((sagOf flat14 (ivWhole 9)).2) = (ivPoint 0))) (v := .bool (ivRight ((sagOf flat14 (ivWhole 9)).1))) h2 rfl rfl rfl ⟨rfl, rfl⟩) ?_
      refine dw_op (d := (some 0)) (.bool (ivRight ((sagOf flat14 (ivWhole 9)).1))) rfl rfl rfl (st_assign (v := .bool (ivRight ((sagOf flat14 (ivWhole 9)).1))) rfl rfl ⟨rfl, rfl⟩) ?_
      refine dw_nil ?_
      refine ar_nil ?_
      refine ac_ret ?_
      exact fin_eq (v := .bool (ivRight ((sagOf flat14 (ivWhole 9)).1))) (by show _ = (fun (r : Bool) => (.bool r : Value)) known14; rw [known14, h2, h1] <;> rfl) (fin_ret (res_tmp rfl rfl))
    · refine dw_sk (d := (some 18)) rfl (by show ((decide (((sagOf flat14 (ivWhole 9)).2) = (ivPoint 0))) == true) = false; rw [h2]; rfl) rfl ?_
      refine dw_sk (d := (some 19)) rfl (by show ((decide (((sagOf flat14 (ivWhole 9)).2) = (ivPoint 0))) == true) = false; rw [h2]; rfl) rfl ?_
      refine dw_op (d := (some 20)) (.bool false) rfl rfl rfl (st_pkf' (b := decide (((sagOf flat14 (ivWhole 9)).2) = (ivPoint 0))) (v := .bool false) h2 rfl rfl rfl ⟨rfl, rfl⟩) ?_
      refine dw_op (d := (some 0)) (.bool false) rfl rfl rfl (st_assign (v := .bool false) rfl rfl ⟨rfl, rfl⟩) ?_
      refine dw_nil ?_
      refine ar_nil ?_
      refine ac_ret ?_
      exact fin_eq (v := .bool false) (by show _ = (fun (r : Bool) => (.bool r : Value)) known14; rw [known14, h2, h1] <;> rfl) (fin_ret (res_tmp rfl rfl))
  · refine dw_sk (d := (some 13)) rfl (by show ((decide (((sagOf flat14 (ivWhole 9)).1) = (ivPoint 0))) == true) = false; rw [h1]; rfl) rfl ?_
    refine dw_sk (d := (some 14)) rfl (by show ((decide (((sagOf flat14 (ivWhole 9)).1) = (ivPoint 0))) == true) = false; rw [h1]; rfl) rfl ?_
    refine dw_sk (d := (some 15)) rfl (by show ((decide (((sagOf flat14 (ivWhole 9)).1) = (ivPoint 0))) == true) = false; rw [h1]; rfl) rfl ?_
    refine dw_op (d := (some 16)) (.bool false) rfl rfl rfl (st_pkf' (b := decide (((sagOf flat14 (ivWhole 9)).1) = (ivPoint 0))) (v := .bool false) h1 rfl rfl rfl ⟨rfl, rfl⟩) ?_
    refine dw_op (d := (some 17)) (.bool false) rfl rfl rfl (st_move (v := .bool false) rfl rfl ⟨rfl, rfl⟩) ?_
    refine dw_sk (d := (some 18)) rfl rfl rfl ?_
    refine dw_sk (d := (some 19)) rfl rfl rfl ?_
    refine dw_op (d := (some 20)) (.bool false) rfl rfl rfl (st_pkf (v := .bool false) rfl rfl rfl ⟨rfl, rfl⟩) ?_
    refine dw_op (d := (some 0)) (.bool false) rfl rfl rfl (st_assign (v := .bool false) rfl rfl ⟨rfl, rfl⟩) ?_
    refine dw_nil ?_
    refine ar_nil ?_
    refine ac_ret ?_
    exact fin_eq (v := .bool false) (by show _ = (fun (r : Bool) => (.bool r : Value)) known14; rw [known14, h1] <;> rfl) (fin_ret (res_tmp rfl rfl))
end Go.Proofs.Ythngkopcadlciaa
