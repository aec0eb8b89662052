import Derived.Test.YthngkopcadlciaaMSceneTurns9
import Derived.Test.YthngkopcadlciaaMSceneTurns8
import Derived.Test.YthngkopcadlciaaMSceneTurns7
import Derived.Test.YthngkopcadlciaaMSceneTurns10
import Derived.Test.YthngkopcadlciaaHandR
set_option linter.unusedVariables false
set_option linter.unusedSimpArgs false
namespace Go.Proofs.Ythngkopcadlciaa
open Go.RowKit
attribute [local irreducible] AC AR DWalk
def axis26 (h : Iv) : Ray := (⟨(vecOf h (ivPoint 0) (ivPoint 0)), (vecOf (ivPoint 0) (ivPoint 0) (ivWhole 1))⟩ : Ray)
set_option maxRecDepth 100000 in
theorem c_axis26 (h : Iv) : Gets Try.prog 60 #[.agg #[.int .i64 h.lo, .int .i64 h.hi, .bool h.no]] (Ray.v (axis26 h)) := by
  refine gets_fin Try.func60 rfl rfl rfl ?_
  refine ac_seq ?_
  refine ac_region_lit ?_
  refine ao 1 rfl rfl (st_box (v := .agg #[.int .i64 h.lo, .int .i64 h.hi, .bool h.no]) (cs := [.int .i64 h.lo, .int .i64 h.hi, .bool h.no]) rfl rfl rfl fun g0 => ?_)
  refine ao 2 rfl rfl (st_new zero77 rfl fun g1 => ?_)
  refine ar_nil ?_
  refine ac_seq ?_
  refine ac_draw0 (id := 1) [0, 1, 2, 3, 4, 5, 6, 7, 8] [9] _ (by kernel_rfl) follows rfl  ?_
  refine dw_op (d := (some 3)) (.agg #[.int .i64 h.lo, .int .i64 h.hi, .bool h.no]) rfl rfl rfl (st_lda (g := g0) (off := 0) (vs := [.int .i64 h.lo, .int .i64 h.hi, .bool h.no]) agg26 1 rfl rfl rfl rfl rfl rfl ⟨rfl, rfl⟩) ?_
  refine dw_op (d := (some 4)) (.agg #[.int .i64 ((ivPoint 0).lo), .int .i64 ((ivPoint 0).hi), .bool ((ivPoint 0).no)]) rfl rfl rfl (st_cf (vs := [.int .i64 0]) (r := .agg #[.int .i64 ((ivPoint 0).lo), .int .i64 ((ivPoint 0).hi), .bool ((ivPoint 0).no)]) (c_ivPoint 0) Try.func29 rfl (by decide) rfl rfl rfl ⟨rfl, rfl⟩) ?_
  refine dw_op (d := (some 5)) (.agg #[.int .i64 ((ivPoint 0).lo), .int .i64 ((ivPoint 0).hi), .bool ((ivPoint 0).no)]) rfl rfl rfl (st_cf (vs := [.int .i64 0]) (r := .agg #[.int .i64 ((ivPoint 0).lo), .int .i64 ((ivPoint 0).hi), .bool ((ivPoint 0).no)]) (c_ivPoint 0) Try.func29 rfl (by decide) rfl rfl rfl ⟨rfl, rfl⟩) ?_
  refine dw_op (d := (some 6)) (.agg #[.int .i64 (((vecOf h (ivPoint 0) (ivPoint 0)).x).lo), .int .i64 (((vecOf h (ivPoint 0) (ivPoint 0)).x).hi), .bool (((vecOf h (ivPoint 0) (ivPoint 0)).x).no), .int .i64 (((vecOf h (ivPoint 0) (ivPoint 0)).y).lo), .int .i64 (((vecOf h (ivPoint 0) (ivPoint 0)).y).hi), .bool (((vecOf h (ivPoint 0) (ivPoint 0)).y).no), .int .i64 (((vecOf h (ivPoint 0) (ivPoint 0)).z).lo), .int .i64 (((vecOf h (ivPoint 0) (ivPoint 0)).z).hi), .bool (((vecOf h (ivPoint 0) (ivPoint 0)).z).no)]) rfl rfl rfl (st_cf (vs := [.agg #[.int .i64 h.lo, .int .i64 h.hi, .bool h.no], .agg #[.int .i64 ((ivPoint 0).lo), .int .i64 ((ivPoint 0).hi), .bool ((ivPoint 0).no)], .agg #[.int .i64 ((ivPoint 0).lo), .int .i64 ((ivPoint 0).hi), .bool ((ivPoint 0).no)]]) (r := .agg #[.int .i64 (((vecOf h (ivPoint 0) (ivPoint 0)).x).lo), .int .i64 (((vecOf h (ivPoint 0) (ivPoint 0)).x).hi), .bool (((vecOf h (ivPoint 0) (ivPoint 0)).x).no), .int .i64 (((vecOf h (ivPoint 0) (ivPoint 0)).y).lo), .int .i64 (((vecOf h (ivPoint 0) (ivPoint 0)).y).hi), .bool (((vecOf h (ivPoint 0) (ivPoint 0)).y).no), .int .i64 (((vecOf h (ivPoint 0) (ivPoint 0)).z).lo), .int .i64 (((vecOf h (ivPoint 0) (ivPoint 0)).z).hi), .bool (((vecOf h (ivPoint 0) (ivPoint 0)).z).no)]) (c_vecOf h (ivPoint 0) (ivPoint 0)) Try.func44 rfl (by decide) rfl rfl rfl ⟨rfl, rfl⟩) ?_
  refine dw_op (d := (some 7)) (.agg #[.int .i64 ((ivPoint 0).lo), .int .i64 ((ivPoint 0).hi), .bool ((ivPoint 0).no)]) rfl rfl rfl (st_cf (vs := [.int .i64 0]) (r := .agg #[.int .i64 ((ivPoint 0).lo), .int .i64 ((ivPoint 0).hi), .bool ((ivPoint 0).no)]) (c_ivPoint 0) Try.func29 rfl (by decide) rfl rfl rfl ⟨rfl, rfl⟩) ?_
  refine dw_op (d := (some 8)) (.agg #[.int .i64 ((ivPoint 0).lo), .int .i64 ((ivPoint 0).hi), .bool ((ivPoint 0).no)]) rfl rfl rfl (st_cf (vs := [.int .i64 0]) (r := .agg #[.int .i64 ((ivPoint 0).lo), .int .i64 ((ivPoint 0).hi), .bool ((ivPoint 0).no)]) (c_ivPoint 0) Try.func29 rfl (by decide) rfl rfl rfl ⟨rfl, rfl⟩) ?_
  refine dw_op (d := (some 9)) (.agg #[.int .i64 ((ivWhole 1).lo), .int .i64 ((ivWhole 1).hi), .bool ((ivWhole 1).no)]) rfl rfl rfl (st_cf (vs := [.int .i64 1]) (r := .agg #[.int .i64 ((ivWhole 1).lo), .int .i64 ((ivWhole 1).hi), .bool ((ivWhole 1).no)]) (c_ivWhole 1) Try.func21 rfl (by decide) rfl rfl rfl ⟨rfl, rfl⟩) ?_
  refine dw_op (d := (some 10)) (.agg #[.int .i64 (((vecOf (ivPoint 0) (ivPoint 0) (ivWhole 1)).x).lo), .int .i64 (((vecOf (ivPoint 0) (ivPoint 0) (ivWhole 1)).x).hi), .bool (((vecOf (ivPoint 0) (ivPoint 0) (ivWhole 1)).x).no), .int .i64 (((vecOf (ivPoint 0) (ivPoint 0) (ivWhole 1)).y).lo), .int .i64 (((vecOf (ivPoint 0) (ivPoint 0) (ivWhole 1)).y).hi), .bool (((vecOf (ivPoint 0) (ivPoint 0) (ivWhole 1)).y).no), .int .i64 (((vecOf (ivPoint 0) (ivPoint 0) (ivWhole 1)).z).lo), .int .i64 (((vecOf (ivPoint 0) (ivPoint 0) (ivWhole 1)).z).hi), .bool (((vecOf (ivPoint 0) (ivPoint 0) (ivWhole 1)).z).no)]) rfl rfl rfl (st_cf (vs := [.agg #[.int .i64 ((ivPoint 0).lo), .int .i64 ((ivPoint 0).hi), .bool ((ivPoint 0).no)], .agg #[.int .i64 ((ivPoint 0).lo), .int .i64 ((ivPoint 0).hi), .bool ((ivPoint 0).no)], .agg #[.int .i64 ((ivWhole 1).lo), .int .i64 ((ivWhole 1).hi), .bool ((ivWhole 1).no)]]) (r := .agg #[.int .i64 (((vecOf (ivPoint 0) (ivPoint 0) (ivWhole 1)).x).lo), .int .i64 (((vecOf (ivPoint 0) (ivPoint 0) (ivWhole 1)).x).hi), .bool (((vecOf (ivPoint 0) (ivPoint 0) (ivWhole 1)).x).no), .int .i64 (((vecOf (ivPoint 0) (ivPoint 0) (ivWhole 1)).y).lo), .int .i64 (((vecOf (ivPoint 0) (ivPoint 0) (ivWhole 1)).y).hi), .bool (((vecOf (ivPoint 0) (ivPoint 0) (ivWhole 1)).y).no), .int .i64 (((vecOf (ivPoint 0) (ivPoint 0) (ivWhole 1)).z).lo), .int .i64 (((vecOf (ivPoint 0) (ivPoint 0) (ivWhole 1)).z).hi), .bool (((vecOf (ivPoint 0) (ivPoint 0) (ivWhole 1)).z).no)]) (c_vecOf (ivPoint 0) (ivPoint 0) (ivWhole 1)) Try.func44 rfl (by decide) rfl rfl rfl ⟨rfl, rfl⟩) ?_
  refine dw_op (d := (some 11)) (.agg #[.int .i64 (((vecOf h (ivPoint 0) (ivPoint 0)).x).lo), .int .i64 (((vecOf h (ivPoint 0) (ivPoint 0)).x).hi), .bool (((vecOf h (ivPoint 0) (ivPoint 0)).x).no), .int .i64 (((vecOf h (ivPoint 0) (ivPoint 0)).y).lo), .int .i64 (((vecOf h (ivPoint 0) (ivPoint 0)).y).hi), .bool (((vecOf h (ivPoint 0) (ivPoint 0)).y).no), .int .i64 (((vecOf h (ivPoint 0) (ivPoint 0)).z).lo), .int .i64 (((vecOf h (ivPoint 0) (ivPoint 0)).z).hi), .bool (((vecOf h (ivPoint 0) (ivPoint 0)).z).no), .int .i64 (((vecOf (ivPoint 0) (ivPoint 0) (ivWhole 1)).x).lo), .int .i64 (((vecOf (ivPoint 0) (ivPoint 0) (ivWhole 1)).x).hi), .bool (((vecOf (ivPoint 0) (ivPoint 0) (ivWhole 1)).x).no), .int .i64 (((vecOf (ivPoint 0) (ivPoint 0) (ivWhole 1)).y).lo), .int .i64 (((vecOf (ivPoint 0) (ivPoint 0) (ivWhole 1)).y).hi), .bool (((vecOf (ivPoint 0) (ivPoint 0) (ivWhole 1)).y).no), .int .i64 (((vecOf (ivPoint 0) (ivPoint 0) (ivWhole 1)).z).lo), .int .i64 (((vecOf (ivPoint 0) (ivPoint 0) (ivWhole 1)).z).hi), .bool (((vecOf (ivPoint 0) (ivPoint 0) (ivWhole 1)).z).no)]) rfl rfl rfl (st_bd (us := [(0, .agg #[.int .i64 (((vecOf h (ivPoint 0) (ivPoint 0)).x).lo), .int .i64 (((vecOf h (ivPoint 0) (ivPoint 0)).x).hi), .bool (((vecOf h (ivPoint 0) (ivPoint 0)).x).no), .int .i64 (((vecOf h (ivPoint 0) (ivPoint 0)).y).lo), .int .i64 (((vecOf h (ivPoint 0) (ivPoint 0)).y).hi), .bool (((vecOf h (ivPoint 0) (ivPoint 0)).y).no), .int .i64 (((vecOf h (ivPoint 0) (ivPoint 0)).z).lo), .int .i64 (((vecOf h (ivPoint 0) (ivPoint 0)).z).hi), .bool (((vecOf h (ivPoint 0) (ivPoint 0)).z).no)]), (1, .agg #[.int .i64 (((vecOf (ivPoint 0) (ivPoint 0) (ivWhole 1)).x).lo), .int .i64 (((vecOf (ivPoint 0) (ivPoint 0) (ivWhole 1)).x).hi), .bool (((vecOf (ivPoint 0) (ivPoint 0) (ivWhole 1)).x).no), .int .i64 (((vecOf (ivPoint 0) (ivPoint 0) (ivWhole 1)).y).lo), .int .i64 (((vecOf (ivPoint 0) (ivPoint 0) (ivWhole 1)).y).hi), .bool (((vecOf (ivPoint 0) (ivPoint 0) (ivWhole 1)).y).no), .int .i64 (((vecOf (ivPoint 0) (ivPoint 0) (ivWhole 1)).z).lo), .int .i64 (((vecOf (ivPoint 0) (ivPoint 0) (ivWhole 1)).z).hi), .bool (((vecOf (ivPoint 0) (ivPoint 0) (ivWhole 1)).z).no)])]) (v := .agg #[.int .i64 (((vecOf h (ivPoint 0) (ivPoint 0)).x).lo), .int .i64 (((vecOf h (ivPoint 0) (ivPoint 0)).x).hi), .bool (((vecOf h (ivPoint 0) (ivPoint 0)).x).no), .int .i64 (((vecOf h (ivPoint 0) (ivPoint 0)).y).lo), .int .i64 (((vecOf h (ivPoint 0) (ivPoint 0)).y).hi), .bool (((vecOf h (ivPoint 0) (ivPoint 0)).y).no), .int .i64 (((vecOf h (ivPoint 0) (ivPoint 0)).z).lo), .int .i64 (((vecOf h (ivPoint 0) (ivPoint 0)).z).hi), .bool (((vecOf h (ivPoint 0) (ivPoint 0)).z).no), .int .i64 (((vecOf (ivPoint 0) (ivPoint 0) (ivWhole 1)).x).lo), .int .i64 (((vecOf (ivPoint 0) (ivPoint 0) (ivWhole 1)).x).hi), .bool (((vecOf (ivPoint 0) (ivPoint 0) (ivWhole 1)).x).no), .int .i64 (((vecOf (ivPoint 0) (ivPoint 0) (ivWhole 1)).y).lo), .int .i64 (((vecOf (ivPoint 0) (ivPoint 0) (ivWhole 1)).y).hi), .bool (((vecOf (ivPoint 0) (ivPoint 0) (ivWhole 1)).y).no), .int .i64 (((vecOf (ivPoint 0) (ivPoint 0) (ivWhole 1)).z).lo), .int .i64 (((vecOf (ivPoint 0) (ivPoint 0) (ivWhole 1)).z).hi), .bool (((vecOf (ivPoint 0) (ivPoint 0) (ivWhole 1)).z).no)]) rfl rfl (bd77_0a_1a _ _ _ _ _ _ _ _ _ _ _ _ _ _ _ _ _ _) ⟨rfl, rfl⟩) ?_
  refine dw_nil ?_
  refine ar_op (d := none) rfl rfl (st_sta (g := g1) (off := 0) (us := [.int .i64 (((vecOf h (ivPoint 0) (ivPoint 0)).x).lo), .int .i64 (((vecOf h (ivPoint 0) (ivPoint 0)).x).hi), .bool (((vecOf h (ivPoint 0) (ivPoint 0)).x).no), .int .i64 (((vecOf h (ivPoint 0) (ivPoint 0)).y).lo), .int .i64 (((vecOf h (ivPoint 0) (ivPoint 0)).y).hi), .bool (((vecOf h (ivPoint 0) (ivPoint 0)).y).no), .int .i64 (((vecOf h (ivPoint 0) (ivPoint 0)).z).lo), .int .i64 (((vecOf h (ivPoint 0) (ivPoint 0)).z).hi), .bool (((vecOf h (ivPoint 0) (ivPoint 0)).z).no), .int .i64 (((vecOf (ivPoint 0) (ivPoint 0) (ivWhole 1)).x).lo), .int .i64 (((vecOf (ivPoint 0) (ivPoint 0) (ivWhole 1)).x).hi), .bool (((vecOf (ivPoint 0) (ivPoint 0) (ivWhole 1)).x).no), .int .i64 (((vecOf (ivPoint 0) (ivPoint 0) (ivWhole 1)).y).lo), .int .i64 (((vecOf (ivPoint 0) (ivPoint 0) (ivWhole 1)).y).hi), .bool (((vecOf (ivPoint 0) (ivPoint 0) (ivWhole 1)).y).no), .int .i64 (((vecOf (ivPoint 0) (ivPoint 0) (ivWhole 1)).z).lo), .int .i64 (((vecOf (ivPoint 0) (ivPoint 0) (ivWhole 1)).z).hi), .bool (((vecOf (ivPoint 0) (ivPoint 0) (ivWhole 1)).z).no)]) (cs := [.int .i64 (((vecOf h (ivPoint 0) (ivPoint 0)).x).lo), .int .i64 (((vecOf h (ivPoint 0) (ivPoint 0)).x).hi), .bool (((vecOf h (ivPoint 0) (ivPoint 0)).x).no), .int .i64 (((vecOf h (ivPoint 0) (ivPoint 0)).y).lo), .int .i64 (((vecOf h (ivPoint 0) (ivPoint 0)).y).hi), .bool (((vecOf h (ivPoint 0) (ivPoint 0)).y).no), .int .i64 (((vecOf h (ivPoint 0) (ivPoint 0)).z).lo), .int .i64 (((vecOf h (ivPoint 0) (ivPoint 0)).z).hi), .bool (((vecOf h (ivPoint 0) (ivPoint 0)).z).no), .int .i64 (((vecOf (ivPoint 0) (ivPoint 0) (ivWhole 1)).x).lo), .int .i64 (((vecOf (ivPoint 0) (ivPoint 0) (ivWhole 1)).x).hi), .bool (((vecOf (ivPoint 0) (ivPoint 0) (ivWhole 1)).x).no), .int .i64 (((vecOf (ivPoint 0) (ivPoint 0) (ivWhole 1)).y).lo), .int .i64 (((vecOf (ivPoint 0) (ivPoint 0) (ivWhole 1)).y).hi), .bool (((vecOf (ivPoint 0) (ivPoint 0) (ivWhole 1)).y).no), .int .i64 (((vecOf (ivPoint 0) (ivPoint 0) (ivWhole 1)).z).lo), .int .i64 (((vecOf (ivPoint 0) (ivPoint 0) (ivWhole 1)).z).hi), .bool (((vecOf (ivPoint 0) (ivPoint 0) (ivWhole 1)).z).no)]) agg77 0 rfl rfl rfl rfl rfl rfl rfl rfl rfl ?_)
  refine ar_nil ?_
  refine ac_ret ?_
  exact fin_eq (v := .agg #[.int .i64 (((vecOf h (ivPoint 0) (ivPoint 0)).x).lo), .int .i64 (((vecOf h (ivPoint 0) (ivPoint 0)).x).hi), .bool (((vecOf h (ivPoint 0) (ivPoint 0)).x).no), .int .i64 (((vecOf h (ivPoint 0) (ivPoint 0)).y).lo), .int .i64 (((vecOf h (ivPoint 0) (ivPoint 0)).y).hi), .bool (((vecOf h (ivPoint 0) (ivPoint 0)).y).no), .int .i64 (((vecOf h (ivPoint 0) (ivPoint 0)).z).lo), .int .i64 (((vecOf h (ivPoint 0) (ivPoint 0)).z).hi), .bool (((vecOf h (ivPoint 0) (ivPoint 0)).z).no), .int .i64 (((vecOf (ivPoint 0) (ivPoint 0) (ivWhole 1)).x).lo), .int .i64 (((vecOf (ivPoint 0) (ivPoint 0) (ivWhole 1)).x).hi), .bool (((vecOf (ivPoint 0) (ivPoint 0) (ivWhole 1)).x).no), .int .i64 (((vecOf (ivPoint 0) (ivPoint 0) (ivWhole 1)).y).lo), .int .i64 (((vecOf (ivPoint 0) (ivPoint 0) (ivWhole 1)).y).hi), .bool (((vecOf (ivPoint 0) (ivPoint 0) (ivWhole 1)).y).no), .int .i64 (((vecOf (ivPoint 0) (ivPoint 0) (ivWhole 1)).z).lo), .int .i64 (((vecOf (ivPoint 0) (ivPoint 0) (ivWhole 1)).z).hi), .bool (((vecOf (ivPoint 0) (ivPoint 0) (ivWhole 1)).z).no)]) rfl (fin_ret (res_c (vs := [.int .i64 (((vecOf h (ivPoint 0) (ivPoint 0)).x).lo), .int .i64 (((vecOf h (ivPoint 0) (ivPoint 0)).x).hi), .bool (((vecOf h (ivPoint 0) (ivPoint 0)).x).no), .int .i64 (((vecOf h (ivPoint 0) (ivPoint 0)).y).lo), .int .i64 (((vecOf h (ivPoint 0) (ivPoint 0)).y).hi), .bool (((vecOf h (ivPoint 0) (ivPoint 0)).y).no), .int .i64 (((vecOf h (ivPoint 0) (ivPoint 0)).z).lo), .int .i64 (((vecOf h (ivPoint 0) (ivPoint 0)).z).hi), .bool (((vecOf h (ivPoint 0) (ivPoint 0)).z).no), .int .i64 (((vecOf (ivPoint 0) (ivPoint 0) (ivWhole 1)).x).lo), .int .i64 (((vecOf (ivPoint 0) (ivPoint 0) (ivWhole 1)).x).hi), .bool (((vecOf (ivPoint 0) (ivPoint 0) (ivWhole 1)).x).no), .int .i64 (((vecOf (ivPoint 0) (ivPoint 0) (ivWhole 1)).y).lo), .int .i64 (((vecOf (ivPoint 0) (ivPoint 0) (ivWhole 1)).y).hi), .bool (((vecOf (ivPoint 0) (ivPoint 0) (ivWhole 1)).y).no), .int .i64 (((vecOf (ivPoint 0) (ivPoint 0) (ivWhole 1)).z).lo), .int .i64 (((vecOf (ivPoint 0) (ivPoint 0) (ivWhole 1)).z).hi), .bool (((vecOf (ivPoint 0) (ivPoint 0) (ivWhole 1)).z).no)]) agg77 0 rfl rfl rfl rfl rfl rfl))
def ball26 (z : Int) (r : Int) : Shape := (⟨1, (⟨0, 0⟩ : Dec), (⟨0, 0⟩ : Dec), (⟨z, 0⟩ : Dec), (⟨r, 0⟩ : Dec), (⟨1, 2, 3⟩ : A3)⟩ : Shape)
set_option maxRecDepth 100000 in
theorem c_ball26 (z : Int) (r : Int) : Gets Try.prog 61 #[.int .i64 z, .int .i64 r] (Shape.v (ball26 z r)) := by
  refine gets_fin Try.func61 rfl rfl rfl ?_
  refine ac_seq ?_
  refine ac_region_lit ?_
  refine ao 4 rfl rfl (st_new zero86 rfl fun g0 => ?_)
  refine ar_nil ?_
  refine ac_seq ?_
  refine ac_region_lit ?_
  refine ao 5 rfl rfl (st_move (v := .int .i64 z) rfl rfl ?_)
  refine ao 6 rfl rfl (st_bd (us := [(0, .int .i64 z)]) (v := .agg #[.int .i64 z, .int .i64 0]) rfl rfl (bd83_0 _) ?_)
  refine ao 7 rfl rfl (st_move (v := .int .i64 r) rfl rfl ?_)
  refine ao 8 rfl rfl (st_bd (us := [(0, .int .i64 r)]) (v := .agg #[.int .i64 r, .int .i64 0]) rfl rfl (bd83_0 _) ?_)
  refine ao 9 rfl rfl (st_bd (us := [(0, .int .i64 1), (1, .int .i64 2), (2, .int .i64 3)]) (v := .agg #[.int .i64 1, .int .i64 2, .int .i64 3]) rfl rfl (bd84_0_1_2 _ _ _) ?_)
  refine ao 10 rfl rfl (st_bd (us := [(0, .int .i64 1), (3, .agg #[.int .i64 z, .int .i64 0]), (4, .agg #[.int .i64 r, .int .i64 0]), (5, .agg #[.int .i64 1, .int .i64 2, .int .i64 3])]) (v := .agg #[.int .i64 1, .int .i64 0, .int .i64 0, .int .i64 0, .int .i64 0, .int .i64 z, .int .i64 0, .int .i64 r, .int .i64 0, .int .i64 1, .int .i64 2, .int .i64 3]) rfl rfl (bd86_0_3a_4a_5a _ _ _ _ _ _ _ _) ?_)
  refine ar_op (d := none) rfl rfl (st_sta (g := g0) (off := 0) (us := [.int .i64 1, .int .i64 0, .int .i64 0, .int .i64 0, .int .i64 0, .int .i64 z, .int .i64 0, .int .i64 r, .int .i64 0, .int .i64 1, .int .i64 2, .int .i64 3]) (cs := [.int .i64 1, .int .i64 0, .int .i64 0, .int .i64 0, .int .i64 0, .int .i64 z, .int .i64 0, .int .i64 r, .int .i64 0, .int .i64 1, .int .i64 2, .int .i64 3]) agg86 0 rfl rfl rfl rfl rfl rfl rfl rfl rfl ?_)
  refine ar_nil ?_
  refine ac_ret ?_
  exact fin_eq (v := .agg #[.int .i64 1, .int .i64 0, .int .i64 0, .int .i64 0, .int .i64 0, .int .i64 z, .int .i64 0, .int .i64 r, .int .i64 0, .int .i64 1, .int .i64 2, .int .i64 3]) rfl (fin_ret (res_c (vs := [.int .i64 1, .int .i64 0, .int .i64 0, .int .i64 0, .int .i64 0, .int .i64 z, .int .i64 0, .int .i64 r, .int .i64 0, .int .i64 1, .int .i64 2, .int .i64 3]) agg86 0 rfl rfl rfl rfl rfl rfl))
def wall26 (z : Int) : Shape := (⟨2, (⟨0, 0⟩ : Dec), (⟨0, 0⟩ : Dec), (⟨z, 0⟩ : Dec), (⟨0, 0⟩ : Dec), (⟨0, 0, 0⟩ : A3)⟩ : Shape)
set_option maxRecDepth 100000 in
theorem c_wall26 (z : Int) : Gets Try.prog 63 #[.int .i64 z] (Shape.v (wall26 z)) := by
  refine gets_fin Try.func63 rfl rfl rfl ?_
  refine ac_seq ?_
  refine ac_region_lit ?_
  refine ao 2 rfl rfl (st_new zero86 rfl fun g0 => ?_)
  refine ar_nil ?_
  refine ac_seq ?_
  refine ac_region_lit ?_
  refine ao 3 rfl rfl (st_move (v := .int .i64 z) rfl rfl ?_)
  refine ao 4 rfl rfl (st_bd (us := [(0, .int .i64 z)]) (v := .agg #[.int .i64 z, .int .i64 0]) rfl rfl (bd83_0 _) ?_)
  refine ao 5 rfl rfl (st_bd (us := [(0, .int .i64 2), (3, .agg #[.int .i64 z, .int .i64 0])]) (v := .agg #[.int .i64 2, .int .i64 0, .int .i64 0, .int .i64 0, .int .i64 0, .int .i64 z, .int .i64 0, .int .i64 0, .int .i64 0, .int .i64 0, .int .i64 0, .int .i64 0]) rfl rfl (bd86_0_3a _ _ _) ?_)
  refine ar_op (d := none) rfl rfl (st_sta (g := g0) (off := 0) (us := [.int .i64 2, .int .i64 0, .int .i64 0, .int .i64 0, .int .i64 0, .int .i64 z, .int .i64 0, .int .i64 0, .int .i64 0, .int .i64 0, .int .i64 0, .int .i64 0]) (cs := [.int .i64 2, .int .i64 0, .int .i64 0, .int .i64 0, .int .i64 0, .int .i64 z, .int .i64 0, .int .i64 0, .int .i64 0, .int .i64 0, .int .i64 0, .int .i64 0]) agg86 0 rfl rfl rfl rfl rfl rfl rfl rfl rfl ?_)
  refine ar_nil ?_
  refine ac_ret ?_
  exact fin_eq (v := .agg #[.int .i64 2, .int .i64 0, .int .i64 0, .int .i64 0, .int .i64 0, .int .i64 z, .int .i64 0, .int .i64 0, .int .i64 0, .int .i64 0, .int .i64 0, .int .i64 0]) rfl (fin_ret (res_c (vs := [.int .i64 2, .int .i64 0, .int .i64 0, .int .i64 0, .int .i64 0, .int .i64 z, .int .i64 0, .int .i64 0, .int .i64 0, .int .i64 0, .int .i64 0, .int .i64 0]) agg86 0 rfl rfl rfl rfl rfl rfl))
def known26  : Bool := (bif ((near0 (axis26 (ivPoint 0))).1) == (-1) then (bif decide (((near0 (axis26 (ivPoint 0))).2.1) = ivNone) then (bif ((near0 (axis26 (ivPoint 0))).2.2) == 2 then (bif ((sceneHit (ball26 20 5) (axis26 (ivPoint 0))).2) == 1 then decide (((sceneHit (ball26 20 5) (axis26 (ivPoint 0))).1) = (ivWhole 15)) else false) else false) else false) else false)
set_option maxRecDepth 100000 in
theorem c_known26  : Gets Try.prog 59 #[] ((fun (r : Bool) => (.bool r : Value)) known26) := by
  refine gets_fin Try.func59 rfl rfl rfl ?_
  refine ac_seq ?_
  refine ac_region_lit ?_
  refine ao 0 rfl rfl (st_assign (v := .bool false) rfl rfl ?_)
  refine ar_nil ?_
  refine ac_seq ?_
  refine ac_region_lit ?_
  refine ao 7 rfl rfl (st_cf (vs := [.int .i64 0]) (r := .agg #[.int .i64 ((ivPoint 0).lo), .int .i64 ((ivPoint 0).hi), .bool ((ivPoint 0).no)]) (c_ivPoint 0) Try.func29 rfl (by decide) rfl rfl rfl ?_)
  refine ao 8 rfl rfl (st_cf (vs := [.agg #[.int .i64 ((ivPoint 0).lo), .int .i64 ((ivPoint 0).hi), .bool ((ivPoint 0).no)]]) (r := .agg #[.int .i64 ((((axis26 (ivPoint 0)).o).x).lo), .int .i64 ((((axis26 (ivPoint 0)).o).x).hi), .bool ((((axis26 (ivPoint 0)).o).x).no), .int .i64 ((((axis26 (ivPoint 0)).o).y).lo), .int .i64 ((((axis26 (ivPoint 0)).o).y).hi), .bool ((((axis26 (ivPoint 0)).o).y).no), .int .i64 ((((axis26 (ivPoint 0)).o).z).lo), .int .i64 ((((axis26 (ivPoint 0)).o).z).hi), .bool ((((axis26 (ivPoint 0)).o).z).no), .int .i64 ((((axis26 (ivPoint 0)).d).x).lo), .int .i64 ((((axis26 (ivPoint 0)).d).x).hi), .bool ((((axis26 (ivPoint 0)).d).x).no), .int .i64 ((((axis26 (ivPoint 0)).d).y).lo), .int .i64 ((((axis26 (ivPoint 0)).d).y).hi), .bool ((((axis26 (ivPoint 0)).d).y).no), .int .i64 ((((axis26 (ivPoint 0)).d).z).lo), .int .i64 ((((axis26 (ivPoint 0)).d).z).hi), .bool ((((axis26 (ivPoint 0)).d).z).no)]) (c_axis26 (ivPoint 0)) Try.func60 rfl (by decide) rfl rfl rfl ?_)
  refine ao 9 rfl rfl (st_cf (vs := [.slice none 0 0, .agg #[.int .i64 ((((axis26 (ivPoint 0)).o).x).lo), .int .i64 ((((axis26 (ivPoint 0)).o).x).hi), .bool ((((axis26 (ivPoint 0)).o).x).no), .int .i64 ((((axis26 (ivPoint 0)).o).y).lo), .int .i64 ((((axis26 (ivPoint 0)).o).y).hi), .bool ((((axis26 (ivPoint 0)).o).y).no), .int .i64 ((((axis26 (ivPoint 0)).o).z).lo), .int .i64 ((((axis26 (ivPoint 0)).o).z).hi), .bool ((((axis26 (ivPoint 0)).o).z).no), .int .i64 ((((axis26 (ivPoint 0)).d).x).lo), .int .i64 ((((axis26 (ivPoint 0)).d).x).hi), .bool ((((axis26 (ivPoint 0)).d).x).no), .int .i64 ((((axis26 (ivPoint 0)).d).y).lo), .int .i64 ((((axis26 (ivPoint 0)).d).y).hi), .bool ((((axis26 (ivPoint 0)).d).y).no), .int .i64 ((((axis26 (ivPoint 0)).d).z).lo), .int .i64 ((((axis26 (ivPoint 0)).d).z).hi), .bool ((((axis26 (ivPoint 0)).d).z).no)]]) (r := .tuple #[.int .i64 ((near0 (axis26 (ivPoint 0))).1), .agg #[.int .i64 (((near0 (axis26 (ivPoint 0))).2.1).lo), .int .i64 (((near0 (axis26 (ivPoint 0))).2.1).hi), .bool (((near0 (axis26 (ivPoint 0))).2.1).no)], .int .i64 ((near0 (axis26 (ivPoint 0))).2.2)]) (c_near0 (axis26 (ivPoint 0))) Try.func57 rfl (by decide) rfl rfl rfl ?_)
  refine ao 6 rfl rfl (st_move (v := .tuple #[.int .i64 ((near0 (axis26 (ivPoint 0))).1), .agg #[.int .i64 (((near0 (axis26 (ivPoint 0))).2.1).lo), .int .i64 (((near0 (axis26 (ivPoint 0))).2.1).hi), .bool (((near0 (axis26 (ivPoint 0))).2.1).no)], .int .i64 ((near0 (axis26 (ivPoint 0))).2.2)]) rfl rfl ?_)
  refine ao 10 rfl rfl (st_ex (vs := [.int .i64 ((near0 (axis26 (ivPoint 0))).1), .agg #[.int .i64 (((near0 (axis26 (ivPoint 0))).2.1).lo), .int .i64 (((near0 (axis26 (ivPoint 0))).2.1).hi), .bool (((near0 (axis26 (ivPoint 0))).2.1).no)], .int .i64 ((near0 (axis26 (ivPoint 0))).2.2)]) (v := .int .i64 ((near0 (axis26 (ivPoint 0))).1)) rfl rfl rfl ?_)
  refine ao 11 rfl rfl (st_ex (vs := [.int .i64 ((near0 (axis26 (ivPoint 0))).1), .agg #[.int .i64 (((near0 (axis26 (ivPoint 0))).2.1).lo), .int .i64 (((near0 (axis26 (ivPoint 0))).2.1).hi), .bool (((near0 (axis26 (ivPoint 0))).2.1).no)], .int .i64 ((near0 (axis26 (ivPoint 0))).2.2)]) (v := .agg #[.int .i64 (((near0 (axis26 (ivPoint 0))).2.1).lo), .int .i64 (((near0 (axis26 (ivPoint 0))).2.1).hi), .bool (((near0 (axis26 (ivPoint 0))).2.1).no)]) rfl rfl rfl ?_)
  refine ao 12 rfl rfl (st_ex (vs := [.int .i64 ((near0 (axis26 (ivPoint 0))).1), .agg #[.int .i64 (((near0 (axis26 (ivPoint 0))).2.1).lo), .int .i64 (((near0 (axis26 (ivPoint 0))).2.1).hi), .bool (((near0 (axis26 (ivPoint 0))).2.1).no)], .int .i64 ((near0 (axis26 (ivPoint 0))).2.2)]) (v := .int .i64 ((near0 (axis26 (ivPoint 0))).2.2)) rfl rfl rfl ?_)
  refine ao 2 rfl rfl (st_new zero26 rfl fun g0 => ?_)
  refine ao 1 rfl rfl (st_assign (v := .int .i64 ((near0 (axis26 (ivPoint 0))).1)) rfl rfl ?_)
  refine ar_op (d := none) rfl rfl (st_sta (g := g0) (off := 0) (us := [.int .i64 (((near0 (axis26 (ivPoint 0))).2.1).lo), .int .i64 (((near0 (axis26 (ivPoint 0))).2.1).hi), .bool (((near0 (axis26 (ivPoint 0))).2.1).no)]) (cs := [.int .i64 (((near0 (axis26 (ivPoint 0))).2.1).lo), .int .i64 (((near0 (axis26 (ivPoint 0))).2.1).hi), .bool (((near0 (axis26 (ivPoint 0))).2.1).no)]) agg26 0 rfl rfl rfl rfl rfl rfl rfl rfl rfl ?_)
  refine ao 3 rfl rfl (st_assign (v := .int .i64 ((near0 (axis26 (ivPoint 0))).2.2)) rfl rfl ?_)
  refine ar_nil ?_
  refine ac_seq ?_
  refine ac_region_lit ?_
  refine ao 14 rfl rfl (st_cf (vs := [.int .i64 20, .int .i64 5]) (r := .agg #[.int .i64 ((ball26 20 5).kind), .int .i64 (((ball26 20 5).x).c), .int .i64 (((ball26 20 5).x).scale), .int .i64 (((ball26 20 5).y).c), .int .i64 (((ball26 20 5).y).scale), .int .i64 (((ball26 20 5).z).c), .int .i64 (((ball26 20 5).z).scale), .int .i64 (((ball26 20 5).r).c), .int .i64 (((ball26 20 5).r).scale), .int .i64 (((ball26 20 5).glow).a0), .int .i64 (((ball26 20 5).glow).a1), .int .i64 (((ball26 20 5).glow).a2)]) (c_ball26 20 5) Try.func61 rfl (by decide) rfl rfl rfl ?_)
  refine ao 15 rfl rfl (st_cf (vs := [.int .i64 0]) (r := .agg #[.int .i64 ((ivPoint 0).lo), .int .i64 ((ivPoint 0).hi), .bool ((ivPoint 0).no)]) (c_ivPoint 0) Try.func29 rfl (by decide) rfl rfl rfl ?_)
  refine ao 16 rfl rfl (st_cf (vs := [.agg #[.int .i64 ((ivPoint 0).lo), .int .i64 ((ivPoint 0).hi), .bool ((ivPoint 0).no)]]) (r := .agg #[.int .i64 ((((axis26 (ivPoint 0)).o).x).lo), .int .i64 ((((axis26 (ivPoint 0)).o).x).hi), .bool ((((axis26 (ivPoint 0)).o).x).no), .int .i64 ((((axis26 (ivPoint 0)).o).y).lo), .int .i64 ((((axis26 (ivPoint 0)).o).y).hi), .bool ((((axis26 (ivPoint 0)).o).y).no), .int .i64 ((((axis26 (ivPoint 0)).o).z).lo), .int .i64 ((((axis26 (ivPoint 0)).o).z).hi), .bool ((((axis26 (ivPoint 0)).o).z).no), .int .i64 ((((axis26 (ivPoint 0)).d).x).lo), .int .i64 ((((axis26 (ivPoint 0)).d).x).hi), .bool ((((axis26 (ivPoint 0)).d).x).no), .int .i64 ((((axis26 (ivPoint 0)).d).y).lo), .int .i64 ((((axis26 (ivPoint 0)).d).y).hi), .bool ((((axis26 (ivPoint 0)).d).y).no), .int .i64 ((((axis26 (ivPoint 0)).d).z).lo), .int .i64 ((((axis26 (ivPoint 0)).d).z).hi), .bool ((((axis26 (ivPoint 0)).d).z).no)]) (c_axis26 (ivPoint 0)) Try.func60 rfl (by decide) rfl rfl rfl ?_)
  refine ao 17 rfl rfl (st_cf (vs := [.agg #[.int .i64 ((ball26 20 5).kind), .int .i64 (((ball26 20 5).x).c), .int .i64 (((ball26 20 5).x).scale), .int .i64 (((ball26 20 5).y).c), .int .i64 (((ball26 20 5).y).scale), .int .i64 (((ball26 20 5).z).c), .int .i64 (((ball26 20 5).z).scale), .int .i64 (((ball26 20 5).r).c), .int .i64 (((ball26 20 5).r).scale), .int .i64 (((ball26 20 5).glow).a0), .int .i64 (((ball26 20 5).glow).a1), .int .i64 (((ball26 20 5).glow).a2)], .agg #[.int .i64 ((((axis26 (ivPoint 0)).o).x).lo), .int .i64 ((((axis26 (ivPoint 0)).o).x).hi), .bool ((((axis26 (ivPoint 0)).o).x).no), .int .i64 ((((axis26 (ivPoint 0)).o).y).lo), .int .i64 ((((axis26 (ivPoint 0)).o).y).hi), .bool ((((axis26 (ivPoint 0)).o).y).no), .int .i64 ((((axis26 (ivPoint 0)).o).z).lo), .int .i64 ((((axis26 (ivPoint 0)).o).z).hi), .bool ((((axis26 (ivPoint 0)).o).z).no), .int .i64 ((((axis26 (ivPoint 0)).d).x).lo), .int .i64 ((((axis26 (ivPoint 0)).d).x).hi), .bool ((((axis26 (ivPoint 0)).d).x).no), .int .i64 ((((axis26 (ivPoint 0)).d).y).lo), .int .i64 ((((axis26 (ivPoint 0)).d).y).hi), .bool ((((axis26 (ivPoint 0)).d).y).no), .int .i64 ((((axis26 (ivPoint 0)).d).z).lo), .int .i64 ((((axis26 (ivPoint 0)).d).z).hi), .bool ((((axis26 (ivPoint 0)).d).z).no)]]) (r := .tuple #[.agg #[.int .i64 (((sceneHit (ball26 20 5) (axis26 (ivPoint 0))).1).lo), .int .i64 (((sceneHit (ball26 20 5) (axis26 (ivPoint 0))).1).hi), .bool (((sceneHit (ball26 20 5) (axis26 (ivPoint 0))).1).no)], .int .i64 ((sceneHit (ball26 20 5) (axis26 (ivPoint 0))).2)]) (c_sceneHit (ball26 20 5) (axis26 (ivPoint 0))) Try.func58 rfl (by decide) rfl rfl rfl ?_)
  refine ao 13 rfl rfl (st_move (v := .tuple #[.agg #[.int .i64 (((sceneHit (ball26 20 5) (axis26 (ivPoint 0))).1).lo), .int .i64 (((sceneHit (ball26 20 5) (axis26 (ivPoint 0))).1).hi), .bool (((sceneHit (ball26 20 5) (axis26 (ivPoint 0))).1).no)], .int .i64 ((sceneHit (ball26 20 5) (axis26 (ivPoint 0))).2)]) rfl rfl ?_)
  refine ao 18 rfl rfl (st_ex (vs := [.agg #[.int .i64 (((sceneHit (ball26 20 5) (axis26 (ivPoint 0))).1).lo), .int .i64 (((sceneHit (ball26 20 5) (axis26 (ivPoint 0))).1).hi), .bool (((sceneHit (ball26 20 5) (axis26 (ivPoint 0))).1).no)], .int .i64 ((sceneHit (ball26 20 5) (axis26 (ivPoint 0))).2)]) (v := .agg #[.int .i64 (((sceneHit (ball26 20 5) (axis26 (ivPoint 0))).1).lo), .int .i64 (((sceneHit (ball26 20 5) (axis26 (ivPoint 0))).1).hi), .bool (((sceneHit (ball26 20 5) (axis26 (ivPoint 0))).1).no)]) rfl rfl rfl ?_)
  refine ao 19 rfl rfl (st_ex (vs := [.agg #[.int .i64 (((sceneHit (ball26 20 5) (axis26 (ivPoint 0))).1).lo), .int .i64 (((sceneHit (ball26 20 5) (axis26 (ivPoint 0))).1).hi), .bool (((sceneHit (ball26 20 5) (axis26 (ivPoint 0))).1).no)], .int .i64 ((sceneHit (ball26 20 5) (axis26 (ivPoint 0))).2)]) (v := .int .i64 ((sceneHit (ball26 20 5) (axis26 (ivPoint 0))).2)) rfl rfl rfl ?_)
  refine ao 4 rfl rfl (st_new zero26 rfl fun g1 => ?_)
  refine ar_op (d := none) rfl rfl (st_sta (g := g1) (off := 0) (us := [.int .i64 (((sceneHit (ball26 20 5) (axis26 (ivPoint 0))).1).lo), .int .i64 (((sceneHit (ball26 20 5) (axis26 (ivPoint 0))).1).hi), .bool (((sceneHit (ball26 20 5) (axis26 (ivPoint 0))).1).no)]) (cs := [.int .i64 (((sceneHit (ball26 20 5) (axis26 (ivPoint 0))).1).lo), .int .i64 (((sceneHit (ball26 20 5) (axis26 (ivPoint 0))).1).hi), .bool (((sceneHit (ball26 20 5) (axis26 (ivPoint 0))).1).no)]) agg26 0 rfl rfl rfl rfl rfl rfl rfl rfl rfl ?_)
  refine ao 5 rfl rfl (st_assign (v := .int .i64 ((sceneHit (ball26 20 5) (axis26 (ivPoint 0))).2)) rfl rfl ?_)
  refine ar_nil ?_
  refine ac_seq ?_
  refine ac_draw0 (id := 3) [0, 1, 2, 3, 4, 5, 6, 7, 8, 9, 10, 11, 12, 13, 14, 15, 16, 17, 18, 19, 20] [] _ (by kernel_rfl) follows rfl  ?_
  refine dw_op (d := (some 20)) (.int .i64 ((near0 (axis26 (ivPoint 0))).1)) rfl rfl rfl (st_move (v := .int .i64 ((near0 (axis26 (ivPoint 0))).1)) rfl rfl ⟨rfl, rfl⟩) ?_
  refine dw_op (d := (some 21)) (.bool (((near0 (axis26 (ivPoint 0))).1) == (-1))) rfl rfl rfl (st_bi (u := .int .i64 ((near0 (axis26 (ivPoint 0))).1)) (v := .int .i64 (-1)) (r := .bool (((near0 (axis26 (ivPoint 0))).1) == (-1))) rfl rfl rfl (bi_eql rfl) ⟨rfl, rfl⟩) ?_
  refine dw_op (d := (some 22)) (.bool (((near0 (axis26 (ivPoint 0))).1) == (-1))) rfl rfl rfl (st_move (v := .bool (((near0 (axis26 (ivPoint 0))).1) == (-1))) rfl rfl ⟨rfl, rfl⟩) ?_
  refine bool_split (((near0 (axis26 (ivPoint 0))).1) == (-1)) (fun h1 => ?_) (fun h1 => ?_)
  · refine dw_gd (d := (some 23)) (.agg #[.int .i64 (((near0 (axis26 (ivPoint 0))).2.1).lo), .int .i64 (((near0 (axis26 (ivPoint 0))).2.1).hi), .bool (((near0 (axis26 (ivPoint 0))).2.1).no)]) rfl (by show ((((near0 (axis26 (ivPoint 0))).1) == (-1)) == true) = true; rw [h1]; rfl) rfl (st_lda (g := g0) (off := 0) (vs := [.int .i64 (((near0 (axis26 (ivPoint 0))).2.1).lo), .int .i64 (((near0 (axis26 (ivPoint 0))).2.1).hi), .bool (((near0 (axis26 (ivPoint 0))).2.1).no)]) agg26 1 rfl rfl rfl rfl rfl rfl ⟨rfl, rfl⟩) ?_
    refine dw_gd (d := (some 24)) (.agg #[.int .i64 ivNone.lo, .int .i64 ivNone.hi, .bool ivNone.no]) rfl (by show ((((near0 (axis26 (ivPoint 0))).1) == (-1)) == true) = true; rw [h1]; rfl) rfl (st_cf (vs := []) (r := .agg #[.int .i64 ivNone.lo, .int .i64 ivNone.hi, .bool ivNone.no]) c_ivNone Try.func28 rfl (by decide) rfl rfl rfl ⟨rfl, rfl⟩) ?_
    refine dw_gd (d := (some 25)) (.bool (decide (((near0 (axis26 (ivPoint 0))).2.1) = ivNone))) rfl (by show ((((near0 (axis26 (ivPoint 0))).1) == (-1)) == true) = true; rw [h1]; rfl) rfl (st_bi (u := .agg #[.int .i64 (((near0 (axis26 (ivPoint 0))).2.1).lo), .int .i64 (((near0 (axis26 (ivPoint 0))).2.1).hi), .bool (((near0 (axis26 (ivPoint 0))).2.1).no)]) (v := .agg #[.int .i64 ivNone.lo, .int .i64 ivNone.hi, .bool ivNone.no]) (r := .bool (decide (((near0 (axis26 (ivPoint 0))).2.1) = ivNone))) rfl rfl rfl (beql_26 ((near0 (axis26 (ivPoint 0))).2.1) ivNone rfl) ⟨rfl, rfl⟩) ?_
    refine dw_op (d := (some 26)) (.bool (decide (((near0 (axis26 (ivPoint 0))).2.1) = ivNone))) rfl rfl rfl (st_pkt' (b := ((near0 (axis26 (ivPoint 0))).1) == (-1)) (v := .bool (decide (((near0 (axis26 (ivPoint 0))).2.1) = ivNone))) h1 rfl rfl rfl ⟨rfl, rfl⟩) ?_
    refine dw_op (d := (some 27)) (.bool (decide (((near0 (axis26 (ivPoint 0))).2.1) = ivNone))) rfl rfl rfl (st_move (v := .bool (decide (((near0 (axis26 (ivPoint 0))).2.1) = ivNone))) rfl rfl ⟨rfl, rfl⟩) ?_
    refine bool_split (decide (((near0 (axis26 (ivPoint 0))).2.1) = ivNone)) (fun h2 => ?_) (fun h2 => ?_)
    · refine dw_gd (d := (some 28)) (.int .i64 ((near0 (axis26 (ivPoint 0))).2.2)) rfl (by show ((decide (((near0 (axis26 (ivPoint 0))).2.1) = ivNone)) == true) = true; rw [h2]; rfl) rfl (st_move (v := .int .i64 ((near0 (axis26 (ivPoint 0))).2.2)) rfl rfl ⟨rfl, rfl⟩) ?_
      refine dw_gd (d := (some 29)) (.bool (((near0 (axis26 (ivPoint 0))).2.2) == 2)) rfl (by show ((decide (((near0 (axis26 (ivPoint 0))).2.1) = ivNone)) == true) = true; rw [h2]; rfl) rfl (st_bi (u := .int .i64 ((near0 (axis26 (ivPoint 0))).2.2)) (v := .int .i64 2) (r := .bool (((near0 (axis26 (ivPoint 0))).2.2) == 2)) rfl rfl rfl (bi_eql rfl) ⟨rfl, rfl⟩) ?_
      refine dw_op (d := (some 30)) (.bool (((near0 (axis26 (ivPoint 0))).2.2) == 2)) rfl rfl rfl (st_pkt' (b := decide (((near0 (axis26 (ivPoint 0))).2.1) = ivNone)) (v := .bool (((near0 (axis26 (ivPoint 0))).2.2) == 2)) h2 rfl rfl rfl ⟨rfl, rfl⟩) ?_
      refine dw_op (d := (some 31)) (.bool (((near0 (axis26 (ivPoint 0))).2.2) == 2)) rfl rfl rfl (st_move (v := .bool (((near0 (axis26 (ivPoint 0))).2.2) == 2)) rfl rfl ⟨rfl, rfl⟩) ?_
      refine bool_split (((near0 (axis26 (ivPoint 0))).2.2) == 2) (fun h3 => ?_) (fun h3 => ?_)
      · refine dw_gd (d := (some 32)) (.int .i64 ((sceneHit (ball26 20 5) (axis26 (ivPoint 0))).2)) rfl (by show ((((near0 (axis26 (ivPoint 0))).2.2) == 2) == true) = true; rw [h3]; rfl) rfl (st_move (v := .int .i64 ((sceneHit (ball26 20 5) (axis26 (ivPoint 0))).2)) rfl rfl ⟨rfl, rfl⟩) ?_
        refine dw_gd (d := (some 33)) (.bool (((sceneHit (ball26 20 5) (axis26 (ivPoint 0))).2) == 1)) rfl (by show ((((near0 (axis26 (ivPoint 0))).2.2) == 2) == true) = true; rw [h3]; rfl) rfl (st_bi (u := .int .i64 ((sceneHit (ball26 20 5) (axis26 (ivPoint 0))).2)) (v := .int .i64 1) (r := .bool (((sceneHit (ball26 20 5) (axis26 (ivPoint 0))).2) == 1)) rfl rfl rfl (bi_eql rfl) ⟨rfl, rfl⟩) ?_
        refine dw_op (d := (some 34)) (.bool (((sceneHit (ball26 20 5) (axis26 (ivPoint 0))).2) == 1)) rfl rfl rfl (st_pkt' (b := ((near0 (axis26 (ivPoint 0))).2.2) == 2) (v := .bool (((sceneHit (ball26 20 5) (axis26 (ivPoint 0))).2) == 1)) h3 rfl rfl rfl ⟨rfl, rfl⟩) ?_
        refine dw_op (d := (some 35)) (.bool (((sceneHit (ball26 20 5) (axis26 (ivPoint 0))).2) == 1)) rfl rfl rfl (st_move (v := .bool (((sceneHit (ball26 20 5) (axis26 (ivPoint 0))).2) == 1)) rfl rfl ⟨rfl, rfl⟩) ?_
        refine bool_split (((sceneHit (ball26 20 5) (axis26 (ivPoint 0))).2) == 1) (fun h4 => ?_) (fun h4 => ?_)
        · refine dw_gd (d := (some 36)) (.agg #[.int .i64 (((sceneHit (ball26 20 5) (axis26 (ivPoint 0))).1).lo), .int .i64 (((sceneHit (ball26 20 5) (axis26 (ivPoint 0))).1).hi), .bool (((sceneHit (ball26 20 5) (axis26 (ivPoint 0))).1).no)]) rfl (by show ((((sceneHit (ball26 20 5) (axis26 (ivPoint 0))).2) == 1) == true) = true; rw [h4]; rfl) rfl (st_lda (g := g1) (off := 0) (vs := [.int .i64 (((sceneHit (ball26 20 5) (axis26 (ivPoint 0))).1).lo), .int .i64 (((sceneHit (ball26 20 5) (axis26 (ivPoint 0))).1).hi), .bool (((sceneHit (ball26 20 5) (axis26 (ivPoint 0))).1).no)]) agg26 0 rfl rfl rfl rfl rfl rfl ⟨rfl, rfl⟩) ?_
          refine dw_gd (d := (some 37)) (.agg #[.int .i64 ((ivWhole 15).lo), .int .i64 ((ivWhole 15).hi), .bool ((ivWhole 15).no)]) rfl (by show ((((sceneHit (ball26 20 5) (axis26 (ivPoint 0))).2) == 1) == true) = true; rw [h4]; rfl) rfl (st_cf (vs := [.int .i64 15]) (r := .agg #[.int .i64 ((ivWhole 15).lo), .int .i64 ((ivWhole 15).hi), .bool ((ivWhole 15).no)]) (c_ivWhole 15) Try.func21 rfl (by decide) rfl rfl rfl ⟨rfl, rfl⟩) ?_
          refine dw_gd (d := (some 38)) (.bool (decide (((sceneHit (ball26 20 5) (axis26 (ivPoint 0))).1) = (ivWhole 15)))) rfl (by show ((((sceneHit (ball26 20 5) (axis26 (ivPoint 0))).2) == 1) == true) = true; rw [h4]; rfl) rfl (st_bi (u := .agg #[.int .i64 (((sceneHit (ball26 20 5) (axis26 (ivPoint 0))).1).lo), .int .i64 (((sceneHit (ball26 20 5) (axis26 (ivPoint 0))).1).hi), .bool (((sceneHit (ball26 20 5) (axis26 (ivPoint 0))).1).no)]) (v := .agg #[.int .i64 ((ivWhole 15).lo), .int .i64 ((ivWhole 15).hi), .bool ((ivWhole 15).no)]) (r := .bool (decide (((sceneHit (ball26 20 5) (axis26 (ivPoint 0))).1) = (ivWhole 15)))) rfl rfl rfl (beql_26 ((sceneHit (ball26 20 5) (axis26 (ivPoint 0))).1) (ivWhole 15) rfl) ⟨rfl, rfl⟩) ?_
          refine dw_op (d := (some 39)) (.bool (decide (((sceneHit (ball26 20 5) (axis26 (ivPoint 0))).1) = (ivWhole 15)))) rfl rfl rfl (st_pkt' (b := ((sceneHit (ball26 20 5) (axis26 (ivPoint 0))).2) == 1) (v := .bool (decide (((sceneHit (ball26 20 5) (axis26 (ivPoint 0))).1) = (ivWhole 15)))) h4 rfl rfl rfl ⟨rfl, rfl⟩) ?_
          refine dw_op (d := (some 0)) (.bool (decide (((sceneHit (ball26 20 5) (axis26 (ivPoint 0))).1) = (ivWhole 15)))) rfl rfl rfl (st_assign (v := .bool (decide (((sceneHit (ball26 20 5) (axis26 (ivPoint 0))).1) = (ivWhole 15)))) rfl rfl ⟨rfl, rfl⟩) ?_
          refine dw_nil ?_
          refine ar_nil ?_
          refine ac_ret ?_
          exact fin_eq (v := .bool (decide (((sceneHit (ball26 20 5) (axis26 (ivPoint 0))).1) = (ivWhole 15)))) (by show _ = (fun (r : Bool) => (.bool r : Value)) known26; rw [known26, h4, h3, h2, h1] <;> rfl) (fin_ret (res_tmp rfl rfl))
        · refine dw_sk (d := (some 36)) rfl (by show ((((sceneHit (ball26 20 5) (axis26 (ivPoint 0))).2) == 1) == true) = false; rw [h4]; rfl) rfl ?_
          refine dw_sk (d := (some 37)) rfl (by show ((((sceneHit (ball26 20 5) (axis26 (ivPoint 0))).2) == 1) == true) = false; rw [h4]; rfl) rfl ?_
          refine dw_sk (d := (some 38)) rfl (by show ((((sceneHit (ball26 20 5) (axis26 (ivPoint 0))).2) == 1) == true) = false; rw [h4]; rfl) rfl ?_
          refine dw_op (d := (some 39)) (.bool false) rfl rfl rfl (st_pkf' (b := ((sceneHit (ball26 20 5) (axis26 (ivPoint 0))).2) == 1) (v := .bool false) h4 rfl rfl rfl ⟨rfl, rfl⟩) ?_
          refine dw_op (d := (some 0)) (.bool false) rfl rfl rfl (st_assign (v := .bool false) rfl rfl ⟨rfl, rfl⟩) ?_
          refine dw_nil ?_
          refine ar_nil ?_
          refine ac_ret ?_
          exact fin_eq (v := .bool false) (by show _ = (fun (r : Bool) => (.bool r : Value)) known26; rw [known26, h4, h3, h2, h1] <;> rfl) (fin_ret (res_tmp rfl rfl))
      · refine dw_sk (d := (some 32)) rfl (by show ((((near0 (axis26 (ivPoint 0))).2.2) == 2) == true) = false; rw [h3]; rfl) rfl ?_
        refine dw_sk (d := (some 33)) rfl (by show ((((near0 (axis26 (ivPoint 0))).2.2) == 2) == true) = false; rw [h3]; rfl) rfl ?_
        refine dw_op (d := (some 34)) (.bool false) rfl rfl rfl (st_pkf' (b := ((near0 (axis26 (ivPoint 0))).2.2) == 2) (v := .bool false) h3 rfl rfl rfl ⟨rfl, rfl⟩) ?_
        refine dw_op (d := (some 35)) (.bool false) rfl rfl rfl (st_move (v := .bool false) rfl rfl ⟨rfl, rfl⟩) ?_
        refine dw_sk (d := (some 36)) rfl rfl rfl ?_
        refine dw_sk (d := (some 37)) rfl rfl rfl ?_
        refine dw_sk (d := (some 38)) rfl rfl rfl ?_
        refine dw_op (d := (some 39)) (.bool false) rfl rfl rfl (st_pkf (v := .bool false) rfl rfl rfl ⟨rfl, rfl⟩) ?_
        refine dw_op (d := (some 0)) (.bool false) rfl rfl rfl (st_assign (v := .bool false) rfl rfl ⟨rfl, rfl⟩) ?_
        refine dw_nil ?_
        refine ar_nil ?_
        refine ac_ret ?_
        exact fin_eq (v := .bool false) (by show _ = (fun (r : Bool) => (.bool r : Value)) known26; rw [known26, h3, h2, h1] <;> rfl) (fin_ret (res_tmp rfl rfl))
    · refine dw_sk (d := (some 28)) rfl (by show ((decide (((near0 (axis26 (ivPoint 0))).2.1) = ivNone)) == true) = false; rw [h2]; rfl) rfl ?_
      refine dw_sk (d := (some 29)) rfl (by show ((decide (((near0 (axis26 (ivPoint 0))).2.1) = ivNone)) == true) = false; rw [h2]; rfl) rfl ?_
      refine dw_op (d := (some 30)) (.bool false) rfl rfl rfl (st_pkf' (b := decide (((near0 (axis26 (ivPoint 0))).2.1) = ivNone)) (v := .bool false) h2 rfl rfl rfl ⟨rfl, rfl⟩) ?_
      refine dw_op (d := (some 31)) (.bool false) rfl rfl rfl (st_move (v := .bool false) rfl rfl ⟨rfl, rfl⟩) ?_
      refine dw_sk (d := (some 32)) rfl rfl rfl ?_
      refine dw_sk (d := (some 33)) rfl rfl rfl ?_
      refine dw_op (d := (some 34)) (.bool false) rfl rfl rfl (st_pkf (v := .bool false) rfl rfl rfl ⟨rfl, rfl⟩) ?_
      refine dw_op (d := (some 35)) (.bool false) rfl rfl rfl (st_move (v := .bool false) rfl rfl ⟨rfl, rfl⟩) ?_
      refine dw_sk (d := (some 36)) rfl rfl rfl ?_
      refine dw_sk (d := (some 37)) rfl rfl rfl ?_
      refine dw_sk (d := (some 38)) rfl rfl rfl ?_
      refine dw_op (d := (some 39)) (.bool false) rfl rfl rfl (st_pkf (v := .bool false) rfl rfl rfl ⟨rfl, rfl⟩) ?_
      refine dw_op (d := (some 0)) (.bool false) rfl rfl rfl (st_assign (v := .bool false) rfl rfl ⟨rfl, rfl⟩) ?_
      refine dw_nil ?_
      refine ar_nil ?_
      refine ac_ret ?_
      exact fin_eq (v := .bool false) (by show _ = (fun (r : Bool) => (.bool r : Value)) known26; rw [known26, h2, h1] <;> rfl) (fin_ret (res_tmp rfl rfl))
  · refine dw_sk (d := (some 23)) rfl (by show ((((near0 (axis26 (ivPoint 0))).1) == (-1)) == true) = false; rw [h1]; rfl) rfl ?_
    refine dw_sk (d := (some 24)) rfl (by show ((((near0 (axis26 (ivPoint 0))).1) == (-1)) == true) = false; rw [h1]; rfl) rfl ?_
    refine dw_sk (d := (some 25)) rfl (by show ((((near0 (axis26 (ivPoint 0))).1) == (-1)) == true) = false; rw [h1]; rfl) rfl ?_
    refine dw_op (d := (some 26)) (.bool false) rfl rfl rfl (st_pkf' (b := ((near0 (axis26 (ivPoint 0))).1) == (-1)) (v := .bool false) h1 rfl rfl rfl ⟨rfl, rfl⟩) ?_
    refine dw_op (d := (some 27)) (.bool false) rfl rfl rfl (st_move (v := .bool false) rfl rfl ⟨rfl, rfl⟩) ?_
    refine dw_sk (d := (some 28)) rfl rfl rfl ?_
    refine dw_sk (d := (some 29)) rfl rfl rfl ?_
    refine dw_op (d := (some 30)) (.bool false) rfl rfl rfl (st_pkf (v := .bool false) rfl rfl rfl ⟨rfl, rfl⟩) ?_
    refine dw_op (d := (some 31)) (.bool false) rfl rfl rfl (st_move (v := .bool false) rfl rfl ⟨rfl, rfl⟩) ?_
    refine dw_sk (d := (some 32)) rfl rfl rfl ?_
    refine dw_sk (d := (some 33)) rfl rfl rfl ?_
    refine dw_op (d := (some 34)) (.bool false) rfl rfl rfl (st_pkf (v := .bool false) rfl rfl rfl ⟨rfl, rfl⟩) ?_
    refine dw_op (d := (some 35)) (.bool false) rfl rfl rfl (st_move (v := .bool false) rfl rfl ⟨rfl, rfl⟩) ?_
    refine dw_sk (d := (some 36)) rfl rfl rfl ?_
    refine dw_sk (d := (some 37)) rfl rfl rfl ?_
    refine dw_sk (d := (some 38)) rfl rfl rfl ?_
    refine dw_op (d := (some 39)) (.bool false) rfl rfl rfl (st_pkf (v := .bool false) rfl rfl rfl ⟨rfl, rfl⟩) ?_
    refine dw_op (d := (some 0)) (.bool false) rfl rfl rfl (st_assign (v := .bool false) rfl rfl ⟨rfl, rfl⟩) ?_
    refine dw_nil ?_
    refine ar_nil ?_
    refine ac_ret ?_
    exact fin_eq (v := .bool false) (by show _ = (fun (r : Bool) => (.bool r : Value)) known26; rw [known26, h1] <;> rfl) (fin_ret (res_tmp rfl rfl))
end Go.Proofs.Ythngkopcadlciaa
namespace Go.Proofs.Ythngkopcadlciaa
theorem known26_true : known26 = true := by decide +kernel
theorem decOf0 : decOf ⟨0, 0⟩ = pt 0 := by decide +kernel
theorem decOf_whole {z : Int} (h : -16384 ≤ z ∧ z ≤ 16384) : decOf ⟨z, 0⟩ = pt (z * 65536) := by
  have hr : decRight ⟨z, 0⟩ = true := by
    unfold decRight
    simp only [ge_iff_le]
    rw [decide_eq_true (by omega), decide_eq_true (by omega)]
    rfl
  have p1 : decPower 0 = 1 := rfl
  have f1 : ∀ a : Int, -1073741824 ≤ a ∧ a ≤ 1073741824 → numFloor a 1 = a := by
    intro a ha
    unfold numFloor
    simp [w64_of (n := a) (by omega) (by omega)]
  unfold decOf decOf_e1 decOf_e0
  rw [hr]
  simp only [cond_true, p1]
  rw [w64_of (n := z * 65536) (by omega) (by omega), w64_of (n := 0 - z * 65536) (by omega) (by omega), f1 _ (by omega), f1 _ (by omega), w64_of (by omega) (by omega)]
  rw [show 0 - (0 - z * 65536) = z * 65536 from by omega]
  exact ivOf_in ⟨by omega, by omega, by omega⟩
theorem sub0 {a : Iv} (h : R a) : ivSub a (pt 0) = a := by
  rw [ivSub_spec h (R_pt (by decide))]
  show ivOf (a.lo - 0) (a.hi - 0) = a
  rw [Int.sub_zero, Int.sub_zero]
  exact ivOf_R h
theorem sub0_out {a : Iv} (h : ¬ R a) : ivSub a (pt 0) = ivNone := ivSub_out (fun k => h k.1)
theorem negsub0 (a : Iv) : ivSub (ivNeg a) (pt 0) = ivNeg (ivSub a (pt 0)) := by
  by_cases h : R a
  · rw [sub0 h, sub0 (R_neg.2 h)]
  · rw [sub0_out h, sub0_out (fun k => h (R_neg.1 k)), ivNeg_none]
theorem vsub_turn1 (o : V) (c : Iv) : vecSub (turn1 o) ⟨pt 0, pt 0, c⟩ = turn1 (vecSub o ⟨pt 0, pt 0, c⟩) := by
  show (⟨ivSub (ivNeg o.y) (pt 0), ivSub o.x (pt 0), ivSub o.z c⟩ : V) = ⟨ivNeg (ivSub o.y (pt 0)), ivSub o.x (pt 0), ivSub o.z c⟩
  rw [negsub0]
theorem vsub_turn (o : V) (c : Iv) (k : Int) : vecSub (vecTurn o k) ⟨pt 0, pt 0, c⟩ = vecTurn (vecSub o ⟨pt 0, pt 0, c⟩) k := by
  rcases k4 k with h | h | h | h
  · rw [t0 h, t0 h]
  · rw [t1 h, t1 h, vsub_turn1]
  · rw [t2 h, t2 h, vsub_turn1, vsub_turn1]
  · rw [t3 h, t3 h, vsub_turn1, vsub_turn1, vsub_turn1]
theorem vsub_mirror (o : V) (c : Iv) : vecSub (vecMirror o) ⟨pt 0, pt 0, c⟩ = vecMirror (vecSub o ⟨pt 0, pt 0, c⟩) := by
  show (⟨ivSub o.x (pt 0), ivSub (ivNeg o.y) (pt 0), ivSub o.z c⟩ : V) = ⟨ivSub o.x (pt 0), ivNeg (ivSub o.y (pt 0)), ivSub o.z c⟩
  rw [negsub0]
theorem turn_z (a : V) (k : Int) : (vecTurn a k).z = a.z := by
  rcases k4 k with h | h | h | h
  · rw [t0 h]
  · rw [t1 h]; rfl
  · rw [t2 h]; rfl
  · rw [t3 h]; rfl
theorem meet_turn (s : Shape) (hx : s.x = ⟨0, 0⟩) (hy : s.y = ⟨0, 0⟩) (o d : V) (k : Int) : sceneMeet s ⟨vecTurn o k, vecTurn d k⟩ = sceneMeet s ⟨o, d⟩ := by
  unfold sceneMeet sceneMeet_e2 sceneMeet_e1 sceneMeet_e0
  simp only [hx, hy, decOf0]
  rw [show vecOf (pt 0) (pt 0) (decOf s.z) = ⟨pt 0, pt 0, decOf s.z⟩ from rfl, vsub_turn, dot_turn, len2_turn, len2_turn, turn_z, turn_z]
theorem meet_mirror (s : Shape) (hx : s.x = ⟨0, 0⟩) (hy : s.y = ⟨0, 0⟩) (o d : V) : sceneMeet s ⟨vecMirror o, vecMirror d⟩ = sceneMeet s ⟨o, d⟩ := by
  unfold sceneMeet sceneMeet_e2 sceneMeet_e1 sceneMeet_e0
  simp only [hx, hy, decOf0]
  rw [show vecOf (pt 0) (pt 0) (decOf s.z) = ⟨pt 0, pt 0, decOf s.z⟩ from rfl, vsub_mirror, dot_mirror, len2_mirror, len2_mirror]
  rfl
theorem hit_turn (s : Shape) (hx : s.x = ⟨0, 0⟩) (hy : s.y = ⟨0, 0⟩) (o d : V) (k : Int) : sceneHit s ⟨vecTurn o k, vecTurn d k⟩ = sceneHit s ⟨o, d⟩ := by
  unfold sceneHit
  rw [meet_turn s hx hy]
theorem hit_mirror (s : Shape) (hx : s.x = ⟨0, 0⟩) (hy : s.y = ⟨0, 0⟩) (o d : V) : sceneHit s ⟨vecMirror o, vecMirror d⟩ = sceneHit s ⟨o, d⟩ := by
  unfold sceneHit
  rw [meet_mirror s hx hy]
theorem unit_z (a : V) (ha : 0 ≤ a.z.lo) (h : R (vecUnit a).z) : 0 ≤ (vecUnit a).z.lo := by
  have hz : (vecUnit a).z = ivDiv a.z (ivRoot (vecLen2 a)) := rfl
  rw [hz] at h ⊢
  obtain ⟨ra, rb, h0⟩ := R_div h
  have hr := R_root.1 rb
  have e := ivRoot_val hr.1 hr.2
  have hlo : 0 ≤ (ivRoot (vecLen2 a)).lo := by
    rw [e]
    exact (rootf_le hr.2 (by have := hr.1.2; omega)).1
  have hb := rb.2
  have ed := ivDiv_val ra rb h0
  have hR := h
  rw [ed] at hR
  have b := R_of.1 hR
  rw [ed, ivOf_in b]
  have ra2 := ra.2
  have g1 : ∀ x y : Int, 0 ≤ x → 0 < y → 0 ≤ dq x y false := fun x y hx hy => (le_dq (by omega)).2 (.inl ⟨hy, by omega⟩)
  have k1 := g1 a.z.lo (ivRoot (vecLen2 a)).lo ha (by omega)
  have k2 := g1 a.z.lo (ivRoot (vecLen2 a)).hi ha (by omega)
  have k3 := g1 a.z.hi (ivRoot (vecLen2 a)).lo (by omega) (by omega)
  have k4 := g1 a.z.hi (ivRoot (vecLen2 a)).hi (by omega) (by omega)
  show 0 ≤ min4 _ _ _ _
  simp only [min4]
  omega
theorem ray_z (x : RawRay) : (hRay x).o.z = pt 0 ∧ (R (hRay x).d.z → 0 ≤ (hRay x).d.z.lo) := by
  unfold hRay hRay_e1 hRay_e2
  simp only [rVecUnit_eq]
  cases (Int.tmod x.wide 5) == 4 <;> cases (Int.tmod x.lean 3) == 2 <;> exact ⟨rfl, fun h => unit_z _ (show (0 : Int) ≤ 65536 by decide) h⟩
end Go.Proofs.Ythngkopcadlciaa
namespace Go.Proofs.Ythngkopcadlciaa
open Go.RowKit
section
variable {p : Program} {n : Nat} {ops : Array Oper} {Q : Exit → Env → List Box → Prop}
def lookOk (ops : Array Oper) (B : List Nat) (o : Oper) : Bool :=
  (Oper.looksAt ops o).all fun t => B.contains t || ((List.range ops.size).any fun k => bindsOn o k && (match dstOf ops k with | some d => Nat.beq d t | none => false))
def stageOk (ops : Array Oper) (Ms B S todo nxt dn bl : List Nat) : Bool :=
  Region.noSelect ops
  && ((List.range ops.size).all fun i => match ops[i]? with | some o => (o.after.all fun e => !(Region.binds .any e) || Nat.blt e.on i) | none => false)
  && (todo.all fun i => !(Ms.contains i) && (match ops[i]? with | some o => lookOk ops B o | none => false))
  && (nxt.all fun i => Ms.contains i && !(S.contains i) && (match ops[i]? with | some o => lookOk ops B o | none => false))
  && (bl.all fun i => (List.range ops.size).any fun k => before_ ops i k && ((Ms.contains k && !(S.contains k)) || (bl.contains k && Nat.blt k i)))
  && (S.all fun i => Ms.contains i)
  && ((List.range ops.size).all fun i => S.contains i || dn.contains i || todo.contains i || nxt.contains i || bl.contains i)
def dnOk (ops : Array Oper) (m : Nat) (dn dn' : List Nat) : Bool :=
  dn'.all fun i => dn.contains i || (List.range ops.size).any fun k => before_ ops k i && (Nat.beq k m || (dn'.contains k && Nat.blt i k))
def SameAt (E F : Env) : List Nat → Prop
  | [] => True
  | t :: ts => E t = F t ∧ SameAt E F ts
theorem sameAt_mem {E F : Env} : ∀ {l : List Nat}, SameAt E F l → ∀ t ∈ l, E t = F t
  | [], _, _, h => by cases h
  | s :: l, h, t, ht => by
    rcases List.mem_cons.1 ht with rfl | ht
    · exact h.1
    · exact sameAt_mem h.2 t ht
theorem sameAt_of {E F : Env} : ∀ {l : List Nat}, (∀ t ∈ l, E t = F t) → SameAt E F l
  | [], _ => trivial
  | s :: l, h => ⟨h s List.mem_cons_self, sameAt_of fun t ht => h t (List.mem_cons_of_mem _ ht)⟩
def undone (ops : Array Oper) (L : Array Bool) : Nat := (List.range ops.size).countP fun i => !(L.getD i false)
theorem countP_one (f g : Nat → Bool) (i : Nat) : ∀ l : List Nat, l.Nodup → i ∈ l → (∀ j, j ≠ i → f j = g j) → f i = true → g i = false → l.countP f = l.countP g + 1
  | [], _, h, _, _, _ => by cases h
  | x :: l, hn, h, he, h1, h2 => by
    simp only [List.nodup_cons] at hn
    rcases List.mem_cons.1 h with rfl | h
    · rw [List.countP_cons_of_pos h1, List.countP_cons_of_neg (by rw [h2]; exact Bool.false_ne_true)]
      have : l.countP f = l.countP g := List.countP_congr fun j hj => by rw [he j (fun e => hn.1 (e ▸ hj))]
      omega
    · have hx : x ≠ i := fun e => hn.1 (e ▸ h)
      have ih := countP_one f g i l hn.2 h he h1 h2
      rw [List.countP_cons, List.countP_cons, he x hx, ih]
      omega
theorem undone_set {L : Array Bool} {i : Nat} (hs : L.size = ops.size) (hi : i < ops.size) (hl : L.getD i false = false) : undone ops L = undone ops (L.setIfInBounds i true) + 1 := by
  refine countP_one _ _ i _ List.nodup_range (List.mem_range.2 hi) (fun j hj => ?_) (by rw [hl]; rfl) ?_
  · rw [getD_set_ne false (Ne.symm hj)]
  · have : (L.setIfInBounds i true).getD i false = true := by simp [hs, hi]
    rw [this]; rfl
theorem look_congr {E F : Env} {o : Oper} {i : Nat} (ho : ops[i]? = some o) (hsel : Region.noSelect ops = true) (hl : ∀ t ∈ Oper.looksAt ops o, E t = F t) : execOp (ev n E) o = execOp (ev n F) o ∧ yld n ops E o = yld n ops F o := by
  have he : ∀ t, t ∈ Oper.looksAt ops o → ev n E (.tmp t) = ev n F (.tmp t) := fun t ht => by simp only [ev, hl t ht]
  refine ⟨execOp_congr o (fun cs b => Region.noSelect_spec hsel i o cs b ho) (fun x hx => ?_), ?_⟩
  · cases x with
    | tmp t => exact he t (List.mem_append_left _ (List.mem_filterMap.2 ⟨.tmp t, by simpa using hx, rfl⟩))
    | _ => rfl
  · unfold yld
    cases hg : o.guard with
    | none => rfl
    | some gw =>
      obtain ⟨j, want⟩ := gw
      cases hd : (ops[j]?).bind (·.dst) with
      | none => simp [hd]
      | some t =>
        simp only [hd]
        rw [he t (by simp [Oper.looksAt, hg, hd])]
def Stage (p : Program) (n : Nat) (ops : Array Oper) (Q : Exit → Env → List Box → Prop) (Ms B S dn : List Nat) (F : Env) (H : List Box) : Prop :=
  ∀ (L : Array Bool) (E : Env), L.size = ops.size → Down ops L → (∀ m ∈ Ms, L.getD m false = S.contains m) → (∀ i ∈ dn, L.getD i false = true) → (∀ t ∈ B, E t = F t) → (∀ i, L.getD i false = true → ∀ d, dstOf ops i = some d → E d = F d) →
    ∀ β w a, Own β H w → Keeps β w → Sees n E a → wpAny p .any ops (AQ n β Q) (undone ops L) L a w
def TellsF (p : Program) (n : Nat) (ops : Array Oper) (H : List Box) (F : Env) (i : Nat) : Prop := ∃ v, Tells p n ops H F i v ∧ ∀ d, dstOf ops i = some d → v = F d
def slotsOf (ops : Array Oper) (B : List Nat) (l : List Nat) : List Nat := B ++ l.filterMap (dstOf ops)
theorem stage_rule {Ms B S dn : List Nat} {F : Env} {H : List Box} (todo nxt bl : List Nat) (hok : stageOk ops Ms B S todo nxt dn bl = true)
    (hq : Each (TellsF p n ops H F) todo)
    (hm : Each (fun i => OpR p n ops F H i fun F1 H' => ∃ F' dn', SameAt F' F1 (slotsOf ops B (dn ++ todo ++ S ++ [i])) ∧ dnOk ops i dn dn' = true ∧ Stage p n ops Q Ms B (i :: S) dn' F' H') nxt)
    (hfin : nxt = [] → ∀ E, (∀ t ∈ slotsOf ops B (dn ++ todo ++ S), E t = F t) → Q .normal E H) : Stage p n ops Q Ms B S dn F H := by
  simp only [stageOk, Bool.and_eq_true, List.all_eq_true, List.mem_range] at hok
  obtain ⟨⟨⟨⟨⟨⟨hsel, hback⟩, htodo⟩, hnxt⟩, hbl⟩, hSM⟩, hcov⟩ := hok
  have back : ∀ i o, ops[i]? = some o → ∀ e ∈ o.after, Region.binds .any e = true → e.on < i := by
    intro i o ho e he hb
    have := hback i (Array.getElem?_eq_some_iff.1 ho).1
    rw [ho] at this
    have h := Array.all_eq_true_iff_forall_mem.1 this e he
    simpa [hb] using h
  suffices key : ∀ (fuel : Nat) (L : Array Bool) (E : Env), undone ops L = fuel → L.size = ops.size → Down ops L → (∀ m ∈ Ms, L.getD m false = S.contains m) → (∀ i ∈ dn, L.getD i false = true) → (∀ t ∈ B, E t = F t) → (∀ i, L.getD i false = true → ∀ d, dstOf ops i = some d → E d = F d) →
      ∀ β w a, Own β H w → Keeps β w → Sees n E a → wpAny p .any ops (AQ n β Q) fuel L a w by
    intro L E h1 h2 h3 h4 h5 h6
    exact key _ L E rfl h1 h2 h3 h4 h5 h6
  intro fuel
  induction fuel with
  | zero =>
    intro L E hu hs hd hM hdn hB hE β w a hO hK hse
    have all : ∀ i, i < ops.size → L.getD i false = true := by
      intro i hi
      have := (List.countP_eq_zero.1 hu) i (List.mem_range.2 hi)
      simpa using this
    have hr : Region.ready .any ops L = [] := by
      apply List.eq_nil_iff_forall_not_mem.2
      intro i hi
      obtain ⟨h0, o, ho, _⟩ := mem_ready.1 hi
      have hlt := (Array.getElem?_eq_some_iff.1 ho).1
      have := all i hlt
      simp only [Array.getD_eq_getD_getElem?] at this h0
      cases hq : L[i]? with
      | none => simp [hq] at this
      | some b => simp [hq] at this h0; rw [this] at h0; cases h0
    have hn : nxt = [] := by
      cases hx : nxt with
      | nil => rfl
      | cons m ms =>
        have h1 := hnxt m (by rw [hx]; exact List.mem_cons_self)
        simp only [Bool.and_eq_true, Bool.not_eq_true'] at h1
        have h2 := hM m (by simpa using h1.1.1)
        rw [h1.1.2] at h2
        cases ho : ops[m]? with
        | none => simp [ho] at h1
        | some o =>
          have := all m (Array.getElem?_eq_some_iff.1 ho).1
          rw [this] at h2
          cases h2
    refine ⟨hr, E, H, hfin hn E (fun t ht => ?_), hse, hO, hK⟩
    rcases List.mem_append.1 ht with ht | ht
    · exact hB t ht
    · obtain ⟨i, hi, hd⟩ := List.mem_filterMap.1 ht
      refine hE i ?_ t hd
      unfold dstOf at hd
      cases ho : ops[i]? with
      | none => simp [ho] at hd
      | some o => exact all i (Array.getElem?_eq_some_iff.1 ho).1
  | succ fuel ih =>
    intro L E hu hs hd hM hdn hB hE β w a hO hK hse
    have notbl : ∀ m i, i < m → i ∈ bl → L.getD i false = false := by
      intro m
      induction m with
      | zero => intro i h; omega
      | succ m ihm =>
        intro i him hi
        obtain ⟨k, hk, hb⟩ := List.any_eq_true.1 (hbl i hi)
        simp only [Bool.and_eq_true, Bool.or_eq_true, Bool.not_eq_true', Nat.blt_eq] at hb
        obtain ⟨o, ho, e, he, hbd, hon⟩ := before_spec hb.1
        have hkf : L.getD k false = false := by
          rcases hb.2 with h | h
          · rw [hM k (by simpa using h.1), h.2]
          · exact ihm k (by omega) (by simpa using h.1)
        cases hl : L.getD i false with
        | false => rfl
        | true =>
          have := hd i o ho hl e he hbd
          rw [hon, hkf] at this
          cases this
    refine ⟨fun hr => ?_, fun i hi => ?_⟩
    · -- something has not come up: something may
      exfalso
      have hex : ∃ i, i < ops.size ∧ L.getD i false = false := by
        refine Classical.byContradiction fun hc => ?_
        have : undone ops L = 0 := List.countP_eq_zero.2 fun i hi => by
          have hi' := List.mem_range.1 hi
          cases hl : L.getD i false with
          | true => simp
          | false => exact absurd ⟨i, hi', hl⟩ hc
        omega
      have rs : ∀ m i, i < m → i < ops.size → L.getD i false = false → ∃ j, j ∈ Region.ready .any ops L := by
        intro m
        induction m with
        | zero => intro i h; omega
        | succ m ihm =>
          intro i him hi hl
          obtain ⟨o, ho⟩ : ∃ o, ops[i]? = some o := ⟨_, Array.getElem?_eq_getElem hi⟩
          by_cases hall : ∀ e ∈ o.after, Region.binds .any e = true → L.getD e.on false = true
          · refine ⟨i, mem_ready.2 ⟨?_, o, ho, hall⟩⟩
            have hi' : i < L.size := by omega
            simpa [hi'] using hl
          · obtain ⟨e, he, hb, hne⟩ : ∃ e, e ∈ o.after ∧ Region.binds .any e = true ∧ ¬ L.getD e.on false = true := by
              refine Classical.byContradiction fun hc => hall fun e he hb => ?_
              exact Classical.byContradiction fun hn => hc ⟨e, he, hb, hn⟩
            have hlt := back i o ho e he hb
            exact ihm e.on (by omega) (by omega) (by simpa using hne)
      obtain ⟨i, hi, hl⟩ := hex
      obtain ⟨j, hj⟩ := rs (i + 1) i (by omega) hi hl
      rw [hr] at hj
      cases hj
    · obtain ⟨h0, o, ho, hall⟩ := mem_ready.1 hi
      have hlt := (Array.getElem?_eq_some_iff.1 ho).1
      have hl : L.getD i false = false := by
        have hi' : i < L.size := by omega
        simpa [hi'] using h0
      have hcnt := undone_set hs hlt hl
      have hs' : (L.setIfInBounds i true).size = ops.size := by simp [hs]
      have hd' := hd.set hi
      have hLi : (L.setIfInBounds i true).getD i false = true := by simp [hs, hlt]
      have hLj : ∀ j, j ≠ i → (L.setIfInBounds i true).getD j false = L.getD j false := fun j hj => getD_set_ne false (Ne.symm hj)
      have looks : lookOk ops B o = true → ∀ t ∈ Oper.looksAt ops o, E t = F t := by
        intro hlk t ht
        have := List.all_eq_true.1 hlk t ht
        rw [Bool.or_eq_true, List.any_eq_true] at this
        rcases this with h | ⟨k, hk, h⟩
        · exact hB t (by simpa using h)
        · simp only [Bool.and_eq_true] at h
          obtain ⟨hbo, hdt⟩ := h
          unfold bindsOn at hbo
          obtain ⟨e, he, hbb⟩ := Array.any_eq_true'.1 hbo
          simp only [Bool.and_eq_true, beq_iff_eq] at hbb
          have hlk := hall e he hbb.1
          rw [hbb.2] at hlk
          cases hdk : dstOf ops k with
          | none => simp [hdk] at hdt
          | some d =>
            simp only [hdk] at hdt
            have : d = t := Nat.eq_of_beq_eq_true hdt
            rw [← this]
            exact hE k hlk d hdk
      have hc := hcov i hlt
      simp only [Bool.or_eq_true] at hc
      have notS : S.contains i = false := by
        cases hS : S.contains i with
        | false => rfl
        | true =>
          have hm := hSM i (by simpa using hS)
          rw [hM i (by simpa using hm), hS] at hl
          cases hl
      have hfu : undone ops (L.setIfInBounds i true) = fuel := by omega
      unfold wpOp
      simp only [ho]
      rw [hse.yld]
      have htn : i ∈ todo ∨ i ∈ nxt := by
        rcases hc with (((h | h) | h) | h) | h
        · rw [notS] at h; cases h
        · have := hdn i (by simpa using h)
          rw [hl] at this; cases this
        · exact .inl (by simpa using h)
        · exact .inr (by simpa using h)
        · exfalso
          have hib : i ∈ bl := by simpa using h
          obtain ⟨k, hk, hb⟩ := List.any_eq_true.1 (hbl i hib)
          simp only [Bool.and_eq_true, Bool.or_eq_true, Bool.not_eq_true', Nat.blt_eq] at hb
          obtain ⟨o', ho', e, he, hbd, hon⟩ := before_spec hb.1
          rw [ho] at ho'
          cases ho'
          have h1 := hall e he hbd
          rw [hon] at h1
          rcases hb.2 with h | h
          · rw [hM k (by simpa using h.1), h.2] at h1; cases h1
          · rw [notbl (k + 1) k (by omega) (by simpa using h.1)] at h1; cases h1
      rcases htn with hti | hni
      · -- one that tells the same
        have ht := htodo i hti
        rw [ho] at ht
        simp only [Bool.and_eq_true, Bool.not_eq_true'] at ht
        have hl' := looks ht.2
        obtain ⟨v, hT, hv⟩ := each_mem hq i hti
        obtain ⟨o', ho', hT⟩ := tells_congr (E' := E) hsel hT (fun o' ho' t htl => by rw [ho] at ho'; cases ho'; exact hl' t htl)
        rw [ho] at ho'
        cases ho'
        have hdst : dstOf ops i = o.dst := by simp [dstOf, ho]
        have go : ∀ w' a' , Own β H w' → Keeps β w' → Sees n (E.put o.dst v) a' → wpAny p .any ops (AQ n β Q) fuel (L.setIfInBounds i true) a' w' := by
          intro w' a' hO' hK' hs2
          refine ih _ (E.put o.dst v) hfu hs' hd' (fun m hm => ?_) (fun j hj => getD_set_true (hdn j hj)) (fun t htB => ?_) (fun j hj d hdj => ?_) β w' a' hO' hK' hs2
          · have hne : m ≠ i := by
              intro e
              have := ht.1
              rw [← e] at this
              simp [hm] at this
            rw [hLj m hne]
            exact hM m hm
          · rw [put_apply]
            split
            · rename_i h; exact hv t (by rw [hdst]; exact h)
            · exact hB t htB
          · rw [put_apply]
            split
            · rename_i h; exact hv d (by rw [hdst]; exact h)
            · rename_i h
              by_cases hji : j = i
              · subst hji; rw [hdst] at hdj; exact absurd hdj h
              · rw [hLj j hji] at hj
                exact hE j hj d hdj
        rcases hT with ⟨hw, hstep⟩ | ⟨hw, hvu⟩
        · rw [hw, if_pos rfl]
          refine .inl (hstep.wp hse hO hK ?_)
          rintro v' H' w' ⟨rfl, rfl⟩ hO' hK'
          exact go w' _ hO' hK' (hse.put _ _)
        · rw [hw, if_neg (by simp)]
          subst hvu
          exact go w _ hO hK (hse.put _ _)
      · -- one that makes or writes
        have ht := hnxt i hni
        rw [ho] at ht
        simp only [Bool.and_eq_true, Bool.not_eq_true'] at ht
        have hl' := looks ht.2
        obtain ⟨o', ho', hT⟩ := each_mem hm i hni
        rw [ho] at ho'
        cases ho'
        obtain ⟨hx, hy⟩ := look_congr (n := n) ho hsel hl'
        have hdst : dstOf ops i = o.dst := by simp [dstOf, ho]
        have go : ∀ v w' a' H' F' dn', SameAt F' (F.put o.dst v) (slotsOf ops B (dn ++ todo ++ S ++ [i])) → dnOk ops i dn dn' = true → Stage p n ops Q Ms B (i :: S) dn' F' H' → Own β H' w' → Keeps β w' → Sees n (E.put o.dst v) a' → wpAny p .any ops (AQ n β Q) fuel (L.setIfInBounds i true) a' w' := by
          intro v w' a' H' F' dn' hsame hdn' hst hO' hK' hs2
          have hin : ∀ j, (L.setIfInBounds i true).getD j false = true → j ∈ dn ++ todo ++ S ++ [i] := by
            intro j hj
            by_cases hji : j = i
            · rw [hji]; simp
            · rw [hLj j hji] at hj
              have hjl : j < ops.size := by
                have : j < L.size := by
                  refine Nat.lt_of_not_le fun hle => ?_
                  simp [Array.getElem?_eq_none hle] at hj
                omega
              have hc2 := hcov j hjl
              simp only [Bool.or_eq_true] at hc2
              rcases hc2 with (((h | h) | h) | h) | h
              · have : j ∈ S := by simpa using h
                simp [this]
              · have : j ∈ dn := by simpa using h
                simp [this]
              · have : j ∈ todo := by simpa using h
                simp [this]
              · have h1 := hnxt j (by simpa using h)
                simp only [Bool.and_eq_true, Bool.not_eq_true'] at h1
                rw [hM j (by simpa using h1.1.1), h1.1.2] at hj
                cases hj
              · rw [notbl (j + 1) j (by omega) (by simpa using h)] at hj
                cases hj
          have hsm := sameAt_mem hsame
          have := hst (L.setIfInBounds i true) (E.put o.dst v) hs' hd' (fun m hm => ?_) ?_ (fun t htB => ?_) (fun j hj d hdj => ?_) β w' a' hO' hK' hs2
          · rw [hfu] at this; exact this
          · by_cases hmi : m = i
            · rw [hmi, hLi]; simp
            · rw [hLj m hmi, hM m hm]
              simp [hmi]
          · -- what is sure to have come up
            simp only [dnOk, List.all_eq_true] at hdn'
            have kd : ∀ q j, ops.size - j ≤ q → j ∈ dn' → (L.setIfInBounds i true).getD j false = true := by
              intro q
              induction q with
              | zero =>
                intro j hq hj
                have h := hdn' j hj
                rw [Bool.or_eq_true, List.any_eq_true] at h
                rcases h with h | ⟨k, hk, h⟩
                · exact getD_set_true (hdn j (by simpa using h))
                · simp only [Bool.and_eq_true] at h
                  obtain ⟨o2, ho2, e, he, hbd, hon⟩ := before_spec h.1
                  have h1 := back k o2 ho2 e he hbd
                  have h2 := (Array.getElem?_eq_some_iff.1 ho2).1
                  omega
              | succ q ihq =>
                intro j hq hj
                have h := hdn' j hj
                rw [Bool.or_eq_true, List.any_eq_true] at h
                rcases h with h | ⟨k, hk, h⟩
                · exact getD_set_true (hdn j (by simpa using h))
                · simp only [Bool.and_eq_true, Bool.or_eq_true, Nat.blt_eq] at h
                  obtain ⟨hbf, h⟩ := h
                  obtain ⟨o2, ho2, e, he, hbd, hon⟩ := before_spec hbf
                  have h1 := back k o2 ho2 e he hbd
                  have hkt : (L.setIfInBounds i true).getD k false = true := by
                    rcases h with h | h
                    · rw [Nat.eq_of_beq_eq_true h]; exact hLi
                    · exact ihq k (by omega) (by simpa using h.1)
                  have := hd' k o2 ho2 hkt e he hbd
                  rw [hon] at this
                  exact this
            exact fun j hj => kd _ j (Nat.le_refl _) hj
          · rw [hsm t (List.mem_append_left _ htB), put_apply, put_apply]
            split
            · rfl
            · exact hB t htB
          · have hmem : d ∈ slotsOf ops B (dn ++ todo ++ S ++ [i]) := List.mem_append_right _ (List.mem_filterMap.2 ⟨j, hin j hj, hdj⟩)
            rw [hsm d hmem, put_apply, put_apply]
            split
            · rfl
            · rename_i h
              by_cases hji : j = i
              · subst hji; rw [hdst] at hdj; exact absurd hdj h
              · rw [hLj j hji] at hj
                exact hE j hj d hdj
        rw [hy]
        rcases hT with ⟨hw, hstep⟩ | ⟨hw, hk⟩
        · rw [hw, if_pos rfl]
          have hstep' : Step p (ev n E) o H fun v H' => ∃ F' dn', SameAt F' (F.put o.dst v) (slotsOf ops B (dn ++ todo ++ S ++ [i])) ∧ dnOk ops i dn dn' = true ∧ Stage p n ops Q Ms B (i :: S) dn' F' H' := by
            unfold Step at hstep ⊢
            rw [hx]
            exact hstep
          refine .inl (hstep'.wp hse hO hK ?_)
          rintro v H' w' ⟨F', dn', h1, h2, h3⟩ hO' hK'
          exact go v w' _ H' F' dn' h1 h2 h3 hO' hK' (hse.put _ _)
        · rw [hw, if_neg (by simp)]
          obtain ⟨F', dn', h1, h2, h3⟩ := hk
          exact go undef w _ H F' dn' h1 h2 h3 hO hK (hse.put _ _)
def sameSet (Ms S S' : List Nat) : Bool := Ms.all fun m => S.contains m == S'.contains m
theorem Stage.other {Ms B S S' dn : List Nat} {F : Env} {H H' : List Box} (h : Stage p n ops Q Ms B S dn F H) (hs : sameSet Ms S S' = true) (hp : H.Perm H') : Stage p n ops Q Ms B S' dn F H' := by
  intro L E h1 h2 h3 h4 h5 h6 β w a hO hB hs2
  refine h L E h1 h2 (fun m hm => ?_) h4 h5 h6 β w a (hO.perm hp.symm) hB hs2
  have := List.all_eq_true.1 hs m hm
  rw [h3 m hm]
  exact (by simpa using this : S.contains m = S'.contains m).symm
def StageRule (p : Program) (n : Nat) (ops : Array Oper) (Ms B : List Nat) (Sg : List Nat → List Nat → Env → List Box → Prop) (Dn : Env → List Box → Prop) : Prop :=
  ∀ (S dn : List Nat) (F : Env) (H : List Box) (todo nxt bl W : List Nat), stageOk ops Ms B S todo nxt dn bl = true → slotsOf ops B (dn ++ todo ++ S) = W → Each (TellsF p n ops H F) todo →
    Each (fun i => OpR p n ops F H i fun F1 H' => ∃ F' dn' S' H2, Sg S' dn' F' H2 ∧ List.Perm H2 H' ∧ sameSet Ms S' (i :: S) = true ∧ ∃ W, slotsOf ops B (dn ++ todo ++ S ++ [i]) = W ∧ SameAt F' F1 W ∧ dnOk ops i dn dn' = true) nxt →
    (nxt.isEmpty = true → ∀ E, SameAt E F W → Dn E H) → Sg S dn F H
theorem each_mono {P P' : Nat → Prop} (h : ∀ i, P i → P' i) : ∀ {l : List Nat}, Each P l → Each P' l
  | [], _ => trivial
  | i :: l, ⟨h1, h2⟩ => ⟨h i h1, each_mono h h2⟩
theorem ac_stage {id : Nat} {E : Env} {H : List Box} (hm : p.follows .mixedOrders = true) (Ms B : List Nat) (F : Env)
    (h : ∀ Sg Dn, StageRule p n ops Ms B Sg Dn → (∀ E H, Q .normal E H → Dn E H) → Sg [] [] F H) (hF : SameAt F E B) : AC p n (.region id ops true) Q E H := by
  have h := h (Stage p n ops Q Ms B) (fun E H => Q .normal E H) (by
    intro S dn F H todo nxt bl W hok hW hq hm hfin
    refine stage_rule todo nxt bl hok hq (each_mono (fun i hi => ?_) hm) (fun hn E hE => hfin (by rw [hn]; rfl) E (sameAt_of (by rw [← hW]; exact hE)))
    obtain ⟨o, ho, hi⟩ := hi
    refine ⟨o, ho, ?_⟩
    rcases hi with ⟨hw, hst⟩ | ⟨hw, hk⟩
    · exact .inl ⟨hw, hst.mono fun v H' ⟨F', dn', S', H2, h1, hp, hss, W', h2, h3, h4⟩ => ⟨F', dn', by rw [h2]; exact h3, h4, h1.other hss hp⟩⟩
    · obtain ⟨F', dn', S', H2, h1, hp, hss, W', h2, h3, h4⟩ := hk
      exact .inr ⟨hw, F', dn', by rw [h2]; exact h3, h4, h1.other hss hp⟩) (fun E H h => h)
  intro β w a hO hB hs
  refine wp_region_any hm ?_
  have hnone : ∀ i, (Array.replicate ops.size false).getD i false = false := by
    intro i
    simp only [Array.getD_eq_getD_getElem?, Array.getElem?_replicate]
    split <;> rfl
  have := h (Array.replicate ops.size false) E (by simp) (fun i o ho hl => by rw [hnone] at hl; cases hl) (fun m hm => by rw [hnone]; rfl) (fun i hi => by cases hi) (fun t ht => (sameAt_mem hF t ht).symm) (fun i hi => by rw [hnone] at hi; cases hi) β { w with drawn := w.drawn + 1 } a hO.drew hB.drew hs
  have hu : undone ops (Array.replicate ops.size false) = ops.size := by
    unfold undone
    rw [List.countP_eq_length.2 (fun i _ => by rw [hnone]; rfl)]
    simp
  rw [hu] at this
  exact this
theorem tf_op {H : List Box} {F : Env} {i d : Nat} {o : Oper} (v : Value) (ho : ops[i]? = some o) (hg : o.guard = none) (hd : o.dst = some d) (hs : Step p (ev n F) o H fun v' H' => v' = v ∧ H' = H) (hF : v = F d) : TellsF p n ops H F i :=
  ⟨v, ⟨o, ho, .inl ⟨by unfold yld; rw [hg], hs⟩⟩, fun d' hd' => by simp only [dstOf, ho, Option.bind_some, hd, Option.some.injEq] at hd'; rw [← hd']; exact hF⟩
theorem tf_gd {H : List Box} {F : Env} {i d : Nat} {o : Oper} (v : Value) (ho : ops[i]? = some o) (hg : yld n ops F o = true) (hd : o.dst = some d) (hs : Step p (ev n F) o H fun v' H' => v' = v ∧ H' = H) (hF : v = F d) : TellsF p n ops H F i :=
  ⟨v, ⟨o, ho, .inl ⟨hg, hs⟩⟩, fun d' hd' => by simp only [dstOf, ho, Option.bind_some, hd, Option.some.injEq] at hd'; rw [← hd']; exact hF⟩
theorem tf_sk {H : List Box} {F : Env} {i d : Nat} {o : Oper} (ho : ops[i]? = some o) (hg : yld n ops F o = false) (hd : o.dst = some d) (hF : undef = F d) : TellsF p n ops H F i :=
  ⟨undef, ⟨o, ho, .inr ⟨hg, rfl⟩⟩, fun d' hd' => by simp only [dstOf, ho, Option.bind_some, hd, Option.some.injEq] at hd'; rw [← hd']; exact hF⟩
theorem ac_env {id : Nat} {E : Env} {H : List Box} (h : ∀ E1, E1 = E → AC p n (.region id ops true) Q E1 H) : AC p n (.region id ops true) Q E H := h E rfl
end
end Go.Proofs.Ythngkopcadlciaa