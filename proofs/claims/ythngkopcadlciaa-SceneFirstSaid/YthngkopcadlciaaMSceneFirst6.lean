import Derived.Test.YthngkopcadlciaaMSceneFirst5
import Derived.Test.YthngkopcadlciaaMSceneFirst4
import Derived.Test.YthngkopcadlciaaMSceneFirst0
import Derived.Laws.Append
import Derived.Test.YthngkopcadlciaaMSceneFirst1
set_option linter.unusedVariables false
set_option linter.unusedSimpArgs false
namespace Go.Proofs.Ythngkopcadlciaa
open Go.RowKit
attribute [local irreducible] AC AR DWalk
def vecOf (x : Iv) (y : Iv) (z : Iv) : V := (⟨x, y, z⟩ : V)
set_option maxRecDepth 100000 in
theorem c_vecOf (x : Iv) (y : Iv) (z : Iv) : Gets Try.prog 44 #[.agg #[.int .i64 x.lo, .int .i64 x.hi, .bool x.no], .agg #[.int .i64 y.lo, .int .i64 y.hi, .bool y.no], .agg #[.int .i64 z.lo, .int .i64 z.hi, .bool z.no]] (V.v (vecOf x y z)) := by
  refine gets_fin Try.func44 rfl rfl rfl ?_
  refine ac_seq ?_
  refine ac_region_lit ?_
  refine ao 3 rfl rfl (st_box (v := .agg #[.int .i64 x.lo, .int .i64 x.hi, .bool x.no]) (cs := [.int .i64 x.lo, .int .i64 x.hi, .bool x.no]) rfl rfl rfl fun g0 => ?_)
  refine ao 4 rfl rfl (st_box (v := .agg #[.int .i64 y.lo, .int .i64 y.hi, .bool y.no]) (cs := [.int .i64 y.lo, .int .i64 y.hi, .bool y.no]) rfl rfl rfl fun g1 => ?_)
  refine ao 5 rfl rfl (st_box (v := .agg #[.int .i64 z.lo, .int .i64 z.hi, .bool z.no]) (cs := [.int .i64 z.lo, .int .i64 z.hi, .bool z.no]) rfl rfl rfl fun g2 => ?_)
  refine ao 6 rfl rfl (st_new zero57 rfl fun g3 => ?_)
  refine ar_nil ?_
  refine ac_seq ?_
  refine ac_region_lit ?_
  refine ao 7 rfl rfl (st_lda (g := g0) (off := 0) (vs := [.int .i64 x.lo, .int .i64 x.hi, .bool x.no]) agg26 3 rfl rfl rfl rfl rfl rfl ?_)
  refine ao 8 rfl rfl (st_lda (g := g1) (off := 0) (vs := [.int .i64 y.lo, .int .i64 y.hi, .bool y.no]) agg26 2 rfl rfl rfl rfl rfl rfl ?_)
  refine ao 9 rfl rfl (st_lda (g := g2) (off := 0) (vs := [.int .i64 z.lo, .int .i64 z.hi, .bool z.no]) agg26 1 rfl rfl rfl rfl rfl rfl ?_)
  refine ao 10 rfl rfl (st_bd (us := [(0, .agg #[.int .i64 x.lo, .int .i64 x.hi, .bool x.no]), (1, .agg #[.int .i64 y.lo, .int .i64 y.hi, .bool y.no]), (2, .agg #[.int .i64 z.lo, .int .i64 z.hi, .bool z.no])]) (v := .agg #[.int .i64 x.lo, .int .i64 x.hi, .bool x.no, .int .i64 y.lo, .int .i64 y.hi, .bool y.no, .int .i64 z.lo, .int .i64 z.hi, .bool z.no]) rfl rfl (bd57_0a_1a_2a _ _ _ _ _ _ _ _ _) ?_)
  refine ar_op (d := none) rfl rfl (st_sta (g := g3) (off := 0) (us := [.int .i64 x.lo, .int .i64 x.hi, .bool x.no, .int .i64 y.lo, .int .i64 y.hi, .bool y.no, .int .i64 z.lo, .int .i64 z.hi, .bool z.no]) (cs := [.int .i64 x.lo, .int .i64 x.hi, .bool x.no, .int .i64 y.lo, .int .i64 y.hi, .bool y.no, .int .i64 z.lo, .int .i64 z.hi, .bool z.no]) agg57 0 rfl rfl rfl rfl rfl rfl rfl rfl rfl ?_)
  refine ar_nil ?_
  refine ac_ret ?_
  exact fin_eq (v := .agg #[.int .i64 x.lo, .int .i64 x.hi, .bool x.no, .int .i64 y.lo, .int .i64 y.hi, .bool y.no, .int .i64 z.lo, .int .i64 z.hi, .bool z.no]) rfl (fin_ret (res_c (vs := [.int .i64 x.lo, .int .i64 x.hi, .bool x.no, .int .i64 y.lo, .int .i64 y.hi, .bool y.no, .int .i64 z.lo, .int .i64 z.hi, .bool z.no]) agg57 0 rfl rfl rfl rfl rfl rfl))
def vecRight (a : V) : Bool := (bif ivRight a.x then (bif ivRight a.y then ivRight a.z else false) else false)
set_option maxRecDepth 100000 in
theorem c_vecRight (a : V) : Gets Try.prog 50 #[.agg #[.int .i64 a.x.lo, .int .i64 a.x.hi, .bool a.x.no, .int .i64 a.y.lo, .int .i64 a.y.hi, .bool a.y.no, .int .i64 a.z.lo, .int .i64 a.z.hi, .bool a.z.no]] ((fun (r : Bool) => (.bool r : Value)) (vecRight a)) := by
  refine gets_fin Try.func50 rfl rfl rfl ?_
  refine ac_seq ?_
  refine ac_region_lit ?_
  refine ao 1 rfl rfl (st_box (v := .agg #[.int .i64 a.x.lo, .int .i64 a.x.hi, .bool a.x.no, .int .i64 a.y.lo, .int .i64 a.y.hi, .bool a.y.no, .int .i64 a.z.lo, .int .i64 a.z.hi, .bool a.z.no]) (cs := [.int .i64 a.x.lo, .int .i64 a.x.hi, .bool a.x.no, .int .i64 a.y.lo, .int .i64 a.y.hi, .bool a.y.no, .int .i64 a.z.lo, .int .i64 a.z.hi, .bool a.z.no]) rfl rfl rfl fun g0 => ?_)
  refine ao 2 rfl rfl (st_assign (v := .bool false) rfl rfl ?_)
  refine ar_nil ?_
  refine ac_seq ?_
  refine ac_region_lit ?_
  refine ao 3 rfl rfl (st_fa (g := g0) (off := 0) rfl fa57_0 rfl ?_)
  refine ao 4 rfl rfl (st_lda (g := g0) (off := 0) (vs := [.int .i64 a.x.lo, .int .i64 a.x.hi, .bool a.x.no]) agg26 0 rfl rfl rfl rfl rfl rfl ?_)
  refine ao 5 rfl rfl (st_cf (vs := [.agg #[.int .i64 a.x.lo, .int .i64 a.x.hi, .bool a.x.no]]) (r := .bool (ivRight a.x)) (c_ivRight a.x) Try.func25 rfl (by decide) rfl rfl rfl ?_)
  refine ao 6 rfl rfl (st_move (v := .bool (ivRight a.x)) rfl rfl ?_)
  refine bool_split (ivRight a.x) (fun h1 => ?_) (fun h1 => ?_)
  · refine ar_gd (d := (some 7)) (by show ((ivRight a.x) == true) = true; rw [h1]; rfl) rfl (st_fa (g := g0) (off := 0) rfl fa57_1 rfl ?_)
    refine ar_gd (d := (some 8)) (by show ((ivRight a.x) == true) = true; rw [h1]; rfl) rfl (st_lda (g := g0) (off := 3) (vs := [.int .i64 a.y.lo, .int .i64 a.y.hi, .bool a.y.no]) agg26 0 rfl rfl rfl rfl rfl rfl ?_)
    refine ar_gd (d := (some 9)) (by show ((ivRight a.x) == true) = true; rw [h1]; rfl) rfl (st_cf (vs := [.agg #[.int .i64 a.y.lo, .int .i64 a.y.hi, .bool a.y.no]]) (r := .bool (ivRight a.y)) (c_ivRight a.y) Try.func25 rfl (by decide) rfl rfl rfl ?_)
    refine ao 10 rfl rfl (st_pkt' (b := ivRight a.x) (v := .bool (ivRight a.y)) h1 rfl rfl rfl ?_)
    refine ao 11 rfl rfl (st_move (v := .bool (ivRight a.y)) rfl rfl ?_)
    refine bool_split (ivRight a.y) (fun h2 => ?_) (fun h2 => ?_)
    · refine ar_gd (d := (some 12)) (by show ((ivRight a.y) == true) = true; rw [h2]; rfl) rfl (st_fa (g := g0) (off := 0) rfl fa57_2 rfl ?_)
      refine ar_gd (d := (some 13)) (by show ((ivRight a.y) == true) = true; rw [h2]; rfl) rfl (st_lda (g := g0) (off := 6) (vs := [.int .i64 a.z.lo, .int .i64 a.z.hi, .bool a.z.no]) agg26 0 rfl rfl rfl rfl rfl rfl ?_)
      refine ar_gd (d := (some 14)) (by show ((ivRight a.y) == true) = true; rw [h2]; rfl) rfl (st_cf (vs := [.agg #[.int .i64 a.z.lo, .int .i64 a.z.hi, .bool a.z.no]]) (r := .bool (ivRight a.z)) (c_ivRight a.z) Try.func25 rfl (by decide) rfl rfl rfl ?_)
      refine ao 15 rfl rfl (st_pkt' (b := ivRight a.y) (v := .bool (ivRight a.z)) h2 rfl rfl rfl ?_)
      refine ao 2 rfl rfl (st_assign (v := .bool (ivRight a.z)) rfl rfl ?_)
      refine ar_nil ?_
      refine ac_ret ?_
      exact fin_eq (v := .bool (ivRight a.z)) (by show _ = (fun (r : Bool) => (.bool r : Value)) (vecRight a); rw [vecRight, h2, h1] <;> rfl) (fin_ret (res_tmp rfl rfl))
    · refine ar_sk (d := (some 12)) (by show ((ivRight a.y) == true) = false; rw [h2]; rfl) rfl ?_
      refine ar_sk (d := (some 13)) (by show ((ivRight a.y) == true) = false; rw [h2]; rfl) rfl ?_
      refine ar_sk (d := (some 14)) (by show ((ivRight a.y) == true) = false; rw [h2]; rfl) rfl ?_
      refine ao 15 rfl rfl (st_pkf' (b := ivRight a.y) (v := .bool false) h2 rfl rfl rfl ?_)
      refine ao 2 rfl rfl (st_assign (v := .bool false) rfl rfl ?_)
      refine ar_nil ?_
      refine ac_ret ?_
      exact fin_eq (v := .bool false) (by show _ = (fun (r : Bool) => (.bool r : Value)) (vecRight a); rw [vecRight, h2, h1] <;> rfl) (fin_ret (res_tmp rfl rfl))
  · refine ar_sk (d := (some 7)) (by show ((ivRight a.x) == true) = false; rw [h1]; rfl) rfl ?_
    refine ar_sk (d := (some 8)) (by show ((ivRight a.x) == true) = false; rw [h1]; rfl) rfl ?_
    refine ar_sk (d := (some 9)) (by show ((ivRight a.x) == true) = false; rw [h1]; rfl) rfl ?_
    refine ao 10 rfl rfl (st_pkf' (b := ivRight a.x) (v := .bool false) h1 rfl rfl rfl ?_)
    refine ao 11 rfl rfl (st_move (v := .bool false) rfl rfl ?_)
    refine ar_sk (d := (some 12)) rfl rfl ?_
    refine ar_sk (d := (some 13)) rfl rfl ?_
    refine ar_sk (d := (some 14)) rfl rfl ?_
    refine ao 15 rfl rfl (st_pkf (v := .bool false) rfl rfl rfl ?_)
    refine ao 2 rfl rfl (st_assign (v := .bool false) rfl rfl ?_)
    refine ar_nil ?_
    refine ac_ret ?_
    exact fin_eq (v := .bool false) (by show _ = (fun (r : Bool) => (.bool r : Value)) (vecRight a); rw [vecRight, h1] <;> rfl) (fin_ret (res_tmp rfl rfl))
def vecSub (a : V) (b : V) : V := (vecOf (ivSub a.x b.x) (ivSub a.y b.y) (ivSub a.z b.z))
set_option maxRecDepth 100000 in
theorem c_vecSub (a : V) (b : V) : Gets Try.prog 117 #[.agg #[.int .i64 a.x.lo, .int .i64 a.x.hi, .bool a.x.no, .int .i64 a.y.lo, .int .i64 a.y.hi, .bool a.y.no, .int .i64 a.z.lo, .int .i64 a.z.hi, .bool a.z.no], .agg #[.int .i64 b.x.lo, .int .i64 b.x.hi, .bool b.x.no, .int .i64 b.y.lo, .int .i64 b.y.hi, .bool b.y.no, .int .i64 b.z.lo, .int .i64 b.z.hi, .bool b.z.no]] (V.v (vecSub a b)) := by
  refine gets_fin Try.func117 rfl rfl rfl ?_
  refine ac_seq ?_
  refine ac_region_lit ?_
  refine ao 2 rfl rfl (st_box (v := .agg #[.int .i64 a.x.lo, .int .i64 a.x.hi, .bool a.x.no, .int .i64 a.y.lo, .int .i64 a.y.hi, .bool a.y.no, .int .i64 a.z.lo, .int .i64 a.z.hi, .bool a.z.no]) (cs := [.int .i64 a.x.lo, .int .i64 a.x.hi, .bool a.x.no, .int .i64 a.y.lo, .int .i64 a.y.hi, .bool a.y.no, .int .i64 a.z.lo, .int .i64 a.z.hi, .bool a.z.no]) rfl rfl rfl fun g0 => ?_)
  refine ao 3 rfl rfl (st_box (v := .agg #[.int .i64 b.x.lo, .int .i64 b.x.hi, .bool b.x.no, .int .i64 b.y.lo, .int .i64 b.y.hi, .bool b.y.no, .int .i64 b.z.lo, .int .i64 b.z.hi, .bool b.z.no]) (cs := [.int .i64 b.x.lo, .int .i64 b.x.hi, .bool b.x.no, .int .i64 b.y.lo, .int .i64 b.y.hi, .bool b.y.no, .int .i64 b.z.lo, .int .i64 b.z.hi, .bool b.z.no]) rfl rfl rfl fun g1 => ?_)
  refine ao 4 rfl rfl (st_new zero57 rfl fun g2 => ?_)
  refine ar_nil ?_
  refine ac_seq ?_
  refine ac_draw0 (id := 1) [0, 1, 2, 3, 4, 5, 6, 7, 8, 9, 10, 11, 12, 13, 14, 15] [16] _ (by kernel_rfl) follows rfl  ?_
  refine dw_op (d := (some 5)) (.pointer (some ⟨g0, 0, none⟩)) rfl rfl rfl (st_fa (g := g0) (off := 0) rfl fa57_0 rfl ⟨rfl, rfl⟩) ?_
  refine dw_op (d := (some 6)) (.agg #[.int .i64 a.x.lo, .int .i64 a.x.hi, .bool a.x.no]) rfl rfl rfl (st_lda (g := g0) (off := 0) (vs := [.int .i64 a.x.lo, .int .i64 a.x.hi, .bool a.x.no]) agg26 2 rfl rfl rfl rfl rfl rfl ⟨rfl, rfl⟩) ?_
  refine dw_op (d := (some 7)) (.pointer (some ⟨g1, 0, none⟩)) rfl rfl rfl (st_fa (g := g1) (off := 0) rfl fa57_0 rfl ⟨rfl, rfl⟩) ?_
  refine dw_op (d := (some 8)) (.agg #[.int .i64 b.x.lo, .int .i64 b.x.hi, .bool b.x.no]) rfl rfl rfl (st_lda (g := g1) (off := 0) (vs := [.int .i64 b.x.lo, .int .i64 b.x.hi, .bool b.x.no]) agg26 1 rfl rfl rfl rfl rfl rfl ⟨rfl, rfl⟩) ?_
  refine dw_op (d := (some 9)) (.agg #[.int .i64 ((ivSub a.x b.x).lo), .int .i64 ((ivSub a.x b.x).hi), .bool ((ivSub a.x b.x).no)]) rfl rfl rfl (st_cf (vs := [.agg #[.int .i64 a.x.lo, .int .i64 a.x.hi, .bool a.x.no], .agg #[.int .i64 b.x.lo, .int .i64 b.x.hi, .bool b.x.no]]) (r := .agg #[.int .i64 ((ivSub a.x b.x).lo), .int .i64 ((ivSub a.x b.x).hi), .bool ((ivSub a.x b.x).no)]) (c_ivSub a.x b.x) Try.func30 rfl (by decide) rfl rfl rfl ⟨rfl, rfl⟩) ?_
  refine dw_op (d := (some 10)) (.pointer (some ⟨g0, 3, none⟩)) rfl rfl rfl (st_fa (g := g0) (off := 0) rfl fa57_1 rfl ⟨rfl, rfl⟩) ?_
  refine dw_op (d := (some 11)) (.agg #[.int .i64 a.y.lo, .int .i64 a.y.hi, .bool a.y.no]) rfl rfl rfl (st_lda (g := g0) (off := 3) (vs := [.int .i64 a.y.lo, .int .i64 a.y.hi, .bool a.y.no]) agg26 2 rfl rfl rfl rfl rfl rfl ⟨rfl, rfl⟩) ?_
  refine dw_op (d := (some 12)) (.pointer (some ⟨g1, 3, none⟩)) rfl rfl rfl (st_fa (g := g1) (off := 0) rfl fa57_1 rfl ⟨rfl, rfl⟩) ?_
  refine dw_op (d := (some 13)) (.agg #[.int .i64 b.y.lo, .int .i64 b.y.hi, .bool b.y.no]) rfl rfl rfl (st_lda (g := g1) (off := 3) (vs := [.int .i64 b.y.lo, .int .i64 b.y.hi, .bool b.y.no]) agg26 1 rfl rfl rfl rfl rfl rfl ⟨rfl, rfl⟩) ?_
  refine dw_op (d := (some 14)) (.agg #[.int .i64 ((ivSub a.y b.y).lo), .int .i64 ((ivSub a.y b.y).hi), .bool ((ivSub a.y b.y).no)]) rfl rfl rfl (st_cf (vs := [.agg #[.int .i64 a.y.lo, .int .i64 a.y.hi, .bool a.y.no], .agg #[.int .i64 b.y.lo, .int .i64 b.y.hi, .bool b.y.no]]) (r := .agg #[.int .i64 ((ivSub a.y b.y).lo), .int .i64 ((ivSub a.y b.y).hi), .bool ((ivSub a.y b.y).no)]) (c_ivSub a.y b.y) Try.func30 rfl (by decide) rfl rfl rfl ⟨rfl, rfl⟩) ?_
  refine dw_op (d := (some 15)) (.pointer (some ⟨g0, 6, none⟩)) rfl rfl rfl (st_fa (g := g0) (off := 0) rfl fa57_2 rfl ⟨rfl, rfl⟩) ?_
  refine dw_op (d := (some 16)) (.agg #[.int .i64 a.z.lo, .int .i64 a.z.hi, .bool a.z.no]) rfl rfl rfl (st_lda (g := g0) (off := 6) (vs := [.int .i64 a.z.lo, .int .i64 a.z.hi, .bool a.z.no]) agg26 2 rfl rfl rfl rfl rfl rfl ⟨rfl, rfl⟩) ?_
  refine dw_op (d := (some 17)) (.pointer (some ⟨g1, 6, none⟩)) rfl rfl rfl (st_fa (g := g1) (off := 0) rfl fa57_2 rfl ⟨rfl, rfl⟩) ?_
  refine dw_op (d := (some 18)) (.agg #[.int .i64 b.z.lo, .int .i64 b.z.hi, .bool b.z.no]) rfl rfl rfl (st_lda (g := g1) (off := 6) (vs := [.int .i64 b.z.lo, .int .i64 b.z.hi, .bool b.z.no]) agg26 1 rfl rfl rfl rfl rfl rfl ⟨rfl, rfl⟩) ?_
  refine dw_op (d := (some 19)) (.agg #[.int .i64 ((ivSub a.z b.z).lo), .int .i64 ((ivSub a.z b.z).hi), .bool ((ivSub a.z b.z).no)]) rfl rfl rfl (st_cf (vs := [.agg #[.int .i64 a.z.lo, .int .i64 a.z.hi, .bool a.z.no], .agg #[.int .i64 b.z.lo, .int .i64 b.z.hi, .bool b.z.no]]) (r := .agg #[.int .i64 ((ivSub a.z b.z).lo), .int .i64 ((ivSub a.z b.z).hi), .bool ((ivSub a.z b.z).no)]) (c_ivSub a.z b.z) Try.func30 rfl (by decide) rfl rfl rfl ⟨rfl, rfl⟩) ?_
  refine dw_op (d := (some 20)) (.agg #[.int .i64 (((vecOf (ivSub a.x b.x) (ivSub a.y b.y) (ivSub a.z b.z)).x).lo), .int .i64 (((vecOf (ivSub a.x b.x) (ivSub a.y b.y) (ivSub a.z b.z)).x).hi), .bool (((vecOf (ivSub a.x b.x) (ivSub a.y b.y) (ivSub a.z b.z)).x).no), .int .i64 (((vecOf (ivSub a.x b.x) (ivSub a.y b.y) (ivSub a.z b.z)).y).lo), .int .i64 (((vecOf (ivSub a.x b.x) (ivSub a.y b.y) (ivSub a.z b.z)).y).hi), .bool (((vecOf (ivSub a.x b.x) (ivSub a.y b.y) (ivSub a.z b.z)).y).no), .int .i64 (((vecOf (ivSub a.x b.x) (ivSub a.y b.y) (ivSub a.z b.z)).z).lo), .int .i64 (((vecOf (ivSub a.x b.x) (ivSub a.y b.y) (ivSub a.z b.z)).z).hi), .bool (((vecOf (ivSub a.x b.x) (ivSub a.y b.y) (ivSub a.z b.z)).z).no)]) rfl rfl rfl (st_cf (vs := [.agg #[.int .i64 ((ivSub a.x b.x).lo), .int .i64 ((ivSub a.x b.x).hi), .bool ((ivSub a.x b.x).no)], .agg #[.int .i64 ((ivSub a.y b.y).lo), .int .i64 ((ivSub a.y b.y).hi), .bool ((ivSub a.y b.y).no)], .agg #[.int .i64 ((ivSub a.z b.z).lo), .int .i64 ((ivSub a.z b.z).hi), .bool ((ivSub a.z b.z).no)]]) (r := .agg #[.int .i64 (((vecOf (ivSub a.x b.x) (ivSub a.y b.y) (ivSub a.z b.z)).x).lo), .int .i64 (((vecOf (ivSub a.x b.x) (ivSub a.y b.y) (ivSub a.z b.z)).x).hi), .bool (((vecOf (ivSub a.x b.x) (ivSub a.y b.y) (ivSub a.z b.z)).x).no), .int .i64 (((vecOf (ivSub a.x b.x) (ivSub a.y b.y) (ivSub a.z b.z)).y).lo), .int .i64 (((vecOf (ivSub a.x b.x) (ivSub a.y b.y) (ivSub a.z b.z)).y).hi), .bool (((vecOf (ivSub a.x b.x) (ivSub a.y b.y) (ivSub a.z b.z)).y).no), .int .i64 (((vecOf (ivSub a.x b.x) (ivSub a.y b.y) (ivSub a.z b.z)).z).lo), .int .i64 (((vecOf (ivSub a.x b.x) (ivSub a.y b.y) (ivSub a.z b.z)).z).hi), .bool (((vecOf (ivSub a.x b.x) (ivSub a.y b.y) (ivSub a.z b.z)).z).no)]) (c_vecOf (ivSub a.x b.x) (ivSub a.y b.y) (ivSub a.z b.z)) Try.func44 rfl (by decide) rfl rfl rfl ⟨rfl, rfl⟩) ?_
  refine dw_nil ?_
  refine ar_op (d := none) rfl rfl (st_sta (g := g2) (off := 0) (us := [.int .i64 (((vecOf (ivSub a.x b.x) (ivSub a.y b.y) (ivSub a.z b.z)).x).lo), .int .i64 (((vecOf (ivSub a.x b.x) (ivSub a.y b.y) (ivSub a.z b.z)).x).hi), .bool (((vecOf (ivSub a.x b.x) (ivSub a.y b.y) (ivSub a.z b.z)).x).no), .int .i64 (((vecOf (ivSub a.x b.x) (ivSub a.y b.y) (ivSub a.z b.z)).y).lo), .int .i64 (((vecOf (ivSub a.x b.x) (ivSub a.y b.y) (ivSub a.z b.z)).y).hi), .bool (((vecOf (ivSub a.x b.x) (ivSub a.y b.y) (ivSub a.z b.z)).y).no), .int .i64 (((vecOf (ivSub a.x b.x) (ivSub a.y b.y) (ivSub a.z b.z)).z).lo), .int .i64 (((vecOf (ivSub a.x b.x) (ivSub a.y b.y) (ivSub a.z b.z)).z).hi), .bool (((vecOf (ivSub a.x b.x) (ivSub a.y b.y) (ivSub a.z b.z)).z).no)]) (cs := [.int .i64 (((vecOf (ivSub a.x b.x) (ivSub a.y b.y) (ivSub a.z b.z)).x).lo), .int .i64 (((vecOf (ivSub a.x b.x) (ivSub a.y b.y) (ivSub a.z b.z)).x).hi), .bool (((vecOf (ivSub a.x b.x) (ivSub a.y b.y) (ivSub a.z b.z)).x).no), .int .i64 (((vecOf (ivSub a.x b.x) (ivSub a.y b.y) (ivSub a.z b.z)).y).lo), .int .i64 (((vecOf (ivSub a.x b.x) (ivSub a.y b.y) (ivSub a.z b.z)).y).hi), .bool (((vecOf (ivSub a.x b.x) (ivSub a.y b.y) (ivSub a.z b.z)).y).no), .int .i64 (((vecOf (ivSub a.x b.x) (ivSub a.y b.y) (ivSub a.z b.z)).z).lo), .int .i64 (((vecOf (ivSub a.x b.x) (ivSub a.y b.y) (ivSub a.z b.z)).z).hi), .bool (((vecOf (ivSub a.x b.x) (ivSub a.y b.y) (ivSub a.z b.z)).z).no)]) agg57 0 rfl rfl rfl rfl rfl rfl rfl rfl rfl ?_)
  refine ar_nil ?_
  refine ac_ret ?_
  exact fin_eq (v := .agg #[.int .i64 (((vecOf (ivSub a.x b.x) (ivSub a.y b.y) (ivSub a.z b.z)).x).lo), .int .i64 (((vecOf (ivSub a.x b.x) (ivSub a.y b.y) (ivSub a.z b.z)).x).hi), .bool (((vecOf (ivSub a.x b.x) (ivSub a.y b.y) (ivSub a.z b.z)).x).no), .int .i64 (((vecOf (ivSub a.x b.x) (ivSub a.y b.y) (ivSub a.z b.z)).y).lo), .int .i64 (((vecOf (ivSub a.x b.x) (ivSub a.y b.y) (ivSub a.z b.z)).y).hi), .bool (((vecOf (ivSub a.x b.x) (ivSub a.y b.y) (ivSub a.z b.z)).y).no), .int .i64 (((vecOf (ivSub a.x b.x) (ivSub a.y b.y) (ivSub a.z b.z)).z).lo), .int .i64 (((vecOf (ivSub a.x b.x) (ivSub a.y b.y) (ivSub a.z b.z)).z).hi), .bool (((vecOf (ivSub a.x b.x) (ivSub a.y b.y) (ivSub a.z b.z)).z).no)]) rfl (fin_ret (res_c (vs := [.int .i64 (((vecOf (ivSub a.x b.x) (ivSub a.y b.y) (ivSub a.z b.z)).x).lo), .int .i64 (((vecOf (ivSub a.x b.x) (ivSub a.y b.y) (ivSub a.z b.z)).x).hi), .bool (((vecOf (ivSub a.x b.x) (ivSub a.y b.y) (ivSub a.z b.z)).x).no), .int .i64 (((vecOf (ivSub a.x b.x) (ivSub a.y b.y) (ivSub a.z b.z)).y).lo), .int .i64 (((vecOf (ivSub a.x b.x) (ivSub a.y b.y) (ivSub a.z b.z)).y).hi), .bool (((vecOf (ivSub a.x b.x) (ivSub a.y b.y) (ivSub a.z b.z)).y).no), .int .i64 (((vecOf (ivSub a.x b.x) (ivSub a.y b.y) (ivSub a.z b.z)).z).lo), .int .i64 (((vecOf (ivSub a.x b.x) (ivSub a.y b.y) (ivSub a.z b.z)).z).hi), .bool (((vecOf (ivSub a.x b.x) (ivSub a.y b.y) (ivSub a.z b.z)).z).no)]) agg57 0 rfl rfl rfl rfl rfl rfl))
def vecDot_e0 (a : V) (b : V) : Iv := (ivAdd (ivAdd (ivMul a.x b.x) (ivMul a.y b.y)) (ivMul a.z b.z))
def vecDot (a : V) (b : V) : Iv := (vecDot_e0 a b)
set_option maxRecDepth 100000 in
theorem c_vecDot (a : V) (b : V) : Gets Try.prog 120 #[.agg #[.int .i64 a.x.lo, .int .i64 a.x.hi, .bool a.x.no, .int .i64 a.y.lo, .int .i64 a.y.hi, .bool a.y.no, .int .i64 a.z.lo, .int .i64 a.z.hi, .bool a.z.no], .agg #[.int .i64 b.x.lo, .int .i64 b.x.hi, .bool b.x.no, .int .i64 b.y.lo, .int .i64 b.y.hi, .bool b.y.no, .int .i64 b.z.lo, .int .i64 b.z.hi, .bool b.z.no]] (Iv.v (vecDot a b)) := by
  refine gets_fin Try.func120 rfl rfl rfl ?_
  refine ac_seq ?_
  refine ac_region_lit ?_
  refine ao 2 rfl rfl (st_box (v := .agg #[.int .i64 a.x.lo, .int .i64 a.x.hi, .bool a.x.no, .int .i64 a.y.lo, .int .i64 a.y.hi, .bool a.y.no, .int .i64 a.z.lo, .int .i64 a.z.hi, .bool a.z.no]) (cs := [.int .i64 a.x.lo, .int .i64 a.x.hi, .bool a.x.no, .int .i64 a.y.lo, .int .i64 a.y.hi, .bool a.y.no, .int .i64 a.z.lo, .int .i64 a.z.hi, .bool a.z.no]) rfl rfl rfl fun g0 => ?_)
  refine ao 3 rfl rfl (st_box (v := .agg #[.int .i64 b.x.lo, .int .i64 b.x.hi, .bool b.x.no, .int .i64 b.y.lo, .int .i64 b.y.hi, .bool b.y.no, .int .i64 b.z.lo, .int .i64 b.z.hi, .bool b.z.no]) (cs := [.int .i64 b.x.lo, .int .i64 b.x.hi, .bool b.x.no, .int .i64 b.y.lo, .int .i64 b.y.hi, .bool b.y.no, .int .i64 b.z.lo, .int .i64 b.z.hi, .bool b.z.no]) rfl rfl rfl fun g1 => ?_)
  refine ao 4 rfl rfl (st_new zero26 rfl fun g2 => ?_)
  refine ar_nil ?_
  refine ac_seq ?_
  refine ac_draw0 (id := 1) [0, 1, 2, 3, 4, 5, 6, 7, 8, 9, 10, 11, 12, 13, 14, 15, 16] [17] _ (by kernel_rfl) follows rfl  ?_
  refine dw_op (d := (some 5)) (.pointer (some ⟨g0, 0, none⟩)) rfl rfl rfl (st_fa (g := g0) (off := 0) rfl fa57_0 rfl ⟨rfl, rfl⟩) ?_
  refine dw_op (d := (some 6)) (.agg #[.int .i64 a.x.lo, .int .i64 a.x.hi, .bool a.x.no]) rfl rfl rfl (st_lda (g := g0) (off := 0) (vs := [.int .i64 a.x.lo, .int .i64 a.x.hi, .bool a.x.no]) agg26 2 rfl rfl rfl rfl rfl rfl ⟨rfl, rfl⟩) ?_
  refine dw_op (d := (some 7)) (.pointer (some ⟨g1, 0, none⟩)) rfl rfl rfl (st_fa (g := g1) (off := 0) rfl fa57_0 rfl ⟨rfl, rfl⟩) ?_
  refine dw_op (d := (some 8)) (.agg #[.int .i64 b.x.lo, .int .i64 b.x.hi, .bool b.x.no]) rfl rfl rfl (st_lda (g := g1) (off := 0) (vs := [.int .i64 b.x.lo, .int .i64 b.x.hi, .bool b.x.no]) agg26 1 rfl rfl rfl rfl rfl rfl ⟨rfl, rfl⟩) ?_
  refine dw_op (d := (some 9)) (.agg #[.int .i64 ((ivMul a.x b.x).lo), .int .i64 ((ivMul a.x b.x).hi), .bool ((ivMul a.x b.x).no)]) rfl rfl rfl (st_cf (vs := [.agg #[.int .i64 a.x.lo, .int .i64 a.x.hi, .bool a.x.no], .agg #[.int .i64 b.x.lo, .int .i64 b.x.hi, .bool b.x.no]]) (r := .agg #[.int .i64 ((ivMul a.x b.x).lo), .int .i64 ((ivMul a.x b.x).hi), .bool ((ivMul a.x b.x).no)]) (c_ivMul a.x b.x) Try.func68 rfl (by decide) rfl rfl rfl ⟨rfl, rfl⟩) ?_
  refine dw_op (d := (some 10)) (.pointer (some ⟨g0, 3, none⟩)) rfl rfl rfl (st_fa (g := g0) (off := 0) rfl fa57_1 rfl ⟨rfl, rfl⟩) ?_
  refine dw_op (d := (some 11)) (.agg #[.int .i64 a.y.lo, .int .i64 a.y.hi, .bool a.y.no]) rfl rfl rfl (st_lda (g := g0) (off := 3) (vs := [.int .i64 a.y.lo, .int .i64 a.y.hi, .bool a.y.no]) agg26 2 rfl rfl rfl rfl rfl rfl ⟨rfl, rfl⟩) ?_
  refine dw_op (d := (some 12)) (.pointer (some ⟨g1, 3, none⟩)) rfl rfl rfl (st_fa (g := g1) (off := 0) rfl fa57_1 rfl ⟨rfl, rfl⟩) ?_
  refine dw_op (d := (some 13)) (.agg #[.int .i64 b.y.lo, .int .i64 b.y.hi, .bool b.y.no]) rfl rfl rfl (st_lda (g := g1) (off := 3) (vs := [.int .i64 b.y.lo, .int .i64 b.y.hi, .bool b.y.no]) agg26 1 rfl rfl rfl rfl rfl rfl ⟨rfl, rfl⟩) ?_
  refine dw_op (d := (some 14)) (.agg #[.int .i64 ((ivMul a.y b.y).lo), .int .i64 ((ivMul a.y b.y).hi), .bool ((ivMul a.y b.y).no)]) rfl rfl rfl (st_cf (vs := [.agg #[.int .i64 a.y.lo, .int .i64 a.y.hi, .bool a.y.no], .agg #[.int .i64 b.y.lo, .int .i64 b.y.hi, .bool b.y.no]]) (r := .agg #[.int .i64 ((ivMul a.y b.y).lo), .int .i64 ((ivMul a.y b.y).hi), .bool ((ivMul a.y b.y).no)]) (c_ivMul a.y b.y) Try.func68 rfl (by decide) rfl rfl rfl ⟨rfl, rfl⟩) ?_
  refine dw_op (d := (some 15)) (.agg #[.int .i64 ((ivAdd (ivMul a.x b.x) (ivMul a.y b.y)).lo), .int .i64 ((ivAdd (ivMul a.x b.x) (ivMul a.y b.y)).hi), .bool ((ivAdd (ivMul a.x b.x) (ivMul a.y b.y)).no)]) rfl rfl rfl (st_cf (vs := [.agg #[.int .i64 ((ivMul a.x b.x).lo), .int .i64 ((ivMul a.x b.x).hi), .bool ((ivMul a.x b.x).no)], .agg #[.int .i64 ((ivMul a.y b.y).lo), .int .i64 ((ivMul a.y b.y).hi), .bool ((ivMul a.y b.y).no)]]) (r := .agg #[.int .i64 ((ivAdd (ivMul a.x b.x) (ivMul a.y b.y)).lo), .int .i64 ((ivAdd (ivMul a.x b.x) (ivMul a.y b.y)).hi), .bool ((ivAdd (ivMul a.x b.x) (ivMul a.y b.y)).no)]) (c_ivAdd (ivMul a.x b.x) (ivMul a.y b.y)) Try.func67 rfl (by decide) rfl rfl rfl ⟨rfl, rfl⟩) ?_
  refine dw_op (d := (some 16)) (.pointer (some ⟨g0, 6, none⟩)) rfl rfl rfl (st_fa (g := g0) (off := 0) rfl fa57_2 rfl ⟨rfl, rfl⟩) ?_
  refine dw_op (d := (some 17)) (.agg #[.int .i64 a.z.lo, .int .i64 a.z.hi, .bool a.z.no]) rfl rfl rfl (st_lda (g := g0) (off := 6) (vs := [.int .i64 a.z.lo, .int .i64 a.z.hi, .bool a.z.no]) agg26 2 rfl rfl rfl rfl rfl rfl ⟨rfl, rfl⟩) ?_
  refine dw_op (d := (some 18)) (.pointer (some ⟨g1, 6, none⟩)) rfl rfl rfl (st_fa (g := g1) (off := 0) rfl fa57_2 rfl ⟨rfl, rfl⟩) ?_
  refine dw_op (d := (some 19)) (.agg #[.int .i64 b.z.lo, .int .i64 b.z.hi, .bool b.z.no]) rfl rfl rfl (st_lda (g := g1) (off := 6) (vs := [.int .i64 b.z.lo, .int .i64 b.z.hi, .bool b.z.no]) agg26 1 rfl rfl rfl rfl rfl rfl ⟨rfl, rfl⟩) ?_
  refine dw_op (d := (some 20)) (.agg #[.int .i64 ((ivMul a.z b.z).lo), .int .i64 ((ivMul a.z b.z).hi), .bool ((ivMul a.z b.z).no)]) rfl rfl rfl (st_cf (vs := [.agg #[.int .i64 a.z.lo, .int .i64 a.z.hi, .bool a.z.no], .agg #[.int .i64 b.z.lo, .int .i64 b.z.hi, .bool b.z.no]]) (r := .agg #[.int .i64 ((ivMul a.z b.z).lo), .int .i64 ((ivMul a.z b.z).hi), .bool ((ivMul a.z b.z).no)]) (c_ivMul a.z b.z) Try.func68 rfl (by decide) rfl rfl rfl ⟨rfl, rfl⟩) ?_
  refine dw_op (d := (some 21)) (.agg #[.int .i64 ((vecDot_e0 a b).lo), .int .i64 ((vecDot_e0 a b).hi), .bool ((vecDot_e0 a b).no)]) rfl rfl rfl (st_cf (vs := [.agg #[.int .i64 ((ivAdd (ivMul a.x b.x) (ivMul a.y b.y)).lo), .int .i64 ((ivAdd (ivMul a.x b.x) (ivMul a.y b.y)).hi), .bool ((ivAdd (ivMul a.x b.x) (ivMul a.y b.y)).no)], .agg #[.int .i64 ((ivMul a.z b.z).lo), .int .i64 ((ivMul a.z b.z).hi), .bool ((ivMul a.z b.z).no)]]) (r := .agg #[.int .i64 ((vecDot_e0 a b).lo), .int .i64 ((vecDot_e0 a b).hi), .bool ((vecDot_e0 a b).no)]) (c_ivAdd (ivAdd (ivMul a.x b.x) (ivMul a.y b.y)) (ivMul a.z b.z)) Try.func67 rfl (by decide) rfl rfl rfl ⟨rfl, rfl⟩) ?_
  refine dw_nil ?_
  refine ar_op (d := none) rfl rfl (st_sta (g := g2) (off := 0) (us := [.int .i64 ((vecDot_e0 a b).lo), .int .i64 ((vecDot_e0 a b).hi), .bool ((vecDot_e0 a b).no)]) (cs := [.int .i64 ((vecDot_e0 a b).lo), .int .i64 ((vecDot_e0 a b).hi), .bool ((vecDot_e0 a b).no)]) agg26 0 rfl rfl rfl rfl rfl rfl rfl rfl rfl ?_)
  refine ar_nil ?_
  refine ac_ret ?_
  exact fin_eq (v := .agg #[.int .i64 ((vecDot_e0 a b).lo), .int .i64 ((vecDot_e0 a b).hi), .bool ((vecDot_e0 a b).no)]) rfl (fin_ret (res_c (vs := [.int .i64 ((vecDot_e0 a b).lo), .int .i64 ((vecDot_e0 a b).hi), .bool ((vecDot_e0 a b).no)]) agg26 0 rfl rfl rfl rfl rfl rfl))
def vecLen2 (a : V) : Iv := (ivAdd (ivAdd (ivSqr a.x) (ivSqr a.y)) (ivSqr a.z))
set_option maxRecDepth 100000 in
theorem c_vecLen2 (a : V) : Gets Try.prog 52 #[.agg #[.int .i64 a.x.lo, .int .i64 a.x.hi, .bool a.x.no, .int .i64 a.y.lo, .int .i64 a.y.hi, .bool a.y.no, .int .i64 a.z.lo, .int .i64 a.z.hi, .bool a.z.no]] (Iv.v (vecLen2 a)) := by
  refine gets_fin Try.func52 rfl rfl rfl ?_
  refine ac_seq ?_
  refine ac_region_lit ?_
  refine ao 1 rfl rfl (st_box (v := .agg #[.int .i64 a.x.lo, .int .i64 a.x.hi, .bool a.x.no, .int .i64 a.y.lo, .int .i64 a.y.hi, .bool a.y.no, .int .i64 a.z.lo, .int .i64 a.z.hi, .bool a.z.no]) (cs := [.int .i64 a.x.lo, .int .i64 a.x.hi, .bool a.x.no, .int .i64 a.y.lo, .int .i64 a.y.hi, .bool a.y.no, .int .i64 a.z.lo, .int .i64 a.z.hi, .bool a.z.no]) rfl rfl rfl fun g0 => ?_)
  refine ao 2 rfl rfl (st_new zero26 rfl fun g1 => ?_)
  refine ar_nil ?_
  refine ac_seq ?_
  refine ac_draw0 (id := 1) [0, 1, 2, 3, 4, 5, 6, 7, 8, 9, 10] [11] _ (by kernel_rfl) follows rfl  ?_
  refine dw_op (d := (some 3)) (.pointer (some ⟨g0, 0, none⟩)) rfl rfl rfl (st_fa (g := g0) (off := 0) rfl fa57_0 rfl ⟨rfl, rfl⟩) ?_
  refine dw_op (d := (some 4)) (.agg #[.int .i64 a.x.lo, .int .i64 a.x.hi, .bool a.x.no]) rfl rfl rfl (st_lda (g := g0) (off := 0) (vs := [.int .i64 a.x.lo, .int .i64 a.x.hi, .bool a.x.no]) agg26 1 rfl rfl rfl rfl rfl rfl ⟨rfl, rfl⟩) ?_
  refine dw_op (d := (some 5)) (.agg #[.int .i64 ((ivSqr a.x).lo), .int .i64 ((ivSqr a.x).hi), .bool ((ivSqr a.x).no)]) rfl rfl rfl (st_cf (vs := [.agg #[.int .i64 a.x.lo, .int .i64 a.x.hi, .bool a.x.no]]) (r := .agg #[.int .i64 ((ivSqr a.x).lo), .int .i64 ((ivSqr a.x).hi), .bool ((ivSqr a.x).no)]) (c_ivSqr a.x) Try.func94 rfl (by decide) rfl rfl rfl ⟨rfl, rfl⟩) ?_
  refine dw_op (d := (some 6)) (.pointer (some ⟨g0, 3, none⟩)) rfl rfl rfl (st_fa (g := g0) (off := 0) rfl fa57_1 rfl ⟨rfl, rfl⟩) ?_
  refine dw_op (d := (some 7)) (.agg #[.int .i64 a.y.lo, .int .i64 a.y.hi, .bool a.y.no]) rfl rfl rfl (st_lda (g := g0) (off := 3) (vs := [.int .i64 a.y.lo, .int .i64 a.y.hi, .bool a.y.no]) agg26 1 rfl rfl rfl rfl rfl rfl ⟨rfl, rfl⟩) ?_
  refine dw_op (d := (some 8)) (.agg #[.int .i64 ((ivSqr a.y).lo), .int .i64 ((ivSqr a.y).hi), .bool ((ivSqr a.y).no)]) rfl rfl rfl (st_cf (vs := [.agg #[.int .i64 a.y.lo, .int .i64 a.y.hi, .bool a.y.no]]) (r := .agg #[.int .i64 ((ivSqr a.y).lo), .int .i64 ((ivSqr a.y).hi), .bool ((ivSqr a.y).no)]) (c_ivSqr a.y) Try.func94 rfl (by decide) rfl rfl rfl ⟨rfl, rfl⟩) ?_
  refine dw_op (d := (some 9)) (.agg #[.int .i64 ((ivAdd (ivSqr a.x) (ivSqr a.y)).lo), .int .i64 ((ivAdd (ivSqr a.x) (ivSqr a.y)).hi), .bool ((ivAdd (ivSqr a.x) (ivSqr a.y)).no)]) rfl rfl rfl (st_cf (vs := [.agg #[.int .i64 ((ivSqr a.x).lo), .int .i64 ((ivSqr a.x).hi), .bool ((ivSqr a.x).no)], .agg #[.int .i64 ((ivSqr a.y).lo), .int .i64 ((ivSqr a.y).hi), .bool ((ivSqr a.y).no)]]) (r := .agg #[.int .i64 ((ivAdd (ivSqr a.x) (ivSqr a.y)).lo), .int .i64 ((ivAdd (ivSqr a.x) (ivSqr a.y)).hi), .bool ((ivAdd (ivSqr a.x) (ivSqr a.y)).no)]) (c_ivAdd (ivSqr a.x) (ivSqr a.y)) Try.func67 rfl (by decide) rfl rfl rfl ⟨rfl, rfl⟩) ?_
  refine dw_op (d := (some 10)) (.pointer (some ⟨g0, 6, none⟩)) rfl rfl rfl (st_fa (g := g0) (off := 0) rfl fa57_2 rfl ⟨rfl, rfl⟩) ?_
  refine dw_op (d := (some 11)) (.agg #[.int .i64 a.z.lo, .int .i64 a.z.hi, .bool a.z.no]) rfl rfl rfl (st_lda (g := g0) (off := 6) (vs := [.int .i64 a.z.lo, .int .i64 a.z.hi, .bool a.z.no]) agg26 1 rfl rfl rfl rfl rfl rfl ⟨rfl, rfl⟩) ?_
  refine dw_op (d := (some 12)) (.agg #[.int .i64 ((ivSqr a.z).lo), .int .i64 ((ivSqr a.z).hi), .bool ((ivSqr a.z).no)]) rfl rfl rfl (st_cf (vs := [.agg #[.int .i64 a.z.lo, .int .i64 a.z.hi, .bool a.z.no]]) (r := .agg #[.int .i64 ((ivSqr a.z).lo), .int .i64 ((ivSqr a.z).hi), .bool ((ivSqr a.z).no)]) (c_ivSqr a.z) Try.func94 rfl (by decide) rfl rfl rfl ⟨rfl, rfl⟩) ?_
  refine dw_op (d := (some 13)) (.agg #[.int .i64 ((ivAdd (ivAdd (ivSqr a.x) (ivSqr a.y)) (ivSqr a.z)).lo), .int .i64 ((ivAdd (ivAdd (ivSqr a.x) (ivSqr a.y)) (ivSqr a.z)).hi), .bool ((ivAdd (ivAdd (ivSqr a.x) (ivSqr a.y)) (ivSqr a.z)).no)]) rfl rfl rfl (st_cf (vs := [.agg #[.int .i64 ((ivAdd (ivSqr a.x) (ivSqr a.y)).lo), .int .i64 ((ivAdd (ivSqr a.x) (ivSqr a.y)).hi), .bool ((ivAdd (ivSqr a.x) (ivSqr a.y)).no)], .agg #[.int .i64 ((ivSqr a.z).lo), .int .i64 ((ivSqr a.z).hi), .bool ((ivSqr a.z).no)]]) (r := .agg #[.int .i64 ((ivAdd (ivAdd (ivSqr a.x) (ivSqr a.y)) (ivSqr a.z)).lo), .int .i64 ((ivAdd (ivAdd (ivSqr a.x) (ivSqr a.y)) (ivSqr a.z)).hi), .bool ((ivAdd (ivAdd (ivSqr a.x) (ivSqr a.y)) (ivSqr a.z)).no)]) (c_ivAdd (ivAdd (ivSqr a.x) (ivSqr a.y)) (ivSqr a.z)) Try.func67 rfl (by decide) rfl rfl rfl ⟨rfl, rfl⟩) ?_
  refine dw_nil ?_
  refine ar_op (d := none) rfl rfl (st_sta (g := g1) (off := 0) (us := [.int .i64 ((ivAdd (ivAdd (ivSqr a.x) (ivSqr a.y)) (ivSqr a.z)).lo), .int .i64 ((ivAdd (ivAdd (ivSqr a.x) (ivSqr a.y)) (ivSqr a.z)).hi), .bool ((ivAdd (ivAdd (ivSqr a.x) (ivSqr a.y)) (ivSqr a.z)).no)]) (cs := [.int .i64 ((ivAdd (ivAdd (ivSqr a.x) (ivSqr a.y)) (ivSqr a.z)).lo), .int .i64 ((ivAdd (ivAdd (ivSqr a.x) (ivSqr a.y)) (ivSqr a.z)).hi), .bool ((ivAdd (ivAdd (ivSqr a.x) (ivSqr a.y)) (ivSqr a.z)).no)]) agg26 0 rfl rfl rfl rfl rfl rfl rfl rfl rfl ?_)
  refine ar_nil ?_
  refine ac_ret ?_
  exact fin_eq (v := .agg #[.int .i64 ((ivAdd (ivAdd (ivSqr a.x) (ivSqr a.y)) (ivSqr a.z)).lo), .int .i64 ((ivAdd (ivAdd (ivSqr a.x) (ivSqr a.y)) (ivSqr a.z)).hi), .bool ((ivAdd (ivAdd (ivSqr a.x) (ivSqr a.y)) (ivSqr a.z)).no)]) rfl (fin_ret (res_c (vs := [.int .i64 ((ivAdd (ivAdd (ivSqr a.x) (ivSqr a.y)) (ivSqr a.z)).lo), .int .i64 ((ivAdd (ivAdd (ivSqr a.x) (ivSqr a.y)) (ivSqr a.z)).hi), .bool ((ivAdd (ivAdd (ivSqr a.x) (ivSqr a.y)) (ivSqr a.z)).no)]) agg26 0 rfl rfl rfl rfl rfl rfl))
def vecUnit_e0 (a : V) : V := (vecOf (ivDiv a.x (ivRoot (vecLen2 a))) (ivDiv a.y (ivRoot (vecLen2 a))) (ivDiv a.z (ivRoot (vecLen2 a))))
def vecUnit (a : V) : V := (vecUnit_e0 a)
set_option maxRecDepth 100000 in
theorem c_vecUnit (a : V) : Gets Try.prog 93 #[.agg #[.int .i64 a.x.lo, .int .i64 a.x.hi, .bool a.x.no, .int .i64 a.y.lo, .int .i64 a.y.hi, .bool a.y.no, .int .i64 a.z.lo, .int .i64 a.z.hi, .bool a.z.no]] (V.v (vecUnit a)) := by
  refine gets_fin Try.func93 rfl rfl rfl ?_
  refine ac_seq ?_
  refine ac_region_lit ?_
  refine ao 1 rfl rfl (st_box (v := .agg #[.int .i64 a.x.lo, .int .i64 a.x.hi, .bool a.x.no, .int .i64 a.y.lo, .int .i64 a.y.hi, .bool a.y.no, .int .i64 a.z.lo, .int .i64 a.z.hi, .bool a.z.no]) (cs := [.int .i64 a.x.lo, .int .i64 a.x.hi, .bool a.x.no, .int .i64 a.y.lo, .int .i64 a.y.hi, .bool a.y.no, .int .i64 a.z.lo, .int .i64 a.z.hi, .bool a.z.no]) rfl rfl rfl fun g0 => ?_)
  refine ao 2 rfl rfl (st_new zero57 rfl fun g1 => ?_)
  refine ar_nil ?_
  refine ac_seq ?_
  refine ac_region_lit ?_
  refine ao 4 rfl rfl (st_lda (g := g0) (off := 0) (vs := [.int .i64 a.x.lo, .int .i64 a.x.hi, .bool a.x.no, .int .i64 a.y.lo, .int .i64 a.y.hi, .bool a.y.no, .int .i64 a.z.lo, .int .i64 a.z.hi, .bool a.z.no]) agg57 1 rfl rfl rfl rfl rfl rfl ?_)
  refine ao 5 rfl rfl (st_cf (vs := [.agg #[.int .i64 a.x.lo, .int .i64 a.x.hi, .bool a.x.no, .int .i64 a.y.lo, .int .i64 a.y.hi, .bool a.y.no, .int .i64 a.z.lo, .int .i64 a.z.hi, .bool a.z.no]]) (r := .agg #[.int .i64 ((vecLen2 a).lo), .int .i64 ((vecLen2 a).hi), .bool ((vecLen2 a).no)]) (c_vecLen2 a) Try.func52 rfl (by decide) rfl rfl rfl ?_)
  refine ao 6 rfl rfl (st_cf (vs := [.agg #[.int .i64 ((vecLen2 a).lo), .int .i64 ((vecLen2 a).hi), .bool ((vecLen2 a).no)]]) (r := .agg #[.int .i64 ((ivRoot (vecLen2 a)).lo), .int .i64 ((ivRoot (vecLen2 a)).hi), .bool ((ivRoot (vecLen2 a)).no)]) (c_ivRoot (vecLen2 a)) Try.func102 rfl (by decide) rfl rfl rfl ?_)
  refine ao 3 rfl rfl (st_new zero26 rfl fun g2 => ?_)
  refine ar_op (d := none) rfl rfl (st_sta (g := g2) (off := 0) (us := [.int .i64 ((ivRoot (vecLen2 a)).lo), .int .i64 ((ivRoot (vecLen2 a)).hi), .bool ((ivRoot (vecLen2 a)).no)]) (cs := [.int .i64 ((ivRoot (vecLen2 a)).lo), .int .i64 ((ivRoot (vecLen2 a)).hi), .bool ((ivRoot (vecLen2 a)).no)]) agg26 0 rfl rfl rfl rfl rfl rfl rfl rfl rfl ?_)
  refine ar_nil ?_
  refine ac_seq ?_
  refine ac_draw0 (id := 2) [0, 1, 2, 3, 4, 5, 6, 7, 8, 9, 10, 11, 12] [13] _ (by kernel_rfl) follows rfl  ?_
  refine dw_op (d := (some 7)) (.pointer (some ⟨g0, 0, none⟩)) rfl rfl rfl (st_fa (g := g0) (off := 0) rfl fa57_0 rfl ⟨rfl, rfl⟩) ?_
  refine dw_op (d := (some 8)) (.agg #[.int .i64 a.x.lo, .int .i64 a.x.hi, .bool a.x.no]) rfl rfl rfl (st_lda (g := g0) (off := 0) (vs := [.int .i64 a.x.lo, .int .i64 a.x.hi, .bool a.x.no]) agg26 2 rfl rfl rfl rfl rfl rfl ⟨rfl, rfl⟩) ?_
  refine dw_op (d := (some 9)) (.agg #[.int .i64 ((ivRoot (vecLen2 a)).lo), .int .i64 ((ivRoot (vecLen2 a)).hi), .bool ((ivRoot (vecLen2 a)).no)]) rfl rfl rfl (st_lda (g := g2) (off := 0) (vs := [.int .i64 ((ivRoot (vecLen2 a)).lo), .int .i64 ((ivRoot (vecLen2 a)).hi), .bool ((ivRoot (vecLen2 a)).no)]) agg26 0 rfl rfl rfl rfl rfl rfl ⟨rfl, rfl⟩) ?_
  refine dw_op (d := (some 10)) (.agg #[.int .i64 ((ivDiv a.x (ivRoot (vecLen2 a))).lo), .int .i64 ((ivDiv a.x (ivRoot (vecLen2 a))).hi), .bool ((ivDiv a.x (ivRoot (vecLen2 a))).no)]) rfl rfl rfl (st_cf (vs := [.agg #[.int .i64 a.x.lo, .int .i64 a.x.hi, .bool a.x.no], .agg #[.int .i64 ((ivRoot (vecLen2 a)).lo), .int .i64 ((ivRoot (vecLen2 a)).hi), .bool ((ivRoot (vecLen2 a)).no)]]) (r := .agg #[.int .i64 ((ivDiv a.x (ivRoot (vecLen2 a))).lo), .int .i64 ((ivDiv a.x (ivRoot (vecLen2 a))).hi), .bool ((ivDiv a.x (ivRoot (vecLen2 a))).no)]) (c_ivDiv a.x (ivRoot (vecLen2 a))) Try.func33 rfl (by decide) rfl rfl rfl ⟨rfl, rfl⟩) ?_
  refine dw_op (d := (some 11)) (.pointer (some ⟨g0, 3, none⟩)) rfl rfl rfl (st_fa (g := g0) (off := 0) rfl fa57_1 rfl ⟨rfl, rfl⟩) ?_
  refine dw_op (d := (some 12)) (.agg #[.int .i64 a.y.lo, .int .i64 a.y.hi, .bool a.y.no]) rfl rfl rfl (st_lda (g := g0) (off := 3) (vs := [.int .i64 a.y.lo, .int .i64 a.y.hi, .bool a.y.no]) agg26 2 rfl rfl rfl rfl rfl rfl ⟨rfl, rfl⟩) ?_
  refine dw_op (d := (some 13)) (.agg #[.int .i64 ((ivRoot (vecLen2 a)).lo), .int .i64 ((ivRoot (vecLen2 a)).hi), .bool ((ivRoot (vecLen2 a)).no)]) rfl rfl rfl (st_lda (g := g2) (off := 0) (vs := [.int .i64 ((ivRoot (vecLen2 a)).lo), .int .i64 ((ivRoot (vecLen2 a)).hi), .bool ((ivRoot (vecLen2 a)).no)]) agg26 0 rfl rfl rfl rfl rfl rfl ⟨rfl, rfl⟩) ?_
  refine dw_op (d := (some 14)) (.agg #[.int .i64 ((ivDiv a.y (ivRoot (vecLen2 a))).lo), .int .i64 ((ivDiv a.y (ivRoot (vecLen2 a))).hi), .bool ((ivDiv a.y (ivRoot (vecLen2 a))).no)]) rfl rfl rfl (st_cf (vs := [.agg #[.int .i64 a.y.lo, .int .i64 a.y.hi, .bool a.y.no], .agg #[.int .i64 ((ivRoot (vecLen2 a)).lo), .int .i64 ((ivRoot (vecLen2 a)).hi), .bool ((ivRoot (vecLen2 a)).no)]]) (r := .agg #[.int .i64 ((ivDiv a.y (ivRoot (vecLen2 a))).lo), .int .i64 ((ivDiv a.y (ivRoot (vecLen2 a))).hi), .bool ((ivDiv a.y (ivRoot (vecLen2 a))).no)]) (c_ivDiv a.y (ivRoot (vecLen2 a))) Try.func33 rfl (by decide) rfl rfl rfl ⟨rfl, rfl⟩) ?_
  refine dw_op (d := (some 15)) (.pointer (some ⟨g0, 6, none⟩)) rfl rfl rfl (st_fa (g := g0) (off := 0) rfl fa57_2 rfl ⟨rfl, rfl⟩) ?_
  refine dw_op (d := (some 16)) (.agg #[.int .i64 a.z.lo, .int .i64 a.z.hi, .bool a.z.no]) rfl rfl rfl (st_lda (g := g0) (off := 6) (vs := [.int .i64 a.z.lo, .int .i64 a.z.hi, .bool a.z.no]) agg26 2 rfl rfl rfl rfl rfl rfl ⟨rfl, rfl⟩) ?_
  refine dw_op (d := (some 17)) (.agg #[.int .i64 ((ivRoot (vecLen2 a)).lo), .int .i64 ((ivRoot (vecLen2 a)).hi), .bool ((ivRoot (vecLen2 a)).no)]) rfl rfl rfl (st_lda (g := g2) (off := 0) (vs := [.int .i64 ((ivRoot (vecLen2 a)).lo), .int .i64 ((ivRoot (vecLen2 a)).hi), .bool ((ivRoot (vecLen2 a)).no)]) agg26 0 rfl rfl rfl rfl rfl rfl ⟨rfl, rfl⟩) ?_
  refine dw_op (d := (some 18)) (.agg #[.int .i64 ((ivDiv a.z (ivRoot (vecLen2 a))).lo), .int .i64 ((ivDiv a.z (ivRoot (vecLen2 a))).hi), .bool ((ivDiv a.z (ivRoot (vecLen2 a))).no)]) rfl rfl rfl (st_cf (vs := [.agg #[.int .i64 a.z.lo, .int .i64 a.z.hi, .bool a.z.no], .agg #[.int .i64 ((ivRoot (vecLen2 a)).lo), .int .i64 ((ivRoot (vecLen2 a)).hi), .bool ((ivRoot (vecLen2 a)).no)]]) (r := .agg #[.int .i64 ((ivDiv a.z (ivRoot (vecLen2 a))).lo), .int .i64 ((ivDiv a.z (ivRoot (vecLen2 a))).hi), .bool ((ivDiv a.z (ivRoot (vecLen2 a))).no)]) (c_ivDiv a.z (ivRoot (vecLen2 a))) Try.func33 rfl (by decide) rfl rfl rfl ⟨rfl, rfl⟩) ?_
  refine dw_op (d := (some 19)) (.agg #[.int .i64 (((vecUnit_e0 a).x).lo), .int .i64 (((vecUnit_e0 a).x).hi), .bool (((vecUnit_e0 a).x).no), .int .i64 (((vecUnit_e0 a).y).lo), .int .i64 (((vecUnit_e0 a).y).hi), .bool (((vecUnit_e0 a).y).no), .int .i64 (((vecUnit_e0 a).z).lo), .int .i64 (((vecUnit_e0 a).z).hi), .bool (((vecUnit_e0 a).z).no)]) rfl rfl rfl (st_cf (vs := [.agg #[.int .i64 ((ivDiv a.x (ivRoot (vecLen2 a))).lo), .int .i64 ((ivDiv a.x (ivRoot (vecLen2 a))).hi), .bool ((ivDiv a.x (ivRoot (vecLen2 a))).no)], .agg #[.int .i64 ((ivDiv a.y (ivRoot (vecLen2 a))).lo), .int .i64 ((ivDiv a.y (ivRoot (vecLen2 a))).hi), .bool ((ivDiv a.y (ivRoot (vecLen2 a))).no)], .agg #[.int .i64 ((ivDiv a.z (ivRoot (vecLen2 a))).lo), .int .i64 ((ivDiv a.z (ivRoot (vecLen2 a))).hi), .bool ((ivDiv a.z (ivRoot (vecLen2 a))).no)]]) (r := .agg #[.int .i64 (((vecUnit_e0 a).x).lo), .int .i64 (((vecUnit_e0 a).x).hi), .bool (((vecUnit_e0 a).x).no), .int .i64 (((vecUnit_e0 a).y).lo), .int .i64 (((vecUnit_e0 a).y).hi), .bool (((vecUnit_e0 a).y).no), .int .i64 (((vecUnit_e0 a).z).lo), .int .i64 (((vecUnit_e0 a).z).hi), .bool (((vecUnit_e0 a).z).no)]) (c_vecOf (ivDiv a.x (ivRoot (vecLen2 a))) (ivDiv a.y (ivRoot (vecLen2 a))) (ivDiv a.z (ivRoot (vecLen2 a)))) Try.func44 rfl (by decide) rfl rfl rfl ⟨rfl, rfl⟩) ?_
  refine dw_nil ?_
  refine ar_op (d := none) rfl rfl (st_sta (g := g1) (off := 0) (us := [.int .i64 (((vecUnit_e0 a).x).lo), .int .i64 (((vecUnit_e0 a).x).hi), .bool (((vecUnit_e0 a).x).no), .int .i64 (((vecUnit_e0 a).y).lo), .int .i64 (((vecUnit_e0 a).y).hi), .bool (((vecUnit_e0 a).y).no), .int .i64 (((vecUnit_e0 a).z).lo), .int .i64 (((vecUnit_e0 a).z).hi), .bool (((vecUnit_e0 a).z).no)]) (cs := [.int .i64 (((vecUnit_e0 a).x).lo), .int .i64 (((vecUnit_e0 a).x).hi), .bool (((vecUnit_e0 a).x).no), .int .i64 (((vecUnit_e0 a).y).lo), .int .i64 (((vecUnit_e0 a).y).hi), .bool (((vecUnit_e0 a).y).no), .int .i64 (((vecUnit_e0 a).z).lo), .int .i64 (((vecUnit_e0 a).z).hi), .bool (((vecUnit_e0 a).z).no)]) agg57 1 rfl rfl rfl rfl rfl rfl rfl rfl rfl ?_)
  refine ar_nil ?_
  refine ac_ret ?_
  exact fin_eq (v := .agg #[.int .i64 (((vecUnit_e0 a).x).lo), .int .i64 (((vecUnit_e0 a).x).hi), .bool (((vecUnit_e0 a).x).no), .int .i64 (((vecUnit_e0 a).y).lo), .int .i64 (((vecUnit_e0 a).y).hi), .bool (((vecUnit_e0 a).y).no), .int .i64 (((vecUnit_e0 a).z).lo), .int .i64 (((vecUnit_e0 a).z).hi), .bool (((vecUnit_e0 a).z).no)]) rfl (fin_ret (res_c (vs := [.int .i64 (((vecUnit_e0 a).x).lo), .int .i64 (((vecUnit_e0 a).x).hi), .bool (((vecUnit_e0 a).x).no), .int .i64 (((vecUnit_e0 a).y).lo), .int .i64 (((vecUnit_e0 a).y).hi), .bool (((vecUnit_e0 a).y).no), .int .i64 (((vecUnit_e0 a).z).lo), .int .i64 (((vecUnit_e0 a).z).hi), .bool (((vecUnit_e0 a).z).no)]) agg57 1 rfl rfl rfl rfl rfl rfl))
def vecInside (a : V) (b : V) : Bool := (bif ivInside a.x b.x then (bif ivInside a.y b.y then ivInside a.z b.z else false) else false)
set_option maxRecDepth 100000 in
theorem c_vecInside (a : V) (b : V) : Gets Try.prog 51 #[.agg #[.int .i64 a.x.lo, .int .i64 a.x.hi, .bool a.x.no, .int .i64 a.y.lo, .int .i64 a.y.hi, .bool a.y.no, .int .i64 a.z.lo, .int .i64 a.z.hi, .bool a.z.no], .agg #[.int .i64 b.x.lo, .int .i64 b.x.hi, .bool b.x.no, .int .i64 b.y.lo, .int .i64 b.y.hi, .bool b.y.no, .int .i64 b.z.lo, .int .i64 b.z.hi, .bool b.z.no]] ((fun (r : Bool) => (.bool r : Value)) (vecInside a b)) := by
  refine gets_fin Try.func51 rfl rfl rfl ?_
  refine ac_seq ?_
  refine ac_region_lit ?_
  refine ao 2 rfl rfl (st_box (v := .agg #[.int .i64 a.x.lo, .int .i64 a.x.hi, .bool a.x.no, .int .i64 a.y.lo, .int .i64 a.y.hi, .bool a.y.no, .int .i64 a.z.lo, .int .i64 a.z.hi, .bool a.z.no]) (cs := [.int .i64 a.x.lo, .int .i64 a.x.hi, .bool a.x.no, .int .i64 a.y.lo, .int .i64 a.y.hi, .bool a.y.no, .int .i64 a.z.lo, .int .i64 a.z.hi, .bool a.z.no]) rfl rfl rfl fun g0 => ?_)
  refine ao 3 rfl rfl (st_box (v := .agg #[.int .i64 b.x.lo, .int .i64 b.x.hi, .bool b.x.no, .int .i64 b.y.lo, .int .i64 b.y.hi, .bool b.y.no, .int .i64 b.z.lo, .int .i64 b.z.hi, .bool b.z.no]) (cs := [.int .i64 b.x.lo, .int .i64 b.x.hi, .bool b.x.no, .int .i64 b.y.lo, .int .i64 b.y.hi, .bool b.y.no, .int .i64 b.z.lo, .int .i64 b.z.hi, .bool b.z.no]) rfl rfl rfl fun g1 => ?_)
  refine ao 4 rfl rfl (st_assign (v := .bool false) rfl rfl ?_)
  refine ar_nil ?_
  refine ac_seq ?_
  refine ac_region_lit ?_
  refine ao 5 rfl rfl (st_fa (g := g0) (off := 0) rfl fa57_0 rfl ?_)
  refine ao 6 rfl rfl (st_lda (g := g0) (off := 0) (vs := [.int .i64 a.x.lo, .int .i64 a.x.hi, .bool a.x.no]) agg26 1 rfl rfl rfl rfl rfl rfl ?_)
  refine ao 7 rfl rfl (st_fa (g := g1) (off := 0) rfl fa57_0 rfl ?_)
  refine ao 8 rfl rfl (st_lda (g := g1) (off := 0) (vs := [.int .i64 b.x.lo, .int .i64 b.x.hi, .bool b.x.no]) agg26 0 rfl rfl rfl rfl rfl rfl ?_)
  refine ao 9 rfl rfl (st_cf (vs := [.agg #[.int .i64 a.x.lo, .int .i64 a.x.hi, .bool a.x.no], .agg #[.int .i64 b.x.lo, .int .i64 b.x.hi, .bool b.x.no]]) (r := .bool (ivInside a.x b.x)) (c_ivInside a.x b.x) Try.func26 rfl (by decide) rfl rfl rfl ?_)
  refine ao 10 rfl rfl (st_move (v := .bool (ivInside a.x b.x)) rfl rfl ?_)
  refine bool_split (ivInside a.x b.x) (fun h1 => ?_) (fun h1 => ?_)
  · refine ar_gd (d := (some 11)) (by show ((ivInside a.x b.x) == true) = true; rw [h1]; rfl) rfl (st_fa (g := g0) (off := 0) rfl fa57_1 rfl ?_)
    refine ar_gd (d := (some 12)) (by show ((ivInside a.x b.x) == true) = true; rw [h1]; rfl) rfl (st_lda (g := g0) (off := 3) (vs := [.int .i64 a.y.lo, .int .i64 a.y.hi, .bool a.y.no]) agg26 1 rfl rfl rfl rfl rfl rfl ?_)
    refine ar_gd (d := (some 13)) (by show ((ivInside a.x b.x) == true) = true; rw [h1]; rfl) rfl (st_fa (g := g1) (off := 0) rfl fa57_1 rfl ?_)
    refine ar_gd (d := (some 14)) (by show ((ivInside a.x b.x) == true) = true; rw [h1]; rfl) rfl (st_lda (g := g1) (off := 3) (vs := [.int .i64 b.y.lo, .int .i64 b.y.hi, .bool b.y.no]) agg26 0 rfl rfl rfl rfl rfl rfl ?_)
    refine ar_gd (d := (some 15)) (by show ((ivInside a.x b.x) == true) = true; rw [h1]; rfl) rfl (st_cf (vs := [.agg #[.int .i64 a.y.lo, .int .i64 a.y.hi, .bool a.y.no], .agg #[.int .i64 b.y.lo, .int .i64 b.y.hi, .bool b.y.no]]) (r := .bool (ivInside a.y b.y)) (c_ivInside a.y b.y) Try.func26 rfl (by decide) rfl rfl rfl ?_)
    refine ao 16 rfl rfl (st_pkt' (b := ivInside a.x b.x) (v := .bool (ivInside a.y b.y)) h1 rfl rfl rfl ?_)
    refine ao 17 rfl rfl (st_move (v := .bool (ivInside a.y b.y)) rfl rfl ?_)
    refine bool_split (ivInside a.y b.y) (fun h2 => ?_) (fun h2 => ?_)
    · refine ar_gd (d := (some 18)) (by show ((ivInside a.y b.y) == true) = true; rw [h2]; rfl) rfl (st_fa (g := g0) (off := 0) rfl fa57_2 rfl ?_)
      refine ar_gd (d := (some 19)) (by show ((ivInside a.y b.y) == true) = true; rw [h2]; rfl) rfl (st_lda (g := g0) (off := 6) (vs := [.int .i64 a.z.lo, .int .i64 a.z.hi, .bool a.z.no]) agg26 1 rfl rfl rfl rfl rfl rfl ?_)
      refine ar_gd (d := (some 20)) (by show ((ivInside a.y b.y) == true) = true; rw [h2]; rfl) rfl (st_fa (g := g1) (off := 0) rfl fa57_2 rfl ?_)
      refine ar_gd (d := (some 21)) (by show ((ivInside a.y b.y) == true) = true; rw [h2]; rfl) rfl (st_lda (g := g1) (off := 6) (vs := [.int .i64 b.z.lo, .int .i64 b.z.hi, .bool b.z.no]) agg26 0 rfl rfl rfl rfl rfl rfl ?_)
      refine ar_gd (d := (some 22)) (by show ((ivInside a.y b.y) == true) = true; rw [h2]; rfl) rfl (st_cf (vs := [.agg #[.int .i64 a.z.lo, .int .i64 a.z.hi, .bool a.z.no], .agg #[.int .i64 b.z.lo, .int .i64 b.z.hi, .bool b.z.no]]) (r := .bool (ivInside a.z b.z)) (c_ivInside a.z b.z) Try.func26 rfl (by decide) rfl rfl rfl ?_)
      refine ao 23 rfl rfl (st_pkt' (b := ivInside a.y b.y) (v := .bool (ivInside a.z b.z)) h2 rfl rfl rfl ?_)
      refine ao 4 rfl rfl (st_assign (v := .bool (ivInside a.z b.z)) rfl rfl ?_)
      refine ar_nil ?_
      refine ac_ret ?_
      exact fin_eq (v := .bool (ivInside a.z b.z)) (by show _ = (fun (r : Bool) => (.bool r : Value)) (vecInside a b); rw [vecInside, h2, h1] <;> rfl) (fin_ret (res_tmp rfl rfl))
    · refine ar_sk (d := (some 18)) (by show ((ivInside a.y b.y) == true) = false; rw [h2]; rfl) rfl ?_
      refine ar_sk (d := (some 19)) (by show ((ivInside a.y b.y) == true) = false; rw [h2]; rfl) rfl ?_
      refine ar_sk (d := (some 20)) (by show ((ivInside a.y b.y) == true) = false; rw [h2]; rfl) rfl ?_
      refine ar_sk (d := (some 21)) (by show ((ivInside a.y b.y) == true) = false; rw [h2]; rfl) rfl ?_
      refine ar_sk (d := (some 22)) (by show ((ivInside a.y b.y) == true) = false; rw [h2]; rfl) rfl ?_
      refine ao 23 rfl rfl (st_pkf' (b := ivInside a.y b.y) (v := .bool false) h2 rfl rfl rfl ?_)
      refine ao 4 rfl rfl (st_assign (v := .bool false) rfl rfl ?_)
      refine ar_nil ?_
      refine ac_ret ?_
      exact fin_eq (v := .bool false) (by show _ = (fun (r : Bool) => (.bool r : Value)) (vecInside a b); rw [vecInside, h2, h1] <;> rfl) (fin_ret (res_tmp rfl rfl))
  · refine ar_sk (d := (some 11)) (by show ((ivInside a.x b.x) == true) = false; rw [h1]; rfl) rfl ?_
    refine ar_sk (d := (some 12)) (by show ((ivInside a.x b.x) == true) = false; rw [h1]; rfl) rfl ?_
    refine ar_sk (d := (some 13)) (by show ((ivInside a.x b.x) == true) = false; rw [h1]; rfl) rfl ?_
    refine ar_sk (d := (some 14)) (by show ((ivInside a.x b.x) == true) = false; rw [h1]; rfl) rfl ?_
    refine ar_sk (d := (some 15)) (by show ((ivInside a.x b.x) == true) = false; rw [h1]; rfl) rfl ?_
    refine ao 16 rfl rfl (st_pkf' (b := ivInside a.x b.x) (v := .bool false) h1 rfl rfl rfl ?_)
    refine ao 17 rfl rfl (st_move (v := .bool false) rfl rfl ?_)
    refine ar_sk (d := (some 18)) rfl rfl ?_
    refine ar_sk (d := (some 19)) rfl rfl ?_
    refine ar_sk (d := (some 20)) rfl rfl ?_
    refine ar_sk (d := (some 21)) rfl rfl ?_
    refine ar_sk (d := (some 22)) rfl rfl ?_
    refine ao 23 rfl rfl (st_pkf (v := .bool false) rfl rfl rfl ?_)
    refine ao 4 rfl rfl (st_assign (v := .bool false) rfl rfl ?_)
    refine ar_nil ?_
    refine ac_ret ?_
    exact fin_eq (v := .bool false) (by show _ = (fun (r : Bool) => (.bool r : Value)) (vecInside a b); rw [vecInside, h1] <;> rfl) (fin_ret (res_tmp rfl rfl))
def vecMirror (a : V) : V := (⟨a.x, (ivNeg a.y), a.z⟩ : V)
set_option maxRecDepth 100000 in
theorem c_vecMirror (a : V) : Gets Try.prog 54 #[.agg #[.int .i64 a.x.lo, .int .i64 a.x.hi, .bool a.x.no, .int .i64 a.y.lo, .int .i64 a.y.hi, .bool a.y.no, .int .i64 a.z.lo, .int .i64 a.z.hi, .bool a.z.no]] (V.v (vecMirror a)) := by
  refine gets_fin Try.func54 rfl rfl rfl ?_
  refine ac_seq ?_
  refine ac_region_lit ?_
  refine ao 1 rfl rfl (st_box (v := .agg #[.int .i64 a.x.lo, .int .i64 a.x.hi, .bool a.x.no, .int .i64 a.y.lo, .int .i64 a.y.hi, .bool a.y.no, .int .i64 a.z.lo, .int .i64 a.z.hi, .bool a.z.no]) (cs := [.int .i64 a.x.lo, .int .i64 a.x.hi, .bool a.x.no, .int .i64 a.y.lo, .int .i64 a.y.hi, .bool a.y.no, .int .i64 a.z.lo, .int .i64 a.z.hi, .bool a.z.no]) rfl rfl rfl fun g0 => ?_)
  refine ao 2 rfl rfl (st_new zero57 rfl fun g1 => ?_)
  refine ar_nil ?_
  refine ac_seq ?_
  refine ac_region_lit ?_
  refine ao 3 rfl rfl (st_fa (g := g0) (off := 0) rfl fa57_1 rfl ?_)
  refine ao 4 rfl rfl (st_lda (g := g0) (off := 3) (vs := [.int .i64 a.y.lo, .int .i64 a.y.hi, .bool a.y.no]) agg26 1 rfl rfl rfl rfl rfl rfl ?_)
  refine ao 5 rfl rfl (st_cf (vs := [.agg #[.int .i64 a.y.lo, .int .i64 a.y.hi, .bool a.y.no]]) (r := .agg #[.int .i64 ((ivNeg a.y).lo), .int .i64 ((ivNeg a.y).hi), .bool ((ivNeg a.y).no)]) (c_ivNeg a.y) Try.func39 rfl (by decide) rfl rfl rfl ?_)
  refine ao 6 rfl rfl (st_fa (g := g0) (off := 0) rfl fa57_1 rfl ?_)
  refine ar_op (d := none) rfl rfl (st_sta (g := g0) (off := 3) (us := [.int .i64 ((ivNeg a.y).lo), .int .i64 ((ivNeg a.y).hi), .bool ((ivNeg a.y).no)]) (cs := [.int .i64 a.x.lo, .int .i64 a.x.hi, .bool a.x.no, .int .i64 ((ivNeg a.y).lo), .int .i64 ((ivNeg a.y).hi), .bool ((ivNeg a.y).no), .int .i64 a.z.lo, .int .i64 a.z.hi, .bool a.z.no]) agg26 1 rfl rfl rfl rfl rfl rfl rfl rfl rfl ?_)
  refine ar_nil ?_
  refine ac_seq ?_
  refine ac_region_lit ?_
  refine ao 7 rfl rfl (st_lda (g := g0) (off := 0) (vs := [.int .i64 a.x.lo, .int .i64 a.x.hi, .bool a.x.no, .int .i64 ((ivNeg a.y).lo), .int .i64 ((ivNeg a.y).hi), .bool ((ivNeg a.y).no), .int .i64 a.z.lo, .int .i64 a.z.hi, .bool a.z.no]) agg57 1 rfl rfl rfl rfl rfl rfl ?_)
  refine ar_op (d := none) rfl rfl (st_sta (g := g1) (off := 0) (us := [.int .i64 a.x.lo, .int .i64 a.x.hi, .bool a.x.no, .int .i64 ((ivNeg a.y).lo), .int .i64 ((ivNeg a.y).hi), .bool ((ivNeg a.y).no), .int .i64 a.z.lo, .int .i64 a.z.hi, .bool a.z.no]) (cs := [.int .i64 a.x.lo, .int .i64 a.x.hi, .bool a.x.no, .int .i64 ((ivNeg a.y).lo), .int .i64 ((ivNeg a.y).hi), .bool ((ivNeg a.y).no), .int .i64 a.z.lo, .int .i64 a.z.hi, .bool a.z.no]) agg57 0 rfl rfl rfl rfl rfl rfl rfl rfl rfl ?_)
  refine ar_nil ?_
  refine ac_ret ?_
  exact fin_eq (v := .agg #[.int .i64 a.x.lo, .int .i64 a.x.hi, .bool a.x.no, .int .i64 ((ivNeg a.y).lo), .int .i64 ((ivNeg a.y).hi), .bool ((ivNeg a.y).no), .int .i64 a.z.lo, .int .i64 a.z.hi, .bool a.z.no]) rfl (fin_ret (res_c (vs := [.int .i64 a.x.lo, .int .i64 a.x.hi, .bool a.x.no, .int .i64 ((ivNeg a.y).lo), .int .i64 ((ivNeg a.y).hi), .bool ((ivNeg a.y).no), .int .i64 a.z.lo, .int .i64 a.z.hi, .bool a.z.no]) agg57 0 rfl rfl rfl rfl rfl rfl))
def vecAdd (a : V) (b : V) : V := (vecOf (ivAdd a.x b.x) (ivAdd a.y b.y) (ivAdd a.z b.z))
def vecScale (a : V) (k : Iv) : V := (vecOf (ivMul a.x k) (ivMul a.y k) (ivMul a.z k))
def vecAlong (r : Ray) (t : Iv) : V := (vecAdd r.o (vecScale r.d t))
def vecHull (a : V) (b : V) : V := (vecOf (ivHull a.x b.x) (ivHull a.y b.y) (ivHull a.z b.z))
end Go.Proofs.Ythngkopcadlciaa
namespace Go.Proofs.Ythngkopcadlciaa
open Go.RowKit
attribute [local irreducible] AC AR DWalk
def hInV (a : V) (x : Int) (y : Int) : V := (⟨(hIn a.x x y), (hIn a.y (w64 (Int.tdiv x 3)) (w64 (Int.tdiv y 5))), (hIn a.z (w64 (Int.tdiv x 7)) (w64 (Int.tdiv y 11)))⟩ : V)
set_option maxRecDepth 100000 in
theorem c_hInV (a : V) (x : Int) (y : Int) : Gets Try.prog 49 #[.agg #[.int .i64 a.x.lo, .int .i64 a.x.hi, .bool a.x.no, .int .i64 a.y.lo, .int .i64 a.y.hi, .bool a.y.no, .int .i64 a.z.lo, .int .i64 a.z.hi, .bool a.z.no], .int .i64 x, .int .i64 y] (V.v (hInV a x y)) := by
  refine gets_fin Try.func49 rfl rfl rfl ?_
  refine ac_seq ?_
  refine ac_region_lit ?_
  refine ao 3 rfl rfl (st_box (v := .agg #[.int .i64 a.x.lo, .int .i64 a.x.hi, .bool a.x.no, .int .i64 a.y.lo, .int .i64 a.y.hi, .bool a.y.no, .int .i64 a.z.lo, .int .i64 a.z.hi, .bool a.z.no]) (cs := [.int .i64 a.x.lo, .int .i64 a.x.hi, .bool a.x.no, .int .i64 a.y.lo, .int .i64 a.y.hi, .bool a.y.no, .int .i64 a.z.lo, .int .i64 a.z.hi, .bool a.z.no]) rfl rfl rfl fun g0 => ?_)
  refine ao 6 rfl rfl (st_new zero57 rfl fun g1 => ?_)
  refine ar_nil ?_
  refine ac_seq ?_
  refine ac_draw0 (id := 1) [0, 1, 2, 3, 4, 5, 6, 7, 8, 9, 10, 11, 12, 13, 14, 15, 16, 17, 18, 19] [20] _ (by kernel_rfl) follows rfl  ?_
  refine dw_op (d := (some 7)) (.pointer (some ⟨g0, 0, none⟩)) rfl rfl rfl (st_fa (g := g0) (off := 0) rfl fa57_0 rfl ⟨rfl, rfl⟩) ?_
  refine dw_op (d := (some 8)) (.agg #[.int .i64 a.x.lo, .int .i64 a.x.hi, .bool a.x.no]) rfl rfl rfl (st_lda (g := g0) (off := 0) (vs := [.int .i64 a.x.lo, .int .i64 a.x.hi, .bool a.x.no]) agg26 1 rfl rfl rfl rfl rfl rfl ⟨rfl, rfl⟩) ?_
  refine dw_op (d := (some 9)) (.int .i64 x) rfl rfl rfl (st_move (v := .int .i64 x) rfl rfl ⟨rfl, rfl⟩) ?_
  refine dw_op (d := (some 10)) (.int .i64 y) rfl rfl rfl (st_move (v := .int .i64 y) rfl rfl ⟨rfl, rfl⟩) ?_
  refine dw_op (d := (some 11)) (.agg #[.int .i64 ((hIn a.x x y).lo), .int .i64 ((hIn a.x x y).hi), .bool ((hIn a.x x y).no)]) rfl rfl rfl (st_cf (vs := [.agg #[.int .i64 a.x.lo, .int .i64 a.x.hi, .bool a.x.no], .int .i64 x, .int .i64 y]) (r := .agg #[.int .i64 ((hIn a.x x y).lo), .int .i64 ((hIn a.x x y).hi), .bool ((hIn a.x x y).no)]) (c_hIn a.x x y) Try.func41 rfl (by decide) rfl rfl rfl ⟨rfl, rfl⟩) ?_
  refine dw_op (d := (some 12)) (.pointer (some ⟨g0, 3, none⟩)) rfl rfl rfl (st_fa (g := g0) (off := 0) rfl fa57_1 rfl ⟨rfl, rfl⟩) ?_
  refine dw_op (d := (some 13)) (.agg #[.int .i64 a.y.lo, .int .i64 a.y.hi, .bool a.y.no]) rfl rfl rfl (st_lda (g := g0) (off := 3) (vs := [.int .i64 a.y.lo, .int .i64 a.y.hi, .bool a.y.no]) agg26 1 rfl rfl rfl rfl rfl rfl ⟨rfl, rfl⟩) ?_
  refine dw_op (d := (some 14)) (.int .i64 x) rfl rfl rfl (st_move (v := .int .i64 x) rfl rfl ⟨rfl, rfl⟩) ?_
  refine dw_op (d := (some 15)) (.int .i64 (w64 (Int.tdiv x 3))) rfl rfl rfl (st_bi (u := .int .i64 x) (v := .int .i64 3) (r := .int .i64 (w64 (Int.tdiv x 3))) rfl rfl rfl (bi_quo (by decide) rfl) ⟨rfl, rfl⟩) ?_
  refine dw_op (d := (some 16)) (.int .i64 y) rfl rfl rfl (st_move (v := .int .i64 y) rfl rfl ⟨rfl, rfl⟩) ?_
  refine dw_op (d := (some 17)) (.int .i64 (w64 (Int.tdiv y 5))) rfl rfl rfl (st_bi (u := .int .i64 y) (v := .int .i64 5) (r := .int .i64 (w64 (Int.tdiv y 5))) rfl rfl rfl (bi_quo (by decide) rfl) ⟨rfl, rfl⟩) ?_
  refine dw_op (d := (some 18)) (.agg #[.int .i64 ((hIn a.y (w64 (Int.tdiv x 3)) (w64 (Int.tdiv y 5))).lo), .int .i64 ((hIn a.y (w64 (Int.tdiv x 3)) (w64 (Int.tdiv y 5))).hi), .bool ((hIn a.y (w64 (Int.tdiv x 3)) (w64 (Int.tdiv y 5))).no)]) rfl rfl rfl (st_cf (vs := [.agg #[.int .i64 a.y.lo, .int .i64 a.y.hi, .bool a.y.no], .int .i64 (w64 (Int.tdiv x 3)), .int .i64 (w64 (Int.tdiv y 5))]) (r := .agg #[.int .i64 ((hIn a.y (w64 (Int.tdiv x 3)) (w64 (Int.tdiv y 5))).lo), .int .i64 ((hIn a.y (w64 (Int.tdiv x 3)) (w64 (Int.tdiv y 5))).hi), .bool ((hIn a.y (w64 (Int.tdiv x 3)) (w64 (Int.tdiv y 5))).no)]) (c_hIn a.y (w64 (Int.tdiv x 3)) (w64 (Int.tdiv y 5))) Try.func41 rfl (by decide) rfl rfl rfl ⟨rfl, rfl⟩) ?_
  refine dw_op (d := (some 19)) (.pointer (some ⟨g0, 6, none⟩)) rfl rfl rfl (st_fa (g := g0) (off := 0) rfl fa57_2 rfl ⟨rfl, rfl⟩) ?_
  refine dw_op (d := (some 20)) (.agg #[.int .i64 a.z.lo, .int .i64 a.z.hi, .bool a.z.no]) rfl rfl rfl (st_lda (g := g0) (off := 6) (vs := [.int .i64 a.z.lo, .int .i64 a.z.hi, .bool a.z.no]) agg26 1 rfl rfl rfl rfl rfl rfl ⟨rfl, rfl⟩) ?_
  refine dw_op (d := (some 21)) (.int .i64 x) rfl rfl rfl (st_move (v := .int .i64 x) rfl rfl ⟨rfl, rfl⟩) ?_
  refine dw_op (d := (some 22)) (.int .i64 (w64 (Int.tdiv x 7))) rfl rfl rfl (st_bi (u := .int .i64 x) (v := .int .i64 7) (r := .int .i64 (w64 (Int.tdiv x 7))) rfl rfl rfl (bi_quo (by decide) rfl) ⟨rfl, rfl⟩) ?_
  refine dw_op (d := (some 23)) (.int .i64 y) rfl rfl rfl (st_move (v := .int .i64 y) rfl rfl ⟨rfl, rfl⟩) ?_
  refine dw_op (d := (some 24)) (.int .i64 (w64 (Int.tdiv y 11))) rfl rfl rfl (st_bi (u := .int .i64 y) (v := .int .i64 11) (r := .int .i64 (w64 (Int.tdiv y 11))) rfl rfl rfl (bi_quo (by decide) rfl) ⟨rfl, rfl⟩) ?_
  refine dw_op (d := (some 25)) (.agg #[.int .i64 ((hIn a.z (w64 (Int.tdiv x 7)) (w64 (Int.tdiv y 11))).lo), .int .i64 ((hIn a.z (w64 (Int.tdiv x 7)) (w64 (Int.tdiv y 11))).hi), .bool ((hIn a.z (w64 (Int.tdiv x 7)) (w64 (Int.tdiv y 11))).no)]) rfl rfl rfl (st_cf (vs := [.agg #[.int .i64 a.z.lo, .int .i64 a.z.hi, .bool a.z.no], .int .i64 (w64 (Int.tdiv x 7)), .int .i64 (w64 (Int.tdiv y 11))]) (r := .agg #[.int .i64 ((hIn a.z (w64 (Int.tdiv x 7)) (w64 (Int.tdiv y 11))).lo), .int .i64 ((hIn a.z (w64 (Int.tdiv x 7)) (w64 (Int.tdiv y 11))).hi), .bool ((hIn a.z (w64 (Int.tdiv x 7)) (w64 (Int.tdiv y 11))).no)]) (c_hIn a.z (w64 (Int.tdiv x 7)) (w64 (Int.tdiv y 11))) Try.func41 rfl (by decide) rfl rfl rfl ⟨rfl, rfl⟩) ?_
  refine dw_op (d := (some 26)) (.agg #[.int .i64 ((hIn a.x x y).lo), .int .i64 ((hIn a.x x y).hi), .bool ((hIn a.x x y).no), .int .i64 ((hIn a.y (w64 (Int.tdiv x 3)) (w64 (Int.tdiv y 5))).lo), .int .i64 ((hIn a.y (w64 (Int.tdiv x 3)) (w64 (Int.tdiv y 5))).hi), .bool ((hIn a.y (w64 (Int.tdiv x 3)) (w64 (Int.tdiv y 5))).no), .int .i64 ((hIn a.z (w64 (Int.tdiv x 7)) (w64 (Int.tdiv y 11))).lo), .int .i64 ((hIn a.z (w64 (Int.tdiv x 7)) (w64 (Int.tdiv y 11))).hi), .bool ((hIn a.z (w64 (Int.tdiv x 7)) (w64 (Int.tdiv y 11))).no)]) rfl rfl rfl (st_bd (us := [(0, .agg #[.int .i64 ((hIn a.x x y).lo), .int .i64 ((hIn a.x x y).hi), .bool ((hIn a.x x y).no)]), (1, .agg #[.int .i64 ((hIn a.y (w64 (Int.tdiv x 3)) (w64 (Int.tdiv y 5))).lo), .int .i64 ((hIn a.y (w64 (Int.tdiv x 3)) (w64 (Int.tdiv y 5))).hi), .bool ((hIn a.y (w64 (Int.tdiv x 3)) (w64 (Int.tdiv y 5))).no)]), (2, .agg #[.int .i64 ((hIn a.z (w64 (Int.tdiv x 7)) (w64 (Int.tdiv y 11))).lo), .int .i64 ((hIn a.z (w64 (Int.tdiv x 7)) (w64 (Int.tdiv y 11))).hi), .bool ((hIn a.z (w64 (Int.tdiv x 7)) (w64 (Int.tdiv y 11))).no)])]) (v := .agg #[.int .i64 ((hIn a.x x y).lo), .int .i64 ((hIn a.x x y).hi), .bool ((hIn a.x x y).no), .int .i64 ((hIn a.y (w64 (Int.tdiv x 3)) (w64 (Int.tdiv y 5))).lo), .int .i64 ((hIn a.y (w64 (Int.tdiv x 3)) (w64 (Int.tdiv y 5))).hi), .bool ((hIn a.y (w64 (Int.tdiv x 3)) (w64 (Int.tdiv y 5))).no), .int .i64 ((hIn a.z (w64 (Int.tdiv x 7)) (w64 (Int.tdiv y 11))).lo), .int .i64 ((hIn a.z (w64 (Int.tdiv x 7)) (w64 (Int.tdiv y 11))).hi), .bool ((hIn a.z (w64 (Int.tdiv x 7)) (w64 (Int.tdiv y 11))).no)]) rfl rfl (bd57_0a_1a_2a _ _ _ _ _ _ _ _ _) ⟨rfl, rfl⟩) ?_
  refine dw_nil ?_
  refine ar_op (d := none) rfl rfl (st_sta (g := g1) (off := 0) (us := [.int .i64 ((hIn a.x x y).lo), .int .i64 ((hIn a.x x y).hi), .bool ((hIn a.x x y).no), .int .i64 ((hIn a.y (w64 (Int.tdiv x 3)) (w64 (Int.tdiv y 5))).lo), .int .i64 ((hIn a.y (w64 (Int.tdiv x 3)) (w64 (Int.tdiv y 5))).hi), .bool ((hIn a.y (w64 (Int.tdiv x 3)) (w64 (Int.tdiv y 5))).no), .int .i64 ((hIn a.z (w64 (Int.tdiv x 7)) (w64 (Int.tdiv y 11))).lo), .int .i64 ((hIn a.z (w64 (Int.tdiv x 7)) (w64 (Int.tdiv y 11))).hi), .bool ((hIn a.z (w64 (Int.tdiv x 7)) (w64 (Int.tdiv y 11))).no)]) (cs := [.int .i64 ((hIn a.x x y).lo), .int .i64 ((hIn a.x x y).hi), .bool ((hIn a.x x y).no), .int .i64 ((hIn a.y (w64 (Int.tdiv x 3)) (w64 (Int.tdiv y 5))).lo), .int .i64 ((hIn a.y (w64 (Int.tdiv x 3)) (w64 (Int.tdiv y 5))).hi), .bool ((hIn a.y (w64 (Int.tdiv x 3)) (w64 (Int.tdiv y 5))).no), .int .i64 ((hIn a.z (w64 (Int.tdiv x 7)) (w64 (Int.tdiv y 11))).lo), .int .i64 ((hIn a.z (w64 (Int.tdiv x 7)) (w64 (Int.tdiv y 11))).hi), .bool ((hIn a.z (w64 (Int.tdiv x 7)) (w64 (Int.tdiv y 11))).no)]) agg57 0 rfl rfl rfl rfl rfl rfl rfl rfl rfl ?_)
  refine ar_nil ?_
  refine ac_ret ?_
  exact fin_eq (v := .agg #[.int .i64 ((hIn a.x x y).lo), .int .i64 ((hIn a.x x y).hi), .bool ((hIn a.x x y).no), .int .i64 ((hIn a.y (w64 (Int.tdiv x 3)) (w64 (Int.tdiv y 5))).lo), .int .i64 ((hIn a.y (w64 (Int.tdiv x 3)) (w64 (Int.tdiv y 5))).hi), .bool ((hIn a.y (w64 (Int.tdiv x 3)) (w64 (Int.tdiv y 5))).no), .int .i64 ((hIn a.z (w64 (Int.tdiv x 7)) (w64 (Int.tdiv y 11))).lo), .int .i64 ((hIn a.z (w64 (Int.tdiv x 7)) (w64 (Int.tdiv y 11))).hi), .bool ((hIn a.z (w64 (Int.tdiv x 7)) (w64 (Int.tdiv y 11))).no)]) rfl (fin_ret (res_c (vs := [.int .i64 ((hIn a.x x y).lo), .int .i64 ((hIn a.x x y).hi), .bool ((hIn a.x x y).no), .int .i64 ((hIn a.y (w64 (Int.tdiv x 3)) (w64 (Int.tdiv y 5))).lo), .int .i64 ((hIn a.y (w64 (Int.tdiv x 3)) (w64 (Int.tdiv y 5))).hi), .bool ((hIn a.y (w64 (Int.tdiv x 3)) (w64 (Int.tdiv y 5))).no), .int .i64 ((hIn a.z (w64 (Int.tdiv x 7)) (w64 (Int.tdiv y 11))).lo), .int .i64 ((hIn a.z (w64 (Int.tdiv x 7)) (w64 (Int.tdiv y 11))).hi), .bool ((hIn a.z (w64 (Int.tdiv x 7)) (w64 (Int.tdiv y 11))).no)]) agg57 0 rfl rfl rfl rfl rfl rfl))
def hV (l : A6) : V := (⟨(hIv l.a0 l.a1), (hIv l.a2 l.a3), (hIv l.a4 l.a5)⟩ : V)
set_option maxRecDepth 100000 in
theorem c_hV (l : A6) : Gets Try.prog 47 #[.agg #[.int .i64 l.a0, .int .i64 l.a1, .int .i64 l.a2, .int .i64 l.a3, .int .i64 l.a4, .int .i64 l.a5]] (V.v (hV l)) := by
  refine gets_fin Try.func47 rfl rfl rfl ?_
  refine ac_seq ?_
  refine ac_region_lit ?_
  refine ao 1 rfl rfl (st_box (v := .agg #[.int .i64 l.a0, .int .i64 l.a1, .int .i64 l.a2, .int .i64 l.a3, .int .i64 l.a4, .int .i64 l.a5]) (cs := [.int .i64 l.a0, .int .i64 l.a1, .int .i64 l.a2, .int .i64 l.a3, .int .i64 l.a4, .int .i64 l.a5]) rfl rfl rfl fun g0 => ?_)
  refine ao 2 rfl rfl (st_new zero57 rfl fun g1 => ?_)
  refine ar_nil ?_
  refine ac_seq ?_
  refine ac_draw0 (id := 1) [0, 1, 2, 3, 4, 5, 6, 7, 8, 9, 10, 11, 12, 13, 14, 15] [16] _ (by kernel_rfl) follows rfl  ?_
  refine dw_op (d := (some 3)) (.pointer (some ⟨g0, 0, none⟩)) rfl rfl rfl (st_ia (u := .pointer (some ⟨g0, 0, none⟩)) (i := .int .i64 0) (v := .pointer (some ⟨g0, 0, none⟩)) rfl rfl rfl (ia60_0 _ _) ⟨rfl, rfl⟩) ?_
  refine dw_op (d := (some 4)) (.int .i64 l.a0) rfl rfl rfl (st_ldc (g := g0) (off := 0) (v := .int .i64 l.a0) cell3 1 rfl rfl rfl rfl rfl ⟨rfl, rfl⟩) ?_
  refine dw_op (d := (some 5)) (.pointer (some ⟨g0, 1, none⟩)) rfl rfl rfl (st_ia (u := .pointer (some ⟨g0, 0, none⟩)) (i := .int .i64 1) (v := .pointer (some ⟨g0, 1, none⟩)) rfl rfl rfl (ia60_1 _ _) ⟨rfl, rfl⟩) ?_
  refine dw_op (d := (some 6)) (.int .i64 l.a1) rfl rfl rfl (st_ldc (g := g0) (off := 1) (v := .int .i64 l.a1) cell3 1 rfl rfl rfl rfl rfl ⟨rfl, rfl⟩) ?_
  refine dw_op (d := (some 7)) (.agg #[.int .i64 ((hIv l.a0 l.a1).lo), .int .i64 ((hIv l.a0 l.a1).hi), .bool ((hIv l.a0 l.a1).no)]) rfl rfl rfl (st_cf (vs := [.int .i64 l.a0, .int .i64 l.a1]) (r := .agg #[.int .i64 ((hIv l.a0 l.a1).lo), .int .i64 ((hIv l.a0 l.a1).hi), .bool ((hIv l.a0 l.a1).no)]) (c_hIv l.a0 l.a1) Try.func37 rfl (by decide) rfl rfl rfl ⟨rfl, rfl⟩) ?_
  refine dw_op (d := (some 8)) (.pointer (some ⟨g0, 2, none⟩)) rfl rfl rfl (st_ia (u := .pointer (some ⟨g0, 0, none⟩)) (i := .int .i64 2) (v := .pointer (some ⟨g0, 2, none⟩)) rfl rfl rfl (ia60_2 _ _) ⟨rfl, rfl⟩) ?_
  refine dw_op (d := (some 9)) (.int .i64 l.a2) rfl rfl rfl (st_ldc (g := g0) (off := 2) (v := .int .i64 l.a2) cell3 1 rfl rfl rfl rfl rfl ⟨rfl, rfl⟩) ?_
  refine dw_op (d := (some 10)) (.pointer (some ⟨g0, 3, none⟩)) rfl rfl rfl (st_ia (u := .pointer (some ⟨g0, 0, none⟩)) (i := .int .i64 3) (v := .pointer (some ⟨g0, 3, none⟩)) rfl rfl rfl (ia60_3 _ _) ⟨rfl, rfl⟩) ?_
  refine dw_op (d := (some 11)) (.int .i64 l.a3) rfl rfl rfl (st_ldc (g := g0) (off := 3) (v := .int .i64 l.a3) cell3 1 rfl rfl rfl rfl rfl ⟨rfl, rfl⟩) ?_
  refine dw_op (d := (some 12)) (.agg #[.int .i64 ((hIv l.a2 l.a3).lo), .int .i64 ((hIv l.a2 l.a3).hi), .bool ((hIv l.a2 l.a3).no)]) rfl rfl rfl (st_cf (vs := [.int .i64 l.a2, .int .i64 l.a3]) (r := .agg #[.int .i64 ((hIv l.a2 l.a3).lo), .int .i64 ((hIv l.a2 l.a3).hi), .bool ((hIv l.a2 l.a3).no)]) (c_hIv l.a2 l.a3) Try.func37 rfl (by decide) rfl rfl rfl ⟨rfl, rfl⟩) ?_
  refine dw_op (d := (some 13)) (.pointer (some ⟨g0, 4, none⟩)) rfl rfl rfl (st_ia (u := .pointer (some ⟨g0, 0, none⟩)) (i := .int .i64 4) (v := .pointer (some ⟨g0, 4, none⟩)) rfl rfl rfl (ia60_4 _ _) ⟨rfl, rfl⟩) ?_
  refine dw_op (d := (some 14)) (.int .i64 l.a4) rfl rfl rfl (st_ldc (g := g0) (off := 4) (v := .int .i64 l.a4) cell3 1 rfl rfl rfl rfl rfl ⟨rfl, rfl⟩) ?_
  refine dw_op (d := (some 15)) (.pointer (some ⟨g0, 5, none⟩)) rfl rfl rfl (st_ia (u := .pointer (some ⟨g0, 0, none⟩)) (i := .int .i64 5) (v := .pointer (some ⟨g0, 5, none⟩)) rfl rfl rfl (ia60_5 _ _) ⟨rfl, rfl⟩) ?_
  refine dw_op (d := (some 16)) (.int .i64 l.a5) rfl rfl rfl (st_ldc (g := g0) (off := 5) (v := .int .i64 l.a5) cell3 1 rfl rfl rfl rfl rfl ⟨rfl, rfl⟩) ?_
  refine dw_op (d := (some 17)) (.agg #[.int .i64 ((hIv l.a4 l.a5).lo), .int .i64 ((hIv l.a4 l.a5).hi), .bool ((hIv l.a4 l.a5).no)]) rfl rfl rfl (st_cf (vs := [.int .i64 l.a4, .int .i64 l.a5]) (r := .agg #[.int .i64 ((hIv l.a4 l.a5).lo), .int .i64 ((hIv l.a4 l.a5).hi), .bool ((hIv l.a4 l.a5).no)]) (c_hIv l.a4 l.a5) Try.func37 rfl (by decide) rfl rfl rfl ⟨rfl, rfl⟩) ?_
  refine dw_op (d := (some 18)) (.agg #[.int .i64 ((hIv l.a0 l.a1).lo), .int .i64 ((hIv l.a0 l.a1).hi), .bool ((hIv l.a0 l.a1).no), .int .i64 ((hIv l.a2 l.a3).lo), .int .i64 ((hIv l.a2 l.a3).hi), .bool ((hIv l.a2 l.a3).no), .int .i64 ((hIv l.a4 l.a5).lo), .int .i64 ((hIv l.a4 l.a5).hi), .bool ((hIv l.a4 l.a5).no)]) rfl rfl rfl (st_bd (us := [(0, .agg #[.int .i64 ((hIv l.a0 l.a1).lo), .int .i64 ((hIv l.a0 l.a1).hi), .bool ((hIv l.a0 l.a1).no)]), (1, .agg #[.int .i64 ((hIv l.a2 l.a3).lo), .int .i64 ((hIv l.a2 l.a3).hi), .bool ((hIv l.a2 l.a3).no)]), (2, .agg #[.int .i64 ((hIv l.a4 l.a5).lo), .int .i64 ((hIv l.a4 l.a5).hi), .bool ((hIv l.a4 l.a5).no)])]) (v := .agg #[.int .i64 ((hIv l.a0 l.a1).lo), .int .i64 ((hIv l.a0 l.a1).hi), .bool ((hIv l.a0 l.a1).no), .int .i64 ((hIv l.a2 l.a3).lo), .int .i64 ((hIv l.a2 l.a3).hi), .bool ((hIv l.a2 l.a3).no), .int .i64 ((hIv l.a4 l.a5).lo), .int .i64 ((hIv l.a4 l.a5).hi), .bool ((hIv l.a4 l.a5).no)]) rfl rfl (bd57_0a_1a_2a _ _ _ _ _ _ _ _ _) ⟨rfl, rfl⟩) ?_
  refine dw_nil ?_
  refine ar_op (d := none) rfl rfl (st_sta (g := g1) (off := 0) (us := [.int .i64 ((hIv l.a0 l.a1).lo), .int .i64 ((hIv l.a0 l.a1).hi), .bool ((hIv l.a0 l.a1).no), .int .i64 ((hIv l.a2 l.a3).lo), .int .i64 ((hIv l.a2 l.a3).hi), .bool ((hIv l.a2 l.a3).no), .int .i64 ((hIv l.a4 l.a5).lo), .int .i64 ((hIv l.a4 l.a5).hi), .bool ((hIv l.a4 l.a5).no)]) (cs := [.int .i64 ((hIv l.a0 l.a1).lo), .int .i64 ((hIv l.a0 l.a1).hi), .bool ((hIv l.a0 l.a1).no), .int .i64 ((hIv l.a2 l.a3).lo), .int .i64 ((hIv l.a2 l.a3).hi), .bool ((hIv l.a2 l.a3).no), .int .i64 ((hIv l.a4 l.a5).lo), .int .i64 ((hIv l.a4 l.a5).hi), .bool ((hIv l.a4 l.a5).no)]) agg57 0 rfl rfl rfl rfl rfl rfl rfl rfl rfl ?_)
  refine ar_nil ?_
  refine ac_ret ?_
  exact fin_eq (v := .agg #[.int .i64 ((hIv l.a0 l.a1).lo), .int .i64 ((hIv l.a0 l.a1).hi), .bool ((hIv l.a0 l.a1).no), .int .i64 ((hIv l.a2 l.a3).lo), .int .i64 ((hIv l.a2 l.a3).hi), .bool ((hIv l.a2 l.a3).no), .int .i64 ((hIv l.a4 l.a5).lo), .int .i64 ((hIv l.a4 l.a5).hi), .bool ((hIv l.a4 l.a5).no)]) rfl (fin_ret (res_c (vs := [.int .i64 ((hIv l.a0 l.a1).lo), .int .i64 ((hIv l.a0 l.a1).hi), .bool ((hIv l.a0 l.a1).no), .int .i64 ((hIv l.a2 l.a3).lo), .int .i64 ((hIv l.a2 l.a3).hi), .bool ((hIv l.a2 l.a3).no), .int .i64 ((hIv l.a4 l.a5).lo), .int .i64 ((hIv l.a4 l.a5).hi), .bool ((hIv l.a4 l.a5).no)]) agg57 0 rfl rfl rfl rfl rfl rfl))
end Go.Proofs.Ythngkopcadlciaa
namespace Go.Proofs.Ythngkopcadlciaa
def RV (a : V) : Prop := R a.x ∧ R a.y ∧ R a.z
def LeV (a b : V) : Prop := Le a.x b.x ∧ Le a.y b.y ∧ Le a.z b.z
theorem vecRight_iff (a : V) : vecRight a = true ↔ RV a := by
  unfold vecRight RV
  rw [← ivRight_iff, ← ivRight_iff, ← ivRight_iff]
  cases ivRight a.x <;> cases ivRight a.y <;> cases ivRight a.z <;> simp
theorem LeV.rfl' (a : V) : LeV a a := ⟨Le.rfl' _, Le.rfl' _, Le.rfl' _⟩
theorem leV_add {a b c d : V} (h1 : LeV a c) (h2 : LeV b d) : LeV (vecAdd a b) (vecAdd c d) := ⟨le_add h1.1 h2.1, le_add h1.2.1 h2.2.1, le_add h1.2.2 h2.2.2⟩
theorem leV_sub {a b c d : V} (h1 : LeV a c) (h2 : LeV b d) : LeV (vecSub a b) (vecSub c d) := ⟨le_sub h1.1 h2.1, le_sub h1.2.1 h2.2.1, le_sub h1.2.2 h2.2.2⟩
theorem leV_scale {a c : V} {k j : Iv} (h1 : LeV a c) (h2 : Le k j) : LeV (vecScale a k) (vecScale c j) := ⟨le_mul h1.1 h2, le_mul h1.2.1 h2, le_mul h1.2.2 h2⟩
theorem le_dot {a b c d : V} (h1 : LeV a c) (h2 : LeV b d) : Le (vecDot a b) (vecDot c d) := le_add (le_add (le_mul h1.1 h2.1) (le_mul h1.2.1 h2.2.1)) (le_mul h1.2.2 h2.2.2)
theorem le_len2 {a c : V} (h1 : LeV a c) : Le (vecLen2 a) (vecLen2 c) := le_add (le_add (le_sqr h1.1) (le_sqr h1.2.1)) (le_sqr h1.2.2)
theorem leV_unit {a c : V} (h1 : LeV a c) : LeV (vecUnit a) (vecUnit c) := ⟨le_div h1.1 (le_root (le_len2 h1)), le_div h1.2.1 (le_root (le_len2 h1)), le_div h1.2.2 (le_root (le_len2 h1))⟩
theorem leV_along {a c : Ray} {t s : Iv} (h1 : LeV a.o c.o) (h2 : LeV a.d c.d) (h3 : Le t s) : LeV (vecAlong a t) (vecAlong c s) := leV_add h1 (leV_scale h2 h3)
theorem hInV_Le (a : V) (x y : Int) : LeV (hInV a x y) a := ⟨hIn_Le _ _ _, hIn_Le _ _ _, hIn_Le _ _ _⟩
end Go.Proofs.Ythngkopcadlciaa
namespace Go.Proofs.Ythngkopcadlciaa
open Go.RowKit
attribute [local irreducible] AC AR DWalk
def quadNear (a : Iv) (b : Iv) (c : Iv) : Iv × Int := (bif (ivSub (ivSqr b) (ivMul a c)).no then (ivNone, 0) else (bif decide (((ivSub (ivSqr b) (ivMul a c)).hi) < 0) then (ivNone, 2) else (bif decide (((ivSub (ivSqr b) (ivMul a c)).lo) < 0) then (ivNone, 0) else (bif (ivDiv c (ivSub (ivRoot (ivSub (ivSqr b) (ivMul a c))) b)).no then (ivNone, 0) else ((⟨(ivDiv c (ivSub (ivRoot (ivSub (ivSqr b) (ivMul a c))) b)).lo, (ivDiv c (ivSub (ivRoot (ivSub (ivSqr b) (ivMul a c))) b)).hi, false⟩ : Iv), 1)))))
set_option maxRecDepth 100000 in
theorem c_quadNear (a : Iv) (b : Iv) (c : Iv) : Gets Try.prog 119 #[.agg #[.int .i64 a.lo, .int .i64 a.hi, .bool a.no], .agg #[.int .i64 b.lo, .int .i64 b.hi, .bool b.no], .agg #[.int .i64 c.lo, .int .i64 c.hi, .bool c.no]] ((fun (r : Iv × Int) => (.tuple #[.agg #[.int .i64 r.1.lo, .int .i64 r.1.hi, .bool r.1.no], .int .i64 r.2] : Value)) (quadNear a b c)) := by
  refine gets_fin Try.func119 rfl rfl rfl ?_
  refine ac_seq ?_
  refine ac_region_lit ?_
  refine ao 3 rfl rfl (st_box (v := .agg #[.int .i64 a.lo, .int .i64 a.hi, .bool a.no]) (cs := [.int .i64 a.lo, .int .i64 a.hi, .bool a.no]) rfl rfl rfl fun g0 => ?_)
  refine ao 4 rfl rfl (st_box (v := .agg #[.int .i64 b.lo, .int .i64 b.hi, .bool b.no]) (cs := [.int .i64 b.lo, .int .i64 b.hi, .bool b.no]) rfl rfl rfl fun g1 => ?_)
  refine ao 5 rfl rfl (st_box (v := .agg #[.int .i64 c.lo, .int .i64 c.hi, .bool c.no]) (cs := [.int .i64 c.lo, .int .i64 c.hi, .bool c.no]) rfl rfl rfl fun g2 => ?_)
  refine ao 6 rfl rfl (st_new zero26 rfl fun g3 => ?_)
  refine ao 7 rfl rfl (st_assign (v := .int .i64 0) rfl rfl ?_)
  refine ar_nil ?_
  refine ac_seq ?_
  refine ac_draw1 (id := 1) [0, 1, 2, 3, 4, 5] [7] 6 8 26 _ _ (by kernel_rfl) follows rfl zero26 ⟨_, rfl, rfl, rfl, rfl⟩ ?_
  refine dw_op (d := (some 10)) (.agg #[.int .i64 b.lo, .int .i64 b.hi, .bool b.no]) rfl rfl rfl (st_lda (g := g1) (off := 0) (vs := [.int .i64 b.lo, .int .i64 b.hi, .bool b.no]) agg26 2 rfl rfl rfl rfl rfl rfl ⟨rfl, rfl⟩) ?_
  refine dw_op (d := (some 11)) (.agg #[.int .i64 ((ivSqr b).lo), .int .i64 ((ivSqr b).hi), .bool ((ivSqr b).no)]) rfl rfl rfl (st_cf (vs := [.agg #[.int .i64 b.lo, .int .i64 b.hi, .bool b.no]]) (r := .agg #[.int .i64 ((ivSqr b).lo), .int .i64 ((ivSqr b).hi), .bool ((ivSqr b).no)]) (c_ivSqr b) Try.func94 rfl (by decide) rfl rfl rfl ⟨rfl, rfl⟩) ?_
  refine dw_op (d := (some 12)) (.agg #[.int .i64 a.lo, .int .i64 a.hi, .bool a.no]) rfl rfl rfl (st_lda (g := g0) (off := 0) (vs := [.int .i64 a.lo, .int .i64 a.hi, .bool a.no]) agg26 3 rfl rfl rfl rfl rfl rfl ⟨rfl, rfl⟩) ?_
  refine dw_op (d := (some 13)) (.agg #[.int .i64 c.lo, .int .i64 c.hi, .bool c.no]) rfl rfl rfl (st_lda (g := g2) (off := 0) (vs := [.int .i64 c.lo, .int .i64 c.hi, .bool c.no]) agg26 1 rfl rfl rfl rfl rfl rfl ⟨rfl, rfl⟩) ?_
  refine dw_op (d := (some 14)) (.agg #[.int .i64 ((ivMul a c).lo), .int .i64 ((ivMul a c).hi), .bool ((ivMul a c).no)]) rfl rfl rfl (st_cf (vs := [.agg #[.int .i64 a.lo, .int .i64 a.hi, .bool a.no], .agg #[.int .i64 c.lo, .int .i64 c.hi, .bool c.no]]) (r := .agg #[.int .i64 ((ivMul a c).lo), .int .i64 ((ivMul a c).hi), .bool ((ivMul a c).no)]) (c_ivMul a c) Try.func68 rfl (by decide) rfl rfl rfl ⟨rfl, rfl⟩) ?_
  refine dw_op (d := (some 15)) (.agg #[.int .i64 ((ivSub (ivSqr b) (ivMul a c)).lo), .int .i64 ((ivSub (ivSqr b) (ivMul a c)).hi), .bool ((ivSub (ivSqr b) (ivMul a c)).no)]) rfl rfl rfl (st_cf (vs := [.agg #[.int .i64 ((ivSqr b).lo), .int .i64 ((ivSqr b).hi), .bool ((ivSqr b).no)], .agg #[.int .i64 ((ivMul a c).lo), .int .i64 ((ivMul a c).hi), .bool ((ivMul a c).no)]]) (r := .agg #[.int .i64 ((ivSub (ivSqr b) (ivMul a c)).lo), .int .i64 ((ivSub (ivSqr b) (ivMul a c)).hi), .bool ((ivSub (ivSqr b) (ivMul a c)).no)]) (c_ivSub (ivSqr b) (ivMul a c)) Try.func30 rfl (by decide) rfl rfl rfl ⟨rfl, rfl⟩) ?_
  refine dw_nil ?_
  intro g4
  refine ar_op (d := none) rfl rfl (st_sta (g := g4) (off := 0) (us := [.int .i64 ((ivSub (ivSqr b) (ivMul a c)).lo), .int .i64 ((ivSub (ivSqr b) (ivMul a c)).hi), .bool ((ivSub (ivSqr b) (ivMul a c)).no)]) (cs := [.int .i64 ((ivSub (ivSqr b) (ivMul a c)).lo), .int .i64 ((ivSub (ivSqr b) (ivMul a c)).hi), .bool ((ivSub (ivSqr b) (ivMul a c)).no)]) agg26 0 rfl rfl rfl rfl rfl rfl rfl rfl rfl ?_)
  refine ar_nil ?_
  refine ac_seq ?_
  refine ac_block ?_
  refine ac_seq ?_
  refine ac_region_lit ?_
  refine ao 17 rfl rfl (st_fa (g := g4) (off := 0) rfl fa26_2 rfl ?_)
  refine ao 18 rfl rfl (st_ldc (g := g4) (off := 2) (v := .bool ((ivSub (ivSqr b) (ivMul a c)).no)) cell4 0 rfl rfl rfl rfl rfl ?_)
  refine ao 16 rfl rfl (st_assign (v := .bool ((ivSub (ivSqr b) (ivMul a c)).no)) rfl rfl ?_)
  refine ar_nil ?_
  refine bool_split ((ivSub (ivSqr b) (ivMul a c)).no) (fun h1 => ?_) (fun h1 => ?_)
  · refine ac_then' (b := (ivSub (ivSqr b) (ivMul a c)).no) h1 rfl ?_
    refine ac_seq ?_
    refine ac_region_lit ?_
    refine ao 19 rfl rfl (st_cf (vs := []) (r := .agg #[.int .i64 ivNone.lo, .int .i64 ivNone.hi, .bool ivNone.no]) c_ivNone Try.func28 rfl (by decide) rfl rfl rfl ?_)
    refine ar_op (d := none) rfl rfl (st_sta (g := g3) (off := 0) (us := [.int .i64 ivNone.lo, .int .i64 ivNone.hi, .bool ivNone.no]) (cs := [.int .i64 ivNone.lo, .int .i64 ivNone.hi, .bool ivNone.no]) agg26 1 rfl rfl rfl rfl rfl rfl rfl rfl rfl ?_)
    refine ao 7 rfl rfl (st_assign (v := .int .i64 0) rfl rfl ?_)
    refine ar_nil ?_
    refine ac_ret ?_
    exact fin_eq (v := .tuple #[.agg #[.int .i64 ivNone.lo, .int .i64 ivNone.hi, .bool ivNone.no], .int .i64 0]) (by show _ = (fun (r : Iv × Int) => (.tuple #[.agg #[.int .i64 r.1.lo, .int .i64 r.1.hi, .bool r.1.no], .int .i64 r.2] : Value)) (quadNear a b c); rw [quadNear, h1] <;> rfl) (fin_ret (res_ct (vs := [.int .i64 ivNone.lo, .int .i64 ivNone.hi, .bool ivNone.no]) agg26 1 rfl rfl rfl rfl rfl rfl rfl))
  · refine ac_else' (b := (ivSub (ivSqr b) (ivMul a c)).no) h1 rfl ?_
    refine ac_seq ?_
    refine ac_region_lit ?_
    refine ao 21 rfl rfl (st_fa (g := g4) (off := 0) rfl fa26_1 rfl ?_)
    refine ao 22 rfl rfl (st_ldc (g := g4) (off := 1) (v := .int .i64 ((ivSub (ivSqr b) (ivMul a c)).hi)) cell3 0 rfl rfl rfl rfl rfl ?_)
    refine ao 23 rfl rfl (st_bi (u := .int .i64 ((ivSub (ivSqr b) (ivMul a c)).hi)) (v := .int .i64 0) (r := .bool (decide (((ivSub (ivSqr b) (ivMul a c)).hi) < 0))) rfl rfl rfl (bi_lss rfl) ?_)
    refine ao 20 rfl rfl (st_assign (v := .bool (decide (((ivSub (ivSqr b) (ivMul a c)).hi) < 0))) rfl rfl ?_)
    refine ar_nil ?_
    refine bool_split (decide (((ivSub (ivSqr b) (ivMul a c)).hi) < 0)) (fun h2 => ?_) (fun h2 => ?_)
    · refine ac_then' (b := decide (((ivSub (ivSqr b) (ivMul a c)).hi) < 0)) h2 rfl ?_
      refine ac_seq ?_
      refine ac_region_lit ?_
      refine ao 24 rfl rfl (st_cf (vs := []) (r := .agg #[.int .i64 ivNone.lo, .int .i64 ivNone.hi, .bool ivNone.no]) c_ivNone Try.func28 rfl (by decide) rfl rfl rfl ?_)
      refine ar_op (d := none) rfl rfl (st_sta (g := g3) (off := 0) (us := [.int .i64 ivNone.lo, .int .i64 ivNone.hi, .bool ivNone.no]) (cs := [.int .i64 ivNone.lo, .int .i64 ivNone.hi, .bool ivNone.no]) agg26 1 rfl rfl rfl rfl rfl rfl rfl rfl rfl ?_)
      refine ao 7 rfl rfl (st_assign (v := .int .i64 2) rfl rfl ?_)
      refine ar_nil ?_
      refine ac_ret ?_
      exact fin_eq (v := .tuple #[.agg #[.int .i64 ivNone.lo, .int .i64 ivNone.hi, .bool ivNone.no], .int .i64 2]) (by show _ = (fun (r : Iv × Int) => (.tuple #[.agg #[.int .i64 r.1.lo, .int .i64 r.1.hi, .bool r.1.no], .int .i64 r.2] : Value)) (quadNear a b c); rw [quadNear, h2, h1] <;> rfl) (fin_ret (res_ct (vs := [.int .i64 ivNone.lo, .int .i64 ivNone.hi, .bool ivNone.no]) agg26 1 rfl rfl rfl rfl rfl rfl rfl))
    · refine ac_else' (b := decide (((ivSub (ivSqr b) (ivMul a c)).hi) < 0)) h2 rfl ?_
      refine ac_seq ?_
      refine ac_region_lit ?_
      refine ao 26 rfl rfl (st_fa (g := g4) (off := 0) rfl fa26_0 rfl ?_)
      refine ao 27 rfl rfl (st_ldc (g := g4) (off := 0) (v := .int .i64 ((ivSub (ivSqr b) (ivMul a c)).lo)) cell3 0 rfl rfl rfl rfl rfl ?_)
      refine ao 28 rfl rfl (st_bi (u := .int .i64 ((ivSub (ivSqr b) (ivMul a c)).lo)) (v := .int .i64 0) (r := .bool (decide (((ivSub (ivSqr b) (ivMul a c)).lo) < 0))) rfl rfl rfl (bi_lss rfl) ?_)
      refine ao 25 rfl rfl (st_assign (v := .bool (decide (((ivSub (ivSqr b) (ivMul a c)).lo) < 0))) rfl rfl ?_)
      refine ar_nil ?_
      refine bool_split (decide (((ivSub (ivSqr b) (ivMul a c)).lo) < 0)) (fun h3 => ?_) (fun h3 => ?_)
      · refine ac_then' (b := decide (((ivSub (ivSqr b) (ivMul a c)).lo) < 0)) h3 rfl ?_
        refine ac_seq ?_
        refine ac_region_lit ?_
        refine ao 29 rfl rfl (st_cf (vs := []) (r := .agg #[.int .i64 ivNone.lo, .int .i64 ivNone.hi, .bool ivNone.no]) c_ivNone Try.func28 rfl (by decide) rfl rfl rfl ?_)
        refine ar_op (d := none) rfl rfl (st_sta (g := g3) (off := 0) (us := [.int .i64 ivNone.lo, .int .i64 ivNone.hi, .bool ivNone.no]) (cs := [.int .i64 ivNone.lo, .int .i64 ivNone.hi, .bool ivNone.no]) agg26 1 rfl rfl rfl rfl rfl rfl rfl rfl rfl ?_)
        refine ao 7 rfl rfl (st_assign (v := .int .i64 0) rfl rfl ?_)
        refine ar_nil ?_
        refine ac_ret ?_
        exact fin_eq (v := .tuple #[.agg #[.int .i64 ivNone.lo, .int .i64 ivNone.hi, .bool ivNone.no], .int .i64 0]) (by show _ = (fun (r : Iv × Int) => (.tuple #[.agg #[.int .i64 r.1.lo, .int .i64 r.1.hi, .bool r.1.no], .int .i64 r.2] : Value)) (quadNear a b c); rw [quadNear, h3, h2, h1] <;> rfl) (fin_ret (res_ct (vs := [.int .i64 ivNone.lo, .int .i64 ivNone.hi, .bool ivNone.no]) agg26 1 rfl rfl rfl rfl rfl rfl rfl))
      · refine ac_else' (b := decide (((ivSub (ivSqr b) (ivMul a c)).lo) < 0)) h3 rfl ?_
        refine ac_skip ?_
        refine ac_seq ?_
        refine ac_draw1 (id := 8) [0, 1, 2, 3, 4, 5] [7] 6 9 26 _ _ (by kernel_rfl) follows rfl zero26 ⟨_, rfl, rfl, rfl, rfl⟩ ?_
        refine dw_op (d := (some 30)) (.agg #[.int .i64 c.lo, .int .i64 c.hi, .bool c.no]) rfl rfl rfl (st_lda (g := g2) (off := 0) (vs := [.int .i64 c.lo, .int .i64 c.hi, .bool c.no]) agg26 2 rfl rfl rfl rfl rfl rfl ⟨rfl, rfl⟩) ?_
        refine dw_op (d := (some 31)) (.agg #[.int .i64 ((ivSub (ivSqr b) (ivMul a c)).lo), .int .i64 ((ivSub (ivSqr b) (ivMul a c)).hi), .bool ((ivSub (ivSqr b) (ivMul a c)).no)]) rfl rfl rfl (st_lda (g := g4) (off := 0) (vs := [.int .i64 ((ivSub (ivSqr b) (ivMul a c)).lo), .int .i64 ((ivSub (ivSqr b) (ivMul a c)).hi), .bool ((ivSub (ivSqr b) (ivMul a c)).no)]) agg26 0 rfl rfl rfl rfl rfl rfl ⟨rfl, rfl⟩) ?_
        refine dw_op (d := (some 32)) (.agg #[.int .i64 ((ivRoot (ivSub (ivSqr b) (ivMul a c))).lo), .int .i64 ((ivRoot (ivSub (ivSqr b) (ivMul a c))).hi), .bool ((ivRoot (ivSub (ivSqr b) (ivMul a c))).no)]) rfl rfl rfl (st_cf (vs := [.agg #[.int .i64 ((ivSub (ivSqr b) (ivMul a c)).lo), .int .i64 ((ivSub (ivSqr b) (ivMul a c)).hi), .bool ((ivSub (ivSqr b) (ivMul a c)).no)]]) (r := .agg #[.int .i64 ((ivRoot (ivSub (ivSqr b) (ivMul a c))).lo), .int .i64 ((ivRoot (ivSub (ivSqr b) (ivMul a c))).hi), .bool ((ivRoot (ivSub (ivSqr b) (ivMul a c))).no)]) (c_ivRoot (ivSub (ivSqr b) (ivMul a c))) Try.func102 rfl (by decide) rfl rfl rfl ⟨rfl, rfl⟩) ?_
        refine dw_op (d := (some 33)) (.agg #[.int .i64 b.lo, .int .i64 b.hi, .bool b.no]) rfl rfl rfl (st_lda (g := g1) (off := 0) (vs := [.int .i64 b.lo, .int .i64 b.hi, .bool b.no]) agg26 3 rfl rfl rfl rfl rfl rfl ⟨rfl, rfl⟩) ?_
        refine dw_op (d := (some 34)) (.agg #[.int .i64 ((ivSub (ivRoot (ivSub (ivSqr b) (ivMul a c))) b).lo), .int .i64 ((ivSub (ivRoot (ivSub (ivSqr b) (ivMul a c))) b).hi), .bool ((ivSub (ivRoot (ivSub (ivSqr b) (ivMul a c))) b).no)]) rfl rfl rfl (st_cf (vs := [.agg #[.int .i64 ((ivRoot (ivSub (ivSqr b) (ivMul a c))).lo), .int .i64 ((ivRoot (ivSub (ivSqr b) (ivMul a c))).hi), .bool ((ivRoot (ivSub (ivSqr b) (ivMul a c))).no)], .agg #[.int .i64 b.lo, .int .i64 b.hi, .bool b.no]]) (r := .agg #[.int .i64 ((ivSub (ivRoot (ivSub (ivSqr b) (ivMul a c))) b).lo), .int .i64 ((ivSub (ivRoot (ivSub (ivSqr b) (ivMul a c))) b).hi), .bool ((ivSub (ivRoot (ivSub (ivSqr b) (ivMul a c))) b).no)]) (c_ivSub (ivRoot (ivSub (ivSqr b) (ivMul a c))) b) Try.func30 rfl (by decide) rfl rfl rfl ⟨rfl, rfl⟩) ?_
        refine dw_op (d := (some 35)) (.agg #[.int .i64 ((ivDiv c (ivSub (ivRoot (ivSub (ivSqr b) (ivMul a c))) b)).lo), .int .i64 ((ivDiv c (ivSub (ivRoot (ivSub (ivSqr b) (ivMul a c))) b)).hi), .bool ((ivDiv c (ivSub (ivRoot (ivSub (ivSqr b) (ivMul a c))) b)).no)]) rfl rfl rfl (st_cf (vs := [.agg #[.int .i64 c.lo, .int .i64 c.hi, .bool c.no], .agg #[.int .i64 ((ivSub (ivRoot (ivSub (ivSqr b) (ivMul a c))) b).lo), .int .i64 ((ivSub (ivRoot (ivSub (ivSqr b) (ivMul a c))) b).hi), .bool ((ivSub (ivRoot (ivSub (ivSqr b) (ivMul a c))) b).no)]]) (r := .agg #[.int .i64 ((ivDiv c (ivSub (ivRoot (ivSub (ivSqr b) (ivMul a c))) b)).lo), .int .i64 ((ivDiv c (ivSub (ivRoot (ivSub (ivSqr b) (ivMul a c))) b)).hi), .bool ((ivDiv c (ivSub (ivRoot (ivSub (ivSqr b) (ivMul a c))) b)).no)]) (c_ivDiv c (ivSub (ivRoot (ivSub (ivSqr b) (ivMul a c))) b)) Try.func33 rfl (by decide) rfl rfl rfl ⟨rfl, rfl⟩) ?_
        refine dw_nil ?_
        intro g5
        refine ar_op (d := none) rfl rfl (st_sta (g := g5) (off := 0) (us := [.int .i64 ((ivDiv c (ivSub (ivRoot (ivSub (ivSqr b) (ivMul a c))) b)).lo), .int .i64 ((ivDiv c (ivSub (ivRoot (ivSub (ivSqr b) (ivMul a c))) b)).hi), .bool ((ivDiv c (ivSub (ivRoot (ivSub (ivSqr b) (ivMul a c))) b)).no)]) (cs := [.int .i64 ((ivDiv c (ivSub (ivRoot (ivSub (ivSqr b) (ivMul a c))) b)).lo), .int .i64 ((ivDiv c (ivSub (ivRoot (ivSub (ivSqr b) (ivMul a c))) b)).hi), .bool ((ivDiv c (ivSub (ivRoot (ivSub (ivSqr b) (ivMul a c))) b)).no)]) agg26 0 rfl rfl rfl rfl rfl rfl rfl rfl rfl ?_)
        refine ar_nil ?_
        refine ac_seq ?_
        refine ac_seq ?_
        refine ac_region_lit ?_
        refine ao 36 rfl rfl (st_fa (g := g5) (off := 0) rfl fa26_2 rfl ?_)
        refine ao 37 rfl rfl (st_ldc (g := g5) (off := 2) (v := .bool ((ivDiv c (ivSub (ivRoot (ivSub (ivSqr b) (ivMul a c))) b)).no)) cell4 0 rfl rfl rfl rfl rfl ?_)
        refine ar_nil ?_
        refine bool_split ((ivDiv c (ivSub (ivRoot (ivSub (ivSqr b) (ivMul a c))) b)).no) (fun h4 => ?_) (fun h4 => ?_)
        · refine ac_then' (b := (ivDiv c (ivSub (ivRoot (ivSub (ivSqr b) (ivMul a c))) b)).no) h4 rfl ?_
          refine ac_seq ?_
          refine ac_region_lit ?_
          refine ao 38 rfl rfl (st_cf (vs := []) (r := .agg #[.int .i64 ivNone.lo, .int .i64 ivNone.hi, .bool ivNone.no]) c_ivNone Try.func28 rfl (by decide) rfl rfl rfl ?_)
          refine ar_op (d := none) rfl rfl (st_sta (g := g3) (off := 0) (us := [.int .i64 ivNone.lo, .int .i64 ivNone.hi, .bool ivNone.no]) (cs := [.int .i64 ivNone.lo, .int .i64 ivNone.hi, .bool ivNone.no]) agg26 2 rfl rfl rfl rfl rfl rfl rfl rfl rfl ?_)
          refine ao 7 rfl rfl (st_assign (v := .int .i64 0) rfl rfl ?_)
          refine ar_nil ?_
          refine ac_ret ?_
          exact fin_eq (v := .tuple #[.agg #[.int .i64 ivNone.lo, .int .i64 ivNone.hi, .bool ivNone.no], .int .i64 0]) (by show _ = (fun (r : Iv × Int) => (.tuple #[.agg #[.int .i64 r.1.lo, .int .i64 r.1.hi, .bool r.1.no], .int .i64 r.2] : Value)) (quadNear a b c); rw [quadNear, h4, h3, h2, h1] <;> rfl) (fin_ret (res_ct (vs := [.int .i64 ivNone.lo, .int .i64 ivNone.hi, .bool ivNone.no]) agg26 2 rfl rfl rfl rfl rfl rfl rfl))
        · refine ac_else' (b := (ivDiv c (ivSub (ivRoot (ivSub (ivSqr b) (ivMul a c))) b)).no) h4 rfl ?_
          refine ac_skip ?_
          refine ac_seq ?_
          refine ac_region_lit ?_
          refine ao 39 rfl rfl (st_lda (g := g5) (off := 0) (vs := [.int .i64 ((ivDiv c (ivSub (ivRoot (ivSub (ivSqr b) (ivMul a c))) b)).lo), .int .i64 ((ivDiv c (ivSub (ivRoot (ivSub (ivSqr b) (ivMul a c))) b)).hi), .bool ((ivDiv c (ivSub (ivRoot (ivSub (ivSqr b) (ivMul a c))) b)).no)]) agg26 0 rfl rfl rfl rfl rfl rfl ?_)
          refine ar_op (d := none) rfl rfl (st_sta (g := g3) (off := 0) (us := [.int .i64 ((ivDiv c (ivSub (ivRoot (ivSub (ivSqr b) (ivMul a c))) b)).lo), .int .i64 ((ivDiv c (ivSub (ivRoot (ivSub (ivSqr b) (ivMul a c))) b)).hi), .bool ((ivDiv c (ivSub (ivRoot (ivSub (ivSqr b) (ivMul a c))) b)).no)]) (cs := [.int .i64 ((ivDiv c (ivSub (ivRoot (ivSub (ivSqr b) (ivMul a c))) b)).lo), .int .i64 ((ivDiv c (ivSub (ivRoot (ivSub (ivSqr b) (ivMul a c))) b)).hi), .bool ((ivDiv c (ivSub (ivRoot (ivSub (ivSqr b) (ivMul a c))) b)).no)]) agg26 2 rfl rfl rfl rfl rfl rfl rfl rfl rfl ?_)
          refine ao 7 rfl rfl (st_assign (v := .int .i64 1) rfl rfl ?_)
          refine ar_nil ?_
          refine ac_ret ?_
          exact fin_eq (v := .tuple #[.agg #[.int .i64 ((ivDiv c (ivSub (ivRoot (ivSub (ivSqr b) (ivMul a c))) b)).lo), .int .i64 ((ivDiv c (ivSub (ivRoot (ivSub (ivSqr b) (ivMul a c))) b)).hi), .bool ((ivDiv c (ivSub (ivRoot (ivSub (ivSqr b) (ivMul a c))) b)).no)], .int .i64 1]) (by show _ = (fun (r : Iv × Int) => (.tuple #[.agg #[.int .i64 r.1.lo, .int .i64 r.1.hi, .bool r.1.no], .int .i64 r.2] : Value)) (quadNear a b c); rw [quadNear, h4, h3, h2, h1] <;> rfl) (fin_ret (res_ct (vs := [.int .i64 ((ivDiv c (ivSub (ivRoot (ivSub (ivSqr b) (ivMul a c))) b)).lo), .int .i64 ((ivDiv c (ivSub (ivRoot (ivSub (ivSqr b) (ivMul a c))) b)).hi), .bool ((ivDiv c (ivSub (ivRoot (ivSub (ivSqr b) (ivMul a c))) b)).no)]) agg26 2 rfl rfl rfl rfl rfl rfl rfl))
end Go.Proofs.Ythngkopcadlciaa
namespace Go.Proofs.Ythngkopcadlciaa
open Go.RowKit
attribute [local irreducible] AC AR DWalk
def known6  : Bool := (bif ((quadNear (ivWhole 0) (ivWhole (-1)) (ivWhole (-6))).2) == 1 then decide (((quadNear (ivWhole 0) (ivWhole (-1)) (ivWhole (-6))).1) = (ivWhole (-3))) else false)
end Go.Proofs.Ythngkopcadlciaa
namespace Go.Proofs.Ythngkopcadlciaa
theorem known6_true : known6 = true := by decide +kernel
theorem of_no (l h : Int) : (ivOf l h).no = !ivRight (ivOf l h) := by
  by_cases k : -1073741824 ≤ l ∧ l ≤ h ∧ h ≤ 1073741824
  · rw [ivOf_in k, ivRight_t (R_mk k.1 k.2.1 k.2.2)]; rfl
  · rw [ivOf_out k]; rfl
theorem add_no (a b : Iv) : (ivAdd a b).no = !ivRight (ivAdd a b) := by
  by_cases h : R a ∧ R b
  · rw [ivAdd_spec h.1 h.2]; exact of_no _ _
  · rw [ivAdd_out h]; rfl
theorem sub_no (a b : Iv) : (ivSub a b).no = !ivRight (ivSub a b) := add_no _ _
theorem div_no (a b : Iv) : (ivDiv a b).no = !ivRight (ivDiv a b) := by
  by_cases h : R a ∧ R b ∧ ¬ (b.lo ≤ 0 ∧ 0 ≤ b.hi)
  · rw [ivDiv_val h.1 h.2.1 h.2.2]; exact of_no _ _
  · rw [ivDiv_out h]; rfl
def nearD (a b c : Iv) : Iv := ivSub (ivSqr b) (ivMul a c)
def nearT (a b c : Iv) : Iv := ivDiv c (ivSub (ivRoot (nearD a b c)) b)
theorem near_cases (a b c : Iv) : (R (nearD a b c) ∧ (nearD a b c).hi < 0 ∧ quadNear a b c = (ivNone, 2)) ∨
    (R (nearD a b c) ∧ 0 ≤ (nearD a b c).lo ∧ R (nearT a b c) ∧ quadNear a b c = (nearT a b c, 1)) ∨
    (¬ (R (nearD a b c) ∧ (nearD a b c).hi < 0) ∧ ¬ (R (nearD a b c) ∧ 0 ≤ (nearD a b c).lo ∧ R (nearT a b c)) ∧ quadNear a b c = (ivNone, 0)) := by
  have e : quadNear a b c = (bif (nearD a b c).no then (ivNone, 0) else bif decide ((nearD a b c).hi < 0) then (ivNone, 2) else bif decide ((nearD a b c).lo < 0) then (ivNone, 0) else
      bif (nearT a b c).no then (ivNone, 0) else ((⟨(nearT a b c).lo, (nearT a b c).hi, false⟩ : Iv), 1)) := rfl
  have hn : (nearD a b c).no = !ivRight (nearD a b c) := sub_no _ _
  have ht : (nearT a b c).no = !ivRight (nearT a b c) := div_no _ _
  rw [e, hn, ht]
  generalize nearD a b c = D
  generalize nearT a b c = T
  by_cases hD : R D
  · have hb := hD.2
    rw [ivRight_t hD]
    by_cases h1 : D.hi < 0
    · left; rw [decide_eq_true h1]; exact ⟨hD, h1, rfl⟩
    · rw [decide_eq_false h1]
      by_cases h2 : D.lo < 0
      · right; right; rw [decide_eq_true h2]; exact ⟨fun k => h1 k.2, fun k => by omega, rfl⟩
      · rw [decide_eq_false h2]
        by_cases hT : R T
        · right; left
          rw [ivRight_t hT]
          exact ⟨hD, by omega, hT, by rw [← R_eq hT]; rfl⟩
        · right; right; rw [ivRight_f hT]; exact ⟨fun k => h1 k.2, fun k => hT k.2.2, rfl⟩
  · right; right
    rw [ivRight_f hD]
    exact ⟨fun k => hD k.1, fun k => hD k.1, rfl⟩
theorem near_yes_right (a b c : Iv) : ((quadNear a b c).2 == 1) = ivRight (quadNear a b c).1 := by
  rcases near_cases a b c with ⟨_, _, e⟩ | ⟨_, _, h, e⟩ | ⟨_, _, e⟩ <;> rw [e]
  · rfl
  · rw [ivRight_t h]; rfl
  · rfl
theorem le_nearD {a b c a' b' c' : Iv} (h1 : Le a' a) (h2 : Le b' b) (h3 : Le c' c) : Le (nearD a' b' c') (nearD a b c) := le_sub (le_sqr h2) (le_mul h1 h3)
theorem le_nearT {a b c a' b' c' : Iv} (h1 : Le a' a) (h2 : Le b' b) (h3 : Le c' c) : Le (nearT a' b' c') (nearT a b c) := le_div h3 (le_sub (le_root (le_nearD h1 h2 h3)) h2)
theorem near_less {a b c a' b' c' : Iv} (h1 : Le a' a) (h2 : Le b' b) (h3 : Le c' c) :
    ((quadNear a b c).2 = 1 → (quadNear a' b' c').2 = 1 ∧ ivInside (quadNear a' b' c').1 (quadNear a b c).1 = true) ∧ ((quadNear a b c).2 = 2 → (quadNear a' b' c').2 = 2) := by
  have lD := le_nearD h1 h2 h3
  have lT := le_nearT h1 h2 h3
  rcases near_cases a b c with ⟨rD, hD, e⟩ | ⟨rD, hD, rT, e⟩ | ⟨_, _, e⟩ <;> rw [e]
  · refine ⟨fun k => absurd k (by decide), fun _ => ?_⟩
    have k := lD rD
    have kb := k.1.2
    rcases near_cases a' b' c' with ⟨_, _, e'⟩ | ⟨_, hD', _, e'⟩ | ⟨hn, _, e'⟩
    · rw [e']
    · omega
    · exact absurd ⟨k.1, by omega⟩ hn
  · refine ⟨fun _ => ?_, fun k => absurd (show (1 : Int) = 2 from k) (by decide)⟩
    have k := lD rD
    have kb := k.1.2
    have kT := lT rT
    rcases near_cases a' b' c' with ⟨_, hD', e'⟩ | ⟨_, _, _, e'⟩ | ⟨_, hn, e'⟩
    · omega
    · rw [e']
      exact ⟨rfl, (ivInside_iff _ _).2 ⟨kT.1, rT, kT.2⟩⟩
    · exact absurd ⟨k.1, by omega, kT.1⟩ hn
  · exact ⟨fun k => absurd k (by decide), fun k => absurd k (by decide)⟩
theorem near_012 (a b c : Iv) : (quadNear a b c).2 = 0 ∨ (quadNear a b c).2 = 1 ∨ (quadNear a b c).2 = 2 := by
  rcases near_cases a b c with ⟨_, _, e⟩ | ⟨_, _, h, e⟩ | ⟨_, _, e⟩ <;> rw [e] <;> simp
end Go.Proofs.Ythngkopcadlciaa
namespace Go.Proofs.Ythngkopcadlciaa
open Go.RowKit
structure SlT (p : Program) (t e : TypeId) (s by_ : Nat) : Prop where
  un : p.underlying t = some (.slice e)
  ex : ∃ z, (p.info? e).map (fun i => (i.zero, i.size, i.bytes)) = some (some z, s, by_) ∧ z.cells.size = s ∧ 0 < s
theorem SlT.out {p : Program} {t e : TypeId} {s by_ : Nat} (h : SlT p t e s by_) : ∃ i z, p.info? e = some i ∧ i.zero = some z ∧ i.size = s ∧ i.bytes = by_ ∧ z.cells.size = s ∧ 0 < s := by
  obtain ⟨z, h1, h2, h3⟩ := h.ex
  cases hq : p.info? e with
  | none => simp [hq] at h1
  | some i =>
    simp only [hq, Option.map_some, Option.some.injEq, Prod.mk.injEq] at h1
    exact ⟨i, z, rfl, h1.1, h1.2.1, h1.2.2, h2, h3⟩
def Row (e s n : Nat) (xs : List Value) (v : Value) (N : List Box) : Prop :=
  (n = 0 ∧ xs = [] ∧ v = .slice none 0 0 ∧ N = []) ∨ ∃ g cap rest, v = .slice (some ⟨g, 0, none⟩) n cap ∧ N = [⟨g, xs ++ rest, e, false⟩] ∧ xs.length = n * s ∧ (xs ++ rest).length = cap * s ∧ n ≤ cap ∧ cap ≤ maxLen
theorem Row.nil (e s : Nat) : Row e s 0 [] (.slice none 0 0) [] := .inl ⟨rfl, rfl, rfl, rfl⟩
theorem Row.len {e s n : Nat} {xs : List Value} {v : Value} {N : List Box} (h : Row e s n xs v N) : xs.length = n * s := by
  rcases h with ⟨rfl, rfl, _⟩ | ⟨g, cap, rest, _, _, h, _⟩
  · simp
  · exact h
section
variable {p : Program} {n : Nat} {ops : Array Oper} {Q : Exit → Env → List Box → Prop} {l : List Oper} {E : Env} {H : List Box} {o : Oper} {ρ : Operand → Value} {K : Post}
theorem st_app {t e s by_ k m c gt : Nat} {x y : Operand} {v : Value} {xs news r : List Value} {N A B : List Box} {bt : Box} (hs : SlT p t e s by_) (ho : o.op = .call { callee := .builtin .append, args := #[x, y], argTypes := #[t, t] })
    (hx : ρ x = v) (hy : ρ y = .slice (some ⟨gt, 0, none⟩) m c) (hR : Row e s k xs v N) (hH : H = A ++ (N ++ B)) (hbt : bt ∈ A ++ B) (hg : bt.g = gt) (hc : bt.cs = news ++ r) (hl : news.length = m * s) (h1 : news.all (·.oneCell') = true) (hm : 0 < m)
    (h63 : k + m ≤ maxLen) (hby : (k + m) * by_ ≤ 140737488355328) (kk : ∀ v' N', Row e s (k + m) (xs ++ news) v' N' → K v' (N' ++ (A ++ B))) : Step p ρ o H K := by
  intro F β w hO hB
  have hu := hs.un
  obtain ⟨inf, z, hi, hz, hsz, hbz, hzc, hs0⟩ := hs.out
  subst hsz hbz hH
  have hsmall : k + m ≤ 9223372036854775807 := by simp only [maxLen] at h63; omega
  have hO1 : Own β (N ++ (A ++ B ++ F)) w := by
    refine hO.perm ?_
    have h1 : (A ++ (N ++ B) ++ F).Perm ((N ++ (A ++ B)) ++ F) := List.Perm.append_right F (by
      rw [← List.append_assoc, ← List.append_assoc]
      exact List.Perm.append_right B List.perm_append_comm)
    rw [List.append_assoc N] at h1
    exact h1
  have hat : ∀ j u, news[j]? = some u → w.cell? ((⟨gt, 0, none⟩ : Addr).add j) = some u := by
    intro j u hj
    obtain ⟨fr, _, hb⟩ := (hO1.at_ bt (List.mem_append_right _ (List.mem_append_left _ hbt))).2
    rw [add_at, Nat.zero_add, ← hg, cell_of_row w bt.g j _ _ _ hb, hc]
    simp only [List.getElem?_toArray]
    rw [List.getElem?_append_left (List.getElem?_eq_some_iff.1 hj).1, hj]
  have ex : ∀ w, (execOp ρ o).run p w = (match (Builtin.append_ #[t, t] o.type #[v, .slice (some ⟨gt, 0, none⟩) m c]).run p w with | .ok u w' => .ok (.value u) w' | .halt x w' => .halt x w') := by
    intro w
    rw [execOp, ho]
    simp only [resolve, List.map_toArray, List.map_cons, List.map_nil, hx, hy]
    simp [invoke, builtin, Sem.run_bind]
    cases (Builtin.append_ #[t, t] o.type #[v, .slice (some ⟨gt, 0, none⟩) m c]).run p w <;> rfl
  have zl : ∀ j, (Builtin.zeroCells z.cells j).toList.length = j * inf.size := by intro j; simp [Builtin.zeroCells, hzc]
  rw [ex]
  rcases hR with ⟨rfl, rfl, rfl, rfl⟩ | ⟨g, cap, rest, rfl, rfl, hxl, hcl, hkc, hcm⟩
  · have hr := run_append_nil (P := p) w t o.type e inf z hu hi hz ⟨gt, 0, none⟩ m c news hl hat hm (by omega) (by simp only [Nat.zero_add] at hby; omega)
    rw [hr]
    have hge := grownCap_ge w m 0 e
    have hcm := grownCap_le_maxLen w m 0 e (by omega)
    refine ⟨_, kk _ [⟨w.heap.size, news ++ (Builtin.zeroCells z.cells (grownCap w m 0 e - m)).toList, e, false⟩] (.inr ⟨w.heap.size, _, _, by rw [Nat.zero_add], rfl, by rw [Nat.zero_add]; exact hl, ?_, by omega, hcm⟩), ?_, (hB.drew).alloc _⟩
    · simp only [List.nil_append, List.length_append, zl, hl, ← Nat.add_mul]
      congr 1
      omega
    · have h3 := hO1.drew.alloc (news ++ (Builtin.zeroCells z.cells (grownCap w m 0 e - m)).toList) e
      simp only [List.nil_append] at h3 ⊢
      have e1 : (news ++ (Builtin.zeroCells z.cells (grownCap w m 0 e - m)).toList).toArray = news.toArray ++ Builtin.zeroCells z.cells (grownCap w m 0 e - m) := by
        apply Array.ext'
        simp
      rw [e1] at h3
      exact h3
  · obtain ⟨fr, hf, hgb⟩ := (hO1.at_ _ (List.mem_append_left _ (List.mem_singleton.2 rfl))).2
    obtain rfl := hf rfl
    simp only at hgb
    by_cases hroom : k + m ≤ cap
    · have hfit : k * inf.size + news.length ≤ (xs ++ rest).toArray.size := by
        simp only [List.size_toArray, hcl, hl, ← Nat.add_mul]
        exact Nat.mul_le_mul_right _ hroom
      have hr := run_append_room (P := p) w t o.type e inf hu hi g k cap (xs ++ rest).toArray hgb ⟨gt, 0, none⟩ m c news hl hat (fun u hu => List.all_eq_true.1 h1 u hu) hroom hfit
      rw [hr]
      have e1 : (xs ++ rest).toArray.toList.take (k * inf.size) ++ news ++ (xs ++ rest).toArray.toList.drop (k * inf.size + news.length) = xs ++ news ++ rest.drop news.length := by
        simp only [List.toList_toArray]
        rw [← hxl, List.take_left, List.drop_length_add_append]
      rw [e1]
      have hmay : β.may g := (((hO1.at_ _ (List.mem_append_left _ (List.mem_singleton.2 rfl))).1).resolve_left (by simp))
      refine ⟨_, kk _ [⟨g, xs ++ news ++ rest.drop news.length, e, false⟩] (.inr ⟨g, cap, _, rfl, rfl, ?_, ?_, hroom, hcm⟩), ?_, hB.setRow _ _ hmay⟩
      · rw [List.length_append, hxl, hl, Nat.add_mul]
      · rw [← hcl]
        simp only [List.length_append, List.length_drop]
        have : news.length ≤ rest.length := by
          have := hfit
          simp only [List.size_toArray, List.length_append, hxl] at this
          omega
        omega
      · have h3 := hO1.set 0 _ rfl rfl (xs ++ news ++ rest.drop news.length)
        exact h3
    · have hold : ∀ j u, xs[j]? = some u → w.cell? ((⟨g, 0, none⟩ : Addr).add j) = some u := by
        intro j u hj
        rw [add_at, Nat.zero_add, cell_of_row w g j _ _ _ hgb]
        simp only [List.getElem?_toArray]
        rw [List.getElem?_append_left (List.getElem?_eq_some_iff.1 hj).1, hj]
      have hr := run_append_grow (P := p) w t o.type e inf z hu hi hz ⟨g, 0, none⟩ k cap xs hxl hold ⟨gt, 0, none⟩ m c news hl hat (by omega) (by omega) (growslice_fits (by omega) hby)
      rw [hr]
      have hge := grownCap_ge w (k + m) cap e
      have hcm := grownCap_le_maxLen w (k + m) cap e h63
      refine ⟨_, kk _ [⟨w.heap.size, xs ++ news ++ (Builtin.zeroCells z.cells (grownCap w (k + m) cap e - (k + m))).toList, e, false⟩] (.inr ⟨w.heap.size, _, _, rfl, rfl, ?_, ?_, hge, hcm⟩), ?_, (hB.drew).alloc _⟩
      · rw [List.length_append, hxl, hl, Nat.add_mul]
      · simp only [List.length_append, zl, hl, hxl, ← Nat.add_mul]
        congr 1
        omega
      · have h2 : Own β (A ++ B ++ F) w := Own.sub (List.sublist_append_right _ _) hO1
        have h3 := h2.drew.alloc (xs ++ news ++ (Builtin.zeroCells z.cells (grownCap w (k + m) cap e - (k + m))).toList) e
        have e1 : (xs ++ news ++ (Builtin.zeroCells z.cells (grownCap w (k + m) cap e - (k + m))).toList).toArray = xs.toArray ++ news.toArray ++ Builtin.zeroCells z.cells (grownCap w (k + m) cap e - (k + m)) := by
          apply Array.ext'
          simp
        rw [e1] at h3
        exact h3
theorem ar_perm {H' : List Box} (hp : H.Perm H') (h : AR p n ops Q l E H) : AR p n ops Q l E H' :=
  fun β w a hO hB hs => h β w a (hO.perm hp.symm) hB hs
theorem Row.form {e s n : Nat} {xs : List Value} {v : Value} {N : List Box} (h : Row e s n xs v N) : ∃ a cap, v = .slice a n cap := by
  rcases h with ⟨rfl, _, rfl, _⟩ | ⟨g, cap, rest, rfl, _⟩
  · exact ⟨_, _, rfl⟩
  · exact ⟨_, _, rfl⟩
theorem st_appZ {t e s by_ k m c gt : Nat} {x y : Operand} {v : Value} {xs news r : List Value} {N A : List Box} {bt : Box} (hs : SlT p t e s by_) (ho : o.op = .call { callee := .builtin .append, args := #[x, y], argTypes := #[t, t] })
    (hx : ρ x = v) (hy : ρ y = .slice (some ⟨gt, 0, none⟩) m c) (hR : Row e s k xs v N) (hH : H = A ++ N) (hbt : bt ∈ A) (hg : bt.g = gt) (hc : bt.cs = news ++ r) (hl : news.length = m * s) (h1 : news.all (·.oneCell') = true) (hm : 0 < m)
    (h63 : k + m ≤ maxLen) (hby : (k + m) * by_ ≤ 140737488355328) (hK : ∀ v H H', H.Perm H' → K v H → K v H') (kk : ∀ v' N', Row e s (k + m) (xs ++ news) v' N' → K v' (A ++ N')) : Step p ρ o H K :=
  st_app (A := A) (B := []) hs ho hx hy hR (by rw [hH, List.append_nil]) (by rw [List.append_nil]; exact hbt) hg hc hl h1 hm h63 hby fun v' N' h => by
    rw [List.append_nil]
    exact hK _ _ _ List.perm_append_comm (kk v' N' h)
end
end Go.Proofs.Ythngkopcadlciaa
namespace Go.Proofs.Ythngkopcadlciaa
open Go.RowKit
section
variable {p : Program} {n : Nat} {ops : Array Oper} {Q : Exit → Env → List Box → Prop}
def AAny (p : Program) (n : Nat) (ops : Array Oper) (Q : Exit → Env → List Box → Prop) (fuel : Nat) (L : List Bool) (E : Env) (H : List Box) : Prop :=
  ∀ β w a, Own β H w → Keeps β w → Sees n E a → wpAny p .any ops (AQ n β Q) fuel L.toArray a w
def OpR (p : Program) (n : Nat) (ops : Array Oper) (E : Env) (H : List Box) (i : Nat) (K : Env → List Box → Prop) : Prop :=
  ∃ o, ops[i]? = some o ∧ ((yld n ops E o = true ∧ Step p (ev n E) o H fun v H' => K (E.put o.dst v) H') ∨ (yld n ops E o = false ∧ K (E.put o.dst undef) H))
def Each (P : Nat → Prop) : List Nat → Prop
  | [] => True
  | i :: is => P i ∧ Each P is
theorem each_mem {P : Nat → Prop} : ∀ {is : List Nat}, Each P is → ∀ i ∈ is, P i
  | [], _, _, h => by cases h
  | j :: is, h, i, hi => by
    rcases List.mem_cons.1 hi with rfl | hi
    · exact h.1
    · exact each_mem h.2 i hi
theorem opR_op {E : Env} {H : List Box} {i : Nat} {d : Option Nat} {K : Env → List Box → Prop} {o : Oper} (ho : ops[i]? = some o) (hg : o.guard = none) (hd : o.dst = d) (h : Step p (ev n E) o H fun v H' => K (E.put d v) H') : OpR p n ops E H i K := by
  subst hd
  exact ⟨o, ho, .inl ⟨by unfold yld; rw [hg], h⟩⟩
theorem opR_gd {E : Env} {H : List Box} {i : Nat} {d : Option Nat} {K : Env → List Box → Prop} {o : Oper} (ho : ops[i]? = some o) (hg : yld n ops E o = true) (hd : o.dst = d) (h : Step p (ev n E) o H fun v H' => K (E.put d v) H') : OpR p n ops E H i K := by
  subst hd
  exact ⟨o, ho, .inl ⟨hg, h⟩⟩
theorem opR_sk {E : Env} {H : List Box} {i : Nat} {d : Option Nat} {K : Env → List Box → Prop} {o : Oper} (ho : ops[i]? = some o) (hg : yld n ops E o = false) (hd : o.dst = d) (h : K (E.put d undef) H) : OpR p n ops E H i K := by
  subst hd
  exact ⟨o, ho, .inr ⟨hg, h⟩⟩
def StepRule (p : Program) (n : Nat) (ops : Array Oper) (Φ : Nat → List Bool → Env → List Box → Prop) : Prop :=
  ∀ fuel L E H is, Region.ready .any ops L.toArray = is → is.isEmpty = false → Each (fun i => OpR p n ops E H i (Φ fuel (L.set i true))) is → Φ (fuel + 1) L E H
def PermRule (Φ : Nat → List Bool → Env → List Box → Prop) : Prop := ∀ fuel L E H H', H.Perm H' → Φ fuel L E H → Φ fuel L E H'
theorem ac_any {id : Nat} {E : Env} {H : List Box} (hm : p.follows .mixedOrders = true) (k : Nat) (hk : ops.size = k)
    (h : ∀ Φ : Nat → List Bool → Env → List Box → Prop, StepRule p n ops Φ → (∀ L E H, Region.ready .any ops L.toArray = [] → Q .normal E H → Φ 0 L E H) → PermRule Φ → Φ k (List.replicate k false) E H) : AC p n (.region id ops true) Q E H := by
  have key := h (AAny p n ops Q) (by
    intro fuel L E H is hr hne he β w a hO hB hs
    refine ⟨fun h => ?_, fun i hi => ?_⟩
    · rw [hr] at h
      rw [h] at hne
      cases hne
    · rw [hr] at hi
      obtain ⟨o, ho, hop⟩ := each_mem he i hi
      unfold wpOp
      simp only [ho]
      rw [hs.yld]
      rcases hop with ⟨hw, hst⟩ | ⟨hw, hk⟩
      · rw [hw, if_pos rfl]
        refine .inl (hst.wp hs hO hB fun v H' w' k hO' hB' => ?_)
        have := k β w' _ hO' hB' (hs.put _ _)
        rwa [← List.setIfInBounds_toArray] at this
      · rw [hw, if_neg (by simp)]
        have := hk β w _ hO hB (hs.put _ _)
        rwa [← List.setIfInBounds_toArray] at this) (by
    intro L E H hr hq β w a hO hB hs
    exact ⟨hr, E, H, hq, hs, hO, hB⟩) (fun fuel L E H H' hp h β w a hO hB hs => h β w a (hO.perm hp.symm) hB hs)
  intro β w a hO hB hs
  refine wp_region_any hm ?_
  have := key β { w with drawn := w.drawn + 1 } a hO.drew hB.drew hs
  rw [← hk] at this
  rwa [List.toArray_replicate] at this
end
theorem Row.pos {e s n : Nat} {xs : List Value} {v : Value} {N : List Box} (h : Row e s n xs v N) (hn : 0 < n) : ∃ g cap rest, v = .slice (some ⟨g, 0, none⟩) n cap ∧ N = [⟨g, xs ++ rest, e, false⟩] ∧ (xs.length = n * s ∧ (xs ++ rest).length = cap * s ∧ n ≤ cap ∧ cap ≤ maxLen) := by
  rcases h with ⟨rfl, _⟩ | ⟨g, cap, rest, h1, h2, h3, h4, h5, h6⟩
  · cases hn
  · exact ⟨g, cap, rest, h1, h2, h3, h4, h5, h6⟩
theorem Row.mk {e s n g cap : Nat} {xs rest : List Value} (h : xs.length = n * s ∧ (xs ++ rest).length = cap * s ∧ n ≤ cap ∧ cap ≤ maxLen) : Row e s n xs (.slice (some ⟨g, 0, none⟩) n cap) [⟨g, xs ++ rest, e, false⟩] := .inr ⟨g, cap, rest, rfl, rfl, h.1, h.2.1, h.2.2.1, h.2.2.2⟩
def FinG (p : Program) (fn : Func) (n : Nat) (K : Post) : Exit → Env → List Box → Prop := fun e E H => (e = .ret ∨ e = .normal) ∧ ∃ v N, K v N ∧ List.Sublist N H ∧ (N.all fun b => !b.ro) = true ∧ Res p fn n E H v
theorem gives_fin {p : Program} {f : FuncId} {fn : Func} {c : Code} {args : Array Value} {K : Post} {R : List Box} {n : Nat} (hf : p.funcs[f]? = some fn) (hb : fn.body = some c) (hn : fn.ntmps = n) (ha : Nat.ble args.size n = true) (hr : (R.all fun b => b.ro) = true)
    (h : AC p n c (FinG p fn n K) (envOf args) R) : Gives p f args R K := by
  intro w hA hnd
  refine calls_of_wp hf hb ?_
  refine Code.wp_mono ?_ (h ⟨fun _ => False, w⟩ w _ (own_start hA hnd (fun b hb => List.all_eq_true.1 hr b hb)) (Keeps.refl _ _) (sees_start hn ha))
  rintro e a w' ⟨E, H, ⟨he, v, N, hk, hsub, hN, hres⟩, hs, hO, hB⟩
  have hall : ∀ b ∈ N, b.ro = false := fun b hb => by simpa using List.all_eq_true.1 hN b hb
  rcases he with rfl | rfl
  · exact ⟨hs.defers, v, hres _ _ _ hO hs, v, N, rfl, hk, Own.sub hsub hO, hall, hB.below⟩
  · exact ⟨hs.defers, v, hres _ _ _ hO hs, v, N, rfl, hk, Own.sub hsub hO, hall, hB.below⟩
theorem np_fing {p : Program} {fn : Func} {n : Nat} {K : Post} : ∀ c E H, ¬ FinG p fn n K (.panic c) E H := fun c E H h => by
  rcases h.1 with h | h <;> cases h
theorem fing_ret {p : Program} {fn : Func} {n : Nat} {K : Post} {E : Env} {H N : List Box} {v : Value} (hk : K v N) (hs : List.Sublist N H) (hN : (N.all fun b => !b.ro) = true) (h : Res p fn n E H v) : FinG p fn n K .ret E H := ⟨.inl rfl, v, N, hk, hs, hN, h⟩
theorem fing_end {p : Program} {fn : Func} {n : Nat} {K : Post} {E : Env} {H N : List Box} {v : Value} (hk : K v N) (hs : List.Sublist N H) (hN : (N.all fun b => !b.ro) = true) (h : Res p fn n E H v) : FinG p fn n K .normal E H := ⟨.inr rfl, v, N, hk, hs, hN, h⟩
theorem fing_v {p : Program} {fn : Func} {n : Nat} {u v : Value} {e : Exit} {E : Env} {H : List Box} (h : Fin p fn n v e E H) (hv : v = u) : FinG p fn n (fun w N => w = u ∧ N = []) e E H := ⟨h.1, v, [], ⟨hv, rfl⟩, List.nil_sublist _, rfl, h.2⟩
end Go.Proofs.Ythngkopcadlciaa
namespace Go.Proofs.Ythngkopcadlciaa
open Go.RowKit
theorem bs24_1_0a (x0_0 : Int) (x0_1 : Int) (x0_2 : Bool) : Makes Try.prog (Instr.buildSlice 24 1 #[(0, .agg #[.int .i64 x0_0, .int .i64 x0_1, .bool x0_2])]) 1 [.int .i64 x0_0, .int .i64 x0_1, .bool x0_2] 26 := ⟨fun w => by go_simp⟩
theorem bs24_2_0a_1a (x0_0 : Int) (x0_1 : Int) (x0_2 : Bool) (x1_0 : Int) (x1_1 : Int) (x1_2 : Bool) : Makes Try.prog (Instr.buildSlice 24 2 #[(0, .agg #[.int .i64 x0_0, .int .i64 x0_1, .bool x0_2]), (1, .agg #[.int .i64 x1_0, .int .i64 x1_1, .bool x1_2])]) 2 [.int .i64 x0_0, .int .i64 x0_1, .bool x0_2, .int .i64 x1_0, .int .i64 x1_1, .bool x1_2] 26 := ⟨fun w => by go_simp⟩
theorem bs24_3_0a_1a_2a (x0_0 : Int) (x0_1 : Int) (x0_2 : Bool) (x1_0 : Int) (x1_1 : Int) (x1_2 : Bool) (x2_0 : Int) (x2_1 : Int) (x2_2 : Bool) : Makes Try.prog (Instr.buildSlice 24 3 #[(0, .agg #[.int .i64 x0_0, .int .i64 x0_1, .bool x0_2]), (1, .agg #[.int .i64 x1_0, .int .i64 x1_1, .bool x1_2]), (2, .agg #[.int .i64 x2_0, .int .i64 x2_1, .bool x2_2])]) 3 [.int .i64 x0_0, .int .i64 x0_1, .bool x0_2, .int .i64 x1_0, .int .i64 x1_1, .bool x1_2, .int .i64 x2_0, .int .i64 x2_1, .bool x2_2] 26 := ⟨fun w => by go_simp⟩
theorem slT24 : SlT Try.prog 24 26 3 24 := ⟨Try.underlying24, .agg #[.int .i64 0, .int .i64 0, .bool false], by kernel_rfl, rfl, by decide⟩
end Go.Proofs.Ythngkopcadlciaa
namespace Go.Proofs.Ythngkopcadlciaa
open Go.RowKit
theorem agg41 : IsAgg Try.prog 41 23 := ⟨⟨_, Try.underlying41, rfl, by kernel_rfl⟩⟩
theorem bd41_2a_3a_4a_5a_6a_7a_8a (x0_0 : Int) (x0_1 : Int) (x0_2 : Bool) (x1_0 : Int) (x1_1 : Int) (x1_2 : Bool) (x2_0 : Int) (x2_1 : Int) (x2_2 : Bool) (x3_0 : Int) (x3_1 : Int) (x3_2 : Bool) (x4_0 : Int) (x4_1 : Int) (x4_2 : Bool) (x5_0 : Int) (x5_1 : Int) (x5_2 : Bool) (x6_0 : Int) (x6_1 : Int) (x6_2 : Bool) : Runs Try.prog (Instr.build 41 #[(2, .agg #[.int .i64 x0_0, .int .i64 x0_1, .bool x0_2]), (3, .agg #[.int .i64 x1_0, .int .i64 x1_1, .bool x1_2]), (4, .agg #[.int .i64 x2_0, .int .i64 x2_1, .bool x2_2]), (5, .agg #[.int .i64 x3_0, .int .i64 x3_1, .bool x3_2]), (6, .agg #[.int .i64 x4_0, .int .i64 x4_1, .bool x4_2]), (7, .agg #[.int .i64 x5_0, .int .i64 x5_1, .bool x5_2]), (8, .agg #[.int .i64 x6_0, .int .i64 x6_1, .bool x6_2])]) (.agg #[.bool false, .bool false, .int .i64 x0_0, .int .i64 x0_1, .bool x0_2, .int .i64 x1_0, .int .i64 x1_1, .bool x1_2, .int .i64 x2_0, .int .i64 x2_1, .bool x2_2, .int .i64 x3_0, .int .i64 x3_1, .bool x3_2, .int .i64 x4_0, .int .i64 x4_1, .bool x4_2, .int .i64 x5_0, .int .i64 x5_1, .bool x5_2, .int .i64 x6_0, .int .i64 x6_1, .bool x6_2]) := ⟨fun w => by go_simp⟩
theorem bs24_4_0a_1a_2a_3a (x0_0 : Int) (x0_1 : Int) (x0_2 : Bool) (x1_0 : Int) (x1_1 : Int) (x1_2 : Bool) (x2_0 : Int) (x2_1 : Int) (x2_2 : Bool) (x3_0 : Int) (x3_1 : Int) (x3_2 : Bool) : Makes Try.prog (Instr.buildSlice 24 4 #[(0, .agg #[.int .i64 x0_0, .int .i64 x0_1, .bool x0_2]), (1, .agg #[.int .i64 x1_0, .int .i64 x1_1, .bool x1_2]), (2, .agg #[.int .i64 x2_0, .int .i64 x2_1, .bool x2_2]), (3, .agg #[.int .i64 x3_0, .int .i64 x3_1, .bool x3_2])]) 4 [.int .i64 x0_0, .int .i64 x0_1, .bool x0_2, .int .i64 x1_0, .int .i64 x1_1, .bool x1_2, .int .i64 x2_0, .int .i64 x2_1, .bool x2_2, .int .i64 x3_0, .int .i64 x3_1, .bool x3_2] 26 := ⟨fun w => by go_simp⟩
theorem fa41_1 (a : Addr) : Runs Try.prog (Instr.fieldAt 41 (.pointer (some a)) 1) (.pointer (some (a.add 1))) := run_fa (f := 1) (off := 1) (m := 1) Try.underlying41 rfl rfl (by kernel_rfl) (by decide) a
theorem fa41_2 (a : Addr) : Runs Try.prog (Instr.fieldAt 41 (.pointer (some a)) 2) (.pointer (some (a.add 2))) := run_fa (f := 2) (off := 2) (m := 3) Try.underlying41 rfl rfl (by kernel_rfl) (by decide) a
theorem fa41_3 (a : Addr) : Runs Try.prog (Instr.fieldAt 41 (.pointer (some a)) 3) (.pointer (some (a.add 5))) := run_fa (f := 3) (off := 5) (m := 3) Try.underlying41 rfl rfl (by kernel_rfl) (by decide) a
theorem fa41_4 (a : Addr) : Runs Try.prog (Instr.fieldAt 41 (.pointer (some a)) 4) (.pointer (some (a.add 8))) := run_fa (f := 4) (off := 8) (m := 3) Try.underlying41 rfl rfl (by kernel_rfl) (by decide) a
theorem fa41_5 (a : Addr) : Runs Try.prog (Instr.fieldAt 41 (.pointer (some a)) 5) (.pointer (some (a.add 11))) := run_fa (f := 5) (off := 11) (m := 3) Try.underlying41 rfl rfl (by kernel_rfl) (by decide) a
theorem zero41 : Zero Try.prog 41 [.bool false, .bool false, .int .i64 0, .int .i64 0, .bool false, .int .i64 0, .int .i64 0, .bool false, .int .i64 0, .int .i64 0, .bool false, .int .i64 0, .int .i64 0, .bool false, .int .i64 0, .int .i64 0, .bool false, .int .i64 0, .int .i64 0, .bool false, .int .i64 0, .int .i64 0, .bool false] := ⟨⟨.agg #[.bool false, .bool false, .int .i64 0, .int .i64 0, .bool false, .int .i64 0, .int .i64 0, .bool false, .int .i64 0, .int .i64 0, .bool false, .int .i64 0, .int .i64 0, .bool false, .int .i64 0, .int .i64 0, .bool false, .int .i64 0, .int .i64 0, .bool false, .int .i64 0, .int .i64 0, .bool false], by kernel_rfl, rfl⟩⟩
end Go.Proofs.Ythngkopcadlciaa
namespace Go.Proofs.Ythngkopcadlciaa
open Go.RowKit
theorem agg73 : IsAgg Try.prog 73 6 := ⟨⟨_, Try.underlying73, rfl, by kernel_rfl⟩⟩
theorem agg77 : IsAgg Try.prog 77 18 := ⟨⟨_, Try.underlying77, rfl, by kernel_rfl⟩⟩
theorem agg83 : IsAgg Try.prog 83 2 := ⟨⟨_, Try.underlying83, rfl, by kernel_rfl⟩⟩
theorem agg84 : IsAgg Try.prog 84 3 := ⟨⟨_, Try.underlying84, rfl, by kernel_rfl⟩⟩
theorem agg86 : IsAgg Try.prog 86 12 := ⟨⟨_, Try.underlying86, rfl, by kernel_rfl⟩⟩
theorem bd26_  : Runs Try.prog (Instr.build 26 #[]) (.agg #[.int .i64 0, .int .i64 0, .bool false]) := ⟨fun w => by go_simp⟩
theorem bd77_0a_1a (x0_0 : Int) (x0_1 : Int) (x0_2 : Bool) (x0_3 : Int) (x0_4 : Int) (x0_5 : Bool) (x0_6 : Int) (x0_7 : Int) (x0_8 : Bool) (x1_0 : Int) (x1_1 : Int) (x1_2 : Bool) (x1_3 : Int) (x1_4 : Int) (x1_5 : Bool) (x1_6 : Int) (x1_7 : Int) (x1_8 : Bool) : Runs Try.prog (Instr.build 77 #[(0, .agg #[.int .i64 x0_0, .int .i64 x0_1, .bool x0_2, .int .i64 x0_3, .int .i64 x0_4, .bool x0_5, .int .i64 x0_6, .int .i64 x0_7, .bool x0_8]), (1, .agg #[.int .i64 x1_0, .int .i64 x1_1, .bool x1_2, .int .i64 x1_3, .int .i64 x1_4, .bool x1_5, .int .i64 x1_6, .int .i64 x1_7, .bool x1_8])]) (.agg #[.int .i64 x0_0, .int .i64 x0_1, .bool x0_2, .int .i64 x0_3, .int .i64 x0_4, .bool x0_5, .int .i64 x0_6, .int .i64 x0_7, .bool x0_8, .int .i64 x1_0, .int .i64 x1_1, .bool x1_2, .int .i64 x1_3, .int .i64 x1_4, .bool x1_5, .int .i64 x1_6, .int .i64 x1_7, .bool x1_8]) := ⟨fun w => by go_simp⟩
theorem bd83_0_1 (x0_0 : Int) (x1_0 : Int) : Runs Try.prog (Instr.build 83 #[(0, .int .i64 x0_0), (1, .int .i64 x1_0)]) (.agg #[.int .i64 x0_0, .int .i64 x1_0]) := ⟨fun w => by go_simp⟩
theorem bd83_0 (x0_0 : Int) : Runs Try.prog (Instr.build 83 #[(0, .int .i64 x0_0)]) (.agg #[.int .i64 x0_0, .int .i64 0]) := ⟨fun w => by go_simp⟩
theorem bd84_0_1_2 (x0_0 : Int) (x1_0 : Int) (x2_0 : Int) : Runs Try.prog (Instr.build 84 #[(0, .int .i64 x0_0), (1, .int .i64 x1_0), (2, .int .i64 x2_0)]) (.agg #[.int .i64 x0_0, .int .i64 x1_0, .int .i64 x2_0]) := ⟨fun w => by go_simp⟩
theorem bd86_0_1a_2a_3a_4a_5a (x0_0 : Int) (x1_0 : Int) (x1_1 : Int) (x2_0 : Int) (x2_1 : Int) (x3_0 : Int) (x3_1 : Int) (x4_0 : Int) (x4_1 : Int) (x5_0 : Int) (x5_1 : Int) (x5_2 : Int) : Runs Try.prog (Instr.build 86 #[(0, .int .i64 x0_0), (1, .agg #[.int .i64 x1_0, .int .i64 x1_1]), (2, .agg #[.int .i64 x2_0, .int .i64 x2_1]), (3, .agg #[.int .i64 x3_0, .int .i64 x3_1]), (4, .agg #[.int .i64 x4_0, .int .i64 x4_1]), (5, .agg #[.int .i64 x5_0, .int .i64 x5_1, .int .i64 x5_2])]) (.agg #[.int .i64 x0_0, .int .i64 x1_0, .int .i64 x1_1, .int .i64 x2_0, .int .i64 x2_1, .int .i64 x3_0, .int .i64 x3_1, .int .i64 x4_0, .int .i64 x4_1, .int .i64 x5_0, .int .i64 x5_1, .int .i64 x5_2]) := ⟨fun w => by go_simp⟩
theorem bd86_0_3a (x0_0 : Int) (x1_0 : Int) (x1_1 : Int) : Runs Try.prog (Instr.build 86 #[(0, .int .i64 x0_0), (3, .agg #[.int .i64 x1_0, .int .i64 x1_1])]) (.agg #[.int .i64 x0_0, .int .i64 0, .int .i64 0, .int .i64 0, .int .i64 0, .int .i64 x1_0, .int .i64 x1_1, .int .i64 0, .int .i64 0, .int .i64 0, .int .i64 0, .int .i64 0]) := ⟨fun w => by go_simp⟩
theorem bd86_0_3a_4a_5a (x0_0 : Int) (x1_0 : Int) (x1_1 : Int) (x2_0 : Int) (x2_1 : Int) (x3_0 : Int) (x3_1 : Int) (x3_2 : Int) : Runs Try.prog (Instr.build 86 #[(0, .int .i64 x0_0), (3, .agg #[.int .i64 x1_0, .int .i64 x1_1]), (4, .agg #[.int .i64 x2_0, .int .i64 x2_1]), (5, .agg #[.int .i64 x3_0, .int .i64 x3_1, .int .i64 x3_2])]) (.agg #[.int .i64 x0_0, .int .i64 0, .int .i64 0, .int .i64 0, .int .i64 0, .int .i64 x1_0, .int .i64 x1_1, .int .i64 x2_0, .int .i64 x2_1, .int .i64 x3_0, .int .i64 x3_1, .int .i64 x3_2]) := ⟨fun w => by go_simp⟩
theorem bd86_0_3a_5a (x0_0 : Int) (x1_0 : Int) (x1_1 : Int) (x2_0 : Int) (x2_1 : Int) (x2_2 : Int) : Runs Try.prog (Instr.build 86 #[(0, .int .i64 x0_0), (3, .agg #[.int .i64 x1_0, .int .i64 x1_1]), (5, .agg #[.int .i64 x2_0, .int .i64 x2_1, .int .i64 x2_2])]) (.agg #[.int .i64 x0_0, .int .i64 0, .int .i64 0, .int .i64 0, .int .i64 0, .int .i64 x1_0, .int .i64 x1_1, .int .i64 0, .int .i64 0, .int .i64 x2_0, .int .i64 x2_1, .int .i64 x2_2]) := ⟨fun w => by go_simp⟩
theorem bd95_0a_1a (x0_0 : Int) (x0_1 : Int) (x0_2 : Int) (x0_3 : Int) (x0_4 : Int) (x0_5 : Int) (x0_6 : Int) (x0_7 : Int) (x0_8 : Int) (x0_9 : Int) (x0_10 : Int) (x0_11 : Int) (x1_0 : Int) (x1_1 : Int) (x1_2 : Int) (x1_3 : Int) (x1_4 : Int) (x1_5 : Int) (x1_6 : Int) (x1_7 : Int) (x1_8 : Int) (x1_9 : Int) (x1_10 : Int) (x1_11 : Int) : Runs Try.prog (Instr.build 95 #[(0, .agg #[.int .i64 x0_0, .int .i64 x0_1, .int .i64 x0_2, .int .i64 x0_3, .int .i64 x0_4, .int .i64 x0_5, .int .i64 x0_6, .int .i64 x0_7, .int .i64 x0_8, .int .i64 x0_9, .int .i64 x0_10, .int .i64 x0_11]), (1, .agg #[.int .i64 x1_0, .int .i64 x1_1, .int .i64 x1_2, .int .i64 x1_3, .int .i64 x1_4, .int .i64 x1_5, .int .i64 x1_6, .int .i64 x1_7, .int .i64 x1_8, .int .i64 x1_9, .int .i64 x1_10, .int .i64 x1_11])]) (.agg #[.int .i64 x0_0, .int .i64 x0_1, .int .i64 x0_2, .int .i64 x0_3, .int .i64 x0_4, .int .i64 x0_5, .int .i64 x0_6, .int .i64 x0_7, .int .i64 x0_8, .int .i64 x0_9, .int .i64 x0_10, .int .i64 x0_11, .int .i64 x1_0, .int .i64 x1_1, .int .i64 x1_2, .int .i64 x1_3, .int .i64 x1_4, .int .i64 x1_5, .int .i64 x1_6, .int .i64 x1_7, .int .i64 x1_8, .int .i64 x1_9, .int .i64 x1_10, .int .i64 x1_11]) := ⟨fun w => by go_simp⟩
theorem bs74_0_  : Makes Try.prog (Instr.buildSlice 74 0 #[]) 0 [] 86 := ⟨fun w => by go_simp⟩
theorem bs74_1_0a (x0_0 : Int) (x0_1 : Int) (x0_2 : Int) (x0_3 : Int) (x0_4 : Int) (x0_5 : Int) (x0_6 : Int) (x0_7 : Int) (x0_8 : Int) (x0_9 : Int) (x0_10 : Int) (x0_11 : Int) : Makes Try.prog (Instr.buildSlice 74 1 #[(0, .agg #[.int .i64 x0_0, .int .i64 x0_1, .int .i64 x0_2, .int .i64 x0_3, .int .i64 x0_4, .int .i64 x0_5, .int .i64 x0_6, .int .i64 x0_7, .int .i64 x0_8, .int .i64 x0_9, .int .i64 x0_10, .int .i64 x0_11])]) 1 [.int .i64 x0_0, .int .i64 x0_1, .int .i64 x0_2, .int .i64 x0_3, .int .i64 x0_4, .int .i64 x0_5, .int .i64 x0_6, .int .i64 x0_7, .int .i64 x0_8, .int .i64 x0_9, .int .i64 x0_10, .int .i64 x0_11] 86 := ⟨fun w => by go_simp⟩
theorem bs74_3_0a_1a_2a (x0_0 : Int) (x0_1 : Int) (x0_2 : Int) (x0_3 : Int) (x0_4 : Int) (x0_5 : Int) (x0_6 : Int) (x0_7 : Int) (x0_8 : Int) (x0_9 : Int) (x0_10 : Int) (x0_11 : Int) (x1_0 : Int) (x1_1 : Int) (x1_2 : Int) (x1_3 : Int) (x1_4 : Int) (x1_5 : Int) (x1_6 : Int) (x1_7 : Int) (x1_8 : Int) (x1_9 : Int) (x1_10 : Int) (x1_11 : Int) (x2_0 : Int) (x2_1 : Int) (x2_2 : Int) (x2_3 : Int) (x2_4 : Int) (x2_5 : Int) (x2_6 : Int) (x2_7 : Int) (x2_8 : Int) (x2_9 : Int) (x2_10 : Int) (x2_11 : Int) : Makes Try.prog (Instr.buildSlice 74 3 #[(0, .agg #[.int .i64 x0_0, .int .i64 x0_1, .int .i64 x0_2, .int .i64 x0_3, .int .i64 x0_4, .int .i64 x0_5, .int .i64 x0_6, .int .i64 x0_7, .int .i64 x0_8, .int .i64 x0_9, .int .i64 x0_10, .int .i64 x0_11]), (1, .agg #[.int .i64 x1_0, .int .i64 x1_1, .int .i64 x1_2, .int .i64 x1_3, .int .i64 x1_4, .int .i64 x1_5, .int .i64 x1_6, .int .i64 x1_7, .int .i64 x1_8, .int .i64 x1_9, .int .i64 x1_10, .int .i64 x1_11]), (2, .agg #[.int .i64 x2_0, .int .i64 x2_1, .int .i64 x2_2, .int .i64 x2_3, .int .i64 x2_4, .int .i64 x2_5, .int .i64 x2_6, .int .i64 x2_7, .int .i64 x2_8, .int .i64 x2_9, .int .i64 x2_10, .int .i64 x2_11])]) 3 [.int .i64 x0_0, .int .i64 x0_1, .int .i64 x0_2, .int .i64 x0_3, .int .i64 x0_4, .int .i64 x0_5, .int .i64 x0_6, .int .i64 x0_7, .int .i64 x0_8, .int .i64 x0_9, .int .i64 x0_10, .int .i64 x0_11, .int .i64 x1_0, .int .i64 x1_1, .int .i64 x1_2, .int .i64 x1_3, .int .i64 x1_4, .int .i64 x1_5, .int .i64 x1_6, .int .i64 x1_7, .int .i64 x1_8, .int .i64 x1_9, .int .i64 x1_10, .int .i64 x1_11, .int .i64 x2_0, .int .i64 x2_1, .int .i64 x2_2, .int .i64 x2_3, .int .i64 x2_4, .int .i64 x2_5, .int .i64 x2_6, .int .i64 x2_7, .int .i64 x2_8, .int .i64 x2_9, .int .i64 x2_10, .int .i64 x2_11] 86 := ⟨fun w => by go_simp⟩
theorem fa73_0 (a : Addr) : Runs Try.prog (Instr.fieldAt 73 (.pointer (some a)) 0) (.pointer (some (a.add 0))) := run_fa (f := 0) (off := 0) (m := 1) Try.underlying73 rfl rfl (by kernel_rfl) (by decide) a
theorem fa73_1 (a : Addr) : Runs Try.prog (Instr.fieldAt 73 (.pointer (some a)) 1) (.pointer (some (a.add 1))) := run_fa (f := 1) (off := 1) (m := 1) Try.underlying73 rfl rfl (by kernel_rfl) (by decide) a
theorem fa73_2 (a : Addr) : Runs Try.prog (Instr.fieldAt 73 (.pointer (some a)) 2) (.pointer (some (a.add 2))) := run_fa (f := 2) (off := 2) (m := 1) Try.underlying73 rfl rfl (by kernel_rfl) (by decide) a
theorem fa73_3 (a : Addr) : Runs Try.prog (Instr.fieldAt 73 (.pointer (some a)) 3) (.pointer (some (a.add 3))) := run_fa (f := 3) (off := 3) (m := 1) Try.underlying73 rfl rfl (by kernel_rfl) (by decide) a
theorem fa73_4 (a : Addr) : Runs Try.prog (Instr.fieldAt 73 (.pointer (some a)) 4) (.pointer (some (a.add 4))) := run_fa (f := 4) (off := 4) (m := 1) Try.underlying73 rfl rfl (by kernel_rfl) (by decide) a
theorem fa73_5 (a : Addr) : Runs Try.prog (Instr.fieldAt 73 (.pointer (some a)) 5) (.pointer (some (a.add 5))) := run_fa (f := 5) (off := 5) (m := 1) Try.underlying73 rfl rfl (by kernel_rfl) (by decide) a
theorem fa77_0 (a : Addr) : Runs Try.prog (Instr.fieldAt 77 (.pointer (some a)) 0) (.pointer (some (a.add 0))) := run_fa (f := 0) (off := 0) (m := 9) Try.underlying77 rfl rfl (by kernel_rfl) (by decide) a
theorem fa77_1 (a : Addr) : Runs Try.prog (Instr.fieldAt 77 (.pointer (some a)) 1) (.pointer (some (a.add 9))) := run_fa (f := 1) (off := 9) (m := 9) Try.underlying77 rfl rfl (by kernel_rfl) (by decide) a
theorem fa83_0 (a : Addr) : Runs Try.prog (Instr.fieldAt 83 (.pointer (some a)) 0) (.pointer (some (a.add 0))) := run_fa (f := 0) (off := 0) (m := 1) Try.underlying83 rfl rfl (by kernel_rfl) (by decide) a
theorem fa83_1 (a : Addr) : Runs Try.prog (Instr.fieldAt 83 (.pointer (some a)) 1) (.pointer (some (a.add 1))) := run_fa (f := 1) (off := 1) (m := 1) Try.underlying83 rfl rfl (by kernel_rfl) (by decide) a
theorem fa86_0 (a : Addr) : Runs Try.prog (Instr.fieldAt 86 (.pointer (some a)) 0) (.pointer (some (a.add 0))) := run_fa (f := 0) (off := 0) (m := 1) Try.underlying86 rfl rfl (by kernel_rfl) (by decide) a
theorem fa86_1 (a : Addr) : Runs Try.prog (Instr.fieldAt 86 (.pointer (some a)) 1) (.pointer (some (a.add 1))) := run_fa (f := 1) (off := 1) (m := 2) Try.underlying86 rfl rfl (by kernel_rfl) (by decide) a
theorem fa86_2 (a : Addr) : Runs Try.prog (Instr.fieldAt 86 (.pointer (some a)) 2) (.pointer (some (a.add 3))) := run_fa (f := 2) (off := 3) (m := 2) Try.underlying86 rfl rfl (by kernel_rfl) (by decide) a
theorem fa86_3 (a : Addr) : Runs Try.prog (Instr.fieldAt 86 (.pointer (some a)) 3) (.pointer (some (a.add 5))) := run_fa (f := 3) (off := 5) (m := 2) Try.underlying86 rfl rfl (by kernel_rfl) (by decide) a
theorem fa86_4 (a : Addr) : Runs Try.prog (Instr.fieldAt 86 (.pointer (some a)) 4) (.pointer (some (a.add 7))) := run_fa (f := 4) (off := 7) (m := 2) Try.underlying86 rfl rfl (by kernel_rfl) (by decide) a
theorem ix95_0 (x0 : Int) (x1 : Int) (x2 : Int) (x3 : Int) (x4 : Int) (x5 : Int) (x6 : Int) (x7 : Int) (x8 : Int) (x9 : Int) (x10 : Int) (x11 : Int) (x12 : Int) (x13 : Int) (x14 : Int) (x15 : Int) (x16 : Int) (x17 : Int) (x18 : Int) (x19 : Int) (x20 : Int) (x21 : Int) (x22 : Int) (x23 : Int) : Runs Try.prog (Instr.index 95 (.agg #[.int .i64 x0, .int .i64 x1, .int .i64 x2, .int .i64 x3, .int .i64 x4, .int .i64 x5, .int .i64 x6, .int .i64 x7, .int .i64 x8, .int .i64 x9, .int .i64 x10, .int .i64 x11, .int .i64 x12, .int .i64 x13, .int .i64 x14, .int .i64 x15, .int .i64 x16, .int .i64 x17, .int .i64 x18, .int .i64 x19, .int .i64 x20, .int .i64 x21, .int .i64 x22, .int .i64 x23]) (.int .i64 0)) (.agg #[.int .i64 x0, .int .i64 x1, .int .i64 x2, .int .i64 x3, .int .i64 x4, .int .i64 x5, .int .i64 x6, .int .i64 x7, .int .i64 x8, .int .i64 x9, .int .i64 x10, .int .i64 x11]) := run_ixa (xs := [.int .i64 x0, .int .i64 x1, .int .i64 x2, .int .i64 x3, .int .i64 x4, .int .i64 x5, .int .i64 x6, .int .i64 x7, .int .i64 x8, .int .i64 x9, .int .i64 x10, .int .i64 x11, .int .i64 x12, .int .i64 x13, .int .i64 x14, .int .i64 x15, .int .i64 x16, .int .i64 x17, .int .i64 x18, .int .i64 x19, .int .i64 x20, .int .i64 x21, .int .i64 x22, .int .i64 x23]) Try.underlying95 agg86 (by decide) (by decide) rfl rfl
theorem ix95_1 (x0 : Int) (x1 : Int) (x2 : Int) (x3 : Int) (x4 : Int) (x5 : Int) (x6 : Int) (x7 : Int) (x8 : Int) (x9 : Int) (x10 : Int) (x11 : Int) (x12 : Int) (x13 : Int) (x14 : Int) (x15 : Int) (x16 : Int) (x17 : Int) (x18 : Int) (x19 : Int) (x20 : Int) (x21 : Int) (x22 : Int) (x23 : Int) : Runs Try.prog (Instr.index 95 (.agg #[.int .i64 x0, .int .i64 x1, .int .i64 x2, .int .i64 x3, .int .i64 x4, .int .i64 x5, .int .i64 x6, .int .i64 x7, .int .i64 x8, .int .i64 x9, .int .i64 x10, .int .i64 x11, .int .i64 x12, .int .i64 x13, .int .i64 x14, .int .i64 x15, .int .i64 x16, .int .i64 x17, .int .i64 x18, .int .i64 x19, .int .i64 x20, .int .i64 x21, .int .i64 x22, .int .i64 x23]) (.int .i64 1)) (.agg #[.int .i64 x12, .int .i64 x13, .int .i64 x14, .int .i64 x15, .int .i64 x16, .int .i64 x17, .int .i64 x18, .int .i64 x19, .int .i64 x20, .int .i64 x21, .int .i64 x22, .int .i64 x23]) := run_ixa (xs := [.int .i64 x0, .int .i64 x1, .int .i64 x2, .int .i64 x3, .int .i64 x4, .int .i64 x5, .int .i64 x6, .int .i64 x7, .int .i64 x8, .int .i64 x9, .int .i64 x10, .int .i64 x11, .int .i64 x12, .int .i64 x13, .int .i64 x14, .int .i64 x15, .int .i64 x16, .int .i64 x17, .int .i64 x18, .int .i64 x19, .int .i64 x20, .int .i64 x21, .int .i64 x22, .int .i64 x23]) Try.underlying95 agg86 (by decide) (by decide) rfl rfl
theorem slT74 : SlT Try.prog 74 86 12 96 := ⟨Try.underlying74, .agg #[.int .i64 0, .int .i64 0, .int .i64 0, .int .i64 0, .int .i64 0, .int .i64 0, .int .i64 0, .int .i64 0, .int .i64 0, .int .i64 0, .int .i64 0, .int .i64 0], by kernel_rfl, rfl, by decide⟩
theorem zero77 : Zero Try.prog 77 [.int .i64 0, .int .i64 0, .bool false, .int .i64 0, .int .i64 0, .bool false, .int .i64 0, .int .i64 0, .bool false, .int .i64 0, .int .i64 0, .bool false, .int .i64 0, .int .i64 0, .bool false, .int .i64 0, .int .i64 0, .bool false] := ⟨⟨.agg #[.int .i64 0, .int .i64 0, .bool false, .int .i64 0, .int .i64 0, .bool false, .int .i64 0, .int .i64 0, .bool false, .int .i64 0, .int .i64 0, .bool false, .int .i64 0, .int .i64 0, .bool false, .int .i64 0, .int .i64 0, .bool false], by kernel_rfl, rfl⟩⟩
theorem zero83 : Zero Try.prog 83 [.int .i64 0, .int .i64 0] := ⟨⟨.agg #[.int .i64 0, .int .i64 0], by kernel_rfl, rfl⟩⟩
theorem zero84 : Zero Try.prog 84 [.int .i64 0, .int .i64 0, .int .i64 0] := ⟨⟨.agg #[.int .i64 0, .int .i64 0, .int .i64 0], by kernel_rfl, rfl⟩⟩
theorem zero86 : Zero Try.prog 86 [.int .i64 0, .int .i64 0, .int .i64 0, .int .i64 0, .int .i64 0, .int .i64 0, .int .i64 0, .int .i64 0, .int .i64 0, .int .i64 0, .int .i64 0, .int .i64 0] := ⟨⟨.agg #[.int .i64 0, .int .i64 0, .int .i64 0, .int .i64 0, .int .i64 0, .int .i64 0, .int .i64 0, .int .i64 0, .int .i64 0, .int .i64 0, .int .i64 0, .int .i64 0], by kernel_rfl, rfl⟩⟩
end Go.Proofs.Ythngkopcadlciaa
namespace Go.Proofs.Ythngkopcadlciaa
open Go.RowKit
attribute [local irreducible] AC AR DWalk
structure Dec where
  c : Int
  scale : Int
deriving DecidableEq
@[reducible] def Dec.v (s : Dec) : Value := .agg #[.int .i64 s.c, .int .i64 s.scale]
structure A3 where
  a0 : Int
  a1 : Int
  a2 : Int
deriving DecidableEq
@[reducible] def A3.v (s : A3) : Value := .agg #[.int .i64 s.a0, .int .i64 s.a1, .int .i64 s.a2]
structure Shape where
  kind : Int
  x : Dec
  y : Dec
  z : Dec
  r : Dec
  glow : A3
deriving DecidableEq
@[reducible] def Shape.v (s : Shape) : Value := .agg #[.int .i64 s.kind, .int .i64 s.x.c, .int .i64 s.x.scale, .int .i64 s.y.c, .int .i64 s.y.scale, .int .i64 s.z.c, .int .i64 s.z.scale, .int .i64 s.r.c, .int .i64 s.r.scale, .int .i64 s.glow.a0, .int .i64 s.glow.a1, .int .i64 s.glow.a2]
structure RawRay where
  x : Int
  y : Int
  u : Int
  w : Int
  wide : Int
  lean : Int
deriving DecidableEq
@[reducible] def RawRay.v (s : RawRay) : Value := .agg #[.int .i64 s.x, .int .i64 s.y, .int .i64 s.u, .int .i64 s.w, .int .i64 s.wide, .int .i64 s.lean]
@[reducible] def Ray.v (s : Ray) : Value := .agg #[.int .i64 s.o.x.lo, .int .i64 s.o.x.hi, .bool s.o.x.no, .int .i64 s.o.y.lo, .int .i64 s.o.y.hi, .bool s.o.y.no, .int .i64 s.o.z.lo, .int .i64 s.o.z.hi, .bool s.o.z.no, .int .i64 s.d.x.lo, .int .i64 s.d.x.hi, .bool s.d.x.no, .int .i64 s.d.y.lo, .int .i64 s.d.y.hi, .bool s.d.y.no, .int .i64 s.d.z.lo, .int .i64 s.d.z.hi, .bool s.d.z.no]
end Go.Proofs.Ythngkopcadlciaa