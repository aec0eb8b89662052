import Derived.Test.YthngkopcadlciaaEndsD
set_option linter.unusedVariables false
set_option linter.unusedSimpArgs false
namespace Go.Proofs.Ythngkopcadlciaa
open Go.RowKit

attribute [local irreducible] AC AR DWalk
def vecOf (x : Iv) (y : Iv) (z : Iv) : V := (⟨x, y, z⟩ : V)
set_option maxRecDepth 100000 in
theorem c_vecOf (x : Iv) (y : Iv) (z : Iv) : Gets Try.prog 44 #[.agg #[.int .i64 x.lo, .int .i64 x.hi, .bool x.no], .agg #[.int .i64 y.lo, .int .i64 y.hi, .bool y.no], .agg #[.int .i64 z.lo, .int .i64 z.hi, .bool z.no]] (V.v (vecOf x y z)) := by
  refine gets_fin Try.func44 rfl rfl rfl ?_
  refine ac_seq ?_
  refine ac_region_lit ?_
  refine ao 3 rfl rfl (st_box (v := .agg #[.int .i64 x.lo, .int .i64 x.hi, .bool x.no]) (cs := [.int .i64 x.lo, .int .i64 x.hi, .bool x.no]) rfl rfl rfl fun g0 => ?_)
  refine ao 4 rfl rfl (st_box (v := .agg #[.int .i64 y.lo, .int .i64 y.hi, .bool y.no]) (cs := [.int .i64 y.lo, .int .i64 y.hi, .bool y.no]) rfl rfl rfl fun g1 => ?_)
  refine ao 5 rfl rfl (st_box (v := .agg #[.int .i64 z.lo, .int .i64 z.hi, .bool z.no]) (cs := [.int .i64 z.lo, .int .i64 z.hi, .bool z.no]) rfl rfl rfl fun g2 => ?_)
  refine ao 6 rfl rfl (st_new zero57 rfl fun g3 => ?_)
  refine ar_nil ?_
  refine ac_seq ?_
  refine ac_region_lit ?_
  refine ao 7 rfl rfl (st_lda (g := g0) (off := 0) (vs := [.int .i64 x.lo, .int .i64 x.hi, .bool x.no]) agg26 3 rfl rfl rfl rfl rfl rfl ?_)
  refine ao 8 rfl rfl (st_lda (g := g1) (off := 0) (vs := [.int .i64 y.lo, .int .i64 y.hi, .bool y.no]) agg26 2 rfl rfl rfl rfl rfl rfl ?_)
  refine ao 9 rfl rfl (st_lda (g := g2) (off := 0) (vs := [.int .i64 z.lo, .int .i64 z.hi, .bool z.no]) agg26 1 rfl rfl rfl rfl rfl rfl ?_)
  refine ao 10 rfl rfl (st_bd (us := [(0, .agg #[.int .i64 x.lo, .int .i64 x.hi, .bool x.no]), (1, .agg #[.int .i64 y.lo, .int .i64 y.hi, .bool y.no]), (2, .agg #[.int .i64 z.lo, .int .i64 z.hi, .bool z.no])]) (v := .agg #[.int .i64 x.lo, .int .i64 x.hi, .bool x.no, .int .i64 y.lo, .int .i64 y.hi, .bool y.no, .int .i64 z.lo, .int .i64 z.hi, .bool z.no]) rfl rfl (bd57_0a_1a_2a _ _ _ _ _ _ _ _ _) ?_)
  refine ar_op (d := none) rfl rfl (st_sta (g := g3) (off := 0) (us := [.int .i64 x.lo, .int .i64 x.hi, .bool x.no, .int .i64 y.lo, .int .i64 y.hi, .bool y.no, .int .i64 z.lo, .int .i64 z.hi, .bool z.no]) (cs := [.int .i64 x.lo, .int .i64 x.hi, .bool x.no, .int .i64 y.lo, .int .i64 y.hi, .bool y.no, .int .i64 z.lo, .int .i64 z.hi, .bool z.no]) agg57 0 rfl rfl rfl rfl rfl rfl rfl rfl rfl ?_)
  refine ar_nil ?_
  refine ac_ret ?_
  exact fin_eq (v := .agg #[.int .i64 x.lo, .int .i64 x.hi, .bool x.no, .int .i64 y.lo, .int .i64 y.hi, .bool y.no, .int .i64 z.lo, .int .i64 z.hi, .bool z.no]) rfl (fin_ret (res_c (vs := [.int .i64 x.lo, .int .i64 x.hi, .bool x.no, .int .i64 y.lo, .int .i64 y.hi, .bool y.no, .int .i64 z.lo, .int .i64 z.hi, .bool z.no]) agg57 0 rfl rfl rfl rfl rfl rfl))
def vecRight (a : V) : Bool := (bif ivRight a.x then (bif ivRight a.y then ivRight a.z else false) else false)
set_option maxRecDepth 100000 in
theorem c_vecRight (a : V) : Gets Try.prog 50 #[.agg #[.int .i64 a.x.lo, .int .i64 a.x.hi, .bool a.x.no, .int .i64 a.y.lo, .int .i64 a.y.hi, .bool a.y.no, .int .i64 a.z.lo, .int .i64 a.z.hi, .bool a.z.no]] ((fun (r : Bool) => (.bool r : Value)) (vecRight a)) := by
  refine gets_fin Try.func50 rfl rfl rfl ?_
  refine ac_seq ?_
  refine ac_region_lit ?_
  refine ao 1 rfl rfl (st_box (v := .agg #[.int .i64 a.x.lo, .int .i64 a.x.hi, .bool a.x.no, .int .i64 a.y.lo, .int .i64 a.y.hi, .bool a.y.no, .int .i64 a.z.lo, .int .i64 a.z.hi, .bool a.z.no]) (cs := [.int .i64 a.x.lo, .int .i64 a.x.hi, .bool a.x.no, .int .i64 a.y.lo, .int .i64 a.y.hi, .bool a.y.no, .int .i64 a.z.lo, .int .i64 a.z.hi, .bool a.z.no]) rfl rfl rfl fun g0 => ?_)
  refine ao 2 rfl rfl (st_assign (v := .bool false) rfl rfl ?_)
  refine ar_nil ?_
  refine ac_seq ?_
  refine ac_region_lit ?_
  refine ao 3 rfl rfl (st_fa (g := g0) (off := 0) rfl fa57_0 rfl ?_)
  refine ao 4 rfl rfl (st_lda (g := g0) (off := 0) (vs := [.int .i64 a.x.lo, .int .i64 a.x.hi, .bool a.x.no]) agg26 0 rfl rfl rfl rfl rfl rfl ?_)
  refine ao 5 rfl rfl (st_cf (vs := [.agg #[.int .i64 a.x.lo, .int .i64 a.x.hi, .bool a.x.no]]) (r := .bool (ivRight a.x)) (c_ivRight a.x) Try.func25 rfl (by decide) rfl rfl rfl ?_)
  refine ao 6 rfl rfl (st_move (v := .bool (ivRight a.x)) rfl rfl ?_)
  refine bool_split (ivRight a.x) (fun h1 => ?_) (fun h1 => ?_)
  · refine ar_gd (d := (some 7)) (by show ((ivRight a.x) == true) = true; rw [h1]; rfl) rfl (st_fa (g := g0) (off := 0) rfl fa57_1 rfl ?_)
    refine ar_gd (d := (some 8)) (by show ((ivRight a.x) == true) = true; rw [h1]; rfl) rfl (st_lda (g := g0) (off := 3) (vs := [.int .i64 a.y.lo, .int .i64 a.y.hi, .bool a.y.no]) agg26 0 rfl rfl rfl rfl rfl rfl ?_)
    refine ar_gd (d := (some 9)) (by show ((ivRight a.x) == true) = true; rw [h1]; rfl) rfl (st_cf (vs := [.agg #[.int .i64 a.y.lo, .int .i64 a.y.hi, .bool a.y.no]]) (r := .bool (ivRight a.y)) (c_ivRight a.y) Try.func25 rfl (by decide) rfl rfl rfl ?_)
    refine ao 10 rfl rfl (st_pkt' (b := ivRight a.x) (v := .bool (ivRight a.y)) h1 rfl rfl rfl ?_)
    refine ao 11 rfl rfl (st_move (v := .bool (ivRight a.y)) rfl rfl ?_)
    refine bool_split (ivRight a.y) (fun h2 => ?_) (fun h2 => ?_)
    · refine ar_gd (d := (some 12)) (by show ((ivRight a.y) == true) = true; rw [h2]; rfl) rfl (st_fa (g := g0) (off := 0) rfl fa57_2 rfl ?_)
      refine ar_gd (d := (some 13)) (by show ((ivRight a.y) == true) = true; rw [h2]; rfl) rfl (st_lda (g := g0) (off := 6) (vs := [.int .i64 a.z.lo, .int .i64 a.z.hi, .bool a.z.no]) agg26 0 rfl rfl rfl rfl rfl rfl ?_)
      refine ar_gd (d := (some 14)) (by show ((ivRight a.y) == true) = true; rw [h2]; rfl) rfl (st_cf (vs := [.agg #[.int .i64 a.z.lo, .int .i64 a.z.hi, .bool a.z.no]]) (r := .bool (ivRight a.z)) (c_ivRight a.z) Try.func25 rfl (by decide) rfl rfl rfl ?_)
      refine ao 15 rfl rfl (st_pkt' (b := ivRight a.y) (v := .bool (ivRight a.z)) h2 rfl rfl rfl ?_)
      refine ao 2 rfl rfl (st_assign (v := .bool (ivRight a.z)) rfl rfl ?_)
      refine ar_nil ?_
      refine ac_ret ?_
      exact fin_eq (v := .bool (ivRight a.z)) (by show _ = (fun (r : Bool) => (.bool r : Value)) (vecRight a); rw [vecRight, h2, h1] <;> rfl) (fin_ret (res_tmp rfl rfl))
    · refine ar_sk (d := (some 12)) (by show ((ivRight a.y) == true) = false; rw [h2]; rfl) rfl ?_
      refine ar_sk (d := (some 13)) (by show ((ivRight a.y) == true) = false; rw [h2]; rfl) rfl ?_
      refine ar_sk (d := (some 14)) (by show ((ivRight a.y) == true) = false; rw [h2]; rfl) rfl ?_
      refine ao 15 rfl rfl (st_pkf' (b := ivRight a.y) (v := .bool false) h2 rfl rfl rfl ?_)
      refine ao 2 rfl rfl (st_assign (v := .bool false) rfl rfl ?_)
      refine ar_nil ?_
      refine ac_ret ?_
      exact fin_eq (v := .bool false) (by show _ = (fun (r : Bool) => (.bool r : Value)) (vecRight a); rw [vecRight, h2, h1] <;> rfl) (fin_ret (res_tmp rfl rfl))
  · refine ar_sk (d := (some 7)) (by show ((ivRight a.x) == true) = false; rw [h1]; rfl) rfl ?_
    refine ar_sk (d := (some 8)) (by show ((ivRight a.x) == true) = false; rw [h1]; rfl) rfl ?_
    refine ar_sk (d := (some 9)) (by show ((ivRight a.x) == true) = false; rw [h1]; rfl) rfl ?_
    refine ao 10 rfl rfl (st_pkf' (b := ivRight a.x) (v := .bool false) h1 rfl rfl rfl ?_)
    refine ao 11 rfl rfl (st_move (v := .bool false) rfl rfl ?_)
    refine ar_sk (d := (some 12)) rfl rfl ?_
    refine ar_sk (d := (some 13)) rfl rfl ?_
    refine ar_sk (d := (some 14)) rfl rfl ?_
    refine ao 15 rfl rfl (st_pkf (v := .bool false) rfl rfl rfl ?_)
    refine ao 2 rfl rfl (st_assign (v := .bool false) rfl rfl ?_)
    refine ar_nil ?_
    refine ac_ret ?_
    exact fin_eq (v := .bool false) (by show _ = (fun (r : Bool) => (.bool r : Value)) (vecRight a); rw [vecRight, h1] <;> rfl) (fin_ret (res_tmp rfl rfl))
def vecSub (a : V) (b : V) : V := (vecOf (ivSub a.x b.x) (ivSub a.y b.y) (ivSub a.z b.z))
set_option maxRecDepth 100000 in
theorem c_vecSub (a : V) (b : V) : Gets Try.prog 117 #[.agg #[.int .i64 a.x.lo, .int .i64 a.x.hi, .bool a.x.no, .int .i64 a.y.lo, .int .i64 a.y.hi, .bool a.y.no, .int .i64 a.z.lo, .int .i64 a.z.hi, .bool a.z.no], .agg #[.int .i64 b.x.lo, .int .i64 b.x.hi, .bool b.x.no, .int .i64 b.y.lo, .int .i64 b.y.hi, .bool b.y.no, .int .i64 b.z.lo, .int .i64 b.z.hi, .bool b.z.no]] (V.v (vecSub a b)) := by
  refine gets_fin Try.func117 rfl rfl rfl ?_
  refine ac_seq ?_
  refine ac_region_lit ?_
  refine ao 2 rfl rfl (st_box (v := .agg #[.int .i64 a.x.lo, .int .i64 a.x.hi, .bool a.x.no, .int .i64 a.y.lo, .int .i64 a.y.hi, .bool a.y.no, .int .i64 a.z.lo, .int .i64 a.z.hi, .bool a.z.no]) (cs := [.int .i64 a.x.lo, .int .i64 a.x.hi, .bool a.x.no, .int .i64 a.y.lo, .int .i64 a.y.hi, .bool a.y.no, .int .i64 a.z.lo, .int .i64 a.z.hi, .bool a.z.no]) rfl rfl rfl fun g0 => ?_)
  refine ao 3 rfl rfl (st_box (v := .agg #[.int .i64 b.x.lo, .int .i64 b.x.hi, .bool b.x.no, .int .i64 b.y.lo, .int .i64 b.y.hi, .bool b.y.no, .int .i64 b.z.lo, .int .i64 b.z.hi, .bool b.z.no]) (cs := [.int .i64 b.x.lo, .int .i64 b.x.hi, .bool b.x.no, .int .i64 b.y.lo, .int .i64 b.y.hi, .bool b.y.no, .int .i64 b.z.lo, .int .i64 b.z.hi, .bool b.z.no]) rfl rfl rfl fun g1 => ?_)
  refine ao 4 rfl rfl (st_new zero57 rfl fun g2 => ?_)
  refine ar_nil ?_
  refine ac_seq ?_
  refine ac_draw0 (id := 1) [0, 1, 2, 3, 4, 5, 6, 7, 8, 9, 10, 11, 12, 13, 14, 15] [16] _ (by kernel_rfl) follows rfl  ?_
  refine dw_op (d := (some 5)) (.pointer (some ⟨g0, 0, none⟩)) rfl rfl rfl (st_fa (g := g0) (off := 0) rfl fa57_0 rfl ⟨rfl, rfl⟩) ?_
  refine dw_op (d := (some 6)) (.agg #[.int .i64 a.x.lo, .int .i64 a.x.hi, .bool a.x.no]) rfl rfl rfl (st_lda (g := g0) (off := 0) (vs := [.int .i64 a.x.lo, .int .i64 a.x.hi, .bool a.x.no]) agg26 2 rfl rfl rfl rfl rfl rfl ⟨rfl, rfl⟩) ?_
  refine dw_op (d := (some 7)) (.pointer (some ⟨g1, 0, none⟩)) rfl rfl rfl (st_fa (g := g1) (off := 0) rfl fa57_0 rfl ⟨rfl, rfl⟩) ?_
  refine dw_op (d := (some 8)) (.agg #[.int .i64 b.x.lo, .int .i64 b.x.hi, .bool b.x.no]) rfl rfl rfl (st_lda (g := g1) (off := 0) (vs := [.int .i64 b.x.lo, .int .i64 b.x.hi, .bool b.x.no]) agg26 1 rfl rfl rfl rfl rfl rfl ⟨rfl, rfl⟩) ?_
  refine dw_op (d := (some 9)) (.agg #[.int .i64 ((ivSub a.x b.x).lo), .int .i64 ((ivSub a.x b.x).hi), .bool ((ivSub a.x b.x).no)]) rfl rfl rfl (st_cf (vs := [.agg #[.int .i64 a.x.lo, .int .i64 a.x.hi, .bool a.x.no], .agg #[.int .i64 b.x.lo, .int .i64 b.x.hi, .bool b.x.no]]) (r := .agg #[.int .i64 ((ivSub a.x b.x).lo), .int .i64 ((ivSub a.x b.x).hi), .bool ((ivSub a.x b.x).no)]) (c_ivSub a.x b.x) Try.func30 rfl (by decide) rfl rfl rfl ⟨rfl, rfl⟩) ?_
  refine dw_op (d := (some 10)) (.pointer (some ⟨g0, 3, none⟩)) rfl rfl rfl (st_fa (g := g0) (off := 0) rfl fa57_1 rfl ⟨rfl, rfl⟩) ?_
  refine dw_op (d := (some 11)) (.agg #[.int .i64 a.y.lo, .int .i64 a.y.hi, .bool a.y.no]) rfl rfl rfl (st_lda (g := g0) (off := 3) (vs := [.int .i64 a.y.lo, .int .i64 a.y.hi, .bool a.y.no]) agg26 2 rfl rfl rfl rfl rfl rfl ⟨rfl, rfl⟩) ?_
  refine dw_op (d := (some 12)) (.pointer (some ⟨g1, 3, none⟩)) rfl rfl rfl (st_fa (g := g1) (off := 0) rfl fa57_1 rfl ⟨rfl, rfl⟩) ?_
  refine dw_op (d := (some 13)) (.agg #[.int .i64 b.y.lo, .int .i64 b.y.hi, .bool b.y.no]) rfl rfl rfl (st_lda (g := g1) (off := 3) (vs := [.int .i64 b.y.lo, .int .i64 b.y.hi, .bool b.y.no]) agg26 1 rfl rfl rfl rfl rfl rfl ⟨rfl, rfl⟩) ?_
  refine dw_op (d := (some 14)) (.agg #[.int .i64 ((ivSub a.y b.y).lo), .int .i64 ((ivSub a.y b.y).hi), .bool ((ivSub a.y b.y).no)]) rfl rfl rfl (st_cf (vs := [.agg #[.int .i64 a.y.lo, .int .i64 a.y.hi, .bool a.y.no], .agg #[.int .i64 b.y.lo, .int .i64 b.y.hi, .bool b.y.no]]) (r := .agg #[.int .i64 ((ivSub a.y b.y).lo), .int .i64 ((ivSub a.y b.y).hi), .bool ((ivSub a.y b.y).no)]) (c_ivSub a.y b.y) Try.func30 rfl (by decide) rfl rfl rfl ⟨rfl, rfl⟩) ?_
  refine dw_op (d := (some 15)) (.pointer (some ⟨g0, 6, none⟩)) rfl rfl rfl (st_fa (g := g0) (off := 0) rfl fa57_2 rfl ⟨rfl, rfl⟩) ?_
  refine dw_op (d := (some 16)) (.agg #[.int .i64 a.z.lo, .int .i64 a.z.hi, .bool a.z.no]) rfl rfl rfl (st_lda (g := g0) (off := 6) (vs := [.int .i64 a.z.lo, .int .i64 a.z.hi, .bool a.z.no]) agg26 2 rfl rfl rfl rfl rfl rfl ⟨rfl, rfl⟩) ?_
  refine dw_op (d := (some 17)) (.pointer (some ⟨g1, 6, none⟩)) rfl rfl rfl (st_fa (g := g1) (off := 0) rfl fa57_2 rfl ⟨rfl, rfl⟩) ?_
  refine dw_op (d := (some 18)) (.agg #[.int .i64 b.z.lo, .int .i64 b.z.hi, .bool b.z.no]) rfl rfl rfl (st_lda (g := g1) (off := 6) (vs := [.int .i64 b.z.lo, .int .i64 b.z.hi, .bool b.z.no]) agg26 1 rfl rfl rfl rfl rfl rfl ⟨rfl, rfl⟩) ?_
  refine dw_op (d := (some 19)) (.agg #[.int .i64 ((ivSub a.z b.z).lo), .int .i64 ((ivSub a.z b.z).hi), .bool ((ivSub a.z b.z).no)]) rfl rfl rfl (st_cf (vs := [.agg #[.int .i64 a.z.lo, .int .i64 a.z.hi, .bool a.z.no], .agg #[.int .i64 b.z.lo, .int .i64 b.z.hi, .bool b.z.no]]) (r := .agg #[.int .i64 ((ivSub a.z b.z).lo), .int .i64 ((ivSub a.z b.z).hi), .bool ((ivSub a.z b.z).no)]) (c_ivSub a.z b.z) Try.func30 rfl (by decide) rfl rfl rfl ⟨rfl, rfl⟩) ?_
  refine dw_op (d := (some 20)) (.agg #[.int .i64 (((vecOf (ivSub a.x b.x) (ivSub a.y b.y) (ivSub a.z b.z)).x).lo), .int .i64 (((vecOf (ivSub a.x b.x) (ivSub a.y b.y) (ivSub a.z b.z)).x).hi), .bool (((vecOf (ivSub a.x b.x) (ivSub a.y b.y) (ivSub a.z b.z)).x).no), .int .i64 (((vecOf (ivSub a.x b.x) (ivSub a.y b.y) (ivSub a.z b.z)).y).lo), .int .i64 (((vecOf (ivSub a.x b.x) (ivSub a.y b.y) (ivSub a.z b.z)).y).hi), .bool (((vecOf (ivSub a.x b.x) (ivSub a.y b.y) (ivSub a.z b.z)).y).no), .int .i64 (((vecOf (ivSub a.x b.x) (ivSub a.y b.y) (ivSub a.z b.z)).z).lo), .int .i64 (((vecOf (ivSub a.x b.x) (ivSub a.y b.y) (ivSub a.z b.z)).z).hi), .bool (((vecOf (ivSub a.x b.x) (ivSub a.y b.y) (ivSub a.z b.z)).z).no)]) rfl rfl rfl (st_cf (vs := [.agg #[.int .i64 ((ivSub a.x b.x).lo), .int .i64 ((ivSub a.x b.x).hi), .bool ((ivSub a.x b.x).no)], .agg #[.int .i64 ((ivSub a.y b.y).lo), .int .i64 ((ivSub a.y b.y).hi), .bool ((ivSub a.y b.y).no)], .agg #[.int .i64 ((ivSub a.z b.z).lo), .int .i64 ((ivSub a.z b.z).hi), .bool ((ivSub a.z b.z).no)]]) (r := .agg #[.int .i64 (((vecOf (ivSub a.x b.x) (ivSub a.y b.y) (ivSub a.z b.z)).x).lo), .int .i64 (((vecOf (ivSub a.x b.x) (ivSub a.y b.y) (ivSub a.z b.z)).x).hi), .bool (((vecOf (ivSub a.x b.x) (ivSub a.y b.y) (ivSub a.z b.z)).x).no), .int .i64 (((vecOf (ivSub a.x b.x) (ivSub a.y b.y) (ivSub a.z b.z)).y).lo), .int .i64 (((vecOf (ivSub a.x b.x) (ivSub a.y b.y) (ivSub a.z b.z)).y).hi), .bool (((vecOf (ivSub a.x b.x) (ivSub a.y b.y) (ivSub a.z b.z)).y).no), .int .i64 (((vecOf (ivSub a.x b.x) (ivSub a.y b.y) (ivSub a.z b.z)).z).lo), .int .i64 (((vecOf (ivSub a.x b.x) (ivSub a.y b.y) (ivSub a.z b.z)).z).hi), .bool (((vecOf (ivSub a.x b.x) (ivSub a.y b.y) (ivSub a.z b.z)).z).no)]) (c_vecOf (ivSub a.x b.x) (ivSub a.y b.y) (ivSub a.z b.z)) Try.func44 rfl (by decide) rfl rfl rfl ⟨rfl, rfl⟩) ?_
  refine dw_nil ?_
  refine ar_op (d := none) rfl rfl (st_sta (g := g2) (off := 0) (us := [.int .i64 (((vecOf (ivSub a.x b.x) (ivSub a.y b.y) (ivSub a.z b.z)).x).lo), .int .i64 (((vecOf (ivSub a.x b.x) (ivSub a.y b.y) (ivSub a.z b.z)).x).hi), .bool (((vecOf (ivSub a.x b.x) (ivSub a.y b.y) (ivSub a.z b.z)).x).no), .int .i64 (((vecOf (ivSub a.x b.x) (ivSub a.y b.y) (ivSub a.z b.z)).y).lo), .int .i64 (((vecOf (ivSub a.x b.x) (ivSub a.y b.y) (ivSub a.z b.z)).y).hi), .bool (((vecOf (ivSub a.x b.x) (ivSub a.y b.y) (ivSub a.z b.z)).y).no), .int .i64 (((vecOf (ivSub a.x b.x) (ivSub a.y b.y) (ivSub a.z b.z)).z).lo), .int .i64 (((vecOf (ivSub a.x b.x) (ivSub a.y b.y) (ivSub a.z b.z)).z).hi), .bool (((vecOf (ivSub a.x b.x) (ivSub a.y b.y) (ivSub a.z b.z)).z).no)]) (cs := [.int .i64 (((vecOf (ivSub a.x b.x) (ivSub a.y b.y) (ivSub a.z b.z)).x).lo), .int .i64 (((vecOf (ivSub a.x b.x) (ivSub a.y b.y) (ivSub a.z b.z)).x).hi), .bool (((vecOf (ivSub a.x b.x) (ivSub a.y b.y) (ivSub a.z b.z)).x).no), .int .i64 (((vecOf (ivSub a.x b.x) (ivSub a.y b.y) (ivSub a.z b.z)).y).lo), .int .i64 (((vecOf (ivSub a.x b.x) (ivSub a.y b.y) (ivSub a.z b.z)).y).hi), .bool (((vecOf (ivSub a.x b.x) (ivSub a.y b.y) (ivSub a.z b.z)).y).no), .int .i64 (((vecOf (ivSub a.x b.x) (ivSub a.y b.y) (ivSub a.z b.z)).z).lo), .int .i64 (((vecOf (ivSub a.x b.x) (ivSub a.y b.y) (ivSub a.z b.z)).z).hi), .bool (((vecOf (ivSub a.x b.x) (ivSub a.y b.y) (ivSub a.z b.z)).z).no)]) agg57 0 rfl rfl rfl rfl rfl rfl rfl rfl rfl ?_)
  refine ar_nil ?_
  refine ac_ret ?_
  exact fin_eq (v := .agg #[.int .i64 (((vecOf (ivSub a.x b.x) (ivSub a.y b.y) (ivSub a.z b.z)).x).lo), .int .i64 (((vecOf (ivSub a.x b.x) (ivSub a.y b.y) (ivSub a.z b.z)).x).hi), .bool (((vecOf (ivSub a.x b.x) (ivSub a.y b.y) (ivSub a.z b.z)).x).no), .int .i64 (((vecOf (ivSub a.x b.x) (ivSub a.y b.y) (ivSub a.z b.z)).y).lo), .int .i64 (((vecOf (ivSub a.x b.x) (ivSub a.y b.y) (ivSub a.z b.z)).y).hi), .bool (((vecOf (ivSub a.x b.x) (ivSub a.y b.y) (ivSub a.z b.z)).y).no), .int .i64 (((vecOf (ivSub a.x b.x) (ivSub a.y b.y) (ivSub a.z b.z)).z).lo), .int .i64 (((vecOf (ivSub a.x b.x) (ivSub a.y b.y) (ivSub a.z b.z)).z).hi), .bool (((vecOf (ivSub a.x b.x) (ivSub a.y b.y) (ivSub a.z b.z)).z).no)]) rfl (fin_ret (res_c (vs := [.int .i64 (((vecOf (ivSub a.x b.x) (ivSub a.y b.y) (ivSub a.z b.z)).x).lo), .int .i64 (((vecOf (ivSub a.x b.x) (ivSub a.y b.y) (ivSub a.z b.z)).x).hi), .bool (((vecOf (ivSub a.x b.x) (ivSub a.y b.y) (ivSub a.z b.z)).x).no), .int .i64 (((vecOf (ivSub a.x b.x) (ivSub a.y b.y) (ivSub a.z b.z)).y).lo), .int .i64 (((vecOf (ivSub a.x b.x) (ivSub a.y b.y) (ivSub a.z b.z)).y).hi), .bool (((vecOf (ivSub a.x b.x) (ivSub a.y b.y) (ivSub a.z b.z)).y).no), .int .i64 (((vecOf (ivSub a.x b.x) (ivSub a.y b.y) (ivSub a.z b.z)).z).lo), .int .i64 (((vecOf (ivSub a.x b.x) (ivSub a.y b.y) (ivSub a.z b.z)).z).hi), .bool (((vecOf (ivSub a.x b.x) (ivSub a.y b.y) (ivSub a.z b.z)).z).no)]) agg57 0 rfl rfl rfl rfl rfl rfl))
def vecDot_e0 (a : V) (b : V) : Iv := (ivAdd (ivAdd (ivMul a.x b.x) (ivMul a.y b.y)) (ivMul a.z b.z))
def vecDot (a : V) (b : V) : Iv := (vecDot_e0 a b)
set_option maxRecDepth 100000 in
theorem c_vecDot (a : V) (b : V) : Gets Try.prog 120 #[.agg #[.int .i64 a.x.lo, .int .i64 a.x.hi, .bool a.x.no, .int .i64 a.y.lo, .int .i64 a.y.hi, .bool a.y.no, .int .i64 a.z.lo, .int .i64 a.z.hi, .bool a.z.no], .agg #[.int .i64 b.x.lo, .int .i64 b.x.hi, .bool b.x.no, .int .i64 b.y.lo, .int .i64 b.y.hi, .bool b.y.no, .int .i64 b.z.lo, .int .i64 b.z.hi, .bool b.z.no]] (Iv.v (vecDot a b)) := by
  refine gets_fin Try.func120 rfl rfl rfl ?_
  refine ac_seq ?_
  refine ac_region_lit ?_
  refine ao 2 rfl rfl (st_box (v := .agg #[.int .i64 a.x.lo, .int .i64 a.x.hi, .bool a.x.no, .int .i64 a.y.lo, .int .i64 a.y.hi, .bool a.y.no, .int .i64 a.z.lo, .int .i64 a.z.hi, .bool a.z.no]) (cs := [.int .i64 a.x.lo, .int .i64 a.x.hi, .bool a.x.no, .int .i64 a.y.lo, .int .i64 a.y.hi, .bool a.y.no, .int .i64 a.z.lo, .int .i64 a.z.hi, .bool a.z.no]) rfl rfl rfl fun g0 => ?_)
  refine ao 3 rfl rfl (st_box (v := .agg #[.int .i64 b.x.lo, .int .i64 b.x.hi, .bool b.x.no, .int .i64 b.y.lo, .int .i64 b.y.hi, .bool b.y.no, .int .i64 b.z.lo, .int .i64 b.z.hi, .bool b.z.no]) (cs := [.int .i64 b.x.lo, .int .i64 b.x.hi, .bool b.x.no, .int .i64 b.y.lo, .int .i64 b.y.hi, .bool b.y.no, .int .i64 b.z.lo, .int .i64 b.z.hi, .bool b.z.no]) rfl rfl rfl fun g1 => ?_)
  refine ao 4 rfl rfl (st_new zero26 rfl fun g2 => ?_)
  refine ar_nil ?_
  refine ac_seq ?_
  refine ac_draw0 (id := 1) [0, 1, 2, 3, 4, 5, 6, 7, 8, 9, 10, 11, 12, 13, 14, 15, 16] [17] _ (by kernel_rfl) follows rfl  ?_
  refine dw_op (d := (some 5)) (.pointer (some ⟨g0, 0, none⟩)) rfl rfl rfl (st_fa (g := g0) (off := 0) rfl fa57_0 rfl ⟨rfl, rfl⟩) ?_
  refine dw_op (d := (some 6)) (.agg #[.int .i64 a.x.lo, .int .i64 a.x.hi, .bool a.x.no]) rfl rfl rfl (st_lda (g := g0) (off := 0) (vs := [.int .i64 a.x.lo, .int .i64 a.x.hi, .bool a.x.no]) agg26 2 rfl rfl rfl rfl rfl rfl ⟨rfl, rfl⟩) ?_
  refine dw_op (d := (some 7)) (.pointer (some ⟨g1, 0, none⟩)) rfl rfl rfl (st_fa (g := g1) (off := 0) rfl fa57_0 rfl ⟨rfl, rfl⟩) ?_
  refine dw_op (d := (some 8)) (.agg #[.int .i64 b.x.lo, .int .i64 b.x.hi, .bool b.x.no]) rfl rfl rfl (st_lda (g := g1) (off := 0) (vs := [.int .i64 b.x.lo, .int .i64 b.x.hi, .bool b.x.no]) agg26 1 rfl rfl rfl rfl rfl rfl ⟨rfl, rfl⟩) ?_
  refine dw_op (d := (some 9)) (.agg #[.int .i64 ((ivMul a.x b.x).lo), .int .i64 ((ivMul a.x b.x).hi), .bool ((ivMul a.x b.x).no)]) rfl rfl rfl (st_cf (vs := [.agg #[.int .i64 a.x.lo, .int .i64 a.x.hi, .bool a.x.no], .agg #[.int .i64 b.x.lo, .int .i64 b.x.hi, .bool b.x.no]]) (r := .agg #[.int .i64 ((ivMul a.x b.x).lo), .int .i64 ((ivMul a.x b.x).hi), .bool ((ivMul a.x b.x).no)]) (c_ivMul a.x b.x) Try.func68 rfl (by decide) rfl rfl rfl ⟨rfl, rfl⟩) ?_
  refine dw_op (d := (some 10)) (.pointer (some ⟨g0, 3, none⟩)) rfl rfl rfl (st_fa (g := g0) (off := 0) rfl fa57_1 rfl ⟨rfl, rfl⟩) ?_
  refine dw_op (d := (some 11)) (.agg #[.int .i64 a.y.lo, .int .i64 a.y.hi, .bool a.y.no]) rfl rfl rfl (st_lda (g := g0) (off := 3) (vs := [.int .i64 a.y.lo, .int .i64 a.y.hi, .bool a.y.no]) agg26 2 rfl rfl rfl rfl rfl rfl ⟨rfl, rfl⟩) ?_
  refine dw_op (d := (some 12)) (.pointer (some ⟨g1, 3, none⟩)) rfl rfl rfl (st_fa (g := g1) (off := 0) rfl fa57_1 rfl ⟨rfl, rfl⟩) ?_
  refine dw_op (d := (some 13)) (.agg #[.int .i64 b.y.lo, .int .i64 b.y.hi, .bool b.y.no]) rfl rfl rfl (st_lda (g := g1) (off := 3) (vs := [.int .i64 b.y.lo, .int .i64 b.y.hi, .bool b.y.no]) agg26 1 rfl rfl rfl rfl rfl rfl ⟨rfl, rfl⟩) ?_
  refine dw_op (d := (some 14)) (.agg #[.int .i64 ((ivMul a.y b.y).lo), .int .i64 ((ivMul a.y b.y).hi), .bool ((ivMul a.y b.y).no)]) rfl rfl rfl (st_cf (vs := [.agg #[.int .i64 a.y.lo, .int .i64 a.y.hi, .bool a.y.no], .agg #[.int .i64 b.y.lo, .int .i64 b.y.hi, .bool b.y.no]]) (r := .agg #[.int .i64 ((ivMul a.y b.y).lo), .int .i64 ((ivMul a.y b.y).hi), .bool ((ivMul a.y b.y).no)]) (c_ivMul a.y b.y) Try.func68 rfl (by decide) rfl rfl rfl ⟨rfl, rfl⟩) ?_
  refine dw_op (d := (some 15)) (.agg #[.int .i64 ((ivAdd (ivMul a.x b.x) (ivMul a.y b.y)).lo), .int .i64 ((ivAdd (ivMul a.x b.x) (ivMul a.y b.y)).hi), .bool ((ivAdd (ivMul a.x b.x) (ivMul a.y b.y)).no)]) rfl rfl rfl (st_cf (vs := [.agg #[.int .i64 ((ivMul a.x b.x).lo), .int .i64 ((ivMul a.x b.x).hi), .bool ((ivMul a.x b.x).no)], .agg #[.int .i64 ((ivMul a.y b.y).lo), .int .i64 ((ivMul a.y b.y).hi), .bool ((ivMul a.y b.y).no)]]) (r := .agg #[.int .i64 ((ivAdd (ivMul a.x b.x) (ivMul a.y b.y)).lo), .int .i64 ((ivAdd (ivMul a.x b.x) (ivMul a.y b.y)).hi), .bool ((ivAdd (ivMul a.x b.x) (ivMul a.y b.y)).no)]) (c_ivAdd (ivMul a.x b.x) (ivMul a.y b.y)) Try.func67 rfl (by decide) rfl rfl rfl ⟨rfl, rfl⟩) ?_
  refine dw_op (d := (some 16)) (.pointer (some ⟨g0, 6, none⟩)) rfl rfl rfl (st_fa (g := g0) (off := 0) rfl fa57_2 rfl ⟨rfl, rfl⟩) ?_
  refine dw_op (d := (some 17)) (.agg #[.int .i64 a.z.lo, .int .i64 a.z.hi, .bool a.z.no]) rfl rfl rfl (st_lda (g := g0) (off := 6) (vs := [.int .i64 a.z.lo, .int .i64 a.z.hi, .bool a.z.no]) agg26 2 rfl rfl rfl rfl rfl rfl ⟨rfl, rfl⟩) ?_
  refine dw_op (d := (some 18)) (.pointer (some ⟨g1, 6, none⟩)) rfl rfl rfl (st_fa (g := g1) (off := 0) rfl fa57_2 rfl ⟨rfl, rfl⟩) ?_
  refine dw_op (d := (some 19)) (.agg #[.int .i64 b.z.lo, .int .i64 b.z.hi, .bool b.z.no]) rfl rfl rfl (st_lda (g := g1) (off := 6) (vs := [.int .i64 b.z.lo, .int .i64 b.z.hi, .bool b.z.no]) agg26 1 rfl rfl rfl rfl rfl rfl ⟨rfl, rfl⟩) ?_
  refine dw_op (d := (some 20)) (.agg #[.int .i64 ((ivMul a.z b.z).lo), .int .i64 ((ivMul a.z b.z).hi), .bool ((ivMul a.z b.z).no)]) rfl rfl rfl (st_cf (vs := [.agg #[.int .i64 a.z.lo, .int .i64 a.z.hi, .bool a.z.no], .agg #[.int .i64 b.z.lo, .int .i64 b.z.hi, .bool b.z.no]]) (r := .agg #[.int .i64 ((ivMul a.z b.z).lo), .int .i64 ((ivMul a.z b.z).hi), .bool ((ivMul a.z b.z).no)]) (c_ivMul a.z b.z) Try.func68 rfl (by decide) rfl rfl rfl ⟨rfl, rfl⟩) ?_
  refine dw_op (d := (some 21)) (.agg #[.int .i64 ((vecDot_e0 a b).lo), .int .i64 ((vecDot_e0 a b).hi), .bool ((vecDot_e0 a b).no)]) rfl rfl rfl (st_cf (vs := [.agg #[.int .i64 ((ivAdd (ivMul a.x b.x) (ivMul a.y b.y)).lo), .int .i64 ((ivAdd (ivMul a.x b.x) (ivMul a.y b.y)).hi), .bool ((ivAdd (ivMul a.x b.x) (ivMul a.y b.y)).no)], .agg #[.int .i64 ((ivMul a.z b.z).lo), .int .i64 ((ivMul a.z b.z).hi), .bool ((ivMul a.z b.z).no)]]) (r := .agg #[.int .i64 ((vecDot_e0 a b).lo), .int .i64 ((vecDot_e0 a b).hi), .bool ((vecDot_e0 a b).no)]) (c_ivAdd (ivAdd (ivMul a.x b.x) (ivMul a.y b.y)) (ivMul a.z b.z)) Try.func67 rfl (by decide) rfl rfl rfl ⟨rfl, rfl⟩) ?_
  refine dw_nil ?_
  refine ar_op (d := none) rfl rfl (st_sta (g := g2) (off := 0) (us := [.int .i64 ((vecDot_e0 a b).lo), .int .i64 ((vecDot_e0 a b).hi), .bool ((vecDot_e0 a b).no)]) (cs := [.int .i64 ((vecDot_e0 a b).lo), .int .i64 ((vecDot_e0 a b).hi), .bool ((vecDot_e0 a b).no)]) agg26 0 rfl rfl rfl rfl rfl rfl rfl rfl rfl ?_)
  refine ar_nil ?_
  refine ac_ret ?_
  exact fin_eq (v := .agg #[.int .i64 ((vecDot_e0 a b).lo), .int .i64 ((vecDot_e0 a b).hi), .bool ((vecDot_e0 a b).no)]) rfl (fin_ret (res_c (vs := [.int .i64 ((vecDot_e0 a b).lo), .int .i64 ((vecDot_e0 a b).hi), .bool ((vecDot_e0 a b).no)]) agg26 0 rfl rfl rfl rfl rfl rfl))
def vecLen2 (a : V) : Iv := (ivAdd (ivAdd (ivSqr a.x) (ivSqr a.y)) (ivSqr a.z))
set_option maxRecDepth 100000 in
theorem c_vecLen2 (a : V) : Gets Try.prog 52 #[.agg #[.int .i64 a.x.lo, .int .i64 a.x.hi, .bool a.x.no, .int .i64 a.y.lo, .int .i64 a.y.hi, .bool a.y.no, .int .i64 a.z.lo, .int .i64 a.z.hi, .bool a.z.no]] (Iv.v (vecLen2 a)) := by
  refine gets_fin Try.func52 rfl rfl rfl ?_
  refine ac_seq ?_
  refine ac_region_lit ?_
  refine ao 1 rfl rfl (st_box (v := .agg #[.int .i64 a.x.lo, .int .i64 a.x.hi, .bool a.x.no, .int .i64 a.y.lo, .int .i64 a.y.hi, .bool a.y.no, .int .i64 a.z.lo, .int .i64 a.z.hi, .bool a.z.no]) (cs := [.int .i64 a.x.lo, .int .i64 a.x.hi, .bool a.x.no, .int .i64 a.y.lo, .int .i64 a.y.hi, .bool a.y.no, .int .i64 a.z.lo, .int .i64 a.z.hi, .bool a.z.no]) rfl rfl rfl fun g0 => ?_)
  refine ao 2 rfl rfl (st_new zero26 rfl fun g1 => ?_)
  refine ar_nil ?_
  refine ac_seq ?_
  refine ac_draw0 (id := 1) [0, 1, 2, 3, 4, 5, 6, 7, 8, 9, 10] [11] _ (by kernel_rfl) follows rfl  ?_
  refine dw_op (d := (some 3)) (.pointer (some ⟨g0, 0, none⟩)) rfl rfl rfl (st_fa (g := g0) (off := 0) rfl fa57_0 rfl ⟨rfl, rfl⟩) ?_
  refine dw_op (d := (some 4)) (.agg #[.int .i64 a.x.lo, .int .i64 a.x.hi, .bool a.x.no]) rfl rfl rfl (st_lda (g := g0) (off := 0) (vs := [.int .i64 a.x.lo, .int .i64 a.x.hi, .bool a.x.no]) agg26 1 rfl rfl rfl rfl rfl rfl ⟨rfl, rfl⟩) ?_
  refine dw_op (d := (some 5)) (.agg #[.int .i64 ((ivSqr a.x).lo), .int .i64 ((ivSqr a.x).hi), .bool ((ivSqr a.x).no)]) rfl rfl rfl (st_cf (vs := [.agg #[.int .i64 a.x.lo, .int .i64 a.x.hi, .bool a.x.no]]) (r := .agg #[.int .i64 ((ivSqr a.x).lo), .int .i64 ((ivSqr a.x).hi), .bool ((ivSqr a.x).no)]) (c_ivSqr a.x) Try.func94 rfl (by decide) rfl rfl rfl ⟨rfl, rfl⟩) ?_
  refine dw_op (d := (some 6)) (.pointer (some ⟨g0, 3, none⟩)) rfl rfl rfl (st_fa (g := g0) (off := 0) rfl fa57_1 rfl ⟨rfl, rfl⟩) ?_
  refine dw_op (d := (some 7)) (.agg #[.int .i64 a.y.lo, .int .i64 a.y.hi, .bool a.y.no]) rfl rfl rfl (st_lda (g := g0) (off := 3) (vs := [.int .i64 a.y.lo, .int .i64 a.y.hi, .bool a.y.no]) agg26 1 rfl rfl rfl rfl rfl rfl ⟨rfl, rfl⟩) ?_
  refine dw_op (d := (some 8)) (.agg #[.int .i64 ((ivSqr a.y).lo), .int .i64 ((ivSqr a.y).hi), .bool ((ivSqr a.y).no)]) rfl rfl rfl (st_cf (vs := [.agg #[.int .i64 a.y.lo, .int .i64 a.y.hi, .bool a.y.no]]) (r := .agg #[.int .i64 ((ivSqr a.y).lo), .int .i64 ((ivSqr a.y).hi), .bool ((ivSqr a.y).no)]) (c_ivSqr a.y) Try.func94 rfl (by decide) rfl rfl rfl ⟨rfl, rfl⟩) ?_
  refine dw_op (d := (some 9)) (.agg #[.int .i64 ((ivAdd (ivSqr a.x) (ivSqr a.y)).lo), .int .i64 ((ivAdd (ivSqr a.x) (ivSqr a.y)).hi), .bool ((ivAdd (ivSqr a.x) (ivSqr a.y)).no)]) rfl rfl rfl (st_cf (vs := [.agg #[.int .i64 ((ivSqr a.x).lo), .int .i64 ((ivSqr a.x).hi), .bool ((ivSqr a.x).no)], .agg #[.int .i64 ((ivSqr a.y).lo), .int .i64 ((ivSqr a.y).hi), .bool ((ivSqr a.y).no)]]) (r := .agg #[.int .i64 ((ivAdd (ivSqr a.x) (ivSqr a.y)).lo), .int .i64 ((ivAdd (ivSqr a.x) (ivSqr a.y)).hi), .bool ((ivAdd (ivSqr a.x) (ivSqr a.y)).no)]) (c_ivAdd (ivSqr a.x) (ivSqr a.y)) Try.func67 rfl (by decide) rfl rfl rfl ⟨rfl, rfl⟩) ?_
  refine dw_op (d := (some 10)) (.pointer (some ⟨g0, 6, none⟩)) rfl rfl rfl (st_fa (g := g0) (off := 0) rfl fa57_2 rfl ⟨rfl, rfl⟩) ?_
  refine dw_op (d := (some 11)) (.agg #[.int .i64 a.z.lo, .int .i64 a.z.hi, .bool a.z.no]) rfl rfl rfl (st_lda (g := g0) (off := 6) (vs := [.int .i64 a.z.lo, .int .i64 a.z.hi, .bool a.z.no]) agg26 1 rfl rfl rfl rfl rfl rfl ⟨rfl, rfl⟩) ?_
  refine dw_op (d := (some 12)) (.agg #[.int .i64 ((ivSqr a.z).lo), .int .i64 ((ivSqr a.z).hi), .bool ((ivSqr a.z).no)]) rfl rfl rfl (st_cf (vs := [.agg #[.int .i64 a.z.lo, .int .i64 a.z.hi, .bool a.z.no]]) (r := .agg #[.int .i64 ((ivSqr a.z).lo), .int .i64 ((ivSqr a.z).hi), .bool ((ivSqr a.z).no)]) (c_ivSqr a.z) Try.func94 rfl (by decide) rfl rfl rfl ⟨rfl, rfl⟩) ?_
  refine dw_op (d := (some 13)) (.agg #[.int .i64 ((ivAdd (ivAdd (ivSqr a.x) (ivSqr a.y)) (ivSqr a.z)).lo), .int .i64 ((ivAdd (ivAdd (ivSqr a.x) (ivSqr a.y)) (ivSqr a.z)).hi), .bool ((ivAdd (ivAdd (ivSqr a.x) (ivSqr a.y)) (ivSqr a.z)).no)]) rfl rfl rfl (st_cf (vs := [.agg #[.int .i64 ((ivAdd (ivSqr a.x) (ivSqr a.y)).lo), .int .i64 ((ivAdd (ivSqr a.x) (ivSqr a.y)).hi), .bool ((ivAdd (ivSqr a.x) (ivSqr a.y)).no)], .agg #[.int .i64 ((ivSqr a.z).lo), .int .i64 ((ivSqr a.z).hi), .bool ((ivSqr a.z).no)]]) (r := .agg #[.int .i64 ((ivAdd (ivAdd (ivSqr a.x) (ivSqr a.y)) (ivSqr a.z)).lo), .int .i64 ((ivAdd (ivAdd (ivSqr a.x) (ivSqr a.y)) (ivSqr a.z)).hi), .bool ((ivAdd (ivAdd (ivSqr a.x) (ivSqr a.y)) (ivSqr a.z)).no)]) (c_ivAdd (ivAdd (ivSqr a.x) (ivSqr a.y)) (ivSqr a.z)) Try.func67 rfl (by decide) rfl rfl rfl ⟨rfl, rfl⟩) ?_
  refine dw_nil ?_
  refine ar_op (d := none) rfl rfl (st_sta (g := g1) (off := 0) (us := [.int .i64 ((ivAdd (ivAdd (ivSqr a.x) (ivSqr a.y)) (ivSqr a.z)).lo), .int .i64 ((ivAdd (ivAdd (ivSqr a.x) (ivSqr a.y)) (ivSqr a.z)).hi), .bool ((ivAdd (ivAdd (ivSqr a.x) (ivSqr a.y)) (ivSqr a.z)).no)]) (cs := [.int .i64 ((ivAdd (ivAdd (ivSqr a.x) (ivSqr a.y)) (ivSqr a.z)).lo), .int .i64 ((ivAdd (ivAdd (ivSqr a.x) (ivSqr a.y)) (ivSqr a.z)).hi), .bool ((ivAdd (ivAdd (ivSqr a.x) (ivSqr a.y)) (ivSqr a.z)).no)]) agg26 0 rfl rfl rfl rfl rfl rfl rfl rfl rfl ?_)
  refine ar_nil ?_
  refine ac_ret ?_
  exact fin_eq (v := .agg #[.int .i64 ((ivAdd (ivAdd (ivSqr a.x) (ivSqr a.y)) (ivSqr a.z)).lo), .int .i64 ((ivAdd (ivAdd (ivSqr a.x) (ivSqr a.y)) (ivSqr a.z)).hi), .bool ((ivAdd (ivAdd (ivSqr a.x) (ivSqr a.y)) (ivSqr a.z)).no)]) rfl (fin_ret (res_c (vs := [.int .i64 ((ivAdd (ivAdd (ivSqr a.x) (ivSqr a.y)) (ivSqr a.z)).lo), .int .i64 ((ivAdd (ivAdd (ivSqr a.x) (ivSqr a.y)) (ivSqr a.z)).hi), .bool ((ivAdd (ivAdd (ivSqr a.x) (ivSqr a.y)) (ivSqr a.z)).no)]) agg26 0 rfl rfl rfl rfl rfl rfl))
def vecUnit_e0 (a : V) : V := (vecOf (ivDiv a.x (ivRoot (vecLen2 a))) (ivDiv a.y (ivRoot (vecLen2 a))) (ivDiv a.z (ivRoot (vecLen2 a))))
def vecUnit (a : V) : V := (vecUnit_e0 a)
set_option maxRecDepth 100000 in
theorem c_vecUnit (a : V) : Gets Try.prog 93 #[.agg #[.int .i64 a.x.lo, .int .i64 a.x.hi, .bool a.x.no, .int .i64 a.y.lo, .int .i64 a.y.hi, .bool a.y.no, .int .i64 a.z.lo, .int .i64 a.z.hi, .bool a.z.no]] (V.v (vecUnit a)) := by
  refine gets_fin Try.func93 rfl rfl rfl ?_
  refine ac_seq ?_
  refine ac_region_lit ?_
  refine ao 1 rfl rfl (st_box (v := .agg #[.int .i64 a.x.lo, .int .i64 a.x.hi, .bool a.x.no, .int .i64 a.y.lo, .int .i64 a.y.hi, .bool a.y.no, .int .i64 a.z.lo, .int .i64 a.z.hi, .bool a.z.no]) (cs := [.int .i64 a.x.lo, .int .i64 a.x.hi, .bool a.x.no, .int .i64 a.y.lo, .int .i64 a.y.hi, .bool a.y.no, .int .i64 a.z.lo, .int .i64 a.z.hi, .bool a.z.no]) rfl rfl rfl fun g0 => ?_)
  refine ao 2 rfl rfl (st_new zero57 rfl fun g1 => ?_)
  refine ar_nil ?_
  refine ac_seq ?_
  refine ac_region_lit ?_
  refine ao 4 rfl rfl (st_lda (g := g0) (off := 0) (vs := [.int .i64 a.x.lo, .int .i64 a.x.hi, .bool a.x.no, .int .i64 a.y.lo, .int .i64 a.y.hi, .bool a.y.no, .int .i64 a.z.lo, .int .i64 a.z.hi, .bool a.z.no]) agg57 1 rfl rfl rfl rfl rfl rfl ?_)
  refine ao 5 rfl rfl (st_cf (vs := [.agg #[.int .i64 a.x.lo, .int .i64 a.x.hi, .bool a.x.no, .int .i64 a.y.lo, .int .i64 a.y.hi, .bool a.y.no, .int .i64 a.z.lo, .int .i64 a.z.hi, .bool a.z.no]]) (r := .agg #[.int .i64 ((vecLen2 a).lo), .int .i64 ((vecLen2 a).hi), .bool ((vecLen2 a).no)]) (c_vecLen2 a) Try.func52 rfl (by decide) rfl rfl rfl ?_)
  refine ao 6 rfl rfl (st_cf (vs := [.agg #[.int .i64 ((vecLen2 a).lo), .int .i64 ((vecLen2 a).hi), .bool ((vecLen2 a).no)]]) (r := .agg #[.int .i64 ((ivRoot (vecLen2 a)).lo), .int .i64 ((ivRoot (vecLen2 a)).hi), .bool ((ivRoot (vecLen2 a)).no)]) (c_ivRoot (vecLen2 a)) Try.func102 rfl (by decide) rfl rfl rfl ?_)
  refine ao 3 rfl rfl (st_new zero26 rfl fun g2 => ?_)
  refine ar_op (d := none) rfl rfl (st_sta (g := g2) (off := 0) (us := [.int .i64 ((ivRoot (vecLen2 a)).lo), .int .i64 ((ivRoot (vecLen2 a)).hi), .bool ((ivRoot (vecLen2 a)).no)]) (cs := [.int .i64 ((ivRoot (vecLen2 a)).lo), .int .i64 ((ivRoot (vecLen2 a)).hi), .bool ((ivRoot (vecLen2 a)).no)]) agg26 0 rfl rfl rfl rfl rfl rfl rfl rfl rfl ?_)
  refine ar_nil ?_
  refine ac_seq ?_
  refine ac_draw0 (id := 2) [0, 1, 2, 3, 4, 5, 6, 7, 8, 9, 10, 11, 12] [13] _ (by kernel_rfl) follows rfl  ?_
  refine dw_op (d := (some 7)) (.pointer (some ⟨g0, 0, none⟩)) rfl rfl rfl (st_fa (g := g0) (off := 0) rfl fa57_0 rfl ⟨rfl, rfl⟩) ?_
  refine dw_op (d := (some 8)) (.agg #[.int .i64 a.x.lo, .int .i64 a.x.hi, .bool a.x.no]) rfl rfl rfl (st_lda (g := g0) (off := 0) (vs := [.int .i64 a.x.lo, .int .i64 a.x.hi, .bool a.x.no]) agg26 2 rfl rfl rfl rfl rfl rfl ⟨rfl, rfl⟩) ?_
  refine dw_op (d := (some 9)) (.agg #[.int .i64 ((ivRoot (vecLen2 a)).lo), .int .i64 ((ivRoot (vecLen2 a)).hi), .bool ((ivRoot (vecLen2 a)).no)]) rfl rfl rfl (st_lda (g := g2) (off := 0) (vs := [.int .i64 ((ivRoot (vecLen2 a)).lo), .int .i64 ((ivRoot (vecLen2 a)).hi), .bool ((ivRoot (vecLen2 a)).no)]) agg26 0 rfl rfl rfl rfl rfl rfl ⟨rfl, rfl⟩) ?_
  refine dw_op (d := (some 10)) (.agg #[.int .i64 ((ivDiv a.x (ivRoot (vecLen2 a))).lo), .int .i64 ((ivDiv a.x (ivRoot (vecLen2 a))).hi), .bool ((ivDiv a.x (ivRoot (vecLen2 a))).no)]) rfl rfl rfl (st_cf (vs := [.agg #[.int .i64 a.x.lo, .int .i64 a.x.hi, .bool a.x.no], .agg #[.int .i64 ((ivRoot (vecLen2 a)).lo), .int .i64 ((ivRoot (vecLen2 a)).hi), .bool ((ivRoot (vecLen2 a)).no)]]) (r := .agg #[.int .i64 ((ivDiv a.x (ivRoot (vecLen2 a))).lo), .int .i64 ((ivDiv a.x (ivRoot (vecLen2 a))).hi), .bool ((ivDiv a.x (ivRoot (vecLen2 a))).no)]) (c_ivDiv a.x (ivRoot (vecLen2 a))) Try.func33 rfl (by decide) rfl rfl rfl ⟨rfl, rfl⟩) ?_
  refine dw_op (d := (some 11)) (.pointer (some ⟨g0, 3, none⟩)) rfl rfl rfl (st_fa (g := g0) (off := 0) rfl fa57_1 rfl ⟨rfl, rfl⟩) ?_
  refine dw_op (d := (some 12)) (.agg #[.int .i64 a.y.lo, .int .i64 a.y.hi, .bool a.y.no]) rfl rfl rfl (st_lda (g := g0) (off := 3) (vs := [.int .i64 a.y.lo, .int .i64 a.y.hi, .bool a.y.no]) agg26 2 rfl rfl rfl rfl rfl rfl ⟨rfl, rfl⟩) ?_
  refine dw_op (d := (some 13)) (.agg #[.int .i64 ((ivRoot (vecLen2 a)).lo), .int .i64 ((ivRoot (vecLen2 a)).hi), .bool ((ivRoot (vecLen2 a)).no)]) rfl rfl rfl (st_lda (g := g2) (off := 0) (vs := [.int .i64 ((ivRoot (vecLen2 a)).lo), .int .i64 ((ivRoot (vecLen2 a)).hi), .bool ((ivRoot (vecLen2 a)).no)]) agg26 0 rfl rfl rfl rfl rfl rfl ⟨rfl, rfl⟩) ?_
  refine dw_op (d := (some 14)) (.agg #[.int .i64 ((ivDiv a.y (ivRoot (vecLen2 a))).lo), .int .i64 ((ivDiv a.y (ivRoot (vecLen2 a))).hi), .bool ((ivDiv a.y (ivRoot (vecLen2 a))).no)]) rfl rfl rfl (st_cf (vs := [.agg #[.int .i64 a.y.lo, .int .i64 a.y.hi, .bool a.y.no], .agg #[.int .i64 ((ivRoot (vecLen2 a)).lo), .int .i64 ((ivRoot (vecLen2 a)).hi), .bool ((ivRoot (vecLen2 a)).no)]]) (r := .agg #[.int .i64 ((ivDiv a.y (ivRoot (vecLen2 a))).lo), .int .i64 ((ivDiv a.y (ivRoot (vecLen2 a))).hi), .bool ((ivDiv a.y (ivRoot (vecLen2 a))).no)]) (c_ivDiv a.y (ivRoot (vecLen2 a))) Try.func33 rfl (by decide) rfl rfl rfl ⟨rfl, rfl⟩) ?_
  refine dw_op (d := (some 15)) (.pointer (some ⟨g0, 6, none⟩)) rfl rfl rfl (st_fa (g := g0) (off := 0) rfl fa57_2 rfl ⟨rfl, rfl⟩) ?_
  refine dw_op (d := (some 16)) (.agg #[.int .i64 a.z.lo, .int .i64 a.z.hi, .bool a.z.no]) rfl rfl rfl (st_lda (g := g0) (off := 6) (vs := [.int .i64 a.z.lo, .int .i64 a.z.hi, .bool a.z.no]) agg26 2 rfl rfl rfl rfl rfl rfl ⟨rfl, rfl⟩) ?_
  refine dw_op (d := (some 17)) (.agg #[.int .i64 ((ivRoot (vecLen2 a)).lo), .int .i64 ((ivRoot (vecLen2 a)).hi), .bool ((ivRoot (vecLen2 a)).no)]) rfl rfl rfl (st_lda (g := g2) (off := 0) (vs := [.int .i64 ((ivRoot (vecLen2 a)).lo), .int .i64 ((ivRoot (vecLen2 a)).hi), .bool ((ivRoot (vecLen2 a)).no)]) agg26 0 rfl rfl rfl rfl rfl rfl ⟨rfl, rfl⟩) ?_
  refine dw_op (d := (some 18)) (.agg #[.int .i64 ((ivDiv a.z (ivRoot (vecLen2 a))).lo), .int .i64 ((ivDiv a.z (ivRoot (vecLen2 a))).hi), .bool ((ivDiv a.z (ivRoot (vecLen2 a))).no)]) rfl rfl rfl (st_cf (vs := [.agg #[.int .i64 a.z.lo, .int .i64 a.z.hi, .bool a.z.no], .agg #[.int .i64 ((ivRoot (vecLen2 a)).lo), .int .i64 ((ivRoot (vecLen2 a)).hi), .bool ((ivRoot (vecLen2 a)).no)]]) (r := .agg #[.int .i64 ((ivDiv a.z (ivRoot (vecLen2 a))).lo), .int .i64 ((ivDiv a.z (ivRoot (vecLen2 a))).hi), .bool ((ivDiv a.z (ivRoot (vecLen2 a))).no)]) (c_ivDiv a.z (ivRoot (vecLen2 a))) Try.func33 rfl (by decide) rfl rfl rfl ⟨rfl, rfl⟩) ?_
  refine dw_op (d := (some 19)) (.agg #[.int .i64 (((vecUnit_e0 a).x).lo), .int .i64 (((vecUnit_e0 a).x).hi), .bool (((vecUnit_e0 a).x).no), .int .i64 (((vecUnit_e0 a).y).lo), .int .i64 (((vecUnit_e0 a).y).hi), .bool (((vecUnit_e0 a).y).no), .int .i64 (((vecUnit_e0 a).z).lo), .int .i64 (((vecUnit_e0 a).z).hi), .bool (((vecUnit_e0 a).z).no)]) rfl rfl rfl (st_cf (vs := [.agg #[.int .i64 ((ivDiv a.x (ivRoot (vecLen2 a))).lo), .int .i64 ((ivDiv a.x (ivRoot (vecLen2 a))).hi), .bool ((ivDiv a.x (ivRoot (vecLen2 a))).no)], .agg #[.int .i64 ((ivDiv a.y (ivRoot (vecLen2 a))).lo), .int .i64 ((ivDiv a.y (ivRoot (vecLen2 a))).hi), .bool ((ivDiv a.y (ivRoot (vecLen2 a))).no)], .agg #[.int .i64 ((ivDiv a.z (ivRoot (vecLen2 a))).lo), .int .i64 ((ivDiv a.z (ivRoot (vecLen2 a))).hi), .bool ((ivDiv a.z (ivRoot (vecLen2 a))).no)]]) (r := .agg #[.int .i64 (((vecUnit_e0 a).x).lo), .int .i64 (((vecUnit_e0 a).x).hi), .bool (((vecUnit_e0 a).x).no), .int .i64 (((vecUnit_e0 a).y).lo), .int .i64 (((vecUnit_e0 a).y).hi), .bool (((vecUnit_e0 a).y).no), .int .i64 (((vecUnit_e0 a).z).lo), .int .i64 (((vecUnit_e0 a).z).hi), .bool (((vecUnit_e0 a).z).no)]) (c_vecOf (ivDiv a.x (ivRoot (vecLen2 a))) (ivDiv a.y (ivRoot (vecLen2 a))) (ivDiv a.z (ivRoot (vecLen2 a)))) Try.func44 rfl (by decide) rfl rfl rfl ⟨rfl, rfl⟩) ?_
  refine dw_nil ?_
  refine ar_op (d := none) rfl rfl (st_sta (g := g1) (off := 0) (us := [.int .i64 (((vecUnit_e0 a).x).lo), .int .i64 (((vecUnit_e0 a).x).hi), .bool (((vecUnit_e0 a).x).no), .int .i64 (((vecUnit_e0 a).y).lo), .int .i64 (((vecUnit_e0 a).y).hi), .bool (((vecUnit_e0 a).y).no), .int .i64 (((vecUnit_e0 a).z).lo), .int .i64 (((vecUnit_e0 a).z).hi), .bool (((vecUnit_e0 a).z).no)]) (cs := [.int .i64 (((vecUnit_e0 a).x).lo), .int .i64 (((vecUnit_e0 a).x).hi), .bool (((vecUnit_e0 a).x).no), .int .i64 (((vecUnit_e0 a).y).lo), .int .i64 (((vecUnit_e0 a).y).hi), .bool (((vecUnit_e0 a).y).no), .int .i64 (((vecUnit_e0 a).z).lo), .int .i64 (((vecUnit_e0 a).z).hi), .bool (((vecUnit_e0 a).z).no)]) agg57 1 rfl rfl rfl rfl rfl rfl rfl rfl rfl ?_)
  refine ar_nil ?_
  refine ac_ret ?_
  exact fin_eq (v := .agg #[.int .i64 (((vecUnit_e0 a).x).lo), .int .i64 (((vecUnit_e0 a).x).hi), .bool (((vecUnit_e0 a).x).no), .int .i64 (((vecUnit_e0 a).y).lo), .int .i64 (((vecUnit_e0 a).y).hi), .bool (((vecUnit_e0 a).y).no), .int .i64 (((vecUnit_e0 a).z).lo), .int .i64 (((vecUnit_e0 a).z).hi), .bool (((vecUnit_e0 a).z).no)]) rfl (fin_ret (res_c (vs := [.int .i64 (((vecUnit_e0 a).x).lo), .int .i64 (((vecUnit_e0 a).x).hi), .bool (((vecUnit_e0 a).x).no), .int .i64 (((vecUnit_e0 a).y).lo), .int .i64 (((vecUnit_e0 a).y).hi), .bool (((vecUnit_e0 a).y).no), .int .i64 (((vecUnit_e0 a).z).lo), .int .i64 (((vecUnit_e0 a).z).hi), .bool (((vecUnit_e0 a).z).no)]) agg57 1 rfl rfl rfl rfl rfl rfl))
def vecInside (a : V) (b : V) : Bool := (bif ivInside a.x b.x then (bif ivInside a.y b.y then ivInside a.z b.z else false) else false)
set_option maxRecDepth 100000 in
theorem c_vecInside (a : V) (b : V) : Gets Try.prog 51 #[.agg #[.int .i64 a.x.lo, .int .i64 a.x.hi, .bool a.x.no, .int .i64 a.y.lo, .int .i64 a.y.hi, .bool a.y.no, .int .i64 a.z.lo, .int .i64 a.z.hi, .bool a.z.no], .agg #[.int .i64 b.x.lo, .int .i64 b.x.hi, .bool b.x.no, .int .i64 b.y.lo, .int .i64 b.y.hi, .bool b.y.no, .int .i64 b.z.lo, .int .i64 b.z.hi, .bool b.z.no]] ((fun (r : Bool) => (.bool r : Value)) (vecInside a b)) := by
  refine gets_fin Try.func51 rfl rfl rfl ?_
  refine ac_seq ?_
  refine ac_region_lit ?_
  refine ao 2 rfl rfl (st_box (v := .agg #[.int .i64 a.x.lo, .int .i64 a.x.hi, .bool a.x.no, .int .i64 a.y.lo, .int .i64 a.y.hi, .bool a.y.no, .int .i64 a.z.lo, .int .i64 a.z.hi, .bool a.z.no]) (cs := [.int .i64 a.x.lo, .int .i64 a.x.hi, .bool a.x.no, .int .i64 a.y.lo, .int .i64 a.y.hi, .bool a.y.no, .int .i64 a.z.lo, .int .i64 a.z.hi, .bool a.z.no]) rfl rfl rfl fun g0 => ?_)
  refine ao 3 rfl rfl (st_box (v := .agg #[.int .i64 b.x.lo, .int .i64 b.x.hi, .bool b.x.no, .int .i64 b.y.lo, .int .i64 b.y.hi, .bool b.y.no, .int .i64 b.z.lo, .int .i64 b.z.hi, .bool b.z.no]) (cs := [.int .i64 b.x.lo, .int .i64 b.x.hi, .bool b.x.no, .int .i64 b.y.lo, .int .i64 b.y.hi, .bool b.y.no, .int .i64 b.z.lo, .int .i64 b.z.hi, .bool b.z.no]) rfl rfl rfl fun g1 => ?_)
  refine ao 4 rfl rfl (st_assign (v := .bool false) rfl rfl ?_)
  refine ar_nil ?_
  refine ac_seq ?_
  refine ac_region_lit ?_
  refine ao 5 rfl rfl (st_fa (g := g0) (off := 0) rfl fa57_0 rfl ?_)
  refine ao 6 rfl rfl (st_lda (g := g0) (off := 0) (vs := [.int .i64 a.x.lo, .int .i64 a.x.hi, .bool a.x.no]) agg26 1 rfl rfl rfl rfl rfl rfl ?_)
  refine ao 7 rfl rfl (st_fa (g := g1) (off := 0) rfl fa57_0 rfl ?_)
  refine ao 8 rfl rfl (st_lda (g := g1) (off := 0) (vs := [.int .i64 b.x.lo, .int .i64 b.x.hi, .bool b.x.no]) agg26 0 rfl rfl rfl rfl rfl rfl ?_)
  refine ao 9 rfl rfl (st_cf (vs := [.agg #[.int .i64 a.x.lo, .int .i64 a.x.hi, .bool a.x.no], .agg #[.int .i64 b.x.lo, .int .i64 b.x.hi, .bool b.x.no]]) (r := .bool (ivInside a.x b.x)) (c_ivInside a.x b.x) Try.func26 rfl (by decide) rfl rfl rfl ?_)
  refine ao 10 rfl rfl (st_move (v := .bool (ivInside a.x b.x)) rfl rfl ?_)
  refine bool_split (ivInside a.x b.x) (fun h1 => ?_) (fun h1 => ?_)
  · refine ar_gd (d := (some 11)) (by show ((ivInside a.x b.x) == true) = true; rw [h1]; rfl) rfl (st_fa (g := g0) (off := 0) rfl fa57_1 rfl ?_)
    refine ar_gd (d := (some 12)) (by show ((ivInside a.x b.x) == true) = true; rw [h1]; rfl) rfl (st_lda (g := g0) (off := 3) (vs := [.int .i64 a.y.lo, .int .i64 a.y.hi, .bool a.y.no]) agg26 1 rfl rfl rfl rfl rfl rfl ?_)
    refine ar_gd (d := (some 13)) (by show ((ivInside a.x b.x) == true) = true; rw [h1]; rfl) rfl (st_fa (g := g1) (off := 0) rfl fa57_1 rfl ?_)
    refine ar_gd (d := (some 14)) (by show ((ivInside a.x b.x) == true) = true; rw [h1]; rfl) rfl (st_lda (g := g1) (off := 3) (vs := [.int .i64 b.y.lo, .int .i64 b.y.hi, .bool b.y.no]) agg26 0 rfl rfl rfl rfl rfl rfl ?_)
    refine ar_gd (d := (some 15)) (by show ((ivInside a.x b.x) == true) = true; rw [h1]; rfl) rfl (st_cf (vs := [.agg #[.int .i64 a.y.lo, .int .i64 a.y.hi, .bool a.y.no], .agg #[.int .i64 b.y.lo, .int .i64 b.y.hi, .bool b.y.no]]) (r := .bool (ivInside a.y b.y)) (c_ivInside a.y b.y) Try.func26 rfl (by decide) rfl rfl rfl ?_)
    refine ao 16 rfl rfl (st_pkt' (b := ivInside a.x b.x) (v := .bool (ivInside a.y b.y)) h1 rfl rfl rfl ?_)
    refine ao 17 rfl rfl (st_move (v := .bool (ivInside a.y b.y)) rfl rfl ?_)
    refine bool_split (ivInside a.y b.y) (fun h2 => ?_) (fun h2 => ?_)
    · refine ar_gd (d := (some 18)) (by show ((ivInside a.y b.y) == true) = true; rw [h2]; rfl) rfl (st_fa (g := g0) (off := 0) rfl fa57_2 rfl ?_)
      refine ar_gd (d := (some 19)) (by show ((ivInside a.y b.y) == true) = true; rw [h2]; rfl) rfl (st_lda (g := g0) (off := 6) (vs := [.int .i64 a.z.lo, .int .i64 a.z.hi, .bool a.z.no]) agg26 1 rfl rfl rfl rfl rfl rfl ?_)
      refine ar_gd (d := (some 20)) (by show ((ivInside a.y b.y) == true) = true; rw [h2]; rfl) rfl (st_fa (g := g1) (off := 0) rfl fa57_2 rfl ?_)
      refine ar_gd (d := (some 21)) (by show ((ivInside a.y b.y) == true) = true; rw [h2]; rfl) rfl (st_lda (g := g1) (off := 6) (vs := [.int .i64 b.z.lo, .int .i64 b.z.hi, .bool b.z.no]) agg26 0 rfl rfl rfl rfl rfl rfl ?_)
      refine ar_gd (d := (some 22)) (by show ((ivInside a.y b.y) == true) = true; rw [h2]; rfl) rfl (st_cf (vs := [.agg #[.int .i64 a.z.lo, .int .i64 a.z.hi, .bool a.z.no], .agg #[.int .i64 b.z.lo, .int .i64 b.z.hi, .bool b.z.no]]) (r := .bool (ivInside a.z b.z)) (c_ivInside a.z b.z) Try.func26 rfl (by decide) rfl rfl rfl ?_)
      refine ao 23 rfl rfl (st_pkt' (b := ivInside a.y b.y) (v := .bool (ivInside a.z b.z)) h2 rfl rfl rfl ?_)
      refine ao 4 rfl rfl (st_assign (v := .bool (ivInside a.z b.z)) rfl rfl ?_)
      refine ar_nil ?_
      refine ac_ret ?_
      exact fin_eq (v := .bool (ivInside a.z b.z)) (by show _ = (fun (r : Bool) => (.bool r : Value)) (vecInside a b); rw [vecInside, h2, h1] <;> rfl) (fin_ret (res_tmp rfl rfl))
    · refine ar_sk (d := (some 18)) (by show ((ivInside a.y b.y) == true) = false; rw [h2]; rfl) rfl ?_
      refine ar_sk (d := (some 19)) (by show ((ivInside a.y b.y) == true) = false; rw [h2]; rfl) rfl ?_
      refine ar_sk (d := (some 20)) (by show ((ivInside a.y b.y) == true) = false; rw [h2]; rfl) rfl ?_
      refine ar_sk (d := (some 21)) (by show ((ivInside a.y b.y) == true) = false; rw [h2]; rfl) rfl ?_
      refine ar_sk (d := (some 22)) (by show ((ivInside a.y b.y) == true) = false; rw [h2]; rfl) rfl ?_
      refine ao 23 rfl rfl (st_pkf' (b := ivInside a.y b.y) (v := .bool false) h2 rfl rfl rfl ?_)
      refine ao 4 rfl rfl (st_assign (v := .bool false) rfl rfl ?_)
      refine ar_nil ?_
      refine ac_ret ?_
      exact fin_eq (v := .bool false) (by show _ = (fun (r : Bool) => (.bool r : Value)) (vecInside a b); rw [vecInside, h2, h1] <;> rfl) (fin_ret (res_tmp rfl rfl))
  · refine ar_sk (d := (some 11)) (by show ((ivInside a.x b.x) == true) = false; rw [h1]; rfl) rfl ?_
    refine ar_sk (d := (some 12)) (by show ((ivInside a.x b.x) == true) = false; rw [h1]; rfl) rfl ?_
    refine ar_sk (d := (some 13)) (by show ((ivInside a.x b.x) == true) = false; rw [h1]; rfl) rfl ?_
    refine ar_sk (d := (some 14)) (by show ((ivInside a.x b.x) == true) = false; rw [h1]; rfl) rfl ?_
    refine ar_sk (d := (some 15)) (by show ((ivInside a.x b.x) == true) = false; rw [h1]; rfl) rfl ?_
    refine ao 16 rfl rfl (st_pkf' (b := ivInside a.x b.x) (v := .bool false) h1 rfl rfl rfl ?_)
    refine ao 17 rfl rfl (st_move (v := .bool false) rfl rfl ?_)
    refine ar_sk (d := (some 18)) rfl rfl ?_
    refine ar_sk (d := (some 19)) rfl rfl ?_
    refine ar_sk (d := (some 20)) rfl rfl ?_
    refine ar_sk (d := (some 21)) rfl rfl ?_
    refine ar_sk (d := (some 22)) rfl rfl ?_
    refine ao 23 rfl rfl (st_pkf (v := .bool false) rfl rfl rfl ?_)
    refine ao 4 rfl rfl (st_assign (v := .bool false) rfl rfl ?_)
    refine ar_nil ?_
    refine ac_ret ?_
    exact fin_eq (v := .bool false) (by show _ = (fun (r : Bool) => (.bool r : Value)) (vecInside a b); rw [vecInside, h1] <;> rfl) (fin_ret (res_tmp rfl rfl))
def vecMirror (a : V) : V := (⟨a.x, (ivNeg a.y), a.z⟩ : V)
set_option maxRecDepth 100000 in
theorem c_vecMirror (a : V) : Gets Try.prog 54 #[.agg #[.int .i64 a.x.lo, .int .i64 a.x.hi, .bool a.x.no, .int .i64 a.y.lo, .int .i64 a.y.hi, .bool a.y.no, .int .i64 a.z.lo, .int .i64 a.z.hi, .bool a.z.no]] (V.v (vecMirror a)) := by
  refine gets_fin Try.func54 rfl rfl rfl ?_
  refine ac_seq ?_
  refine ac_region_lit ?_
  refine ao 1 rfl rfl (st_box (v := .agg #[.int .i64 a.x.lo, .int .i64 a.x.hi, .bool a.x.no, .int .i64 a.y.lo, .int .i64 a.y.hi, .bool a.y.no, .int .i64 a.z.lo, .int .i64 a.z.hi, .bool a.z.no]) (cs := [.int .i64 a.x.lo, .int .i64 a.x.hi, .bool a.x.no, .int .i64 a.y.lo, .int .i64 a.y.hi, .bool a.y.no, .int .i64 a.z.lo, .int .i64 a.z.hi, .bool a.z.no]) rfl rfl rfl fun g0 => ?_)
  refine ao 2 rfl rfl (st_new zero57 rfl fun g1 => ?_)
  refine ar_nil ?_
  refine ac_seq ?_
  refine ac_region_lit ?_
  refine ao 3 rfl rfl (st_fa (g := g0) (off := 0) rfl fa57_1 rfl ?_)
  refine ao 4 rfl rfl (st_lda (g := g0) (off := 3) (vs := [.int .i64 a.y.lo, .int .i64 a.y.hi, .bool a.y.no]) agg26 1 rfl rfl rfl rfl rfl rfl ?_)
  refine ao 5 rfl rfl (st_cf (vs := [.agg #[.int .i64 a.y.lo, .int .i64 a.y.hi, .bool a.y.no]]) (r := .agg #[.int .i64 ((ivNeg a.y).lo), .int .i64 ((ivNeg a.y).hi), .bool ((ivNeg a.y).no)]) (c_ivNeg a.y) Try.func39 rfl (by decide) rfl rfl rfl ?_)
  refine ao 6 rfl rfl (st_fa (g := g0) (off := 0) rfl fa57_1 rfl ?_)
  refine ar_op (d := none) rfl rfl (st_sta (g := g0) (off := 3) (us := [.int .i64 ((ivNeg a.y).lo), .int .i64 ((ivNeg a.y).hi), .bool ((ivNeg a.y).no)]) (cs := [.int .i64 a.x.lo, .int .i64 a.x.hi, .bool a.x.no, .int .i64 ((ivNeg a.y).lo), .int .i64 ((ivNeg a.y).hi), .bool ((ivNeg a.y).no), .int .i64 a.z.lo, .int .i64 a.z.hi, .bool a.z.no]) agg26 1 rfl rfl rfl rfl rfl rfl rfl rfl rfl ?_)
  refine ar_nil ?_
  refine ac_seq ?_
  refine ac_region_lit ?_
  refine ao 7 rfl rfl (st_lda (g := g0) (off := 0) (vs := [.int .i64 a.x.lo, .int .i64 a.x.hi, .bool a.x.no, .int .i64 ((ivNeg a.y).lo), .int .i64 ((ivNeg a.y).hi), .bool ((ivNeg a.y).no), .int .i64 a.z.lo, .int .i64 a.z.hi, .bool a.z.no]) agg57 1 rfl rfl rfl rfl rfl rfl ?_)
  refine ar_op (d := none) rfl rfl (st_sta (g := g1) (off := 0) (us := [.int .i64 a.x.lo, .int .i64 a.x.hi, .bool a.x.no, .int .i64 ((ivNeg a.y).lo), .int .i64 ((ivNeg a.y).hi), .bool ((ivNeg a.y).no), .int .i64 a.z.lo, .int .i64 a.z.hi, .bool a.z.no]) (cs := [.int .i64 a.x.lo, .int .i64 a.x.hi, .bool a.x.no, .int .i64 ((ivNeg a.y).lo), .int .i64 ((ivNeg a.y).hi), .bool ((ivNeg a.y).no), .int .i64 a.z.lo, .int .i64 a.z.hi, .bool a.z.no]) agg57 0 rfl rfl rfl rfl rfl rfl rfl rfl rfl ?_)
  refine ar_nil ?_
  refine ac_ret ?_
  exact fin_eq (v := .agg #[.int .i64 a.x.lo, .int .i64 a.x.hi, .bool a.x.no, .int .i64 ((ivNeg a.y).lo), .int .i64 ((ivNeg a.y).hi), .bool ((ivNeg a.y).no), .int .i64 a.z.lo, .int .i64 a.z.hi, .bool a.z.no]) rfl (fin_ret (res_c (vs := [.int .i64 a.x.lo, .int .i64 a.x.hi, .bool a.x.no, .int .i64 ((ivNeg a.y).lo), .int .i64 ((ivNeg a.y).hi), .bool ((ivNeg a.y).no), .int .i64 a.z.lo, .int .i64 a.z.hi, .bool a.z.no]) agg57 0 rfl rfl rfl rfl rfl rfl))
def vecAdd (a : V) (b : V) : V := (vecOf (ivAdd a.x b.x) (ivAdd a.y b.y) (ivAdd a.z b.z))
def vecScale (a : V) (k : Iv) : V := (vecOf (ivMul a.x k) (ivMul a.y k) (ivMul a.z k))
def vecAlong (r : Ray) (t : Iv) : V := (vecAdd r.o (vecScale r.d t))
def vecHull (a : V) (b : V) : V := (vecOf (ivHull a.x b.x) (ivHull a.y b.y) (ivHull a.z b.z))
end Go.Proofs.Ythngkopcadlciaa
