import Derived.Test.YtbaihncnbejjbaaFacts2
import Derived.Test.YtbaihncnbejjbaaREndsD
set_option linter.unusedVariables false
set_option linter.unusedSimpArgs false
namespace Go.Proofs.Ytbaihncnbejjbaa
open Go.RowKit

attribute [local irreducible] AC AR DWalk
def rVecRight (a : V) : Bool := (bif rRight a.x then (bif rRight a.y then rRight a.z else false) else false)
set_option maxRecDepth 100000 in
theorem c_rVecRight (a : V) : Gets Try.prog 122 #[.agg #[.int .i64 a.x.lo, .int .i64 a.x.hi, .bool a.x.no, .int .i64 a.y.lo, .int .i64 a.y.hi, .bool a.y.no, .int .i64 a.z.lo, .int .i64 a.z.hi, .bool a.z.no]] ((fun (r : Bool) => (.bool r : Value)) (rVecRight a)) := by
  refine gets_fin Try.func122 rfl rfl rfl ?_
  refine ac_seq ?_
  refine ac_region_lit ?_
  refine ao 1 rfl rfl (st_box (v := .agg #[.int .i64 a.x.lo, .int .i64 a.x.hi, .bool a.x.no, .int .i64 a.y.lo, .int .i64 a.y.hi, .bool a.y.no, .int .i64 a.z.lo, .int .i64 a.z.hi, .bool a.z.no]) (cs := [.int .i64 a.x.lo, .int .i64 a.x.hi, .bool a.x.no, .int .i64 a.y.lo, .int .i64 a.y.hi, .bool a.y.no, .int .i64 a.z.lo, .int .i64 a.z.hi, .bool a.z.no]) rfl rfl rfl fun g0 => ?_)
  refine ao 2 rfl rfl (st_assign (v := .bool false) rfl rfl ?_)
  refine ar_nil ?_
  refine ac_seq ?_
  refine ac_region_lit ?_
  refine ao 3 rfl rfl (st_fa (g := g0) (off := 0) rfl fa58_0 rfl ?_)
  refine ao 4 rfl rfl (st_lda (g := g0) (off := 0) (vs := [.int .i64 a.x.lo, .int .i64 a.x.hi, .bool a.x.no]) agg35 0 rfl rfl rfl rfl rfl rfl ?_)
  refine ao 5 rfl rfl (st_cf (vs := [.agg #[.int .i64 a.x.lo, .int .i64 a.x.hi, .bool a.x.no]]) (r := .bool (rRight a.x)) (c_rRight a.x) Try.func57 rfl (by decide) rfl rfl rfl ?_)
  refine ao 6 rfl rfl (st_move (v := .bool (rRight a.x)) rfl rfl ?_)
  refine bool_split (rRight a.x) (fun h1 => ?_) (fun h1 => ?_)
  · refine ar_gd (d := (some 7)) (by show ((rRight a.x) == true) = true; rw [h1]; rfl) rfl (st_fa (g := g0) (off := 0) rfl fa58_1 rfl ?_)
    refine ar_gd (d := (some 8)) (by show ((rRight a.x) == true) = true; rw [h1]; rfl) rfl (st_lda (g := g0) (off := 3) (vs := [.int .i64 a.y.lo, .int .i64 a.y.hi, .bool a.y.no]) agg35 0 rfl rfl rfl rfl rfl rfl ?_)
    refine ar_gd (d := (some 9)) (by show ((rRight a.x) == true) = true; rw [h1]; rfl) rfl (st_cf (vs := [.agg #[.int .i64 a.y.lo, .int .i64 a.y.hi, .bool a.y.no]]) (r := .bool (rRight a.y)) (c_rRight a.y) Try.func57 rfl (by decide) rfl rfl rfl ?_)
    refine ao 10 rfl rfl (st_pkt' (b := rRight a.x) (v := .bool (rRight a.y)) h1 rfl rfl rfl ?_)
    refine ao 11 rfl rfl (st_move (v := .bool (rRight a.y)) rfl rfl ?_)
    refine bool_split (rRight a.y) (fun h2 => ?_) (fun h2 => ?_)
    · refine ar_gd (d := (some 12)) (by show ((rRight a.y) == true) = true; rw [h2]; rfl) rfl (st_fa (g := g0) (off := 0) rfl fa58_2 rfl ?_)
      refine ar_gd (d := (some 13)) (by show ((rRight a.y) == true) = true; rw [h2]; rfl) rfl (st_lda (g := g0) (off := 6) (vs := [.int .i64 a.z.lo, .int .i64 a.z.hi, .bool a.z.no]) agg35 0 rfl rfl rfl rfl rfl rfl ?_)
      refine ar_gd (d := (some 14)) (by show ((rRight a.y) == true) = true; rw [h2]; rfl) rfl (st_cf (vs := [.agg #[.int .i64 a.z.lo, .int .i64 a.z.hi, .bool a.z.no]]) (r := .bool (rRight a.z)) (c_rRight a.z) Try.func57 rfl (by decide) rfl rfl rfl ?_)
      refine ao 15 rfl rfl (st_pkt' (b := rRight a.y) (v := .bool (rRight a.z)) h2 rfl rfl rfl ?_)
      refine ao 2 rfl rfl (st_assign (v := .bool (rRight a.z)) rfl rfl ?_)
      refine ar_nil ?_
      refine ac_ret ?_
      exact fin_eq (v := .bool (rRight a.z)) (by show _ = (fun (r : Bool) => (.bool r : Value)) (rVecRight a); rw [rVecRight, h2, h1] <;> rfl) (fin_ret (res_tmp rfl rfl))
    · refine ar_sk (d := (some 12)) (by show ((rRight a.y) == true) = false; rw [h2]; rfl) rfl ?_
      refine ar_sk (d := (some 13)) (by show ((rRight a.y) == true) = false; rw [h2]; rfl) rfl ?_
      refine ar_sk (d := (some 14)) (by show ((rRight a.y) == true) = false; rw [h2]; rfl) rfl ?_
      refine ao 15 rfl rfl (st_pkf' (b := rRight a.y) (v := .bool false) h2 rfl rfl rfl ?_)
      refine ao 2 rfl rfl (st_assign (v := .bool false) rfl rfl ?_)
      refine ar_nil ?_
      refine ac_ret ?_
      exact fin_eq (v := .bool false) (by show _ = (fun (r : Bool) => (.bool r : Value)) (rVecRight a); rw [rVecRight, h2, h1] <;> rfl) (fin_ret (res_tmp rfl rfl))
  · refine ar_sk (d := (some 7)) (by show ((rRight a.x) == true) = false; rw [h1]; rfl) rfl ?_
    refine ar_sk (d := (some 8)) (by show ((rRight a.x) == true) = false; rw [h1]; rfl) rfl ?_
    refine ar_sk (d := (some 9)) (by show ((rRight a.x) == true) = false; rw [h1]; rfl) rfl ?_
    refine ao 10 rfl rfl (st_pkf' (b := rRight a.x) (v := .bool false) h1 rfl rfl rfl ?_)
    refine ao 11 rfl rfl (st_move (v := .bool false) rfl rfl ?_)
    refine ar_sk (d := (some 12)) rfl rfl ?_
    refine ar_sk (d := (some 13)) rfl rfl ?_
    refine ar_sk (d := (some 14)) rfl rfl ?_
    refine ao 15 rfl rfl (st_pkf (v := .bool false) rfl rfl rfl ?_)
    refine ao 2 rfl rfl (st_assign (v := .bool false) rfl rfl ?_)
    refine ar_nil ?_
    refine ac_ret ?_
    exact fin_eq (v := .bool false) (by show _ = (fun (r : Bool) => (.bool r : Value)) (rVecRight a); rw [rVecRight, h1] <;> rfl) (fin_ret (res_tmp rfl rfl))
def rVecAdd (a : V) (b : V) : V := (⟨(rAdd a.x b.x), (rAdd a.y b.y), (rAdd a.z b.z)⟩ : V)
set_option maxRecDepth 100000 in
theorem c_rVecAdd (a : V) (b : V) : Gets Try.prog 123 #[.agg #[.int .i64 a.x.lo, .int .i64 a.x.hi, .bool a.x.no, .int .i64 a.y.lo, .int .i64 a.y.hi, .bool a.y.no, .int .i64 a.z.lo, .int .i64 a.z.hi, .bool a.z.no], .agg #[.int .i64 b.x.lo, .int .i64 b.x.hi, .bool b.x.no, .int .i64 b.y.lo, .int .i64 b.y.hi, .bool b.y.no, .int .i64 b.z.lo, .int .i64 b.z.hi, .bool b.z.no]] (V.v (rVecAdd a b)) := by
  refine gets_fin Try.func123 rfl rfl rfl ?_
  refine ac_seq ?_
  refine ac_region_lit ?_
  refine ao 2 rfl rfl (st_box (v := .agg #[.int .i64 a.x.lo, .int .i64 a.x.hi, .bool a.x.no, .int .i64 a.y.lo, .int .i64 a.y.hi, .bool a.y.no, .int .i64 a.z.lo, .int .i64 a.z.hi, .bool a.z.no]) (cs := [.int .i64 a.x.lo, .int .i64 a.x.hi, .bool a.x.no, .int .i64 a.y.lo, .int .i64 a.y.hi, .bool a.y.no, .int .i64 a.z.lo, .int .i64 a.z.hi, .bool a.z.no]) rfl rfl rfl fun g0 => ?_)
  refine ao 3 rfl rfl (st_box (v := .agg #[.int .i64 b.x.lo, .int .i64 b.x.hi, .bool b.x.no, .int .i64 b.y.lo, .int .i64 b.y.hi, .bool b.y.no, .int .i64 b.z.lo, .int .i64 b.z.hi, .bool b.z.no]) (cs := [.int .i64 b.x.lo, .int .i64 b.x.hi, .bool b.x.no, .int .i64 b.y.lo, .int .i64 b.y.hi, .bool b.y.no, .int .i64 b.z.lo, .int .i64 b.z.hi, .bool b.z.no]) rfl rfl rfl fun g1 => ?_)
  refine ao 4 rfl rfl (st_new zero58 rfl fun g2 => ?_)
  refine ar_nil ?_
  refine ac_seq ?_
  refine ac_draw0 (id := 1) [0, 1, 2, 3, 4, 5, 6, 7, 8, 9, 10, 11, 12, 13, 14, 15] [16] _ (by kernel_rfl) follows rfl  ?_
  refine dw_op (d := (some 5)) (.pointer (some ⟨g0, 0, none⟩)) rfl rfl rfl (st_fa (g := g0) (off := 0) rfl fa58_0 rfl ⟨rfl, rfl⟩) ?_
  refine dw_op (d := (some 6)) (.agg #[.int .i64 a.x.lo, .int .i64 a.x.hi, .bool a.x.no]) rfl rfl rfl (st_lda (g := g0) (off := 0) (vs := [.int .i64 a.x.lo, .int .i64 a.x.hi, .bool a.x.no]) agg35 2 rfl rfl rfl rfl rfl rfl ⟨rfl, rfl⟩) ?_
  refine dw_op (d := (some 7)) (.pointer (some ⟨g1, 0, none⟩)) rfl rfl rfl (st_fa (g := g1) (off := 0) rfl fa58_0 rfl ⟨rfl, rfl⟩) ?_
  refine dw_op (d := (some 8)) (.agg #[.int .i64 b.x.lo, .int .i64 b.x.hi, .bool b.x.no]) rfl rfl rfl (st_lda (g := g1) (off := 0) (vs := [.int .i64 b.x.lo, .int .i64 b.x.hi, .bool b.x.no]) agg35 1 rfl rfl rfl rfl rfl rfl ⟨rfl, rfl⟩) ?_
  refine dw_op (d := (some 9)) (.agg #[.int .i64 ((rAdd a.x b.x).lo), .int .i64 ((rAdd a.x b.x).hi), .bool ((rAdd a.x b.x).no)]) rfl rfl rfl (st_cf (vs := [.agg #[.int .i64 a.x.lo, .int .i64 a.x.hi, .bool a.x.no], .agg #[.int .i64 b.x.lo, .int .i64 b.x.hi, .bool b.x.no]]) (r := .agg #[.int .i64 ((rAdd a.x b.x).lo), .int .i64 ((rAdd a.x b.x).hi), .bool ((rAdd a.x b.x).no)]) (c_rAdd a.x b.x) Try.func106 rfl (by decide) rfl rfl rfl ⟨rfl, rfl⟩) ?_
  refine dw_op (d := (some 10)) (.pointer (some ⟨g0, 3, none⟩)) rfl rfl rfl (st_fa (g := g0) (off := 0) rfl fa58_1 rfl ⟨rfl, rfl⟩) ?_
  refine dw_op (d := (some 11)) (.agg #[.int .i64 a.y.lo, .int .i64 a.y.hi, .bool a.y.no]) rfl rfl rfl (st_lda (g := g0) (off := 3) (vs := [.int .i64 a.y.lo, .int .i64 a.y.hi, .bool a.y.no]) agg35 2 rfl rfl rfl rfl rfl rfl ⟨rfl, rfl⟩) ?_
  refine dw_op (d := (some 12)) (.pointer (some ⟨g1, 3, none⟩)) rfl rfl rfl (st_fa (g := g1) (off := 0) rfl fa58_1 rfl ⟨rfl, rfl⟩) ?_
  refine dw_op (d := (some 13)) (.agg #[.int .i64 b.y.lo, .int .i64 b.y.hi, .bool b.y.no]) rfl rfl rfl (st_lda (g := g1) (off := 3) (vs := [.int .i64 b.y.lo, .int .i64 b.y.hi, .bool b.y.no]) agg35 1 rfl rfl rfl rfl rfl rfl ⟨rfl, rfl⟩) ?_
  refine dw_op (d := (some 14)) (.agg #[.int .i64 ((rAdd a.y b.y).lo), .int .i64 ((rAdd a.y b.y).hi), .bool ((rAdd a.y b.y).no)]) rfl rfl rfl (st_cf (vs := [.agg #[.int .i64 a.y.lo, .int .i64 a.y.hi, .bool a.y.no], .agg #[.int .i64 b.y.lo, .int .i64 b.y.hi, .bool b.y.no]]) (r := .agg #[.int .i64 ((rAdd a.y b.y).lo), .int .i64 ((rAdd a.y b.y).hi), .bool ((rAdd a.y b.y).no)]) (c_rAdd a.y b.y) Try.func106 rfl (by decide) rfl rfl rfl ⟨rfl, rfl⟩) ?_
  refine dw_op (d := (some 15)) (.pointer (some ⟨g0, 6, none⟩)) rfl rfl rfl (st_fa (g := g0) (off := 0) rfl fa58_2 rfl ⟨rfl, rfl⟩) ?_
  refine dw_op (d := (some 16)) (.agg #[.int .i64 a.z.lo, .int .i64 a.z.hi, .bool a.z.no]) rfl rfl rfl (st_lda (g := g0) (off := 6) (vs := [.int .i64 a.z.lo, .int .i64 a.z.hi, .bool a.z.no]) agg35 2 rfl rfl rfl rfl rfl rfl ⟨rfl, rfl⟩) ?_
  refine dw_op (d := (some 17)) (.pointer (some ⟨g1, 6, none⟩)) rfl rfl rfl (st_fa (g := g1) (off := 0) rfl fa58_2 rfl ⟨rfl, rfl⟩) ?_
  refine dw_op (d := (some 18)) (.agg #[.int .i64 b.z.lo, .int .i64 b.z.hi, .bool b.z.no]) rfl rfl rfl (st_lda (g := g1) (off := 6) (vs := [.int .i64 b.z.lo, .int .i64 b.z.hi, .bool b.z.no]) agg35 1 rfl rfl rfl rfl rfl rfl ⟨rfl, rfl⟩) ?_
  refine dw_op (d := (some 19)) (.agg #[.int .i64 ((rAdd a.z b.z).lo), .int .i64 ((rAdd a.z b.z).hi), .bool ((rAdd a.z b.z).no)]) rfl rfl rfl (st_cf (vs := [.agg #[.int .i64 a.z.lo, .int .i64 a.z.hi, .bool a.z.no], .agg #[.int .i64 b.z.lo, .int .i64 b.z.hi, .bool b.z.no]]) (r := .agg #[.int .i64 ((rAdd a.z b.z).lo), .int .i64 ((rAdd a.z b.z).hi), .bool ((rAdd a.z b.z).no)]) (c_rAdd a.z b.z) Try.func106 rfl (by decide) rfl rfl rfl ⟨rfl, rfl⟩) ?_
  refine dw_op (d := (some 20)) (.agg #[.int .i64 ((rAdd a.x b.x).lo), .int .i64 ((rAdd a.x b.x).hi), .bool ((rAdd a.x b.x).no), .int .i64 ((rAdd a.y b.y).lo), .int .i64 ((rAdd a.y b.y).hi), .bool ((rAdd a.y b.y).no), .int .i64 ((rAdd a.z b.z).lo), .int .i64 ((rAdd a.z b.z).hi), .bool ((rAdd a.z b.z).no)]) rfl rfl rfl (st_bd (us := [(0, .agg #[.int .i64 ((rAdd a.x b.x).lo), .int .i64 ((rAdd a.x b.x).hi), .bool ((rAdd a.x b.x).no)]), (1, .agg #[.int .i64 ((rAdd a.y b.y).lo), .int .i64 ((rAdd a.y b.y).hi), .bool ((rAdd a.y b.y).no)]), (2, .agg #[.int .i64 ((rAdd a.z b.z).lo), .int .i64 ((rAdd a.z b.z).hi), .bool ((rAdd a.z b.z).no)])]) (v := .agg #[.int .i64 ((rAdd a.x b.x).lo), .int .i64 ((rAdd a.x b.x).hi), .bool ((rAdd a.x b.x).no), .int .i64 ((rAdd a.y b.y).lo), .int .i64 ((rAdd a.y b.y).hi), .bool ((rAdd a.y b.y).no), .int .i64 ((rAdd a.z b.z).lo), .int .i64 ((rAdd a.z b.z).hi), .bool ((rAdd a.z b.z).no)]) rfl rfl (bd58_0a_1a_2a _ _ _ _ _ _ _ _ _) ⟨rfl, rfl⟩) ?_
  refine dw_nil ?_
  refine ar_op (d := none) rfl rfl (st_sta (g := g2) (off := 0) (us := [.int .i64 ((rAdd a.x b.x).lo), .int .i64 ((rAdd a.x b.x).hi), .bool ((rAdd a.x b.x).no), .int .i64 ((rAdd a.y b.y).lo), .int .i64 ((rAdd a.y b.y).hi), .bool ((rAdd a.y b.y).no), .int .i64 ((rAdd a.z b.z).lo), .int .i64 ((rAdd a.z b.z).hi), .bool ((rAdd a.z b.z).no)]) (cs := [.int .i64 ((rAdd a.x b.x).lo), .int .i64 ((rAdd a.x b.x).hi), .bool ((rAdd a.x b.x).no), .int .i64 ((rAdd a.y b.y).lo), .int .i64 ((rAdd a.y b.y).hi), .bool ((rAdd a.y b.y).no), .int .i64 ((rAdd a.z b.z).lo), .int .i64 ((rAdd a.z b.z).hi), .bool ((rAdd a.z b.z).no)]) agg58 0 rfl rfl rfl rfl rfl rfl rfl rfl rfl ?_)
  refine ar_nil ?_
  refine ac_ret ?_
  exact fin_eq (v := .agg #[.int .i64 ((rAdd a.x b.x).lo), .int .i64 ((rAdd a.x b.x).hi), .bool ((rAdd a.x b.x).no), .int .i64 ((rAdd a.y b.y).lo), .int .i64 ((rAdd a.y b.y).hi), .bool ((rAdd a.y b.y).no), .int .i64 ((rAdd a.z b.z).lo), .int .i64 ((rAdd a.z b.z).hi), .bool ((rAdd a.z b.z).no)]) rfl (fin_ret (res_c (vs := [.int .i64 ((rAdd a.x b.x).lo), .int .i64 ((rAdd a.x b.x).hi), .bool ((rAdd a.x b.x).no), .int .i64 ((rAdd a.y b.y).lo), .int .i64 ((rAdd a.y b.y).hi), .bool ((rAdd a.y b.y).no), .int .i64 ((rAdd a.z b.z).lo), .int .i64 ((rAdd a.z b.z).hi), .bool ((rAdd a.z b.z).no)]) agg58 0 rfl rfl rfl rfl rfl rfl))
def rVecSub (a : V) (b : V) : V := (⟨(rSub a.x b.x), (rSub a.y b.y), (rSub a.z b.z)⟩ : V)
set_option maxRecDepth 100000 in
theorem c_rVecSub (a : V) (b : V) : Gets Try.prog 124 #[.agg #[.int .i64 a.x.lo, .int .i64 a.x.hi, .bool a.x.no, .int .i64 a.y.lo, .int .i64 a.y.hi, .bool a.y.no, .int .i64 a.z.lo, .int .i64 a.z.hi, .bool a.z.no], .agg #[.int .i64 b.x.lo, .int .i64 b.x.hi, .bool b.x.no, .int .i64 b.y.lo, .int .i64 b.y.hi, .bool b.y.no, .int .i64 b.z.lo, .int .i64 b.z.hi, .bool b.z.no]] (V.v (rVecSub a b)) := by
  refine gets_fin Try.func124 rfl rfl rfl ?_
  refine ac_seq ?_
  refine ac_region_lit ?_
  refine ao 2 rfl rfl (st_box (v := .agg #[.int .i64 a.x.lo, .int .i64 a.x.hi, .bool a.x.no, .int .i64 a.y.lo, .int .i64 a.y.hi, .bool a.y.no, .int .i64 a.z.lo, .int .i64 a.z.hi, .bool a.z.no]) (cs := [.int .i64 a.x.lo, .int .i64 a.x.hi, .bool a.x.no, .int .i64 a.y.lo, .int .i64 a.y.hi, .bool a.y.no, .int .i64 a.z.lo, .int .i64 a.z.hi, .bool a.z.no]) rfl rfl rfl fun g0 => ?_)
  refine ao 3 rfl rfl (st_box (v := .agg #[.int .i64 b.x.lo, .int .i64 b.x.hi, .bool b.x.no, .int .i64 b.y.lo, .int .i64 b.y.hi, .bool b.y.no, .int .i64 b.z.lo, .int .i64 b.z.hi, .bool b.z.no]) (cs := [.int .i64 b.x.lo, .int .i64 b.x.hi, .bool b.x.no, .int .i64 b.y.lo, .int .i64 b.y.hi, .bool b.y.no, .int .i64 b.z.lo, .int .i64 b.z.hi, .bool b.z.no]) rfl rfl rfl fun g1 => ?_)
  refine ao 4 rfl rfl (st_new zero58 rfl fun g2 => ?_)
  refine ar_nil ?_
  refine ac_seq ?_
  refine ac_draw0 (id := 1) [0, 1, 2, 3, 4, 5, 6, 7, 8, 9, 10, 11, 12, 13, 14, 15] [16] _ (by kernel_rfl) follows rfl  ?_
  refine dw_op (d := (some 5)) (.pointer (some ⟨g0, 0, none⟩)) rfl rfl rfl (st_fa (g := g0) (off := 0) rfl fa58_0 rfl ⟨rfl, rfl⟩) ?_
  refine dw_op (d := (some 6)) (.agg #[.int .i64 a.x.lo, .int .i64 a.x.hi, .bool a.x.no]) rfl rfl rfl (st_lda (g := g0) (off := 0) (vs := [.int .i64 a.x.lo, .int .i64 a.x.hi, .bool a.x.no]) agg35 2 rfl rfl rfl rfl rfl rfl ⟨rfl, rfl⟩) ?_
  refine dw_op (d := (some 7)) (.pointer (some ⟨g1, 0, none⟩)) rfl rfl rfl (st_fa (g := g1) (off := 0) rfl fa58_0 rfl ⟨rfl, rfl⟩) ?_
  refine dw_op (d := (some 8)) (.agg #[.int .i64 b.x.lo, .int .i64 b.x.hi, .bool b.x.no]) rfl rfl rfl (st_lda (g := g1) (off := 0) (vs := [.int .i64 b.x.lo, .int .i64 b.x.hi, .bool b.x.no]) agg35 1 rfl rfl rfl rfl rfl rfl ⟨rfl, rfl⟩) ?_
  refine dw_op (d := (some 9)) (.agg #[.int .i64 ((rSub a.x b.x).lo), .int .i64 ((rSub a.x b.x).hi), .bool ((rSub a.x b.x).no)]) rfl rfl rfl (st_cf (vs := [.agg #[.int .i64 a.x.lo, .int .i64 a.x.hi, .bool a.x.no], .agg #[.int .i64 b.x.lo, .int .i64 b.x.hi, .bool b.x.no]]) (r := .agg #[.int .i64 ((rSub a.x b.x).lo), .int .i64 ((rSub a.x b.x).hi), .bool ((rSub a.x b.x).no)]) (c_rSub a.x b.x) Try.func107 rfl (by decide) rfl rfl rfl ⟨rfl, rfl⟩) ?_
  refine dw_op (d := (some 10)) (.pointer (some ⟨g0, 3, none⟩)) rfl rfl rfl (st_fa (g := g0) (off := 0) rfl fa58_1 rfl ⟨rfl, rfl⟩) ?_
  refine dw_op (d := (some 11)) (.agg #[.int .i64 a.y.lo, .int .i64 a.y.hi, .bool a.y.no]) rfl rfl rfl (st_lda (g := g0) (off := 3) (vs := [.int .i64 a.y.lo, .int .i64 a.y.hi, .bool a.y.no]) agg35 2 rfl rfl rfl rfl rfl rfl ⟨rfl, rfl⟩) ?_
  refine dw_op (d := (some 12)) (.pointer (some ⟨g1, 3, none⟩)) rfl rfl rfl (st_fa (g := g1) (off := 0) rfl fa58_1 rfl ⟨rfl, rfl⟩) ?_
  refine dw_op (d := (some 13)) (.agg #[.int .i64 b.y.lo, .int .i64 b.y.hi, .bool b.y.no]) rfl rfl rfl (st_lda (g := g1) (off := 3) (vs := [.int .i64 b.y.lo, .int .i64 b.y.hi, .bool b.y.no]) agg35 1 rfl rfl rfl rfl rfl rfl ⟨rfl, rfl⟩) ?_
  refine dw_op (d := (some 14)) (.agg #[.int .i64 ((rSub a.y b.y).lo), .int .i64 ((rSub a.y b.y).hi), .bool ((rSub a.y b.y).no)]) rfl rfl rfl (st_cf (vs := [.agg #[.int .i64 a.y.lo, .int .i64 a.y.hi, .bool a.y.no], .agg #[.int .i64 b.y.lo, .int .i64 b.y.hi, .bool b.y.no]]) (r := .agg #[.int .i64 ((rSub a.y b.y).lo), .int .i64 ((rSub a.y b.y).hi), .bool ((rSub a.y b.y).no)]) (c_rSub a.y b.y) Try.func107 rfl (by decide) rfl rfl rfl ⟨rfl, rfl⟩) ?_
  refine dw_op (d := (some 15)) (.pointer (some ⟨g0, 6, none⟩)) rfl rfl rfl (st_fa (g := g0) (off := 0) rfl fa58_2 rfl ⟨rfl, rfl⟩) ?_
  refine dw_op (d := (some 16)) (.agg #[.int .i64 a.z.lo, .int .i64 a.z.hi, .bool a.z.no]) rfl rfl rfl (st_lda (g := g0) (off := 6) (vs := [.int .i64 a.z.lo, .int .i64 a.z.hi, .bool a.z.no]) agg35 2 rfl rfl rfl rfl rfl rfl ⟨rfl, rfl⟩) ?_
  refine dw_op (d := (some 17)) (.pointer (some ⟨g1, 6, none⟩)) rfl rfl rfl (st_fa (g := g1) (off := 0) rfl fa58_2 rfl ⟨rfl, rfl⟩) ?_
  refine dw_op (d := (some 18)) (.agg #[.int .i64 b.z.lo, .int .i64 b.z.hi, .bool b.z.no]) rfl rfl rfl (st_lda (g := g1) (off := 6) (vs := [.int .i64 b.z.lo, .int .i64 b.z.hi, .bool b.z.no]) agg35 1 rfl rfl rfl rfl rfl rfl ⟨rfl, rfl⟩) ?_
  refine dw_op (d := (some 19)) (.agg #[.int .i64 ((rSub a.z b.z).lo), .int .i64 ((rSub a.z b.z).hi), .bool ((rSub a.z b.z).no)]) rfl rfl rfl (st_cf (vs := [.agg #[.int .i64 a.z.lo, .int .i64 a.z.hi, .bool a.z.no], .agg #[.int .i64 b.z.lo, .int .i64 b.z.hi, .bool b.z.no]]) (r := .agg #[.int .i64 ((rSub a.z b.z).lo), .int .i64 ((rSub a.z b.z).hi), .bool ((rSub a.z b.z).no)]) (c_rSub a.z b.z) Try.func107 rfl (by decide) rfl rfl rfl ⟨rfl, rfl⟩) ?_
  refine dw_op (d := (some 20)) (.agg #[.int .i64 ((rSub a.x b.x).lo), .int .i64 ((rSub a.x b.x).hi), .bool ((rSub a.x b.x).no), .int .i64 ((rSub a.y b.y).lo), .int .i64 ((rSub a.y b.y).hi), .bool ((rSub a.y b.y).no), .int .i64 ((rSub a.z b.z).lo), .int .i64 ((rSub a.z b.z).hi), .bool ((rSub a.z b.z).no)]) rfl rfl rfl (st_bd (us := [(0, .agg #[.int .i64 ((rSub a.x b.x).lo), .int .i64 ((rSub a.x b.x).hi), .bool ((rSub a.x b.x).no)]), (1, .agg #[.int .i64 ((rSub a.y b.y).lo), .int .i64 ((rSub a.y b.y).hi), .bool ((rSub a.y b.y).no)]), (2, .agg #[.int .i64 ((rSub a.z b.z).lo), .int .i64 ((rSub a.z b.z).hi), .bool ((rSub a.z b.z).no)])]) (v := .agg #[.int .i64 ((rSub a.x b.x).lo), .int .i64 ((rSub a.x b.x).hi), .bool ((rSub a.x b.x).no), .int .i64 ((rSub a.y b.y).lo), .int .i64 ((rSub a.y b.y).hi), .bool ((rSub a.y b.y).no), .int .i64 ((rSub a.z b.z).lo), .int .i64 ((rSub a.z b.z).hi), .bool ((rSub a.z b.z).no)]) rfl rfl (bd58_0a_1a_2a _ _ _ _ _ _ _ _ _) ⟨rfl, rfl⟩) ?_
  refine dw_nil ?_
  refine ar_op (d := none) rfl rfl (st_sta (g := g2) (off := 0) (us := [.int .i64 ((rSub a.x b.x).lo), .int .i64 ((rSub a.x b.x).hi), .bool ((rSub a.x b.x).no), .int .i64 ((rSub a.y b.y).lo), .int .i64 ((rSub a.y b.y).hi), .bool ((rSub a.y b.y).no), .int .i64 ((rSub a.z b.z).lo), .int .i64 ((rSub a.z b.z).hi), .bool ((rSub a.z b.z).no)]) (cs := [.int .i64 ((rSub a.x b.x).lo), .int .i64 ((rSub a.x b.x).hi), .bool ((rSub a.x b.x).no), .int .i64 ((rSub a.y b.y).lo), .int .i64 ((rSub a.y b.y).hi), .bool ((rSub a.y b.y).no), .int .i64 ((rSub a.z b.z).lo), .int .i64 ((rSub a.z b.z).hi), .bool ((rSub a.z b.z).no)]) agg58 0 rfl rfl rfl rfl rfl rfl rfl rfl rfl ?_)
  refine ar_nil ?_
  refine ac_ret ?_
  exact fin_eq (v := .agg #[.int .i64 ((rSub a.x b.x).lo), .int .i64 ((rSub a.x b.x).hi), .bool ((rSub a.x b.x).no), .int .i64 ((rSub a.y b.y).lo), .int .i64 ((rSub a.y b.y).hi), .bool ((rSub a.y b.y).no), .int .i64 ((rSub a.z b.z).lo), .int .i64 ((rSub a.z b.z).hi), .bool ((rSub a.z b.z).no)]) rfl (fin_ret (res_c (vs := [.int .i64 ((rSub a.x b.x).lo), .int .i64 ((rSub a.x b.x).hi), .bool ((rSub a.x b.x).no), .int .i64 ((rSub a.y b.y).lo), .int .i64 ((rSub a.y b.y).hi), .bool ((rSub a.y b.y).no), .int .i64 ((rSub a.z b.z).lo), .int .i64 ((rSub a.z b.z).hi), .bool ((rSub a.z b.z).no)]) agg58 0 rfl rfl rfl rfl rfl rfl))
def rVecScale (a : V) (k : Iv) : V := (⟨(rMulIv a.x k), (rMulIv a.y k), (rMulIv a.z k)⟩ : V)
set_option maxRecDepth 100000 in
theorem c_rVecScale (a : V) (k : Iv) : Gets Try.prog 125 #[.agg #[.int .i64 a.x.lo, .int .i64 a.x.hi, .bool a.x.no, .int .i64 a.y.lo, .int .i64 a.y.hi, .bool a.y.no, .int .i64 a.z.lo, .int .i64 a.z.hi, .bool a.z.no], .agg #[.int .i64 k.lo, .int .i64 k.hi, .bool k.no]] (V.v (rVecScale a k)) := by
  refine gets_fin Try.func125 rfl rfl rfl ?_
  refine ac_seq ?_
  refine ac_region_lit ?_
  refine ao 2 rfl rfl (st_box (v := .agg #[.int .i64 a.x.lo, .int .i64 a.x.hi, .bool a.x.no, .int .i64 a.y.lo, .int .i64 a.y.hi, .bool a.y.no, .int .i64 a.z.lo, .int .i64 a.z.hi, .bool a.z.no]) (cs := [.int .i64 a.x.lo, .int .i64 a.x.hi, .bool a.x.no, .int .i64 a.y.lo, .int .i64 a.y.hi, .bool a.y.no, .int .i64 a.z.lo, .int .i64 a.z.hi, .bool a.z.no]) rfl rfl rfl fun g0 => ?_)
  refine ao 3 rfl rfl (st_box (v := .agg #[.int .i64 k.lo, .int .i64 k.hi, .bool k.no]) (cs := [.int .i64 k.lo, .int .i64 k.hi, .bool k.no]) rfl rfl rfl fun g1 => ?_)
  refine ao 4 rfl rfl (st_new zero58 rfl fun g2 => ?_)
  refine ar_nil ?_
  refine ac_seq ?_
  refine ac_draw0 (id := 1) [0, 1, 2, 3, 4, 5, 6, 7, 8, 9, 10, 11, 12] [13] _ (by kernel_rfl) follows rfl  ?_
  refine dw_op (d := (some 5)) (.pointer (some ⟨g0, 0, none⟩)) rfl rfl rfl (st_fa (g := g0) (off := 0) rfl fa58_0 rfl ⟨rfl, rfl⟩) ?_
  refine dw_op (d := (some 6)) (.agg #[.int .i64 a.x.lo, .int .i64 a.x.hi, .bool a.x.no]) rfl rfl rfl (st_lda (g := g0) (off := 0) (vs := [.int .i64 a.x.lo, .int .i64 a.x.hi, .bool a.x.no]) agg35 2 rfl rfl rfl rfl rfl rfl ⟨rfl, rfl⟩) ?_
  refine dw_op (d := (some 7)) (.agg #[.int .i64 k.lo, .int .i64 k.hi, .bool k.no]) rfl rfl rfl (st_lda (g := g1) (off := 0) (vs := [.int .i64 k.lo, .int .i64 k.hi, .bool k.no]) agg35 1 rfl rfl rfl rfl rfl rfl ⟨rfl, rfl⟩) ?_
  refine dw_op (d := (some 8)) (.agg #[.int .i64 ((rMulIv a.x k).lo), .int .i64 ((rMulIv a.x k).hi), .bool ((rMulIv a.x k).no)]) rfl rfl rfl (st_cf (vs := [.agg #[.int .i64 a.x.lo, .int .i64 a.x.hi, .bool a.x.no], .agg #[.int .i64 k.lo, .int .i64 k.hi, .bool k.no]]) (r := .agg #[.int .i64 ((rMulIv a.x k).lo), .int .i64 ((rMulIv a.x k).hi), .bool ((rMulIv a.x k).no)]) (c_rMulIv a.x k) Try.func109 rfl (by decide) rfl rfl rfl ⟨rfl, rfl⟩) ?_
  refine dw_op (d := (some 9)) (.pointer (some ⟨g0, 3, none⟩)) rfl rfl rfl (st_fa (g := g0) (off := 0) rfl fa58_1 rfl ⟨rfl, rfl⟩) ?_
  refine dw_op (d := (some 10)) (.agg #[.int .i64 a.y.lo, .int .i64 a.y.hi, .bool a.y.no]) rfl rfl rfl (st_lda (g := g0) (off := 3) (vs := [.int .i64 a.y.lo, .int .i64 a.y.hi, .bool a.y.no]) agg35 2 rfl rfl rfl rfl rfl rfl ⟨rfl, rfl⟩) ?_
  refine dw_op (d := (some 11)) (.agg #[.int .i64 k.lo, .int .i64 k.hi, .bool k.no]) rfl rfl rfl (st_lda (g := g1) (off := 0) (vs := [.int .i64 k.lo, .int .i64 k.hi, .bool k.no]) agg35 1 rfl rfl rfl rfl rfl rfl ⟨rfl, rfl⟩) ?_
  refine dw_op (d := (some 12)) (.agg #[.int .i64 ((rMulIv a.y k).lo), .int .i64 ((rMulIv a.y k).hi), .bool ((rMulIv a.y k).no)]) rfl rfl rfl (st_cf (vs := [.agg #[.int .i64 a.y.lo, .int .i64 a.y.hi, .bool a.y.no], .agg #[.int .i64 k.lo, .int .i64 k.hi, .bool k.no]]) (r := .agg #[.int .i64 ((rMulIv a.y k).lo), .int .i64 ((rMulIv a.y k).hi), .bool ((rMulIv a.y k).no)]) (c_rMulIv a.y k) Try.func109 rfl (by decide) rfl rfl rfl ⟨rfl, rfl⟩) ?_
  refine dw_op (d := (some 13)) (.pointer (some ⟨g0, 6, none⟩)) rfl rfl rfl (st_fa (g := g0) (off := 0) rfl fa58_2 rfl ⟨rfl, rfl⟩) ?_
  refine dw_op (d := (some 14)) (.agg #[.int .i64 a.z.lo, .int .i64 a.z.hi, .bool a.z.no]) rfl rfl rfl (st_lda (g := g0) (off := 6) (vs := [.int .i64 a.z.lo, .int .i64 a.z.hi, .bool a.z.no]) agg35 2 rfl rfl rfl rfl rfl rfl ⟨rfl, rfl⟩) ?_
  refine dw_op (d := (some 15)) (.agg #[.int .i64 k.lo, .int .i64 k.hi, .bool k.no]) rfl rfl rfl (st_lda (g := g1) (off := 0) (vs := [.int .i64 k.lo, .int .i64 k.hi, .bool k.no]) agg35 1 rfl rfl rfl rfl rfl rfl ⟨rfl, rfl⟩) ?_
  refine dw_op (d := (some 16)) (.agg #[.int .i64 ((rMulIv a.z k).lo), .int .i64 ((rMulIv a.z k).hi), .bool ((rMulIv a.z k).no)]) rfl rfl rfl (st_cf (vs := [.agg #[.int .i64 a.z.lo, .int .i64 a.z.hi, .bool a.z.no], .agg #[.int .i64 k.lo, .int .i64 k.hi, .bool k.no]]) (r := .agg #[.int .i64 ((rMulIv a.z k).lo), .int .i64 ((rMulIv a.z k).hi), .bool ((rMulIv a.z k).no)]) (c_rMulIv a.z k) Try.func109 rfl (by decide) rfl rfl rfl ⟨rfl, rfl⟩) ?_
  refine dw_op (d := (some 17)) (.agg #[.int .i64 ((rMulIv a.x k).lo), .int .i64 ((rMulIv a.x k).hi), .bool ((rMulIv a.x k).no), .int .i64 ((rMulIv a.y k).lo), .int .i64 ((rMulIv a.y k).hi), .bool ((rMulIv a.y k).no), .int .i64 ((rMulIv a.z k).lo), .int .i64 ((rMulIv a.z k).hi), .bool ((rMulIv a.z k).no)]) rfl rfl rfl (st_bd (us := [(0, .agg #[.int .i64 ((rMulIv a.x k).lo), .int .i64 ((rMulIv a.x k).hi), .bool ((rMulIv a.x k).no)]), (1, .agg #[.int .i64 ((rMulIv a.y k).lo), .int .i64 ((rMulIv a.y k).hi), .bool ((rMulIv a.y k).no)]), (2, .agg #[.int .i64 ((rMulIv a.z k).lo), .int .i64 ((rMulIv a.z k).hi), .bool ((rMulIv a.z k).no)])]) (v := .agg #[.int .i64 ((rMulIv a.x k).lo), .int .i64 ((rMulIv a.x k).hi), .bool ((rMulIv a.x k).no), .int .i64 ((rMulIv a.y k).lo), .int .i64 ((rMulIv a.y k).hi), .bool ((rMulIv a.y k).no), .int .i64 ((rMulIv a.z k).lo), .int .i64 ((rMulIv a.z k).hi), .bool ((rMulIv a.z k).no)]) rfl rfl (bd58_0a_1a_2a _ _ _ _ _ _ _ _ _) ⟨rfl, rfl⟩) ?_
  refine dw_nil ?_
  refine ar_op (d := none) rfl rfl (st_sta (g := g2) (off := 0) (us := [.int .i64 ((rMulIv a.x k).lo), .int .i64 ((rMulIv a.x k).hi), .bool ((rMulIv a.x k).no), .int .i64 ((rMulIv a.y k).lo), .int .i64 ((rMulIv a.y k).hi), .bool ((rMulIv a.y k).no), .int .i64 ((rMulIv a.z k).lo), .int .i64 ((rMulIv a.z k).hi), .bool ((rMulIv a.z k).no)]) (cs := [.int .i64 ((rMulIv a.x k).lo), .int .i64 ((rMulIv a.x k).hi), .bool ((rMulIv a.x k).no), .int .i64 ((rMulIv a.y k).lo), .int .i64 ((rMulIv a.y k).hi), .bool ((rMulIv a.y k).no), .int .i64 ((rMulIv a.z k).lo), .int .i64 ((rMulIv a.z k).hi), .bool ((rMulIv a.z k).no)]) agg58 0 rfl rfl rfl rfl rfl rfl rfl rfl rfl ?_)
  refine ar_nil ?_
  refine ac_ret ?_
  exact fin_eq (v := .agg #[.int .i64 ((rMulIv a.x k).lo), .int .i64 ((rMulIv a.x k).hi), .bool ((rMulIv a.x k).no), .int .i64 ((rMulIv a.y k).lo), .int .i64 ((rMulIv a.y k).hi), .bool ((rMulIv a.y k).no), .int .i64 ((rMulIv a.z k).lo), .int .i64 ((rMulIv a.z k).hi), .bool ((rMulIv a.z k).no)]) rfl (fin_ret (res_c (vs := [.int .i64 ((rMulIv a.x k).lo), .int .i64 ((rMulIv a.x k).hi), .bool ((rMulIv a.x k).no), .int .i64 ((rMulIv a.y k).lo), .int .i64 ((rMulIv a.y k).hi), .bool ((rMulIv a.y k).no), .int .i64 ((rMulIv a.z k).lo), .int .i64 ((rMulIv a.z k).hi), .bool ((rMulIv a.z k).no)]) agg58 0 rfl rfl rfl rfl rfl rfl))
def rVecDot_e0 (a : V) (b : V) : Iv := (rAdd (rAdd (rMulIv a.x b.x) (rMulIv a.y b.y)) (rMulIv a.z b.z))
def rVecDot (a : V) (b : V) : Iv := (rVecDot_e0 a b)
set_option maxRecDepth 100000 in
theorem c_rVecDot (a : V) (b : V) : Gets Try.prog 126 #[.agg #[.int .i64 a.x.lo, .int .i64 a.x.hi, .bool a.x.no, .int .i64 a.y.lo, .int .i64 a.y.hi, .bool a.y.no, .int .i64 a.z.lo, .int .i64 a.z.hi, .bool a.z.no], .agg #[.int .i64 b.x.lo, .int .i64 b.x.hi, .bool b.x.no, .int .i64 b.y.lo, .int .i64 b.y.hi, .bool b.y.no, .int .i64 b.z.lo, .int .i64 b.z.hi, .bool b.z.no]] (Iv.v (rVecDot a b)) := by
  refine gets_fin Try.func126 rfl rfl rfl ?_
  refine ac_seq ?_
  refine ac_region_lit ?_
  refine ao 2 rfl rfl (st_box (v := .agg #[.int .i64 a.x.lo, .int .i64 a.x.hi, .bool a.x.no, .int .i64 a.y.lo, .int .i64 a.y.hi, .bool a.y.no, .int .i64 a.z.lo, .int .i64 a.z.hi, .bool a.z.no]) (cs := [.int .i64 a.x.lo, .int .i64 a.x.hi, .bool a.x.no, .int .i64 a.y.lo, .int .i64 a.y.hi, .bool a.y.no, .int .i64 a.z.lo, .int .i64 a.z.hi, .bool a.z.no]) rfl rfl rfl fun g0 => ?_)
  refine ao 3 rfl rfl (st_box (v := .agg #[.int .i64 b.x.lo, .int .i64 b.x.hi, .bool b.x.no, .int .i64 b.y.lo, .int .i64 b.y.hi, .bool b.y.no, .int .i64 b.z.lo, .int .i64 b.z.hi, .bool b.z.no]) (cs := [.int .i64 b.x.lo, .int .i64 b.x.hi, .bool b.x.no, .int .i64 b.y.lo, .int .i64 b.y.hi, .bool b.y.no, .int .i64 b.z.lo, .int .i64 b.z.hi, .bool b.z.no]) rfl rfl rfl fun g1 => ?_)
  refine ao 4 rfl rfl (st_new zero35 rfl fun g2 => ?_)
  refine ar_nil ?_
  refine ac_seq ?_
  refine ac_draw0 (id := 1) [0, 1, 2, 3, 4, 5, 6, 7, 8, 9, 10, 11, 12, 13, 14, 15, 16] [17] _ (by kernel_rfl) follows rfl  ?_
  refine dw_op (d := (some 5)) (.pointer (some ⟨g0, 0, none⟩)) rfl rfl rfl (st_fa (g := g0) (off := 0) rfl fa58_0 rfl ⟨rfl, rfl⟩) ?_
  refine dw_op (d := (some 6)) (.agg #[.int .i64 a.x.lo, .int .i64 a.x.hi, .bool a.x.no]) rfl rfl rfl (st_lda (g := g0) (off := 0) (vs := [.int .i64 a.x.lo, .int .i64 a.x.hi, .bool a.x.no]) agg35 2 rfl rfl rfl rfl rfl rfl ⟨rfl, rfl⟩) ?_
  refine dw_op (d := (some 7)) (.pointer (some ⟨g1, 0, none⟩)) rfl rfl rfl (st_fa (g := g1) (off := 0) rfl fa58_0 rfl ⟨rfl, rfl⟩) ?_
  refine dw_op (d := (some 8)) (.agg #[.int .i64 b.x.lo, .int .i64 b.x.hi, .bool b.x.no]) rfl rfl rfl (st_lda (g := g1) (off := 0) (vs := [.int .i64 b.x.lo, .int .i64 b.x.hi, .bool b.x.no]) agg35 1 rfl rfl rfl rfl rfl rfl ⟨rfl, rfl⟩) ?_
  refine dw_op (d := (some 9)) (.agg #[.int .i64 ((rMulIv a.x b.x).lo), .int .i64 ((rMulIv a.x b.x).hi), .bool ((rMulIv a.x b.x).no)]) rfl rfl rfl (st_cf (vs := [.agg #[.int .i64 a.x.lo, .int .i64 a.x.hi, .bool a.x.no], .agg #[.int .i64 b.x.lo, .int .i64 b.x.hi, .bool b.x.no]]) (r := .agg #[.int .i64 ((rMulIv a.x b.x).lo), .int .i64 ((rMulIv a.x b.x).hi), .bool ((rMulIv a.x b.x).no)]) (c_rMulIv a.x b.x) Try.func109 rfl (by decide) rfl rfl rfl ⟨rfl, rfl⟩) ?_
  refine dw_op (d := (some 10)) (.pointer (some ⟨g0, 3, none⟩)) rfl rfl rfl (st_fa (g := g0) (off := 0) rfl fa58_1 rfl ⟨rfl, rfl⟩) ?_
  refine dw_op (d := (some 11)) (.agg #[.int .i64 a.y.lo, .int .i64 a.y.hi, .bool a.y.no]) rfl rfl rfl (st_lda (g := g0) (off := 3) (vs := [.int .i64 a.y.lo, .int .i64 a.y.hi, .bool a.y.no]) agg35 2 rfl rfl rfl rfl rfl rfl ⟨rfl, rfl⟩) ?_
  refine dw_op (d := (some 12)) (.pointer (some ⟨g1, 3, none⟩)) rfl rfl rfl (st_fa (g := g1) (off := 0) rfl fa58_1 rfl ⟨rfl, rfl⟩) ?_
  refine dw_op (d := (some 13)) (.agg #[.int .i64 b.y.lo, .int .i64 b.y.hi, .bool b.y.no]) rfl rfl rfl (st_lda (g := g1) (off := 3) (vs := [.int .i64 b.y.lo, .int .i64 b.y.hi, .bool b.y.no]) agg35 1 rfl rfl rfl rfl rfl rfl ⟨rfl, rfl⟩) ?_
  refine dw_op (d := (some 14)) (.agg #[.int .i64 ((rMulIv a.y b.y).lo), .int .i64 ((rMulIv a.y b.y).hi), .bool ((rMulIv a.y b.y).no)]) rfl rfl rfl (st_cf (vs := [.agg #[.int .i64 a.y.lo, .int .i64 a.y.hi, .bool a.y.no], .agg #[.int .i64 b.y.lo, .int .i64 b.y.hi, .bool b.y.no]]) (r := .agg #[.int .i64 ((rMulIv a.y b.y).lo), .int .i64 ((rMulIv a.y b.y).hi), .bool ((rMulIv a.y b.y).no)]) (c_rMulIv a.y b.y) Try.func109 rfl (by decide) rfl rfl rfl ⟨rfl, rfl⟩) ?_
  refine dw_op (d := (some 15)) (.agg #[.int .i64 ((rAdd (rMulIv a.x b.x) (rMulIv a.y b.y)).lo), .int .i64 ((rAdd (rMulIv a.x b.x) (rMulIv a.y b.y)).hi), .bool ((rAdd (rMulIv a.x b.x) (rMulIv a.y b.y)).no)]) rfl rfl rfl (st_cf (vs := [.agg #[.int .i64 ((rMulIv a.x b.x).lo), .int .i64 ((rMulIv a.x b.x).hi), .bool ((rMulIv a.x b.x).no)], .agg #[.int .i64 ((rMulIv a.y b.y).lo), .int .i64 ((rMulIv a.y b.y).hi), .bool ((rMulIv a.y b.y).no)]]) (r := .agg #[.int .i64 ((rAdd (rMulIv a.x b.x) (rMulIv a.y b.y)).lo), .int .i64 ((rAdd (rMulIv a.x b.x) (rMulIv a.y b.y)).hi), .bool ((rAdd (rMulIv a.x b.x) (rMulIv a.y b.y)).no)]) (c_rAdd (rMulIv a.x b.x) (rMulIv a.y b.y)) Try.func106 rfl (by decide) rfl rfl rfl ⟨rfl, rfl⟩) ?_
  refine dw_op (d := (some 16)) (.pointer (some ⟨g0, 6, none⟩)) rfl rfl rfl (st_fa (g := g0) (off := 0) rfl fa58_2 rfl ⟨rfl, rfl⟩) ?_
  refine dw_op (d := (some 17)) (.agg #[.int .i64 a.z.lo, .int .i64 a.z.hi, .bool a.z.no]) rfl rfl rfl (st_lda (g := g0) (off := 6) (vs := [.int .i64 a.z.lo, .int .i64 a.z.hi, .bool a.z.no]) agg35 2 rfl rfl rfl rfl rfl rfl ⟨rfl, rfl⟩) ?_
  refine dw_op (d := (some 18)) (.pointer (some ⟨g1, 6, none⟩)) rfl rfl rfl (st_fa (g := g1) (off := 0) rfl fa58_2 rfl ⟨rfl, rfl⟩) ?_
  refine dw_op (d := (some 19)) (.agg #[.int .i64 b.z.lo, .int .i64 b.z.hi, .bool b.z.no]) rfl rfl rfl (st_lda (g := g1) (off := 6) (vs := [.int .i64 b.z.lo, .int .i64 b.z.hi, .bool b.z.no]) agg35 1 rfl rfl rfl rfl rfl rfl ⟨rfl, rfl⟩) ?_
  refine dw_op (d := (some 20)) (.agg #[.int .i64 ((rMulIv a.z b.z).lo), .int .i64 ((rMulIv a.z b.z).hi), .bool ((rMulIv a.z b.z).no)]) rfl rfl rfl (st_cf (vs := [.agg #[.int .i64 a.z.lo, .int .i64 a.z.hi, .bool a.z.no], .agg #[.int .i64 b.z.lo, .int .i64 b.z.hi, .bool b.z.no]]) (r := .agg #[.int .i64 ((rMulIv a.z b.z).lo), .int .i64 ((rMulIv a.z b.z).hi), .bool ((rMulIv a.z b.z).no)]) (c_rMulIv a.z b.z) Try.func109 rfl (by decide) rfl rfl rfl ⟨rfl, rfl⟩) ?_
  refine dw_op (d := (some 21)) (.agg #[.int .i64 ((rVecDot_e0 a b).lo), .int .i64 ((rVecDot_e0 a b).hi), .bool ((rVecDot_e0 a b).no)]) rfl rfl rfl (st_cf (vs := [.agg #[.int .i64 ((rAdd (rMulIv a.x b.x) (rMulIv a.y b.y)).lo), .int .i64 ((rAdd (rMulIv a.x b.x) (rMulIv a.y b.y)).hi), .bool ((rAdd (rMulIv a.x b.x) (rMulIv a.y b.y)).no)], .agg #[.int .i64 ((rMulIv a.z b.z).lo), .int .i64 ((rMulIv a.z b.z).hi), .bool ((rMulIv a.z b.z).no)]]) (r := .agg #[.int .i64 ((rVecDot_e0 a b).lo), .int .i64 ((rVecDot_e0 a b).hi), .bool ((rVecDot_e0 a b).no)]) (c_rAdd (rAdd (rMulIv a.x b.x) (rMulIv a.y b.y)) (rMulIv a.z b.z)) Try.func106 rfl (by decide) rfl rfl rfl ⟨rfl, rfl⟩) ?_
  refine dw_nil ?_
  refine ar_op (d := none) rfl rfl (st_sta (g := g2) (off := 0) (us := [.int .i64 ((rVecDot_e0 a b).lo), .int .i64 ((rVecDot_e0 a b).hi), .bool ((rVecDot_e0 a b).no)]) (cs := [.int .i64 ((rVecDot_e0 a b).lo), .int .i64 ((rVecDot_e0 a b).hi), .bool ((rVecDot_e0 a b).no)]) agg35 0 rfl rfl rfl rfl rfl rfl rfl rfl rfl ?_)
  refine ar_nil ?_
  refine ac_ret ?_
  exact fin_eq (v := .agg #[.int .i64 ((rVecDot_e0 a b).lo), .int .i64 ((rVecDot_e0 a b).hi), .bool ((rVecDot_e0 a b).no)]) rfl (fin_ret (res_c (vs := [.int .i64 ((rVecDot_e0 a b).lo), .int .i64 ((rVecDot_e0 a b).hi), .bool ((rVecDot_e0 a b).no)]) agg35 0 rfl rfl rfl rfl rfl rfl))
def rVecLen2 (a : V) : Iv := (rAdd (rAdd (rSqr a.x) (rSqr a.y)) (rSqr a.z))
set_option maxRecDepth 100000 in
theorem c_rVecLen2 (a : V) : Gets Try.prog 127 #[.agg #[.int .i64 a.x.lo, .int .i64 a.x.hi, .bool a.x.no, .int .i64 a.y.lo, .int .i64 a.y.hi, .bool a.y.no, .int .i64 a.z.lo, .int .i64 a.z.hi, .bool a.z.no]] (Iv.v (rVecLen2 a)) := by
  refine gets_fin Try.func127 rfl rfl rfl ?_
  refine ac_seq ?_
  refine ac_region_lit ?_
  refine ao 1 rfl rfl (st_box (v := .agg #[.int .i64 a.x.lo, .int .i64 a.x.hi, .bool a.x.no, .int .i64 a.y.lo, .int .i64 a.y.hi, .bool a.y.no, .int .i64 a.z.lo, .int .i64 a.z.hi, .bool a.z.no]) (cs := [.int .i64 a.x.lo, .int .i64 a.x.hi, .bool a.x.no, .int .i64 a.y.lo, .int .i64 a.y.hi, .bool a.y.no, .int .i64 a.z.lo, .int .i64 a.z.hi, .bool a.z.no]) rfl rfl rfl fun g0 => ?_)
  refine ao 2 rfl rfl (st_new zero35 rfl fun g1 => ?_)
  refine ar_nil ?_
  refine ac_seq ?_
  refine ac_draw0 (id := 1) [0, 1, 2, 3, 4, 5, 6, 7, 8, 9, 10] [11] _ (by kernel_rfl) follows rfl  ?_
  refine dw_op (d := (some 3)) (.pointer (some ⟨g0, 0, none⟩)) rfl rfl rfl (st_fa (g := g0) (off := 0) rfl fa58_0 rfl ⟨rfl, rfl⟩) ?_
  refine dw_op (d := (some 4)) (.agg #[.int .i64 a.x.lo, .int .i64 a.x.hi, .bool a.x.no]) rfl rfl rfl (st_lda (g := g0) (off := 0) (vs := [.int .i64 a.x.lo, .int .i64 a.x.hi, .bool a.x.no]) agg35 1 rfl rfl rfl rfl rfl rfl ⟨rfl, rfl⟩) ?_
  refine dw_op (d := (some 5)) (.agg #[.int .i64 ((rSqr a.x).lo), .int .i64 ((rSqr a.x).hi), .bool ((rSqr a.x).no)]) rfl rfl rfl (st_cf (vs := [.agg #[.int .i64 a.x.lo, .int .i64 a.x.hi, .bool a.x.no]]) (r := .agg #[.int .i64 ((rSqr a.x).lo), .int .i64 ((rSqr a.x).hi), .bool ((rSqr a.x).no)]) (c_rSqr a.x) Try.func111 rfl (by decide) rfl rfl rfl ⟨rfl, rfl⟩) ?_
  refine dw_op (d := (some 6)) (.pointer (some ⟨g0, 3, none⟩)) rfl rfl rfl (st_fa (g := g0) (off := 0) rfl fa58_1 rfl ⟨rfl, rfl⟩) ?_
  refine dw_op (d := (some 7)) (.agg #[.int .i64 a.y.lo, .int .i64 a.y.hi, .bool a.y.no]) rfl rfl rfl (st_lda (g := g0) (off := 3) (vs := [.int .i64 a.y.lo, .int .i64 a.y.hi, .bool a.y.no]) agg35 1 rfl rfl rfl rfl rfl rfl ⟨rfl, rfl⟩) ?_
  refine dw_op (d := (some 8)) (.agg #[.int .i64 ((rSqr a.y).lo), .int .i64 ((rSqr a.y).hi), .bool ((rSqr a.y).no)]) rfl rfl rfl (st_cf (vs := [.agg #[.int .i64 a.y.lo, .int .i64 a.y.hi, .bool a.y.no]]) (r := .agg #[.int .i64 ((rSqr a.y).lo), .int .i64 ((rSqr a.y).hi), .bool ((rSqr a.y).no)]) (c_rSqr a.y) Try.func111 rfl (by decide) rfl rfl rfl ⟨rfl, rfl⟩) ?_
  refine dw_op (d := (some 9)) (.agg #[.int .i64 ((rAdd (rSqr a.x) (rSqr a.y)).lo), .int .i64 ((rAdd (rSqr a.x) (rSqr a.y)).hi), .bool ((rAdd (rSqr a.x) (rSqr a.y)).no)]) rfl rfl rfl (st_cf (vs := [.agg #[.int .i64 ((rSqr a.x).lo), .int .i64 ((rSqr a.x).hi), .bool ((rSqr a.x).no)], .agg #[.int .i64 ((rSqr a.y).lo), .int .i64 ((rSqr a.y).hi), .bool ((rSqr a.y).no)]]) (r := .agg #[.int .i64 ((rAdd (rSqr a.x) (rSqr a.y)).lo), .int .i64 ((rAdd (rSqr a.x) (rSqr a.y)).hi), .bool ((rAdd (rSqr a.x) (rSqr a.y)).no)]) (c_rAdd (rSqr a.x) (rSqr a.y)) Try.func106 rfl (by decide) rfl rfl rfl ⟨rfl, rfl⟩) ?_
  refine dw_op (d := (some 10)) (.pointer (some ⟨g0, 6, none⟩)) rfl rfl rfl (st_fa (g := g0) (off := 0) rfl fa58_2 rfl ⟨rfl, rfl⟩) ?_
  refine dw_op (d := (some 11)) (.agg #[.int .i64 a.z.lo, .int .i64 a.z.hi, .bool a.z.no]) rfl rfl rfl (st_lda (g := g0) (off := 6) (vs := [.int .i64 a.z.lo, .int .i64 a.z.hi, .bool a.z.no]) agg35 1 rfl rfl rfl rfl rfl rfl ⟨rfl, rfl⟩) ?_
  refine dw_op (d := (some 12)) (.agg #[.int .i64 ((rSqr a.z).lo), .int .i64 ((rSqr a.z).hi), .bool ((rSqr a.z).no)]) rfl rfl rfl (st_cf (vs := [.agg #[.int .i64 a.z.lo, .int .i64 a.z.hi, .bool a.z.no]]) (r := .agg #[.int .i64 ((rSqr a.z).lo), .int .i64 ((rSqr a.z).hi), .bool ((rSqr a.z).no)]) (c_rSqr a.z) Try.func111 rfl (by decide) rfl rfl rfl ⟨rfl, rfl⟩) ?_
  refine dw_op (d := (some 13)) (.agg #[.int .i64 ((rAdd (rAdd (rSqr a.x) (rSqr a.y)) (rSqr a.z)).lo), .int .i64 ((rAdd (rAdd (rSqr a.x) (rSqr a.y)) (rSqr a.z)).hi), .bool ((rAdd (rAdd (rSqr a.x) (rSqr a.y)) (rSqr a.z)).no)]) rfl rfl rfl (st_cf (vs := [.agg #[.int .i64 ((rAdd (rSqr a.x) (rSqr a.y)).lo), .int .i64 ((rAdd (rSqr a.x) (rSqr a.y)).hi), .bool ((rAdd (rSqr a.x) (rSqr a.y)).no)], .agg #[.int .i64 ((rSqr a.z).lo), .int .i64 ((rSqr a.z).hi), .bool ((rSqr a.z).no)]]) (r := .agg #[.int .i64 ((rAdd (rAdd (rSqr a.x) (rSqr a.y)) (rSqr a.z)).lo), .int .i64 ((rAdd (rAdd (rSqr a.x) (rSqr a.y)) (rSqr a.z)).hi), .bool ((rAdd (rAdd (rSqr a.x) (rSqr a.y)) (rSqr a.z)).no)]) (c_rAdd (rAdd (rSqr a.x) (rSqr a.y)) (rSqr a.z)) Try.func106 rfl (by decide) rfl rfl rfl ⟨rfl, rfl⟩) ?_
  refine dw_nil ?_
  refine ar_op (d := none) rfl rfl (st_sta (g := g1) (off := 0) (us := [.int .i64 ((rAdd (rAdd (rSqr a.x) (rSqr a.y)) (rSqr a.z)).lo), .int .i64 ((rAdd (rAdd (rSqr a.x) (rSqr a.y)) (rSqr a.z)).hi), .bool ((rAdd (rAdd (rSqr a.x) (rSqr a.y)) (rSqr a.z)).no)]) (cs := [.int .i64 ((rAdd (rAdd (rSqr a.x) (rSqr a.y)) (rSqr a.z)).lo), .int .i64 ((rAdd (rAdd (rSqr a.x) (rSqr a.y)) (rSqr a.z)).hi), .bool ((rAdd (rAdd (rSqr a.x) (rSqr a.y)) (rSqr a.z)).no)]) agg35 0 rfl rfl rfl rfl rfl rfl rfl rfl rfl ?_)
  refine ar_nil ?_
  refine ac_ret ?_
  exact fin_eq (v := .agg #[.int .i64 ((rAdd (rAdd (rSqr a.x) (rSqr a.y)) (rSqr a.z)).lo), .int .i64 ((rAdd (rAdd (rSqr a.x) (rSqr a.y)) (rSqr a.z)).hi), .bool ((rAdd (rAdd (rSqr a.x) (rSqr a.y)) (rSqr a.z)).no)]) rfl (fin_ret (res_c (vs := [.int .i64 ((rAdd (rAdd (rSqr a.x) (rSqr a.y)) (rSqr a.z)).lo), .int .i64 ((rAdd (rAdd (rSqr a.x) (rSqr a.y)) (rSqr a.z)).hi), .bool ((rAdd (rAdd (rSqr a.x) (rSqr a.y)) (rSqr a.z)).no)]) agg35 0 rfl rfl rfl rfl rfl rfl))
def rVecUnit (a : V) : V := (⟨(rDivIv a.x (rRootIv (rVecLen2 a))), (rDivIv a.y (rRootIv (rVecLen2 a))), (rDivIv a.z (rRootIv (rVecLen2 a)))⟩ : V)
set_option maxRecDepth 100000 in
theorem c_rVecUnit (a : V) : Gets Try.prog 128 #[.agg #[.int .i64 a.x.lo, .int .i64 a.x.hi, .bool a.x.no, .int .i64 a.y.lo, .int .i64 a.y.hi, .bool a.y.no, .int .i64 a.z.lo, .int .i64 a.z.hi, .bool a.z.no]] (V.v (rVecUnit a)) := by
  refine gets_fin Try.func128 rfl rfl rfl ?_
  refine ac_seq ?_
  refine ac_region_lit ?_
  refine ao 1 rfl rfl (st_box (v := .agg #[.int .i64 a.x.lo, .int .i64 a.x.hi, .bool a.x.no, .int .i64 a.y.lo, .int .i64 a.y.hi, .bool a.y.no, .int .i64 a.z.lo, .int .i64 a.z.hi, .bool a.z.no]) (cs := [.int .i64 a.x.lo, .int .i64 a.x.hi, .bool a.x.no, .int .i64 a.y.lo, .int .i64 a.y.hi, .bool a.y.no, .int .i64 a.z.lo, .int .i64 a.z.hi, .bool a.z.no]) rfl rfl rfl fun g0 => ?_)
  refine ao 2 rfl rfl (st_new zero58 rfl fun g1 => ?_)
  refine ar_nil ?_
  refine ac_seq ?_
  refine ac_region_lit ?_
  refine ao 4 rfl rfl (st_lda (g := g0) (off := 0) (vs := [.int .i64 a.x.lo, .int .i64 a.x.hi, .bool a.x.no, .int .i64 a.y.lo, .int .i64 a.y.hi, .bool a.y.no, .int .i64 a.z.lo, .int .i64 a.z.hi, .bool a.z.no]) agg58 1 rfl rfl rfl rfl rfl rfl ?_)
  refine ao 5 rfl rfl (st_cf (vs := [.agg #[.int .i64 a.x.lo, .int .i64 a.x.hi, .bool a.x.no, .int .i64 a.y.lo, .int .i64 a.y.hi, .bool a.y.no, .int .i64 a.z.lo, .int .i64 a.z.hi, .bool a.z.no]]) (r := .agg #[.int .i64 ((rVecLen2 a).lo), .int .i64 ((rVecLen2 a).hi), .bool ((rVecLen2 a).no)]) (c_rVecLen2 a) Try.func127 rfl (by decide) rfl rfl rfl ?_)
  refine ao 6 rfl rfl (st_cf (vs := [.agg #[.int .i64 ((rVecLen2 a).lo), .int .i64 ((rVecLen2 a).hi), .bool ((rVecLen2 a).no)]]) (r := .agg #[.int .i64 ((rRootIv (rVecLen2 a)).lo), .int .i64 ((rRootIv (rVecLen2 a)).hi), .bool ((rRootIv (rVecLen2 a)).no)]) (c_rRootIv (rVecLen2 a)) Try.func113 rfl (by decide) rfl rfl rfl ?_)
  refine ao 3 rfl rfl (st_new zero35 rfl fun g2 => ?_)
  refine ar_op (d := none) rfl rfl (st_sta (g := g2) (off := 0) (us := [.int .i64 ((rRootIv (rVecLen2 a)).lo), .int .i64 ((rRootIv (rVecLen2 a)).hi), .bool ((rRootIv (rVecLen2 a)).no)]) (cs := [.int .i64 ((rRootIv (rVecLen2 a)).lo), .int .i64 ((rRootIv (rVecLen2 a)).hi), .bool ((rRootIv (rVecLen2 a)).no)]) agg35 0 rfl rfl rfl rfl rfl rfl rfl rfl rfl ?_)
  refine ar_nil ?_
  refine ac_seq ?_
  refine ac_draw0 (id := 2) [0, 1, 2, 3, 4, 5, 6, 7, 8, 9, 10, 11, 12] [13] _ (by kernel_rfl) follows rfl  ?_
  refine dw_op (d := (some 7)) (.pointer (some ⟨g0, 0, none⟩)) rfl rfl rfl (st_fa (g := g0) (off := 0) rfl fa58_0 rfl ⟨rfl, rfl⟩) ?_
  refine dw_op (d := (some 8)) (.agg #[.int .i64 a.x.lo, .int .i64 a.x.hi, .bool a.x.no]) rfl rfl rfl (st_lda (g := g0) (off := 0) (vs := [.int .i64 a.x.lo, .int .i64 a.x.hi, .bool a.x.no]) agg35 2 rfl rfl rfl rfl rfl rfl ⟨rfl, rfl⟩) ?_
  refine dw_op (d := (some 9)) (.agg #[.int .i64 ((rRootIv (rVecLen2 a)).lo), .int .i64 ((rRootIv (rVecLen2 a)).hi), .bool ((rRootIv (rVecLen2 a)).no)]) rfl rfl rfl (st_lda (g := g2) (off := 0) (vs := [.int .i64 ((rRootIv (rVecLen2 a)).lo), .int .i64 ((rRootIv (rVecLen2 a)).hi), .bool ((rRootIv (rVecLen2 a)).no)]) agg35 0 rfl rfl rfl rfl rfl rfl ⟨rfl, rfl⟩) ?_
  refine dw_op (d := (some 10)) (.agg #[.int .i64 ((rDivIv a.x (rRootIv (rVecLen2 a))).lo), .int .i64 ((rDivIv a.x (rRootIv (rVecLen2 a))).hi), .bool ((rDivIv a.x (rRootIv (rVecLen2 a))).no)]) rfl rfl rfl (st_cf (vs := [.agg #[.int .i64 a.x.lo, .int .i64 a.x.hi, .bool a.x.no], .agg #[.int .i64 ((rRootIv (rVecLen2 a)).lo), .int .i64 ((rRootIv (rVecLen2 a)).hi), .bool ((rRootIv (rVecLen2 a)).no)]]) (r := .agg #[.int .i64 ((rDivIv a.x (rRootIv (rVecLen2 a))).lo), .int .i64 ((rDivIv a.x (rRootIv (rVecLen2 a))).hi), .bool ((rDivIv a.x (rRootIv (rVecLen2 a))).no)]) (c_rDivIv a.x (rRootIv (rVecLen2 a))) Try.func112 rfl (by decide) rfl rfl rfl ⟨rfl, rfl⟩) ?_
  refine dw_op (d := (some 11)) (.pointer (some ⟨g0, 3, none⟩)) rfl rfl rfl (st_fa (g := g0) (off := 0) rfl fa58_1 rfl ⟨rfl, rfl⟩) ?_
  refine dw_op (d := (some 12)) (.agg #[.int .i64 a.y.lo, .int .i64 a.y.hi, .bool a.y.no]) rfl rfl rfl (st_lda (g := g0) (off := 3) (vs := [.int .i64 a.y.lo, .int .i64 a.y.hi, .bool a.y.no]) agg35 2 rfl rfl rfl rfl rfl rfl ⟨rfl, rfl⟩) ?_
  refine dw_op (d := (some 13)) (.agg #[.int .i64 ((rRootIv (rVecLen2 a)).lo), .int .i64 ((rRootIv (rVecLen2 a)).hi), .bool ((rRootIv (rVecLen2 a)).no)]) rfl rfl rfl (st_lda (g := g2) (off := 0) (vs := [.int .i64 ((rRootIv (rVecLen2 a)).lo), .int .i64 ((rRootIv (rVecLen2 a)).hi), .bool ((rRootIv (rVecLen2 a)).no)]) agg35 0 rfl rfl rfl rfl rfl rfl ⟨rfl, rfl⟩) ?_
  refine dw_op (d := (some 14)) (.agg #[.int .i64 ((rDivIv a.y (rRootIv (rVecLen2 a))).lo), .int .i64 ((rDivIv a.y (rRootIv (rVecLen2 a))).hi), .bool ((rDivIv a.y (rRootIv (rVecLen2 a))).no)]) rfl rfl rfl (st_cf (vs := [.agg #[.int .i64 a.y.lo, .int .i64 a.y.hi, .bool a.y.no], .agg #[.int .i64 ((rRootIv (rVecLen2 a)).lo), .int .i64 ((rRootIv (rVecLen2 a)).hi), .bool ((rRootIv (rVecLen2 a)).no)]]) (r := .agg #[.int .i64 ((rDivIv a.y (rRootIv (rVecLen2 a))).lo), .int .i64 ((rDivIv a.y (rRootIv (rVecLen2 a))).hi), .bool ((rDivIv a.y (rRootIv (rVecLen2 a))).no)]) (c_rDivIv a.y (rRootIv (rVecLen2 a))) Try.func112 rfl (by decide) rfl rfl rfl ⟨rfl, rfl⟩) ?_
  refine dw_op (d := (some 15)) (.pointer (some ⟨g0, 6, none⟩)) rfl rfl rfl (st_fa (g := g0) (off := 0) rfl fa58_2 rfl ⟨rfl, rfl⟩) ?_
  refine dw_op (d := (some 16)) (.agg #[.int .i64 a.z.lo, .int .i64 a.z.hi, .bool a.z.no]) rfl rfl rfl (st_lda (g := g0) (off := 6) (vs := [.int .i64 a.z.lo, .int .i64 a.z.hi, .bool a.z.no]) agg35 2 rfl rfl rfl rfl rfl rfl ⟨rfl, rfl⟩) ?_
  refine dw_op (d := (some 17)) (.agg #[.int .i64 ((rRootIv (rVecLen2 a)).lo), .int .i64 ((rRootIv (rVecLen2 a)).hi), .bool ((rRootIv (rVecLen2 a)).no)]) rfl rfl rfl (st_lda (g := g2) (off := 0) (vs := [.int .i64 ((rRootIv (rVecLen2 a)).lo), .int .i64 ((rRootIv (rVecLen2 a)).hi), .bool ((rRootIv (rVecLen2 a)).no)]) agg35 0 rfl rfl rfl rfl rfl rfl ⟨rfl, rfl⟩) ?_
  refine dw_op (d := (some 18)) (.agg #[.int .i64 ((rDivIv a.z (rRootIv (rVecLen2 a))).lo), .int .i64 ((rDivIv a.z (rRootIv (rVecLen2 a))).hi), .bool ((rDivIv a.z (rRootIv (rVecLen2 a))).no)]) rfl rfl rfl (st_cf (vs := [.agg #[.int .i64 a.z.lo, .int .i64 a.z.hi, .bool a.z.no], .agg #[.int .i64 ((rRootIv (rVecLen2 a)).lo), .int .i64 ((rRootIv (rVecLen2 a)).hi), .bool ((rRootIv (rVecLen2 a)).no)]]) (r := .agg #[.int .i64 ((rDivIv a.z (rRootIv (rVecLen2 a))).lo), .int .i64 ((rDivIv a.z (rRootIv (rVecLen2 a))).hi), .bool ((rDivIv a.z (rRootIv (rVecLen2 a))).no)]) (c_rDivIv a.z (rRootIv (rVecLen2 a))) Try.func112 rfl (by decide) rfl rfl rfl ⟨rfl, rfl⟩) ?_
  refine dw_op (d := (some 19)) (.agg #[.int .i64 ((rDivIv a.x (rRootIv (rVecLen2 a))).lo), .int .i64 ((rDivIv a.x (rRootIv (rVecLen2 a))).hi), .bool ((rDivIv a.x (rRootIv (rVecLen2 a))).no), .int .i64 ((rDivIv a.y (rRootIv (rVecLen2 a))).lo), .int .i64 ((rDivIv a.y (rRootIv (rVecLen2 a))).hi), .bool ((rDivIv a.y (rRootIv (rVecLen2 a))).no), .int .i64 ((rDivIv a.z (rRootIv (rVecLen2 a))).lo), .int .i64 ((rDivIv a.z (rRootIv (rVecLen2 a))).hi), .bool ((rDivIv a.z (rRootIv (rVecLen2 a))).no)]) rfl rfl rfl (st_bd (us := [(0, .agg #[.int .i64 ((rDivIv a.x (rRootIv (rVecLen2 a))).lo), .int .i64 ((rDivIv a.x (rRootIv (rVecLen2 a))).hi), .bool ((rDivIv a.x (rRootIv (rVecLen2 a))).no)]), (1, .agg #[.int .i64 ((rDivIv a.y (rRootIv (rVecLen2 a))).lo), .int .i64 ((rDivIv a.y (rRootIv (rVecLen2 a))).hi), .bool ((rDivIv a.y (rRootIv (rVecLen2 a))).no)]), (2, .agg #[.int .i64 ((rDivIv a.z (rRootIv (rVecLen2 a))).lo), .int .i64 ((rDivIv a.z (rRootIv (rVecLen2 a))).hi), .bool ((rDivIv a.z (rRootIv (rVecLen2 a))).no)])]) (v := .agg #[.int .i64 ((rDivIv a.x (rRootIv (rVecLen2 a))).lo), .int .i64 ((rDivIv a.x (rRootIv (rVecLen2 a))).hi), .bool ((rDivIv a.x (rRootIv (rVecLen2 a))).no), .int .i64 ((rDivIv a.y (rRootIv (rVecLen2 a))).lo), .int .i64 ((rDivIv a.y (rRootIv (rVecLen2 a))).hi), .bool ((rDivIv a.y (rRootIv (rVecLen2 a))).no), .int .i64 ((rDivIv a.z (rRootIv (rVecLen2 a))).lo), .int .i64 ((rDivIv a.z (rRootIv (rVecLen2 a))).hi), .bool ((rDivIv a.z (rRootIv (rVecLen2 a))).no)]) rfl rfl (bd58_0a_1a_2a _ _ _ _ _ _ _ _ _) ⟨rfl, rfl⟩) ?_
  refine dw_nil ?_
  refine ar_op (d := none) rfl rfl (st_sta (g := g1) (off := 0) (us := [.int .i64 ((rDivIv a.x (rRootIv (rVecLen2 a))).lo), .int .i64 ((rDivIv a.x (rRootIv (rVecLen2 a))).hi), .bool ((rDivIv a.x (rRootIv (rVecLen2 a))).no), .int .i64 ((rDivIv a.y (rRootIv (rVecLen2 a))).lo), .int .i64 ((rDivIv a.y (rRootIv (rVecLen2 a))).hi), .bool ((rDivIv a.y (rRootIv (rVecLen2 a))).no), .int .i64 ((rDivIv a.z (rRootIv (rVecLen2 a))).lo), .int .i64 ((rDivIv a.z (rRootIv (rVecLen2 a))).hi), .bool ((rDivIv a.z (rRootIv (rVecLen2 a))).no)]) (cs := [.int .i64 ((rDivIv a.x (rRootIv (rVecLen2 a))).lo), .int .i64 ((rDivIv a.x (rRootIv (rVecLen2 a))).hi), .bool ((rDivIv a.x (rRootIv (rVecLen2 a))).no), .int .i64 ((rDivIv a.y (rRootIv (rVecLen2 a))).lo), .int .i64 ((rDivIv a.y (rRootIv (rVecLen2 a))).hi), .bool ((rDivIv a.y (rRootIv (rVecLen2 a))).no), .int .i64 ((rDivIv a.z (rRootIv (rVecLen2 a))).lo), .int .i64 ((rDivIv a.z (rRootIv (rVecLen2 a))).hi), .bool ((rDivIv a.z (rRootIv (rVecLen2 a))).no)]) agg58 1 rfl rfl rfl rfl rfl rfl rfl rfl rfl ?_)
  refine ar_nil ?_
  refine ac_ret ?_
  exact fin_eq (v := .agg #[.int .i64 ((rDivIv a.x (rRootIv (rVecLen2 a))).lo), .int .i64 ((rDivIv a.x (rRootIv (rVecLen2 a))).hi), .bool ((rDivIv a.x (rRootIv (rVecLen2 a))).no), .int .i64 ((rDivIv a.y (rRootIv (rVecLen2 a))).lo), .int .i64 ((rDivIv a.y (rRootIv (rVecLen2 a))).hi), .bool ((rDivIv a.y (rRootIv (rVecLen2 a))).no), .int .i64 ((rDivIv a.z (rRootIv (rVecLen2 a))).lo), .int .i64 ((rDivIv a.z (rRootIv (rVecLen2 a))).hi), .bool ((rDivIv a.z (rRootIv (rVecLen2 a))).no)]) rfl (fin_ret (res_c (vs := [.int .i64 ((rDivIv a.x (rRootIv (rVecLen2 a))).lo), .int .i64 ((rDivIv a.x (rRootIv (rVecLen2 a))).hi), .bool ((rDivIv a.x (rRootIv (rVecLen2 a))).no), .int .i64 ((rDivIv a.y (rRootIv (rVecLen2 a))).lo), .int .i64 ((rDivIv a.y (rRootIv (rVecLen2 a))).hi), .bool ((rDivIv a.y (rRootIv (rVecLen2 a))).no), .int .i64 ((rDivIv a.z (rRootIv (rVecLen2 a))).lo), .int .i64 ((rDivIv a.z (rRootIv (rVecLen2 a))).hi), .bool ((rDivIv a.z (rRootIv (rVecLen2 a))).no)]) agg58 1 rfl rfl rfl rfl rfl rfl))
def rVecAlong (r : Ray) (t : Iv) : V := (rVecAdd r.o (rVecScale r.d t))
set_option maxRecDepth 100000 in
theorem c_rVecAlong (r : Ray) (t : Iv) : Gets Try.prog 129 #[.agg #[.int .i64 r.o.x.lo, .int .i64 r.o.x.hi, .bool r.o.x.no, .int .i64 r.o.y.lo, .int .i64 r.o.y.hi, .bool r.o.y.no, .int .i64 r.o.z.lo, .int .i64 r.o.z.hi, .bool r.o.z.no, .int .i64 r.d.x.lo, .int .i64 r.d.x.hi, .bool r.d.x.no, .int .i64 r.d.y.lo, .int .i64 r.d.y.hi, .bool r.d.y.no, .int .i64 r.d.z.lo, .int .i64 r.d.z.hi, .bool r.d.z.no], .agg #[.int .i64 t.lo, .int .i64 t.hi, .bool t.no]] (V.v (rVecAlong r t)) := by
  refine gets_fin Try.func129 rfl rfl rfl ?_
  refine ac_seq ?_
  refine ac_region_lit ?_
  refine ao 2 rfl rfl (st_box (v := .agg #[.int .i64 r.o.x.lo, .int .i64 r.o.x.hi, .bool r.o.x.no, .int .i64 r.o.y.lo, .int .i64 r.o.y.hi, .bool r.o.y.no, .int .i64 r.o.z.lo, .int .i64 r.o.z.hi, .bool r.o.z.no, .int .i64 r.d.x.lo, .int .i64 r.d.x.hi, .bool r.d.x.no, .int .i64 r.d.y.lo, .int .i64 r.d.y.hi, .bool r.d.y.no, .int .i64 r.d.z.lo, .int .i64 r.d.z.hi, .bool r.d.z.no]) (cs := [.int .i64 r.o.x.lo, .int .i64 r.o.x.hi, .bool r.o.x.no, .int .i64 r.o.y.lo, .int .i64 r.o.y.hi, .bool r.o.y.no, .int .i64 r.o.z.lo, .int .i64 r.o.z.hi, .bool r.o.z.no, .int .i64 r.d.x.lo, .int .i64 r.d.x.hi, .bool r.d.x.no, .int .i64 r.d.y.lo, .int .i64 r.d.y.hi, .bool r.d.y.no, .int .i64 r.d.z.lo, .int .i64 r.d.z.hi, .bool r.d.z.no]) rfl rfl rfl fun g0 => ?_)
  refine ao 3 rfl rfl (st_box (v := .agg #[.int .i64 t.lo, .int .i64 t.hi, .bool t.no]) (cs := [.int .i64 t.lo, .int .i64 t.hi, .bool t.no]) rfl rfl rfl fun g1 => ?_)
  refine ao 4 rfl rfl (st_new zero58 rfl fun g2 => ?_)
  refine ar_nil ?_
  refine ac_seq ?_
  refine ac_draw0 (id := 1) [0, 1, 2, 3, 4, 5, 6] [7] _ (by kernel_rfl) follows rfl  ?_
  refine dw_op (d := (some 5)) (.pointer (some ⟨g0, 0, none⟩)) rfl rfl rfl (st_fa (g := g0) (off := 0) rfl fa77_0 rfl ⟨rfl, rfl⟩) ?_
  refine dw_op (d := (some 6)) (.agg #[.int .i64 r.o.x.lo, .int .i64 r.o.x.hi, .bool r.o.x.no, .int .i64 r.o.y.lo, .int .i64 r.o.y.hi, .bool r.o.y.no, .int .i64 r.o.z.lo, .int .i64 r.o.z.hi, .bool r.o.z.no]) rfl rfl rfl (st_lda (g := g0) (off := 0) (vs := [.int .i64 r.o.x.lo, .int .i64 r.o.x.hi, .bool r.o.x.no, .int .i64 r.o.y.lo, .int .i64 r.o.y.hi, .bool r.o.y.no, .int .i64 r.o.z.lo, .int .i64 r.o.z.hi, .bool r.o.z.no]) agg58 2 rfl rfl rfl rfl rfl rfl ⟨rfl, rfl⟩) ?_
  refine dw_op (d := (some 7)) (.pointer (some ⟨g0, 9, none⟩)) rfl rfl rfl (st_fa (g := g0) (off := 0) rfl fa77_1 rfl ⟨rfl, rfl⟩) ?_
  refine dw_op (d := (some 8)) (.agg #[.int .i64 r.d.x.lo, .int .i64 r.d.x.hi, .bool r.d.x.no, .int .i64 r.d.y.lo, .int .i64 r.d.y.hi, .bool r.d.y.no, .int .i64 r.d.z.lo, .int .i64 r.d.z.hi, .bool r.d.z.no]) rfl rfl rfl (st_lda (g := g0) (off := 9) (vs := [.int .i64 r.d.x.lo, .int .i64 r.d.x.hi, .bool r.d.x.no, .int .i64 r.d.y.lo, .int .i64 r.d.y.hi, .bool r.d.y.no, .int .i64 r.d.z.lo, .int .i64 r.d.z.hi, .bool r.d.z.no]) agg58 2 rfl rfl rfl rfl rfl rfl ⟨rfl, rfl⟩) ?_
  refine dw_op (d := (some 9)) (.agg #[.int .i64 t.lo, .int .i64 t.hi, .bool t.no]) rfl rfl rfl (st_lda (g := g1) (off := 0) (vs := [.int .i64 t.lo, .int .i64 t.hi, .bool t.no]) agg35 1 rfl rfl rfl rfl rfl rfl ⟨rfl, rfl⟩) ?_
  refine dw_op (d := (some 10)) (.agg #[.int .i64 (((rVecScale r.d t).x).lo), .int .i64 (((rVecScale r.d t).x).hi), .bool (((rVecScale r.d t).x).no), .int .i64 (((rVecScale r.d t).y).lo), .int .i64 (((rVecScale r.d t).y).hi), .bool (((rVecScale r.d t).y).no), .int .i64 (((rVecScale r.d t).z).lo), .int .i64 (((rVecScale r.d t).z).hi), .bool (((rVecScale r.d t).z).no)]) rfl rfl rfl (st_cf (vs := [.agg #[.int .i64 r.d.x.lo, .int .i64 r.d.x.hi, .bool r.d.x.no, .int .i64 r.d.y.lo, .int .i64 r.d.y.hi, .bool r.d.y.no, .int .i64 r.d.z.lo, .int .i64 r.d.z.hi, .bool r.d.z.no], .agg #[.int .i64 t.lo, .int .i64 t.hi, .bool t.no]]) (r := .agg #[.int .i64 (((rVecScale r.d t).x).lo), .int .i64 (((rVecScale r.d t).x).hi), .bool (((rVecScale r.d t).x).no), .int .i64 (((rVecScale r.d t).y).lo), .int .i64 (((rVecScale r.d t).y).hi), .bool (((rVecScale r.d t).y).no), .int .i64 (((rVecScale r.d t).z).lo), .int .i64 (((rVecScale r.d t).z).hi), .bool (((rVecScale r.d t).z).no)]) (c_rVecScale r.d t) Try.func125 rfl (by decide) rfl rfl rfl ⟨rfl, rfl⟩) ?_
  refine dw_op (d := (some 11)) (.agg #[.int .i64 (((rVecAdd r.o (rVecScale r.d t)).x).lo), .int .i64 (((rVecAdd r.o (rVecScale r.d t)).x).hi), .bool (((rVecAdd r.o (rVecScale r.d t)).x).no), .int .i64 (((rVecAdd r.o (rVecScale r.d t)).y).lo), .int .i64 (((rVecAdd r.o (rVecScale r.d t)).y).hi), .bool (((rVecAdd r.o (rVecScale r.d t)).y).no), .int .i64 (((rVecAdd r.o (rVecScale r.d t)).z).lo), .int .i64 (((rVecAdd r.o (rVecScale r.d t)).z).hi), .bool (((rVecAdd r.o (rVecScale r.d t)).z).no)]) rfl rfl rfl (st_cf (vs := [.agg #[.int .i64 r.o.x.lo, .int .i64 r.o.x.hi, .bool r.o.x.no, .int .i64 r.o.y.lo, .int .i64 r.o.y.hi, .bool r.o.y.no, .int .i64 r.o.z.lo, .int .i64 r.o.z.hi, .bool r.o.z.no], .agg #[.int .i64 (((rVecScale r.d t).x).lo), .int .i64 (((rVecScale r.d t).x).hi), .bool (((rVecScale r.d t).x).no), .int .i64 (((rVecScale r.d t).y).lo), .int .i64 (((rVecScale r.d t).y).hi), .bool (((rVecScale r.d t).y).no), .int .i64 (((rVecScale r.d t).z).lo), .int .i64 (((rVecScale r.d t).z).hi), .bool (((rVecScale r.d t).z).no)]]) (r := .agg #[.int .i64 (((rVecAdd r.o (rVecScale r.d t)).x).lo), .int .i64 (((rVecAdd r.o (rVecScale r.d t)).x).hi), .bool (((rVecAdd r.o (rVecScale r.d t)).x).no), .int .i64 (((rVecAdd r.o (rVecScale r.d t)).y).lo), .int .i64 (((rVecAdd r.o (rVecScale r.d t)).y).hi), .bool (((rVecAdd r.o (rVecScale r.d t)).y).no), .int .i64 (((rVecAdd r.o (rVecScale r.d t)).z).lo), .int .i64 (((rVecAdd r.o (rVecScale r.d t)).z).hi), .bool (((rVecAdd r.o (rVecScale r.d t)).z).no)]) (c_rVecAdd r.o (rVecScale r.d t)) Try.func123 rfl (by decide) rfl rfl rfl ⟨rfl, rfl⟩) ?_
  refine dw_nil ?_
  refine ar_op (d := none) rfl rfl (st_sta (g := g2) (off := 0) (us := [.int .i64 (((rVecAdd r.o (rVecScale r.d t)).x).lo), .int .i64 (((rVecAdd r.o (rVecScale r.d t)).x).hi), .bool (((rVecAdd r.o (rVecScale r.d t)).x).no), .int .i64 (((rVecAdd r.o (rVecScale r.d t)).y).lo), .int .i64 (((rVecAdd r.o (rVecScale r.d t)).y).hi), .bool (((rVecAdd r.o (rVecScale r.d t)).y).no), .int .i64 (((rVecAdd r.o (rVecScale r.d t)).z).lo), .int .i64 (((rVecAdd r.o (rVecScale r.d t)).z).hi), .bool (((rVecAdd r.o (rVecScale r.d t)).z).no)]) (cs := [.int .i64 (((rVecAdd r.o (rVecScale r.d t)).x).lo), .int .i64 (((rVecAdd r.o (rVecScale r.d t)).x).hi), .bool (((rVecAdd r.o (rVecScale r.d t)).x).no), .int .i64 (((rVecAdd r.o (rVecScale r.d t)).y).lo), .int .i64 (((rVecAdd r.o (rVecScale r.d t)).y).hi), .bool (((rVecAdd r.o (rVecScale r.d t)).y).no), .int .i64 (((rVecAdd r.o (rVecScale r.d t)).z).lo), .int .i64 (((rVecAdd r.o (rVecScale r.d t)).z).hi), .bool (((rVecAdd r.o (rVecScale r.d t)).z).no)]) agg58 0 rfl rfl rfl rfl rfl rfl rfl rfl rfl ?_)
  refine ar_nil ?_
  refine ac_ret ?_
  exact fin_eq (v := .agg #[.int .i64 (((rVecAdd r.o (rVecScale r.d t)).x).lo), .int .i64 (((rVecAdd r.o (rVecScale r.d t)).x).hi), .bool (((rVecAdd r.o (rVecScale r.d t)).x).no), .int .i64 (((rVecAdd r.o (rVecScale r.d t)).y).lo), .int .i64 (((rVecAdd r.o (rVecScale r.d t)).y).hi), .bool (((rVecAdd r.o (rVecScale r.d t)).y).no), .int .i64 (((rVecAdd r.o (rVecScale r.d t)).z).lo), .int .i64 (((rVecAdd r.o (rVecScale r.d t)).z).hi), .bool (((rVecAdd r.o (rVecScale r.d t)).z).no)]) rfl (fin_ret (res_c (vs := [.int .i64 (((rVecAdd r.o (rVecScale r.d t)).x).lo), .int .i64 (((rVecAdd r.o (rVecScale r.d t)).x).hi), .bool (((rVecAdd r.o (rVecScale r.d t)).x).no), .int .i64 (((rVecAdd r.o (rVecScale r.d t)).y).lo), .int .i64 (((rVecAdd r.o (rVecScale r.d t)).y).hi), .bool (((rVecAdd r.o (rVecScale r.d t)).y).no), .int .i64 (((rVecAdd r.o (rVecScale r.d t)).z).lo), .int .i64 (((rVecAdd r.o (rVecScale r.d t)).z).hi), .bool (((rVecAdd r.o (rVecScale r.d t)).z).no)]) agg58 0 rfl rfl rfl rfl rfl rfl))
def rVecHull (a : V) (b : V) : V := (⟨(rHull a.x b.x), (rHull a.y b.y), (rHull a.z b.z)⟩ : V)
set_option maxRecDepth 100000 in
theorem c_rVecHull (a : V) (b : V) : Gets Try.prog 130 #[.agg #[.int .i64 a.x.lo, .int .i64 a.x.hi, .bool a.x.no, .int .i64 a.y.lo, .int .i64 a.y.hi, .bool a.y.no, .int .i64 a.z.lo, .int .i64 a.z.hi, .bool a.z.no], .agg #[.int .i64 b.x.lo, .int .i64 b.x.hi, .bool b.x.no, .int .i64 b.y.lo, .int .i64 b.y.hi, .bool b.y.no, .int .i64 b.z.lo, .int .i64 b.z.hi, .bool b.z.no]] (V.v (rVecHull a b)) := by
  refine gets_fin Try.func130 rfl rfl rfl ?_
  refine ac_seq ?_
  refine ac_region_lit ?_
  refine ao 2 rfl rfl (st_box (v := .agg #[.int .i64 a.x.lo, .int .i64 a.x.hi, .bool a.x.no, .int .i64 a.y.lo, .int .i64 a.y.hi, .bool a.y.no, .int .i64 a.z.lo, .int .i64 a.z.hi, .bool a.z.no]) (cs := [.int .i64 a.x.lo, .int .i64 a.x.hi, .bool a.x.no, .int .i64 a.y.lo, .int .i64 a.y.hi, .bool a.y.no, .int .i64 a.z.lo, .int .i64 a.z.hi, .bool a.z.no]) rfl rfl rfl fun g0 => ?_)
  refine ao 3 rfl rfl (st_box (v := .agg #[.int .i64 b.x.lo, .int .i64 b.x.hi, .bool b.x.no, .int .i64 b.y.lo, .int .i64 b.y.hi, .bool b.y.no, .int .i64 b.z.lo, .int .i64 b.z.hi, .bool b.z.no]) (cs := [.int .i64 b.x.lo, .int .i64 b.x.hi, .bool b.x.no, .int .i64 b.y.lo, .int .i64 b.y.hi, .bool b.y.no, .int .i64 b.z.lo, .int .i64 b.z.hi, .bool b.z.no]) rfl rfl rfl fun g1 => ?_)
  refine ao 4 rfl rfl (st_new zero58 rfl fun g2 => ?_)
  refine ar_nil ?_
  refine ac_seq ?_
  refine ac_draw0 (id := 1) [0, 1, 2, 3, 4, 5, 6, 7, 8, 9, 10, 11, 12, 13, 14, 15] [16] _ (by kernel_rfl) follows rfl  ?_
  refine dw_op (d := (some 5)) (.pointer (some ⟨g0, 0, none⟩)) rfl rfl rfl (st_fa (g := g0) (off := 0) rfl fa58_0 rfl ⟨rfl, rfl⟩) ?_
  refine dw_op (d := (some 6)) (.agg #[.int .i64 a.x.lo, .int .i64 a.x.hi, .bool a.x.no]) rfl rfl rfl (st_lda (g := g0) (off := 0) (vs := [.int .i64 a.x.lo, .int .i64 a.x.hi, .bool a.x.no]) agg35 2 rfl rfl rfl rfl rfl rfl ⟨rfl, rfl⟩) ?_
  refine dw_op (d := (some 7)) (.pointer (some ⟨g1, 0, none⟩)) rfl rfl rfl (st_fa (g := g1) (off := 0) rfl fa58_0 rfl ⟨rfl, rfl⟩) ?_
  refine dw_op (d := (some 8)) (.agg #[.int .i64 b.x.lo, .int .i64 b.x.hi, .bool b.x.no]) rfl rfl rfl (st_lda (g := g1) (off := 0) (vs := [.int .i64 b.x.lo, .int .i64 b.x.hi, .bool b.x.no]) agg35 1 rfl rfl rfl rfl rfl rfl ⟨rfl, rfl⟩) ?_
  refine dw_op (d := (some 9)) (.agg #[.int .i64 ((rHull a.x b.x).lo), .int .i64 ((rHull a.x b.x).hi), .bool ((rHull a.x b.x).no)]) rfl rfl rfl (st_cf (vs := [.agg #[.int .i64 a.x.lo, .int .i64 a.x.hi, .bool a.x.no], .agg #[.int .i64 b.x.lo, .int .i64 b.x.hi, .bool b.x.no]]) (r := .agg #[.int .i64 ((rHull a.x b.x).lo), .int .i64 ((rHull a.x b.x).hi), .bool ((rHull a.x b.x).no)]) (c_rHull a.x b.x) Try.func114 rfl (by decide) rfl rfl rfl ⟨rfl, rfl⟩) ?_
  refine dw_op (d := (some 10)) (.pointer (some ⟨g0, 3, none⟩)) rfl rfl rfl (st_fa (g := g0) (off := 0) rfl fa58_1 rfl ⟨rfl, rfl⟩) ?_
  refine dw_op (d := (some 11)) (.agg #[.int .i64 a.y.lo, .int .i64 a.y.hi, .bool a.y.no]) rfl rfl rfl (st_lda (g := g0) (off := 3) (vs := [.int .i64 a.y.lo, .int .i64 a.y.hi, .bool a.y.no]) agg35 2 rfl rfl rfl rfl rfl rfl ⟨rfl, rfl⟩) ?_
  refine dw_op (d := (some 12)) (.pointer (some ⟨g1, 3, none⟩)) rfl rfl rfl (st_fa (g := g1) (off := 0) rfl fa58_1 rfl ⟨rfl, rfl⟩) ?_
  refine dw_op (d := (some 13)) (.agg #[.int .i64 b.y.lo, .int .i64 b.y.hi, .bool b.y.no]) rfl rfl rfl (st_lda (g := g1) (off := 3) (vs := [.int .i64 b.y.lo, .int .i64 b.y.hi, .bool b.y.no]) agg35 1 rfl rfl rfl rfl rfl rfl ⟨rfl, rfl⟩) ?_
  refine dw_op (d := (some 14)) (.agg #[.int .i64 ((rHull a.y b.y).lo), .int .i64 ((rHull a.y b.y).hi), .bool ((rHull a.y b.y).no)]) rfl rfl rfl (st_cf (vs := [.agg #[.int .i64 a.y.lo, .int .i64 a.y.hi, .bool a.y.no], .agg #[.int .i64 b.y.lo, .int .i64 b.y.hi, .bool b.y.no]]) (r := .agg #[.int .i64 ((rHull a.y b.y).lo), .int .i64 ((rHull a.y b.y).hi), .bool ((rHull a.y b.y).no)]) (c_rHull a.y b.y) Try.func114 rfl (by decide) rfl rfl rfl ⟨rfl, rfl⟩) ?_
  refine dw_op (d := (some 15)) (.pointer (some ⟨g0, 6, none⟩)) rfl rfl rfl (st_fa (g := g0) (off := 0) rfl fa58_2 rfl ⟨rfl, rfl⟩) ?_
  refine dw_op (d := (some 16)) (.agg #[.int .i64 a.z.lo, .int .i64 a.z.hi, .bool a.z.no]) rfl rfl rfl (st_lda (g := g0) (off := 6) (vs := [.int .i64 a.z.lo, .int .i64 a.z.hi, .bool a.z.no]) agg35 2 rfl rfl rfl rfl rfl rfl ⟨rfl, rfl⟩) ?_
  refine dw_op (d := (some 17)) (.pointer (some ⟨g1, 6, none⟩)) rfl rfl rfl (st_fa (g := g1) (off := 0) rfl fa58_2 rfl ⟨rfl, rfl⟩) ?_
  refine dw_op (d := (some 18)) (.agg #[.int .i64 b.z.lo, .int .i64 b.z.hi, .bool b.z.no]) rfl rfl rfl (st_lda (g := g1) (off := 6) (vs := [.int .i64 b.z.lo, .int .i64 b.z.hi, .bool b.z.no]) agg35 1 rfl rfl rfl rfl rfl rfl ⟨rfl, rfl⟩) ?_
  refine dw_op (d := (some 19)) (.agg #[.int .i64 ((rHull a.z b.z).lo), .int .i64 ((rHull a.z b.z).hi), .bool ((rHull a.z b.z).no)]) rfl rfl rfl (st_cf (vs := [.agg #[.int .i64 a.z.lo, .int .i64 a.z.hi, .bool a.z.no], .agg #[.int .i64 b.z.lo, .int .i64 b.z.hi, .bool b.z.no]]) (r := .agg #[.int .i64 ((rHull a.z b.z).lo), .int .i64 ((rHull a.z b.z).hi), .bool ((rHull a.z b.z).no)]) (c_rHull a.z b.z) Try.func114 rfl (by decide) rfl rfl rfl ⟨rfl, rfl⟩) ?_
  refine dw_op (d := (some 20)) (.agg #[.int .i64 ((rHull a.x b.x).lo), .int .i64 ((rHull a.x b.x).hi), .bool ((rHull a.x b.x).no), .int .i64 ((rHull a.y b.y).lo), .int .i64 ((rHull a.y b.y).hi), .bool ((rHull a.y b.y).no), .int .i64 ((rHull a.z b.z).lo), .int .i64 ((rHull a.z b.z).hi), .bool ((rHull a.z b.z).no)]) rfl rfl rfl (st_bd (us := [(0, .agg #[.int .i64 ((rHull a.x b.x).lo), .int .i64 ((rHull a.x b.x).hi), .bool ((rHull a.x b.x).no)]), (1, .agg #[.int .i64 ((rHull a.y b.y).lo), .int .i64 ((rHull a.y b.y).hi), .bool ((rHull a.y b.y).no)]), (2, .agg #[.int .i64 ((rHull a.z b.z).lo), .int .i64 ((rHull a.z b.z).hi), .bool ((rHull a.z b.z).no)])]) (v := .agg #[.int .i64 ((rHull a.x b.x).lo), .int .i64 ((rHull a.x b.x).hi), .bool ((rHull a.x b.x).no), .int .i64 ((rHull a.y b.y).lo), .int .i64 ((rHull a.y b.y).hi), .bool ((rHull a.y b.y).no), .int .i64 ((rHull a.z b.z).lo), .int .i64 ((rHull a.z b.z).hi), .bool ((rHull a.z b.z).no)]) rfl rfl (bd58_0a_1a_2a _ _ _ _ _ _ _ _ _) ⟨rfl, rfl⟩) ?_
  refine dw_nil ?_
  refine ar_op (d := none) rfl rfl (st_sta (g := g2) (off := 0) (us := [.int .i64 ((rHull a.x b.x).lo), .int .i64 ((rHull a.x b.x).hi), .bool ((rHull a.x b.x).no), .int .i64 ((rHull a.y b.y).lo), .int .i64 ((rHull a.y b.y).hi), .bool ((rHull a.y b.y).no), .int .i64 ((rHull a.z b.z).lo), .int .i64 ((rHull a.z b.z).hi), .bool ((rHull a.z b.z).no)]) (cs := [.int .i64 ((rHull a.x b.x).lo), .int .i64 ((rHull a.x b.x).hi), .bool ((rHull a.x b.x).no), .int .i64 ((rHull a.y b.y).lo), .int .i64 ((rHull a.y b.y).hi), .bool ((rHull a.y b.y).no), .int .i64 ((rHull a.z b.z).lo), .int .i64 ((rHull a.z b.z).hi), .bool ((rHull a.z b.z).no)]) agg58 0 rfl rfl rfl rfl rfl rfl rfl rfl rfl ?_)
  refine ar_nil ?_
  refine ac_ret ?_
  exact fin_eq (v := .agg #[.int .i64 ((rHull a.x b.x).lo), .int .i64 ((rHull a.x b.x).hi), .bool ((rHull a.x b.x).no), .int .i64 ((rHull a.y b.y).lo), .int .i64 ((rHull a.y b.y).hi), .bool ((rHull a.y b.y).no), .int .i64 ((rHull a.z b.z).lo), .int .i64 ((rHull a.z b.z).hi), .bool ((rHull a.z b.z).no)]) rfl (fin_ret (res_c (vs := [.int .i64 ((rHull a.x b.x).lo), .int .i64 ((rHull a.x b.x).hi), .bool ((rHull a.x b.x).no), .int .i64 ((rHull a.y b.y).lo), .int .i64 ((rHull a.y b.y).hi), .bool ((rHull a.y b.y).no), .int .i64 ((rHull a.z b.z).lo), .int .i64 ((rHull a.z b.z).hi), .bool ((rHull a.z b.z).no)]) agg58 0 rfl rfl rfl rfl rfl rfl))
def rVecInside (a : V) (b : V) : Bool := (bif rInside a.x b.x then (bif rInside a.y b.y then rInside a.z b.z else false) else false)
set_option maxRecDepth 100000 in
theorem c_rVecInside (a : V) (b : V) : Gets Try.prog 131 #[.agg #[.int .i64 a.x.lo, .int .i64 a.x.hi, .bool a.x.no, .int .i64 a.y.lo, .int .i64 a.y.hi, .bool a.y.no, .int .i64 a.z.lo, .int .i64 a.z.hi, .bool a.z.no], .agg #[.int .i64 b.x.lo, .int .i64 b.x.hi, .bool b.x.no, .int .i64 b.y.lo, .int .i64 b.y.hi, .bool b.y.no, .int .i64 b.z.lo, .int .i64 b.z.hi, .bool b.z.no]] ((fun (r : Bool) => (.bool r : Value)) (rVecInside a b)) := by
  refine gets_fin Try.func131 rfl rfl rfl ?_
  refine ac_seq ?_
  refine ac_region_lit ?_
  refine ao 2 rfl rfl (st_box (v := .agg #[.int .i64 a.x.lo, .int .i64 a.x.hi, .bool a.x.no, .int .i64 a.y.lo, .int .i64 a.y.hi, .bool a.y.no, .int .i64 a.z.lo, .int .i64 a.z.hi, .bool a.z.no]) (cs := [.int .i64 a.x.lo, .int .i64 a.x.hi, .bool a.x.no, .int .i64 a.y.lo, .int .i64 a.y.hi, .bool a.y.no, .int .i64 a.z.lo, .int .i64 a.z.hi, .bool a.z.no]) rfl rfl rfl fun g0 => ?_)
  refine ao 3 rfl rfl (st_box (v := .agg #[.int .i64 b.x.lo, .int .i64 b.x.hi, .bool b.x.no, .int .i64 b.y.lo, .int .i64 b.y.hi, .bool b.y.no, .int .i64 b.z.lo, .int .i64 b.z.hi, .bool b.z.no]) (cs := [.int .i64 b.x.lo, .int .i64 b.x.hi, .bool b.x.no, .int .i64 b.y.lo, .int .i64 b.y.hi, .bool b.y.no, .int .i64 b.z.lo, .int .i64 b.z.hi, .bool b.z.no]) rfl rfl rfl fun g1 => ?_)
  refine ao 4 rfl rfl (st_assign (v := .bool false) rfl rfl ?_)
  refine ar_nil ?_
  refine ac_seq ?_
  refine ac_region_lit ?_
  refine ao 5 rfl rfl (st_fa (g := g0) (off := 0) rfl fa58_0 rfl ?_)
  refine ao 6 rfl rfl (st_lda (g := g0) (off := 0) (vs := [.int .i64 a.x.lo, .int .i64 a.x.hi, .bool a.x.no]) agg35 1 rfl rfl rfl rfl rfl rfl ?_)
  refine ao 7 rfl rfl (st_fa (g := g1) (off := 0) rfl fa58_0 rfl ?_)
  refine ao 8 rfl rfl (st_lda (g := g1) (off := 0) (vs := [.int .i64 b.x.lo, .int .i64 b.x.hi, .bool b.x.no]) agg35 0 rfl rfl rfl rfl rfl rfl ?_)
  refine ao 9 rfl rfl (st_cf (vs := [.agg #[.int .i64 a.x.lo, .int .i64 a.x.hi, .bool a.x.no], .agg #[.int .i64 b.x.lo, .int .i64 b.x.hi, .bool b.x.no]]) (r := .bool (rInside a.x b.x)) (c_rInside a.x b.x) Try.func118 rfl (by decide) rfl rfl rfl ?_)
  refine ao 10 rfl rfl (st_move (v := .bool (rInside a.x b.x)) rfl rfl ?_)
  refine bool_split (rInside a.x b.x) (fun h1 => ?_) (fun h1 => ?_)
  · refine ar_gd (d := (some 11)) (by show ((rInside a.x b.x) == true) = true; rw [h1]; rfl) rfl (st_fa (g := g0) (off := 0) rfl fa58_1 rfl ?_)
    refine ar_gd (d := (some 12)) (by show ((rInside a.x b.x) == true) = true; rw [h1]; rfl) rfl (st_lda (g := g0) (off := 3) (vs := [.int .i64 a.y.lo, .int .i64 a.y.hi, .bool a.y.no]) agg35 1 rfl rfl rfl rfl rfl rfl ?_)
    refine ar_gd (d := (some 13)) (by show ((rInside a.x b.x) == true) = true; rw [h1]; rfl) rfl (st_fa (g := g1) (off := 0) rfl fa58_1 rfl ?_)
    refine ar_gd (d := (some 14)) (by show ((rInside a.x b.x) == true) = true; rw [h1]; rfl) rfl (st_lda (g := g1) (off := 3) (vs := [.int .i64 b.y.lo, .int .i64 b.y.hi, .bool b.y.no]) agg35 0 rfl rfl rfl rfl rfl rfl ?_)
    refine ar_gd (d := (some 15)) (by show ((rInside a.x b.x) == true) = true; rw [h1]; rfl) rfl (st_cf (vs := [.agg #[.int .i64 a.y.lo, .int .i64 a.y.hi, .bool a.y.no], .agg #[.int .i64 b.y.lo, .int .i64 b.y.hi, .bool b.y.no]]) (r := .bool (rInside a.y b.y)) (c_rInside a.y b.y) Try.func118 rfl (by decide) rfl rfl rfl ?_)
    refine ao 16 rfl rfl (st_pkt' (b := rInside a.x b.x) (v := .bool (rInside a.y b.y)) h1 rfl rfl rfl ?_)
    refine ao 17 rfl rfl (st_move (v := .bool (rInside a.y b.y)) rfl rfl ?_)
    refine bool_split (rInside a.y b.y) (fun h2 => ?_) (fun h2 => ?_)
    · refine ar_gd (d := (some 18)) (by show ((rInside a.y b.y) == true) = true; rw [h2]; rfl) rfl (st_fa (g := g0) (off := 0) rfl fa58_2 rfl ?_)
      refine ar_gd (d := (some 19)) (by show ((rInside a.y b.y) == true) = true; rw [h2]; rfl) rfl (st_lda (g := g0) (off := 6) (vs := [.int .i64 a.z.lo, .int .i64 a.z.hi, .bool a.z.no]) agg35 1 rfl rfl rfl rfl rfl rfl ?_)
      refine ar_gd (d := (some 20)) (by show ((rInside a.y b.y) == true) = true; rw [h2]; rfl) rfl (st_fa (g := g1) (off := 0) rfl fa58_2 rfl ?_)
      refine ar_gd (d := (some 21)) (by show ((rInside a.y b.y) == true) = true; rw [h2]; rfl) rfl (st_lda (g := g1) (off := 6) (vs := [.int .i64 b.z.lo, .int .i64 b.z.hi, .bool b.z.no]) agg35 0 rfl rfl rfl rfl rfl rfl ?_)
      refine ar_gd (d := (some 22)) (by show ((rInside a.y b.y) == true) = true; rw [h2]; rfl) rfl (st_cf (vs := [.agg #[.int .i64 a.z.lo, .int .i64 a.z.hi, .bool a.z.no], .agg #[.int .i64 b.z.lo, .int .i64 b.z.hi, .bool b.z.no]]) (r := .bool (rInside a.z b.z)) (c_rInside a.z b.z) Try.func118 rfl (by decide) rfl rfl rfl ?_)
      refine ao 23 rfl rfl (st_pkt' (b := rInside a.y b.y) (v := .bool (rInside a.z b.z)) h2 rfl rfl rfl ?_)
      refine ao 4 rfl rfl (st_assign (v := .bool (rInside a.z b.z)) rfl rfl ?_)
      refine ar_nil ?_
      refine ac_ret ?_
      exact fin_eq (v := .bool (rInside a.z b.z)) (by show _ = (fun (r : Bool) => (.bool r : Value)) (rVecInside a b); rw [rVecInside, h2, h1] <;> rfl) (fin_ret (res_tmp rfl rfl))
    · refine ar_sk (d := (some 18)) (by show ((rInside a.y b.y) == true) = false; rw [h2]; rfl) rfl ?_
      refine ar_sk (d := (some 19)) (by show ((rInside a.y b.y) == true) = false; rw [h2]; rfl) rfl ?_
      refine ar_sk (d := (some 20)) (by show ((rInside a.y b.y) == true) = false; rw [h2]; rfl) rfl ?_
      refine ar_sk (d := (some 21)) (by show ((rInside a.y b.y) == true) = false; rw [h2]; rfl) rfl ?_
      refine ar_sk (d := (some 22)) (by show ((rInside a.y b.y) == true) = false; rw [h2]; rfl) rfl ?_
      refine ao 23 rfl rfl (st_pkf' (b := rInside a.y b.y) (v := .bool false) h2 rfl rfl rfl ?_)
      refine ao 4 rfl rfl (st_assign (v := .bool false) rfl rfl ?_)
      refine ar_nil ?_
      refine ac_ret ?_
      exact fin_eq (v := .bool false) (by show _ = (fun (r : Bool) => (.bool r : Value)) (rVecInside a b); rw [rVecInside, h2, h1] <;> rfl) (fin_ret (res_tmp rfl rfl))
  · refine ar_sk (d := (some 11)) (by show ((rInside a.x b.x) == true) = false; rw [h1]; rfl) rfl ?_
    refine ar_sk (d := (some 12)) (by show ((rInside a.x b.x) == true) = false; rw [h1]; rfl) rfl ?_
    refine ar_sk (d := (some 13)) (by show ((rInside a.x b.x) == true) = false; rw [h1]; rfl) rfl ?_
    refine ar_sk (d := (some 14)) (by show ((rInside a.x b.x) == true) = false; rw [h1]; rfl) rfl ?_
    refine ar_sk (d := (some 15)) (by show ((rInside a.x b.x) == true) = false; rw [h1]; rfl) rfl ?_
    refine ao 16 rfl rfl (st_pkf' (b := rInside a.x b.x) (v := .bool false) h1 rfl rfl rfl ?_)
    refine ao 17 rfl rfl (st_move (v := .bool false) rfl rfl ?_)
    refine ar_sk (d := (some 18)) rfl rfl ?_
    refine ar_sk (d := (some 19)) rfl rfl ?_
    refine ar_sk (d := (some 20)) rfl rfl ?_
    refine ar_sk (d := (some 21)) rfl rfl ?_
    refine ar_sk (d := (some 22)) rfl rfl ?_
    refine ao 23 rfl rfl (st_pkf (v := .bool false) rfl rfl rfl ?_)
    refine ao 4 rfl rfl (st_assign (v := .bool false) rfl rfl ?_)
    refine ar_nil ?_
    refine ac_ret ?_
    exact fin_eq (v := .bool false) (by show _ = (fun (r : Bool) => (.bool r : Value)) (rVecInside a b); rw [rVecInside, h1] <;> rfl) (fin_ret (res_tmp rfl rfl))
def rVecMirror (a : V) : V := (⟨a.x, (rNeg a.y), a.z⟩ : V)
set_option maxRecDepth 100000 in
theorem c_rVecMirror (a : V) : Gets Try.prog 133 #[.agg #[.int .i64 a.x.lo, .int .i64 a.x.hi, .bool a.x.no, .int .i64 a.y.lo, .int .i64 a.y.hi, .bool a.y.no, .int .i64 a.z.lo, .int .i64 a.z.hi, .bool a.z.no]] (V.v (rVecMirror a)) := by
  refine gets_fin Try.func133 rfl rfl rfl ?_
  refine ac_seq ?_
  refine ac_region_lit ?_
  refine ao 1 rfl rfl (st_box (v := .agg #[.int .i64 a.x.lo, .int .i64 a.x.hi, .bool a.x.no, .int .i64 a.y.lo, .int .i64 a.y.hi, .bool a.y.no, .int .i64 a.z.lo, .int .i64 a.z.hi, .bool a.z.no]) (cs := [.int .i64 a.x.lo, .int .i64 a.x.hi, .bool a.x.no, .int .i64 a.y.lo, .int .i64 a.y.hi, .bool a.y.no, .int .i64 a.z.lo, .int .i64 a.z.hi, .bool a.z.no]) rfl rfl rfl fun g0 => ?_)
  refine ao 2 rfl rfl (st_new zero58 rfl fun g1 => ?_)
  refine ar_nil ?_
  refine ac_seq ?_
  refine ac_draw0 (id := 1) [0, 1, 2, 3, 4, 5, 6, 7] [8] _ (by kernel_rfl) follows rfl  ?_
  refine dw_op (d := (some 3)) (.pointer (some ⟨g0, 0, none⟩)) rfl rfl rfl (st_fa (g := g0) (off := 0) rfl fa58_0 rfl ⟨rfl, rfl⟩) ?_
  refine dw_op (d := (some 4)) (.agg #[.int .i64 a.x.lo, .int .i64 a.x.hi, .bool a.x.no]) rfl rfl rfl (st_lda (g := g0) (off := 0) (vs := [.int .i64 a.x.lo, .int .i64 a.x.hi, .bool a.x.no]) agg35 1 rfl rfl rfl rfl rfl rfl ⟨rfl, rfl⟩) ?_
  refine dw_op (d := (some 5)) (.pointer (some ⟨g0, 3, none⟩)) rfl rfl rfl (st_fa (g := g0) (off := 0) rfl fa58_1 rfl ⟨rfl, rfl⟩) ?_
  refine dw_op (d := (some 6)) (.agg #[.int .i64 a.y.lo, .int .i64 a.y.hi, .bool a.y.no]) rfl rfl rfl (st_lda (g := g0) (off := 3) (vs := [.int .i64 a.y.lo, .int .i64 a.y.hi, .bool a.y.no]) agg35 1 rfl rfl rfl rfl rfl rfl ⟨rfl, rfl⟩) ?_
  refine dw_op (d := (some 7)) (.agg #[.int .i64 ((rNeg a.y).lo), .int .i64 ((rNeg a.y).hi), .bool ((rNeg a.y).no)]) rfl rfl rfl (st_cf (vs := [.agg #[.int .i64 a.y.lo, .int .i64 a.y.hi, .bool a.y.no]]) (r := .agg #[.int .i64 ((rNeg a.y).lo), .int .i64 ((rNeg a.y).hi), .bool ((rNeg a.y).no)]) (c_rNeg a.y) Try.func108 rfl (by decide) rfl rfl rfl ⟨rfl, rfl⟩) ?_
  refine dw_op (d := (some 8)) (.pointer (some ⟨g0, 6, none⟩)) rfl rfl rfl (st_fa (g := g0) (off := 0) rfl fa58_2 rfl ⟨rfl, rfl⟩) ?_
  refine dw_op (d := (some 9)) (.agg #[.int .i64 a.z.lo, .int .i64 a.z.hi, .bool a.z.no]) rfl rfl rfl (st_lda (g := g0) (off := 6) (vs := [.int .i64 a.z.lo, .int .i64 a.z.hi, .bool a.z.no]) agg35 1 rfl rfl rfl rfl rfl rfl ⟨rfl, rfl⟩) ?_
  refine dw_op (d := (some 10)) (.agg #[.int .i64 a.x.lo, .int .i64 a.x.hi, .bool a.x.no, .int .i64 ((rNeg a.y).lo), .int .i64 ((rNeg a.y).hi), .bool ((rNeg a.y).no), .int .i64 a.z.lo, .int .i64 a.z.hi, .bool a.z.no]) rfl rfl rfl (st_bd (us := [(0, .agg #[.int .i64 a.x.lo, .int .i64 a.x.hi, .bool a.x.no]), (1, .agg #[.int .i64 ((rNeg a.y).lo), .int .i64 ((rNeg a.y).hi), .bool ((rNeg a.y).no)]), (2, .agg #[.int .i64 a.z.lo, .int .i64 a.z.hi, .bool a.z.no])]) (v := .agg #[.int .i64 a.x.lo, .int .i64 a.x.hi, .bool a.x.no, .int .i64 ((rNeg a.y).lo), .int .i64 ((rNeg a.y).hi), .bool ((rNeg a.y).no), .int .i64 a.z.lo, .int .i64 a.z.hi, .bool a.z.no]) rfl rfl (bd58_0a_1a_2a _ _ _ _ _ _ _ _ _) ⟨rfl, rfl⟩) ?_
  refine dw_nil ?_
  refine ar_op (d := none) rfl rfl (st_sta (g := g1) (off := 0) (us := [.int .i64 a.x.lo, .int .i64 a.x.hi, .bool a.x.no, .int .i64 ((rNeg a.y).lo), .int .i64 ((rNeg a.y).hi), .bool ((rNeg a.y).no), .int .i64 a.z.lo, .int .i64 a.z.hi, .bool a.z.no]) (cs := [.int .i64 a.x.lo, .int .i64 a.x.hi, .bool a.x.no, .int .i64 ((rNeg a.y).lo), .int .i64 ((rNeg a.y).hi), .bool ((rNeg a.y).no), .int .i64 a.z.lo, .int .i64 a.z.hi, .bool a.z.no]) agg58 0 rfl rfl rfl rfl rfl rfl rfl rfl rfl ?_)
  refine ar_nil ?_
  refine ac_ret ?_
  exact fin_eq (v := .agg #[.int .i64 a.x.lo, .int .i64 a.x.hi, .bool a.x.no, .int .i64 ((rNeg a.y).lo), .int .i64 ((rNeg a.y).hi), .bool ((rNeg a.y).no), .int .i64 a.z.lo, .int .i64 a.z.hi, .bool a.z.no]) rfl (fin_ret (res_c (vs := [.int .i64 a.x.lo, .int .i64 a.x.hi, .bool a.x.no, .int .i64 ((rNeg a.y).lo), .int .i64 ((rNeg a.y).hi), .bool ((rNeg a.y).no), .int .i64 a.z.lo, .int .i64 a.z.hi, .bool a.z.no]) agg58 0 rfl rfl rfl rfl rfl rfl))
end Go.Proofs.Ytbaihncnbejjbaa
