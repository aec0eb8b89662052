import Derived.Test.YtbaihncnbejjbaaFacts2
import Derived.Test.YtbaihncnbejjbaaVec
import Derived.Test.YtbaihncnbejjbaaHand
set_option linter.unusedVariables false
set_option linter.unusedSimpArgs false
namespace Go.Proofs.Ytbaihncnbejjbaa
open Go.RowKit

attribute [local irreducible] AC AR DWalk
def known5_e0  : Bool := (ivHas ((vecUnit (vecOf (ivWhole 3) (ivWhole 0) (ivWhole 4))).x) 39321)
def known5_e1  : Bool := (ivHas ((vecUnit (vecOf (ivWhole 3) (ivWhole 0) (ivWhole 4))).y) 0)
def known5_e2  : Bool := (ivHas ((vecUnit (vecOf (ivWhole 3) (ivWhole 0) (ivWhole 4))).z) 52428)
def known5  : Bool := (bif known5_e0 then (bif known5_e1 then (bif known5_e2 then (bif decide ((w64 ((((vecUnit (vecOf (ivWhole 3) (ivWhole 0) (ivWhole 4))).x).hi) - (((vecUnit (vecOf (ivWhole 3) (ivWhole 0) (ivWhole 4))).x).lo))) ≤ 1) then decide ((w64 ((((vecUnit (vecOf (ivWhole 3) (ivWhole 0) (ivWhole 4))).z).hi) - (((vecUnit (vecOf (ivWhole 3) (ivWhole 0) (ivWhole 4))).z).lo))) ≤ 1) else false) else false) else false) else false)
set_option maxRecDepth 100000 in
theorem c_known5  : Gets Try.prog 82 #[] ((fun (r : Bool) => (.bool r : Value)) known5) := by
  refine gets_fin Try.func82 rfl rfl rfl ?_
  refine ac_seq ?_
  refine ac_region_lit ?_
  refine ao 0 rfl rfl (st_assign (v := .bool false) rfl rfl ?_)
  refine ar_nil ?_
  refine ac_seq ?_
  refine ac_region_lit ?_
  refine ao 2 rfl rfl (st_cf (vs := [.int .i64 3]) (r := .agg #[.int .i64 ((ivWhole 3).lo), .int .i64 ((ivWhole 3).hi), .bool ((ivWhole 3).no)]) (c_ivWhole 3) Try.func50 rfl (by decide) rfl rfl rfl ?_)
  refine ao 3 rfl rfl (st_cf (vs := [.int .i64 0]) (r := .agg #[.int .i64 ((ivWhole 0).lo), .int .i64 ((ivWhole 0).hi), .bool ((ivWhole 0).no)]) (c_ivWhole 0) Try.func50 rfl (by decide) rfl rfl rfl ?_)
  refine ao 4 rfl rfl (st_cf (vs := [.int .i64 4]) (r := .agg #[.int .i64 ((ivWhole 4).lo), .int .i64 ((ivWhole 4).hi), .bool ((ivWhole 4).no)]) (c_ivWhole 4) Try.func50 rfl (by decide) rfl rfl rfl ?_)
  refine ao 5 rfl rfl (st_cf (vs := [.agg #[.int .i64 ((ivWhole 3).lo), .int .i64 ((ivWhole 3).hi), .bool ((ivWhole 3).no)], .agg #[.int .i64 ((ivWhole 0).lo), .int .i64 ((ivWhole 0).hi), .bool ((ivWhole 0).no)], .agg #[.int .i64 ((ivWhole 4).lo), .int .i64 ((ivWhole 4).hi), .bool ((ivWhole 4).no)]]) (r := .agg #[.int .i64 (((vecOf (ivWhole 3) (ivWhole 0) (ivWhole 4)).x).lo), .int .i64 (((vecOf (ivWhole 3) (ivWhole 0) (ivWhole 4)).x).hi), .bool (((vecOf (ivWhole 3) (ivWhole 0) (ivWhole 4)).x).no), .int .i64 (((vecOf (ivWhole 3) (ivWhole 0) (ivWhole 4)).y).lo), .int .i64 (((vecOf (ivWhole 3) (ivWhole 0) (ivWhole 4)).y).hi), .bool (((vecOf (ivWhole 3) (ivWhole 0) (ivWhole 4)).y).no), .int .i64 (((vecOf (ivWhole 3) (ivWhole 0) (ivWhole 4)).z).lo), .int .i64 (((vecOf (ivWhole 3) (ivWhole 0) (ivWhole 4)).z).hi), .bool (((vecOf (ivWhole 3) (ivWhole 0) (ivWhole 4)).z).no)]) (c_vecOf (ivWhole 3) (ivWhole 0) (ivWhole 4)) Try.func80 rfl (by decide) rfl rfl rfl ?_)
  refine ao 6 rfl rfl (st_cf (vs := [.agg #[.int .i64 (((vecOf (ivWhole 3) (ivWhole 0) (ivWhole 4)).x).lo), .int .i64 (((vecOf (ivWhole 3) (ivWhole 0) (ivWhole 4)).x).hi), .bool (((vecOf (ivWhole 3) (ivWhole 0) (ivWhole 4)).x).no), .int .i64 (((vecOf (ivWhole 3) (ivWhole 0) (ivWhole 4)).y).lo), .int .i64 (((vecOf (ivWhole 3) (ivWhole 0) (ivWhole 4)).y).hi), .bool (((vecOf (ivWhole 3) (ivWhole 0) (ivWhole 4)).y).no), .int .i64 (((vecOf (ivWhole 3) (ivWhole 0) (ivWhole 4)).z).lo), .int .i64 (((vecOf (ivWhole 3) (ivWhole 0) (ivWhole 4)).z).hi), .bool (((vecOf (ivWhole 3) (ivWhole 0) (ivWhole 4)).z).no)]]) (r := .agg #[.int .i64 (((vecUnit (vecOf (ivWhole 3) (ivWhole 0) (ivWhole 4))).x).lo), .int .i64 (((vecUnit (vecOf (ivWhole 3) (ivWhole 0) (ivWhole 4))).x).hi), .bool (((vecUnit (vecOf (ivWhole 3) (ivWhole 0) (ivWhole 4))).x).no), .int .i64 (((vecUnit (vecOf (ivWhole 3) (ivWhole 0) (ivWhole 4))).y).lo), .int .i64 (((vecUnit (vecOf (ivWhole 3) (ivWhole 0) (ivWhole 4))).y).hi), .bool (((vecUnit (vecOf (ivWhole 3) (ivWhole 0) (ivWhole 4))).y).no), .int .i64 (((vecUnit (vecOf (ivWhole 3) (ivWhole 0) (ivWhole 4))).z).lo), .int .i64 (((vecUnit (vecOf (ivWhole 3) (ivWhole 0) (ivWhole 4))).z).hi), .bool (((vecUnit (vecOf (ivWhole 3) (ivWhole 0) (ivWhole 4))).z).no)]) (c_vecUnit (vecOf (ivWhole 3) (ivWhole 0) (ivWhole 4))) Try.func77 rfl (by decide) rfl rfl rfl ?_)
  refine ao 1 rfl rfl (st_new zero58 rfl fun g0 => ?_)
  refine ar_op (d := none) rfl rfl (st_sta (g := g0) (off := 0) (us := [.int .i64 (((vecUnit (vecOf (ivWhole 3) (ivWhole 0) (ivWhole 4))).x).lo), .int .i64 (((vecUnit (vecOf (ivWhole 3) (ivWhole 0) (ivWhole 4))).x).hi), .bool (((vecUnit (vecOf (ivWhole 3) (ivWhole 0) (ivWhole 4))).x).no), .int .i64 (((vecUnit (vecOf (ivWhole 3) (ivWhole 0) (ivWhole 4))).y).lo), .int .i64 (((vecUnit (vecOf (ivWhole 3) (ivWhole 0) (ivWhole 4))).y).hi), .bool (((vecUnit (vecOf (ivWhole 3) (ivWhole 0) (ivWhole 4))).y).no), .int .i64 (((vecUnit (vecOf (ivWhole 3) (ivWhole 0) (ivWhole 4))).z).lo), .int .i64 (((vecUnit (vecOf (ivWhole 3) (ivWhole 0) (ivWhole 4))).z).hi), .bool (((vecUnit (vecOf (ivWhole 3) (ivWhole 0) (ivWhole 4))).z).no)]) (cs := [.int .i64 (((vecUnit (vecOf (ivWhole 3) (ivWhole 0) (ivWhole 4))).x).lo), .int .i64 (((vecUnit (vecOf (ivWhole 3) (ivWhole 0) (ivWhole 4))).x).hi), .bool (((vecUnit (vecOf (ivWhole 3) (ivWhole 0) (ivWhole 4))).x).no), .int .i64 (((vecUnit (vecOf (ivWhole 3) (ivWhole 0) (ivWhole 4))).y).lo), .int .i64 (((vecUnit (vecOf (ivWhole 3) (ivWhole 0) (ivWhole 4))).y).hi), .bool (((vecUnit (vecOf (ivWhole 3) (ivWhole 0) (ivWhole 4))).y).no), .int .i64 (((vecUnit (vecOf (ivWhole 3) (ivWhole 0) (ivWhole 4))).z).lo), .int .i64 (((vecUnit (vecOf (ivWhole 3) (ivWhole 0) (ivWhole 4))).z).hi), .bool (((vecUnit (vecOf (ivWhole 3) (ivWhole 0) (ivWhole 4))).z).no)]) agg58 0 rfl rfl rfl rfl rfl rfl rfl rfl rfl ?_)
  refine ar_nil ?_
  refine ac_seq ?_
  refine ac_region_lit ?_
  refine ao 7 rfl rfl (st_fa (g := g0) (off := 0) rfl fa58_0 rfl ?_)
  refine ao 8 rfl rfl (st_lda (g := g0) (off := 0) (vs := [.int .i64 (((vecUnit (vecOf (ivWhole 3) (ivWhole 0) (ivWhole 4))).x).lo), .int .i64 (((vecUnit (vecOf (ivWhole 3) (ivWhole 0) (ivWhole 4))).x).hi), .bool (((vecUnit (vecOf (ivWhole 3) (ivWhole 0) (ivWhole 4))).x).no)]) agg35 0 rfl rfl rfl rfl rfl rfl ?_)
  refine ao 9 rfl rfl (st_cf (vs := [.agg #[.int .i64 (((vecUnit (vecOf (ivWhole 3) (ivWhole 0) (ivWhole 4))).x).lo), .int .i64 (((vecUnit (vecOf (ivWhole 3) (ivWhole 0) (ivWhole 4))).x).hi), .bool (((vecUnit (vecOf (ivWhole 3) (ivWhole 0) (ivWhole 4))).x).no)], .int .i64 39321]) (r := .bool known5_e0) (c_ivHas ((vecUnit (vecOf (ivWhole 3) (ivWhole 0) (ivWhole 4))).x) 39321) Try.func53 rfl (by decide) rfl rfl rfl ?_)
  refine ao 10 rfl rfl (st_move (v := .bool known5_e0) rfl rfl ?_)
  refine bool_split (known5_e0) (fun h1 => ?_) (fun h1 => ?_)
  · refine ar_gd (d := (some 11)) (by show (known5_e0 == true) = true; rw [h1]; rfl) rfl (st_fa (g := g0) (off := 0) rfl fa58_1 rfl ?_)
    refine ar_gd (d := (some 12)) (by show (known5_e0 == true) = true; rw [h1]; rfl) rfl (st_lda (g := g0) (off := 3) (vs := [.int .i64 (((vecUnit (vecOf (ivWhole 3) (ivWhole 0) (ivWhole 4))).y).lo), .int .i64 (((vecUnit (vecOf (ivWhole 3) (ivWhole 0) (ivWhole 4))).y).hi), .bool (((vecUnit (vecOf (ivWhole 3) (ivWhole 0) (ivWhole 4))).y).no)]) agg35 0 rfl rfl rfl rfl rfl rfl ?_)
    refine ar_gd (d := (some 13)) (by show (known5_e0 == true) = true; rw [h1]; rfl) rfl (st_cf (vs := [.agg #[.int .i64 (((vecUnit (vecOf (ivWhole 3) (ivWhole 0) (ivWhole 4))).y).lo), .int .i64 (((vecUnit (vecOf (ivWhole 3) (ivWhole 0) (ivWhole 4))).y).hi), .bool (((vecUnit (vecOf (ivWhole 3) (ivWhole 0) (ivWhole 4))).y).no)], .int .i64 0]) (r := .bool known5_e1) (c_ivHas ((vecUnit (vecOf (ivWhole 3) (ivWhole 0) (ivWhole 4))).y) 0) Try.func53 rfl (by decide) rfl rfl rfl ?_)
    refine ao 14 rfl rfl (st_pkt' (b := known5_e0) (v := .bool known5_e1) h1 rfl rfl rfl ?_)
    refine ao 15 rfl rfl (st_move (v := .bool known5_e1) rfl rfl ?_)
    refine bool_split (known5_e1) (fun h2 => ?_) (fun h2 => ?_)
    · refine ar_gd (d := (some 16)) (by show (known5_e1 == true) = true; rw [h2]; rfl) rfl (st_fa (g := g0) (off := 0) rfl fa58_2 rfl ?_)
      refine ar_gd (d := (some 17)) (by show (known5_e1 == true) = true; rw [h2]; rfl) rfl (st_lda (g := g0) (off := 6) (vs := [.int .i64 (((vecUnit (vecOf (ivWhole 3) (ivWhole 0) (ivWhole 4))).z).lo), .int .i64 (((vecUnit (vecOf (ivWhole 3) (ivWhole 0) (ivWhole 4))).z).hi), .bool (((vecUnit (vecOf (ivWhole 3) (ivWhole 0) (ivWhole 4))).z).no)]) agg35 0 rfl rfl rfl rfl rfl rfl ?_)
      refine ar_gd (d := (some 18)) (by show (known5_e1 == true) = true; rw [h2]; rfl) rfl (st_cf (vs := [.agg #[.int .i64 (((vecUnit (vecOf (ivWhole 3) (ivWhole 0) (ivWhole 4))).z).lo), .int .i64 (((vecUnit (vecOf (ivWhole 3) (ivWhole 0) (ivWhole 4))).z).hi), .bool (((vecUnit (vecOf (ivWhole 3) (ivWhole 0) (ivWhole 4))).z).no)], .int .i64 52428]) (r := .bool known5_e2) (c_ivHas ((vecUnit (vecOf (ivWhole 3) (ivWhole 0) (ivWhole 4))).z) 52428) Try.func53 rfl (by decide) rfl rfl rfl ?_)
      refine ao 19 rfl rfl (st_pkt' (b := known5_e1) (v := .bool known5_e2) h2 rfl rfl rfl ?_)
      refine ao 20 rfl rfl (st_move (v := .bool known5_e2) rfl rfl ?_)
      refine bool_split (known5_e2) (fun h3 => ?_) (fun h3 => ?_)
      · refine ar_gd (d := (some 21)) (by show (known5_e2 == true) = true; rw [h3]; rfl) rfl (st_fa (g := g0) (off := 0) rfl fa58_0 rfl ?_)
        refine ar_gd (d := (some 22)) (by show (known5_e2 == true) = true; rw [h3]; rfl) rfl (st_fa (g := g0) (off := 0) rfl fa35_1 rfl ?_)
        refine ar_gd (d := (some 23)) (by show (known5_e2 == true) = true; rw [h3]; rfl) rfl (st_ldc (g := g0) (off := 1) (v := .int .i64 (((vecUnit (vecOf (ivWhole 3) (ivWhole 0) (ivWhole 4))).x).hi)) cell3 0 rfl rfl rfl rfl rfl ?_)
        refine ar_gd (d := (some 24)) (by show (known5_e2 == true) = true; rw [h3]; rfl) rfl (st_fa (g := g0) (off := 0) rfl fa58_0 rfl ?_)
        refine ar_gd (d := (some 25)) (by show (known5_e2 == true) = true; rw [h3]; rfl) rfl (st_fa (g := g0) (off := 0) rfl fa35_0 rfl ?_)
        refine ar_gd (d := (some 26)) (by show (known5_e2 == true) = true; rw [h3]; rfl) rfl (st_ldc (g := g0) (off := 0) (v := .int .i64 (((vecUnit (vecOf (ivWhole 3) (ivWhole 0) (ivWhole 4))).x).lo)) cell3 0 rfl rfl rfl rfl rfl ?_)
        refine ar_gd (d := (some 27)) (by show (known5_e2 == true) = true; rw [h3]; rfl) rfl (st_bi (u := .int .i64 (((vecUnit (vecOf (ivWhole 3) (ivWhole 0) (ivWhole 4))).x).hi)) (v := .int .i64 (((vecUnit (vecOf (ivWhole 3) (ivWhole 0) (ivWhole 4))).x).lo)) (r := .int .i64 (w64 ((((vecUnit (vecOf (ivWhole 3) (ivWhole 0) (ivWhole 4))).x).hi) - (((vecUnit (vecOf (ivWhole 3) (ivWhole 0) (ivWhole 4))).x).lo)))) rfl rfl rfl (bi_sub rfl) ?_)
        refine ar_gd (d := (some 28)) (by show (known5_e2 == true) = true; rw [h3]; rfl) rfl (st_bi (u := .int .i64 (w64 ((((vecUnit (vecOf (ivWhole 3) (ivWhole 0) (ivWhole 4))).x).hi) - (((vecUnit (vecOf (ivWhole 3) (ivWhole 0) (ivWhole 4))).x).lo)))) (v := .int .i64 1) (r := .bool (decide ((w64 ((((vecUnit (vecOf (ivWhole 3) (ivWhole 0) (ivWhole 4))).x).hi) - (((vecUnit (vecOf (ivWhole 3) (ivWhole 0) (ivWhole 4))).x).lo))) ≤ 1))) rfl rfl rfl (bi_leq rfl) ?_)
        refine ao 29 rfl rfl (st_pkt' (b := known5_e2) (v := .bool (decide ((w64 ((((vecUnit (vecOf (ivWhole 3) (ivWhole 0) (ivWhole 4))).x).hi) - (((vecUnit (vecOf (ivWhole 3) (ivWhole 0) (ivWhole 4))).x).lo))) ≤ 1))) h3 rfl rfl rfl ?_)
        refine ao 30 rfl rfl (st_move (v := .bool (decide ((w64 ((((vecUnit (vecOf (ivWhole 3) (ivWhole 0) (ivWhole 4))).x).hi) - (((vecUnit (vecOf (ivWhole 3) (ivWhole 0) (ivWhole 4))).x).lo))) ≤ 1))) rfl rfl ?_)
        refine bool_split (decide ((w64 ((((vecUnit (vecOf (ivWhole 3) (ivWhole 0) (ivWhole 4))).x).hi) - (((vecUnit (vecOf (ivWhole 3) (ivWhole 0) (ivWhole 4))).x).lo))) ≤ 1)) (fun h4 => ?_) (fun h4 => ?_)
        · refine ar_gd (d := (some 31)) (by show ((decide ((w64 ((((vecUnit (vecOf (ivWhole 3) (ivWhole 0) (ivWhole 4))).x).hi) - (((vecUnit (vecOf (ivWhole 3) (ivWhole 0) (ivWhole 4))).x).lo))) ≤ 1)) == true) = true; rw [h4]; rfl) rfl (st_fa (g := g0) (off := 0) rfl fa58_2 rfl ?_)
          refine ar_gd (d := (some 32)) (by show ((decide ((w64 ((((vecUnit (vecOf (ivWhole 3) (ivWhole 0) (ivWhole 4))).x).hi) - (((vecUnit (vecOf (ivWhole 3) (ivWhole 0) (ivWhole 4))).x).lo))) ≤ 1)) == true) = true; rw [h4]; rfl) rfl (st_fa (g := g0) (off := 6) rfl fa35_1 rfl ?_)
          refine ar_gd (d := (some 33)) (by show ((decide ((w64 ((((vecUnit (vecOf (ivWhole 3) (ivWhole 0) (ivWhole 4))).x).hi) - (((vecUnit (vecOf (ivWhole 3) (ivWhole 0) (ivWhole 4))).x).lo))) ≤ 1)) == true) = true; rw [h4]; rfl) rfl (st_ldc (g := g0) (off := 7) (v := .int .i64 (((vecUnit (vecOf (ivWhole 3) (ivWhole 0) (ivWhole 4))).z).hi)) cell3 0 rfl rfl rfl rfl rfl ?_)
          refine ar_gd (d := (some 34)) (by show ((decide ((w64 ((((vecUnit (vecOf (ivWhole 3) (ivWhole 0) (ivWhole 4))).x).hi) - (((vecUnit (vecOf (ivWhole 3) (ivWhole 0) (ivWhole 4))).x).lo))) ≤ 1)) == true) = true; rw [h4]; rfl) rfl (st_fa (g := g0) (off := 0) rfl fa58_2 rfl ?_)
          refine ar_gd (d := (some 35)) (by show ((decide ((w64 ((((vecUnit (vecOf (ivWhole 3) (ivWhole 0) (ivWhole 4))).x).hi) - (((vecUnit (vecOf (ivWhole 3) (ivWhole 0) (ivWhole 4))).x).lo))) ≤ 1)) == true) = true; rw [h4]; rfl) rfl (st_fa (g := g0) (off := 6) rfl fa35_0 rfl ?_)
          refine ar_gd (d := (some 36)) (by show ((decide ((w64 ((((vecUnit (vecOf (ivWhole 3) (ivWhole 0) (ivWhole 4))).x).hi) - (((vecUnit (vecOf (ivWhole 3) (ivWhole 0) (ivWhole 4))).x).lo))) ≤ 1)) == true) = true; rw [h4]; rfl) rfl (st_ldc (g := g0) (off := 6) (v := .int .i64 (((vecUnit (vecOf (ivWhole 3) (ivWhole 0) (ivWhole 4))).z).lo)) cell3 0 rfl rfl rfl rfl rfl ?_)
          refine ar_gd (d := (some 37)) (by show ((decide ((w64 ((((vecUnit (vecOf (ivWhole 3) (ivWhole 0) (ivWhole 4))).x).hi) - (((vecUnit (vecOf (ivWhole 3) (ivWhole 0) (ivWhole 4))).x).lo))) ≤ 1)) == true) = true; rw [h4]; rfl) rfl (st_bi (u := .int .i64 (((vecUnit (vecOf (ivWhole 3) (ivWhole 0) (ivWhole 4))).z).hi)) (v := .int .i64 (((vecUnit (vecOf (ivWhole 3) (ivWhole 0) (ivWhole 4))).z).lo)) (r := .int .i64 (w64 ((((vecUnit (vecOf (ivWhole 3) (ivWhole 0) (ivWhole 4))).z).hi) - (((vecUnit (vecOf (ivWhole 3) (ivWhole 0) (ivWhole 4))).z).lo)))) rfl rfl rfl (bi_sub rfl) ?_)
          refine ar_gd (d := (some 38)) (by show ((decide ((w64 ((((vecUnit (vecOf (ivWhole 3) (ivWhole 0) (ivWhole 4))).x).hi) - (((vecUnit (vecOf (ivWhole 3) (ivWhole 0) (ivWhole 4))).x).lo))) ≤ 1)) == true) = true; rw [h4]; rfl) rfl (st_bi (u := .int .i64 (w64 ((((vecUnit (vecOf (ivWhole 3) (ivWhole 0) (ivWhole 4))).z).hi) - (((vecUnit (vecOf (ivWhole 3) (ivWhole 0) (ivWhole 4))).z).lo)))) (v := .int .i64 1) (r := .bool (decide ((w64 ((((vecUnit (vecOf (ivWhole 3) (ivWhole 0) (ivWhole 4))).z).hi) - (((vecUnit (vecOf (ivWhole 3) (ivWhole 0) (ivWhole 4))).z).lo))) ≤ 1))) rfl rfl rfl (bi_leq rfl) ?_)
          refine ao 39 rfl rfl (st_pkt' (b := decide ((w64 ((((vecUnit (vecOf (ivWhole 3) (ivWhole 0) (ivWhole 4))).x).hi) - (((vecUnit (vecOf (ivWhole 3) (ivWhole 0) (ivWhole 4))).x).lo))) ≤ 1)) (v := .bool (decide ((w64 ((((vecUnit (vecOf (ivWhole 3) (ivWhole 0) (ivWhole 4))).z).hi) - (((vecUnit (vecOf (ivWhole 3) (ivWhole 0) (ivWhole 4))).z).lo))) ≤ 1))) h4 rfl rfl rfl ?_)
          refine ao 0 rfl rfl (st_assign (v := .bool (decide ((w64 ((((vecUnit (vecOf (ivWhole 3) (ivWhole 0) (ivWhole 4))).z).hi) - (((vecUnit (vecOf (ivWhole 3) (ivWhole 0) (ivWhole 4))).z).lo))) ≤ 1))) rfl rfl ?_)
          refine ar_nil ?_
          refine ac_ret ?_
          exact fin_eq (v := .bool (decide ((w64 ((((vecUnit (vecOf (ivWhole 3) (ivWhole 0) (ivWhole 4))).z).hi) - (((vecUnit (vecOf (ivWhole 3) (ivWhole 0) (ivWhole 4))).z).lo))) ≤ 1))) (by show _ = (fun (r : Bool) => (.bool r : Value)) known5; rw [known5, h4, h3, h2, h1] <;> rfl) (fin_ret (res_tmp rfl rfl))
        · refine ar_sk (d := (some 31)) (by show ((decide ((w64 ((((vecUnit (vecOf (ivWhole 3) (ivWhole 0) (ivWhole 4))).x).hi) - (((vecUnit (vecOf (ivWhole 3) (ivWhole 0) (ivWhole 4))).x).lo))) ≤ 1)) == true) = false; rw [h4]; rfl) rfl ?_
          refine ar_sk (d := (some 32)) (by show ((decide ((w64 ((((vecUnit (vecOf (ivWhole 3) (ivWhole 0) (ivWhole 4))).x).hi) - (((vecUnit (vecOf (ivWhole 3) (ivWhole 0) (ivWhole 4))).x).lo))) ≤ 1)) == true) = false; rw [h4]; rfl) rfl ?_
          refine ar_sk (d := (some 33)) (by show ((decide ((w64 ((((vecUnit (vecOf (ivWhole 3) (ivWhole 0) (ivWhole 4))).x).hi) - (((vecUnit (vecOf (ivWhole 3) (ivWhole 0) (ivWhole 4))).x).lo))) ≤ 1)) == true) = false; rw [h4]; rfl) rfl ?_
          refine ar_sk (d := (some 34)) (by show ((decide ((w64 ((((vecUnit (vecOf (ivWhole 3) (ivWhole 0) (ivWhole 4))).x).hi) - (((vecUnit (vecOf (ivWhole 3) (ivWhole 0) (ivWhole 4))).x).lo))) ≤ 1)) == true) = false; rw [h4]; rfl) rfl ?_
          refine ar_sk (d := (some 35)) (by show ((decide ((w64 ((((vecUnit (vecOf (ivWhole 3) (ivWhole 0) (ivWhole 4))).x).hi) - (((vecUnit (vecOf (ivWhole 3) (ivWhole 0) (ivWhole 4))).x).lo))) ≤ 1)) == true) = false; rw [h4]; rfl) rfl ?_
          refine ar_sk (d := (some 36)) (by show ((decide ((w64 ((((vecUnit (vecOf (ivWhole 3) (ivWhole 0) (ivWhole 4))).x).hi) - (((vecUnit (vecOf (ivWhole 3) (ivWhole 0) (ivWhole 4))).x).lo))) ≤ 1)) == true) = false; rw [h4]; rfl) rfl ?_
          refine ar_sk (d := (some 37)) (by show ((decide ((w64 ((((vecUnit (vecOf (ivWhole 3) (ivWhole 0) (ivWhole 4))).x).hi) - (((vecUnit (vecOf (ivWhole 3) (ivWhole 0) (ivWhole 4))).x).lo))) ≤ 1)) == true) = false; rw [h4]; rfl) rfl ?_
          refine ar_sk (d := (some 38)) (by show ((decide ((w64 ((((vecUnit (vecOf (ivWhole 3) (ivWhole 0) (ivWhole 4))).x).hi) - (((vecUnit (vecOf (ivWhole 3) (ivWhole 0) (ivWhole 4))).x).lo))) ≤ 1)) == true) = false; rw [h4]; rfl) rfl ?_
          refine ao 39 rfl rfl (st_pkf' (b := decide ((w64 ((((vecUnit (vecOf (ivWhole 3) (ivWhole 0) (ivWhole 4))).x).hi) - (((vecUnit (vecOf (ivWhole 3) (ivWhole 0) (ivWhole 4))).x).lo))) ≤ 1)) (v := .bool false) h4 rfl rfl rfl ?_)
          refine ao 0 rfl rfl (st_assign (v := .bool false) rfl rfl ?_)
          refine ar_nil ?_
          refine ac_ret ?_
          exact fin_eq (v := .bool false) (by show _ = (fun (r : Bool) => (.bool r : Value)) known5; rw [known5, h4, h3, h2, h1] <;> rfl) (fin_ret (res_tmp rfl rfl))
      · refine ar_sk (d := (some 21)) (by show (known5_e2 == true) = false; rw [h3]; rfl) rfl ?_
        refine ar_sk (d := (some 22)) (by show (known5_e2 == true) = false; rw [h3]; rfl) rfl ?_
        refine ar_sk (d := (some 23)) (by show (known5_e2 == true) = false; rw [h3]; rfl) rfl ?_
        refine ar_sk (d := (some 24)) (by show (known5_e2 == true) = false; rw [h3]; rfl) rfl ?_
        refine ar_sk (d := (some 25)) (by show (known5_e2 == true) = false; rw [h3]; rfl) rfl ?_
        refine ar_sk (d := (some 26)) (by show (known5_e2 == true) = false; rw [h3]; rfl) rfl ?_
        refine ar_sk (d := (some 27)) (by show (known5_e2 == true) = false; rw [h3]; rfl) rfl ?_
        refine ar_sk (d := (some 28)) (by show (known5_e2 == true) = false; rw [h3]; rfl) rfl ?_
        refine ao 29 rfl rfl (st_pkf' (b := known5_e2) (v := .bool false) h3 rfl rfl rfl ?_)
        refine ao 30 rfl rfl (st_move (v := .bool false) rfl rfl ?_)
        refine ar_sk (d := (some 31)) rfl rfl ?_
        refine ar_sk (d := (some 32)) rfl rfl ?_
        refine ar_sk (d := (some 33)) rfl rfl ?_
        refine ar_sk (d := (some 34)) rfl rfl ?_
        refine ar_sk (d := (some 35)) rfl rfl ?_
        refine ar_sk (d := (some 36)) rfl rfl ?_
        refine ar_sk (d := (some 37)) rfl rfl ?_
        refine ar_sk (d := (some 38)) rfl rfl ?_
        refine ao 39 rfl rfl (st_pkf (v := .bool false) rfl rfl rfl ?_)
        refine ao 0 rfl rfl (st_assign (v := .bool false) rfl rfl ?_)
        refine ar_nil ?_
        refine ac_ret ?_
        exact fin_eq (v := .bool false) (by show _ = (fun (r : Bool) => (.bool r : Value)) known5; rw [known5, h3, h2, h1] <;> rfl) (fin_ret (res_tmp rfl rfl))
    · refine ar_sk (d := (some 16)) (by show (known5_e1 == true) = false; rw [h2]; rfl) rfl ?_
      refine ar_sk (d := (some 17)) (by show (known5_e1 == true) = false; rw [h2]; rfl) rfl ?_
      refine ar_sk (d := (some 18)) (by show (known5_e1 == true) = false; rw [h2]; rfl) rfl ?_
      refine ao 19 rfl rfl (st_pkf' (b := known5_e1) (v := .bool false) h2 rfl rfl rfl ?_)
      refine ao 20 rfl rfl (st_move (v := .bool false) rfl rfl ?_)
      refine ar_sk (d := (some 21)) rfl rfl ?_
      refine ar_sk (d := (some 22)) rfl rfl ?_
      refine ar_sk (d := (some 23)) rfl rfl ?_
      refine ar_sk (d := (some 24)) rfl rfl ?_
      refine ar_sk (d := (some 25)) rfl rfl ?_
      refine ar_sk (d := (some 26)) rfl rfl ?_
      refine ar_sk (d := (some 27)) rfl rfl ?_
      refine ar_sk (d := (some 28)) rfl rfl ?_
      refine ao 29 rfl rfl (st_pkf (v := .bool false) rfl rfl rfl ?_)
      refine ao 30 rfl rfl (st_move (v := .bool false) rfl rfl ?_)
      refine ar_sk (d := (some 31)) rfl rfl ?_
      refine ar_sk (d := (some 32)) rfl rfl ?_
      refine ar_sk (d := (some 33)) rfl rfl ?_
      refine ar_sk (d := (some 34)) rfl rfl ?_
      refine ar_sk (d := (some 35)) rfl rfl ?_
      refine ar_sk (d := (some 36)) rfl rfl ?_
      refine ar_sk (d := (some 37)) rfl rfl ?_
      refine ar_sk (d := (some 38)) rfl rfl ?_
      refine ao 39 rfl rfl (st_pkf (v := .bool false) rfl rfl rfl ?_)
      refine ao 0 rfl rfl (st_assign (v := .bool false) rfl rfl ?_)
      refine ar_nil ?_
      refine ac_ret ?_
      exact fin_eq (v := .bool false) (by show _ = (fun (r : Bool) => (.bool r : Value)) known5; rw [known5, h2, h1] <;> rfl) (fin_ret (res_tmp rfl rfl))
  · refine ar_sk (d := (some 11)) (by show (known5_e0 == true) = false; rw [h1]; rfl) rfl ?_
    refine ar_sk (d := (some 12)) (by show (known5_e0 == true) = false; rw [h1]; rfl) rfl ?_
    refine ar_sk (d := (some 13)) (by show (known5_e0 == true) = false; rw [h1]; rfl) rfl ?_
    refine ao 14 rfl rfl (st_pkf' (b := known5_e0) (v := .bool false) h1 rfl rfl rfl ?_)
    refine ao 15 rfl rfl (st_move (v := .bool false) rfl rfl ?_)
    refine ar_sk (d := (some 16)) rfl rfl ?_
    refine ar_sk (d := (some 17)) rfl rfl ?_
    refine ar_sk (d := (some 18)) rfl rfl ?_
    refine ao 19 rfl rfl (st_pkf (v := .bool false) rfl rfl rfl ?_)
    refine ao 20 rfl rfl (st_move (v := .bool false) rfl rfl ?_)
    refine ar_sk (d := (some 21)) rfl rfl ?_
    refine ar_sk (d := (some 22)) rfl rfl ?_
    refine ar_sk (d := (some 23)) rfl rfl ?_
    refine ar_sk (d := (some 24)) rfl rfl ?_
    refine ar_sk (d := (some 25)) rfl rfl ?_
    refine ar_sk (d := (some 26)) rfl rfl ?_
    refine ar_sk (d := (some 27)) rfl rfl ?_
    refine ar_sk (d := (some 28)) rfl rfl ?_
    refine ao 29 rfl rfl (st_pkf (v := .bool false) rfl rfl rfl ?_)
    refine ao 30 rfl rfl (st_move (v := .bool false) rfl rfl ?_)
    refine ar_sk (d := (some 31)) rfl rfl ?_
    refine ar_sk (d := (some 32)) rfl rfl ?_
    refine ar_sk (d := (some 33)) rfl rfl ?_
    refine ar_sk (d := (some 34)) rfl rfl ?_
    refine ar_sk (d := (some 35)) rfl rfl ?_
    refine ar_sk (d := (some 36)) rfl rfl ?_
    refine ar_sk (d := (some 37)) rfl rfl ?_
    refine ar_sk (d := (some 38)) rfl rfl ?_
    refine ao 39 rfl rfl (st_pkf (v := .bool false) rfl rfl rfl ?_)
    refine ao 0 rfl rfl (st_assign (v := .bool false) rfl rfl ?_)
    refine ar_nil ?_
    refine ac_ret ?_
    exact fin_eq (v := .bool false) (by show _ = (fun (r : Bool) => (.bool r : Value)) known5; rw [known5, h1] <;> rfl) (fin_ret (res_tmp rfl rfl))
def tame5 (l : A6) : V := (⟨(hTame l.a0 l.a1), (hTame l.a2 l.a3), (hTame l.a4 l.a5)⟩ : V)
set_option maxRecDepth 100000 in
theorem c_tame5 (l : A6) : Gets Try.prog 76 #[.agg #[.int .i64 l.a0, .int .i64 l.a1, .int .i64 l.a2, .int .i64 l.a3, .int .i64 l.a4, .int .i64 l.a5]] (V.v (tame5 l)) := by
  refine gets_fin Try.func76 rfl rfl rfl ?_
  refine ac_seq ?_
  refine ac_region_lit ?_
  refine ao 1 rfl rfl (st_box (v := .agg #[.int .i64 l.a0, .int .i64 l.a1, .int .i64 l.a2, .int .i64 l.a3, .int .i64 l.a4, .int .i64 l.a5]) (cs := [.int .i64 l.a0, .int .i64 l.a1, .int .i64 l.a2, .int .i64 l.a3, .int .i64 l.a4, .int .i64 l.a5]) rfl rfl rfl fun g0 => ?_)
  refine ao 2 rfl rfl (st_new zero58 rfl fun g1 => ?_)
  refine ar_nil ?_
  refine ac_seq ?_
  refine ac_draw0 (id := 1) [0, 1, 2, 3, 4, 5, 6, 7, 8, 9, 10, 11, 12, 13, 14, 15] [16] _ (by kernel_rfl) follows rfl  ?_
  refine dw_op (d := (some 3)) (.pointer (some ⟨g0, 0, none⟩)) rfl rfl rfl (st_ia (u := .pointer (some ⟨g0, 0, none⟩)) (i := .int .i64 0) (v := .pointer (some ⟨g0, 0, none⟩)) rfl rfl rfl (ia56_0 _ _) ⟨rfl, rfl⟩) ?_
  refine dw_op (d := (some 4)) (.int .i64 l.a0) rfl rfl rfl (st_ldc (g := g0) (off := 0) (v := .int .i64 l.a0) cell3 1 rfl rfl rfl rfl rfl ⟨rfl, rfl⟩) ?_
  refine dw_op (d := (some 5)) (.pointer (some ⟨g0, 1, none⟩)) rfl rfl rfl (st_ia (u := .pointer (some ⟨g0, 0, none⟩)) (i := .int .i64 1) (v := .pointer (some ⟨g0, 1, none⟩)) rfl rfl rfl (ia56_1 _ _) ⟨rfl, rfl⟩) ?_
  refine dw_op (d := (some 6)) (.int .i64 l.a1) rfl rfl rfl (st_ldc (g := g0) (off := 1) (v := .int .i64 l.a1) cell3 1 rfl rfl rfl rfl rfl ⟨rfl, rfl⟩) ?_
  refine dw_op (d := (some 7)) (.agg #[.int .i64 ((hTame l.a0 l.a1).lo), .int .i64 ((hTame l.a0 l.a1).hi), .bool ((hTame l.a0 l.a1).no)]) rfl rfl rfl (st_cf (vs := [.int .i64 l.a0, .int .i64 l.a1]) (r := .agg #[.int .i64 ((hTame l.a0 l.a1).lo), .int .i64 ((hTame l.a0 l.a1).hi), .bool ((hTame l.a0 l.a1).no)]) (c_hTame l.a0 l.a1) Try.func72 rfl (by decide) rfl rfl rfl ⟨rfl, rfl⟩) ?_
  refine dw_op (d := (some 8)) (.pointer (some ⟨g0, 2, none⟩)) rfl rfl rfl (st_ia (u := .pointer (some ⟨g0, 0, none⟩)) (i := .int .i64 2) (v := .pointer (some ⟨g0, 2, none⟩)) rfl rfl rfl (ia56_2 _ _) ⟨rfl, rfl⟩) ?_
  refine dw_op (d := (some 9)) (.int .i64 l.a2) rfl rfl rfl (st_ldc (g := g0) (off := 2) (v := .int .i64 l.a2) cell3 1 rfl rfl rfl rfl rfl ⟨rfl, rfl⟩) ?_
  refine dw_op (d := (some 10)) (.pointer (some ⟨g0, 3, none⟩)) rfl rfl rfl (st_ia (u := .pointer (some ⟨g0, 0, none⟩)) (i := .int .i64 3) (v := .pointer (some ⟨g0, 3, none⟩)) rfl rfl rfl (ia56_3 _ _) ⟨rfl, rfl⟩) ?_
  refine dw_op (d := (some 11)) (.int .i64 l.a3) rfl rfl rfl (st_ldc (g := g0) (off := 3) (v := .int .i64 l.a3) cell3 1 rfl rfl rfl rfl rfl ⟨rfl, rfl⟩) ?_
  refine dw_op (d := (some 12)) (.agg #[.int .i64 ((hTame l.a2 l.a3).lo), .int .i64 ((hTame l.a2 l.a3).hi), .bool ((hTame l.a2 l.a3).no)]) rfl rfl rfl (st_cf (vs := [.int .i64 l.a2, .int .i64 l.a3]) (r := .agg #[.int .i64 ((hTame l.a2 l.a3).lo), .int .i64 ((hTame l.a2 l.a3).hi), .bool ((hTame l.a2 l.a3).no)]) (c_hTame l.a2 l.a3) Try.func72 rfl (by decide) rfl rfl rfl ⟨rfl, rfl⟩) ?_
  refine dw_op (d := (some 13)) (.pointer (some ⟨g0, 4, none⟩)) rfl rfl rfl (st_ia (u := .pointer (some ⟨g0, 0, none⟩)) (i := .int .i64 4) (v := .pointer (some ⟨g0, 4, none⟩)) rfl rfl rfl (ia56_4 _ _) ⟨rfl, rfl⟩) ?_
  refine dw_op (d := (some 14)) (.int .i64 l.a4) rfl rfl rfl (st_ldc (g := g0) (off := 4) (v := .int .i64 l.a4) cell3 1 rfl rfl rfl rfl rfl ⟨rfl, rfl⟩) ?_
  refine dw_op (d := (some 15)) (.pointer (some ⟨g0, 5, none⟩)) rfl rfl rfl (st_ia (u := .pointer (some ⟨g0, 0, none⟩)) (i := .int .i64 5) (v := .pointer (some ⟨g0, 5, none⟩)) rfl rfl rfl (ia56_5 _ _) ⟨rfl, rfl⟩) ?_
  refine dw_op (d := (some 16)) (.int .i64 l.a5) rfl rfl rfl (st_ldc (g := g0) (off := 5) (v := .int .i64 l.a5) cell3 1 rfl rfl rfl rfl rfl ⟨rfl, rfl⟩) ?_
  refine dw_op (d := (some 17)) (.agg #[.int .i64 ((hTame l.a4 l.a5).lo), .int .i64 ((hTame l.a4 l.a5).hi), .bool ((hTame l.a4 l.a5).no)]) rfl rfl rfl (st_cf (vs := [.int .i64 l.a4, .int .i64 l.a5]) (r := .agg #[.int .i64 ((hTame l.a4 l.a5).lo), .int .i64 ((hTame l.a4 l.a5).hi), .bool ((hTame l.a4 l.a5).no)]) (c_hTame l.a4 l.a5) Try.func72 rfl (by decide) rfl rfl rfl ⟨rfl, rfl⟩) ?_
  refine dw_op (d := (some 18)) (.agg #[.int .i64 ((hTame l.a0 l.a1).lo), .int .i64 ((hTame l.a0 l.a1).hi), .bool ((hTame l.a0 l.a1).no), .int .i64 ((hTame l.a2 l.a3).lo), .int .i64 ((hTame l.a2 l.a3).hi), .bool ((hTame l.a2 l.a3).no), .int .i64 ((hTame l.a4 l.a5).lo), .int .i64 ((hTame l.a4 l.a5).hi), .bool ((hTame l.a4 l.a5).no)]) rfl rfl rfl (st_bd (us := [(0, .agg #[.int .i64 ((hTame l.a0 l.a1).lo), .int .i64 ((hTame l.a0 l.a1).hi), .bool ((hTame l.a0 l.a1).no)]), (1, .agg #[.int .i64 ((hTame l.a2 l.a3).lo), .int .i64 ((hTame l.a2 l.a3).hi), .bool ((hTame l.a2 l.a3).no)]), (2, .agg #[.int .i64 ((hTame l.a4 l.a5).lo), .int .i64 ((hTame l.a4 l.a5).hi), .bool ((hTame l.a4 l.a5).no)])]) (v := .agg #[.int .i64 ((hTame l.a0 l.a1).lo), .int .i64 ((hTame l.a0 l.a1).hi), .bool ((hTame l.a0 l.a1).no), .int .i64 ((hTame l.a2 l.a3).lo), .int .i64 ((hTame l.a2 l.a3).hi), .bool ((hTame l.a2 l.a3).no), .int .i64 ((hTame l.a4 l.a5).lo), .int .i64 ((hTame l.a4 l.a5).hi), .bool ((hTame l.a4 l.a5).no)]) rfl rfl (bd58_0a_1a_2a _ _ _ _ _ _ _ _ _) ⟨rfl, rfl⟩) ?_
  refine dw_nil ?_
  refine ar_op (d := none) rfl rfl (st_sta (g := g1) (off := 0) (us := [.int .i64 ((hTame l.a0 l.a1).lo), .int .i64 ((hTame l.a0 l.a1).hi), .bool ((hTame l.a0 l.a1).no), .int .i64 ((hTame l.a2 l.a3).lo), .int .i64 ((hTame l.a2 l.a3).hi), .bool ((hTame l.a2 l.a3).no), .int .i64 ((hTame l.a4 l.a5).lo), .int .i64 ((hTame l.a4 l.a5).hi), .bool ((hTame l.a4 l.a5).no)]) (cs := [.int .i64 ((hTame l.a0 l.a1).lo), .int .i64 ((hTame l.a0 l.a1).hi), .bool ((hTame l.a0 l.a1).no), .int .i64 ((hTame l.a2 l.a3).lo), .int .i64 ((hTame l.a2 l.a3).hi), .bool ((hTame l.a2 l.a3).no), .int .i64 ((hTame l.a4 l.a5).lo), .int .i64 ((hTame l.a4 l.a5).hi), .bool ((hTame l.a4 l.a5).no)]) agg58 0 rfl rfl rfl rfl rfl rfl rfl rfl rfl ?_)
  refine ar_nil ?_
  refine ac_ret ?_
  exact fin_eq (v := .agg #[.int .i64 ((hTame l.a0 l.a1).lo), .int .i64 ((hTame l.a0 l.a1).hi), .bool ((hTame l.a0 l.a1).no), .int .i64 ((hTame l.a2 l.a3).lo), .int .i64 ((hTame l.a2 l.a3).hi), .bool ((hTame l.a2 l.a3).no), .int .i64 ((hTame l.a4 l.a5).lo), .int .i64 ((hTame l.a4 l.a5).hi), .bool ((hTame l.a4 l.a5).no)]) rfl (fin_ret (res_c (vs := [.int .i64 ((hTame l.a0 l.a1).lo), .int .i64 ((hTame l.a0 l.a1).hi), .bool ((hTame l.a0 l.a1).no), .int .i64 ((hTame l.a2 l.a3).lo), .int .i64 ((hTame l.a2 l.a3).hi), .bool ((hTame l.a2 l.a3).no), .int .i64 ((hTame l.a4 l.a5).lo), .int .i64 ((hTame l.a4 l.a5).hi), .bool ((hTame l.a4 l.a5).no)]) agg58 0 rfl rfl rfl rfl rfl rfl))
def inIv5 (a : Iv) (b : Iv) : Bool := (bif ivRight b then ivInside a b else true)
set_option maxRecDepth 100000 in
theorem c_inIv5 (a : Iv) (b : Iv) : Gets Try.prog 90 #[.agg #[.int .i64 a.lo, .int .i64 a.hi, .bool a.no], .agg #[.int .i64 b.lo, .int .i64 b.hi, .bool b.no]] ((fun (r : Bool) => (.bool r : Value)) (inIv5 a b)) := by
  refine gets_fin Try.func90 rfl rfl rfl ?_
  refine ac_seq ?_
  refine ac_region_lit ?_
  refine ao 2 rfl rfl (st_box (v := .agg #[.int .i64 a.lo, .int .i64 a.hi, .bool a.no]) (cs := [.int .i64 a.lo, .int .i64 a.hi, .bool a.no]) rfl rfl rfl fun g0 => ?_)
  refine ao 3 rfl rfl (st_box (v := .agg #[.int .i64 b.lo, .int .i64 b.hi, .bool b.no]) (cs := [.int .i64 b.lo, .int .i64 b.hi, .bool b.no]) rfl rfl rfl fun g1 => ?_)
  refine ao 4 rfl rfl (st_assign (v := .bool false) rfl rfl ?_)
  refine ar_nil ?_
  refine ac_seq ?_
  refine ac_region_lit ?_
  refine ao 5 rfl rfl (st_lda (g := g1) (off := 0) (vs := [.int .i64 b.lo, .int .i64 b.hi, .bool b.no]) agg35 0 rfl rfl rfl rfl rfl rfl ?_)
  refine ao 6 rfl rfl (st_cf (vs := [.agg #[.int .i64 b.lo, .int .i64 b.hi, .bool b.no]]) (r := .bool (ivRight b)) (c_ivRight b) Try.func54 rfl (by decide) rfl rfl rfl ?_)
  refine ao 7 rfl rfl (st_un (u := .bool (ivRight b)) (v := .bool (!(ivRight b))) rfl rfl (un_not rfl) ?_)
  refine ao 8 rfl rfl (st_move (v := .bool (!(ivRight b))) rfl rfl ?_)
  refine bool_split (ivRight b) (fun h1 => ?_) (fun h1 => ?_)
  · refine ar_gd (d := (some 9)) (by show ((!(ivRight b)) == false) = true; rw [h1]; rfl) rfl (st_lda (g := g0) (off := 0) (vs := [.int .i64 a.lo, .int .i64 a.hi, .bool a.no]) agg35 1 rfl rfl rfl rfl rfl rfl ?_)
    refine ar_gd (d := (some 10)) (by show ((!(ivRight b)) == false) = true; rw [h1]; rfl) rfl (st_lda (g := g1) (off := 0) (vs := [.int .i64 b.lo, .int .i64 b.hi, .bool b.no]) agg35 0 rfl rfl rfl rfl rfl rfl ?_)
    refine ar_gd (d := (some 11)) (by show ((!(ivRight b)) == false) = true; rw [h1]; rfl) rfl (st_cf (vs := [.agg #[.int .i64 a.lo, .int .i64 a.hi, .bool a.no], .agg #[.int .i64 b.lo, .int .i64 b.hi, .bool b.no]]) (r := .bool (ivInside a b)) (c_ivInside a b) Try.func55 rfl (by decide) rfl rfl rfl ?_)
    refine ao 12 rfl rfl (st_pkf' (b := !(ivRight b)) (v := .bool (ivInside a b)) (by rw [h1]; rfl) rfl rfl rfl ?_)
    refine ao 4 rfl rfl (st_assign (v := .bool (ivInside a b)) rfl rfl ?_)
    refine ar_nil ?_
    refine ac_ret ?_
    exact fin_eq (v := .bool (ivInside a b)) (by show _ = (fun (r : Bool) => (.bool r : Value)) (inIv5 a b); rw [inIv5, h1] <;> rfl) (fin_ret (res_tmp rfl rfl))
  · refine ar_sk (d := (some 9)) (by show ((!(ivRight b)) == false) = false; rw [h1]; rfl) rfl ?_
    refine ar_sk (d := (some 10)) (by show ((!(ivRight b)) == false) = false; rw [h1]; rfl) rfl ?_
    refine ar_sk (d := (some 11)) (by show ((!(ivRight b)) == false) = false; rw [h1]; rfl) rfl ?_
    refine ao 12 rfl rfl (st_pkt' (b := !(ivRight b)) (v := .bool true) (by rw [h1]; rfl) rfl rfl rfl ?_)
    refine ao 4 rfl rfl (st_assign (v := .bool true) rfl rfl ?_)
    refine ar_nil ?_
    refine ac_ret ?_
    exact fin_eq (v := .bool true) (by show _ = (fun (r : Bool) => (.bool r : Value)) (inIv5 a b); rw [inIv5, h1] <;> rfl) (fin_ret (res_tmp rfl rfl))
def in5 (a : V) (b : V) : Bool := (bif inIv5 a.x b.x then (bif inIv5 a.y b.y then inIv5 a.z b.z else false) else false)
set_option maxRecDepth 100000 in
theorem c_in5 (a : V) (b : V) : Gets Try.prog 88 #[.agg #[.int .i64 a.x.lo, .int .i64 a.x.hi, .bool a.x.no, .int .i64 a.y.lo, .int .i64 a.y.hi, .bool a.y.no, .int .i64 a.z.lo, .int .i64 a.z.hi, .bool a.z.no], .agg #[.int .i64 b.x.lo, .int .i64 b.x.hi, .bool b.x.no, .int .i64 b.y.lo, .int .i64 b.y.hi, .bool b.y.no, .int .i64 b.z.lo, .int .i64 b.z.hi, .bool b.z.no]] ((fun (r : Bool) => (.bool r : Value)) (in5 a b)) := by
  refine gets_fin Try.func88 rfl rfl rfl ?_
  refine ac_seq ?_
  refine ac_region_lit ?_
  refine ao 2 rfl rfl (st_box (v := .agg #[.int .i64 a.x.lo, .int .i64 a.x.hi, .bool a.x.no, .int .i64 a.y.lo, .int .i64 a.y.hi, .bool a.y.no, .int .i64 a.z.lo, .int .i64 a.z.hi, .bool a.z.no]) (cs := [.int .i64 a.x.lo, .int .i64 a.x.hi, .bool a.x.no, .int .i64 a.y.lo, .int .i64 a.y.hi, .bool a.y.no, .int .i64 a.z.lo, .int .i64 a.z.hi, .bool a.z.no]) rfl rfl rfl fun g0 => ?_)
  refine ao 3 rfl rfl (st_box (v := .agg #[.int .i64 b.x.lo, .int .i64 b.x.hi, .bool b.x.no, .int .i64 b.y.lo, .int .i64 b.y.hi, .bool b.y.no, .int .i64 b.z.lo, .int .i64 b.z.hi, .bool b.z.no]) (cs := [.int .i64 b.x.lo, .int .i64 b.x.hi, .bool b.x.no, .int .i64 b.y.lo, .int .i64 b.y.hi, .bool b.y.no, .int .i64 b.z.lo, .int .i64 b.z.hi, .bool b.z.no]) rfl rfl rfl fun g1 => ?_)
  refine ao 4 rfl rfl (st_assign (v := .bool false) rfl rfl ?_)
  refine ar_nil ?_
  refine ac_seq ?_
  refine ac_region_lit ?_
  refine ao 5 rfl rfl (st_fa (g := g0) (off := 0) rfl fa58_0 rfl ?_)
  refine ao 6 rfl rfl (st_lda (g := g0) (off := 0) (vs := [.int .i64 a.x.lo, .int .i64 a.x.hi, .bool a.x.no]) agg35 1 rfl rfl rfl rfl rfl rfl ?_)
  refine ao 7 rfl rfl (st_fa (g := g1) (off := 0) rfl fa58_0 rfl ?_)
  refine ao 8 rfl rfl (st_lda (g := g1) (off := 0) (vs := [.int .i64 b.x.lo, .int .i64 b.x.hi, .bool b.x.no]) agg35 0 rfl rfl rfl rfl rfl rfl ?_)
  refine ao 9 rfl rfl (st_cf (vs := [.agg #[.int .i64 a.x.lo, .int .i64 a.x.hi, .bool a.x.no], .agg #[.int .i64 b.x.lo, .int .i64 b.x.hi, .bool b.x.no]]) (r := .bool (inIv5 a.x b.x)) (c_inIv5 a.x b.x) Try.func90 rfl (by decide) rfl rfl rfl ?_)
  refine ao 10 rfl rfl (st_move (v := .bool (inIv5 a.x b.x)) rfl rfl ?_)
  refine bool_split (inIv5 a.x b.x) (fun h1 => ?_) (fun h1 => ?_)
  · refine ar_gd (d := (some 11)) (by show ((inIv5 a.x b.x) == true) = true; rw [h1]; rfl) rfl (st_fa (g := g0) (off := 0) rfl fa58_1 rfl ?_)
    refine ar_gd (d := (some 12)) (by show ((inIv5 a.x b.x) == true) = true; rw [h1]; rfl) rfl (st_lda (g := g0) (off := 3) (vs := [.int .i64 a.y.lo, .int .i64 a.y.hi, .bool a.y.no]) agg35 1 rfl rfl rfl rfl rfl rfl ?_)
    refine ar_gd (d := (some 13)) (by show ((inIv5 a.x b.x) == true) = true; rw [h1]; rfl) rfl (st_fa (g := g1) (off := 0) rfl fa58_1 rfl ?_)
    refine ar_gd (d := (some 14)) (by show ((inIv5 a.x b.x) == true) = true; rw [h1]; rfl) rfl (st_lda (g := g1) (off := 3) (vs := [.int .i64 b.y.lo, .int .i64 b.y.hi, .bool b.y.no]) agg35 0 rfl rfl rfl rfl rfl rfl ?_)
    refine ar_gd (d := (some 15)) (by show ((inIv5 a.x b.x) == true) = true; rw [h1]; rfl) rfl (st_cf (vs := [.agg #[.int .i64 a.y.lo, .int .i64 a.y.hi, .bool a.y.no], .agg #[.int .i64 b.y.lo, .int .i64 b.y.hi, .bool b.y.no]]) (r := .bool (inIv5 a.y b.y)) (c_inIv5 a.y b.y) Try.func90 rfl (by decide) rfl rfl rfl ?_)
    refine ao 16 rfl rfl (st_pkt' (b := inIv5 a.x b.x) (v := .bool (inIv5 a.y b.y)) h1 rfl rfl rfl ?_)
    refine ao 17 rfl rfl (st_move (v := .bool (inIv5 a.y b.y)) rfl rfl ?_)
    refine bool_split (inIv5 a.y b.y) (fun h2 => ?_) (fun h2 => ?_)
    · refine ar_gd (d := (some 18)) (by show ((inIv5 a.y b.y) == true) = true; rw [h2]; rfl) rfl (st_fa (g := g0) (off := 0) rfl fa58_2 rfl ?_)
      refine ar_gd (d := (some 19)) (by show ((inIv5 a.y b.y) == true) = true; rw [h2]; rfl) rfl (st_lda (g := g0) (off := 6) (vs := [.int .i64 a.z.lo, .int .i64 a.z.hi, .bool a.z.no]) agg35 1 rfl rfl rfl rfl rfl rfl ?_)
      refine ar_gd (d := (some 20)) (by show ((inIv5 a.y b.y) == true) = true; rw [h2]; rfl) rfl (st_fa (g := g1) (off := 0) rfl fa58_2 rfl ?_)
      refine ar_gd (d := (some 21)) (by show ((inIv5 a.y b.y) == true) = true; rw [h2]; rfl) rfl (st_lda (g := g1) (off := 6) (vs := [.int .i64 b.z.lo, .int .i64 b.z.hi, .bool b.z.no]) agg35 0 rfl rfl rfl rfl rfl rfl ?_)
      refine ar_gd (d := (some 22)) (by show ((inIv5 a.y b.y) == true) = true; rw [h2]; rfl) rfl (st_cf (vs := [.agg #[.int .i64 a.z.lo, .int .i64 a.z.hi, .bool a.z.no], .agg #[.int .i64 b.z.lo, .int .i64 b.z.hi, .bool b.z.no]]) (r := .bool (inIv5 a.z b.z)) (c_inIv5 a.z b.z) Try.func90 rfl (by decide) rfl rfl rfl ?_)
      refine ao 23 rfl rfl (st_pkt' (b := inIv5 a.y b.y) (v := .bool (inIv5 a.z b.z)) h2 rfl rfl rfl ?_)
      refine ao 4 rfl rfl (st_assign (v := .bool (inIv5 a.z b.z)) rfl rfl ?_)
      refine ar_nil ?_
      refine ac_ret ?_
      exact fin_eq (v := .bool (inIv5 a.z b.z)) (by show _ = (fun (r : Bool) => (.bool r : Value)) (in5 a b); rw [in5, h2, h1] <;> rfl) (fin_ret (res_tmp rfl rfl))
    · refine ar_sk (d := (some 18)) (by show ((inIv5 a.y b.y) == true) = false; rw [h2]; rfl) rfl ?_
      refine ar_sk (d := (some 19)) (by show ((inIv5 a.y b.y) == true) = false; rw [h2]; rfl) rfl ?_
      refine ar_sk (d := (some 20)) (by show ((inIv5 a.y b.y) == true) = false; rw [h2]; rfl) rfl ?_
      refine ar_sk (d := (some 21)) (by show ((inIv5 a.y b.y) == true) = false; rw [h2]; rfl) rfl ?_
      refine ar_sk (d := (some 22)) (by show ((inIv5 a.y b.y) == true) = false; rw [h2]; rfl) rfl ?_
      refine ao 23 rfl rfl (st_pkf' (b := inIv5 a.y b.y) (v := .bool false) h2 rfl rfl rfl ?_)
      refine ao 4 rfl rfl (st_assign (v := .bool false) rfl rfl ?_)
      refine ar_nil ?_
      refine ac_ret ?_
      exact fin_eq (v := .bool false) (by show _ = (fun (r : Bool) => (.bool r : Value)) (in5 a b); rw [in5, h2, h1] <;> rfl) (fin_ret (res_tmp rfl rfl))
  · refine ar_sk (d := (some 11)) (by show ((inIv5 a.x b.x) == true) = false; rw [h1]; rfl) rfl ?_
    refine ar_sk (d := (some 12)) (by show ((inIv5 a.x b.x) == true) = false; rw [h1]; rfl) rfl ?_
    refine ar_sk (d := (some 13)) (by show ((inIv5 a.x b.x) == true) = false; rw [h1]; rfl) rfl ?_
    refine ar_sk (d := (some 14)) (by show ((inIv5 a.x b.x) == true) = false; rw [h1]; rfl) rfl ?_
    refine ar_sk (d := (some 15)) (by show ((inIv5 a.x b.x) == true) = false; rw [h1]; rfl) rfl ?_
    refine ao 16 rfl rfl (st_pkf' (b := inIv5 a.x b.x) (v := .bool false) h1 rfl rfl rfl ?_)
    refine ao 17 rfl rfl (st_move (v := .bool false) rfl rfl ?_)
    refine ar_sk (d := (some 18)) rfl rfl ?_
    refine ar_sk (d := (some 19)) rfl rfl ?_
    refine ar_sk (d := (some 20)) rfl rfl ?_
    refine ar_sk (d := (some 21)) rfl rfl ?_
    refine ar_sk (d := (some 22)) rfl rfl ?_
    refine ao 23 rfl rfl (st_pkf (v := .bool false) rfl rfl rfl ?_)
    refine ao 4 rfl rfl (st_assign (v := .bool false) rfl rfl ?_)
    refine ar_nil ?_
    refine ac_ret ?_
    exact fin_eq (v := .bool false) (by show _ = (fun (r : Bool) => (.bool r : Value)) (in5 a b); rw [in5, h1] <;> rfl) (fin_ret (res_tmp rfl rfl))
end Go.Proofs.Ytbaihncnbejjbaa
