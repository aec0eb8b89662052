import Derived.Test.YtbaihncnbejjbaaFacts4
import Derived.Test.YtbaihncnbejjbaaK2
import Derived.Test.YtbaihncnbejjbaaHand
import Derived.Test.YtbaihncnbejjbaaRound
set_option linter.unusedVariables false
set_option linter.unusedSimpArgs false
namespace Go.Proofs.Ytbaihncnbejjbaa
open Go.RowKit

attribute [local irreducible] AC AR DWalk
def ivBounds_r0 (z0 : Iv) (z1 : Iv) (z2 : Iv) (z3 : Iv) (z4 : Iv) (z5 : Iv) (z6 : Iv) (z7 : Iv) (z8 : Iv) : Bool := (bif z0.no then (bif z0.lo != 0 then false else (bif z0.hi != 0 then false else (bif z0.no == (rRight z0) then false else true))) else (bif decide (z0.lo > z0.hi) then false else (bif decide (z0.lo < (-1073741824)) then false else (bif decide (z0.hi > 1073741824) then false else (bif z0.no == (rRight z0) then false else true)))))
set_option maxRecDepth 100000 in
theorem c_ivBounds_r0 (z0 : Iv) (z1 : Iv) (z2 : Iv) (z3 : Iv) (z4 : Iv) (z5 : Iv) (z6 : Iv) (z7 : Iv) (z8 : Iv) {v11 v12 : Value} {Q : Exit → Env → List Box → Prop} {H0 : List Box} {E : Env} {c : Code} {k : Nat} (hc : Try.f13.body.bind loopOf = some c) (q10 : E 10 = .bool false) (q45 : E 45 = .agg #[.int .i64 z0.lo, .int .i64 z0.hi, .bool z0.no, .int .i64 z1.lo, .int .i64 z1.hi, .bool z1.no, .int .i64 z2.lo, .int .i64 z2.hi, .bool z2.no, .int .i64 z3.lo, .int .i64 z3.hi, .bool z3.no, .int .i64 z4.lo, .int .i64 z4.hi, .bool z4.no, .int .i64 z5.lo, .int .i64 z5.hi, .bool z5.no, .int .i64 z6.lo, .int .i64 z6.hi, .bool z6.no, .int .i64 z7.lo, .int .i64 z7.hi, .bool z7.no, .int .i64 z8.lo, .int .i64 z8.hi, .bool z8.no]) (q46 : E 46 = .int .i64 0) (l11 : E 11 = v11) (l12 : E 12 = v12) (HG : (ivBounds_r0 z0 z1 z2 z3 z4 z5 z6 z7 z8) = true) (K : ∀ E' : Env, E' 10 = .bool false → E' 45 = .agg #[.int .i64 z0.lo, .int .i64 z0.hi, .bool z0.no, .int .i64 z1.lo, .int .i64 z1.hi, .bool z1.no, .int .i64 z2.lo, .int .i64 z2.hi, .bool z2.no, .int .i64 z3.lo, .int .i64 z3.hi, .bool z3.no, .int .i64 z4.lo, .int .i64 z4.hi, .bool z4.no, .int .i64 z5.lo, .int .i64 z5.hi, .bool z5.no, .int .i64 z6.lo, .int .i64 z6.hi, .bool z6.no, .int .i64 z7.lo, .int .i64 z7.hi, .bool z7.no, .int .i64 z8.lo, .int .i64 z8.hi, .bool z8.no] → E' 46 = .int .i64 1 → E' 11 = v11 → E' 12 = v12 → ARounds Try.prog 118 c Q k E' H0) : ARounds Try.prog 118 c Q (k + 1) E H0 := by
  rw [show Try.f13.body.bind loopOf = some _ from rfl] at hc
  cases hc
  obtain ⟨E0, rfl⟩ : ∃ E0 : Env, E = (((((E0.put (some 10) (.bool false)).put (some 45) (.agg #[.int .i64 z0.lo, .int .i64 z0.hi, .bool z0.no, .int .i64 z1.lo, .int .i64 z1.hi, .bool z1.no, .int .i64 z2.lo, .int .i64 z2.hi, .bool z2.no, .int .i64 z3.lo, .int .i64 z3.hi, .bool z3.no, .int .i64 z4.lo, .int .i64 z4.hi, .bool z4.no, .int .i64 z5.lo, .int .i64 z5.hi, .bool z5.no, .int .i64 z6.lo, .int .i64 z6.hi, .bool z6.no, .int .i64 z7.lo, .int .i64 z7.hi, .bool z7.no, .int .i64 z8.lo, .int .i64 z8.hi, .bool z8.no])).put (some 46) (.int .i64 0)).put (some 11) v11).put (some 12) v12) := ⟨E, by rw [put_self q10, put_self q45, put_self q46, put_self l11, put_self l12]⟩
  refine ar_round ?_
  refine ac_seq ?_
  refine ac_region_lit ?_
  refine ao 47 rfl rfl (st_bi (u := .int .i64 0) (v := .int .i64 9) (r := .bool true) rfl rfl rfl (bi_lss (by decide)) ?_)
  refine ar_nil ?_
  refine ac_seq ?_
  refine ac_then rfl ?_
  refine ac_skip ?_
  refine ac_seq ?_
  refine ac_block ?_
  refine ac_seq ?_
  refine ac_region_lit ?_
  refine ao 48 rfl rfl (st_ix (u := .agg #[.int .i64 z0.lo, .int .i64 z0.hi, .bool z0.no, .int .i64 z1.lo, .int .i64 z1.hi, .bool z1.no, .int .i64 z2.lo, .int .i64 z2.hi, .bool z2.no, .int .i64 z3.lo, .int .i64 z3.hi, .bool z3.no, .int .i64 z4.lo, .int .i64 z4.hi, .bool z4.no, .int .i64 z5.lo, .int .i64 z5.hi, .bool z5.no, .int .i64 z6.lo, .int .i64 z6.hi, .bool z6.no, .int .i64 z7.lo, .int .i64 z7.hi, .bool z7.no, .int .i64 z8.lo, .int .i64 z8.hi, .bool z8.no]) (i := .int .i64 0) (v := .agg #[.int .i64 z0.lo, .int .i64 z0.hi, .bool z0.no]) rfl rfl rfl (ix52_0 _ _ _ _ _ _ _ _ _ _ _ _ _ _ _ _ _ _ _ _ _ _ _ _ _ _ _) ?_)
  refine ao 14 rfl rfl (st_new zero35 rfl fun g0 => ?_)
  refine ar_op (d := none) rfl rfl (st_sta (g := g0) (off := 0) (us := [.int .i64 z0.lo, .int .i64 z0.hi, .bool z0.no]) (cs := [.int .i64 z0.lo, .int .i64 z0.hi, .bool z0.no]) agg35 0 rfl rfl rfl rfl rfl rfl rfl rfl rfl ?_)
  refine ar_nil ?_
  refine ac_seq ?_
  refine ac_draw0 (id := 6) [0, 1, 2, 3, 4, 5, 6, 7, 8, 9, 10, 11, 12, 13, 14, 15, 16, 17, 18, 19, 20, 21, 22, 23, 24, 25, 26, 27, 28, 29, 30, 31, 32, 33, 34, 35, 36, 37, 38, 39, 40] [] _ (by kernel_rfl) follows rfl  ?_
  refine dw_op (d := (some 49)) (.pointer (some ⟨g0, 2, none⟩)) rfl rfl rfl (st_fa (g := g0) (off := 0) rfl fa35_2 rfl ⟨rfl, rfl⟩) ?_
  refine dw_op (d := (some 50)) (.bool z0.no) rfl rfl rfl (st_ldc (g := g0) (off := 2) (v := .bool z0.no) cell4 0 rfl rfl rfl rfl rfl ⟨rfl, rfl⟩) ?_
  refine dw_op (d := (some 51)) (.bool z0.no) rfl rfl rfl (st_move (v := .bool z0.no) rfl rfl ⟨rfl, rfl⟩) ?_
  refine bool_split (z0.no) (fun h1 => ?_) (fun h1 => ?_)
  · refine dw_gd (d := (some 52)) (.pointer (some ⟨g0, 0, none⟩)) rfl (by show (z0.no == true) = true; rw [h1]; rfl) rfl (st_fa (g := g0) (off := 0) rfl fa35_0 rfl ⟨rfl, rfl⟩) ?_
    refine dw_gd (d := (some 53)) (.int .i64 z0.lo) rfl (by show (z0.no == true) = true; rw [h1]; rfl) rfl (st_ldc (g := g0) (off := 0) (v := .int .i64 z0.lo) cell3 0 rfl rfl rfl rfl rfl ⟨rfl, rfl⟩) ?_
    refine dw_gd (d := (some 54)) (.bool (z0.lo != 0)) rfl (by show (z0.no == true) = true; rw [h1]; rfl) rfl (st_bi (u := .int .i64 z0.lo) (v := .int .i64 0) (r := .bool (z0.lo != 0)) rfl rfl rfl (bi_neq rfl) ⟨rfl, rfl⟩) ?_
    refine dw_gd (d := (some 55)) (.bool (z0.lo != 0)) rfl (by show (z0.no == true) = true; rw [h1]; rfl) rfl (st_move (v := .bool (z0.lo != 0)) rfl rfl ⟨rfl, rfl⟩) ?_
    refine bool_split (z0.lo != 0) (fun h2 => nomatch (show false = true from (show (ivBounds_r0 z0 z1 z2 z3 z4 z5 z6 z7 z8) = _ from (eT h1 (eT h2 rfl))).symm.trans HG)) (fun h2 => ?_)
    refine dw_gd (d := (some 56)) (.pointer (some ⟨g0, 1, none⟩)) rfl (by show ((z0.lo != 0) == false) = true; rw [h2]; rfl) rfl (st_fa (g := g0) (off := 0) rfl fa35_1 rfl ⟨rfl, rfl⟩) ?_
    refine dw_gd (d := (some 57)) (.int .i64 z0.hi) rfl (by show ((z0.lo != 0) == false) = true; rw [h2]; rfl) rfl (st_ldc (g := g0) (off := 1) (v := .int .i64 z0.hi) cell3 0 rfl rfl rfl rfl rfl ⟨rfl, rfl⟩) ?_
    refine dw_gd (d := (some 58)) (.bool (z0.hi != 0)) rfl (by show ((z0.lo != 0) == false) = true; rw [h2]; rfl) rfl (st_bi (u := .int .i64 z0.hi) (v := .int .i64 0) (r := .bool (z0.hi != 0)) rfl rfl rfl (bi_neq rfl) ⟨rfl, rfl⟩) ?_
    refine dw_gd (d := (some 59)) (.bool (z0.hi != 0)) rfl (by show (z0.no == true) = true; rw [h1]; rfl) rfl (st_pkf' (b := z0.lo != 0) (v := .bool (z0.hi != 0)) h2 rfl rfl rfl ⟨rfl, rfl⟩) ?_
    refine dw_op (d := (some 60)) (.bool (z0.hi != 0)) rfl rfl rfl (st_pkt' (b := z0.no) (v := .bool (z0.hi != 0)) h1 rfl rfl rfl ⟨rfl, rfl⟩) ?_
    refine dw_op (d := (some 61)) (.bool (z0.hi != 0)) rfl rfl rfl (st_move (v := .bool (z0.hi != 0)) rfl rfl ⟨rfl, rfl⟩) ?_
    refine bool_split (z0.hi != 0) (fun h3 => nomatch (show false = true from (show (ivBounds_r0 z0 z1 z2 z3 z4 z5 z6 z7 z8) = _ from (eT h1 (eF h2 (eT h3 rfl)))).symm.trans HG)) (fun h3 => ?_)
    refine dw_gd (d := (some 62)) (.pointer (some ⟨g0, 2, none⟩)) rfl (by show ((z0.hi != 0) == false) = true; rw [h3]; rfl) rfl (st_fa (g := g0) (off := 0) rfl fa35_2 rfl ⟨rfl, rfl⟩) ?_
    refine dw_gd (d := (some 63)) (.bool z0.no) rfl (by show ((z0.hi != 0) == false) = true; rw [h3]; rfl) rfl (st_ldc (g := g0) (off := 2) (v := .bool z0.no) cell4 0 rfl rfl rfl rfl rfl ⟨rfl, rfl⟩) ?_
    refine dw_gd (d := (some 64)) (.bool (!z0.no)) rfl (by show ((z0.hi != 0) == false) = true; rw [h3]; rfl) rfl (st_un (u := .bool z0.no) (v := .bool (!z0.no)) rfl rfl (un_not rfl) ⟨rfl, rfl⟩) ?_
    refine dw_gd (d := (some 65)) (.bool (!z0.no)) rfl (by show ((z0.hi != 0) == false) = true; rw [h3]; rfl) rfl (st_move (v := .bool (!z0.no)) rfl rfl ⟨rfl, rfl⟩) ?_
    refine dw_sk (d := (some 66)) rfl (by show ((!z0.no) == true) = false; rw [h1]; rfl) rfl ?_
    refine dw_sk (d := (some 67)) rfl (by show ((!z0.no) == true) = false; rw [h1]; rfl) rfl ?_
    refine dw_sk (d := (some 68)) rfl (by show ((!z0.no) == true) = false; rw [h1]; rfl) rfl ?_
    refine dw_sk (d := (some 69)) rfl (by show ((!z0.no) == true) = false; rw [h1]; rfl) rfl ?_
    refine dw_sk (d := (some 70)) rfl (by show ((!z0.no) == true) = false; rw [h1]; rfl) rfl ?_
    refine dw_sk (d := (some 71)) rfl (by show ((!z0.no) == true) = false; rw [h1]; rfl) rfl ?_
    refine dw_sk (d := (some 72)) rfl rfl rfl ?_
    refine dw_sk (d := (some 73)) rfl rfl rfl ?_
    refine dw_sk (d := (some 74)) rfl rfl rfl ?_
    refine dw_sk (d := (some 75)) rfl (by show ((!z0.no) == true) = false; rw [h1]; rfl) rfl ?_
    refine dw_sk (d := (some 76)) rfl (by show ((!z0.no) == true) = false; rw [h1]; rfl) rfl ?_
    refine dw_sk (d := (some 77)) rfl rfl rfl ?_
    refine dw_sk (d := (some 78)) rfl rfl rfl ?_
    refine dw_sk (d := (some 79)) rfl rfl rfl ?_
    refine dw_sk (d := (some 80)) rfl (by show ((!z0.no) == true) = false; rw [h1]; rfl) rfl ?_
    refine dw_gd (d := (some 81)) (.bool false) rfl (by show ((z0.hi != 0) == false) = true; rw [h3]; rfl) rfl (st_pkf' (b := !z0.no) (v := .bool false) (by rw [h1]; rfl) rfl rfl rfl ⟨rfl, rfl⟩) ?_
    refine dw_op (d := (some 82)) (.bool false) rfl rfl rfl (st_pkf' (b := z0.hi != 0) (v := .bool false) h3 rfl rfl rfl ⟨rfl, rfl⟩) ?_
    refine dw_op (d := (some 83)) (.bool false) rfl rfl rfl (st_move (v := .bool false) rfl rfl ⟨rfl, rfl⟩) ?_
    refine dw_gd (d := (some 84)) (.pointer (some ⟨g0, 2, none⟩)) rfl rfl rfl (st_fa (g := g0) (off := 0) rfl fa35_2 rfl ⟨rfl, rfl⟩) ?_
    refine dw_gd (d := (some 85)) (.bool z0.no) rfl rfl rfl (st_ldc (g := g0) (off := 2) (v := .bool z0.no) cell4 0 rfl rfl rfl rfl rfl ⟨rfl, rfl⟩) ?_
    refine dw_gd (d := (some 86)) (.agg #[.int .i64 z0.lo, .int .i64 z0.hi, .bool z0.no]) rfl rfl rfl (st_lda (g := g0) (off := 0) (vs := [.int .i64 z0.lo, .int .i64 z0.hi, .bool z0.no]) agg35 0 rfl rfl rfl rfl rfl rfl ⟨rfl, rfl⟩) ?_
    refine dw_gd (d := (some 87)) (.bool (rRight z0)) rfl rfl rfl (st_cf (vs := [.agg #[.int .i64 z0.lo, .int .i64 z0.hi, .bool z0.no]]) (r := .bool (rRight z0)) (c_rRight z0) Try.func57 rfl (by decide) rfl rfl rfl ⟨rfl, rfl⟩) ?_
    refine dw_gd (d := (some 88)) (.bool (z0.no == (rRight z0))) rfl rfl rfl (st_bi (u := .bool z0.no) (v := .bool (rRight z0)) (r := .bool (z0.no == (rRight z0))) rfl rfl rfl (bb_eql Try.underlying4 rfl) ⟨rfl, rfl⟩) ?_
    refine dw_op (d := (some 89)) (.bool (z0.no == (rRight z0))) rfl rfl rfl (st_pkf (v := .bool (z0.no == (rRight z0))) rfl rfl rfl ⟨rfl, rfl⟩) ?_
    refine dw_nil ?_
    refine ar_nil ?_
    refine bool_split (z0.no == (rRight z0)) (fun h4 => nomatch (show false = true from (show (ivBounds_r0 z0 z1 z2 z3 z4 z5 z6 z7 z8) = _ from (eT h1 (eF h2 (eF h3 (eT h4 rfl))))).symm.trans HG)) (fun h4 => ?_)
    refine ac_else' (b := z0.no == (rRight z0)) h4 rfl ?_
    refine ac_skip ?_
    refine ac_region_lit ?_
    refine ao 90 rfl rfl (st_bi (u := .int .i64 0) (v := .int .i64 1) (r := .int .i64 1) rfl rfl rfl (bi_add (by decide)) ?_)
    refine ao 46 rfl rfl (st_move (v := .int .i64 1) rfl rfl ?_)
    refine ar_nil ?_
    exact ar_dropR (List.Sublist.cons _ (List.Sublist.refl _)) (K _ rfl rfl rfl rfl rfl)
  · refine dw_sk (d := (some 52)) rfl (by show (z0.no == true) = false; rw [h1]; rfl) rfl ?_
    refine dw_sk (d := (some 53)) rfl (by show (z0.no == true) = false; rw [h1]; rfl) rfl ?_
    refine dw_sk (d := (some 54)) rfl (by show (z0.no == true) = false; rw [h1]; rfl) rfl ?_
    refine dw_sk (d := (some 55)) rfl (by show (z0.no == true) = false; rw [h1]; rfl) rfl ?_
    refine dw_sk (d := (some 56)) rfl rfl rfl ?_
    refine dw_sk (d := (some 57)) rfl rfl rfl ?_
    refine dw_sk (d := (some 58)) rfl rfl rfl ?_
    refine dw_sk (d := (some 59)) rfl (by show (z0.no == true) = false; rw [h1]; rfl) rfl ?_
    refine dw_op (d := (some 60)) (.bool false) rfl rfl rfl (st_pkf' (b := z0.no) (v := .bool false) h1 rfl rfl rfl ⟨rfl, rfl⟩) ?_
    refine dw_op (d := (some 61)) (.bool false) rfl rfl rfl (st_move (v := .bool false) rfl rfl ⟨rfl, rfl⟩) ?_
    refine dw_gd (d := (some 62)) (.pointer (some ⟨g0, 2, none⟩)) rfl rfl rfl (st_fa (g := g0) (off := 0) rfl fa35_2 rfl ⟨rfl, rfl⟩) ?_
    refine dw_gd (d := (some 63)) (.bool z0.no) rfl rfl rfl (st_ldc (g := g0) (off := 2) (v := .bool z0.no) cell4 0 rfl rfl rfl rfl rfl ⟨rfl, rfl⟩) ?_
    refine dw_gd (d := (some 64)) (.bool (!z0.no)) rfl rfl rfl (st_un (u := .bool z0.no) (v := .bool (!z0.no)) rfl rfl (un_not rfl) ⟨rfl, rfl⟩) ?_
    refine dw_gd (d := (some 65)) (.bool (!z0.no)) rfl rfl rfl (st_move (v := .bool (!z0.no)) rfl rfl ⟨rfl, rfl⟩) ?_
    refine dw_gd (d := (some 66)) (.pointer (some ⟨g0, 0, none⟩)) rfl (by show ((!z0.no) == true) = true; rw [h1]; rfl) rfl (st_fa (g := g0) (off := 0) rfl fa35_0 rfl ⟨rfl, rfl⟩) ?_
    refine dw_gd (d := (some 67)) (.int .i64 z0.lo) rfl (by show ((!z0.no) == true) = true; rw [h1]; rfl) rfl (st_ldc (g := g0) (off := 0) (v := .int .i64 z0.lo) cell3 0 rfl rfl rfl rfl rfl ⟨rfl, rfl⟩) ?_
    refine dw_gd (d := (some 68)) (.pointer (some ⟨g0, 1, none⟩)) rfl (by show ((!z0.no) == true) = true; rw [h1]; rfl) rfl (st_fa (g := g0) (off := 0) rfl fa35_1 rfl ⟨rfl, rfl⟩) ?_
    refine dw_gd (d := (some 69)) (.int .i64 z0.hi) rfl (by show ((!z0.no) == true) = true; rw [h1]; rfl) rfl (st_ldc (g := g0) (off := 1) (v := .int .i64 z0.hi) cell3 0 rfl rfl rfl rfl rfl ⟨rfl, rfl⟩) ?_
    refine dw_gd (d := (some 70)) (.bool (decide (z0.lo > z0.hi))) rfl (by show ((!z0.no) == true) = true; rw [h1]; rfl) rfl (st_bi (u := .int .i64 z0.lo) (v := .int .i64 z0.hi) (r := .bool (decide (z0.lo > z0.hi))) rfl rfl rfl (bi_gtr rfl) ⟨rfl, rfl⟩) ?_
    refine dw_gd (d := (some 71)) (.bool (decide (z0.lo > z0.hi))) rfl (by show ((!z0.no) == true) = true; rw [h1]; rfl) rfl (st_move (v := .bool (decide (z0.lo > z0.hi))) rfl rfl ⟨rfl, rfl⟩) ?_
    refine bool_split (decide (z0.lo > z0.hi)) (fun h2 => nomatch (show false = true from (show (ivBounds_r0 z0 z1 z2 z3 z4 z5 z6 z7 z8) = _ from (eF h1 (eT h2 rfl))).symm.trans HG)) (fun h2 => ?_)
    refine dw_gd (d := (some 72)) (.pointer (some ⟨g0, 0, none⟩)) rfl (by show ((decide (z0.lo > z0.hi)) == false) = true; rw [h2]; rfl) rfl (st_fa (g := g0) (off := 0) rfl fa35_0 rfl ⟨rfl, rfl⟩) ?_
    refine dw_gd (d := (some 73)) (.int .i64 z0.lo) rfl (by show ((decide (z0.lo > z0.hi)) == false) = true; rw [h2]; rfl) rfl (st_ldc (g := g0) (off := 0) (v := .int .i64 z0.lo) cell3 0 rfl rfl rfl rfl rfl ⟨rfl, rfl⟩) ?_
    refine dw_gd (d := (some 74)) (.bool (decide (z0.lo < (-1073741824)))) rfl (by show ((decide (z0.lo > z0.hi)) == false) = true; rw [h2]; rfl) rfl (st_bi (u := .int .i64 z0.lo) (v := .int .i64 (-1073741824)) (r := .bool (decide (z0.lo < (-1073741824)))) rfl rfl rfl (bi_lss rfl) ⟨rfl, rfl⟩) ?_
    refine dw_gd (d := (some 75)) (.bool (decide (z0.lo < (-1073741824)))) rfl (by show ((!z0.no) == true) = true; rw [h1]; rfl) rfl (st_pkf' (b := decide (z0.lo > z0.hi)) (v := .bool (decide (z0.lo < (-1073741824)))) h2 rfl rfl rfl ⟨rfl, rfl⟩) ?_
    refine dw_gd (d := (some 76)) (.bool (decide (z0.lo < (-1073741824)))) rfl (by show ((!z0.no) == true) = true; rw [h1]; rfl) rfl (st_move (v := .bool (decide (z0.lo < (-1073741824)))) rfl rfl ⟨rfl, rfl⟩) ?_
    refine bool_split (decide (z0.lo < (-1073741824))) (fun h3 => nomatch (show false = true from (show (ivBounds_r0 z0 z1 z2 z3 z4 z5 z6 z7 z8) = _ from (eF h1 (eF h2 (eT h3 rfl)))).symm.trans HG)) (fun h3 => ?_)
    refine dw_gd (d := (some 77)) (.pointer (some ⟨g0, 1, none⟩)) rfl (by show ((decide (z0.lo < (-1073741824))) == false) = true; rw [h3]; rfl) rfl (st_fa (g := g0) (off := 0) rfl fa35_1 rfl ⟨rfl, rfl⟩) ?_
    refine dw_gd (d := (some 78)) (.int .i64 z0.hi) rfl (by show ((decide (z0.lo < (-1073741824))) == false) = true; rw [h3]; rfl) rfl (st_ldc (g := g0) (off := 1) (v := .int .i64 z0.hi) cell3 0 rfl rfl rfl rfl rfl ⟨rfl, rfl⟩) ?_
    refine dw_gd (d := (some 79)) (.bool (decide (z0.hi > 1073741824))) rfl (by show ((decide (z0.lo < (-1073741824))) == false) = true; rw [h3]; rfl) rfl (st_bi (u := .int .i64 z0.hi) (v := .int .i64 1073741824) (r := .bool (decide (z0.hi > 1073741824))) rfl rfl rfl (bi_gtr rfl) ⟨rfl, rfl⟩) ?_
    refine dw_gd (d := (some 80)) (.bool (decide (z0.hi > 1073741824))) rfl (by show ((!z0.no) == true) = true; rw [h1]; rfl) rfl (st_pkf' (b := decide (z0.lo < (-1073741824))) (v := .bool (decide (z0.hi > 1073741824))) h3 rfl rfl rfl ⟨rfl, rfl⟩) ?_
    refine dw_gd (d := (some 81)) (.bool (decide (z0.hi > 1073741824))) rfl rfl rfl (st_pkt' (b := !z0.no) (v := .bool (decide (z0.hi > 1073741824))) (by rw [h1]; rfl) rfl rfl rfl ⟨rfl, rfl⟩) ?_
    refine dw_op (d := (some 82)) (.bool (decide (z0.hi > 1073741824))) rfl rfl rfl (st_pkf (v := .bool (decide (z0.hi > 1073741824))) rfl rfl rfl ⟨rfl, rfl⟩) ?_
    refine dw_op (d := (some 83)) (.bool (decide (z0.hi > 1073741824))) rfl rfl rfl (st_move (v := .bool (decide (z0.hi > 1073741824))) rfl rfl ⟨rfl, rfl⟩) ?_
    refine bool_split (decide (z0.hi > 1073741824)) (fun h4 => nomatch (show false = true from (show (ivBounds_r0 z0 z1 z2 z3 z4 z5 z6 z7 z8) = _ from (eF h1 (eF h2 (eF h3 (eT h4 rfl))))).symm.trans HG)) (fun h4 => ?_)
    refine dw_gd (d := (some 84)) (.pointer (some ⟨g0, 2, none⟩)) rfl (by show ((decide (z0.hi > 1073741824)) == false) = true; rw [h4]; rfl) rfl (st_fa (g := g0) (off := 0) rfl fa35_2 rfl ⟨rfl, rfl⟩) ?_
    refine dw_gd (d := (some 85)) (.bool z0.no) rfl (by show ((decide (z0.hi > 1073741824)) == false) = true; rw [h4]; rfl) rfl (st_ldc (g := g0) (off := 2) (v := .bool z0.no) cell4 0 rfl rfl rfl rfl rfl ⟨rfl, rfl⟩) ?_
    refine dw_gd (d := (some 86)) (.agg #[.int .i64 z0.lo, .int .i64 z0.hi, .bool z0.no]) rfl (by show ((decide (z0.hi > 1073741824)) == false) = true; rw [h4]; rfl) rfl (st_lda (g := g0) (off := 0) (vs := [.int .i64 z0.lo, .int .i64 z0.hi, .bool z0.no]) agg35 0 rfl rfl rfl rfl rfl rfl ⟨rfl, rfl⟩) ?_
    refine dw_gd (d := (some 87)) (.bool (rRight z0)) rfl (by show ((decide (z0.hi > 1073741824)) == false) = true; rw [h4]; rfl) rfl (st_cf (vs := [.agg #[.int .i64 z0.lo, .int .i64 z0.hi, .bool z0.no]]) (r := .bool (rRight z0)) (c_rRight z0) Try.func57 rfl (by decide) rfl rfl rfl ⟨rfl, rfl⟩) ?_
    refine dw_gd (d := (some 88)) (.bool (z0.no == (rRight z0))) rfl (by show ((decide (z0.hi > 1073741824)) == false) = true; rw [h4]; rfl) rfl (st_bi (u := .bool z0.no) (v := .bool (rRight z0)) (r := .bool (z0.no == (rRight z0))) rfl rfl rfl (bb_eql Try.underlying4 rfl) ⟨rfl, rfl⟩) ?_
    refine dw_op (d := (some 89)) (.bool (z0.no == (rRight z0))) rfl rfl rfl (st_pkf' (b := decide (z0.hi > 1073741824)) (v := .bool (z0.no == (rRight z0))) h4 rfl rfl rfl ⟨rfl, rfl⟩) ?_
    refine dw_nil ?_
    refine ar_nil ?_
    refine bool_split (z0.no == (rRight z0)) (fun h5 => nomatch (show false = true from (show (ivBounds_r0 z0 z1 z2 z3 z4 z5 z6 z7 z8) = _ from (eF h1 (eF h2 (eF h3 (eF h4 (eT h5 rfl)))))).symm.trans HG)) (fun h5 => ?_)
    refine ac_else' (b := z0.no == (rRight z0)) h5 rfl ?_
    refine ac_skip ?_
    refine ac_region_lit ?_
    refine ao 90 rfl rfl (st_bi (u := .int .i64 0) (v := .int .i64 1) (r := .int .i64 1) rfl rfl rfl (bi_add (by decide)) ?_)
    refine ao 46 rfl rfl (st_move (v := .int .i64 1) rfl rfl ?_)
    refine ar_nil ?_
    exact ar_dropR (List.Sublist.cons _ (List.Sublist.refl _)) (K _ rfl rfl rfl rfl rfl)
def ivBounds_r1 (z0 : Iv) (z1 : Iv) (z2 : Iv) (z3 : Iv) (z4 : Iv) (z5 : Iv) (z6 : Iv) (z7 : Iv) (z8 : Iv) : Bool := (bif z1.no then (bif z1.lo != 0 then false else (bif z1.hi != 0 then false else (bif z1.no == (rRight z1) then false else true))) else (bif decide (z1.lo > z1.hi) then false else (bif decide (z1.lo < (-1073741824)) then false else (bif decide (z1.hi > 1073741824) then false else (bif z1.no == (rRight z1) then false else true)))))
set_option maxRecDepth 100000 in
theorem c_ivBounds_r1 (z0 : Iv) (z1 : Iv) (z2 : Iv) (z3 : Iv) (z4 : Iv) (z5 : Iv) (z6 : Iv) (z7 : Iv) (z8 : Iv) {v11 v12 : Value} {Q : Exit → Env → List Box → Prop} {H0 : List Box} {E : Env} {c : Code} {k : Nat} (hc : Try.f13.body.bind loopOf = some c) (q10 : E 10 = .bool false) (q45 : E 45 = .agg #[.int .i64 z0.lo, .int .i64 z0.hi, .bool z0.no, .int .i64 z1.lo, .int .i64 z1.hi, .bool z1.no, .int .i64 z2.lo, .int .i64 z2.hi, .bool z2.no, .int .i64 z3.lo, .int .i64 z3.hi, .bool z3.no, .int .i64 z4.lo, .int .i64 z4.hi, .bool z4.no, .int .i64 z5.lo, .int .i64 z5.hi, .bool z5.no, .int .i64 z6.lo, .int .i64 z6.hi, .bool z6.no, .int .i64 z7.lo, .int .i64 z7.hi, .bool z7.no, .int .i64 z8.lo, .int .i64 z8.hi, .bool z8.no]) (q46 : E 46 = .int .i64 1) (l11 : E 11 = v11) (l12 : E 12 = v12) (HG : (ivBounds_r1 z0 z1 z2 z3 z4 z5 z6 z7 z8) = true) (K : ∀ E' : Env, E' 10 = .bool false → E' 45 = .agg #[.int .i64 z0.lo, .int .i64 z0.hi, .bool z0.no, .int .i64 z1.lo, .int .i64 z1.hi, .bool z1.no, .int .i64 z2.lo, .int .i64 z2.hi, .bool z2.no, .int .i64 z3.lo, .int .i64 z3.hi, .bool z3.no, .int .i64 z4.lo, .int .i64 z4.hi, .bool z4.no, .int .i64 z5.lo, .int .i64 z5.hi, .bool z5.no, .int .i64 z6.lo, .int .i64 z6.hi, .bool z6.no, .int .i64 z7.lo, .int .i64 z7.hi, .bool z7.no, .int .i64 z8.lo, .int .i64 z8.hi, .bool z8.no] → E' 46 = .int .i64 2 → E' 11 = v11 → E' 12 = v12 → ARounds Try.prog 118 c Q k E' H0) : ARounds Try.prog 118 c Q (k + 1) E H0 := by
  rw [show Try.f13.body.bind loopOf = some _ from rfl] at hc
  cases hc
  obtain ⟨E0, rfl⟩ : ∃ E0 : Env, E = (((((E0.put (some 10) (.bool false)).put (some 45) (.agg #[.int .i64 z0.lo, .int .i64 z0.hi, .bool z0.no, .int .i64 z1.lo, .int .i64 z1.hi, .bool z1.no, .int .i64 z2.lo, .int .i64 z2.hi, .bool z2.no, .int .i64 z3.lo, .int .i64 z3.hi, .bool z3.no, .int .i64 z4.lo, .int .i64 z4.hi, .bool z4.no, .int .i64 z5.lo, .int .i64 z5.hi, .bool z5.no, .int .i64 z6.lo, .int .i64 z6.hi, .bool z6.no, .int .i64 z7.lo, .int .i64 z7.hi, .bool z7.no, .int .i64 z8.lo, .int .i64 z8.hi, .bool z8.no])).put (some 46) (.int .i64 1)).put (some 11) v11).put (some 12) v12) := ⟨E, by rw [put_self q10, put_self q45, put_self q46, put_self l11, put_self l12]⟩
  refine ar_round ?_
  refine ac_seq ?_
  refine ac_region_lit ?_
  refine ao 47 rfl rfl (st_bi (u := .int .i64 1) (v := .int .i64 9) (r := .bool true) rfl rfl rfl (bi_lss (by decide)) ?_)
  refine ar_nil ?_
  refine ac_seq ?_
  refine ac_then rfl ?_
  refine ac_skip ?_
  refine ac_seq ?_
  refine ac_block ?_
  refine ac_seq ?_
  refine ac_region_lit ?_
  refine ao 48 rfl rfl (st_ix (u := .agg #[.int .i64 z0.lo, .int .i64 z0.hi, .bool z0.no, .int .i64 z1.lo, .int .i64 z1.hi, .bool z1.no, .int .i64 z2.lo, .int .i64 z2.hi, .bool z2.no, .int .i64 z3.lo, .int .i64 z3.hi, .bool z3.no, .int .i64 z4.lo, .int .i64 z4.hi, .bool z4.no, .int .i64 z5.lo, .int .i64 z5.hi, .bool z5.no, .int .i64 z6.lo, .int .i64 z6.hi, .bool z6.no, .int .i64 z7.lo, .int .i64 z7.hi, .bool z7.no, .int .i64 z8.lo, .int .i64 z8.hi, .bool z8.no]) (i := .int .i64 1) (v := .agg #[.int .i64 z1.lo, .int .i64 z1.hi, .bool z1.no]) rfl rfl rfl (ix52_1 _ _ _ _ _ _ _ _ _ _ _ _ _ _ _ _ _ _ _ _ _ _ _ _ _ _ _) ?_)
  refine ao 14 rfl rfl (st_new zero35 rfl fun g0 => ?_)
  refine ar_op (d := none) rfl rfl (st_sta (g := g0) (off := 0) (us := [.int .i64 z1.lo, .int .i64 z1.hi, .bool z1.no]) (cs := [.int .i64 z1.lo, .int .i64 z1.hi, .bool z1.no]) agg35 0 rfl rfl rfl rfl rfl rfl rfl rfl rfl ?_)
  refine ar_nil ?_
  refine ac_seq ?_
  refine ac_draw0 (id := 6) [0, 1, 2, 3, 4, 5, 6, 7, 8, 9, 10, 11, 12, 13, 14, 15, 16, 17, 18, 19, 20, 21, 22, 23, 24, 25, 26, 27, 28, 29, 30, 31, 32, 33, 34, 35, 36, 37, 38, 39, 40] [] _ (by kernel_rfl) follows rfl  ?_
  refine dw_op (d := (some 49)) (.pointer (some ⟨g0, 2, none⟩)) rfl rfl rfl (st_fa (g := g0) (off := 0) rfl fa35_2 rfl ⟨rfl, rfl⟩) ?_
  refine dw_op (d := (some 50)) (.bool z1.no) rfl rfl rfl (st_ldc (g := g0) (off := 2) (v := .bool z1.no) cell4 0 rfl rfl rfl rfl rfl ⟨rfl, rfl⟩) ?_
  refine dw_op (d := (some 51)) (.bool z1.no) rfl rfl rfl (st_move (v := .bool z1.no) rfl rfl ⟨rfl, rfl⟩) ?_
  refine bool_split (z1.no) (fun h1 => ?_) (fun h1 => ?_)
  · refine dw_gd (d := (some 52)) (.pointer (some ⟨g0, 0, none⟩)) rfl (by show (z1.no == true) = true; rw [h1]; rfl) rfl (st_fa (g := g0) (off := 0) rfl fa35_0 rfl ⟨rfl, rfl⟩) ?_
    refine dw_gd (d := (some 53)) (.int .i64 z1.lo) rfl (by show (z1.no == true) = true; rw [h1]; rfl) rfl (st_ldc (g := g0) (off := 0) (v := .int .i64 z1.lo) cell3 0 rfl rfl rfl rfl rfl ⟨rfl, rfl⟩) ?_
    refine dw_gd (d := (some 54)) (.bool (z1.lo != 0)) rfl (by show (z1.no == true) = true; rw [h1]; rfl) rfl (st_bi (u := .int .i64 z1.lo) (v := .int .i64 0) (r := .bool (z1.lo != 0)) rfl rfl rfl (bi_neq rfl) ⟨rfl, rfl⟩) ?_
    refine dw_gd (d := (some 55)) (.bool (z1.lo != 0)) rfl (by show (z1.no == true) = true; rw [h1]; rfl) rfl (st_move (v := .bool (z1.lo != 0)) rfl rfl ⟨rfl, rfl⟩) ?_
    refine bool_split (z1.lo != 0) (fun h2 => nomatch (show false = true from (show (ivBounds_r1 z0 z1 z2 z3 z4 z5 z6 z7 z8) = _ from (eT h1 (eT h2 rfl))).symm.trans HG)) (fun h2 => ?_)
    refine dw_gd (d := (some 56)) (.pointer (some ⟨g0, 1, none⟩)) rfl (by show ((z1.lo != 0) == false) = true; rw [h2]; rfl) rfl (st_fa (g := g0) (off := 0) rfl fa35_1 rfl ⟨rfl, rfl⟩) ?_
    refine dw_gd (d := (some 57)) (.int .i64 z1.hi) rfl (by show ((z1.lo != 0) == false) = true; rw [h2]; rfl) rfl (st_ldc (g := g0) (off := 1) (v := .int .i64 z1.hi) cell3 0 rfl rfl rfl rfl rfl ⟨rfl, rfl⟩) ?_
    refine dw_gd (d := (some 58)) (.bool (z1.hi != 0)) rfl (by show ((z1.lo != 0) == false) = true; rw [h2]; rfl) rfl (st_bi (u := .int .i64 z1.hi) (v := .int .i64 0) (r := .bool (z1.hi != 0)) rfl rfl rfl (bi_neq rfl) ⟨rfl, rfl⟩) ?_
    refine dw_gd (d := (some 59)) (.bool (z1.hi != 0)) rfl (by show (z1.no == true) = true; rw [h1]; rfl) rfl (st_pkf' (b := z1.lo != 0) (v := .bool (z1.hi != 0)) h2 rfl rfl rfl ⟨rfl, rfl⟩) ?_
    refine dw_op (d := (some 60)) (.bool (z1.hi != 0)) rfl rfl rfl (st_pkt' (b := z1.no) (v := .bool (z1.hi != 0)) h1 rfl rfl rfl ⟨rfl, rfl⟩) ?_
    refine dw_op (d := (some 61)) (.bool (z1.hi != 0)) rfl rfl rfl (st_move (v := .bool (z1.hi != 0)) rfl rfl ⟨rfl, rfl⟩) ?_
    refine bool_split (z1.hi != 0) (fun h3 => nomatch (show false = true from (show (ivBounds_r1 z0 z1 z2 z3 z4 z5 z6 z7 z8) = _ from (eT h1 (eF h2 (eT h3 rfl)))).symm.trans HG)) (fun h3 => ?_)
    refine dw_gd (d := (some 62)) (.pointer (some ⟨g0, 2, none⟩)) rfl (by show ((z1.hi != 0) == false) = true; rw [h3]; rfl) rfl (st_fa (g := g0) (off := 0) rfl fa35_2 rfl ⟨rfl, rfl⟩) ?_
    refine dw_gd (d := (some 63)) (.bool z1.no) rfl (by show ((z1.hi != 0) == false) = true; rw [h3]; rfl) rfl (st_ldc (g := g0) (off := 2) (v := .bool z1.no) cell4 0 rfl rfl rfl rfl rfl ⟨rfl, rfl⟩) ?_
    refine dw_gd (d := (some 64)) (.bool (!z1.no)) rfl (by show ((z1.hi != 0) == false) = true; rw [h3]; rfl) rfl (st_un (u := .bool z1.no) (v := .bool (!z1.no)) rfl rfl (un_not rfl) ⟨rfl, rfl⟩) ?_
    refine dw_gd (d := (some 65)) (.bool (!z1.no)) rfl (by show ((z1.hi != 0) == false) = true; rw [h3]; rfl) rfl (st_move (v := .bool (!z1.no)) rfl rfl ⟨rfl, rfl⟩) ?_
    refine dw_sk (d := (some 66)) rfl (by show ((!z1.no) == true) = false; rw [h1]; rfl) rfl ?_
    refine dw_sk (d := (some 67)) rfl (by show ((!z1.no) == true) = false; rw [h1]; rfl) rfl ?_
    refine dw_sk (d := (some 68)) rfl (by show ((!z1.no) == true) = false; rw [h1]; rfl) rfl ?_
    refine dw_sk (d := (some 69)) rfl (by show ((!z1.no) == true) = false; rw [h1]; rfl) rfl ?_
    refine dw_sk (d := (some 70)) rfl (by show ((!z1.no) == true) = false; rw [h1]; rfl) rfl ?_
    refine dw_sk (d := (some 71)) rfl (by show ((!z1.no) == true) = false; rw [h1]; rfl) rfl ?_
    refine dw_sk (d := (some 72)) rfl rfl rfl ?_
    refine dw_sk (d := (some 73)) rfl rfl rfl ?_
    refine dw_sk (d := (some 74)) rfl rfl rfl ?_
    refine dw_sk (d := (some 75)) rfl (by show ((!z1.no) == true) = false; rw [h1]; rfl) rfl ?_
    refine dw_sk (d := (some 76)) rfl (by show ((!z1.no) == true) = false; rw [h1]; rfl) rfl ?_
    refine dw_sk (d := (some 77)) rfl rfl rfl ?_
    refine dw_sk (d := (some 78)) rfl rfl rfl ?_
    refine dw_sk (d := (some 79)) rfl rfl rfl ?_
    refine dw_sk (d := (some 80)) rfl (by show ((!z1.no) == true) = false; rw [h1]; rfl) rfl ?_
    refine dw_gd (d := (some 81)) (.bool false) rfl (by show ((z1.hi != 0) == false) = true; rw [h3]; rfl) rfl (st_pkf' (b := !z1.no) (v := .bool false) (by rw [h1]; rfl) rfl rfl rfl ⟨rfl, rfl⟩) ?_
    refine dw_op (d := (some 82)) (.bool false) rfl rfl rfl (st_pkf' (b := z1.hi != 0) (v := .bool false) h3 rfl rfl rfl ⟨rfl, rfl⟩) ?_
    refine dw_op (d := (some 83)) (.bool false) rfl rfl rfl (st_move (v := .bool false) rfl rfl ⟨rfl, rfl⟩) ?_
    refine dw_gd (d := (some 84)) (.pointer (some ⟨g0, 2, none⟩)) rfl rfl rfl (st_fa (g := g0) (off := 0) rfl fa35_2 rfl ⟨rfl, rfl⟩) ?_
    refine dw_gd (d := (some 85)) (.bool z1.no) rfl rfl rfl (st_ldc (g := g0) (off := 2) (v := .bool z1.no) cell4 0 rfl rfl rfl rfl rfl ⟨rfl, rfl⟩) ?_
    refine dw_gd (d := (some 86)) (.agg #[.int .i64 z1.lo, .int .i64 z1.hi, .bool z1.no]) rfl rfl rfl (st_lda (g := g0) (off := 0) (vs := [.int .i64 z1.lo, .int .i64 z1.hi, .bool z1.no]) agg35 0 rfl rfl rfl rfl rfl rfl ⟨rfl, rfl⟩) ?_
    refine dw_gd (d := (some 87)) (.bool (rRight z1)) rfl rfl rfl (st_cf (vs := [.agg #[.int .i64 z1.lo, .int .i64 z1.hi, .bool z1.no]]) (r := .bool (rRight z1)) (c_rRight z1) Try.func57 rfl (by decide) rfl rfl rfl ⟨rfl, rfl⟩) ?_
    refine dw_gd (d := (some 88)) (.bool (z1.no == (rRight z1))) rfl rfl rfl (st_bi (u := .bool z1.no) (v := .bool (rRight z1)) (r := .bool (z1.no == (rRight z1))) rfl rfl rfl (bb_eql Try.underlying4 rfl) ⟨rfl, rfl⟩) ?_
    refine dw_op (d := (some 89)) (.bool (z1.no == (rRight z1))) rfl rfl rfl (st_pkf (v := .bool (z1.no == (rRight z1))) rfl rfl rfl ⟨rfl, rfl⟩) ?_
    refine dw_nil ?_
    refine ar_nil ?_
    refine bool_split (z1.no == (rRight z1)) (fun h4 => nomatch (show false = true from (show (ivBounds_r1 z0 z1 z2 z3 z4 z5 z6 z7 z8) = _ from (eT h1 (eF h2 (eF h3 (eT h4 rfl))))).symm.trans HG)) (fun h4 => ?_)
    refine ac_else' (b := z1.no == (rRight z1)) h4 rfl ?_
    refine ac_skip ?_
    refine ac_region_lit ?_
    refine ao 90 rfl rfl (st_bi (u := .int .i64 1) (v := .int .i64 1) (r := .int .i64 2) rfl rfl rfl (bi_add (by decide)) ?_)
    refine ao 46 rfl rfl (st_move (v := .int .i64 2) rfl rfl ?_)
    refine ar_nil ?_
    exact ar_dropR (List.Sublist.cons _ (List.Sublist.refl _)) (K _ rfl rfl rfl rfl rfl)
  · refine dw_sk (d := (some 52)) rfl (by show (z1.no == true) = false; rw [h1]; rfl) rfl ?_
    refine dw_sk (d := (some 53)) rfl (by show (z1.no == true) = false; rw [h1]; rfl) rfl ?_
    refine dw_sk (d := (some 54)) rfl (by show (z1.no == true) = false; rw [h1]; rfl) rfl ?_
    refine dw_sk (d := (some 55)) rfl (by show (z1.no == true) = false; rw [h1]; rfl) rfl ?_
    refine dw_sk (d := (some 56)) rfl rfl rfl ?_
    refine dw_sk (d := (some 57)) rfl rfl rfl ?_
    refine dw_sk (d := (some 58)) rfl rfl rfl ?_
    refine dw_sk (d := (some 59)) rfl (by show (z1.no == true) = false; rw [h1]; rfl) rfl ?_
    refine dw_op (d := (some 60)) (.bool false) rfl rfl rfl (st_pkf' (b := z1.no) (v := .bool false) h1 rfl rfl rfl ⟨rfl, rfl⟩) ?_
    refine dw_op (d := (some 61)) (.bool false) rfl rfl rfl (st_move (v := .bool false) rfl rfl ⟨rfl, rfl⟩) ?_
    refine dw_gd (d := (some 62)) (.pointer (some ⟨g0, 2, none⟩)) rfl rfl rfl (st_fa (g := g0) (off := 0) rfl fa35_2 rfl ⟨rfl, rfl⟩) ?_
    refine dw_gd (d := (some 63)) (.bool z1.no) rfl rfl rfl (st_ldc (g := g0) (off := 2) (v := .bool z1.no) cell4 0 rfl rfl rfl rfl rfl ⟨rfl, rfl⟩) ?_
    refine dw_gd (d := (some 64)) (.bool (!z1.no)) rfl rfl rfl (st_un (u := .bool z1.no) (v := .bool (!z1.no)) rfl rfl (un_not rfl) ⟨rfl, rfl⟩) ?_
    refine dw_gd (d := (some 65)) (.bool (!z1.no)) rfl rfl rfl (st_move (v := .bool (!z1.no)) rfl rfl ⟨rfl, rfl⟩) ?_
    refine dw_gd (d := (some 66)) (.pointer (some ⟨g0, 0, none⟩)) rfl (by show ((!z1.no) == true) = true; rw [h1]; rfl) rfl (st_fa (g := g0) (off := 0) rfl fa35_0 rfl ⟨rfl, rfl⟩) ?_
    refine dw_gd (d := (some 67)) (.int .i64 z1.lo) rfl (by show ((!z1.no) == true) = true; rw [h1]; rfl) rfl (st_ldc (g := g0) (off := 0) (v := .int .i64 z1.lo) cell3 0 rfl rfl rfl rfl rfl ⟨rfl, rfl⟩) ?_
    refine dw_gd (d := (some 68)) (.pointer (some ⟨g0, 1, none⟩)) rfl (by show ((!z1.no) == true) = true; rw [h1]; rfl) rfl (st_fa (g := g0) (off := 0) rfl fa35_1 rfl ⟨rfl, rfl⟩) ?_
    refine dw_gd (d := (some 69)) (.int .i64 z1.hi) rfl (by show ((!z1.no) == true) = true; rw [h1]; rfl) rfl (st_ldc (g := g0) (off := 1) (v := .int .i64 z1.hi) cell3 0 rfl rfl rfl rfl rfl ⟨rfl, rfl⟩) ?_
    refine dw_gd (d := (some 70)) (.bool (decide (z1.lo > z1.hi))) rfl (by show ((!z1.no) == true) = true; rw [h1]; rfl) rfl (st_bi (u := .int .i64 z1.lo) (v := .int .i64 z1.hi) (r := .bool (decide (z1.lo > z1.hi))) rfl rfl rfl (bi_gtr rfl) ⟨rfl, rfl⟩) ?_
    refine dw_gd (d := (some 71)) (.bool (decide (z1.lo > z1.hi))) rfl (by show ((!z1.no) == true) = true; rw [h1]; rfl) rfl (st_move (v := .bool (decide (z1.lo > z1.hi))) rfl rfl ⟨rfl, rfl⟩) ?_
    refine bool_split (decide (z1.lo > z1.hi)) (fun h2 => nomatch (show false = true from (show (ivBounds_r1 z0 z1 z2 z3 z4 z5 z6 z7 z8) = _ from (eF h1 (eT h2 rfl))).symm.trans HG)) (fun h2 => ?_)
    refine dw_gd (d := (some 72)) (.pointer (some ⟨g0, 0, none⟩)) rfl (by show ((decide (z1.lo > z1.hi)) == false) = true; rw [h2]; rfl) rfl (st_fa (g := g0) (off := 0) rfl fa35_0 rfl ⟨rfl, rfl⟩) ?_
    refine dw_gd (d := (some 73)) (.int .i64 z1.lo) rfl (by show ((decide (z1.lo > z1.hi)) == false) = true; rw [h2]; rfl) rfl (st_ldc (g := g0) (off := 0) (v := .int .i64 z1.lo) cell3 0 rfl rfl rfl rfl rfl ⟨rfl, rfl⟩) ?_
    refine dw_gd (d := (some 74)) (.bool (decide (z1.lo < (-1073741824)))) rfl (by show ((decide (z1.lo > z1.hi)) == false) = true; rw [h2]; rfl) rfl (st_bi (u := .int .i64 z1.lo) (v := .int .i64 (-1073741824)) (r := .bool (decide (z1.lo < (-1073741824)))) rfl rfl rfl (bi_lss rfl) ⟨rfl, rfl⟩) ?_
    refine dw_gd (d := (some 75)) (.bool (decide (z1.lo < (-1073741824)))) rfl (by show ((!z1.no) == true) = true; rw [h1]; rfl) rfl (st_pkf' (b := decide (z1.lo > z1.hi)) (v := .bool (decide (z1.lo < (-1073741824)))) h2 rfl rfl rfl ⟨rfl, rfl⟩) ?_
    refine dw_gd (d := (some 76)) (.bool (decide (z1.lo < (-1073741824)))) rfl (by show ((!z1.no) == true) = true; rw [h1]; rfl) rfl (st_move (v := .bool (decide (z1.lo < (-1073741824)))) rfl rfl ⟨rfl, rfl⟩) ?_
    refine bool_split (decide (z1.lo < (-1073741824))) (fun h3 => nomatch (show false = true from (show (ivBounds_r1 z0 z1 z2 z3 z4 z5 z6 z7 z8) = _ from (eF h1 (eF h2 (eT h3 rfl)))).symm.trans HG)) (fun h3 => ?_)
    refine dw_gd (d := (some 77)) (.pointer (some ⟨g0, 1, none⟩)) rfl (by show ((decide (z1.lo < (-1073741824))) == false) = true; rw [h3]; rfl) rfl (st_fa (g := g0) (off := 0) rfl fa35_1 rfl ⟨rfl, rfl⟩) ?_
    refine dw_gd (d := (some 78)) (.int .i64 z1.hi) rfl (by show ((decide (z1.lo < (-1073741824))) == false) = true; rw [h3]; rfl) rfl (st_ldc (g := g0) (off := 1) (v := .int .i64 z1.hi) cell3 0 rfl rfl rfl rfl rfl ⟨rfl, rfl⟩) ?_
    refine dw_gd (d := (some 79)) (.bool (decide (z1.hi > 1073741824))) rfl (by show ((decide (z1.lo < (-1073741824))) == false) = true; rw [h3]; rfl) rfl (st_bi (u := .int .i64 z1.hi) (v := .int .i64 1073741824) (r := .bool (decide (z1.hi > 1073741824))) rfl rfl rfl (bi_gtr rfl) ⟨rfl, rfl⟩) ?_
    refine dw_gd (d := (some 80)) (.bool (decide (z1.hi > 1073741824))) rfl (by show ((!z1.no) == true) = true; rw [h1]; rfl) rfl (st_pkf' (b := decide (z1.lo < (-1073741824))) (v := .bool (decide (z1.hi > 1073741824))) h3 rfl rfl rfl ⟨rfl, rfl⟩) ?_
    refine dw_gd (d := (some 81)) (.bool (decide (z1.hi > 1073741824))) rfl rfl rfl (st_pkt' (b := !z1.no) (v := .bool (decide (z1.hi > 1073741824))) (by rw [h1]; rfl) rfl rfl rfl ⟨rfl, rfl⟩) ?_
    refine dw_op (d := (some 82)) (.bool (decide (z1.hi > 1073741824))) rfl rfl rfl (st_pkf (v := .bool (decide (z1.hi > 1073741824))) rfl rfl rfl ⟨rfl, rfl⟩) ?_
    refine dw_op (d := (some 83)) (.bool (decide (z1.hi > 1073741824))) rfl rfl rfl (st_move (v := .bool (decide (z1.hi > 1073741824))) rfl rfl ⟨rfl, rfl⟩) ?_
    refine bool_split (decide (z1.hi > 1073741824)) (fun h4 => nomatch (show false = true from (show (ivBounds_r1 z0 z1 z2 z3 z4 z5 z6 z7 z8) = _ from (eF h1 (eF h2 (eF h3 (eT h4 rfl))))).symm.trans HG)) (fun h4 => ?_)
    refine dw_gd (d := (some 84)) (.pointer (some ⟨g0, 2, none⟩)) rfl (by show ((decide (z1.hi > 1073741824)) == false) = true; rw [h4]; rfl) rfl (st_fa (g := g0) (off := 0) rfl fa35_2 rfl ⟨rfl, rfl⟩) ?_
    refine dw_gd (d := (some 85)) (.bool z1.no) rfl (by show ((decide (z1.hi > 1073741824)) == false) = true; rw [h4]; rfl) rfl (st_ldc (g := g0) (off := 2) (v := .bool z1.no) cell4 0 rfl rfl rfl rfl rfl ⟨rfl, rfl⟩) ?_
    refine dw_gd (d := (some 86)) (.agg #[.int .i64 z1.lo, .int .i64 z1.hi, .bool z1.no]) rfl (by show ((decide (z1.hi > 1073741824)) == false) = true; rw [h4]; rfl) rfl (st_lda (g := g0) (off := 0) (vs := [.int .i64 z1.lo, .int .i64 z1.hi, .bool z1.no]) agg35 0 rfl rfl rfl rfl rfl rfl ⟨rfl, rfl⟩) ?_
    refine dw_gd (d := (some 87)) (.bool (rRight z1)) rfl (by show ((decide (z1.hi > 1073741824)) == false) = true; rw [h4]; rfl) rfl (st_cf (vs := [.agg #[.int .i64 z1.lo, .int .i64 z1.hi, .bool z1.no]]) (r := .bool (rRight z1)) (c_rRight z1) Try.func57 rfl (by decide) rfl rfl rfl ⟨rfl, rfl⟩) ?_
    refine dw_gd (d := (some 88)) (.bool (z1.no == (rRight z1))) rfl (by show ((decide (z1.hi > 1073741824)) == false) = true; rw [h4]; rfl) rfl (st_bi (u := .bool z1.no) (v := .bool (rRight z1)) (r := .bool (z1.no == (rRight z1))) rfl rfl rfl (bb_eql Try.underlying4 rfl) ⟨rfl, rfl⟩) ?_
    refine dw_op (d := (some 89)) (.bool (z1.no == (rRight z1))) rfl rfl rfl (st_pkf' (b := decide (z1.hi > 1073741824)) (v := .bool (z1.no == (rRight z1))) h4 rfl rfl rfl ⟨rfl, rfl⟩) ?_
    refine dw_nil ?_
    refine ar_nil ?_
    refine bool_split (z1.no == (rRight z1)) (fun h5 => nomatch (show false = true from (show (ivBounds_r1 z0 z1 z2 z3 z4 z5 z6 z7 z8) = _ from (eF h1 (eF h2 (eF h3 (eF h4 (eT h5 rfl)))))).symm.trans HG)) (fun h5 => ?_)
    refine ac_else' (b := z1.no == (rRight z1)) h5 rfl ?_
    refine ac_skip ?_
    refine ac_region_lit ?_
    refine ao 90 rfl rfl (st_bi (u := .int .i64 1) (v := .int .i64 1) (r := .int .i64 2) rfl rfl rfl (bi_add (by decide)) ?_)
    refine ao 46 rfl rfl (st_move (v := .int .i64 2) rfl rfl ?_)
    refine ar_nil ?_
    exact ar_dropR (List.Sublist.cons _ (List.Sublist.refl _)) (K _ rfl rfl rfl rfl rfl)
def ivBounds_r2 (z0 : Iv) (z1 : Iv) (z2 : Iv) (z3 : Iv) (z4 : Iv) (z5 : Iv) (z6 : Iv) (z7 : Iv) (z8 : Iv) : Bool := (bif z2.no then (bif z2.lo != 0 then false else (bif z2.hi != 0 then false else (bif z2.no == (rRight z2) then false else true))) else (bif decide (z2.lo > z2.hi) then false else (bif decide (z2.lo < (-1073741824)) then false else (bif decide (z2.hi > 1073741824) then false else (bif z2.no == (rRight z2) then false else true)))))
set_option maxRecDepth 100000 in
theorem c_ivBounds_r2 (z0 : Iv) (z1 : Iv) (z2 : Iv) (z3 : Iv) (z4 : Iv) (z5 : Iv) (z6 : Iv) (z7 : Iv) (z8 : Iv) {v11 v12 : Value} {Q : Exit → Env → List Box → Prop} {H0 : List Box} {E : Env} {c : Code} {k : Nat} (hc : Try.f13.body.bind loopOf = some c) (q10 : E 10 = .bool false) (q45 : E 45 = .agg #[.int .i64 z0.lo, .int .i64 z0.hi, .bool z0.no, .int .i64 z1.lo, .int .i64 z1.hi, .bool z1.no, .int .i64 z2.lo, .int .i64 z2.hi, .bool z2.no, .int .i64 z3.lo, .int .i64 z3.hi, .bool z3.no, .int .i64 z4.lo, .int .i64 z4.hi, .bool z4.no, .int .i64 z5.lo, .int .i64 z5.hi, .bool z5.no, .int .i64 z6.lo, .int .i64 z6.hi, .bool z6.no, .int .i64 z7.lo, .int .i64 z7.hi, .bool z7.no, .int .i64 z8.lo, .int .i64 z8.hi, .bool z8.no]) (q46 : E 46 = .int .i64 2) (l11 : E 11 = v11) (l12 : E 12 = v12) (HG : (ivBounds_r2 z0 z1 z2 z3 z4 z5 z6 z7 z8) = true) (K : ∀ E' : Env, E' 10 = .bool false → E' 45 = .agg #[.int .i64 z0.lo, .int .i64 z0.hi, .bool z0.no, .int .i64 z1.lo, .int .i64 z1.hi, .bool z1.no, .int .i64 z2.lo, .int .i64 z2.hi, .bool z2.no, .int .i64 z3.lo, .int .i64 z3.hi, .bool z3.no, .int .i64 z4.lo, .int .i64 z4.hi, .bool z4.no, .int .i64 z5.lo, .int .i64 z5.hi, .bool z5.no, .int .i64 z6.lo, .int .i64 z6.hi, .bool z6.no, .int .i64 z7.lo, .int .i64 z7.hi, .bool z7.no, .int .i64 z8.lo, .int .i64 z8.hi, .bool z8.no] → E' 46 = .int .i64 3 → E' 11 = v11 → E' 12 = v12 → ARounds Try.prog 118 c Q k E' H0) : ARounds Try.prog 118 c Q (k + 1) E H0 := by
  rw [show Try.f13.body.bind loopOf = some _ from rfl] at hc
  cases hc
  obtain ⟨E0, rfl⟩ : ∃ E0 : Env, E = (((((E0.put (some 10) (.bool false)).put (some 45) (.agg #[.int .i64 z0.lo, .int .i64 z0.hi, .bool z0.no, .int .i64 z1.lo, .int .i64 z1.hi, .bool z1.no, .int .i64 z2.lo, .int .i64 z2.hi, .bool z2.no, .int .i64 z3.lo, .int .i64 z3.hi, .bool z3.no, .int .i64 z4.lo, .int .i64 z4.hi, .bool z4.no, .int .i64 z5.lo, .int .i64 z5.hi, .bool z5.no, .int .i64 z6.lo, .int .i64 z6.hi, .bool z6.no, .int .i64 z7.lo, .int .i64 z7.hi, .bool z7.no, .int .i64 z8.lo, .int .i64 z8.hi, .bool z8.no])).put (some 46) (.int .i64 2)).put (some 11) v11).put (some 12) v12) := ⟨E, by rw [put_self q10, put_self q45, put_self q46, put_self l11, put_self l12]⟩
  refine ar_round ?_
  refine ac_seq ?_
  refine ac_region_lit ?_
  refine ao 47 rfl rfl (st_bi (u := .int .i64 2) (v := .int .i64 9) (r := .bool true) rfl rfl rfl (bi_lss (by decide)) ?_)
  refine ar_nil ?_
  refine ac_seq ?_
  refine ac_then rfl ?_
  refine ac_skip ?_
  refine ac_seq ?_
  refine ac_block ?_
  refine ac_seq ?_
  refine ac_region_lit ?_
  refine ao 48 rfl rfl (st_ix (u := .agg #[.int .i64 z0.lo, .int .i64 z0.hi, .bool z0.no, .int .i64 z1.lo, .int .i64 z1.hi, .bool z1.no, .int .i64 z2.lo, .int .i64 z2.hi, .bool z2.no, .int .i64 z3.lo, .int .i64 z3.hi, .bool z3.no, .int .i64 z4.lo, .int .i64 z4.hi, .bool z4.no, .int .i64 z5.lo, .int .i64 z5.hi, .bool z5.no, .int .i64 z6.lo, .int .i64 z6.hi, .bool z6.no, .int .i64 z7.lo, .int .i64 z7.hi, .bool z7.no, .int .i64 z8.lo, .int .i64 z8.hi, .bool z8.no]) (i := .int .i64 2) (v := .agg #[.int .i64 z2.lo, .int .i64 z2.hi, .bool z2.no]) rfl rfl rfl (ix52_2 _ _ _ _ _ _ _ _ _ _ _ _ _ _ _ _ _ _ _ _ _ _ _ _ _ _ _) ?_)
  refine ao 14 rfl rfl (st_new zero35 rfl fun g0 => ?_)
  refine ar_op (d := none) rfl rfl (st_sta (g := g0) (off := 0) (us := [.int .i64 z2.lo, .int .i64 z2.hi, .bool z2.no]) (cs := [.int .i64 z2.lo, .int .i64 z2.hi, .bool z2.no]) agg35 0 rfl rfl rfl rfl rfl rfl rfl rfl rfl ?_)
  refine ar_nil ?_
  refine ac_seq ?_
  refine ac_draw0 (id := 6) [0, 1, 2, 3, 4, 5, 6, 7, 8, 9, 10, 11, 12, 13, 14, 15, 16, 17, 18, 19, 20, 21, 22, 23, 24, 25, 26, 27, 28, 29, 30, 31, 32, 33, 34, 35, 36, 37, 38, 39, 40] [] _ (by kernel_rfl) follows rfl  ?_
  refine dw_op (d := (some 49)) (.pointer (some ⟨g0, 2, none⟩)) rfl rfl rfl (st_fa (g := g0) (off := 0) rfl fa35_2 rfl ⟨rfl, rfl⟩) ?_
  refine dw_op (d := (some 50)) (.bool z2.no) rfl rfl rfl (st_ldc (g := g0) (off := 2) (v := .bool z2.no) cell4 0 rfl rfl rfl rfl rfl ⟨rfl, rfl⟩) ?_
  refine dw_op (d := (some 51)) (.bool z2.no) rfl rfl rfl (st_move (v := .bool z2.no) rfl rfl ⟨rfl, rfl⟩) ?_
  refine bool_split (z2.no) (fun h1 => ?_) (fun h1 => ?_)
  · refine dw_gd (d := (some 52)) (.pointer (some ⟨g0, 0, none⟩)) rfl (by show (z2.no == true) = true; rw [h1]; rfl) rfl (st_fa (g := g0) (off := 0) rfl fa35_0 rfl ⟨rfl, rfl⟩) ?_
    refine dw_gd (d := (some 53)) (.int .i64 z2.lo) rfl (by show (z2.no == true) = true; rw [h1]; rfl) rfl (st_ldc (g := g0) (off := 0) (v := .int .i64 z2.lo) cell3 0 rfl rfl rfl rfl rfl ⟨rfl, rfl⟩) ?_
    refine dw_gd (d := (some 54)) (.bool (z2.lo != 0)) rfl (by show (z2.no == true) = true; rw [h1]; rfl) rfl (st_bi (u := .int .i64 z2.lo) (v := .int .i64 0) (r := .bool (z2.lo != 0)) rfl rfl rfl (bi_neq rfl) ⟨rfl, rfl⟩) ?_
    refine dw_gd (d := (some 55)) (.bool (z2.lo != 0)) rfl (by show (z2.no == true) = true; rw [h1]; rfl) rfl (st_move (v := .bool (z2.lo != 0)) rfl rfl ⟨rfl, rfl⟩) ?_
    refine bool_split (z2.lo != 0) (fun h2 => nomatch (show false = true from (show (ivBounds_r2 z0 z1 z2 z3 z4 z5 z6 z7 z8) = _ from (eT h1 (eT h2 rfl))).symm.trans HG)) (fun h2 => ?_)
    refine dw_gd (d := (some 56)) (.pointer (some ⟨g0, 1, none⟩)) rfl (by show ((z2.lo != 0) == false) = true; rw [h2]; rfl) rfl (st_fa (g := g0) (off := 0) rfl fa35_1 rfl ⟨rfl, rfl⟩) ?_
    refine dw_gd (d := (some 57)) (.int .i64 z2.hi) rfl (by show ((z2.lo != 0) == false) = true; rw [h2]; rfl) rfl (st_ldc (g := g0) (off := 1) (v := .int .i64 z2.hi) cell3 0 rfl rfl rfl rfl rfl ⟨rfl, rfl⟩) ?_
    refine dw_gd (d := (some 58)) (.bool (z2.hi != 0)) rfl (by show ((z2.lo != 0) == false) = true; rw [h2]; rfl) rfl (st_bi (u := .int .i64 z2.hi) (v := .int .i64 0) (r := .bool (z2.hi != 0)) rfl rfl rfl (bi_neq rfl) ⟨rfl, rfl⟩) ?_
    refine dw_gd (d := (some 59)) (.bool (z2.hi != 0)) rfl (by show (z2.no == true) = true; rw [h1]; rfl) rfl (st_pkf' (b := z2.lo != 0) (v := .bool (z2.hi != 0)) h2 rfl rfl rfl ⟨rfl, rfl⟩) ?_
    refine dw_op (d := (some 60)) (.bool (z2.hi != 0)) rfl rfl rfl (st_pkt' (b := z2.no) (v := .bool (z2.hi != 0)) h1 rfl rfl rfl ⟨rfl, rfl⟩) ?_
    refine dw_op (d := (some 61)) (.bool (z2.hi != 0)) rfl rfl rfl (st_move (v := .bool (z2.hi != 0)) rfl rfl ⟨rfl, rfl⟩) ?_
    refine bool_split (z2.hi != 0) (fun h3 => nomatch (show false = true from (show (ivBounds_r2 z0 z1 z2 z3 z4 z5 z6 z7 z8) = _ from (eT h1 (eF h2 (eT h3 rfl)))).symm.trans HG)) (fun h3 => ?_)
    refine dw_gd (d := (some 62)) (.pointer (some ⟨g0, 2, none⟩)) rfl (by show ((z2.hi != 0) == false) = true; rw [h3]; rfl) rfl (st_fa (g := g0) (off := 0) rfl fa35_2 rfl ⟨rfl, rfl⟩) ?_
    refine dw_gd (d := (some 63)) (.bool z2.no) rfl (by show ((z2.hi != 0) == false) = true; rw [h3]; rfl) rfl (st_ldc (g := g0) (off := 2) (v := .bool z2.no) cell4 0 rfl rfl rfl rfl rfl ⟨rfl, rfl⟩) ?_
    refine dw_gd (d := (some 64)) (.bool (!z2.no)) rfl (by show ((z2.hi != 0) == false) = true; rw [h3]; rfl) rfl (st_un (u := .bool z2.no) (v := .bool (!z2.no)) rfl rfl (un_not rfl) ⟨rfl, rfl⟩) ?_
    refine dw_gd (d := (some 65)) (.bool (!z2.no)) rfl (by show ((z2.hi != 0) == false) = true; rw [h3]; rfl) rfl (st_move (v := .bool (!z2.no)) rfl rfl ⟨rfl, rfl⟩) ?_
    refine dw_sk (d := (some 66)) rfl (by show ((!z2.no) == true) = false; rw [h1]; rfl) rfl ?_
    refine dw_sk (d := (some 67)) rfl (by show ((!z2.no) == true) = false; rw [h1]; rfl) rfl ?_
    refine dw_sk (d := (some 68)) rfl (by show ((!z2.no) == true) = false; rw [h1]; rfl) rfl ?_
    refine dw_sk (d := (some 69)) rfl (by show ((!z2.no) == true) = false; rw [h1]; rfl) rfl ?_
    refine dw_sk (d := (some 70)) rfl (by show ((!z2.no) == true) = false; rw [h1]; rfl) rfl ?_
    refine dw_sk (d := (some 71)) rfl (by show ((!z2.no) == true) = false; rw [h1]; rfl) rfl ?_
    refine dw_sk (d := (some 72)) rfl rfl rfl ?_
    refine dw_sk (d := (some 73)) rfl rfl rfl ?_
    refine dw_sk (d := (some 74)) rfl rfl rfl ?_
    refine dw_sk (d := (some 75)) rfl (by show ((!z2.no) == true) = false; rw [h1]; rfl) rfl ?_
    refine dw_sk (d := (some 76)) rfl (by show ((!z2.no) == true) = false; rw [h1]; rfl) rfl ?_
    refine dw_sk (d := (some 77)) rfl rfl rfl ?_
    refine dw_sk (d := (some 78)) rfl rfl rfl ?_
    refine dw_sk (d := (some 79)) rfl rfl rfl ?_
    refine dw_sk (d := (some 80)) rfl (by show ((!z2.no) == true) = false; rw [h1]; rfl) rfl ?_
    refine dw_gd (d := (some 81)) (.bool false) rfl (by show ((z2.hi != 0) == false) = true; rw [h3]; rfl) rfl (st_pkf' (b := !z2.no) (v := .bool false) (by rw [h1]; rfl) rfl rfl rfl ⟨rfl, rfl⟩) ?_
    refine dw_op (d := (some 82)) (.bool false) rfl rfl rfl (st_pkf' (b := z2.hi != 0) (v := .bool false) h3 rfl rfl rfl ⟨rfl, rfl⟩) ?_
    refine dw_op (d := (some 83)) (.bool false) rfl rfl rfl (st_move (v := .bool false) rfl rfl ⟨rfl, rfl⟩) ?_
    refine dw_gd (d := (some 84)) (.pointer (some ⟨g0, 2, none⟩)) rfl rfl rfl (st_fa (g := g0) (off := 0) rfl fa35_2 rfl ⟨rfl, rfl⟩) ?_
    refine dw_gd (d := (some 85)) (.bool z2.no) rfl rfl rfl (st_ldc (g := g0) (off := 2) (v := .bool z2.no) cell4 0 rfl rfl rfl rfl rfl ⟨rfl, rfl⟩) ?_
    refine dw_gd (d := (some 86)) (.agg #[.int .i64 z2.lo, .int .i64 z2.hi, .bool z2.no]) rfl rfl rfl (st_lda (g := g0) (off := 0) (vs := [.int .i64 z2.lo, .int .i64 z2.hi, .bool z2.no]) agg35 0 rfl rfl rfl rfl rfl rfl ⟨rfl, rfl⟩) ?_
    refine dw_gd (d := (some 87)) (.bool (rRight z2)) rfl rfl rfl (st_cf (vs := [.agg #[.int .i64 z2.lo, .int .i64 z2.hi, .bool z2.no]]) (r := .bool (rRight z2)) (c_rRight z2) Try.func57 rfl (by decide) rfl rfl rfl ⟨rfl, rfl⟩) ?_
    refine dw_gd (d := (some 88)) (.bool (z2.no == (rRight z2))) rfl rfl rfl (st_bi (u := .bool z2.no) (v := .bool (rRight z2)) (r := .bool (z2.no == (rRight z2))) rfl rfl rfl (bb_eql Try.underlying4 rfl) ⟨rfl, rfl⟩) ?_
    refine dw_op (d := (some 89)) (.bool (z2.no == (rRight z2))) rfl rfl rfl (st_pkf (v := .bool (z2.no == (rRight z2))) rfl rfl rfl ⟨rfl, rfl⟩) ?_
    refine dw_nil ?_
    refine ar_nil ?_
    refine bool_split (z2.no == (rRight z2)) (fun h4 => nomatch (show false = true from (show (ivBounds_r2 z0 z1 z2 z3 z4 z5 z6 z7 z8) = _ from (eT h1 (eF h2 (eF h3 (eT h4 rfl))))).symm.trans HG)) (fun h4 => ?_)
    refine ac_else' (b := z2.no == (rRight z2)) h4 rfl ?_
    refine ac_skip ?_
    refine ac_region_lit ?_
    refine ao 90 rfl rfl (st_bi (u := .int .i64 2) (v := .int .i64 1) (r := .int .i64 3) rfl rfl rfl (bi_add (by decide)) ?_)
    refine ao 46 rfl rfl (st_move (v := .int .i64 3) rfl rfl ?_)
    refine ar_nil ?_
    exact ar_dropR (List.Sublist.cons _ (List.Sublist.refl _)) (K _ rfl rfl rfl rfl rfl)
  · refine dw_sk (d := (some 52)) rfl (by show (z2.no == true) = false; rw [h1]; rfl) rfl ?_
    refine dw_sk (d := (some 53)) rfl (by show (z2.no == true) = false; rw [h1]; rfl) rfl ?_
    refine dw_sk (d := (some 54)) rfl (by show (z2.no == true) = false; rw [h1]; rfl) rfl ?_
    refine dw_sk (d := (some 55)) rfl (by show (z2.no == true) = false; rw [h1]; rfl) rfl ?_
    refine dw_sk (d := (some 56)) rfl rfl rfl ?_
    refine dw_sk (d := (some 57)) rfl rfl rfl ?_
    refine dw_sk (d := (some 58)) rfl rfl rfl ?_
    refine dw_sk (d := (some 59)) rfl (by show (z2.no == true) = false; rw [h1]; rfl) rfl ?_
    refine dw_op (d := (some 60)) (.bool false) rfl rfl rfl (st_pkf' (b := z2.no) (v := .bool false) h1 rfl rfl rfl ⟨rfl, rfl⟩) ?_
    refine dw_op (d := (some 61)) (.bool false) rfl rfl rfl (st_move (v := .bool false) rfl rfl ⟨rfl, rfl⟩) ?_
    refine dw_gd (d := (some 62)) (.pointer (some ⟨g0, 2, none⟩)) rfl rfl rfl (st_fa (g := g0) (off := 0) rfl fa35_2 rfl ⟨rfl, rfl⟩) ?_
    refine dw_gd (d := (some 63)) (.bool z2.no) rfl rfl rfl (st_ldc (g := g0) (off := 2) (v := .bool z2.no) cell4 0 rfl rfl rfl rfl rfl ⟨rfl, rfl⟩) ?_
    refine dw_gd (d := (some 64)) (.bool (!z2.no)) rfl rfl rfl (st_un (u := .bool z2.no) (v := .bool (!z2.no)) rfl rfl (un_not rfl) ⟨rfl, rfl⟩) ?_
    refine dw_gd (d := (some 65)) (.bool (!z2.no)) rfl rfl rfl (st_move (v := .bool (!z2.no)) rfl rfl ⟨rfl, rfl⟩) ?_
    refine dw_gd (d := (some 66)) (.pointer (some ⟨g0, 0, none⟩)) rfl (by show ((!z2.no) == true) = true; rw [h1]; rfl) rfl (st_fa (g := g0) (off := 0) rfl fa35_0 rfl ⟨rfl, rfl⟩) ?_
    refine dw_gd (d := (some 67)) (.int .i64 z2.lo) rfl (by show ((!z2.no) == true) = true; rw [h1]; rfl) rfl (st_ldc (g := g0) (off := 0) (v := .int .i64 z2.lo) cell3 0 rfl rfl rfl rfl rfl ⟨rfl, rfl⟩) ?_
    refine dw_gd (d := (some 68)) (.pointer (some ⟨g0, 1, none⟩)) rfl (by show ((!z2.no) == true) = true; rw [h1]; rfl) rfl (st_fa (g := g0) (off := 0) rfl fa35_1 rfl ⟨rfl, rfl⟩) ?_
    refine dw_gd (d := (some 69)) (.int .i64 z2.hi) rfl (by show ((!z2.no) == true) = true; rw [h1]; rfl) rfl (st_ldc (g := g0) (off := 1) (v := .int .i64 z2.hi) cell3 0 rfl rfl rfl rfl rfl ⟨rfl, rfl⟩) ?_
    refine dw_gd (d := (some 70)) (.bool (decide (z2.lo > z2.hi))) rfl (by show ((!z2.no) == true) = true; rw [h1]; rfl) rfl (st_bi (u := .int .i64 z2.lo) (v := .int .i64 z2.hi) (r := .bool (decide (z2.lo > z2.hi))) rfl rfl rfl (bi_gtr rfl) ⟨rfl, rfl⟩) ?_
    refine dw_gd (d := (some 71)) (.bool (decide (z2.lo > z2.hi))) rfl (by show ((!z2.no) == true) = true; rw [h1]; rfl) rfl (st_move (v := .bool (decide (z2.lo > z2.hi))) rfl rfl ⟨rfl, rfl⟩) ?_
    refine bool_split (decide (z2.lo > z2.hi)) (fun h2 => nomatch (show false = true from (show (ivBounds_r2 z0 z1 z2 z3 z4 z5 z6 z7 z8) = _ from (eF h1 (eT h2 rfl))).symm.trans HG)) (fun h2 => ?_)
    refine dw_gd (d := (some 72)) (.pointer (some ⟨g0, 0, none⟩)) rfl (by show ((decide (z2.lo > z2.hi)) == false) = true; rw [h2]; rfl) rfl (st_fa (g := g0) (off := 0) rfl fa35_0 rfl ⟨rfl, rfl⟩) ?_
    refine dw_gd (d := (some 73)) (.int .i64 z2.lo) rfl (by show ((decide (z2.lo > z2.hi)) == false) = true; rw [h2]; rfl) rfl (st_ldc (g := g0) (off := 0) (v := .int .i64 z2.lo) cell3 0 rfl rfl rfl rfl rfl ⟨rfl, rfl⟩) ?_
    refine dw_gd (d := (some 74)) (.bool (decide (z2.lo < (-1073741824)))) rfl (by show ((decide (z2.lo > z2.hi)) == false) = true; rw [h2]; rfl) rfl (st_bi (u := .int .i64 z2.lo) (v := .int .i64 (-1073741824)) (r := .bool (decide (z2.lo < (-1073741824)))) rfl rfl rfl (bi_lss rfl) ⟨rfl, rfl⟩) ?_
    refine dw_gd (d := (some 75)) (.bool (decide (z2.lo < (-1073741824)))) rfl (by show ((!z2.no) == true) = true; rw [h1]; rfl) rfl (st_pkf' (b := decide (z2.lo > z2.hi)) (v := .bool (decide (z2.lo < (-1073741824)))) h2 rfl rfl rfl ⟨rfl, rfl⟩) ?_
    refine dw_gd (d := (some 76)) (.bool (decide (z2.lo < (-1073741824)))) rfl (by show ((!z2.no) == true) = true; rw [h1]; rfl) rfl (st_move (v := .bool (decide (z2.lo < (-1073741824)))) rfl rfl ⟨rfl, rfl⟩) ?_
    refine bool_split (decide (z2.lo < (-1073741824))) (fun h3 => nomatch (show false = true from (show (ivBounds_r2 z0 z1 z2 z3 z4 z5 z6 z7 z8) = _ from (eF h1 (eF h2 (eT h3 rfl)))).symm.trans HG)) (fun h3 => ?_)
    refine dw_gd (d := (some 77)) (.pointer (some ⟨g0, 1, none⟩)) rfl (by show ((decide (z2.lo < (-1073741824))) == false) = true; rw [h3]; rfl) rfl (st_fa (g := g0) (off := 0) rfl fa35_1 rfl ⟨rfl, rfl⟩) ?_
    refine dw_gd (d := (some 78)) (.int .i64 z2.hi) rfl (by show ((decide (z2.lo < (-1073741824))) == false) = true; rw [h3]; rfl) rfl (st_ldc (g := g0) (off := 1) (v := .int .i64 z2.hi) cell3 0 rfl rfl rfl rfl rfl ⟨rfl, rfl⟩) ?_
    refine dw_gd (d := (some 79)) (.bool (decide (z2.hi > 1073741824))) rfl (by show ((decide (z2.lo < (-1073741824))) == false) = true; rw [h3]; rfl) rfl (st_bi (u := .int .i64 z2.hi) (v := .int .i64 1073741824) (r := .bool (decide (z2.hi > 1073741824))) rfl rfl rfl (bi_gtr rfl) ⟨rfl, rfl⟩) ?_
    refine dw_gd (d := (some 80)) (.bool (decide (z2.hi > 1073741824))) rfl (by show ((!z2.no) == true) = true; rw [h1]; rfl) rfl (st_pkf' (b := decide (z2.lo < (-1073741824))) (v := .bool (decide (z2.hi > 1073741824))) h3 rfl rfl rfl ⟨rfl, rfl⟩) ?_
    refine dw_gd (d := (some 81)) (.bool (decide (z2.hi > 1073741824))) rfl rfl rfl (st_pkt' (b := !z2.no) (v := .bool (decide (z2.hi > 1073741824))) (by rw [h1]; rfl) rfl rfl rfl ⟨rfl, rfl⟩) ?_
    refine dw_op (d := (some 82)) (.bool (decide (z2.hi > 1073741824))) rfl rfl rfl (st_pkf (v := .bool (decide (z2.hi > 1073741824))) rfl rfl rfl ⟨rfl, rfl⟩) ?_
    refine dw_op (d := (some 83)) (.bool (decide (z2.hi > 1073741824))) rfl rfl rfl (st_move (v := .bool (decide (z2.hi > 1073741824))) rfl rfl ⟨rfl, rfl⟩) ?_
    refine bool_split (decide (z2.hi > 1073741824)) (fun h4 => nomatch (show false = true from (show (ivBounds_r2 z0 z1 z2 z3 z4 z5 z6 z7 z8) = _ from (eF h1 (eF h2 (eF h3 (eT h4 rfl))))).symm.trans HG)) (fun h4 => ?_)
    refine dw_gd (d := (some 84)) (.pointer (some ⟨g0, 2, none⟩)) rfl (by show ((decide (z2.hi > 1073741824)) == false) = true; rw [h4]; rfl) rfl (st_fa (g := g0) (off := 0) rfl fa35_2 rfl ⟨rfl, rfl⟩) ?_
    refine dw_gd (d := (some 85)) (.bool z2.no) rfl (by show ((decide (z2.hi > 1073741824)) == false) = true; rw [h4]; rfl) rfl (st_ldc (g := g0) (off := 2) (v := .bool z2.no) cell4 0 rfl rfl rfl rfl rfl ⟨rfl, rfl⟩) ?_
    refine dw_gd (d := (some 86)) (.agg #[.int .i64 z2.lo, .int .i64 z2.hi, .bool z2.no]) rfl (by show ((decide (z2.hi > 1073741824)) == false) = true; rw [h4]; rfl) rfl (st_lda (g := g0) (off := 0) (vs := [.int .i64 z2.lo, .int .i64 z2.hi, .bool z2.no]) agg35 0 rfl rfl rfl rfl rfl rfl ⟨rfl, rfl⟩) ?_
    refine dw_gd (d := (some 87)) (.bool (rRight z2)) rfl (by show ((decide (z2.hi > 1073741824)) == false) = true; rw [h4]; rfl) rfl (st_cf (vs := [.agg #[.int .i64 z2.lo, .int .i64 z2.hi, .bool z2.no]]) (r := .bool (rRight z2)) (c_rRight z2) Try.func57 rfl (by decide) rfl rfl rfl ⟨rfl, rfl⟩) ?_
    refine dw_gd (d := (some 88)) (.bool (z2.no == (rRight z2))) rfl (by show ((decide (z2.hi > 1073741824)) == false) = true; rw [h4]; rfl) rfl (st_bi (u := .bool z2.no) (v := .bool (rRight z2)) (r := .bool (z2.no == (rRight z2))) rfl rfl rfl (bb_eql Try.underlying4 rfl) ⟨rfl, rfl⟩) ?_
    refine dw_op (d := (some 89)) (.bool (z2.no == (rRight z2))) rfl rfl rfl (st_pkf' (b := decide (z2.hi > 1073741824)) (v := .bool (z2.no == (rRight z2))) h4 rfl rfl rfl ⟨rfl, rfl⟩) ?_
    refine dw_nil ?_
    refine ar_nil ?_
    refine bool_split (z2.no == (rRight z2)) (fun h5 => nomatch (show false = true from (show (ivBounds_r2 z0 z1 z2 z3 z4 z5 z6 z7 z8) = _ from (eF h1 (eF h2 (eF h3 (eF h4 (eT h5 rfl)))))).symm.trans HG)) (fun h5 => ?_)
    refine ac_else' (b := z2.no == (rRight z2)) h5 rfl ?_
    refine ac_skip ?_
    refine ac_region_lit ?_
    refine ao 90 rfl rfl (st_bi (u := .int .i64 2) (v := .int .i64 1) (r := .int .i64 3) rfl rfl rfl (bi_add (by decide)) ?_)
    refine ao 46 rfl rfl (st_move (v := .int .i64 3) rfl rfl ?_)
    refine ar_nil ?_
    exact ar_dropR (List.Sublist.cons _ (List.Sublist.refl _)) (K _ rfl rfl rfl rfl rfl)
def ivBounds_r3 (z0 : Iv) (z1 : Iv) (z2 : Iv) (z3 : Iv) (z4 : Iv) (z5 : Iv) (z6 : Iv) (z7 : Iv) (z8 : Iv) : Bool := (bif z3.no then (bif z3.lo != 0 then false else (bif z3.hi != 0 then false else (bif z3.no == (rRight z3) then false else true))) else (bif decide (z3.lo > z3.hi) then false else (bif decide (z3.lo < (-1073741824)) then false else (bif decide (z3.hi > 1073741824) then false else (bif z3.no == (rRight z3) then false else true)))))
set_option maxRecDepth 100000 in
theorem c_ivBounds_r3 (z0 : Iv) (z1 : Iv) (z2 : Iv) (z3 : Iv) (z4 : Iv) (z5 : Iv) (z6 : Iv) (z7 : Iv) (z8 : Iv) {v11 v12 : Value} {Q : Exit → Env → List Box → Prop} {H0 : List Box} {E : Env} {c : Code} {k : Nat} (hc : Try.f13.body.bind loopOf = some c) (q10 : E 10 = .bool false) (q45 : E 45 = .agg #[.int .i64 z0.lo, .int .i64 z0.hi, .bool z0.no, .int .i64 z1.lo, .int .i64 z1.hi, .bool z1.no, .int .i64 z2.lo, .int .i64 z2.hi, .bool z2.no, .int .i64 z3.lo, .int .i64 z3.hi, .bool z3.no, .int .i64 z4.lo, .int .i64 z4.hi, .bool z4.no, .int .i64 z5.lo, .int .i64 z5.hi, .bool z5.no, .int .i64 z6.lo, .int .i64 z6.hi, .bool z6.no, .int .i64 z7.lo, .int .i64 z7.hi, .bool z7.no, .int .i64 z8.lo, .int .i64 z8.hi, .bool z8.no]) (q46 : E 46 = .int .i64 3) (l11 : E 11 = v11) (l12 : E 12 = v12) (HG : (ivBounds_r3 z0 z1 z2 z3 z4 z5 z6 z7 z8) = true) (K : ∀ E' : Env, E' 10 = .bool false → E' 45 = .agg #[.int .i64 z0.lo, .int .i64 z0.hi, .bool z0.no, .int .i64 z1.lo, .int .i64 z1.hi, .bool z1.no, .int .i64 z2.lo, .int .i64 z2.hi, .bool z2.no, .int .i64 z3.lo, .int .i64 z3.hi, .bool z3.no, .int .i64 z4.lo, .int .i64 z4.hi, .bool z4.no, .int .i64 z5.lo, .int .i64 z5.hi, .bool z5.no, .int .i64 z6.lo, .int .i64 z6.hi, .bool z6.no, .int .i64 z7.lo, .int .i64 z7.hi, .bool z7.no, .int .i64 z8.lo, .int .i64 z8.hi, .bool z8.no] → E' 46 = .int .i64 4 → E' 11 = v11 → E' 12 = v12 → ARounds Try.prog 118 c Q k E' H0) : ARounds Try.prog 118 c Q (k + 1) E H0 := by
  rw [show Try.f13.body.bind loopOf = some _ from rfl] at hc
  cases hc
  obtain ⟨E0, rfl⟩ : ∃ E0 : Env, E = (((((E0.put (some 10) (.bool false)).put (some 45) (.agg #[.int .i64 z0.lo, .int .i64 z0.hi, .bool z0.no, .int .i64 z1.lo, .int .i64 z1.hi, .bool z1.no, .int .i64 z2.lo, .int .i64 z2.hi, .bool z2.no, .int .i64 z3.lo, .int .i64 z3.hi, .bool z3.no, .int .i64 z4.lo, .int .i64 z4.hi, .bool z4.no, .int .i64 z5.lo, .int .i64 z5.hi, .bool z5.no, .int .i64 z6.lo, .int .i64 z6.hi, .bool z6.no, .int .i64 z7.lo, .int .i64 z7.hi, .bool z7.no, .int .i64 z8.lo, .int .i64 z8.hi, .bool z8.no])).put (some 46) (.int .i64 3)).put (some 11) v11).put (some 12) v12) := ⟨E, by rw [put_self q10, put_self q45, put_self q46, put_self l11, put_self l12]⟩
  refine ar_round ?_
  refine ac_seq ?_
  refine ac_region_lit ?_
  refine ao 47 rfl rfl (st_bi (u := .int .i64 3) (v := .int .i64 9) (r := .bool true) rfl rfl rfl (bi_lss (by decide)) ?_)
  refine ar_nil ?_
  refine ac_seq ?_
  refine ac_then rfl ?_
  refine ac_skip ?_
  refine ac_seq ?_
  refine ac_block ?_
  refine ac_seq ?_
  refine ac_region_lit ?_
  refine ao 48 rfl rfl (st_ix (u := .agg #[.int .i64 z0.lo, .int .i64 z0.hi, .bool z0.no, .int .i64 z1.lo, .int .i64 z1.hi, .bool z1.no, .int .i64 z2.lo, .int .i64 z2.hi, .bool z2.no, .int .i64 z3.lo, .int .i64 z3.hi, .bool z3.no, .int .i64 z4.lo, .int .i64 z4.hi, .bool z4.no, .int .i64 z5.lo, .int .i64 z5.hi, .bool z5.no, .int .i64 z6.lo, .int .i64 z6.hi, .bool z6.no, .int .i64 z7.lo, .int .i64 z7.hi, .bool z7.no, .int .i64 z8.lo, .int .i64 z8.hi, .bool z8.no]) (i := .int .i64 3) (v := .agg #[.int .i64 z3.lo, .int .i64 z3.hi, .bool z3.no]) rfl rfl rfl (ix52_3 _ _ _ _ _ _ _ _ _ _ _ _ _ _ _ _ _ _ _ _ _ _ _ _ _ _ _) ?_)
  refine ao 14 rfl rfl (st_new zero35 rfl fun g0 => ?_)
  refine ar_op (d := none) rfl rfl (st_sta (g := g0) (off := 0) (us := [.int .i64 z3.lo, .int .i64 z3.hi, .bool z3.no]) (cs := [.int .i64 z3.lo, .int .i64 z3.hi, .bool z3.no]) agg35 0 rfl rfl rfl rfl rfl rfl rfl rfl rfl ?_)
  refine ar_nil ?_
  refine ac_seq ?_
  refine ac_draw0 (id := 6) [0, 1, 2, 3, 4, 5, 6, 7, 8, 9, 10, 11, 12, 13, 14, 15, 16, 17, 18, 19, 20, 21, 22, 23, 24, 25, 26, 27, 28, 29, 30, 31, 32, 33, 34, 35, 36, 37, 38, 39, 40] [] _ (by kernel_rfl) follows rfl  ?_
  refine dw_op (d := (some 49)) (.pointer (some ⟨g0, 2, none⟩)) rfl rfl rfl (st_fa (g := g0) (off := 0) rfl fa35_2 rfl ⟨rfl, rfl⟩) ?_
  refine dw_op (d := (some 50)) (.bool z3.no) rfl rfl rfl (st_ldc (g := g0) (off := 2) (v := .bool z3.no) cell4 0 rfl rfl rfl rfl rfl ⟨rfl, rfl⟩) ?_
  refine dw_op (d := (some 51)) (.bool z3.no) rfl rfl rfl (st_move (v := .bool z3.no) rfl rfl ⟨rfl, rfl⟩) ?_
  refine bool_split (z3.no) (fun h1 => ?_) (fun h1 => ?_)
  · refine dw_gd (d := (some 52)) (.pointer (some ⟨g0, 0, none⟩)) rfl (by show (z3.no == true) = true; rw [h1]; rfl) rfl (st_fa (g := g0) (off := 0) rfl fa35_0 rfl ⟨rfl, rfl⟩) ?_
    refine dw_gd (d := (some 53)) (.int .i64 z3.lo) rfl (by show (z3.no == true) = true; rw [h1]; rfl) rfl (st_ldc (g := g0) (off := 0) (v := .int .i64 z3.lo) cell3 0 rfl rfl rfl rfl rfl ⟨rfl, rfl⟩) ?_
    refine dw_gd (d := (some 54)) (.bool (z3.lo != 0)) rfl (by show (z3.no == true) = true; rw [h1]; rfl) rfl (st_bi (u := .int .i64 z3.lo) (v := .int .i64 0) (r := .bool (z3.lo != 0)) rfl rfl rfl (bi_neq rfl) ⟨rfl, rfl⟩) ?_
    refine dw_gd (d := (some 55)) (.bool (z3.lo != 0)) rfl (by show (z3.no == true) = true; rw [h1]; rfl) rfl (st_move (v := .bool (z3.lo != 0)) rfl rfl ⟨rfl, rfl⟩) ?_
    refine bool_split (z3.lo != 0) (fun h2 => nomatch (show false = true from (show (ivBounds_r3 z0 z1 z2 z3 z4 z5 z6 z7 z8) = _ from (eT h1 (eT h2 rfl))).symm.trans HG)) (fun h2 => ?_)
    refine dw_gd (d := (some 56)) (.pointer (some ⟨g0, 1, none⟩)) rfl (by show ((z3.lo != 0) == false) = true; rw [h2]; rfl) rfl (st_fa (g := g0) (off := 0) rfl fa35_1 rfl ⟨rfl, rfl⟩) ?_
    refine dw_gd (d := (some 57)) (.int .i64 z3.hi) rfl (by show ((z3.lo != 0) == false) = true; rw [h2]; rfl) rfl (st_ldc (g := g0) (off := 1) (v := .int .i64 z3.hi) cell3 0 rfl rfl rfl rfl rfl ⟨rfl, rfl⟩) ?_
    refine dw_gd (d := (some 58)) (.bool (z3.hi != 0)) rfl (by show ((z3.lo != 0) == false) = true; rw [h2]; rfl) rfl (st_bi (u := .int .i64 z3.hi) (v := .int .i64 0) (r := .bool (z3.hi != 0)) rfl rfl rfl (bi_neq rfl) ⟨rfl, rfl⟩) ?_
    refine dw_gd (d := (some 59)) (.bool (z3.hi != 0)) rfl (by show (z3.no == true) = true; rw [h1]; rfl) rfl (st_pkf' (b := z3.lo != 0) (v := .bool (z3.hi != 0)) h2 rfl rfl rfl ⟨rfl, rfl⟩) ?_
    refine dw_op (d := (some 60)) (.bool (z3.hi != 0)) rfl rfl rfl (st_pkt' (b := z3.no) (v := .bool (z3.hi != 0)) h1 rfl rfl rfl ⟨rfl, rfl⟩) ?_
    refine dw_op (d := (some 61)) (.bool (z3.hi != 0)) rfl rfl rfl (st_move (v := .bool (z3.hi != 0)) rfl rfl ⟨rfl, rfl⟩) ?_
    refine bool_split (z3.hi != 0) (fun h3 => nomatch (show false = true from (show (ivBounds_r3 z0 z1 z2 z3 z4 z5 z6 z7 z8) = _ from (eT h1 (eF h2 (eT h3 rfl)))).symm.trans HG)) (fun h3 => ?_)
    refine dw_gd (d := (some 62)) (.pointer (some ⟨g0, 2, none⟩)) rfl (by show ((z3.hi != 0) == false) = true; rw [h3]; rfl) rfl (st_fa (g := g0) (off := 0) rfl fa35_2 rfl ⟨rfl, rfl⟩) ?_
    refine dw_gd (d := (some 63)) (.bool z3.no) rfl (by show ((z3.hi != 0) == false) = true; rw [h3]; rfl) rfl (st_ldc (g := g0) (off := 2) (v := .bool z3.no) cell4 0 rfl rfl rfl rfl rfl ⟨rfl, rfl⟩) ?_
    refine dw_gd (d := (some 64)) (.bool (!z3.no)) rfl (by show ((z3.hi != 0) == false) = true; rw [h3]; rfl) rfl (st_un (u := .bool z3.no) (v := .bool (!z3.no)) rfl rfl (un_not rfl) ⟨rfl, rfl⟩) ?_
    refine dw_gd (d := (some 65)) (.bool (!z3.no)) rfl (by show ((z3.hi != 0) == false) = true; rw [h3]; rfl) rfl (st_move (v := .bool (!z3.no)) rfl rfl ⟨rfl, rfl⟩) ?_
    refine dw_sk (d := (some 66)) rfl (by show ((!z3.no) == true) = false; rw [h1]; rfl) rfl ?_
    refine dw_sk (d := (some 67)) rfl (by show ((!z3.no) == true) = false; rw [h1]; rfl) rfl ?_
    refine dw_sk (d := (some 68)) rfl (by show ((!z3.no) == true) = false; rw [h1]; rfl) rfl ?_
    refine dw_sk (d := (some 69)) rfl (by show ((!z3.no) == true) = false; rw [h1]; rfl) rfl ?_
    refine dw_sk (d := (some 70)) rfl (by show ((!z3.no) == true) = false; rw [h1]; rfl) rfl ?_
    refine dw_sk (d := (some 71)) rfl (by show ((!z3.no) == true) = false; rw [h1]; rfl) rfl ?_
    refine dw_sk (d := (some 72)) rfl rfl rfl ?_
    refine dw_sk (d := (some 73)) rfl rfl rfl ?_
    refine dw_sk (d := (some 74)) rfl rfl rfl ?_
    refine dw_sk (d := (some 75)) rfl (by show ((!z3.no) == true) = false; rw [h1]; rfl) rfl ?_
    refine dw_sk (d := (some 76)) rfl (by show ((!z3.no) == true) = false; rw [h1]; rfl) rfl ?_
    refine dw_sk (d := (some 77)) rfl rfl rfl ?_
    refine dw_sk (d := (some 78)) rfl rfl rfl ?_
    refine dw_sk (d := (some 79)) rfl rfl rfl ?_
    refine dw_sk (d := (some 80)) rfl (by show ((!z3.no) == true) = false; rw [h1]; rfl) rfl ?_
    refine dw_gd (d := (some 81)) (.bool false) rfl (by show ((z3.hi != 0) == false) = true; rw [h3]; rfl) rfl (st_pkf' (b := !z3.no) (v := .bool false) (by rw [h1]; rfl) rfl rfl rfl ⟨rfl, rfl⟩) ?_
    refine dw_op (d := (some 82)) (.bool false) rfl rfl rfl (st_pkf' (b := z3.hi != 0) (v := .bool false) h3 rfl rfl rfl ⟨rfl, rfl⟩) ?_
    refine dw_op (d := (some 83)) (.bool false) rfl rfl rfl (st_move (v := .bool false) rfl rfl ⟨rfl, rfl⟩) ?_
    refine dw_gd (d := (some 84)) (.pointer (some ⟨g0, 2, none⟩)) rfl rfl rfl (st_fa (g := g0) (off := 0) rfl fa35_2 rfl ⟨rfl, rfl⟩) ?_
    refine dw_gd (d := (some 85)) (.bool z3.no) rfl rfl rfl (st_ldc (g := g0) (off := 2) (v := .bool z3.no) cell4 0 rfl rfl rfl rfl rfl ⟨rfl, rfl⟩) ?_
    refine dw_gd (d := (some 86)) (.agg #[.int .i64 z3.lo, .int .i64 z3.hi, .bool z3.no]) rfl rfl rfl (st_lda (g := g0) (off := 0) (vs := [.int .i64 z3.lo, .int .i64 z3.hi, .bool z3.no]) agg35 0 rfl rfl rfl rfl rfl rfl ⟨rfl, rfl⟩) ?_
    refine dw_gd (d := (some 87)) (.bool (rRight z3)) rfl rfl rfl (st_cf (vs := [.agg #[.int .i64 z3.lo, .int .i64 z3.hi, .bool z3.no]]) (r := .bool (rRight z3)) (c_rRight z3) Try.func57 rfl (by decide) rfl rfl rfl ⟨rfl, rfl⟩) ?_
    refine dw_gd (d := (some 88)) (.bool (z3.no == (rRight z3))) rfl rfl rfl (st_bi (u := .bool z3.no) (v := .bool (rRight z3)) (r := .bool (z3.no == (rRight z3))) rfl rfl rfl (bb_eql Try.underlying4 rfl) ⟨rfl, rfl⟩) ?_
    refine dw_op (d := (some 89)) (.bool (z3.no == (rRight z3))) rfl rfl rfl (st_pkf (v := .bool (z3.no == (rRight z3))) rfl rfl rfl ⟨rfl, rfl⟩) ?_
    refine dw_nil ?_
    refine ar_nil ?_
    refine bool_split (z3.no == (rRight z3)) (fun h4 => nomatch (show false = true from (show (ivBounds_r3 z0 z1 z2 z3 z4 z5 z6 z7 z8) = _ from (eT h1 (eF h2 (eF h3 (eT h4 rfl))))).symm.trans HG)) (fun h4 => ?_)
    refine ac_else' (b := z3.no == (rRight z3)) h4 rfl ?_
    refine ac_skip ?_
    refine ac_region_lit ?_
    refine ao 90 rfl rfl (st_bi (u := .int .i64 3) (v := .int .i64 1) (r := .int .i64 4) rfl rfl rfl (bi_add (by decide)) ?_)
    refine ao 46 rfl rfl (st_move (v := .int .i64 4) rfl rfl ?_)
    refine ar_nil ?_
    exact ar_dropR (List.Sublist.cons _ (List.Sublist.refl _)) (K _ rfl rfl rfl rfl rfl)
  · refine dw_sk (d := (some 52)) rfl (by show (z3.no == true) = false; rw [h1]; rfl) rfl ?_
    refine dw_sk (d := (some 53)) rfl (by show (z3.no == true) = false; rw [h1]; rfl) rfl ?_
    refine dw_sk (d := (some 54)) rfl (by show (z3.no == true) = false; rw [h1]; rfl) rfl ?_
    refine dw_sk (d := (some 55)) rfl (by show (z3.no == true) = false; rw [h1]; rfl) rfl ?_
    refine dw_sk (d := (some 56)) rfl rfl rfl ?_
    refine dw_sk (d := (some 57)) rfl rfl rfl ?_
    refine dw_sk (d := (some 58)) rfl rfl rfl ?_
    refine dw_sk (d := (some 59)) rfl (by show (z3.no == true) = false; rw [h1]; rfl) rfl ?_
    refine dw_op (d := (some 60)) (.bool false) rfl rfl rfl (st_pkf' (b := z3.no) (v := .bool false) h1 rfl rfl rfl ⟨rfl, rfl⟩) ?_
    refine dw_op (d := (some 61)) (.bool false) rfl rfl rfl (st_move (v := .bool false) rfl rfl ⟨rfl, rfl⟩) ?_
    refine dw_gd (d := (some 62)) (.pointer (some ⟨g0, 2, none⟩)) rfl rfl rfl (st_fa (g := g0) (off := 0) rfl fa35_2 rfl ⟨rfl, rfl⟩) ?_
    refine dw_gd (d := (some 63)) (.bool z3.no) rfl rfl rfl (st_ldc (g := g0) (off := 2) (v := .bool z3.no) cell4 0 rfl rfl rfl rfl rfl ⟨rfl, rfl⟩) ?_
    refine dw_gd (d := (some 64)) (.bool (!z3.no)) rfl rfl rfl (st_un (u := .bool z3.no) (v := .bool (!z3.no)) rfl rfl (un_not rfl) ⟨rfl, rfl⟩) ?_
    refine dw_gd (d := (some 65)) (.bool (!z3.no)) rfl rfl rfl (st_move (v := .bool (!z3.no)) rfl rfl ⟨rfl, rfl⟩) ?_
    refine dw_gd (d := (some 66)) (.pointer (some ⟨g0, 0, none⟩)) rfl (by show ((!z3.no) == true) = true; rw [h1]; rfl) rfl (st_fa (g := g0) (off := 0) rfl fa35_0 rfl ⟨rfl, rfl⟩) ?_
    refine dw_gd (d := (some 67)) (.int .i64 z3.lo) rfl (by show ((!z3.no) == true) = true; rw [h1]; rfl) rfl (st_ldc (g := g0) (off := 0) (v := .int .i64 z3.lo) cell3 0 rfl rfl rfl rfl rfl ⟨rfl, rfl⟩) ?_
    refine dw_gd (d := (some 68)) (.pointer (some ⟨g0, 1, none⟩)) rfl (by show ((!z3.no) == true) = true; rw [h1]; rfl) rfl (st_fa (g := g0) (off := 0) rfl fa35_1 rfl ⟨rfl, rfl⟩) ?_
    refine dw_gd (d := (some 69)) (.int .i64 z3.hi) rfl (by show ((!z3.no) == true) = true; rw [h1]; rfl) rfl (st_ldc (g := g0) (off := 1) (v := .int .i64 z3.hi) cell3 0 rfl rfl rfl rfl rfl ⟨rfl, rfl⟩) ?_
    refine dw_gd (d := (some 70)) (.bool (decide (z3.lo > z3.hi))) rfl (by show ((!z3.no) == true) = true; rw [h1]; rfl) rfl (st_bi (u := .int .i64 z3.lo) (v := .int .i64 z3.hi) (r := .bool (decide (z3.lo > z3.hi))) rfl rfl rfl (bi_gtr rfl) ⟨rfl, rfl⟩) ?_
    refine dw_gd (d := (some 71)) (.bool (decide (z3.lo > z3.hi))) rfl (by show ((!z3.no) == true) = true; rw [h1]; rfl) rfl (st_move (v := .bool (decide (z3.lo > z3.hi))) rfl rfl ⟨rfl, rfl⟩) ?_
    refine bool_split (decide (z3.lo > z3.hi)) (fun h2 => nomatch (show false = true from (show (ivBounds_r3 z0 z1 z2 z3 z4 z5 z6 z7 z8) = _ from (eF h1 (eT h2 rfl))).symm.trans HG)) (fun h2 => ?_)
    refine dw_gd (d := (some 72)) (.pointer (some ⟨g0, 0, none⟩)) rfl (by show ((decide (z3.lo > z3.hi)) == false) = true; rw [h2]; rfl) rfl (st_fa (g := g0) (off := 0) rfl fa35_0 rfl ⟨rfl, rfl⟩) ?_
    refine dw_gd (d := (some 73)) (.int .i64 z3.lo) rfl (by show ((decide (z3.lo > z3.hi)) == false) = true; rw [h2]; rfl) rfl (st_ldc (g := g0) (off := 0) (v := .int .i64 z3.lo) cell3 0 rfl rfl rfl rfl rfl ⟨rfl, rfl⟩) ?_
    refine dw_gd (d := (some 74)) (.bool (decide (z3.lo < (-1073741824)))) rfl (by show ((decide (z3.lo > z3.hi)) == false) = true; rw [h2]; rfl) rfl (st_bi (u := .int .i64 z3.lo) (v := .int .i64 (-1073741824)) (r := .bool (decide (z3.lo < (-1073741824)))) rfl rfl rfl (bi_lss rfl) ⟨rfl, rfl⟩) ?_
    refine dw_gd (d := (some 75)) (.bool (decide (z3.lo < (-1073741824)))) rfl (by show ((!z3.no) == true) = true; rw [h1]; rfl) rfl (st_pkf' (b := decide (z3.lo > z3.hi)) (v := .bool (decide (z3.lo < (-1073741824)))) h2 rfl rfl rfl ⟨rfl, rfl⟩) ?_
    refine dw_gd (d := (some 76)) (.bool (decide (z3.lo < (-1073741824)))) rfl (by show ((!z3.no) == true) = true; rw [h1]; rfl) rfl (st_move (v := .bool (decide (z3.lo < (-1073741824)))) rfl rfl ⟨rfl, rfl⟩) ?_
    refine bool_split (decide (z3.lo < (-1073741824))) (fun h3 => nomatch (show false = true from (show (ivBounds_r3 z0 z1 z2 z3 z4 z5 z6 z7 z8) = _ from (eF h1 (eF h2 (eT h3 rfl)))).symm.trans HG)) (fun h3 => ?_)
    refine dw_gd (d := (some 77)) (.pointer (some ⟨g0, 1, none⟩)) rfl (by show ((decide (z3.lo < (-1073741824))) == false) = true; rw [h3]; rfl) rfl (st_fa (g := g0) (off := 0) rfl fa35_1 rfl ⟨rfl, rfl⟩) ?_
    refine dw_gd (d := (some 78)) (.int .i64 z3.hi) rfl (by show ((decide (z3.lo < (-1073741824))) == false) = true; rw [h3]; rfl) rfl (st_ldc (g := g0) (off := 1) (v := .int .i64 z3.hi) cell3 0 rfl rfl rfl rfl rfl ⟨rfl, rfl⟩) ?_
    refine dw_gd (d := (some 79)) (.bool (decide (z3.hi > 1073741824))) rfl (by show ((decide (z3.lo < (-1073741824))) == false) = true; rw [h3]; rfl) rfl (st_bi (u := .int .i64 z3.hi) (v := .int .i64 1073741824) (r := .bool (decide (z3.hi > 1073741824))) rfl rfl rfl (bi_gtr rfl) ⟨rfl, rfl⟩) ?_
    refine dw_gd (d := (some 80)) (.bool (decide (z3.hi > 1073741824))) rfl (by show ((!z3.no) == true) = true; rw [h1]; rfl) rfl (st_pkf' (b := decide (z3.lo < (-1073741824))) (v := .bool (decide (z3.hi > 1073741824))) h3 rfl rfl rfl ⟨rfl, rfl⟩) ?_
    refine dw_gd (d := (some 81)) (.bool (decide (z3.hi > 1073741824))) rfl rfl rfl (st_pkt' (b := !z3.no) (v := .bool (decide (z3.hi > 1073741824))) (by rw [h1]; rfl) rfl rfl rfl ⟨rfl, rfl⟩) ?_
    refine dw_op (d := (some 82)) (.bool (decide (z3.hi > 1073741824))) rfl rfl rfl (st_pkf (v := .bool (decide (z3.hi > 1073741824))) rfl rfl rfl ⟨rfl, rfl⟩) ?_
    refine dw_op (d := (some 83)) (.bool (decide (z3.hi > 1073741824))) rfl rfl rfl (st_move (v := .bool (decide (z3.hi > 1073741824))) rfl rfl ⟨rfl, rfl⟩) ?_
    refine bool_split (decide (z3.hi > 1073741824)) (fun h4 => nomatch (show false = true from (show (ivBounds_r3 z0 z1 z2 z3 z4 z5 z6 z7 z8) = _ from (eF h1 (eF h2 (eF h3 (eT h4 rfl))))).symm.trans HG)) (fun h4 => ?_)
    refine dw_gd (d := (some 84)) (.pointer (some ⟨g0, 2, none⟩)) rfl (by show ((decide (z3.hi > 1073741824)) == false) = true; rw [h4]; rfl) rfl (st_fa (g := g0) (off := 0) rfl fa35_2 rfl ⟨rfl, rfl⟩) ?_
    refine dw_gd (d := (some 85)) (.bool z3.no) rfl (by show ((decide (z3.hi > 1073741824)) == false) = true; rw [h4]; rfl) rfl (st_ldc (g := g0) (off := 2) (v := .bool z3.no) cell4 0 rfl rfl rfl rfl rfl ⟨rfl, rfl⟩) ?_
    refine dw_gd (d := (some 86)) (.agg #[.int .i64 z3.lo, .int .i64 z3.hi, .bool z3.no]) rfl (by show ((decide (z3.hi > 1073741824)) == false) = true; rw [h4]; rfl) rfl (st_lda (g := g0) (off := 0) (vs := [.int .i64 z3.lo, .int .i64 z3.hi, .bool z3.no]) agg35 0 rfl rfl rfl rfl rfl rfl ⟨rfl, rfl⟩) ?_
    refine dw_gd (d := (some 87)) (.bool (rRight z3)) rfl (by show ((decide (z3.hi > 1073741824)) == false) = true; rw [h4]; rfl) rfl (st_cf (vs := [.agg #[.int .i64 z3.lo, .int .i64 z3.hi, .bool z3.no]]) (r := .bool (rRight z3)) (c_rRight z3) Try.func57 rfl (by decide) rfl rfl rfl ⟨rfl, rfl⟩) ?_
    refine dw_gd (d := (some 88)) (.bool (z3.no == (rRight z3))) rfl (by show ((decide (z3.hi > 1073741824)) == false) = true; rw [h4]; rfl) rfl (st_bi (u := .bool z3.no) (v := .bool (rRight z3)) (r := .bool (z3.no == (rRight z3))) rfl rfl rfl (bb_eql Try.underlying4 rfl) ⟨rfl, rfl⟩) ?_
    refine dw_op (d := (some 89)) (.bool (z3.no == (rRight z3))) rfl rfl rfl (st_pkf' (b := decide (z3.hi > 1073741824)) (v := .bool (z3.no == (rRight z3))) h4 rfl rfl rfl ⟨rfl, rfl⟩) ?_
    refine dw_nil ?_
    refine ar_nil ?_
    refine bool_split (z3.no == (rRight z3)) (fun h5 => nomatch (show false = true from (show (ivBounds_r3 z0 z1 z2 z3 z4 z5 z6 z7 z8) = _ from (eF h1 (eF h2 (eF h3 (eF h4 (eT h5 rfl)))))).symm.trans HG)) (fun h5 => ?_)
    refine ac_else' (b := z3.no == (rRight z3)) h5 rfl ?_
    refine ac_skip ?_
    refine ac_region_lit ?_
    refine ao 90 rfl rfl (st_bi (u := .int .i64 3) (v := .int .i64 1) (r := .int .i64 4) rfl rfl rfl (bi_add (by decide)) ?_)
    refine ao 46 rfl rfl (st_move (v := .int .i64 4) rfl rfl ?_)
    refine ar_nil ?_
    exact ar_dropR (List.Sublist.cons _ (List.Sublist.refl _)) (K _ rfl rfl rfl rfl rfl)
def ivBounds_r4 (z0 : Iv) (z1 : Iv) (z2 : Iv) (z3 : Iv) (z4 : Iv) (z5 : Iv) (z6 : Iv) (z7 : Iv) (z8 : Iv) : Bool := (bif z4.no then (bif z4.lo != 0 then false else (bif z4.hi != 0 then false else (bif z4.no == (rRight z4) then false else true))) else (bif decide (z4.lo > z4.hi) then false else (bif decide (z4.lo < (-1073741824)) then false else (bif decide (z4.hi > 1073741824) then false else (bif z4.no == (rRight z4) then false else true)))))
set_option maxRecDepth 100000 in
theorem c_ivBounds_r4 (z0 : Iv) (z1 : Iv) (z2 : Iv) (z3 : Iv) (z4 : Iv) (z5 : Iv) (z6 : Iv) (z7 : Iv) (z8 : Iv) {v11 v12 : Value} {Q : Exit → Env → List Box → Prop} {H0 : List Box} {E : Env} {c : Code} {k : Nat} (hc : Try.f13.body.bind loopOf = some c) (q10 : E 10 = .bool false) (q45 : E 45 = .agg #[.int .i64 z0.lo, .int .i64 z0.hi, .bool z0.no, .int .i64 z1.lo, .int .i64 z1.hi, .bool z1.no, .int .i64 z2.lo, .int .i64 z2.hi, .bool z2.no, .int .i64 z3.lo, .int .i64 z3.hi, .bool z3.no, .int .i64 z4.lo, .int .i64 z4.hi, .bool z4.no, .int .i64 z5.lo, .int .i64 z5.hi, .bool z5.no, .int .i64 z6.lo, .int .i64 z6.hi, .bool z6.no, .int .i64 z7.lo, .int .i64 z7.hi, .bool z7.no, .int .i64 z8.lo, .int .i64 z8.hi, .bool z8.no]) (q46 : E 46 = .int .i64 4) (l11 : E 11 = v11) (l12 : E 12 = v12) (HG : (ivBounds_r4 z0 z1 z2 z3 z4 z5 z6 z7 z8) = true) (K : ∀ E' : Env, E' 10 = .bool false → E' 45 = .agg #[.int .i64 z0.lo, .int .i64 z0.hi, .bool z0.no, .int .i64 z1.lo, .int .i64 z1.hi, .bool z1.no, .int .i64 z2.lo, .int .i64 z2.hi, .bool z2.no, .int .i64 z3.lo, .int .i64 z3.hi, .bool z3.no, .int .i64 z4.lo, .int .i64 z4.hi, .bool z4.no, .int .i64 z5.lo, .int .i64 z5.hi, .bool z5.no, .int .i64 z6.lo, .int .i64 z6.hi, .bool z6.no, .int .i64 z7.lo, .int .i64 z7.hi, .bool z7.no, .int .i64 z8.lo, .int .i64 z8.hi, .bool z8.no] → E' 46 = .int .i64 5 → E' 11 = v11 → E' 12 = v12 → ARounds Try.prog 118 c Q k E' H0) : ARounds Try.prog 118 c Q (k + 1) E H0 := by
  rw [show Try.f13.body.bind loopOf = some _ from rfl] at hc
  cases hc
  obtain ⟨E0, rfl⟩ : ∃ E0 : Env, E = (((((E0.put (some 10) (.bool false)).put (some 45) (.agg #[.int .i64 z0.lo, .int .i64 z0.hi, .bool z0.no, .int .i64 z1.lo, .int .i64 z1.hi, .bool z1.no, .int .i64 z2.lo, .int .i64 z2.hi, .bool z2.no, .int .i64 z3.lo, .int .i64 z3.hi, .bool z3.no, .int .i64 z4.lo, .int .i64 z4.hi, .bool z4.no, .int .i64 z5.lo, .int .i64 z5.hi, .bool z5.no, .int .i64 z6.lo, .int .i64 z6.hi, .bool z6.no, .int .i64 z7.lo, .int .i64 z7.hi, .bool z7.no, .int .i64 z8.lo, .int .i64 z8.hi, .bool z8.no])).put (some 46) (.int .i64 4)).put (some 11) v11).put (some 12) v12) := ⟨E, by rw [put_self q10, put_self q45, put_self q46, put_self l11, put_self l12]⟩
  refine ar_round ?_
  refine ac_seq ?_
  refine ac_region_lit ?_
  refine ao 47 rfl rfl (st_bi (u := .int .i64 4) (v := .int .i64 9) (r := .bool true) rfl rfl rfl (bi_lss (by decide)) ?_)
  refine ar_nil ?_
  refine ac_seq ?_
  refine ac_then rfl ?_
  refine ac_skip ?_
  refine ac_seq ?_
  refine ac_block ?_
  refine ac_seq ?_
  refine ac_region_lit ?_
  refine ao 48 rfl rfl (st_ix (u := .agg #[.int .i64 z0.lo, .int .i64 z0.hi, .bool z0.no, .int .i64 z1.lo, .int .i64 z1.hi, .bool z1.no, .int .i64 z2.lo, .int .i64 z2.hi, .bool z2.no, .int .i64 z3.lo, .int .i64 z3.hi, .bool z3.no, .int .i64 z4.lo, .int .i64 z4.hi, .bool z4.no, .int .i64 z5.lo, .int .i64 z5.hi, .bool z5.no, .int .i64 z6.lo, .int .i64 z6.hi, .bool z6.no, .int .i64 z7.lo, .int .i64 z7.hi, .bool z7.no, .int .i64 z8.lo, .int .i64 z8.hi, .bool z8.no]) (i := .int .i64 4) (v := .agg #[.int .i64 z4.lo, .int .i64 z4.hi, .bool z4.no]) rfl rfl rfl (ix52_4 _ _ _ _ _ _ _ _ _ _ _ _ _ _ _ _ _ _ _ _ _ _ _ _ _ _ _) ?_)
  refine ao 14 rfl rfl (st_new zero35 rfl fun g0 => ?_)
  refine ar_op (d := none) rfl rfl (st_sta (g := g0) (off := 0) (us := [.int .i64 z4.lo, .int .i64 z4.hi, .bool z4.no]) (cs := [.int .i64 z4.lo, .int .i64 z4.hi, .bool z4.no]) agg35 0 rfl rfl rfl rfl rfl rfl rfl rfl rfl ?_)
  refine ar_nil ?_
  refine ac_seq ?_
  refine ac_draw0 (id := 6) [0, 1, 2, 3, 4, 5, 6, 7, 8, 9, 10, 11, 12, 13, 14, 15, 16, 17, 18, 19, 20, 21, 22, 23, 24, 25, 26, 27, 28, 29, 30, 31, 32, 33, 34, 35, 36, 37, 38, 39, 40] [] _ (by kernel_rfl) follows rfl  ?_
  refine dw_op (d := (some 49)) (.pointer (some ⟨g0, 2, none⟩)) rfl rfl rfl (st_fa (g := g0) (off := 0) rfl fa35_2 rfl ⟨rfl, rfl⟩) ?_
  refine dw_op (d := (some 50)) (.bool z4.no) rfl rfl rfl (st_ldc (g := g0) (off := 2) (v := .bool z4.no) cell4 0 rfl rfl rfl rfl rfl ⟨rfl, rfl⟩) ?_
  refine dw_op (d := (some 51)) (.bool z4.no) rfl rfl rfl (st_move (v := .bool z4.no) rfl rfl ⟨rfl, rfl⟩) ?_
  refine bool_split (z4.no) (fun h1 => ?_) (fun h1 => ?_)
  · refine dw_gd (d := (some 52)) (.pointer (some ⟨g0, 0, none⟩)) rfl (by show (z4.no == true) = true; rw [h1]; rfl) rfl (st_fa (g := g0) (off := 0) rfl fa35_0 rfl ⟨rfl, rfl⟩) ?_
    refine dw_gd (d := (some 53)) (.int .i64 z4.lo) rfl (by show (z4.no == true) = true; rw [h1]; rfl) rfl (st_ldc (g := g0) (off := 0) (v := .int .i64 z4.lo) cell3 0 rfl rfl rfl rfl rfl ⟨rfl, rfl⟩) ?_
    refine dw_gd (d := (some 54)) (.bool (z4.lo != 0)) rfl (by show (z4.no == true) = true; rw [h1]; rfl) rfl (st_bi (u := .int .i64 z4.lo) (v := .int .i64 0) (r := .bool (z4.lo != 0)) rfl rfl rfl (bi_neq rfl) ⟨rfl, rfl⟩) ?_
    refine dw_gd (d := (some 55)) (.bool (z4.lo != 0)) rfl (by show (z4.no == true) = true; rw [h1]; rfl) rfl (st_move (v := .bool (z4.lo != 0)) rfl rfl ⟨rfl, rfl⟩) ?_
    refine bool_split (z4.lo != 0) (fun h2 => nomatch (show false = true from (show (ivBounds_r4 z0 z1 z2 z3 z4 z5 z6 z7 z8) = _ from (eT h1 (eT h2 rfl))).symm.trans HG)) (fun h2 => ?_)
    refine dw_gd (d := (some 56)) (.pointer (some ⟨g0, 1, none⟩)) rfl (by show ((z4.lo != 0) == false) = true; rw [h2]; rfl) rfl (st_fa (g := g0) (off := 0) rfl fa35_1 rfl ⟨rfl, rfl⟩) ?_
    refine dw_gd (d := (some 57)) (.int .i64 z4.hi) rfl (by show ((z4.lo != 0) == false) = true; rw [h2]; rfl) rfl (st_ldc (g := g0) (off := 1) (v := .int .i64 z4.hi) cell3 0 rfl rfl rfl rfl rfl ⟨rfl, rfl⟩) ?_
    refine dw_gd (d := (some 58)) (.bool (z4.hi != 0)) rfl (by show ((z4.lo != 0) == false) = true; rw [h2]; rfl) rfl (st_bi (u := .int .i64 z4.hi) (v := .int .i64 0) (r := .bool (z4.hi != 0)) rfl rfl rfl (bi_neq rfl) ⟨rfl, rfl⟩) ?_
    refine dw_gd (d := (some 59)) (.bool (z4.hi != 0)) rfl (by show (z4.no == true) = true; rw [h1]; rfl) rfl (st_pkf' (b := z4.lo != 0) (v := .bool (z4.hi != 0)) h2 rfl rfl rfl ⟨rfl, rfl⟩) ?_
    refine dw_op (d := (some 60)) (.bool (z4.hi != 0)) rfl rfl rfl (st_pkt' (b := z4.no) (v := .bool (z4.hi != 0)) h1 rfl rfl rfl ⟨rfl, rfl⟩) ?_
    refine dw_op (d := (some 61)) (.bool (z4.hi != 0)) rfl rfl rfl (st_move (v := .bool (z4.hi != 0)) rfl rfl ⟨rfl, rfl⟩) ?_
    refine bool_split (z4.hi != 0) (fun h3 => nomatch (show false = true from (show (ivBounds_r4 z0 z1 z2 z3 z4 z5 z6 z7 z8) = _ from (eT h1 (eF h2 (eT h3 rfl)))).symm.trans HG)) (fun h3 => ?_)
    refine dw_gd (d := (some 62)) (.pointer (some ⟨g0, 2, none⟩)) rfl (by show ((z4.hi != 0) == false) = true; rw [h3]; rfl) rfl (st_fa (g := g0) (off := 0) rfl fa35_2 rfl ⟨rfl, rfl⟩) ?_
    refine dw_gd (d := (some 63)) (.bool z4.no) rfl (by show ((z4.hi != 0) == false) = true; rw [h3]; rfl) rfl (st_ldc (g := g0) (off := 2) (v := .bool z4.no) cell4 0 rfl rfl rfl rfl rfl ⟨rfl, rfl⟩) ?_
    refine dw_gd (d := (some 64)) (.bool (!z4.no)) rfl (by show ((z4.hi != 0) == false) = true; rw [h3]; rfl) rfl (st_un (u := .bool z4.no) (v := .bool (!z4.no)) rfl rfl (un_not rfl) ⟨rfl, rfl⟩) ?_
    refine dw_gd (d := (some 65)) (.bool (!z4.no)) rfl (by show ((z4.hi != 0) == false) = true; rw [h3]; rfl) rfl (st_move (v := .bool (!z4.no)) rfl rfl ⟨rfl, rfl⟩) ?_
    refine dw_sk (d := (some 66)) rfl (by show ((!z4.no) == true) = false; rw [h1]; rfl) rfl ?_
    refine dw_sk (d := (some 67)) rfl (by show ((!z4.no) == true) = false; rw [h1]; rfl) rfl ?_
    refine dw_sk (d := (some 68)) rfl (by show ((!z4.no) == true) = false; rw [h1]; rfl) rfl ?_
    refine dw_sk (d := (some 69)) rfl (by show ((!z4.no) == true) = false; rw [h1]; rfl) rfl ?_
    refine dw_sk (d := (some 70)) rfl (by show ((!z4.no) == true) = false; rw [h1]; rfl) rfl ?_
    refine dw_sk (d := (some 71)) rfl (by show ((!z4.no) == true) = false; rw [h1]; rfl) rfl ?_
    refine dw_sk (d := (some 72)) rfl rfl rfl ?_
    refine dw_sk (d := (some 73)) rfl rfl rfl ?_
    refine dw_sk (d := (some 74)) rfl rfl rfl ?_
    refine dw_sk (d := (some 75)) rfl (by show ((!z4.no) == true) = false; rw [h1]; rfl) rfl ?_
    refine dw_sk (d := (some 76)) rfl (by show ((!z4.no) == true) = false; rw [h1]; rfl) rfl ?_
    refine dw_sk (d := (some 77)) rfl rfl rfl ?_
    refine dw_sk (d := (some 78)) rfl rfl rfl ?_
    refine dw_sk (d := (some 79)) rfl rfl rfl ?_
    refine dw_sk (d := (some 80)) rfl (by show ((!z4.no) == true) = false; rw [h1]; rfl) rfl ?_
    refine dw_gd (d := (some 81)) (.bool false) rfl (by show ((z4.hi != 0) == false) = true; rw [h3]; rfl) rfl (st_pkf' (b := !z4.no) (v := .bool false) (by rw [h1]; rfl) rfl rfl rfl ⟨rfl, rfl⟩) ?_
    refine dw_op (d := (some 82)) (.bool false) rfl rfl rfl (st_pkf' (b := z4.hi != 0) (v := .bool false) h3 rfl rfl rfl ⟨rfl, rfl⟩) ?_
    refine dw_op (d := (some 83)) (.bool false) rfl rfl rfl (st_move (v := .bool false) rfl rfl ⟨rfl, rfl⟩) ?_
    refine dw_gd (d := (some 84)) (.pointer (some ⟨g0, 2, none⟩)) rfl rfl rfl (st_fa (g := g0) (off := 0) rfl fa35_2 rfl ⟨rfl, rfl⟩) ?_
    refine dw_gd (d := (some 85)) (.bool z4.no) rfl rfl rfl (st_ldc (g := g0) (off := 2) (v := .bool z4.no) cell4 0 rfl rfl rfl rfl rfl ⟨rfl, rfl⟩) ?_
    refine dw_gd (d := (some 86)) (.agg #[.int .i64 z4.lo, .int .i64 z4.hi, .bool z4.no]) rfl rfl rfl (st_lda (g := g0) (off := 0) (vs := [.int .i64 z4.lo, .int .i64 z4.hi, .bool z4.no]) agg35 0 rfl rfl rfl rfl rfl rfl ⟨rfl, rfl⟩) ?_
    refine dw_gd (d := (some 87)) (.bool (rRight z4)) rfl rfl rfl (st_cf (vs := [.agg #[.int .i64 z4.lo, .int .i64 z4.hi, .bool z4.no]]) (r := .bool (rRight z4)) (c_rRight z4) Try.func57 rfl (by decide) rfl rfl rfl ⟨rfl, rfl⟩) ?_
    refine dw_gd (d := (some 88)) (.bool (z4.no == (rRight z4))) rfl rfl rfl (st_bi (u := .bool z4.no) (v := .bool (rRight z4)) (r := .bool (z4.no == (rRight z4))) rfl rfl rfl (bb_eql Try.underlying4 rfl) ⟨rfl, rfl⟩) ?_
    refine dw_op (d := (some 89)) (.bool (z4.no == (rRight z4))) rfl rfl rfl (st_pkf (v := .bool (z4.no == (rRight z4))) rfl rfl rfl ⟨rfl, rfl⟩) ?_
    refine dw_nil ?_
    refine ar_nil ?_
    refine bool_split (z4.no == (rRight z4)) (fun h4 => nomatch (show false = true from (show (ivBounds_r4 z0 z1 z2 z3 z4 z5 z6 z7 z8) = _ from (eT h1 (eF h2 (eF h3 (eT h4 rfl))))).symm.trans HG)) (fun h4 => ?_)
    refine ac_else' (b := z4.no == (rRight z4)) h4 rfl ?_
    refine ac_skip ?_
    refine ac_region_lit ?_
    refine ao 90 rfl rfl (st_bi (u := .int .i64 4) (v := .int .i64 1) (r := .int .i64 5) rfl rfl rfl (bi_add (by decide)) ?_)
    refine ao 46 rfl rfl (st_move (v := .int .i64 5) rfl rfl ?_)
    refine ar_nil ?_
    exact ar_dropR (List.Sublist.cons _ (List.Sublist.refl _)) (K _ rfl rfl rfl rfl rfl)
  · refine dw_sk (d := (some 52)) rfl (by show (z4.no == true) = false; rw [h1]; rfl) rfl ?_
    refine dw_sk (d := (some 53)) rfl (by show (z4.no == true) = false; rw [h1]; rfl) rfl ?_
    refine dw_sk (d := (some 54)) rfl (by show (z4.no == true) = false; rw [h1]; rfl) rfl ?_
    refine dw_sk (d := (some 55)) rfl (by show (z4.no == true) = false; rw [h1]; rfl) rfl ?_
    refine dw_sk (d := (some 56)) rfl rfl rfl ?_
    refine dw_sk (d := (some 57)) rfl rfl rfl ?_
    refine dw_sk (d := (some 58)) rfl rfl rfl ?_
    refine dw_sk (d := (some 59)) rfl (by show (z4.no == true) = false; rw [h1]; rfl) rfl ?_
    refine dw_op (d := (some 60)) (.bool false) rfl rfl rfl (st_pkf' (b := z4.no) (v := .bool false) h1 rfl rfl rfl ⟨rfl, rfl⟩) ?_
    refine dw_op (d := (some 61)) (.bool false) rfl rfl rfl (st_move (v := .bool false) rfl rfl ⟨rfl, rfl⟩) ?_
    refine dw_gd (d := (some 62)) (.pointer (some ⟨g0, 2, none⟩)) rfl rfl rfl (st_fa (g := g0) (off := 0) rfl fa35_2 rfl ⟨rfl, rfl⟩) ?_
    refine dw_gd (d := (some 63)) (.bool z4.no) rfl rfl rfl (st_ldc (g := g0) (off := 2) (v := .bool z4.no) cell4 0 rfl rfl rfl rfl rfl ⟨rfl, rfl⟩) ?_
    refine dw_gd (d := (some 64)) (.bool (!z4.no)) rfl rfl rfl (st_un (u := .bool z4.no) (v := .bool (!z4.no)) rfl rfl (un_not rfl) ⟨rfl, rfl⟩) ?_
    refine dw_gd (d := (some 65)) (.bool (!z4.no)) rfl rfl rfl (st_move (v := .bool (!z4.no)) rfl rfl ⟨rfl, rfl⟩) ?_
    refine dw_gd (d := (some 66)) (.pointer (some ⟨g0, 0, none⟩)) rfl (by show ((!z4.no) == true) = true; rw [h1]; rfl) rfl (st_fa (g := g0) (off := 0) rfl fa35_0 rfl ⟨rfl, rfl⟩) ?_
    refine dw_gd (d := (some 67)) (.int .i64 z4.lo) rfl (by show ((!z4.no) == true) = true; rw [h1]; rfl) rfl (st_ldc (g := g0) (off := 0) (v := .int .i64 z4.lo) cell3 0 rfl rfl rfl rfl rfl ⟨rfl, rfl⟩) ?_
    refine dw_gd (d := (some 68)) (.pointer (some ⟨g0, 1, none⟩)) rfl (by show ((!z4.no) == true) = true; rw [h1]; rfl) rfl (st_fa (g := g0) (off := 0) rfl fa35_1 rfl ⟨rfl, rfl⟩) ?_
    refine dw_gd (d := (some 69)) (.int .i64 z4.hi) rfl (by show ((!z4.no) == true) = true; rw [h1]; rfl) rfl (st_ldc (g := g0) (off := 1) (v := .int .i64 z4.hi) cell3 0 rfl rfl rfl rfl rfl ⟨rfl, rfl⟩) ?_
    refine dw_gd (d := (some 70)) (.bool (decide (z4.lo > z4.hi))) rfl (by show ((!z4.no) == true) = true; rw [h1]; rfl) rfl (st_bi (u := .int .i64 z4.lo) (v := .int .i64 z4.hi) (r := .bool (decide (z4.lo > z4.hi))) rfl rfl rfl (bi_gtr rfl) ⟨rfl, rfl⟩) ?_
    refine dw_gd (d := (some 71)) (.bool (decide (z4.lo > z4.hi))) rfl (by show ((!z4.no) == true) = true; rw [h1]; rfl) rfl (st_move (v := .bool (decide (z4.lo > z4.hi))) rfl rfl ⟨rfl, rfl⟩) ?_
    refine bool_split (decide (z4.lo > z4.hi)) (fun h2 => nomatch (show false = true from (show (ivBounds_r4 z0 z1 z2 z3 z4 z5 z6 z7 z8) = _ from (eF h1 (eT h2 rfl))).symm.trans HG)) (fun h2 => ?_)
    refine dw_gd (d := (some 72)) (.pointer (some ⟨g0, 0, none⟩)) rfl (by show ((decide (z4.lo > z4.hi)) == false) = true; rw [h2]; rfl) rfl (st_fa (g := g0) (off := 0) rfl fa35_0 rfl ⟨rfl, rfl⟩) ?_
    refine dw_gd (d := (some 73)) (.int .i64 z4.lo) rfl (by show ((decide (z4.lo > z4.hi)) == false) = true; rw [h2]; rfl) rfl (st_ldc (g := g0) (off := 0) (v := .int .i64 z4.lo) cell3 0 rfl rfl rfl rfl rfl ⟨rfl, rfl⟩) ?_
    refine dw_gd (d := (some 74)) (.bool (decide (z4.lo < (-1073741824)))) rfl (by show ((decide (z4.lo > z4.hi)) == false) = true; rw [h2]; rfl) rfl (st_bi (u := .int .i64 z4.lo) (v := .int .i64 (-1073741824)) (r := .bool (decide (z4.lo < (-1073741824)))) rfl rfl rfl (bi_lss rfl) ⟨rfl, rfl⟩) ?_
    refine dw_gd (d := (some 75)) (.bool (decide (z4.lo < (-1073741824)))) rfl (by show ((!z4.no) == true) = true; rw [h1]; rfl) rfl (st_pkf' (b := decide (z4.lo > z4.hi)) (v := .bool (decide (z4.lo < (-1073741824)))) h2 rfl rfl rfl ⟨rfl, rfl⟩) ?_
    refine dw_gd (d := (some 76)) (.bool (decide (z4.lo < (-1073741824)))) rfl (by show ((!z4.no) == true) = true; rw [h1]; rfl) rfl (st_move (v := .bool (decide (z4.lo < (-1073741824)))) rfl rfl ⟨rfl, rfl⟩) ?_
    refine bool_split (decide (z4.lo < (-1073741824))) (fun h3 => nomatch (show false = true from (show (ivBounds_r4 z0 z1 z2 z3 z4 z5 z6 z7 z8) = _ from (eF h1 (eF h2 (eT h3 rfl)))).symm.trans HG)) (fun h3 => ?_)
    refine dw_gd (d := (some 77)) (.pointer (some ⟨g0, 1, none⟩)) rfl (by show ((decide (z4.lo < (-1073741824))) == false) = true; rw [h3]; rfl) rfl (st_fa (g := g0) (off := 0) rfl fa35_1 rfl ⟨rfl, rfl⟩) ?_
    refine dw_gd (d := (some 78)) (.int .i64 z4.hi) rfl (by show ((decide (z4.lo < (-1073741824))) == false) = true; rw [h3]; rfl) rfl (st_ldc (g := g0) (off := 1) (v := .int .i64 z4.hi) cell3 0 rfl rfl rfl rfl rfl ⟨rfl, rfl⟩) ?_
    refine dw_gd (d := (some 79)) (.bool (decide (z4.hi > 1073741824))) rfl (by show ((decide (z4.lo < (-1073741824))) == false) = true; rw [h3]; rfl) rfl (st_bi (u := .int .i64 z4.hi) (v := .int .i64 1073741824) (r := .bool (decide (z4.hi > 1073741824))) rfl rfl rfl (bi_gtr rfl) ⟨rfl, rfl⟩) ?_
    refine dw_gd (d := (some 80)) (.bool (decide (z4.hi > 1073741824))) rfl (by show ((!z4.no) == true) = true; rw [h1]; rfl) rfl (st_pkf' (b := decide (z4.lo < (-1073741824))) (v := .bool (decide (z4.hi > 1073741824))) h3 rfl rfl rfl ⟨rfl, rfl⟩) ?_
    refine dw_gd (d := (some 81)) (.bool (decide (z4.hi > 1073741824))) rfl rfl rfl (st_pkt' (b := !z4.no) (v := .bool (decide (z4.hi > 1073741824))) (by rw [h1]; rfl) rfl rfl rfl ⟨rfl, rfl⟩) ?_
    refine dw_op (d := (some 82)) (.bool (decide (z4.hi > 1073741824))) rfl rfl rfl (st_pkf (v := .bool (decide (z4.hi > 1073741824))) rfl rfl rfl ⟨rfl, rfl⟩) ?_
    refine dw_op (d := (some 83)) (.bool (decide (z4.hi > 1073741824))) rfl rfl rfl (st_move (v := .bool (decide (z4.hi > 1073741824))) rfl rfl ⟨rfl, rfl⟩) ?_
    refine bool_split (decide (z4.hi > 1073741824)) (fun h4 => nomatch (show false = true from (show (ivBounds_r4 z0 z1 z2 z3 z4 z5 z6 z7 z8) = _ from (eF h1 (eF h2 (eF h3 (eT h4 rfl))))).symm.trans HG)) (fun h4 => ?_)
    refine dw_gd (d := (some 84)) (.pointer (some ⟨g0, 2, none⟩)) rfl (by show ((decide (z4.hi > 1073741824)) == false) = true; rw [h4]; rfl) rfl (st_fa (g := g0) (off := 0) rfl fa35_2 rfl ⟨rfl, rfl⟩) ?_
    refine dw_gd (d := (some 85)) (.bool z4.no) rfl (by show ((decide (z4.hi > 1073741824)) == false) = true; rw [h4]; rfl) rfl (st_ldc (g := g0) (off := 2) (v := .bool z4.no) cell4 0 rfl rfl rfl rfl rfl ⟨rfl, rfl⟩) ?_
    refine dw_gd (d := (some 86)) (.agg #[.int .i64 z4.lo, .int .i64 z4.hi, .bool z4.no]) rfl (by show ((decide (z4.hi > 1073741824)) == false) = true; rw [h4]; rfl) rfl (st_lda (g := g0) (off := 0) (vs := [.int .i64 z4.lo, .int .i64 z4.hi, .bool z4.no]) agg35 0 rfl rfl rfl rfl rfl rfl ⟨rfl, rfl⟩) ?_
    refine dw_gd (d := (some 87)) (.bool (rRight z4)) rfl (by show ((decide (z4.hi > 1073741824)) == false) = true; rw [h4]; rfl) rfl (st_cf (vs := [.agg #[.int .i64 z4.lo, .int .i64 z4.hi, .bool z4.no]]) (r := .bool (rRight z4)) (c_rRight z4) Try.func57 rfl (by decide) rfl rfl rfl ⟨rfl, rfl⟩) ?_
    refine dw_gd (d := (some 88)) (.bool (z4.no == (rRight z4))) rfl (by show ((decide (z4.hi > 1073741824)) == false) = true; rw [h4]; rfl) rfl (st_bi (u := .bool z4.no) (v := .bool (rRight z4)) (r := .bool (z4.no == (rRight z4))) rfl rfl rfl (bb_eql Try.underlying4 rfl) ⟨rfl, rfl⟩) ?_
    refine dw_op (d := (some 89)) (.bool (z4.no == (rRight z4))) rfl rfl rfl (st_pkf' (b := decide (z4.hi > 1073741824)) (v := .bool (z4.no == (rRight z4))) h4 rfl rfl rfl ⟨rfl, rfl⟩) ?_
    refine dw_nil ?_
    refine ar_nil ?_
    refine bool_split (z4.no == (rRight z4)) (fun h5 => nomatch (show false = true from (show (ivBounds_r4 z0 z1 z2 z3 z4 z5 z6 z7 z8) = _ from (eF h1 (eF h2 (eF h3 (eF h4 (eT h5 rfl)))))).symm.trans HG)) (fun h5 => ?_)
    refine ac_else' (b := z4.no == (rRight z4)) h5 rfl ?_
    refine ac_skip ?_
    refine ac_region_lit ?_
    refine ao 90 rfl rfl (st_bi (u := .int .i64 4) (v := .int .i64 1) (r := .int .i64 5) rfl rfl rfl (bi_add (by decide)) ?_)
    refine ao 46 rfl rfl (st_move (v := .int .i64 5) rfl rfl ?_)
    refine ar_nil ?_
    exact ar_dropR (List.Sublist.cons _ (List.Sublist.refl _)) (K _ rfl rfl rfl rfl rfl)
def ivBounds_r5 (z0 : Iv) (z1 : Iv) (z2 : Iv) (z3 : Iv) (z4 : Iv) (z5 : Iv) (z6 : Iv) (z7 : Iv) (z8 : Iv) : Bool := (bif z5.no then (bif z5.lo != 0 then false else (bif z5.hi != 0 then false else (bif z5.no == (rRight z5) then false else true))) else (bif decide (z5.lo > z5.hi) then false else (bif decide (z5.lo < (-1073741824)) then false else (bif decide (z5.hi > 1073741824) then false else (bif z5.no == (rRight z5) then false else true)))))
set_option maxRecDepth 100000 in
theorem c_ivBounds_r5 (z0 : Iv) (z1 : Iv) (z2 : Iv) (z3 : Iv) (z4 : Iv) (z5 : Iv) (z6 : Iv) (z7 : Iv) (z8 : Iv) {v11 v12 : Value} {Q : Exit → Env → List Box → Prop} {H0 : List Box} {E : Env} {c : Code} {k : Nat} (hc : Try.f13.body.bind loopOf = some c) (q10 : E 10 = .bool false) (q45 : E 45 = .agg #[.int .i64 z0.lo, .int .i64 z0.hi, .bool z0.no, .int .i64 z1.lo, .int .i64 z1.hi, .bool z1.no, .int .i64 z2.lo, .int .i64 z2.hi, .bool z2.no, .int .i64 z3.lo, .int .i64 z3.hi, .bool z3.no, .int .i64 z4.lo, .int .i64 z4.hi, .bool z4.no, .int .i64 z5.lo, .int .i64 z5.hi, .bool z5.no, .int .i64 z6.lo, .int .i64 z6.hi, .bool z6.no, .int .i64 z7.lo, .int .i64 z7.hi, .bool z7.no, .int .i64 z8.lo, .int .i64 z8.hi, .bool z8.no]) (q46 : E 46 = .int .i64 5) (l11 : E 11 = v11) (l12 : E 12 = v12) (HG : (ivBounds_r5 z0 z1 z2 z3 z4 z5 z6 z7 z8) = true) (K : ∀ E' : Env, E' 10 = .bool false → E' 45 = .agg #[.int .i64 z0.lo, .int .i64 z0.hi, .bool z0.no, .int .i64 z1.lo, .int .i64 z1.hi, .bool z1.no, .int .i64 z2.lo, .int .i64 z2.hi, .bool z2.no, .int .i64 z3.lo, .int .i64 z3.hi, .bool z3.no, .int .i64 z4.lo, .int .i64 z4.hi, .bool z4.no, .int .i64 z5.lo, .int .i64 z5.hi, .bool z5.no, .int .i64 z6.lo, .int .i64 z6.hi, .bool z6.no, .int .i64 z7.lo, .int .i64 z7.hi, .bool z7.no, .int .i64 z8.lo, .int .i64 z8.hi, .bool z8.no] → E' 46 = .int .i64 6 → E' 11 = v11 → E' 12 = v12 → ARounds Try.prog 118 c Q k E' H0) : ARounds Try.prog 118 c Q (k + 1) E H0 := by
  rw [show Try.f13.body.bind loopOf = some _ from rfl] at hc
  cases hc
  obtain ⟨E0, rfl⟩ : ∃ E0 : Env, E = (((((E0.put (some 10) (.bool false)).put (some 45) (.agg #[.int .i64 z0.lo, .int .i64 z0.hi, .bool z0.no, .int .i64 z1.lo, .int .i64 z1.hi, .bool z1.no, .int .i64 z2.lo, .int .i64 z2.hi, .bool z2.no, .int .i64 z3.lo, .int .i64 z3.hi, .bool z3.no, .int .i64 z4.lo, .int .i64 z4.hi, .bool z4.no, .int .i64 z5.lo, .int .i64 z5.hi, .bool z5.no, .int .i64 z6.lo, .int .i64 z6.hi, .bool z6.no, .int .i64 z7.lo, .int .i64 z7.hi, .bool z7.no, .int .i64 z8.lo, .int .i64 z8.hi, .bool z8.no])).put (some 46) (.int .i64 5)).put (some 11) v11).put (some 12) v12) := ⟨E, by rw [put_self q10, put_self q45, put_self q46, put_self l11, put_self l12]⟩
  refine ar_round ?_
  refine ac_seq ?_
  refine ac_region_lit ?_
  refine ao 47 rfl rfl (st_bi (u := .int .i64 5) (v := .int .i64 9) (r := .bool true) rfl rfl rfl (bi_lss (by decide)) ?_)
  refine ar_nil ?_
  refine ac_seq ?_
  refine ac_then rfl ?_
  refine ac_skip ?_
  refine ac_seq ?_
  refine ac_block ?_
  refine ac_seq ?_
  refine ac_region_lit ?_
  refine ao 48 rfl rfl (st_ix (u := .agg #[.int .i64 z0.lo, .int .i64 z0.hi, .bool z0.no, .int .i64 z1.lo, .int .i64 z1.hi, .bool z1.no, .int .i64 z2.lo, .int .i64 z2.hi, .bool z2.no, .int .i64 z3.lo, .int .i64 z3.hi, .bool z3.no, .int .i64 z4.lo, .int .i64 z4.hi, .bool z4.no, .int .i64 z5.lo, .int .i64 z5.hi, .bool z5.no, .int .i64 z6.lo, .int .i64 z6.hi, .bool z6.no, .int .i64 z7.lo, .int .i64 z7.hi, .bool z7.no, .int .i64 z8.lo, .int .i64 z8.hi, .bool z8.no]) (i := .int .i64 5) (v := .agg #[.int .i64 z5.lo, .int .i64 z5.hi, .bool z5.no]) rfl rfl rfl (ix52_5 _ _ _ _ _ _ _ _ _ _ _ _ _ _ _ _ _ _ _ _ _ _ _ _ _ _ _) ?_)
  refine ao 14 rfl rfl (st_new zero35 rfl fun g0 => ?_)
  refine ar_op (d := none) rfl rfl (st_sta (g := g0) (off := 0) (us := [.int .i64 z5.lo, .int .i64 z5.hi, .bool z5.no]) (cs := [.int .i64 z5.lo, .int .i64 z5.hi, .bool z5.no]) agg35 0 rfl rfl rfl rfl rfl rfl rfl rfl rfl ?_)
  refine ar_nil ?_
  refine ac_seq ?_
  refine ac_draw0 (id := 6) [0, 1, 2, 3, 4, 5, 6, 7, 8, 9, 10, 11, 12, 13, 14, 15, 16, 17, 18, 19, 20, 21, 22, 23, 24, 25, 26, 27, 28, 29, 30, 31, 32, 33, 34, 35, 36, 37, 38, 39, 40] [] _ (by kernel_rfl) follows rfl  ?_
  refine dw_op (d := (some 49)) (.pointer (some ⟨g0, 2, none⟩)) rfl rfl rfl (st_fa (g := g0) (off := 0) rfl fa35_2 rfl ⟨rfl, rfl⟩) ?_
  refine dw_op (d := (some 50)) (.bool z5.no) rfl rfl rfl (st_ldc (g := g0) (off := 2) (v := .bool z5.no) cell4 0 rfl rfl rfl rfl rfl ⟨rfl, rfl⟩) ?_
  refine dw_op (d := (some 51)) (.bool z5.no) rfl rfl rfl (st_move (v := .bool z5.no) rfl rfl ⟨rfl, rfl⟩) ?_
  refine bool_split (z5.no) (fun h1 => ?_) (fun h1 => ?_)
  · refine dw_gd (d := (some 52)) (.pointer (some ⟨g0, 0, none⟩)) rfl (by show (z5.no == true) = true; rw [h1]; rfl) rfl (st_fa (g := g0) (off := 0) rfl fa35_0 rfl ⟨rfl, rfl⟩) ?_
    refine dw_gd (d := (some 53)) (.int .i64 z5.lo) rfl (by show (z5.no == true) = true; rw [h1]; rfl) rfl (st_ldc (g := g0) (off := 0) (v := .int .i64 z5.lo) cell3 0 rfl rfl rfl rfl rfl ⟨rfl, rfl⟩) ?_
    refine dw_gd (d := (some 54)) (.bool (z5.lo != 0)) rfl (by show (z5.no == true) = true; rw [h1]; rfl) rfl (st_bi (u := .int .i64 z5.lo) (v := .int .i64 0) (r := .bool (z5.lo != 0)) rfl rfl rfl (bi_neq rfl) ⟨rfl, rfl⟩) ?_
    refine dw_gd (d := (some 55)) (.bool (z5.lo != 0)) rfl (by show (z5.no == true) = true; rw [h1]; rfl) rfl (st_move (v := .bool (z5.lo != 0)) rfl rfl ⟨rfl, rfl⟩) ?_
    refine bool_split (z5.lo != 0) (fun h2 => nomatch (show false = true from (show (ivBounds_r5 z0 z1 z2 z3 z4 z5 z6 z7 z8) = _ from (eT h1 (eT h2 rfl))).symm.trans HG)) (fun h2 => ?_)
    refine dw_gd (d := (some 56)) (.pointer (some ⟨g0, 1, none⟩)) rfl (by show ((z5.lo != 0) == false) = true; rw [h2]; rfl) rfl (st_fa (g := g0) (off := 0) rfl fa35_1 rfl ⟨rfl, rfl⟩) ?_
    refine dw_gd (d := (some 57)) (.int .i64 z5.hi) rfl (by show ((z5.lo != 0) == false) = true; rw [h2]; rfl) rfl (st_ldc (g := g0) (off := 1) (v := .int .i64 z5.hi) cell3 0 rfl rfl rfl rfl rfl ⟨rfl, rfl⟩) ?_
    refine dw_gd (d := (some 58)) (.bool (z5.hi != 0)) rfl (by show ((z5.lo != 0) == false) = true; rw [h2]; rfl) rfl (st_bi (u := .int .i64 z5.hi) (v := .int .i64 0) (r := .bool (z5.hi != 0)) rfl rfl rfl (bi_neq rfl) ⟨rfl, rfl⟩) ?_
    refine dw_gd (d := (some 59)) (.bool (z5.hi != 0)) rfl (by show (z5.no == true) = true; rw [h1]; rfl) rfl (st_pkf' (b := z5.lo != 0) (v := .bool (z5.hi != 0)) h2 rfl rfl rfl ⟨rfl, rfl⟩) ?_
    refine dw_op (d := (some 60)) (.bool (z5.hi != 0)) rfl rfl rfl (st_pkt' (b := z5.no) (v := .bool (z5.hi != 0)) h1 rfl rfl rfl ⟨rfl, rfl⟩) ?_
    refine dw_op (d := (some 61)) (.bool (z5.hi != 0)) rfl rfl rfl (st_move (v := .bool (z5.hi != 0)) rfl rfl ⟨rfl, rfl⟩) ?_
    refine bool_split (z5.hi != 0) (fun h3 => nomatch (show false = true from (show (ivBounds_r5 z0 z1 z2 z3 z4 z5 z6 z7 z8) = _ from (eT h1 (eF h2 (eT h3 rfl)))).symm.trans HG)) (fun h3 => ?_)
    refine dw_gd (d := (some 62)) (.pointer (some ⟨g0, 2, none⟩)) rfl (by show ((z5.hi != 0) == false) = true; rw [h3]; rfl) rfl (st_fa (g := g0) (off := 0) rfl fa35_2 rfl ⟨rfl, rfl⟩) ?_
    refine dw_gd (d := (some 63)) (.bool z5.no) rfl (by show ((z5.hi != 0) == false) = true; rw [h3]; rfl) rfl (st_ldc (g := g0) (off := 2) (v := .bool z5.no) cell4 0 rfl rfl rfl rfl rfl ⟨rfl, rfl⟩) ?_
    refine dw_gd (d := (some 64)) (.bool (!z5.no)) rfl (by show ((z5.hi != 0) == false) = true; rw [h3]; rfl) rfl (st_un (u := .bool z5.no) (v := .bool (!z5.no)) rfl rfl (un_not rfl) ⟨rfl, rfl⟩) ?_
    refine dw_gd (d := (some 65)) (.bool (!z5.no)) rfl (by show ((z5.hi != 0) == false) = true; rw [h3]; rfl) rfl (st_move (v := .bool (!z5.no)) rfl rfl ⟨rfl, rfl⟩) ?_
    refine dw_sk (d := (some 66)) rfl (by show ((!z5.no) == true) = false; rw [h1]; rfl) rfl ?_
    refine dw_sk (d := (some 67)) rfl (by show ((!z5.no) == true) = false; rw [h1]; rfl) rfl ?_
    refine dw_sk (d := (some 68)) rfl (by show ((!z5.no) == true) = false; rw [h1]; rfl) rfl ?_
    refine dw_sk (d := (some 69)) rfl (by show ((!z5.no) == true) = false; rw [h1]; rfl) rfl ?_
    refine dw_sk (d := (some 70)) rfl (by show ((!z5.no) == true) = false; rw [h1]; rfl) rfl ?_
    refine dw_sk (d := (some 71)) rfl (by show ((!z5.no) == true) = false; rw [h1]; rfl) rfl ?_
    refine dw_sk (d := (some 72)) rfl rfl rfl ?_
    refine dw_sk (d := (some 73)) rfl rfl rfl ?_
    refine dw_sk (d := (some 74)) rfl rfl rfl ?_
    refine dw_sk (d := (some 75)) rfl (by show ((!z5.no) == true) = false; rw [h1]; rfl) rfl ?_
    refine dw_sk (d := (some 76)) rfl (by show ((!z5.no) == true) = false; rw [h1]; rfl) rfl ?_
    refine dw_sk (d := (some 77)) rfl rfl rfl ?_
    refine dw_sk (d := (some 78)) rfl rfl rfl ?_
    refine dw_sk (d := (some 79)) rfl rfl rfl ?_
    refine dw_sk (d := (some 80)) rfl (by show ((!z5.no) == true) = false; rw [h1]; rfl) rfl ?_
    refine dw_gd (d := (some 81)) (.bool false) rfl (by show ((z5.hi != 0) == false) = true; rw [h3]; rfl) rfl (st_pkf' (b := !z5.no) (v := .bool false) (by rw [h1]; rfl) rfl rfl rfl ⟨rfl, rfl⟩) ?_
    refine dw_op (d := (some 82)) (.bool false) rfl rfl rfl (st_pkf' (b := z5.hi != 0) (v := .bool false) h3 rfl rfl rfl ⟨rfl, rfl⟩) ?_
    refine dw_op (d := (some 83)) (.bool false) rfl rfl rfl (st_move (v := .bool false) rfl rfl ⟨rfl, rfl⟩) ?_
    refine dw_gd (d := (some 84)) (.pointer (some ⟨g0, 2, none⟩)) rfl rfl rfl (st_fa (g := g0) (off := 0) rfl fa35_2 rfl ⟨rfl, rfl⟩) ?_
    refine dw_gd (d := (some 85)) (.bool z5.no) rfl rfl rfl (st_ldc (g := g0) (off := 2) (v := .bool z5.no) cell4 0 rfl rfl rfl rfl rfl ⟨rfl, rfl⟩) ?_
    refine dw_gd (d := (some 86)) (.agg #[.int .i64 z5.lo, .int .i64 z5.hi, .bool z5.no]) rfl rfl rfl (st_lda (g := g0) (off := 0) (vs := [.int .i64 z5.lo, .int .i64 z5.hi, .bool z5.no]) agg35 0 rfl rfl rfl rfl rfl rfl ⟨rfl, rfl⟩) ?_
    refine dw_gd (d := (some 87)) (.bool (rRight z5)) rfl rfl rfl (st_cf (vs := [.agg #[.int .i64 z5.lo, .int .i64 z5.hi, .bool z5.no]]) (r := .bool (rRight z5)) (c_rRight z5) Try.func57 rfl (by decide) rfl rfl rfl ⟨rfl, rfl⟩) ?_
    refine dw_gd (d := (some 88)) (.bool (z5.no == (rRight z5))) rfl rfl rfl (st_bi (u := .bool z5.no) (v := .bool (rRight z5)) (r := .bool (z5.no == (rRight z5))) rfl rfl rfl (bb_eql Try.underlying4 rfl) ⟨rfl, rfl⟩) ?_
    refine dw_op (d := (some 89)) (.bool (z5.no == (rRight z5))) rfl rfl rfl (st_pkf (v := .bool (z5.no == (rRight z5))) rfl rfl rfl ⟨rfl, rfl⟩) ?_
    refine dw_nil ?_
    refine ar_nil ?_
    refine bool_split (z5.no == (rRight z5)) (fun h4 => nomatch (show false = true from (show (ivBounds_r5 z0 z1 z2 z3 z4 z5 z6 z7 z8) = _ from (eT h1 (eF h2 (eF h3 (eT h4 rfl))))).symm.trans HG)) (fun h4 => ?_)
    refine ac_else' (b := z5.no == (rRight z5)) h4 rfl ?_
    refine ac_skip ?_
    refine ac_region_lit ?_
    refine ao 90 rfl rfl (st_bi (u := .int .i64 5) (v := .int .i64 1) (r := .int .i64 6) rfl rfl rfl (bi_add (by decide)) ?_)
    refine ao 46 rfl rfl (st_move (v := .int .i64 6) rfl rfl ?_)
    refine ar_nil ?_
    exact ar_dropR (List.Sublist.cons _ (List.Sublist.refl _)) (K _ rfl rfl rfl rfl rfl)
  · refine dw_sk (d := (some 52)) rfl (by show (z5.no == true) = false; rw [h1]; rfl) rfl ?_
    refine dw_sk (d := (some 53)) rfl (by show (z5.no == true) = false; rw [h1]; rfl) rfl ?_
    refine dw_sk (d := (some 54)) rfl (by show (z5.no == true) = false; rw [h1]; rfl) rfl ?_
    refine dw_sk (d := (some 55)) rfl (by show (z5.no == true) = false; rw [h1]; rfl) rfl ?_
    refine dw_sk (d := (some 56)) rfl rfl rfl ?_
    refine dw_sk (d := (some 57)) rfl rfl rfl ?_
    refine dw_sk (d := (some 58)) rfl rfl rfl ?_
    refine dw_sk (d := (some 59)) rfl (by show (z5.no == true) = false; rw [h1]; rfl) rfl ?_
    refine dw_op (d := (some 60)) (.bool false) rfl rfl rfl (st_pkf' (b := z5.no) (v := .bool false) h1 rfl rfl rfl ⟨rfl, rfl⟩) ?_
    refine dw_op (d := (some 61)) (.bool false) rfl rfl rfl (st_move (v := .bool false) rfl rfl ⟨rfl, rfl⟩) ?_
    refine dw_gd (d := (some 62)) (.pointer (some ⟨g0, 2, none⟩)) rfl rfl rfl (st_fa (g := g0) (off := 0) rfl fa35_2 rfl ⟨rfl, rfl⟩) ?_
    refine dw_gd (d := (some 63)) (.bool z5.no) rfl rfl rfl (st_ldc (g := g0) (off := 2) (v := .bool z5.no) cell4 0 rfl rfl rfl rfl rfl ⟨rfl, rfl⟩) ?_
    refine dw_gd (d := (some 64)) (.bool (!z5.no)) rfl rfl rfl (st_un (u := .bool z5.no) (v := .bool (!z5.no)) rfl rfl (un_not rfl) ⟨rfl, rfl⟩) ?_
    refine dw_gd (d := (some 65)) (.bool (!z5.no)) rfl rfl rfl (st_move (v := .bool (!z5.no)) rfl rfl ⟨rfl, rfl⟩) ?_
    refine dw_gd (d := (some 66)) (.pointer (some ⟨g0, 0, none⟩)) rfl (by show ((!z5.no) == true) = true; rw [h1]; rfl) rfl (st_fa (g := g0) (off := 0) rfl fa35_0 rfl ⟨rfl, rfl⟩) ?_
    refine dw_gd (d := (some 67)) (.int .i64 z5.lo) rfl (by show ((!z5.no) == true) = true; rw [h1]; rfl) rfl (st_ldc (g := g0) (off := 0) (v := .int .i64 z5.lo) cell3 0 rfl rfl rfl rfl rfl ⟨rfl, rfl⟩) ?_
    refine dw_gd (d := (some 68)) (.pointer (some ⟨g0, 1, none⟩)) rfl (by show ((!z5.no) == true) = true; rw [h1]; rfl) rfl (st_fa (g := g0) (off := 0) rfl fa35_1 rfl ⟨rfl, rfl⟩) ?_
    refine dw_gd (d := (some 69)) (.int .i64 z5.hi) rfl (by show ((!z5.no) == true) = true; rw [h1]; rfl) rfl (st_ldc (g := g0) (off := 1) (v := .int .i64 z5.hi) cell3 0 rfl rfl rfl rfl rfl ⟨rfl, rfl⟩) ?_
    refine dw_gd (d := (some 70)) (.bool (decide (z5.lo > z5.hi))) rfl (by show ((!z5.no) == true) = true; rw [h1]; rfl) rfl (st_bi (u := .int .i64 z5.lo) (v := .int .i64 z5.hi) (r := .bool (decide (z5.lo > z5.hi))) rfl rfl rfl (bi_gtr rfl) ⟨rfl, rfl⟩) ?_
    refine dw_gd (d := (some 71)) (.bool (decide (z5.lo > z5.hi))) rfl (by show ((!z5.no) == true) = true; rw [h1]; rfl) rfl (st_move (v := .bool (decide (z5.lo > z5.hi))) rfl rfl ⟨rfl, rfl⟩) ?_
    refine bool_split (decide (z5.lo > z5.hi)) (fun h2 => nomatch (show false = true from (show (ivBounds_r5 z0 z1 z2 z3 z4 z5 z6 z7 z8) = _ from (eF h1 (eT h2 rfl))).symm.trans HG)) (fun h2 => ?_)
    refine dw_gd (d := (some 72)) (.pointer (some ⟨g0, 0, none⟩)) rfl (by show ((decide (z5.lo > z5.hi)) == false) = true; rw [h2]; rfl) rfl (st_fa (g := g0) (off := 0) rfl fa35_0 rfl ⟨rfl, rfl⟩) ?_
    refine dw_gd (d := (some 73)) (.int .i64 z5.lo) rfl (by show ((decide (z5.lo > z5.hi)) == false) = true; rw [h2]; rfl) rfl (st_ldc (g := g0) (off := 0) (v := .int .i64 z5.lo) cell3 0 rfl rfl rfl rfl rfl ⟨rfl, rfl⟩) ?_
    refine dw_gd (d := (some 74)) (.bool (decide (z5.lo < (-1073741824)))) rfl (by show ((decide (z5.lo > z5.hi)) == false) = true; rw [h2]; rfl) rfl (st_bi (u := .int .i64 z5.lo) (v := .int .i64 (-1073741824)) (r := .bool (decide (z5.lo < (-1073741824)))) rfl rfl rfl (bi_lss rfl) ⟨rfl, rfl⟩) ?_
    refine dw_gd (d := (some 75)) (.bool (decide (z5.lo < (-1073741824)))) rfl (by show ((!z5.no) == true) = true; rw [h1]; rfl) rfl (st_pkf' (b := decide (z5.lo > z5.hi)) (v := .bool (decide (z5.lo < (-1073741824)))) h2 rfl rfl rfl ⟨rfl, rfl⟩) ?_
    refine dw_gd (d := (some 76)) (.bool (decide (z5.lo < (-1073741824)))) rfl (by show ((!z5.no) == true) = true; rw [h1]; rfl) rfl (st_move (v := .bool (decide (z5.lo < (-1073741824)))) rfl rfl ⟨rfl, rfl⟩) ?_
    refine bool_split (decide (z5.lo < (-1073741824))) (fun h3 => nomatch (show false = true from (show (ivBounds_r5 z0 z1 z2 z3 z4 z5 z6 z7 z8) = _ from (eF h1 (eF h2 (eT h3 rfl)))).symm.trans HG)) (fun h3 => ?_)
    refine dw_gd (d := (some 77)) (.pointer (some ⟨g0, 1, none⟩)) rfl (by show ((decide (z5.lo < (-1073741824))) == false) = true; rw [h3]; rfl) rfl (st_fa (g := g0) (off := 0) rfl fa35_1 rfl ⟨rfl, rfl⟩) ?_
    refine dw_gd (d := (some 78)) (.int .i64 z5.hi) rfl (by show ((decide (z5.lo < (-1073741824))) == false) = true; rw [h3]; rfl) rfl (st_ldc (g := g0) (off := 1) (v := .int .i64 z5.hi) cell3 0 rfl rfl rfl rfl rfl ⟨rfl, rfl⟩) ?_
    refine dw_gd (d := (some 79)) (.bool (decide (z5.hi > 1073741824))) rfl (by show ((decide (z5.lo < (-1073741824))) == false) = true; rw [h3]; rfl) rfl (st_bi (u := .int .i64 z5.hi) (v := .int .i64 1073741824) (r := .bool (decide (z5.hi > 1073741824))) rfl rfl rfl (bi_gtr rfl) ⟨rfl, rfl⟩) ?_
    refine dw_gd (d := (some 80)) (.bool (decide (z5.hi > 1073741824))) rfl (by show ((!z5.no) == true) = true; rw [h1]; rfl) rfl (st_pkf' (b := decide (z5.lo < (-1073741824))) (v := .bool (decide (z5.hi > 1073741824))) h3 rfl rfl rfl ⟨rfl, rfl⟩) ?_
    refine dw_gd (d := (some 81)) (.bool (decide (z5.hi > 1073741824))) rfl rfl rfl (st_pkt' (b := !z5.no) (v := .bool (decide (z5.hi > 1073741824))) (by rw [h1]; rfl) rfl rfl rfl ⟨rfl, rfl⟩) ?_
    refine dw_op (d := (some 82)) (.bool (decide (z5.hi > 1073741824))) rfl rfl rfl (st_pkf (v := .bool (decide (z5.hi > 1073741824))) rfl rfl rfl ⟨rfl, rfl⟩) ?_
    refine dw_op (d := (some 83)) (.bool (decide (z5.hi > 1073741824))) rfl rfl rfl (st_move (v := .bool (decide (z5.hi > 1073741824))) rfl rfl ⟨rfl, rfl⟩) ?_
    refine bool_split (decide (z5.hi > 1073741824)) (fun h4 => nomatch (show false = true from (show (ivBounds_r5 z0 z1 z2 z3 z4 z5 z6 z7 z8) = _ from (eF h1 (eF h2 (eF h3 (eT h4 rfl))))).symm.trans HG)) (fun h4 => ?_)
    refine dw_gd (d := (some 84)) (.pointer (some ⟨g0, 2, none⟩)) rfl (by show ((decide (z5.hi > 1073741824)) == false) = true; rw [h4]; rfl) rfl (st_fa (g := g0) (off := 0) rfl fa35_2 rfl ⟨rfl, rfl⟩) ?_
    refine dw_gd (d := (some 85)) (.bool z5.no) rfl (by show ((decide (z5.hi > 1073741824)) == false) = true; rw [h4]; rfl) rfl (st_ldc (g := g0) (off := 2) (v := .bool z5.no) cell4 0 rfl rfl rfl rfl rfl ⟨rfl, rfl⟩) ?_
    refine dw_gd (d := (some 86)) (.agg #[.int .i64 z5.lo, .int .i64 z5.hi, .bool z5.no]) rfl (by show ((decide (z5.hi > 1073741824)) == false) = true; rw [h4]; rfl) rfl (st_lda (g := g0) (off := 0) (vs := [.int .i64 z5.lo, .int .i64 z5.hi, .bool z5.no]) agg35 0 rfl rfl rfl rfl rfl rfl ⟨rfl, rfl⟩) ?_
    refine dw_gd (d := (some 87)) (.bool (rRight z5)) rfl (by show ((decide (z5.hi > 1073741824)) == false) = true; rw [h4]; rfl) rfl (st_cf (vs := [.agg #[.int .i64 z5.lo, .int .i64 z5.hi, .bool z5.no]]) (r := .bool (rRight z5)) (c_rRight z5) Try.func57 rfl (by decide) rfl rfl rfl ⟨rfl, rfl⟩) ?_
    refine dw_gd (d := (some 88)) (.bool (z5.no == (rRight z5))) rfl (by show ((decide (z5.hi > 1073741824)) == false) = true; rw [h4]; rfl) rfl (st_bi (u := .bool z5.no) (v := .bool (rRight z5)) (r := .bool (z5.no == (rRight z5))) rfl rfl rfl (bb_eql Try.underlying4 rfl) ⟨rfl, rfl⟩) ?_
    refine dw_op (d := (some 89)) (.bool (z5.no == (rRight z5))) rfl rfl rfl (st_pkf' (b := decide (z5.hi > 1073741824)) (v := .bool (z5.no == (rRight z5))) h4 rfl rfl rfl ⟨rfl, rfl⟩) ?_
    refine dw_nil ?_
    refine ar_nil ?_
    refine bool_split (z5.no == (rRight z5)) (fun h5 => nomatch (show false = true from (show (ivBounds_r5 z0 z1 z2 z3 z4 z5 z6 z7 z8) = _ from (eF h1 (eF h2 (eF h3 (eF h4 (eT h5 rfl)))))).symm.trans HG)) (fun h5 => ?_)
    refine ac_else' (b := z5.no == (rRight z5)) h5 rfl ?_
    refine ac_skip ?_
    refine ac_region_lit ?_
    refine ao 90 rfl rfl (st_bi (u := .int .i64 5) (v := .int .i64 1) (r := .int .i64 6) rfl rfl rfl (bi_add (by decide)) ?_)
    refine ao 46 rfl rfl (st_move (v := .int .i64 6) rfl rfl ?_)
    refine ar_nil ?_
    exact ar_dropR (List.Sublist.cons _ (List.Sublist.refl _)) (K _ rfl rfl rfl rfl rfl)
def ivBounds_r6 (z0 : Iv) (z1 : Iv) (z2 : Iv) (z3 : Iv) (z4 : Iv) (z5 : Iv) (z6 : Iv) (z7 : Iv) (z8 : Iv) : Bool := (bif z6.no then (bif z6.lo != 0 then false else (bif z6.hi != 0 then false else (bif z6.no == (rRight z6) then false else true))) else (bif decide (z6.lo > z6.hi) then false else (bif decide (z6.lo < (-1073741824)) then false else (bif decide (z6.hi > 1073741824) then false else (bif z6.no == (rRight z6) then false else true)))))
set_option maxRecDepth 100000 in
theorem c_ivBounds_r6 (z0 : Iv) (z1 : Iv) (z2 : Iv) (z3 : Iv) (z4 : Iv) (z5 : Iv) (z6 : Iv) (z7 : Iv) (z8 : Iv) {v11 v12 : Value} {Q : Exit → Env → List Box → Prop} {H0 : List Box} {E : Env} {c : Code} {k : Nat} (hc : Try.f13.body.bind loopOf = some c) (q10 : E 10 = .bool false) (q45 : E 45 = .agg #[.int .i64 z0.lo, .int .i64 z0.hi, .bool z0.no, .int .i64 z1.lo, .int .i64 z1.hi, .bool z1.no, .int .i64 z2.lo, .int .i64 z2.hi, .bool z2.no, .int .i64 z3.lo, .int .i64 z3.hi, .bool z3.no, .int .i64 z4.lo, .int .i64 z4.hi, .bool z4.no, .int .i64 z5.lo, .int .i64 z5.hi, .bool z5.no, .int .i64 z6.lo, .int .i64 z6.hi, .bool z6.no, .int .i64 z7.lo, .int .i64 z7.hi, .bool z7.no, .int .i64 z8.lo, .int .i64 z8.hi, .bool z8.no]) (q46 : E 46 = .int .i64 6) (l11 : E 11 = v11) (l12 : E 12 = v12) (HG : (ivBounds_r6 z0 z1 z2 z3 z4 z5 z6 z7 z8) = true) (K : ∀ E' : Env, E' 10 = .bool false → E' 45 = .agg #[.int .i64 z0.lo, .int .i64 z0.hi, .bool z0.no, .int .i64 z1.lo, .int .i64 z1.hi, .bool z1.no, .int .i64 z2.lo, .int .i64 z2.hi, .bool z2.no, .int .i64 z3.lo, .int .i64 z3.hi, .bool z3.no, .int .i64 z4.lo, .int .i64 z4.hi, .bool z4.no, .int .i64 z5.lo, .int .i64 z5.hi, .bool z5.no, .int .i64 z6.lo, .int .i64 z6.hi, .bool z6.no, .int .i64 z7.lo, .int .i64 z7.hi, .bool z7.no, .int .i64 z8.lo, .int .i64 z8.hi, .bool z8.no] → E' 46 = .int .i64 7 → E' 11 = v11 → E' 12 = v12 → ARounds Try.prog 118 c Q k E' H0) : ARounds Try.prog 118 c Q (k + 1) E H0 := by
  rw [show Try.f13.body.bind loopOf = some _ from rfl] at hc
  cases hc
  obtain ⟨E0, rfl⟩ : ∃ E0 : Env, E = (((((E0.put (some 10) (.bool false)).put (some 45) (.agg #[.int .i64 z0.lo, .int .i64 z0.hi, .bool z0.no, .int .i64 z1.lo, .int .i64 z1.hi, .bool z1.no, .int .i64 z2.lo, .int .i64 z2.hi, .bool z2.no, .int .i64 z3.lo, .int .i64 z3.hi, .bool z3.no, .int .i64 z4.lo, .int .i64 z4.hi, .bool z4.no, .int .i64 z5.lo, .int .i64 z5.hi, .bool z5.no, .int .i64 z6.lo, .int .i64 z6.hi, .bool z6.no, .int .i64 z7.lo, .int .i64 z7.hi, .bool z7.no, .int .i64 z8.lo, .int .i64 z8.hi, .bool z8.no])).put (some 46) (.int .i64 6)).put (some 11) v11).put (some 12) v12) := ⟨E, by rw [put_self q10, put_self q45, put_self q46, put_self l11, put_self l12]⟩
  refine ar_round ?_
  refine ac_seq ?_
  refine ac_region_lit ?_
  refine ao 47 rfl rfl (st_bi (u := .int .i64 6) (v := .int .i64 9) (r := .bool true) rfl rfl rfl (bi_lss (by decide)) ?_)
  refine ar_nil ?_
  refine ac_seq ?_
  refine ac_then rfl ?_
  refine ac_skip ?_
  refine ac_seq ?_
  refine ac_block ?_
  refine ac_seq ?_
  refine ac_region_lit ?_
  refine ao 48 rfl rfl (st_ix (u := .agg #[.int .i64 z0.lo, .int .i64 z0.hi, .bool z0.no, .int .i64 z1.lo, .int .i64 z1.hi, .bool z1.no, .int .i64 z2.lo, .int .i64 z2.hi, .bool z2.no, .int .i64 z3.lo, .int .i64 z3.hi, .bool z3.no, .int .i64 z4.lo, .int .i64 z4.hi, .bool z4.no, .int .i64 z5.lo, .int .i64 z5.hi, .bool z5.no, .int .i64 z6.lo, .int .i64 z6.hi, .bool z6.no, .int .i64 z7.lo, .int .i64 z7.hi, .bool z7.no, .int .i64 z8.lo, .int .i64 z8.hi, .bool z8.no]) (i := .int .i64 6) (v := .agg #[.int .i64 z6.lo, .int .i64 z6.hi, .bool z6.no]) rfl rfl rfl (ix52_6 _ _ _ _ _ _ _ _ _ _ _ _ _ _ _ _ _ _ _ _ _ _ _ _ _ _ _) ?_)
  refine ao 14 rfl rfl (st_new zero35 rfl fun g0 => ?_)
  refine ar_op (d := none) rfl rfl (st_sta (g := g0) (off := 0) (us := [.int .i64 z6.lo, .int .i64 z6.hi, .bool z6.no]) (cs := [.int .i64 z6.lo, .int .i64 z6.hi, .bool z6.no]) agg35 0 rfl rfl rfl rfl rfl rfl rfl rfl rfl ?_)
  refine ar_nil ?_
  refine ac_seq ?_
  refine ac_draw0 (id := 6) [0, 1, 2, 3, 4, 5, 6, 7, 8, 9, 10, 11, 12, 13, 14, 15, 16, 17, 18, 19, 20, 21, 22, 23, 24, 25, 26, 27, 28, 29, 30, 31, 32, 33, 34, 35, 36, 37, 38, 39, 40] [] _ (by kernel_rfl) follows rfl  ?_
  refine dw_op (d := (some 49)) (.pointer (some ⟨g0, 2, none⟩)) rfl rfl rfl (st_fa (g := g0) (off := 0) rfl fa35_2 rfl ⟨rfl, rfl⟩) ?_
  refine dw_op (d := (some 50)) (.bool z6.no) rfl rfl rfl (st_ldc (g := g0) (off := 2) (v := .bool z6.no) cell4 0 rfl rfl rfl rfl rfl ⟨rfl, rfl⟩) ?_
  refine dw_op (d := (some 51)) (.bool z6.no) rfl rfl rfl (st_move (v := .bool z6.no) rfl rfl ⟨rfl, rfl⟩) ?_
  refine bool_split (z6.no) (fun h1 => ?_) (fun h1 => ?_)
  · refine dw_gd (d := (some 52)) (.pointer (some ⟨g0, 0, none⟩)) rfl (by show (z6.no == true) = true; rw [h1]; rfl) rfl (st_fa (g := g0) (off := 0) rfl fa35_0 rfl ⟨rfl, rfl⟩) ?_
    refine dw_gd (d := (some 53)) (.int .i64 z6.lo) rfl (by show (z6.no == true) = true; rw [h1]; rfl) rfl (st_ldc (g := g0) (off := 0) (v := .int .i64 z6.lo) cell3 0 rfl rfl rfl rfl rfl ⟨rfl, rfl⟩) ?_
    refine dw_gd (d := (some 54)) (.bool (z6.lo != 0)) rfl (by show (z6.no == true) = true; rw [h1]; rfl) rfl (st_bi (u := .int .i64 z6.lo) (v := .int .i64 0) (r := .bool (z6.lo != 0)) rfl rfl rfl (bi_neq rfl) ⟨rfl, rfl⟩) ?_
    refine dw_gd (d := (some 55)) (.bool (z6.lo != 0)) rfl (by show (z6.no == true) = true; rw [h1]; rfl) rfl (st_move (v := .bool (z6.lo != 0)) rfl rfl ⟨rfl, rfl⟩) ?_
    refine bool_split (z6.lo != 0) (fun h2 => nomatch (show false = true from (show (ivBounds_r6 z0 z1 z2 z3 z4 z5 z6 z7 z8) = _ from (eT h1 (eT h2 rfl))).symm.trans HG)) (fun h2 => ?_)
    refine dw_gd (d := (some 56)) (.pointer (some ⟨g0, 1, none⟩)) rfl (by show ((z6.lo != 0) == false) = true; rw [h2]; rfl) rfl (st_fa (g := g0) (off := 0) rfl fa35_1 rfl ⟨rfl, rfl⟩) ?_
    refine dw_gd (d := (some 57)) (.int .i64 z6.hi) rfl (by show ((z6.lo != 0) == false) = true; rw [h2]; rfl) rfl (st_ldc (g := g0) (off := 1) (v := .int .i64 z6.hi) cell3 0 rfl rfl rfl rfl rfl ⟨rfl, rfl⟩) ?_
    refine dw_gd (d := (some 58)) (.bool (z6.hi != 0)) rfl (by show ((z6.lo != 0) == false) = true; rw [h2]; rfl) rfl (st_bi (u := .int .i64 z6.hi) (v := .int .i64 0) (r := .bool (z6.hi != 0)) rfl rfl rfl (bi_neq rfl) ⟨rfl, rfl⟩) ?_
    refine dw_gd (d := (some 59)) (.bool (z6.hi != 0)) rfl (by show (z6.no == true) = true; rw [h1]; rfl) rfl (st_pkf' (b := z6.lo != 0) (v := .bool (z6.hi != 0)) h2 rfl rfl rfl ⟨rfl, rfl⟩) ?_
    refine dw_op (d := (some 60)) (.bool (z6.hi != 0)) rfl rfl rfl (st_pkt' (b := z6.no) (v := .bool (z6.hi != 0)) h1 rfl rfl rfl ⟨rfl, rfl⟩) ?_
    refine dw_op (d := (some 61)) (.bool (z6.hi != 0)) rfl rfl rfl (st_move (v := .bool (z6.hi != 0)) rfl rfl ⟨rfl, rfl⟩) ?_
    refine bool_split (z6.hi != 0) (fun h3 => nomatch (show false = true from (show (ivBounds_r6 z0 z1 z2 z3 z4 z5 z6 z7 z8) = _ from (eT h1 (eF h2 (eT h3 rfl)))).symm.trans HG)) (fun h3 => ?_)
    refine dw_gd (d := (some 62)) (.pointer (some ⟨g0, 2, none⟩)) rfl (by show ((z6.hi != 0) == false) = true; rw [h3]; rfl) rfl (st_fa (g := g0) (off := 0) rfl fa35_2 rfl ⟨rfl, rfl⟩) ?_
    refine dw_gd (d := (some 63)) (.bool z6.no) rfl (by show ((z6.hi != 0) == false) = true; rw [h3]; rfl) rfl (st_ldc (g := g0) (off := 2) (v := .bool z6.no) cell4 0 rfl rfl rfl rfl rfl ⟨rfl, rfl⟩) ?_
    refine dw_gd (d := (some 64)) (.bool (!z6.no)) rfl (by show ((z6.hi != 0) == false) = true; rw [h3]; rfl) rfl (st_un (u := .bool z6.no) (v := .bool (!z6.no)) rfl rfl (un_not rfl) ⟨rfl, rfl⟩) ?_
    refine dw_gd (d := (some 65)) (.bool (!z6.no)) rfl (by show ((z6.hi != 0) == false) = true; rw [h3]; rfl) rfl (st_move (v := .bool (!z6.no)) rfl rfl ⟨rfl, rfl⟩) ?_
    refine dw_sk (d := (some 66)) rfl (by show ((!z6.no) == true) = false; rw [h1]; rfl) rfl ?_
    refine dw_sk (d := (some 67)) rfl (by show ((!z6.no) == true) = false; rw [h1]; rfl) rfl ?_
    refine dw_sk (d := (some 68)) rfl (by show ((!z6.no) == true) = false; rw [h1]; rfl) rfl ?_
    refine dw_sk (d := (some 69)) rfl (by show ((!z6.no) == true) = false; rw [h1]; rfl) rfl ?_
    refine dw_sk (d := (some 70)) rfl (by show ((!z6.no) == true) = false; rw [h1]; rfl) rfl ?_
    refine dw_sk (d := (some 71)) rfl (by show ((!z6.no) == true) = false; rw [h1]; rfl) rfl ?_
    refine dw_sk (d := (some 72)) rfl rfl rfl ?_
    refine dw_sk (d := (some 73)) rfl rfl rfl ?_
    refine dw_sk (d := (some 74)) rfl rfl rfl ?_
    refine dw_sk (d := (some 75)) rfl (by show ((!z6.no) == true) = false; rw [h1]; rfl) rfl ?_
    refine dw_sk (d := (some 76)) rfl (by show ((!z6.no) == true) = false; rw [h1]; rfl) rfl ?_
    refine dw_sk (d := (some 77)) rfl rfl rfl ?_
    refine dw_sk (d := (some 78)) rfl rfl rfl ?_
    refine dw_sk (d := (some 79)) rfl rfl rfl ?_
    refine dw_sk (d := (some 80)) rfl (by show ((!z6.no) == true) = false; rw [h1]; rfl) rfl ?_
    refine dw_gd (d := (some 81)) (.bool false) rfl (by show ((z6.hi != 0) == false) = true; rw [h3]; rfl) rfl (st_pkf' (b := !z6.no) (v := .bool false) (by rw [h1]; rfl) rfl rfl rfl ⟨rfl, rfl⟩) ?_
    refine dw_op (d := (some 82)) (.bool false) rfl rfl rfl (st_pkf' (b := z6.hi != 0) (v := .bool false) h3 rfl rfl rfl ⟨rfl, rfl⟩) ?_
    refine dw_op (d := (some 83)) (.bool false) rfl rfl rfl (st_move (v := .bool false) rfl rfl ⟨rfl, rfl⟩) ?_
    refine dw_gd (d := (some 84)) (.pointer (some ⟨g0, 2, none⟩)) rfl rfl rfl (st_fa (g := g0) (off := 0) rfl fa35_2 rfl ⟨rfl, rfl⟩) ?_
    refine dw_gd (d := (some 85)) (.bool z6.no) rfl rfl rfl (st_ldc (g := g0) (off := 2) (v := .bool z6.no) cell4 0 rfl rfl rfl rfl rfl ⟨rfl, rfl⟩) ?_
    refine dw_gd (d := (some 86)) (.agg #[.int .i64 z6.lo, .int .i64 z6.hi, .bool z6.no]) rfl rfl rfl (st_lda (g := g0) (off := 0) (vs := [.int .i64 z6.lo, .int .i64 z6.hi, .bool z6.no]) agg35 0 rfl rfl rfl rfl rfl rfl ⟨rfl, rfl⟩) ?_
    refine dw_gd (d := (some 87)) (.bool (rRight z6)) rfl rfl rfl (st_cf (vs := [.agg #[.int .i64 z6.lo, .int .i64 z6.hi, .bool z6.no]]) (r := .bool (rRight z6)) (c_rRight z6) Try.func57 rfl (by decide) rfl rfl rfl ⟨rfl, rfl⟩) ?_
    refine dw_gd (d := (some 88)) (.bool (z6.no == (rRight z6))) rfl rfl rfl (st_bi (u := .bool z6.no) (v := .bool (rRight z6)) (r := .bool (z6.no == (rRight z6))) rfl rfl rfl (bb_eql Try.underlying4 rfl) ⟨rfl, rfl⟩) ?_
    refine dw_op (d := (some 89)) (.bool (z6.no == (rRight z6))) rfl rfl rfl (st_pkf (v := .bool (z6.no == (rRight z6))) rfl rfl rfl ⟨rfl, rfl⟩) ?_
    refine dw_nil ?_
    refine ar_nil ?_
    refine bool_split (z6.no == (rRight z6)) (fun h4 => nomatch (show false = true from (show (ivBounds_r6 z0 z1 z2 z3 z4 z5 z6 z7 z8) = _ from (eT h1 (eF h2 (eF h3 (eT h4 rfl))))).symm.trans HG)) (fun h4 => ?_)
    refine ac_else' (b := z6.no == (rRight z6)) h4 rfl ?_
    refine ac_skip ?_
    refine ac_region_lit ?_
    refine ao 90 rfl rfl (st_bi (u := .int .i64 6) (v := .int .i64 1) (r := .int .i64 7) rfl rfl rfl (bi_add (by decide)) ?_)
    refine ao 46 rfl rfl (st_move (v := .int .i64 7) rfl rfl ?_)
    refine ar_nil ?_
    exact ar_dropR (List.Sublist.cons _ (List.Sublist.refl _)) (K _ rfl rfl rfl rfl rfl)
  · refine dw_sk (d := (some 52)) rfl (by show (z6.no == true) = false; rw [h1]; rfl) rfl ?_
    refine dw_sk (d := (some 53)) rfl (by show (z6.no == true) = false; rw [h1]; rfl) rfl ?_
    refine dw_sk (d := (some 54)) rfl (by show (z6.no == true) = false; rw [h1]; rfl) rfl ?_
    refine dw_sk (d := (some 55)) rfl (by show (z6.no == true) = false; rw [h1]; rfl) rfl ?_
    refine dw_sk (d := (some 56)) rfl rfl rfl ?_
    refine dw_sk (d := (some 57)) rfl rfl rfl ?_
    refine dw_sk (d := (some 58)) rfl rfl rfl ?_
    refine dw_sk (d := (some 59)) rfl (by show (z6.no == true) = false; rw [h1]; rfl) rfl ?_
    refine dw_op (d := (some 60)) (.bool false) rfl rfl rfl (st_pkf' (b := z6.no) (v := .bool false) h1 rfl rfl rfl ⟨rfl, rfl⟩) ?_
    refine dw_op (d := (some 61)) (.bool false) rfl rfl rfl (st_move (v := .bool false) rfl rfl ⟨rfl, rfl⟩) ?_
    refine dw_gd (d := (some 62)) (.pointer (some ⟨g0, 2, none⟩)) rfl rfl rfl (st_fa (g := g0) (off := 0) rfl fa35_2 rfl ⟨rfl, rfl⟩) ?_
    refine dw_gd (d := (some 63)) (.bool z6.no) rfl rfl rfl (st_ldc (g := g0) (off := 2) (v := .bool z6.no) cell4 0 rfl rfl rfl rfl rfl ⟨rfl, rfl⟩) ?_
    refine dw_gd (d := (some 64)) (.bool (!z6.no)) rfl rfl rfl (st_un (u := .bool z6.no) (v := .bool (!z6.no)) rfl rfl (un_not rfl) ⟨rfl, rfl⟩) ?_
    refine dw_gd (d := (some 65)) (.bool (!z6.no)) rfl rfl rfl (st_move (v := .bool (!z6.no)) rfl rfl ⟨rfl, rfl⟩) ?_
    refine dw_gd (d := (some 66)) (.pointer (some ⟨g0, 0, none⟩)) rfl (by show ((!z6.no) == true) = true; rw [h1]; rfl) rfl (st_fa (g := g0) (off := 0) rfl fa35_0 rfl ⟨rfl, rfl⟩) ?_
    refine dw_gd (d := (some 67)) (.int .i64 z6.lo) rfl (by show ((!z6.no) == true) = true; rw [h1]; rfl) rfl (st_ldc (g := g0) (off := 0) (v := .int .i64 z6.lo) cell3 0 rfl rfl rfl rfl rfl ⟨rfl, rfl⟩) ?_
    refine dw_gd (d := (some 68)) (.pointer (some ⟨g0, 1, none⟩)) rfl (by show ((!z6.no) == true) = true; rw [h1]; rfl) rfl (st_fa (g := g0) (off := 0) rfl fa35_1 rfl ⟨rfl, rfl⟩) ?_
    refine dw_gd (d := (some 69)) (.int .i64 z6.hi) rfl (by show ((!z6.no) == true) = true; rw [h1]; rfl) rfl (st_ldc (g := g0) (off := 1) (v := .int .i64 z6.hi) cell3 0 rfl rfl rfl rfl rfl ⟨rfl, rfl⟩) ?_
    refine dw_gd (d := (some 70)) (.bool (decide (z6.lo > z6.hi))) rfl (by show ((!z6.no) == true) = true; rw [h1]; rfl) rfl (st_bi (u := .int .i64 z6.lo) (v := .int .i64 z6.hi) (r := .bool (decide (z6.lo > z6.hi))) rfl rfl rfl (bi_gtr rfl) ⟨rfl, rfl⟩) ?_
    refine dw_gd (d := (some 71)) (.bool (decide (z6.lo > z6.hi))) rfl (by show ((!z6.no) == true) = true; rw [h1]; rfl) rfl (st_move (v := .bool (decide (z6.lo > z6.hi))) rfl rfl ⟨rfl, rfl⟩) ?_
    refine bool_split (decide (z6.lo > z6.hi)) (fun h2 => nomatch (show false = true from (show (ivBounds_r6 z0 z1 z2 z3 z4 z5 z6 z7 z8) = _ from (eF h1 (eT h2 rfl))).symm.trans HG)) (fun h2 => ?_)
    refine dw_gd (d := (some 72)) (.pointer (some ⟨g0, 0, none⟩)) rfl (by show ((decide (z6.lo > z6.hi)) == false) = true; rw [h2]; rfl) rfl (st_fa (g := g0) (off := 0) rfl fa35_0 rfl ⟨rfl, rfl⟩) ?_
    refine dw_gd (d := (some 73)) (.int .i64 z6.lo) rfl (by show ((decide (z6.lo > z6.hi)) == false) = true; rw [h2]; rfl) rfl (st_ldc (g := g0) (off := 0) (v := .int .i64 z6.lo) cell3 0 rfl rfl rfl rfl rfl ⟨rfl, rfl⟩) ?_
    refine dw_gd (d := (some 74)) (.bool (decide (z6.lo < (-1073741824)))) rfl (by show ((decide (z6.lo > z6.hi)) == false) = true; rw [h2]; rfl) rfl (st_bi (u := .int .i64 z6.lo) (v := .int .i64 (-1073741824)) (r := .bool (decide (z6.lo < (-1073741824)))) rfl rfl rfl (bi_lss rfl) ⟨rfl, rfl⟩) ?_
    refine dw_gd (d := (some 75)) (.bool (decide (z6.lo < (-1073741824)))) rfl (by show ((!z6.no) == true) = true; rw [h1]; rfl) rfl (st_pkf' (b := decide (z6.lo > z6.hi)) (v := .bool (decide (z6.lo < (-1073741824)))) h2 rfl rfl rfl ⟨rfl, rfl⟩) ?_
    refine dw_gd (d := (some 76)) (.bool (decide (z6.lo < (-1073741824)))) rfl (by show ((!z6.no) == true) = true; rw [h1]; rfl) rfl (st_move (v := .bool (decide (z6.lo < (-1073741824)))) rfl rfl ⟨rfl, rfl⟩) ?_
    refine bool_split (decide (z6.lo < (-1073741824))) (fun h3 => nomatch (show false = true from (show (ivBounds_r6 z0 z1 z2 z3 z4 z5 z6 z7 z8) = _ from (eF h1 (eF h2 (eT h3 rfl)))).symm.trans HG)) (fun h3 => ?_)
    refine dw_gd (d := (some 77)) (.pointer (some ⟨g0, 1, none⟩)) rfl (by show ((decide (z6.lo < (-1073741824))) == false) = true; rw [h3]; rfl) rfl (st_fa (g := g0) (off := 0) rfl fa35_1 rfl ⟨rfl, rfl⟩) ?_
    refine dw_gd (d := (some 78)) (.int .i64 z6.hi) rfl (by show ((decide (z6.lo < (-1073741824))) == false) = true; rw [h3]; rfl) rfl (st_ldc (g := g0) (off := 1) (v := .int .i64 z6.hi) cell3 0 rfl rfl rfl rfl rfl ⟨rfl, rfl⟩) ?_
    refine dw_gd (d := (some 79)) (.bool (decide (z6.hi > 1073741824))) rfl (by show ((decide (z6.lo < (-1073741824))) == false) = true; rw [h3]; rfl) rfl (st_bi (u := .int .i64 z6.hi) (v := .int .i64 1073741824) (r := .bool (decide (z6.hi > 1073741824))) rfl rfl rfl (bi_gtr rfl) ⟨rfl, rfl⟩) ?_
    refine dw_gd (d := (some 80)) (.bool (decide (z6.hi > 1073741824))) rfl (by show ((!z6.no) == true) = true; rw [h1]; rfl) rfl (st_pkf' (b := decide (z6.lo < (-1073741824))) (v := .bool (decide (z6.hi > 1073741824))) h3 rfl rfl rfl ⟨rfl, rfl⟩) ?_
    refine dw_gd (d := (some 81)) (.bool (decide (z6.hi > 1073741824))) rfl rfl rfl (st_pkt' (b := !z6.no) (v := .bool (decide (z6.hi > 1073741824))) (by rw [h1]; rfl) rfl rfl rfl ⟨rfl, rfl⟩) ?_
    refine dw_op (d := (some 82)) (.bool (decide (z6.hi > 1073741824))) rfl rfl rfl (st_pkf (v := .bool (decide (z6.hi > 1073741824))) rfl rfl rfl ⟨rfl, rfl⟩) ?_
    refine dw_op (d := (some 83)) (.bool (decide (z6.hi > 1073741824))) rfl rfl rfl (st_move (v := .bool (decide (z6.hi > 1073741824))) rfl rfl ⟨rfl, rfl⟩) ?_
    refine bool_split (decide (z6.hi > 1073741824)) (fun h4 => nomatch (show false = true from (show (ivBounds_r6 z0 z1 z2 z3 z4 z5 z6 z7 z8) = _ from (eF h1 (eF h2 (eF h3 (eT h4 rfl))))).symm.trans HG)) (fun h4 => ?_)
    refine dw_gd (d := (some 84)) (.pointer (some ⟨g0, 2, none⟩)) rfl (by show ((decide (z6.hi > 1073741824)) == false) = true; rw [h4]; rfl) rfl (st_fa (g := g0) (off := 0) rfl fa35_2 rfl ⟨rfl, rfl⟩) ?_
    refine dw_gd (d := (some 85)) (.bool z6.no) rfl (by show ((decide (z6.hi > 1073741824)) == false) = true; rw [h4]; rfl) rfl (st_ldc (g := g0) (off := 2) (v := .bool z6.no) cell4 0 rfl rfl rfl rfl rfl ⟨rfl, rfl⟩) ?_
    refine dw_gd (d := (some 86)) (.agg #[.int .i64 z6.lo, .int .i64 z6.hi, .bool z6.no]) rfl (by show ((decide (z6.hi > 1073741824)) == false) = true; rw [h4]; rfl) rfl (st_lda (g := g0) (off := 0) (vs := [.int .i64 z6.lo, .int .i64 z6.hi, .bool z6.no]) agg35 0 rfl rfl rfl rfl rfl rfl ⟨rfl, rfl⟩) ?_
    refine dw_gd (d := (some 87)) (.bool (rRight z6)) rfl (by show ((decide (z6.hi > 1073741824)) == false) = true; rw [h4]; rfl) rfl (st_cf (vs := [.agg #[.int .i64 z6.lo, .int .i64 z6.hi, .bool z6.no]]) (r := .bool (rRight z6)) (c_rRight z6) Try.func57 rfl (by decide) rfl rfl rfl ⟨rfl, rfl⟩) ?_
    refine dw_gd (d := (some 88)) (.bool (z6.no == (rRight z6))) rfl (by show ((decide (z6.hi > 1073741824)) == false) = true; rw [h4]; rfl) rfl (st_bi (u := .bool z6.no) (v := .bool (rRight z6)) (r := .bool (z6.no == (rRight z6))) rfl rfl rfl (bb_eql Try.underlying4 rfl) ⟨rfl, rfl⟩) ?_
    refine dw_op (d := (some 89)) (.bool (z6.no == (rRight z6))) rfl rfl rfl (st_pkf' (b := decide (z6.hi > 1073741824)) (v := .bool (z6.no == (rRight z6))) h4 rfl rfl rfl ⟨rfl, rfl⟩) ?_
    refine dw_nil ?_
    refine ar_nil ?_
    refine bool_split (z6.no == (rRight z6)) (fun h5 => nomatch (show false = true from (show (ivBounds_r6 z0 z1 z2 z3 z4 z5 z6 z7 z8) = _ from (eF h1 (eF h2 (eF h3 (eF h4 (eT h5 rfl)))))).symm.trans HG)) (fun h5 => ?_)
    refine ac_else' (b := z6.no == (rRight z6)) h5 rfl ?_
    refine ac_skip ?_
    refine ac_region_lit ?_
    refine ao 90 rfl rfl (st_bi (u := .int .i64 6) (v := .int .i64 1) (r := .int .i64 7) rfl rfl rfl (bi_add (by decide)) ?_)
    refine ao 46 rfl rfl (st_move (v := .int .i64 7) rfl rfl ?_)
    refine ar_nil ?_
    exact ar_dropR (List.Sublist.cons _ (List.Sublist.refl _)) (K _ rfl rfl rfl rfl rfl)
def ivBounds_r7 (z0 : Iv) (z1 : Iv) (z2 : Iv) (z3 : Iv) (z4 : Iv) (z5 : Iv) (z6 : Iv) (z7 : Iv) (z8 : Iv) : Bool := (bif z7.no then (bif z7.lo != 0 then false else (bif z7.hi != 0 then false else (bif z7.no == (rRight z7) then false else true))) else (bif decide (z7.lo > z7.hi) then false else (bif decide (z7.lo < (-1073741824)) then false else (bif decide (z7.hi > 1073741824) then false else (bif z7.no == (rRight z7) then false else true)))))
set_option maxRecDepth 100000 in
theorem c_ivBounds_r7 (z0 : Iv) (z1 : Iv) (z2 : Iv) (z3 : Iv) (z4 : Iv) (z5 : Iv) (z6 : Iv) (z7 : Iv) (z8 : Iv) {v11 v12 : Value} {Q : Exit → Env → List Box → Prop} {H0 : List Box} {E : Env} {c : Code} {k : Nat} (hc : Try.f13.body.bind loopOf = some c) (q10 : E 10 = .bool false) (q45 : E 45 = .agg #[.int .i64 z0.lo, .int .i64 z0.hi, .bool z0.no, .int .i64 z1.lo, .int .i64 z1.hi, .bool z1.no, .int .i64 z2.lo, .int .i64 z2.hi, .bool z2.no, .int .i64 z3.lo, .int .i64 z3.hi, .bool z3.no, .int .i64 z4.lo, .int .i64 z4.hi, .bool z4.no, .int .i64 z5.lo, .int .i64 z5.hi, .bool z5.no, .int .i64 z6.lo, .int .i64 z6.hi, .bool z6.no, .int .i64 z7.lo, .int .i64 z7.hi, .bool z7.no, .int .i64 z8.lo, .int .i64 z8.hi, .bool z8.no]) (q46 : E 46 = .int .i64 7) (l11 : E 11 = v11) (l12 : E 12 = v12) (HG : (ivBounds_r7 z0 z1 z2 z3 z4 z5 z6 z7 z8) = true) (K : ∀ E' : Env, E' 10 = .bool false → E' 45 = .agg #[.int .i64 z0.lo, .int .i64 z0.hi, .bool z0.no, .int .i64 z1.lo, .int .i64 z1.hi, .bool z1.no, .int .i64 z2.lo, .int .i64 z2.hi, .bool z2.no, .int .i64 z3.lo, .int .i64 z3.hi, .bool z3.no, .int .i64 z4.lo, .int .i64 z4.hi, .bool z4.no, .int .i64 z5.lo, .int .i64 z5.hi, .bool z5.no, .int .i64 z6.lo, .int .i64 z6.hi, .bool z6.no, .int .i64 z7.lo, .int .i64 z7.hi, .bool z7.no, .int .i64 z8.lo, .int .i64 z8.hi, .bool z8.no] → E' 46 = .int .i64 8 → E' 11 = v11 → E' 12 = v12 → ARounds Try.prog 118 c Q k E' H0) : ARounds Try.prog 118 c Q (k + 1) E H0 := by
  rw [show Try.f13.body.bind loopOf = some _ from rfl] at hc
  cases hc
  obtain ⟨E0, rfl⟩ : ∃ E0 : Env, E = (((((E0.put (some 10) (.bool false)).put (some 45) (.agg #[.int .i64 z0.lo, .int .i64 z0.hi, .bool z0.no, .int .i64 z1.lo, .int .i64 z1.hi, .bool z1.no, .int .i64 z2.lo, .int .i64 z2.hi, .bool z2.no, .int .i64 z3.lo, .int .i64 z3.hi, .bool z3.no, .int .i64 z4.lo, .int .i64 z4.hi, .bool z4.no, .int .i64 z5.lo, .int .i64 z5.hi, .bool z5.no, .int .i64 z6.lo, .int .i64 z6.hi, .bool z6.no, .int .i64 z7.lo, .int .i64 z7.hi, .bool z7.no, .int .i64 z8.lo, .int .i64 z8.hi, .bool z8.no])).put (some 46) (.int .i64 7)).put (some 11) v11).put (some 12) v12) := ⟨E, by rw [put_self q10, put_self q45, put_self q46, put_self l11, put_self l12]⟩
  refine ar_round ?_
  refine ac_seq ?_
  refine ac_region_lit ?_
  refine ao 47 rfl rfl (st_bi (u := .int .i64 7) (v := .int .i64 9) (r := .bool true) rfl rfl rfl (bi_lss (by decide)) ?_)
  refine ar_nil ?_
  refine ac_seq ?_
  refine ac_then rfl ?_
  refine ac_skip ?_
  refine ac_seq ?_
  refine ac_block ?_
  refine ac_seq ?_
  refine ac_region_lit ?_
  refine ao 48 rfl rfl (st_ix (u := .agg #[.int .i64 z0.lo, .int .i64 z0.hi, .bool z0.no, .int .i64 z1.lo, .int .i64 z1.hi, .bool z1.no, .int .i64 z2.lo, .int .i64 z2.hi, .bool z2.no, .int .i64 z3.lo, .int .i64 z3.hi, .bool z3.no, .int .i64 z4.lo, .int .i64 z4.hi, .bool z4.no, .int .i64 z5.lo, .int .i64 z5.hi, .bool z5.no, .int .i64 z6.lo, .int .i64 z6.hi, .bool z6.no, .int .i64 z7.lo, .int .i64 z7.hi, .bool z7.no, .int .i64 z8.lo, .int .i64 z8.hi, .bool z8.no]) (i := .int .i64 7) (v := .agg #[.int .i64 z7.lo, .int .i64 z7.hi, .bool z7.no]) rfl rfl rfl (ix52_7 _ _ _ _ _ _ _ _ _ _ _ _ _ _ _ _ _ _ _ _ _ _ _ _ _ _ _) ?_)
  refine ao 14 rfl rfl (st_new zero35 rfl fun g0 => ?_)
  refine ar_op (d := none) rfl rfl (st_sta (g := g0) (off := 0) (us := [.int .i64 z7.lo, .int .i64 z7.hi, .bool z7.no]) (cs := [.int .i64 z7.lo, .int .i64 z7.hi, .bool z7.no]) agg35 0 rfl rfl rfl rfl rfl rfl rfl rfl rfl ?_)
  refine ar_nil ?_
  refine ac_seq ?_
  refine ac_draw0 (id := 6) [0, 1, 2, 3, 4, 5, 6, 7, 8, 9, 10, 11, 12, 13, 14, 15, 16, 17, 18, 19, 20, 21, 22, 23, 24, 25, 26, 27, 28, 29, 30, 31, 32, 33, 34, 35, 36, 37, 38, 39, 40] [] _ (by kernel_rfl) follows rfl  ?_
  refine dw_op (d := (some 49)) (.pointer (some ⟨g0, 2, none⟩)) rfl rfl rfl (st_fa (g := g0) (off := 0) rfl fa35_2 rfl ⟨rfl, rfl⟩) ?_
  refine dw_op (d := (some 50)) (.bool z7.no) rfl rfl rfl (st_ldc (g := g0) (off := 2) (v := .bool z7.no) cell4 0 rfl rfl rfl rfl rfl ⟨rfl, rfl⟩) ?_
  refine dw_op (d := (some 51)) (.bool z7.no) rfl rfl rfl (st_move (v := .bool z7.no) rfl rfl ⟨rfl, rfl⟩) ?_
  refine bool_split (z7.no) (fun h1 => ?_) (fun h1 => ?_)
  · refine dw_gd (d := (some 52)) (.pointer (some ⟨g0, 0, none⟩)) rfl (by show (z7.no == true) = true; rw [h1]; rfl) rfl (st_fa (g := g0) (off := 0) rfl fa35_0 rfl ⟨rfl, rfl⟩) ?_
    refine dw_gd (d := (some 53)) (.int .i64 z7.lo) rfl (by show (z7.no == true) = true; rw [h1]; rfl) rfl (st_ldc (g := g0) (off := 0) (v := .int .i64 z7.lo) cell3 0 rfl rfl rfl rfl rfl ⟨rfl, rfl⟩) ?_
    refine dw_gd (d := (some 54)) (.bool (z7.lo != 0)) rfl (by show (z7.no == true) = true; rw [h1]; rfl) rfl (st_bi (u := .int .i64 z7.lo) (v := .int .i64 0) (r := .bool (z7.lo != 0)) rfl rfl rfl (bi_neq rfl) ⟨rfl, rfl⟩) ?_
    refine dw_gd (d := (some 55)) (.bool (z7.lo != 0)) rfl (by show (z7.no == true) = true; rw [h1]; rfl) rfl (st_move (v := .bool (z7.lo != 0)) rfl rfl ⟨rfl, rfl⟩) ?_
    refine bool_split (z7.lo != 0) (fun h2 => nomatch (show false = true from (show (ivBounds_r7 z0 z1 z2 z3 z4 z5 z6 z7 z8) = _ from (eT h1 (eT h2 rfl))).symm.trans HG)) (fun h2 => ?_)
    refine dw_gd (d := (some 56)) (.pointer (some ⟨g0, 1, none⟩)) rfl (by show ((z7.lo != 0) == false) = true; rw [h2]; rfl) rfl (st_fa (g := g0) (off := 0) rfl fa35_1 rfl ⟨rfl, rfl⟩) ?_
    refine dw_gd (d := (some 57)) (.int .i64 z7.hi) rfl (by show ((z7.lo != 0) == false) = true; rw [h2]; rfl) rfl (st_ldc (g := g0) (off := 1) (v := .int .i64 z7.hi) cell3 0 rfl rfl rfl rfl rfl ⟨rfl, rfl⟩) ?_
    refine dw_gd (d := (some 58)) (.bool (z7.hi != 0)) rfl (by show ((z7.lo != 0) == false) = true; rw [h2]; rfl) rfl (st_bi (u := .int .i64 z7.hi) (v := .int .i64 0) (r := .bool (z7.hi != 0)) rfl rfl rfl (bi_neq rfl) ⟨rfl, rfl⟩) ?_
    refine dw_gd (d := (some 59)) (.bool (z7.hi != 0)) rfl (by show (z7.no == true) = true; rw [h1]; rfl) rfl (st_pkf' (b := z7.lo != 0) (v := .bool (z7.hi != 0)) h2 rfl rfl rfl ⟨rfl, rfl⟩) ?_
    refine dw_op (d := (some 60)) (.bool (z7.hi != 0)) rfl rfl rfl (st_pkt' (b := z7.no) (v := .bool (z7.hi != 0)) h1 rfl rfl rfl ⟨rfl, rfl⟩) ?_
    refine dw_op (d := (some 61)) (.bool (z7.hi != 0)) rfl rfl rfl (st_move (v := .bool (z7.hi != 0)) rfl rfl ⟨rfl, rfl⟩) ?_
    refine bool_split (z7.hi != 0) (fun h3 => nomatch (show false = true from (show (ivBounds_r7 z0 z1 z2 z3 z4 z5 z6 z7 z8) = _ from (eT h1 (eF h2 (eT h3 rfl)))).symm.trans HG)) (fun h3 => ?_)
    refine dw_gd (d := (some 62)) (.pointer (some ⟨g0, 2, none⟩)) rfl (by show ((z7.hi != 0) == false) = true; rw [h3]; rfl) rfl (st_fa (g := g0) (off := 0) rfl fa35_2 rfl ⟨rfl, rfl⟩) ?_
    refine dw_gd (d := (some 63)) (.bool z7.no) rfl (by show ((z7.hi != 0) == false) = true; rw [h3]; rfl) rfl (st_ldc (g := g0) (off := 2) (v := .bool z7.no) cell4 0 rfl rfl rfl rfl rfl ⟨rfl, rfl⟩) ?_
    refine dw_gd (d := (some 64)) (.bool (!z7.no)) rfl (by show ((z7.hi != 0) == false) = true; rw [h3]; rfl) rfl (st_un (u := .bool z7.no) (v := .bool (!z7.no)) rfl rfl (un_not rfl) ⟨rfl, rfl⟩) ?_
    refine dw_gd (d := (some 65)) (.bool (!z7.no)) rfl (by show ((z7.hi != 0) == false) = true; rw [h3]; rfl) rfl (st_move (v := .bool (!z7.no)) rfl rfl ⟨rfl, rfl⟩) ?_
    refine dw_sk (d := (some 66)) rfl (by show ((!z7.no) == true) = false; rw [h1]; rfl) rfl ?_
    refine dw_sk (d := (some 67)) rfl (by show ((!z7.no) == true) = false; rw [h1]; rfl) rfl ?_
    refine dw_sk (d := (some 68)) rfl (by show ((!z7.no) == true) = false; rw [h1]; rfl) rfl ?_
    refine dw_sk (d := (some 69)) rfl (by show ((!z7.no) == true) = false; rw [h1]; rfl) rfl ?_
    refine dw_sk (d := (some 70)) rfl (by show ((!z7.no) == true) = false; rw [h1]; rfl) rfl ?_
    refine dw_sk (d := (some 71)) rfl (by show ((!z7.no) == true) = false; rw [h1]; rfl) rfl ?_
    refine dw_sk (d := (some 72)) rfl rfl rfl ?_
    refine dw_sk (d := (some 73)) rfl rfl rfl ?_
    refine dw_sk (d := (some 74)) rfl rfl rfl ?_
    refine dw_sk (d := (some 75)) rfl (by show ((!z7.no) == true) = false; rw [h1]; rfl) rfl ?_
    refine dw_sk (d := (some 76)) rfl (by show ((!z7.no) == true) = false; rw [h1]; rfl) rfl ?_
    refine dw_sk (d := (some 77)) rfl rfl rfl ?_
    refine dw_sk (d := (some 78)) rfl rfl rfl ?_
    refine dw_sk (d := (some 79)) rfl rfl rfl ?_
    refine dw_sk (d := (some 80)) rfl (by show ((!z7.no) == true) = false; rw [h1]; rfl) rfl ?_
    refine dw_gd (d := (some 81)) (.bool false) rfl (by show ((z7.hi != 0) == false) = true; rw [h3]; rfl) rfl (st_pkf' (b := !z7.no) (v := .bool false) (by rw [h1]; rfl) rfl rfl rfl ⟨rfl, rfl⟩) ?_
    refine dw_op (d := (some 82)) (.bool false) rfl rfl rfl (st_pkf' (b := z7.hi != 0) (v := .bool false) h3 rfl rfl rfl ⟨rfl, rfl⟩) ?_
    refine dw_op (d := (some 83)) (.bool false) rfl rfl rfl (st_move (v := .bool false) rfl rfl ⟨rfl, rfl⟩) ?_
    refine dw_gd (d := (some 84)) (.pointer (some ⟨g0, 2, none⟩)) rfl rfl rfl (st_fa (g := g0) (off := 0) rfl fa35_2 rfl ⟨rfl, rfl⟩) ?_
    refine dw_gd (d := (some 85)) (.bool z7.no) rfl rfl rfl (st_ldc (g := g0) (off := 2) (v := .bool z7.no) cell4 0 rfl rfl rfl rfl rfl ⟨rfl, rfl⟩) ?_
    refine dw_gd (d := (some 86)) (.agg #[.int .i64 z7.lo, .int .i64 z7.hi, .bool z7.no]) rfl rfl rfl (st_lda (g := g0) (off := 0) (vs := [.int .i64 z7.lo, .int .i64 z7.hi, .bool z7.no]) agg35 0 rfl rfl rfl rfl rfl rfl ⟨rfl, rfl⟩) ?_
    refine dw_gd (d := (some 87)) (.bool (rRight z7)) rfl rfl rfl (st_cf (vs := [.agg #[.int .i64 z7.lo, .int .i64 z7.hi, .bool z7.no]]) (r := .bool (rRight z7)) (c_rRight z7) Try.func57 rfl (by decide) rfl rfl rfl ⟨rfl, rfl⟩) ?_
    refine dw_gd (d := (some 88)) (.bool (z7.no == (rRight z7))) rfl rfl rfl (st_bi (u := .bool z7.no) (v := .bool (rRight z7)) (r := .bool (z7.no == (rRight z7))) rfl rfl rfl (bb_eql Try.underlying4 rfl) ⟨rfl, rfl⟩) ?_
    refine dw_op (d := (some 89)) (.bool (z7.no == (rRight z7))) rfl rfl rfl (st_pkf (v := .bool (z7.no == (rRight z7))) rfl rfl rfl ⟨rfl, rfl⟩) ?_
    refine dw_nil ?_
    refine ar_nil ?_
    refine bool_split (z7.no == (rRight z7)) (fun h4 => nomatch (show false = true from (show (ivBounds_r7 z0 z1 z2 z3 z4 z5 z6 z7 z8) = _ from (eT h1 (eF h2 (eF h3 (eT h4 rfl))))).symm.trans HG)) (fun h4 => ?_)
    refine ac_else' (b := z7.no == (rRight z7)) h4 rfl ?_
    refine ac_skip ?_
    refine ac_region_lit ?_
    refine ao 90 rfl rfl (st_bi (u := .int .i64 7) (v := .int .i64 1) (r := .int .i64 8) rfl rfl rfl (bi_add (by decide)) ?_)
    refine ao 46 rfl rfl (st_move (v := .int .i64 8) rfl rfl ?_)
    refine ar_nil ?_
    exact ar_dropR (List.Sublist.cons _ (List.Sublist.refl _)) (K _ rfl rfl rfl rfl rfl)
  · refine dw_sk (d := (some 52)) rfl (by show (z7.no == true) = false; rw [h1]; rfl) rfl ?_
    refine dw_sk (d := (some 53)) rfl (by show (z7.no == true) = false; rw [h1]; rfl) rfl ?_
    refine dw_sk (d := (some 54)) rfl (by show (z7.no == true) = false; rw [h1]; rfl) rfl ?_
    refine dw_sk (d := (some 55)) rfl (by show (z7.no == true) = false; rw [h1]; rfl) rfl ?_
    refine dw_sk (d := (some 56)) rfl rfl rfl ?_
    refine dw_sk (d := (some 57)) rfl rfl rfl ?_
    refine dw_sk (d := (some 58)) rfl rfl rfl ?_
    refine dw_sk (d := (some 59)) rfl (by show (z7.no == true) = false; rw [h1]; rfl) rfl ?_
    refine dw_op (d := (some 60)) (.bool false) rfl rfl rfl (st_pkf' (b := z7.no) (v := .bool false) h1 rfl rfl rfl ⟨rfl, rfl⟩) ?_
    refine dw_op (d := (some 61)) (.bool false) rfl rfl rfl (st_move (v := .bool false) rfl rfl ⟨rfl, rfl⟩) ?_
    refine dw_gd (d := (some 62)) (.pointer (some ⟨g0, 2, none⟩)) rfl rfl rfl (st_fa (g := g0) (off := 0) rfl fa35_2 rfl ⟨rfl, rfl⟩) ?_
    refine dw_gd (d := (some 63)) (.bool z7.no) rfl rfl rfl (st_ldc (g := g0) (off := 2) (v := .bool z7.no) cell4 0 rfl rfl rfl rfl rfl ⟨rfl, rfl⟩) ?_
    refine dw_gd (d := (some 64)) (.bool (!z7.no)) rfl rfl rfl (st_un (u := .bool z7.no) (v := .bool (!z7.no)) rfl rfl (un_not rfl) ⟨rfl, rfl⟩) ?_
    refine dw_gd (d := (some 65)) (.bool (!z7.no)) rfl rfl rfl (st_move (v := .bool (!z7.no)) rfl rfl ⟨rfl, rfl⟩) ?_
    refine dw_gd (d := (some 66)) (.pointer (some ⟨g0, 0, none⟩)) rfl (by show ((!z7.no) == true) = true; rw [h1]; rfl) rfl (st_fa (g := g0) (off := 0) rfl fa35_0 rfl ⟨rfl, rfl⟩) ?_
    refine dw_gd (d := (some 67)) (.int .i64 z7.lo) rfl (by show ((!z7.no) == true) = true; rw [h1]; rfl) rfl (st_ldc (g := g0) (off := 0) (v := .int .i64 z7.lo) cell3 0 rfl rfl rfl rfl rfl ⟨rfl, rfl⟩) ?_
    refine dw_gd (d := (some 68)) (.pointer (some ⟨g0, 1, none⟩)) rfl (by show ((!z7.no) == true) = true; rw [h1]; rfl) rfl (st_fa (g := g0) (off := 0) rfl fa35_1 rfl ⟨rfl, rfl⟩) ?_
    refine dw_gd (d := (some 69)) (.int .i64 z7.hi) rfl (by show ((!z7.no) == true) = true; rw [h1]; rfl) rfl (st_ldc (g := g0) (off := 1) (v := .int .i64 z7.hi) cell3 0 rfl rfl rfl rfl rfl ⟨rfl, rfl⟩) ?_
    refine dw_gd (d := (some 70)) (.bool (decide (z7.lo > z7.hi))) rfl (by show ((!z7.no) == true) = true; rw [h1]; rfl) rfl (st_bi (u := .int .i64 z7.lo) (v := .int .i64 z7.hi) (r := .bool (decide (z7.lo > z7.hi))) rfl rfl rfl (bi_gtr rfl) ⟨rfl, rfl⟩) ?_
    refine dw_gd (d := (some 71)) (.bool (decide (z7.lo > z7.hi))) rfl (by show ((!z7.no) == true) = true; rw [h1]; rfl) rfl (st_move (v := .bool (decide (z7.lo > z7.hi))) rfl rfl ⟨rfl, rfl⟩) ?_
    refine bool_split (decide (z7.lo > z7.hi)) (fun h2 => nomatch (show false = true from (show (ivBounds_r7 z0 z1 z2 z3 z4 z5 z6 z7 z8) = _ from (eF h1 (eT h2 rfl))).symm.trans HG)) (fun h2 => ?_)
    refine dw_gd (d := (some 72)) (.pointer (some ⟨g0, 0, none⟩)) rfl (by show ((decide (z7.lo > z7.hi)) == false) = true; rw [h2]; rfl) rfl (st_fa (g := g0) (off := 0) rfl fa35_0 rfl ⟨rfl, rfl⟩) ?_
    refine dw_gd (d := (some 73)) (.int .i64 z7.lo) rfl (by show ((decide (z7.lo > z7.hi)) == false) = true; rw [h2]; rfl) rfl (st_ldc (g := g0) (off := 0) (v := .int .i64 z7.lo) cell3 0 rfl rfl rfl rfl rfl ⟨rfl, rfl⟩) ?_
    refine dw_gd (d := (some 74)) (.bool (decide (z7.lo < (-1073741824)))) rfl (by show ((decide (z7.lo > z7.hi)) == false) = true; rw [h2]; rfl) rfl (st_bi (u := .int .i64 z7.lo) (v := .int .i64 (-1073741824)) (r := .bool (decide (z7.lo < (-1073741824)))) rfl rfl rfl (bi_lss rfl) ⟨rfl, rfl⟩) ?_
    refine dw_gd (d := (some 75)) (.bool (decide (z7.lo < (-1073741824)))) rfl (by show ((!z7.no) == true) = true; rw [h1]; rfl) rfl (st_pkf' (b := decide (z7.lo > z7.hi)) (v := .bool (decide (z7.lo < (-1073741824)))) h2 rfl rfl rfl ⟨rfl, rfl⟩) ?_
    refine dw_gd (d := (some 76)) (.bool (decide (z7.lo < (-1073741824)))) rfl (by show ((!z7.no) == true) = true; rw [h1]; rfl) rfl (st_move (v := .bool (decide (z7.lo < (-1073741824)))) rfl rfl ⟨rfl, rfl⟩) ?_
    refine bool_split (decide (z7.lo < (-1073741824))) (fun h3 => nomatch (show false = true from (show (ivBounds_r7 z0 z1 z2 z3 z4 z5 z6 z7 z8) = _ from (eF h1 (eF h2 (eT h3 rfl)))).symm.trans HG)) (fun h3 => ?_)
    refine dw_gd (d := (some 77)) (.pointer (some ⟨g0, 1, none⟩)) rfl (by show ((decide (z7.lo < (-1073741824))) == false) = true; rw [h3]; rfl) rfl (st_fa (g := g0) (off := 0) rfl fa35_1 rfl ⟨rfl, rfl⟩) ?_
    refine dw_gd (d := (some 78)) (.int .i64 z7.hi) rfl (by show ((decide (z7.lo < (-1073741824))) == false) = true; rw [h3]; rfl) rfl (st_ldc (g := g0) (off := 1) (v := .int .i64 z7.hi) cell3 0 rfl rfl rfl rfl rfl ⟨rfl, rfl⟩) ?_
    refine dw_gd (d := (some 79)) (.bool (decide (z7.hi > 1073741824))) rfl (by show ((decide (z7.lo < (-1073741824))) == false) = true; rw [h3]; rfl) rfl (st_bi (u := .int .i64 z7.hi) (v := .int .i64 1073741824) (r := .bool (decide (z7.hi > 1073741824))) rfl rfl rfl (bi_gtr rfl) ⟨rfl, rfl⟩) ?_
    refine dw_gd (d := (some 80)) (.bool (decide (z7.hi > 1073741824))) rfl (by show ((!z7.no) == true) = true; rw [h1]; rfl) rfl (st_pkf' (b := decide (z7.lo < (-1073741824))) (v := .bool (decide (z7.hi > 1073741824))) h3 rfl rfl rfl ⟨rfl, rfl⟩) ?_
    refine dw_gd (d := (some 81)) (.bool (decide (z7.hi > 1073741824))) rfl rfl rfl (st_pkt' (b := !z7.no) (v := .bool (decide (z7.hi > 1073741824))) (by rw [h1]; rfl) rfl rfl rfl ⟨rfl, rfl⟩) ?_
    refine dw_op (d := (some 82)) (.bool (decide (z7.hi > 1073741824))) rfl rfl rfl (st_pkf (v := .bool (decide (z7.hi > 1073741824))) rfl rfl rfl ⟨rfl, rfl⟩) ?_
    refine dw_op (d := (some 83)) (.bool (decide (z7.hi > 1073741824))) rfl rfl rfl (st_move (v := .bool (decide (z7.hi > 1073741824))) rfl rfl ⟨rfl, rfl⟩) ?_
    refine bool_split (decide (z7.hi > 1073741824)) (fun h4 => nomatch (show false = true from (show (ivBounds_r7 z0 z1 z2 z3 z4 z5 z6 z7 z8) = _ from (eF h1 (eF h2 (eF h3 (eT h4 rfl))))).symm.trans HG)) (fun h4 => ?_)
    refine dw_gd (d := (some 84)) (.pointer (some ⟨g0, 2, none⟩)) rfl (by show ((decide (z7.hi > 1073741824)) == false) = true; rw [h4]; rfl) rfl (st_fa (g := g0) (off := 0) rfl fa35_2 rfl ⟨rfl, rfl⟩) ?_
    refine dw_gd (d := (some 85)) (.bool z7.no) rfl (by show ((decide (z7.hi > 1073741824)) == false) = true; rw [h4]; rfl) rfl (st_ldc (g := g0) (off := 2) (v := .bool z7.no) cell4 0 rfl rfl rfl rfl rfl ⟨rfl, rfl⟩) ?_
    refine dw_gd (d := (some 86)) (.agg #[.int .i64 z7.lo, .int .i64 z7.hi, .bool z7.no]) rfl (by show ((decide (z7.hi > 1073741824)) == false) = true; rw [h4]; rfl) rfl (st_lda (g := g0) (off := 0) (vs := [.int .i64 z7.lo, .int .i64 z7.hi, .bool z7.no]) agg35 0 rfl rfl rfl rfl rfl rfl ⟨rfl, rfl⟩) ?_
    refine dw_gd (d := (some 87)) (.bool (rRight z7)) rfl (by show ((decide (z7.hi > 1073741824)) == false) = true; rw [h4]; rfl) rfl (st_cf (vs := [.agg #[.int .i64 z7.lo, .int .i64 z7.hi, .bool z7.no]]) (r := .bool (rRight z7)) (c_rRight z7) Try.func57 rfl (by decide) rfl rfl rfl ⟨rfl, rfl⟩) ?_
    refine dw_gd (d := (some 88)) (.bool (z7.no == (rRight z7))) rfl (by show ((decide (z7.hi > 1073741824)) == false) = true; rw [h4]; rfl) rfl (st_bi (u := .bool z7.no) (v := .bool (rRight z7)) (r := .bool (z7.no == (rRight z7))) rfl rfl rfl (bb_eql Try.underlying4 rfl) ⟨rfl, rfl⟩) ?_
    refine dw_op (d := (some 89)) (.bool (z7.no == (rRight z7))) rfl rfl rfl (st_pkf' (b := decide (z7.hi > 1073741824)) (v := .bool (z7.no == (rRight z7))) h4 rfl rfl rfl ⟨rfl, rfl⟩) ?_
    refine dw_nil ?_
    refine ar_nil ?_
    refine bool_split (z7.no == (rRight z7)) (fun h5 => nomatch (show false = true from (show (ivBounds_r7 z0 z1 z2 z3 z4 z5 z6 z7 z8) = _ from (eF h1 (eF h2 (eF h3 (eF h4 (eT h5 rfl)))))).symm.trans HG)) (fun h5 => ?_)
    refine ac_else' (b := z7.no == (rRight z7)) h5 rfl ?_
    refine ac_skip ?_
    refine ac_region_lit ?_
    refine ao 90 rfl rfl (st_bi (u := .int .i64 7) (v := .int .i64 1) (r := .int .i64 8) rfl rfl rfl (bi_add (by decide)) ?_)
    refine ao 46 rfl rfl (st_move (v := .int .i64 8) rfl rfl ?_)
    refine ar_nil ?_
    exact ar_dropR (List.Sublist.cons _ (List.Sublist.refl _)) (K _ rfl rfl rfl rfl rfl)
def ivBounds_r8 (z0 : Iv) (z1 : Iv) (z2 : Iv) (z3 : Iv) (z4 : Iv) (z5 : Iv) (z6 : Iv) (z7 : Iv) (z8 : Iv) : Bool := (bif z8.no then (bif z8.lo != 0 then false else (bif z8.hi != 0 then false else (bif z8.no == (rRight z8) then false else true))) else (bif decide (z8.lo > z8.hi) then false else (bif decide (z8.lo < (-1073741824)) then false else (bif decide (z8.hi > 1073741824) then false else (bif z8.no == (rRight z8) then false else true)))))
set_option maxRecDepth 100000 in
theorem c_ivBounds_r8 (z0 : Iv) (z1 : Iv) (z2 : Iv) (z3 : Iv) (z4 : Iv) (z5 : Iv) (z6 : Iv) (z7 : Iv) (z8 : Iv) {v11 v12 : Value} {Q : Exit → Env → List Box → Prop} {H0 : List Box} {E : Env} {c : Code} {k : Nat} (hc : Try.f13.body.bind loopOf = some c) (q10 : E 10 = .bool false) (q45 : E 45 = .agg #[.int .i64 z0.lo, .int .i64 z0.hi, .bool z0.no, .int .i64 z1.lo, .int .i64 z1.hi, .bool z1.no, .int .i64 z2.lo, .int .i64 z2.hi, .bool z2.no, .int .i64 z3.lo, .int .i64 z3.hi, .bool z3.no, .int .i64 z4.lo, .int .i64 z4.hi, .bool z4.no, .int .i64 z5.lo, .int .i64 z5.hi, .bool z5.no, .int .i64 z6.lo, .int .i64 z6.hi, .bool z6.no, .int .i64 z7.lo, .int .i64 z7.hi, .bool z7.no, .int .i64 z8.lo, .int .i64 z8.hi, .bool z8.no]) (q46 : E 46 = .int .i64 8) (l11 : E 11 = v11) (l12 : E 12 = v12) (HG : (ivBounds_r8 z0 z1 z2 z3 z4 z5 z6 z7 z8) = true) (K : ∀ E' : Env, E' 10 = .bool false → E' 45 = .agg #[.int .i64 z0.lo, .int .i64 z0.hi, .bool z0.no, .int .i64 z1.lo, .int .i64 z1.hi, .bool z1.no, .int .i64 z2.lo, .int .i64 z2.hi, .bool z2.no, .int .i64 z3.lo, .int .i64 z3.hi, .bool z3.no, .int .i64 z4.lo, .int .i64 z4.hi, .bool z4.no, .int .i64 z5.lo, .int .i64 z5.hi, .bool z5.no, .int .i64 z6.lo, .int .i64 z6.hi, .bool z6.no, .int .i64 z7.lo, .int .i64 z7.hi, .bool z7.no, .int .i64 z8.lo, .int .i64 z8.hi, .bool z8.no] → E' 46 = .int .i64 9 → E' 11 = v11 → E' 12 = v12 → ARounds Try.prog 118 c Q k E' H0) : ARounds Try.prog 118 c Q (k + 1) E H0 := by
  rw [show Try.f13.body.bind loopOf = some _ from rfl] at hc
  cases hc
  obtain ⟨E0, rfl⟩ : ∃ E0 : Env, E = (((((E0.put (some 10) (.bool false)).put (some 45) (.agg #[.int .i64 z0.lo, .int .i64 z0.hi, .bool z0.no, .int .i64 z1.lo, .int .i64 z1.hi, .bool z1.no, .int .i64 z2.lo, .int .i64 z2.hi, .bool z2.no, .int .i64 z3.lo, .int .i64 z3.hi, .bool z3.no, .int .i64 z4.lo, .int .i64 z4.hi, .bool z4.no, .int .i64 z5.lo, .int .i64 z5.hi, .bool z5.no, .int .i64 z6.lo, .int .i64 z6.hi, .bool z6.no, .int .i64 z7.lo, .int .i64 z7.hi, .bool z7.no, .int .i64 z8.lo, .int .i64 z8.hi, .bool z8.no])).put (some 46) (.int .i64 8)).put (some 11) v11).put (some 12) v12) := ⟨E, by rw [put_self q10, put_self q45, put_self q46, put_self l11, put_self l12]⟩
  refine ar_round ?_
  refine ac_seq ?_
  refine ac_region_lit ?_
  refine ao 47 rfl rfl (st_bi (u := .int .i64 8) (v := .int .i64 9) (r := .bool true) rfl rfl rfl (bi_lss (by decide)) ?_)
  refine ar_nil ?_
  refine ac_seq ?_
  refine ac_then rfl ?_
  refine ac_skip ?_
  refine ac_seq ?_
  refine ac_block ?_
  refine ac_seq ?_
  refine ac_region_lit ?_
  refine ao 48 rfl rfl (st_ix (u := .agg #[.int .i64 z0.lo, .int .i64 z0.hi, .bool z0.no, .int .i64 z1.lo, .int .i64 z1.hi, .bool z1.no, .int .i64 z2.lo, .int .i64 z2.hi, .bool z2.no, .int .i64 z3.lo, .int .i64 z3.hi, .bool z3.no, .int .i64 z4.lo, .int .i64 z4.hi, .bool z4.no, .int .i64 z5.lo, .int .i64 z5.hi, .bool z5.no, .int .i64 z6.lo, .int .i64 z6.hi, .bool z6.no, .int .i64 z7.lo, .int .i64 z7.hi, .bool z7.no, .int .i64 z8.lo, .int .i64 z8.hi, .bool z8.no]) (i := .int .i64 8) (v := .agg #[.int .i64 z8.lo, .int .i64 z8.hi, .bool z8.no]) rfl rfl rfl (ix52_8 _ _ _ _ _ _ _ _ _ _ _ _ _ _ _ _ _ _ _ _ _ _ _ _ _ _ _) ?_)
  refine ao 14 rfl rfl (st_new zero35 rfl fun g0 => ?_)
  refine ar_op (d := none) rfl rfl (st_sta (g := g0) (off := 0) (us := [.int .i64 z8.lo, .int .i64 z8.hi, .bool z8.no]) (cs := [.int .i64 z8.lo, .int .i64 z8.hi, .bool z8.no]) agg35 0 rfl rfl rfl rfl rfl rfl rfl rfl rfl ?_)
  refine ar_nil ?_
  refine ac_seq ?_
  refine ac_draw0 (id := 6) [0, 1, 2, 3, 4, 5, 6, 7, 8, 9, 10, 11, 12, 13, 14, 15, 16, 17, 18, 19, 20, 21, 22, 23, 24, 25, 26, 27, 28, 29, 30, 31, 32, 33, 34, 35, 36, 37, 38, 39, 40] [] _ (by kernel_rfl) follows rfl  ?_
  refine dw_op (d := (some 49)) (.pointer (some ⟨g0, 2, none⟩)) rfl rfl rfl (st_fa (g := g0) (off := 0) rfl fa35_2 rfl ⟨rfl, rfl⟩) ?_
  refine dw_op (d := (some 50)) (.bool z8.no) rfl rfl rfl (st_ldc (g := g0) (off := 2) (v := .bool z8.no) cell4 0 rfl rfl rfl rfl rfl ⟨rfl, rfl⟩) ?_
  refine dw_op (d := (some 51)) (.bool z8.no) rfl rfl rfl (st_move (v := .bool z8.no) rfl rfl ⟨rfl, rfl⟩) ?_
  refine bool_split (z8.no) (fun h1 => ?_) (fun h1 => ?_)
  · refine dw_gd (d := (some 52)) (.pointer (some ⟨g0, 0, none⟩)) rfl (by show (z8.no == true) = true; rw [h1]; rfl) rfl (st_fa (g := g0) (off := 0) rfl fa35_0 rfl ⟨rfl, rfl⟩) ?_
    refine dw_gd (d := (some 53)) (.int .i64 z8.lo) rfl (by show (z8.no == true) = true; rw [h1]; rfl) rfl (st_ldc (g := g0) (off := 0) (v := .int .i64 z8.lo) cell3 0 rfl rfl rfl rfl rfl ⟨rfl, rfl⟩) ?_
    refine dw_gd (d := (some 54)) (.bool (z8.lo != 0)) rfl (by show (z8.no == true) = true; rw [h1]; rfl) rfl (st_bi (u := .int .i64 z8.lo) (v := .int .i64 0) (r := .bool (z8.lo != 0)) rfl rfl rfl (bi_neq rfl) ⟨rfl, rfl⟩) ?_
    refine dw_gd (d := (some 55)) (.bool (z8.lo != 0)) rfl (by show (z8.no == true) = true; rw [h1]; rfl) rfl (st_move (v := .bool (z8.lo != 0)) rfl rfl ⟨rfl, rfl⟩) ?_
    refine bool_split (z8.lo != 0) (fun h2 => nomatch (show false = true from (show (ivBounds_r8 z0 z1 z2 z3 z4 z5 z6 z7 z8) = _ from (eT h1 (eT h2 rfl))).symm.trans HG)) (fun h2 => ?_)
    refine dw_gd (d := (some 56)) (.pointer (some ⟨g0, 1, none⟩)) rfl (by show ((z8.lo != 0) == false) = true; rw [h2]; rfl) rfl (st_fa (g := g0) (off := 0) rfl fa35_1 rfl ⟨rfl, rfl⟩) ?_
    refine dw_gd (d := (some 57)) (.int .i64 z8.hi) rfl (by show ((z8.lo != 0) == false) = true; rw [h2]; rfl) rfl (st_ldc (g := g0) (off := 1) (v := .int .i64 z8.hi) cell3 0 rfl rfl rfl rfl rfl ⟨rfl, rfl⟩) ?_
    refine dw_gd (d := (some 58)) (.bool (z8.hi != 0)) rfl (by show ((z8.lo != 0) == false) = true; rw [h2]; rfl) rfl (st_bi (u := .int .i64 z8.hi) (v := .int .i64 0) (r := .bool (z8.hi != 0)) rfl rfl rfl (bi_neq rfl) ⟨rfl, rfl⟩) ?_
    refine dw_gd (d := (some 59)) (.bool (z8.hi != 0)) rfl (by show (z8.no == true) = true; rw [h1]; rfl) rfl (st_pkf' (b := z8.lo != 0) (v := .bool (z8.hi != 0)) h2 rfl rfl rfl ⟨rfl, rfl⟩) ?_
    refine dw_op (d := (some 60)) (.bool (z8.hi != 0)) rfl rfl rfl (st_pkt' (b := z8.no) (v := .bool (z8.hi != 0)) h1 rfl rfl rfl ⟨rfl, rfl⟩) ?_
    refine dw_op (d := (some 61)) (.bool (z8.hi != 0)) rfl rfl rfl (st_move (v := .bool (z8.hi != 0)) rfl rfl ⟨rfl, rfl⟩) ?_
    refine bool_split (z8.hi != 0) (fun h3 => nomatch (show false = true from (show (ivBounds_r8 z0 z1 z2 z3 z4 z5 z6 z7 z8) = _ from (eT h1 (eF h2 (eT h3 rfl)))).symm.trans HG)) (fun h3 => ?_)
    refine dw_gd (d := (some 62)) (.pointer (some ⟨g0, 2, none⟩)) rfl (by show ((z8.hi != 0) == false) = true; rw [h3]; rfl) rfl (st_fa (g := g0) (off := 0) rfl fa35_2 rfl ⟨rfl, rfl⟩) ?_
    refine dw_gd (d := (some 63)) (.bool z8.no) rfl (by show ((z8.hi != 0) == false) = true; rw [h3]; rfl) rfl (st_ldc (g := g0) (off := 2) (v := .bool z8.no) cell4 0 rfl rfl rfl rfl rfl ⟨rfl, rfl⟩) ?_
    refine dw_gd (d := (some 64)) (.bool (!z8.no)) rfl (by show ((z8.hi != 0) == false) = true; rw [h3]; rfl) rfl (st_un (u := .bool z8.no) (v := .bool (!z8.no)) rfl rfl (un_not rfl) ⟨rfl, rfl⟩) ?_
    refine dw_gd (d := (some 65)) (.bool (!z8.no)) rfl (by show ((z8.hi != 0) == false) = true; rw [h3]; rfl) rfl (st_move (v := .bool (!z8.no)) rfl rfl ⟨rfl, rfl⟩) ?_
    refine dw_sk (d := (some 66)) rfl (by show ((!z8.no) == true) = false; rw [h1]; rfl) rfl ?_
    refine dw_sk (d := (some 67)) rfl (by show ((!z8.no) == true) = false; rw [h1]; rfl) rfl ?_
    refine dw_sk (d := (some 68)) rfl (by show ((!z8.no) == true) = false; rw [h1]; rfl) rfl ?_
    refine dw_sk (d := (some 69)) rfl (by show ((!z8.no) == true) = false; rw [h1]; rfl) rfl ?_
    refine dw_sk (d := (some 70)) rfl (by show ((!z8.no) == true) = false; rw [h1]; rfl) rfl ?_
    refine dw_sk (d := (some 71)) rfl (by show ((!z8.no) == true) = false; rw [h1]; rfl) rfl ?_
    refine dw_sk (d := (some 72)) rfl rfl rfl ?_
    refine dw_sk (d := (some 73)) rfl rfl rfl ?_
    refine dw_sk (d := (some 74)) rfl rfl rfl ?_
    refine dw_sk (d := (some 75)) rfl (by show ((!z8.no) == true) = false; rw [h1]; rfl) rfl ?_
    refine dw_sk (d := (some 76)) rfl (by show ((!z8.no) == true) = false; rw [h1]; rfl) rfl ?_
    refine dw_sk (d := (some 77)) rfl rfl rfl ?_
    refine dw_sk (d := (some 78)) rfl rfl rfl ?_
    refine dw_sk (d := (some 79)) rfl rfl rfl ?_
    refine dw_sk (d := (some 80)) rfl (by show ((!z8.no) == true) = false; rw [h1]; rfl) rfl ?_
    refine dw_gd (d := (some 81)) (.bool false) rfl (by show ((z8.hi != 0) == false) = true; rw [h3]; rfl) rfl (st_pkf' (b := !z8.no) (v := .bool false) (by rw [h1]; rfl) rfl rfl rfl ⟨rfl, rfl⟩) ?_
    refine dw_op (d := (some 82)) (.bool false) rfl rfl rfl (st_pkf' (b := z8.hi != 0) (v := .bool false) h3 rfl rfl rfl ⟨rfl, rfl⟩) ?_
    refine dw_op (d := (some 83)) (.bool false) rfl rfl rfl (st_move (v := .bool false) rfl rfl ⟨rfl, rfl⟩) ?_
    refine dw_gd (d := (some 84)) (.pointer (some ⟨g0, 2, none⟩)) rfl rfl rfl (st_fa (g := g0) (off := 0) rfl fa35_2 rfl ⟨rfl, rfl⟩) ?_
    refine dw_gd (d := (some 85)) (.bool z8.no) rfl rfl rfl (st_ldc (g := g0) (off := 2) (v := .bool z8.no) cell4 0 rfl rfl rfl rfl rfl ⟨rfl, rfl⟩) ?_
    refine dw_gd (d := (some 86)) (.agg #[.int .i64 z8.lo, .int .i64 z8.hi, .bool z8.no]) rfl rfl rfl (st_lda (g := g0) (off := 0) (vs := [.int .i64 z8.lo, .int .i64 z8.hi, .bool z8.no]) agg35 0 rfl rfl rfl rfl rfl rfl ⟨rfl, rfl⟩) ?_
    refine dw_gd (d := (some 87)) (.bool (rRight z8)) rfl rfl rfl (st_cf (vs := [.agg #[.int .i64 z8.lo, .int .i64 z8.hi, .bool z8.no]]) (r := .bool (rRight z8)) (c_rRight z8) Try.func57 rfl (by decide) rfl rfl rfl ⟨rfl, rfl⟩) ?_
    refine dw_gd (d := (some 88)) (.bool (z8.no == (rRight z8))) rfl rfl rfl (st_bi (u := .bool z8.no) (v := .bool (rRight z8)) (r := .bool (z8.no == (rRight z8))) rfl rfl rfl (bb_eql Try.underlying4 rfl) ⟨rfl, rfl⟩) ?_
    refine dw_op (d := (some 89)) (.bool (z8.no == (rRight z8))) rfl rfl rfl (st_pkf (v := .bool (z8.no == (rRight z8))) rfl rfl rfl ⟨rfl, rfl⟩) ?_
    refine dw_nil ?_
    refine ar_nil ?_
    refine bool_split (z8.no == (rRight z8)) (fun h4 => nomatch (show false = true from (show (ivBounds_r8 z0 z1 z2 z3 z4 z5 z6 z7 z8) = _ from (eT h1 (eF h2 (eF h3 (eT h4 rfl))))).symm.trans HG)) (fun h4 => ?_)
    refine ac_else' (b := z8.no == (rRight z8)) h4 rfl ?_
    refine ac_skip ?_
    refine ac_region_lit ?_
    refine ao 90 rfl rfl (st_bi (u := .int .i64 8) (v := .int .i64 1) (r := .int .i64 9) rfl rfl rfl (bi_add (by decide)) ?_)
    refine ao 46 rfl rfl (st_move (v := .int .i64 9) rfl rfl ?_)
    refine ar_nil ?_
    exact ar_dropR (List.Sublist.cons _ (List.Sublist.refl _)) (K _ rfl rfl rfl rfl rfl)
  · refine dw_sk (d := (some 52)) rfl (by show (z8.no == true) = false; rw [h1]; rfl) rfl ?_
    refine dw_sk (d := (some 53)) rfl (by show (z8.no == true) = false; rw [h1]; rfl) rfl ?_
    refine dw_sk (d := (some 54)) rfl (by show (z8.no == true) = false; rw [h1]; rfl) rfl ?_
    refine dw_sk (d := (some 55)) rfl (by show (z8.no == true) = false; rw [h1]; rfl) rfl ?_
    refine dw_sk (d := (some 56)) rfl rfl rfl ?_
    refine dw_sk (d := (some 57)) rfl rfl rfl ?_
    refine dw_sk (d := (some 58)) rfl rfl rfl ?_
    refine dw_sk (d := (some 59)) rfl (by show (z8.no == true) = false; rw [h1]; rfl) rfl ?_
    refine dw_op (d := (some 60)) (.bool false) rfl rfl rfl (st_pkf' (b := z8.no) (v := .bool false) h1 rfl rfl rfl ⟨rfl, rfl⟩) ?_
    refine dw_op (d := (some 61)) (.bool false) rfl rfl rfl (st_move (v := .bool false) rfl rfl ⟨rfl, rfl⟩) ?_
    refine dw_gd (d := (some 62)) (.pointer (some ⟨g0, 2, none⟩)) rfl rfl rfl (st_fa (g := g0) (off := 0) rfl fa35_2 rfl ⟨rfl, rfl⟩) ?_
    refine dw_gd (d := (some 63)) (.bool z8.no) rfl rfl rfl (st_ldc (g := g0) (off := 2) (v := .bool z8.no) cell4 0 rfl rfl rfl rfl rfl ⟨rfl, rfl⟩) ?_
    refine dw_gd (d := (some 64)) (.bool (!z8.no)) rfl rfl rfl (st_un (u := .bool z8.no) (v := .bool (!z8.no)) rfl rfl (un_not rfl) ⟨rfl, rfl⟩) ?_
    refine dw_gd (d := (some 65)) (.bool (!z8.no)) rfl rfl rfl (st_move (v := .bool (!z8.no)) rfl rfl ⟨rfl, rfl⟩) ?_
    refine dw_gd (d := (some 66)) (.pointer (some ⟨g0, 0, none⟩)) rfl (by show ((!z8.no) == true) = true; rw [h1]; rfl) rfl (st_fa (g := g0) (off := 0) rfl fa35_0 rfl ⟨rfl, rfl⟩) ?_
    refine dw_gd (d := (some 67)) (.int .i64 z8.lo) rfl (by show ((!z8.no) == true) = true; rw [h1]; rfl) rfl (st_ldc (g := g0) (off := 0) (v := .int .i64 z8.lo) cell3 0 rfl rfl rfl rfl rfl ⟨rfl, rfl⟩) ?_
    refine dw_gd (d := (some 68)) (.pointer (some ⟨g0, 1, none⟩)) rfl (by show ((!z8.no) == true) = true; rw [h1]; rfl) rfl (st_fa (g := g0) (off := 0) rfl fa35_1 rfl ⟨rfl, rfl⟩) ?_
    refine dw_gd (d := (some 69)) (.int .i64 z8.hi) rfl (by show ((!z8.no) == true) = true; rw [h1]; rfl) rfl (st_ldc (g := g0) (off := 1) (v := .int .i64 z8.hi) cell3 0 rfl rfl rfl rfl rfl ⟨rfl, rfl⟩) ?_
    refine dw_gd (d := (some 70)) (.bool (decide (z8.lo > z8.hi))) rfl (by show ((!z8.no) == true) = true; rw [h1]; rfl) rfl (st_bi (u := .int .i64 z8.lo) (v := .int .i64 z8.hi) (r := .bool (decide (z8.lo > z8.hi))) rfl rfl rfl (bi_gtr rfl) ⟨rfl, rfl⟩) ?_
    refine dw_gd (d := (some 71)) (.bool (decide (z8.lo > z8.hi))) rfl (by show ((!z8.no) == true) = true; rw [h1]; rfl) rfl (st_move (v := .bool (decide (z8.lo > z8.hi))) rfl rfl ⟨rfl, rfl⟩) ?_
    refine bool_split (decide (z8.lo > z8.hi)) (fun h2 => nomatch (show false = true from (show (ivBounds_r8 z0 z1 z2 z3 z4 z5 z6 z7 z8) = _ from (eF h1 (eT h2 rfl))).symm.trans HG)) (fun h2 => ?_)
    refine dw_gd (d := (some 72)) (.pointer (some ⟨g0, 0, none⟩)) rfl (by show ((decide (z8.lo > z8.hi)) == false) = true; rw [h2]; rfl) rfl (st_fa (g := g0) (off := 0) rfl fa35_0 rfl ⟨rfl, rfl⟩) ?_
    refine dw_gd (d := (some 73)) (.int .i64 z8.lo) rfl (by show ((decide (z8.lo > z8.hi)) == false) = true; rw [h2]; rfl) rfl (st_ldc (g := g0) (off := 0) (v := .int .i64 z8.lo) cell3 0 rfl rfl rfl rfl rfl ⟨rfl, rfl⟩) ?_
    refine dw_gd (d := (some 74)) (.bool (decide (z8.lo < (-1073741824)))) rfl (by show ((decide (z8.lo > z8.hi)) == false) = true; rw [h2]; rfl) rfl (st_bi (u := .int .i64 z8.lo) (v := .int .i64 (-1073741824)) (r := .bool (decide (z8.lo < (-1073741824)))) rfl rfl rfl (bi_lss rfl) ⟨rfl, rfl⟩) ?_
    refine dw_gd (d := (some 75)) (.bool (decide (z8.lo < (-1073741824)))) rfl (by show ((!z8.no) == true) = true; rw [h1]; rfl) rfl (st_pkf' (b := decide (z8.lo > z8.hi)) (v := .bool (decide (z8.lo < (-1073741824)))) h2 rfl rfl rfl ⟨rfl, rfl⟩) ?_
    refine dw_gd (d := (some 76)) (.bool (decide (z8.lo < (-1073741824)))) rfl (by show ((!z8.no) == true) = true; rw [h1]; rfl) rfl (st_move (v := .bool (decide (z8.lo < (-1073741824)))) rfl rfl ⟨rfl, rfl⟩) ?_
    refine bool_split (decide (z8.lo < (-1073741824))) (fun h3 => nomatch (show false = true from (show (ivBounds_r8 z0 z1 z2 z3 z4 z5 z6 z7 z8) = _ from (eF h1 (eF h2 (eT h3 rfl)))).symm.trans HG)) (fun h3 => ?_)
    refine dw_gd (d := (some 77)) (.pointer (some ⟨g0, 1, none⟩)) rfl (by show ((decide (z8.lo < (-1073741824))) == false) = true; rw [h3]; rfl) rfl (st_fa (g := g0) (off := 0) rfl fa35_1 rfl ⟨rfl, rfl⟩) ?_
    refine dw_gd (d := (some 78)) (.int .i64 z8.hi) rfl (by show ((decide (z8.lo < (-1073741824))) == false) = true; rw [h3]; rfl) rfl (st_ldc (g := g0) (off := 1) (v := .int .i64 z8.hi) cell3 0 rfl rfl rfl rfl rfl ⟨rfl, rfl⟩) ?_
    refine dw_gd (d := (some 79)) (.bool (decide (z8.hi > 1073741824))) rfl (by show ((decide (z8.lo < (-1073741824))) == false) = true; rw [h3]; rfl) rfl (st_bi (u := .int .i64 z8.hi) (v := .int .i64 1073741824) (r := .bool (decide (z8.hi > 1073741824))) rfl rfl rfl (bi_gtr rfl) ⟨rfl, rfl⟩) ?_
    refine dw_gd (d := (some 80)) (.bool (decide (z8.hi > 1073741824))) rfl (by show ((!z8.no) == true) = true; rw [h1]; rfl) rfl (st_pkf' (b := decide (z8.lo < (-1073741824))) (v := .bool (decide (z8.hi > 1073741824))) h3 rfl rfl rfl ⟨rfl, rfl⟩) ?_
    refine dw_gd (d := (some 81)) (.bool (decide (z8.hi > 1073741824))) rfl rfl rfl (st_pkt' (b := !z8.no) (v := .bool (decide (z8.hi > 1073741824))) (by rw [h1]; rfl) rfl rfl rfl ⟨rfl, rfl⟩) ?_
    refine dw_op (d := (some 82)) (.bool (decide (z8.hi > 1073741824))) rfl rfl rfl (st_pkf (v := .bool (decide (z8.hi > 1073741824))) rfl rfl rfl ⟨rfl, rfl⟩) ?_
    refine dw_op (d := (some 83)) (.bool (decide (z8.hi > 1073741824))) rfl rfl rfl (st_move (v := .bool (decide (z8.hi > 1073741824))) rfl rfl ⟨rfl, rfl⟩) ?_
    refine bool_split (decide (z8.hi > 1073741824)) (fun h4 => nomatch (show false = true from (show (ivBounds_r8 z0 z1 z2 z3 z4 z5 z6 z7 z8) = _ from (eF h1 (eF h2 (eF h3 (eT h4 rfl))))).symm.trans HG)) (fun h4 => ?_)
    refine dw_gd (d := (some 84)) (.pointer (some ⟨g0, 2, none⟩)) rfl (by show ((decide (z8.hi > 1073741824)) == false) = true; rw [h4]; rfl) rfl (st_fa (g := g0) (off := 0) rfl fa35_2 rfl ⟨rfl, rfl⟩) ?_
    refine dw_gd (d := (some 85)) (.bool z8.no) rfl (by show ((decide (z8.hi > 1073741824)) == false) = true; rw [h4]; rfl) rfl (st_ldc (g := g0) (off := 2) (v := .bool z8.no) cell4 0 rfl rfl rfl rfl rfl ⟨rfl, rfl⟩) ?_
    refine dw_gd (d := (some 86)) (.agg #[.int .i64 z8.lo, .int .i64 z8.hi, .bool z8.no]) rfl (by show ((decide (z8.hi > 1073741824)) == false) = true; rw [h4]; rfl) rfl (st_lda (g := g0) (off := 0) (vs := [.int .i64 z8.lo, .int .i64 z8.hi, .bool z8.no]) agg35 0 rfl rfl rfl rfl rfl rfl ⟨rfl, rfl⟩) ?_
    refine dw_gd (d := (some 87)) (.bool (rRight z8)) rfl (by show ((decide (z8.hi > 1073741824)) == false) = true; rw [h4]; rfl) rfl (st_cf (vs := [.agg #[.int .i64 z8.lo, .int .i64 z8.hi, .bool z8.no]]) (r := .bool (rRight z8)) (c_rRight z8) Try.func57 rfl (by decide) rfl rfl rfl ⟨rfl, rfl⟩) ?_
    refine dw_gd (d := (some 88)) (.bool (z8.no == (rRight z8))) rfl (by show ((decide (z8.hi > 1073741824)) == false) = true; rw [h4]; rfl) rfl (st_bi (u := .bool z8.no) (v := .bool (rRight z8)) (r := .bool (z8.no == (rRight z8))) rfl rfl rfl (bb_eql Try.underlying4 rfl) ⟨rfl, rfl⟩) ?_
    refine dw_op (d := (some 89)) (.bool (z8.no == (rRight z8))) rfl rfl rfl (st_pkf' (b := decide (z8.hi > 1073741824)) (v := .bool (z8.no == (rRight z8))) h4 rfl rfl rfl ⟨rfl, rfl⟩) ?_
    refine dw_nil ?_
    refine ar_nil ?_
    refine bool_split (z8.no == (rRight z8)) (fun h5 => nomatch (show false = true from (show (ivBounds_r8 z0 z1 z2 z3 z4 z5 z6 z7 z8) = _ from (eF h1 (eF h2 (eF h3 (eF h4 (eT h5 rfl)))))).symm.trans HG)) (fun h5 => ?_)
    refine ac_else' (b := z8.no == (rRight z8)) h5 rfl ?_
    refine ac_skip ?_
    refine ac_region_lit ?_
    refine ao 90 rfl rfl (st_bi (u := .int .i64 8) (v := .int .i64 1) (r := .int .i64 9) rfl rfl rfl (bi_add (by decide)) ?_)
    refine ao 46 rfl rfl (st_move (v := .int .i64 9) rfl rfl ?_)
    refine ar_nil ?_
    exact ar_dropR (List.Sublist.cons _ (List.Sublist.refl _)) (K _ rfl rfl rfl rfl rfl)
end Go.Proofs.Ytbaihncnbejjbaa
