import Derived.Test.YthngkopcadlciaaFacts4
import Derived.Test.YthngkopcadlciaaK4
import Derived.Test.YthngkopcadlciaaPick
set_option linter.unusedVariables false
set_option linter.unusedSimpArgs false
namespace Go.Proofs.Ythngkopcadlciaa
open Go.RowKit

attribute [local irreducible] AC AR DWalk
def lawPolyEncloses0_e0 (x : Int) (m : Int) (n : Int) : Iv := (hWide (w64 ((w64 ((w64 ((hPick x 13) - 6)) * 65536)) - (hPick n 9))) 20)
def lawPolyEncloses0_e1 (x : Int) (m : Int) (n : Int) : Bool := (ivInside (hornerNil (ivWhole (w64 ((hPick x 13) - 6)))) (hornerNil (lawPolyEncloses0_e0 x m n)))
def lawPolyEncloses0 (x : Int) (m : Int) (n : Int) : Bool := (bif known4 then (bif ivHas (hornerNil (ivWhole (w64 ((hPick x 13) - 6)))) 0 then (bif ((hornerNil (ivWhole (w64 ((hPick x 13) - 6)))).lo) == ((hornerNil (ivWhole (w64 ((hPick x 13) - 6)))).hi) then (bif ivRight (hornerNil (lawPolyEncloses0_e0 x m n)) then lawPolyEncloses0_e1 x m n else true) else false) else false) else false)
set_option maxRecDepth 100000 in
theorem c_lawPolyEncloses0 (x : Int) (m : Int) (n : Int) (a : Option Addr) (cap : Nat) (H : (lawPolyEncloses0 x m n) = true) : Gets Try.prog 3 #[.slice a 0 cap, .int .i64 x, .int .i64 m, .int .i64 n] (.bool true) := by
  refine gets_fin Try.func3 rfl rfl rfl ?_
  refine ac_seq ?_
  refine ac_region_lit ?_
  refine ao 8 rfl rfl (st_assign (v := .bool false) rfl rfl ?_)
  refine ar_nil ?_
  refine ac_seq ?_
  refine ac_region_lit ?_
  refine ao 18 rfl rfl (st_move (v := .int .i64 x) rfl rfl ?_)
  refine ao 19 rfl rfl (st_cf (vs := [.int .i64 x, .int .i64 13]) (r := .int .i64 (hPick x 13)) (c_hPick x 13 (by decide)) Try.func19 rfl (by decide) rfl rfl rfl ?_)
  refine ao 20 rfl rfl (st_bi (u := .int .i64 (hPick x 13)) (v := .int .i64 6) (r := .int .i64 (w64 ((hPick x 13) - 6))) rfl rfl rfl (bi_sub rfl) ?_)
  refine ao 1 rfl rfl (st_assign (v := .int .i64 (w64 ((hPick x 13) - 6))) rfl rfl ?_)
  refine ar_nil ?_
  refine ac_seq ?_
  refine ac_region_lit ?_
  refine ao 9 rfl rfl (st_assign (v := .slice none 0 0) rfl rfl ?_)
  refine ao 10 rfl rfl (st_assign (v := .slice none 0 0) rfl rfl ?_)
  refine ar_nil ?_
  refine ac_seq ?_
  refine ac_region_lit ?_
  refine ao 11 rfl rfl (st_assign (v := .int .i64 0) rfl rfl ?_)
  refine ar_nil ?_
  refine ac_seq ?_
  refine ac_region_lit ?_
  refine ao 12 rfl rfl (st_assign (v := .int .i64 1) rfl rfl ?_)
  refine ar_nil ?_
  refine ac_seq ?_
  refine ac_seq ?_
  refine ac_region_lit ?_
  refine ao 13 rfl rfl (st_assign (v := .int .i64 0) rfl rfl ?_)
  refine ar_nil ?_
  refine ac_block ?_
  refine ac_rounds 61 ?_
  refine ar_round ?_
  refine ac_seq ?_
  refine ac_seq ?_
  refine ac_region_lit ?_
  refine ao 21 rfl rfl (st_move (v := .int .i64 0) rfl rfl ?_)
  refine ao 22 rfl rfl (st_move (v := .slice a 0 cap) rfl rfl ?_)
  refine ao 23 rfl rfl (st_ln (a := a) (m := 0) (c := cap) rfl Try.underlying22 rfl ?_)
  refine ao 24 rfl rfl (st_bi (u := .int .i64 0) (v := .int .i64 0) (r := .bool false) rfl rfl rfl (bi_lss (by decide)) ?_)
  refine ao 25 rfl rfl (st_move (v := .bool false) rfl rfl ?_)
  refine ar_sk (d := (some 26)) rfl rfl ?_
  refine ar_sk (d := (some 27)) rfl rfl ?_
  refine ao 28 rfl rfl (st_pkf (v := .bool false) rfl rfl rfl ?_)
  refine ar_nil ?_
  refine ac_else rfl ?_
  refine ac_exit ?_
  refine ac_seq ?_
  refine ac_region_lit ?_
  refine ao 62 rfl rfl (st_move (v := .int .i64 (w64 ((hPick x 13) - 6))) rfl rfl ?_)
  refine ao 63 rfl rfl (st_bi (u := .int .i64 (w64 ((hPick x 13) - 6))) (v := .int .i64 65536) (r := .int .i64 (w64 ((w64 ((hPick x 13) - 6)) * 65536))) rfl rfl rfl (bi_mul rfl) ?_)
  refine ao 64 rfl rfl (st_move (v := .int .i64 n) rfl rfl ?_)
  refine ao 65 rfl rfl (st_cf (vs := [.int .i64 n, .int .i64 9]) (r := .int .i64 (hPick n 9)) (c_hPick n 9 (by decide)) Try.func19 rfl (by decide) rfl rfl rfl ?_)
  refine ao 66 rfl rfl (st_bi (u := .int .i64 (w64 ((w64 ((hPick x 13) - 6)) * 65536))) (v := .int .i64 (hPick n 9)) (r := .int .i64 (w64 ((w64 ((w64 ((hPick x 13) - 6)) * 65536)) - (hPick n 9)))) rfl rfl rfl (bi_sub rfl) ?_)
  refine ao 67 rfl rfl (st_cf (vs := [.int .i64 (w64 ((w64 ((w64 ((hPick x 13) - 6)) * 65536)) - (hPick n 9))), .int .i64 20]) (r := .agg #[.int .i64 ((lawPolyEncloses0_e0 x m n).lo), .int .i64 ((lawPolyEncloses0_e0 x m n).hi), .bool ((lawPolyEncloses0_e0 x m n).no)]) (c_hWide (w64 ((w64 ((w64 ((hPick x 13) - 6)) * 65536)) - (hPick n 9))) 20) Try.func20 rfl (by decide) rfl rfl rfl ?_)
  refine ao 15 rfl rfl (st_new zero26 rfl fun g0 => ?_)
  refine ar_op (d := none) rfl rfl (st_sta (g := g0) (off := 0) (us := [.int .i64 ((lawPolyEncloses0_e0 x m n).lo), .int .i64 ((lawPolyEncloses0_e0 x m n).hi), .bool ((lawPolyEncloses0_e0 x m n).no)]) (cs := [.int .i64 ((lawPolyEncloses0_e0 x m n).lo), .int .i64 ((lawPolyEncloses0_e0 x m n).hi), .bool ((lawPolyEncloses0_e0 x m n).no)]) agg26 0 rfl rfl rfl rfl rfl rfl rfl rfl rfl ?_)
  refine ar_nil ?_
  refine ac_seq ?_
  refine ac_region_lit ?_
  refine ao 68 rfl rfl (st_move (v := .slice none 0 0) rfl rfl ?_)
  refine ao 69 rfl rfl (st_lda (g := g0) (off := 0) (vs := [.int .i64 ((lawPolyEncloses0_e0 x m n).lo), .int .i64 ((lawPolyEncloses0_e0 x m n).hi), .bool ((lawPolyEncloses0_e0 x m n).no)]) agg26 0 rfl rfl rfl rfl rfl rfl ?_)
  refine ao 70 rfl rfl (st_cf (vs := [.slice none 0 0, .agg #[.int .i64 ((lawPolyEncloses0_e0 x m n).lo), .int .i64 ((lawPolyEncloses0_e0 x m n).hi), .bool ((lawPolyEncloses0_e0 x m n).no)]]) (r := .agg #[.int .i64 ((hornerNil (lawPolyEncloses0_e0 x m n)).lo), .int .i64 ((hornerNil (lawPolyEncloses0_e0 x m n)).hi), .bool ((hornerNil (lawPolyEncloses0_e0 x m n)).no)]) (c_hornerNil (lawPolyEncloses0_e0 x m n)) Try.func22 rfl (by decide) rfl rfl rfl ?_)
  refine ao 16 rfl rfl (st_new zero26 rfl fun g1 => ?_)
  refine ar_op (d := none) rfl rfl (st_sta (g := g1) (off := 0) (us := [.int .i64 ((hornerNil (lawPolyEncloses0_e0 x m n)).lo), .int .i64 ((hornerNil (lawPolyEncloses0_e0 x m n)).hi), .bool ((hornerNil (lawPolyEncloses0_e0 x m n)).no)]) (cs := [.int .i64 ((hornerNil (lawPolyEncloses0_e0 x m n)).lo), .int .i64 ((hornerNil (lawPolyEncloses0_e0 x m n)).hi), .bool ((hornerNil (lawPolyEncloses0_e0 x m n)).no)]) agg26 0 rfl rfl rfl rfl rfl rfl rfl rfl rfl ?_)
  refine ar_nil ?_
  refine ac_seq ?_
  refine ac_region_lit ?_
  refine ao 71 rfl rfl (st_move (v := .slice none 0 0) rfl rfl ?_)
  refine ao 72 rfl rfl (st_move (v := .int .i64 (w64 ((hPick x 13) - 6))) rfl rfl ?_)
  refine ao 73 rfl rfl (st_cf (vs := [.int .i64 (w64 ((hPick x 13) - 6))]) (r := .agg #[.int .i64 ((ivWhole (w64 ((hPick x 13) - 6))).lo), .int .i64 ((ivWhole (w64 ((hPick x 13) - 6))).hi), .bool ((ivWhole (w64 ((hPick x 13) - 6))).no)]) (c_ivWhole (w64 ((hPick x 13) - 6))) Try.func21 rfl (by decide) rfl rfl rfl ?_)
  refine ao 74 rfl rfl (st_cf (vs := [.slice none 0 0, .agg #[.int .i64 ((ivWhole (w64 ((hPick x 13) - 6))).lo), .int .i64 ((ivWhole (w64 ((hPick x 13) - 6))).hi), .bool ((ivWhole (w64 ((hPick x 13) - 6))).no)]]) (r := .agg #[.int .i64 ((hornerNil (ivWhole (w64 ((hPick x 13) - 6)))).lo), .int .i64 ((hornerNil (ivWhole (w64 ((hPick x 13) - 6)))).hi), .bool ((hornerNil (ivWhole (w64 ((hPick x 13) - 6)))).no)]) (c_hornerNil (ivWhole (w64 ((hPick x 13) - 6)))) Try.func22 rfl (by decide) rfl rfl rfl ?_)
  refine ao 17 rfl rfl (st_new zero26 rfl fun g2 => ?_)
  refine ar_op (d := none) rfl rfl (st_sta (g := g2) (off := 0) (us := [.int .i64 ((hornerNil (ivWhole (w64 ((hPick x 13) - 6)))).lo), .int .i64 ((hornerNil (ivWhole (w64 ((hPick x 13) - 6)))).hi), .bool ((hornerNil (ivWhole (w64 ((hPick x 13) - 6)))).no)]) (cs := [.int .i64 ((hornerNil (ivWhole (w64 ((hPick x 13) - 6)))).lo), .int .i64 ((hornerNil (ivWhole (w64 ((hPick x 13) - 6)))).hi), .bool ((hornerNil (ivWhole (w64 ((hPick x 13) - 6)))).no)]) agg26 0 rfl rfl rfl rfl rfl rfl rfl rfl rfl ?_)
  refine ar_nil ?_
  refine ac_seq ?_
  refine ac_region_lit ?_
  refine ao 75 rfl rfl (st_cf (vs := []) (r := .bool known4) c_known4 Try.func23 rfl (by decide) rfl rfl rfl ?_)
  refine ao 76 rfl rfl (st_move (v := .bool known4) rfl rfl ?_)
  refine bool_split (known4) (fun h1 => ?_) (fun h1 => nomatch (show false = true from (show (lawPolyEncloses0 x m n) = _ from (eF h1 rfl)).symm.trans H))
  refine ar_gd (d := (some 77)) (by show (known4 == true) = true; rw [h1]; rfl) rfl (st_lda (g := g2) (off := 0) (vs := [.int .i64 ((hornerNil (ivWhole (w64 ((hPick x 13) - 6)))).lo), .int .i64 ((hornerNil (ivWhole (w64 ((hPick x 13) - 6)))).hi), .bool ((hornerNil (ivWhole (w64 ((hPick x 13) - 6)))).no)]) agg26 0 rfl rfl rfl rfl rfl rfl ?_)
  refine ar_gd (d := (some 78)) (by show (known4 == true) = true; rw [h1]; rfl) rfl (st_move (v := .int .i64 0) rfl rfl ?_)
  refine ar_gd (d := (some 79)) (by show (known4 == true) = true; rw [h1]; rfl) rfl (st_bi (u := .int .i64 0) (v := .int .i64 65536) (r := .int .i64 0) rfl rfl rfl (bi_mul (by decide)) ?_)
  refine ar_gd (d := (some 80)) (by show (known4 == true) = true; rw [h1]; rfl) rfl (st_cf (vs := [.agg #[.int .i64 ((hornerNil (ivWhole (w64 ((hPick x 13) - 6)))).lo), .int .i64 ((hornerNil (ivWhole (w64 ((hPick x 13) - 6)))).hi), .bool ((hornerNil (ivWhole (w64 ((hPick x 13) - 6)))).no)], .int .i64 0]) (r := .bool (ivHas (hornerNil (ivWhole (w64 ((hPick x 13) - 6)))) 0)) (c_ivHas (hornerNil (ivWhole (w64 ((hPick x 13) - 6)))) 0) Try.func24 rfl (by decide) rfl rfl rfl ?_)
  refine ao 81 rfl rfl (st_pkt' (b := known4) (v := .bool (ivHas (hornerNil (ivWhole (w64 ((hPick x 13) - 6)))) 0)) h1 rfl rfl rfl ?_)
  refine ao 82 rfl rfl (st_move (v := .bool (ivHas (hornerNil (ivWhole (w64 ((hPick x 13) - 6)))) 0)) rfl rfl ?_)
  refine bool_split (ivHas (hornerNil (ivWhole (w64 ((hPick x 13) - 6)))) 0) (fun h2 => ?_) (fun h2 => nomatch (show false = true from (show (lawPolyEncloses0 x m n) = _ from (eT h1 (eF h2 rfl))).symm.trans H))
  refine ar_gd (d := (some 83)) (by show ((ivHas (hornerNil (ivWhole (w64 ((hPick x 13) - 6)))) 0) == true) = true; rw [h2]; rfl) rfl (st_fa (g := g2) (off := 0) rfl fa26_0 rfl ?_)
  refine ar_gd (d := (some 84)) (by show ((ivHas (hornerNil (ivWhole (w64 ((hPick x 13) - 6)))) 0) == true) = true; rw [h2]; rfl) rfl (st_ldc (g := g2) (off := 0) (v := .int .i64 ((hornerNil (ivWhole (w64 ((hPick x 13) - 6)))).lo)) cell3 0 rfl rfl rfl rfl rfl ?_)
  refine ar_gd (d := (some 85)) (by show ((ivHas (hornerNil (ivWhole (w64 ((hPick x 13) - 6)))) 0) == true) = true; rw [h2]; rfl) rfl (st_fa (g := g2) (off := 0) rfl fa26_1 rfl ?_)
  refine ar_gd (d := (some 86)) (by show ((ivHas (hornerNil (ivWhole (w64 ((hPick x 13) - 6)))) 0) == true) = true; rw [h2]; rfl) rfl (st_ldc (g := g2) (off := 1) (v := .int .i64 ((hornerNil (ivWhole (w64 ((hPick x 13) - 6)))).hi)) cell3 0 rfl rfl rfl rfl rfl ?_)
  refine ar_gd (d := (some 87)) (by show ((ivHas (hornerNil (ivWhole (w64 ((hPick x 13) - 6)))) 0) == true) = true; rw [h2]; rfl) rfl (st_bi (u := .int .i64 ((hornerNil (ivWhole (w64 ((hPick x 13) - 6)))).lo)) (v := .int .i64 ((hornerNil (ivWhole (w64 ((hPick x 13) - 6)))).hi)) (r := .bool (((hornerNil (ivWhole (w64 ((hPick x 13) - 6)))).lo) == ((hornerNil (ivWhole (w64 ((hPick x 13) - 6)))).hi))) rfl rfl rfl (bi_eql rfl) ?_)
  refine ao 88 rfl rfl (st_pkt' (b := ivHas (hornerNil (ivWhole (w64 ((hPick x 13) - 6)))) 0) (v := .bool (((hornerNil (ivWhole (w64 ((hPick x 13) - 6)))).lo) == ((hornerNil (ivWhole (w64 ((hPick x 13) - 6)))).hi))) h2 rfl rfl rfl ?_)
  refine ao 89 rfl rfl (st_move (v := .bool (((hornerNil (ivWhole (w64 ((hPick x 13) - 6)))).lo) == ((hornerNil (ivWhole (w64 ((hPick x 13) - 6)))).hi))) rfl rfl ?_)
  refine bool_split (((hornerNil (ivWhole (w64 ((hPick x 13) - 6)))).lo) == ((hornerNil (ivWhole (w64 ((hPick x 13) - 6)))).hi)) (fun h3 => ?_) (fun h3 => nomatch (show false = true from (show (lawPolyEncloses0 x m n) = _ from (eT h1 (eT h2 (eF h3 rfl)))).symm.trans H))
  refine ar_gd (d := (some 90)) (by show ((((hornerNil (ivWhole (w64 ((hPick x 13) - 6)))).lo) == ((hornerNil (ivWhole (w64 ((hPick x 13) - 6)))).hi)) == true) = true; rw [h3]; rfl) rfl (st_lda (g := g1) (off := 0) (vs := [.int .i64 ((hornerNil (lawPolyEncloses0_e0 x m n)).lo), .int .i64 ((hornerNil (lawPolyEncloses0_e0 x m n)).hi), .bool ((hornerNil (lawPolyEncloses0_e0 x m n)).no)]) agg26 1 rfl rfl rfl rfl rfl rfl ?_)
  refine ar_gd (d := (some 91)) (by show ((((hornerNil (ivWhole (w64 ((hPick x 13) - 6)))).lo) == ((hornerNil (ivWhole (w64 ((hPick x 13) - 6)))).hi)) == true) = true; rw [h3]; rfl) rfl (st_cf (vs := [.agg #[.int .i64 ((hornerNil (lawPolyEncloses0_e0 x m n)).lo), .int .i64 ((hornerNil (lawPolyEncloses0_e0 x m n)).hi), .bool ((hornerNil (lawPolyEncloses0_e0 x m n)).no)]]) (r := .bool (ivRight (hornerNil (lawPolyEncloses0_e0 x m n)))) (c_ivRight (hornerNil (lawPolyEncloses0_e0 x m n))) Try.func25 rfl (by decide) rfl rfl rfl ?_)
  refine ar_gd (d := (some 92)) (by show ((((hornerNil (ivWhole (w64 ((hPick x 13) - 6)))).lo) == ((hornerNil (ivWhole (w64 ((hPick x 13) - 6)))).hi)) == true) = true; rw [h3]; rfl) rfl (st_un (u := .bool (ivRight (hornerNil (lawPolyEncloses0_e0 x m n)))) (v := .bool (!(ivRight (hornerNil (lawPolyEncloses0_e0 x m n))))) rfl rfl (un_not rfl) ?_)
  refine ar_gd (d := (some 93)) (by show ((((hornerNil (ivWhole (w64 ((hPick x 13) - 6)))).lo) == ((hornerNil (ivWhole (w64 ((hPick x 13) - 6)))).hi)) == true) = true; rw [h3]; rfl) rfl (st_move (v := .bool (!(ivRight (hornerNil (lawPolyEncloses0_e0 x m n))))) rfl rfl ?_)
  refine bool_split (ivRight (hornerNil (lawPolyEncloses0_e0 x m n))) (fun h4 => ?_) (fun h4 => ?_)
  · refine ar_gd (d := (some 94)) (by show ((!(ivRight (hornerNil (lawPolyEncloses0_e0 x m n)))) == false) = true; rw [h4]; rfl) rfl (st_lda (g := g2) (off := 0) (vs := [.int .i64 ((hornerNil (ivWhole (w64 ((hPick x 13) - 6)))).lo), .int .i64 ((hornerNil (ivWhole (w64 ((hPick x 13) - 6)))).hi), .bool ((hornerNil (ivWhole (w64 ((hPick x 13) - 6)))).no)]) agg26 0 rfl rfl rfl rfl rfl rfl ?_)
    refine ar_gd (d := (some 95)) (by show ((!(ivRight (hornerNil (lawPolyEncloses0_e0 x m n)))) == false) = true; rw [h4]; rfl) rfl (st_lda (g := g1) (off := 0) (vs := [.int .i64 ((hornerNil (lawPolyEncloses0_e0 x m n)).lo), .int .i64 ((hornerNil (lawPolyEncloses0_e0 x m n)).hi), .bool ((hornerNil (lawPolyEncloses0_e0 x m n)).no)]) agg26 1 rfl rfl rfl rfl rfl rfl ?_)
    refine ar_gd (d := (some 96)) (by show ((!(ivRight (hornerNil (lawPolyEncloses0_e0 x m n)))) == false) = true; rw [h4]; rfl) rfl (st_cf (vs := [.agg #[.int .i64 ((hornerNil (ivWhole (w64 ((hPick x 13) - 6)))).lo), .int .i64 ((hornerNil (ivWhole (w64 ((hPick x 13) - 6)))).hi), .bool ((hornerNil (ivWhole (w64 ((hPick x 13) - 6)))).no)], .agg #[.int .i64 ((hornerNil (lawPolyEncloses0_e0 x m n)).lo), .int .i64 ((hornerNil (lawPolyEncloses0_e0 x m n)).hi), .bool ((hornerNil (lawPolyEncloses0_e0 x m n)).no)]]) (r := .bool (lawPolyEncloses0_e1 x m n)) (c_ivInside (hornerNil (ivWhole (w64 ((hPick x 13) - 6)))) (hornerNil (lawPolyEncloses0_e0 x m n))) Try.func26 rfl (by decide) rfl rfl rfl ?_)
    refine ar_gd (d := (some 97)) (by show ((((hornerNil (ivWhole (w64 ((hPick x 13) - 6)))).lo) == ((hornerNil (ivWhole (w64 ((hPick x 13) - 6)))).hi)) == true) = true; rw [h3]; rfl) rfl (st_pkf' (b := !(ivRight (hornerNil (lawPolyEncloses0_e0 x m n)))) (v := .bool (lawPolyEncloses0_e1 x m n)) (by rw [h4]; rfl) rfl rfl rfl ?_)
    refine ao 98 rfl rfl (st_pkt' (b := ((hornerNil (ivWhole (w64 ((hPick x 13) - 6)))).lo) == ((hornerNil (ivWhole (w64 ((hPick x 13) - 6)))).hi)) (v := .bool (lawPolyEncloses0_e1 x m n)) h3 rfl rfl rfl ?_)
    refine ao 8 rfl rfl (st_assign (v := .bool (lawPolyEncloses0_e1 x m n)) rfl rfl ?_)
    refine ar_nil ?_
    refine ac_ret ?_
    exact fin_eq (v := .bool (lawPolyEncloses0_e1 x m n)) (congrArg Value.bool (show (lawPolyEncloses0_e1 x m n) = true from (show (lawPolyEncloses0 x m n) = _ from (eT h1 (eT h2 (eT h3 (eT h4 rfl))))).symm.trans H)) (fin_ret (res_tmp rfl rfl))
  · refine ar_sk (d := (some 94)) (by show ((!(ivRight (hornerNil (lawPolyEncloses0_e0 x m n)))) == false) = false; rw [h4]; rfl) rfl ?_
    refine ar_sk (d := (some 95)) (by show ((!(ivRight (hornerNil (lawPolyEncloses0_e0 x m n)))) == false) = false; rw [h4]; rfl) rfl ?_
    refine ar_sk (d := (some 96)) (by show ((!(ivRight (hornerNil (lawPolyEncloses0_e0 x m n)))) == false) = false; rw [h4]; rfl) rfl ?_
    refine ar_gd (d := (some 97)) (by show ((((hornerNil (ivWhole (w64 ((hPick x 13) - 6)))).lo) == ((hornerNil (ivWhole (w64 ((hPick x 13) - 6)))).hi)) == true) = true; rw [h3]; rfl) rfl (st_pkt' (b := !(ivRight (hornerNil (lawPolyEncloses0_e0 x m n)))) (v := .bool true) (by rw [h4]; rfl) rfl rfl rfl ?_)
    refine ao 98 rfl rfl (st_pkt' (b := ((hornerNil (ivWhole (w64 ((hPick x 13) - 6)))).lo) == ((hornerNil (ivWhole (w64 ((hPick x 13) - 6)))).hi)) (v := .bool true) h3 rfl rfl rfl ?_)
    refine ao 8 rfl rfl (st_assign (v := .bool true) rfl rfl ?_)
    refine ar_nil ?_
    refine ac_ret ?_
    exact fin_eq (by first | rfl | (rw [h4, h3, h2, h1] <;> rfl)) (fin_ret (res_tmp rfl rfl))
end Go.Proofs.Ythngkopcadlciaa
