import Derived.Test.YthngkopcadlciaaK4
import Derived.Test.YthngkopcadlciaaPick
set_option linter.unusedVariables false
set_option linter.unusedSimpArgs false
namespace Go.Proofs.Ythngkopcadlciaa
open Go.RowKit

attribute [local irreducible] AC AR DWalk
def lawPolySlopes_e0 (a : Int) (b : Int) (c : Int) (x : Int) : Iv := (horner [(ivTimes (ivWhole (w64 ((hPick b 41) - 20))) 1), (ivTimes (ivWhole (w64 ((hPick c 41) - 20))) 2)] (ivWhole (w64 ((hPick x 13) - 6))))
def lawPolySlopes_e1 (a : Int) (b : Int) (c : Int) (x : Int) : Iv := (horner [(ivWhole (w64 ((hPick a 41) - 20))), (ivWhole (w64 ((hPick b 41) - 20))), (ivWhole (w64 ((hPick c 41) - 20)))] (ivWhole (w64 ((w64 ((hPick x 13) - 6)) + 1))))
def lawPolySlopes_e2 (a : Int) (b : Int) (c : Int) (x : Int) : Iv := (horner [(ivWhole (w64 ((hPick a 41) - 20))), (ivWhole (w64 ((hPick b 41) - 20))), (ivWhole (w64 ((hPick c 41) - 20)))] (ivWhole (w64 ((w64 ((hPick x 13) - 6)) - 1))))
def lawPolySlopes_e3 (a : Int) (b : Int) (c : Int) (x : Int) : Iv := (ivWhole (w64 ((w64 ((hPick b 41) - 20)) + (w64 ((w64 (2 * (w64 ((hPick c 41) - 20)))) * (w64 ((hPick x 13) - 6)))))))
def lawPolySlopes_e4 (a : Int) (b : Int) (c : Int) (x : Int) : Iv := (ivSub (lawPolySlopes_e1 a b c x) (lawPolySlopes_e2 a b c x))
def lawPolySlopes (a : Int) (b : Int) (c : Int) (x : Int) : Bool := (bif known4 then (bif decide ((lawPolySlopes_e0 a b c x) = (lawPolySlopes_e3 a b c x)) then decide ((lawPolySlopes_e4 a b c x) = (ivTimes (lawPolySlopes_e0 a b c x) 2)) else false) else false)
set_option maxRecDepth 100000 in
theorem c_lawPolySlopes (a : Int) (b : Int) (c : Int) (x : Int) (H : (lawPolySlopes a b c x) = true) : Gets Try.prog 5 #[.int .i64 a, .int .i64 b, .int .i64 c, .int .i64 x] (.bool true) := by
  refine gets_fin Try.func5 rfl rfl rfl ?_
  refine ac_seq ?_
  refine ac_region_lit ?_
  refine ao 8 rfl rfl (st_assign (v := .bool false) rfl rfl ?_)
  refine ar_nil ?_
  refine ac_seq ?_
  refine ac_region_lit ?_
  refine ao 13 rfl rfl (st_move (v := .int .i64 a) rfl rfl ?_)
  refine ao 14 rfl rfl (st_cf (vs := [.int .i64 a, .int .i64 41]) (r := .int .i64 (hPick a 41)) (c_hPick a 41 (by decide)) Try.func19 rfl (by decide) rfl rfl rfl ?_)
  refine ao 15 rfl rfl (st_bi (u := .int .i64 (hPick a 41)) (v := .int .i64 20) (r := .int .i64 (w64 ((hPick a 41) - 20))) rfl rfl rfl (bi_sub rfl) ?_)
  refine ao 0 rfl rfl (st_assign (v := .int .i64 (w64 ((hPick a 41) - 20))) rfl rfl ?_)
  refine ar_nil ?_
  refine ac_seq ?_
  refine ac_region_lit ?_
  refine ao 16 rfl rfl (st_move (v := .int .i64 b) rfl rfl ?_)
  refine ao 17 rfl rfl (st_cf (vs := [.int .i64 b, .int .i64 41]) (r := .int .i64 (hPick b 41)) (c_hPick b 41 (by decide)) Try.func19 rfl (by decide) rfl rfl rfl ?_)
  refine ao 18 rfl rfl (st_bi (u := .int .i64 (hPick b 41)) (v := .int .i64 20) (r := .int .i64 (w64 ((hPick b 41) - 20))) rfl rfl rfl (bi_sub rfl) ?_)
  refine ao 1 rfl rfl (st_assign (v := .int .i64 (w64 ((hPick b 41) - 20))) rfl rfl ?_)
  refine ar_nil ?_
  refine ac_seq ?_
  refine ac_region_lit ?_
  refine ao 19 rfl rfl (st_move (v := .int .i64 c) rfl rfl ?_)
  refine ao 20 rfl rfl (st_cf (vs := [.int .i64 c, .int .i64 41]) (r := .int .i64 (hPick c 41)) (c_hPick c 41 (by decide)) Try.func19 rfl (by decide) rfl rfl rfl ?_)
  refine ao 21 rfl rfl (st_bi (u := .int .i64 (hPick c 41)) (v := .int .i64 20) (r := .int .i64 (w64 ((hPick c 41) - 20))) rfl rfl rfl (bi_sub rfl) ?_)
  refine ao 2 rfl rfl (st_assign (v := .int .i64 (w64 ((hPick c 41) - 20))) rfl rfl ?_)
  refine ar_nil ?_
  refine ac_seq ?_
  refine ac_region_lit ?_
  refine ao 22 rfl rfl (st_move (v := .int .i64 x) rfl rfl ?_)
  refine ao 23 rfl rfl (st_cf (vs := [.int .i64 x, .int .i64 13]) (r := .int .i64 (hPick x 13)) (c_hPick x 13 (by decide)) Try.func19 rfl (by decide) rfl rfl rfl ?_)
  refine ao 24 rfl rfl (st_bi (u := .int .i64 (hPick x 13)) (v := .int .i64 6) (r := .int .i64 (w64 ((hPick x 13) - 6))) rfl rfl rfl (bi_sub rfl) ?_)
  refine ao 3 rfl rfl (st_assign (v := .int .i64 (w64 ((hPick x 13) - 6))) rfl rfl ?_)
  refine ar_nil ?_
  refine ac_seq ?_
  refine ac_region_lit ?_
  refine ao 25 rfl rfl (st_move (v := .int .i64 (w64 ((hPick a 41) - 20))) rfl rfl ?_)
  refine ao 26 rfl rfl (st_cf (vs := [.int .i64 (w64 ((hPick a 41) - 20))]) (r := .agg #[.int .i64 ((ivWhole (w64 ((hPick a 41) - 20))).lo), .int .i64 ((ivWhole (w64 ((hPick a 41) - 20))).hi), .bool ((ivWhole (w64 ((hPick a 41) - 20))).no)]) (c_ivWhole (w64 ((hPick a 41) - 20))) Try.func21 rfl (by decide) rfl rfl rfl ?_)
  refine ao 27 rfl rfl (st_move (v := .int .i64 (w64 ((hPick b 41) - 20))) rfl rfl ?_)
  refine ao 28 rfl rfl (st_cf (vs := [.int .i64 (w64 ((hPick b 41) - 20))]) (r := .agg #[.int .i64 ((ivWhole (w64 ((hPick b 41) - 20))).lo), .int .i64 ((ivWhole (w64 ((hPick b 41) - 20))).hi), .bool ((ivWhole (w64 ((hPick b 41) - 20))).no)]) (c_ivWhole (w64 ((hPick b 41) - 20))) Try.func21 rfl (by decide) rfl rfl rfl ?_)
  refine ao 29 rfl rfl (st_move (v := .int .i64 (w64 ((hPick c 41) - 20))) rfl rfl ?_)
  refine ao 30 rfl rfl (st_cf (vs := [.int .i64 (w64 ((hPick c 41) - 20))]) (r := .agg #[.int .i64 ((ivWhole (w64 ((hPick c 41) - 20))).lo), .int .i64 ((ivWhole (w64 ((hPick c 41) - 20))).hi), .bool ((ivWhole (w64 ((hPick c 41) - 20))).no)]) (c_ivWhole (w64 ((hPick c 41) - 20))) Try.func21 rfl (by decide) rfl rfl rfl ?_)
  refine ao 31 rfl rfl (st_bs (us := [(0, .agg #[.int .i64 ((ivWhole (w64 ((hPick a 41) - 20))).lo), .int .i64 ((ivWhole (w64 ((hPick a 41) - 20))).hi), .bool ((ivWhole (w64 ((hPick a 41) - 20))).no)]), (1, .agg #[.int .i64 ((ivWhole (w64 ((hPick b 41) - 20))).lo), .int .i64 ((ivWhole (w64 ((hPick b 41) - 20))).hi), .bool ((ivWhole (w64 ((hPick b 41) - 20))).no)]), (2, .agg #[.int .i64 ((ivWhole (w64 ((hPick c 41) - 20))).lo), .int .i64 ((ivWhole (w64 ((hPick c 41) - 20))).hi), .bool ((ivWhole (w64 ((hPick c 41) - 20))).no)])]) (cs := [.int .i64 ((ivWhole (w64 ((hPick a 41) - 20))).lo), .int .i64 ((ivWhole (w64 ((hPick a 41) - 20))).hi), .bool ((ivWhole (w64 ((hPick a 41) - 20))).no), .int .i64 ((ivWhole (w64 ((hPick b 41) - 20))).lo), .int .i64 ((ivWhole (w64 ((hPick b 41) - 20))).hi), .bool ((ivWhole (w64 ((hPick b 41) - 20))).no), .int .i64 ((ivWhole (w64 ((hPick c 41) - 20))).lo), .int .i64 ((ivWhole (w64 ((hPick c 41) - 20))).hi), .bool ((ivWhole (w64 ((hPick c 41) - 20))).no)]) rfl rfl (bs24_3_0a_1a_2a _ _ _ _ _ _ _ _ _) fun g0 => ?_)
  refine ao 9 rfl rfl (st_assign (v := .slice (some ⟨g0, 0, none⟩) 3 3) rfl rfl ?_)
  refine ar_nil ?_
  refine ac_seq ?_
  refine ac_region_lit ?_
  refine ao 32 rfl rfl (st_move (v := .slice (some ⟨g0, 0, none⟩) 3 3) rfl rfl ?_)
  refine ao 33 rfl rfl (st_gv (vs := [.slice (some ⟨g0, 0, none⟩) 3 3]) (R := [⟨g0, [.int .i64 ((ivWhole (w64 ((hPick a 41) - 20))).lo), .int .i64 ((ivWhole (w64 ((hPick a 41) - 20))).hi), .bool ((ivWhole (w64 ((hPick a 41) - 20))).no), .int .i64 ((ivWhole (w64 ((hPick b 41) - 20))).lo), .int .i64 ((ivWhole (w64 ((hPick b 41) - 20))).hi), .bool ((ivWhole (w64 ((hPick b 41) - 20))).no), .int .i64 ((ivWhole (w64 ((hPick c 41) - 20))).lo), .int .i64 ((ivWhole (w64 ((hPick c 41) - 20))).hi), .bool ((ivWhole (w64 ((hPick c 41) - 20))).no)], 26, true⟩]) (c_slope3 (ivWhole (w64 ((hPick a 41) - 20))) (ivWhole (w64 ((hPick b 41) - 20))) (ivWhole (w64 ((hPick c 41) - 20))) 3 g0 ([])) Try.func27 rfl (by decide) rfl rfl rfl (has_cons 0 _ rfl rfl rfl rfl has_nil) (by simp) fun v9 N9 R9 => ?_)
  obtain ⟨g1, cg1, rg1, rfl, rfl, fg1⟩ := R9.pos (by decide)
  refine ao 34 rfl rfl (st_move (v := .int .i64 (w64 ((hPick x 13) - 6))) rfl rfl ?_)
  refine ao 35 rfl rfl (st_cf (vs := [.int .i64 (w64 ((hPick x 13) - 6))]) (r := .agg #[.int .i64 ((ivWhole (w64 ((hPick x 13) - 6))).lo), .int .i64 ((ivWhole (w64 ((hPick x 13) - 6))).hi), .bool ((ivWhole (w64 ((hPick x 13) - 6))).no)]) (c_ivWhole (w64 ((hPick x 13) - 6))) Try.func21 rfl (by decide) rfl rfl rfl ?_)
  refine ao 36 rfl rfl (st_gr (vs := [.slice (some ⟨g1, 0, none⟩) 2 cg1, .agg #[.int .i64 ((ivWhole (w64 ((hPick x 13) - 6))).lo), .int .i64 ((ivWhole (w64 ((hPick x 13) - 6))).hi), .bool ((ivWhole (w64 ((hPick x 13) - 6))).no)]]) (R := [⟨g1, [.int .i64 ((ivTimes (ivWhole (w64 ((hPick b 41) - 20))) 1).lo), .int .i64 ((ivTimes (ivWhole (w64 ((hPick b 41) - 20))) 1).hi), .bool ((ivTimes (ivWhole (w64 ((hPick b 41) - 20))) 1).no), .int .i64 ((ivTimes (ivWhole (w64 ((hPick c 41) - 20))) 2).lo), .int .i64 ((ivTimes (ivWhole (w64 ((hPick c 41) - 20))) 2).hi), .bool ((ivTimes (ivWhole (w64 ((hPick c 41) - 20))) 2).no)] ++ rg1, 26, true⟩]) (r := .agg #[.int .i64 ((lawPolySlopes_e0 a b c x).lo), .int .i64 ((lawPolySlopes_e0 a b c x).hi), .bool ((lawPolySlopes_e0 a b c x).no)]) (c_horner (ivTimes (ivWhole (w64 ((hPick b 41) - 20))) 1) [(ivTimes (ivWhole (w64 ((hPick c 41) - 20))) 2)] cg1 g1 rg1 (ivWhole (w64 ((hPick x 13) - 6))) (fg1.2.2.1) (Nat.le_of_ble_eq_true rfl)) Try.func22 rfl (by decide) rfl rfl rfl (has_cons 0 _ rfl rfl rfl rfl has_nil) (by simp) ?_)
  refine ao 10 rfl rfl (st_new zero26 rfl fun g2 => ?_)
  refine ar_op (d := none) rfl rfl (st_sta (g := g2) (off := 0) (us := [.int .i64 ((lawPolySlopes_e0 a b c x).lo), .int .i64 ((lawPolySlopes_e0 a b c x).hi), .bool ((lawPolySlopes_e0 a b c x).no)]) (cs := [.int .i64 ((lawPolySlopes_e0 a b c x).lo), .int .i64 ((lawPolySlopes_e0 a b c x).hi), .bool ((lawPolySlopes_e0 a b c x).no)]) agg26 0 rfl rfl rfl rfl rfl rfl rfl rfl rfl ?_)
  refine ar_nil ?_
  refine ac_seq ?_
  refine ac_region_lit ?_
  refine ao 37 rfl rfl (st_move (v := .slice (some ⟨g0, 0, none⟩) 3 3) rfl rfl ?_)
  refine ao 38 rfl rfl (st_move (v := .int .i64 (w64 ((hPick x 13) - 6))) rfl rfl ?_)
  refine ao 39 rfl rfl (st_bi (u := .int .i64 (w64 ((hPick x 13) - 6))) (v := .int .i64 1) (r := .int .i64 (w64 ((w64 ((hPick x 13) - 6)) + 1))) rfl rfl rfl (bi_add rfl) ?_)
  refine ao 40 rfl rfl (st_cf (vs := [.int .i64 (w64 ((w64 ((hPick x 13) - 6)) + 1))]) (r := .agg #[.int .i64 ((ivWhole (w64 ((w64 ((hPick x 13) - 6)) + 1))).lo), .int .i64 ((ivWhole (w64 ((w64 ((hPick x 13) - 6)) + 1))).hi), .bool ((ivWhole (w64 ((w64 ((hPick x 13) - 6)) + 1))).no)]) (c_ivWhole (w64 ((w64 ((hPick x 13) - 6)) + 1))) Try.func21 rfl (by decide) rfl rfl rfl ?_)
  refine ao 41 rfl rfl (st_gr (vs := [.slice (some ⟨g0, 0, none⟩) 3 3, .agg #[.int .i64 ((ivWhole (w64 ((w64 ((hPick x 13) - 6)) + 1))).lo), .int .i64 ((ivWhole (w64 ((w64 ((hPick x 13) - 6)) + 1))).hi), .bool ((ivWhole (w64 ((w64 ((hPick x 13) - 6)) + 1))).no)]]) (R := [⟨g0, [.int .i64 ((ivWhole (w64 ((hPick a 41) - 20))).lo), .int .i64 ((ivWhole (w64 ((hPick a 41) - 20))).hi), .bool ((ivWhole (w64 ((hPick a 41) - 20))).no), .int .i64 ((ivWhole (w64 ((hPick b 41) - 20))).lo), .int .i64 ((ivWhole (w64 ((hPick b 41) - 20))).hi), .bool ((ivWhole (w64 ((hPick b 41) - 20))).no), .int .i64 ((ivWhole (w64 ((hPick c 41) - 20))).lo), .int .i64 ((ivWhole (w64 ((hPick c 41) - 20))).hi), .bool ((ivWhole (w64 ((hPick c 41) - 20))).no)], 26, true⟩]) (r := .agg #[.int .i64 ((lawPolySlopes_e1 a b c x).lo), .int .i64 ((lawPolySlopes_e1 a b c x).hi), .bool ((lawPolySlopes_e1 a b c x).no)]) (c_horner (ivWhole (w64 ((hPick a 41) - 20))) [(ivWhole (w64 ((hPick b 41) - 20))), (ivWhole (w64 ((hPick c 41) - 20)))] 3 g0 ([]) (ivWhole (w64 ((w64 ((hPick x 13) - 6)) + 1))) (Nat.le_of_ble_eq_true rfl) (Nat.le_of_ble_eq_true rfl)) Try.func22 rfl (by decide) rfl rfl rfl (has_cons 2 _ rfl rfl rfl rfl has_nil) (by simp) ?_)
  refine ao 11 rfl rfl (st_new zero26 rfl fun g3 => ?_)
  refine ar_op (d := none) rfl rfl (st_sta (g := g3) (off := 0) (us := [.int .i64 ((lawPolySlopes_e1 a b c x).lo), .int .i64 ((lawPolySlopes_e1 a b c x).hi), .bool ((lawPolySlopes_e1 a b c x).no)]) (cs := [.int .i64 ((lawPolySlopes_e1 a b c x).lo), .int .i64 ((lawPolySlopes_e1 a b c x).hi), .bool ((lawPolySlopes_e1 a b c x).no)]) agg26 0 rfl rfl rfl rfl rfl rfl rfl rfl rfl ?_)
  refine ar_nil ?_
  refine ac_seq ?_
  refine ac_region_lit ?_
  refine ao 42 rfl rfl (st_move (v := .slice (some ⟨g0, 0, none⟩) 3 3) rfl rfl ?_)
  refine ao 43 rfl rfl (st_move (v := .int .i64 (w64 ((hPick x 13) - 6))) rfl rfl ?_)
  refine ao 44 rfl rfl (st_bi (u := .int .i64 (w64 ((hPick x 13) - 6))) (v := .int .i64 1) (r := .int .i64 (w64 ((w64 ((hPick x 13) - 6)) - 1))) rfl rfl rfl (bi_sub rfl) ?_)
  refine ao 45 rfl rfl (st_cf (vs := [.int .i64 (w64 ((w64 ((hPick x 13) - 6)) - 1))]) (r := .agg #[.int .i64 ((ivWhole (w64 ((w64 ((hPick x 13) - 6)) - 1))).lo), .int .i64 ((ivWhole (w64 ((w64 ((hPick x 13) - 6)) - 1))).hi), .bool ((ivWhole (w64 ((w64 ((hPick x 13) - 6)) - 1))).no)]) (c_ivWhole (w64 ((w64 ((hPick x 13) - 6)) - 1))) Try.func21 rfl (by decide) rfl rfl rfl ?_)
  refine ao 46 rfl rfl (st_gr (vs := [.slice (some ⟨g0, 0, none⟩) 3 3, .agg #[.int .i64 ((ivWhole (w64 ((w64 ((hPick x 13) - 6)) - 1))).lo), .int .i64 ((ivWhole (w64 ((w64 ((hPick x 13) - 6)) - 1))).hi), .bool ((ivWhole (w64 ((w64 ((hPick x 13) - 6)) - 1))).no)]]) (R := [⟨g0, [.int .i64 ((ivWhole (w64 ((hPick a 41) - 20))).lo), .int .i64 ((ivWhole (w64 ((hPick a 41) - 20))).hi), .bool ((ivWhole (w64 ((hPick a 41) - 20))).no), .int .i64 ((ivWhole (w64 ((hPick b 41) - 20))).lo), .int .i64 ((ivWhole (w64 ((hPick b 41) - 20))).hi), .bool ((ivWhole (w64 ((hPick b 41) - 20))).no), .int .i64 ((ivWhole (w64 ((hPick c 41) - 20))).lo), .int .i64 ((ivWhole (w64 ((hPick c 41) - 20))).hi), .bool ((ivWhole (w64 ((hPick c 41) - 20))).no)], 26, true⟩]) (r := .agg #[.int .i64 ((lawPolySlopes_e2 a b c x).lo), .int .i64 ((lawPolySlopes_e2 a b c x).hi), .bool ((lawPolySlopes_e2 a b c x).no)]) (c_horner (ivWhole (w64 ((hPick a 41) - 20))) [(ivWhole (w64 ((hPick b 41) - 20))), (ivWhole (w64 ((hPick c 41) - 20)))] 3 g0 ([]) (ivWhole (w64 ((w64 ((hPick x 13) - 6)) - 1))) (Nat.le_of_ble_eq_true rfl) (Nat.le_of_ble_eq_true rfl)) Try.func22 rfl (by decide) rfl rfl rfl (has_cons 3 _ rfl rfl rfl rfl has_nil) (by simp) ?_)
  refine ao 12 rfl rfl (st_new zero26 rfl fun g4 => ?_)
  refine ar_op (d := none) rfl rfl (st_sta (g := g4) (off := 0) (us := [.int .i64 ((lawPolySlopes_e2 a b c x).lo), .int .i64 ((lawPolySlopes_e2 a b c x).hi), .bool ((lawPolySlopes_e2 a b c x).no)]) (cs := [.int .i64 ((lawPolySlopes_e2 a b c x).lo), .int .i64 ((lawPolySlopes_e2 a b c x).hi), .bool ((lawPolySlopes_e2 a b c x).no)]) agg26 0 rfl rfl rfl rfl rfl rfl rfl rfl rfl ?_)
  refine ar_nil ?_
  refine ac_seq ?_
  refine ac_draw0 (id := 9) [0, 1, 2, 3, 4, 5, 6, 7, 8, 9, 10, 11, 12, 13, 14, 15, 16, 17, 18, 19, 20] [] _ (by kernel_rfl) follows rfl  ?_
  refine dw_op (d := (some 47)) (.bool known4) rfl rfl rfl (st_cf (vs := []) (r := .bool known4) c_known4 Try.func23 rfl (by decide) rfl rfl rfl ⟨rfl, rfl⟩) ?_
  refine dw_op (d := (some 48)) (.bool known4) rfl rfl rfl (st_move (v := .bool known4) rfl rfl ⟨rfl, rfl⟩) ?_
  refine bool_split (known4) (fun h1 => ?_) (fun h1 => nomatch (show false = true from (show (lawPolySlopes a b c x) = _ from (eF h1 rfl)).symm.trans H))
  refine dw_gd (d := (some 49)) (.agg #[.int .i64 ((lawPolySlopes_e0 a b c x).lo), .int .i64 ((lawPolySlopes_e0 a b c x).hi), .bool ((lawPolySlopes_e0 a b c x).no)]) rfl (by show (known4 == true) = true; rw [h1]; rfl) rfl (st_lda (g := g2) (off := 0) (vs := [.int .i64 ((lawPolySlopes_e0 a b c x).lo), .int .i64 ((lawPolySlopes_e0 a b c x).hi), .bool ((lawPolySlopes_e0 a b c x).no)]) agg26 2 rfl rfl rfl rfl rfl rfl ⟨rfl, rfl⟩) ?_
  refine dw_gd (d := (some 50)) (.int .i64 (w64 ((hPick b 41) - 20))) rfl (by show (known4 == true) = true; rw [h1]; rfl) rfl (st_move (v := .int .i64 (w64 ((hPick b 41) - 20))) rfl rfl ⟨rfl, rfl⟩) ?_
  refine dw_gd (d := (some 51)) (.int .i64 (w64 ((hPick c 41) - 20))) rfl (by show (known4 == true) = true; rw [h1]; rfl) rfl (st_move (v := .int .i64 (w64 ((hPick c 41) - 20))) rfl rfl ⟨rfl, rfl⟩) ?_
  refine dw_gd (d := (some 52)) (.int .i64 (w64 (2 * (w64 ((hPick c 41) - 20))))) rfl (by show (known4 == true) = true; rw [h1]; rfl) rfl (st_bi (u := .int .i64 2) (v := .int .i64 (w64 ((hPick c 41) - 20))) (r := .int .i64 (w64 (2 * (w64 ((hPick c 41) - 20))))) rfl rfl rfl (bi_mul rfl) ⟨rfl, rfl⟩) ?_
  refine dw_gd (d := (some 53)) (.int .i64 (w64 ((hPick x 13) - 6))) rfl (by show (known4 == true) = true; rw [h1]; rfl) rfl (st_move (v := .int .i64 (w64 ((hPick x 13) - 6))) rfl rfl ⟨rfl, rfl⟩) ?_
  refine dw_gd (d := (some 54)) (.int .i64 (w64 ((w64 (2 * (w64 ((hPick c 41) - 20)))) * (w64 ((hPick x 13) - 6))))) rfl (by show (known4 == true) = true; rw [h1]; rfl) rfl (st_bi (u := .int .i64 (w64 (2 * (w64 ((hPick c 41) - 20))))) (v := .int .i64 (w64 ((hPick x 13) - 6))) (r := .int .i64 (w64 ((w64 (2 * (w64 ((hPick c 41) - 20)))) * (w64 ((hPick x 13) - 6))))) rfl rfl rfl (bi_mul rfl) ⟨rfl, rfl⟩) ?_
  refine dw_gd (d := (some 55)) (.int .i64 (w64 ((w64 ((hPick b 41) - 20)) + (w64 ((w64 (2 * (w64 ((hPick c 41) - 20)))) * (w64 ((hPick x 13) - 6))))))) rfl (by show (known4 == true) = true; rw [h1]; rfl) rfl (st_bi (u := .int .i64 (w64 ((hPick b 41) - 20))) (v := .int .i64 (w64 ((w64 (2 * (w64 ((hPick c 41) - 20)))) * (w64 ((hPick x 13) - 6))))) (r := .int .i64 (w64 ((w64 ((hPick b 41) - 20)) + (w64 ((w64 (2 * (w64 ((hPick c 41) - 20)))) * (w64 ((hPick x 13) - 6))))))) rfl rfl rfl (bi_add rfl) ⟨rfl, rfl⟩) ?_
  refine dw_gd (d := (some 56)) (.agg #[.int .i64 ((lawPolySlopes_e3 a b c x).lo), .int .i64 ((lawPolySlopes_e3 a b c x).hi), .bool ((lawPolySlopes_e3 a b c x).no)]) rfl (by show (known4 == true) = true; rw [h1]; rfl) rfl (st_cf (vs := [.int .i64 (w64 ((w64 ((hPick b 41) - 20)) + (w64 ((w64 (2 * (w64 ((hPick c 41) - 20)))) * (w64 ((hPick x 13) - 6))))))]) (r := .agg #[.int .i64 ((lawPolySlopes_e3 a b c x).lo), .int .i64 ((lawPolySlopes_e3 a b c x).hi), .bool ((lawPolySlopes_e3 a b c x).no)]) (c_ivWhole (w64 ((w64 ((hPick b 41) - 20)) + (w64 ((w64 (2 * (w64 ((hPick c 41) - 20)))) * (w64 ((hPick x 13) - 6))))))) Try.func21 rfl (by decide) rfl rfl rfl ⟨rfl, rfl⟩) ?_
  refine dw_gd (d := (some 57)) (.bool (decide ((lawPolySlopes_e0 a b c x) = (lawPolySlopes_e3 a b c x)))) rfl (by show (known4 == true) = true; rw [h1]; rfl) rfl (st_bi (u := .agg #[.int .i64 ((lawPolySlopes_e0 a b c x).lo), .int .i64 ((lawPolySlopes_e0 a b c x).hi), .bool ((lawPolySlopes_e0 a b c x).no)]) (v := .agg #[.int .i64 ((lawPolySlopes_e3 a b c x).lo), .int .i64 ((lawPolySlopes_e3 a b c x).hi), .bool ((lawPolySlopes_e3 a b c x).no)]) (r := .bool (decide ((lawPolySlopes_e0 a b c x) = (lawPolySlopes_e3 a b c x)))) rfl rfl rfl (beql_26 (lawPolySlopes_e0 a b c x) (lawPolySlopes_e3 a b c x) rfl) ⟨rfl, rfl⟩) ?_
  refine dw_op (d := (some 58)) (.bool (decide ((lawPolySlopes_e0 a b c x) = (lawPolySlopes_e3 a b c x)))) rfl rfl rfl (st_pkt' (b := known4) (v := .bool (decide ((lawPolySlopes_e0 a b c x) = (lawPolySlopes_e3 a b c x)))) h1 rfl rfl rfl ⟨rfl, rfl⟩) ?_
  refine dw_op (d := (some 59)) (.bool (decide ((lawPolySlopes_e0 a b c x) = (lawPolySlopes_e3 a b c x)))) rfl rfl rfl (st_move (v := .bool (decide ((lawPolySlopes_e0 a b c x) = (lawPolySlopes_e3 a b c x)))) rfl rfl ⟨rfl, rfl⟩) ?_
  refine bool_split (decide ((lawPolySlopes_e0 a b c x) = (lawPolySlopes_e3 a b c x))) (fun h2 => ?_) (fun h2 => nomatch (show false = true from (show (lawPolySlopes a b c x) = _ from (eT h1 (eF h2 rfl))).symm.trans H))
  refine dw_gd (d := (some 60)) (.agg #[.int .i64 ((lawPolySlopes_e1 a b c x).lo), .int .i64 ((lawPolySlopes_e1 a b c x).hi), .bool ((lawPolySlopes_e1 a b c x).no)]) rfl (by show ((decide ((lawPolySlopes_e0 a b c x) = (lawPolySlopes_e3 a b c x))) == true) = true; rw [h2]; rfl) rfl (st_lda (g := g3) (off := 0) (vs := [.int .i64 ((lawPolySlopes_e1 a b c x).lo), .int .i64 ((lawPolySlopes_e1 a b c x).hi), .bool ((lawPolySlopes_e1 a b c x).no)]) agg26 1 rfl rfl rfl rfl rfl rfl ⟨rfl, rfl⟩) ?_
  refine dw_gd (d := (some 61)) (.agg #[.int .i64 ((lawPolySlopes_e2 a b c x).lo), .int .i64 ((lawPolySlopes_e2 a b c x).hi), .bool ((lawPolySlopes_e2 a b c x).no)]) rfl (by show ((decide ((lawPolySlopes_e0 a b c x) = (lawPolySlopes_e3 a b c x))) == true) = true; rw [h2]; rfl) rfl (st_lda (g := g4) (off := 0) (vs := [.int .i64 ((lawPolySlopes_e2 a b c x).lo), .int .i64 ((lawPolySlopes_e2 a b c x).hi), .bool ((lawPolySlopes_e2 a b c x).no)]) agg26 0 rfl rfl rfl rfl rfl rfl ⟨rfl, rfl⟩) ?_
  refine dw_gd (d := (some 62)) (.agg #[.int .i64 ((lawPolySlopes_e4 a b c x).lo), .int .i64 ((lawPolySlopes_e4 a b c x).hi), .bool ((lawPolySlopes_e4 a b c x).no)]) rfl (by show ((decide ((lawPolySlopes_e0 a b c x) = (lawPolySlopes_e3 a b c x))) == true) = true; rw [h2]; rfl) rfl (st_cf (vs := [.agg #[.int .i64 ((lawPolySlopes_e1 a b c x).lo), .int .i64 ((lawPolySlopes_e1 a b c x).hi), .bool ((lawPolySlopes_e1 a b c x).no)], .agg #[.int .i64 ((lawPolySlopes_e2 a b c x).lo), .int .i64 ((lawPolySlopes_e2 a b c x).hi), .bool ((lawPolySlopes_e2 a b c x).no)]]) (r := .agg #[.int .i64 ((lawPolySlopes_e4 a b c x).lo), .int .i64 ((lawPolySlopes_e4 a b c x).hi), .bool ((lawPolySlopes_e4 a b c x).no)]) (c_ivSub (lawPolySlopes_e1 a b c x) (lawPolySlopes_e2 a b c x)) Try.func30 rfl (by decide) rfl rfl rfl ⟨rfl, rfl⟩) ?_
  refine dw_gd (d := (some 63)) (.agg #[.int .i64 ((lawPolySlopes_e0 a b c x).lo), .int .i64 ((lawPolySlopes_e0 a b c x).hi), .bool ((lawPolySlopes_e0 a b c x).no)]) rfl (by show ((decide ((lawPolySlopes_e0 a b c x) = (lawPolySlopes_e3 a b c x))) == true) = true; rw [h2]; rfl) rfl (st_lda (g := g2) (off := 0) (vs := [.int .i64 ((lawPolySlopes_e0 a b c x).lo), .int .i64 ((lawPolySlopes_e0 a b c x).hi), .bool ((lawPolySlopes_e0 a b c x).no)]) agg26 2 rfl rfl rfl rfl rfl rfl ⟨rfl, rfl⟩) ?_
  refine dw_gd (d := (some 64)) (.agg #[.int .i64 ((ivTimes (lawPolySlopes_e0 a b c x) 2).lo), .int .i64 ((ivTimes (lawPolySlopes_e0 a b c x) 2).hi), .bool ((ivTimes (lawPolySlopes_e0 a b c x) 2).no)]) rfl (by show ((decide ((lawPolySlopes_e0 a b c x) = (lawPolySlopes_e3 a b c x))) == true) = true; rw [h2]; rfl) rfl (st_cf (vs := [.agg #[.int .i64 ((lawPolySlopes_e0 a b c x).lo), .int .i64 ((lawPolySlopes_e0 a b c x).hi), .bool ((lawPolySlopes_e0 a b c x).no)], .int .i64 2]) (r := .agg #[.int .i64 ((ivTimes (lawPolySlopes_e0 a b c x) 2).lo), .int .i64 ((ivTimes (lawPolySlopes_e0 a b c x) 2).hi), .bool ((ivTimes (lawPolySlopes_e0 a b c x) 2).no)]) (c_ivTimes (lawPolySlopes_e0 a b c x) 2) Try.func31 rfl (by decide) rfl rfl rfl ⟨rfl, rfl⟩) ?_
  refine dw_gd (d := (some 65)) (.bool (decide ((lawPolySlopes_e4 a b c x) = (ivTimes (lawPolySlopes_e0 a b c x) 2)))) rfl (by show ((decide ((lawPolySlopes_e0 a b c x) = (lawPolySlopes_e3 a b c x))) == true) = true; rw [h2]; rfl) rfl (st_bi (u := .agg #[.int .i64 ((lawPolySlopes_e4 a b c x).lo), .int .i64 ((lawPolySlopes_e4 a b c x).hi), .bool ((lawPolySlopes_e4 a b c x).no)]) (v := .agg #[.int .i64 ((ivTimes (lawPolySlopes_e0 a b c x) 2).lo), .int .i64 ((ivTimes (lawPolySlopes_e0 a b c x) 2).hi), .bool ((ivTimes (lawPolySlopes_e0 a b c x) 2).no)]) (r := .bool (decide ((lawPolySlopes_e4 a b c x) = (ivTimes (lawPolySlopes_e0 a b c x) 2)))) rfl rfl rfl (beql_26 (lawPolySlopes_e4 a b c x) (ivTimes (lawPolySlopes_e0 a b c x) 2) rfl) ⟨rfl, rfl⟩) ?_
  refine dw_op (d := (some 66)) (.bool (decide ((lawPolySlopes_e4 a b c x) = (ivTimes (lawPolySlopes_e0 a b c x) 2)))) rfl rfl rfl (st_pkt' (b := decide ((lawPolySlopes_e0 a b c x) = (lawPolySlopes_e3 a b c x))) (v := .bool (decide ((lawPolySlopes_e4 a b c x) = (ivTimes (lawPolySlopes_e0 a b c x) 2)))) h2 rfl rfl rfl ⟨rfl, rfl⟩) ?_
  refine dw_op (d := (some 8)) (.bool (decide ((lawPolySlopes_e4 a b c x) = (ivTimes (lawPolySlopes_e0 a b c x) 2)))) rfl rfl rfl (st_assign (v := .bool (decide ((lawPolySlopes_e4 a b c x) = (ivTimes (lawPolySlopes_e0 a b c x) 2)))) rfl rfl ⟨rfl, rfl⟩) ?_
  refine dw_nil ?_
  refine ar_nil ?_
  refine ac_ret ?_
  exact fin_eq (v := .bool (decide ((lawPolySlopes_e4 a b c x) = (ivTimes (lawPolySlopes_e0 a b c x) 2)))) (congrArg Value.bool (show (decide ((lawPolySlopes_e4 a b c x) = (ivTimes (lawPolySlopes_e0 a b c x) 2))) = true from (show (lawPolySlopes a b c x) = _ from (eT h1 (eT h2 rfl))).symm.trans H)) (fin_ret (res_tmp rfl rfl))
end Go.Proofs.Ythngkopcadlciaa
