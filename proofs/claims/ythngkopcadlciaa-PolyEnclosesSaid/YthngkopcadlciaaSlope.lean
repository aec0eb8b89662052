import Derived.Test.YthngkopcadlciaaFacts2
import Derived.Test.YthngkopcadlciaaHorner
import Derived.Test.YthngkopcadlciaaAny
set_option linter.unusedVariables false
set_option linter.unusedSimpArgs false
namespace Go.Proofs.Ythngkopcadlciaa
open Go.RowKit

attribute [local irreducible] AC AR DWalk
set_option maxRecDepth 100000 in
theorem c_slope3 (x0 : Iv) (x1 : Iv) (x2 : Iv) (cap g : Nat) (rest : List Value) : Gives Try.prog 27 #[.slice (some ⟨g, 0, none⟩) 3 cap] [⟨g, [.int .i64 x0.lo, .int .i64 x0.hi, .bool x0.no, .int .i64 x1.lo, .int .i64 x1.hi, .bool x1.no, .int .i64 x2.lo, .int .i64 x2.hi, .bool x2.no] ++ rest, 26, true⟩] (Row 26 3 2 [.int .i64 ((ivTimes x1 1).lo), .int .i64 ((ivTimes x1 1).hi), .bool ((ivTimes x1 1).no), .int .i64 ((ivTimes x2 2).lo), .int .i64 ((ivTimes x2 2).hi), .bool ((ivTimes x2 2).no)]) := by
  refine gives_fin Try.func27 rfl rfl rfl rfl ?_
  refine ac_seq ?_
  refine ac_region_lit ?_
  refine ao 2 rfl rfl (st_assign (v := .slice none 0 0) rfl rfl ?_)
  refine ar_nil ?_
  refine ac_seq ?_
  refine ac_region_lit ?_
  refine ao 3 rfl rfl (st_assign (v := .slice none 0 0) rfl rfl ?_)
  refine ar_nil ?_
  refine ac_seq ?_
  refine ac_seq ?_
  refine ac_region_lit ?_
  refine ao 6 rfl rfl (st_move (v := .slice (some ⟨g, 0, none⟩) 3 cap) rfl rfl ?_)
  refine ao 7 rfl rfl (st_ln (a := some ⟨g, 0, none⟩) (m := 3) (c := cap) rfl Try.underlying24 rfl ?_)
  refine ao 8 rfl rfl (st_move (v := .int .i64 0) rfl rfl ?_)
  refine ar_nil ?_
  refine ac_block ?_
  refine ac_rounds 61 ?_
  refine ar_round ?_
  refine ac_seq ?_
  refine ac_region_lit ?_
  refine ao 9 rfl rfl (st_bi (u := .int .i64 0) (v := .int .i64 3) (r := .bool true) rfl rfl rfl (bi_lss (by decide)) ?_)
  refine ar_nil ?_
  refine ac_seq ?_
  refine ac_then rfl ?_
  refine ac_skip ?_
  refine ac_seq ?_
  refine ac_block ?_
  refine ac_seq ?_
  refine ac_region_lit ?_
  refine ao 10 rfl rfl (st_move (v := .int .i64 0) rfl rfl ?_)
  refine ao 11 rfl rfl (st_sa (g := g) (off := 0) (m := 3) (c := cap) (s := 3) (i := 0) rfl Try.underlying24 (by kernel_rfl) rfl rfl (by decide) ?_)
  refine ao 12 rfl rfl (st_lda (g := g) (off := 0) (vs := [.int .i64 x0.lo, .int .i64 x0.hi, .bool x0.no]) agg26 0 rfl rfl rfl rfl rfl rfl ?_)
  refine ao 5 rfl rfl (st_new zero26 rfl fun g0 => ?_)
  refine ao 4 rfl rfl (st_assign (v := .int .i64 0) rfl rfl ?_)
  refine ar_op (d := none) rfl rfl (st_sta (g := g0) (off := 0) (us := [.int .i64 x0.lo, .int .i64 x0.hi, .bool x0.no]) (cs := [.int .i64 x0.lo, .int .i64 x0.hi, .bool x0.no]) agg26 0 rfl rfl rfl rfl rfl rfl rfl rfl rfl ?_)
  refine ar_nil ?_
  refine ac_seq ?_
  refine ac_region_lit ?_
  refine ao 13 rfl rfl (st_move (v := .int .i64 0) rfl rfl ?_)
  refine ao 14 rfl rfl (st_bi (u := .int .i64 0) (v := .int .i64 0) (r := .bool false) rfl rfl rfl (bi_gtr (by decide)) ?_)
  refine ar_nil ?_
  refine ac_else rfl ?_
  refine ac_skip ?_
  refine ac_region_lit ?_
  refine ao 21 rfl rfl (st_bi (u := .int .i64 0) (v := .int .i64 1) (r := .int .i64 1) rfl rfl rfl (bi_add (by decide)) ?_)
  refine ao 8 rfl rfl (st_move (v := .int .i64 1) rfl rfl ?_)
  refine ar_nil ?_
  refine ar_round ?_
  refine ac_seq ?_
  refine ac_region_lit ?_
  refine ao 9 rfl rfl (st_bi (u := .int .i64 1) (v := .int .i64 3) (r := .bool true) rfl rfl rfl (bi_lss (by decide)) ?_)
  refine ar_nil ?_
  refine ac_seq ?_
  refine ac_then rfl ?_
  refine ac_skip ?_
  refine ac_seq ?_
  refine ac_block ?_
  refine ac_seq ?_
  refine ac_region_lit ?_
  refine ao 10 rfl rfl (st_move (v := .int .i64 1) rfl rfl ?_)
  refine ao 11 rfl rfl (st_sa (g := g) (off := 0) (m := 3) (c := cap) (s := 3) (i := 1) rfl Try.underlying24 (by kernel_rfl) rfl rfl (by decide) ?_)
  refine ao 12 rfl rfl (st_lda (g := g) (off := 3) (vs := [.int .i64 x1.lo, .int .i64 x1.hi, .bool x1.no]) agg26 1 rfl rfl rfl rfl rfl rfl ?_)
  refine ao 5 rfl rfl (st_new zero26 rfl fun g1 => ?_)
  refine ao 4 rfl rfl (st_assign (v := .int .i64 1) rfl rfl ?_)
  refine ar_op (d := none) rfl rfl (st_sta (g := g1) (off := 0) (us := [.int .i64 x1.lo, .int .i64 x1.hi, .bool x1.no]) (cs := [.int .i64 x1.lo, .int .i64 x1.hi, .bool x1.no]) agg26 0 rfl rfl rfl rfl rfl rfl rfl rfl rfl ?_)
  refine ar_nil ?_
  refine ac_seq ?_
  refine ac_region_lit ?_
  refine ao 13 rfl rfl (st_move (v := .int .i64 1) rfl rfl ?_)
  refine ao 14 rfl rfl (st_bi (u := .int .i64 1) (v := .int .i64 0) (r := .bool true) rfl rfl rfl (bi_gtr (by decide)) ?_)
  refine ar_nil ?_
  refine ac_then rfl ?_
  refine ac_region_lit ?_
  refine ao 15 rfl rfl (st_move (v := .slice none 0 0) rfl rfl ?_)
  refine ao 16 rfl rfl (st_lda (g := g1) (off := 0) (vs := [.int .i64 x1.lo, .int .i64 x1.hi, .bool x1.no]) agg26 0 rfl rfl rfl rfl rfl rfl ?_)
  refine ao 17 rfl rfl (st_move (v := .int .i64 1) rfl rfl ?_)
  refine ao 18 rfl rfl (st_cf (vs := [.agg #[.int .i64 x1.lo, .int .i64 x1.hi, .bool x1.no], .int .i64 1]) (r := .agg #[.int .i64 ((ivTimes x1 1).lo), .int .i64 ((ivTimes x1 1).hi), .bool ((ivTimes x1 1).no)]) (c_ivTimes x1 1) Try.func31 rfl (by decide) rfl rfl rfl ?_)
  refine ao 19 rfl rfl (st_bs (us := [(0, .agg #[.int .i64 ((ivTimes x1 1).lo), .int .i64 ((ivTimes x1 1).hi), .bool ((ivTimes x1 1).no)])]) (cs := [.int .i64 ((ivTimes x1 1).lo), .int .i64 ((ivTimes x1 1).hi), .bool ((ivTimes x1 1).no)]) rfl rfl (bs24_1_0a _ _ _) fun g2 => ?_)
  refine ao 20 rfl rfl (st_app (A := [⟨g2, [.int .i64 ((ivTimes x1 1).lo), .int .i64 ((ivTimes x1 1).hi), .bool ((ivTimes x1 1).no)], 26, false⟩, ⟨g1, [.int .i64 x1.lo, .int .i64 x1.hi, .bool x1.no], 26, false⟩, ⟨g0, [.int .i64 x0.lo, .int .i64 x0.hi, .bool x0.no], 26, false⟩, ⟨g, [.int .i64 x0.lo, .int .i64 x0.hi, .bool x0.no, .int .i64 x1.lo, .int .i64 x1.hi, .bool x1.no, .int .i64 x2.lo, .int .i64 x2.hi, .bool x2.no] ++ rest, 26, true⟩]) (N := []) (B := []) (bt := ⟨g2, [.int .i64 ((ivTimes x1 1).lo), .int .i64 ((ivTimes x1 1).hi), .bool ((ivTimes x1 1).no)], 26, false⟩) (xs := []) (news := [.int .i64 ((ivTimes x1 1).lo), .int .i64 ((ivTimes x1 1).hi), .bool ((ivTimes x1 1).no)]) (r := []) slT24 rfl rfl rfl (Row.nil _ _) rfl (List.mem_of_getElem? (i := 0) rfl) rfl rfl rfl rfl (by decide) (by decide) (by decide) fun v9 N9 R9 => ?_)
  obtain ⟨g3, cg3, rg3, rfl, rfl, fg3⟩ := R9.pos (by decide)
  refine ao 3 rfl rfl (st_assign (v := .slice (some ⟨g3, 0, none⟩) 1 cg3) rfl rfl ?_)
  refine ar_nil ?_
  refine ac_region_lit ?_
  refine ao 21 rfl rfl (st_bi (u := .int .i64 1) (v := .int .i64 1) (r := .int .i64 2) rfl rfl rfl (bi_add (by decide)) ?_)
  refine ao 8 rfl rfl (st_move (v := .int .i64 2) rfl rfl ?_)
  refine ar_nil ?_
  refine ar_round ?_
  refine ac_seq ?_
  refine ac_region_lit ?_
  refine ao 9 rfl rfl (st_bi (u := .int .i64 2) (v := .int .i64 3) (r := .bool true) rfl rfl rfl (bi_lss (by decide)) ?_)
  refine ar_nil ?_
  refine ac_seq ?_
  refine ac_then rfl ?_
  refine ac_skip ?_
  refine ac_seq ?_
  refine ac_block ?_
  refine ac_seq ?_
  refine ac_region_lit ?_
  refine ao 10 rfl rfl (st_move (v := .int .i64 2) rfl rfl ?_)
  refine ao 11 rfl rfl (st_sa (g := g) (off := 0) (m := 3) (c := cap) (s := 3) (i := 2) rfl Try.underlying24 (by kernel_rfl) rfl rfl (by decide) ?_)
  refine ao 12 rfl rfl (st_lda (g := g) (off := 6) (vs := [.int .i64 x2.lo, .int .i64 x2.hi, .bool x2.no]) agg26 4 rfl rfl rfl rfl rfl rfl ?_)
  refine ao 5 rfl rfl (st_new zero26 rfl fun g4 => ?_)
  refine ao 4 rfl rfl (st_assign (v := .int .i64 2) rfl rfl ?_)
  refine ar_op (d := none) rfl rfl (st_sta (g := g4) (off := 0) (us := [.int .i64 x2.lo, .int .i64 x2.hi, .bool x2.no]) (cs := [.int .i64 x2.lo, .int .i64 x2.hi, .bool x2.no]) agg26 0 rfl rfl rfl rfl rfl rfl rfl rfl rfl ?_)
  refine ar_nil ?_
  refine ac_seq ?_
  refine ac_region_lit ?_
  refine ao 13 rfl rfl (st_move (v := .int .i64 2) rfl rfl ?_)
  refine ao 14 rfl rfl (st_bi (u := .int .i64 2) (v := .int .i64 0) (r := .bool true) rfl rfl rfl (bi_gtr (by decide)) ?_)
  refine ar_nil ?_
  refine ac_then rfl ?_
  refine ac_region_lit ?_
  refine ao 15 rfl rfl (st_move (v := .slice (some ⟨g3, 0, none⟩) 1 cg3) rfl rfl ?_)
  refine ao 16 rfl rfl (st_lda (g := g4) (off := 0) (vs := [.int .i64 x2.lo, .int .i64 x2.hi, .bool x2.no]) agg26 0 rfl rfl rfl rfl rfl rfl ?_)
  refine ao 17 rfl rfl (st_move (v := .int .i64 2) rfl rfl ?_)
  refine ao 18 rfl rfl (st_cf (vs := [.agg #[.int .i64 x2.lo, .int .i64 x2.hi, .bool x2.no], .int .i64 2]) (r := .agg #[.int .i64 ((ivTimes x2 2).lo), .int .i64 ((ivTimes x2 2).hi), .bool ((ivTimes x2 2).no)]) (c_ivTimes x2 2) Try.func31 rfl (by decide) rfl rfl rfl ?_)
  refine ao 19 rfl rfl (st_bs (us := [(0, .agg #[.int .i64 ((ivTimes x2 2).lo), .int .i64 ((ivTimes x2 2).hi), .bool ((ivTimes x2 2).no)])]) (cs := [.int .i64 ((ivTimes x2 2).lo), .int .i64 ((ivTimes x2 2).hi), .bool ((ivTimes x2 2).no)]) rfl rfl (bs24_1_0a _ _ _) fun g5 => ?_)
  refine ao 20 rfl rfl (st_app (A := [⟨g5, [.int .i64 ((ivTimes x2 2).lo), .int .i64 ((ivTimes x2 2).hi), .bool ((ivTimes x2 2).no)], 26, false⟩, ⟨g4, [.int .i64 x2.lo, .int .i64 x2.hi, .bool x2.no], 26, false⟩]) (N := [⟨g3, [.int .i64 ((ivTimes x1 1).lo), .int .i64 ((ivTimes x1 1).hi), .bool ((ivTimes x1 1).no)] ++ rg3, 26, false⟩]) (B := [⟨g2, [.int .i64 ((ivTimes x1 1).lo), .int .i64 ((ivTimes x1 1).hi), .bool ((ivTimes x1 1).no)], 26, false⟩, ⟨g1, [.int .i64 x1.lo, .int .i64 x1.hi, .bool x1.no], 26, false⟩, ⟨g0, [.int .i64 x0.lo, .int .i64 x0.hi, .bool x0.no], 26, false⟩, ⟨g, [.int .i64 x0.lo, .int .i64 x0.hi, .bool x0.no, .int .i64 x1.lo, .int .i64 x1.hi, .bool x1.no, .int .i64 x2.lo, .int .i64 x2.hi, .bool x2.no] ++ rest, 26, true⟩]) (bt := ⟨g5, [.int .i64 ((ivTimes x2 2).lo), .int .i64 ((ivTimes x2 2).hi), .bool ((ivTimes x2 2).no)], 26, false⟩) (xs := [.int .i64 ((ivTimes x1 1).lo), .int .i64 ((ivTimes x1 1).hi), .bool ((ivTimes x1 1).no)]) (news := [.int .i64 ((ivTimes x2 2).lo), .int .i64 ((ivTimes x2 2).hi), .bool ((ivTimes x2 2).no)]) (r := []) slT24 rfl rfl rfl (Row.mk (rest := rg3) fg3) rfl (List.mem_of_getElem? (i := 0) rfl) rfl rfl rfl rfl (by decide) (by decide) (by decide) fun v9 N9 R9 => ?_)
  obtain ⟨g6, cg6, rg6, rfl, rfl, fg6⟩ := R9.pos (by decide)
  refine ao 3 rfl rfl (st_assign (v := .slice (some ⟨g6, 0, none⟩) 2 cg6) rfl rfl ?_)
  refine ar_nil ?_
  refine ac_region_lit ?_
  refine ao 21 rfl rfl (st_bi (u := .int .i64 2) (v := .int .i64 1) (r := .int .i64 3) rfl rfl rfl (bi_add (by decide)) ?_)
  refine ao 8 rfl rfl (st_move (v := .int .i64 3) rfl rfl ?_)
  refine ar_nil ?_
  refine ar_round ?_
  refine ac_seq ?_
  refine ac_region_lit ?_
  refine ao 9 rfl rfl (st_bi (u := .int .i64 3) (v := .int .i64 3) (r := .bool false) rfl rfl rfl (bi_lss (by decide)) ?_)
  refine ar_nil ?_
  refine ac_seq ?_
  refine ac_else rfl ?_
  refine ac_exit ?_
  refine ac_seq ?_
  refine ac_region_lit ?_
  refine ao 22 rfl rfl (st_move (v := .slice (some ⟨g6, 0, none⟩) 2 cg6) rfl rfl ?_)
  refine ao 2 rfl rfl (st_assign (v := .slice (some ⟨g6, 0, none⟩) 2 cg6) rfl rfl ?_)
  refine ar_nil ?_
  refine ac_ret ?_
  exact fing_ret (N := [⟨g6, [.int .i64 ((ivTimes x1 1).lo), .int .i64 ((ivTimes x1 1).hi), .bool ((ivTimes x1 1).no), .int .i64 ((ivTimes x2 2).lo), .int .i64 ((ivTimes x2 2).hi), .bool ((ivTimes x2 2).no)] ++ rg6, 26, false⟩]) (Row.mk fg6) (List.Sublist.cons_cons _ (List.nil_sublist _)) rfl (res_tmp rfl rfl)
set_option maxRecDepth 100000 in
theorem c_slope4 (x0 : Iv) (x1 : Iv) (x2 : Iv) (x3 : Iv) (cap g : Nat) (rest : List Value) : Gives Try.prog 27 #[.slice (some ⟨g, 0, none⟩) 4 cap] [⟨g, [.int .i64 x0.lo, .int .i64 x0.hi, .bool x0.no, .int .i64 x1.lo, .int .i64 x1.hi, .bool x1.no, .int .i64 x2.lo, .int .i64 x2.hi, .bool x2.no, .int .i64 x3.lo, .int .i64 x3.hi, .bool x3.no] ++ rest, 26, true⟩] (Row 26 3 3 [.int .i64 ((ivTimes x1 1).lo), .int .i64 ((ivTimes x1 1).hi), .bool ((ivTimes x1 1).no), .int .i64 ((ivTimes x2 2).lo), .int .i64 ((ivTimes x2 2).hi), .bool ((ivTimes x2 2).no), .int .i64 ((ivTimes x3 3).lo), .int .i64 ((ivTimes x3 3).hi), .bool ((ivTimes x3 3).no)]) := by
  refine gives_fin Try.func27 rfl rfl rfl rfl ?_
  refine ac_seq ?_
  refine ac_region_lit ?_
  refine ao 2 rfl rfl (st_assign (v := .slice none 0 0) rfl rfl ?_)
  refine ar_nil ?_
  refine ac_seq ?_
  refine ac_region_lit ?_
  refine ao 3 rfl rfl (st_assign (v := .slice none 0 0) rfl rfl ?_)
  refine ar_nil ?_
  refine ac_seq ?_
  refine ac_seq ?_
  refine ac_region_lit ?_
  refine ao 6 rfl rfl (st_move (v := .slice (some ⟨g, 0, none⟩) 4 cap) rfl rfl ?_)
  refine ao 7 rfl rfl (st_ln (a := some ⟨g, 0, none⟩) (m := 4) (c := cap) rfl Try.underlying24 rfl ?_)
  refine ao 8 rfl rfl (st_move (v := .int .i64 0) rfl rfl ?_)
  refine ar_nil ?_
  refine ac_block ?_
  refine ac_rounds 61 ?_
  refine ar_round ?_
  refine ac_seq ?_
  refine ac_region_lit ?_
  refine ao 9 rfl rfl (st_bi (u := .int .i64 0) (v := .int .i64 4) (r := .bool true) rfl rfl rfl (bi_lss (by decide)) ?_)
  refine ar_nil ?_
  refine ac_seq ?_
  refine ac_then rfl ?_
  refine ac_skip ?_
  refine ac_seq ?_
  refine ac_block ?_
  refine ac_seq ?_
  refine ac_region_lit ?_
  refine ao 10 rfl rfl (st_move (v := .int .i64 0) rfl rfl ?_)
  refine ao 11 rfl rfl (st_sa (g := g) (off := 0) (m := 4) (c := cap) (s := 3) (i := 0) rfl Try.underlying24 (by kernel_rfl) rfl rfl (by decide) ?_)
  refine ao 12 rfl rfl (st_lda (g := g) (off := 0) (vs := [.int .i64 x0.lo, .int .i64 x0.hi, .bool x0.no]) agg26 0 rfl rfl rfl rfl rfl rfl ?_)
  refine ao 5 rfl rfl (st_new zero26 rfl fun g0 => ?_)
  refine ao 4 rfl rfl (st_assign (v := .int .i64 0) rfl rfl ?_)
  refine ar_op (d := none) rfl rfl (st_sta (g := g0) (off := 0) (us := [.int .i64 x0.lo, .int .i64 x0.hi, .bool x0.no]) (cs := [.int .i64 x0.lo, .int .i64 x0.hi, .bool x0.no]) agg26 0 rfl rfl rfl rfl rfl rfl rfl rfl rfl ?_)
  refine ar_nil ?_
  refine ac_seq ?_
  refine ac_region_lit ?_
  refine ao 13 rfl rfl (st_move (v := .int .i64 0) rfl rfl ?_)
  refine ao 14 rfl rfl (st_bi (u := .int .i64 0) (v := .int .i64 0) (r := .bool false) rfl rfl rfl (bi_gtr (by decide)) ?_)
  refine ar_nil ?_
  refine ac_else rfl ?_
  refine ac_skip ?_
  refine ac_region_lit ?_
  refine ao 21 rfl rfl (st_bi (u := .int .i64 0) (v := .int .i64 1) (r := .int .i64 1) rfl rfl rfl (bi_add (by decide)) ?_)
  refine ao 8 rfl rfl (st_move (v := .int .i64 1) rfl rfl ?_)
  refine ar_nil ?_
  refine ar_round ?_
  refine ac_seq ?_
  refine ac_region_lit ?_
  refine ao 9 rfl rfl (st_bi (u := .int .i64 1) (v := .int .i64 4) (r := .bool true) rfl rfl rfl (bi_lss (by decide)) ?_)
  refine ar_nil ?_
  refine ac_seq ?_
  refine ac_then rfl ?_
  refine ac_skip ?_
  refine ac_seq ?_
  refine ac_block ?_
  refine ac_seq ?_
  refine ac_region_lit ?_
  refine ao 10 rfl rfl (st_move (v := .int .i64 1) rfl rfl ?_)
  refine ao 11 rfl rfl (st_sa (g := g) (off := 0) (m := 4) (c := cap) (s := 3) (i := 1) rfl Try.underlying24 (by kernel_rfl) rfl rfl (by decide) ?_)
  refine ao 12 rfl rfl (st_lda (g := g) (off := 3) (vs := [.int .i64 x1.lo, .int .i64 x1.hi, .bool x1.no]) agg26 1 rfl rfl rfl rfl rfl rfl ?_)
  refine ao 5 rfl rfl (st_new zero26 rfl fun g1 => ?_)
  refine ao 4 rfl rfl (st_assign (v := .int .i64 1) rfl rfl ?_)
  refine ar_op (d := none) rfl rfl (st_sta (g := g1) (off := 0) (us := [.int .i64 x1.lo, .int .i64 x1.hi, .bool x1.no]) (cs := [.int .i64 x1.lo, .int .i64 x1.hi, .bool x1.no]) agg26 0 rfl rfl rfl rfl rfl rfl rfl rfl rfl ?_)
  refine ar_nil ?_
  refine ac_seq ?_
  refine ac_region_lit ?_
  refine ao 13 rfl rfl (st_move (v := .int .i64 1) rfl rfl ?_)
  refine ao 14 rfl rfl (st_bi (u := .int .i64 1) (v := .int .i64 0) (r := .bool true) rfl rfl rfl (bi_gtr (by decide)) ?_)
  refine ar_nil ?_
  refine ac_then rfl ?_
  refine ac_region_lit ?_
  refine ao 15 rfl rfl (st_move (v := .slice none 0 0) rfl rfl ?_)
  refine ao 16 rfl rfl (st_lda (g := g1) (off := 0) (vs := [.int .i64 x1.lo, .int .i64 x1.hi, .bool x1.no]) agg26 0 rfl rfl rfl rfl rfl rfl ?_)
  refine ao 17 rfl rfl (st_move (v := .int .i64 1) rfl rfl ?_)
  refine ao 18 rfl rfl (st_cf (vs := [.agg #[.int .i64 x1.lo, .int .i64 x1.hi, .bool x1.no], .int .i64 1]) (r := .agg #[.int .i64 ((ivTimes x1 1).lo), .int .i64 ((ivTimes x1 1).hi), .bool ((ivTimes x1 1).no)]) (c_ivTimes x1 1) Try.func31 rfl (by decide) rfl rfl rfl ?_)
  refine ao 19 rfl rfl (st_bs (us := [(0, .agg #[.int .i64 ((ivTimes x1 1).lo), .int .i64 ((ivTimes x1 1).hi), .bool ((ivTimes x1 1).no)])]) (cs := [.int .i64 ((ivTimes x1 1).lo), .int .i64 ((ivTimes x1 1).hi), .bool ((ivTimes x1 1).no)]) rfl rfl (bs24_1_0a _ _ _) fun g2 => ?_)
  refine ao 20 rfl rfl (st_app (A := [⟨g2, [.int .i64 ((ivTimes x1 1).lo), .int .i64 ((ivTimes x1 1).hi), .bool ((ivTimes x1 1).no)], 26, false⟩, ⟨g1, [.int .i64 x1.lo, .int .i64 x1.hi, .bool x1.no], 26, false⟩, ⟨g0, [.int .i64 x0.lo, .int .i64 x0.hi, .bool x0.no], 26, false⟩, ⟨g, [.int .i64 x0.lo, .int .i64 x0.hi, .bool x0.no, .int .i64 x1.lo, .int .i64 x1.hi, .bool x1.no, .int .i64 x2.lo, .int .i64 x2.hi, .bool x2.no, .int .i64 x3.lo, .int .i64 x3.hi, .bool x3.no] ++ rest, 26, true⟩]) (N := []) (B := []) (bt := ⟨g2, [.int .i64 ((ivTimes x1 1).lo), .int .i64 ((ivTimes x1 1).hi), .bool ((ivTimes x1 1).no)], 26, false⟩) (xs := []) (news := [.int .i64 ((ivTimes x1 1).lo), .int .i64 ((ivTimes x1 1).hi), .bool ((ivTimes x1 1).no)]) (r := []) slT24 rfl rfl rfl (Row.nil _ _) rfl (List.mem_of_getElem? (i := 0) rfl) rfl rfl rfl rfl (by decide) (by decide) (by decide) fun v9 N9 R9 => ?_)
  obtain ⟨g3, cg3, rg3, rfl, rfl, fg3⟩ := R9.pos (by decide)
  refine ao 3 rfl rfl (st_assign (v := .slice (some ⟨g3, 0, none⟩) 1 cg3) rfl rfl ?_)
  refine ar_nil ?_
  refine ac_region_lit ?_
  refine ao 21 rfl rfl (st_bi (u := .int .i64 1) (v := .int .i64 1) (r := .int .i64 2) rfl rfl rfl (bi_add (by decide)) ?_)
  refine ao 8 rfl rfl (st_move (v := .int .i64 2) rfl rfl ?_)
  refine ar_nil ?_
  refine ar_round ?_
  refine ac_seq ?_
  refine ac_region_lit ?_
  refine ao 9 rfl rfl (st_bi (u := .int .i64 2) (v := .int .i64 4) (r := .bool true) rfl rfl rfl (bi_lss (by decide)) ?_)
  refine ar_nil ?_
  refine ac_seq ?_
  refine ac_then rfl ?_
  refine ac_skip ?_
  refine ac_seq ?_
  refine ac_block ?_
  refine ac_seq ?_
  refine ac_region_lit ?_
  refine ao 10 rfl rfl (st_move (v := .int .i64 2) rfl rfl ?_)
  refine ao 11 rfl rfl (st_sa (g := g) (off := 0) (m := 4) (c := cap) (s := 3) (i := 2) rfl Try.underlying24 (by kernel_rfl) rfl rfl (by decide) ?_)
  refine ao 12 rfl rfl (st_lda (g := g) (off := 6) (vs := [.int .i64 x2.lo, .int .i64 x2.hi, .bool x2.no]) agg26 4 rfl rfl rfl rfl rfl rfl ?_)
  refine ao 5 rfl rfl (st_new zero26 rfl fun g4 => ?_)
  refine ao 4 rfl rfl (st_assign (v := .int .i64 2) rfl rfl ?_)
  refine ar_op (d := none) rfl rfl (st_sta (g := g4) (off := 0) (us := [.int .i64 x2.lo, .int .i64 x2.hi, .bool x2.no]) (cs := [.int .i64 x2.lo, .int .i64 x2.hi, .bool x2.no]) agg26 0 rfl rfl rfl rfl rfl rfl rfl rfl rfl ?_)
  refine ar_nil ?_
  refine ac_seq ?_
  refine ac_region_lit ?_
  refine ao 13 rfl rfl (st_move (v := .int .i64 2) rfl rfl ?_)
  refine ao 14 rfl rfl (st_bi (u := .int .i64 2) (v := .int .i64 0) (r := .bool true) rfl rfl rfl (bi_gtr (by decide)) ?_)
  refine ar_nil ?_
  refine ac_then rfl ?_
  refine ac_region_lit ?_
  refine ao 15 rfl rfl (st_move (v := .slice (some ⟨g3, 0, none⟩) 1 cg3) rfl rfl ?_)
  refine ao 16 rfl rfl (st_lda (g := g4) (off := 0) (vs := [.int .i64 x2.lo, .int .i64 x2.hi, .bool x2.no]) agg26 0 rfl rfl rfl rfl rfl rfl ?_)
  refine ao 17 rfl rfl (st_move (v := .int .i64 2) rfl rfl ?_)
  refine ao 18 rfl rfl (st_cf (vs := [.agg #[.int .i64 x2.lo, .int .i64 x2.hi, .bool x2.no], .int .i64 2]) (r := .agg #[.int .i64 ((ivTimes x2 2).lo), .int .i64 ((ivTimes x2 2).hi), .bool ((ivTimes x2 2).no)]) (c_ivTimes x2 2) Try.func31 rfl (by decide) rfl rfl rfl ?_)
  refine ao 19 rfl rfl (st_bs (us := [(0, .agg #[.int .i64 ((ivTimes x2 2).lo), .int .i64 ((ivTimes x2 2).hi), .bool ((ivTimes x2 2).no)])]) (cs := [.int .i64 ((ivTimes x2 2).lo), .int .i64 ((ivTimes x2 2).hi), .bool ((ivTimes x2 2).no)]) rfl rfl (bs24_1_0a _ _ _) fun g5 => ?_)
  refine ao 20 rfl rfl (st_app (A := [⟨g5, [.int .i64 ((ivTimes x2 2).lo), .int .i64 ((ivTimes x2 2).hi), .bool ((ivTimes x2 2).no)], 26, false⟩, ⟨g4, [.int .i64 x2.lo, .int .i64 x2.hi, .bool x2.no], 26, false⟩]) (N := [⟨g3, [.int .i64 ((ivTimes x1 1).lo), .int .i64 ((ivTimes x1 1).hi), .bool ((ivTimes x1 1).no)] ++ rg3, 26, false⟩]) (B := [⟨g2, [.int .i64 ((ivTimes x1 1).lo), .int .i64 ((ivTimes x1 1).hi), .bool ((ivTimes x1 1).no)], 26, false⟩, ⟨g1, [.int .i64 x1.lo, .int .i64 x1.hi, .bool x1.no], 26, false⟩, ⟨g0, [.int .i64 x0.lo, .int .i64 x0.hi, .bool x0.no], 26, false⟩, ⟨g, [.int .i64 x0.lo, .int .i64 x0.hi, .bool x0.no, .int .i64 x1.lo, .int .i64 x1.hi, .bool x1.no, .int .i64 x2.lo, .int .i64 x2.hi, .bool x2.no, .int .i64 x3.lo, .int .i64 x3.hi, .bool x3.no] ++ rest, 26, true⟩]) (bt := ⟨g5, [.int .i64 ((ivTimes x2 2).lo), .int .i64 ((ivTimes x2 2).hi), .bool ((ivTimes x2 2).no)], 26, false⟩) (xs := [.int .i64 ((ivTimes x1 1).lo), .int .i64 ((ivTimes x1 1).hi), .bool ((ivTimes x1 1).no)]) (news := [.int .i64 ((ivTimes x2 2).lo), .int .i64 ((ivTimes x2 2).hi), .bool ((ivTimes x2 2).no)]) (r := []) slT24 rfl rfl rfl (Row.mk (rest := rg3) fg3) rfl (List.mem_of_getElem? (i := 0) rfl) rfl rfl rfl rfl (by decide) (by decide) (by decide) fun v9 N9 R9 => ?_)
  obtain ⟨g6, cg6, rg6, rfl, rfl, fg6⟩ := R9.pos (by decide)
  refine ao 3 rfl rfl (st_assign (v := .slice (some ⟨g6, 0, none⟩) 2 cg6) rfl rfl ?_)
  refine ar_nil ?_
  refine ac_region_lit ?_
  refine ao 21 rfl rfl (st_bi (u := .int .i64 2) (v := .int .i64 1) (r := .int .i64 3) rfl rfl rfl (bi_add (by decide)) ?_)
  refine ao 8 rfl rfl (st_move (v := .int .i64 3) rfl rfl ?_)
  refine ar_nil ?_
  refine ar_round ?_
  refine ac_seq ?_
  refine ac_region_lit ?_
  refine ao 9 rfl rfl (st_bi (u := .int .i64 3) (v := .int .i64 4) (r := .bool true) rfl rfl rfl (bi_lss (by decide)) ?_)
  refine ar_nil ?_
  refine ac_seq ?_
  refine ac_then rfl ?_
  refine ac_skip ?_
  refine ac_seq ?_
  refine ac_block ?_
  refine ac_seq ?_
  refine ac_region_lit ?_
  refine ao 10 rfl rfl (st_move (v := .int .i64 3) rfl rfl ?_)
  refine ao 11 rfl rfl (st_sa (g := g) (off := 0) (m := 4) (c := cap) (s := 3) (i := 3) rfl Try.underlying24 (by kernel_rfl) rfl rfl (by decide) ?_)
  refine ao 12 rfl rfl (st_lda (g := g) (off := 9) (vs := [.int .i64 x3.lo, .int .i64 x3.hi, .bool x3.no]) agg26 6 rfl rfl rfl rfl rfl rfl ?_)
  refine ao 5 rfl rfl (st_new zero26 rfl fun g7 => ?_)
  refine ao 4 rfl rfl (st_assign (v := .int .i64 3) rfl rfl ?_)
  refine ar_op (d := none) rfl rfl (st_sta (g := g7) (off := 0) (us := [.int .i64 x3.lo, .int .i64 x3.hi, .bool x3.no]) (cs := [.int .i64 x3.lo, .int .i64 x3.hi, .bool x3.no]) agg26 0 rfl rfl rfl rfl rfl rfl rfl rfl rfl ?_)
  refine ar_nil ?_
  refine ac_seq ?_
  refine ac_region_lit ?_
  refine ao 13 rfl rfl (st_move (v := .int .i64 3) rfl rfl ?_)
  refine ao 14 rfl rfl (st_bi (u := .int .i64 3) (v := .int .i64 0) (r := .bool true) rfl rfl rfl (bi_gtr (by decide)) ?_)
  refine ar_nil ?_
  refine ac_then rfl ?_
  refine ac_region_lit ?_
  refine ao 15 rfl rfl (st_move (v := .slice (some ⟨g6, 0, none⟩) 2 cg6) rfl rfl ?_)
  refine ao 16 rfl rfl (st_lda (g := g7) (off := 0) (vs := [.int .i64 x3.lo, .int .i64 x3.hi, .bool x3.no]) agg26 0 rfl rfl rfl rfl rfl rfl ?_)
  refine ao 17 rfl rfl (st_move (v := .int .i64 3) rfl rfl ?_)
  refine ao 18 rfl rfl (st_cf (vs := [.agg #[.int .i64 x3.lo, .int .i64 x3.hi, .bool x3.no], .int .i64 3]) (r := .agg #[.int .i64 ((ivTimes x3 3).lo), .int .i64 ((ivTimes x3 3).hi), .bool ((ivTimes x3 3).no)]) (c_ivTimes x3 3) Try.func31 rfl (by decide) rfl rfl rfl ?_)
  refine ao 19 rfl rfl (st_bs (us := [(0, .agg #[.int .i64 ((ivTimes x3 3).lo), .int .i64 ((ivTimes x3 3).hi), .bool ((ivTimes x3 3).no)])]) (cs := [.int .i64 ((ivTimes x3 3).lo), .int .i64 ((ivTimes x3 3).hi), .bool ((ivTimes x3 3).no)]) rfl rfl (bs24_1_0a _ _ _) fun g8 => ?_)
  refine ao 20 rfl rfl (st_app (A := [⟨g8, [.int .i64 ((ivTimes x3 3).lo), .int .i64 ((ivTimes x3 3).hi), .bool ((ivTimes x3 3).no)], 26, false⟩, ⟨g7, [.int .i64 x3.lo, .int .i64 x3.hi, .bool x3.no], 26, false⟩]) (N := [⟨g6, [.int .i64 ((ivTimes x1 1).lo), .int .i64 ((ivTimes x1 1).hi), .bool ((ivTimes x1 1).no), .int .i64 ((ivTimes x2 2).lo), .int .i64 ((ivTimes x2 2).hi), .bool ((ivTimes x2 2).no)] ++ rg6, 26, false⟩]) (B := [⟨g5, [.int .i64 ((ivTimes x2 2).lo), .int .i64 ((ivTimes x2 2).hi), .bool ((ivTimes x2 2).no)], 26, false⟩, ⟨g4, [.int .i64 x2.lo, .int .i64 x2.hi, .bool x2.no], 26, false⟩, ⟨g2, [.int .i64 ((ivTimes x1 1).lo), .int .i64 ((ivTimes x1 1).hi), .bool ((ivTimes x1 1).no)], 26, false⟩, ⟨g1, [.int .i64 x1.lo, .int .i64 x1.hi, .bool x1.no], 26, false⟩, ⟨g0, [.int .i64 x0.lo, .int .i64 x0.hi, .bool x0.no], 26, false⟩, ⟨g, [.int .i64 x0.lo, .int .i64 x0.hi, .bool x0.no, .int .i64 x1.lo, .int .i64 x1.hi, .bool x1.no, .int .i64 x2.lo, .int .i64 x2.hi, .bool x2.no, .int .i64 x3.lo, .int .i64 x3.hi, .bool x3.no] ++ rest, 26, true⟩]) (bt := ⟨g8, [.int .i64 ((ivTimes x3 3).lo), .int .i64 ((ivTimes x3 3).hi), .bool ((ivTimes x3 3).no)], 26, false⟩) (xs := [.int .i64 ((ivTimes x1 1).lo), .int .i64 ((ivTimes x1 1).hi), .bool ((ivTimes x1 1).no), .int .i64 ((ivTimes x2 2).lo), .int .i64 ((ivTimes x2 2).hi), .bool ((ivTimes x2 2).no)]) (news := [.int .i64 ((ivTimes x3 3).lo), .int .i64 ((ivTimes x3 3).hi), .bool ((ivTimes x3 3).no)]) (r := []) slT24 rfl rfl rfl (Row.mk (rest := rg6) fg6) rfl (List.mem_of_getElem? (i := 0) rfl) rfl rfl rfl rfl (by decide) (by decide) (by decide) fun v9 N9 R9 => ?_)
  obtain ⟨g9, cg9, rg9, rfl, rfl, fg9⟩ := R9.pos (by decide)
  refine ao 3 rfl rfl (st_assign (v := .slice (some ⟨g9, 0, none⟩) 3 cg9) rfl rfl ?_)
  refine ar_nil ?_
  refine ac_region_lit ?_
  refine ao 21 rfl rfl (st_bi (u := .int .i64 3) (v := .int .i64 1) (r := .int .i64 4) rfl rfl rfl (bi_add (by decide)) ?_)
  refine ao 8 rfl rfl (st_move (v := .int .i64 4) rfl rfl ?_)
  refine ar_nil ?_
  refine ar_round ?_
  refine ac_seq ?_
  refine ac_region_lit ?_
  refine ao 9 rfl rfl (st_bi (u := .int .i64 4) (v := .int .i64 4) (r := .bool false) rfl rfl rfl (bi_lss (by decide)) ?_)
  refine ar_nil ?_
  refine ac_seq ?_
  refine ac_else rfl ?_
  refine ac_exit ?_
  refine ac_seq ?_
  refine ac_region_lit ?_
  refine ao 22 rfl rfl (st_move (v := .slice (some ⟨g9, 0, none⟩) 3 cg9) rfl rfl ?_)
  refine ao 2 rfl rfl (st_assign (v := .slice (some ⟨g9, 0, none⟩) 3 cg9) rfl rfl ?_)
  refine ar_nil ?_
  refine ac_ret ?_
  exact fing_ret (N := [⟨g9, [.int .i64 ((ivTimes x1 1).lo), .int .i64 ((ivTimes x1 1).hi), .bool ((ivTimes x1 1).no), .int .i64 ((ivTimes x2 2).lo), .int .i64 ((ivTimes x2 2).hi), .bool ((ivTimes x2 2).no), .int .i64 ((ivTimes x3 3).lo), .int .i64 ((ivTimes x3 3).hi), .bool ((ivTimes x3 3).no)] ++ rg9, 26, false⟩]) (Row.mk fg9) (List.Sublist.cons_cons _ (List.nil_sublist _)) rfl (res_tmp rfl rfl)
def hornerNil (x : Iv) : Iv := (ivPoint 0)
set_option maxRecDepth 100000 in
theorem c_hornerNil (x : Iv) : Gets Try.prog 22 #[.slice none 0 0, .agg #[.int .i64 x.lo, .int .i64 x.hi, .bool x.no]] (Iv.v (hornerNil x)) := by
  refine gets_fin Try.func22 rfl rfl rfl ?_
  refine ac_seq ?_
  refine ac_region_lit ?_
  refine ao 3 rfl rfl (st_box (v := .agg #[.int .i64 x.lo, .int .i64 x.hi, .bool x.no]) (cs := [.int .i64 x.lo, .int .i64 x.hi, .bool x.no]) rfl rfl rfl fun g0 => ?_)
  refine ao 4 rfl rfl (st_new zero26 rfl fun g1 => ?_)
  refine ar_nil ?_
  refine ac_seq ?_
  refine ac_seq ?_
  refine ac_region_lit ?_
  refine ao 8 rfl rfl (st_move (v := .slice none 0 0) rfl rfl ?_)
  refine ao 9 rfl rfl (st_ln (a := none) (m := 0) (c := 0) rfl Try.underlying24 rfl ?_)
  refine ao 10 rfl rfl (st_bi (u := .int .i64 0) (v := .int .i64 0) (r := .bool true) rfl rfl rfl (bi_eql (by decide)) ?_)
  refine ar_nil ?_
  refine ac_then rfl ?_
  refine ac_seq ?_
  refine ac_region_lit ?_
  refine ao 11 rfl rfl (st_cf (vs := [.int .i64 0]) (r := .agg #[.int .i64 ((ivPoint 0).lo), .int .i64 ((ivPoint 0).hi), .bool ((ivPoint 0).no)]) (c_ivPoint 0) Try.func29 rfl (by decide) rfl rfl rfl ?_)
  refine ar_op (d := none) rfl rfl (st_sta (g := g1) (off := 0) (us := [.int .i64 ((ivPoint 0).lo), .int .i64 ((ivPoint 0).hi), .bool ((ivPoint 0).no)]) (cs := [.int .i64 ((ivPoint 0).lo), .int .i64 ((ivPoint 0).hi), .bool ((ivPoint 0).no)]) agg26 0 rfl rfl rfl rfl rfl rfl rfl rfl rfl ?_)
  refine ar_nil ?_
  refine ac_ret ?_
  exact fin_eq (v := .agg #[.int .i64 ((ivPoint 0).lo), .int .i64 ((ivPoint 0).hi), .bool ((ivPoint 0).no)]) rfl (fin_ret (res_c (vs := [.int .i64 ((ivPoint 0).lo), .int .i64 ((ivPoint 0).hi), .bool ((ivPoint 0).no)]) agg26 0 rfl rfl rfl rfl rfl rfl))
set_option maxRecDepth 100000 in
theorem c_slopeNil : Gets Try.prog 27 #[.slice none 0 0] (.slice none 0 0) := by
  refine gets_fin Try.func27 rfl rfl rfl ?_
  refine ac_seq ?_
  refine ac_region_lit ?_
  refine ao 2 rfl rfl (st_assign (v := .slice none 0 0) rfl rfl ?_)
  refine ar_nil ?_
  refine ac_seq ?_
  refine ac_region_lit ?_
  refine ao 3 rfl rfl (st_assign (v := .slice none 0 0) rfl rfl ?_)
  refine ar_nil ?_
  refine ac_seq ?_
  refine ac_seq ?_
  refine ac_region_lit ?_
  refine ao 6 rfl rfl (st_move (v := .slice none 0 0) rfl rfl ?_)
  refine ao 7 rfl rfl (st_ln (a := none) (m := 0) (c := 0) rfl Try.underlying24 rfl ?_)
  refine ao 8 rfl rfl (st_move (v := .int .i64 0) rfl rfl ?_)
  refine ar_nil ?_
  refine ac_block ?_
  refine ac_rounds 61 ?_
  refine ar_round ?_
  refine ac_seq ?_
  refine ac_region_lit ?_
  refine ao 9 rfl rfl (st_bi (u := .int .i64 0) (v := .int .i64 0) (r := .bool false) rfl rfl rfl (bi_lss (by decide)) ?_)
  refine ar_nil ?_
  refine ac_seq ?_
  refine ac_else rfl ?_
  refine ac_exit ?_
  refine ac_seq ?_
  refine ac_region_lit ?_
  refine ao 22 rfl rfl (st_move (v := .slice none 0 0) rfl rfl ?_)
  refine ao 2 rfl rfl (st_assign (v := .slice none 0 0) rfl rfl ?_)
  refine ar_nil ?_
  refine ac_ret ?_
  exact fin_ret (res_tmp rfl rfl)
end Go.Proofs.Ythngkopcadlciaa
