import Derived.Test.YthngkopcadlciaaFacts4
import Derived.Test.YthngkopcadlciaaK4
import Derived.Test.YthngkopcadlciaaPick
set_option linter.unusedVariables false
set_option linter.unusedSimpArgs false
namespace Go.Proofs.Ythngkopcadlciaa
open Go.RowKit

attribute [local irreducible] AC AR DWalk
def lawPolyEncloses4_e0 (z0 : Int) (z1 : Int) (z2 : Int) (z3 : Int) (x : Int) (m : Int) (n : Int) : Iv := (hWide (w64 ((w64 ((w64 ((hPick z0 21) - 10)) * 65536)) - (hPick (w64 (Int.tdiv m 1)) 50))) 100)
def lawPolyEncloses4_b0 (z0 : Int) (z1 : Int) (z2 : Int) (z3 : Int) (x : Int) (m : Int) (n : Int) (g : Nat) : Box := ⟨g, [.int .i64 ((lawPolyEncloses4_e0 z0 z1 z2 z3 x m n).lo), .int .i64 ((lawPolyEncloses4_e0 z0 z1 z2 z3 x m n).hi), .bool ((lawPolyEncloses4_e0 z0 z1 z2 z3 x m n).no)], 26, false⟩
def lawPolyEncloses4_b1 (z0 : Int) (z1 : Int) (z2 : Int) (z3 : Int) (x : Int) (m : Int) (n : Int) (g : Nat) : Box := ⟨g, [.int .i64 ((ivWhole (w64 ((hPick z0 21) - 10))).lo), .int .i64 ((ivWhole (w64 ((hPick z0 21) - 10))).hi), .bool ((ivWhole (w64 ((hPick z0 21) - 10))).no)], 26, false⟩
def lawPolyEncloses4_e1 (z0 : Int) (z1 : Int) (z2 : Int) (z3 : Int) (x : Int) (m : Int) (n : Int) : Iv := (hWide (w64 ((w64 ((w64 ((hPick z1 21) - 10)) * 65536)) - (hPick (w64 (Int.tdiv m 2)) 50))) 100)
def lawPolyEncloses4_b2 (z0 : Int) (z1 : Int) (z2 : Int) (z3 : Int) (x : Int) (m : Int) (n : Int) (g : Nat) : Box := ⟨g, [.int .i64 ((lawPolyEncloses4_e1 z0 z1 z2 z3 x m n).lo), .int .i64 ((lawPolyEncloses4_e1 z0 z1 z2 z3 x m n).hi), .bool ((lawPolyEncloses4_e1 z0 z1 z2 z3 x m n).no)], 26, false⟩
def lawPolyEncloses4_b3 (z0 : Int) (z1 : Int) (z2 : Int) (z3 : Int) (x : Int) (m : Int) (n : Int) (g : Nat) : Box := ⟨g, [.int .i64 ((ivWhole (w64 ((hPick z1 21) - 10))).lo), .int .i64 ((ivWhole (w64 ((hPick z1 21) - 10))).hi), .bool ((ivWhole (w64 ((hPick z1 21) - 10))).no)], 26, false⟩
def lawPolyEncloses4_e2 (z0 : Int) (z1 : Int) (z2 : Int) (z3 : Int) (x : Int) (m : Int) (n : Int) : Iv := (hWide (w64 ((w64 ((w64 ((hPick z2 21) - 10)) * 65536)) - (hPick (w64 (Int.tdiv m 3)) 50))) 100)
def lawPolyEncloses4_b4 (z0 : Int) (z1 : Int) (z2 : Int) (z3 : Int) (x : Int) (m : Int) (n : Int) (g : Nat) : Box := ⟨g, [.int .i64 ((lawPolyEncloses4_e2 z0 z1 z2 z3 x m n).lo), .int .i64 ((lawPolyEncloses4_e2 z0 z1 z2 z3 x m n).hi), .bool ((lawPolyEncloses4_e2 z0 z1 z2 z3 x m n).no)], 26, false⟩
def lawPolyEncloses4_b5 (z0 : Int) (z1 : Int) (z2 : Int) (z3 : Int) (x : Int) (m : Int) (n : Int) (g : Nat) : Box := ⟨g, [.int .i64 ((ivWhole (w64 ((hPick z2 21) - 10))).lo), .int .i64 ((ivWhole (w64 ((hPick z2 21) - 10))).hi), .bool ((ivWhole (w64 ((hPick z2 21) - 10))).no)], 26, false⟩
def lawPolyEncloses4_e3 (z0 : Int) (z1 : Int) (z2 : Int) (z3 : Int) (x : Int) (m : Int) (n : Int) : Iv := (hWide (w64 ((w64 ((w64 ((hPick z3 21) - 10)) * 65536)) - (hPick (w64 (Int.tdiv m 4)) 50))) 100)
def lawPolyEncloses4_b6 (z0 : Int) (z1 : Int) (z2 : Int) (z3 : Int) (x : Int) (m : Int) (n : Int) (g : Nat) : Box := ⟨g, [.int .i64 ((lawPolyEncloses4_e3 z0 z1 z2 z3 x m n).lo), .int .i64 ((lawPolyEncloses4_e3 z0 z1 z2 z3 x m n).hi), .bool ((lawPolyEncloses4_e3 z0 z1 z2 z3 x m n).no)], 26, false⟩
def lawPolyEncloses4_b7 (z0 : Int) (z1 : Int) (z2 : Int) (z3 : Int) (x : Int) (m : Int) (n : Int) (g : Nat) : Box := ⟨g, [.int .i64 ((ivWhole (w64 ((hPick z3 21) - 10))).lo), .int .i64 ((ivWhole (w64 ((hPick z3 21) - 10))).hi), .bool ((ivWhole (w64 ((hPick z3 21) - 10))).no)], 26, false⟩
def lawPolyEncloses4_e4 (z0 : Int) (z1 : Int) (z2 : Int) (z3 : Int) (x : Int) (m : Int) (n : Int) : Iv := (hWide (w64 ((w64 ((w64 ((hPick x 13) - 6)) * 65536)) - (hPick n 9))) 20)
def lawPolyEncloses4_e5 (z0 : Int) (z1 : Int) (z2 : Int) (z3 : Int) (x : Int) (m : Int) (n : Int) : Iv := (horner [(lawPolyEncloses4_e0 z0 z1 z2 z3 x m n), (lawPolyEncloses4_e1 z0 z1 z2 z3 x m n), (lawPolyEncloses4_e2 z0 z1 z2 z3 x m n), (lawPolyEncloses4_e3 z0 z1 z2 z3 x m n)] (lawPolyEncloses4_e4 z0 z1 z2 z3 x m n))
def lawPolyEncloses4_e6 (z0 : Int) (z1 : Int) (z2 : Int) (z3 : Int) (x : Int) (m : Int) (n : Int) : Iv := (horner [(ivWhole (w64 ((hPick z0 21) - 10))), (ivWhole (w64 ((hPick z1 21) - 10))), (ivWhole (w64 ((hPick z2 21) - 10))), (ivWhole (w64 ((hPick z3 21) - 10)))] (ivWhole (w64 ((hPick x 13) - 6))))
def lawPolyEncloses4_e7 (z0 : Int) (z1 : Int) (z2 : Int) (z3 : Int) (x : Int) (m : Int) (n : Int) : Bool := (ivHas (lawPolyEncloses4_e6 z0 z1 z2 z3 x m n) (w64 ((w64 ((w64 ((w64 ((w64 (0 + (w64 ((w64 ((hPick z0 21) - 10)) * 1)))) + (w64 ((w64 ((hPick z1 21) - 10)) * (w64 (1 * (w64 ((hPick x 13) - 6)))))))) + (w64 ((w64 ((hPick z2 21) - 10)) * (w64 ((w64 (1 * (w64 ((hPick x 13) - 6)))) * (w64 ((hPick x 13) - 6)))))))) + (w64 ((w64 ((hPick z3 21) - 10)) * (w64 ((w64 ((w64 (1 * (w64 ((hPick x 13) - 6)))) * (w64 ((hPick x 13) - 6)))) * (w64 ((hPick x 13) - 6)))))))) * 65536)))
def lawPolyEncloses4_e8 (z0 : Int) (z1 : Int) (z2 : Int) (z3 : Int) (x : Int) (m : Int) (n : Int) : Bool := (ivInside (lawPolyEncloses4_e6 z0 z1 z2 z3 x m n) (lawPolyEncloses4_e5 z0 z1 z2 z3 x m n))
def lawPolyEncloses4 (z0 : Int) (z1 : Int) (z2 : Int) (z3 : Int) (x : Int) (m : Int) (n : Int) : Bool := (bif known4 then (bif lawPolyEncloses4_e7 z0 z1 z2 z3 x m n then (bif ((lawPolyEncloses4_e6 z0 z1 z2 z3 x m n).lo) == ((lawPolyEncloses4_e6 z0 z1 z2 z3 x m n).hi) then (bif ivRight (lawPolyEncloses4_e5 z0 z1 z2 z3 x m n) then lawPolyEncloses4_e8 z0 z1 z2 z3 x m n else true) else false) else false) else false)
set_option maxRecDepth 100000 in
set_option maxHeartbeats 4000000 in
theorem c_lawPolyEncloses4 (z0 : Int) (z1 : Int) (z2 : Int) (z3 : Int) (x : Int) (m : Int) (n : Int) (b off cap ty : Nat) (cs : List Value) (e0 : cs[off + 0 * 1]? = some (.int .i64 z0)) (e1 : cs[off + 1 * 1]? = some (.int .i64 z1)) (e2 : cs[off + 2 * 1]? = some (.int .i64 z2)) (e3 : cs[off + 3 * 1]? = some (.int .i64 z3)) (H : (lawPolyEncloses4 z0 z1 z2 z3 x m n) = true) : Gives Try.prog 3 #[.slice (some ⟨b, off, none⟩) 4 cap, .int .i64 x, .int .i64 m, .int .i64 n] [⟨b, cs, ty, true⟩] (fun u N => u = .bool true ∧ N = []) := by
  refine gives_fin Try.func3 rfl rfl rfl rfl (AC.mono ?_ (fun e E H h => fing_v h rfl))
  refine ac_seq ?_
  refine ac_region_lit ?_
  refine ao 8 rfl rfl (st_assign (v := .bool false) rfl rfl ?_)
  refine ar_nil ?_
  refine ac_seq ?_
  refine ac_region_lit ?_
  refine ao 18 rfl rfl (st_move (v := .int .i64 x) rfl rfl ?_)
  refine ao 19 rfl rfl (st_cf (vs := [.int .i64 x, .int .i64 13]) (r := .int .i64 (hPick x 13)) (c_hPick x 13 (by decide)) Try.func19 rfl (by decide) rfl rfl rfl ?_)
  refine ao 20 rfl rfl (st_bi (u := .int .i64 (hPick x 13)) (v := .int .i64 6) (r := .int .i64 (w64 ((hPick x 13) - 6))) rfl rfl rfl (bi_sub rfl) ?_)
  refine ao 1 rfl rfl (st_assign (v := .int .i64 (w64 ((hPick x 13) - 6))) rfl rfl ?_)
  refine ar_nil ?_
  refine ac_seq ?_
  refine ac_region_lit ?_
  refine ao 9 rfl rfl (st_assign (v := .slice none 0 0) rfl rfl ?_)
  refine ao 10 rfl rfl (st_assign (v := .slice none 0 0) rfl rfl ?_)
  refine ar_nil ?_
  refine ac_seq ?_
  refine ac_region_lit ?_
  refine ao 11 rfl rfl (st_assign (v := .int .i64 0) rfl rfl ?_)
  refine ar_nil ?_
  refine ac_seq ?_
  refine ac_region_lit ?_
  refine ao 12 rfl rfl (st_assign (v := .int .i64 1) rfl rfl ?_)
  refine ar_nil ?_
  refine ac_seq ?_
  refine ac_seq ?_
  refine ac_region_lit ?_
  refine ao 13 rfl rfl (st_assign (v := .int .i64 0) rfl rfl ?_)
  refine ar_nil ?_
  refine ac_block ?_
  refine ac_rounds 61 ?_
  refine ar_round ?_
  refine ac_seq ?_
  refine ac_seq ?_
  refine ac_region_lit ?_
  refine ao 21 rfl rfl (st_move (v := .int .i64 0) rfl rfl ?_)
  refine ao 22 rfl rfl (st_move (v := .slice (some ⟨b, off, none⟩) 4 cap) rfl rfl ?_)
  refine ao 23 rfl rfl (st_ln (a := some ⟨b, off, none⟩) (m := 4) (c := cap) rfl Try.underlying22 rfl ?_)
  refine ao 24 rfl rfl (st_bi (u := .int .i64 0) (v := .int .i64 4) (r := .bool true) rfl rfl rfl (bi_lss (by decide)) ?_)
  refine ao 25 rfl rfl (st_move (v := .bool true) rfl rfl ?_)
  refine ar_gd (d := (some 26)) rfl rfl (st_move (v := .int .i64 0) rfl rfl ?_)
  refine ar_gd (d := (some 27)) rfl rfl (st_bi (u := .int .i64 0) (v := .int .i64 5) (r := .bool true) rfl rfl rfl (bi_lss (by decide)) ?_)
  refine ao 28 rfl rfl (st_pkt (v := .bool true) rfl rfl rfl ?_)
  refine ar_nil ?_
  refine ac_then rfl ?_
  refine ac_skip ?_
  refine ac_seq ?_
  refine ac_block ?_
  refine ac_seq ?_
  refine ac_region_lit ?_
  refine ao 31 rfl rfl (st_move (v := .slice (some ⟨b, off, none⟩) 4 cap) rfl rfl ?_)
  refine ao 32 rfl rfl (st_move (v := .int .i64 0) rfl rfl ?_)
  refine ao 33 rfl rfl (st_sa (g := b) (off := off) (m := 4) (c := cap) (s := 1) (i := 0) rfl Try.underlying22 (by kernel_rfl) rfl rfl (by decide) ?_)
  refine ao 34 rfl rfl (st_ldc (g := b) (off := off + 0 * 1) (v := .int .i64 z0) cell3 0 rfl rfl rfl rfl e0 ?_)
  refine ao 35 rfl rfl (st_cf (vs := [.int .i64 z0, .int .i64 21]) (r := .int .i64 (hPick z0 21)) (c_hPick z0 21 (by decide)) Try.func19 rfl (by decide) rfl rfl rfl ?_)
  refine ao 36 rfl rfl (st_bi (u := .int .i64 (hPick z0 21)) (v := .int .i64 10) (r := .int .i64 (w64 ((hPick z0 21) - 10))) rfl rfl rfl (bi_sub rfl) ?_)
  refine ao 14 rfl rfl (st_assign (v := .int .i64 (w64 ((hPick z0 21) - 10))) rfl rfl ?_)
  refine ar_nil ?_
  refine ac_seq ?_
  refine ac_region_lit ?_
  refine ao 37 rfl rfl (st_move (v := .int .i64 0) rfl rfl ?_)
  refine ao 38 rfl rfl (st_move (v := .int .i64 (w64 ((hPick z0 21) - 10))) rfl rfl ?_)
  refine ao 39 rfl rfl (st_move (v := .int .i64 1) rfl rfl ?_)
  refine ao 40 rfl rfl (st_bi (u := .int .i64 (w64 ((hPick z0 21) - 10))) (v := .int .i64 1) (r := .int .i64 (w64 ((w64 ((hPick z0 21) - 10)) * 1))) rfl rfl rfl (bi_mul rfl) ?_)
  refine ao 41 rfl rfl (st_bi (u := .int .i64 0) (v := .int .i64 (w64 ((w64 ((hPick z0 21) - 10)) * 1))) (r := .int .i64 (w64 (0 + (w64 ((w64 ((hPick z0 21) - 10)) * 1))))) rfl rfl rfl (bi_add rfl) ?_)
  refine ao 11 rfl rfl (st_assign (v := .int .i64 (w64 (0 + (w64 ((w64 ((hPick z0 21) - 10)) * 1))))) rfl rfl ?_)
  refine ar_nil ?_
  refine ac_seq ?_
  refine ac_region_lit ?_
  refine ao 42 rfl rfl (st_move (v := .int .i64 1) rfl rfl ?_)
  refine ao 43 rfl rfl (st_move (v := .int .i64 (w64 ((hPick x 13) - 6))) rfl rfl ?_)
  refine ao 44 rfl rfl (st_bi (u := .int .i64 1) (v := .int .i64 (w64 ((hPick x 13) - 6))) (r := .int .i64 (w64 (1 * (w64 ((hPick x 13) - 6))))) rfl rfl rfl (bi_mul rfl) ?_)
  refine ao 12 rfl rfl (st_assign (v := .int .i64 (w64 (1 * (w64 ((hPick x 13) - 6))))) rfl rfl ?_)
  refine ar_nil ?_
  refine ac_seq ?_
  refine ac_region_lit ?_
  refine ao 45 rfl rfl (st_move (v := .slice none 0 0) rfl rfl ?_)
  refine ao 46 rfl rfl (st_move (v := .int .i64 (w64 ((hPick z0 21) - 10))) rfl rfl ?_)
  refine ao 47 rfl rfl (st_bi (u := .int .i64 (w64 ((hPick z0 21) - 10))) (v := .int .i64 65536) (r := .int .i64 (w64 ((w64 ((hPick z0 21) - 10)) * 65536))) rfl rfl rfl (bi_mul rfl) ?_)
  refine ao 48 rfl rfl (st_move (v := .int .i64 m) rfl rfl ?_)
  refine ao 49 rfl rfl (st_move (v := .int .i64 0) rfl rfl ?_)
  refine ao 50 rfl rfl (st_bi (u := .int .i64 0) (v := .int .i64 1) (r := .int .i64 1) rfl rfl rfl (bi_add (by decide)) ?_)
  refine ao 51 rfl rfl (st_bi (u := .int .i64 m) (v := .int .i64 1) (r := .int .i64 (w64 (Int.tdiv m 1))) rfl rfl rfl (bi_quo (by decide) rfl) ?_)
  refine ao 52 rfl rfl (st_cf (vs := [.int .i64 (w64 (Int.tdiv m 1)), .int .i64 50]) (r := .int .i64 (hPick (w64 (Int.tdiv m 1)) 50)) (c_hPick (w64 (Int.tdiv m 1)) 50 (by decide)) Try.func19 rfl (by decide) rfl rfl rfl ?_)
  refine ao 53 rfl rfl (st_bi (u := .int .i64 (w64 ((w64 ((hPick z0 21) - 10)) * 65536))) (v := .int .i64 (hPick (w64 (Int.tdiv m 1)) 50)) (r := .int .i64 (w64 ((w64 ((w64 ((hPick z0 21) - 10)) * 65536)) - (hPick (w64 (Int.tdiv m 1)) 50)))) rfl rfl rfl (bi_sub rfl) ?_)
  refine ao 54 rfl rfl (st_cf (vs := [.int .i64 (w64 ((w64 ((w64 ((hPick z0 21) - 10)) * 65536)) - (hPick (w64 (Int.tdiv m 1)) 50))), .int .i64 100]) (r := .agg #[.int .i64 ((lawPolyEncloses4_e0 z0 z1 z2 z3 x m n).lo), .int .i64 ((lawPolyEncloses4_e0 z0 z1 z2 z3 x m n).hi), .bool ((lawPolyEncloses4_e0 z0 z1 z2 z3 x m n).no)]) (c_hWide (w64 ((w64 ((w64 ((hPick z0 21) - 10)) * 65536)) - (hPick (w64 (Int.tdiv m 1)) 50))) 100) Try.func20 rfl (by decide) rfl rfl rfl ?_)
  refine ao 55 rfl rfl (st_bs (us := [(0, .agg #[.int .i64 ((lawPolyEncloses4_e0 z0 z1 z2 z3 x m n).lo), .int .i64 ((lawPolyEncloses4_e0 z0 z1 z2 z3 x m n).hi), .bool ((lawPolyEncloses4_e0 z0 z1 z2 z3 x m n).no)])]) (cs := [.int .i64 ((lawPolyEncloses4_e0 z0 z1 z2 z3 x m n).lo), .int .i64 ((lawPolyEncloses4_e0 z0 z1 z2 z3 x m n).hi), .bool ((lawPolyEncloses4_e0 z0 z1 z2 z3 x m n).no)]) rfl rfl (bs24_1_0a _ _ _) fun g0 => ?_)
  refine ao 56 rfl rfl (st_app (A := [(lawPolyEncloses4_b0 z0 z1 z2 z3 x m n g0), ⟨b, cs, ty, true⟩]) (N := []) (B := []) (bt := (lawPolyEncloses4_b0 z0 z1 z2 z3 x m n g0)) (xs := []) (news := [.int .i64 ((lawPolyEncloses4_e0 z0 z1 z2 z3 x m n).lo), .int .i64 ((lawPolyEncloses4_e0 z0 z1 z2 z3 x m n).hi), .bool ((lawPolyEncloses4_e0 z0 z1 z2 z3 x m n).no)]) (r := []) slT24 rfl rfl rfl (Row.nil _ _) rfl (List.mem_of_getElem? (i := 0) rfl) rfl rfl rfl rfl (by decide) (by decide) (by decide) fun v9 N9 R9 => ?_)
  obtain ⟨g1, cg1, rg1, rfl, rfl, fg1⟩ := R9.pos (by decide)
  refine ao 9 rfl rfl (st_assign (v := .slice (some ⟨g1, 0, none⟩) 1 cg1) rfl rfl ?_)
  refine ar_nil ?_
  refine ac_region_lit ?_
  refine ao 57 rfl rfl (st_move (v := .slice none 0 0) rfl rfl ?_)
  refine ao 58 rfl rfl (st_move (v := .int .i64 (w64 ((hPick z0 21) - 10))) rfl rfl ?_)
  refine ao 59 rfl rfl (st_cf (vs := [.int .i64 (w64 ((hPick z0 21) - 10))]) (r := .agg #[.int .i64 ((ivWhole (w64 ((hPick z0 21) - 10))).lo), .int .i64 ((ivWhole (w64 ((hPick z0 21) - 10))).hi), .bool ((ivWhole (w64 ((hPick z0 21) - 10))).no)]) (c_ivWhole (w64 ((hPick z0 21) - 10))) Try.func21 rfl (by decide) rfl rfl rfl ?_)
  refine ao 60 rfl rfl (st_bs (us := [(0, .agg #[.int .i64 ((ivWhole (w64 ((hPick z0 21) - 10))).lo), .int .i64 ((ivWhole (w64 ((hPick z0 21) - 10))).hi), .bool ((ivWhole (w64 ((hPick z0 21) - 10))).no)])]) (cs := [.int .i64 ((ivWhole (w64 ((hPick z0 21) - 10))).lo), .int .i64 ((ivWhole (w64 ((hPick z0 21) - 10))).hi), .bool ((ivWhole (w64 ((hPick z0 21) - 10))).no)]) rfl rfl (bs24_1_0a _ _ _) fun g2 => ?_)
  refine ao 61 rfl rfl (st_app (A := [(lawPolyEncloses4_b1 z0 z1 z2 z3 x m n g2), ⟨g1, [.int .i64 ((lawPolyEncloses4_e0 z0 z1 z2 z3 x m n).lo), .int .i64 ((lawPolyEncloses4_e0 z0 z1 z2 z3 x m n).hi), .bool ((lawPolyEncloses4_e0 z0 z1 z2 z3 x m n).no)] ++ rg1, 26, false⟩, (lawPolyEncloses4_b0 z0 z1 z2 z3 x m n g0), ⟨b, cs, ty, true⟩]) (N := []) (B := []) (bt := (lawPolyEncloses4_b1 z0 z1 z2 z3 x m n g2)) (xs := []) (news := [.int .i64 ((ivWhole (w64 ((hPick z0 21) - 10))).lo), .int .i64 ((ivWhole (w64 ((hPick z0 21) - 10))).hi), .bool ((ivWhole (w64 ((hPick z0 21) - 10))).no)]) (r := []) slT24 rfl rfl rfl (Row.nil _ _) rfl (List.mem_of_getElem? (i := 0) rfl) rfl rfl rfl rfl (by decide) (by decide) (by decide) fun v9 N9 R9 => ?_)
  obtain ⟨g3, cg3, rg3, rfl, rfl, fg3⟩ := R9.pos (by decide)
  refine ao 10 rfl rfl (st_assign (v := .slice (some ⟨g3, 0, none⟩) 1 cg3) rfl rfl ?_)
  refine ar_nil ?_
  refine ac_region_lit ?_
  refine ao 29 rfl rfl (st_move (v := .int .i64 0) rfl rfl ?_)
  refine ao 30 rfl rfl (st_bi (u := .int .i64 0) (v := .int .i64 1) (r := .int .i64 1) rfl rfl rfl (bi_add (by decide)) ?_)
  refine ao 13 rfl rfl (st_assign (v := .int .i64 1) rfl rfl ?_)
  refine ar_nil ?_
  refine ar_round ?_
  refine ac_seq ?_
  refine ac_seq ?_
  refine ac_region_lit ?_
  refine ao 21 rfl rfl (st_move (v := .int .i64 1) rfl rfl ?_)
  refine ao 22 rfl rfl (st_move (v := .slice (some ⟨b, off, none⟩) 4 cap) rfl rfl ?_)
  refine ao 23 rfl rfl (st_ln (a := some ⟨b, off, none⟩) (m := 4) (c := cap) rfl Try.underlying22 rfl ?_)
  refine ao 24 rfl rfl (st_bi (u := .int .i64 1) (v := .int .i64 4) (r := .bool true) rfl rfl rfl (bi_lss (by decide)) ?_)
  refine ao 25 rfl rfl (st_move (v := .bool true) rfl rfl ?_)
  refine ar_gd (d := (some 26)) rfl rfl (st_move (v := .int .i64 1) rfl rfl ?_)
  refine ar_gd (d := (some 27)) rfl rfl (st_bi (u := .int .i64 1) (v := .int .i64 5) (r := .bool true) rfl rfl rfl (bi_lss (by decide)) ?_)
  refine ao 28 rfl rfl (st_pkt (v := .bool true) rfl rfl rfl ?_)
  refine ar_nil ?_
  refine ac_then rfl ?_
  refine ac_skip ?_
  refine ac_seq ?_
  refine ac_block ?_
  refine ac_seq ?_
  refine ac_region_lit ?_
  refine ao 31 rfl rfl (st_move (v := .slice (some ⟨b, off, none⟩) 4 cap) rfl rfl ?_)
  refine ao 32 rfl rfl (st_move (v := .int .i64 1) rfl rfl ?_)
  refine ao 33 rfl rfl (st_sa (g := b) (off := off) (m := 4) (c := cap) (s := 1) (i := 1) rfl Try.underlying22 (by kernel_rfl) rfl rfl (by decide) ?_)
  refine ao 34 rfl rfl (st_ldc (g := b) (off := off + 1 * 1) (v := .int .i64 z1) cell3 4 rfl rfl rfl rfl e1 ?_)
  refine ao 35 rfl rfl (st_cf (vs := [.int .i64 z1, .int .i64 21]) (r := .int .i64 (hPick z1 21)) (c_hPick z1 21 (by decide)) Try.func19 rfl (by decide) rfl rfl rfl ?_)
  refine ao 36 rfl rfl (st_bi (u := .int .i64 (hPick z1 21)) (v := .int .i64 10) (r := .int .i64 (w64 ((hPick z1 21) - 10))) rfl rfl rfl (bi_sub rfl) ?_)
  refine ao 14 rfl rfl (st_assign (v := .int .i64 (w64 ((hPick z1 21) - 10))) rfl rfl ?_)
  refine ar_nil ?_
  refine ac_seq ?_
  refine ac_region_lit ?_
  refine ao 37 rfl rfl (st_move (v := .int .i64 (w64 (0 + (w64 ((w64 ((hPick z0 21) - 10)) * 1))))) rfl rfl ?_)
  refine ao 38 rfl rfl (st_move (v := .int .i64 (w64 ((hPick z1 21) - 10))) rfl rfl ?_)
  refine ao 39 rfl rfl (st_move (v := .int .i64 (w64 (1 * (w64 ((hPick x 13) - 6))))) rfl rfl ?_)
  refine ao 40 rfl rfl (st_bi (u := .int .i64 (w64 ((hPick z1 21) - 10))) (v := .int .i64 (w64 (1 * (w64 ((hPick x 13) - 6))))) (r := .int .i64 (w64 ((w64 ((hPick z1 21) - 10)) * (w64 (1 * (w64 ((hPick x 13) - 6))))))) rfl rfl rfl (bi_mul rfl) ?_)
  refine ao 41 rfl rfl (st_bi (u := .int .i64 (w64 (0 + (w64 ((w64 ((hPick z0 21) - 10)) * 1))))) (v := .int .i64 (w64 ((w64 ((hPick z1 21) - 10)) * (w64 (1 * (w64 ((hPick x 13) - 6))))))) (r := .int .i64 (w64 ((w64 (0 + (w64 ((w64 ((hPick z0 21) - 10)) * 1)))) + (w64 ((w64 ((hPick z1 21) - 10)) * (w64 (1 * (w64 ((hPick x 13) - 6))))))))) rfl rfl rfl (bi_add rfl) ?_)
  refine ao 11 rfl rfl (st_assign (v := .int .i64 (w64 ((w64 (0 + (w64 ((w64 ((hPick z0 21) - 10)) * 1)))) + (w64 ((w64 ((hPick z1 21) - 10)) * (w64 (1 * (w64 ((hPick x 13) - 6))))))))) rfl rfl ?_)
  refine ar_nil ?_
  refine ac_seq ?_
  refine ac_region_lit ?_
  refine ao 42 rfl rfl (st_move (v := .int .i64 (w64 (1 * (w64 ((hPick x 13) - 6))))) rfl rfl ?_)
  refine ao 43 rfl rfl (st_move (v := .int .i64 (w64 ((hPick x 13) - 6))) rfl rfl ?_)
  refine ao 44 rfl rfl (st_bi (u := .int .i64 (w64 (1 * (w64 ((hPick x 13) - 6))))) (v := .int .i64 (w64 ((hPick x 13) - 6))) (r := .int .i64 (w64 ((w64 (1 * (w64 ((hPick x 13) - 6)))) * (w64 ((hPick x 13) - 6))))) rfl rfl rfl (bi_mul rfl) ?_)
  refine ao 12 rfl rfl (st_assign (v := .int .i64 (w64 ((w64 (1 * (w64 ((hPick x 13) - 6)))) * (w64 ((hPick x 13) - 6))))) rfl rfl ?_)
  refine ar_nil ?_
  refine ac_seq ?_
  refine ac_region_lit ?_
  refine ao 45 rfl rfl (st_move (v := .slice (some ⟨g1, 0, none⟩) 1 cg1) rfl rfl ?_)
  refine ao 46 rfl rfl (st_move (v := .int .i64 (w64 ((hPick z1 21) - 10))) rfl rfl ?_)
  refine ao 47 rfl rfl (st_bi (u := .int .i64 (w64 ((hPick z1 21) - 10))) (v := .int .i64 65536) (r := .int .i64 (w64 ((w64 ((hPick z1 21) - 10)) * 65536))) rfl rfl rfl (bi_mul rfl) ?_)
  refine ao 48 rfl rfl (st_move (v := .int .i64 m) rfl rfl ?_)
  refine ao 49 rfl rfl (st_move (v := .int .i64 1) rfl rfl ?_)
  refine ao 50 rfl rfl (st_bi (u := .int .i64 1) (v := .int .i64 1) (r := .int .i64 2) rfl rfl rfl (bi_add (by decide)) ?_)
  refine ao 51 rfl rfl (st_bi (u := .int .i64 m) (v := .int .i64 2) (r := .int .i64 (w64 (Int.tdiv m 2))) rfl rfl rfl (bi_quo (by decide) rfl) ?_)
  refine ao 52 rfl rfl (st_cf (vs := [.int .i64 (w64 (Int.tdiv m 2)), .int .i64 50]) (r := .int .i64 (hPick (w64 (Int.tdiv m 2)) 50)) (c_hPick (w64 (Int.tdiv m 2)) 50 (by decide)) Try.func19 rfl (by decide) rfl rfl rfl ?_)
  refine ao 53 rfl rfl (st_bi (u := .int .i64 (w64 ((w64 ((hPick z1 21) - 10)) * 65536))) (v := .int .i64 (hPick (w64 (Int.tdiv m 2)) 50)) (r := .int .i64 (w64 ((w64 ((w64 ((hPick z1 21) - 10)) * 65536)) - (hPick (w64 (Int.tdiv m 2)) 50)))) rfl rfl rfl (bi_sub rfl) ?_)
  refine ao 54 rfl rfl (st_cf (vs := [.int .i64 (w64 ((w64 ((w64 ((hPick z1 21) - 10)) * 65536)) - (hPick (w64 (Int.tdiv m 2)) 50))), .int .i64 100]) (r := .agg #[.int .i64 ((lawPolyEncloses4_e1 z0 z1 z2 z3 x m n).lo), .int .i64 ((lawPolyEncloses4_e1 z0 z1 z2 z3 x m n).hi), .bool ((lawPolyEncloses4_e1 z0 z1 z2 z3 x m n).no)]) (c_hWide (w64 ((w64 ((w64 ((hPick z1 21) - 10)) * 65536)) - (hPick (w64 (Int.tdiv m 2)) 50))) 100) Try.func20 rfl (by decide) rfl rfl rfl ?_)
  refine ao 55 rfl rfl (st_bs (us := [(0, .agg #[.int .i64 ((lawPolyEncloses4_e1 z0 z1 z2 z3 x m n).lo), .int .i64 ((lawPolyEncloses4_e1 z0 z1 z2 z3 x m n).hi), .bool ((lawPolyEncloses4_e1 z0 z1 z2 z3 x m n).no)])]) (cs := [.int .i64 ((lawPolyEncloses4_e1 z0 z1 z2 z3 x m n).lo), .int .i64 ((lawPolyEncloses4_e1 z0 z1 z2 z3 x m n).hi), .bool ((lawPolyEncloses4_e1 z0 z1 z2 z3 x m n).no)]) rfl rfl (bs24_1_0a _ _ _) fun g4 => ?_)
  refine ao 56 rfl rfl (st_app (A := [(lawPolyEncloses4_b2 z0 z1 z2 z3 x m n g4), ⟨g3, [.int .i64 ((ivWhole (w64 ((hPick z0 21) - 10))).lo), .int .i64 ((ivWhole (w64 ((hPick z0 21) - 10))).hi), .bool ((ivWhole (w64 ((hPick z0 21) - 10))).no)] ++ rg3, 26, false⟩, (lawPolyEncloses4_b1 z0 z1 z2 z3 x m n g2)]) (N := [⟨g1, [.int .i64 ((lawPolyEncloses4_e0 z0 z1 z2 z3 x m n).lo), .int .i64 ((lawPolyEncloses4_e0 z0 z1 z2 z3 x m n).hi), .bool ((lawPolyEncloses4_e0 z0 z1 z2 z3 x m n).no)] ++ rg1, 26, false⟩]) (B := [(lawPolyEncloses4_b0 z0 z1 z2 z3 x m n g0), ⟨b, cs, ty, true⟩]) (bt := (lawPolyEncloses4_b2 z0 z1 z2 z3 x m n g4)) (xs := [.int .i64 ((lawPolyEncloses4_e0 z0 z1 z2 z3 x m n).lo), .int .i64 ((lawPolyEncloses4_e0 z0 z1 z2 z3 x m n).hi), .bool ((lawPolyEncloses4_e0 z0 z1 z2 z3 x m n).no)]) (news := [.int .i64 ((lawPolyEncloses4_e1 z0 z1 z2 z3 x m n).lo), .int .i64 ((lawPolyEncloses4_e1 z0 z1 z2 z3 x m n).hi), .bool ((lawPolyEncloses4_e1 z0 z1 z2 z3 x m n).no)]) (r := []) slT24 rfl rfl rfl (Row.mk (rest := rg1) fg1) rfl (List.mem_of_getElem? (i := 0) rfl) rfl rfl rfl rfl (by decide) (by decide) (by decide) fun v9 N9 R9 => ?_)
  obtain ⟨g5, cg5, rg5, rfl, rfl, fg5⟩ := R9.pos (by decide)
  refine ao 9 rfl rfl (st_assign (v := .slice (some ⟨g5, 0, none⟩) 2 cg5) rfl rfl ?_)
  refine ar_nil ?_
  refine ac_region_lit ?_
  refine ao 57 rfl rfl (st_move (v := .slice (some ⟨g3, 0, none⟩) 1 cg3) rfl rfl ?_)
  refine ao 58 rfl rfl (st_move (v := .int .i64 (w64 ((hPick z1 21) - 10))) rfl rfl ?_)
  refine ao 59 rfl rfl (st_cf (vs := [.int .i64 (w64 ((hPick z1 21) - 10))]) (r := .agg #[.int .i64 ((ivWhole (w64 ((hPick z1 21) - 10))).lo), .int .i64 ((ivWhole (w64 ((hPick z1 21) - 10))).hi), .bool ((ivWhole (w64 ((hPick z1 21) - 10))).no)]) (c_ivWhole (w64 ((hPick z1 21) - 10))) Try.func21 rfl (by decide) rfl rfl rfl ?_)
  refine ao 60 rfl rfl (st_bs (us := [(0, .agg #[.int .i64 ((ivWhole (w64 ((hPick z1 21) - 10))).lo), .int .i64 ((ivWhole (w64 ((hPick z1 21) - 10))).hi), .bool ((ivWhole (w64 ((hPick z1 21) - 10))).no)])]) (cs := [.int .i64 ((ivWhole (w64 ((hPick z1 21) - 10))).lo), .int .i64 ((ivWhole (w64 ((hPick z1 21) - 10))).hi), .bool ((ivWhole (w64 ((hPick z1 21) - 10))).no)]) rfl rfl (bs24_1_0a _ _ _) fun g6 => ?_)
  refine ao 61 rfl rfl (st_app (A := [(lawPolyEncloses4_b3 z0 z1 z2 z3 x m n g6), ⟨g5, [.int .i64 ((lawPolyEncloses4_e0 z0 z1 z2 z3 x m n).lo), .int .i64 ((lawPolyEncloses4_e0 z0 z1 z2 z3 x m n).hi), .bool ((lawPolyEncloses4_e0 z0 z1 z2 z3 x m n).no), .int .i64 ((lawPolyEncloses4_e1 z0 z1 z2 z3 x m n).lo), .int .i64 ((lawPolyEncloses4_e1 z0 z1 z2 z3 x m n).hi), .bool ((lawPolyEncloses4_e1 z0 z1 z2 z3 x m n).no)] ++ rg5, 26, false⟩, (lawPolyEncloses4_b2 z0 z1 z2 z3 x m n g4)]) (N := [⟨g3, [.int .i64 ((ivWhole (w64 ((hPick z0 21) - 10))).lo), .int .i64 ((ivWhole (w64 ((hPick z0 21) - 10))).hi), .bool ((ivWhole (w64 ((hPick z0 21) - 10))).no)] ++ rg3, 26, false⟩]) (B := [(lawPolyEncloses4_b1 z0 z1 z2 z3 x m n g2), (lawPolyEncloses4_b0 z0 z1 z2 z3 x m n g0), ⟨b, cs, ty, true⟩]) (bt := (lawPolyEncloses4_b3 z0 z1 z2 z3 x m n g6)) (xs := [.int .i64 ((ivWhole (w64 ((hPick z0 21) - 10))).lo), .int .i64 ((ivWhole (w64 ((hPick z0 21) - 10))).hi), .bool ((ivWhole (w64 ((hPick z0 21) - 10))).no)]) (news := [.int .i64 ((ivWhole (w64 ((hPick z1 21) - 10))).lo), .int .i64 ((ivWhole (w64 ((hPick z1 21) - 10))).hi), .bool ((ivWhole (w64 ((hPick z1 21) - 10))).no)]) (r := []) slT24 rfl rfl rfl (Row.mk (rest := rg3) fg3) rfl (List.mem_of_getElem? (i := 0) rfl) rfl rfl rfl rfl (by decide) (by decide) (by decide) fun v9 N9 R9 => ?_)
  obtain ⟨g7, cg7, rg7, rfl, rfl, fg7⟩ := R9.pos (by decide)
  refine ao 10 rfl rfl (st_assign (v := .slice (some ⟨g7, 0, none⟩) 2 cg7) rfl rfl ?_)
  refine ar_nil ?_
  refine ac_region_lit ?_
  refine ao 29 rfl rfl (st_move (v := .int .i64 1) rfl rfl ?_)
  refine ao 30 rfl rfl (st_bi (u := .int .i64 1) (v := .int .i64 1) (r := .int .i64 2) rfl rfl rfl (bi_add (by decide)) ?_)
  refine ao 13 rfl rfl (st_assign (v := .int .i64 2) rfl rfl ?_)
  refine ar_nil ?_
  refine ar_round ?_
  refine ac_seq ?_
  refine ac_seq ?_
  refine ac_region_lit ?_
  refine ao 21 rfl rfl (st_move (v := .int .i64 2) rfl rfl ?_)
  refine ao 22 rfl rfl (st_move (v := .slice (some ⟨b, off, none⟩) 4 cap) rfl rfl ?_)
  refine ao 23 rfl rfl (st_ln (a := some ⟨b, off, none⟩) (m := 4) (c := cap) rfl Try.underlying22 rfl ?_)
  refine ao 24 rfl rfl (st_bi (u := .int .i64 2) (v := .int .i64 4) (r := .bool true) rfl rfl rfl (bi_lss (by decide)) ?_)
  refine ao 25 rfl rfl (st_move (v := .bool true) rfl rfl ?_)
  refine ar_gd (d := (some 26)) rfl rfl (st_move (v := .int .i64 2) rfl rfl ?_)
  refine ar_gd (d := (some 27)) rfl rfl (st_bi (u := .int .i64 2) (v := .int .i64 5) (r := .bool true) rfl rfl rfl (bi_lss (by decide)) ?_)
  refine ao 28 rfl rfl (st_pkt (v := .bool true) rfl rfl rfl ?_)
  refine ar_nil ?_
  refine ac_then rfl ?_
  refine ac_skip ?_
  refine ac_seq ?_
  refine ac_block ?_
  refine ac_seq ?_
  refine ac_region_lit ?_
  refine ao 31 rfl rfl (st_move (v := .slice (some ⟨b, off, none⟩) 4 cap) rfl rfl ?_)
  refine ao 32 rfl rfl (st_move (v := .int .i64 2) rfl rfl ?_)
  refine ao 33 rfl rfl (st_sa (g := b) (off := off) (m := 4) (c := cap) (s := 1) (i := 2) rfl Try.underlying22 (by kernel_rfl) rfl rfl (by decide) ?_)
  refine ao 34 rfl rfl (st_ldc (g := b) (off := off + 2 * 1) (v := .int .i64 z2) cell3 6 rfl rfl rfl rfl e2 ?_)
  refine ao 35 rfl rfl (st_cf (vs := [.int .i64 z2, .int .i64 21]) (r := .int .i64 (hPick z2 21)) (c_hPick z2 21 (by decide)) Try.func19 rfl (by decide) rfl rfl rfl ?_)
  refine ao 36 rfl rfl (st_bi (u := .int .i64 (hPick z2 21)) (v := .int .i64 10) (r := .int .i64 (w64 ((hPick z2 21) - 10))) rfl rfl rfl (bi_sub rfl) ?_)
  refine ao 14 rfl rfl (st_assign (v := .int .i64 (w64 ((hPick z2 21) - 10))) rfl rfl ?_)
  refine ar_nil ?_
  refine ac_seq ?_
  refine ac_region_lit ?_
  refine ao 37 rfl rfl (st_move (v := .int .i64 (w64 ((w64 (0 + (w64 ((w64 ((hPick z0 21) - 10)) * 1)))) + (w64 ((w64 ((hPick z1 21) - 10)) * (w64 (1 * (w64 ((hPick x 13) - 6))))))))) rfl rfl ?_)
  refine ao 38 rfl rfl (st_move (v := .int .i64 (w64 ((hPick z2 21) - 10))) rfl rfl ?_)
  refine ao 39 rfl rfl (st_move (v := .int .i64 (w64 ((w64 (1 * (w64 ((hPick x 13) - 6)))) * (w64 ((hPick x 13) - 6))))) rfl rfl ?_)
  refine ao 40 rfl rfl (st_bi (u := .int .i64 (w64 ((hPick z2 21) - 10))) (v := .int .i64 (w64 ((w64 (1 * (w64 ((hPick x 13) - 6)))) * (w64 ((hPick x 13) - 6))))) (r := .int .i64 (w64 ((w64 ((hPick z2 21) - 10)) * (w64 ((w64 (1 * (w64 ((hPick x 13) - 6)))) * (w64 ((hPick x 13) - 6))))))) rfl rfl rfl (bi_mul rfl) ?_)
  refine ao 41 rfl rfl (st_bi (u := .int .i64 (w64 ((w64 (0 + (w64 ((w64 ((hPick z0 21) - 10)) * 1)))) + (w64 ((w64 ((hPick z1 21) - 10)) * (w64 (1 * (w64 ((hPick x 13) - 6))))))))) (v := .int .i64 (w64 ((w64 ((hPick z2 21) - 10)) * (w64 ((w64 (1 * (w64 ((hPick x 13) - 6)))) * (w64 ((hPick x 13) - 6))))))) (r := .int .i64 (w64 ((w64 ((w64 (0 + (w64 ((w64 ((hPick z0 21) - 10)) * 1)))) + (w64 ((w64 ((hPick z1 21) - 10)) * (w64 (1 * (w64 ((hPick x 13) - 6)))))))) + (w64 ((w64 ((hPick z2 21) - 10)) * (w64 ((w64 (1 * (w64 ((hPick x 13) - 6)))) * (w64 ((hPick x 13) - 6))))))))) rfl rfl rfl (bi_add rfl) ?_)
  refine ao 11 rfl rfl (st_assign (v := .int .i64 (w64 ((w64 ((w64 (0 + (w64 ((w64 ((hPick z0 21) - 10)) * 1)))) + (w64 ((w64 ((hPick z1 21) - 10)) * (w64 (1 * (w64 ((hPick x 13) - 6)))))))) + (w64 ((w64 ((hPick z2 21) - 10)) * (w64 ((w64 (1 * (w64 ((hPick x 13) - 6)))) * (w64 ((hPick x 13) - 6))))))))) rfl rfl ?_)
  refine ar_nil ?_
  refine ac_seq ?_
  refine ac_region_lit ?_
  refine ao 42 rfl rfl (st_move (v := .int .i64 (w64 ((w64 (1 * (w64 ((hPick x 13) - 6)))) * (w64 ((hPick x 13) - 6))))) rfl rfl ?_)
  refine ao 43 rfl rfl (st_move (v := .int .i64 (w64 ((hPick x 13) - 6))) rfl rfl ?_)
  refine ao 44 rfl rfl (st_bi (u := .int .i64 (w64 ((w64 (1 * (w64 ((hPick x 13) - 6)))) * (w64 ((hPick x 13) - 6))))) (v := .int .i64 (w64 ((hPick x 13) - 6))) (r := .int .i64 (w64 ((w64 ((w64 (1 * (w64 ((hPick x 13) - 6)))) * (w64 ((hPick x 13) - 6)))) * (w64 ((hPick x 13) - 6))))) rfl rfl rfl (bi_mul rfl) ?_)
  refine ao 12 rfl rfl (st_assign (v := .int .i64 (w64 ((w64 ((w64 (1 * (w64 ((hPick x 13) - 6)))) * (w64 ((hPick x 13) - 6)))) * (w64 ((hPick x 13) - 6))))) rfl rfl ?_)
  refine ar_nil ?_
  refine ac_seq ?_
  refine ac_region_lit ?_
  refine ao 45 rfl rfl (st_move (v := .slice (some ⟨g5, 0, none⟩) 2 cg5) rfl rfl ?_)
  refine ao 46 rfl rfl (st_move (v := .int .i64 (w64 ((hPick z2 21) - 10))) rfl rfl ?_)
  refine ao 47 rfl rfl (st_bi (u := .int .i64 (w64 ((hPick z2 21) - 10))) (v := .int .i64 65536) (r := .int .i64 (w64 ((w64 ((hPick z2 21) - 10)) * 65536))) rfl rfl rfl (bi_mul rfl) ?_)
  refine ao 48 rfl rfl (st_move (v := .int .i64 m) rfl rfl ?_)
  refine ao 49 rfl rfl (st_move (v := .int .i64 2) rfl rfl ?_)
  refine ao 50 rfl rfl (st_bi (u := .int .i64 2) (v := .int .i64 1) (r := .int .i64 3) rfl rfl rfl (bi_add (by decide)) ?_)
  refine ao 51 rfl rfl (st_bi (u := .int .i64 m) (v := .int .i64 3) (r := .int .i64 (w64 (Int.tdiv m 3))) rfl rfl rfl (bi_quo (by decide) rfl) ?_)
  refine ao 52 rfl rfl (st_cf (vs := [.int .i64 (w64 (Int.tdiv m 3)), .int .i64 50]) (r := .int .i64 (hPick (w64 (Int.tdiv m 3)) 50)) (c_hPick (w64 (Int.tdiv m 3)) 50 (by decide)) Try.func19 rfl (by decide) rfl rfl rfl ?_)
  refine ao 53 rfl rfl (st_bi (u := .int .i64 (w64 ((w64 ((hPick z2 21) - 10)) * 65536))) (v := .int .i64 (hPick (w64 (Int.tdiv m 3)) 50)) (r := .int .i64 (w64 ((w64 ((w64 ((hPick z2 21) - 10)) * 65536)) - (hPick (w64 (Int.tdiv m 3)) 50)))) rfl rfl rfl (bi_sub rfl) ?_)
  refine ao 54 rfl rfl (st_cf (vs := [.int .i64 (w64 ((w64 ((w64 ((hPick z2 21) - 10)) * 65536)) - (hPick (w64 (Int.tdiv m 3)) 50))), .int .i64 100]) (r := .agg #[.int .i64 ((lawPolyEncloses4_e2 z0 z1 z2 z3 x m n).lo), .int .i64 ((lawPolyEncloses4_e2 z0 z1 z2 z3 x m n).hi), .bool ((lawPolyEncloses4_e2 z0 z1 z2 z3 x m n).no)]) (c_hWide (w64 ((w64 ((w64 ((hPick z2 21) - 10)) * 65536)) - (hPick (w64 (Int.tdiv m 3)) 50))) 100) Try.func20 rfl (by decide) rfl rfl rfl ?_)
  refine ao 55 rfl rfl (st_bs (us := [(0, .agg #[.int .i64 ((lawPolyEncloses4_e2 z0 z1 z2 z3 x m n).lo), .int .i64 ((lawPolyEncloses4_e2 z0 z1 z2 z3 x m n).hi), .bool ((lawPolyEncloses4_e2 z0 z1 z2 z3 x m n).no)])]) (cs := [.int .i64 ((lawPolyEncloses4_e2 z0 z1 z2 z3 x m n).lo), .int .i64 ((lawPolyEncloses4_e2 z0 z1 z2 z3 x m n).hi), .bool ((lawPolyEncloses4_e2 z0 z1 z2 z3 x m n).no)]) rfl rfl (bs24_1_0a _ _ _) fun g8 => ?_)
  refine ao 56 rfl rfl (st_app (A := [(lawPolyEncloses4_b4 z0 z1 z2 z3 x m n g8), ⟨g7, [.int .i64 ((ivWhole (w64 ((hPick z0 21) - 10))).lo), .int .i64 ((ivWhole (w64 ((hPick z0 21) - 10))).hi), .bool ((ivWhole (w64 ((hPick z0 21) - 10))).no), .int .i64 ((ivWhole (w64 ((hPick z1 21) - 10))).lo), .int .i64 ((ivWhole (w64 ((hPick z1 21) - 10))).hi), .bool ((ivWhole (w64 ((hPick z1 21) - 10))).no)] ++ rg7, 26, false⟩, (lawPolyEncloses4_b3 z0 z1 z2 z3 x m n g6)]) (N := [⟨g5, [.int .i64 ((lawPolyEncloses4_e0 z0 z1 z2 z3 x m n).lo), .int .i64 ((lawPolyEncloses4_e0 z0 z1 z2 z3 x m n).hi), .bool ((lawPolyEncloses4_e0 z0 z1 z2 z3 x m n).no), .int .i64 ((lawPolyEncloses4_e1 z0 z1 z2 z3 x m n).lo), .int .i64 ((lawPolyEncloses4_e1 z0 z1 z2 z3 x m n).hi), .bool ((lawPolyEncloses4_e1 z0 z1 z2 z3 x m n).no)] ++ rg5, 26, false⟩]) (B := [(lawPolyEncloses4_b2 z0 z1 z2 z3 x m n g4), (lawPolyEncloses4_b1 z0 z1 z2 z3 x m n g2), (lawPolyEncloses4_b0 z0 z1 z2 z3 x m n g0), ⟨b, cs, ty, true⟩]) (bt := (lawPolyEncloses4_b4 z0 z1 z2 z3 x m n g8)) (xs := [.int .i64 ((lawPolyEncloses4_e0 z0 z1 z2 z3 x m n).lo), .int .i64 ((lawPolyEncloses4_e0 z0 z1 z2 z3 x m n).hi), .bool ((lawPolyEncloses4_e0 z0 z1 z2 z3 x m n).no), .int .i64 ((lawPolyEncloses4_e1 z0 z1 z2 z3 x m n).lo), .int .i64 ((lawPolyEncloses4_e1 z0 z1 z2 z3 x m n).hi), .bool ((lawPolyEncloses4_e1 z0 z1 z2 z3 x m n).no)]) (news := [.int .i64 ((lawPolyEncloses4_e2 z0 z1 z2 z3 x m n).lo), .int .i64 ((lawPolyEncloses4_e2 z0 z1 z2 z3 x m n).hi), .bool ((lawPolyEncloses4_e2 z0 z1 z2 z3 x m n).no)]) (r := []) slT24 rfl rfl rfl (Row.mk (rest := rg5) fg5) rfl (List.mem_of_getElem? (i := 0) rfl) rfl rfl rfl rfl (by decide) (by decide) (by decide) fun v9 N9 R9 => ?_)
  obtain ⟨g9, cg9, rg9, rfl, rfl, fg9⟩ := R9.pos (by decide)
  refine ao 9 rfl rfl (st_assign (v := .slice (some ⟨g9, 0, none⟩) 3 cg9) rfl rfl ?_)
  refine ar_nil ?_
  refine ac_region_lit ?_
  refine ao 57 rfl rfl (st_move (v := .slice (some ⟨g7, 0, none⟩) 2 cg7) rfl rfl ?_)
  refine ao 58 rfl rfl (st_move (v := .int .i64 (w64 ((hPick z2 21) - 10))) rfl rfl ?_)
  refine ao 59 rfl rfl (st_cf (vs := [.int .i64 (w64 ((hPick z2 21) - 10))]) (r := .agg #[.int .i64 ((ivWhole (w64 ((hPick z2 21) - 10))).lo), .int .i64 ((ivWhole (w64 ((hPick z2 21) - 10))).hi), .bool ((ivWhole (w64 ((hPick z2 21) - 10))).no)]) (c_ivWhole (w64 ((hPick z2 21) - 10))) Try.func21 rfl (by decide) rfl rfl rfl ?_)
  refine ao 60 rfl rfl (st_bs (us := [(0, .agg #[.int .i64 ((ivWhole (w64 ((hPick z2 21) - 10))).lo), .int .i64 ((ivWhole (w64 ((hPick z2 21) - 10))).hi), .bool ((ivWhole (w64 ((hPick z2 21) - 10))).no)])]) (cs := [.int .i64 ((ivWhole (w64 ((hPick z2 21) - 10))).lo), .int .i64 ((ivWhole (w64 ((hPick z2 21) - 10))).hi), .bool ((ivWhole (w64 ((hPick z2 21) - 10))).no)]) rfl rfl (bs24_1_0a _ _ _) fun g10 => ?_)
  refine ao 61 rfl rfl (st_app (A := [(lawPolyEncloses4_b5 z0 z1 z2 z3 x m n g10), ⟨g9, [.int .i64 ((lawPolyEncloses4_e0 z0 z1 z2 z3 x m n).lo), .int .i64 ((lawPolyEncloses4_e0 z0 z1 z2 z3 x m n).hi), .bool ((lawPolyEncloses4_e0 z0 z1 z2 z3 x m n).no), .int .i64 ((lawPolyEncloses4_e1 z0 z1 z2 z3 x m n).lo), .int .i64 ((lawPolyEncloses4_e1 z0 z1 z2 z3 x m n).hi), .bool ((lawPolyEncloses4_e1 z0 z1 z2 z3 x m n).no), .int .i64 ((lawPolyEncloses4_e2 z0 z1 z2 z3 x m n).lo), .int .i64 ((lawPolyEncloses4_e2 z0 z1 z2 z3 x m n).hi), .bool ((lawPolyEncloses4_e2 z0 z1 z2 z3 x m n).no)] ++ rg9, 26, false⟩, (lawPolyEncloses4_b4 z0 z1 z2 z3 x m n g8)]) (N := [⟨g7, [.int .i64 ((ivWhole (w64 ((hPick z0 21) - 10))).lo), .int .i64 ((ivWhole (w64 ((hPick z0 21) - 10))).hi), .bool ((ivWhole (w64 ((hPick z0 21) - 10))).no), .int .i64 ((ivWhole (w64 ((hPick z1 21) - 10))).lo), .int .i64 ((ivWhole (w64 ((hPick z1 21) - 10))).hi), .bool ((ivWhole (w64 ((hPick z1 21) - 10))).no)] ++ rg7, 26, false⟩]) (B := [(lawPolyEncloses4_b3 z0 z1 z2 z3 x m n g6), (lawPolyEncloses4_b2 z0 z1 z2 z3 x m n g4), (lawPolyEncloses4_b1 z0 z1 z2 z3 x m n g2), (lawPolyEncloses4_b0 z0 z1 z2 z3 x m n g0), ⟨b, cs, ty, true⟩]) (bt := (lawPolyEncloses4_b5 z0 z1 z2 z3 x m n g10)) (xs := [.int .i64 ((ivWhole (w64 ((hPick z0 21) - 10))).lo), .int .i64 ((ivWhole (w64 ((hPick z0 21) - 10))).hi), .bool ((ivWhole (w64 ((hPick z0 21) - 10))).no), .int .i64 ((ivWhole (w64 ((hPick z1 21) - 10))).lo), .int .i64 ((ivWhole (w64 ((hPick z1 21) - 10))).hi), .bool ((ivWhole (w64 ((hPick z1 21) - 10))).no)]) (news := [.int .i64 ((ivWhole (w64 ((hPick z2 21) - 10))).lo), .int .i64 ((ivWhole (w64 ((hPick z2 21) - 10))).hi), .bool ((ivWhole (w64 ((hPick z2 21) - 10))).no)]) (r := []) slT24 rfl rfl rfl (Row.mk (rest := rg7) fg7) rfl (List.mem_of_getElem? (i := 0) rfl) rfl rfl rfl rfl (by decide) (by decide) (by decide) fun v9 N9 R9 => ?_)
  obtain ⟨g11, cg11, rg11, rfl, rfl, fg11⟩ := R9.pos (by decide)
  refine ao 10 rfl rfl (st_assign (v := .slice (some ⟨g11, 0, none⟩) 3 cg11) rfl rfl ?_)
  refine ar_nil ?_
  refine ac_region_lit ?_
  refine ao 29 rfl rfl (st_move (v := .int .i64 2) rfl rfl ?_)
  refine ao 30 rfl rfl (st_bi (u := .int .i64 2) (v := .int .i64 1) (r := .int .i64 3) rfl rfl rfl (bi_add (by decide)) ?_)
  refine ao 13 rfl rfl (st_assign (v := .int .i64 3) rfl rfl ?_)
  refine ar_nil ?_
  refine ar_round ?_
  refine ac_seq ?_
  refine ac_seq ?_
  refine ac_region_lit ?_
  refine ao 21 rfl rfl (st_move (v := .int .i64 3) rfl rfl ?_)
  refine ao 22 rfl rfl (st_move (v := .slice (some ⟨b, off, none⟩) 4 cap) rfl rfl ?_)
  refine ao 23 rfl rfl (st_ln (a := some ⟨b, off, none⟩) (m := 4) (c := cap) rfl Try.underlying22 rfl ?_)
  refine ao 24 rfl rfl (st_bi (u := .int .i64 3) (v := .int .i64 4) (r := .bool true) rfl rfl rfl (bi_lss (by decide)) ?_)
  refine ao 25 rfl rfl (st_move (v := .bool true) rfl rfl ?_)
  refine ar_gd (d := (some 26)) rfl rfl (st_move (v := .int .i64 3) rfl rfl ?_)
  refine ar_gd (d := (some 27)) rfl rfl (st_bi (u := .int .i64 3) (v := .int .i64 5) (r := .bool true) rfl rfl rfl (bi_lss (by decide)) ?_)
  refine ao 28 rfl rfl (st_pkt (v := .bool true) rfl rfl rfl ?_)
  refine ar_nil ?_
  refine ac_then rfl ?_
  refine ac_skip ?_
  refine ac_seq ?_
  refine ac_block ?_
  refine ac_seq ?_
  refine ac_region_lit ?_
  refine ao 31 rfl rfl (st_move (v := .slice (some ⟨b, off, none⟩) 4 cap) rfl rfl ?_)
  refine ao 32 rfl rfl (st_move (v := .int .i64 3) rfl rfl ?_)
  refine ao 33 rfl rfl (st_sa (g := b) (off := off) (m := 4) (c := cap) (s := 1) (i := 3) rfl Try.underlying22 (by kernel_rfl) rfl rfl (by decide) ?_)
  refine ao 34 rfl rfl (st_ldc (g := b) (off := off + 3 * 1) (v := .int .i64 z3) cell3 8 rfl rfl rfl rfl e3 ?_)
  refine ao 35 rfl rfl (st_cf (vs := [.int .i64 z3, .int .i64 21]) (r := .int .i64 (hPick z3 21)) (c_hPick z3 21 (by decide)) Try.func19 rfl (by decide) rfl rfl rfl ?_)
  refine ao 36 rfl rfl (st_bi (u := .int .i64 (hPick z3 21)) (v := .int .i64 10) (r := .int .i64 (w64 ((hPick z3 21) - 10))) rfl rfl rfl (bi_sub rfl) ?_)
  refine ao 14 rfl rfl (st_assign (v := .int .i64 (w64 ((hPick z3 21) - 10))) rfl rfl ?_)
  refine ar_nil ?_
  refine ac_seq ?_
  refine ac_region_lit ?_
  refine ao 37 rfl rfl (st_move (v := .int .i64 (w64 ((w64 ((w64 (0 + (w64 ((w64 ((hPick z0 21) - 10)) * 1)))) + (w64 ((w64 ((hPick z1 21) - 10)) * (w64 (1 * (w64 ((hPick x 13) - 6)))))))) + (w64 ((w64 ((hPick z2 21) - 10)) * (w64 ((w64 (1 * (w64 ((hPick x 13) - 6)))) * (w64 ((hPick x 13) - 6))))))))) rfl rfl ?_)
  refine ao 38 rfl rfl (st_move (v := .int .i64 (w64 ((hPick z3 21) - 10))) rfl rfl ?_)
  refine ao 39 rfl rfl (st_move (v := .int .i64 (w64 ((w64 ((w64 (1 * (w64 ((hPick x 13) - 6)))) * (w64 ((hPick x 13) - 6)))) * (w64 ((hPick x 13) - 6))))) rfl rfl ?_)
  refine ao 40 rfl rfl (st_bi (u := .int .i64 (w64 ((hPick z3 21) - 10))) (v := .int .i64 (w64 ((w64 ((w64 (1 * (w64 ((hPick x 13) - 6)))) * (w64 ((hPick x 13) - 6)))) * (w64 ((hPick x 13) - 6))))) (r := .int .i64 (w64 ((w64 ((hPick z3 21) - 10)) * (w64 ((w64 ((w64 (1 * (w64 ((hPick x 13) - 6)))) * (w64 ((hPick x 13) - 6)))) * (w64 ((hPick x 13) - 6))))))) rfl rfl rfl (bi_mul rfl) ?_)
  refine ao 41 rfl rfl (st_bi (u := .int .i64 (w64 ((w64 ((w64 (0 + (w64 ((w64 ((hPick z0 21) - 10)) * 1)))) + (w64 ((w64 ((hPick z1 21) - 10)) * (w64 (1 * (w64 ((hPick x 13) - 6)))))))) + (w64 ((w64 ((hPick z2 21) - 10)) * (w64 ((w64 (1 * (w64 ((hPick x 13) - 6)))) * (w64 ((hPick x 13) - 6))))))))) (v := .int .i64 (w64 ((w64 ((hPick z3 21) - 10)) * (w64 ((w64 ((w64 (1 * (w64 ((hPick x 13) - 6)))) * (w64 ((hPick x 13) - 6)))) * (w64 ((hPick x 13) - 6))))))) (r := .int .i64 (w64 ((w64 ((w64 ((w64 (0 + (w64 ((w64 ((hPick z0 21) - 10)) * 1)))) + (w64 ((w64 ((hPick z1 21) - 10)) * (w64 (1 * (w64 ((hPick x 13) - 6)))))))) + (w64 ((w64 ((hPick z2 21) - 10)) * (w64 ((w64 (1 * (w64 ((hPick x 13) - 6)))) * (w64 ((hPick x 13) - 6)))))))) + (w64 ((w64 ((hPick z3 21) - 10)) * (w64 ((w64 ((w64 (1 * (w64 ((hPick x 13) - 6)))) * (w64 ((hPick x 13) - 6)))) * (w64 ((hPick x 13) - 6))))))))) rfl rfl rfl (bi_add rfl) ?_)
  refine ao 11 rfl rfl (st_assign (v := .int .i64 (w64 ((w64 ((w64 ((w64 (0 + (w64 ((w64 ((hPick z0 21) - 10)) * 1)))) + (w64 ((w64 ((hPick z1 21) - 10)) * (w64 (1 * (w64 ((hPick x 13) - 6)))))))) + (w64 ((w64 ((hPick z2 21) - 10)) * (w64 ((w64 (1 * (w64 ((hPick x 13) - 6)))) * (w64 ((hPick x 13) - 6)))))))) + (w64 ((w64 ((hPick z3 21) - 10)) * (w64 ((w64 ((w64 (1 * (w64 ((hPick x 13) - 6)))) * (w64 ((hPick x 13) - 6)))) * (w64 ((hPick x 13) - 6))))))))) rfl rfl ?_)
  refine ar_nil ?_
  refine ac_seq ?_
  refine ac_region_lit ?_
  refine ao 42 rfl rfl (st_move (v := .int .i64 (w64 ((w64 ((w64 (1 * (w64 ((hPick x 13) - 6)))) * (w64 ((hPick x 13) - 6)))) * (w64 ((hPick x 13) - 6))))) rfl rfl ?_)
  refine ao 43 rfl rfl (st_move (v := .int .i64 (w64 ((hPick x 13) - 6))) rfl rfl ?_)
  refine ao 44 rfl rfl (st_bi (u := .int .i64 (w64 ((w64 ((w64 (1 * (w64 ((hPick x 13) - 6)))) * (w64 ((hPick x 13) - 6)))) * (w64 ((hPick x 13) - 6))))) (v := .int .i64 (w64 ((hPick x 13) - 6))) (r := .int .i64 (w64 ((w64 ((w64 ((w64 (1 * (w64 ((hPick x 13) - 6)))) * (w64 ((hPick x 13) - 6)))) * (w64 ((hPick x 13) - 6)))) * (w64 ((hPick x 13) - 6))))) rfl rfl rfl (bi_mul rfl) ?_)
  refine ao 12 rfl rfl (st_assign (v := .int .i64 (w64 ((w64 ((w64 ((w64 (1 * (w64 ((hPick x 13) - 6)))) * (w64 ((hPick x 13) - 6)))) * (w64 ((hPick x 13) - 6)))) * (w64 ((hPick x 13) - 6))))) rfl rfl ?_)
  refine ar_nil ?_
  refine ac_seq ?_
  refine ac_region_lit ?_
  refine ao 45 rfl rfl (st_move (v := .slice (some ⟨g9, 0, none⟩) 3 cg9) rfl rfl ?_)
  refine ao 46 rfl rfl (st_move (v := .int .i64 (w64 ((hPick z3 21) - 10))) rfl rfl ?_)
  refine ao 47 rfl rfl (st_bi (u := .int .i64 (w64 ((hPick z3 21) - 10))) (v := .int .i64 65536) (r := .int .i64 (w64 ((w64 ((hPick z3 21) - 10)) * 65536))) rfl rfl rfl (bi_mul rfl) ?_)
  refine ao 48 rfl rfl (st_move (v := .int .i64 m) rfl rfl ?_)
  refine ao 49 rfl rfl (st_move (v := .int .i64 3) rfl rfl ?_)
  refine ao 50 rfl rfl (st_bi (u := .int .i64 3) (v := .int .i64 1) (r := .int .i64 4) rfl rfl rfl (bi_add (by decide)) ?_)
  refine ao 51 rfl rfl (st_bi (u := .int .i64 m) (v := .int .i64 4) (r := .int .i64 (w64 (Int.tdiv m 4))) rfl rfl rfl (bi_quo (by decide) rfl) ?_)
  refine ao 52 rfl rfl (st_cf (vs := [.int .i64 (w64 (Int.tdiv m 4)), .int .i64 50]) (r := .int .i64 (hPick (w64 (Int.tdiv m 4)) 50)) (c_hPick (w64 (Int.tdiv m 4)) 50 (by decide)) Try.func19 rfl (by decide) rfl rfl rfl ?_)
  refine ao 53 rfl rfl (st_bi (u := .int .i64 (w64 ((w64 ((hPick z3 21) - 10)) * 65536))) (v := .int .i64 (hPick (w64 (Int.tdiv m 4)) 50)) (r := .int .i64 (w64 ((w64 ((w64 ((hPick z3 21) - 10)) * 65536)) - (hPick (w64 (Int.tdiv m 4)) 50)))) rfl rfl rfl (bi_sub rfl) ?_)
  refine ao 54 rfl rfl (st_cf (vs := [.int .i64 (w64 ((w64 ((w64 ((hPick z3 21) - 10)) * 65536)) - (hPick (w64 (Int.tdiv m 4)) 50))), .int .i64 100]) (r := .agg #[.int .i64 ((lawPolyEncloses4_e3 z0 z1 z2 z3 x m n).lo), .int .i64 ((lawPolyEncloses4_e3 z0 z1 z2 z3 x m n).hi), .bool ((lawPolyEncloses4_e3 z0 z1 z2 z3 x m n).no)]) (c_hWide (w64 ((w64 ((w64 ((hPick z3 21) - 10)) * 65536)) - (hPick (w64 (Int.tdiv m 4)) 50))) 100) Try.func20 rfl (by decide) rfl rfl rfl ?_)
  refine ao 55 rfl rfl (st_bs (us := [(0, .agg #[.int .i64 ((lawPolyEncloses4_e3 z0 z1 z2 z3 x m n).lo), .int .i64 ((lawPolyEncloses4_e3 z0 z1 z2 z3 x m n).hi), .bool ((lawPolyEncloses4_e3 z0 z1 z2 z3 x m n).no)])]) (cs := [.int .i64 ((lawPolyEncloses4_e3 z0 z1 z2 z3 x m n).lo), .int .i64 ((lawPolyEncloses4_e3 z0 z1 z2 z3 x m n).hi), .bool ((lawPolyEncloses4_e3 z0 z1 z2 z3 x m n).no)]) rfl rfl (bs24_1_0a _ _ _) fun g12 => ?_)
  refine ao 56 rfl rfl (st_app (A := [(lawPolyEncloses4_b6 z0 z1 z2 z3 x m n g12), ⟨g11, [.int .i64 ((ivWhole (w64 ((hPick z0 21) - 10))).lo), .int .i64 ((ivWhole (w64 ((hPick z0 21) - 10))).hi), .bool ((ivWhole (w64 ((hPick z0 21) - 10))).no), .int .i64 ((ivWhole (w64 ((hPick z1 21) - 10))).lo), .int .i64 ((ivWhole (w64 ((hPick z1 21) - 10))).hi), .bool ((ivWhole (w64 ((hPick z1 21) - 10))).no), .int .i64 ((ivWhole (w64 ((hPick z2 21) - 10))).lo), .int .i64 ((ivWhole (w64 ((hPick z2 21) - 10))).hi), .bool ((ivWhole (w64 ((hPick z2 21) - 10))).no)] ++ rg11, 26, false⟩, (lawPolyEncloses4_b5 z0 z1 z2 z3 x m n g10)]) (N := [⟨g9, [.int .i64 ((lawPolyEncloses4_e0 z0 z1 z2 z3 x m n).lo), .int .i64 ((lawPolyEncloses4_e0 z0 z1 z2 z3 x m n).hi), .bool ((lawPolyEncloses4_e0 z0 z1 z2 z3 x m n).no), .int .i64 ((lawPolyEncloses4_e1 z0 z1 z2 z3 x m n).lo), .int .i64 ((lawPolyEncloses4_e1 z0 z1 z2 z3 x m n).hi), .bool ((lawPolyEncloses4_e1 z0 z1 z2 z3 x m n).no), .int .i64 ((lawPolyEncloses4_e2 z0 z1 z2 z3 x m n).lo), .int .i64 ((lawPolyEncloses4_e2 z0 z1 z2 z3 x m n).hi), .bool ((lawPolyEncloses4_e2 z0 z1 z2 z3 x m n).no)] ++ rg9, 26, false⟩]) (B := [(lawPolyEncloses4_b4 z0 z1 z2 z3 x m n g8), (lawPolyEncloses4_b3 z0 z1 z2 z3 x m n g6), (lawPolyEncloses4_b2 z0 z1 z2 z3 x m n g4), (lawPolyEncloses4_b1 z0 z1 z2 z3 x m n g2), (lawPolyEncloses4_b0 z0 z1 z2 z3 x m n g0), ⟨b, cs, ty, true⟩]) (bt := (lawPolyEncloses4_b6 z0 z1 z2 z3 x m n g12)) (xs := [.int .i64 ((lawPolyEncloses4_e0 z0 z1 z2 z3 x m n).lo), .int .i64 ((lawPolyEncloses4_e0 z0 z1 z2 z3 x m n).hi), .bool ((lawPolyEncloses4_e0 z0 z1 z2 z3 x m n).no), .int .i64 ((lawPolyEncloses4_e1 z0 z1 z2 z3 x m n).lo), .int .i64 ((lawPolyEncloses4_e1 z0 z1 z2 z3 x m n).hi), .bool ((lawPolyEncloses4_e1 z0 z1 z2 z3 x m n).no), .int .i64 ((lawPolyEncloses4_e2 z0 z1 z2 z3 x m n).lo), .int .i64 ((lawPolyEncloses4_e2 z0 z1 z2 z3 x m n).hi), .bool ((lawPolyEncloses4_e2 z0 z1 z2 z3 x m n).no)]) (news := [.int .i64 ((lawPolyEncloses4_e3 z0 z1 z2 z3 x m n).lo), .int .i64 ((lawPolyEncloses4_e3 z0 z1 z2 z3 x m n).hi), .bool ((lawPolyEncloses4_e3 z0 z1 z2 z3 x m n).no)]) (r := []) slT24 rfl rfl rfl (Row.mk (rest := rg9) fg9) rfl (List.mem_of_getElem? (i := 0) rfl) rfl rfl rfl rfl (by decide) (by decide) (by decide) fun v9 N9 R9 => ?_)
  obtain ⟨g13, cg13, rg13, rfl, rfl, fg13⟩ := R9.pos (by decide)
  refine ao 9 rfl rfl (st_assign (v := .slice (some ⟨g13, 0, none⟩) 4 cg13) rfl rfl ?_)
  refine ar_nil ?_
  refine ac_region_lit ?_
  refine ao 57 rfl rfl (st_move (v := .slice (some ⟨g11, 0, none⟩) 3 cg11) rfl rfl ?_)
  refine ao 58 rfl rfl (st_move (v := .int .i64 (w64 ((hPick z3 21) - 10))) rfl rfl ?_)
  refine ao 59 rfl rfl (st_cf (vs := [.int .i64 (w64 ((hPick z3 21) - 10))]) (r := .agg #[.int .i64 ((ivWhole (w64 ((hPick z3 21) - 10))).lo), .int .i64 ((ivWhole (w64 ((hPick z3 21) - 10))).hi), .bool ((ivWhole (w64 ((hPick z3 21) - 10))).no)]) (c_ivWhole (w64 ((hPick z3 21) - 10))) Try.func21 rfl (by decide) rfl rfl rfl ?_)
  refine ao 60 rfl rfl (st_bs (us := [(0, .agg #[.int .i64 ((ivWhole (w64 ((hPick z3 21) - 10))).lo), .int .i64 ((ivWhole (w64 ((hPick z3 21) - 10))).hi), .bool ((ivWhole (w64 ((hPick z3 21) - 10))).no)])]) (cs := [.int .i64 ((ivWhole (w64 ((hPick z3 21) - 10))).lo), .int .i64 ((ivWhole (w64 ((hPick z3 21) - 10))).hi), .bool ((ivWhole (w64 ((hPick z3 21) - 10))).no)]) rfl rfl (bs24_1_0a _ _ _) fun g14 => ?_)
  refine ao 61 rfl rfl (st_app (A := [(lawPolyEncloses4_b7 z0 z1 z2 z3 x m n g14), ⟨g13, [.int .i64 ((lawPolyEncloses4_e0 z0 z1 z2 z3 x m n).lo), .int .i64 ((lawPolyEncloses4_e0 z0 z1 z2 z3 x m n).hi), .bool ((lawPolyEncloses4_e0 z0 z1 z2 z3 x m n).no), .int .i64 ((lawPolyEncloses4_e1 z0 z1 z2 z3 x m n).lo), .int .i64 ((lawPolyEncloses4_e1 z0 z1 z2 z3 x m n).hi), .bool ((lawPolyEncloses4_e1 z0 z1 z2 z3 x m n).no), .int .i64 ((lawPolyEncloses4_e2 z0 z1 z2 z3 x m n).lo), .int .i64 ((lawPolyEncloses4_e2 z0 z1 z2 z3 x m n).hi), .bool ((lawPolyEncloses4_e2 z0 z1 z2 z3 x m n).no), .int .i64 ((lawPolyEncloses4_e3 z0 z1 z2 z3 x m n).lo), .int .i64 ((lawPolyEncloses4_e3 z0 z1 z2 z3 x m n).hi), .bool ((lawPolyEncloses4_e3 z0 z1 z2 z3 x m n).no)] ++ rg13, 26, false⟩, (lawPolyEncloses4_b6 z0 z1 z2 z3 x m n g12)]) (N := [⟨g11, [.int .i64 ((ivWhole (w64 ((hPick z0 21) - 10))).lo), .int .i64 ((ivWhole (w64 ((hPick z0 21) - 10))).hi), .bool ((ivWhole (w64 ((hPick z0 21) - 10))).no), .int .i64 ((ivWhole (w64 ((hPick z1 21) - 10))).lo), .int .i64 ((ivWhole (w64 ((hPick z1 21) - 10))).hi), .bool ((ivWhole (w64 ((hPick z1 21) - 10))).no), .int .i64 ((ivWhole (w64 ((hPick z2 21) - 10))).lo), .int .i64 ((ivWhole (w64 ((hPick z2 21) - 10))).hi), .bool ((ivWhole (w64 ((hPick z2 21) - 10))).no)] ++ rg11, 26, false⟩]) (B := [(lawPolyEncloses4_b5 z0 z1 z2 z3 x m n g10), (lawPolyEncloses4_b4 z0 z1 z2 z3 x m n g8), (lawPolyEncloses4_b3 z0 z1 z2 z3 x m n g6), (lawPolyEncloses4_b2 z0 z1 z2 z3 x m n g4), (lawPolyEncloses4_b1 z0 z1 z2 z3 x m n g2), (lawPolyEncloses4_b0 z0 z1 z2 z3 x m n g0), ⟨b, cs, ty, true⟩]) (bt := (lawPolyEncloses4_b7 z0 z1 z2 z3 x m n g14)) (xs := [.int .i64 ((ivWhole (w64 ((hPick z0 21) - 10))).lo), .int .i64 ((ivWhole (w64 ((hPick z0 21) - 10))).hi), .bool ((ivWhole (w64 ((hPick z0 21) - 10))).no), .int .i64 ((ivWhole (w64 ((hPick z1 21) - 10))).lo), .int .i64 ((ivWhole (w64 ((hPick z1 21) - 10))).hi), .bool ((ivWhole (w64 ((hPick z1 21) - 10))).no), .int .i64 ((ivWhole (w64 ((hPick z2 21) - 10))).lo), .int .i64 ((ivWhole (w64 ((hPick z2 21) - 10))).hi), .bool ((ivWhole (w64 ((hPick z2 21) - 10))).no)]) (news := [.int .i64 ((ivWhole (w64 ((hPick z3 21) - 10))).lo), .int .i64 ((ivWhole (w64 ((hPick z3 21) - 10))).hi), .bool ((ivWhole (w64 ((hPick z3 21) - 10))).no)]) (r := []) slT24 rfl rfl rfl (Row.mk (rest := rg11) fg11) rfl (List.mem_of_getElem? (i := 0) rfl) rfl rfl rfl rfl (by decide) (by decide) (by decide) fun v9 N9 R9 => ?_)
  obtain ⟨g15, cg15, rg15, rfl, rfl, fg15⟩ := R9.pos (by decide)
  refine ao 10 rfl rfl (st_assign (v := .slice (some ⟨g15, 0, none⟩) 4 cg15) rfl rfl ?_)
  refine ar_nil ?_
  refine ac_region_lit ?_
  refine ao 29 rfl rfl (st_move (v := .int .i64 3) rfl rfl ?_)
  refine ao 30 rfl rfl (st_bi (u := .int .i64 3) (v := .int .i64 1) (r := .int .i64 4) rfl rfl rfl (bi_add (by decide)) ?_)
  refine ao 13 rfl rfl (st_assign (v := .int .i64 4) rfl rfl ?_)
  refine ar_nil ?_
  refine ar_round ?_
  refine ac_seq ?_
  refine ac_seq ?_
  refine ac_region_lit ?_
  refine ao 21 rfl rfl (st_move (v := .int .i64 4) rfl rfl ?_)
  refine ao 22 rfl rfl (st_move (v := .slice (some ⟨b, off, none⟩) 4 cap) rfl rfl ?_)
  refine ao 23 rfl rfl (st_ln (a := some ⟨b, off, none⟩) (m := 4) (c := cap) rfl Try.underlying22 rfl ?_)
  refine ao 24 rfl rfl (st_bi (u := .int .i64 4) (v := .int .i64 4) (r := .bool false) rfl rfl rfl (bi_lss (by decide)) ?_)
  refine ao 25 rfl rfl (st_move (v := .bool false) rfl rfl ?_)
  refine ar_sk (d := (some 26)) rfl rfl ?_
  refine ar_sk (d := (some 27)) rfl rfl ?_
  refine ao 28 rfl rfl (st_pkf (v := .bool false) rfl rfl rfl ?_)
  refine ar_nil ?_
  refine ac_else rfl ?_
  refine ac_exit ?_
  refine ac_seq ?_
  refine ac_region_lit ?_
  refine ao 62 rfl rfl (st_move (v := .int .i64 (w64 ((hPick x 13) - 6))) rfl rfl ?_)
  refine ao 63 rfl rfl (st_bi (u := .int .i64 (w64 ((hPick x 13) - 6))) (v := .int .i64 65536) (r := .int .i64 (w64 ((w64 ((hPick x 13) - 6)) * 65536))) rfl rfl rfl (bi_mul rfl) ?_)
  refine ao 64 rfl rfl (st_move (v := .int .i64 n) rfl rfl ?_)
  refine ao 65 rfl rfl (st_cf (vs := [.int .i64 n, .int .i64 9]) (r := .int .i64 (hPick n 9)) (c_hPick n 9 (by decide)) Try.func19 rfl (by decide) rfl rfl rfl ?_)
  refine ao 66 rfl rfl (st_bi (u := .int .i64 (w64 ((w64 ((hPick x 13) - 6)) * 65536))) (v := .int .i64 (hPick n 9)) (r := .int .i64 (w64 ((w64 ((w64 ((hPick x 13) - 6)) * 65536)) - (hPick n 9)))) rfl rfl rfl (bi_sub rfl) ?_)
  refine ao 67 rfl rfl (st_cf (vs := [.int .i64 (w64 ((w64 ((w64 ((hPick x 13) - 6)) * 65536)) - (hPick n 9))), .int .i64 20]) (r := .agg #[.int .i64 ((lawPolyEncloses4_e4 z0 z1 z2 z3 x m n).lo), .int .i64 ((lawPolyEncloses4_e4 z0 z1 z2 z3 x m n).hi), .bool ((lawPolyEncloses4_e4 z0 z1 z2 z3 x m n).no)]) (c_hWide (w64 ((w64 ((w64 ((hPick x 13) - 6)) * 65536)) - (hPick n 9))) 20) Try.func20 rfl (by decide) rfl rfl rfl ?_)
  refine ao 15 rfl rfl (st_new zero26 rfl fun g16 => ?_)
  refine ar_op (d := none) rfl rfl (st_sta (g := g16) (off := 0) (us := [.int .i64 ((lawPolyEncloses4_e4 z0 z1 z2 z3 x m n).lo), .int .i64 ((lawPolyEncloses4_e4 z0 z1 z2 z3 x m n).hi), .bool ((lawPolyEncloses4_e4 z0 z1 z2 z3 x m n).no)]) (cs := [.int .i64 ((lawPolyEncloses4_e4 z0 z1 z2 z3 x m n).lo), .int .i64 ((lawPolyEncloses4_e4 z0 z1 z2 z3 x m n).hi), .bool ((lawPolyEncloses4_e4 z0 z1 z2 z3 x m n).no)]) agg26 0 rfl rfl rfl rfl rfl rfl rfl rfl rfl ?_)
  refine ar_nil ?_
  refine ac_seq ?_
  refine ac_region_lit ?_
  refine ao 68 rfl rfl (st_move (v := .slice (some ⟨g13, 0, none⟩) 4 cg13) rfl rfl ?_)
  refine ao 69 rfl rfl (st_lda (g := g16) (off := 0) (vs := [.int .i64 ((lawPolyEncloses4_e4 z0 z1 z2 z3 x m n).lo), .int .i64 ((lawPolyEncloses4_e4 z0 z1 z2 z3 x m n).hi), .bool ((lawPolyEncloses4_e4 z0 z1 z2 z3 x m n).no)]) agg26 0 rfl rfl rfl rfl rfl rfl ?_)
  refine ao 70 rfl rfl (st_gr (vs := [.slice (some ⟨g13, 0, none⟩) 4 cg13, .agg #[.int .i64 ((lawPolyEncloses4_e4 z0 z1 z2 z3 x m n).lo), .int .i64 ((lawPolyEncloses4_e4 z0 z1 z2 z3 x m n).hi), .bool ((lawPolyEncloses4_e4 z0 z1 z2 z3 x m n).no)]]) (R := [⟨g13, [.int .i64 ((lawPolyEncloses4_e0 z0 z1 z2 z3 x m n).lo), .int .i64 ((lawPolyEncloses4_e0 z0 z1 z2 z3 x m n).hi), .bool ((lawPolyEncloses4_e0 z0 z1 z2 z3 x m n).no), .int .i64 ((lawPolyEncloses4_e1 z0 z1 z2 z3 x m n).lo), .int .i64 ((lawPolyEncloses4_e1 z0 z1 z2 z3 x m n).hi), .bool ((lawPolyEncloses4_e1 z0 z1 z2 z3 x m n).no), .int .i64 ((lawPolyEncloses4_e2 z0 z1 z2 z3 x m n).lo), .int .i64 ((lawPolyEncloses4_e2 z0 z1 z2 z3 x m n).hi), .bool ((lawPolyEncloses4_e2 z0 z1 z2 z3 x m n).no), .int .i64 ((lawPolyEncloses4_e3 z0 z1 z2 z3 x m n).lo), .int .i64 ((lawPolyEncloses4_e3 z0 z1 z2 z3 x m n).hi), .bool ((lawPolyEncloses4_e3 z0 z1 z2 z3 x m n).no)] ++ rg13, 26, true⟩]) (r := .agg #[.int .i64 ((lawPolyEncloses4_e5 z0 z1 z2 z3 x m n).lo), .int .i64 ((lawPolyEncloses4_e5 z0 z1 z2 z3 x m n).hi), .bool ((lawPolyEncloses4_e5 z0 z1 z2 z3 x m n).no)]) (c_horner (lawPolyEncloses4_e0 z0 z1 z2 z3 x m n) [(lawPolyEncloses4_e1 z0 z1 z2 z3 x m n), (lawPolyEncloses4_e2 z0 z1 z2 z3 x m n), (lawPolyEncloses4_e3 z0 z1 z2 z3 x m n)] cg13 g13 rg13 (lawPolyEncloses4_e4 z0 z1 z2 z3 x m n) (fg13.2.2.1) (Nat.le_of_ble_eq_true rfl)) Try.func22 rfl (by decide) rfl rfl rfl (has_cons 3 _ rfl rfl rfl rfl has_nil) (by simp) ?_)
  refine ao 16 rfl rfl (st_new zero26 rfl fun g17 => ?_)
  refine ar_op (d := none) rfl rfl (st_sta (g := g17) (off := 0) (us := [.int .i64 ((lawPolyEncloses4_e5 z0 z1 z2 z3 x m n).lo), .int .i64 ((lawPolyEncloses4_e5 z0 z1 z2 z3 x m n).hi), .bool ((lawPolyEncloses4_e5 z0 z1 z2 z3 x m n).no)]) (cs := [.int .i64 ((lawPolyEncloses4_e5 z0 z1 z2 z3 x m n).lo), .int .i64 ((lawPolyEncloses4_e5 z0 z1 z2 z3 x m n).hi), .bool ((lawPolyEncloses4_e5 z0 z1 z2 z3 x m n).no)]) agg26 0 rfl rfl rfl rfl rfl rfl rfl rfl rfl ?_)
  refine ar_nil ?_
  refine ac_seq ?_
  refine ac_region_lit ?_
  refine ao 71 rfl rfl (st_move (v := .slice (some ⟨g15, 0, none⟩) 4 cg15) rfl rfl ?_)
  refine ao 72 rfl rfl (st_move (v := .int .i64 (w64 ((hPick x 13) - 6))) rfl rfl ?_)
  refine ao 73 rfl rfl (st_cf (vs := [.int .i64 (w64 ((hPick x 13) - 6))]) (r := .agg #[.int .i64 ((ivWhole (w64 ((hPick x 13) - 6))).lo), .int .i64 ((ivWhole (w64 ((hPick x 13) - 6))).hi), .bool ((ivWhole (w64 ((hPick x 13) - 6))).no)]) (c_ivWhole (w64 ((hPick x 13) - 6))) Try.func21 rfl (by decide) rfl rfl rfl ?_)
  refine ao 74 rfl rfl (st_gr (vs := [.slice (some ⟨g15, 0, none⟩) 4 cg15, .agg #[.int .i64 ((ivWhole (w64 ((hPick x 13) - 6))).lo), .int .i64 ((ivWhole (w64 ((hPick x 13) - 6))).hi), .bool ((ivWhole (w64 ((hPick x 13) - 6))).no)]]) (R := [⟨g15, [.int .i64 ((ivWhole (w64 ((hPick z0 21) - 10))).lo), .int .i64 ((ivWhole (w64 ((hPick z0 21) - 10))).hi), .bool ((ivWhole (w64 ((hPick z0 21) - 10))).no), .int .i64 ((ivWhole (w64 ((hPick z1 21) - 10))).lo), .int .i64 ((ivWhole (w64 ((hPick z1 21) - 10))).hi), .bool ((ivWhole (w64 ((hPick z1 21) - 10))).no), .int .i64 ((ivWhole (w64 ((hPick z2 21) - 10))).lo), .int .i64 ((ivWhole (w64 ((hPick z2 21) - 10))).hi), .bool ((ivWhole (w64 ((hPick z2 21) - 10))).no), .int .i64 ((ivWhole (w64 ((hPick z3 21) - 10))).lo), .int .i64 ((ivWhole (w64 ((hPick z3 21) - 10))).hi), .bool ((ivWhole (w64 ((hPick z3 21) - 10))).no)] ++ rg15, 26, true⟩]) (r := .agg #[.int .i64 ((lawPolyEncloses4_e6 z0 z1 z2 z3 x m n).lo), .int .i64 ((lawPolyEncloses4_e6 z0 z1 z2 z3 x m n).hi), .bool ((lawPolyEncloses4_e6 z0 z1 z2 z3 x m n).no)]) (c_horner (ivWhole (w64 ((hPick z0 21) - 10))) [(ivWhole (w64 ((hPick z1 21) - 10))), (ivWhole (w64 ((hPick z2 21) - 10))), (ivWhole (w64 ((hPick z3 21) - 10)))] cg15 g15 rg15 (ivWhole (w64 ((hPick x 13) - 6))) (fg15.2.2.1) (Nat.le_of_ble_eq_true rfl)) Try.func22 rfl (by decide) rfl rfl rfl (has_cons 2 _ rfl rfl rfl rfl has_nil) (by simp) ?_)
  refine ao 17 rfl rfl (st_new zero26 rfl fun g18 => ?_)
  refine ar_op (d := none) rfl rfl (st_sta (g := g18) (off := 0) (us := [.int .i64 ((lawPolyEncloses4_e6 z0 z1 z2 z3 x m n).lo), .int .i64 ((lawPolyEncloses4_e6 z0 z1 z2 z3 x m n).hi), .bool ((lawPolyEncloses4_e6 z0 z1 z2 z3 x m n).no)]) (cs := [.int .i64 ((lawPolyEncloses4_e6 z0 z1 z2 z3 x m n).lo), .int .i64 ((lawPolyEncloses4_e6 z0 z1 z2 z3 x m n).hi), .bool ((lawPolyEncloses4_e6 z0 z1 z2 z3 x m n).no)]) agg26 0 rfl rfl rfl rfl rfl rfl rfl rfl rfl ?_)
  refine ar_nil ?_
  refine ac_seq ?_
  refine ac_region_lit ?_
  refine ao 75 rfl rfl (st_cf (vs := []) (r := .bool known4) c_known4 Try.func23 rfl (by decide) rfl rfl rfl ?_)
  refine ao 76 rfl rfl (st_move (v := .bool known4) rfl rfl ?_)
  refine bool_split (known4) (fun h1 => ?_) (fun h1 => nomatch (show false = true from (show (lawPolyEncloses4 z0 z1 z2 z3 x m n) = _ from (eF h1 rfl)).symm.trans H))
  refine ar_gd (d := (some 77)) (by show (known4 == true) = true; rw [h1]; rfl) rfl (st_lda (g := g18) (off := 0) (vs := [.int .i64 ((lawPolyEncloses4_e6 z0 z1 z2 z3 x m n).lo), .int .i64 ((lawPolyEncloses4_e6 z0 z1 z2 z3 x m n).hi), .bool ((lawPolyEncloses4_e6 z0 z1 z2 z3 x m n).no)]) agg26 0 rfl rfl rfl rfl rfl rfl ?_)
  refine ar_gd (d := (some 78)) (by show (known4 == true) = true; rw [h1]; rfl) rfl (st_move (v := .int .i64 (w64 ((w64 ((w64 ((w64 (0 + (w64 ((w64 ((hPick z0 21) - 10)) * 1)))) + (w64 ((w64 ((hPick z1 21) - 10)) * (w64 (1 * (w64 ((hPick x 13) - 6)))))))) + (w64 ((w64 ((hPick z2 21) - 10)) * (w64 ((w64 (1 * (w64 ((hPick x 13) - 6)))) * (w64 ((hPick x 13) - 6)))))))) + (w64 ((w64 ((hPick z3 21) - 10)) * (w64 ((w64 ((w64 (1 * (w64 ((hPick x 13) - 6)))) * (w64 ((hPick x 13) - 6)))) * (w64 ((hPick x 13) - 6))))))))) rfl rfl ?_)
  refine ar_gd (d := (some 79)) (by show (known4 == true) = true; rw [h1]; rfl) rfl (st_bi (u := .int .i64 (w64 ((w64 ((w64 ((w64 (0 + (w64 ((w64 ((hPick z0 21) - 10)) * 1)))) + (w64 ((w64 ((hPick z1 21) - 10)) * (w64 (1 * (w64 ((hPick x 13) - 6)))))))) + (w64 ((w64 ((hPick z2 21) - 10)) * (w64 ((w64 (1 * (w64 ((hPick x 13) - 6)))) * (w64 ((hPick x 13) - 6)))))))) + (w64 ((w64 ((hPick z3 21) - 10)) * (w64 ((w64 ((w64 (1 * (w64 ((hPick x 13) - 6)))) * (w64 ((hPick x 13) - 6)))) * (w64 ((hPick x 13) - 6))))))))) (v := .int .i64 65536) (r := .int .i64 (w64 ((w64 ((w64 ((w64 ((w64 (0 + (w64 ((w64 ((hPick z0 21) - 10)) * 1)))) + (w64 ((w64 ((hPick z1 21) - 10)) * (w64 (1 * (w64 ((hPick x 13) - 6)))))))) + (w64 ((w64 ((hPick z2 21) - 10)) * (w64 ((w64 (1 * (w64 ((hPick x 13) - 6)))) * (w64 ((hPick x 13) - 6)))))))) + (w64 ((w64 ((hPick z3 21) - 10)) * (w64 ((w64 ((w64 (1 * (w64 ((hPick x 13) - 6)))) * (w64 ((hPick x 13) - 6)))) * (w64 ((hPick x 13) - 6)))))))) * 65536))) rfl rfl rfl (bi_mul rfl) ?_)
  refine ar_gd (d := (some 80)) (by show (known4 == true) = true; rw [h1]; rfl) rfl (st_cf (vs := [.agg #[.int .i64 ((lawPolyEncloses4_e6 z0 z1 z2 z3 x m n).lo), .int .i64 ((lawPolyEncloses4_e6 z0 z1 z2 z3 x m n).hi), .bool ((lawPolyEncloses4_e6 z0 z1 z2 z3 x m n).no)], .int .i64 (w64 ((w64 ((w64 ((w64 ((w64 (0 + (w64 ((w64 ((hPick z0 21) - 10)) * 1)))) + (w64 ((w64 ((hPick z1 21) - 10)) * (w64 (1 * (w64 ((hPick x 13) - 6)))))))) + (w64 ((w64 ((hPick z2 21) - 10)) * (w64 ((w64 (1 * (w64 ((hPick x 13) - 6)))) * (w64 ((hPick x 13) - 6)))))))) + (w64 ((w64 ((hPick z3 21) - 10)) * (w64 ((w64 ((w64 (1 * (w64 ((hPick x 13) - 6)))) * (w64 ((hPick x 13) - 6)))) * (w64 ((hPick x 13) - 6)))))))) * 65536))]) (r := .bool (lawPolyEncloses4_e7 z0 z1 z2 z3 x m n)) (c_ivHas (lawPolyEncloses4_e6 z0 z1 z2 z3 x m n) (w64 ((w64 ((w64 ((w64 ((w64 (0 + (w64 ((w64 ((hPick z0 21) - 10)) * 1)))) + (w64 ((w64 ((hPick z1 21) - 10)) * (w64 (1 * (w64 ((hPick x 13) - 6)))))))) + (w64 ((w64 ((hPick z2 21) - 10)) * (w64 ((w64 (1 * (w64 ((hPick x 13) - 6)))) * (w64 ((hPick x 13) - 6)))))))) + (w64 ((w64 ((hPick z3 21) - 10)) * (w64 ((w64 ((w64 (1 * (w64 ((hPick x 13) - 6)))) * (w64 ((hPick x 13) - 6)))) * (w64 ((hPick x 13) - 6)))))))) * 65536))) Try.func24 rfl (by decide) rfl rfl rfl ?_)
  refine ao 81 rfl rfl (st_pkt' (b := known4) (v := .bool (lawPolyEncloses4_e7 z0 z1 z2 z3 x m n)) h1 rfl rfl rfl ?_)
  refine ao 82 rfl rfl (st_move (v := .bool (lawPolyEncloses4_e7 z0 z1 z2 z3 x m n)) rfl rfl ?_)
  refine bool_split (lawPolyEncloses4_e7 z0 z1 z2 z3 x m n) (fun h2 => ?_) (fun h2 => nomatch (show false = true from (show (lawPolyEncloses4 z0 z1 z2 z3 x m n) = _ from (eT h1 (eF h2 rfl))).symm.trans H))
  refine ar_gd (d := (some 83)) (by show ((lawPolyEncloses4_e7 z0 z1 z2 z3 x m n) == true) = true; rw [h2]; rfl) rfl (st_fa (g := g18) (off := 0) rfl fa26_0 rfl ?_)
  refine ar_gd (d := (some 84)) (by show ((lawPolyEncloses4_e7 z0 z1 z2 z3 x m n) == true) = true; rw [h2]; rfl) rfl (st_ldc (g := g18) (off := 0) (v := .int .i64 ((lawPolyEncloses4_e6 z0 z1 z2 z3 x m n).lo)) cell3 0 rfl rfl rfl rfl rfl ?_)
  refine ar_gd (d := (some 85)) (by show ((lawPolyEncloses4_e7 z0 z1 z2 z3 x m n) == true) = true; rw [h2]; rfl) rfl (st_fa (g := g18) (off := 0) rfl fa26_1 rfl ?_)
  refine ar_gd (d := (some 86)) (by show ((lawPolyEncloses4_e7 z0 z1 z2 z3 x m n) == true) = true; rw [h2]; rfl) rfl (st_ldc (g := g18) (off := 1) (v := .int .i64 ((lawPolyEncloses4_e6 z0 z1 z2 z3 x m n).hi)) cell3 0 rfl rfl rfl rfl rfl ?_)
  refine ar_gd (d := (some 87)) (by show ((lawPolyEncloses4_e7 z0 z1 z2 z3 x m n) == true) = true; rw [h2]; rfl) rfl (st_bi (u := .int .i64 ((lawPolyEncloses4_e6 z0 z1 z2 z3 x m n).lo)) (v := .int .i64 ((lawPolyEncloses4_e6 z0 z1 z2 z3 x m n).hi)) (r := .bool (((lawPolyEncloses4_e6 z0 z1 z2 z3 x m n).lo) == ((lawPolyEncloses4_e6 z0 z1 z2 z3 x m n).hi))) rfl rfl rfl (bi_eql rfl) ?_)
  refine ao 88 rfl rfl (st_pkt' (b := lawPolyEncloses4_e7 z0 z1 z2 z3 x m n) (v := .bool (((lawPolyEncloses4_e6 z0 z1 z2 z3 x m n).lo) == ((lawPolyEncloses4_e6 z0 z1 z2 z3 x m n).hi))) h2 rfl rfl rfl ?_)
  refine ao 89 rfl rfl (st_move (v := .bool (((lawPolyEncloses4_e6 z0 z1 z2 z3 x m n).lo) == ((lawPolyEncloses4_e6 z0 z1 z2 z3 x m n).hi))) rfl rfl ?_)
  refine bool_split (((lawPolyEncloses4_e6 z0 z1 z2 z3 x m n).lo) == ((lawPolyEncloses4_e6 z0 z1 z2 z3 x m n).hi)) (fun h3 => ?_) (fun h3 => nomatch (show false = true from (show (lawPolyEncloses4 z0 z1 z2 z3 x m n) = _ from (eT h1 (eT h2 (eF h3 rfl)))).symm.trans H))
  refine ar_gd (d := (some 90)) (by show ((((lawPolyEncloses4_e6 z0 z1 z2 z3 x m n).lo) == ((lawPolyEncloses4_e6 z0 z1 z2 z3 x m n).hi)) == true) = true; rw [h3]; rfl) rfl (st_lda (g := g17) (off := 0) (vs := [.int .i64 ((lawPolyEncloses4_e5 z0 z1 z2 z3 x m n).lo), .int .i64 ((lawPolyEncloses4_e5 z0 z1 z2 z3 x m n).hi), .bool ((lawPolyEncloses4_e5 z0 z1 z2 z3 x m n).no)]) agg26 1 rfl rfl rfl rfl rfl rfl ?_)
  refine ar_gd (d := (some 91)) (by show ((((lawPolyEncloses4_e6 z0 z1 z2 z3 x m n).lo) == ((lawPolyEncloses4_e6 z0 z1 z2 z3 x m n).hi)) == true) = true; rw [h3]; rfl) rfl (st_cf (vs := [.agg #[.int .i64 ((lawPolyEncloses4_e5 z0 z1 z2 z3 x m n).lo), .int .i64 ((lawPolyEncloses4_e5 z0 z1 z2 z3 x m n).hi), .bool ((lawPolyEncloses4_e5 z0 z1 z2 z3 x m n).no)]]) (r := .bool (ivRight (lawPolyEncloses4_e5 z0 z1 z2 z3 x m n))) (c_ivRight (lawPolyEncloses4_e5 z0 z1 z2 z3 x m n)) Try.func25 rfl (by decide) rfl rfl rfl ?_)
  refine ar_gd (d := (some 92)) (by show ((((lawPolyEncloses4_e6 z0 z1 z2 z3 x m n).lo) == ((lawPolyEncloses4_e6 z0 z1 z2 z3 x m n).hi)) == true) = true; rw [h3]; rfl) rfl (st_un (u := .bool (ivRight (lawPolyEncloses4_e5 z0 z1 z2 z3 x m n))) (v := .bool (!(ivRight (lawPolyEncloses4_e5 z0 z1 z2 z3 x m n)))) rfl rfl (un_not rfl) ?_)
  refine ar_gd (d := (some 93)) (by show ((((lawPolyEncloses4_e6 z0 z1 z2 z3 x m n).lo) == ((lawPolyEncloses4_e6 z0 z1 z2 z3 x m n).hi)) == true) = true; rw [h3]; rfl) rfl (st_move (v := .bool (!(ivRight (lawPolyEncloses4_e5 z0 z1 z2 z3 x m n)))) rfl rfl ?_)
  refine bool_split (ivRight (lawPolyEncloses4_e5 z0 z1 z2 z3 x m n)) (fun h4 => ?_) (fun h4 => ?_)
  · refine ar_gd (d := (some 94)) (by show ((!(ivRight (lawPolyEncloses4_e5 z0 z1 z2 z3 x m n))) == false) = true; rw [h4]; rfl) rfl (st_lda (g := g18) (off := 0) (vs := [.int .i64 ((lawPolyEncloses4_e6 z0 z1 z2 z3 x m n).lo), .int .i64 ((lawPolyEncloses4_e6 z0 z1 z2 z3 x m n).hi), .bool ((lawPolyEncloses4_e6 z0 z1 z2 z3 x m n).no)]) agg26 0 rfl rfl rfl rfl rfl rfl ?_)
    refine ar_gd (d := (some 95)) (by show ((!(ivRight (lawPolyEncloses4_e5 z0 z1 z2 z3 x m n))) == false) = true; rw [h4]; rfl) rfl (st_lda (g := g17) (off := 0) (vs := [.int .i64 ((lawPolyEncloses4_e5 z0 z1 z2 z3 x m n).lo), .int .i64 ((lawPolyEncloses4_e5 z0 z1 z2 z3 x m n).hi), .bool ((lawPolyEncloses4_e5 z0 z1 z2 z3 x m n).no)]) agg26 1 rfl rfl rfl rfl rfl rfl ?_)
    refine ar_gd (d := (some 96)) (by show ((!(ivRight (lawPolyEncloses4_e5 z0 z1 z2 z3 x m n))) == false) = true; rw [h4]; rfl) rfl (st_cf (vs := [.agg #[.int .i64 ((lawPolyEncloses4_e6 z0 z1 z2 z3 x m n).lo), .int .i64 ((lawPolyEncloses4_e6 z0 z1 z2 z3 x m n).hi), .bool ((lawPolyEncloses4_e6 z0 z1 z2 z3 x m n).no)], .agg #[.int .i64 ((lawPolyEncloses4_e5 z0 z1 z2 z3 x m n).lo), .int .i64 ((lawPolyEncloses4_e5 z0 z1 z2 z3 x m n).hi), .bool ((lawPolyEncloses4_e5 z0 z1 z2 z3 x m n).no)]]) (r := .bool (lawPolyEncloses4_e8 z0 z1 z2 z3 x m n)) (c_ivInside (lawPolyEncloses4_e6 z0 z1 z2 z3 x m n) (lawPolyEncloses4_e5 z0 z1 z2 z3 x m n)) Try.func26 rfl (by decide) rfl rfl rfl ?_)
    refine ar_gd (d := (some 97)) (by show ((((lawPolyEncloses4_e6 z0 z1 z2 z3 x m n).lo) == ((lawPolyEncloses4_e6 z0 z1 z2 z3 x m n).hi)) == true) = true; rw [h3]; rfl) rfl (st_pkf' (b := !(ivRight (lawPolyEncloses4_e5 z0 z1 z2 z3 x m n))) (v := .bool (lawPolyEncloses4_e8 z0 z1 z2 z3 x m n)) (by rw [h4]; rfl) rfl rfl rfl ?_)
    refine ao 98 rfl rfl (st_pkt' (b := ((lawPolyEncloses4_e6 z0 z1 z2 z3 x m n).lo) == ((lawPolyEncloses4_e6 z0 z1 z2 z3 x m n).hi)) (v := .bool (lawPolyEncloses4_e8 z0 z1 z2 z3 x m n)) h3 rfl rfl rfl ?_)
    refine ao 8 rfl rfl (st_assign (v := .bool (lawPolyEncloses4_e8 z0 z1 z2 z3 x m n)) rfl rfl ?_)
    refine ar_nil ?_
    refine ac_ret ?_
    exact fin_eq (v := .bool (lawPolyEncloses4_e8 z0 z1 z2 z3 x m n)) (congrArg Value.bool (show (lawPolyEncloses4_e8 z0 z1 z2 z3 x m n) = true from (show (lawPolyEncloses4 z0 z1 z2 z3 x m n) = _ from (eT h1 (eT h2 (eT h3 (eT h4 rfl))))).symm.trans H)) (fin_ret (res_tmp rfl rfl))
  · refine ar_sk (d := (some 94)) (by show ((!(ivRight (lawPolyEncloses4_e5 z0 z1 z2 z3 x m n))) == false) = false; rw [h4]; rfl) rfl ?_
    refine ar_sk (d := (some 95)) (by show ((!(ivRight (lawPolyEncloses4_e5 z0 z1 z2 z3 x m n))) == false) = false; rw [h4]; rfl) rfl ?_
    refine ar_sk (d := (some 96)) (by show ((!(ivRight (lawPolyEncloses4_e5 z0 z1 z2 z3 x m n))) == false) = false; rw [h4]; rfl) rfl ?_
    refine ar_gd (d := (some 97)) (by show ((((lawPolyEncloses4_e6 z0 z1 z2 z3 x m n).lo) == ((lawPolyEncloses4_e6 z0 z1 z2 z3 x m n).hi)) == true) = true; rw [h3]; rfl) rfl (st_pkt' (b := !(ivRight (lawPolyEncloses4_e5 z0 z1 z2 z3 x m n))) (v := .bool true) (by rw [h4]; rfl) rfl rfl rfl ?_)
    refine ao 98 rfl rfl (st_pkt' (b := ((lawPolyEncloses4_e6 z0 z1 z2 z3 x m n).lo) == ((lawPolyEncloses4_e6 z0 z1 z2 z3 x m n).hi)) (v := .bool true) h3 rfl rfl rfl ?_)
    refine ao 8 rfl rfl (st_assign (v := .bool true) rfl rfl ?_)
    refine ar_nil ?_
    refine ac_ret ?_
    exact fin_eq (by first | rfl | (rw [h4, h3, h2, h1] <;> rfl)) (fin_ret (res_tmp rfl rfl))
end Go.Proofs.Ythngkopcadlciaa
