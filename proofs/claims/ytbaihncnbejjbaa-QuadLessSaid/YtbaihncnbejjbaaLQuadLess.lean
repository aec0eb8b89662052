import Derived.Test.YtbaihncnbejjbaaDraw2
import Derived.Test.YtbaihncnbejjbaaK6
import Derived.Test.YtbaihncnbejjbaaHand
set_option linter.unusedVariables false
set_option linter.unusedSimpArgs false
namespace Go.Proofs.Ytbaihncnbejjbaa
open Go.RowKit

attribute [local irreducible] AC AR DWalk
def lawQuadLess_e0 (a : Int) (b : Int) (c : Int) (d : Int) (e : Int) (f : Int) (m : Int) (n : Int) : Iv × Int := (quadNear (hIn (hTame a b) m n) (hIn (hTame c d) n m) (hIn (hTame e f) (w64 (Int.tdiv m 3)) (w64 (Int.tdiv n 3))))
def lawQuadLess_e1 (a : Int) (b : Int) (c : Int) (d : Int) (e : Int) (f : Int) (m : Int) (n : Int) : Bool := (ivInside ((lawQuadLess_e0 a b c d e f m n).1) ((quadNear (hTame a b) (hTame c d) (hTame e f)).1))
def lawQuadLess (a : Int) (b : Int) (c : Int) (d : Int) (e : Int) (f : Int) (m : Int) (n : Int) : Bool := (bif known6 then (bif ((quadNear (hTame a b) (hTame c d) (hTame e f)).2) == 0 then (bif ((quadNear (hTame a b) (hTame c d) (hTame e f)).2) != 1 then (((lawQuadLess_e0 a b c d e f m n).2) == 1) == (ivRight ((lawQuadLess_e0 a b c d e f m n).1)) else (bif lawQuadLess_e1 a b c d e f m n then (((lawQuadLess_e0 a b c d e f m n).2) == 1) == (ivRight ((lawQuadLess_e0 a b c d e f m n).1)) else false)) else (bif ((lawQuadLess_e0 a b c d e f m n).2) == ((quadNear (hTame a b) (hTame c d) (hTame e f)).2) then (bif ((quadNear (hTame a b) (hTame c d) (hTame e f)).2) != 1 then (((lawQuadLess_e0 a b c d e f m n).2) == 1) == (ivRight ((lawQuadLess_e0 a b c d e f m n).1)) else (bif lawQuadLess_e1 a b c d e f m n then (((lawQuadLess_e0 a b c d e f m n).2) == 1) == (ivRight ((lawQuadLess_e0 a b c d e f m n).1)) else false)) else false)) else false)
set_option maxRecDepth 100000 in
set_option maxHeartbeats 4000000 in
theorem c_lawQuadLess (a : Int) (b : Int) (c : Int) (d : Int) (e : Int) (f : Int) (m : Int) (n : Int) (H : (lawQuadLess a b c d e f m n) = true) : Gets Try.prog 19 #[.int .i64 a, .int .i64 b, .int .i64 c, .int .i64 d, .int .i64 e, .int .i64 f, .int .i64 m, .int .i64 n] (.bool true) := by
  refine gets_fin Try.func19 rfl rfl rfl ?_
  refine ac_seq ?_
  refine ac_region_lit ?_
  refine ao 16 rfl rfl (st_assign (v := .bool false) rfl rfl ?_)
  refine ar_nil ?_
  refine ac_seq ?_
  refine ac_region_lit ?_
  refine ao 24 rfl rfl (st_move (v := .int .i64 a) rfl rfl ?_)
  refine ao 25 rfl rfl (st_move (v := .int .i64 b) rfl rfl ?_)
  refine ao 26 rfl rfl (st_cf (vs := [.int .i64 a, .int .i64 b]) (r := .agg #[.int .i64 ((hTame a b).lo), .int .i64 ((hTame a b).hi), .bool ((hTame a b).no)]) (c_hTame a b) Try.func72 rfl (by decide) rfl rfl rfl ?_)
  refine ao 17 rfl rfl (st_new zero35 rfl fun g0 => ?_)
  refine ar_op (d := none) rfl rfl (st_sta (g := g0) (off := 0) (us := [.int .i64 ((hTame a b).lo), .int .i64 ((hTame a b).hi), .bool ((hTame a b).no)]) (cs := [.int .i64 ((hTame a b).lo), .int .i64 ((hTame a b).hi), .bool ((hTame a b).no)]) agg35 0 rfl rfl rfl rfl rfl rfl rfl rfl rfl ?_)
  refine ar_nil ?_
  refine ac_seq ?_
  refine ac_region_lit ?_
  refine ao 27 rfl rfl (st_move (v := .int .i64 c) rfl rfl ?_)
  refine ao 28 rfl rfl (st_move (v := .int .i64 d) rfl rfl ?_)
  refine ao 29 rfl rfl (st_cf (vs := [.int .i64 c, .int .i64 d]) (r := .agg #[.int .i64 ((hTame c d).lo), .int .i64 ((hTame c d).hi), .bool ((hTame c d).no)]) (c_hTame c d) Try.func72 rfl (by decide) rfl rfl rfl ?_)
  refine ao 18 rfl rfl (st_new zero35 rfl fun g1 => ?_)
  refine ar_op (d := none) rfl rfl (st_sta (g := g1) (off := 0) (us := [.int .i64 ((hTame c d).lo), .int .i64 ((hTame c d).hi), .bool ((hTame c d).no)]) (cs := [.int .i64 ((hTame c d).lo), .int .i64 ((hTame c d).hi), .bool ((hTame c d).no)]) agg35 0 rfl rfl rfl rfl rfl rfl rfl rfl rfl ?_)
  refine ar_nil ?_
  refine ac_seq ?_
  refine ac_region_lit ?_
  refine ao 30 rfl rfl (st_move (v := .int .i64 e) rfl rfl ?_)
  refine ao 31 rfl rfl (st_move (v := .int .i64 f) rfl rfl ?_)
  refine ao 32 rfl rfl (st_cf (vs := [.int .i64 e, .int .i64 f]) (r := .agg #[.int .i64 ((hTame e f).lo), .int .i64 ((hTame e f).hi), .bool ((hTame e f).no)]) (c_hTame e f) Try.func72 rfl (by decide) rfl rfl rfl ?_)
  refine ao 19 rfl rfl (st_new zero35 rfl fun g2 => ?_)
  refine ar_op (d := none) rfl rfl (st_sta (g := g2) (off := 0) (us := [.int .i64 ((hTame e f).lo), .int .i64 ((hTame e f).hi), .bool ((hTame e f).no)]) (cs := [.int .i64 ((hTame e f).lo), .int .i64 ((hTame e f).hi), .bool ((hTame e f).no)]) agg35 0 rfl rfl rfl rfl rfl rfl rfl rfl rfl ?_)
  refine ar_nil ?_
  refine ac_seq ?_
  refine ac_region_lit ?_
  refine ao 34 rfl rfl (st_lda (g := g0) (off := 0) (vs := [.int .i64 ((hTame a b).lo), .int .i64 ((hTame a b).hi), .bool ((hTame a b).no)]) agg35 2 rfl rfl rfl rfl rfl rfl ?_)
  refine ao 35 rfl rfl (st_lda (g := g1) (off := 0) (vs := [.int .i64 ((hTame c d).lo), .int .i64 ((hTame c d).hi), .bool ((hTame c d).no)]) agg35 1 rfl rfl rfl rfl rfl rfl ?_)
  refine ao 36 rfl rfl (st_lda (g := g2) (off := 0) (vs := [.int .i64 ((hTame e f).lo), .int .i64 ((hTame e f).hi), .bool ((hTame e f).no)]) agg35 0 rfl rfl rfl rfl rfl rfl ?_)
  refine ao 37 rfl rfl (st_cf (vs := [.agg #[.int .i64 ((hTame a b).lo), .int .i64 ((hTame a b).hi), .bool ((hTame a b).no)], .agg #[.int .i64 ((hTame c d).lo), .int .i64 ((hTame c d).hi), .bool ((hTame c d).no)], .agg #[.int .i64 ((hTame e f).lo), .int .i64 ((hTame e f).hi), .bool ((hTame e f).no)]]) (r := .tuple #[.agg #[.int .i64 (((quadNear (hTame a b) (hTame c d) (hTame e f)).1).lo), .int .i64 (((quadNear (hTame a b) (hTame c d) (hTame e f)).1).hi), .bool (((quadNear (hTame a b) (hTame c d) (hTame e f)).1).no)], .int .i64 ((quadNear (hTame a b) (hTame c d) (hTame e f)).2)]) (c_quadNear (hTame a b) (hTame c d) (hTame e f)) Try.func83 rfl (by decide) rfl rfl rfl ?_)
  refine ao 33 rfl rfl (st_move (v := .tuple #[.agg #[.int .i64 (((quadNear (hTame a b) (hTame c d) (hTame e f)).1).lo), .int .i64 (((quadNear (hTame a b) (hTame c d) (hTame e f)).1).hi), .bool (((quadNear (hTame a b) (hTame c d) (hTame e f)).1).no)], .int .i64 ((quadNear (hTame a b) (hTame c d) (hTame e f)).2)]) rfl rfl ?_)
  refine ao 38 rfl rfl (st_ex (vs := [.agg #[.int .i64 (((quadNear (hTame a b) (hTame c d) (hTame e f)).1).lo), .int .i64 (((quadNear (hTame a b) (hTame c d) (hTame e f)).1).hi), .bool (((quadNear (hTame a b) (hTame c d) (hTame e f)).1).no)], .int .i64 ((quadNear (hTame a b) (hTame c d) (hTame e f)).2)]) (v := .agg #[.int .i64 (((quadNear (hTame a b) (hTame c d) (hTame e f)).1).lo), .int .i64 (((quadNear (hTame a b) (hTame c d) (hTame e f)).1).hi), .bool (((quadNear (hTame a b) (hTame c d) (hTame e f)).1).no)]) rfl rfl rfl ?_)
  refine ao 39 rfl rfl (st_ex (vs := [.agg #[.int .i64 (((quadNear (hTame a b) (hTame c d) (hTame e f)).1).lo), .int .i64 (((quadNear (hTame a b) (hTame c d) (hTame e f)).1).hi), .bool (((quadNear (hTame a b) (hTame c d) (hTame e f)).1).no)], .int .i64 ((quadNear (hTame a b) (hTame c d) (hTame e f)).2)]) (v := .int .i64 ((quadNear (hTame a b) (hTame c d) (hTame e f)).2)) rfl rfl rfl ?_)
  refine ao 20 rfl rfl (st_new zero35 rfl fun g3 => ?_)
  refine ar_op (d := none) rfl rfl (st_sta (g := g3) (off := 0) (us := [.int .i64 (((quadNear (hTame a b) (hTame c d) (hTame e f)).1).lo), .int .i64 (((quadNear (hTame a b) (hTame c d) (hTame e f)).1).hi), .bool (((quadNear (hTame a b) (hTame c d) (hTame e f)).1).no)]) (cs := [.int .i64 (((quadNear (hTame a b) (hTame c d) (hTame e f)).1).lo), .int .i64 (((quadNear (hTame a b) (hTame c d) (hTame e f)).1).hi), .bool (((quadNear (hTame a b) (hTame c d) (hTame e f)).1).no)]) agg35 0 rfl rfl rfl rfl rfl rfl rfl rfl rfl ?_)
  refine ao 21 rfl rfl (st_assign (v := .int .i64 ((quadNear (hTame a b) (hTame c d) (hTame e f)).2)) rfl rfl ?_)
  refine ar_nil ?_
  refine ac_seq ?_
  refine ac_drawL1 (id := 5) [0, 1, 2, 3, 4, 5, 6, 7, 8, 9, 10, 11, 12, 13, 14, 15, 16, 17] [19, 20] 17 18 22 35 _ _ (by kernel_rfl) ⟨_, _, _, rfl, rfl, rfl⟩ (by repeat (first | exact np_fin | refine np_then ?_ | refine np_block ?_)) follows rfl zero35 ⟨_, rfl, rfl, rfl, rfl⟩ ?_
  refine dw_op (d := (some 41)) (.agg #[.int .i64 ((hTame a b).lo), .int .i64 ((hTame a b).hi), .bool ((hTame a b).no)]) rfl rfl rfl (st_lda (g := g0) (off := 0) (vs := [.int .i64 ((hTame a b).lo), .int .i64 ((hTame a b).hi), .bool ((hTame a b).no)]) agg35 3 rfl rfl rfl rfl rfl rfl ⟨rfl, rfl⟩) ?_
  refine dw_op (d := (some 42)) (.int .i64 m) rfl rfl rfl (st_move (v := .int .i64 m) rfl rfl ⟨rfl, rfl⟩) ?_
  refine dw_op (d := (some 43)) (.int .i64 n) rfl rfl rfl (st_move (v := .int .i64 n) rfl rfl ⟨rfl, rfl⟩) ?_
  refine dw_op (d := (some 44)) (.agg #[.int .i64 ((hIn (hTame a b) m n).lo), .int .i64 ((hIn (hTame a b) m n).hi), .bool ((hIn (hTame a b) m n).no)]) rfl rfl rfl (st_cf (vs := [.agg #[.int .i64 ((hTame a b).lo), .int .i64 ((hTame a b).hi), .bool ((hTame a b).no)], .int .i64 m, .int .i64 n]) (r := .agg #[.int .i64 ((hIn (hTame a b) m n).lo), .int .i64 ((hIn (hTame a b) m n).hi), .bool ((hIn (hTame a b) m n).no)]) (c_hIn (hTame a b) m n) Try.func75 rfl (by decide) rfl rfl rfl ⟨rfl, rfl⟩) ?_
  refine dw_op (d := (some 45)) (.agg #[.int .i64 ((hTame c d).lo), .int .i64 ((hTame c d).hi), .bool ((hTame c d).no)]) rfl rfl rfl (st_lda (g := g1) (off := 0) (vs := [.int .i64 ((hTame c d).lo), .int .i64 ((hTame c d).hi), .bool ((hTame c d).no)]) agg35 2 rfl rfl rfl rfl rfl rfl ⟨rfl, rfl⟩) ?_
  refine dw_op (d := (some 46)) (.int .i64 n) rfl rfl rfl (st_move (v := .int .i64 n) rfl rfl ⟨rfl, rfl⟩) ?_
  refine dw_op (d := (some 47)) (.int .i64 m) rfl rfl rfl (st_move (v := .int .i64 m) rfl rfl ⟨rfl, rfl⟩) ?_
  refine dw_op (d := (some 48)) (.agg #[.int .i64 ((hIn (hTame c d) n m).lo), .int .i64 ((hIn (hTame c d) n m).hi), .bool ((hIn (hTame c d) n m).no)]) rfl rfl rfl (st_cf (vs := [.agg #[.int .i64 ((hTame c d).lo), .int .i64 ((hTame c d).hi), .bool ((hTame c d).no)], .int .i64 n, .int .i64 m]) (r := .agg #[.int .i64 ((hIn (hTame c d) n m).lo), .int .i64 ((hIn (hTame c d) n m).hi), .bool ((hIn (hTame c d) n m).no)]) (c_hIn (hTame c d) n m) Try.func75 rfl (by decide) rfl rfl rfl ⟨rfl, rfl⟩) ?_
  refine dw_op (d := (some 49)) (.agg #[.int .i64 ((hTame e f).lo), .int .i64 ((hTame e f).hi), .bool ((hTame e f).no)]) rfl rfl rfl (st_lda (g := g2) (off := 0) (vs := [.int .i64 ((hTame e f).lo), .int .i64 ((hTame e f).hi), .bool ((hTame e f).no)]) agg35 1 rfl rfl rfl rfl rfl rfl ⟨rfl, rfl⟩) ?_
  refine dw_op (d := (some 50)) (.int .i64 m) rfl rfl rfl (st_move (v := .int .i64 m) rfl rfl ⟨rfl, rfl⟩) ?_
  refine dw_op (d := (some 51)) (.int .i64 (w64 (Int.tdiv m 3))) rfl rfl rfl (st_bi (u := .int .i64 m) (v := .int .i64 3) (r := .int .i64 (w64 (Int.tdiv m 3))) rfl rfl rfl (bi_quo (by decide) rfl) ⟨rfl, rfl⟩) ?_
  refine dw_op (d := (some 52)) (.int .i64 n) rfl rfl rfl (st_move (v := .int .i64 n) rfl rfl ⟨rfl, rfl⟩) ?_
  refine dw_op (d := (some 53)) (.int .i64 (w64 (Int.tdiv n 3))) rfl rfl rfl (st_bi (u := .int .i64 n) (v := .int .i64 3) (r := .int .i64 (w64 (Int.tdiv n 3))) rfl rfl rfl (bi_quo (by decide) rfl) ⟨rfl, rfl⟩) ?_
  refine dw_op (d := (some 54)) (.agg #[.int .i64 ((hIn (hTame e f) (w64 (Int.tdiv m 3)) (w64 (Int.tdiv n 3))).lo), .int .i64 ((hIn (hTame e f) (w64 (Int.tdiv m 3)) (w64 (Int.tdiv n 3))).hi), .bool ((hIn (hTame e f) (w64 (Int.tdiv m 3)) (w64 (Int.tdiv n 3))).no)]) rfl rfl rfl (st_cf (vs := [.agg #[.int .i64 ((hTame e f).lo), .int .i64 ((hTame e f).hi), .bool ((hTame e f).no)], .int .i64 (w64 (Int.tdiv m 3)), .int .i64 (w64 (Int.tdiv n 3))]) (r := .agg #[.int .i64 ((hIn (hTame e f) (w64 (Int.tdiv m 3)) (w64 (Int.tdiv n 3))).lo), .int .i64 ((hIn (hTame e f) (w64 (Int.tdiv m 3)) (w64 (Int.tdiv n 3))).hi), .bool ((hIn (hTame e f) (w64 (Int.tdiv m 3)) (w64 (Int.tdiv n 3))).no)]) (c_hIn (hTame e f) (w64 (Int.tdiv m 3)) (w64 (Int.tdiv n 3))) Try.func75 rfl (by decide) rfl rfl rfl ⟨rfl, rfl⟩) ?_
  refine dw_op (d := (some 55)) (.tuple #[.agg #[.int .i64 (((lawQuadLess_e0 a b c d e f m n).1).lo), .int .i64 (((lawQuadLess_e0 a b c d e f m n).1).hi), .bool (((lawQuadLess_e0 a b c d e f m n).1).no)], .int .i64 ((lawQuadLess_e0 a b c d e f m n).2)]) rfl rfl rfl (st_cf (vs := [.agg #[.int .i64 ((hIn (hTame a b) m n).lo), .int .i64 ((hIn (hTame a b) m n).hi), .bool ((hIn (hTame a b) m n).no)], .agg #[.int .i64 ((hIn (hTame c d) n m).lo), .int .i64 ((hIn (hTame c d) n m).hi), .bool ((hIn (hTame c d) n m).no)], .agg #[.int .i64 ((hIn (hTame e f) (w64 (Int.tdiv m 3)) (w64 (Int.tdiv n 3))).lo), .int .i64 ((hIn (hTame e f) (w64 (Int.tdiv m 3)) (w64 (Int.tdiv n 3))).hi), .bool ((hIn (hTame e f) (w64 (Int.tdiv m 3)) (w64 (Int.tdiv n 3))).no)]]) (r := .tuple #[.agg #[.int .i64 (((lawQuadLess_e0 a b c d e f m n).1).lo), .int .i64 (((lawQuadLess_e0 a b c d e f m n).1).hi), .bool (((lawQuadLess_e0 a b c d e f m n).1).no)], .int .i64 ((lawQuadLess_e0 a b c d e f m n).2)]) (c_quadNear (hIn (hTame a b) m n) (hIn (hTame c d) n m) (hIn (hTame e f) (w64 (Int.tdiv m 3)) (w64 (Int.tdiv n 3)))) Try.func83 rfl (by decide) rfl rfl rfl ⟨rfl, rfl⟩) ?_
  refine dw_op (d := (some 40)) (.tuple #[.agg #[.int .i64 (((lawQuadLess_e0 a b c d e f m n).1).lo), .int .i64 (((lawQuadLess_e0 a b c d e f m n).1).hi), .bool (((lawQuadLess_e0 a b c d e f m n).1).no)], .int .i64 ((lawQuadLess_e0 a b c d e f m n).2)]) rfl rfl rfl (st_move (v := .tuple #[.agg #[.int .i64 (((lawQuadLess_e0 a b c d e f m n).1).lo), .int .i64 (((lawQuadLess_e0 a b c d e f m n).1).hi), .bool (((lawQuadLess_e0 a b c d e f m n).1).no)], .int .i64 ((lawQuadLess_e0 a b c d e f m n).2)]) rfl rfl ⟨rfl, rfl⟩) ?_
  refine dw_op (d := (some 56)) (.agg #[.int .i64 (((lawQuadLess_e0 a b c d e f m n).1).lo), .int .i64 (((lawQuadLess_e0 a b c d e f m n).1).hi), .bool (((lawQuadLess_e0 a b c d e f m n).1).no)]) rfl rfl rfl (st_ex (vs := [.agg #[.int .i64 (((lawQuadLess_e0 a b c d e f m n).1).lo), .int .i64 (((lawQuadLess_e0 a b c d e f m n).1).hi), .bool (((lawQuadLess_e0 a b c d e f m n).1).no)], .int .i64 ((lawQuadLess_e0 a b c d e f m n).2)]) (v := .agg #[.int .i64 (((lawQuadLess_e0 a b c d e f m n).1).lo), .int .i64 (((lawQuadLess_e0 a b c d e f m n).1).hi), .bool (((lawQuadLess_e0 a b c d e f m n).1).no)]) rfl rfl rfl ⟨rfl, rfl⟩) ?_
  refine dw_op (d := (some 57)) (.int .i64 ((lawQuadLess_e0 a b c d e f m n).2)) rfl rfl rfl (st_ex (vs := [.agg #[.int .i64 (((lawQuadLess_e0 a b c d e f m n).1).lo), .int .i64 (((lawQuadLess_e0 a b c d e f m n).1).hi), .bool (((lawQuadLess_e0 a b c d e f m n).1).no)], .int .i64 ((lawQuadLess_e0 a b c d e f m n).2)]) (v := .int .i64 ((lawQuadLess_e0 a b c d e f m n).2)) rfl rfl rfl ⟨rfl, rfl⟩) ?_
  refine dw_nil ?_
  intro g4
  refine ar_op (d := none) rfl rfl (st_sta (g := g4) (off := 0) (us := [.int .i64 (((lawQuadLess_e0 a b c d e f m n).1).lo), .int .i64 (((lawQuadLess_e0 a b c d e f m n).1).hi), .bool (((lawQuadLess_e0 a b c d e f m n).1).no)]) (cs := [.int .i64 (((lawQuadLess_e0 a b c d e f m n).1).lo), .int .i64 (((lawQuadLess_e0 a b c d e f m n).1).hi), .bool (((lawQuadLess_e0 a b c d e f m n).1).no)]) agg35 0 rfl rfl rfl rfl rfl rfl rfl rfl rfl ?_)
  refine ao 23 rfl rfl (st_assign (v := .int .i64 ((lawQuadLess_e0 a b c d e f m n).2)) rfl rfl ?_)
  refine ar_nil ?_
  refine ac_seq ?_
  refine ac_region_lit ?_
  refine ao 58 rfl rfl (st_cf (vs := []) (r := .bool known6) c_known6 Try.func85 rfl (by decide) rfl rfl rfl ?_)
  refine ao 59 rfl rfl (st_move (v := .bool known6) rfl rfl ?_)
  refine bool_split (known6) (fun h1 => ?_) (fun h1 => nomatch (show false = true from (show (lawQuadLess a b c d e f m n) = _ from (eF h1 rfl)).symm.trans H))
  refine ar_gd (d := (some 60)) (by show (known6 == true) = true; rw [h1]; rfl) rfl (st_move (v := .int .i64 ((quadNear (hTame a b) (hTame c d) (hTame e f)).2)) rfl rfl ?_)
  refine ar_gd (d := (some 61)) (by show (known6 == true) = true; rw [h1]; rfl) rfl (st_bi (u := .int .i64 ((quadNear (hTame a b) (hTame c d) (hTame e f)).2)) (v := .int .i64 0) (r := .bool (((quadNear (hTame a b) (hTame c d) (hTame e f)).2) == 0)) rfl rfl rfl (bi_eql rfl) ?_)
  refine ar_gd (d := (some 62)) (by show (known6 == true) = true; rw [h1]; rfl) rfl (st_move (v := .bool (((quadNear (hTame a b) (hTame c d) (hTame e f)).2) == 0)) rfl rfl ?_)
  refine bool_split (((quadNear (hTame a b) (hTame c d) (hTame e f)).2) == 0) (fun h2 => ?_) (fun h2 => ?_)
  · refine ar_sk (d := (some 63)) (by show ((((quadNear (hTame a b) (hTame c d) (hTame e f)).2) == 0) == false) = false; rw [h2]; rfl) rfl ?_
    refine ar_sk (d := (some 64)) (by show ((((quadNear (hTame a b) (hTame c d) (hTame e f)).2) == 0) == false) = false; rw [h2]; rfl) rfl ?_
    refine ar_sk (d := (some 65)) (by show ((((quadNear (hTame a b) (hTame c d) (hTame e f)).2) == 0) == false) = false; rw [h2]; rfl) rfl ?_
    refine ar_gd (d := (some 66)) (by show (known6 == true) = true; rw [h1]; rfl) rfl (st_pkt' (b := ((quadNear (hTame a b) (hTame c d) (hTame e f)).2) == 0) (v := .bool true) h2 rfl rfl rfl ?_)
    refine ao 67 rfl rfl (st_pkt' (b := known6) (v := .bool true) h1 rfl rfl rfl ?_)
    refine ao 68 rfl rfl (st_move (v := .bool true) rfl rfl ?_)
    refine ar_gd (d := (some 69)) rfl rfl (st_move (v := .int .i64 ((quadNear (hTame a b) (hTame c d) (hTame e f)).2)) rfl rfl ?_)
    refine ar_gd (d := (some 70)) rfl rfl (st_bi (u := .int .i64 ((quadNear (hTame a b) (hTame c d) (hTame e f)).2)) (v := .int .i64 1) (r := .bool (((quadNear (hTame a b) (hTame c d) (hTame e f)).2) != 1)) rfl rfl rfl (bi_neq rfl) ?_)
    refine ar_gd (d := (some 71)) rfl rfl (st_move (v := .bool (((quadNear (hTame a b) (hTame c d) (hTame e f)).2) != 1)) rfl rfl ?_)
    refine bool_split (((quadNear (hTame a b) (hTame c d) (hTame e f)).2) != 1) (fun h3 => ?_) (fun h3 => ?_)
    · refine ar_sk (d := (some 72)) (by show ((((quadNear (hTame a b) (hTame c d) (hTame e f)).2) != 1) == false) = false; rw [h3]; rfl) rfl ?_
      refine ar_sk (d := (some 73)) (by show ((((quadNear (hTame a b) (hTame c d) (hTame e f)).2) != 1) == false) = false; rw [h3]; rfl) rfl ?_
      refine ar_sk (d := (some 74)) (by show ((((quadNear (hTame a b) (hTame c d) (hTame e f)).2) != 1) == false) = false; rw [h3]; rfl) rfl ?_
      refine ar_gd (d := (some 75)) rfl rfl (st_pkt' (b := ((quadNear (hTame a b) (hTame c d) (hTame e f)).2) != 1) (v := .bool true) h3 rfl rfl rfl ?_)
      refine ao 76 rfl rfl (st_pkt (v := .bool true) rfl rfl rfl ?_)
      refine ao 77 rfl rfl (st_move (v := .bool true) rfl rfl ?_)
      refine ar_gd (d := (some 78)) rfl rfl (st_move (v := .int .i64 ((lawQuadLess_e0 a b c d e f m n).2)) rfl rfl ?_)
      refine ar_gd (d := (some 79)) rfl rfl (st_bi (u := .int .i64 ((lawQuadLess_e0 a b c d e f m n).2)) (v := .int .i64 1) (r := .bool (((lawQuadLess_e0 a b c d e f m n).2) == 1)) rfl rfl rfl (bi_eql rfl) ?_)
      refine ar_gd (d := (some 80)) rfl rfl (st_lda (g := g4) (off := 0) (vs := [.int .i64 (((lawQuadLess_e0 a b c d e f m n).1).lo), .int .i64 (((lawQuadLess_e0 a b c d e f m n).1).hi), .bool (((lawQuadLess_e0 a b c d e f m n).1).no)]) agg35 0 rfl rfl rfl rfl rfl rfl ?_)
      refine ar_gd (d := (some 81)) rfl rfl (st_cf (vs := [.agg #[.int .i64 (((lawQuadLess_e0 a b c d e f m n).1).lo), .int .i64 (((lawQuadLess_e0 a b c d e f m n).1).hi), .bool (((lawQuadLess_e0 a b c d e f m n).1).no)]]) (r := .bool (ivRight ((lawQuadLess_e0 a b c d e f m n).1))) (c_ivRight ((lawQuadLess_e0 a b c d e f m n).1)) Try.func54 rfl (by decide) rfl rfl rfl ?_)
      refine ar_gd (d := (some 82)) rfl rfl (st_bi (u := .bool (((lawQuadLess_e0 a b c d e f m n).2) == 1)) (v := .bool (ivRight ((lawQuadLess_e0 a b c d e f m n).1))) (r := .bool ((((lawQuadLess_e0 a b c d e f m n).2) == 1) == (ivRight ((lawQuadLess_e0 a b c d e f m n).1)))) rfl rfl rfl (bb_eql Try.underlying4 rfl) ?_)
      refine ao 83 rfl rfl (st_pkt (v := .bool ((((lawQuadLess_e0 a b c d e f m n).2) == 1) == (ivRight ((lawQuadLess_e0 a b c d e f m n).1)))) rfl rfl rfl ?_)
      refine ao 16 rfl rfl (st_assign (v := .bool ((((lawQuadLess_e0 a b c d e f m n).2) == 1) == (ivRight ((lawQuadLess_e0 a b c d e f m n).1)))) rfl rfl ?_)
      refine ar_nil ?_
      refine ac_ret ?_
      exact fin_eq (v := .bool ((((lawQuadLess_e0 a b c d e f m n).2) == 1) == (ivRight ((lawQuadLess_e0 a b c d e f m n).1)))) (congrArg Value.bool (show ((((lawQuadLess_e0 a b c d e f m n).2) == 1) == (ivRight ((lawQuadLess_e0 a b c d e f m n).1))) = true from (show (lawQuadLess a b c d e f m n) = _ from (eT h1 (eT h2 (eT h3 rfl)))).symm.trans H)) (fin_ret (res_tmp rfl rfl))
    · refine ar_gd (d := (some 72)) (by show ((((quadNear (hTame a b) (hTame c d) (hTame e f)).2) != 1) == false) = true; rw [h3]; rfl) rfl (st_lda (g := g4) (off := 0) (vs := [.int .i64 (((lawQuadLess_e0 a b c d e f m n).1).lo), .int .i64 (((lawQuadLess_e0 a b c d e f m n).1).hi), .bool (((lawQuadLess_e0 a b c d e f m n).1).no)]) agg35 0 rfl rfl rfl rfl rfl rfl ?_)
      refine ar_gd (d := (some 73)) (by show ((((quadNear (hTame a b) (hTame c d) (hTame e f)).2) != 1) == false) = true; rw [h3]; rfl) rfl (st_lda (g := g3) (off := 0) (vs := [.int .i64 (((quadNear (hTame a b) (hTame c d) (hTame e f)).1).lo), .int .i64 (((quadNear (hTame a b) (hTame c d) (hTame e f)).1).hi), .bool (((quadNear (hTame a b) (hTame c d) (hTame e f)).1).no)]) agg35 1 rfl rfl rfl rfl rfl rfl ?_)
      refine ar_gd (d := (some 74)) (by show ((((quadNear (hTame a b) (hTame c d) (hTame e f)).2) != 1) == false) = true; rw [h3]; rfl) rfl (st_cf (vs := [.agg #[.int .i64 (((lawQuadLess_e0 a b c d e f m n).1).lo), .int .i64 (((lawQuadLess_e0 a b c d e f m n).1).hi), .bool (((lawQuadLess_e0 a b c d e f m n).1).no)], .agg #[.int .i64 (((quadNear (hTame a b) (hTame c d) (hTame e f)).1).lo), .int .i64 (((quadNear (hTame a b) (hTame c d) (hTame e f)).1).hi), .bool (((quadNear (hTame a b) (hTame c d) (hTame e f)).1).no)]]) (r := .bool (lawQuadLess_e1 a b c d e f m n)) (c_ivInside ((lawQuadLess_e0 a b c d e f m n).1) ((quadNear (hTame a b) (hTame c d) (hTame e f)).1)) Try.func55 rfl (by decide) rfl rfl rfl ?_)
      refine ar_gd (d := (some 75)) rfl rfl (st_pkf' (b := ((quadNear (hTame a b) (hTame c d) (hTame e f)).2) != 1) (v := .bool (lawQuadLess_e1 a b c d e f m n)) h3 rfl rfl rfl ?_)
      refine ao 76 rfl rfl (st_pkt (v := .bool (lawQuadLess_e1 a b c d e f m n)) rfl rfl rfl ?_)
      refine ao 77 rfl rfl (st_move (v := .bool (lawQuadLess_e1 a b c d e f m n)) rfl rfl ?_)
      refine bool_split (lawQuadLess_e1 a b c d e f m n) (fun h4 => ?_) (fun h4 => nomatch (show false = true from (show (lawQuadLess a b c d e f m n) = _ from (eT h1 (eT h2 (eF h3 (eF h4 rfl))))).symm.trans H))
      refine ar_gd (d := (some 78)) (by show ((lawQuadLess_e1 a b c d e f m n) == true) = true; rw [h4]; rfl) rfl (st_move (v := .int .i64 ((lawQuadLess_e0 a b c d e f m n).2)) rfl rfl ?_)
      refine ar_gd (d := (some 79)) (by show ((lawQuadLess_e1 a b c d e f m n) == true) = true; rw [h4]; rfl) rfl (st_bi (u := .int .i64 ((lawQuadLess_e0 a b c d e f m n).2)) (v := .int .i64 1) (r := .bool (((lawQuadLess_e0 a b c d e f m n).2) == 1)) rfl rfl rfl (bi_eql rfl) ?_)
      refine ar_gd (d := (some 80)) (by show ((lawQuadLess_e1 a b c d e f m n) == true) = true; rw [h4]; rfl) rfl (st_lda (g := g4) (off := 0) (vs := [.int .i64 (((lawQuadLess_e0 a b c d e f m n).1).lo), .int .i64 (((lawQuadLess_e0 a b c d e f m n).1).hi), .bool (((lawQuadLess_e0 a b c d e f m n).1).no)]) agg35 0 rfl rfl rfl rfl rfl rfl ?_)
      refine ar_gd (d := (some 81)) (by show ((lawQuadLess_e1 a b c d e f m n) == true) = true; rw [h4]; rfl) rfl (st_cf (vs := [.agg #[.int .i64 (((lawQuadLess_e0 a b c d e f m n).1).lo), .int .i64 (((lawQuadLess_e0 a b c d e f m n).1).hi), .bool (((lawQuadLess_e0 a b c d e f m n).1).no)]]) (r := .bool (ivRight ((lawQuadLess_e0 a b c d e f m n).1))) (c_ivRight ((lawQuadLess_e0 a b c d e f m n).1)) Try.func54 rfl (by decide) rfl rfl rfl ?_)
      refine ar_gd (d := (some 82)) (by show ((lawQuadLess_e1 a b c d e f m n) == true) = true; rw [h4]; rfl) rfl (st_bi (u := .bool (((lawQuadLess_e0 a b c d e f m n).2) == 1)) (v := .bool (ivRight ((lawQuadLess_e0 a b c d e f m n).1))) (r := .bool ((((lawQuadLess_e0 a b c d e f m n).2) == 1) == (ivRight ((lawQuadLess_e0 a b c d e f m n).1)))) rfl rfl rfl (bb_eql Try.underlying4 rfl) ?_)
      refine ao 83 rfl rfl (st_pkt' (b := lawQuadLess_e1 a b c d e f m n) (v := .bool ((((lawQuadLess_e0 a b c d e f m n).2) == 1) == (ivRight ((lawQuadLess_e0 a b c d e f m n).1)))) h4 rfl rfl rfl ?_)
      refine ao 16 rfl rfl (st_assign (v := .bool ((((lawQuadLess_e0 a b c d e f m n).2) == 1) == (ivRight ((lawQuadLess_e0 a b c d e f m n).1)))) rfl rfl ?_)
      refine ar_nil ?_
      refine ac_ret ?_
      exact fin_eq (v := .bool ((((lawQuadLess_e0 a b c d e f m n).2) == 1) == (ivRight ((lawQuadLess_e0 a b c d e f m n).1)))) (congrArg Value.bool (show ((((lawQuadLess_e0 a b c d e f m n).2) == 1) == (ivRight ((lawQuadLess_e0 a b c d e f m n).1))) = true from (show (lawQuadLess a b c d e f m n) = _ from (eT h1 (eT h2 (eF h3 (eT h4 rfl))))).symm.trans H)) (fin_ret (res_tmp rfl rfl))
  · refine ar_gd (d := (some 63)) (by show ((((quadNear (hTame a b) (hTame c d) (hTame e f)).2) == 0) == false) = true; rw [h2]; rfl) rfl (st_move (v := .int .i64 ((lawQuadLess_e0 a b c d e f m n).2)) rfl rfl ?_)
    refine ar_gd (d := (some 64)) (by show ((((quadNear (hTame a b) (hTame c d) (hTame e f)).2) == 0) == false) = true; rw [h2]; rfl) rfl (st_move (v := .int .i64 ((quadNear (hTame a b) (hTame c d) (hTame e f)).2)) rfl rfl ?_)
    refine ar_gd (d := (some 65)) (by show ((((quadNear (hTame a b) (hTame c d) (hTame e f)).2) == 0) == false) = true; rw [h2]; rfl) rfl (st_bi (u := .int .i64 ((lawQuadLess_e0 a b c d e f m n).2)) (v := .int .i64 ((quadNear (hTame a b) (hTame c d) (hTame e f)).2)) (r := .bool (((lawQuadLess_e0 a b c d e f m n).2) == ((quadNear (hTame a b) (hTame c d) (hTame e f)).2))) rfl rfl rfl (bi_eql rfl) ?_)
    refine ar_gd (d := (some 66)) (by show (known6 == true) = true; rw [h1]; rfl) rfl (st_pkf' (b := ((quadNear (hTame a b) (hTame c d) (hTame e f)).2) == 0) (v := .bool (((lawQuadLess_e0 a b c d e f m n).2) == ((quadNear (hTame a b) (hTame c d) (hTame e f)).2))) h2 rfl rfl rfl ?_)
    refine ao 67 rfl rfl (st_pkt' (b := known6) (v := .bool (((lawQuadLess_e0 a b c d e f m n).2) == ((quadNear (hTame a b) (hTame c d) (hTame e f)).2))) h1 rfl rfl rfl ?_)
    refine ao 68 rfl rfl (st_move (v := .bool (((lawQuadLess_e0 a b c d e f m n).2) == ((quadNear (hTame a b) (hTame c d) (hTame e f)).2))) rfl rfl ?_)
    refine bool_split (((lawQuadLess_e0 a b c d e f m n).2) == ((quadNear (hTame a b) (hTame c d) (hTame e f)).2)) (fun h3 => ?_) (fun h3 => nomatch (show false = true from (show (lawQuadLess a b c d e f m n) = _ from (eT h1 (eF h2 (eF h3 rfl)))).symm.trans H))
    refine ar_gd (d := (some 69)) (by show ((((lawQuadLess_e0 a b c d e f m n).2) == ((quadNear (hTame a b) (hTame c d) (hTame e f)).2)) == true) = true; rw [h3]; rfl) rfl (st_move (v := .int .i64 ((quadNear (hTame a b) (hTame c d) (hTame e f)).2)) rfl rfl ?_)
    refine ar_gd (d := (some 70)) (by show ((((lawQuadLess_e0 a b c d e f m n).2) == ((quadNear (hTame a b) (hTame c d) (hTame e f)).2)) == true) = true; rw [h3]; rfl) rfl (st_bi (u := .int .i64 ((quadNear (hTame a b) (hTame c d) (hTame e f)).2)) (v := .int .i64 1) (r := .bool (((quadNear (hTame a b) (hTame c d) (hTame e f)).2) != 1)) rfl rfl rfl (bi_neq rfl) ?_)
    refine ar_gd (d := (some 71)) (by show ((((lawQuadLess_e0 a b c d e f m n).2) == ((quadNear (hTame a b) (hTame c d) (hTame e f)).2)) == true) = true; rw [h3]; rfl) rfl (st_move (v := .bool (((quadNear (hTame a b) (hTame c d) (hTame e f)).2) != 1)) rfl rfl ?_)
    refine bool_split (((quadNear (hTame a b) (hTame c d) (hTame e f)).2) != 1) (fun h4 => ?_) (fun h4 => ?_)
    · refine ar_sk (d := (some 72)) (by show ((((quadNear (hTame a b) (hTame c d) (hTame e f)).2) != 1) == false) = false; rw [h4]; rfl) rfl ?_
      refine ar_sk (d := (some 73)) (by show ((((quadNear (hTame a b) (hTame c d) (hTame e f)).2) != 1) == false) = false; rw [h4]; rfl) rfl ?_
      refine ar_sk (d := (some 74)) (by show ((((quadNear (hTame a b) (hTame c d) (hTame e f)).2) != 1) == false) = false; rw [h4]; rfl) rfl ?_
      refine ar_gd (d := (some 75)) (by show ((((lawQuadLess_e0 a b c d e f m n).2) == ((quadNear (hTame a b) (hTame c d) (hTame e f)).2)) == true) = true; rw [h3]; rfl) rfl (st_pkt' (b := ((quadNear (hTame a b) (hTame c d) (hTame e f)).2) != 1) (v := .bool true) h4 rfl rfl rfl ?_)
      refine ao 76 rfl rfl (st_pkt' (b := ((lawQuadLess_e0 a b c d e f m n).2) == ((quadNear (hTame a b) (hTame c d) (hTame e f)).2)) (v := .bool true) h3 rfl rfl rfl ?_)
      refine ao 77 rfl rfl (st_move (v := .bool true) rfl rfl ?_)
      refine ar_gd (d := (some 78)) rfl rfl (st_move (v := .int .i64 ((lawQuadLess_e0 a b c d e f m n).2)) rfl rfl ?_)
      refine ar_gd (d := (some 79)) rfl rfl (st_bi (u := .int .i64 ((lawQuadLess_e0 a b c d e f m n).2)) (v := .int .i64 1) (r := .bool (((lawQuadLess_e0 a b c d e f m n).2) == 1)) rfl rfl rfl (bi_eql rfl) ?_)
      refine ar_gd (d := (some 80)) rfl rfl (st_lda (g := g4) (off := 0) (vs := [.int .i64 (((lawQuadLess_e0 a b c d e f m n).1).lo), .int .i64 (((lawQuadLess_e0 a b c d e f m n).1).hi), .bool (((lawQuadLess_e0 a b c d e f m n).1).no)]) agg35 0 rfl rfl rfl rfl rfl rfl ?_)
      refine ar_gd (d := (some 81)) rfl rfl (st_cf (vs := [.agg #[.int .i64 (((lawQuadLess_e0 a b c d e f m n).1).lo), .int .i64 (((lawQuadLess_e0 a b c d e f m n).1).hi), .bool (((lawQuadLess_e0 a b c d e f m n).1).no)]]) (r := .bool (ivRight ((lawQuadLess_e0 a b c d e f m n).1))) (c_ivRight ((lawQuadLess_e0 a b c d e f m n).1)) Try.func54 rfl (by decide) rfl rfl rfl ?_)
      refine ar_gd (d := (some 82)) rfl rfl (st_bi (u := .bool (((lawQuadLess_e0 a b c d e f m n).2) == 1)) (v := .bool (ivRight ((lawQuadLess_e0 a b c d e f m n).1))) (r := .bool ((((lawQuadLess_e0 a b c d e f m n).2) == 1) == (ivRight ((lawQuadLess_e0 a b c d e f m n).1)))) rfl rfl rfl (bb_eql Try.underlying4 rfl) ?_)
      refine ao 83 rfl rfl (st_pkt (v := .bool ((((lawQuadLess_e0 a b c d e f m n).2) == 1) == (ivRight ((lawQuadLess_e0 a b c d e f m n).1)))) rfl rfl rfl ?_)
      refine ao 16 rfl rfl (st_assign (v := .bool ((((lawQuadLess_e0 a b c d e f m n).2) == 1) == (ivRight ((lawQuadLess_e0 a b c d e f m n).1)))) rfl rfl ?_)
      refine ar_nil ?_
      refine ac_ret ?_
      exact fin_eq (v := .bool ((((lawQuadLess_e0 a b c d e f m n).2) == 1) == (ivRight ((lawQuadLess_e0 a b c d e f m n).1)))) (congrArg Value.bool (show ((((lawQuadLess_e0 a b c d e f m n).2) == 1) == (ivRight ((lawQuadLess_e0 a b c d e f m n).1))) = true from (show (lawQuadLess a b c d e f m n) = _ from (eT h1 (eF h2 (eT h3 (eT h4 rfl))))).symm.trans H)) (fin_ret (res_tmp rfl rfl))
    · refine ar_gd (d := (some 72)) (by show ((((quadNear (hTame a b) (hTame c d) (hTame e f)).2) != 1) == false) = true; rw [h4]; rfl) rfl (st_lda (g := g4) (off := 0) (vs := [.int .i64 (((lawQuadLess_e0 a b c d e f m n).1).lo), .int .i64 (((lawQuadLess_e0 a b c d e f m n).1).hi), .bool (((lawQuadLess_e0 a b c d e f m n).1).no)]) agg35 0 rfl rfl rfl rfl rfl rfl ?_)
      refine ar_gd (d := (some 73)) (by show ((((quadNear (hTame a b) (hTame c d) (hTame e f)).2) != 1) == false) = true; rw [h4]; rfl) rfl (st_lda (g := g3) (off := 0) (vs := [.int .i64 (((quadNear (hTame a b) (hTame c d) (hTame e f)).1).lo), .int .i64 (((quadNear (hTame a b) (hTame c d) (hTame e f)).1).hi), .bool (((quadNear (hTame a b) (hTame c d) (hTame e f)).1).no)]) agg35 1 rfl rfl rfl rfl rfl rfl ?_)
      refine ar_gd (d := (some 74)) (by show ((((quadNear (hTame a b) (hTame c d) (hTame e f)).2) != 1) == false) = true; rw [h4]; rfl) rfl (st_cf (vs := [.agg #[.int .i64 (((lawQuadLess_e0 a b c d e f m n).1).lo), .int .i64 (((lawQuadLess_e0 a b c d e f m n).1).hi), .bool (((lawQuadLess_e0 a b c d e f m n).1).no)], .agg #[.int .i64 (((quadNear (hTame a b) (hTame c d) (hTame e f)).1).lo), .int .i64 (((quadNear (hTame a b) (hTame c d) (hTame e f)).1).hi), .bool (((quadNear (hTame a b) (hTame c d) (hTame e f)).1).no)]]) (r := .bool (lawQuadLess_e1 a b c d e f m n)) (c_ivInside ((lawQuadLess_e0 a b c d e f m n).1) ((quadNear (hTame a b) (hTame c d) (hTame e f)).1)) Try.func55 rfl (by decide) rfl rfl rfl ?_)
      refine ar_gd (d := (some 75)) (by show ((((lawQuadLess_e0 a b c d e f m n).2) == ((quadNear (hTame a b) (hTame c d) (hTame e f)).2)) == true) = true; rw [h3]; rfl) rfl (st_pkf' (b := ((quadNear (hTame a b) (hTame c d) (hTame e f)).2) != 1) (v := .bool (lawQuadLess_e1 a b c d e f m n)) h4 rfl rfl rfl ?_)
      refine ao 76 rfl rfl (st_pkt' (b := ((lawQuadLess_e0 a b c d e f m n).2) == ((quadNear (hTame a b) (hTame c d) (hTame e f)).2)) (v := .bool (lawQuadLess_e1 a b c d e f m n)) h3 rfl rfl rfl ?_)
      refine ao 77 rfl rfl (st_move (v := .bool (lawQuadLess_e1 a b c d e f m n)) rfl rfl ?_)
      refine bool_split (lawQuadLess_e1 a b c d e f m n) (fun h5 => ?_) (fun h5 => nomatch (show false = true from (show (lawQuadLess a b c d e f m n) = _ from (eT h1 (eF h2 (eT h3 (eF h4 (eF h5 rfl)))))).symm.trans H))
      refine ar_gd (d := (some 78)) (by show ((lawQuadLess_e1 a b c d e f m n) == true) = true; rw [h5]; rfl) rfl (st_move (v := .int .i64 ((lawQuadLess_e0 a b c d e f m n).2)) rfl rfl ?_)
      refine ar_gd (d := (some 79)) (by show ((lawQuadLess_e1 a b c d e f m n) == true) = true; rw [h5]; rfl) rfl (st_bi (u := .int .i64 ((lawQuadLess_e0 a b c d e f m n).2)) (v := .int .i64 1) (r := .bool (((lawQuadLess_e0 a b c d e f m n).2) == 1)) rfl rfl rfl (bi_eql rfl) ?_)
      refine ar_gd (d := (some 80)) (by show ((lawQuadLess_e1 a b c d e f m n) == true) = true; rw [h5]; rfl) rfl (st_lda (g := g4) (off := 0) (vs := [.int .i64 (((lawQuadLess_e0 a b c d e f m n).1).lo), .int .i64 (((lawQuadLess_e0 a b c d e f m n).1).hi), .bool (((lawQuadLess_e0 a b c d e f m n).1).no)]) agg35 0 rfl rfl rfl rfl rfl rfl ?_)
      refine ar_gd (d := (some 81)) (by show ((lawQuadLess_e1 a b c d e f m n) == true) = true; rw [h5]; rfl) rfl (st_cf (vs := [.agg #[.int .i64 (((lawQuadLess_e0 a b c d e f m n).1).lo), .int .i64 (((lawQuadLess_e0 a b c d e f m n).1).hi), .bool (((lawQuadLess_e0 a b c d e f m n).1).no)]]) (r := .bool (ivRight ((lawQuadLess_e0 a b c d e f m n).1))) (c_ivRight ((lawQuadLess_e0 a b c d e f m n).1)) Try.func54 rfl (by decide) rfl rfl rfl ?_)
      refine ar_gd (d := (some 82)) (by show ((lawQuadLess_e1 a b c d e f m n) == true) = true; rw [h5]; rfl) rfl (st_bi (u := .bool (((lawQuadLess_e0 a b c d e f m n).2) == 1)) (v := .bool (ivRight ((lawQuadLess_e0 a b c d e f m n).1))) (r := .bool ((((lawQuadLess_e0 a b c d e f m n).2) == 1) == (ivRight ((lawQuadLess_e0 a b c d e f m n).1)))) rfl rfl rfl (bb_eql Try.underlying4 rfl) ?_)
      refine ao 83 rfl rfl (st_pkt' (b := lawQuadLess_e1 a b c d e f m n) (v := .bool ((((lawQuadLess_e0 a b c d e f m n).2) == 1) == (ivRight ((lawQuadLess_e0 a b c d e f m n).1)))) h5 rfl rfl rfl ?_)
      refine ao 16 rfl rfl (st_assign (v := .bool ((((lawQuadLess_e0 a b c d e f m n).2) == 1) == (ivRight ((lawQuadLess_e0 a b c d e f m n).1)))) rfl rfl ?_)
      refine ar_nil ?_
      refine ac_ret ?_
      exact fin_eq (v := .bool ((((lawQuadLess_e0 a b c d e f m n).2) == 1) == (ivRight ((lawQuadLess_e0 a b c d e f m n).1)))) (congrArg Value.bool (show ((((lawQuadLess_e0 a b c d e f m n).2) == 1) == (ivRight ((lawQuadLess_e0 a b c d e f m n).1))) = true from (show (lawQuadLess a b c d e f m n) = _ from (eT h1 (eF h2 (eT h3 (eF h4 (eT h5 rfl)))))).symm.trans H)) (fin_ret (res_tmp rfl rfl))
end Go.Proofs.Ytbaihncnbejjbaa
