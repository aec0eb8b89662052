import Derived.Test.YtbaihncnbejjbaaDraw2
import Derived.Test.YtbaihncnbejjbaaK6
set_option linter.unusedVariables false
set_option linter.unusedSimpArgs false
namespace Go.Proofs.Ytbaihncnbejjbaa
open Go.RowKit

attribute [local irreducible] AC AR DWalk
def lawQuadRoots_e0 (p : Int) (q : Int) (k : Int) (m : Int) (n : Int) : Iv := (ivWhole (w64 ((w64 (0 - (w64 (1 + (hPick k 2))))) * (w64 ((w64 ((hPick p 13) - 6)) + (w64 ((w64 ((w64 ((hPick p 13) - 6)) + 1)) + (hPick q 6))))))))
def lawQuadRoots_e1 (p : Int) (q : Int) (k : Int) (m : Int) (n : Int) : Iv := (ivWhole (w64 ((w64 ((w64 (2 * (w64 (1 + (hPick k 2))))) * (w64 ((hPick p 13) - 6)))) * (w64 ((w64 ((w64 ((hPick p 13) - 6)) + 1)) + (hPick q 6))))))
def lawQuadRoots_e2 (p : Int) (q : Int) (k : Int) (m : Int) (n : Int) : Iv × Int := (quadNear (ivWhole (w64 (2 * (w64 (1 + (hPick k 2)))))) (lawQuadRoots_e0 p q k m n) (lawQuadRoots_e1 p q k m n))
def lawQuadRoots_e3 (p : Int) (q : Int) (k : Int) (m : Int) (n : Int) : Iv := (hWide (w64 ((w64 ((w64 (2 * (w64 (1 + (hPick k 2))))) * 65536)) - (hPick m 20))) 20)
def lawQuadRoots_e4 (p : Int) (q : Int) (k : Int) (m : Int) (n : Int) : Iv := (hWide (w64 ((w64 ((w64 ((w64 (0 - (w64 (1 + (hPick k 2))))) * (w64 ((w64 ((hPick p 13) - 6)) + (w64 ((w64 ((w64 ((hPick p 13) - 6)) + 1)) + (hPick q 6))))))) * 65536)) - (hPick n 20))) 20)
def lawQuadRoots_e5 (p : Int) (q : Int) (k : Int) (m : Int) (n : Int) : Iv × Int := (quadNear (lawQuadRoots_e3 p q k m n) (lawQuadRoots_e4 p q k m n) (lawQuadRoots_e1 p q k m n))
def lawQuadRoots_e6 (p : Int) (q : Int) (k : Int) (m : Int) (n : Int) : Bool := (ivHas ((lawQuadRoots_e2 p q k m n).1) (w64 ((w64 ((hPick p 13) - 6)) * 65536)))
def lawQuadRoots_e7 (p : Int) (q : Int) (k : Int) (m : Int) (n : Int) : Bool := (ivHas ((lawQuadRoots_e5 p q k m n).1) (w64 ((w64 ((hPick p 13) - 6)) * 65536)))
def lawQuadRoots (p : Int) (q : Int) (k : Int) (m : Int) (n : Int) : Bool := (bif known6 then (bif ((lawQuadRoots_e2 p q k m n).2) == 2 then false else (bif ((lawQuadRoots_e5 p q k m n).2) == 2 then false else (bif (((lawQuadRoots_e2 p q k m n).2) == 1) != ((w64 ((w64 ((w64 ((hPick p 13) - 6)) + 1)) + (hPick q 6))) != 0) then false else (bif ((lawQuadRoots_e2 p q k m n).2) != 1 then (bif ((lawQuadRoots_e5 p q k m n).2) != 1 then true else lawQuadRoots_e7 p q k m n) else (bif lawQuadRoots_e6 p q k m n then (bif ((lawQuadRoots_e5 p q k m n).2) != 1 then true else lawQuadRoots_e7 p q k m n) else false))))) else false)
set_option maxRecDepth 100000 in
set_option maxHeartbeats 4000000 in
theorem c_lawQuadRoots (p : Int) (q : Int) (k : Int) (m : Int) (n : Int) (H : (lawQuadRoots p q k m n) = true) : Gets Try.prog 18 #[.int .i64 p, .int .i64 q, .int .i64 k, .int .i64 m, .int .i64 n] (.bool true) := by
  refine gets_fin Try.func18 rfl rfl rfl ?_
  refine ac_seq ?_
  refine ac_region_lit ?_
  refine ao 10 rfl rfl (st_assign (v := .bool false) rfl rfl ?_)
  refine ar_nil ?_
  refine ac_seq ?_
  refine ac_region_lit ?_
  refine ao 18 rfl rfl (st_move (v := .int .i64 p) rfl rfl ?_)
  refine ao 19 rfl rfl (st_cf (vs := [.int .i64 p, .int .i64 13]) (r := .int .i64 (hPick p 13)) (c_hPick p 13 (by decide)) Try.func48 rfl (by decide) rfl rfl rfl ?_)
  refine ao 20 rfl rfl (st_bi (u := .int .i64 (hPick p 13)) (v := .int .i64 6) (r := .int .i64 (w64 ((hPick p 13) - 6))) rfl rfl rfl (bi_sub rfl) ?_)
  refine ao 0 rfl rfl (st_assign (v := .int .i64 (w64 ((hPick p 13) - 6))) rfl rfl ?_)
  refine ar_nil ?_
  refine ac_seq ?_
  refine ac_region_lit ?_
  refine ao 21 rfl rfl (st_move (v := .int .i64 (w64 ((hPick p 13) - 6))) rfl rfl ?_)
  refine ao 22 rfl rfl (st_bi (u := .int .i64 (w64 ((hPick p 13) - 6))) (v := .int .i64 1) (r := .int .i64 (w64 ((w64 ((hPick p 13) - 6)) + 1))) rfl rfl rfl (bi_add rfl) ?_)
  refine ao 23 rfl rfl (st_move (v := .int .i64 q) rfl rfl ?_)
  refine ao 24 rfl rfl (st_cf (vs := [.int .i64 q, .int .i64 6]) (r := .int .i64 (hPick q 6)) (c_hPick q 6 (by decide)) Try.func48 rfl (by decide) rfl rfl rfl ?_)
  refine ao 25 rfl rfl (st_bi (u := .int .i64 (w64 ((w64 ((hPick p 13) - 6)) + 1))) (v := .int .i64 (hPick q 6)) (r := .int .i64 (w64 ((w64 ((w64 ((hPick p 13) - 6)) + 1)) + (hPick q 6)))) rfl rfl rfl (bi_add rfl) ?_)
  refine ao 1 rfl rfl (st_assign (v := .int .i64 (w64 ((w64 ((w64 ((hPick p 13) - 6)) + 1)) + (hPick q 6)))) rfl rfl ?_)
  refine ar_nil ?_
  refine ac_seq ?_
  refine ac_region_lit ?_
  refine ao 26 rfl rfl (st_move (v := .int .i64 k) rfl rfl ?_)
  refine ao 27 rfl rfl (st_cf (vs := [.int .i64 k, .int .i64 2]) (r := .int .i64 (hPick k 2)) (c_hPick k 2 (by decide)) Try.func48 rfl (by decide) rfl rfl rfl ?_)
  refine ao 28 rfl rfl (st_bi (u := .int .i64 1) (v := .int .i64 (hPick k 2)) (r := .int .i64 (w64 (1 + (hPick k 2)))) rfl rfl rfl (bi_add rfl) ?_)
  refine ao 2 rfl rfl (st_assign (v := .int .i64 (w64 (1 + (hPick k 2)))) rfl rfl ?_)
  refine ar_nil ?_
  refine ac_seq ?_
  refine ac_region_lit ?_
  refine ao 29 rfl rfl (st_move (v := .int .i64 (w64 (1 + (hPick k 2)))) rfl rfl ?_)
  refine ao 30 rfl rfl (st_bi (u := .int .i64 2) (v := .int .i64 (w64 (1 + (hPick k 2)))) (r := .int .i64 (w64 (2 * (w64 (1 + (hPick k 2)))))) rfl rfl rfl (bi_mul rfl) ?_)
  refine ao 31 rfl rfl (st_cf (vs := [.int .i64 (w64 (2 * (w64 (1 + (hPick k 2)))))]) (r := .agg #[.int .i64 ((ivWhole (w64 (2 * (w64 (1 + (hPick k 2)))))).lo), .int .i64 ((ivWhole (w64 (2 * (w64 (1 + (hPick k 2)))))).hi), .bool ((ivWhole (w64 (2 * (w64 (1 + (hPick k 2)))))).no)]) (c_ivWhole (w64 (2 * (w64 (1 + (hPick k 2)))))) Try.func50 rfl (by decide) rfl rfl rfl ?_)
  refine ao 11 rfl rfl (st_new zero35 rfl fun g0 => ?_)
  refine ar_op (d := none) rfl rfl (st_sta (g := g0) (off := 0) (us := [.int .i64 ((ivWhole (w64 (2 * (w64 (1 + (hPick k 2)))))).lo), .int .i64 ((ivWhole (w64 (2 * (w64 (1 + (hPick k 2)))))).hi), .bool ((ivWhole (w64 (2 * (w64 (1 + (hPick k 2)))))).no)]) (cs := [.int .i64 ((ivWhole (w64 (2 * (w64 (1 + (hPick k 2)))))).lo), .int .i64 ((ivWhole (w64 (2 * (w64 (1 + (hPick k 2)))))).hi), .bool ((ivWhole (w64 (2 * (w64 (1 + (hPick k 2)))))).no)]) agg35 0 rfl rfl rfl rfl rfl rfl rfl rfl rfl ?_)
  refine ar_nil ?_
  refine ac_seq ?_
  refine ac_region_lit ?_
  refine ao 32 rfl rfl (st_move (v := .int .i64 (w64 (1 + (hPick k 2)))) rfl rfl ?_)
  refine ao 33 rfl rfl (st_un (u := .int .i64 (w64 (1 + (hPick k 2)))) (v := .int .i64 (w64 (0 - (w64 (1 + (hPick k 2)))))) rfl rfl (un_neg rfl) ?_)
  refine ao 34 rfl rfl (st_move (v := .int .i64 (w64 ((hPick p 13) - 6))) rfl rfl ?_)
  refine ao 35 rfl rfl (st_move (v := .int .i64 (w64 ((w64 ((w64 ((hPick p 13) - 6)) + 1)) + (hPick q 6)))) rfl rfl ?_)
  refine ao 36 rfl rfl (st_bi (u := .int .i64 (w64 ((hPick p 13) - 6))) (v := .int .i64 (w64 ((w64 ((w64 ((hPick p 13) - 6)) + 1)) + (hPick q 6)))) (r := .int .i64 (w64 ((w64 ((hPick p 13) - 6)) + (w64 ((w64 ((w64 ((hPick p 13) - 6)) + 1)) + (hPick q 6)))))) rfl rfl rfl (bi_add rfl) ?_)
  refine ao 37 rfl rfl (st_bi (u := .int .i64 (w64 (0 - (w64 (1 + (hPick k 2)))))) (v := .int .i64 (w64 ((w64 ((hPick p 13) - 6)) + (w64 ((w64 ((w64 ((hPick p 13) - 6)) + 1)) + (hPick q 6)))))) (r := .int .i64 (w64 ((w64 (0 - (w64 (1 + (hPick k 2))))) * (w64 ((w64 ((hPick p 13) - 6)) + (w64 ((w64 ((w64 ((hPick p 13) - 6)) + 1)) + (hPick q 6)))))))) rfl rfl rfl (bi_mul rfl) ?_)
  refine ao 38 rfl rfl (st_cf (vs := [.int .i64 (w64 ((w64 (0 - (w64 (1 + (hPick k 2))))) * (w64 ((w64 ((hPick p 13) - 6)) + (w64 ((w64 ((w64 ((hPick p 13) - 6)) + 1)) + (hPick q 6)))))))]) (r := .agg #[.int .i64 ((lawQuadRoots_e0 p q k m n).lo), .int .i64 ((lawQuadRoots_e0 p q k m n).hi), .bool ((lawQuadRoots_e0 p q k m n).no)]) (c_ivWhole (w64 ((w64 (0 - (w64 (1 + (hPick k 2))))) * (w64 ((w64 ((hPick p 13) - 6)) + (w64 ((w64 ((w64 ((hPick p 13) - 6)) + 1)) + (hPick q 6)))))))) Try.func50 rfl (by decide) rfl rfl rfl ?_)
  refine ao 12 rfl rfl (st_new zero35 rfl fun g1 => ?_)
  refine ar_op (d := none) rfl rfl (st_sta (g := g1) (off := 0) (us := [.int .i64 ((lawQuadRoots_e0 p q k m n).lo), .int .i64 ((lawQuadRoots_e0 p q k m n).hi), .bool ((lawQuadRoots_e0 p q k m n).no)]) (cs := [.int .i64 ((lawQuadRoots_e0 p q k m n).lo), .int .i64 ((lawQuadRoots_e0 p q k m n).hi), .bool ((lawQuadRoots_e0 p q k m n).no)]) agg35 0 rfl rfl rfl rfl rfl rfl rfl rfl rfl ?_)
  refine ar_nil ?_
  refine ac_seq ?_
  refine ac_region_lit ?_
  refine ao 39 rfl rfl (st_move (v := .int .i64 (w64 (1 + (hPick k 2)))) rfl rfl ?_)
  refine ao 40 rfl rfl (st_bi (u := .int .i64 2) (v := .int .i64 (w64 (1 + (hPick k 2)))) (r := .int .i64 (w64 (2 * (w64 (1 + (hPick k 2)))))) rfl rfl rfl (bi_mul rfl) ?_)
  refine ao 41 rfl rfl (st_move (v := .int .i64 (w64 ((hPick p 13) - 6))) rfl rfl ?_)
  refine ao 42 rfl rfl (st_bi (u := .int .i64 (w64 (2 * (w64 (1 + (hPick k 2)))))) (v := .int .i64 (w64 ((hPick p 13) - 6))) (r := .int .i64 (w64 ((w64 (2 * (w64 (1 + (hPick k 2))))) * (w64 ((hPick p 13) - 6))))) rfl rfl rfl (bi_mul rfl) ?_)
  refine ao 43 rfl rfl (st_move (v := .int .i64 (w64 ((w64 ((w64 ((hPick p 13) - 6)) + 1)) + (hPick q 6)))) rfl rfl ?_)
  refine ao 44 rfl rfl (st_bi (u := .int .i64 (w64 ((w64 (2 * (w64 (1 + (hPick k 2))))) * (w64 ((hPick p 13) - 6))))) (v := .int .i64 (w64 ((w64 ((w64 ((hPick p 13) - 6)) + 1)) + (hPick q 6)))) (r := .int .i64 (w64 ((w64 ((w64 (2 * (w64 (1 + (hPick k 2))))) * (w64 ((hPick p 13) - 6)))) * (w64 ((w64 ((w64 ((hPick p 13) - 6)) + 1)) + (hPick q 6)))))) rfl rfl rfl (bi_mul rfl) ?_)
  refine ao 45 rfl rfl (st_cf (vs := [.int .i64 (w64 ((w64 ((w64 (2 * (w64 (1 + (hPick k 2))))) * (w64 ((hPick p 13) - 6)))) * (w64 ((w64 ((w64 ((hPick p 13) - 6)) + 1)) + (hPick q 6)))))]) (r := .agg #[.int .i64 ((lawQuadRoots_e1 p q k m n).lo), .int .i64 ((lawQuadRoots_e1 p q k m n).hi), .bool ((lawQuadRoots_e1 p q k m n).no)]) (c_ivWhole (w64 ((w64 ((w64 (2 * (w64 (1 + (hPick k 2))))) * (w64 ((hPick p 13) - 6)))) * (w64 ((w64 ((w64 ((hPick p 13) - 6)) + 1)) + (hPick q 6)))))) Try.func50 rfl (by decide) rfl rfl rfl ?_)
  refine ao 13 rfl rfl (st_new zero35 rfl fun g2 => ?_)
  refine ar_op (d := none) rfl rfl (st_sta (g := g2) (off := 0) (us := [.int .i64 ((lawQuadRoots_e1 p q k m n).lo), .int .i64 ((lawQuadRoots_e1 p q k m n).hi), .bool ((lawQuadRoots_e1 p q k m n).no)]) (cs := [.int .i64 ((lawQuadRoots_e1 p q k m n).lo), .int .i64 ((lawQuadRoots_e1 p q k m n).hi), .bool ((lawQuadRoots_e1 p q k m n).no)]) agg35 0 rfl rfl rfl rfl rfl rfl rfl rfl rfl ?_)
  refine ar_nil ?_
  refine ac_seq ?_
  refine ac_region_lit ?_
  refine ao 47 rfl rfl (st_lda (g := g0) (off := 0) (vs := [.int .i64 ((ivWhole (w64 (2 * (w64 (1 + (hPick k 2)))))).lo), .int .i64 ((ivWhole (w64 (2 * (w64 (1 + (hPick k 2)))))).hi), .bool ((ivWhole (w64 (2 * (w64 (1 + (hPick k 2)))))).no)]) agg35 2 rfl rfl rfl rfl rfl rfl ?_)
  refine ao 48 rfl rfl (st_lda (g := g1) (off := 0) (vs := [.int .i64 ((lawQuadRoots_e0 p q k m n).lo), .int .i64 ((lawQuadRoots_e0 p q k m n).hi), .bool ((lawQuadRoots_e0 p q k m n).no)]) agg35 1 rfl rfl rfl rfl rfl rfl ?_)
  refine ao 49 rfl rfl (st_lda (g := g2) (off := 0) (vs := [.int .i64 ((lawQuadRoots_e1 p q k m n).lo), .int .i64 ((lawQuadRoots_e1 p q k m n).hi), .bool ((lawQuadRoots_e1 p q k m n).no)]) agg35 0 rfl rfl rfl rfl rfl rfl ?_)
  refine ao 50 rfl rfl (st_cf (vs := [.agg #[.int .i64 ((ivWhole (w64 (2 * (w64 (1 + (hPick k 2)))))).lo), .int .i64 ((ivWhole (w64 (2 * (w64 (1 + (hPick k 2)))))).hi), .bool ((ivWhole (w64 (2 * (w64 (1 + (hPick k 2)))))).no)], .agg #[.int .i64 ((lawQuadRoots_e0 p q k m n).lo), .int .i64 ((lawQuadRoots_e0 p q k m n).hi), .bool ((lawQuadRoots_e0 p q k m n).no)], .agg #[.int .i64 ((lawQuadRoots_e1 p q k m n).lo), .int .i64 ((lawQuadRoots_e1 p q k m n).hi), .bool ((lawQuadRoots_e1 p q k m n).no)]]) (r := .tuple #[.agg #[.int .i64 (((lawQuadRoots_e2 p q k m n).1).lo), .int .i64 (((lawQuadRoots_e2 p q k m n).1).hi), .bool (((lawQuadRoots_e2 p q k m n).1).no)], .int .i64 ((lawQuadRoots_e2 p q k m n).2)]) (c_quadNear (ivWhole (w64 (2 * (w64 (1 + (hPick k 2)))))) (lawQuadRoots_e0 p q k m n) (lawQuadRoots_e1 p q k m n)) Try.func83 rfl (by decide) rfl rfl rfl ?_)
  refine ao 46 rfl rfl (st_move (v := .tuple #[.agg #[.int .i64 (((lawQuadRoots_e2 p q k m n).1).lo), .int .i64 (((lawQuadRoots_e2 p q k m n).1).hi), .bool (((lawQuadRoots_e2 p q k m n).1).no)], .int .i64 ((lawQuadRoots_e2 p q k m n).2)]) rfl rfl ?_)
  refine ao 51 rfl rfl (st_ex (vs := [.agg #[.int .i64 (((lawQuadRoots_e2 p q k m n).1).lo), .int .i64 (((lawQuadRoots_e2 p q k m n).1).hi), .bool (((lawQuadRoots_e2 p q k m n).1).no)], .int .i64 ((lawQuadRoots_e2 p q k m n).2)]) (v := .agg #[.int .i64 (((lawQuadRoots_e2 p q k m n).1).lo), .int .i64 (((lawQuadRoots_e2 p q k m n).1).hi), .bool (((lawQuadRoots_e2 p q k m n).1).no)]) rfl rfl rfl ?_)
  refine ao 52 rfl rfl (st_ex (vs := [.agg #[.int .i64 (((lawQuadRoots_e2 p q k m n).1).lo), .int .i64 (((lawQuadRoots_e2 p q k m n).1).hi), .bool (((lawQuadRoots_e2 p q k m n).1).no)], .int .i64 ((lawQuadRoots_e2 p q k m n).2)]) (v := .int .i64 ((lawQuadRoots_e2 p q k m n).2)) rfl rfl rfl ?_)
  refine ao 14 rfl rfl (st_new zero35 rfl fun g3 => ?_)
  refine ar_op (d := none) rfl rfl (st_sta (g := g3) (off := 0) (us := [.int .i64 (((lawQuadRoots_e2 p q k m n).1).lo), .int .i64 (((lawQuadRoots_e2 p q k m n).1).hi), .bool (((lawQuadRoots_e2 p q k m n).1).no)]) (cs := [.int .i64 (((lawQuadRoots_e2 p q k m n).1).lo), .int .i64 (((lawQuadRoots_e2 p q k m n).1).hi), .bool (((lawQuadRoots_e2 p q k m n).1).no)]) agg35 0 rfl rfl rfl rfl rfl rfl rfl rfl rfl ?_)
  refine ao 15 rfl rfl (st_assign (v := .int .i64 ((lawQuadRoots_e2 p q k m n).2)) rfl rfl ?_)
  refine ar_nil ?_
  refine ac_seq ?_
  refine ac_drawL1 (id := 8) [0, 1, 2, 3, 4, 5, 6, 7, 8, 9, 10, 11, 12, 13, 14, 15, 16, 17, 18, 19, 20, 21, 22] [24, 25] 22 23 16 35 _ _ (by kernel_rfl) ⟨_, _, _, rfl, rfl, rfl⟩ (by repeat (first | exact np_fin | refine np_then ?_ | refine np_block ?_)) follows rfl zero35 ⟨_, rfl, rfl, rfl, rfl⟩ ?_
  refine dw_op (d := (some 54)) (.int .i64 (w64 (1 + (hPick k 2)))) rfl rfl rfl (st_move (v := .int .i64 (w64 (1 + (hPick k 2)))) rfl rfl ⟨rfl, rfl⟩) ?_
  refine dw_op (d := (some 55)) (.int .i64 (w64 (2 * (w64 (1 + (hPick k 2)))))) rfl rfl rfl (st_bi (u := .int .i64 2) (v := .int .i64 (w64 (1 + (hPick k 2)))) (r := .int .i64 (w64 (2 * (w64 (1 + (hPick k 2)))))) rfl rfl rfl (bi_mul rfl) ⟨rfl, rfl⟩) ?_
  refine dw_op (d := (some 56)) (.int .i64 (w64 ((w64 (2 * (w64 (1 + (hPick k 2))))) * 65536))) rfl rfl rfl (st_bi (u := .int .i64 (w64 (2 * (w64 (1 + (hPick k 2)))))) (v := .int .i64 65536) (r := .int .i64 (w64 ((w64 (2 * (w64 (1 + (hPick k 2))))) * 65536))) rfl rfl rfl (bi_mul rfl) ⟨rfl, rfl⟩) ?_
  refine dw_op (d := (some 57)) (.int .i64 m) rfl rfl rfl (st_move (v := .int .i64 m) rfl rfl ⟨rfl, rfl⟩) ?_
  refine dw_op (d := (some 58)) (.int .i64 (hPick m 20)) rfl rfl rfl (st_cf (vs := [.int .i64 m, .int .i64 20]) (r := .int .i64 (hPick m 20)) (c_hPick m 20 (by decide)) Try.func48 rfl (by decide) rfl rfl rfl ⟨rfl, rfl⟩) ?_
  refine dw_op (d := (some 59)) (.int .i64 (w64 ((w64 ((w64 (2 * (w64 (1 + (hPick k 2))))) * 65536)) - (hPick m 20)))) rfl rfl rfl (st_bi (u := .int .i64 (w64 ((w64 (2 * (w64 (1 + (hPick k 2))))) * 65536))) (v := .int .i64 (hPick m 20)) (r := .int .i64 (w64 ((w64 ((w64 (2 * (w64 (1 + (hPick k 2))))) * 65536)) - (hPick m 20)))) rfl rfl rfl (bi_sub rfl) ⟨rfl, rfl⟩) ?_
  refine dw_op (d := (some 60)) (.agg #[.int .i64 ((lawQuadRoots_e3 p q k m n).lo), .int .i64 ((lawQuadRoots_e3 p q k m n).hi), .bool ((lawQuadRoots_e3 p q k m n).no)]) rfl rfl rfl (st_cf (vs := [.int .i64 (w64 ((w64 ((w64 (2 * (w64 (1 + (hPick k 2))))) * 65536)) - (hPick m 20))), .int .i64 20]) (r := .agg #[.int .i64 ((lawQuadRoots_e3 p q k m n).lo), .int .i64 ((lawQuadRoots_e3 p q k m n).hi), .bool ((lawQuadRoots_e3 p q k m n).no)]) (c_hWide (w64 ((w64 ((w64 (2 * (w64 (1 + (hPick k 2))))) * 65536)) - (hPick m 20))) 20) Try.func49 rfl (by decide) rfl rfl rfl ⟨rfl, rfl⟩) ?_
  refine dw_op (d := (some 61)) (.int .i64 (w64 (1 + (hPick k 2)))) rfl rfl rfl (st_move (v := .int .i64 (w64 (1 + (hPick k 2)))) rfl rfl ⟨rfl, rfl⟩) ?_
  refine dw_op (d := (some 62)) (.int .i64 (w64 (0 - (w64 (1 + (hPick k 2)))))) rfl rfl rfl (st_un (u := .int .i64 (w64 (1 + (hPick k 2)))) (v := .int .i64 (w64 (0 - (w64 (1 + (hPick k 2)))))) rfl rfl (un_neg rfl) ⟨rfl, rfl⟩) ?_
  refine dw_op (d := (some 63)) (.int .i64 (w64 ((hPick p 13) - 6))) rfl rfl rfl (st_move (v := .int .i64 (w64 ((hPick p 13) - 6))) rfl rfl ⟨rfl, rfl⟩) ?_
  refine dw_op (d := (some 64)) (.int .i64 (w64 ((w64 ((w64 ((hPick p 13) - 6)) + 1)) + (hPick q 6)))) rfl rfl rfl (st_move (v := .int .i64 (w64 ((w64 ((w64 ((hPick p 13) - 6)) + 1)) + (hPick q 6)))) rfl rfl ⟨rfl, rfl⟩) ?_
  refine dw_op (d := (some 65)) (.int .i64 (w64 ((w64 ((hPick p 13) - 6)) + (w64 ((w64 ((w64 ((hPick p 13) - 6)) + 1)) + (hPick q 6)))))) rfl rfl rfl (st_bi (u := .int .i64 (w64 ((hPick p 13) - 6))) (v := .int .i64 (w64 ((w64 ((w64 ((hPick p 13) - 6)) + 1)) + (hPick q 6)))) (r := .int .i64 (w64 ((w64 ((hPick p 13) - 6)) + (w64 ((w64 ((w64 ((hPick p 13) - 6)) + 1)) + (hPick q 6)))))) rfl rfl rfl (bi_add rfl) ⟨rfl, rfl⟩) ?_
  refine dw_op (d := (some 66)) (.int .i64 (w64 ((w64 (0 - (w64 (1 + (hPick k 2))))) * (w64 ((w64 ((hPick p 13) - 6)) + (w64 ((w64 ((w64 ((hPick p 13) - 6)) + 1)) + (hPick q 6)))))))) rfl rfl rfl (st_bi (u := .int .i64 (w64 (0 - (w64 (1 + (hPick k 2)))))) (v := .int .i64 (w64 ((w64 ((hPick p 13) - 6)) + (w64 ((w64 ((w64 ((hPick p 13) - 6)) + 1)) + (hPick q 6)))))) (r := .int .i64 (w64 ((w64 (0 - (w64 (1 + (hPick k 2))))) * (w64 ((w64 ((hPick p 13) - 6)) + (w64 ((w64 ((w64 ((hPick p 13) - 6)) + 1)) + (hPick q 6)))))))) rfl rfl rfl (bi_mul rfl) ⟨rfl, rfl⟩) ?_
  refine dw_op (d := (some 67)) (.int .i64 (w64 ((w64 ((w64 (0 - (w64 (1 + (hPick k 2))))) * (w64 ((w64 ((hPick p 13) - 6)) + (w64 ((w64 ((w64 ((hPick p 13) - 6)) + 1)) + (hPick q 6))))))) * 65536))) rfl rfl rfl (st_bi (u := .int .i64 (w64 ((w64 (0 - (w64 (1 + (hPick k 2))))) * (w64 ((w64 ((hPick p 13) - 6)) + (w64 ((w64 ((w64 ((hPick p 13) - 6)) + 1)) + (hPick q 6)))))))) (v := .int .i64 65536) (r := .int .i64 (w64 ((w64 ((w64 (0 - (w64 (1 + (hPick k 2))))) * (w64 ((w64 ((hPick p 13) - 6)) + (w64 ((w64 ((w64 ((hPick p 13) - 6)) + 1)) + (hPick q 6))))))) * 65536))) rfl rfl rfl (bi_mul rfl) ⟨rfl, rfl⟩) ?_
  refine dw_op (d := (some 68)) (.int .i64 n) rfl rfl rfl (st_move (v := .int .i64 n) rfl rfl ⟨rfl, rfl⟩) ?_
  refine dw_op (d := (some 69)) (.int .i64 (hPick n 20)) rfl rfl rfl (st_cf (vs := [.int .i64 n, .int .i64 20]) (r := .int .i64 (hPick n 20)) (c_hPick n 20 (by decide)) Try.func48 rfl (by decide) rfl rfl rfl ⟨rfl, rfl⟩) ?_
  refine dw_op (d := (some 70)) (.int .i64 (w64 ((w64 ((w64 ((w64 (0 - (w64 (1 + (hPick k 2))))) * (w64 ((w64 ((hPick p 13) - 6)) + (w64 ((w64 ((w64 ((hPick p 13) - 6)) + 1)) + (hPick q 6))))))) * 65536)) - (hPick n 20)))) rfl rfl rfl (st_bi (u := .int .i64 (w64 ((w64 ((w64 (0 - (w64 (1 + (hPick k 2))))) * (w64 ((w64 ((hPick p 13) - 6)) + (w64 ((w64 ((w64 ((hPick p 13) - 6)) + 1)) + (hPick q 6))))))) * 65536))) (v := .int .i64 (hPick n 20)) (r := .int .i64 (w64 ((w64 ((w64 ((w64 (0 - (w64 (1 + (hPick k 2))))) * (w64 ((w64 ((hPick p 13) - 6)) + (w64 ((w64 ((w64 ((hPick p 13) - 6)) + 1)) + (hPick q 6))))))) * 65536)) - (hPick n 20)))) rfl rfl rfl (bi_sub rfl) ⟨rfl, rfl⟩) ?_
  refine dw_op (d := (some 71)) (.agg #[.int .i64 ((lawQuadRoots_e4 p q k m n).lo), .int .i64 ((lawQuadRoots_e4 p q k m n).hi), .bool ((lawQuadRoots_e4 p q k m n).no)]) rfl rfl rfl (st_cf (vs := [.int .i64 (w64 ((w64 ((w64 ((w64 (0 - (w64 (1 + (hPick k 2))))) * (w64 ((w64 ((hPick p 13) - 6)) + (w64 ((w64 ((w64 ((hPick p 13) - 6)) + 1)) + (hPick q 6))))))) * 65536)) - (hPick n 20))), .int .i64 20]) (r := .agg #[.int .i64 ((lawQuadRoots_e4 p q k m n).lo), .int .i64 ((lawQuadRoots_e4 p q k m n).hi), .bool ((lawQuadRoots_e4 p q k m n).no)]) (c_hWide (w64 ((w64 ((w64 ((w64 (0 - (w64 (1 + (hPick k 2))))) * (w64 ((w64 ((hPick p 13) - 6)) + (w64 ((w64 ((w64 ((hPick p 13) - 6)) + 1)) + (hPick q 6))))))) * 65536)) - (hPick n 20))) 20) Try.func49 rfl (by decide) rfl rfl rfl ⟨rfl, rfl⟩) ?_
  refine dw_op (d := (some 72)) (.agg #[.int .i64 ((lawQuadRoots_e1 p q k m n).lo), .int .i64 ((lawQuadRoots_e1 p q k m n).hi), .bool ((lawQuadRoots_e1 p q k m n).no)]) rfl rfl rfl (st_lda (g := g2) (off := 0) (vs := [.int .i64 ((lawQuadRoots_e1 p q k m n).lo), .int .i64 ((lawQuadRoots_e1 p q k m n).hi), .bool ((lawQuadRoots_e1 p q k m n).no)]) agg35 1 rfl rfl rfl rfl rfl rfl ⟨rfl, rfl⟩) ?_
  refine dw_op (d := (some 73)) (.tuple #[.agg #[.int .i64 (((lawQuadRoots_e5 p q k m n).1).lo), .int .i64 (((lawQuadRoots_e5 p q k m n).1).hi), .bool (((lawQuadRoots_e5 p q k m n).1).no)], .int .i64 ((lawQuadRoots_e5 p q k m n).2)]) rfl rfl rfl (st_cf (vs := [.agg #[.int .i64 ((lawQuadRoots_e3 p q k m n).lo), .int .i64 ((lawQuadRoots_e3 p q k m n).hi), .bool ((lawQuadRoots_e3 p q k m n).no)], .agg #[.int .i64 ((lawQuadRoots_e4 p q k m n).lo), .int .i64 ((lawQuadRoots_e4 p q k m n).hi), .bool ((lawQuadRoots_e4 p q k m n).no)], .agg #[.int .i64 ((lawQuadRoots_e1 p q k m n).lo), .int .i64 ((lawQuadRoots_e1 p q k m n).hi), .bool ((lawQuadRoots_e1 p q k m n).no)]]) (r := .tuple #[.agg #[.int .i64 (((lawQuadRoots_e5 p q k m n).1).lo), .int .i64 (((lawQuadRoots_e5 p q k m n).1).hi), .bool (((lawQuadRoots_e5 p q k m n).1).no)], .int .i64 ((lawQuadRoots_e5 p q k m n).2)]) (c_quadNear (lawQuadRoots_e3 p q k m n) (lawQuadRoots_e4 p q k m n) (lawQuadRoots_e1 p q k m n)) Try.func83 rfl (by decide) rfl rfl rfl ⟨rfl, rfl⟩) ?_
  refine dw_op (d := (some 53)) (.tuple #[.agg #[.int .i64 (((lawQuadRoots_e5 p q k m n).1).lo), .int .i64 (((lawQuadRoots_e5 p q k m n).1).hi), .bool (((lawQuadRoots_e5 p q k m n).1).no)], .int .i64 ((lawQuadRoots_e5 p q k m n).2)]) rfl rfl rfl (st_move (v := .tuple #[.agg #[.int .i64 (((lawQuadRoots_e5 p q k m n).1).lo), .int .i64 (((lawQuadRoots_e5 p q k m n).1).hi), .bool (((lawQuadRoots_e5 p q k m n).1).no)], .int .i64 ((lawQuadRoots_e5 p q k m n).2)]) rfl rfl ⟨rfl, rfl⟩) ?_
  refine dw_op (d := (some 74)) (.agg #[.int .i64 (((lawQuadRoots_e5 p q k m n).1).lo), .int .i64 (((lawQuadRoots_e5 p q k m n).1).hi), .bool (((lawQuadRoots_e5 p q k m n).1).no)]) rfl rfl rfl (st_ex (vs := [.agg #[.int .i64 (((lawQuadRoots_e5 p q k m n).1).lo), .int .i64 (((lawQuadRoots_e5 p q k m n).1).hi), .bool (((lawQuadRoots_e5 p q k m n).1).no)], .int .i64 ((lawQuadRoots_e5 p q k m n).2)]) (v := .agg #[.int .i64 (((lawQuadRoots_e5 p q k m n).1).lo), .int .i64 (((lawQuadRoots_e5 p q k m n).1).hi), .bool (((lawQuadRoots_e5 p q k m n).1).no)]) rfl rfl rfl ⟨rfl, rfl⟩) ?_
  refine dw_op (d := (some 75)) (.int .i64 ((lawQuadRoots_e5 p q k m n).2)) rfl rfl rfl (st_ex (vs := [.agg #[.int .i64 (((lawQuadRoots_e5 p q k m n).1).lo), .int .i64 (((lawQuadRoots_e5 p q k m n).1).hi), .bool (((lawQuadRoots_e5 p q k m n).1).no)], .int .i64 ((lawQuadRoots_e5 p q k m n).2)]) (v := .int .i64 ((lawQuadRoots_e5 p q k m n).2)) rfl rfl rfl ⟨rfl, rfl⟩) ?_
  refine dw_nil ?_
  intro g4
  refine ar_op (d := none) rfl rfl (st_sta (g := g4) (off := 0) (us := [.int .i64 (((lawQuadRoots_e5 p q k m n).1).lo), .int .i64 (((lawQuadRoots_e5 p q k m n).1).hi), .bool (((lawQuadRoots_e5 p q k m n).1).no)]) (cs := [.int .i64 (((lawQuadRoots_e5 p q k m n).1).lo), .int .i64 (((lawQuadRoots_e5 p q k m n).1).hi), .bool (((lawQuadRoots_e5 p q k m n).1).no)]) agg35 0 rfl rfl rfl rfl rfl rfl rfl rfl rfl ?_)
  refine ao 17 rfl rfl (st_assign (v := .int .i64 ((lawQuadRoots_e5 p q k m n).2)) rfl rfl ?_)
  refine ar_nil ?_
  refine ac_seq ?_
  refine ac_seq ?_
  refine ac_region_lit ?_
  refine ao 76 rfl rfl (st_cf (vs := []) (r := .bool known6) c_known6 Try.func85 rfl (by decide) rfl rfl rfl ?_)
  refine ao 77 rfl rfl (st_un (u := .bool known6) (v := .bool (!known6)) rfl rfl (un_not rfl) ?_)
  refine ao 78 rfl rfl (st_move (v := .bool (!known6)) rfl rfl ?_)
  refine bool_split (known6) (fun h1 => ?_) (fun h1 => nomatch (show false = true from (show (lawQuadRoots p q k m n) = _ from (eF h1 rfl)).symm.trans H))
  refine ar_gd (d := (some 79)) (by show ((!known6) == false) = true; rw [h1]; rfl) rfl (st_move (v := .int .i64 ((lawQuadRoots_e2 p q k m n).2)) rfl rfl ?_)
  refine ar_gd (d := (some 80)) (by show ((!known6) == false) = true; rw [h1]; rfl) rfl (st_bi (u := .int .i64 ((lawQuadRoots_e2 p q k m n).2)) (v := .int .i64 2) (r := .bool (((lawQuadRoots_e2 p q k m n).2) == 2)) rfl rfl rfl (bi_eql rfl) ?_)
  refine ao 81 rfl rfl (st_pkf' (b := !known6) (v := .bool (((lawQuadRoots_e2 p q k m n).2) == 2)) (by rw [h1]; rfl) rfl rfl rfl ?_)
  refine ao 82 rfl rfl (st_move (v := .bool (((lawQuadRoots_e2 p q k m n).2) == 2)) rfl rfl ?_)
  refine bool_split (((lawQuadRoots_e2 p q k m n).2) == 2) (fun h2 => nomatch (show false = true from (show (lawQuadRoots p q k m n) = _ from (eT h1 (eT h2 rfl))).symm.trans H)) (fun h2 => ?_)
  refine ar_gd (d := (some 83)) (by show ((((lawQuadRoots_e2 p q k m n).2) == 2) == false) = true; rw [h2]; rfl) rfl (st_move (v := .int .i64 ((lawQuadRoots_e5 p q k m n).2)) rfl rfl ?_)
  refine ar_gd (d := (some 84)) (by show ((((lawQuadRoots_e2 p q k m n).2) == 2) == false) = true; rw [h2]; rfl) rfl (st_bi (u := .int .i64 ((lawQuadRoots_e5 p q k m n).2)) (v := .int .i64 2) (r := .bool (((lawQuadRoots_e5 p q k m n).2) == 2)) rfl rfl rfl (bi_eql rfl) ?_)
  refine ao 85 rfl rfl (st_pkf' (b := ((lawQuadRoots_e2 p q k m n).2) == 2) (v := .bool (((lawQuadRoots_e5 p q k m n).2) == 2)) h2 rfl rfl rfl ?_)
  refine ao 86 rfl rfl (st_move (v := .bool (((lawQuadRoots_e5 p q k m n).2) == 2)) rfl rfl ?_)
  refine bool_split (((lawQuadRoots_e5 p q k m n).2) == 2) (fun h3 => nomatch (show false = true from (show (lawQuadRoots p q k m n) = _ from (eT h1 (eF h2 (eT h3 rfl)))).symm.trans H)) (fun h3 => ?_)
  refine ar_gd (d := (some 87)) (by show ((((lawQuadRoots_e5 p q k m n).2) == 2) == false) = true; rw [h3]; rfl) rfl (st_move (v := .int .i64 ((lawQuadRoots_e2 p q k m n).2)) rfl rfl ?_)
  refine ar_gd (d := (some 88)) (by show ((((lawQuadRoots_e5 p q k m n).2) == 2) == false) = true; rw [h3]; rfl) rfl (st_bi (u := .int .i64 ((lawQuadRoots_e2 p q k m n).2)) (v := .int .i64 1) (r := .bool (((lawQuadRoots_e2 p q k m n).2) == 1)) rfl rfl rfl (bi_eql rfl) ?_)
  refine ar_gd (d := (some 89)) (by show ((((lawQuadRoots_e5 p q k m n).2) == 2) == false) = true; rw [h3]; rfl) rfl (st_move (v := .int .i64 (w64 ((w64 ((w64 ((hPick p 13) - 6)) + 1)) + (hPick q 6)))) rfl rfl ?_)
  refine ar_gd (d := (some 90)) (by show ((((lawQuadRoots_e5 p q k m n).2) == 2) == false) = true; rw [h3]; rfl) rfl (st_bi (u := .int .i64 (w64 ((w64 ((w64 ((hPick p 13) - 6)) + 1)) + (hPick q 6)))) (v := .int .i64 0) (r := .bool ((w64 ((w64 ((w64 ((hPick p 13) - 6)) + 1)) + (hPick q 6))) != 0)) rfl rfl rfl (bi_neq rfl) ?_)
  refine ar_gd (d := (some 91)) (by show ((((lawQuadRoots_e5 p q k m n).2) == 2) == false) = true; rw [h3]; rfl) rfl (st_bi (u := .bool (((lawQuadRoots_e2 p q k m n).2) == 1)) (v := .bool ((w64 ((w64 ((w64 ((hPick p 13) - 6)) + 1)) + (hPick q 6))) != 0)) (r := .bool ((((lawQuadRoots_e2 p q k m n).2) == 1) != ((w64 ((w64 ((w64 ((hPick p 13) - 6)) + 1)) + (hPick q 6))) != 0))) rfl rfl rfl (bb_neq Try.underlying4 rfl) ?_)
  refine ao 92 rfl rfl (st_pkf' (b := ((lawQuadRoots_e5 p q k m n).2) == 2) (v := .bool ((((lawQuadRoots_e2 p q k m n).2) == 1) != ((w64 ((w64 ((w64 ((hPick p 13) - 6)) + 1)) + (hPick q 6))) != 0))) h3 rfl rfl rfl ?_)
  refine ar_nil ?_
  refine bool_split ((((lawQuadRoots_e2 p q k m n).2) == 1) != ((w64 ((w64 ((w64 ((hPick p 13) - 6)) + 1)) + (hPick q 6))) != 0)) (fun h4 => nomatch (show false = true from (show (lawQuadRoots p q k m n) = _ from (eT h1 (eF h2 (eF h3 (eT h4 rfl))))).symm.trans H)) (fun h4 => ?_)
  refine ac_else' (b := (((lawQuadRoots_e2 p q k m n).2) == 1) != ((w64 ((w64 ((w64 ((hPick p 13) - 6)) + 1)) + (hPick q 6))) != 0)) h4 rfl ?_
  refine ac_skip ?_
  refine ac_seq ?_
  refine ac_region_lit ?_
  refine ao 93 rfl rfl (st_move (v := .int .i64 ((lawQuadRoots_e2 p q k m n).2)) rfl rfl ?_)
  refine ao 94 rfl rfl (st_bi (u := .int .i64 ((lawQuadRoots_e2 p q k m n).2)) (v := .int .i64 1) (r := .bool (((lawQuadRoots_e2 p q k m n).2) != 1)) rfl rfl rfl (bi_neq rfl) ?_)
  refine ao 95 rfl rfl (st_move (v := .bool (((lawQuadRoots_e2 p q k m n).2) != 1)) rfl rfl ?_)
  refine bool_split (((lawQuadRoots_e2 p q k m n).2) != 1) (fun h5 => ?_) (fun h5 => ?_)
  · refine ar_sk (d := (some 96)) (by show ((((lawQuadRoots_e2 p q k m n).2) != 1) == false) = false; rw [h5]; rfl) rfl ?_
    refine ar_sk (d := (some 97)) (by show ((((lawQuadRoots_e2 p q k m n).2) != 1) == false) = false; rw [h5]; rfl) rfl ?_
    refine ar_sk (d := (some 98)) (by show ((((lawQuadRoots_e2 p q k m n).2) != 1) == false) = false; rw [h5]; rfl) rfl ?_
    refine ar_sk (d := (some 99)) (by show ((((lawQuadRoots_e2 p q k m n).2) != 1) == false) = false; rw [h5]; rfl) rfl ?_
    refine ao 100 rfl rfl (st_pkt' (b := ((lawQuadRoots_e2 p q k m n).2) != 1) (v := .bool true) h5 rfl rfl rfl ?_)
    refine ao 101 rfl rfl (st_move (v := .bool true) rfl rfl ?_)
    refine ar_gd (d := (some 102)) rfl rfl (st_move (v := .int .i64 ((lawQuadRoots_e5 p q k m n).2)) rfl rfl ?_)
    refine ar_gd (d := (some 103)) rfl rfl (st_bi (u := .int .i64 ((lawQuadRoots_e5 p q k m n).2)) (v := .int .i64 1) (r := .bool (((lawQuadRoots_e5 p q k m n).2) != 1)) rfl rfl rfl (bi_neq rfl) ?_)
    refine ar_gd (d := (some 104)) rfl rfl (st_move (v := .bool (((lawQuadRoots_e5 p q k m n).2) != 1)) rfl rfl ?_)
    refine bool_split (((lawQuadRoots_e5 p q k m n).2) != 1) (fun h6 => ?_) (fun h6 => ?_)
    · refine ar_sk (d := (some 105)) (by show ((((lawQuadRoots_e5 p q k m n).2) != 1) == false) = false; rw [h6]; rfl) rfl ?_
      refine ar_sk (d := (some 106)) (by show ((((lawQuadRoots_e5 p q k m n).2) != 1) == false) = false; rw [h6]; rfl) rfl ?_
      refine ar_sk (d := (some 107)) (by show ((((lawQuadRoots_e5 p q k m n).2) != 1) == false) = false; rw [h6]; rfl) rfl ?_
      refine ar_sk (d := (some 108)) (by show ((((lawQuadRoots_e5 p q k m n).2) != 1) == false) = false; rw [h6]; rfl) rfl ?_
      refine ar_gd (d := (some 109)) rfl rfl (st_pkt' (b := ((lawQuadRoots_e5 p q k m n).2) != 1) (v := .bool true) h6 rfl rfl rfl ?_)
      refine ao 110 rfl rfl (st_pkt (v := .bool true) rfl rfl rfl ?_)
      refine ao 10 rfl rfl (st_assign (v := .bool true) rfl rfl ?_)
      refine ar_nil ?_
      refine ac_ret ?_
      exact fin_eq (by first | rfl | (rw [h6, h5, h4, h3, h2, h1] <;> rfl)) (fin_ret (res_tmp rfl rfl))
    · refine ar_gd (d := (some 105)) (by show ((((lawQuadRoots_e5 p q k m n).2) != 1) == false) = true; rw [h6]; rfl) rfl (st_lda (g := g4) (off := 0) (vs := [.int .i64 (((lawQuadRoots_e5 p q k m n).1).lo), .int .i64 (((lawQuadRoots_e5 p q k m n).1).hi), .bool (((lawQuadRoots_e5 p q k m n).1).no)]) agg35 0 rfl rfl rfl rfl rfl rfl ?_)
      refine ar_gd (d := (some 106)) (by show ((((lawQuadRoots_e5 p q k m n).2) != 1) == false) = true; rw [h6]; rfl) rfl (st_move (v := .int .i64 (w64 ((hPick p 13) - 6))) rfl rfl ?_)
      refine ar_gd (d := (some 107)) (by show ((((lawQuadRoots_e5 p q k m n).2) != 1) == false) = true; rw [h6]; rfl) rfl (st_bi (u := .int .i64 (w64 ((hPick p 13) - 6))) (v := .int .i64 65536) (r := .int .i64 (w64 ((w64 ((hPick p 13) - 6)) * 65536))) rfl rfl rfl (bi_mul rfl) ?_)
      refine ar_gd (d := (some 108)) (by show ((((lawQuadRoots_e5 p q k m n).2) != 1) == false) = true; rw [h6]; rfl) rfl (st_cf (vs := [.agg #[.int .i64 (((lawQuadRoots_e5 p q k m n).1).lo), .int .i64 (((lawQuadRoots_e5 p q k m n).1).hi), .bool (((lawQuadRoots_e5 p q k m n).1).no)], .int .i64 (w64 ((w64 ((hPick p 13) - 6)) * 65536))]) (r := .bool (lawQuadRoots_e7 p q k m n)) (c_ivHas ((lawQuadRoots_e5 p q k m n).1) (w64 ((w64 ((hPick p 13) - 6)) * 65536))) Try.func53 rfl (by decide) rfl rfl rfl ?_)
      refine ar_gd (d := (some 109)) rfl rfl (st_pkf' (b := ((lawQuadRoots_e5 p q k m n).2) != 1) (v := .bool (lawQuadRoots_e7 p q k m n)) h6 rfl rfl rfl ?_)
      refine ao 110 rfl rfl (st_pkt (v := .bool (lawQuadRoots_e7 p q k m n)) rfl rfl rfl ?_)
      refine ao 10 rfl rfl (st_assign (v := .bool (lawQuadRoots_e7 p q k m n)) rfl rfl ?_)
      refine ar_nil ?_
      refine ac_ret ?_
      exact fin_eq (v := .bool (lawQuadRoots_e7 p q k m n)) (congrArg Value.bool (show (lawQuadRoots_e7 p q k m n) = true from (show (lawQuadRoots p q k m n) = _ from (eT h1 (eF h2 (eF h3 (eF h4 (eT h5 (eF h6 rfl))))))).symm.trans H)) (fin_ret (res_tmp rfl rfl))
  · refine ar_gd (d := (some 96)) (by show ((((lawQuadRoots_e2 p q k m n).2) != 1) == false) = true; rw [h5]; rfl) rfl (st_lda (g := g3) (off := 0) (vs := [.int .i64 (((lawQuadRoots_e2 p q k m n).1).lo), .int .i64 (((lawQuadRoots_e2 p q k m n).1).hi), .bool (((lawQuadRoots_e2 p q k m n).1).no)]) agg35 1 rfl rfl rfl rfl rfl rfl ?_)
    refine ar_gd (d := (some 97)) (by show ((((lawQuadRoots_e2 p q k m n).2) != 1) == false) = true; rw [h5]; rfl) rfl (st_move (v := .int .i64 (w64 ((hPick p 13) - 6))) rfl rfl ?_)
    refine ar_gd (d := (some 98)) (by show ((((lawQuadRoots_e2 p q k m n).2) != 1) == false) = true; rw [h5]; rfl) rfl (st_bi (u := .int .i64 (w64 ((hPick p 13) - 6))) (v := .int .i64 65536) (r := .int .i64 (w64 ((w64 ((hPick p 13) - 6)) * 65536))) rfl rfl rfl (bi_mul rfl) ?_)
    refine ar_gd (d := (some 99)) (by show ((((lawQuadRoots_e2 p q k m n).2) != 1) == false) = true; rw [h5]; rfl) rfl (st_cf (vs := [.agg #[.int .i64 (((lawQuadRoots_e2 p q k m n).1).lo), .int .i64 (((lawQuadRoots_e2 p q k m n).1).hi), .bool (((lawQuadRoots_e2 p q k m n).1).no)], .int .i64 (w64 ((w64 ((hPick p 13) - 6)) * 65536))]) (r := .bool (lawQuadRoots_e6 p q k m n)) (c_ivHas ((lawQuadRoots_e2 p q k m n).1) (w64 ((w64 ((hPick p 13) - 6)) * 65536))) Try.func53 rfl (by decide) rfl rfl rfl ?_)
    refine ao 100 rfl rfl (st_pkf' (b := ((lawQuadRoots_e2 p q k m n).2) != 1) (v := .bool (lawQuadRoots_e6 p q k m n)) h5 rfl rfl rfl ?_)
    refine ao 101 rfl rfl (st_move (v := .bool (lawQuadRoots_e6 p q k m n)) rfl rfl ?_)
    refine bool_split (lawQuadRoots_e6 p q k m n) (fun h6 => ?_) (fun h6 => nomatch (show false = true from (show (lawQuadRoots p q k m n) = _ from (eT h1 (eF h2 (eF h3 (eF h4 (eF h5 (eF h6 rfl))))))).symm.trans H))
    refine ar_gd (d := (some 102)) (by show ((lawQuadRoots_e6 p q k m n) == true) = true; rw [h6]; rfl) rfl (st_move (v := .int .i64 ((lawQuadRoots_e5 p q k m n).2)) rfl rfl ?_)
    refine ar_gd (d := (some 103)) (by show ((lawQuadRoots_e6 p q k m n) == true) = true; rw [h6]; rfl) rfl (st_bi (u := .int .i64 ((lawQuadRoots_e5 p q k m n).2)) (v := .int .i64 1) (r := .bool (((lawQuadRoots_e5 p q k m n).2) != 1)) rfl rfl rfl (bi_neq rfl) ?_)
    refine ar_gd (d := (some 104)) (by show ((lawQuadRoots_e6 p q k m n) == true) = true; rw [h6]; rfl) rfl (st_move (v := .bool (((lawQuadRoots_e5 p q k m n).2) != 1)) rfl rfl ?_)
    refine bool_split (((lawQuadRoots_e5 p q k m n).2) != 1) (fun h7 => ?_) (fun h7 => ?_)
    · refine ar_sk (d := (some 105)) (by show ((((lawQuadRoots_e5 p q k m n).2) != 1) == false) = false; rw [h7]; rfl) rfl ?_
      refine ar_sk (d := (some 106)) (by show ((((lawQuadRoots_e5 p q k m n).2) != 1) == false) = false; rw [h7]; rfl) rfl ?_
      refine ar_sk (d := (some 107)) (by show ((((lawQuadRoots_e5 p q k m n).2) != 1) == false) = false; rw [h7]; rfl) rfl ?_
      refine ar_sk (d := (some 108)) (by show ((((lawQuadRoots_e5 p q k m n).2) != 1) == false) = false; rw [h7]; rfl) rfl ?_
      refine ar_gd (d := (some 109)) (by show ((lawQuadRoots_e6 p q k m n) == true) = true; rw [h6]; rfl) rfl (st_pkt' (b := ((lawQuadRoots_e5 p q k m n).2) != 1) (v := .bool true) h7 rfl rfl rfl ?_)
      refine ao 110 rfl rfl (st_pkt' (b := lawQuadRoots_e6 p q k m n) (v := .bool true) h6 rfl rfl rfl ?_)
      refine ao 10 rfl rfl (st_assign (v := .bool true) rfl rfl ?_)
      refine ar_nil ?_
      refine ac_ret ?_
      exact fin_eq (by first | rfl | (rw [h7, h6, h5, h4, h3, h2, h1] <;> rfl)) (fin_ret (res_tmp rfl rfl))
    · refine ar_gd (d := (some 105)) (by show ((((lawQuadRoots_e5 p q k m n).2) != 1) == false) = true; rw [h7]; rfl) rfl (st_lda (g := g4) (off := 0) (vs := [.int .i64 (((lawQuadRoots_e5 p q k m n).1).lo), .int .i64 (((lawQuadRoots_e5 p q k m n).1).hi), .bool (((lawQuadRoots_e5 p q k m n).1).no)]) agg35 0 rfl rfl rfl rfl rfl rfl ?_)
      refine ar_gd (d := (some 106)) (by show ((((lawQuadRoots_e5 p q k m n).2) != 1) == false) = true; rw [h7]; rfl) rfl (st_move (v := .int .i64 (w64 ((hPick p 13) - 6))) rfl rfl ?_)
      refine ar_gd (d := (some 107)) (by show ((((lawQuadRoots_e5 p q k m n).2) != 1) == false) = true; rw [h7]; rfl) rfl (st_bi (u := .int .i64 (w64 ((hPick p 13) - 6))) (v := .int .i64 65536) (r := .int .i64 (w64 ((w64 ((hPick p 13) - 6)) * 65536))) rfl rfl rfl (bi_mul rfl) ?_)
      refine ar_gd (d := (some 108)) (by show ((((lawQuadRoots_e5 p q k m n).2) != 1) == false) = true; rw [h7]; rfl) rfl (st_cf (vs := [.agg #[.int .i64 (((lawQuadRoots_e5 p q k m n).1).lo), .int .i64 (((lawQuadRoots_e5 p q k m n).1).hi), .bool (((lawQuadRoots_e5 p q k m n).1).no)], .int .i64 (w64 ((w64 ((hPick p 13) - 6)) * 65536))]) (r := .bool (lawQuadRoots_e7 p q k m n)) (c_ivHas ((lawQuadRoots_e5 p q k m n).1) (w64 ((w64 ((hPick p 13) - 6)) * 65536))) Try.func53 rfl (by decide) rfl rfl rfl ?_)
      refine ar_gd (d := (some 109)) (by show ((lawQuadRoots_e6 p q k m n) == true) = true; rw [h6]; rfl) rfl (st_pkf' (b := ((lawQuadRoots_e5 p q k m n).2) != 1) (v := .bool (lawQuadRoots_e7 p q k m n)) h7 rfl rfl rfl ?_)
      refine ao 110 rfl rfl (st_pkt' (b := lawQuadRoots_e6 p q k m n) (v := .bool (lawQuadRoots_e7 p q k m n)) h6 rfl rfl rfl ?_)
      refine ao 10 rfl rfl (st_assign (v := .bool (lawQuadRoots_e7 p q k m n)) rfl rfl ?_)
      refine ar_nil ?_
      refine ac_ret ?_
      exact fin_eq (v := .bool (lawQuadRoots_e7 p q k m n)) (congrArg Value.bool (show (lawQuadRoots_e7 p q k m n) = true from (show (lawQuadRoots p q k m n) = _ from (eT h1 (eF h2 (eF h3 (eF h4 (eF h5 (eT h6 (eF h7 rfl)))))))).symm.trans H)) (fin_ret (res_tmp rfl rfl))
end Go.Proofs.Ytbaihncnbejjbaa
