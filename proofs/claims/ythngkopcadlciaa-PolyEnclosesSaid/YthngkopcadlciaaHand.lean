import Derived.Test.YthngkopcadlciaaPPick
set_option linter.unusedVariables false
set_option linter.unusedSimpArgs false
namespace Go.Proofs.Ythngkopcadlciaa
open Go.RowKit

attribute [local irreducible] AC AR DWalk
def hIn_e0 (a : Iv) (x : Int) (y : Int) : Int := (hPick y (w64 ((w64 (a.hi - (w64 (a.lo + (hPick x (w64 ((w64 (a.hi - a.lo)) + 1))))))) + 1)))
def hIn (a : Iv) (x : Int) (y : Int) : Iv := (bif rRight a then (⟨w64 (a.lo + (hPick x (w64 ((w64 (a.hi - a.lo)) + 1)))), w64 ((w64 (a.lo + (hPick x (w64 ((w64 (a.hi - a.lo)) + 1))))) + (hIn_e0 a x y)), false⟩ : Iv) else a)
set_option maxRecDepth 100000 in
theorem c_hIn (a : Iv) (x : Int) (y : Int) : Gets Try.prog 41 #[.agg #[.int .i64 a.lo, .int .i64 a.hi, .bool a.no], .int .i64 x, .int .i64 y] (Iv.v (hIn a x y)) := by
  refine gets_fin Try.func41 rfl rfl rfl ?_
  refine ac_seq ?_
  refine ac_region_lit ?_
  refine ao 3 rfl rfl (st_box (v := .agg #[.int .i64 a.lo, .int .i64 a.hi, .bool a.no]) (cs := [.int .i64 a.lo, .int .i64 a.hi, .bool a.no]) rfl rfl rfl fun g0 => ?_)
  refine ao 6 rfl rfl (st_new zero26 rfl fun g1 => ?_)
  refine ar_nil ?_
  refine ac_seq ?_
  refine ac_seq ?_
  refine ac_region_lit ?_
  refine ao 8 rfl rfl (st_lda (g := g0) (off := 0) (vs := [.int .i64 a.lo, .int .i64 a.hi, .bool a.no]) agg26 1 rfl rfl rfl rfl rfl rfl ?_)
  refine ao 9 rfl rfl (st_cf (vs := [.agg #[.int .i64 a.lo, .int .i64 a.hi, .bool a.no]]) (r := .bool (rRight a)) (c_rRight a) Try.func40 rfl (by decide) rfl rfl rfl ?_)
  refine ao 10 rfl rfl (st_un (u := .bool (rRight a)) (v := .bool (!(rRight a))) rfl rfl (un_not rfl) ?_)
  refine ar_nil ?_
  refine bool_split (rRight a) (fun h1 => ?_) (fun h1 => ?_)
  · refine ac_else' (b := !(rRight a)) (by rw [h1]; rfl) rfl ?_
    refine ac_skip ?_
    refine ac_seq ?_
    refine ac_draw0 (id := 3) [0, 1, 2, 3, 4, 5, 6, 7, 8, 9, 10, 11] [] _ (by kernel_rfl) follows rfl  ?_
    refine dw_op (d := (some 12)) (.pointer (some ⟨g0, 0, none⟩)) rfl rfl rfl (st_fa (g := g0) (off := 0) rfl fa26_0 rfl ⟨rfl, rfl⟩) ?_
    refine dw_op (d := (some 13)) (.int .i64 a.lo) rfl rfl rfl (st_ldc (g := g0) (off := 0) (v := .int .i64 a.lo) cell3 1 rfl rfl rfl rfl rfl ⟨rfl, rfl⟩) ?_
    refine dw_op (d := (some 14)) (.int .i64 x) rfl rfl rfl (st_move (v := .int .i64 x) rfl rfl ⟨rfl, rfl⟩) ?_
    refine dw_op (d := (some 15)) (.pointer (some ⟨g0, 1, none⟩)) rfl rfl rfl (st_fa (g := g0) (off := 0) rfl fa26_1 rfl ⟨rfl, rfl⟩) ?_
    refine dw_op (d := (some 16)) (.int .i64 a.hi) rfl rfl rfl (st_ldc (g := g0) (off := 1) (v := .int .i64 a.hi) cell3 1 rfl rfl rfl rfl rfl ⟨rfl, rfl⟩) ?_
    refine dw_op (d := (some 17)) (.pointer (some ⟨g0, 0, none⟩)) rfl rfl rfl (st_fa (g := g0) (off := 0) rfl fa26_0 rfl ⟨rfl, rfl⟩) ?_
    refine dw_op (d := (some 18)) (.int .i64 a.lo) rfl rfl rfl (st_ldc (g := g0) (off := 0) (v := .int .i64 a.lo) cell3 1 rfl rfl rfl rfl rfl ⟨rfl, rfl⟩) ?_
    refine dw_op (d := (some 19)) (.int .i64 (w64 (a.hi - a.lo))) rfl rfl rfl (st_bi (u := .int .i64 a.hi) (v := .int .i64 a.lo) (r := .int .i64 (w64 (a.hi - a.lo))) rfl rfl rfl (bi_sub rfl) ⟨rfl, rfl⟩) ?_
    refine dw_op (d := (some 20)) (.int .i64 (w64 ((w64 (a.hi - a.lo)) + 1))) rfl rfl rfl (st_bi (u := .int .i64 (w64 (a.hi - a.lo))) (v := .int .i64 1) (r := .int .i64 (w64 ((w64 (a.hi - a.lo)) + 1))) rfl rfl rfl (bi_add rfl) ⟨rfl, rfl⟩) ?_
    refine dw_op (d := (some 21)) (.int .i64 (hPick x (w64 ((w64 (a.hi - a.lo)) + 1)))) rfl rfl rfl (st_cf (vs := [.int .i64 x, .int .i64 (w64 ((w64 (a.hi - a.lo)) + 1))]) (r := .int .i64 (hPick x (w64 ((w64 (a.hi - a.lo)) + 1)))) (c_hPick x (w64 ((w64 (a.hi - a.lo)) + 1)) (in_nz1 a h1)) Try.func19 rfl (by decide) rfl rfl rfl ⟨rfl, rfl⟩) ?_
    refine dw_op (d := (some 22)) (.int .i64 (w64 (a.lo + (hPick x (w64 ((w64 (a.hi - a.lo)) + 1)))))) rfl rfl rfl (st_bi (u := .int .i64 a.lo) (v := .int .i64 (hPick x (w64 ((w64 (a.hi - a.lo)) + 1)))) (r := .int .i64 (w64 (a.lo + (hPick x (w64 ((w64 (a.hi - a.lo)) + 1)))))) rfl rfl rfl (bi_add rfl) ⟨rfl, rfl⟩) ?_
    refine dw_op (d := (some 7)) (.int .i64 (w64 (a.lo + (hPick x (w64 ((w64 (a.hi - a.lo)) + 1)))))) rfl rfl rfl (st_assign (v := .int .i64 (w64 (a.lo + (hPick x (w64 ((w64 (a.hi - a.lo)) + 1)))))) rfl rfl ⟨rfl, rfl⟩) ?_
    refine dw_nil ?_
    refine ar_nil ?_
    refine ac_seq ?_
    refine ac_region_lit ?_
    refine ao 23 rfl rfl (st_move (v := .int .i64 (w64 (a.lo + (hPick x (w64 ((w64 (a.hi - a.lo)) + 1)))))) rfl rfl ?_)
    refine ao 24 rfl rfl (st_move (v := .int .i64 (w64 (a.lo + (hPick x (w64 ((w64 (a.hi - a.lo)) + 1)))))) rfl rfl ?_)
    refine ao 25 rfl rfl (st_move (v := .int .i64 y) rfl rfl ?_)
    refine ao 26 rfl rfl (st_fa (g := g0) (off := 0) rfl fa26_1 rfl ?_)
    refine ao 27 rfl rfl (st_ldc (g := g0) (off := 1) (v := .int .i64 a.hi) cell3 1 rfl rfl rfl rfl rfl ?_)
    refine ao 28 rfl rfl (st_move (v := .int .i64 (w64 (a.lo + (hPick x (w64 ((w64 (a.hi - a.lo)) + 1)))))) rfl rfl ?_)
    refine ao 29 rfl rfl (st_bi (u := .int .i64 a.hi) (v := .int .i64 (w64 (a.lo + (hPick x (w64 ((w64 (a.hi - a.lo)) + 1)))))) (r := .int .i64 (w64 (a.hi - (w64 (a.lo + (hPick x (w64 ((w64 (a.hi - a.lo)) + 1)))))))) rfl rfl rfl (bi_sub rfl) ?_)
    refine ao 30 rfl rfl (st_bi (u := .int .i64 (w64 (a.hi - (w64 (a.lo + (hPick x (w64 ((w64 (a.hi - a.lo)) + 1)))))))) (v := .int .i64 1) (r := .int .i64 (w64 ((w64 (a.hi - (w64 (a.lo + (hPick x (w64 ((w64 (a.hi - a.lo)) + 1))))))) + 1))) rfl rfl rfl (bi_add rfl) ?_)
    refine ao 31 rfl rfl (st_cf (vs := [.int .i64 y, .int .i64 (w64 ((w64 (a.hi - (w64 (a.lo + (hPick x (w64 ((w64 (a.hi - a.lo)) + 1))))))) + 1))]) (r := .int .i64 (hIn_e0 a x y)) (c_hPick y (w64 ((w64 (a.hi - (w64 (a.lo + (hPick x (w64 ((w64 (a.hi - a.lo)) + 1))))))) + 1)) (in_nz2 a x h1)) Try.func19 rfl (by decide) rfl rfl rfl ?_)
    refine ao 32 rfl rfl (st_bi (u := .int .i64 (w64 (a.lo + (hPick x (w64 ((w64 (a.hi - a.lo)) + 1)))))) (v := .int .i64 (hIn_e0 a x y)) (r := .int .i64 (w64 ((w64 (a.lo + (hPick x (w64 ((w64 (a.hi - a.lo)) + 1))))) + (hIn_e0 a x y)))) rfl rfl rfl (bi_add rfl) ?_)
    refine ao 33 rfl rfl (st_bd (us := [(0, .int .i64 (w64 (a.lo + (hPick x (w64 ((w64 (a.hi - a.lo)) + 1)))))), (1, .int .i64 (w64 ((w64 (a.lo + (hPick x (w64 ((w64 (a.hi - a.lo)) + 1))))) + (hIn_e0 a x y))))]) (v := .agg #[.int .i64 (w64 (a.lo + (hPick x (w64 ((w64 (a.hi - a.lo)) + 1))))), .int .i64 (w64 ((w64 (a.lo + (hPick x (w64 ((w64 (a.hi - a.lo)) + 1))))) + (hIn_e0 a x y))), .bool false]) rfl rfl (bd26_0_1 _ _) ?_)
    refine ar_op (d := none) rfl rfl (st_sta (g := g1) (off := 0) (us := [.int .i64 (w64 (a.lo + (hPick x (w64 ((w64 (a.hi - a.lo)) + 1))))), .int .i64 (w64 ((w64 (a.lo + (hPick x (w64 ((w64 (a.hi - a.lo)) + 1))))) + (hIn_e0 a x y))), .bool false]) (cs := [.int .i64 (w64 (a.lo + (hPick x (w64 ((w64 (a.hi - a.lo)) + 1))))), .int .i64 (w64 ((w64 (a.lo + (hPick x (w64 ((w64 (a.hi - a.lo)) + 1))))) + (hIn_e0 a x y))), .bool false]) agg26 0 rfl rfl rfl rfl rfl rfl rfl rfl rfl ?_)
    refine ar_nil ?_
    refine ac_ret ?_
    exact fin_eq (v := .agg #[.int .i64 (w64 (a.lo + (hPick x (w64 ((w64 (a.hi - a.lo)) + 1))))), .int .i64 (w64 ((w64 (a.lo + (hPick x (w64 ((w64 (a.hi - a.lo)) + 1))))) + (hIn_e0 a x y))), .bool false]) (by show _ = Iv.v (hIn a x y); rw [hIn, h1] <;> rfl) (fin_ret (res_c (vs := [.int .i64 (w64 (a.lo + (hPick x (w64 ((w64 (a.hi - a.lo)) + 1))))), .int .i64 (w64 ((w64 (a.lo + (hPick x (w64 ((w64 (a.hi - a.lo)) + 1))))) + (hIn_e0 a x y))), .bool false]) agg26 0 rfl rfl rfl rfl rfl rfl))
  · refine ac_then' (b := !(rRight a)) (by rw [h1]; rfl) rfl ?_
    refine ac_seq ?_
    refine ac_region_lit ?_
    refine ao 11 rfl rfl (st_lda (g := g0) (off := 0) (vs := [.int .i64 a.lo, .int .i64 a.hi, .bool a.no]) agg26 1 rfl rfl rfl rfl rfl rfl ?_)
    refine ar_op (d := none) rfl rfl (st_sta (g := g1) (off := 0) (us := [.int .i64 a.lo, .int .i64 a.hi, .bool a.no]) (cs := [.int .i64 a.lo, .int .i64 a.hi, .bool a.no]) agg26 0 rfl rfl rfl rfl rfl rfl rfl rfl rfl ?_)
    refine ar_nil ?_
    refine ac_ret ?_
    exact fin_eq (v := .agg #[.int .i64 a.lo, .int .i64 a.hi, .bool a.no]) (by show _ = Iv.v (hIn a x y); rw [hIn, h1] <;> rfl) (fin_ret (res_c (vs := [.int .i64 a.lo, .int .i64 a.hi, .bool a.no]) agg26 0 rfl rfl rfl rfl rfl rfl))
end Go.Proofs.Ythngkopcadlciaa
