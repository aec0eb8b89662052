import Derived.Test.YthngkopcadlciaaRIv
import Derived.Test.YthngkopcadlciaaMSceneFirst2
import Derived.Test.YthngkopcadlciaaMSceneFirst1
set_option linter.unusedVariables false
set_option linter.unusedSimpArgs false
namespace Go.Proofs.Ythngkopcadlciaa
open Go.RowKit
attribute [local irreducible] AC AR DWalk
def hPick_e0 (n : Int) (m : Int) : Int := (bif decide ((Int.tmod n m) < 0) then (w64 ((Int.tmod n m) + m)) else (Int.tmod n m))
def hPick (n : Int) (m : Int) : Int := (hPick_e0 n m)
set_option maxRecDepth 100000 in
theorem c_hPick (n : Int) (m : Int) (hm : m ≠ 0) : Gets Try.prog 19 #[.int .i64 n, .int .i64 m] ((fun (r : Int) => (.int .i64 r : Value)) (hPick n m)) := by
  refine gets_fin Try.func19 rfl rfl rfl ?_
  refine ac_seq ?_
  refine ac_region_lit ?_
  refine ao 4 rfl rfl (st_assign (v := .int .i64 0) rfl rfl ?_)
  refine ar_nil ?_
  refine ac_seq ?_
  refine ac_region_lit ?_
  refine ao 5 rfl rfl (st_move (v := .int .i64 n) rfl rfl ?_)
  refine ao 6 rfl rfl (st_move (v := .int .i64 m) rfl rfl ?_)
  refine ao 7 rfl rfl (st_bi (u := .int .i64 n) (v := .int .i64 m) (r := .int .i64 (Int.tmod n m)) rfl rfl rfl (bi_rem hm rfl) ?_)
  refine ao 0 rfl rfl (st_assign (v := .int .i64 (Int.tmod n m)) rfl rfl ?_)
  refine ar_nil ?_
  refine ac_seq ?_
  refine ac_seq ?_
  refine ac_region_lit ?_
  refine ao 8 rfl rfl (st_move (v := .int .i64 (Int.tmod n m)) rfl rfl ?_)
  refine ao 9 rfl rfl (st_bi (u := .int .i64 (Int.tmod n m)) (v := .int .i64 0) (r := .bool (decide ((Int.tmod n m) < 0))) rfl rfl rfl (bi_lss rfl) ?_)
  refine ar_nil ?_
  refine ac_mergeE (fun E9 => ((((Env.put E9 (some 10) (.int .i64 (Int.tmod n m))).put (some 11) (.int .i64 m)).put (some 12) (.int .i64 (w64 ((Int.tmod n m) + m)))).put (some 0) (.int .i64 (w64 ((Int.tmod n m) + m))))) (fun E9 => ((((Env.put E9 (some 10) (bif decide ((Int.tmod n m) < 0) then (.int .i64 (Int.tmod n m) : Value) else E9 10)).put (some 11) (bif decide ((Int.tmod n m) < 0) then (.int .i64 m : Value) else E9 11)).put (some 12) (bif decide ((Int.tmod n m) < 0) then (.int .i64 (w64 ((Int.tmod n m) + m)) : Value) else E9 12)).put (some 0) (.int .i64 (hPick_e0 n m)))) (b := decide ((Int.tmod n m) < 0)) rfl (fun hm => ?_) (fun hm => ?_) (fun hm => ?_) ?_
  · refine ac_region_lit ?_
    refine ao 10 rfl rfl (st_move (v := .int .i64 (Int.tmod n m)) rfl rfl ?_)
    refine ao 11 rfl rfl (st_move (v := .int .i64 m) rfl rfl ?_)
    refine ao 12 rfl rfl (st_bi (u := .int .i64 (Int.tmod n m)) (v := .int .i64 m) (r := .int .i64 (w64 ((Int.tmod n m) + m))) rfl rfl rfl (bi_add rfl) ?_)
    refine ao 0 rfl rfl (st_assign (v := .int .i64 (w64 ((Int.tmod n m) + m))) rfl rfl ?_)
    refine ar_nil ?_
    exact ⟨rfl, rfl, rfl⟩
  · unfold hPick_e0; rw [hm]; rfl
  · unfold hPick_e0; rw [hm]; exact ((put_self rfl).trans ((put_self rfl).trans ((put_self rfl).trans (put_self rfl))))
  refine ac_seq ?_
  refine ac_region_lit ?_
  refine ao 13 rfl rfl (st_move (v := .int .i64 (hPick_e0 n m)) rfl rfl ?_)
  refine ao 4 rfl rfl (st_assign (v := .int .i64 (hPick_e0 n m)) rfl rfl ?_)
  refine ar_nil ?_
  refine ac_ret ?_
  exact fin_eq (v := .int .i64 (hPick_e0 n m)) rfl (fin_ret (res_tmp rfl rfl))
def hNum (n : Int) : Int := (bif (hPick n 9) == 0 then n else (bif (hPick n 9) == 1 then w64 ((w64 ((hPick (w64 (Int.tdiv n 9)) 201) - 100)) * 65536) else (bif (hPick n 9) == 2 then w64 ((hPick (w64 (Int.tdiv n 9)) 9) - 4) else (bif (hPick n 9) == 3 then w64 ((w64 ((hPick (w64 (Int.tdiv n 9)) 2147483657) - 1073741824)) - 4) else w64 ((hPick (w64 (Int.tdiv n 9)) 2621440) - 1310720)))))
set_option maxRecDepth 100000 in
theorem c_hNum (n : Int) : Gets Try.prog 79 #[.int .i64 n] ((fun (r : Int) => (.int .i64 r : Value)) (hNum n)) := by
  refine gets_fin Try.func79 rfl rfl rfl ?_
  refine ac_seq ?_
  refine ac_region_lit ?_
  refine ao 2 rfl rfl (st_assign (v := .int .i64 0) rfl rfl ?_)
  refine ar_nil ?_
  refine ac_seq ?_
  refine ac_seq ?_
  refine ac_region_lit ?_
  refine ao 3 rfl rfl (st_move (v := .int .i64 n) rfl rfl ?_)
  refine ao 4 rfl rfl (st_cf (vs := [.int .i64 n, .int .i64 9]) (r := .int .i64 (hPick n 9)) (c_hPick n 9 (by decide)) Try.func19 rfl (by decide) rfl rfl rfl ?_)
  refine ar_nil ?_
  refine ac_block ?_
  refine ac_seq ?_
  refine ac_region_lit ?_
  refine ao 6 rfl rfl (st_bi (u := .int .i64 (hPick n 9)) (v := .int .i64 0) (r := .bool ((hPick n 9) == 0)) rfl rfl rfl (bi_eql rfl) ?_)
  refine ao 5 rfl rfl (st_assign (v := .bool ((hPick n 9) == 0)) rfl rfl ?_)
  refine ar_nil ?_
  refine bool_split ((hPick n 9) == 0) (fun h1 => ?_) (fun h1 => ?_)
  · refine ac_then' (b := (hPick n 9) == 0) h1 rfl ?_
    refine ac_seq ?_
    refine ac_region_lit ?_
    refine ao 7 rfl rfl (st_move (v := .int .i64 n) rfl rfl ?_)
    refine ao 2 rfl rfl (st_assign (v := .int .i64 n) rfl rfl ?_)
    refine ar_nil ?_
    refine ac_ret ?_
    exact fin_eq (v := .int .i64 n) (by show _ = (fun (r : Int) => (.int .i64 r : Value)) (hNum n); rw [hNum, h1] <;> rfl) (fin_ret (res_tmp rfl rfl))
  · refine ac_else' (b := (hPick n 9) == 0) h1 rfl ?_
    refine ac_seq ?_
    refine ac_region_lit ?_
    refine ao 9 rfl rfl (st_bi (u := .int .i64 (hPick n 9)) (v := .int .i64 1) (r := .bool ((hPick n 9) == 1)) rfl rfl rfl (bi_eql rfl) ?_)
    refine ao 8 rfl rfl (st_assign (v := .bool ((hPick n 9) == 1)) rfl rfl ?_)
    refine ar_nil ?_
    refine bool_split ((hPick n 9) == 1) (fun h2 => ?_) (fun h2 => ?_)
    · refine ac_then' (b := (hPick n 9) == 1) h2 rfl ?_
      refine ac_seq ?_
      refine ac_region_lit ?_
      refine ao 10 rfl rfl (st_move (v := .int .i64 n) rfl rfl ?_)
      refine ao 11 rfl rfl (st_bi (u := .int .i64 n) (v := .int .i64 9) (r := .int .i64 (w64 (Int.tdiv n 9))) rfl rfl rfl (bi_quo (by decide) rfl) ?_)
      refine ao 12 rfl rfl (st_cf (vs := [.int .i64 (w64 (Int.tdiv n 9)), .int .i64 201]) (r := .int .i64 (hPick (w64 (Int.tdiv n 9)) 201)) (c_hPick (w64 (Int.tdiv n 9)) 201 (by decide)) Try.func19 rfl (by decide) rfl rfl rfl ?_)
      refine ao 13 rfl rfl (st_bi (u := .int .i64 (hPick (w64 (Int.tdiv n 9)) 201)) (v := .int .i64 100) (r := .int .i64 (w64 ((hPick (w64 (Int.tdiv n 9)) 201) - 100))) rfl rfl rfl (bi_sub rfl) ?_)
      refine ao 14 rfl rfl (st_bi (u := .int .i64 (w64 ((hPick (w64 (Int.tdiv n 9)) 201) - 100))) (v := .int .i64 65536) (r := .int .i64 (w64 ((w64 ((hPick (w64 (Int.tdiv n 9)) 201) - 100)) * 65536))) rfl rfl rfl (bi_mul rfl) ?_)
      refine ao 2 rfl rfl (st_assign (v := .int .i64 (w64 ((w64 ((hPick (w64 (Int.tdiv n 9)) 201) - 100)) * 65536))) rfl rfl ?_)
      refine ar_nil ?_
      refine ac_ret ?_
      exact fin_eq (v := .int .i64 (w64 ((w64 ((hPick (w64 (Int.tdiv n 9)) 201) - 100)) * 65536))) (by show _ = (fun (r : Int) => (.int .i64 r : Value)) (hNum n); rw [hNum, h2, h1] <;> rfl) (fin_ret (res_tmp rfl rfl))
    · refine ac_else' (b := (hPick n 9) == 1) h2 rfl ?_
      refine ac_seq ?_
      refine ac_region_lit ?_
      refine ao 16 rfl rfl (st_bi (u := .int .i64 (hPick n 9)) (v := .int .i64 2) (r := .bool ((hPick n 9) == 2)) rfl rfl rfl (bi_eql rfl) ?_)
      refine ao 15 rfl rfl (st_assign (v := .bool ((hPick n 9) == 2)) rfl rfl ?_)
      refine ar_nil ?_
      refine bool_split ((hPick n 9) == 2) (fun h3 => ?_) (fun h3 => ?_)
      · refine ac_then' (b := (hPick n 9) == 2) h3 rfl ?_
        refine ac_seq ?_
        refine ac_region_lit ?_
        refine ao 17 rfl rfl (st_move (v := .int .i64 n) rfl rfl ?_)
        refine ao 18 rfl rfl (st_bi (u := .int .i64 n) (v := .int .i64 9) (r := .int .i64 (w64 (Int.tdiv n 9))) rfl rfl rfl (bi_quo (by decide) rfl) ?_)
        refine ao 19 rfl rfl (st_cf (vs := [.int .i64 (w64 (Int.tdiv n 9)), .int .i64 9]) (r := .int .i64 (hPick (w64 (Int.tdiv n 9)) 9)) (c_hPick (w64 (Int.tdiv n 9)) 9 (by decide)) Try.func19 rfl (by decide) rfl rfl rfl ?_)
        refine ao 20 rfl rfl (st_bi (u := .int .i64 (hPick (w64 (Int.tdiv n 9)) 9)) (v := .int .i64 4) (r := .int .i64 (w64 ((hPick (w64 (Int.tdiv n 9)) 9) - 4))) rfl rfl rfl (bi_sub rfl) ?_)
        refine ao 2 rfl rfl (st_assign (v := .int .i64 (w64 ((hPick (w64 (Int.tdiv n 9)) 9) - 4))) rfl rfl ?_)
        refine ar_nil ?_
        refine ac_ret ?_
        exact fin_eq (v := .int .i64 (w64 ((hPick (w64 (Int.tdiv n 9)) 9) - 4))) (by show _ = (fun (r : Int) => (.int .i64 r : Value)) (hNum n); rw [hNum, h3, h2, h1] <;> rfl) (fin_ret (res_tmp rfl rfl))
      · refine ac_else' (b := (hPick n 9) == 2) h3 rfl ?_
        refine ac_seq ?_
        refine ac_region_lit ?_
        refine ao 22 rfl rfl (st_bi (u := .int .i64 (hPick n 9)) (v := .int .i64 3) (r := .bool ((hPick n 9) == 3)) rfl rfl rfl (bi_eql rfl) ?_)
        refine ao 21 rfl rfl (st_assign (v := .bool ((hPick n 9) == 3)) rfl rfl ?_)
        refine ar_nil ?_
        refine bool_split ((hPick n 9) == 3) (fun h4 => ?_) (fun h4 => ?_)
        · refine ac_then' (b := (hPick n 9) == 3) h4 rfl ?_
          refine ac_seq ?_
          refine ac_region_lit ?_
          refine ao 23 rfl rfl (st_move (v := .int .i64 n) rfl rfl ?_)
          refine ao 24 rfl rfl (st_bi (u := .int .i64 n) (v := .int .i64 9) (r := .int .i64 (w64 (Int.tdiv n 9))) rfl rfl rfl (bi_quo (by decide) rfl) ?_)
          refine ao 25 rfl rfl (st_cf (vs := [.int .i64 (w64 (Int.tdiv n 9)), .int .i64 2147483657]) (r := .int .i64 (hPick (w64 (Int.tdiv n 9)) 2147483657)) (c_hPick (w64 (Int.tdiv n 9)) 2147483657 (by decide)) Try.func19 rfl (by decide) rfl rfl rfl ?_)
          refine ao 26 rfl rfl (st_bi (u := .int .i64 (hPick (w64 (Int.tdiv n 9)) 2147483657)) (v := .int .i64 1073741824) (r := .int .i64 (w64 ((hPick (w64 (Int.tdiv n 9)) 2147483657) - 1073741824))) rfl rfl rfl (bi_sub rfl) ?_)
          refine ao 27 rfl rfl (st_bi (u := .int .i64 (w64 ((hPick (w64 (Int.tdiv n 9)) 2147483657) - 1073741824))) (v := .int .i64 4) (r := .int .i64 (w64 ((w64 ((hPick (w64 (Int.tdiv n 9)) 2147483657) - 1073741824)) - 4))) rfl rfl rfl (bi_sub rfl) ?_)
          refine ao 2 rfl rfl (st_assign (v := .int .i64 (w64 ((w64 ((hPick (w64 (Int.tdiv n 9)) 2147483657) - 1073741824)) - 4))) rfl rfl ?_)
          refine ar_nil ?_
          refine ac_ret ?_
          exact fin_eq (v := .int .i64 (w64 ((w64 ((hPick (w64 (Int.tdiv n 9)) 2147483657) - 1073741824)) - 4))) (by show _ = (fun (r : Int) => (.int .i64 r : Value)) (hNum n); rw [hNum, h4, h3, h2, h1] <;> rfl) (fin_ret (res_tmp rfl rfl))
        · refine ac_else' (b := (hPick n 9) == 3) h4 rfl ?_
          refine ac_skip ?_
          refine ac_seq ?_
          refine ac_region_lit ?_
          refine ao 28 rfl rfl (st_move (v := .int .i64 n) rfl rfl ?_)
          refine ao 29 rfl rfl (st_bi (u := .int .i64 n) (v := .int .i64 9) (r := .int .i64 (w64 (Int.tdiv n 9))) rfl rfl rfl (bi_quo (by decide) rfl) ?_)
          refine ao 30 rfl rfl (st_cf (vs := [.int .i64 (w64 (Int.tdiv n 9)), .int .i64 2621440]) (r := .int .i64 (hPick (w64 (Int.tdiv n 9)) 2621440)) (c_hPick (w64 (Int.tdiv n 9)) 2621440 (by decide)) Try.func19 rfl (by decide) rfl rfl rfl ?_)
          refine ao 31 rfl rfl (st_bi (u := .int .i64 (hPick (w64 (Int.tdiv n 9)) 2621440)) (v := .int .i64 1310720) (r := .int .i64 (w64 ((hPick (w64 (Int.tdiv n 9)) 2621440) - 1310720))) rfl rfl rfl (bi_sub rfl) ?_)
          refine ao 2 rfl rfl (st_assign (v := .int .i64 (w64 ((hPick (w64 (Int.tdiv n 9)) 2621440) - 1310720))) rfl rfl ?_)
          refine ar_nil ?_
          refine ac_ret ?_
          exact fin_eq (v := .int .i64 (w64 ((hPick (w64 (Int.tdiv n 9)) 2621440) - 1310720))) (by show _ = (fun (r : Int) => (.int .i64 r : Value)) (hNum n); rw [hNum, h4, h3, h2, h1] <;> rfl) (fin_ret (res_tmp rfl rfl))
def within (n : Int) (low : Int) (high : Int) : Int := max low (min high n)
set_option maxRecDepth 100000 in
theorem c_within (n : Int) (low : Int) (high : Int) : Gets Try.prog 64 #[.int .i64 n, .int .i64 low, .int .i64 high] ((fun (r : Int) => (.int .i64 r : Value)) (within n low high)) := by
  refine gets_fin Try.func64 rfl rfl rfl ?_
  refine ac_seq ?_
  refine ac_region_lit ?_
  refine ao 6 rfl rfl (st_assign (v := .int .i64 0) rfl rfl ?_)
  refine ar_nil ?_
  refine ac_seq ?_
  refine ac_region_lit ?_
  refine ao 7 rfl rfl (st_move (v := .int .i64 low) rfl rfl ?_)
  refine ao 8 rfl rfl (st_move (v := .int .i64 high) rfl rfl ?_)
  refine ao 9 rfl rfl (st_move (v := .int .i64 n) rfl rfl ?_)
  refine ao 10 rfl rfl (st_mn (x := high) (y := n) (c := (min high n)) rfl rfl rfl ?_)
  refine ao 11 rfl rfl (st_mx (x := low) (y := (min high n)) (c := (max low (min high n))) rfl rfl rfl ?_)
  refine ao 6 rfl rfl (st_assign (v := .int .i64 (max low (min high n))) rfl rfl ?_)
  refine ar_nil ?_
  refine ac_ret ?_
  exact fin_eq (v := .int .i64 (max low (min high n))) rfl (fin_ret (res_tmp rfl rfl))
def hWide (x : Int) (w : Int) : Iv := (⟨(within x (-1073741824) 1073741824), min 1073741824 (w64 ((within x (-1073741824) 1073741824) + w)), false⟩ : Iv)
set_option maxRecDepth 100000 in
theorem c_hWide (x : Int) (w : Int) : Gets Try.prog 20 #[.int .i64 x, .int .i64 w] (Iv.v (hWide x w)) := by
  refine gets_fin Try.func20 rfl rfl rfl ?_
  refine ac_seq ?_
  refine ac_region_lit ?_
  refine ao 4 rfl rfl (st_new zero26 rfl fun g0 => ?_)
  refine ar_nil ?_
  refine ac_seq ?_
  refine ac_region_lit ?_
  refine ao 5 rfl rfl (st_move (v := .int .i64 x) rfl rfl ?_)
  refine ao 6 rfl rfl (st_cf (vs := [.int .i64 x, .int .i64 (-1073741824), .int .i64 1073741824]) (r := .int .i64 (within x (-1073741824) 1073741824)) (c_within x (-1073741824) 1073741824) Try.func64 rfl (by decide) rfl rfl rfl ?_)
  refine ao 0 rfl rfl (st_assign (v := .int .i64 (within x (-1073741824) 1073741824)) rfl rfl ?_)
  refine ar_nil ?_
  refine ac_seq ?_
  refine ac_region_lit ?_
  refine ao 7 rfl rfl (st_move (v := .int .i64 (within x (-1073741824) 1073741824)) rfl rfl ?_)
  refine ao 8 rfl rfl (st_move (v := .int .i64 (within x (-1073741824) 1073741824)) rfl rfl ?_)
  refine ao 9 rfl rfl (st_move (v := .int .i64 w) rfl rfl ?_)
  refine ao 10 rfl rfl (st_bi (u := .int .i64 (within x (-1073741824) 1073741824)) (v := .int .i64 w) (r := .int .i64 (w64 ((within x (-1073741824) 1073741824) + w))) rfl rfl rfl (bi_add rfl) ?_)
  refine ao 11 rfl rfl (st_mn (x := 1073741824) (y := (w64 ((within x (-1073741824) 1073741824) + w))) (c := (min 1073741824 (w64 ((within x (-1073741824) 1073741824) + w)))) rfl rfl rfl ?_)
  refine ao 12 rfl rfl (st_bd (us := [(0, .int .i64 (within x (-1073741824) 1073741824)), (1, .int .i64 (min 1073741824 (w64 ((within x (-1073741824) 1073741824) + w))))]) (v := .agg #[.int .i64 (within x (-1073741824) 1073741824), .int .i64 (min 1073741824 (w64 ((within x (-1073741824) 1073741824) + w))), .bool false]) rfl rfl (bd26_0_1 _ _) ?_)
  refine ar_op (d := none) rfl rfl (st_sta (g := g0) (off := 0) (us := [.int .i64 (within x (-1073741824) 1073741824), .int .i64 (min 1073741824 (w64 ((within x (-1073741824) 1073741824) + w))), .bool false]) (cs := [.int .i64 (within x (-1073741824) 1073741824), .int .i64 (min 1073741824 (w64 ((within x (-1073741824) 1073741824) + w))), .bool false]) agg26 0 rfl rfl rfl rfl rfl rfl rfl rfl rfl ?_)
  refine ar_nil ?_
  refine ac_ret ?_
  exact fin_eq (v := .agg #[.int .i64 (within x (-1073741824) 1073741824), .int .i64 (min 1073741824 (w64 ((within x (-1073741824) 1073741824) + w))), .bool false]) rfl (fin_ret (res_c (vs := [.int .i64 (within x (-1073741824) 1073741824), .int .i64 (min 1073741824 (w64 ((within x (-1073741824) 1073741824) + w))), .bool false]) agg26 0 rfl rfl rfl rfl rfl rfl))
def hIv (n : Int) (w : Int) : Iv := (bif (hPick w 12) == 0 then (⟨(hNum n), (hNum (w64 (Int.tdiv w 12))), false⟩ : Iv) else (bif (hPick w 12) == 1 then (⟨(hNum n), (hNum n), (hPick (w64 (Int.tdiv w 12)) 5) == 4⟩ : Iv) else (bif (hPick w 12) == 2 then (⟨(hNum n), (hNum n), false⟩ : Iv) else (bif (hPick w 12) == 3 then (⟨(hNum n), (hNum n), false⟩ : Iv) else (hWide (hNum n) (hPick (w64 (Int.tdiv w 12)) 9000))))))
set_option maxRecDepth 100000 in
theorem c_hIv (n : Int) (w : Int) : Gets Try.prog 37 #[.int .i64 n, .int .i64 w] (Iv.v (hIv n w)) := by
  refine gets_fin Try.func37 rfl rfl rfl ?_
  refine ac_seq ?_
  refine ac_region_lit ?_
  refine ao 4 rfl rfl (st_new zero26 rfl fun g0 => ?_)
  refine ar_nil ?_
  refine ac_seq ?_
  refine ac_region_lit ?_
  refine ao 6 rfl rfl (st_move (v := .int .i64 n) rfl rfl ?_)
  refine ao 7 rfl rfl (st_cf (vs := [.int .i64 n]) (r := .int .i64 (hNum n)) (c_hNum n) Try.func79 rfl (by decide) rfl rfl rfl ?_)
  refine ao 5 rfl rfl (st_assign (v := .int .i64 (hNum n)) rfl rfl ?_)
  refine ar_nil ?_
  refine ac_seq ?_
  refine ac_seq ?_
  refine ac_region_lit ?_
  refine ao 8 rfl rfl (st_move (v := .int .i64 w) rfl rfl ?_)
  refine ao 9 rfl rfl (st_cf (vs := [.int .i64 w, .int .i64 12]) (r := .int .i64 (hPick w 12)) (c_hPick w 12 (by decide)) Try.func19 rfl (by decide) rfl rfl rfl ?_)
  refine ar_nil ?_
  refine ac_block ?_
  refine ac_seq ?_
  refine ac_region_lit ?_
  refine ao 11 rfl rfl (st_bi (u := .int .i64 (hPick w 12)) (v := .int .i64 0) (r := .bool ((hPick w 12) == 0)) rfl rfl rfl (bi_eql rfl) ?_)
  refine ao 10 rfl rfl (st_assign (v := .bool ((hPick w 12) == 0)) rfl rfl ?_)
  refine ar_nil ?_
  refine bool_split ((hPick w 12) == 0) (fun h1 => ?_) (fun h1 => ?_)
  · refine ac_then' (b := (hPick w 12) == 0) h1 rfl ?_
    refine ac_seq ?_
    refine ac_region_lit ?_
    refine ao 12 rfl rfl (st_move (v := .int .i64 (hNum n)) rfl rfl ?_)
    refine ao 13 rfl rfl (st_move (v := .int .i64 w) rfl rfl ?_)
    refine ao 14 rfl rfl (st_bi (u := .int .i64 w) (v := .int .i64 12) (r := .int .i64 (w64 (Int.tdiv w 12))) rfl rfl rfl (bi_quo (by decide) rfl) ?_)
    refine ao 15 rfl rfl (st_cf (vs := [.int .i64 (w64 (Int.tdiv w 12))]) (r := .int .i64 (hNum (w64 (Int.tdiv w 12)))) (c_hNum (w64 (Int.tdiv w 12))) Try.func79 rfl (by decide) rfl rfl rfl ?_)
    refine ao 16 rfl rfl (st_bd (us := [(0, .int .i64 (hNum n)), (1, .int .i64 (hNum (w64 (Int.tdiv w 12))))]) (v := .agg #[.int .i64 (hNum n), .int .i64 (hNum (w64 (Int.tdiv w 12))), .bool false]) rfl rfl (bd26_0_1 _ _) ?_)
    refine ar_op (d := none) rfl rfl (st_sta (g := g0) (off := 0) (us := [.int .i64 (hNum n), .int .i64 (hNum (w64 (Int.tdiv w 12))), .bool false]) (cs := [.int .i64 (hNum n), .int .i64 (hNum (w64 (Int.tdiv w 12))), .bool false]) agg26 0 rfl rfl rfl rfl rfl rfl rfl rfl rfl ?_)
    refine ar_nil ?_
    refine ac_ret ?_
    exact fin_eq (v := .agg #[.int .i64 (hNum n), .int .i64 (hNum (w64 (Int.tdiv w 12))), .bool false]) (by show _ = Iv.v (hIv n w); rw [hIv, h1] <;> rfl) (fin_ret (res_c (vs := [.int .i64 (hNum n), .int .i64 (hNum (w64 (Int.tdiv w 12))), .bool false]) agg26 0 rfl rfl rfl rfl rfl rfl))
  · refine ac_else' (b := (hPick w 12) == 0) h1 rfl ?_
    refine ac_seq ?_
    refine ac_region_lit ?_
    refine ao 18 rfl rfl (st_bi (u := .int .i64 (hPick w 12)) (v := .int .i64 1) (r := .bool ((hPick w 12) == 1)) rfl rfl rfl (bi_eql rfl) ?_)
    refine ao 17 rfl rfl (st_assign (v := .bool ((hPick w 12) == 1)) rfl rfl ?_)
    refine ar_nil ?_
    refine bool_split ((hPick w 12) == 1) (fun h2 => ?_) (fun h2 => ?_)
    · refine ac_then' (b := (hPick w 12) == 1) h2 rfl ?_
      refine ac_seq ?_
      refine ac_region_lit ?_
      refine ao 19 rfl rfl (st_move (v := .int .i64 (hNum n)) rfl rfl ?_)
      refine ao 20 rfl rfl (st_move (v := .int .i64 (hNum n)) rfl rfl ?_)
      refine ao 21 rfl rfl (st_move (v := .int .i64 w) rfl rfl ?_)
      refine ao 22 rfl rfl (st_bi (u := .int .i64 w) (v := .int .i64 12) (r := .int .i64 (w64 (Int.tdiv w 12))) rfl rfl rfl (bi_quo (by decide) rfl) ?_)
      refine ao 23 rfl rfl (st_cf (vs := [.int .i64 (w64 (Int.tdiv w 12)), .int .i64 5]) (r := .int .i64 (hPick (w64 (Int.tdiv w 12)) 5)) (c_hPick (w64 (Int.tdiv w 12)) 5 (by decide)) Try.func19 rfl (by decide) rfl rfl rfl ?_)
      refine ao 24 rfl rfl (st_bi (u := .int .i64 (hPick (w64 (Int.tdiv w 12)) 5)) (v := .int .i64 4) (r := .bool ((hPick (w64 (Int.tdiv w 12)) 5) == 4)) rfl rfl rfl (bi_eql rfl) ?_)
      refine ao 25 rfl rfl (st_bd (us := [(0, .int .i64 (hNum n)), (1, .int .i64 (hNum n)), (2, .bool ((hPick (w64 (Int.tdiv w 12)) 5) == 4))]) (v := .agg #[.int .i64 (hNum n), .int .i64 (hNum n), .bool ((hPick (w64 (Int.tdiv w 12)) 5) == 4)]) rfl rfl (bd26_0_1_2 _ _ _) ?_)
      refine ar_op (d := none) rfl rfl (st_sta (g := g0) (off := 0) (us := [.int .i64 (hNum n), .int .i64 (hNum n), .bool ((hPick (w64 (Int.tdiv w 12)) 5) == 4)]) (cs := [.int .i64 (hNum n), .int .i64 (hNum n), .bool ((hPick (w64 (Int.tdiv w 12)) 5) == 4)]) agg26 0 rfl rfl rfl rfl rfl rfl rfl rfl rfl ?_)
      refine ar_nil ?_
      refine ac_ret ?_
      exact fin_eq (v := .agg #[.int .i64 (hNum n), .int .i64 (hNum n), .bool ((hPick (w64 (Int.tdiv w 12)) 5) == 4)]) (by show _ = Iv.v (hIv n w); rw [hIv, h2, h1] <;> rfl) (fin_ret (res_c (vs := [.int .i64 (hNum n), .int .i64 (hNum n), .bool ((hPick (w64 (Int.tdiv w 12)) 5) == 4)]) agg26 0 rfl rfl rfl rfl rfl rfl))
    · refine ac_else' (b := (hPick w 12) == 1) h2 rfl ?_
      refine ac_seq ?_
      refine ac_seq ?_
      refine ac_region_lit ?_
      refine ao 27 rfl rfl (st_bi (u := .int .i64 (hPick w 12)) (v := .int .i64 2) (r := .bool ((hPick w 12) == 2)) rfl rfl rfl (bi_eql rfl) ?_)
      refine ao 26 rfl rfl (st_assign (v := .bool ((hPick w 12) == 2)) rfl rfl ?_)
      refine ar_nil ?_
      refine bool_split ((hPick w 12) == 2) (fun h3 => ?_) (fun h3 => ?_)
      · refine ac_then' (b := (hPick w 12) == 2) h3 rfl ?_
        refine ac_skip ?_
        refine ac_then' (b := (hPick w 12) == 2) h3 rfl ?_
        refine ac_seq ?_
        refine ac_region_lit ?_
        refine ao 29 rfl rfl (st_move (v := .int .i64 (hNum n)) rfl rfl ?_)
        refine ao 30 rfl rfl (st_move (v := .int .i64 (hNum n)) rfl rfl ?_)
        refine ao 31 rfl rfl (st_bd (us := [(0, .int .i64 (hNum n)), (1, .int .i64 (hNum n))]) (v := .agg #[.int .i64 (hNum n), .int .i64 (hNum n), .bool false]) rfl rfl (bd26_0_1 _ _) ?_)
        refine ar_op (d := none) rfl rfl (st_sta (g := g0) (off := 0) (us := [.int .i64 (hNum n), .int .i64 (hNum n), .bool false]) (cs := [.int .i64 (hNum n), .int .i64 (hNum n), .bool false]) agg26 0 rfl rfl rfl rfl rfl rfl rfl rfl rfl ?_)
        refine ar_nil ?_
        refine ac_ret ?_
        exact fin_eq (v := .agg #[.int .i64 (hNum n), .int .i64 (hNum n), .bool false]) (by show _ = Iv.v (hIv n w); rw [hIv, h3, h2, h1] <;> rfl) (fin_ret (res_c (vs := [.int .i64 (hNum n), .int .i64 (hNum n), .bool false]) agg26 0 rfl rfl rfl rfl rfl rfl))
      · refine ac_else' (b := (hPick w 12) == 2) h3 rfl ?_
        refine ac_region_lit ?_
        refine ao 28 rfl rfl (st_bi (u := .int .i64 (hPick w 12)) (v := .int .i64 3) (r := .bool ((hPick w 12) == 3)) rfl rfl rfl (bi_eql rfl) ?_)
        refine ao 26 rfl rfl (st_assign (v := .bool ((hPick w 12) == 3)) rfl rfl ?_)
        refine ar_nil ?_
        refine bool_split ((hPick w 12) == 3) (fun h4 => ?_) (fun h4 => ?_)
        · refine ac_then' (b := (hPick w 12) == 3) h4 rfl ?_
          refine ac_seq ?_
          refine ac_region_lit ?_
          refine ao 29 rfl rfl (st_move (v := .int .i64 (hNum n)) rfl rfl ?_)
          refine ao 30 rfl rfl (st_move (v := .int .i64 (hNum n)) rfl rfl ?_)
          refine ao 31 rfl rfl (st_bd (us := [(0, .int .i64 (hNum n)), (1, .int .i64 (hNum n))]) (v := .agg #[.int .i64 (hNum n), .int .i64 (hNum n), .bool false]) rfl rfl (bd26_0_1 _ _) ?_)
          refine ar_op (d := none) rfl rfl (st_sta (g := g0) (off := 0) (us := [.int .i64 (hNum n), .int .i64 (hNum n), .bool false]) (cs := [.int .i64 (hNum n), .int .i64 (hNum n), .bool false]) agg26 0 rfl rfl rfl rfl rfl rfl rfl rfl rfl ?_)
          refine ar_nil ?_
          refine ac_ret ?_
          exact fin_eq (v := .agg #[.int .i64 (hNum n), .int .i64 (hNum n), .bool false]) (by show _ = Iv.v (hIv n w); rw [hIv, h4, h3, h2, h1] <;> rfl) (fin_ret (res_c (vs := [.int .i64 (hNum n), .int .i64 (hNum n), .bool false]) agg26 0 rfl rfl rfl rfl rfl rfl))
        · refine ac_else' (b := (hPick w 12) == 3) h4 rfl ?_
          refine ac_skip ?_
          refine ac_seq ?_
          refine ac_region_lit ?_
          refine ao 32 rfl rfl (st_move (v := .int .i64 (hNum n)) rfl rfl ?_)
          refine ao 33 rfl rfl (st_move (v := .int .i64 w) rfl rfl ?_)
          refine ao 34 rfl rfl (st_bi (u := .int .i64 w) (v := .int .i64 12) (r := .int .i64 (w64 (Int.tdiv w 12))) rfl rfl rfl (bi_quo (by decide) rfl) ?_)
          refine ao 35 rfl rfl (st_cf (vs := [.int .i64 (w64 (Int.tdiv w 12)), .int .i64 9000]) (r := .int .i64 (hPick (w64 (Int.tdiv w 12)) 9000)) (c_hPick (w64 (Int.tdiv w 12)) 9000 (by decide)) Try.func19 rfl (by decide) rfl rfl rfl ?_)
          refine ao 36 rfl rfl (st_cf (vs := [.int .i64 (hNum n), .int .i64 (hPick (w64 (Int.tdiv w 12)) 9000)]) (r := .agg #[.int .i64 ((hWide (hNum n) (hPick (w64 (Int.tdiv w 12)) 9000)).lo), .int .i64 ((hWide (hNum n) (hPick (w64 (Int.tdiv w 12)) 9000)).hi), .bool ((hWide (hNum n) (hPick (w64 (Int.tdiv w 12)) 9000)).no)]) (c_hWide (hNum n) (hPick (w64 (Int.tdiv w 12)) 9000)) Try.func20 rfl (by decide) rfl rfl rfl ?_)
          refine ar_op (d := none) rfl rfl (st_sta (g := g0) (off := 0) (us := [.int .i64 ((hWide (hNum n) (hPick (w64 (Int.tdiv w 12)) 9000)).lo), .int .i64 ((hWide (hNum n) (hPick (w64 (Int.tdiv w 12)) 9000)).hi), .bool ((hWide (hNum n) (hPick (w64 (Int.tdiv w 12)) 9000)).no)]) (cs := [.int .i64 ((hWide (hNum n) (hPick (w64 (Int.tdiv w 12)) 9000)).lo), .int .i64 ((hWide (hNum n) (hPick (w64 (Int.tdiv w 12)) 9000)).hi), .bool ((hWide (hNum n) (hPick (w64 (Int.tdiv w 12)) 9000)).no)]) agg26 0 rfl rfl rfl rfl rfl rfl rfl rfl rfl ?_)
          refine ar_nil ?_
          refine ac_ret ?_
          exact fin_eq (v := .agg #[.int .i64 ((hWide (hNum n) (hPick (w64 (Int.tdiv w 12)) 9000)).lo), .int .i64 ((hWide (hNum n) (hPick (w64 (Int.tdiv w 12)) 9000)).hi), .bool ((hWide (hNum n) (hPick (w64 (Int.tdiv w 12)) 9000)).no)]) (by show _ = Iv.v (hIv n w); rw [hIv, h4, h3, h2, h1] <;> rfl) (fin_ret (res_c (vs := [.int .i64 ((hWide (hNum n) (hPick (w64 (Int.tdiv w 12)) 9000)).lo), .int .i64 ((hWide (hNum n) (hPick (w64 (Int.tdiv w 12)) 9000)).hi), .bool ((hWide (hNum n) (hPick (w64 (Int.tdiv w 12)) 9000)).no)]) agg26 0 rfl rfl rfl rfl rfl rfl))
def hTame (n : Int) (w : Int) : Iv := (hWide (w64 ((hPick n 2621440) - 1310720)) (hPick w 3000))
end Go.Proofs.Ythngkopcadlciaa
namespace Go.Proofs.Ythngkopcadlciaa
theorem hPick_spec (n : Int) {m : Int} (hm : 0 < m) (hm' : m ≤ 9223372036854775807) : hPick n m = n % m := by
  have h1 := Int.tmod_lt_of_pos n hm
  have h2 := Int.lt_tmod_of_pos n hm
  have he := Int.mul_tdiv_add_tmod n m
  unfold hPick hPick_e0
  by_cases h : n.tmod m < 0
  · rw [decide_eq_true h, w64_of (by omega) (by omega)]
    simp only [cond_true]
    refine (((Int.ediv_emod_unique (q := n.tdiv m - 1) hm).2 ⟨?_, by omega, by omega⟩).2).symm
    rw [Int.mul_sub, Int.mul_one]; omega
  · rw [decide_eq_false h]
    simp only [cond_false]
    exact (((Int.ediv_emod_unique (q := n.tdiv m) hm).2 ⟨by omega, by omega, by omega⟩).2).symm
theorem hPick_lt (n : Int) {m : Int} (hm : 0 < m) (hm' : m ≤ 9223372036854775807) : 0 ≤ hPick n m ∧ hPick n m < m := by
  rw [hPick_spec n hm hm']
  exact ⟨Int.emod_nonneg n (by omega), Int.emod_lt_of_pos n hm⟩
theorem rRight_iff (a : Iv) : rRight a = true ↔ a.no = false ∧ -1073741824 ≤ a.lo ∧ a.lo ≤ a.hi ∧ a.hi ≤ 1073741824 := by
  obtain ⟨lo, hi, no⟩ := a
  unfold rRight
  simp only [rIn_eq]
  cases no <;> simp [numIn_iff, Bool.cond_eq_ite, Bool.and_eq_true] <;> omega
theorem in_nz1 (a : Iv) (h : rRight a = true) : w64 (w64 (a.hi - a.lo) + 1) ≠ 0 := by
  have := (rRight_iff a).1 h
  rw [w64_of (n := a.hi - a.lo) (by omega) (by omega), w64_of (by omega) (by omega)]
  omega
theorem in_nz2 (a : Iv) (x : Int) (h : rRight a = true) : w64 (w64 (a.hi - w64 (a.lo + hPick x (w64 (w64 (a.hi - a.lo) + 1)))) + 1) ≠ 0 := by
  have := (rRight_iff a).1 h
  have h1 : w64 (w64 (a.hi - a.lo) + 1) = a.hi - a.lo + 1 := by
    rw [w64_of (n := a.hi - a.lo) (by omega) (by omega), w64_of (by omega) (by omega)]
  rw [h1]
  have h2 := hPick_lt x (m := a.hi - a.lo + 1) (by omega) (by omega)
  rw [w64_of (n := a.lo + hPick x (a.hi - a.lo + 1)) (by omega) (by omega)]
  rw [w64_of (n := a.hi - _) (by omega) (by omega), w64_of (by omega) (by omega)]
  omega
theorem wide_R (x : Int) {w : Int} (h : 0 ≤ w ∧ w ≤ 1073741824) : rRight (hWide x w) = true := by
  rw [rRight_iff]
  unfold hWide within
  simp only
  have e : w64 (max (-1073741824) (min 1073741824 x) + w) = max (-1073741824) (min 1073741824 x) + w := w64_of (by omega) (by omega)
  rw [e]
  exact ⟨trivial, by omega, by omega, by omega⟩
theorem tame_R (n w : Int) : rRight (hTame n w) = true := by
  unfold hTame
  have := hPick_lt w (m := 3000) (by omega) (by omega)
  exact wide_R _ (by omega)
theorem tame_nz (n w : Int) : w64 (w64 ((hTame n w).hi - (hTame n w).lo) + 1) ≠ 0 := in_nz1 _ (tame_R n w)
theorem tame_small (n w : Int) : -1310720 ≤ (hTame n w).lo ∧ (hTame n w).lo ≤ (hTame n w).hi ∧ (hTame n w).hi ≤ 1313719 := by
  have h1 := hPick_lt w (m := 3000) (by omega) (by omega)
  have h2 := hPick_lt n (m := 2621440) (by omega) (by omega)
  unfold hTame hWide within
  rw [w64_of (n := hPick n 2621440 - 1310720) (by omega) (by omega)]
  simp only
  rw [w64_of (by omega) (by omega)]
  omega
theorem turn_mod (k : Int) : Int.tmod (w64 (Int.tmod k 4 + 4)) 4 = k % 4 := by
  have h1 := Int.tmod_lt_of_pos k (b := 4) (by omega)
  have h2 := Int.lt_tmod_of_pos k (b := 4) (by omega)
  have he := Int.mul_tdiv_add_tmod k 4
  rw [w64_of (by omega) (by omega), Int.tmod_eq_emod_of_nonneg (by omega)]
  omega
theorem turn_lt (k : Int) : decide (4 < Int.tmod (w64 (Int.tmod k 4 + 4)) 4) = false := by
  rw [turn_mod]
  exact decide_eq_false (by omega)
theorem rturn_mod (k : Int) : (bif decide (Int.tmod k 4 < 0) then w64 (Int.tmod k 4 + 4) else Int.tmod k 4) = k % 4 := by
  have h1 := Int.tmod_lt_of_pos k (b := 4) (by omega)
  have h2 := Int.lt_tmod_of_pos k (b := 4) (by omega)
  have he := Int.mul_tdiv_add_tmod k 4
  by_cases h : Int.tmod k 4 < 0
  · rw [decide_eq_true h, w64_of (by omega) (by omega)]
    simp only [cond_true]
    omega
  · rw [decide_eq_false h]
    simp only [cond_false]
    omega
theorem rturn_lt (k : Int) : decide (w64 (w64 (w64 ((bif decide (Int.tmod k 4 < 0) then w64 (Int.tmod k 4 + 4) else Int.tmod k 4) - 1) - 1) - 1) > 0) = false := by
  rw [rturn_mod]
  refine decide_eq_false ?_
  rw [w64_of (n := k % 4 - 1) (by omega) (by omega), w64_of (n := k % 4 - 1 - 1) (by omega) (by omega), w64_of (by omega) (by omega)]
  omega
theorem units_nz (m : Int) : w64 (w64 (2 + hPick m 5) - 1) ≠ 0 := by
  have := hPick_lt m (m := 5) (by omega) (by omega)
  rw [w64_of (n := 2 + hPick m 5) (by omega) (by omega), w64_of (by omega) (by omega)]
  omega
end Go.Proofs.Ythngkopcadlciaa
namespace Go.Proofs.Ythngkopcadlciaa
open Go.RowKit
attribute [local irreducible] AC AR DWalk
def ivRight (a : Iv) : Bool := (bif a.no then false else (bif numIn a.lo then (bif numIn a.hi then decide (a.lo ≤ a.hi) else false) else false))
set_option maxRecDepth 100000 in
theorem c_ivRight (a : Iv) : Gets Try.prog 25 #[.agg #[.int .i64 a.lo, .int .i64 a.hi, .bool a.no]] ((fun (r : Bool) => (.bool r : Value)) (ivRight a)) := by
  refine gets_fin Try.func25 rfl rfl rfl ?_
  refine ac_seq ?_
  refine ac_region_lit ?_
  refine ao 1 rfl rfl (st_box (v := .agg #[.int .i64 a.lo, .int .i64 a.hi, .bool a.no]) (cs := [.int .i64 a.lo, .int .i64 a.hi, .bool a.no]) rfl rfl rfl fun g0 => ?_)
  refine ao 2 rfl rfl (st_assign (v := .bool false) rfl rfl ?_)
  refine ar_nil ?_
  refine ac_seq ?_
  refine ac_region_lit ?_
  refine ao 3 rfl rfl (st_fa (g := g0) (off := 0) rfl fa26_2 rfl ?_)
  refine ao 4 rfl rfl (st_ldc (g := g0) (off := 2) (v := .bool a.no) cell4 0 rfl rfl rfl rfl rfl ?_)
  refine ao 5 rfl rfl (st_un (u := .bool a.no) (v := .bool (!a.no)) rfl rfl (un_not rfl) ?_)
  refine ao 6 rfl rfl (st_move (v := .bool (!a.no)) rfl rfl ?_)
  refine bool_split (a.no) (fun h1 => ?_) (fun h1 => ?_)
  · refine ar_sk (d := (some 7)) (by show ((!a.no) == true) = false; rw [h1]; rfl) rfl ?_
    refine ar_sk (d := (some 8)) (by show ((!a.no) == true) = false; rw [h1]; rfl) rfl ?_
    refine ar_sk (d := (some 9)) (by show ((!a.no) == true) = false; rw [h1]; rfl) rfl ?_
    refine ao 10 rfl rfl (st_pkf' (b := !a.no) (v := .bool false) (by rw [h1]; rfl) rfl rfl rfl ?_)
    refine ao 11 rfl rfl (st_move (v := .bool false) rfl rfl ?_)
    refine ar_sk (d := (some 12)) rfl rfl ?_
    refine ar_sk (d := (some 13)) rfl rfl ?_
    refine ar_sk (d := (some 14)) rfl rfl ?_
    refine ao 15 rfl rfl (st_pkf (v := .bool false) rfl rfl rfl ?_)
    refine ao 16 rfl rfl (st_move (v := .bool false) rfl rfl ?_)
    refine ar_sk (d := (some 17)) rfl rfl ?_
    refine ar_sk (d := (some 18)) rfl rfl ?_
    refine ar_sk (d := (some 19)) rfl rfl ?_
    refine ar_sk (d := (some 20)) rfl rfl ?_
    refine ar_sk (d := (some 21)) rfl rfl ?_
    refine ao 22 rfl rfl (st_pkf (v := .bool false) rfl rfl rfl ?_)
    refine ao 2 rfl rfl (st_assign (v := .bool false) rfl rfl ?_)
    refine ar_nil ?_
    refine ac_ret ?_
    exact fin_eq (v := .bool false) (by show _ = (fun (r : Bool) => (.bool r : Value)) (ivRight a); rw [ivRight, h1] <;> rfl) (fin_ret (res_tmp rfl rfl))
  · refine ar_gd (d := (some 7)) (by show ((!a.no) == true) = true; rw [h1]; rfl) rfl (st_fa (g := g0) (off := 0) rfl fa26_0 rfl ?_)
    refine ar_gd (d := (some 8)) (by show ((!a.no) == true) = true; rw [h1]; rfl) rfl (st_ldc (g := g0) (off := 0) (v := .int .i64 a.lo) cell3 0 rfl rfl rfl rfl rfl ?_)
    refine ar_gd (d := (some 9)) (by show ((!a.no) == true) = true; rw [h1]; rfl) rfl (st_cf (vs := [.int .i64 a.lo]) (r := .bool (numIn a.lo)) (c_numIn a.lo) Try.func65 rfl (by decide) rfl rfl rfl ?_)
    refine ao 10 rfl rfl (st_pkt' (b := !a.no) (v := .bool (numIn a.lo)) (by rw [h1]; rfl) rfl rfl rfl ?_)
    refine ao 11 rfl rfl (st_move (v := .bool (numIn a.lo)) rfl rfl ?_)
    refine bool_split (numIn a.lo) (fun h2 => ?_) (fun h2 => ?_)
    · refine ar_gd (d := (some 12)) (by show ((numIn a.lo) == true) = true; rw [h2]; rfl) rfl (st_fa (g := g0) (off := 0) rfl fa26_1 rfl ?_)
      refine ar_gd (d := (some 13)) (by show ((numIn a.lo) == true) = true; rw [h2]; rfl) rfl (st_ldc (g := g0) (off := 1) (v := .int .i64 a.hi) cell3 0 rfl rfl rfl rfl rfl ?_)
      refine ar_gd (d := (some 14)) (by show ((numIn a.lo) == true) = true; rw [h2]; rfl) rfl (st_cf (vs := [.int .i64 a.hi]) (r := .bool (numIn a.hi)) (c_numIn a.hi) Try.func65 rfl (by decide) rfl rfl rfl ?_)
      refine ao 15 rfl rfl (st_pkt' (b := numIn a.lo) (v := .bool (numIn a.hi)) h2 rfl rfl rfl ?_)
      refine ao 16 rfl rfl (st_move (v := .bool (numIn a.hi)) rfl rfl ?_)
      refine bool_split (numIn a.hi) (fun h3 => ?_) (fun h3 => ?_)
      · refine ar_gd (d := (some 17)) (by show ((numIn a.hi) == true) = true; rw [h3]; rfl) rfl (st_fa (g := g0) (off := 0) rfl fa26_0 rfl ?_)
        refine ar_gd (d := (some 18)) (by show ((numIn a.hi) == true) = true; rw [h3]; rfl) rfl (st_ldc (g := g0) (off := 0) (v := .int .i64 a.lo) cell3 0 rfl rfl rfl rfl rfl ?_)
        refine ar_gd (d := (some 19)) (by show ((numIn a.hi) == true) = true; rw [h3]; rfl) rfl (st_fa (g := g0) (off := 0) rfl fa26_1 rfl ?_)
        refine ar_gd (d := (some 20)) (by show ((numIn a.hi) == true) = true; rw [h3]; rfl) rfl (st_ldc (g := g0) (off := 1) (v := .int .i64 a.hi) cell3 0 rfl rfl rfl rfl rfl ?_)
        refine ar_gd (d := (some 21)) (by show ((numIn a.hi) == true) = true; rw [h3]; rfl) rfl (st_bi (u := .int .i64 a.lo) (v := .int .i64 a.hi) (r := .bool (decide (a.lo ≤ a.hi))) rfl rfl rfl (bi_leq rfl) ?_)
        refine ao 22 rfl rfl (st_pkt' (b := numIn a.hi) (v := .bool (decide (a.lo ≤ a.hi))) h3 rfl rfl rfl ?_)
        refine ao 2 rfl rfl (st_assign (v := .bool (decide (a.lo ≤ a.hi))) rfl rfl ?_)
        refine ar_nil ?_
        refine ac_ret ?_
        exact fin_eq (v := .bool (decide (a.lo ≤ a.hi))) (by show _ = (fun (r : Bool) => (.bool r : Value)) (ivRight a); rw [ivRight, h3, h2, h1] <;> rfl) (fin_ret (res_tmp rfl rfl))
      · refine ar_sk (d := (some 17)) (by show ((numIn a.hi) == true) = false; rw [h3]; rfl) rfl ?_
        refine ar_sk (d := (some 18)) (by show ((numIn a.hi) == true) = false; rw [h3]; rfl) rfl ?_
        refine ar_sk (d := (some 19)) (by show ((numIn a.hi) == true) = false; rw [h3]; rfl) rfl ?_
        refine ar_sk (d := (some 20)) (by show ((numIn a.hi) == true) = false; rw [h3]; rfl) rfl ?_
        refine ar_sk (d := (some 21)) (by show ((numIn a.hi) == true) = false; rw [h3]; rfl) rfl ?_
        refine ao 22 rfl rfl (st_pkf' (b := numIn a.hi) (v := .bool false) h3 rfl rfl rfl ?_)
        refine ao 2 rfl rfl (st_assign (v := .bool false) rfl rfl ?_)
        refine ar_nil ?_
        refine ac_ret ?_
        exact fin_eq (v := .bool false) (by show _ = (fun (r : Bool) => (.bool r : Value)) (ivRight a); rw [ivRight, h3, h2, h1] <;> rfl) (fin_ret (res_tmp rfl rfl))
    · refine ar_sk (d := (some 12)) (by show ((numIn a.lo) == true) = false; rw [h2]; rfl) rfl ?_
      refine ar_sk (d := (some 13)) (by show ((numIn a.lo) == true) = false; rw [h2]; rfl) rfl ?_
      refine ar_sk (d := (some 14)) (by show ((numIn a.lo) == true) = false; rw [h2]; rfl) rfl ?_
      refine ao 15 rfl rfl (st_pkf' (b := numIn a.lo) (v := .bool false) h2 rfl rfl rfl ?_)
      refine ao 16 rfl rfl (st_move (v := .bool false) rfl rfl ?_)
      refine ar_sk (d := (some 17)) rfl rfl ?_
      refine ar_sk (d := (some 18)) rfl rfl ?_
      refine ar_sk (d := (some 19)) rfl rfl ?_
      refine ar_sk (d := (some 20)) rfl rfl ?_
      refine ar_sk (d := (some 21)) rfl rfl ?_
      refine ao 22 rfl rfl (st_pkf (v := .bool false) rfl rfl rfl ?_)
      refine ao 2 rfl rfl (st_assign (v := .bool false) rfl rfl ?_)
      refine ar_nil ?_
      refine ac_ret ?_
      exact fin_eq (v := .bool false) (by show _ = (fun (r : Bool) => (.bool r : Value)) (ivRight a); rw [ivRight, h2, h1] <;> rfl) (fin_ret (res_tmp rfl rfl))
def ivNone  : Iv := (⟨0, 0, true⟩ : Iv)
set_option maxRecDepth 100000 in
theorem c_ivNone  : Gets Try.prog 28 #[] (Iv.v ivNone) := by
  refine gets_fin Try.func28 rfl rfl rfl ?_
  refine ac_seq ?_
  refine ac_region_lit ?_
  refine ao 0 rfl rfl (st_new zero26 rfl fun g0 => ?_)
  refine ar_nil ?_
  refine ac_seq ?_
  refine ac_region_lit ?_
  refine ao 1 rfl rfl (st_bd (us := [(2, .bool true)]) (v := .agg #[.int .i64 0, .int .i64 0, .bool true]) rfl rfl (bd26_2 _) ?_)
  refine ar_op (d := none) rfl rfl (st_sta (g := g0) (off := 0) (us := [.int .i64 0, .int .i64 0, .bool true]) (cs := [.int .i64 0, .int .i64 0, .bool true]) agg26 0 rfl rfl rfl rfl rfl rfl rfl rfl rfl ?_)
  refine ar_nil ?_
  refine ac_ret ?_
  exact fin_eq (v := .agg #[.int .i64 0, .int .i64 0, .bool true]) rfl (fin_ret (res_c (vs := [.int .i64 0, .int .i64 0, .bool true]) agg26 0 rfl rfl rfl rfl rfl rfl))
def ivOf (l : Int) (h : Int) : Iv := (bif ivRight (⟨l, h, false⟩ : Iv) then (⟨l, h, false⟩ : Iv) else ivNone)
set_option maxRecDepth 100000 in
theorem c_ivOf (l : Int) (h : Int) : Gets Try.prog 70 #[.int .i64 l, .int .i64 h] (Iv.v (ivOf l h)) := by
  refine gets_fin Try.func70 rfl rfl rfl ?_
  refine ac_seq ?_
  refine ac_region_lit ?_
  refine ao 4 rfl rfl (st_new zero26 rfl fun g0 => ?_)
  refine ar_nil ?_
  refine ac_seq ?_
  refine ac_region_lit ?_
  refine ao 6 rfl rfl (st_move (v := .int .i64 l) rfl rfl ?_)
  refine ao 7 rfl rfl (st_move (v := .int .i64 h) rfl rfl ?_)
  refine ao 8 rfl rfl (st_bd (us := [(0, .int .i64 l), (1, .int .i64 h)]) (v := .agg #[.int .i64 l, .int .i64 h, .bool false]) rfl rfl (bd26_0_1 _ _) ?_)
  refine ao 5 rfl rfl (st_new zero26 rfl fun g1 => ?_)
  refine ar_op (d := none) rfl rfl (st_sta (g := g1) (off := 0) (us := [.int .i64 l, .int .i64 h, .bool false]) (cs := [.int .i64 l, .int .i64 h, .bool false]) agg26 0 rfl rfl rfl rfl rfl rfl rfl rfl rfl ?_)
  refine ar_nil ?_
  refine ac_seq ?_
  refine ac_seq ?_
  refine ac_region_lit ?_
  refine ao 9 rfl rfl (st_lda (g := g1) (off := 0) (vs := [.int .i64 l, .int .i64 h, .bool false]) agg26 0 rfl rfl rfl rfl rfl rfl ?_)
  refine ao 10 rfl rfl (st_cf (vs := [.agg #[.int .i64 l, .int .i64 h, .bool false]]) (r := .bool (ivRight (⟨l, h, false⟩ : Iv))) (c_ivRight (⟨l, h, false⟩ : Iv)) Try.func25 rfl (by decide) rfl rfl rfl ?_)
  refine ao 11 rfl rfl (st_un (u := .bool (ivRight (⟨l, h, false⟩ : Iv))) (v := .bool (!(ivRight (⟨l, h, false⟩ : Iv)))) rfl rfl (un_not rfl) ?_)
  refine ar_nil ?_
  refine bool_split (ivRight (⟨l, h, false⟩ : Iv)) (fun h1 => ?_) (fun h1 => ?_)
  · refine ac_else' (b := !(ivRight (⟨l, h, false⟩ : Iv))) (by rw [h1]; rfl) rfl ?_
    refine ac_skip ?_
    refine ac_seq ?_
    refine ac_region_lit ?_
    refine ao 13 rfl rfl (st_lda (g := g1) (off := 0) (vs := [.int .i64 l, .int .i64 h, .bool false]) agg26 0 rfl rfl rfl rfl rfl rfl ?_)
    refine ar_op (d := none) rfl rfl (st_sta (g := g0) (off := 0) (us := [.int .i64 l, .int .i64 h, .bool false]) (cs := [.int .i64 l, .int .i64 h, .bool false]) agg26 1 rfl rfl rfl rfl rfl rfl rfl rfl rfl ?_)
    refine ar_nil ?_
    refine ac_ret ?_
    exact fin_eq (v := .agg #[.int .i64 l, .int .i64 h, .bool false]) (by show _ = Iv.v (ivOf l h); rw [ivOf, h1] <;> rfl) (fin_ret (res_c (vs := [.int .i64 l, .int .i64 h, .bool false]) agg26 1 rfl rfl rfl rfl rfl rfl))
  · refine ac_then' (b := !(ivRight (⟨l, h, false⟩ : Iv))) (by rw [h1]; rfl) rfl ?_
    refine ac_seq ?_
    refine ac_region_lit ?_
    refine ao 12 rfl rfl (st_cf (vs := []) (r := .agg #[.int .i64 ivNone.lo, .int .i64 ivNone.hi, .bool ivNone.no]) c_ivNone Try.func28 rfl (by decide) rfl rfl rfl ?_)
    refine ar_op (d := none) rfl rfl (st_sta (g := g0) (off := 0) (us := [.int .i64 ivNone.lo, .int .i64 ivNone.hi, .bool ivNone.no]) (cs := [.int .i64 ivNone.lo, .int .i64 ivNone.hi, .bool ivNone.no]) agg26 1 rfl rfl rfl rfl rfl rfl rfl rfl rfl ?_)
    refine ar_nil ?_
    refine ac_ret ?_
    exact fin_eq (v := .agg #[.int .i64 ivNone.lo, .int .i64 ivNone.hi, .bool ivNone.no]) (by show _ = Iv.v (ivOf l h); rw [ivOf, h1] <;> rfl) (fin_ret (res_c (vs := [.int .i64 ivNone.lo, .int .i64 ivNone.hi, .bool ivNone.no]) agg26 1 rfl rfl rfl rfl rfl rfl))
def ivPoint (n : Int) : Iv := (ivOf n n)
set_option maxRecDepth 100000 in
theorem c_ivPoint (n : Int) : Gets Try.prog 29 #[.int .i64 n] (Iv.v (ivPoint n)) := by
  refine gets_fin Try.func29 rfl rfl rfl ?_
  refine ac_seq ?_
  refine ac_region_lit ?_
  refine ao 2 rfl rfl (st_new zero26 rfl fun g0 => ?_)
  refine ar_nil ?_
  refine ac_seq ?_
  refine ac_region_lit ?_
  refine ao 3 rfl rfl (st_move (v := .int .i64 n) rfl rfl ?_)
  refine ao 4 rfl rfl (st_move (v := .int .i64 n) rfl rfl ?_)
  refine ao 5 rfl rfl (st_cf (vs := [.int .i64 n, .int .i64 n]) (r := .agg #[.int .i64 ((ivOf n n).lo), .int .i64 ((ivOf n n).hi), .bool ((ivOf n n).no)]) (c_ivOf n n) Try.func70 rfl (by decide) rfl rfl rfl ?_)
  refine ar_op (d := none) rfl rfl (st_sta (g := g0) (off := 0) (us := [.int .i64 ((ivOf n n).lo), .int .i64 ((ivOf n n).hi), .bool ((ivOf n n).no)]) (cs := [.int .i64 ((ivOf n n).lo), .int .i64 ((ivOf n n).hi), .bool ((ivOf n n).no)]) agg26 0 rfl rfl rfl rfl rfl rfl rfl rfl rfl ?_)
  refine ar_nil ?_
  refine ac_ret ?_
  exact fin_eq (v := .agg #[.int .i64 ((ivOf n n).lo), .int .i64 ((ivOf n n).hi), .bool ((ivOf n n).no)]) rfl (fin_ret (res_c (vs := [.int .i64 ((ivOf n n).lo), .int .i64 ((ivOf n n).hi), .bool ((ivOf n n).no)]) agg26 0 rfl rfl rfl rfl rfl rfl))
def ivWhole (n : Int) : Iv := (bif numIn n then (ivPoint (w64 (n * 65536))) else ivNone)
set_option maxRecDepth 100000 in
theorem c_ivWhole (n : Int) : Gets Try.prog 21 #[.int .i64 n] (Iv.v (ivWhole n)) := by
  refine gets_fin Try.func21 rfl rfl rfl ?_
  refine ac_seq ?_
  refine ac_region_lit ?_
  refine ao 2 rfl rfl (st_new zero26 rfl fun g0 => ?_)
  refine ar_nil ?_
  refine ac_seq ?_
  refine ac_seq ?_
  refine ac_region_lit ?_
  refine ao 3 rfl rfl (st_move (v := .int .i64 n) rfl rfl ?_)
  refine ao 4 rfl rfl (st_cf (vs := [.int .i64 n]) (r := .bool (numIn n)) (c_numIn n) Try.func65 rfl (by decide) rfl rfl rfl ?_)
  refine ao 5 rfl rfl (st_un (u := .bool (numIn n)) (v := .bool (!(numIn n))) rfl rfl (un_not rfl) ?_)
  refine ar_nil ?_
  refine bool_split (numIn n) (fun h1 => ?_) (fun h1 => ?_)
  · refine ac_else' (b := !(numIn n)) (by rw [h1]; rfl) rfl ?_
    refine ac_skip ?_
    refine ac_seq ?_
    refine ac_region_lit ?_
    refine ao 7 rfl rfl (st_move (v := .int .i64 n) rfl rfl ?_)
    refine ao 8 rfl rfl (st_bi (u := .int .i64 n) (v := .int .i64 65536) (r := .int .i64 (w64 (n * 65536))) rfl rfl rfl (bi_mul rfl) ?_)
    refine ao 9 rfl rfl (st_cf (vs := [.int .i64 (w64 (n * 65536))]) (r := .agg #[.int .i64 ((ivPoint (w64 (n * 65536))).lo), .int .i64 ((ivPoint (w64 (n * 65536))).hi), .bool ((ivPoint (w64 (n * 65536))).no)]) (c_ivPoint (w64 (n * 65536))) Try.func29 rfl (by decide) rfl rfl rfl ?_)
    refine ar_op (d := none) rfl rfl (st_sta (g := g0) (off := 0) (us := [.int .i64 ((ivPoint (w64 (n * 65536))).lo), .int .i64 ((ivPoint (w64 (n * 65536))).hi), .bool ((ivPoint (w64 (n * 65536))).no)]) (cs := [.int .i64 ((ivPoint (w64 (n * 65536))).lo), .int .i64 ((ivPoint (w64 (n * 65536))).hi), .bool ((ivPoint (w64 (n * 65536))).no)]) agg26 0 rfl rfl rfl rfl rfl rfl rfl rfl rfl ?_)
    refine ar_nil ?_
    refine ac_ret ?_
    exact fin_eq (v := .agg #[.int .i64 ((ivPoint (w64 (n * 65536))).lo), .int .i64 ((ivPoint (w64 (n * 65536))).hi), .bool ((ivPoint (w64 (n * 65536))).no)]) (by show _ = Iv.v (ivWhole n); rw [ivWhole, h1] <;> rfl) (fin_ret (res_c (vs := [.int .i64 ((ivPoint (w64 (n * 65536))).lo), .int .i64 ((ivPoint (w64 (n * 65536))).hi), .bool ((ivPoint (w64 (n * 65536))).no)]) agg26 0 rfl rfl rfl rfl rfl rfl))
  · refine ac_then' (b := !(numIn n)) (by rw [h1]; rfl) rfl ?_
    refine ac_seq ?_
    refine ac_region_lit ?_
    refine ao 6 rfl rfl (st_cf (vs := []) (r := .agg #[.int .i64 ivNone.lo, .int .i64 ivNone.hi, .bool ivNone.no]) c_ivNone Try.func28 rfl (by decide) rfl rfl rfl ?_)
    refine ar_op (d := none) rfl rfl (st_sta (g := g0) (off := 0) (us := [.int .i64 ivNone.lo, .int .i64 ivNone.hi, .bool ivNone.no]) (cs := [.int .i64 ivNone.lo, .int .i64 ivNone.hi, .bool ivNone.no]) agg26 0 rfl rfl rfl rfl rfl rfl rfl rfl rfl ?_)
    refine ar_nil ?_
    refine ac_ret ?_
    exact fin_eq (v := .agg #[.int .i64 ivNone.lo, .int .i64 ivNone.hi, .bool ivNone.no]) (by show _ = Iv.v (ivWhole n); rw [ivWhole, h1] <;> rfl) (fin_ret (res_c (vs := [.int .i64 ivNone.lo, .int .i64 ivNone.hi, .bool ivNone.no]) agg26 0 rfl rfl rfl rfl rfl rfl))
def ivBoth (a : Iv) (b : Iv) : Bool := (bif ivRight a then ivRight b else false)
set_option maxRecDepth 100000 in
theorem c_ivBoth (a : Iv) (b : Iv) : Gets Try.prog 69 #[.agg #[.int .i64 a.lo, .int .i64 a.hi, .bool a.no], .agg #[.int .i64 b.lo, .int .i64 b.hi, .bool b.no]] ((fun (r : Bool) => (.bool r : Value)) (ivBoth a b)) := by
  refine gets_fin Try.func69 rfl rfl rfl ?_
  refine ac_seq ?_
  refine ac_region_lit ?_
  refine ao 2 rfl rfl (st_box (v := .agg #[.int .i64 a.lo, .int .i64 a.hi, .bool a.no]) (cs := [.int .i64 a.lo, .int .i64 a.hi, .bool a.no]) rfl rfl rfl fun g0 => ?_)
  refine ao 3 rfl rfl (st_box (v := .agg #[.int .i64 b.lo, .int .i64 b.hi, .bool b.no]) (cs := [.int .i64 b.lo, .int .i64 b.hi, .bool b.no]) rfl rfl rfl fun g1 => ?_)
  refine ao 4 rfl rfl (st_assign (v := .bool false) rfl rfl ?_)
  refine ar_nil ?_
  refine ac_seq ?_
  refine ac_region_lit ?_
  refine ao 5 rfl rfl (st_lda (g := g0) (off := 0) (vs := [.int .i64 a.lo, .int .i64 a.hi, .bool a.no]) agg26 1 rfl rfl rfl rfl rfl rfl ?_)
  refine ao 6 rfl rfl (st_cf (vs := [.agg #[.int .i64 a.lo, .int .i64 a.hi, .bool a.no]]) (r := .bool (ivRight a)) (c_ivRight a) Try.func25 rfl (by decide) rfl rfl rfl ?_)
  refine ao 7 rfl rfl (st_move (v := .bool (ivRight a)) rfl rfl ?_)
  refine bool_split (ivRight a) (fun h1 => ?_) (fun h1 => ?_)
  · refine ar_gd (d := (some 8)) (by show ((ivRight a) == true) = true; rw [h1]; rfl) rfl (st_lda (g := g1) (off := 0) (vs := [.int .i64 b.lo, .int .i64 b.hi, .bool b.no]) agg26 0 rfl rfl rfl rfl rfl rfl ?_)
    refine ar_gd (d := (some 9)) (by show ((ivRight a) == true) = true; rw [h1]; rfl) rfl (st_cf (vs := [.agg #[.int .i64 b.lo, .int .i64 b.hi, .bool b.no]]) (r := .bool (ivRight b)) (c_ivRight b) Try.func25 rfl (by decide) rfl rfl rfl ?_)
    refine ao 10 rfl rfl (st_pkt' (b := ivRight a) (v := .bool (ivRight b)) h1 rfl rfl rfl ?_)
    refine ao 4 rfl rfl (st_assign (v := .bool (ivRight b)) rfl rfl ?_)
    refine ar_nil ?_
    refine ac_ret ?_
    exact fin_eq (v := .bool (ivRight b)) (by show _ = (fun (r : Bool) => (.bool r : Value)) (ivBoth a b); rw [ivBoth, h1] <;> rfl) (fin_ret (res_tmp rfl rfl))
  · refine ar_sk (d := (some 8)) (by show ((ivRight a) == true) = false; rw [h1]; rfl) rfl ?_
    refine ar_sk (d := (some 9)) (by show ((ivRight a) == true) = false; rw [h1]; rfl) rfl ?_
    refine ao 10 rfl rfl (st_pkf' (b := ivRight a) (v := .bool false) h1 rfl rfl rfl ?_)
    refine ao 4 rfl rfl (st_assign (v := .bool false) rfl rfl ?_)
    refine ar_nil ?_
    refine ac_ret ?_
    exact fin_eq (v := .bool false) (by show _ = (fun (r : Bool) => (.bool r : Value)) (ivBoth a b); rw [ivBoth, h1] <;> rfl) (fin_ret (res_tmp rfl rfl))
def ivAdd (a : Iv) (b : Iv) : Iv := (bif ivBoth a b then (ivOf (w64 (a.lo + b.lo)) (w64 (a.hi + b.hi))) else ivNone)
set_option maxRecDepth 100000 in
theorem c_ivAdd (a : Iv) (b : Iv) : Gets Try.prog 67 #[.agg #[.int .i64 a.lo, .int .i64 a.hi, .bool a.no], .agg #[.int .i64 b.lo, .int .i64 b.hi, .bool b.no]] (Iv.v (ivAdd a b)) := by
  refine gets_fin Try.func67 rfl rfl rfl ?_
  refine ac_seq ?_
  refine ac_region_lit ?_
  refine ao 2 rfl rfl (st_box (v := .agg #[.int .i64 a.lo, .int .i64 a.hi, .bool a.no]) (cs := [.int .i64 a.lo, .int .i64 a.hi, .bool a.no]) rfl rfl rfl fun g0 => ?_)
  refine ao 3 rfl rfl (st_box (v := .agg #[.int .i64 b.lo, .int .i64 b.hi, .bool b.no]) (cs := [.int .i64 b.lo, .int .i64 b.hi, .bool b.no]) rfl rfl rfl fun g1 => ?_)
  refine ao 4 rfl rfl (st_new zero26 rfl fun g2 => ?_)
  refine ar_nil ?_
  refine ac_seq ?_
  refine ac_seq ?_
  refine ac_region_lit ?_
  refine ao 5 rfl rfl (st_lda (g := g0) (off := 0) (vs := [.int .i64 a.lo, .int .i64 a.hi, .bool a.no]) agg26 2 rfl rfl rfl rfl rfl rfl ?_)
  refine ao 6 rfl rfl (st_lda (g := g1) (off := 0) (vs := [.int .i64 b.lo, .int .i64 b.hi, .bool b.no]) agg26 1 rfl rfl rfl rfl rfl rfl ?_)
  refine ao 7 rfl rfl (st_cf (vs := [.agg #[.int .i64 a.lo, .int .i64 a.hi, .bool a.no], .agg #[.int .i64 b.lo, .int .i64 b.hi, .bool b.no]]) (r := .bool (ivBoth a b)) (c_ivBoth a b) Try.func69 rfl (by decide) rfl rfl rfl ?_)
  refine ao 8 rfl rfl (st_un (u := .bool (ivBoth a b)) (v := .bool (!(ivBoth a b))) rfl rfl (un_not rfl) ?_)
  refine ar_nil ?_
  refine bool_split (ivBoth a b) (fun h1 => ?_) (fun h1 => ?_)
  · refine ac_else' (b := !(ivBoth a b)) (by rw [h1]; rfl) rfl ?_
    refine ac_skip ?_
    refine ac_seq ?_
    refine ac_region_lit ?_
    refine ao 10 rfl rfl (st_fa (g := g0) (off := 0) rfl fa26_0 rfl ?_)
    refine ao 11 rfl rfl (st_ldc (g := g0) (off := 0) (v := .int .i64 a.lo) cell3 2 rfl rfl rfl rfl rfl ?_)
    refine ao 12 rfl rfl (st_fa (g := g1) (off := 0) rfl fa26_0 rfl ?_)
    refine ao 13 rfl rfl (st_ldc (g := g1) (off := 0) (v := .int .i64 b.lo) cell3 1 rfl rfl rfl rfl rfl ?_)
    refine ao 14 rfl rfl (st_bi (u := .int .i64 a.lo) (v := .int .i64 b.lo) (r := .int .i64 (w64 (a.lo + b.lo))) rfl rfl rfl (bi_add rfl) ?_)
    refine ao 15 rfl rfl (st_fa (g := g0) (off := 0) rfl fa26_1 rfl ?_)
    refine ao 16 rfl rfl (st_ldc (g := g0) (off := 1) (v := .int .i64 a.hi) cell3 2 rfl rfl rfl rfl rfl ?_)
    refine ao 17 rfl rfl (st_fa (g := g1) (off := 0) rfl fa26_1 rfl ?_)
    refine ao 18 rfl rfl (st_ldc (g := g1) (off := 1) (v := .int .i64 b.hi) cell3 1 rfl rfl rfl rfl rfl ?_)
    refine ao 19 rfl rfl (st_bi (u := .int .i64 a.hi) (v := .int .i64 b.hi) (r := .int .i64 (w64 (a.hi + b.hi))) rfl rfl rfl (bi_add rfl) ?_)
    refine ao 20 rfl rfl (st_cf (vs := [.int .i64 (w64 (a.lo + b.lo)), .int .i64 (w64 (a.hi + b.hi))]) (r := .agg #[.int .i64 ((ivOf (w64 (a.lo + b.lo)) (w64 (a.hi + b.hi))).lo), .int .i64 ((ivOf (w64 (a.lo + b.lo)) (w64 (a.hi + b.hi))).hi), .bool ((ivOf (w64 (a.lo + b.lo)) (w64 (a.hi + b.hi))).no)]) (c_ivOf (w64 (a.lo + b.lo)) (w64 (a.hi + b.hi))) Try.func70 rfl (by decide) rfl rfl rfl ?_)
    refine ar_op (d := none) rfl rfl (st_sta (g := g2) (off := 0) (us := [.int .i64 ((ivOf (w64 (a.lo + b.lo)) (w64 (a.hi + b.hi))).lo), .int .i64 ((ivOf (w64 (a.lo + b.lo)) (w64 (a.hi + b.hi))).hi), .bool ((ivOf (w64 (a.lo + b.lo)) (w64 (a.hi + b.hi))).no)]) (cs := [.int .i64 ((ivOf (w64 (a.lo + b.lo)) (w64 (a.hi + b.hi))).lo), .int .i64 ((ivOf (w64 (a.lo + b.lo)) (w64 (a.hi + b.hi))).hi), .bool ((ivOf (w64 (a.lo + b.lo)) (w64 (a.hi + b.hi))).no)]) agg26 0 rfl rfl rfl rfl rfl rfl rfl rfl rfl ?_)
    refine ar_nil ?_
    refine ac_ret ?_
    exact fin_eq (v := .agg #[.int .i64 ((ivOf (w64 (a.lo + b.lo)) (w64 (a.hi + b.hi))).lo), .int .i64 ((ivOf (w64 (a.lo + b.lo)) (w64 (a.hi + b.hi))).hi), .bool ((ivOf (w64 (a.lo + b.lo)) (w64 (a.hi + b.hi))).no)]) (by show _ = Iv.v (ivAdd a b); rw [ivAdd, h1] <;> rfl) (fin_ret (res_c (vs := [.int .i64 ((ivOf (w64 (a.lo + b.lo)) (w64 (a.hi + b.hi))).lo), .int .i64 ((ivOf (w64 (a.lo + b.lo)) (w64 (a.hi + b.hi))).hi), .bool ((ivOf (w64 (a.lo + b.lo)) (w64 (a.hi + b.hi))).no)]) agg26 0 rfl rfl rfl rfl rfl rfl))
  · refine ac_then' (b := !(ivBoth a b)) (by rw [h1]; rfl) rfl ?_
    refine ac_seq ?_
    refine ac_region_lit ?_
    refine ao 9 rfl rfl (st_cf (vs := []) (r := .agg #[.int .i64 ivNone.lo, .int .i64 ivNone.hi, .bool ivNone.no]) c_ivNone Try.func28 rfl (by decide) rfl rfl rfl ?_)
    refine ar_op (d := none) rfl rfl (st_sta (g := g2) (off := 0) (us := [.int .i64 ivNone.lo, .int .i64 ivNone.hi, .bool ivNone.no]) (cs := [.int .i64 ivNone.lo, .int .i64 ivNone.hi, .bool ivNone.no]) agg26 0 rfl rfl rfl rfl rfl rfl rfl rfl rfl ?_)
    refine ar_nil ?_
    refine ac_ret ?_
    exact fin_eq (v := .agg #[.int .i64 ivNone.lo, .int .i64 ivNone.hi, .bool ivNone.no]) (by show _ = Iv.v (ivAdd a b); rw [ivAdd, h1] <;> rfl) (fin_ret (res_c (vs := [.int .i64 ivNone.lo, .int .i64 ivNone.hi, .bool ivNone.no]) agg26 0 rfl rfl rfl rfl rfl rfl))
def ivNeg (a : Iv) : Iv := (bif ivRight a then (ivOf (w64 (0 - a.hi)) (w64 (0 - a.lo))) else ivNone)
set_option maxRecDepth 100000 in
theorem c_ivNeg (a : Iv) : Gets Try.prog 39 #[.agg #[.int .i64 a.lo, .int .i64 a.hi, .bool a.no]] (Iv.v (ivNeg a)) := by
  refine gets_fin Try.func39 rfl rfl rfl ?_
  refine ac_seq ?_
  refine ac_region_lit ?_
  refine ao 1 rfl rfl (st_box (v := .agg #[.int .i64 a.lo, .int .i64 a.hi, .bool a.no]) (cs := [.int .i64 a.lo, .int .i64 a.hi, .bool a.no]) rfl rfl rfl fun g0 => ?_)
  refine ao 2 rfl rfl (st_new zero26 rfl fun g1 => ?_)
  refine ar_nil ?_
  refine ac_seq ?_
  refine ac_seq ?_
  refine ac_region_lit ?_
  refine ao 3 rfl rfl (st_lda (g := g0) (off := 0) (vs := [.int .i64 a.lo, .int .i64 a.hi, .bool a.no]) agg26 1 rfl rfl rfl rfl rfl rfl ?_)
  refine ao 4 rfl rfl (st_cf (vs := [.agg #[.int .i64 a.lo, .int .i64 a.hi, .bool a.no]]) (r := .bool (ivRight a)) (c_ivRight a) Try.func25 rfl (by decide) rfl rfl rfl ?_)
  refine ao 5 rfl rfl (st_un (u := .bool (ivRight a)) (v := .bool (!(ivRight a))) rfl rfl (un_not rfl) ?_)
  refine ar_nil ?_
  refine bool_split (ivRight a) (fun h1 => ?_) (fun h1 => ?_)
  · refine ac_else' (b := !(ivRight a)) (by rw [h1]; rfl) rfl ?_
    refine ac_skip ?_
    refine ac_seq ?_
    refine ac_region_lit ?_
    refine ao 7 rfl rfl (st_fa (g := g0) (off := 0) rfl fa26_1 rfl ?_)
    refine ao 8 rfl rfl (st_ldc (g := g0) (off := 1) (v := .int .i64 a.hi) cell3 1 rfl rfl rfl rfl rfl ?_)
    refine ao 9 rfl rfl (st_un (u := .int .i64 a.hi) (v := .int .i64 (w64 (0 - a.hi))) rfl rfl (un_neg rfl) ?_)
    refine ao 10 rfl rfl (st_fa (g := g0) (off := 0) rfl fa26_0 rfl ?_)
    refine ao 11 rfl rfl (st_ldc (g := g0) (off := 0) (v := .int .i64 a.lo) cell3 1 rfl rfl rfl rfl rfl ?_)
    refine ao 12 rfl rfl (st_un (u := .int .i64 a.lo) (v := .int .i64 (w64 (0 - a.lo))) rfl rfl (un_neg rfl) ?_)
    refine ao 13 rfl rfl (st_cf (vs := [.int .i64 (w64 (0 - a.hi)), .int .i64 (w64 (0 - a.lo))]) (r := .agg #[.int .i64 ((ivOf (w64 (0 - a.hi)) (w64 (0 - a.lo))).lo), .int .i64 ((ivOf (w64 (0 - a.hi)) (w64 (0 - a.lo))).hi), .bool ((ivOf (w64 (0 - a.hi)) (w64 (0 - a.lo))).no)]) (c_ivOf (w64 (0 - a.hi)) (w64 (0 - a.lo))) Try.func70 rfl (by decide) rfl rfl rfl ?_)
    refine ar_op (d := none) rfl rfl (st_sta (g := g1) (off := 0) (us := [.int .i64 ((ivOf (w64 (0 - a.hi)) (w64 (0 - a.lo))).lo), .int .i64 ((ivOf (w64 (0 - a.hi)) (w64 (0 - a.lo))).hi), .bool ((ivOf (w64 (0 - a.hi)) (w64 (0 - a.lo))).no)]) (cs := [.int .i64 ((ivOf (w64 (0 - a.hi)) (w64 (0 - a.lo))).lo), .int .i64 ((ivOf (w64 (0 - a.hi)) (w64 (0 - a.lo))).hi), .bool ((ivOf (w64 (0 - a.hi)) (w64 (0 - a.lo))).no)]) agg26 0 rfl rfl rfl rfl rfl rfl rfl rfl rfl ?_)
    refine ar_nil ?_
    refine ac_ret ?_
    exact fin_eq (v := .agg #[.int .i64 ((ivOf (w64 (0 - a.hi)) (w64 (0 - a.lo))).lo), .int .i64 ((ivOf (w64 (0 - a.hi)) (w64 (0 - a.lo))).hi), .bool ((ivOf (w64 (0 - a.hi)) (w64 (0 - a.lo))).no)]) (by show _ = Iv.v (ivNeg a); rw [ivNeg, h1] <;> rfl) (fin_ret (res_c (vs := [.int .i64 ((ivOf (w64 (0 - a.hi)) (w64 (0 - a.lo))).lo), .int .i64 ((ivOf (w64 (0 - a.hi)) (w64 (0 - a.lo))).hi), .bool ((ivOf (w64 (0 - a.hi)) (w64 (0 - a.lo))).no)]) agg26 0 rfl rfl rfl rfl rfl rfl))
  · refine ac_then' (b := !(ivRight a)) (by rw [h1]; rfl) rfl ?_
    refine ac_seq ?_
    refine ac_region_lit ?_
    refine ao 6 rfl rfl (st_cf (vs := []) (r := .agg #[.int .i64 ivNone.lo, .int .i64 ivNone.hi, .bool ivNone.no]) c_ivNone Try.func28 rfl (by decide) rfl rfl rfl ?_)
    refine ar_op (d := none) rfl rfl (st_sta (g := g1) (off := 0) (us := [.int .i64 ivNone.lo, .int .i64 ivNone.hi, .bool ivNone.no]) (cs := [.int .i64 ivNone.lo, .int .i64 ivNone.hi, .bool ivNone.no]) agg26 0 rfl rfl rfl rfl rfl rfl rfl rfl rfl ?_)
    refine ar_nil ?_
    refine ac_ret ?_
    exact fin_eq (v := .agg #[.int .i64 ivNone.lo, .int .i64 ivNone.hi, .bool ivNone.no]) (by show _ = Iv.v (ivNeg a); rw [ivNeg, h1] <;> rfl) (fin_ret (res_c (vs := [.int .i64 ivNone.lo, .int .i64 ivNone.hi, .bool ivNone.no]) agg26 0 rfl rfl rfl rfl rfl rfl))
def ivSub (a : Iv) (b : Iv) : Iv := (ivAdd a (ivNeg b))
set_option maxRecDepth 100000 in
theorem c_ivSub (a : Iv) (b : Iv) : Gets Try.prog 30 #[.agg #[.int .i64 a.lo, .int .i64 a.hi, .bool a.no], .agg #[.int .i64 b.lo, .int .i64 b.hi, .bool b.no]] (Iv.v (ivSub a b)) := by
  refine gets_fin Try.func30 rfl rfl rfl ?_
  refine ac_seq ?_
  refine ac_region_lit ?_
  refine ao 2 rfl rfl (st_box (v := .agg #[.int .i64 a.lo, .int .i64 a.hi, .bool a.no]) (cs := [.int .i64 a.lo, .int .i64 a.hi, .bool a.no]) rfl rfl rfl fun g0 => ?_)
  refine ao 3 rfl rfl (st_box (v := .agg #[.int .i64 b.lo, .int .i64 b.hi, .bool b.no]) (cs := [.int .i64 b.lo, .int .i64 b.hi, .bool b.no]) rfl rfl rfl fun g1 => ?_)
  refine ao 4 rfl rfl (st_new zero26 rfl fun g2 => ?_)
  refine ar_nil ?_
  refine ac_seq ?_
  refine ac_draw0 (id := 1) [0, 1, 2, 3] [4] _ (by kernel_rfl) follows rfl  ?_
  refine dw_op (d := (some 5)) (.agg #[.int .i64 a.lo, .int .i64 a.hi, .bool a.no]) rfl rfl rfl (st_lda (g := g0) (off := 0) (vs := [.int .i64 a.lo, .int .i64 a.hi, .bool a.no]) agg26 2 rfl rfl rfl rfl rfl rfl ⟨rfl, rfl⟩) ?_
  refine dw_op (d := (some 6)) (.agg #[.int .i64 b.lo, .int .i64 b.hi, .bool b.no]) rfl rfl rfl (st_lda (g := g1) (off := 0) (vs := [.int .i64 b.lo, .int .i64 b.hi, .bool b.no]) agg26 1 rfl rfl rfl rfl rfl rfl ⟨rfl, rfl⟩) ?_
  refine dw_op (d := (some 7)) (.agg #[.int .i64 ((ivNeg b).lo), .int .i64 ((ivNeg b).hi), .bool ((ivNeg b).no)]) rfl rfl rfl (st_cf (vs := [.agg #[.int .i64 b.lo, .int .i64 b.hi, .bool b.no]]) (r := .agg #[.int .i64 ((ivNeg b).lo), .int .i64 ((ivNeg b).hi), .bool ((ivNeg b).no)]) (c_ivNeg b) Try.func39 rfl (by decide) rfl rfl rfl ⟨rfl, rfl⟩) ?_
  refine dw_op (d := (some 8)) (.agg #[.int .i64 ((ivAdd a (ivNeg b)).lo), .int .i64 ((ivAdd a (ivNeg b)).hi), .bool ((ivAdd a (ivNeg b)).no)]) rfl rfl rfl (st_cf (vs := [.agg #[.int .i64 a.lo, .int .i64 a.hi, .bool a.no], .agg #[.int .i64 ((ivNeg b).lo), .int .i64 ((ivNeg b).hi), .bool ((ivNeg b).no)]]) (r := .agg #[.int .i64 ((ivAdd a (ivNeg b)).lo), .int .i64 ((ivAdd a (ivNeg b)).hi), .bool ((ivAdd a (ivNeg b)).no)]) (c_ivAdd a (ivNeg b)) Try.func67 rfl (by decide) rfl rfl rfl ⟨rfl, rfl⟩) ?_
  refine dw_nil ?_
  refine ar_op (d := none) rfl rfl (st_sta (g := g2) (off := 0) (us := [.int .i64 ((ivAdd a (ivNeg b)).lo), .int .i64 ((ivAdd a (ivNeg b)).hi), .bool ((ivAdd a (ivNeg b)).no)]) (cs := [.int .i64 ((ivAdd a (ivNeg b)).lo), .int .i64 ((ivAdd a (ivNeg b)).hi), .bool ((ivAdd a (ivNeg b)).no)]) agg26 0 rfl rfl rfl rfl rfl rfl rfl rfl rfl ?_)
  refine ar_nil ?_
  refine ac_ret ?_
  exact fin_eq (v := .agg #[.int .i64 ((ivAdd a (ivNeg b)).lo), .int .i64 ((ivAdd a (ivNeg b)).hi), .bool ((ivAdd a (ivNeg b)).no)]) rfl (fin_ret (res_c (vs := [.int .i64 ((ivAdd a (ivNeg b)).lo), .int .i64 ((ivAdd a (ivNeg b)).hi), .bool ((ivAdd a (ivNeg b)).no)]) agg26 0 rfl rfl rfl rfl rfl rfl))
def ivTimes_e0 (a : Iv) (k : Int) : Iv := (ivOf (min (w64 (k * a.lo)) (w64 (k * a.hi))) (max (w64 (k * a.lo)) (w64 (k * a.hi))))
def ivTimes (a : Iv) (k : Int) : Iv := (bif ivRight a then (bif numIn k then (ivTimes_e0 a k) else ivNone) else ivNone)
set_option maxRecDepth 100000 in
theorem c_ivTimes (a : Iv) (k : Int) : Gets Try.prog 31 #[.agg #[.int .i64 a.lo, .int .i64 a.hi, .bool a.no], .int .i64 k] (Iv.v (ivTimes a k)) := by
  refine gets_fin Try.func31 rfl rfl rfl ?_
  refine ac_seq ?_
  refine ac_region_lit ?_
  refine ao 2 rfl rfl (st_box (v := .agg #[.int .i64 a.lo, .int .i64 a.hi, .bool a.no]) (cs := [.int .i64 a.lo, .int .i64 a.hi, .bool a.no]) rfl rfl rfl fun g0 => ?_)
  refine ao 4 rfl rfl (st_new zero26 rfl fun g1 => ?_)
  refine ar_nil ?_
  refine ac_seq ?_
  refine ac_seq ?_
  refine ac_region_lit ?_
  refine ao 5 rfl rfl (st_lda (g := g0) (off := 0) (vs := [.int .i64 a.lo, .int .i64 a.hi, .bool a.no]) agg26 1 rfl rfl rfl rfl rfl rfl ?_)
  refine ao 6 rfl rfl (st_cf (vs := [.agg #[.int .i64 a.lo, .int .i64 a.hi, .bool a.no]]) (r := .bool (ivRight a)) (c_ivRight a) Try.func25 rfl (by decide) rfl rfl rfl ?_)
  refine ao 7 rfl rfl (st_un (u := .bool (ivRight a)) (v := .bool (!(ivRight a))) rfl rfl (un_not rfl) ?_)
  refine ao 8 rfl rfl (st_move (v := .bool (!(ivRight a))) rfl rfl ?_)
  refine bool_split (ivRight a) (fun h1 => ?_) (fun h1 => ?_)
  · refine ar_gd (d := (some 9)) (by show ((!(ivRight a)) == false) = true; rw [h1]; rfl) rfl (st_move (v := .int .i64 k) rfl rfl ?_)
    refine ar_gd (d := (some 10)) (by show ((!(ivRight a)) == false) = true; rw [h1]; rfl) rfl (st_cf (vs := [.int .i64 k]) (r := .bool (numIn k)) (c_numIn k) Try.func65 rfl (by decide) rfl rfl rfl ?_)
    refine ar_gd (d := (some 11)) (by show ((!(ivRight a)) == false) = true; rw [h1]; rfl) rfl (st_un (u := .bool (numIn k)) (v := .bool (!(numIn k))) rfl rfl (un_not rfl) ?_)
    refine ao 12 rfl rfl (st_pkf' (b := !(ivRight a)) (v := .bool (!(numIn k))) (by rw [h1]; rfl) rfl rfl rfl ?_)
    refine ar_nil ?_
    refine bool_split (numIn k) (fun h2 => ?_) (fun h2 => ?_)
    · refine ac_else' (b := !(numIn k)) (by rw [h2]; rfl) rfl ?_
      refine ac_skip ?_
      refine ac_seq ?_
      refine ac_region_lit ?_
      refine ao 14 rfl rfl (st_move (v := .int .i64 k) rfl rfl ?_)
      refine ao 15 rfl rfl (st_fa (g := g0) (off := 0) rfl fa26_0 rfl ?_)
      refine ao 16 rfl rfl (st_ldc (g := g0) (off := 0) (v := .int .i64 a.lo) cell3 1 rfl rfl rfl rfl rfl ?_)
      refine ao 17 rfl rfl (st_bi (u := .int .i64 k) (v := .int .i64 a.lo) (r := .int .i64 (w64 (k * a.lo))) rfl rfl rfl (bi_mul rfl) ?_)
      refine ao 18 rfl rfl (st_move (v := .int .i64 k) rfl rfl ?_)
      refine ao 19 rfl rfl (st_fa (g := g0) (off := 0) rfl fa26_1 rfl ?_)
      refine ao 20 rfl rfl (st_ldc (g := g0) (off := 1) (v := .int .i64 a.hi) cell3 1 rfl rfl rfl rfl rfl ?_)
      refine ao 21 rfl rfl (st_bi (u := .int .i64 k) (v := .int .i64 a.hi) (r := .int .i64 (w64 (k * a.hi))) rfl rfl rfl (bi_mul rfl) ?_)
      refine ao 22 rfl rfl (st_mn (x := (w64 (k * a.lo))) (y := (w64 (k * a.hi))) (c := (min (w64 (k * a.lo)) (w64 (k * a.hi)))) rfl rfl rfl ?_)
      refine ao 23 rfl rfl (st_move (v := .int .i64 k) rfl rfl ?_)
      refine ao 24 rfl rfl (st_fa (g := g0) (off := 0) rfl fa26_0 rfl ?_)
      refine ao 25 rfl rfl (st_ldc (g := g0) (off := 0) (v := .int .i64 a.lo) cell3 1 rfl rfl rfl rfl rfl ?_)
      refine ao 26 rfl rfl (st_bi (u := .int .i64 k) (v := .int .i64 a.lo) (r := .int .i64 (w64 (k * a.lo))) rfl rfl rfl (bi_mul rfl) ?_)
      refine ao 27 rfl rfl (st_move (v := .int .i64 k) rfl rfl ?_)
      refine ao 28 rfl rfl (st_fa (g := g0) (off := 0) rfl fa26_1 rfl ?_)
      refine ao 29 rfl rfl (st_ldc (g := g0) (off := 1) (v := .int .i64 a.hi) cell3 1 rfl rfl rfl rfl rfl ?_)
      refine ao 30 rfl rfl (st_bi (u := .int .i64 k) (v := .int .i64 a.hi) (r := .int .i64 (w64 (k * a.hi))) rfl rfl rfl (bi_mul rfl) ?_)
      refine ao 31 rfl rfl (st_mx (x := (w64 (k * a.lo))) (y := (w64 (k * a.hi))) (c := (max (w64 (k * a.lo)) (w64 (k * a.hi)))) rfl rfl rfl ?_)
      refine ao 32 rfl rfl (st_cf (vs := [.int .i64 (min (w64 (k * a.lo)) (w64 (k * a.hi))), .int .i64 (max (w64 (k * a.lo)) (w64 (k * a.hi)))]) (r := .agg #[.int .i64 ((ivTimes_e0 a k).lo), .int .i64 ((ivTimes_e0 a k).hi), .bool ((ivTimes_e0 a k).no)]) (c_ivOf (min (w64 (k * a.lo)) (w64 (k * a.hi))) (max (w64 (k * a.lo)) (w64 (k * a.hi)))) Try.func70 rfl (by decide) rfl rfl rfl ?_)
      refine ar_op (d := none) rfl rfl (st_sta (g := g1) (off := 0) (us := [.int .i64 ((ivTimes_e0 a k).lo), .int .i64 ((ivTimes_e0 a k).hi), .bool ((ivTimes_e0 a k).no)]) (cs := [.int .i64 ((ivTimes_e0 a k).lo), .int .i64 ((ivTimes_e0 a k).hi), .bool ((ivTimes_e0 a k).no)]) agg26 0 rfl rfl rfl rfl rfl rfl rfl rfl rfl ?_)
      refine ar_nil ?_
      refine ac_ret ?_
      exact fin_eq (v := .agg #[.int .i64 ((ivTimes_e0 a k).lo), .int .i64 ((ivTimes_e0 a k).hi), .bool ((ivTimes_e0 a k).no)]) (by show _ = Iv.v (ivTimes a k); rw [ivTimes, h2, h1] <;> rfl) (fin_ret (res_c (vs := [.int .i64 ((ivTimes_e0 a k).lo), .int .i64 ((ivTimes_e0 a k).hi), .bool ((ivTimes_e0 a k).no)]) agg26 0 rfl rfl rfl rfl rfl rfl))
    · refine ac_then' (b := !(numIn k)) (by rw [h2]; rfl) rfl ?_
      refine ac_seq ?_
      refine ac_region_lit ?_
      refine ao 13 rfl rfl (st_cf (vs := []) (r := .agg #[.int .i64 ivNone.lo, .int .i64 ivNone.hi, .bool ivNone.no]) c_ivNone Try.func28 rfl (by decide) rfl rfl rfl ?_)
      refine ar_op (d := none) rfl rfl (st_sta (g := g1) (off := 0) (us := [.int .i64 ivNone.lo, .int .i64 ivNone.hi, .bool ivNone.no]) (cs := [.int .i64 ivNone.lo, .int .i64 ivNone.hi, .bool ivNone.no]) agg26 0 rfl rfl rfl rfl rfl rfl rfl rfl rfl ?_)
      refine ar_nil ?_
      refine ac_ret ?_
      exact fin_eq (v := .agg #[.int .i64 ivNone.lo, .int .i64 ivNone.hi, .bool ivNone.no]) (by show _ = Iv.v (ivTimes a k); rw [ivTimes, h2, h1] <;> rfl) (fin_ret (res_c (vs := [.int .i64 ivNone.lo, .int .i64 ivNone.hi, .bool ivNone.no]) agg26 0 rfl rfl rfl rfl rfl rfl))
  · refine ar_sk (d := (some 9)) (by show ((!(ivRight a)) == false) = false; rw [h1]; rfl) rfl ?_
    refine ar_sk (d := (some 10)) (by show ((!(ivRight a)) == false) = false; rw [h1]; rfl) rfl ?_
    refine ar_sk (d := (some 11)) (by show ((!(ivRight a)) == false) = false; rw [h1]; rfl) rfl ?_
    refine ao 12 rfl rfl (st_pkt' (b := !(ivRight a)) (v := .bool true) (by rw [h1]; rfl) rfl rfl rfl ?_)
    refine ar_nil ?_
    refine ac_then rfl ?_
    refine ac_seq ?_
    refine ac_region_lit ?_
    refine ao 13 rfl rfl (st_cf (vs := []) (r := .agg #[.int .i64 ivNone.lo, .int .i64 ivNone.hi, .bool ivNone.no]) c_ivNone Try.func28 rfl (by decide) rfl rfl rfl ?_)
    refine ar_op (d := none) rfl rfl (st_sta (g := g1) (off := 0) (us := [.int .i64 ivNone.lo, .int .i64 ivNone.hi, .bool ivNone.no]) (cs := [.int .i64 ivNone.lo, .int .i64 ivNone.hi, .bool ivNone.no]) agg26 0 rfl rfl rfl rfl rfl rfl rfl rfl rfl ?_)
    refine ar_nil ?_
    refine ac_ret ?_
    exact fin_eq (v := .agg #[.int .i64 ivNone.lo, .int .i64 ivNone.hi, .bool ivNone.no]) (by show _ = Iv.v (ivTimes a k); rw [ivTimes, h1] <;> rfl) (fin_ret (res_c (vs := [.int .i64 ivNone.lo, .int .i64 ivNone.hi, .bool ivNone.no]) agg26 0 rfl rfl rfl rfl rfl rfl))
def ivSqr_e0 (a : Iv) : Int × Bool := (numMul (max (w64 (0 - a.lo)) a.hi) (max (w64 (0 - a.lo)) a.hi) true)
def ivSqr_e1 (a : Iv) : Int × Bool := (numMul (max (max a.lo (w64 (0 - a.hi))) 0) (max (max a.lo (w64 (0 - a.hi))) 0) false)
def ivSqr (a : Iv) : Iv := (bif ivRight a then (bif (ivSqr_e0 a).2 then (ivOf ((ivSqr_e1 a).1) ((ivSqr_e0 a).1)) else ivNone) else ivNone)
set_option maxRecDepth 100000 in
theorem c_ivSqr (a : Iv) : Gets Try.prog 94 #[.agg #[.int .i64 a.lo, .int .i64 a.hi, .bool a.no]] (Iv.v (ivSqr a)) := by
  refine gets_fin Try.func94 rfl rfl rfl ?_
  refine ac_seq ?_
  refine ac_region_lit ?_
  refine ao 1 rfl rfl (st_box (v := .agg #[.int .i64 a.lo, .int .i64 a.hi, .bool a.no]) (cs := [.int .i64 a.lo, .int .i64 a.hi, .bool a.no]) rfl rfl rfl fun g0 => ?_)
  refine ao 2 rfl rfl (st_new zero26 rfl fun g1 => ?_)
  refine ar_nil ?_
  refine ac_seq ?_
  refine ac_seq ?_
  refine ac_region_lit ?_
  refine ao 9 rfl rfl (st_lda (g := g0) (off := 0) (vs := [.int .i64 a.lo, .int .i64 a.hi, .bool a.no]) agg26 1 rfl rfl rfl rfl rfl rfl ?_)
  refine ao 10 rfl rfl (st_cf (vs := [.agg #[.int .i64 a.lo, .int .i64 a.hi, .bool a.no]]) (r := .bool (ivRight a)) (c_ivRight a) Try.func25 rfl (by decide) rfl rfl rfl ?_)
  refine ao 11 rfl rfl (st_un (u := .bool (ivRight a)) (v := .bool (!(ivRight a))) rfl rfl (un_not rfl) ?_)
  refine ar_nil ?_
  refine bool_split (ivRight a) (fun h1 => ?_) (fun h1 => ?_)
  · refine ac_else' (b := !(ivRight a)) (by rw [h1]; rfl) rfl ?_
    refine ac_skip ?_
    refine ac_seq ?_
    refine ac_draw0 (id := 3) [0, 1, 2, 3, 4, 5, 6, 7, 8, 9, 10, 11, 12, 13] [] _ (by kernel_rfl) follows rfl  ?_
    refine dw_op (d := (some 13)) (.pointer (some ⟨g0, 0, none⟩)) rfl rfl rfl (st_fa (g := g0) (off := 0) rfl fa26_0 rfl ⟨rfl, rfl⟩) ?_
    refine dw_op (d := (some 14)) (.int .i64 a.lo) rfl rfl rfl (st_ldc (g := g0) (off := 0) (v := .int .i64 a.lo) cell3 1 rfl rfl rfl rfl rfl ⟨rfl, rfl⟩) ?_
    refine dw_op (d := (some 15)) (.int .i64 (w64 (0 - a.lo))) rfl rfl rfl (st_un (u := .int .i64 a.lo) (v := .int .i64 (w64 (0 - a.lo))) rfl rfl (un_neg rfl) ⟨rfl, rfl⟩) ?_
    refine dw_op (d := (some 16)) (.pointer (some ⟨g0, 1, none⟩)) rfl rfl rfl (st_fa (g := g0) (off := 0) rfl fa26_1 rfl ⟨rfl, rfl⟩) ?_
    refine dw_op (d := (some 17)) (.int .i64 a.hi) rfl rfl rfl (st_ldc (g := g0) (off := 1) (v := .int .i64 a.hi) cell3 1 rfl rfl rfl rfl rfl ⟨rfl, rfl⟩) ?_
    refine dw_op (d := (some 18)) (.int .i64 (max (w64 (0 - a.lo)) a.hi)) rfl rfl rfl (st_mx (x := (w64 (0 - a.lo))) (y := a.hi) (c := (max (w64 (0 - a.lo)) a.hi)) rfl rfl rfl ⟨rfl, rfl⟩) ?_
    refine dw_op (d := (some 19)) (.pointer (some ⟨g0, 0, none⟩)) rfl rfl rfl (st_fa (g := g0) (off := 0) rfl fa26_0 rfl ⟨rfl, rfl⟩) ?_
    refine dw_op (d := (some 20)) (.int .i64 a.lo) rfl rfl rfl (st_ldc (g := g0) (off := 0) (v := .int .i64 a.lo) cell3 1 rfl rfl rfl rfl rfl ⟨rfl, rfl⟩) ?_
    refine dw_op (d := (some 21)) (.pointer (some ⟨g0, 1, none⟩)) rfl rfl rfl (st_fa (g := g0) (off := 0) rfl fa26_1 rfl ⟨rfl, rfl⟩) ?_
    refine dw_op (d := (some 22)) (.int .i64 a.hi) rfl rfl rfl (st_ldc (g := g0) (off := 1) (v := .int .i64 a.hi) cell3 1 rfl rfl rfl rfl rfl ⟨rfl, rfl⟩) ?_
    refine dw_op (d := (some 23)) (.int .i64 (w64 (0 - a.hi))) rfl rfl rfl (st_un (u := .int .i64 a.hi) (v := .int .i64 (w64 (0 - a.hi))) rfl rfl (un_neg rfl) ⟨rfl, rfl⟩) ?_
    refine dw_op (d := (some 24)) (.int .i64 (max (max a.lo (w64 (0 - a.hi))) 0)) rfl rfl rfl (st_mx3 (x := a.lo) (y := (w64 (0 - a.hi))) (z := 0) (c := (max (max a.lo (w64 (0 - a.hi))) 0)) rfl rfl rfl ⟨rfl, rfl⟩) ?_
    refine dw_op (d := (some 3)) (.int .i64 (max (w64 (0 - a.lo)) a.hi)) rfl rfl rfl (st_assign (v := .int .i64 (max (w64 (0 - a.lo)) a.hi)) rfl rfl ⟨rfl, rfl⟩) ?_
    refine dw_op (d := (some 4)) (.int .i64 (max (max a.lo (w64 (0 - a.hi))) 0)) rfl rfl rfl (st_assign (v := .int .i64 (max (max a.lo (w64 (0 - a.hi))) 0)) rfl rfl ⟨rfl, rfl⟩) ?_
    refine dw_nil ?_
    refine ar_nil ?_
    refine ac_seq ?_
    refine ac_region_lit ?_
    refine ao 26 rfl rfl (st_move (v := .int .i64 (max (w64 (0 - a.lo)) a.hi)) rfl rfl ?_)
    refine ao 27 rfl rfl (st_move (v := .int .i64 (max (w64 (0 - a.lo)) a.hi)) rfl rfl ?_)
    refine ao 28 rfl rfl (st_cf (vs := [.int .i64 (max (w64 (0 - a.lo)) a.hi), .int .i64 (max (w64 (0 - a.lo)) a.hi), .bool true]) (r := .tuple #[.int .i64 ((ivSqr_e0 a).1), .bool ((ivSqr_e0 a).2)]) (c_numMul (max (w64 (0 - a.lo)) a.hi) (max (w64 (0 - a.lo)) a.hi) true) Try.func100 rfl (by decide) rfl rfl rfl ?_)
    refine ao 25 rfl rfl (st_move (v := .tuple #[.int .i64 ((ivSqr_e0 a).1), .bool ((ivSqr_e0 a).2)]) rfl rfl ?_)
    refine ao 29 rfl rfl (st_ex (vs := [.int .i64 ((ivSqr_e0 a).1), .bool ((ivSqr_e0 a).2)]) (v := .int .i64 ((ivSqr_e0 a).1)) rfl rfl rfl ?_)
    refine ao 30 rfl rfl (st_ex (vs := [.int .i64 ((ivSqr_e0 a).1), .bool ((ivSqr_e0 a).2)]) (v := .bool ((ivSqr_e0 a).2)) rfl rfl rfl ?_)
    refine ao 5 rfl rfl (st_assign (v := .int .i64 ((ivSqr_e0 a).1)) rfl rfl ?_)
    refine ao 6 rfl rfl (st_assign (v := .bool ((ivSqr_e0 a).2)) rfl rfl ?_)
    refine ar_nil ?_
    refine ac_seq ?_
    refine ac_region_lit ?_
    refine ao 32 rfl rfl (st_move (v := .int .i64 (max (max a.lo (w64 (0 - a.hi))) 0)) rfl rfl ?_)
    refine ao 33 rfl rfl (st_move (v := .int .i64 (max (max a.lo (w64 (0 - a.hi))) 0)) rfl rfl ?_)
    refine ao 34 rfl rfl (st_cf (vs := [.int .i64 (max (max a.lo (w64 (0 - a.hi))) 0), .int .i64 (max (max a.lo (w64 (0 - a.hi))) 0), .bool false]) (r := .tuple #[.int .i64 ((ivSqr_e1 a).1), .bool ((ivSqr_e1 a).2)]) (c_numMul (max (max a.lo (w64 (0 - a.hi))) 0) (max (max a.lo (w64 (0 - a.hi))) 0) false) Try.func100 rfl (by decide) rfl rfl rfl ?_)
    refine ao 31 rfl rfl (st_move (v := .tuple #[.int .i64 ((ivSqr_e1 a).1), .bool ((ivSqr_e1 a).2)]) rfl rfl ?_)
    refine ao 35 rfl rfl (st_ex (vs := [.int .i64 ((ivSqr_e1 a).1), .bool ((ivSqr_e1 a).2)]) (v := .int .i64 ((ivSqr_e1 a).1)) rfl rfl rfl ?_)
    refine ao 36 rfl rfl (st_ex (vs := [.int .i64 ((ivSqr_e1 a).1), .bool ((ivSqr_e1 a).2)]) (v := .bool ((ivSqr_e1 a).2)) rfl rfl rfl ?_)
    refine ao 7 rfl rfl (st_assign (v := .int .i64 ((ivSqr_e1 a).1)) rfl rfl ?_)
    refine ao 8 rfl rfl (st_assign (v := .bool ((ivSqr_e1 a).2)) rfl rfl ?_)
    refine ar_nil ?_
    refine ac_seq ?_
    refine ac_seq ?_
    refine ac_region_lit ?_
    refine ao 37 rfl rfl (st_move (v := .bool ((ivSqr_e0 a).2)) rfl rfl ?_)
    refine ao 38 rfl rfl (st_un (u := .bool ((ivSqr_e0 a).2)) (v := .bool (!((ivSqr_e0 a).2))) rfl rfl (un_not rfl) ?_)
    refine ar_nil ?_
    refine bool_split ((ivSqr_e0 a).2) (fun h2 => ?_) (fun h2 => ?_)
    · refine ac_else' (b := !((ivSqr_e0 a).2)) (by rw [h2]; rfl) rfl ?_
      refine ac_skip ?_
      refine ac_seq ?_
      refine ac_region_lit ?_
      refine ao 40 rfl rfl (st_move (v := .int .i64 ((ivSqr_e1 a).1)) rfl rfl ?_)
      refine ao 41 rfl rfl (st_move (v := .int .i64 ((ivSqr_e0 a).1)) rfl rfl ?_)
      refine ao 42 rfl rfl (st_cf (vs := [.int .i64 ((ivSqr_e1 a).1), .int .i64 ((ivSqr_e0 a).1)]) (r := .agg #[.int .i64 ((ivOf ((ivSqr_e1 a).1) ((ivSqr_e0 a).1)).lo), .int .i64 ((ivOf ((ivSqr_e1 a).1) ((ivSqr_e0 a).1)).hi), .bool ((ivOf ((ivSqr_e1 a).1) ((ivSqr_e0 a).1)).no)]) (c_ivOf ((ivSqr_e1 a).1) ((ivSqr_e0 a).1)) Try.func70 rfl (by decide) rfl rfl rfl ?_)
      refine ar_op (d := none) rfl rfl (st_sta (g := g1) (off := 0) (us := [.int .i64 ((ivOf ((ivSqr_e1 a).1) ((ivSqr_e0 a).1)).lo), .int .i64 ((ivOf ((ivSqr_e1 a).1) ((ivSqr_e0 a).1)).hi), .bool ((ivOf ((ivSqr_e1 a).1) ((ivSqr_e0 a).1)).no)]) (cs := [.int .i64 ((ivOf ((ivSqr_e1 a).1) ((ivSqr_e0 a).1)).lo), .int .i64 ((ivOf ((ivSqr_e1 a).1) ((ivSqr_e0 a).1)).hi), .bool ((ivOf ((ivSqr_e1 a).1) ((ivSqr_e0 a).1)).no)]) agg26 0 rfl rfl rfl rfl rfl rfl rfl rfl rfl ?_)
      refine ar_nil ?_
      refine ac_ret ?_
      exact fin_eq (v := .agg #[.int .i64 ((ivOf ((ivSqr_e1 a).1) ((ivSqr_e0 a).1)).lo), .int .i64 ((ivOf ((ivSqr_e1 a).1) ((ivSqr_e0 a).1)).hi), .bool ((ivOf ((ivSqr_e1 a).1) ((ivSqr_e0 a).1)).no)]) (by show _ = Iv.v (ivSqr a); rw [ivSqr, h2, h1] <;> rfl) (fin_ret (res_c (vs := [.int .i64 ((ivOf ((ivSqr_e1 a).1) ((ivSqr_e0 a).1)).lo), .int .i64 ((ivOf ((ivSqr_e1 a).1) ((ivSqr_e0 a).1)).hi), .bool ((ivOf ((ivSqr_e1 a).1) ((ivSqr_e0 a).1)).no)]) agg26 0 rfl rfl rfl rfl rfl rfl))
    · refine ac_then' (b := !((ivSqr_e0 a).2)) (by rw [h2]; rfl) rfl ?_
      refine ac_seq ?_
      refine ac_region_lit ?_
      refine ao 39 rfl rfl (st_cf (vs := []) (r := .agg #[.int .i64 ivNone.lo, .int .i64 ivNone.hi, .bool ivNone.no]) c_ivNone Try.func28 rfl (by decide) rfl rfl rfl ?_)
      refine ar_op (d := none) rfl rfl (st_sta (g := g1) (off := 0) (us := [.int .i64 ivNone.lo, .int .i64 ivNone.hi, .bool ivNone.no]) (cs := [.int .i64 ivNone.lo, .int .i64 ivNone.hi, .bool ivNone.no]) agg26 0 rfl rfl rfl rfl rfl rfl rfl rfl rfl ?_)
      refine ar_nil ?_
      refine ac_ret ?_
      exact fin_eq (v := .agg #[.int .i64 ivNone.lo, .int .i64 ivNone.hi, .bool ivNone.no]) (by show _ = Iv.v (ivSqr a); rw [ivSqr, h2, h1] <;> rfl) (fin_ret (res_c (vs := [.int .i64 ivNone.lo, .int .i64 ivNone.hi, .bool ivNone.no]) agg26 0 rfl rfl rfl rfl rfl rfl))
  · refine ac_then' (b := !(ivRight a)) (by rw [h1]; rfl) rfl ?_
    refine ac_seq ?_
    refine ac_region_lit ?_
    refine ao 12 rfl rfl (st_cf (vs := []) (r := .agg #[.int .i64 ivNone.lo, .int .i64 ivNone.hi, .bool ivNone.no]) c_ivNone Try.func28 rfl (by decide) rfl rfl rfl ?_)
    refine ar_op (d := none) rfl rfl (st_sta (g := g1) (off := 0) (us := [.int .i64 ivNone.lo, .int .i64 ivNone.hi, .bool ivNone.no]) (cs := [.int .i64 ivNone.lo, .int .i64 ivNone.hi, .bool ivNone.no]) agg26 0 rfl rfl rfl rfl rfl rfl rfl rfl rfl ?_)
    refine ar_nil ?_
    refine ac_ret ?_
    exact fin_eq (v := .agg #[.int .i64 ivNone.lo, .int .i64 ivNone.hi, .bool ivNone.no]) (by show _ = Iv.v (ivSqr a); rw [ivSqr, h1] <;> rfl) (fin_ret (res_c (vs := [.int .i64 ivNone.lo, .int .i64 ivNone.hi, .bool ivNone.no]) agg26 0 rfl rfl rfl rfl rfl rfl))
def ivHas (a : Iv) (n : Int) : Bool := (bif ivRight a then (bif decide (a.lo ≤ n) then decide (n ≤ a.hi) else false) else false)
set_option maxRecDepth 100000 in
theorem c_ivHas (a : Iv) (n : Int) : Gets Try.prog 24 #[.agg #[.int .i64 a.lo, .int .i64 a.hi, .bool a.no], .int .i64 n] ((fun (r : Bool) => (.bool r : Value)) (ivHas a n)) := by
  refine gets_fin Try.func24 rfl rfl rfl ?_
  refine ac_seq ?_
  refine ac_region_lit ?_
  refine ao 2 rfl rfl (st_box (v := .agg #[.int .i64 a.lo, .int .i64 a.hi, .bool a.no]) (cs := [.int .i64 a.lo, .int .i64 a.hi, .bool a.no]) rfl rfl rfl fun g0 => ?_)
  refine ao 4 rfl rfl (st_assign (v := .bool false) rfl rfl ?_)
  refine ar_nil ?_
  refine ac_seq ?_
  refine ac_region_lit ?_
  refine ao 5 rfl rfl (st_lda (g := g0) (off := 0) (vs := [.int .i64 a.lo, .int .i64 a.hi, .bool a.no]) agg26 0 rfl rfl rfl rfl rfl rfl ?_)
  refine ao 6 rfl rfl (st_cf (vs := [.agg #[.int .i64 a.lo, .int .i64 a.hi, .bool a.no]]) (r := .bool (ivRight a)) (c_ivRight a) Try.func25 rfl (by decide) rfl rfl rfl ?_)
  refine ao 7 rfl rfl (st_move (v := .bool (ivRight a)) rfl rfl ?_)
  refine bool_split (ivRight a) (fun h1 => ?_) (fun h1 => ?_)
  · refine ar_gd (d := (some 8)) (by show ((ivRight a) == true) = true; rw [h1]; rfl) rfl (st_fa (g := g0) (off := 0) rfl fa26_0 rfl ?_)
    refine ar_gd (d := (some 9)) (by show ((ivRight a) == true) = true; rw [h1]; rfl) rfl (st_ldc (g := g0) (off := 0) (v := .int .i64 a.lo) cell3 0 rfl rfl rfl rfl rfl ?_)
    refine ar_gd (d := (some 10)) (by show ((ivRight a) == true) = true; rw [h1]; rfl) rfl (st_move (v := .int .i64 n) rfl rfl ?_)
    refine ar_gd (d := (some 11)) (by show ((ivRight a) == true) = true; rw [h1]; rfl) rfl (st_bi (u := .int .i64 a.lo) (v := .int .i64 n) (r := .bool (decide (a.lo ≤ n))) rfl rfl rfl (bi_leq rfl) ?_)
    refine ao 12 rfl rfl (st_pkt' (b := ivRight a) (v := .bool (decide (a.lo ≤ n))) h1 rfl rfl rfl ?_)
    refine ao 13 rfl rfl (st_move (v := .bool (decide (a.lo ≤ n))) rfl rfl ?_)
    refine bool_split (decide (a.lo ≤ n)) (fun h2 => ?_) (fun h2 => ?_)
    · refine ar_gd (d := (some 14)) (by show ((decide (a.lo ≤ n)) == true) = true; rw [h2]; rfl) rfl (st_move (v := .int .i64 n) rfl rfl ?_)
      refine ar_gd (d := (some 15)) (by show ((decide (a.lo ≤ n)) == true) = true; rw [h2]; rfl) rfl (st_fa (g := g0) (off := 0) rfl fa26_1 rfl ?_)
      refine ar_gd (d := (some 16)) (by show ((decide (a.lo ≤ n)) == true) = true; rw [h2]; rfl) rfl (st_ldc (g := g0) (off := 1) (v := .int .i64 a.hi) cell3 0 rfl rfl rfl rfl rfl ?_)
      refine ar_gd (d := (some 17)) (by show ((decide (a.lo ≤ n)) == true) = true; rw [h2]; rfl) rfl (st_bi (u := .int .i64 n) (v := .int .i64 a.hi) (r := .bool (decide (n ≤ a.hi))) rfl rfl rfl (bi_leq rfl) ?_)
      refine ao 18 rfl rfl (st_pkt' (b := decide (a.lo ≤ n)) (v := .bool (decide (n ≤ a.hi))) h2 rfl rfl rfl ?_)
      refine ao 4 rfl rfl (st_assign (v := .bool (decide (n ≤ a.hi))) rfl rfl ?_)
      refine ar_nil ?_
      refine ac_ret ?_
      exact fin_eq (v := .bool (decide (n ≤ a.hi))) (by show _ = (fun (r : Bool) => (.bool r : Value)) (ivHas a n); rw [ivHas, h2, h1] <;> rfl) (fin_ret (res_tmp rfl rfl))
    · refine ar_sk (d := (some 14)) (by show ((decide (a.lo ≤ n)) == true) = false; rw [h2]; rfl) rfl ?_
      refine ar_sk (d := (some 15)) (by show ((decide (a.lo ≤ n)) == true) = false; rw [h2]; rfl) rfl ?_
      refine ar_sk (d := (some 16)) (by show ((decide (a.lo ≤ n)) == true) = false; rw [h2]; rfl) rfl ?_
      refine ar_sk (d := (some 17)) (by show ((decide (a.lo ≤ n)) == true) = false; rw [h2]; rfl) rfl ?_
      refine ao 18 rfl rfl (st_pkf' (b := decide (a.lo ≤ n)) (v := .bool false) h2 rfl rfl rfl ?_)
      refine ao 4 rfl rfl (st_assign (v := .bool false) rfl rfl ?_)
      refine ar_nil ?_
      refine ac_ret ?_
      exact fin_eq (v := .bool false) (by show _ = (fun (r : Bool) => (.bool r : Value)) (ivHas a n); rw [ivHas, h2, h1] <;> rfl) (fin_ret (res_tmp rfl rfl))
  · refine ar_sk (d := (some 8)) (by show ((ivRight a) == true) = false; rw [h1]; rfl) rfl ?_
    refine ar_sk (d := (some 9)) (by show ((ivRight a) == true) = false; rw [h1]; rfl) rfl ?_
    refine ar_sk (d := (some 10)) (by show ((ivRight a) == true) = false; rw [h1]; rfl) rfl ?_
    refine ar_sk (d := (some 11)) (by show ((ivRight a) == true) = false; rw [h1]; rfl) rfl ?_
    refine ao 12 rfl rfl (st_pkf' (b := ivRight a) (v := .bool false) h1 rfl rfl rfl ?_)
    refine ao 13 rfl rfl (st_move (v := .bool false) rfl rfl ?_)
    refine ar_sk (d := (some 14)) rfl rfl ?_
    refine ar_sk (d := (some 15)) rfl rfl ?_
    refine ar_sk (d := (some 16)) rfl rfl ?_
    refine ar_sk (d := (some 17)) rfl rfl ?_
    refine ao 18 rfl rfl (st_pkf (v := .bool false) rfl rfl rfl ?_)
    refine ao 4 rfl rfl (st_assign (v := .bool false) rfl rfl ?_)
    refine ar_nil ?_
    refine ac_ret ?_
    exact fin_eq (v := .bool false) (by show _ = (fun (r : Bool) => (.bool r : Value)) (ivHas a n); rw [ivHas, h1] <;> rfl) (fin_ret (res_tmp rfl rfl))
def ivInside (a : Iv) (b : Iv) : Bool := (bif ivBoth a b then (bif decide (b.lo ≤ a.lo) then decide (a.hi ≤ b.hi) else false) else false)
set_option maxRecDepth 100000 in
theorem c_ivInside (a : Iv) (b : Iv) : Gets Try.prog 26 #[.agg #[.int .i64 a.lo, .int .i64 a.hi, .bool a.no], .agg #[.int .i64 b.lo, .int .i64 b.hi, .bool b.no]] ((fun (r : Bool) => (.bool r : Value)) (ivInside a b)) := by
  refine gets_fin Try.func26 rfl rfl rfl ?_
  refine ac_seq ?_
  refine ac_region_lit ?_
  refine ao 2 rfl rfl (st_box (v := .agg #[.int .i64 a.lo, .int .i64 a.hi, .bool a.no]) (cs := [.int .i64 a.lo, .int .i64 a.hi, .bool a.no]) rfl rfl rfl fun g0 => ?_)
  refine ao 3 rfl rfl (st_box (v := .agg #[.int .i64 b.lo, .int .i64 b.hi, .bool b.no]) (cs := [.int .i64 b.lo, .int .i64 b.hi, .bool b.no]) rfl rfl rfl fun g1 => ?_)
  refine ao 4 rfl rfl (st_assign (v := .bool false) rfl rfl ?_)
  refine ar_nil ?_
  refine ac_seq ?_
  refine ac_region_lit ?_
  refine ao 5 rfl rfl (st_lda (g := g0) (off := 0) (vs := [.int .i64 a.lo, .int .i64 a.hi, .bool a.no]) agg26 1 rfl rfl rfl rfl rfl rfl ?_)
  refine ao 6 rfl rfl (st_lda (g := g1) (off := 0) (vs := [.int .i64 b.lo, .int .i64 b.hi, .bool b.no]) agg26 0 rfl rfl rfl rfl rfl rfl ?_)
  refine ao 7 rfl rfl (st_cf (vs := [.agg #[.int .i64 a.lo, .int .i64 a.hi, .bool a.no], .agg #[.int .i64 b.lo, .int .i64 b.hi, .bool b.no]]) (r := .bool (ivBoth a b)) (c_ivBoth a b) Try.func69 rfl (by decide) rfl rfl rfl ?_)
  refine ao 8 rfl rfl (st_move (v := .bool (ivBoth a b)) rfl rfl ?_)
  refine bool_split (ivBoth a b) (fun h1 => ?_) (fun h1 => ?_)
  · refine ar_gd (d := (some 9)) (by show ((ivBoth a b) == true) = true; rw [h1]; rfl) rfl (st_fa (g := g1) (off := 0) rfl fa26_0 rfl ?_)
    refine ar_gd (d := (some 10)) (by show ((ivBoth a b) == true) = true; rw [h1]; rfl) rfl (st_ldc (g := g1) (off := 0) (v := .int .i64 b.lo) cell3 0 rfl rfl rfl rfl rfl ?_)
    refine ar_gd (d := (some 11)) (by show ((ivBoth a b) == true) = true; rw [h1]; rfl) rfl (st_fa (g := g0) (off := 0) rfl fa26_0 rfl ?_)
    refine ar_gd (d := (some 12)) (by show ((ivBoth a b) == true) = true; rw [h1]; rfl) rfl (st_ldc (g := g0) (off := 0) (v := .int .i64 a.lo) cell3 1 rfl rfl rfl rfl rfl ?_)
    refine ar_gd (d := (some 13)) (by show ((ivBoth a b) == true) = true; rw [h1]; rfl) rfl (st_bi (u := .int .i64 b.lo) (v := .int .i64 a.lo) (r := .bool (decide (b.lo ≤ a.lo))) rfl rfl rfl (bi_leq rfl) ?_)
    refine ao 14 rfl rfl (st_pkt' (b := ivBoth a b) (v := .bool (decide (b.lo ≤ a.lo))) h1 rfl rfl rfl ?_)
    refine ao 15 rfl rfl (st_move (v := .bool (decide (b.lo ≤ a.lo))) rfl rfl ?_)
    refine bool_split (decide (b.lo ≤ a.lo)) (fun h2 => ?_) (fun h2 => ?_)
    · refine ar_gd (d := (some 16)) (by show ((decide (b.lo ≤ a.lo)) == true) = true; rw [h2]; rfl) rfl (st_fa (g := g0) (off := 0) rfl fa26_1 rfl ?_)
      refine ar_gd (d := (some 17)) (by show ((decide (b.lo ≤ a.lo)) == true) = true; rw [h2]; rfl) rfl (st_ldc (g := g0) (off := 1) (v := .int .i64 a.hi) cell3 1 rfl rfl rfl rfl rfl ?_)
      refine ar_gd (d := (some 18)) (by show ((decide (b.lo ≤ a.lo)) == true) = true; rw [h2]; rfl) rfl (st_fa (g := g1) (off := 0) rfl fa26_1 rfl ?_)
      refine ar_gd (d := (some 19)) (by show ((decide (b.lo ≤ a.lo)) == true) = true; rw [h2]; rfl) rfl (st_ldc (g := g1) (off := 1) (v := .int .i64 b.hi) cell3 0 rfl rfl rfl rfl rfl ?_)
      refine ar_gd (d := (some 20)) (by show ((decide (b.lo ≤ a.lo)) == true) = true; rw [h2]; rfl) rfl (st_bi (u := .int .i64 a.hi) (v := .int .i64 b.hi) (r := .bool (decide (a.hi ≤ b.hi))) rfl rfl rfl (bi_leq rfl) ?_)
      refine ao 21 rfl rfl (st_pkt' (b := decide (b.lo ≤ a.lo)) (v := .bool (decide (a.hi ≤ b.hi))) h2 rfl rfl rfl ?_)
      refine ao 4 rfl rfl (st_assign (v := .bool (decide (a.hi ≤ b.hi))) rfl rfl ?_)
      refine ar_nil ?_
      refine ac_ret ?_
      exact fin_eq (v := .bool (decide (a.hi ≤ b.hi))) (by show _ = (fun (r : Bool) => (.bool r : Value)) (ivInside a b); rw [ivInside, h2, h1] <;> rfl) (fin_ret (res_tmp rfl rfl))
    · refine ar_sk (d := (some 16)) (by show ((decide (b.lo ≤ a.lo)) == true) = false; rw [h2]; rfl) rfl ?_
      refine ar_sk (d := (some 17)) (by show ((decide (b.lo ≤ a.lo)) == true) = false; rw [h2]; rfl) rfl ?_
      refine ar_sk (d := (some 18)) (by show ((decide (b.lo ≤ a.lo)) == true) = false; rw [h2]; rfl) rfl ?_
      refine ar_sk (d := (some 19)) (by show ((decide (b.lo ≤ a.lo)) == true) = false; rw [h2]; rfl) rfl ?_
      refine ar_sk (d := (some 20)) (by show ((decide (b.lo ≤ a.lo)) == true) = false; rw [h2]; rfl) rfl ?_
      refine ao 21 rfl rfl (st_pkf' (b := decide (b.lo ≤ a.lo)) (v := .bool false) h2 rfl rfl rfl ?_)
      refine ao 4 rfl rfl (st_assign (v := .bool false) rfl rfl ?_)
      refine ar_nil ?_
      refine ac_ret ?_
      exact fin_eq (v := .bool false) (by show _ = (fun (r : Bool) => (.bool r : Value)) (ivInside a b); rw [ivInside, h2, h1] <;> rfl) (fin_ret (res_tmp rfl rfl))
  · refine ar_sk (d := (some 9)) (by show ((ivBoth a b) == true) = false; rw [h1]; rfl) rfl ?_
    refine ar_sk (d := (some 10)) (by show ((ivBoth a b) == true) = false; rw [h1]; rfl) rfl ?_
    refine ar_sk (d := (some 11)) (by show ((ivBoth a b) == true) = false; rw [h1]; rfl) rfl ?_
    refine ar_sk (d := (some 12)) (by show ((ivBoth a b) == true) = false; rw [h1]; rfl) rfl ?_
    refine ar_sk (d := (some 13)) (by show ((ivBoth a b) == true) = false; rw [h1]; rfl) rfl ?_
    refine ao 14 rfl rfl (st_pkf' (b := ivBoth a b) (v := .bool false) h1 rfl rfl rfl ?_)
    refine ao 15 rfl rfl (st_move (v := .bool false) rfl rfl ?_)
    refine ar_sk (d := (some 16)) rfl rfl ?_
    refine ar_sk (d := (some 17)) rfl rfl ?_
    refine ar_sk (d := (some 18)) rfl rfl ?_
    refine ar_sk (d := (some 19)) rfl rfl ?_
    refine ar_sk (d := (some 20)) rfl rfl ?_
    refine ao 21 rfl rfl (st_pkf (v := .bool false) rfl rfl rfl ?_)
    refine ao 4 rfl rfl (st_assign (v := .bool false) rfl rfl ?_)
    refine ar_nil ?_
    refine ac_ret ?_
    exact fin_eq (v := .bool false) (by show _ = (fun (r : Bool) => (.bool r : Value)) (ivInside a b); rw [ivInside, h1] <;> rfl) (fin_ret (res_tmp rfl rfl))
def ivHull (a : Iv) (b : Iv) : Iv := (bif ivBoth a b then (ivOf (min a.lo b.lo) (max a.hi b.hi)) else ivNone)
def ivMeet (a : Iv) (b : Iv) : Iv := (bif ivBoth a b then (ivOf (max a.lo b.lo) (min a.hi b.hi)) else ivNone)
def ivMid (a : Iv) : Int := (bif ivRight a then Int.fdiv (w64 (a.lo + a.hi)) 2 else 0)
def ivSplit (a : Iv) : Iv × Iv := (bif ivRight a then ((ivOf a.lo (ivMid a)), (ivOf (ivMid a) a.hi)) else (ivNone, ivNone))
end Go.Proofs.Ythngkopcadlciaa
namespace Go.Proofs.Ythngkopcadlciaa
open Go.RowKit
attribute [local irreducible] AC AR DWalk
def endsMul_e0 (a : Iv) (b : Iv) : Iv := (ivOf ((numMul a.lo b.lo false).1) ((numMul a.lo b.lo true).1))
def endsMul_e1 (a : Iv) (b : Iv) : Iv := (ivOf (min ((endsMul_e0 a b).lo) ((numMul a.lo b.lo false).1)) (max ((endsMul_e0 a b).hi) ((numMul a.lo b.lo true).1)))
def endsMul_e2 (a : Iv) (b : Iv) : Iv := (ivOf (min ((endsMul_e1 a b).lo) ((numMul a.lo b.hi false).1)) (max ((endsMul_e1 a b).hi) ((numMul a.lo b.hi true).1)))
def endsMul_e3 (a : Iv) (b : Iv) : Iv := (ivOf (min ((endsMul_e2 a b).lo) ((numMul a.hi b.lo false).1)) (max ((endsMul_e2 a b).hi) ((numMul a.hi b.lo true).1)))
def endsMul_e4 (a : Iv) (b : Iv) : Iv := (ivOf (min ((endsMul_e3 a b).lo) ((numMul a.hi b.hi false).1)) (max ((endsMul_e3 a b).hi) ((numMul a.hi b.hi true).1)))
def endsMul (a : Iv) (b : Iv) : Iv := (bif (numMul a.lo b.lo false).2 then (bif (numMul a.lo b.lo true).2 then (bif (numMul a.lo b.hi false).2 then (bif (numMul a.lo b.hi true).2 then (bif (numMul a.hi b.lo false).2 then (bif (numMul a.hi b.lo true).2 then (bif (numMul a.hi b.hi false).2 then (bif (numMul a.hi b.hi true).2 then (endsMul_e4 a b) else ivNone) else ivNone) else ivNone) else ivNone) else ivNone) else ivNone) else ivNone) else ivNone)
set_option maxRecDepth 100000 in
set_option maxHeartbeats 4000000 in
theorem c_endsMul (a : Iv) (b : Iv) : Gets Try.prog 71 #[.func (.func 100) #[] #[], .agg #[.int .i64 a.lo, .int .i64 a.hi, .bool a.no], .agg #[.int .i64 b.lo, .int .i64 b.hi, .bool b.no]] (Iv.v (endsMul a b)) := by
  refine gets_fin Try.func71 rfl rfl rfl ?_
  refine ac_seq ?_
  refine ac_region_lit ?_
  refine ao 4 rfl rfl (st_box (v := .agg #[.int .i64 a.lo, .int .i64 a.hi, .bool a.no]) (cs := [.int .i64 a.lo, .int .i64 a.hi, .bool a.no]) rfl rfl rfl fun g0 => ?_)
  refine ao 5 rfl rfl (st_box (v := .agg #[.int .i64 b.lo, .int .i64 b.hi, .bool b.no]) (cs := [.int .i64 b.lo, .int .i64 b.hi, .bool b.no]) rfl rfl rfl fun g1 => ?_)
  refine ao 6 rfl rfl (st_new zero26 rfl fun g2 => ?_)
  refine ar_nil ?_
  refine ac_seq ?_
  refine ac_region_lit ?_
  refine ao 7 rfl rfl (st_new zero26 rfl fun g3 => ?_)
  refine ar_nil ?_
  refine ac_seq ?_
  refine ac_region_lit ?_
  refine ao 8 rfl rfl (st_assign (v := .bool true) rfl rfl ?_)
  refine ar_nil ?_
  refine ac_seq ?_
  refine ac_seq ?_
  refine ac_region_lit ?_
  refine ao 17 rfl rfl (st_fa (g := g0) (off := 0) rfl fa26_0 rfl ?_)
  refine ao 18 rfl rfl (st_ldc (g := g0) (off := 0) (v := .int .i64 a.lo) cell3 3 rfl rfl rfl rfl rfl ?_)
  refine ao 19 rfl rfl (st_fa (g := g0) (off := 0) rfl fa26_1 rfl ?_)
  refine ao 20 rfl rfl (st_ldc (g := g0) (off := 1) (v := .int .i64 a.hi) cell3 3 rfl rfl rfl rfl rfl ?_)
  refine ao 21 rfl rfl (st_bd (us := [(0, .int .i64 a.lo), (1, .int .i64 a.hi)]) (v := .agg #[.int .i64 a.lo, .int .i64 a.hi]) rfl rfl (bd118_0_1 _ _) ?_)
  refine ao 22 rfl rfl (st_move (v := .int .i64 0) rfl rfl ?_)
  refine ar_nil ?_
  refine ac_block ?_
  refine ac_rounds 61 ?_
  refine ar_round ?_
  refine ac_seq ?_
  refine ac_region_lit ?_
  refine ao 23 rfl rfl (st_bi (u := .int .i64 0) (v := .int .i64 2) (r := .bool true) rfl rfl rfl (bi_lss (by decide)) ?_)
  refine ar_nil ?_
  refine ac_seq ?_
  refine ac_then rfl ?_
  refine ac_skip ?_
  refine ac_seq ?_
  refine ac_block ?_
  refine ac_seq ?_
  refine ac_region_lit ?_
  refine ao 24 rfl rfl (st_ix (u := .agg #[.int .i64 a.lo, .int .i64 a.hi]) (i := .int .i64 0) (v := .int .i64 a.lo) rfl rfl rfl (ix118_0 _ _) ?_)
  refine ao 10 rfl rfl (st_assign (v := .int .i64 a.lo) rfl rfl ?_)
  refine ar_nil ?_
  refine ac_seq ?_
  refine ac_region_lit ?_
  refine ao 25 rfl rfl (st_fa (g := g1) (off := 0) rfl fa26_0 rfl ?_)
  refine ao 26 rfl rfl (st_ldc (g := g1) (off := 0) (v := .int .i64 b.lo) cell3 2 rfl rfl rfl rfl rfl ?_)
  refine ao 27 rfl rfl (st_fa (g := g1) (off := 0) rfl fa26_1 rfl ?_)
  refine ao 28 rfl rfl (st_ldc (g := g1) (off := 1) (v := .int .i64 b.hi) cell3 2 rfl rfl rfl rfl rfl ?_)
  refine ao 29 rfl rfl (st_bd (us := [(0, .int .i64 b.lo), (1, .int .i64 b.hi)]) (v := .agg #[.int .i64 b.lo, .int .i64 b.hi]) rfl rfl (bd118_0_1 _ _) ?_)
  refine ao 30 rfl rfl (st_move (v := .int .i64 0) rfl rfl ?_)
  refine ar_nil ?_
  refine ac_block ?_
  refine ac_rounds 61 ?_
  refine ar_round ?_
  refine ac_seq ?_
  refine ac_region_lit ?_
  refine ao 31 rfl rfl (st_bi (u := .int .i64 0) (v := .int .i64 2) (r := .bool true) rfl rfl rfl (bi_lss (by decide)) ?_)
  refine ar_nil ?_
  refine ac_seq ?_
  refine ac_then rfl ?_
  refine ac_skip ?_
  refine ac_seq ?_
  refine ac_block ?_
  refine ac_seq ?_
  refine ac_region_lit ?_
  refine ao 32 rfl rfl (st_ix (u := .agg #[.int .i64 b.lo, .int .i64 b.hi]) (i := .int .i64 0) (v := .int .i64 b.lo) rfl rfl rfl (ix118_0 _ _) ?_)
  refine ao 12 rfl rfl (st_assign (v := .int .i64 b.lo) rfl rfl ?_)
  refine ar_nil ?_
  refine ac_seq ?_
  refine ac_region_lit ?_
  refine ao 34 rfl rfl (st_move (v := .func (.func 100) #[] #[]) rfl rfl ?_)
  refine ao 35 rfl rfl (st_move (v := .int .i64 a.lo) rfl rfl ?_)
  refine ao 36 rfl rfl (st_move (v := .int .i64 b.lo) rfl rfl ?_)
  refine ao 37 rfl rfl (st_cv (vs := [.int .i64 a.lo, .int .i64 b.lo, .bool false]) (r := .tuple #[.int .i64 ((numMul a.lo b.lo false).1), .bool ((numMul a.lo b.lo false).2)]) (c_numMul a.lo b.lo false) Try.func100 rfl (by decide) rfl rfl rfl ?_)
  refine ao 33 rfl rfl (st_move (v := .tuple #[.int .i64 ((numMul a.lo b.lo false).1), .bool ((numMul a.lo b.lo false).2)]) rfl rfl ?_)
  refine ao 38 rfl rfl (st_ex (vs := [.int .i64 ((numMul a.lo b.lo false).1), .bool ((numMul a.lo b.lo false).2)]) (v := .int .i64 ((numMul a.lo b.lo false).1)) rfl rfl rfl ?_)
  refine ao 39 rfl rfl (st_ex (vs := [.int .i64 ((numMul a.lo b.lo false).1), .bool ((numMul a.lo b.lo false).2)]) (v := .bool ((numMul a.lo b.lo false).2)) rfl rfl rfl ?_)
  refine ao 13 rfl rfl (st_assign (v := .int .i64 ((numMul a.lo b.lo false).1)) rfl rfl ?_)
  refine ao 14 rfl rfl (st_assign (v := .bool ((numMul a.lo b.lo false).2)) rfl rfl ?_)
  refine ar_nil ?_
  refine ac_seq ?_
  refine ac_region_lit ?_
  refine ao 41 rfl rfl (st_move (v := .func (.func 100) #[] #[]) rfl rfl ?_)
  refine ao 42 rfl rfl (st_move (v := .int .i64 a.lo) rfl rfl ?_)
  refine ao 43 rfl rfl (st_move (v := .int .i64 b.lo) rfl rfl ?_)
  refine ao 44 rfl rfl (st_cv (vs := [.int .i64 a.lo, .int .i64 b.lo, .bool true]) (r := .tuple #[.int .i64 ((numMul a.lo b.lo true).1), .bool ((numMul a.lo b.lo true).2)]) (c_numMul a.lo b.lo true) Try.func100 rfl (by decide) rfl rfl rfl ?_)
  refine ao 40 rfl rfl (st_move (v := .tuple #[.int .i64 ((numMul a.lo b.lo true).1), .bool ((numMul a.lo b.lo true).2)]) rfl rfl ?_)
  refine ao 45 rfl rfl (st_ex (vs := [.int .i64 ((numMul a.lo b.lo true).1), .bool ((numMul a.lo b.lo true).2)]) (v := .int .i64 ((numMul a.lo b.lo true).1)) rfl rfl rfl ?_)
  refine ao 46 rfl rfl (st_ex (vs := [.int .i64 ((numMul a.lo b.lo true).1), .bool ((numMul a.lo b.lo true).2)]) (v := .bool ((numMul a.lo b.lo true).2)) rfl rfl rfl ?_)
  refine ao 15 rfl rfl (st_assign (v := .int .i64 ((numMul a.lo b.lo true).1)) rfl rfl ?_)
  refine ao 16 rfl rfl (st_assign (v := .bool ((numMul a.lo b.lo true).2)) rfl rfl ?_)
  refine ar_nil ?_
  refine ac_seq ?_
  refine ac_seq ?_
  refine ac_region_lit ?_
  refine ao 47 rfl rfl (st_move (v := .bool ((numMul a.lo b.lo false).2)) rfl rfl ?_)
  refine ao 48 rfl rfl (st_un (u := .bool ((numMul a.lo b.lo false).2)) (v := .bool (!((numMul a.lo b.lo false).2))) rfl rfl (un_not rfl) ?_)
  refine ao 49 rfl rfl (st_move (v := .bool (!((numMul a.lo b.lo false).2))) rfl rfl ?_)
  refine bool_split ((numMul a.lo b.lo false).2) (fun h1 => ?_) (fun h1 => ?_)
  · refine ar_gd (d := (some 50)) (by show ((!((numMul a.lo b.lo false).2)) == false) = true; rw [h1]; rfl) rfl (st_move (v := .bool ((numMul a.lo b.lo true).2)) rfl rfl ?_)
    refine ar_gd (d := (some 51)) (by show ((!((numMul a.lo b.lo false).2)) == false) = true; rw [h1]; rfl) rfl (st_un (u := .bool ((numMul a.lo b.lo true).2)) (v := .bool (!((numMul a.lo b.lo true).2))) rfl rfl (un_not rfl) ?_)
    refine ao 52 rfl rfl (st_pkf' (b := !((numMul a.lo b.lo false).2)) (v := .bool (!((numMul a.lo b.lo true).2))) (by rw [h1]; rfl) rfl rfl rfl ?_)
    refine ar_nil ?_
    refine bool_split ((numMul a.lo b.lo true).2) (fun h2 => ?_) (fun h2 => ?_)
    · refine ac_else' (b := !((numMul a.lo b.lo true).2)) (by rw [h2]; rfl) rfl ?_
      refine ac_skip ?_
      refine ac_seq ?_
      refine ac_seq ?_
      refine ac_region_lit ?_
      refine ao 54 rfl rfl (st_move (v := .bool true) rfl rfl ?_)
      refine ar_nil ?_
      refine ac_then rfl ?_
      refine ac_region_lit ?_
      refine ao 55 rfl rfl (st_move (v := .int .i64 ((numMul a.lo b.lo false).1)) rfl rfl ?_)
      refine ao 56 rfl rfl (st_move (v := .int .i64 ((numMul a.lo b.lo true).1)) rfl rfl ?_)
      refine ao 57 rfl rfl (st_cf (vs := [.int .i64 ((numMul a.lo b.lo false).1), .int .i64 ((numMul a.lo b.lo true).1)]) (r := .agg #[.int .i64 ((endsMul_e0 a b).lo), .int .i64 ((endsMul_e0 a b).hi), .bool ((endsMul_e0 a b).no)]) (c_ivOf ((numMul a.lo b.lo false).1) ((numMul a.lo b.lo true).1)) Try.func70 rfl (by decide) rfl rfl rfl ?_)
      refine ar_op (d := none) rfl rfl (st_sta (g := g3) (off := 0) (us := [.int .i64 ((endsMul_e0 a b).lo), .int .i64 ((endsMul_e0 a b).hi), .bool ((endsMul_e0 a b).no)]) (cs := [.int .i64 ((endsMul_e0 a b).lo), .int .i64 ((endsMul_e0 a b).hi), .bool ((endsMul_e0 a b).no)]) agg26 0 rfl rfl rfl rfl rfl rfl rfl rfl rfl ?_)
      refine ao 8 rfl rfl (st_assign (v := .bool false) rfl rfl ?_)
      refine ar_nil ?_
      refine ac_region_lit ?_
      refine ao 58 rfl rfl (st_fa (g := g3) (off := 0) rfl fa26_0 rfl ?_)
      refine ao 59 rfl rfl (st_ldc (g := g3) (off := 0) (v := .int .i64 ((endsMul_e0 a b).lo)) cell3 0 rfl rfl rfl rfl rfl ?_)
      refine ao 60 rfl rfl (st_move (v := .int .i64 ((numMul a.lo b.lo false).1)) rfl rfl ?_)
      refine ao 61 rfl rfl (st_mn (x := ((endsMul_e0 a b).lo)) (y := ((numMul a.lo b.lo false).1)) (c := (min ((endsMul_e0 a b).lo) ((numMul a.lo b.lo false).1))) rfl rfl rfl ?_)
      refine ao 62 rfl rfl (st_fa (g := g3) (off := 0) rfl fa26_1 rfl ?_)
      refine ao 63 rfl rfl (st_ldc (g := g3) (off := 1) (v := .int .i64 ((endsMul_e0 a b).hi)) cell3 0 rfl rfl rfl rfl rfl ?_)
      refine ao 64 rfl rfl (st_move (v := .int .i64 ((numMul a.lo b.lo true).1)) rfl rfl ?_)
      refine ao 65 rfl rfl (st_mx (x := ((endsMul_e0 a b).hi)) (y := ((numMul a.lo b.lo true).1)) (c := (max ((endsMul_e0 a b).hi) ((numMul a.lo b.lo true).1))) rfl rfl rfl ?_)
      refine ao 66 rfl rfl (st_cf (vs := [.int .i64 (min ((endsMul_e0 a b).lo) ((numMul a.lo b.lo false).1)), .int .i64 (max ((endsMul_e0 a b).hi) ((numMul a.lo b.lo true).1))]) (r := .agg #[.int .i64 ((endsMul_e1 a b).lo), .int .i64 ((endsMul_e1 a b).hi), .bool ((endsMul_e1 a b).no)]) (c_ivOf (min ((endsMul_e0 a b).lo) ((numMul a.lo b.lo false).1)) (max ((endsMul_e0 a b).hi) ((numMul a.lo b.lo true).1))) Try.func70 rfl (by decide) rfl rfl rfl ?_)
      refine ar_op (d := none) rfl rfl (st_sta (g := g3) (off := 0) (us := [.int .i64 ((endsMul_e1 a b).lo), .int .i64 ((endsMul_e1 a b).hi), .bool ((endsMul_e1 a b).no)]) (cs := [.int .i64 ((endsMul_e1 a b).lo), .int .i64 ((endsMul_e1 a b).hi), .bool ((endsMul_e1 a b).no)]) agg26 0 rfl rfl rfl rfl rfl rfl rfl rfl rfl ?_)
      refine ar_nil ?_
      refine ac_region_lit ?_
      refine ao 67 rfl rfl (st_bi (u := .int .i64 0) (v := .int .i64 1) (r := .int .i64 1) rfl rfl rfl (bi_add (by decide)) ?_)
      refine ao 30 rfl rfl (st_move (v := .int .i64 1) rfl rfl ?_)
      refine ar_nil ?_
      refine ar_round ?_
      refine ac_seq ?_
      refine ac_region_lit ?_
      refine ao 31 rfl rfl (st_bi (u := .int .i64 1) (v := .int .i64 2) (r := .bool true) rfl rfl rfl (bi_lss (by decide)) ?_)
      refine ar_nil ?_
      refine ac_seq ?_
      refine ac_then rfl ?_
      refine ac_skip ?_
      refine ac_seq ?_
      refine ac_block ?_
      refine ac_seq ?_
      refine ac_region_lit ?_
      refine ao 32 rfl rfl (st_ix (u := .agg #[.int .i64 b.lo, .int .i64 b.hi]) (i := .int .i64 1) (v := .int .i64 b.hi) rfl rfl rfl (ix118_1 _ _) ?_)
      refine ao 12 rfl rfl (st_assign (v := .int .i64 b.hi) rfl rfl ?_)
      refine ar_nil ?_
      refine ac_seq ?_
      refine ac_region_lit ?_
      refine ao 34 rfl rfl (st_move (v := .func (.func 100) #[] #[]) rfl rfl ?_)
      refine ao 35 rfl rfl (st_move (v := .int .i64 a.lo) rfl rfl ?_)
      refine ao 36 rfl rfl (st_move (v := .int .i64 b.hi) rfl rfl ?_)
      refine ao 37 rfl rfl (st_cv (vs := [.int .i64 a.lo, .int .i64 b.hi, .bool false]) (r := .tuple #[.int .i64 ((numMul a.lo b.hi false).1), .bool ((numMul a.lo b.hi false).2)]) (c_numMul a.lo b.hi false) Try.func100 rfl (by decide) rfl rfl rfl ?_)
      refine ao 33 rfl rfl (st_move (v := .tuple #[.int .i64 ((numMul a.lo b.hi false).1), .bool ((numMul a.lo b.hi false).2)]) rfl rfl ?_)
      refine ao 38 rfl rfl (st_ex (vs := [.int .i64 ((numMul a.lo b.hi false).1), .bool ((numMul a.lo b.hi false).2)]) (v := .int .i64 ((numMul a.lo b.hi false).1)) rfl rfl rfl ?_)
      refine ao 39 rfl rfl (st_ex (vs := [.int .i64 ((numMul a.lo b.hi false).1), .bool ((numMul a.lo b.hi false).2)]) (v := .bool ((numMul a.lo b.hi false).2)) rfl rfl rfl ?_)
      refine ao 13 rfl rfl (st_assign (v := .int .i64 ((numMul a.lo b.hi false).1)) rfl rfl ?_)
      refine ao 14 rfl rfl (st_assign (v := .bool ((numMul a.lo b.hi false).2)) rfl rfl ?_)
      refine ar_nil ?_
      refine ac_seq ?_
      refine ac_region_lit ?_
      refine ao 41 rfl rfl (st_move (v := .func (.func 100) #[] #[]) rfl rfl ?_)
      refine ao 42 rfl rfl (st_move (v := .int .i64 a.lo) rfl rfl ?_)
      refine ao 43 rfl rfl (st_move (v := .int .i64 b.hi) rfl rfl ?_)
      refine ao 44 rfl rfl (st_cv (vs := [.int .i64 a.lo, .int .i64 b.hi, .bool true]) (r := .tuple #[.int .i64 ((numMul a.lo b.hi true).1), .bool ((numMul a.lo b.hi true).2)]) (c_numMul a.lo b.hi true) Try.func100 rfl (by decide) rfl rfl rfl ?_)
      refine ao 40 rfl rfl (st_move (v := .tuple #[.int .i64 ((numMul a.lo b.hi true).1), .bool ((numMul a.lo b.hi true).2)]) rfl rfl ?_)
      refine ao 45 rfl rfl (st_ex (vs := [.int .i64 ((numMul a.lo b.hi true).1), .bool ((numMul a.lo b.hi true).2)]) (v := .int .i64 ((numMul a.lo b.hi true).1)) rfl rfl rfl ?_)
      refine ao 46 rfl rfl (st_ex (vs := [.int .i64 ((numMul a.lo b.hi true).1), .bool ((numMul a.lo b.hi true).2)]) (v := .bool ((numMul a.lo b.hi true).2)) rfl rfl rfl ?_)
      refine ao 15 rfl rfl (st_assign (v := .int .i64 ((numMul a.lo b.hi true).1)) rfl rfl ?_)
      refine ao 16 rfl rfl (st_assign (v := .bool ((numMul a.lo b.hi true).2)) rfl rfl ?_)
      refine ar_nil ?_
      refine ac_seq ?_
      refine ac_seq ?_
      refine ac_region_lit ?_
      refine ao 47 rfl rfl (st_move (v := .bool ((numMul a.lo b.hi false).2)) rfl rfl ?_)
      refine ao 48 rfl rfl (st_un (u := .bool ((numMul a.lo b.hi false).2)) (v := .bool (!((numMul a.lo b.hi false).2))) rfl rfl (un_not rfl) ?_)
      refine ao 49 rfl rfl (st_move (v := .bool (!((numMul a.lo b.hi false).2))) rfl rfl ?_)
      refine bool_split ((numMul a.lo b.hi false).2) (fun h3 => ?_) (fun h3 => ?_)
      · refine ar_gd (d := (some 50)) (by show ((!((numMul a.lo b.hi false).2)) == false) = true; rw [h3]; rfl) rfl (st_move (v := .bool ((numMul a.lo b.hi true).2)) rfl rfl ?_)
        refine ar_gd (d := (some 51)) (by show ((!((numMul a.lo b.hi false).2)) == false) = true; rw [h3]; rfl) rfl (st_un (u := .bool ((numMul a.lo b.hi true).2)) (v := .bool (!((numMul a.lo b.hi true).2))) rfl rfl (un_not rfl) ?_)
        refine ao 52 rfl rfl (st_pkf' (b := !((numMul a.lo b.hi false).2)) (v := .bool (!((numMul a.lo b.hi true).2))) (by rw [h3]; rfl) rfl rfl rfl ?_)
        refine ar_nil ?_
        refine bool_split ((numMul a.lo b.hi true).2) (fun h4 => ?_) (fun h4 => ?_)
        · refine ac_else' (b := !((numMul a.lo b.hi true).2)) (by rw [h4]; rfl) rfl ?_
          refine ac_skip ?_
          refine ac_seq ?_
          refine ac_seq ?_
          refine ac_region_lit ?_
          refine ao 54 rfl rfl (st_move (v := .bool false) rfl rfl ?_)
          refine ar_nil ?_
          refine ac_else rfl ?_
          refine ac_skip ?_
          refine ac_region_lit ?_
          refine ao 58 rfl rfl (st_fa (g := g3) (off := 0) rfl fa26_0 rfl ?_)
          refine ao 59 rfl rfl (st_ldc (g := g3) (off := 0) (v := .int .i64 ((endsMul_e1 a b).lo)) cell3 0 rfl rfl rfl rfl rfl ?_)
          refine ao 60 rfl rfl (st_move (v := .int .i64 ((numMul a.lo b.hi false).1)) rfl rfl ?_)
          refine ao 61 rfl rfl (st_mn (x := ((endsMul_e1 a b).lo)) (y := ((numMul a.lo b.hi false).1)) (c := (min ((endsMul_e1 a b).lo) ((numMul a.lo b.hi false).1))) rfl rfl rfl ?_)
          refine ao 62 rfl rfl (st_fa (g := g3) (off := 0) rfl fa26_1 rfl ?_)
          refine ao 63 rfl rfl (st_ldc (g := g3) (off := 1) (v := .int .i64 ((endsMul_e1 a b).hi)) cell3 0 rfl rfl rfl rfl rfl ?_)
          refine ao 64 rfl rfl (st_move (v := .int .i64 ((numMul a.lo b.hi true).1)) rfl rfl ?_)
          refine ao 65 rfl rfl (st_mx (x := ((endsMul_e1 a b).hi)) (y := ((numMul a.lo b.hi true).1)) (c := (max ((endsMul_e1 a b).hi) ((numMul a.lo b.hi true).1))) rfl rfl rfl ?_)
          refine ao 66 rfl rfl (st_cf (vs := [.int .i64 (min ((endsMul_e1 a b).lo) ((numMul a.lo b.hi false).1)), .int .i64 (max ((endsMul_e1 a b).hi) ((numMul a.lo b.hi true).1))]) (r := .agg #[.int .i64 ((endsMul_e2 a b).lo), .int .i64 ((endsMul_e2 a b).hi), .bool ((endsMul_e2 a b).no)]) (c_ivOf (min ((endsMul_e1 a b).lo) ((numMul a.lo b.hi false).1)) (max ((endsMul_e1 a b).hi) ((numMul a.lo b.hi true).1))) Try.func70 rfl (by decide) rfl rfl rfl ?_)
          refine ar_op (d := none) rfl rfl (st_sta (g := g3) (off := 0) (us := [.int .i64 ((endsMul_e2 a b).lo), .int .i64 ((endsMul_e2 a b).hi), .bool ((endsMul_e2 a b).no)]) (cs := [.int .i64 ((endsMul_e2 a b).lo), .int .i64 ((endsMul_e2 a b).hi), .bool ((endsMul_e2 a b).no)]) agg26 0 rfl rfl rfl rfl rfl rfl rfl rfl rfl ?_)
          refine ar_nil ?_
          refine ac_region_lit ?_
          refine ao 67 rfl rfl (st_bi (u := .int .i64 1) (v := .int .i64 1) (r := .int .i64 2) rfl rfl rfl (bi_add (by decide)) ?_)
          refine ao 30 rfl rfl (st_move (v := .int .i64 2) rfl rfl ?_)
          refine ar_nil ?_
          refine ar_round ?_
          refine ac_seq ?_
          refine ac_region_lit ?_
          refine ao 31 rfl rfl (st_bi (u := .int .i64 2) (v := .int .i64 2) (r := .bool false) rfl rfl rfl (bi_lss (by decide)) ?_)
          refine ar_nil ?_
          refine ac_seq ?_
          refine ac_else rfl ?_
          refine ac_exit ?_
          refine ac_region_lit ?_
          refine ao 68 rfl rfl (st_bi (u := .int .i64 0) (v := .int .i64 1) (r := .int .i64 1) rfl rfl rfl (bi_add (by decide)) ?_)
          refine ao 22 rfl rfl (st_move (v := .int .i64 1) rfl rfl ?_)
          refine ar_nil ?_
          refine ar_round ?_
          refine ac_seq ?_
          refine ac_region_lit ?_
          refine ao 23 rfl rfl (st_bi (u := .int .i64 1) (v := .int .i64 2) (r := .bool true) rfl rfl rfl (bi_lss (by decide)) ?_)
          refine ar_nil ?_
          refine ac_seq ?_
          refine ac_then rfl ?_
          refine ac_skip ?_
          refine ac_seq ?_
          refine ac_block ?_
          refine ac_seq ?_
          refine ac_region_lit ?_
          refine ao 24 rfl rfl (st_ix (u := .agg #[.int .i64 a.lo, .int .i64 a.hi]) (i := .int .i64 1) (v := .int .i64 a.hi) rfl rfl rfl (ix118_1 _ _) ?_)
          refine ao 10 rfl rfl (st_assign (v := .int .i64 a.hi) rfl rfl ?_)
          refine ar_nil ?_
          refine ac_seq ?_
          refine ac_region_lit ?_
          refine ao 25 rfl rfl (st_fa (g := g1) (off := 0) rfl fa26_0 rfl ?_)
          refine ao 26 rfl rfl (st_ldc (g := g1) (off := 0) (v := .int .i64 b.lo) cell3 2 rfl rfl rfl rfl rfl ?_)
          refine ao 27 rfl rfl (st_fa (g := g1) (off := 0) rfl fa26_1 rfl ?_)
          refine ao 28 rfl rfl (st_ldc (g := g1) (off := 1) (v := .int .i64 b.hi) cell3 2 rfl rfl rfl rfl rfl ?_)
          refine ao 29 rfl rfl (st_bd (us := [(0, .int .i64 b.lo), (1, .int .i64 b.hi)]) (v := .agg #[.int .i64 b.lo, .int .i64 b.hi]) rfl rfl (bd118_0_1 _ _) ?_)
          refine ao 30 rfl rfl (st_move (v := .int .i64 0) rfl rfl ?_)
          refine ar_nil ?_
          refine ac_block ?_
          refine ac_rounds 61 ?_
          refine ar_round ?_
          refine ac_seq ?_
          refine ac_region_lit ?_
          refine ao 31 rfl rfl (st_bi (u := .int .i64 0) (v := .int .i64 2) (r := .bool true) rfl rfl rfl (bi_lss (by decide)) ?_)
          refine ar_nil ?_
          refine ac_seq ?_
          refine ac_then rfl ?_
          refine ac_skip ?_
          refine ac_seq ?_
          refine ac_block ?_
          refine ac_seq ?_
          refine ac_region_lit ?_
          refine ao 32 rfl rfl (st_ix (u := .agg #[.int .i64 b.lo, .int .i64 b.hi]) (i := .int .i64 0) (v := .int .i64 b.lo) rfl rfl rfl (ix118_0 _ _) ?_)
          refine ao 12 rfl rfl (st_assign (v := .int .i64 b.lo) rfl rfl ?_)
          refine ar_nil ?_
          refine ac_seq ?_
          refine ac_region_lit ?_
          refine ao 34 rfl rfl (st_move (v := .func (.func 100) #[] #[]) rfl rfl ?_)
          refine ao 35 rfl rfl (st_move (v := .int .i64 a.hi) rfl rfl ?_)
          refine ao 36 rfl rfl (st_move (v := .int .i64 b.lo) rfl rfl ?_)
          refine ao 37 rfl rfl (st_cv (vs := [.int .i64 a.hi, .int .i64 b.lo, .bool false]) (r := .tuple #[.int .i64 ((numMul a.hi b.lo false).1), .bool ((numMul a.hi b.lo false).2)]) (c_numMul a.hi b.lo false) Try.func100 rfl (by decide) rfl rfl rfl ?_)
          refine ao 33 rfl rfl (st_move (v := .tuple #[.int .i64 ((numMul a.hi b.lo false).1), .bool ((numMul a.hi b.lo false).2)]) rfl rfl ?_)
          refine ao 38 rfl rfl (st_ex (vs := [.int .i64 ((numMul a.hi b.lo false).1), .bool ((numMul a.hi b.lo false).2)]) (v := .int .i64 ((numMul a.hi b.lo false).1)) rfl rfl rfl ?_)
          refine ao 39 rfl rfl (st_ex (vs := [.int .i64 ((numMul a.hi b.lo false).1), .bool ((numMul a.hi b.lo false).2)]) (v := .bool ((numMul a.hi b.lo false).2)) rfl rfl rfl ?_)
          refine ao 13 rfl rfl (st_assign (v := .int .i64 ((numMul a.hi b.lo false).1)) rfl rfl ?_)
          refine ao 14 rfl rfl (st_assign (v := .bool ((numMul a.hi b.lo false).2)) rfl rfl ?_)
          refine ar_nil ?_
          refine ac_seq ?_
          refine ac_region_lit ?_
          refine ao 41 rfl rfl (st_move (v := .func (.func 100) #[] #[]) rfl rfl ?_)
          refine ao 42 rfl rfl (st_move (v := .int .i64 a.hi) rfl rfl ?_)
          refine ao 43 rfl rfl (st_move (v := .int .i64 b.lo) rfl rfl ?_)
          refine ao 44 rfl rfl (st_cv (vs := [.int .i64 a.hi, .int .i64 b.lo, .bool true]) (r := .tuple #[.int .i64 ((numMul a.hi b.lo true).1), .bool ((numMul a.hi b.lo true).2)]) (c_numMul a.hi b.lo true) Try.func100 rfl (by decide) rfl rfl rfl ?_)
          refine ao 40 rfl rfl (st_move (v := .tuple #[.int .i64 ((numMul a.hi b.lo true).1), .bool ((numMul a.hi b.lo true).2)]) rfl rfl ?_)
          refine ao 45 rfl rfl (st_ex (vs := [.int .i64 ((numMul a.hi b.lo true).1), .bool ((numMul a.hi b.lo true).2)]) (v := .int .i64 ((numMul a.hi b.lo true).1)) rfl rfl rfl ?_)
          refine ao 46 rfl rfl (st_ex (vs := [.int .i64 ((numMul a.hi b.lo true).1), .bool ((numMul a.hi b.lo true).2)]) (v := .bool ((numMul a.hi b.lo true).2)) rfl rfl rfl ?_)
          refine ao 15 rfl rfl (st_assign (v := .int .i64 ((numMul a.hi b.lo true).1)) rfl rfl ?_)
          refine ao 16 rfl rfl (st_assign (v := .bool ((numMul a.hi b.lo true).2)) rfl rfl ?_)
          refine ar_nil ?_
          refine ac_seq ?_
          refine ac_seq ?_
          refine ac_region_lit ?_
          refine ao 47 rfl rfl (st_move (v := .bool ((numMul a.hi b.lo false).2)) rfl rfl ?_)
          refine ao 48 rfl rfl (st_un (u := .bool ((numMul a.hi b.lo false).2)) (v := .bool (!((numMul a.hi b.lo false).2))) rfl rfl (un_not rfl) ?_)
          refine ao 49 rfl rfl (st_move (v := .bool (!((numMul a.hi b.lo false).2))) rfl rfl ?_)
          refine bool_split ((numMul a.hi b.lo false).2) (fun h5 => ?_) (fun h5 => ?_)
          · refine ar_gd (d := (some 50)) (by show ((!((numMul a.hi b.lo false).2)) == false) = true; rw [h5]; rfl) rfl (st_move (v := .bool ((numMul a.hi b.lo true).2)) rfl rfl ?_)
            refine ar_gd (d := (some 51)) (by show ((!((numMul a.hi b.lo false).2)) == false) = true; rw [h5]; rfl) rfl (st_un (u := .bool ((numMul a.hi b.lo true).2)) (v := .bool (!((numMul a.hi b.lo true).2))) rfl rfl (un_not rfl) ?_)
            refine ao 52 rfl rfl (st_pkf' (b := !((numMul a.hi b.lo false).2)) (v := .bool (!((numMul a.hi b.lo true).2))) (by rw [h5]; rfl) rfl rfl rfl ?_)
            refine ar_nil ?_
            refine bool_split ((numMul a.hi b.lo true).2) (fun h6 => ?_) (fun h6 => ?_)
            · refine ac_else' (b := !((numMul a.hi b.lo true).2)) (by rw [h6]; rfl) rfl ?_
              refine ac_skip ?_
              refine ac_seq ?_
              refine ac_seq ?_
              refine ac_region_lit ?_
              refine ao 54 rfl rfl (st_move (v := .bool false) rfl rfl ?_)
              refine ar_nil ?_
              refine ac_else rfl ?_
              refine ac_skip ?_
              refine ac_region_lit ?_
              refine ao 58 rfl rfl (st_fa (g := g3) (off := 0) rfl fa26_0 rfl ?_)
              refine ao 59 rfl rfl (st_ldc (g := g3) (off := 0) (v := .int .i64 ((endsMul_e2 a b).lo)) cell3 0 rfl rfl rfl rfl rfl ?_)
              refine ao 60 rfl rfl (st_move (v := .int .i64 ((numMul a.hi b.lo false).1)) rfl rfl ?_)
              refine ao 61 rfl rfl (st_mn (x := ((endsMul_e2 a b).lo)) (y := ((numMul a.hi b.lo false).1)) (c := (min ((endsMul_e2 a b).lo) ((numMul a.hi b.lo false).1))) rfl rfl rfl ?_)
              refine ao 62 rfl rfl (st_fa (g := g3) (off := 0) rfl fa26_1 rfl ?_)
              refine ao 63 rfl rfl (st_ldc (g := g3) (off := 1) (v := .int .i64 ((endsMul_e2 a b).hi)) cell3 0 rfl rfl rfl rfl rfl ?_)
              refine ao 64 rfl rfl (st_move (v := .int .i64 ((numMul a.hi b.lo true).1)) rfl rfl ?_)
              refine ao 65 rfl rfl (st_mx (x := ((endsMul_e2 a b).hi)) (y := ((numMul a.hi b.lo true).1)) (c := (max ((endsMul_e2 a b).hi) ((numMul a.hi b.lo true).1))) rfl rfl rfl ?_)
              refine ao 66 rfl rfl (st_cf (vs := [.int .i64 (min ((endsMul_e2 a b).lo) ((numMul a.hi b.lo false).1)), .int .i64 (max ((endsMul_e2 a b).hi) ((numMul a.hi b.lo true).1))]) (r := .agg #[.int .i64 ((endsMul_e3 a b).lo), .int .i64 ((endsMul_e3 a b).hi), .bool ((endsMul_e3 a b).no)]) (c_ivOf (min ((endsMul_e2 a b).lo) ((numMul a.hi b.lo false).1)) (max ((endsMul_e2 a b).hi) ((numMul a.hi b.lo true).1))) Try.func70 rfl (by decide) rfl rfl rfl ?_)
              refine ar_op (d := none) rfl rfl (st_sta (g := g3) (off := 0) (us := [.int .i64 ((endsMul_e3 a b).lo), .int .i64 ((endsMul_e3 a b).hi), .bool ((endsMul_e3 a b).no)]) (cs := [.int .i64 ((endsMul_e3 a b).lo), .int .i64 ((endsMul_e3 a b).hi), .bool ((endsMul_e3 a b).no)]) agg26 0 rfl rfl rfl rfl rfl rfl rfl rfl rfl ?_)
              refine ar_nil ?_
              refine ac_region_lit ?_
              refine ao 67 rfl rfl (st_bi (u := .int .i64 0) (v := .int .i64 1) (r := .int .i64 1) rfl rfl rfl (bi_add (by decide)) ?_)
              refine ao 30 rfl rfl (st_move (v := .int .i64 1) rfl rfl ?_)
              refine ar_nil ?_
              refine ar_round ?_
              refine ac_seq ?_
              refine ac_region_lit ?_
              refine ao 31 rfl rfl (st_bi (u := .int .i64 1) (v := .int .i64 2) (r := .bool true) rfl rfl rfl (bi_lss (by decide)) ?_)
              refine ar_nil ?_
              refine ac_seq ?_
              refine ac_then rfl ?_
              refine ac_skip ?_
              refine ac_seq ?_
              refine ac_block ?_
              refine ac_seq ?_
              refine ac_region_lit ?_
              refine ao 32 rfl rfl (st_ix (u := .agg #[.int .i64 b.lo, .int .i64 b.hi]) (i := .int .i64 1) (v := .int .i64 b.hi) rfl rfl rfl (ix118_1 _ _) ?_)
              refine ao 12 rfl rfl (st_assign (v := .int .i64 b.hi) rfl rfl ?_)
              refine ar_nil ?_
              refine ac_seq ?_
              refine ac_region_lit ?_
              refine ao 34 rfl rfl (st_move (v := .func (.func 100) #[] #[]) rfl rfl ?_)
              refine ao 35 rfl rfl (st_move (v := .int .i64 a.hi) rfl rfl ?_)
              refine ao 36 rfl rfl (st_move (v := .int .i64 b.hi) rfl rfl ?_)
              refine ao 37 rfl rfl (st_cv (vs := [.int .i64 a.hi, .int .i64 b.hi, .bool false]) (r := .tuple #[.int .i64 ((numMul a.hi b.hi false).1), .bool ((numMul a.hi b.hi false).2)]) (c_numMul a.hi b.hi false) Try.func100 rfl (by decide) rfl rfl rfl ?_)
              refine ao 33 rfl rfl (st_move (v := .tuple #[.int .i64 ((numMul a.hi b.hi false).1), .bool ((numMul a.hi b.hi false).2)]) rfl rfl ?_)
              refine ao 38 rfl rfl (st_ex (vs := [.int .i64 ((numMul a.hi b.hi false).1), .bool ((numMul a.hi b.hi false).2)]) (v := .int .i64 ((numMul a.hi b.hi false).1)) rfl rfl rfl ?_)
              refine ao 39 rfl rfl (st_ex (vs := [.int .i64 ((numMul a.hi b.hi false).1), .bool ((numMul a.hi b.hi false).2)]) (v := .bool ((numMul a.hi b.hi false).2)) rfl rfl rfl ?_)
              refine ao 13 rfl rfl (st_assign (v := .int .i64 ((numMul a.hi b.hi false).1)) rfl rfl ?_)
              refine ao 14 rfl rfl (st_assign (v := .bool ((numMul a.hi b.hi false).2)) rfl rfl ?_)
              refine ar_nil ?_
              refine ac_seq ?_
              refine ac_region_lit ?_
              refine ao 41 rfl rfl (st_move (v := .func (.func 100) #[] #[]) rfl rfl ?_)
              refine ao 42 rfl rfl (st_move (v := .int .i64 a.hi) rfl rfl ?_)
              refine ao 43 rfl rfl (st_move (v := .int .i64 b.hi) rfl rfl ?_)
              refine ao 44 rfl rfl (st_cv (vs := [.int .i64 a.hi, .int .i64 b.hi, .bool true]) (r := .tuple #[.int .i64 ((numMul a.hi b.hi true).1), .bool ((numMul a.hi b.hi true).2)]) (c_numMul a.hi b.hi true) Try.func100 rfl (by decide) rfl rfl rfl ?_)
              refine ao 40 rfl rfl (st_move (v := .tuple #[.int .i64 ((numMul a.hi b.hi true).1), .bool ((numMul a.hi b.hi true).2)]) rfl rfl ?_)
              refine ao 45 rfl rfl (st_ex (vs := [.int .i64 ((numMul a.hi b.hi true).1), .bool ((numMul a.hi b.hi true).2)]) (v := .int .i64 ((numMul a.hi b.hi true).1)) rfl rfl rfl ?_)
              refine ao 46 rfl rfl (st_ex (vs := [.int .i64 ((numMul a.hi b.hi true).1), .bool ((numMul a.hi b.hi true).2)]) (v := .bool ((numMul a.hi b.hi true).2)) rfl rfl rfl ?_)
              refine ao 15 rfl rfl (st_assign (v := .int .i64 ((numMul a.hi b.hi true).1)) rfl rfl ?_)
              refine ao 16 rfl rfl (st_assign (v := .bool ((numMul a.hi b.hi true).2)) rfl rfl ?_)
              refine ar_nil ?_
              refine ac_seq ?_
              refine ac_seq ?_
              refine ac_region_lit ?_
              refine ao 47 rfl rfl (st_move (v := .bool ((numMul a.hi b.hi false).2)) rfl rfl ?_)
              refine ao 48 rfl rfl (st_un (u := .bool ((numMul a.hi b.hi false).2)) (v := .bool (!((numMul a.hi b.hi false).2))) rfl rfl (un_not rfl) ?_)
              refine ao 49 rfl rfl (st_move (v := .bool (!((numMul a.hi b.hi false).2))) rfl rfl ?_)
              refine bool_split ((numMul a.hi b.hi false).2) (fun h7 => ?_) (fun h7 => ?_)
              · refine ar_gd (d := (some 50)) (by show ((!((numMul a.hi b.hi false).2)) == false) = true; rw [h7]; rfl) rfl (st_move (v := .bool ((numMul a.hi b.hi true).2)) rfl rfl ?_)
                refine ar_gd (d := (some 51)) (by show ((!((numMul a.hi b.hi false).2)) == false) = true; rw [h7]; rfl) rfl (st_un (u := .bool ((numMul a.hi b.hi true).2)) (v := .bool (!((numMul a.hi b.hi true).2))) rfl rfl (un_not rfl) ?_)
                refine ao 52 rfl rfl (st_pkf' (b := !((numMul a.hi b.hi false).2)) (v := .bool (!((numMul a.hi b.hi true).2))) (by rw [h7]; rfl) rfl rfl rfl ?_)
                refine ar_nil ?_
                refine bool_split ((numMul a.hi b.hi true).2) (fun h8 => ?_) (fun h8 => ?_)
                · refine ac_else' (b := !((numMul a.hi b.hi true).2)) (by rw [h8]; rfl) rfl ?_
                  refine ac_skip ?_
                  refine ac_seq ?_
                  refine ac_seq ?_
                  refine ac_region_lit ?_
                  refine ao 54 rfl rfl (st_move (v := .bool false) rfl rfl ?_)
                  refine ar_nil ?_
                  refine ac_else rfl ?_
                  refine ac_skip ?_
                  refine ac_region_lit ?_
                  refine ao 58 rfl rfl (st_fa (g := g3) (off := 0) rfl fa26_0 rfl ?_)
                  refine ao 59 rfl rfl (st_ldc (g := g3) (off := 0) (v := .int .i64 ((endsMul_e3 a b).lo)) cell3 0 rfl rfl rfl rfl rfl ?_)
                  refine ao 60 rfl rfl (st_move (v := .int .i64 ((numMul a.hi b.hi false).1)) rfl rfl ?_)
                  refine ao 61 rfl rfl (st_mn (x := ((endsMul_e3 a b).lo)) (y := ((numMul a.hi b.hi false).1)) (c := (min ((endsMul_e3 a b).lo) ((numMul a.hi b.hi false).1))) rfl rfl rfl ?_)
                  refine ao 62 rfl rfl (st_fa (g := g3) (off := 0) rfl fa26_1 rfl ?_)
                  refine ao 63 rfl rfl (st_ldc (g := g3) (off := 1) (v := .int .i64 ((endsMul_e3 a b).hi)) cell3 0 rfl rfl rfl rfl rfl ?_)
                  refine ao 64 rfl rfl (st_move (v := .int .i64 ((numMul a.hi b.hi true).1)) rfl rfl ?_)
                  refine ao 65 rfl rfl (st_mx (x := ((endsMul_e3 a b).hi)) (y := ((numMul a.hi b.hi true).1)) (c := (max ((endsMul_e3 a b).hi) ((numMul a.hi b.hi true).1))) rfl rfl rfl ?_)
                  refine ao 66 rfl rfl (st_cf (vs := [.int .i64 (min ((endsMul_e3 a b).lo) ((numMul a.hi b.hi false).1)), .int .i64 (max ((endsMul_e3 a b).hi) ((numMul a.hi b.hi true).1))]) (r := .agg #[.int .i64 ((endsMul_e4 a b).lo), .int .i64 ((endsMul_e4 a b).hi), .bool ((endsMul_e4 a b).no)]) (c_ivOf (min ((endsMul_e3 a b).lo) ((numMul a.hi b.hi false).1)) (max ((endsMul_e3 a b).hi) ((numMul a.hi b.hi true).1))) Try.func70 rfl (by decide) rfl rfl rfl ?_)
                  refine ar_op (d := none) rfl rfl (st_sta (g := g3) (off := 0) (us := [.int .i64 ((endsMul_e4 a b).lo), .int .i64 ((endsMul_e4 a b).hi), .bool ((endsMul_e4 a b).no)]) (cs := [.int .i64 ((endsMul_e4 a b).lo), .int .i64 ((endsMul_e4 a b).hi), .bool ((endsMul_e4 a b).no)]) agg26 0 rfl rfl rfl rfl rfl rfl rfl rfl rfl ?_)
                  refine ar_nil ?_
                  refine ac_region_lit ?_
                  refine ao 67 rfl rfl (st_bi (u := .int .i64 1) (v := .int .i64 1) (r := .int .i64 2) rfl rfl rfl (bi_add (by decide)) ?_)
                  refine ao 30 rfl rfl (st_move (v := .int .i64 2) rfl rfl ?_)
                  refine ar_nil ?_
                  refine ar_round ?_
                  refine ac_seq ?_
                  refine ac_region_lit ?_
                  refine ao 31 rfl rfl (st_bi (u := .int .i64 2) (v := .int .i64 2) (r := .bool false) rfl rfl rfl (bi_lss (by decide)) ?_)
                  refine ar_nil ?_
                  refine ac_seq ?_
                  refine ac_else rfl ?_
                  refine ac_exit ?_
                  refine ac_region_lit ?_
                  refine ao 68 rfl rfl (st_bi (u := .int .i64 1) (v := .int .i64 1) (r := .int .i64 2) rfl rfl rfl (bi_add (by decide)) ?_)
                  refine ao 22 rfl rfl (st_move (v := .int .i64 2) rfl rfl ?_)
                  refine ar_nil ?_
                  refine ar_round ?_
                  refine ac_seq ?_
                  refine ac_region_lit ?_
                  refine ao 23 rfl rfl (st_bi (u := .int .i64 2) (v := .int .i64 2) (r := .bool false) rfl rfl rfl (bi_lss (by decide)) ?_)
                  refine ar_nil ?_
                  refine ac_seq ?_
                  refine ac_else rfl ?_
                  refine ac_exit ?_
                  refine ac_seq ?_
                  refine ac_region_lit ?_
                  refine ao 69 rfl rfl (st_lda (g := g3) (off := 0) (vs := [.int .i64 ((endsMul_e4 a b).lo), .int .i64 ((endsMul_e4 a b).hi), .bool ((endsMul_e4 a b).no)]) agg26 0 rfl rfl rfl rfl rfl rfl ?_)
                  refine ar_op (d := none) rfl rfl (st_sta (g := g2) (off := 0) (us := [.int .i64 ((endsMul_e4 a b).lo), .int .i64 ((endsMul_e4 a b).hi), .bool ((endsMul_e4 a b).no)]) (cs := [.int .i64 ((endsMul_e4 a b).lo), .int .i64 ((endsMul_e4 a b).hi), .bool ((endsMul_e4 a b).no)]) agg26 1 rfl rfl rfl rfl rfl rfl rfl rfl rfl ?_)
                  refine ar_nil ?_
                  refine ac_ret ?_
                  exact fin_eq (v := .agg #[.int .i64 ((endsMul_e4 a b).lo), .int .i64 ((endsMul_e4 a b).hi), .bool ((endsMul_e4 a b).no)]) (by show _ = Iv.v (endsMul a b); rw [endsMul, h8, h7, h6, h5, h4, h3, h2, h1] <;> rfl) (fin_ret (res_c (vs := [.int .i64 ((endsMul_e4 a b).lo), .int .i64 ((endsMul_e4 a b).hi), .bool ((endsMul_e4 a b).no)]) agg26 1 rfl rfl rfl rfl rfl rfl))
                · refine ac_then' (b := !((numMul a.hi b.hi true).2)) (by rw [h8]; rfl) rfl ?_
                  refine ac_seq ?_
                  refine ac_region_lit ?_
                  refine ao 53 rfl rfl (st_cf (vs := []) (r := .agg #[.int .i64 ivNone.lo, .int .i64 ivNone.hi, .bool ivNone.no]) c_ivNone Try.func28 rfl (by decide) rfl rfl rfl ?_)
                  refine ar_op (d := none) rfl rfl (st_sta (g := g2) (off := 0) (us := [.int .i64 ivNone.lo, .int .i64 ivNone.hi, .bool ivNone.no]) (cs := [.int .i64 ivNone.lo, .int .i64 ivNone.hi, .bool ivNone.no]) agg26 1 rfl rfl rfl rfl rfl rfl rfl rfl rfl ?_)
                  refine ar_nil ?_
                  refine ac_ret ?_
                  exact fin_eq (v := .agg #[.int .i64 ivNone.lo, .int .i64 ivNone.hi, .bool ivNone.no]) (by show _ = Iv.v (endsMul a b); rw [endsMul, h8, h7, h6, h5, h4, h3, h2, h1] <;> rfl) (fin_ret (res_c (vs := [.int .i64 ivNone.lo, .int .i64 ivNone.hi, .bool ivNone.no]) agg26 1 rfl rfl rfl rfl rfl rfl))
              · refine ar_sk (d := (some 50)) (by show ((!((numMul a.hi b.hi false).2)) == false) = false; rw [h7]; rfl) rfl ?_
                refine ar_sk (d := (some 51)) (by show ((!((numMul a.hi b.hi false).2)) == false) = false; rw [h7]; rfl) rfl ?_
                refine ao 52 rfl rfl (st_pkt' (b := !((numMul a.hi b.hi false).2)) (v := .bool true) (by rw [h7]; rfl) rfl rfl rfl ?_)
                refine ar_nil ?_
                refine ac_then rfl ?_
                refine ac_seq ?_
                refine ac_region_lit ?_
                refine ao 53 rfl rfl (st_cf (vs := []) (r := .agg #[.int .i64 ivNone.lo, .int .i64 ivNone.hi, .bool ivNone.no]) c_ivNone Try.func28 rfl (by decide) rfl rfl rfl ?_)
                refine ar_op (d := none) rfl rfl (st_sta (g := g2) (off := 0) (us := [.int .i64 ivNone.lo, .int .i64 ivNone.hi, .bool ivNone.no]) (cs := [.int .i64 ivNone.lo, .int .i64 ivNone.hi, .bool ivNone.no]) agg26 1 rfl rfl rfl rfl rfl rfl rfl rfl rfl ?_)
                refine ar_nil ?_
                refine ac_ret ?_
                exact fin_eq (v := .agg #[.int .i64 ivNone.lo, .int .i64 ivNone.hi, .bool ivNone.no]) (by show _ = Iv.v (endsMul a b); rw [endsMul, h7, h6, h5, h4, h3, h2, h1] <;> rfl) (fin_ret (res_c (vs := [.int .i64 ivNone.lo, .int .i64 ivNone.hi, .bool ivNone.no]) agg26 1 rfl rfl rfl rfl rfl rfl))
            · refine ac_then' (b := !((numMul a.hi b.lo true).2)) (by rw [h6]; rfl) rfl ?_
              refine ac_seq ?_
              refine ac_region_lit ?_
              refine ao 53 rfl rfl (st_cf (vs := []) (r := .agg #[.int .i64 ivNone.lo, .int .i64 ivNone.hi, .bool ivNone.no]) c_ivNone Try.func28 rfl (by decide) rfl rfl rfl ?_)
              refine ar_op (d := none) rfl rfl (st_sta (g := g2) (off := 0) (us := [.int .i64 ivNone.lo, .int .i64 ivNone.hi, .bool ivNone.no]) (cs := [.int .i64 ivNone.lo, .int .i64 ivNone.hi, .bool ivNone.no]) agg26 1 rfl rfl rfl rfl rfl rfl rfl rfl rfl ?_)
              refine ar_nil ?_
              refine ac_ret ?_
              exact fin_eq (v := .agg #[.int .i64 ivNone.lo, .int .i64 ivNone.hi, .bool ivNone.no]) (by show _ = Iv.v (endsMul a b); rw [endsMul, h6, h5, h4, h3, h2, h1] <;> rfl) (fin_ret (res_c (vs := [.int .i64 ivNone.lo, .int .i64 ivNone.hi, .bool ivNone.no]) agg26 1 rfl rfl rfl rfl rfl rfl))
          · refine ar_sk (d := (some 50)) (by show ((!((numMul a.hi b.lo false).2)) == false) = false; rw [h5]; rfl) rfl ?_
            refine ar_sk (d := (some 51)) (by show ((!((numMul a.hi b.lo false).2)) == false) = false; rw [h5]; rfl) rfl ?_
            refine ao 52 rfl rfl (st_pkt' (b := !((numMul a.hi b.lo false).2)) (v := .bool true) (by rw [h5]; rfl) rfl rfl rfl ?_)
            refine ar_nil ?_
            refine ac_then rfl ?_
            refine ac_seq ?_
            refine ac_region_lit ?_
            refine ao 53 rfl rfl (st_cf (vs := []) (r := .agg #[.int .i64 ivNone.lo, .int .i64 ivNone.hi, .bool ivNone.no]) c_ivNone Try.func28 rfl (by decide) rfl rfl rfl ?_)
            refine ar_op (d := none) rfl rfl (st_sta (g := g2) (off := 0) (us := [.int .i64 ivNone.lo, .int .i64 ivNone.hi, .bool ivNone.no]) (cs := [.int .i64 ivNone.lo, .int .i64 ivNone.hi, .bool ivNone.no]) agg26 1 rfl rfl rfl rfl rfl rfl rfl rfl rfl ?_)
            refine ar_nil ?_
            refine ac_ret ?_
            exact fin_eq (v := .agg #[.int .i64 ivNone.lo, .int .i64 ivNone.hi, .bool ivNone.no]) (by show _ = Iv.v (endsMul a b); rw [endsMul, h5, h4, h3, h2, h1] <;> rfl) (fin_ret (res_c (vs := [.int .i64 ivNone.lo, .int .i64 ivNone.hi, .bool ivNone.no]) agg26 1 rfl rfl rfl rfl rfl rfl))
        · refine ac_then' (b := !((numMul a.lo b.hi true).2)) (by rw [h4]; rfl) rfl ?_
          refine ac_seq ?_
          refine ac_region_lit ?_
          refine ao 53 rfl rfl (st_cf (vs := []) (r := .agg #[.int .i64 ivNone.lo, .int .i64 ivNone.hi, .bool ivNone.no]) c_ivNone Try.func28 rfl (by decide) rfl rfl rfl ?_)
          refine ar_op (d := none) rfl rfl (st_sta (g := g2) (off := 0) (us := [.int .i64 ivNone.lo, .int .i64 ivNone.hi, .bool ivNone.no]) (cs := [.int .i64 ivNone.lo, .int .i64 ivNone.hi, .bool ivNone.no]) agg26 1 rfl rfl rfl rfl rfl rfl rfl rfl rfl ?_)
          refine ar_nil ?_
          refine ac_ret ?_
          exact fin_eq (v := .agg #[.int .i64 ivNone.lo, .int .i64 ivNone.hi, .bool ivNone.no]) (by show _ = Iv.v (endsMul a b); rw [endsMul, h4, h3, h2, h1] <;> rfl) (fin_ret (res_c (vs := [.int .i64 ivNone.lo, .int .i64 ivNone.hi, .bool ivNone.no]) agg26 1 rfl rfl rfl rfl rfl rfl))
      · refine ar_sk (d := (some 50)) (by show ((!((numMul a.lo b.hi false).2)) == false) = false; rw [h3]; rfl) rfl ?_
        refine ar_sk (d := (some 51)) (by show ((!((numMul a.lo b.hi false).2)) == false) = false; rw [h3]; rfl) rfl ?_
        refine ao 52 rfl rfl (st_pkt' (b := !((numMul a.lo b.hi false).2)) (v := .bool true) (by rw [h3]; rfl) rfl rfl rfl ?_)
        refine ar_nil ?_
        refine ac_then rfl ?_
        refine ac_seq ?_
        refine ac_region_lit ?_
        refine ao 53 rfl rfl (st_cf (vs := []) (r := .agg #[.int .i64 ivNone.lo, .int .i64 ivNone.hi, .bool ivNone.no]) c_ivNone Try.func28 rfl (by decide) rfl rfl rfl ?_)
        refine ar_op (d := none) rfl rfl (st_sta (g := g2) (off := 0) (us := [.int .i64 ivNone.lo, .int .i64 ivNone.hi, .bool ivNone.no]) (cs := [.int .i64 ivNone.lo, .int .i64 ivNone.hi, .bool ivNone.no]) agg26 1 rfl rfl rfl rfl rfl rfl rfl rfl rfl ?_)
        refine ar_nil ?_
        refine ac_ret ?_
        exact fin_eq (v := .agg #[.int .i64 ivNone.lo, .int .i64 ivNone.hi, .bool ivNone.no]) (by show _ = Iv.v (endsMul a b); rw [endsMul, h3, h2, h1] <;> rfl) (fin_ret (res_c (vs := [.int .i64 ivNone.lo, .int .i64 ivNone.hi, .bool ivNone.no]) agg26 1 rfl rfl rfl rfl rfl rfl))
    · refine ac_then' (b := !((numMul a.lo b.lo true).2)) (by rw [h2]; rfl) rfl ?_
      refine ac_seq ?_
      refine ac_region_lit ?_
      refine ao 53 rfl rfl (st_cf (vs := []) (r := .agg #[.int .i64 ivNone.lo, .int .i64 ivNone.hi, .bool ivNone.no]) c_ivNone Try.func28 rfl (by decide) rfl rfl rfl ?_)
      refine ar_op (d := none) rfl rfl (st_sta (g := g2) (off := 0) (us := [.int .i64 ivNone.lo, .int .i64 ivNone.hi, .bool ivNone.no]) (cs := [.int .i64 ivNone.lo, .int .i64 ivNone.hi, .bool ivNone.no]) agg26 1 rfl rfl rfl rfl rfl rfl rfl rfl rfl ?_)
      refine ar_nil ?_
      refine ac_ret ?_
      exact fin_eq (v := .agg #[.int .i64 ivNone.lo, .int .i64 ivNone.hi, .bool ivNone.no]) (by show _ = Iv.v (endsMul a b); rw [endsMul, h2, h1] <;> rfl) (fin_ret (res_c (vs := [.int .i64 ivNone.lo, .int .i64 ivNone.hi, .bool ivNone.no]) agg26 1 rfl rfl rfl rfl rfl rfl))
  · refine ar_sk (d := (some 50)) (by show ((!((numMul a.lo b.lo false).2)) == false) = false; rw [h1]; rfl) rfl ?_
    refine ar_sk (d := (some 51)) (by show ((!((numMul a.lo b.lo false).2)) == false) = false; rw [h1]; rfl) rfl ?_
    refine ao 52 rfl rfl (st_pkt' (b := !((numMul a.lo b.lo false).2)) (v := .bool true) (by rw [h1]; rfl) rfl rfl rfl ?_)
    refine ar_nil ?_
    refine ac_then rfl ?_
    refine ac_seq ?_
    refine ac_region_lit ?_
    refine ao 53 rfl rfl (st_cf (vs := []) (r := .agg #[.int .i64 ivNone.lo, .int .i64 ivNone.hi, .bool ivNone.no]) c_ivNone Try.func28 rfl (by decide) rfl rfl rfl ?_)
    refine ar_op (d := none) rfl rfl (st_sta (g := g2) (off := 0) (us := [.int .i64 ivNone.lo, .int .i64 ivNone.hi, .bool ivNone.no]) (cs := [.int .i64 ivNone.lo, .int .i64 ivNone.hi, .bool ivNone.no]) agg26 1 rfl rfl rfl rfl rfl rfl rfl rfl rfl ?_)
    refine ar_nil ?_
    refine ac_ret ?_
    exact fin_eq (v := .agg #[.int .i64 ivNone.lo, .int .i64 ivNone.hi, .bool ivNone.no]) (by show _ = Iv.v (endsMul a b); rw [endsMul, h1] <;> rfl) (fin_ret (res_c (vs := [.int .i64 ivNone.lo, .int .i64 ivNone.hi, .bool ivNone.no]) agg26 1 rfl rfl rfl rfl rfl rfl))
def ivMul (a : Iv) (b : Iv) : Iv := (bif ivBoth a b then (endsMul a b) else ivNone)
set_option maxRecDepth 100000 in
theorem c_ivMul (a : Iv) (b : Iv) : Gets Try.prog 68 #[.agg #[.int .i64 a.lo, .int .i64 a.hi, .bool a.no], .agg #[.int .i64 b.lo, .int .i64 b.hi, .bool b.no]] (Iv.v (ivMul a b)) := by
  refine gets_fin Try.func68 rfl rfl rfl ?_
  refine ac_seq ?_
  refine ac_region_lit ?_
  refine ao 2 rfl rfl (st_box (v := .agg #[.int .i64 a.lo, .int .i64 a.hi, .bool a.no]) (cs := [.int .i64 a.lo, .int .i64 a.hi, .bool a.no]) rfl rfl rfl fun g0 => ?_)
  refine ao 3 rfl rfl (st_box (v := .agg #[.int .i64 b.lo, .int .i64 b.hi, .bool b.no]) (cs := [.int .i64 b.lo, .int .i64 b.hi, .bool b.no]) rfl rfl rfl fun g1 => ?_)
  refine ao 4 rfl rfl (st_new zero26 rfl fun g2 => ?_)
  refine ar_nil ?_
  refine ac_seq ?_
  refine ac_seq ?_
  refine ac_region_lit ?_
  refine ao 5 rfl rfl (st_lda (g := g0) (off := 0) (vs := [.int .i64 a.lo, .int .i64 a.hi, .bool a.no]) agg26 2 rfl rfl rfl rfl rfl rfl ?_)
  refine ao 6 rfl rfl (st_lda (g := g1) (off := 0) (vs := [.int .i64 b.lo, .int .i64 b.hi, .bool b.no]) agg26 1 rfl rfl rfl rfl rfl rfl ?_)
  refine ao 7 rfl rfl (st_cf (vs := [.agg #[.int .i64 a.lo, .int .i64 a.hi, .bool a.no], .agg #[.int .i64 b.lo, .int .i64 b.hi, .bool b.no]]) (r := .bool (ivBoth a b)) (c_ivBoth a b) Try.func69 rfl (by decide) rfl rfl rfl ?_)
  refine ao 8 rfl rfl (st_un (u := .bool (ivBoth a b)) (v := .bool (!(ivBoth a b))) rfl rfl (un_not rfl) ?_)
  refine ar_nil ?_
  refine bool_split (ivBoth a b) (fun h1 => ?_) (fun h1 => ?_)
  · refine ac_else' (b := !(ivBoth a b)) (by rw [h1]; rfl) rfl ?_
    refine ac_skip ?_
    refine ac_seq ?_
    refine ac_region_lit ?_
    refine ao 10 rfl rfl (st_lda (g := g0) (off := 0) (vs := [.int .i64 a.lo, .int .i64 a.hi, .bool a.no]) agg26 2 rfl rfl rfl rfl rfl rfl ?_)
    refine ao 11 rfl rfl (st_lda (g := g1) (off := 0) (vs := [.int .i64 b.lo, .int .i64 b.hi, .bool b.no]) agg26 1 rfl rfl rfl rfl rfl rfl ?_)
    refine ao 12 rfl rfl (st_cf (vs := [.func (.func 100) #[] #[], .agg #[.int .i64 a.lo, .int .i64 a.hi, .bool a.no], .agg #[.int .i64 b.lo, .int .i64 b.hi, .bool b.no]]) (r := .agg #[.int .i64 ((endsMul a b).lo), .int .i64 ((endsMul a b).hi), .bool ((endsMul a b).no)]) (c_endsMul a b) Try.func71 rfl (by decide) rfl rfl rfl ?_)
    refine ar_op (d := none) rfl rfl (st_sta (g := g2) (off := 0) (us := [.int .i64 ((endsMul a b).lo), .int .i64 ((endsMul a b).hi), .bool ((endsMul a b).no)]) (cs := [.int .i64 ((endsMul a b).lo), .int .i64 ((endsMul a b).hi), .bool ((endsMul a b).no)]) agg26 0 rfl rfl rfl rfl rfl rfl rfl rfl rfl ?_)
    refine ar_nil ?_
    refine ac_ret ?_
    exact fin_eq (v := .agg #[.int .i64 ((endsMul a b).lo), .int .i64 ((endsMul a b).hi), .bool ((endsMul a b).no)]) (by show _ = Iv.v (ivMul a b); rw [ivMul, h1] <;> rfl) (fin_ret (res_c (vs := [.int .i64 ((endsMul a b).lo), .int .i64 ((endsMul a b).hi), .bool ((endsMul a b).no)]) agg26 0 rfl rfl rfl rfl rfl rfl))
  · refine ac_then' (b := !(ivBoth a b)) (by rw [h1]; rfl) rfl ?_
    refine ac_seq ?_
    refine ac_region_lit ?_
    refine ao 9 rfl rfl (st_cf (vs := []) (r := .agg #[.int .i64 ivNone.lo, .int .i64 ivNone.hi, .bool ivNone.no]) c_ivNone Try.func28 rfl (by decide) rfl rfl rfl ?_)
    refine ar_op (d := none) rfl rfl (st_sta (g := g2) (off := 0) (us := [.int .i64 ivNone.lo, .int .i64 ivNone.hi, .bool ivNone.no]) (cs := [.int .i64 ivNone.lo, .int .i64 ivNone.hi, .bool ivNone.no]) agg26 0 rfl rfl rfl rfl rfl rfl rfl rfl rfl ?_)
    refine ar_nil ?_
    refine ac_ret ?_
    exact fin_eq (v := .agg #[.int .i64 ivNone.lo, .int .i64 ivNone.hi, .bool ivNone.no]) (by show _ = Iv.v (ivMul a b); rw [ivMul, h1] <;> rfl) (fin_ret (res_c (vs := [.int .i64 ivNone.lo, .int .i64 ivNone.hi, .bool ivNone.no]) agg26 0 rfl rfl rfl rfl rfl rfl))
end Go.Proofs.Ythngkopcadlciaa