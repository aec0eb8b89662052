import Derived.Test.YthngkopcadlciaaRIv
set_option linter.unusedVariables false
set_option linter.unusedSimpArgs false
namespace Go.Proofs.Ythngkopcadlciaa
open Go.RowKit

attribute [local irreducible] AC AR DWalk
def hPick_e0 (n : Int) (m : Int) : Int := (bif decide ((Int.tmod n m) < 0) then (w64 ((Int.tmod n m) + m)) else (Int.tmod n m))
def hPick (n : Int) (m : Int) : Int := (hPick_e0 n m)
set_option maxRecDepth 100000 in
theorem c_hPick (n : Int) (m : Int) (hm : m ≠ 0) : Gets Try.prog 19 #[.int .i64 n, .int .i64 m] ((fun (r : Int) => (.int .i64 r : Value)) (hPick n m)) := by
  refine gets_fin Try.func19 rfl rfl rfl ?_
  refine ac_seq ?_
  refine ac_region_lit ?_
  refine ao 4 rfl rfl (st_assign (v := .int .i64 0) rfl rfl ?_)
  refine ar_nil ?_
  refine ac_seq ?_
  refine ac_region_lit ?_
  refine ao 5 rfl rfl (st_move (v := .int .i64 n) rfl rfl ?_)
  refine ao 6 rfl rfl (st_move (v := .int .i64 m) rfl rfl ?_)
  refine ao 7 rfl rfl (st_bi (u := .int .i64 n) (v := .int .i64 m) (r := .int .i64 (Int.tmod n m)) rfl rfl rfl (bi_rem hm rfl) ?_)
  refine ao 0 rfl rfl (st_assign (v := .int .i64 (Int.tmod n m)) rfl rfl ?_)
  refine ar_nil ?_
  refine ac_seq ?_
  refine ac_seq ?_
  refine ac_region_lit ?_
  refine ao 8 rfl rfl (st_move (v := .int .i64 (Int.tmod n m)) rfl rfl ?_)
  refine ao 9 rfl rfl (st_bi (u := .int .i64 (Int.tmod n m)) (v := .int .i64 0) (r := .bool (decide ((Int.tmod n m) < 0))) rfl rfl rfl (bi_lss rfl) ?_)
  refine ar_nil ?_
  refine ac_mergeE (fun E9 => ((((Env.put E9 (some 10) (.int .i64 (Int.tmod n m))).put (some 11) (.int .i64 m)).put (some 12) (.int .i64 (w64 ((Int.tmod n m) + m)))).put (some 0) (.int .i64 (w64 ((Int.tmod n m) + m))))) (fun E9 => ((((Env.put E9 (some 10) (bif decide ((Int.tmod n m) < 0) then (.int .i64 (Int.tmod n m) : Value) else E9 10)).put (some 11) (bif decide ((Int.tmod n m) < 0) then (.int .i64 m : Value) else E9 11)).put (some 12) (bif decide ((Int.tmod n m) < 0) then (.int .i64 (w64 ((Int.tmod n m) + m)) : Value) else E9 12)).put (some 0) (.int .i64 (hPick_e0 n m)))) (b := decide ((Int.tmod n m) < 0)) rfl (fun hm => ?_) (fun hm => ?_) (fun hm => ?_) ?_
  · refine ac_region_lit ?_
    refine ao 10 rfl rfl (st_move (v := .int .i64 (Int.tmod n m)) rfl rfl ?_)
    refine ao 11 rfl rfl (st_move (v := .int .i64 m) rfl rfl ?_)
    refine ao 12 rfl rfl (st_bi (u := .int .i64 (Int.tmod n m)) (v := .int .i64 m) (r := .int .i64 (w64 ((Int.tmod n m) + m))) rfl rfl rfl (bi_add rfl) ?_)
    refine ao 0 rfl rfl (st_assign (v := .int .i64 (w64 ((Int.tmod n m) + m))) rfl rfl ?_)
    refine ar_nil ?_
    exact ⟨rfl, rfl, rfl⟩
  · unfold hPick_e0; rw [hm]; rfl
  · unfold hPick_e0; rw [hm]; exact ((put_self rfl).trans ((put_self rfl).trans ((put_self rfl).trans (put_self rfl))))
  refine ac_seq ?_
  refine ac_region_lit ?_
  refine ao 13 rfl rfl (st_move (v := .int .i64 (hPick_e0 n m)) rfl rfl ?_)
  refine ao 4 rfl rfl (st_assign (v := .int .i64 (hPick_e0 n m)) rfl rfl ?_)
  refine ar_nil ?_
  refine ac_ret ?_
  exact fin_eq (v := .int .i64 (hPick_e0 n m)) rfl (fin_ret (res_tmp rfl rfl))
def hNum (n : Int) : Int := (bif (hPick n 9) == 0 then n else (bif (hPick n 9) == 1 then w64 ((w64 ((hPick (w64 (Int.tdiv n 9)) 201) - 100)) * 65536) else (bif (hPick n 9) == 2 then w64 ((hPick (w64 (Int.tdiv n 9)) 9) - 4) else (bif (hPick n 9) == 3 then w64 ((w64 ((hPick (w64 (Int.tdiv n 9)) 2147483657) - 1073741824)) - 4) else w64 ((hPick (w64 (Int.tdiv n 9)) 2621440) - 1310720)))))
set_option maxRecDepth 100000 in
theorem c_hNum (n : Int) : Gets Try.prog 79 #[.int .i64 n] ((fun (r : Int) => (.int .i64 r : Value)) (hNum n)) := by
  refine gets_fin Try.func79 rfl rfl rfl ?_
  refine ac_seq ?_
  refine ac_region_lit ?_
  refine ao 2 rfl rfl (st_assign (v := .int .i64 0) rfl rfl ?_)
  refine ar_nil ?_
  refine ac_seq ?_
  refine ac_seq ?_
  refine ac_region_lit ?_
  refine ao 3 rfl rfl (st_move (v := .int .i64 n) rfl rfl ?_)
  refine ao 4 rfl rfl (st_cf (vs := [.int .i64 n, .int .i64 9]) (r := .int .i64 (hPick n 9)) (c_hPick n 9 (by decide)) Try.func19 rfl (by decide) rfl rfl rfl ?_)
  refine ar_nil ?_
  refine ac_block ?_
  refine ac_seq ?_
  refine ac_region_lit ?_
  refine ao 6 rfl rfl (st_bi (u := .int .i64 (hPick n 9)) (v := .int .i64 0) (r := .bool ((hPick n 9) == 0)) rfl rfl rfl (bi_eql rfl) ?_)
  refine ao 5 rfl rfl (st_assign (v := .bool ((hPick n 9) == 0)) rfl rfl ?_)
  refine ar_nil ?_
  refine bool_split ((hPick n 9) == 0) (fun h1 => ?_) (fun h1 => ?_)
  · refine ac_then' (b := (hPick n 9) == 0) h1 rfl ?_
    refine ac_seq ?_
    refine ac_region_lit ?_
    refine ao 7 rfl rfl (st_move (v := .int .i64 n) rfl rfl ?_)
    refine ao 2 rfl rfl (st_assign (v := .int .i64 n) rfl rfl ?_)
    refine ar_nil ?_
    refine ac_ret ?_
    exact fin_eq (v := .int .i64 n) (by show _ = (fun (r : Int) => (.int .i64 r : Value)) (hNum n); rw [hNum, h1] <;> rfl) (fin_ret (res_tmp rfl rfl))
  · refine ac_else' (b := (hPick n 9) == 0) h1 rfl ?_
    refine ac_seq ?_
    refine ac_region_lit ?_
    refine ao 9 rfl rfl (st_bi (u := .int .i64 (hPick n 9)) (v := .int .i64 1) (r := .bool ((hPick n 9) == 1)) rfl rfl rfl (bi_eql rfl) ?_)
    refine ao 8 rfl rfl (st_assign (v := .bool ((hPick n 9) == 1)) rfl rfl ?_)
    refine ar_nil ?_
    refine bool_split ((hPick n 9) == 1) (fun h2 => ?_) (fun h2 => ?_)
    · refine ac_then' (b := (hPick n 9) == 1) h2 rfl ?_
      refine ac_seq ?_
      refine ac_region_lit ?_
      refine ao 10 rfl rfl (st_move (v := .int .i64 n) rfl rfl ?_)
      refine ao 11 rfl rfl (st_bi (u := .int .i64 n) (v := .int .i64 9) (r := .int .i64 (w64 (Int.tdiv n 9))) rfl rfl rfl (bi_quo (by decide) rfl) ?_)
      refine ao 12 rfl rfl (st_cf (vs := [.int .i64 (w64 (Int.tdiv n 9)), .int .i64 201]) (r := .int .i64 (hPick (w64 (Int.tdiv n 9)) 201)) (c_hPick (w64 (Int.tdiv n 9)) 201 (by decide)) Try.func19 rfl (by decide) rfl rfl rfl ?_)
      refine ao 13 rfl rfl (st_bi (u := .int .i64 (hPick (w64 (Int.tdiv n 9)) 201)) (v := .int .i64 100) (r := .int .i64 (w64 ((hPick (w64 (Int.tdiv n 9)) 201) - 100))) rfl rfl rfl (bi_sub rfl) ?_)
      refine ao 14 rfl rfl (st_bi (u := .int .i64 (w64 ((hPick (w64 (Int.tdiv n 9)) 201) - 100))) (v := .int .i64 65536) (r := .int .i64 (w64 ((w64 ((hPick (w64 (Int.tdiv n 9)) 201) - 100)) * 65536))) rfl rfl rfl (bi_mul rfl) ?_)
      refine ao 2 rfl rfl (st_assign (v := .int .i64 (w64 ((w64 ((hPick (w64 (Int.tdiv n 9)) 201) - 100)) * 65536))) rfl rfl ?_)
      refine ar_nil ?_
      refine ac_ret ?_
      exact fin_eq (v := .int .i64 (w64 ((w64 ((hPick (w64 (Int.tdiv n 9)) 201) - 100)) * 65536))) (by show _ = (fun (r : Int) => (.int .i64 r : Value)) (hNum n); rw [hNum, h2, h1] <;> rfl) (fin_ret (res_tmp rfl rfl))
    · refine ac_else' (b := (hPick n 9) == 1) h2 rfl ?_
      refine ac_seq ?_
      refine ac_region_lit ?_
      refine ao 16 rfl rfl (st_bi (u := .int .i64 (hPick n 9)) (v := .int .i64 2) (r := .bool ((hPick n 9) == 2)) rfl rfl rfl (bi_eql rfl) ?_)
      refine ao 15 rfl rfl (st_assign (v := .bool ((hPick n 9) == 2)) rfl rfl ?_)
      refine ar_nil ?_
      refine bool_split ((hPick n 9) == 2) (fun h3 => ?_) (fun h3 => ?_)
      · refine ac_then' (b := (hPick n 9) == 2) h3 rfl ?_
        refine ac_seq ?_
        refine ac_region_lit ?_
        refine ao 17 rfl rfl (st_move (v := .int .i64 n) rfl rfl ?_)
        refine ao 18 rfl rfl (st_bi (u := .int .i64 n) (v := .int .i64 9) (r := .int .i64 (w64 (Int.tdiv n 9))) rfl rfl rfl (bi_quo (by decide) rfl) ?_)
        refine ao 19 rfl rfl (st_cf (vs := [.int .i64 (w64 (Int.tdiv n 9)), .int .i64 9]) (r := .int .i64 (hPick (w64 (Int.tdiv n 9)) 9)) (c_hPick (w64 (Int.tdiv n 9)) 9 (by decide)) Try.func19 rfl (by decide) rfl rfl rfl ?_)
        refine ao 20 rfl rfl (st_bi (u := .int .i64 (hPick (w64 (Int.tdiv n 9)) 9)) (v := .int .i64 4) (r := .int .i64 (w64 ((hPick (w64 (Int.tdiv n 9)) 9) - 4))) rfl rfl rfl (bi_sub rfl) ?_)
        refine ao 2 rfl rfl (st_assign (v := .int .i64 (w64 ((hPick (w64 (Int.tdiv n 9)) 9) - 4))) rfl rfl ?_)
        refine ar_nil ?_
        refine ac_ret ?_
        exact fin_eq (v := .int .i64 (w64 ((hPick (w64 (Int.tdiv n 9)) 9) - 4))) (by show _ = (fun (r : Int) => (.int .i64 r : Value)) (hNum n); rw [hNum, h3, h2, h1] <;> rfl) (fin_ret (res_tmp rfl rfl))
      · refine ac_else' (b := (hPick n 9) == 2) h3 rfl ?_
        refine ac_seq ?_
        refine ac_region_lit ?_
        refine ao 22 rfl rfl (st_bi (u := .int .i64 (hPick n 9)) (v := .int .i64 3) (r := .bool ((hPick n 9) == 3)) rfl rfl rfl (bi_eql rfl) ?_)
        refine ao 21 rfl rfl (st_assign (v := .bool ((hPick n 9) == 3)) rfl rfl ?_)
        refine ar_nil ?_
        refine bool_split ((hPick n 9) == 3) (fun h4 => ?_) (fun h4 => ?_)
        · refine ac_then' (b := (hPick n 9) == 3) h4 rfl ?_
          refine ac_seq ?_
          refine ac_region_lit ?_
          refine ao 23 rfl rfl (st_move (v := .int .i64 n) rfl rfl ?_)
          refine ao 24 rfl rfl (st_bi (u := .int .i64 n) (v := .int .i64 9) (r := .int .i64 (w64 (Int.tdiv n 9))) rfl rfl rfl (bi_quo (by decide) rfl) ?_)
          refine ao 25 rfl rfl (st_cf (vs := [.int .i64 (w64 (Int.tdiv n 9)), .int .i64 2147483657]) (r := .int .i64 (hPick (w64 (Int.tdiv n 9)) 2147483657)) (c_hPick (w64 (Int.tdiv n 9)) 2147483657 (by decide)) Try.func19 rfl (by decide) rfl rfl rfl ?_)
          refine ao 26 rfl rfl (st_bi (u := .int .i64 (hPick (w64 (Int.tdiv n 9)) 2147483657)) (v := .int .i64 1073741824) (r := .int .i64 (w64 ((hPick (w64 (Int.tdiv n 9)) 2147483657) - 1073741824))) rfl rfl rfl (bi_sub rfl) ?_)
          refine ao 27 rfl rfl (st_bi (u := .int .i64 (w64 ((hPick (w64 (Int.tdiv n 9)) 2147483657) - 1073741824))) (v := .int .i64 4) (r := .int .i64 (w64 ((w64 ((hPick (w64 (Int.tdiv n 9)) 2147483657) - 1073741824)) - 4))) rfl rfl rfl (bi_sub rfl) ?_)
          refine ao 2 rfl rfl (st_assign (v := .int .i64 (w64 ((w64 ((hPick (w64 (Int.tdiv n 9)) 2147483657) - 1073741824)) - 4))) rfl rfl ?_)
          refine ar_nil ?_
          refine ac_ret ?_
          exact fin_eq (v := .int .i64 (w64 ((w64 ((hPick (w64 (Int.tdiv n 9)) 2147483657) - 1073741824)) - 4))) (by show _ = (fun (r : Int) => (.int .i64 r : Value)) (hNum n); rw [hNum, h4, h3, h2, h1] <;> rfl) (fin_ret (res_tmp rfl rfl))
        · refine ac_else' (b := (hPick n 9) == 3) h4 rfl ?_
          refine ac_skip ?_
          refine ac_seq ?_
          refine ac_region_lit ?_
          refine ao 28 rfl rfl (st_move (v := .int .i64 n) rfl rfl ?_)
          refine ao 29 rfl rfl (st_bi (u := .int .i64 n) (v := .int .i64 9) (r := .int .i64 (w64 (Int.tdiv n 9))) rfl rfl rfl (bi_quo (by decide) rfl) ?_)
          refine ao 30 rfl rfl (st_cf (vs := [.int .i64 (w64 (Int.tdiv n 9)), .int .i64 2621440]) (r := .int .i64 (hPick (w64 (Int.tdiv n 9)) 2621440)) (c_hPick (w64 (Int.tdiv n 9)) 2621440 (by decide)) Try.func19 rfl (by decide) rfl rfl rfl ?_)
          refine ao 31 rfl rfl (st_bi (u := .int .i64 (hPick (w64 (Int.tdiv n 9)) 2621440)) (v := .int .i64 1310720) (r := .int .i64 (w64 ((hPick (w64 (Int.tdiv n 9)) 2621440) - 1310720))) rfl rfl rfl (bi_sub rfl) ?_)
          refine ao 2 rfl rfl (st_assign (v := .int .i64 (w64 ((hPick (w64 (Int.tdiv n 9)) 2621440) - 1310720))) rfl rfl ?_)
          refine ar_nil ?_
          refine ac_ret ?_
          exact fin_eq (v := .int .i64 (w64 ((hPick (w64 (Int.tdiv n 9)) 2621440) - 1310720))) (by show _ = (fun (r : Int) => (.int .i64 r : Value)) (hNum n); rw [hNum, h4, h3, h2, h1] <;> rfl) (fin_ret (res_tmp rfl rfl))
def within (n : Int) (low : Int) (high : Int) : Int := max low (min high n)
set_option maxRecDepth 100000 in
theorem c_within (n : Int) (low : Int) (high : Int) : Gets Try.prog 64 #[.int .i64 n, .int .i64 low, .int .i64 high] ((fun (r : Int) => (.int .i64 r : Value)) (within n low high)) := by
  refine gets_fin Try.func64 rfl rfl rfl ?_
  refine ac_seq ?_
  refine ac_region_lit ?_
  refine ao 6 rfl rfl (st_assign (v := .int .i64 0) rfl rfl ?_)
  refine ar_nil ?_
  refine ac_seq ?_
  refine ac_region_lit ?_
  refine ao 7 rfl rfl (st_move (v := .int .i64 low) rfl rfl ?_)
  refine ao 8 rfl rfl (st_move (v := .int .i64 high) rfl rfl ?_)
  refine ao 9 rfl rfl (st_move (v := .int .i64 n) rfl rfl ?_)
  refine ao 10 rfl rfl (st_mn (x := high) (y := n) (c := (min high n)) rfl rfl rfl ?_)
  refine ao 11 rfl rfl (st_mx (x := low) (y := (min high n)) (c := (max low (min high n))) rfl rfl rfl ?_)
  refine ao 6 rfl rfl (st_assign (v := .int .i64 (max low (min high n))) rfl rfl ?_)
  refine ar_nil ?_
  refine ac_ret ?_
  exact fin_eq (v := .int .i64 (max low (min high n))) rfl (fin_ret (res_tmp rfl rfl))
def hWide (x : Int) (w : Int) : Iv := (⟨(within x (-1073741824) 1073741824), min 1073741824 (w64 ((within x (-1073741824) 1073741824) + w)), false⟩ : Iv)
set_option maxRecDepth 100000 in
theorem c_hWide (x : Int) (w : Int) : Gets Try.prog 20 #[.int .i64 x, .int .i64 w] (Iv.v (hWide x w)) := by
  refine gets_fin Try.func20 rfl rfl rfl ?_
  refine ac_seq ?_
  refine ac_region_lit ?_
  refine ao 4 rfl rfl (st_new zero26 rfl fun g0 => ?_)
  refine ar_nil ?_
  refine ac_seq ?_
  refine ac_region_lit ?_
  refine ao 5 rfl rfl (st_move (v := .int .i64 x) rfl rfl ?_)
  refine ao 6 rfl rfl (st_cf (vs := [.int .i64 x, .int .i64 (-1073741824), .int .i64 1073741824]) (r := .int .i64 (within x (-1073741824) 1073741824)) (c_within x (-1073741824) 1073741824) Try.func64 rfl (by decide) rfl rfl rfl ?_)
  refine ao 0 rfl rfl (st_assign (v := .int .i64 (within x (-1073741824) 1073741824)) rfl rfl ?_)
  refine ar_nil ?_
  refine ac_seq ?_
  refine ac_region_lit ?_
  refine ao 7 rfl rfl (st_move (v := .int .i64 (within x (-1073741824) 1073741824)) rfl rfl ?_)
  refine ao 8 rfl rfl (st_move (v := .int .i64 (within x (-1073741824) 1073741824)) rfl rfl ?_)
  refine ao 9 rfl rfl (st_move (v := .int .i64 w) rfl rfl ?_)
  refine ao 10 rfl rfl (st_bi (u := .int .i64 (within x (-1073741824) 1073741824)) (v := .int .i64 w) (r := .int .i64 (w64 ((within x (-1073741824) 1073741824) + w))) rfl rfl rfl (bi_add rfl) ?_)
  refine ao 11 rfl rfl (st_mn (x := 1073741824) (y := (w64 ((within x (-1073741824) 1073741824) + w))) (c := (min 1073741824 (w64 ((within x (-1073741824) 1073741824) + w)))) rfl rfl rfl ?_)
  refine ao 12 rfl rfl (st_bd (us := [(0, .int .i64 (within x (-1073741824) 1073741824)), (1, .int .i64 (min 1073741824 (w64 ((within x (-1073741824) 1073741824) + w))))]) (v := .agg #[.int .i64 (within x (-1073741824) 1073741824), .int .i64 (min 1073741824 (w64 ((within x (-1073741824) 1073741824) + w))), .bool false]) rfl rfl (bd26_0_1 _ _) ?_)
  refine ar_op (d := none) rfl rfl (st_sta (g := g0) (off := 0) (us := [.int .i64 (within x (-1073741824) 1073741824), .int .i64 (min 1073741824 (w64 ((within x (-1073741824) 1073741824) + w))), .bool false]) (cs := [.int .i64 (within x (-1073741824) 1073741824), .int .i64 (min 1073741824 (w64 ((within x (-1073741824) 1073741824) + w))), .bool false]) agg26 0 rfl rfl rfl rfl rfl rfl rfl rfl rfl ?_)
  refine ar_nil ?_
  refine ac_ret ?_
  exact fin_eq (v := .agg #[.int .i64 (within x (-1073741824) 1073741824), .int .i64 (min 1073741824 (w64 ((within x (-1073741824) 1073741824) + w))), .bool false]) rfl (fin_ret (res_c (vs := [.int .i64 (within x (-1073741824) 1073741824), .int .i64 (min 1073741824 (w64 ((within x (-1073741824) 1073741824) + w))), .bool false]) agg26 0 rfl rfl rfl rfl rfl rfl))
def hIv (n : Int) (w : Int) : Iv := (bif (hPick w 12) == 0 then (⟨(hNum n), (hNum (w64 (Int.tdiv w 12))), false⟩ : Iv) else (bif (hPick w 12) == 1 then (⟨(hNum n), (hNum n), (hPick (w64 (Int.tdiv w 12)) 5) == 4⟩ : Iv) else (bif (hPick w 12) == 2 then (⟨(hNum n), (hNum n), false⟩ : Iv) else (bif (hPick w 12) == 3 then (⟨(hNum n), (hNum n), false⟩ : Iv) else (hWide (hNum n) (hPick (w64 (Int.tdiv w 12)) 9000))))))
set_option maxRecDepth 100000 in
theorem c_hIv (n : Int) (w : Int) : Gets Try.prog 37 #[.int .i64 n, .int .i64 w] (Iv.v (hIv n w)) := by
  refine gets_fin Try.func37 rfl rfl rfl ?_
  refine ac_seq ?_
  refine ac_region_lit ?_
  refine ao 4 rfl rfl (st_new zero26 rfl fun g0 => ?_)
  refine ar_nil ?_
  refine ac_seq ?_
  refine ac_region_lit ?_
  refine ao 6 rfl rfl (st_move (v := .int .i64 n) rfl rfl ?_)
  refine ao 7 rfl rfl (st_cf (vs := [.int .i64 n]) (r := .int .i64 (hNum n)) (c_hNum n) Try.func79 rfl (by decide) rfl rfl rfl ?_)
  refine ao 5 rfl rfl (st_assign (v := .int .i64 (hNum n)) rfl rfl ?_)
  refine ar_nil ?_
  refine ac_seq ?_
  refine ac_seq ?_
  refine ac_region_lit ?_
  refine ao 8 rfl rfl (st_move (v := .int .i64 w) rfl rfl ?_)
  refine ao 9 rfl rfl (st_cf (vs := [.int .i64 w, .int .i64 12]) (r := .int .i64 (hPick w 12)) (c_hPick w 12 (by decide)) Try.func19 rfl (by decide) rfl rfl rfl ?_)
  refine ar_nil ?_
  refine ac_block ?_
  refine ac_seq ?_
  refine ac_region_lit ?_
  refine ao 11 rfl rfl (st_bi (u := .int .i64 (hPick w 12)) (v := .int .i64 0) (r := .bool ((hPick w 12) == 0)) rfl rfl rfl (bi_eql rfl) ?_)
  refine ao 10 rfl rfl (st_assign (v := .bool ((hPick w 12) == 0)) rfl rfl ?_)
  refine ar_nil ?_
  refine bool_split ((hPick w 12) == 0) (fun h1 => ?_) (fun h1 => ?_)
  · refine ac_then' (b := (hPick w 12) == 0) h1 rfl ?_
    refine ac_seq ?_
    refine ac_region_lit ?_
    refine ao 12 rfl rfl (st_move (v := .int .i64 (hNum n)) rfl rfl ?_)
    refine ao 13 rfl rfl (st_move (v := .int .i64 w) rfl rfl ?_)
    refine ao 14 rfl rfl (st_bi (u := .int .i64 w) (v := .int .i64 12) (r := .int .i64 (w64 (Int.tdiv w 12))) rfl rfl rfl (bi_quo (by decide) rfl) ?_)
    refine ao 15 rfl rfl (st_cf (vs := [.int .i64 (w64 (Int.tdiv w 12))]) (r := .int .i64 (hNum (w64 (Int.tdiv w 12)))) (c_hNum (w64 (Int.tdiv w 12))) Try.func79 rfl (by decide) rfl rfl rfl ?_)
    refine ao 16 rfl rfl (st_bd (us := [(0, .int .i64 (hNum n)), (1, .int .i64 (hNum (w64 (Int.tdiv w 12))))]) (v := .agg #[.int .i64 (hNum n), .int .i64 (hNum (w64 (Int.tdiv w 12))), .bool false]) rfl rfl (bd26_0_1 _ _) ?_)
    refine ar_op (d := none) rfl rfl (st_sta (g := g0) (off := 0) (us := [.int .i64 (hNum n), .int .i64 (hNum (w64 (Int.tdiv w 12))), .bool false]) (cs := [.int .i64 (hNum n), .int .i64 (hNum (w64 (Int.tdiv w 12))), .bool false]) agg26 0 rfl rfl rfl rfl rfl rfl rfl rfl rfl ?_)
    refine ar_nil ?_
    refine ac_ret ?_
    exact fin_eq (v := .agg #[.int .i64 (hNum n), .int .i64 (hNum (w64 (Int.tdiv w 12))), .bool false]) (by show _ = Iv.v (hIv n w); rw [hIv, h1] <;> rfl) (fin_ret (res_c (vs := [.int .i64 (hNum n), .int .i64 (hNum (w64 (Int.tdiv w 12))), .bool false]) agg26 0 rfl rfl rfl rfl rfl rfl))
  · refine ac_else' (b := (hPick w 12) == 0) h1 rfl ?_
    refine ac_seq ?_
    refine ac_region_lit ?_
    refine ao 18 rfl rfl (st_bi (u := .int .i64 (hPick w 12)) (v := .int .i64 1) (r := .bool ((hPick w 12) == 1)) rfl rfl rfl (bi_eql rfl) ?_)
    refine ao 17 rfl rfl (st_assign (v := .bool ((hPick w 12) == 1)) rfl rfl ?_)
    refine ar_nil ?_
    refine bool_split ((hPick w 12) == 1) (fun h2 => ?_) (fun h2 => ?_)
    · refine ac_then' (b := (hPick w 12) == 1) h2 rfl ?_
      refine ac_seq ?_
      refine ac_region_lit ?_
      refine ao 19 rfl rfl (st_move (v := .int .i64 (hNum n)) rfl rfl ?_)
      refine ao 20 rfl rfl (st_move (v := .int .i64 (hNum n)) rfl rfl ?_)
      refine ao 21 rfl rfl (st_move (v := .int .i64 w) rfl rfl ?_)
      refine ao 22 rfl rfl (st_bi (u := .int .i64 w) (v := .int .i64 12) (r := .int .i64 (w64 (Int.tdiv w 12))) rfl rfl rfl (bi_quo (by decide) rfl) ?_)
      refine ao 23 rfl rfl (st_cf (vs := [.int .i64 (w64 (Int.tdiv w 12)), .int .i64 5]) (r := .int .i64 (hPick (w64 (Int.tdiv w 12)) 5)) (c_hPick (w64 (Int.tdiv w 12)) 5 (by decide)) Try.func19 rfl (by decide) rfl rfl rfl ?_)
      refine ao 24 rfl rfl (st_bi (u := .int .i64 (hPick (w64 (Int.tdiv w 12)) 5)) (v := .int .i64 4) (r := .bool ((hPick (w64 (Int.tdiv w 12)) 5) == 4)) rfl rfl rfl (bi_eql rfl) ?_)
      refine ao 25 rfl rfl (st_bd (us := [(0, .int .i64 (hNum n)), (1, .int .i64 (hNum n)), (2, .bool ((hPick (w64 (Int.tdiv w 12)) 5) == 4))]) (v := .agg #[.int .i64 (hNum n), .int .i64 (hNum n), .bool ((hPick (w64 (Int.tdiv w 12)) 5) == 4)]) rfl rfl (bd26_0_1_2 _ _ _) ?_)
      refine ar_op (d := none) rfl rfl (st_sta (g := g0) (off := 0) (us := [.int .i64 (hNum n), .int .i64 (hNum n), .bool ((hPick (w64 (Int.tdiv w 12)) 5) == 4)]) (cs := [.int .i64 (hNum n), .int .i64 (hNum n), .bool ((hPick (w64 (Int.tdiv w 12)) 5) == 4)]) agg26 0 rfl rfl rfl rfl rfl rfl rfl rfl rfl ?_)
      refine ar_nil ?_
      refine ac_ret ?_
      exact fin_eq (v := .agg #[.int .i64 (hNum n), .int .i64 (hNum n), .bool ((hPick (w64 (Int.tdiv w 12)) 5) == 4)]) (by show _ = Iv.v (hIv n w); rw [hIv, h2, h1] <;> rfl) (fin_ret (res_c (vs := [.int .i64 (hNum n), .int .i64 (hNum n), .bool ((hPick (w64 (Int.tdiv w 12)) 5) == 4)]) agg26 0 rfl rfl rfl rfl rfl rfl))
    · refine ac_else' (b := (hPick w 12) == 1) h2 rfl ?_
      refine ac_seq ?_
      refine ac_seq ?_
      refine ac_region_lit ?_
      refine ao 27 rfl rfl (st_bi (u := .int .i64 (hPick w 12)) (v := .int .i64 2) (r := .bool ((hPick w 12) == 2)) rfl rfl rfl (bi_eql rfl) ?_)
      refine ao 26 rfl rfl (st_assign (v := .bool ((hPick w 12) == 2)) rfl rfl ?_)
      refine ar_nil ?_
      refine bool_split ((hPick w 12) == 2) (fun h3 => ?_) (fun h3 => ?_)
      · refine ac_then' (b := (hPick w 12) == 2) h3 rfl ?_
        refine ac_skip ?_
        refine ac_then' (b := (hPick w 12) == 2) h3 rfl ?_
        refine ac_seq ?_
        refine ac_region_lit ?_
        refine ao 29 rfl rfl (st_move (v := .int .i64 (hNum n)) rfl rfl ?_)
        refine ao 30 rfl rfl (st_move (v := .int .i64 (hNum n)) rfl rfl ?_)
        refine ao 31 rfl rfl (st_bd (us := [(0, .int .i64 (hNum n)), (1, .int .i64 (hNum n))]) (v := .agg #[.int .i64 (hNum n), .int .i64 (hNum n), .bool false]) rfl rfl (bd26_0_1 _ _) ?_)
        refine ar_op (d := none) rfl rfl (st_sta (g := g0) (off := 0) (us := [.int .i64 (hNum n), .int .i64 (hNum n), .bool false]) (cs := [.int .i64 (hNum n), .int .i64 (hNum n), .bool false]) agg26 0 rfl rfl rfl rfl rfl rfl rfl rfl rfl ?_)
        refine ar_nil ?_
        refine ac_ret ?_
        exact fin_eq (v := .agg #[.int .i64 (hNum n), .int .i64 (hNum n), .bool false]) (by show _ = Iv.v (hIv n w); rw [hIv, h3, h2, h1] <;> rfl) (fin_ret (res_c (vs := [.int .i64 (hNum n), .int .i64 (hNum n), .bool false]) agg26 0 rfl rfl rfl rfl rfl rfl))
      · refine ac_else' (b := (hPick w 12) == 2) h3 rfl ?_
        refine ac_region_lit ?_
        refine ao 28 rfl rfl (st_bi (u := .int .i64 (hPick w 12)) (v := .int .i64 3) (r := .bool ((hPick w 12) == 3)) rfl rfl rfl (bi_eql rfl) ?_)
        refine ao 26 rfl rfl (st_assign (v := .bool ((hPick w 12) == 3)) rfl rfl ?_)
        refine ar_nil ?_
        refine bool_split ((hPick w 12) == 3) (fun h4 => ?_) (fun h4 => ?_)
        · refine ac_then' (b := (hPick w 12) == 3) h4 rfl ?_
          refine ac_seq ?_
          refine ac_region_lit ?_
          refine ao 29 rfl rfl (st_move (v := .int .i64 (hNum n)) rfl rfl ?_)
          refine ao 30 rfl rfl (st_move (v := .int .i64 (hNum n)) rfl rfl ?_)
          refine ao 31 rfl rfl (st_bd (us := [(0, .int .i64 (hNum n)), (1, .int .i64 (hNum n))]) (v := .agg #[.int .i64 (hNum n), .int .i64 (hNum n), .bool false]) rfl rfl (bd26_0_1 _ _) ?_)
          refine ar_op (d := none) rfl rfl (st_sta (g := g0) (off := 0) (us := [.int .i64 (hNum n), .int .i64 (hNum n), .bool false]) (cs := [.int .i64 (hNum n), .int .i64 (hNum n), .bool false]) agg26 0 rfl rfl rfl rfl rfl rfl rfl rfl rfl ?_)
          refine ar_nil ?_
          refine ac_ret ?_
          exact fin_eq (v := .agg #[.int .i64 (hNum n), .int .i64 (hNum n), .bool false]) (by show _ = Iv.v (hIv n w); rw [hIv, h4, h3, h2, h1] <;> rfl) (fin_ret (res_c (vs := [.int .i64 (hNum n), .int .i64 (hNum n), .bool false]) agg26 0 rfl rfl rfl rfl rfl rfl))
        · refine ac_else' (b := (hPick w 12) == 3) h4 rfl ?_
          refine ac_skip ?_
          refine ac_seq ?_
          refine ac_region_lit ?_
          refine ao 32 rfl rfl (st_move (v := .int .i64 (hNum n)) rfl rfl ?_)
          refine ao 33 rfl rfl (st_move (v := .int .i64 w) rfl rfl ?_)
          refine ao 34 rfl rfl (st_bi (u := .int .i64 w) (v := .int .i64 12) (r := .int .i64 (w64 (Int.tdiv w 12))) rfl rfl rfl (bi_quo (by decide) rfl) ?_)
          refine ao 35 rfl rfl (st_cf (vs := [.int .i64 (w64 (Int.tdiv w 12)), .int .i64 9000]) (r := .int .i64 (hPick (w64 (Int.tdiv w 12)) 9000)) (c_hPick (w64 (Int.tdiv w 12)) 9000 (by decide)) Try.func19 rfl (by decide) rfl rfl rfl ?_)
          refine ao 36 rfl rfl (st_cf (vs := [.int .i64 (hNum n), .int .i64 (hPick (w64 (Int.tdiv w 12)) 9000)]) (r := .agg #[.int .i64 ((hWide (hNum n) (hPick (w64 (Int.tdiv w 12)) 9000)).lo), .int .i64 ((hWide (hNum n) (hPick (w64 (Int.tdiv w 12)) 9000)).hi), .bool ((hWide (hNum n) (hPick (w64 (Int.tdiv w 12)) 9000)).no)]) (c_hWide (hNum n) (hPick (w64 (Int.tdiv w 12)) 9000)) Try.func20 rfl (by decide) rfl rfl rfl ?_)
          refine ar_op (d := none) rfl rfl (st_sta (g := g0) (off := 0) (us := [.int .i64 ((hWide (hNum n) (hPick (w64 (Int.tdiv w 12)) 9000)).lo), .int .i64 ((hWide (hNum n) (hPick (w64 (Int.tdiv w 12)) 9000)).hi), .bool ((hWide (hNum n) (hPick (w64 (Int.tdiv w 12)) 9000)).no)]) (cs := [.int .i64 ((hWide (hNum n) (hPick (w64 (Int.tdiv w 12)) 9000)).lo), .int .i64 ((hWide (hNum n) (hPick (w64 (Int.tdiv w 12)) 9000)).hi), .bool ((hWide (hNum n) (hPick (w64 (Int.tdiv w 12)) 9000)).no)]) agg26 0 rfl rfl rfl rfl rfl rfl rfl rfl rfl ?_)
          refine ar_nil ?_
          refine ac_ret ?_
          exact fin_eq (v := .agg #[.int .i64 ((hWide (hNum n) (hPick (w64 (Int.tdiv w 12)) 9000)).lo), .int .i64 ((hWide (hNum n) (hPick (w64 (Int.tdiv w 12)) 9000)).hi), .bool ((hWide (hNum n) (hPick (w64 (Int.tdiv w 12)) 9000)).no)]) (by show _ = Iv.v (hIv n w); rw [hIv, h4, h3, h2, h1] <;> rfl) (fin_ret (res_c (vs := [.int .i64 ((hWide (hNum n) (hPick (w64 (Int.tdiv w 12)) 9000)).lo), .int .i64 ((hWide (hNum n) (hPick (w64 (Int.tdiv w 12)) 9000)).hi), .bool ((hWide (hNum n) (hPick (w64 (Int.tdiv w 12)) 9000)).no)]) agg26 0 rfl rfl rfl rfl rfl rfl))
def hTame (n : Int) (w : Int) : Iv := (hWide (w64 ((hPick n 2621440) - 1310720)) (hPick w 3000))
end Go.Proofs.Ythngkopcadlciaa
