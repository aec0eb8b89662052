import Derived.Test.YthngkopcadlciaaFacts
set_option linter.unusedVariables false
set_option linter.unusedSimpArgs false
namespace Go.Proofs.Ythngkopcadlciaa
open Go.RowKit

attribute [local irreducible] AC AR DWalk
def numIn (n : Int) : Bool := (bif decide (n ≥ (-1073741824)) then decide (n ≤ 1073741824) else false)
set_option maxRecDepth 100000 in
theorem c_numIn (n : Int) : Gets Try.prog 65 #[.int .i64 n] ((fun (r : Bool) => (.bool r : Value)) (numIn n)) := by
  refine gets_fin Try.func65 rfl rfl rfl ?_
  refine ac_seq ?_
  refine ac_region_lit ?_
  refine ao 2 rfl rfl (st_assign (v := .bool false) rfl rfl ?_)
  refine ar_nil ?_
  refine ac_seq ?_
  refine ac_region_lit ?_
  refine ao 3 rfl rfl (st_move (v := .int .i64 n) rfl rfl ?_)
  refine ao 4 rfl rfl (st_bi (u := .int .i64 n) (v := .int .i64 (-1073741824)) (r := .bool (decide (n ≥ (-1073741824)))) rfl rfl rfl (bi_geq rfl) ?_)
  refine ao 5 rfl rfl (st_move (v := .bool (decide (n ≥ (-1073741824)))) rfl rfl ?_)
  refine bool_split (decide (n ≥ (-1073741824))) (fun h1 => ?_) (fun h1 => ?_)
  · refine ar_gd (d := (some 6)) (by show ((decide (n ≥ (-1073741824))) == true) = true; rw [h1]; rfl) rfl (st_move (v := .int .i64 n) rfl rfl ?_)
    refine ar_gd (d := (some 7)) (by show ((decide (n ≥ (-1073741824))) == true) = true; rw [h1]; rfl) rfl (st_bi (u := .int .i64 n) (v := .int .i64 1073741824) (r := .bool (decide (n ≤ 1073741824))) rfl rfl rfl (bi_leq rfl) ?_)
    refine ao 8 rfl rfl (st_pkt' (b := decide (n ≥ (-1073741824))) (v := .bool (decide (n ≤ 1073741824))) h1 rfl rfl rfl ?_)
    refine ao 2 rfl rfl (st_assign (v := .bool (decide (n ≤ 1073741824))) rfl rfl ?_)
    refine ar_nil ?_
    refine ac_ret ?_
    exact fin_eq (v := .bool (decide (n ≤ 1073741824))) (by show _ = (fun (r : Bool) => (.bool r : Value)) (numIn n); rw [numIn, h1] <;> rfl) (fin_ret (res_tmp rfl rfl))
  · refine ar_sk (d := (some 6)) (by show ((decide (n ≥ (-1073741824))) == true) = false; rw [h1]; rfl) rfl ?_
    refine ar_sk (d := (some 7)) (by show ((decide (n ≥ (-1073741824))) == true) = false; rw [h1]; rfl) rfl ?_
    refine ao 8 rfl rfl (st_pkf' (b := decide (n ≥ (-1073741824))) (v := .bool false) h1 rfl rfl rfl ?_)
    refine ao 2 rfl rfl (st_assign (v := .bool false) rfl rfl ?_)
    refine ar_nil ?_
    refine ac_ret ?_
    exact fin_eq (v := .bool false) (by show _ = (fun (r : Bool) => (.bool r : Value)) (numIn n); rw [numIn, h1] <;> rfl) (fin_ret (res_tmp rfl rfl))
def numFloor_e0 (a : Int) (b : Int) : Int := (bif (decide (a < 0)) != (decide (b < 0)) then (w64 ((w64 (Int.tdiv a b)) - 1)) else (w64 (Int.tdiv a b)))
def numFloor (a : Int) (b : Int) : Int := (bif b == 0 then 0 else (bif (Int.tmod a b) != 0 then (numFloor_e0 a b) else w64 (Int.tdiv a b)))
set_option maxRecDepth 100000 in
theorem c_numFloor (a : Int) (b : Int) : Gets Try.prog 121 #[.int .i64 a, .int .i64 b] ((fun (r : Int) => (.int .i64 r : Value)) (numFloor a b)) := by
  refine gets_fin Try.func121 rfl rfl rfl ?_
  refine ac_seq ?_
  refine ac_region_lit ?_
  refine ao 4 rfl rfl (st_assign (v := .int .i64 0) rfl rfl ?_)
  refine ar_nil ?_
  refine ac_seq ?_
  refine ac_seq ?_
  refine ac_region_lit ?_
  refine ao 6 rfl rfl (st_move (v := .int .i64 b) rfl rfl ?_)
  refine ao 7 rfl rfl (st_bi (u := .int .i64 b) (v := .int .i64 0) (r := .bool (b == 0)) rfl rfl rfl (bi_eql rfl) ?_)
  refine ar_nil ?_
  refine bool_split (b == 0) (fun h1 => ?_) (fun h1 => ?_)
  · refine ac_then' (b := b == 0) h1 rfl ?_
    refine ac_seq ?_
    refine ac_region_lit ?_
    refine ao 4 rfl rfl (st_assign (v := .int .i64 0) rfl rfl ?_)
    refine ar_nil ?_
    refine ac_ret ?_
    exact fin_eq (v := .int .i64 0) (by show _ = (fun (r : Int) => (.int .i64 r : Value)) (numFloor a b); rw [numFloor, h1] <;> rfl) (fin_ret (res_tmp rfl rfl))
  · refine ac_else' (b := b == 0) h1 rfl ?_
    refine ac_skip ?_
    refine ac_seq ?_
    refine ac_region_lit ?_
    refine ao 8 rfl rfl (st_move (v := .int .i64 a) rfl rfl ?_)
    refine ao 9 rfl rfl (st_move (v := .int .i64 b) rfl rfl ?_)
    refine ao 10 rfl rfl (st_bi (u := .int .i64 a) (v := .int .i64 b) (r := .int .i64 (w64 (Int.tdiv a b))) rfl rfl rfl (bi_quo (ne_of_beq0 h1) rfl) ?_)
    refine ao 5 rfl rfl (st_assign (v := .int .i64 (w64 (Int.tdiv a b))) rfl rfl ?_)
    refine ar_nil ?_
    refine ac_seq ?_
    refine ac_seq ?_
    refine ac_region_lit ?_
    refine ao 11 rfl rfl (st_move (v := .int .i64 a) rfl rfl ?_)
    refine ao 12 rfl rfl (st_move (v := .int .i64 b) rfl rfl ?_)
    refine ao 13 rfl rfl (st_bi (u := .int .i64 a) (v := .int .i64 b) (r := .int .i64 (Int.tmod a b)) rfl rfl rfl (bi_rem (ne_of_beq0 h1) rfl) ?_)
    refine ao 14 rfl rfl (st_bi (u := .int .i64 (Int.tmod a b)) (v := .int .i64 0) (r := .bool ((Int.tmod a b) != 0)) rfl rfl rfl (bi_neq rfl) ?_)
    refine ao 15 rfl rfl (st_move (v := .bool ((Int.tmod a b) != 0)) rfl rfl ?_)
    refine bool_split ((Int.tmod a b) != 0) (fun h2 => ?_) (fun h2 => ?_)
    · refine ar_gd (d := (some 16)) (by show (((Int.tmod a b) != 0) == true) = true; rw [h2]; rfl) rfl (st_move (v := .int .i64 a) rfl rfl ?_)
      refine ar_gd (d := (some 17)) (by show (((Int.tmod a b) != 0) == true) = true; rw [h2]; rfl) rfl (st_bi (u := .int .i64 a) (v := .int .i64 0) (r := .bool (decide (a < 0))) rfl rfl rfl (bi_lss rfl) ?_)
      refine ar_gd (d := (some 18)) (by show (((Int.tmod a b) != 0) == true) = true; rw [h2]; rfl) rfl (st_move (v := .int .i64 b) rfl rfl ?_)
      refine ar_gd (d := (some 19)) (by show (((Int.tmod a b) != 0) == true) = true; rw [h2]; rfl) rfl (st_bi (u := .int .i64 b) (v := .int .i64 0) (r := .bool (decide (b < 0))) rfl rfl rfl (bi_lss rfl) ?_)
      refine ar_gd (d := (some 20)) (by show (((Int.tmod a b) != 0) == true) = true; rw [h2]; rfl) rfl (st_bi (u := .bool (decide (a < 0))) (v := .bool (decide (b < 0))) (r := .bool ((decide (a < 0)) != (decide (b < 0)))) rfl rfl rfl (bb_neq Try.underlying4 rfl) ?_)
      refine ao 21 rfl rfl (st_pkt' (b := (Int.tmod a b) != 0) (v := .bool ((decide (a < 0)) != (decide (b < 0)))) h2 rfl rfl rfl ?_)
      refine ar_nil ?_
      refine ac_mergeE (fun E9 => (((Env.put E9 (some 22) (.int .i64 (w64 (Int.tdiv a b)))).put (some 23) (.int .i64 (w64 ((w64 (Int.tdiv a b)) - 1)))).put (some 5) (.int .i64 (w64 ((w64 (Int.tdiv a b)) - 1))))) (fun E9 => (((Env.put E9 (some 22) (bif (decide (a < 0)) != (decide (b < 0)) then (.int .i64 (w64 (Int.tdiv a b)) : Value) else E9 22)).put (some 23) (bif (decide (a < 0)) != (decide (b < 0)) then (.int .i64 (w64 ((w64 (Int.tdiv a b)) - 1)) : Value) else E9 23)).put (some 5) (.int .i64 (numFloor_e0 a b)))) (b := (decide (a < 0)) != (decide (b < 0))) rfl (fun hm => ?_) (fun hm => ?_) (fun hm => ?_) ?_
      · refine ac_region_lit ?_
        refine ao 22 rfl rfl (st_move (v := .int .i64 (w64 (Int.tdiv a b))) rfl rfl ?_)
        refine ao 23 rfl rfl (st_bi (u := .int .i64 (w64 (Int.tdiv a b))) (v := .int .i64 1) (r := .int .i64 (w64 ((w64 (Int.tdiv a b)) - 1))) rfl rfl rfl (bi_sub rfl) ?_)
        refine ao 5 rfl rfl (st_assign (v := .int .i64 (w64 ((w64 (Int.tdiv a b)) - 1))) rfl rfl ?_)
        refine ar_nil ?_
        exact ⟨rfl, rfl, rfl⟩
      · unfold numFloor_e0; rw [hm]; rfl
      · unfold numFloor_e0; rw [hm]; exact ((put_self rfl).trans ((put_self rfl).trans (put_self rfl)))
      refine ac_seq ?_
      refine ac_region_lit ?_
      refine ao 24 rfl rfl (st_move (v := .int .i64 (numFloor_e0 a b)) rfl rfl ?_)
      refine ao 4 rfl rfl (st_assign (v := .int .i64 (numFloor_e0 a b)) rfl rfl ?_)
      refine ar_nil ?_
      refine ac_ret ?_
      exact fin_eq (v := .int .i64 (numFloor_e0 a b)) (by show _ = (fun (r : Int) => (.int .i64 r : Value)) (numFloor a b); rw [numFloor, h2, h1] <;> rfl) (fin_ret (res_tmp rfl rfl))
    · refine ar_sk (d := (some 16)) (by show (((Int.tmod a b) != 0) == true) = false; rw [h2]; rfl) rfl ?_
      refine ar_sk (d := (some 17)) (by show (((Int.tmod a b) != 0) == true) = false; rw [h2]; rfl) rfl ?_
      refine ar_sk (d := (some 18)) (by show (((Int.tmod a b) != 0) == true) = false; rw [h2]; rfl) rfl ?_
      refine ar_sk (d := (some 19)) (by show (((Int.tmod a b) != 0) == true) = false; rw [h2]; rfl) rfl ?_
      refine ar_sk (d := (some 20)) (by show (((Int.tmod a b) != 0) == true) = false; rw [h2]; rfl) rfl ?_
      refine ao 21 rfl rfl (st_pkf' (b := (Int.tmod a b) != 0) (v := .bool false) h2 rfl rfl rfl ?_)
      refine ar_nil ?_
      refine ac_else rfl ?_
      refine ac_skip ?_
      refine ac_seq ?_
      refine ac_region_lit ?_
      refine ao 24 rfl rfl (st_move (v := .int .i64 (w64 (Int.tdiv a b))) rfl rfl ?_)
      refine ao 4 rfl rfl (st_assign (v := .int .i64 (w64 (Int.tdiv a b))) rfl rfl ?_)
      refine ar_nil ?_
      refine ac_ret ?_
      exact fin_eq (v := .int .i64 (w64 (Int.tdiv a b))) (by show _ = (fun (r : Int) => (.int .i64 r : Value)) (numFloor a b); rw [numFloor, h2, h1] <;> rfl) (fin_ret (res_tmp rfl rfl))
def numRounded_e0 (a : Int) (b : Int) (up : Bool) : Int := (bif (Int.tmod a b) != 0 then (w64 ((numFloor a b) + 1)) else (numFloor a b))
def numRounded (a : Int) (b : Int) (up : Bool) : Int × Bool := (bif up then (bif numIn (numRounded_e0 a b up) then ((numRounded_e0 a b up), true) else (0, false)) else (bif numIn (numFloor a b) then ((numFloor a b), true) else (0, false)))
set_option maxRecDepth 100000 in
theorem c_numRounded (a : Int) (b : Int) (up : Bool) (hb : b ≠ 0) : Gets Try.prog 101 #[.int .i64 a, .int .i64 b, .bool up] ((fun (r : Int × Bool) => (.tuple #[.int .i64 r.1, .bool r.2] : Value)) (numRounded a b up)) := by
  refine gets_fin Try.func101 rfl rfl rfl ?_
  refine ac_seq ?_
  refine ac_region_lit ?_
  refine ao 6 rfl rfl (st_assign (v := .int .i64 0) rfl rfl ?_)
  refine ao 7 rfl rfl (st_assign (v := .bool false) rfl rfl ?_)
  refine ar_nil ?_
  refine ac_seq ?_
  refine ac_region_lit ?_
  refine ao 9 rfl rfl (st_move (v := .int .i64 a) rfl rfl ?_)
  refine ao 10 rfl rfl (st_move (v := .int .i64 b) rfl rfl ?_)
  refine ao 11 rfl rfl (st_cf (vs := [.int .i64 a, .int .i64 b]) (r := .int .i64 (numFloor a b)) (c_numFloor a b) Try.func121 rfl (by decide) rfl rfl rfl ?_)
  refine ao 8 rfl rfl (st_assign (v := .int .i64 (numFloor a b)) rfl rfl ?_)
  refine ar_nil ?_
  refine ac_seq ?_
  refine ac_seq ?_
  refine ac_region_lit ?_
  refine ao 12 rfl rfl (st_move (v := .bool up) rfl rfl ?_)
  refine ao 13 rfl rfl (st_move (v := .bool up) rfl rfl ?_)
  refine bool_split (up) (fun h1 => ?_) (fun h1 => ?_)
  · refine ar_gd (d := (some 14)) (by show (up == true) = true; rw [h1]; rfl) rfl (st_move (v := .int .i64 a) rfl rfl ?_)
    refine ar_gd (d := (some 15)) (by show (up == true) = true; rw [h1]; rfl) rfl (st_move (v := .int .i64 b) rfl rfl ?_)
    refine ar_gd (d := (some 16)) (by show (up == true) = true; rw [h1]; rfl) rfl (st_bi (u := .int .i64 a) (v := .int .i64 b) (r := .int .i64 (Int.tmod a b)) rfl rfl rfl (bi_rem hb rfl) ?_)
    refine ar_gd (d := (some 17)) (by show (up == true) = true; rw [h1]; rfl) rfl (st_bi (u := .int .i64 (Int.tmod a b)) (v := .int .i64 0) (r := .bool ((Int.tmod a b) != 0)) rfl rfl rfl (bi_neq rfl) ?_)
    refine ao 18 rfl rfl (st_pkt' (b := up) (v := .bool ((Int.tmod a b) != 0)) h1 rfl rfl rfl ?_)
    refine ar_nil ?_
    refine ac_mergeE (fun E9 => (((Env.put E9 (some 19) (.int .i64 (numFloor a b))).put (some 20) (.int .i64 (w64 ((numFloor a b) + 1)))).put (some 8) (.int .i64 (w64 ((numFloor a b) + 1))))) (fun E9 => (((Env.put E9 (some 19) (bif (Int.tmod a b) != 0 then (.int .i64 (numFloor a b) : Value) else E9 19)).put (some 20) (bif (Int.tmod a b) != 0 then (.int .i64 (w64 ((numFloor a b) + 1)) : Value) else E9 20)).put (some 8) (.int .i64 (numRounded_e0 a b up)))) (b := (Int.tmod a b) != 0) rfl (fun hm => ?_) (fun hm => ?_) (fun hm => ?_) ?_
    · refine ac_region_lit ?_
      refine ao 19 rfl rfl (st_move (v := .int .i64 (numFloor a b)) rfl rfl ?_)
      refine ao 20 rfl rfl (st_bi (u := .int .i64 (numFloor a b)) (v := .int .i64 1) (r := .int .i64 (w64 ((numFloor a b) + 1))) rfl rfl rfl (bi_add rfl) ?_)
      refine ao 8 rfl rfl (st_assign (v := .int .i64 (w64 ((numFloor a b) + 1))) rfl rfl ?_)
      refine ar_nil ?_
      exact ⟨rfl, rfl, rfl⟩
    · unfold numRounded_e0; rw [hm]; rfl
    · unfold numRounded_e0; rw [hm]; exact ((put_self rfl).trans ((put_self rfl).trans (put_self rfl)))
    refine ac_seq ?_
    refine ac_seq ?_
    refine ac_region_lit ?_
    refine ao 21 rfl rfl (st_move (v := .int .i64 (numRounded_e0 a b up)) rfl rfl ?_)
    refine ao 22 rfl rfl (st_cf (vs := [.int .i64 (numRounded_e0 a b up)]) (r := .bool (numIn (numRounded_e0 a b up))) (c_numIn (numRounded_e0 a b up)) Try.func65 rfl (by decide) rfl rfl rfl ?_)
    refine ao 23 rfl rfl (st_un (u := .bool (numIn (numRounded_e0 a b up))) (v := .bool (!(numIn (numRounded_e0 a b up)))) rfl rfl (un_not rfl) ?_)
    refine ar_nil ?_
    refine bool_split (numIn (numRounded_e0 a b up)) (fun h2 => ?_) (fun h2 => ?_)
    · refine ac_else' (b := !(numIn (numRounded_e0 a b up))) (by rw [h2]; rfl) rfl ?_
      refine ac_skip ?_
      refine ac_seq ?_
      refine ac_region_lit ?_
      refine ao 24 rfl rfl (st_move (v := .int .i64 (numRounded_e0 a b up)) rfl rfl ?_)
      refine ao 6 rfl rfl (st_assign (v := .int .i64 (numRounded_e0 a b up)) rfl rfl ?_)
      refine ao 7 rfl rfl (st_assign (v := .bool true) rfl rfl ?_)
      refine ar_nil ?_
      refine ac_ret ?_
      exact fin_eq (v := .tuple #[.int .i64 (numRounded_e0 a b up), .bool true]) (by show _ = (fun (r : Int × Bool) => (.tuple #[.int .i64 r.1, .bool r.2] : Value)) (numRounded a b up); rw [numRounded, h2, h1] <;> rfl) (fin_ret (res_tt rfl rfl rfl))
    · refine ac_then' (b := !(numIn (numRounded_e0 a b up))) (by rw [h2]; rfl) rfl ?_
      refine ac_seq ?_
      refine ac_region_lit ?_
      refine ao 6 rfl rfl (st_assign (v := .int .i64 0) rfl rfl ?_)
      refine ao 7 rfl rfl (st_assign (v := .bool false) rfl rfl ?_)
      refine ar_nil ?_
      refine ac_ret ?_
      exact fin_eq (v := .tuple #[.int .i64 0, .bool false]) (by show _ = (fun (r : Int × Bool) => (.tuple #[.int .i64 r.1, .bool r.2] : Value)) (numRounded a b up); rw [numRounded, h2, h1] <;> rfl) (fin_ret (res_tt rfl rfl rfl))
  · refine ar_sk (d := (some 14)) (by show (up == true) = false; rw [h1]; rfl) rfl ?_
    refine ar_sk (d := (some 15)) (by show (up == true) = false; rw [h1]; rfl) rfl ?_
    refine ar_sk (d := (some 16)) (by show (up == true) = false; rw [h1]; rfl) rfl ?_
    refine ar_sk (d := (some 17)) (by show (up == true) = false; rw [h1]; rfl) rfl ?_
    refine ao 18 rfl rfl (st_pkf' (b := up) (v := .bool false) h1 rfl rfl rfl ?_)
    refine ar_nil ?_
    refine ac_else rfl ?_
    refine ac_skip ?_
    refine ac_seq ?_
    refine ac_seq ?_
    refine ac_region_lit ?_
    refine ao 21 rfl rfl (st_move (v := .int .i64 (numFloor a b)) rfl rfl ?_)
    refine ao 22 rfl rfl (st_cf (vs := [.int .i64 (numFloor a b)]) (r := .bool (numIn (numFloor a b))) (c_numIn (numFloor a b)) Try.func65 rfl (by decide) rfl rfl rfl ?_)
    refine ao 23 rfl rfl (st_un (u := .bool (numIn (numFloor a b))) (v := .bool (!(numIn (numFloor a b)))) rfl rfl (un_not rfl) ?_)
    refine ar_nil ?_
    refine bool_split (numIn (numFloor a b)) (fun h2 => ?_) (fun h2 => ?_)
    · refine ac_else' (b := !(numIn (numFloor a b))) (by rw [h2]; rfl) rfl ?_
      refine ac_skip ?_
      refine ac_seq ?_
      refine ac_region_lit ?_
      refine ao 24 rfl rfl (st_move (v := .int .i64 (numFloor a b)) rfl rfl ?_)
      refine ao 6 rfl rfl (st_assign (v := .int .i64 (numFloor a b)) rfl rfl ?_)
      refine ao 7 rfl rfl (st_assign (v := .bool true) rfl rfl ?_)
      refine ar_nil ?_
      refine ac_ret ?_
      exact fin_eq (v := .tuple #[.int .i64 (numFloor a b), .bool true]) (by show _ = (fun (r : Int × Bool) => (.tuple #[.int .i64 r.1, .bool r.2] : Value)) (numRounded a b up); rw [numRounded, h2, h1] <;> rfl) (fin_ret (res_tt rfl rfl rfl))
    · refine ac_then' (b := !(numIn (numFloor a b))) (by rw [h2]; rfl) rfl ?_
      refine ac_seq ?_
      refine ac_region_lit ?_
      refine ao 6 rfl rfl (st_assign (v := .int .i64 0) rfl rfl ?_)
      refine ao 7 rfl rfl (st_assign (v := .bool false) rfl rfl ?_)
      refine ar_nil ?_
      refine ac_ret ?_
      exact fin_eq (v := .tuple #[.int .i64 0, .bool false]) (by show _ = (fun (r : Int × Bool) => (.tuple #[.int .i64 r.1, .bool r.2] : Value)) (numRounded a b up); rw [numRounded, h2, h1] <;> rfl) (fin_ret (res_tt rfl rfl rfl))
def numMul (a : Int) (b : Int) (up : Bool) : Int × Bool := (bif numIn a then (bif numIn b then ((numRounded (w64 (a * b)) 65536 up).1, (numRounded (w64 (a * b)) 65536 up).2) else (0, false)) else (0, false))
set_option maxRecDepth 100000 in
theorem c_numMul (a : Int) (b : Int) (up : Bool) : Gets Try.prog 100 #[.int .i64 a, .int .i64 b, .bool up] ((fun (r : Int × Bool) => (.tuple #[.int .i64 r.1, .bool r.2] : Value)) (numMul a b up)) := by
  refine gets_fin Try.func100 rfl rfl rfl ?_
  refine ac_seq ?_
  refine ac_region_lit ?_
  refine ao 6 rfl rfl (st_assign (v := .int .i64 0) rfl rfl ?_)
  refine ao 7 rfl rfl (st_assign (v := .bool false) rfl rfl ?_)
  refine ar_nil ?_
  refine ac_seq ?_
  refine ac_seq ?_
  refine ac_region_lit ?_
  refine ao 8 rfl rfl (st_move (v := .int .i64 a) rfl rfl ?_)
  refine ao 9 rfl rfl (st_cf (vs := [.int .i64 a]) (r := .bool (numIn a)) (c_numIn a) Try.func65 rfl (by decide) rfl rfl rfl ?_)
  refine ao 10 rfl rfl (st_un (u := .bool (numIn a)) (v := .bool (!(numIn a))) rfl rfl (un_not rfl) ?_)
  refine ao 11 rfl rfl (st_move (v := .bool (!(numIn a))) rfl rfl ?_)
  refine bool_split (numIn a) (fun h1 => ?_) (fun h1 => ?_)
  · refine ar_gd (d := (some 12)) (by show ((!(numIn a)) == false) = true; rw [h1]; rfl) rfl (st_move (v := .int .i64 b) rfl rfl ?_)
    refine ar_gd (d := (some 13)) (by show ((!(numIn a)) == false) = true; rw [h1]; rfl) rfl (st_cf (vs := [.int .i64 b]) (r := .bool (numIn b)) (c_numIn b) Try.func65 rfl (by decide) rfl rfl rfl ?_)
    refine ar_gd (d := (some 14)) (by show ((!(numIn a)) == false) = true; rw [h1]; rfl) rfl (st_un (u := .bool (numIn b)) (v := .bool (!(numIn b))) rfl rfl (un_not rfl) ?_)
    refine ao 15 rfl rfl (st_pkf' (b := !(numIn a)) (v := .bool (!(numIn b))) (by rw [h1]; rfl) rfl rfl rfl ?_)
    refine ar_nil ?_
    refine bool_split (numIn b) (fun h2 => ?_) (fun h2 => ?_)
    · refine ac_else' (b := !(numIn b)) (by rw [h2]; rfl) rfl ?_
      refine ac_skip ?_
      refine ac_seq ?_
      refine ac_region_lit ?_
      refine ao 16 rfl rfl (st_move (v := .int .i64 a) rfl rfl ?_)
      refine ao 17 rfl rfl (st_move (v := .int .i64 b) rfl rfl ?_)
      refine ao 18 rfl rfl (st_bi (u := .int .i64 a) (v := .int .i64 b) (r := .int .i64 (w64 (a * b))) rfl rfl rfl (bi_mul rfl) ?_)
      refine ao 19 rfl rfl (st_move (v := .bool up) rfl rfl ?_)
      refine ao 20 rfl rfl (st_cf (vs := [.int .i64 (w64 (a * b)), .int .i64 65536, .bool up]) (r := .tuple #[.int .i64 ((numRounded (w64 (a * b)) 65536 up).1), .bool ((numRounded (w64 (a * b)) 65536 up).2)]) (c_numRounded (w64 (a * b)) 65536 up (by decide)) Try.func101 rfl (by decide) rfl rfl rfl ?_)
      refine ao 21 rfl rfl (st_ex (vs := [.int .i64 ((numRounded (w64 (a * b)) 65536 up).1), .bool ((numRounded (w64 (a * b)) 65536 up).2)]) (v := .int .i64 ((numRounded (w64 (a * b)) 65536 up).1)) rfl rfl rfl ?_)
      refine ao 22 rfl rfl (st_ex (vs := [.int .i64 ((numRounded (w64 (a * b)) 65536 up).1), .bool ((numRounded (w64 (a * b)) 65536 up).2)]) (v := .bool ((numRounded (w64 (a * b)) 65536 up).2)) rfl rfl rfl ?_)
      refine ao 6 rfl rfl (st_assign (v := .int .i64 ((numRounded (w64 (a * b)) 65536 up).1)) rfl rfl ?_)
      refine ao 7 rfl rfl (st_assign (v := .bool ((numRounded (w64 (a * b)) 65536 up).2)) rfl rfl ?_)
      refine ar_nil ?_
      refine ac_ret ?_
      exact fin_eq (v := .tuple #[.int .i64 ((numRounded (w64 (a * b)) 65536 up).1), .bool ((numRounded (w64 (a * b)) 65536 up).2)]) (by show _ = (fun (r : Int × Bool) => (.tuple #[.int .i64 r.1, .bool r.2] : Value)) (numMul a b up); rw [numMul, h2, h1] <;> rfl) (fin_ret (res_tt rfl rfl rfl))
    · refine ac_then' (b := !(numIn b)) (by rw [h2]; rfl) rfl ?_
      refine ac_seq ?_
      refine ac_region_lit ?_
      refine ao 6 rfl rfl (st_assign (v := .int .i64 0) rfl rfl ?_)
      refine ao 7 rfl rfl (st_assign (v := .bool false) rfl rfl ?_)
      refine ar_nil ?_
      refine ac_ret ?_
      exact fin_eq (v := .tuple #[.int .i64 0, .bool false]) (by show _ = (fun (r : Int × Bool) => (.tuple #[.int .i64 r.1, .bool r.2] : Value)) (numMul a b up); rw [numMul, h2, h1] <;> rfl) (fin_ret (res_tt rfl rfl rfl))
  · refine ar_sk (d := (some 12)) (by show ((!(numIn a)) == false) = false; rw [h1]; rfl) rfl ?_
    refine ar_sk (d := (some 13)) (by show ((!(numIn a)) == false) = false; rw [h1]; rfl) rfl ?_
    refine ar_sk (d := (some 14)) (by show ((!(numIn a)) == false) = false; rw [h1]; rfl) rfl ?_
    refine ao 15 rfl rfl (st_pkt' (b := !(numIn a)) (v := .bool true) (by rw [h1]; rfl) rfl rfl rfl ?_)
    refine ar_nil ?_
    refine ac_then rfl ?_
    refine ac_seq ?_
    refine ac_region_lit ?_
    refine ao 6 rfl rfl (st_assign (v := .int .i64 0) rfl rfl ?_)
    refine ao 7 rfl rfl (st_assign (v := .bool false) rfl rfl ?_)
    refine ar_nil ?_
    refine ac_ret ?_
    exact fin_eq (v := .tuple #[.int .i64 0, .bool false]) (by show _ = (fun (r : Int × Bool) => (.tuple #[.int .i64 r.1, .bool r.2] : Value)) (numMul a b up); rw [numMul, h1] <;> rfl) (fin_ret (res_tt rfl rfl rfl))
def numDiv (a : Int) (b : Int) (up : Bool) : Int × Bool := (bif numIn a then (bif numIn b then (bif b == 0 then (0, false) else ((numRounded (w64 (a * 65536)) b up).1, (numRounded (w64 (a * 65536)) b up).2)) else (0, false)) else (0, false))
set_option maxRecDepth 100000 in
theorem c_numDiv (a : Int) (b : Int) (up : Bool) : Gets Try.prog 72 #[.int .i64 a, .int .i64 b, .bool up] ((fun (r : Int × Bool) => (.tuple #[.int .i64 r.1, .bool r.2] : Value)) (numDiv a b up)) := by
  refine gets_fin Try.func72 rfl rfl rfl ?_
  refine ac_seq ?_
  refine ac_region_lit ?_
  refine ao 6 rfl rfl (st_assign (v := .int .i64 0) rfl rfl ?_)
  refine ao 7 rfl rfl (st_assign (v := .bool false) rfl rfl ?_)
  refine ar_nil ?_
  refine ac_seq ?_
  refine ac_seq ?_
  refine ac_region_lit ?_
  refine ao 8 rfl rfl (st_move (v := .int .i64 a) rfl rfl ?_)
  refine ao 9 rfl rfl (st_cf (vs := [.int .i64 a]) (r := .bool (numIn a)) (c_numIn a) Try.func65 rfl (by decide) rfl rfl rfl ?_)
  refine ao 10 rfl rfl (st_un (u := .bool (numIn a)) (v := .bool (!(numIn a))) rfl rfl (un_not rfl) ?_)
  refine ao 11 rfl rfl (st_move (v := .bool (!(numIn a))) rfl rfl ?_)
  refine bool_split (numIn a) (fun h1 => ?_) (fun h1 => ?_)
  · refine ar_gd (d := (some 12)) (by show ((!(numIn a)) == false) = true; rw [h1]; rfl) rfl (st_move (v := .int .i64 b) rfl rfl ?_)
    refine ar_gd (d := (some 13)) (by show ((!(numIn a)) == false) = true; rw [h1]; rfl) rfl (st_cf (vs := [.int .i64 b]) (r := .bool (numIn b)) (c_numIn b) Try.func65 rfl (by decide) rfl rfl rfl ?_)
    refine ar_gd (d := (some 14)) (by show ((!(numIn a)) == false) = true; rw [h1]; rfl) rfl (st_un (u := .bool (numIn b)) (v := .bool (!(numIn b))) rfl rfl (un_not rfl) ?_)
    refine ao 15 rfl rfl (st_pkf' (b := !(numIn a)) (v := .bool (!(numIn b))) (by rw [h1]; rfl) rfl rfl rfl ?_)
    refine ao 16 rfl rfl (st_move (v := .bool (!(numIn b))) rfl rfl ?_)
    refine bool_split (numIn b) (fun h2 => ?_) (fun h2 => ?_)
    · refine ar_gd (d := (some 17)) (by show ((!(numIn b)) == false) = true; rw [h2]; rfl) rfl (st_move (v := .int .i64 b) rfl rfl ?_)
      refine ar_gd (d := (some 18)) (by show ((!(numIn b)) == false) = true; rw [h2]; rfl) rfl (st_bi (u := .int .i64 b) (v := .int .i64 0) (r := .bool (b == 0)) rfl rfl rfl (bi_eql rfl) ?_)
      refine ao 19 rfl rfl (st_pkf' (b := !(numIn b)) (v := .bool (b == 0)) (by rw [h2]; rfl) rfl rfl rfl ?_)
      refine ar_nil ?_
      refine bool_split (b == 0) (fun h3 => ?_) (fun h3 => ?_)
      · refine ac_then' (b := b == 0) h3 rfl ?_
        refine ac_seq ?_
        refine ac_region_lit ?_
        refine ao 6 rfl rfl (st_assign (v := .int .i64 0) rfl rfl ?_)
        refine ao 7 rfl rfl (st_assign (v := .bool false) rfl rfl ?_)
        refine ar_nil ?_
        refine ac_ret ?_
        exact fin_eq (v := .tuple #[.int .i64 0, .bool false]) (by show _ = (fun (r : Int × Bool) => (.tuple #[.int .i64 r.1, .bool r.2] : Value)) (numDiv a b up); rw [numDiv, h3, h2, h1] <;> rfl) (fin_ret (res_tt rfl rfl rfl))
      · refine ac_else' (b := b == 0) h3 rfl ?_
        refine ac_skip ?_
        refine ac_seq ?_
        refine ac_region_lit ?_
        refine ao 20 rfl rfl (st_move (v := .int .i64 a) rfl rfl ?_)
        refine ao 21 rfl rfl (st_bi (u := .int .i64 a) (v := .int .i64 65536) (r := .int .i64 (w64 (a * 65536))) rfl rfl rfl (bi_mul rfl) ?_)
        refine ao 22 rfl rfl (st_move (v := .int .i64 b) rfl rfl ?_)
        refine ao 23 rfl rfl (st_move (v := .bool up) rfl rfl ?_)
        refine ao 24 rfl rfl (st_cf (vs := [.int .i64 (w64 (a * 65536)), .int .i64 b, .bool up]) (r := .tuple #[.int .i64 ((numRounded (w64 (a * 65536)) b up).1), .bool ((numRounded (w64 (a * 65536)) b up).2)]) (c_numRounded (w64 (a * 65536)) b up (ne_of_beq0 h3)) Try.func101 rfl (by decide) rfl rfl rfl ?_)
        refine ao 25 rfl rfl (st_ex (vs := [.int .i64 ((numRounded (w64 (a * 65536)) b up).1), .bool ((numRounded (w64 (a * 65536)) b up).2)]) (v := .int .i64 ((numRounded (w64 (a * 65536)) b up).1)) rfl rfl rfl ?_)
        refine ao 26 rfl rfl (st_ex (vs := [.int .i64 ((numRounded (w64 (a * 65536)) b up).1), .bool ((numRounded (w64 (a * 65536)) b up).2)]) (v := .bool ((numRounded (w64 (a * 65536)) b up).2)) rfl rfl rfl ?_)
        refine ao 6 rfl rfl (st_assign (v := .int .i64 ((numRounded (w64 (a * 65536)) b up).1)) rfl rfl ?_)
        refine ao 7 rfl rfl (st_assign (v := .bool ((numRounded (w64 (a * 65536)) b up).2)) rfl rfl ?_)
        refine ar_nil ?_
        refine ac_ret ?_
        exact fin_eq (v := .tuple #[.int .i64 ((numRounded (w64 (a * 65536)) b up).1), .bool ((numRounded (w64 (a * 65536)) b up).2)]) (by show _ = (fun (r : Int × Bool) => (.tuple #[.int .i64 r.1, .bool r.2] : Value)) (numDiv a b up); rw [numDiv, h3, h2, h1] <;> rfl) (fin_ret (res_tt rfl rfl rfl))
    · refine ar_sk (d := (some 17)) (by show ((!(numIn b)) == false) = false; rw [h2]; rfl) rfl ?_
      refine ar_sk (d := (some 18)) (by show ((!(numIn b)) == false) = false; rw [h2]; rfl) rfl ?_
      refine ao 19 rfl rfl (st_pkt' (b := !(numIn b)) (v := .bool true) (by rw [h2]; rfl) rfl rfl rfl ?_)
      refine ar_nil ?_
      refine ac_then rfl ?_
      refine ac_seq ?_
      refine ac_region_lit ?_
      refine ao 6 rfl rfl (st_assign (v := .int .i64 0) rfl rfl ?_)
      refine ao 7 rfl rfl (st_assign (v := .bool false) rfl rfl ?_)
      refine ar_nil ?_
      refine ac_ret ?_
      exact fin_eq (v := .tuple #[.int .i64 0, .bool false]) (by show _ = (fun (r : Int × Bool) => (.tuple #[.int .i64 r.1, .bool r.2] : Value)) (numDiv a b up); rw [numDiv, h2, h1] <;> rfl) (fin_ret (res_tt rfl rfl rfl))
  · refine ar_sk (d := (some 12)) (by show ((!(numIn a)) == false) = false; rw [h1]; rfl) rfl ?_
    refine ar_sk (d := (some 13)) (by show ((!(numIn a)) == false) = false; rw [h1]; rfl) rfl ?_
    refine ar_sk (d := (some 14)) (by show ((!(numIn a)) == false) = false; rw [h1]; rfl) rfl ?_
    refine ao 15 rfl rfl (st_pkt' (b := !(numIn a)) (v := .bool true) (by rw [h1]; rfl) rfl rfl rfl ?_)
    refine ao 16 rfl rfl (st_move (v := .bool true) rfl rfl ?_)
    refine ar_sk (d := (some 17)) rfl rfl ?_
    refine ar_sk (d := (some 18)) rfl rfl ?_
    refine ao 19 rfl rfl (st_pkt (v := .bool true) rfl rfl rfl ?_)
    refine ar_nil ?_
    refine ac_then rfl ?_
    refine ac_seq ?_
    refine ac_region_lit ?_
    refine ao 6 rfl rfl (st_assign (v := .int .i64 0) rfl rfl ?_)
    refine ao 7 rfl rfl (st_assign (v := .bool false) rfl rfl ?_)
    refine ar_nil ?_
    refine ac_ret ?_
    exact fin_eq (v := .tuple #[.int .i64 0, .bool false]) (by show _ = (fun (r : Int × Bool) => (.tuple #[.int .i64 r.1, .bool r.2] : Value)) (numDiv a b up); rw [numDiv, h1] <;> rfl) (fin_ret (res_tt rfl rfl rfl))
end Go.Proofs.Ythngkopcadlciaa
