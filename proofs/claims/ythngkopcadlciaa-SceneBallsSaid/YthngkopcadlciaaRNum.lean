import Derived.Test.YthngkopcadlciaaFacts
set_option linter.unusedVariables false
set_option linter.unusedSimpArgs false
namespace Go.Proofs.Ythngkopcadlciaa
open Go.RowKit

attribute [local irreducible] AC AR DWalk
def rIn (n : Int) : Bool := (bif decide (n ≥ (-1073741824)) then decide (n ≤ 1073741824) else false)
set_option maxRecDepth 100000 in
theorem c_rIn (n : Int) : Gets Try.prog 92 #[.int .i64 n] ((fun (r : Bool) => (.bool r : Value)) (rIn n)) := by
  refine gets_fin Try.func92 rfl rfl rfl ?_
  refine ac_seq ?_
  refine ac_region_lit ?_
  refine ao 2 rfl rfl (st_assign (v := .bool false) rfl rfl ?_)
  refine ar_nil ?_
  refine ac_seq ?_
  refine ac_region_lit ?_
  refine ao 3 rfl rfl (st_move (v := .int .i64 n) rfl rfl ?_)
  refine ao 4 rfl rfl (st_bi (u := .int .i64 n) (v := .int .i64 (-1073741824)) (r := .bool (decide (n ≥ (-1073741824)))) rfl rfl rfl (bi_geq rfl) ?_)
  refine ao 5 rfl rfl (st_move (v := .bool (decide (n ≥ (-1073741824)))) rfl rfl ?_)
  refine bool_split (decide (n ≥ (-1073741824))) (fun h1 => ?_) (fun h1 => ?_)
  · refine ar_gd (d := (some 6)) (by show ((decide (n ≥ (-1073741824))) == true) = true; rw [h1]; rfl) rfl (st_move (v := .int .i64 n) rfl rfl ?_)
    refine ar_gd (d := (some 7)) (by show ((decide (n ≥ (-1073741824))) == true) = true; rw [h1]; rfl) rfl (st_bi (u := .int .i64 n) (v := .int .i64 1073741824) (r := .bool (decide (n ≤ 1073741824))) rfl rfl rfl (bi_leq rfl) ?_)
    refine ao 8 rfl rfl (st_pkt' (b := decide (n ≥ (-1073741824))) (v := .bool (decide (n ≤ 1073741824))) h1 rfl rfl rfl ?_)
    refine ao 2 rfl rfl (st_assign (v := .bool (decide (n ≤ 1073741824))) rfl rfl ?_)
    refine ar_nil ?_
    refine ac_ret ?_
    exact fin_eq (v := .bool (decide (n ≤ 1073741824))) (by show _ = (fun (r : Bool) => (.bool r : Value)) (rIn n); rw [rIn, h1] <;> rfl) (fin_ret (res_tmp rfl rfl))
  · refine ar_sk (d := (some 6)) (by show ((decide (n ≥ (-1073741824))) == true) = false; rw [h1]; rfl) rfl ?_
    refine ar_sk (d := (some 7)) (by show ((decide (n ≥ (-1073741824))) == true) = false; rw [h1]; rfl) rfl ?_
    refine ao 8 rfl rfl (st_pkf' (b := decide (n ≥ (-1073741824))) (v := .bool false) h1 rfl rfl rfl ?_)
    refine ao 2 rfl rfl (st_assign (v := .bool false) rfl rfl ?_)
    refine ar_nil ?_
    refine ac_ret ?_
    exact fin_eq (v := .bool false) (by show _ = (fun (r : Bool) => (.bool r : Value)) (rIn n); rw [rIn, h1] <;> rfl) (fin_ret (res_tmp rfl rfl))
def rFloor_e0 (a : Int) (b : Int) : Int := (bif (decide ((Int.tmod a b) < 0)) != (decide (b < 0)) then (w64 ((w64 (Int.tdiv a b)) - 1)) else (w64 (Int.tdiv a b)))
def rFloor (a : Int) (b : Int) : Int := (bif b == 0 then 0 else (bif (Int.tmod a b) != 0 then (rFloor_e0 a b) else w64 (Int.tdiv a b)))
set_option maxRecDepth 100000 in
theorem c_rFloor (a : Int) (b : Int) : Gets Try.prog 128 #[.int .i64 a, .int .i64 b] ((fun (r : Int) => (.int .i64 r : Value)) (rFloor a b)) := by
  refine gets_fin Try.func128 rfl rfl rfl ?_
  refine ac_seq ?_
  refine ac_region_lit ?_
  refine ao 4 rfl rfl (st_assign (v := .int .i64 0) rfl rfl ?_)
  refine ar_nil ?_
  refine ac_seq ?_
  refine ac_seq ?_
  refine ac_region_lit ?_
  refine ao 7 rfl rfl (st_move (v := .int .i64 b) rfl rfl ?_)
  refine ao 8 rfl rfl (st_bi (u := .int .i64 b) (v := .int .i64 0) (r := .bool (b == 0)) rfl rfl rfl (bi_eql rfl) ?_)
  refine ar_nil ?_
  refine bool_split (b == 0) (fun h1 => ?_) (fun h1 => ?_)
  · refine ac_then' (b := b == 0) h1 rfl ?_
    refine ac_seq ?_
    refine ac_region_lit ?_
    refine ao 4 rfl rfl (st_assign (v := .int .i64 0) rfl rfl ?_)
    refine ar_nil ?_
    refine ac_ret ?_
    exact fin_eq (v := .int .i64 0) (by show _ = (fun (r : Int) => (.int .i64 r : Value)) (rFloor a b); rw [rFloor, h1] <;> rfl) (fin_ret (res_tmp rfl rfl))
  · refine ac_else' (b := b == 0) h1 rfl ?_
    refine ac_skip ?_
    refine ac_seq ?_
    refine ac_region_lit ?_
    refine ao 9 rfl rfl (st_move (v := .int .i64 a) rfl rfl ?_)
    refine ao 10 rfl rfl (st_move (v := .int .i64 b) rfl rfl ?_)
    refine ao 11 rfl rfl (st_bi (u := .int .i64 a) (v := .int .i64 b) (r := .int .i64 (w64 (Int.tdiv a b))) rfl rfl rfl (bi_quo (ne_of_beq0 h1) rfl) ?_)
    refine ao 5 rfl rfl (st_assign (v := .int .i64 (w64 (Int.tdiv a b))) rfl rfl ?_)
    refine ar_nil ?_
    refine ac_seq ?_
    refine ac_seq ?_
    refine ac_region_lit ?_
    refine ao 12 rfl rfl (st_move (v := .int .i64 a) rfl rfl ?_)
    refine ao 13 rfl rfl (st_move (v := .int .i64 b) rfl rfl ?_)
    refine ao 14 rfl rfl (st_bi (u := .int .i64 a) (v := .int .i64 b) (r := .int .i64 (Int.tmod a b)) rfl rfl rfl (bi_rem (ne_of_beq0 h1) rfl) ?_)
    refine ao 6 rfl rfl (st_assign (v := .int .i64 (Int.tmod a b)) rfl rfl ?_)
    refine ar_nil ?_
    refine ac_seq ?_
    refine ac_region_lit ?_
    refine ao 15 rfl rfl (st_move (v := .int .i64 (Int.tmod a b)) rfl rfl ?_)
    refine ao 16 rfl rfl (st_bi (u := .int .i64 (Int.tmod a b)) (v := .int .i64 0) (r := .bool ((Int.tmod a b) != 0)) rfl rfl rfl (bi_neq rfl) ?_)
    refine ao 17 rfl rfl (st_move (v := .bool ((Int.tmod a b) != 0)) rfl rfl ?_)
    refine bool_split ((Int.tmod a b) != 0) (fun h2 => ?_) (fun h2 => ?_)
    · refine ar_gd (d := (some 18)) (by show (((Int.tmod a b) != 0) == true) = true; rw [h2]; rfl) rfl (st_move (v := .int .i64 (Int.tmod a b)) rfl rfl ?_)
      refine ar_gd (d := (some 19)) (by show (((Int.tmod a b) != 0) == true) = true; rw [h2]; rfl) rfl (st_bi (u := .int .i64 (Int.tmod a b)) (v := .int .i64 0) (r := .bool (decide ((Int.tmod a b) < 0))) rfl rfl rfl (bi_lss rfl) ?_)
      refine ar_gd (d := (some 20)) (by show (((Int.tmod a b) != 0) == true) = true; rw [h2]; rfl) rfl (st_move (v := .int .i64 b) rfl rfl ?_)
      refine ar_gd (d := (some 21)) (by show (((Int.tmod a b) != 0) == true) = true; rw [h2]; rfl) rfl (st_bi (u := .int .i64 b) (v := .int .i64 0) (r := .bool (decide (b < 0))) rfl rfl rfl (bi_lss rfl) ?_)
      refine ar_gd (d := (some 22)) (by show (((Int.tmod a b) != 0) == true) = true; rw [h2]; rfl) rfl (st_bi (u := .bool (decide ((Int.tmod a b) < 0))) (v := .bool (decide (b < 0))) (r := .bool ((decide ((Int.tmod a b) < 0)) != (decide (b < 0)))) rfl rfl rfl (bb_neq Try.underlying4 rfl) ?_)
      refine ao 23 rfl rfl (st_pkt' (b := (Int.tmod a b) != 0) (v := .bool ((decide ((Int.tmod a b) < 0)) != (decide (b < 0)))) h2 rfl rfl rfl ?_)
      refine ar_nil ?_
      refine ac_mergeE (fun E9 => (((Env.put E9 (some 24) (.int .i64 (w64 (Int.tdiv a b)))).put (some 25) (.int .i64 (w64 ((w64 (Int.tdiv a b)) - 1)))).put (some 5) (.int .i64 (w64 ((w64 (Int.tdiv a b)) - 1))))) (fun E9 => (((Env.put E9 (some 24) (bif (decide ((Int.tmod a b) < 0)) != (decide (b < 0)) then (.int .i64 (w64 (Int.tdiv a b)) : Value) else E9 24)).put (some 25) (bif (decide ((Int.tmod a b) < 0)) != (decide (b < 0)) then (.int .i64 (w64 ((w64 (Int.tdiv a b)) - 1)) : Value) else E9 25)).put (some 5) (.int .i64 (rFloor_e0 a b)))) (b := (decide ((Int.tmod a b) < 0)) != (decide (b < 0))) rfl (fun hm => ?_) (fun hm => ?_) (fun hm => ?_) ?_
      · refine ac_region_lit ?_
        refine ao 24 rfl rfl (st_move (v := .int .i64 (w64 (Int.tdiv a b))) rfl rfl ?_)
        refine ao 25 rfl rfl (st_bi (u := .int .i64 (w64 (Int.tdiv a b))) (v := .int .i64 1) (r := .int .i64 (w64 ((w64 (Int.tdiv a b)) - 1))) rfl rfl rfl (bi_sub rfl) ?_)
        refine ao 5 rfl rfl (st_assign (v := .int .i64 (w64 ((w64 (Int.tdiv a b)) - 1))) rfl rfl ?_)
        refine ar_nil ?_
        exact ⟨rfl, rfl, rfl⟩
      · unfold rFloor_e0; rw [hm]; rfl
      · unfold rFloor_e0; rw [hm]; exact ((put_self rfl).trans ((put_self rfl).trans (put_self rfl)))
      refine ac_seq ?_
      refine ac_region_lit ?_
      refine ao 26 rfl rfl (st_move (v := .int .i64 (rFloor_e0 a b)) rfl rfl ?_)
      refine ao 4 rfl rfl (st_assign (v := .int .i64 (rFloor_e0 a b)) rfl rfl ?_)
      refine ar_nil ?_
      refine ac_ret ?_
      exact fin_eq (v := .int .i64 (rFloor_e0 a b)) (by show _ = (fun (r : Int) => (.int .i64 r : Value)) (rFloor a b); rw [rFloor, h2, h1] <;> rfl) (fin_ret (res_tmp rfl rfl))
    · refine ar_sk (d := (some 18)) (by show (((Int.tmod a b) != 0) == true) = false; rw [h2]; rfl) rfl ?_
      refine ar_sk (d := (some 19)) (by show (((Int.tmod a b) != 0) == true) = false; rw [h2]; rfl) rfl ?_
      refine ar_sk (d := (some 20)) (by show (((Int.tmod a b) != 0) == true) = false; rw [h2]; rfl) rfl ?_
      refine ar_sk (d := (some 21)) (by show (((Int.tmod a b) != 0) == true) = false; rw [h2]; rfl) rfl ?_
      refine ar_sk (d := (some 22)) (by show (((Int.tmod a b) != 0) == true) = false; rw [h2]; rfl) rfl ?_
      refine ao 23 rfl rfl (st_pkf' (b := (Int.tmod a b) != 0) (v := .bool false) h2 rfl rfl rfl ?_)
      refine ar_nil ?_
      refine ac_else rfl ?_
      refine ac_skip ?_
      refine ac_seq ?_
      refine ac_region_lit ?_
      refine ao 26 rfl rfl (st_move (v := .int .i64 (w64 (Int.tdiv a b))) rfl rfl ?_)
      refine ao 4 rfl rfl (st_assign (v := .int .i64 (w64 (Int.tdiv a b))) rfl rfl ?_)
      refine ar_nil ?_
      refine ac_ret ?_
      exact fin_eq (v := .int .i64 (w64 (Int.tdiv a b))) (by show _ = (fun (r : Int) => (.int .i64 r : Value)) (rFloor a b); rw [rFloor, h2, h1] <;> rfl) (fin_ret (res_tmp rfl rfl))
def rCeil_e0 (a : Int) (b : Int) : Int := (bif (w64 ((rFloor a b) * b)) != a then (w64 ((rFloor a b) + 1)) else (rFloor a b))
def rCeil (a : Int) (b : Int) : Int := (rCeil_e0 a b)
set_option maxRecDepth 100000 in
theorem c_rCeil (a : Int) (b : Int) : Gets Try.prog 130 #[.int .i64 a, .int .i64 b] ((fun (r : Int) => (.int .i64 r : Value)) (rCeil a b)) := by
  refine gets_fin Try.func130 rfl rfl rfl ?_
  refine ac_seq ?_
  refine ac_region_lit ?_
  refine ao 4 rfl rfl (st_assign (v := .int .i64 0) rfl rfl ?_)
  refine ar_nil ?_
  refine ac_seq ?_
  refine ac_region_lit ?_
  refine ao 6 rfl rfl (st_move (v := .int .i64 a) rfl rfl ?_)
  refine ao 7 rfl rfl (st_move (v := .int .i64 b) rfl rfl ?_)
  refine ao 8 rfl rfl (st_cf (vs := [.int .i64 a, .int .i64 b]) (r := .int .i64 (rFloor a b)) (c_rFloor a b) Try.func128 rfl (by decide) rfl rfl rfl ?_)
  refine ao 5 rfl rfl (st_assign (v := .int .i64 (rFloor a b)) rfl rfl ?_)
  refine ar_nil ?_
  refine ac_seq ?_
  refine ac_seq ?_
  refine ac_region_lit ?_
  refine ao 9 rfl rfl (st_move (v := .int .i64 (rFloor a b)) rfl rfl ?_)
  refine ao 10 rfl rfl (st_move (v := .int .i64 b) rfl rfl ?_)
  refine ao 11 rfl rfl (st_bi (u := .int .i64 (rFloor a b)) (v := .int .i64 b) (r := .int .i64 (w64 ((rFloor a b) * b))) rfl rfl rfl (bi_mul rfl) ?_)
  refine ao 12 rfl rfl (st_move (v := .int .i64 a) rfl rfl ?_)
  refine ao 13 rfl rfl (st_bi (u := .int .i64 (w64 ((rFloor a b) * b))) (v := .int .i64 a) (r := .bool ((w64 ((rFloor a b) * b)) != a)) rfl rfl rfl (bi_neq rfl) ?_)
  refine ar_nil ?_
  refine ac_mergeE (fun E9 => (((Env.put E9 (some 14) (.int .i64 (rFloor a b))).put (some 15) (.int .i64 (w64 ((rFloor a b) + 1)))).put (some 5) (.int .i64 (w64 ((rFloor a b) + 1))))) (fun E9 => (((Env.put E9 (some 14) (bif (w64 ((rFloor a b) * b)) != a then (.int .i64 (rFloor a b) : Value) else E9 14)).put (some 15) (bif (w64 ((rFloor a b) * b)) != a then (.int .i64 (w64 ((rFloor a b) + 1)) : Value) else E9 15)).put (some 5) (.int .i64 (rCeil_e0 a b)))) (b := (w64 ((rFloor a b) * b)) != a) rfl (fun hm => ?_) (fun hm => ?_) (fun hm => ?_) ?_
  · refine ac_region_lit ?_
    refine ao 14 rfl rfl (st_move (v := .int .i64 (rFloor a b)) rfl rfl ?_)
    refine ao 15 rfl rfl (st_bi (u := .int .i64 (rFloor a b)) (v := .int .i64 1) (r := .int .i64 (w64 ((rFloor a b) + 1))) rfl rfl rfl (bi_add rfl) ?_)
    refine ao 5 rfl rfl (st_assign (v := .int .i64 (w64 ((rFloor a b) + 1))) rfl rfl ?_)
    refine ar_nil ?_
    exact ⟨rfl, rfl, rfl⟩
  · unfold rCeil_e0; rw [hm]; rfl
  · unfold rCeil_e0; rw [hm]; exact ((put_self rfl).trans ((put_self rfl).trans (put_self rfl)))
  refine ac_seq ?_
  refine ac_region_lit ?_
  refine ao 16 rfl rfl (st_move (v := .int .i64 (rCeil_e0 a b)) rfl rfl ?_)
  refine ao 4 rfl rfl (st_assign (v := .int .i64 (rCeil_e0 a b)) rfl rfl ?_)
  refine ar_nil ?_
  refine ac_ret ?_
  exact fin_eq (v := .int .i64 (rCeil_e0 a b)) rfl (fin_ret (res_tmp rfl rfl))
def rTold (n : Int) : Int × Bool := (bif rIn n then (n, true) else (0, false))
set_option maxRecDepth 100000 in
theorem c_rTold (n : Int) : Gets Try.prog 131 #[.int .i64 n] ((fun (r : Int × Bool) => (.tuple #[.int .i64 r.1, .bool r.2] : Value)) (rTold n)) := by
  refine gets_fin Try.func131 rfl rfl rfl ?_
  refine ac_seq ?_
  refine ac_region_lit ?_
  refine ao 2 rfl rfl (st_assign (v := .int .i64 0) rfl rfl ?_)
  refine ao 3 rfl rfl (st_assign (v := .bool false) rfl rfl ?_)
  refine ar_nil ?_
  refine ac_seq ?_
  refine ac_seq ?_
  refine ac_region_lit ?_
  refine ao 4 rfl rfl (st_move (v := .int .i64 n) rfl rfl ?_)
  refine ao 5 rfl rfl (st_cf (vs := [.int .i64 n]) (r := .bool (rIn n)) (c_rIn n) Try.func92 rfl (by decide) rfl rfl rfl ?_)
  refine ao 6 rfl rfl (st_un (u := .bool (rIn n)) (v := .bool (!(rIn n))) rfl rfl (un_not rfl) ?_)
  refine ar_nil ?_
  refine bool_split (rIn n) (fun h1 => ?_) (fun h1 => ?_)
  · refine ac_else' (b := !(rIn n)) (by rw [h1]; rfl) rfl ?_
    refine ac_skip ?_
    refine ac_seq ?_
    refine ac_region_lit ?_
    refine ao 7 rfl rfl (st_move (v := .int .i64 n) rfl rfl ?_)
    refine ao 2 rfl rfl (st_assign (v := .int .i64 n) rfl rfl ?_)
    refine ao 3 rfl rfl (st_assign (v := .bool true) rfl rfl ?_)
    refine ar_nil ?_
    refine ac_ret ?_
    exact fin_eq (v := .tuple #[.int .i64 n, .bool true]) (by show _ = (fun (r : Int × Bool) => (.tuple #[.int .i64 r.1, .bool r.2] : Value)) (rTold n); rw [rTold, h1] <;> rfl) (fin_ret (res_tt rfl rfl rfl))
  · refine ac_then' (b := !(rIn n)) (by rw [h1]; rfl) rfl ?_
    refine ac_seq ?_
    refine ac_region_lit ?_
    refine ao 2 rfl rfl (st_assign (v := .int .i64 0) rfl rfl ?_)
    refine ao 3 rfl rfl (st_assign (v := .bool false) rfl rfl ?_)
    refine ar_nil ?_
    refine ac_ret ?_
    exact fin_eq (v := .tuple #[.int .i64 0, .bool false]) (by show _ = (fun (r : Int × Bool) => (.tuple #[.int .i64 r.1, .bool r.2] : Value)) (rTold n); rw [rTold, h1] <;> rfl) (fin_ret (res_tt rfl rfl rfl))
def rMul (a : Int) (b : Int) (up : Bool) : Int × Bool := (bif rIn a then (bif rIn b then (bif up then ((rTold (rCeil (w64 (a * b)) 65536)).1, (rTold (rCeil (w64 (a * b)) 65536)).2) else ((rTold (rFloor (w64 (a * b)) 65536)).1, (rTold (rFloor (w64 (a * b)) 65536)).2)) else (0, false)) else (0, false))
set_option maxRecDepth 100000 in
theorem c_rMul (a : Int) (b : Int) (up : Bool) : Gets Try.prog 115 #[.int .i64 a, .int .i64 b, .bool up] ((fun (r : Int × Bool) => (.tuple #[.int .i64 r.1, .bool r.2] : Value)) (rMul a b up)) := by
  refine gets_fin Try.func115 rfl rfl rfl ?_
  refine ac_seq ?_
  refine ac_region_lit ?_
  refine ao 6 rfl rfl (st_assign (v := .int .i64 0) rfl rfl ?_)
  refine ao 7 rfl rfl (st_assign (v := .bool false) rfl rfl ?_)
  refine ar_nil ?_
  refine ac_seq ?_
  refine ac_seq ?_
  refine ac_region_lit ?_
  refine ao 8 rfl rfl (st_move (v := .int .i64 a) rfl rfl ?_)
  refine ao 9 rfl rfl (st_cf (vs := [.int .i64 a]) (r := .bool (rIn a)) (c_rIn a) Try.func92 rfl (by decide) rfl rfl rfl ?_)
  refine ao 10 rfl rfl (st_un (u := .bool (rIn a)) (v := .bool (!(rIn a))) rfl rfl (un_not rfl) ?_)
  refine ao 11 rfl rfl (st_move (v := .bool (!(rIn a))) rfl rfl ?_)
  refine bool_split (rIn a) (fun h1 => ?_) (fun h1 => ?_)
  · refine ar_gd (d := (some 12)) (by show ((!(rIn a)) == false) = true; rw [h1]; rfl) rfl (st_move (v := .int .i64 b) rfl rfl ?_)
    refine ar_gd (d := (some 13)) (by show ((!(rIn a)) == false) = true; rw [h1]; rfl) rfl (st_cf (vs := [.int .i64 b]) (r := .bool (rIn b)) (c_rIn b) Try.func92 rfl (by decide) rfl rfl rfl ?_)
    refine ar_gd (d := (some 14)) (by show ((!(rIn a)) == false) = true; rw [h1]; rfl) rfl (st_un (u := .bool (rIn b)) (v := .bool (!(rIn b))) rfl rfl (un_not rfl) ?_)
    refine ao 15 rfl rfl (st_pkf' (b := !(rIn a)) (v := .bool (!(rIn b))) (by rw [h1]; rfl) rfl rfl rfl ?_)
    refine ar_nil ?_
    refine bool_split (rIn b) (fun h2 => ?_) (fun h2 => ?_)
    · refine ac_else' (b := !(rIn b)) (by rw [h2]; rfl) rfl ?_
      refine ac_skip ?_
      refine ac_seq ?_
      refine ac_seq ?_
      refine ac_region_lit ?_
      refine ao 16 rfl rfl (st_move (v := .bool up) rfl rfl ?_)
      refine ar_nil ?_
      refine bool_split (up) (fun h3 => ?_) (fun h3 => ?_)
      · refine ac_then' (b := up) h3 rfl ?_
        refine ac_seq ?_
        refine ac_region_lit ?_
        refine ao 17 rfl rfl (st_move (v := .int .i64 a) rfl rfl ?_)
        refine ao 18 rfl rfl (st_move (v := .int .i64 b) rfl rfl ?_)
        refine ao 19 rfl rfl (st_bi (u := .int .i64 a) (v := .int .i64 b) (r := .int .i64 (w64 (a * b))) rfl rfl rfl (bi_mul rfl) ?_)
        refine ao 20 rfl rfl (st_cf (vs := [.int .i64 (w64 (a * b)), .int .i64 65536]) (r := .int .i64 (rCeil (w64 (a * b)) 65536)) (c_rCeil (w64 (a * b)) 65536) Try.func130 rfl (by decide) rfl rfl rfl ?_)
        refine ao 21 rfl rfl (st_cf (vs := [.int .i64 (rCeil (w64 (a * b)) 65536)]) (r := .tuple #[.int .i64 ((rTold (rCeil (w64 (a * b)) 65536)).1), .bool ((rTold (rCeil (w64 (a * b)) 65536)).2)]) (c_rTold (rCeil (w64 (a * b)) 65536)) Try.func131 rfl (by decide) rfl rfl rfl ?_)
        refine ao 22 rfl rfl (st_ex (vs := [.int .i64 ((rTold (rCeil (w64 (a * b)) 65536)).1), .bool ((rTold (rCeil (w64 (a * b)) 65536)).2)]) (v := .int .i64 ((rTold (rCeil (w64 (a * b)) 65536)).1)) rfl rfl rfl ?_)
        refine ao 23 rfl rfl (st_ex (vs := [.int .i64 ((rTold (rCeil (w64 (a * b)) 65536)).1), .bool ((rTold (rCeil (w64 (a * b)) 65536)).2)]) (v := .bool ((rTold (rCeil (w64 (a * b)) 65536)).2)) rfl rfl rfl ?_)
        refine ao 6 rfl rfl (st_assign (v := .int .i64 ((rTold (rCeil (w64 (a * b)) 65536)).1)) rfl rfl ?_)
        refine ao 7 rfl rfl (st_assign (v := .bool ((rTold (rCeil (w64 (a * b)) 65536)).2)) rfl rfl ?_)
        refine ar_nil ?_
        refine ac_ret ?_
        exact fin_eq (v := .tuple #[.int .i64 ((rTold (rCeil (w64 (a * b)) 65536)).1), .bool ((rTold (rCeil (w64 (a * b)) 65536)).2)]) (by show _ = (fun (r : Int × Bool) => (.tuple #[.int .i64 r.1, .bool r.2] : Value)) (rMul a b up); rw [rMul, h3, h2, h1] <;> rfl) (fin_ret (res_tt rfl rfl rfl))
      · refine ac_else' (b := up) h3 rfl ?_
        refine ac_skip ?_
        refine ac_seq ?_
        refine ac_region_lit ?_
        refine ao 24 rfl rfl (st_move (v := .int .i64 a) rfl rfl ?_)
        refine ao 25 rfl rfl (st_move (v := .int .i64 b) rfl rfl ?_)
        refine ao 26 rfl rfl (st_bi (u := .int .i64 a) (v := .int .i64 b) (r := .int .i64 (w64 (a * b))) rfl rfl rfl (bi_mul rfl) ?_)
        refine ao 27 rfl rfl (st_cf (vs := [.int .i64 (w64 (a * b)), .int .i64 65536]) (r := .int .i64 (rFloor (w64 (a * b)) 65536)) (c_rFloor (w64 (a * b)) 65536) Try.func128 rfl (by decide) rfl rfl rfl ?_)
        refine ao 28 rfl rfl (st_cf (vs := [.int .i64 (rFloor (w64 (a * b)) 65536)]) (r := .tuple #[.int .i64 ((rTold (rFloor (w64 (a * b)) 65536)).1), .bool ((rTold (rFloor (w64 (a * b)) 65536)).2)]) (c_rTold (rFloor (w64 (a * b)) 65536)) Try.func131 rfl (by decide) rfl rfl rfl ?_)
        refine ao 29 rfl rfl (st_ex (vs := [.int .i64 ((rTold (rFloor (w64 (a * b)) 65536)).1), .bool ((rTold (rFloor (w64 (a * b)) 65536)).2)]) (v := .int .i64 ((rTold (rFloor (w64 (a * b)) 65536)).1)) rfl rfl rfl ?_)
        refine ao 30 rfl rfl (st_ex (vs := [.int .i64 ((rTold (rFloor (w64 (a * b)) 65536)).1), .bool ((rTold (rFloor (w64 (a * b)) 65536)).2)]) (v := .bool ((rTold (rFloor (w64 (a * b)) 65536)).2)) rfl rfl rfl ?_)
        refine ao 6 rfl rfl (st_assign (v := .int .i64 ((rTold (rFloor (w64 (a * b)) 65536)).1)) rfl rfl ?_)
        refine ao 7 rfl rfl (st_assign (v := .bool ((rTold (rFloor (w64 (a * b)) 65536)).2)) rfl rfl ?_)
        refine ar_nil ?_
        refine ac_ret ?_
        exact fin_eq (v := .tuple #[.int .i64 ((rTold (rFloor (w64 (a * b)) 65536)).1), .bool ((rTold (rFloor (w64 (a * b)) 65536)).2)]) (by show _ = (fun (r : Int × Bool) => (.tuple #[.int .i64 r.1, .bool r.2] : Value)) (rMul a b up); rw [rMul, h3, h2, h1] <;> rfl) (fin_ret (res_tt rfl rfl rfl))
    · refine ac_then' (b := !(rIn b)) (by rw [h2]; rfl) rfl ?_
      refine ac_seq ?_
      refine ac_region_lit ?_
      refine ao 6 rfl rfl (st_assign (v := .int .i64 0) rfl rfl ?_)
      refine ao 7 rfl rfl (st_assign (v := .bool false) rfl rfl ?_)
      refine ar_nil ?_
      refine ac_ret ?_
      exact fin_eq (v := .tuple #[.int .i64 0, .bool false]) (by show _ = (fun (r : Int × Bool) => (.tuple #[.int .i64 r.1, .bool r.2] : Value)) (rMul a b up); rw [rMul, h2, h1] <;> rfl) (fin_ret (res_tt rfl rfl rfl))
  · refine ar_sk (d := (some 12)) (by show ((!(rIn a)) == false) = false; rw [h1]; rfl) rfl ?_
    refine ar_sk (d := (some 13)) (by show ((!(rIn a)) == false) = false; rw [h1]; rfl) rfl ?_
    refine ar_sk (d := (some 14)) (by show ((!(rIn a)) == false) = false; rw [h1]; rfl) rfl ?_
    refine ao 15 rfl rfl (st_pkt' (b := !(rIn a)) (v := .bool true) (by rw [h1]; rfl) rfl rfl rfl ?_)
    refine ar_nil ?_
    refine ac_then rfl ?_
    refine ac_seq ?_
    refine ac_region_lit ?_
    refine ao 6 rfl rfl (st_assign (v := .int .i64 0) rfl rfl ?_)
    refine ao 7 rfl rfl (st_assign (v := .bool false) rfl rfl ?_)
    refine ar_nil ?_
    refine ac_ret ?_
    exact fin_eq (v := .tuple #[.int .i64 0, .bool false]) (by show _ = (fun (r : Int × Bool) => (.tuple #[.int .i64 r.1, .bool r.2] : Value)) (rMul a b up); rw [rMul, h1] <;> rfl) (fin_ret (res_tt rfl rfl rfl))
def rDiv (a : Int) (b : Int) (up : Bool) : Int × Bool := (bif rIn a then (bif rIn b then (bif b == 0 then (0, false) else (bif up then ((rTold (rCeil (w64 (a * 65536)) b)).1, (rTold (rCeil (w64 (a * 65536)) b)).2) else ((rTold (rFloor (w64 (a * 65536)) b)).1, (rTold (rFloor (w64 (a * 65536)) b)).2))) else (0, false)) else (0, false))
set_option maxRecDepth 100000 in
theorem c_rDiv (a : Int) (b : Int) (up : Bool) : Gets Try.prog 132 #[.int .i64 a, .int .i64 b, .bool up] ((fun (r : Int × Bool) => (.tuple #[.int .i64 r.1, .bool r.2] : Value)) (rDiv a b up)) := by
  refine gets_fin Try.func132 rfl rfl rfl ?_
  refine ac_seq ?_
  refine ac_region_lit ?_
  refine ao 6 rfl rfl (st_assign (v := .int .i64 0) rfl rfl ?_)
  refine ao 7 rfl rfl (st_assign (v := .bool false) rfl rfl ?_)
  refine ar_nil ?_
  refine ac_seq ?_
  refine ac_seq ?_
  refine ac_region_lit ?_
  refine ao 8 rfl rfl (st_move (v := .int .i64 a) rfl rfl ?_)
  refine ao 9 rfl rfl (st_cf (vs := [.int .i64 a]) (r := .bool (rIn a)) (c_rIn a) Try.func92 rfl (by decide) rfl rfl rfl ?_)
  refine ao 10 rfl rfl (st_un (u := .bool (rIn a)) (v := .bool (!(rIn a))) rfl rfl (un_not rfl) ?_)
  refine ao 11 rfl rfl (st_move (v := .bool (!(rIn a))) rfl rfl ?_)
  refine bool_split (rIn a) (fun h1 => ?_) (fun h1 => ?_)
  · refine ar_gd (d := (some 12)) (by show ((!(rIn a)) == false) = true; rw [h1]; rfl) rfl (st_move (v := .int .i64 b) rfl rfl ?_)
    refine ar_gd (d := (some 13)) (by show ((!(rIn a)) == false) = true; rw [h1]; rfl) rfl (st_cf (vs := [.int .i64 b]) (r := .bool (rIn b)) (c_rIn b) Try.func92 rfl (by decide) rfl rfl rfl ?_)
    refine ar_gd (d := (some 14)) (by show ((!(rIn a)) == false) = true; rw [h1]; rfl) rfl (st_un (u := .bool (rIn b)) (v := .bool (!(rIn b))) rfl rfl (un_not rfl) ?_)
    refine ao 15 rfl rfl (st_pkf' (b := !(rIn a)) (v := .bool (!(rIn b))) (by rw [h1]; rfl) rfl rfl rfl ?_)
    refine ao 16 rfl rfl (st_move (v := .bool (!(rIn b))) rfl rfl ?_)
    refine bool_split (rIn b) (fun h2 => ?_) (fun h2 => ?_)
    · refine ar_gd (d := (some 17)) (by show ((!(rIn b)) == false) = true; rw [h2]; rfl) rfl (st_move (v := .int .i64 b) rfl rfl ?_)
      refine ar_gd (d := (some 18)) (by show ((!(rIn b)) == false) = true; rw [h2]; rfl) rfl (st_bi (u := .int .i64 b) (v := .int .i64 0) (r := .bool (b == 0)) rfl rfl rfl (bi_eql rfl) ?_)
      refine ao 19 rfl rfl (st_pkf' (b := !(rIn b)) (v := .bool (b == 0)) (by rw [h2]; rfl) rfl rfl rfl ?_)
      refine ar_nil ?_
      refine bool_split (b == 0) (fun h3 => ?_) (fun h3 => ?_)
      · refine ac_then' (b := b == 0) h3 rfl ?_
        refine ac_seq ?_
        refine ac_region_lit ?_
        refine ao 6 rfl rfl (st_assign (v := .int .i64 0) rfl rfl ?_)
        refine ao 7 rfl rfl (st_assign (v := .bool false) rfl rfl ?_)
        refine ar_nil ?_
        refine ac_ret ?_
        exact fin_eq (v := .tuple #[.int .i64 0, .bool false]) (by show _ = (fun (r : Int × Bool) => (.tuple #[.int .i64 r.1, .bool r.2] : Value)) (rDiv a b up); rw [rDiv, h3, h2, h1] <;> rfl) (fin_ret (res_tt rfl rfl rfl))
      · refine ac_else' (b := b == 0) h3 rfl ?_
        refine ac_skip ?_
        refine ac_seq ?_
        refine ac_seq ?_
        refine ac_region_lit ?_
        refine ao 20 rfl rfl (st_move (v := .bool up) rfl rfl ?_)
        refine ar_nil ?_
        refine bool_split (up) (fun h4 => ?_) (fun h4 => ?_)
        · refine ac_then' (b := up) h4 rfl ?_
          refine ac_seq ?_
          refine ac_region_lit ?_
          refine ao 21 rfl rfl (st_move (v := .int .i64 a) rfl rfl ?_)
          refine ao 22 rfl rfl (st_bi (u := .int .i64 a) (v := .int .i64 65536) (r := .int .i64 (w64 (a * 65536))) rfl rfl rfl (bi_mul rfl) ?_)
          refine ao 23 rfl rfl (st_move (v := .int .i64 b) rfl rfl ?_)
          refine ao 24 rfl rfl (st_cf (vs := [.int .i64 (w64 (a * 65536)), .int .i64 b]) (r := .int .i64 (rCeil (w64 (a * 65536)) b)) (c_rCeil (w64 (a * 65536)) b) Try.func130 rfl (by decide) rfl rfl rfl ?_)
          refine ao 25 rfl rfl (st_cf (vs := [.int .i64 (rCeil (w64 (a * 65536)) b)]) (r := .tuple #[.int .i64 ((rTold (rCeil (w64 (a * 65536)) b)).1), .bool ((rTold (rCeil (w64 (a * 65536)) b)).2)]) (c_rTold (rCeil (w64 (a * 65536)) b)) Try.func131 rfl (by decide) rfl rfl rfl ?_)
          refine ao 26 rfl rfl (st_ex (vs := [.int .i64 ((rTold (rCeil (w64 (a * 65536)) b)).1), .bool ((rTold (rCeil (w64 (a * 65536)) b)).2)]) (v := .int .i64 ((rTold (rCeil (w64 (a * 65536)) b)).1)) rfl rfl rfl ?_)
          refine ao 27 rfl rfl (st_ex (vs := [.int .i64 ((rTold (rCeil (w64 (a * 65536)) b)).1), .bool ((rTold (rCeil (w64 (a * 65536)) b)).2)]) (v := .bool ((rTold (rCeil (w64 (a * 65536)) b)).2)) rfl rfl rfl ?_)
          refine ao 6 rfl rfl (st_assign (v := .int .i64 ((rTold (rCeil (w64 (a * 65536)) b)).1)) rfl rfl ?_)
          refine ao 7 rfl rfl (st_assign (v := .bool ((rTold (rCeil (w64 (a * 65536)) b)).2)) rfl rfl ?_)
          refine ar_nil ?_
          refine ac_ret ?_
          exact fin_eq (v := .tuple #[.int .i64 ((rTold (rCeil (w64 (a * 65536)) b)).1), .bool ((rTold (rCeil (w64 (a * 65536)) b)).2)]) (by show _ = (fun (r : Int × Bool) => (.tuple #[.int .i64 r.1, .bool r.2] : Value)) (rDiv a b up); rw [rDiv, h4, h3, h2, h1] <;> rfl) (fin_ret (res_tt rfl rfl rfl))
        · refine ac_else' (b := up) h4 rfl ?_
          refine ac_skip ?_
          refine ac_seq ?_
          refine ac_region_lit ?_
          refine ao 28 rfl rfl (st_move (v := .int .i64 a) rfl rfl ?_)
          refine ao 29 rfl rfl (st_bi (u := .int .i64 a) (v := .int .i64 65536) (r := .int .i64 (w64 (a * 65536))) rfl rfl rfl (bi_mul rfl) ?_)
          refine ao 30 rfl rfl (st_move (v := .int .i64 b) rfl rfl ?_)
          refine ao 31 rfl rfl (st_cf (vs := [.int .i64 (w64 (a * 65536)), .int .i64 b]) (r := .int .i64 (rFloor (w64 (a * 65536)) b)) (c_rFloor (w64 (a * 65536)) b) Try.func128 rfl (by decide) rfl rfl rfl ?_)
          refine ao 32 rfl rfl (st_cf (vs := [.int .i64 (rFloor (w64 (a * 65536)) b)]) (r := .tuple #[.int .i64 ((rTold (rFloor (w64 (a * 65536)) b)).1), .bool ((rTold (rFloor (w64 (a * 65536)) b)).2)]) (c_rTold (rFloor (w64 (a * 65536)) b)) Try.func131 rfl (by decide) rfl rfl rfl ?_)
          refine ao 33 rfl rfl (st_ex (vs := [.int .i64 ((rTold (rFloor (w64 (a * 65536)) b)).1), .bool ((rTold (rFloor (w64 (a * 65536)) b)).2)]) (v := .int .i64 ((rTold (rFloor (w64 (a * 65536)) b)).1)) rfl rfl rfl ?_)
          refine ao 34 rfl rfl (st_ex (vs := [.int .i64 ((rTold (rFloor (w64 (a * 65536)) b)).1), .bool ((rTold (rFloor (w64 (a * 65536)) b)).2)]) (v := .bool ((rTold (rFloor (w64 (a * 65536)) b)).2)) rfl rfl rfl ?_)
          refine ao 6 rfl rfl (st_assign (v := .int .i64 ((rTold (rFloor (w64 (a * 65536)) b)).1)) rfl rfl ?_)
          refine ao 7 rfl rfl (st_assign (v := .bool ((rTold (rFloor (w64 (a * 65536)) b)).2)) rfl rfl ?_)
          refine ar_nil ?_
          refine ac_ret ?_
          exact fin_eq (v := .tuple #[.int .i64 ((rTold (rFloor (w64 (a * 65536)) b)).1), .bool ((rTold (rFloor (w64 (a * 65536)) b)).2)]) (by show _ = (fun (r : Int × Bool) => (.tuple #[.int .i64 r.1, .bool r.2] : Value)) (rDiv a b up); rw [rDiv, h4, h3, h2, h1] <;> rfl) (fin_ret (res_tt rfl rfl rfl))
    · refine ar_sk (d := (some 17)) (by show ((!(rIn b)) == false) = false; rw [h2]; rfl) rfl ?_
      refine ar_sk (d := (some 18)) (by show ((!(rIn b)) == false) = false; rw [h2]; rfl) rfl ?_
      refine ao 19 rfl rfl (st_pkt' (b := !(rIn b)) (v := .bool true) (by rw [h2]; rfl) rfl rfl rfl ?_)
      refine ar_nil ?_
      refine ac_then rfl ?_
      refine ac_seq ?_
      refine ac_region_lit ?_
      refine ao 6 rfl rfl (st_assign (v := .int .i64 0) rfl rfl ?_)
      refine ao 7 rfl rfl (st_assign (v := .bool false) rfl rfl ?_)
      refine ar_nil ?_
      refine ac_ret ?_
      exact fin_eq (v := .tuple #[.int .i64 0, .bool false]) (by show _ = (fun (r : Int × Bool) => (.tuple #[.int .i64 r.1, .bool r.2] : Value)) (rDiv a b up); rw [rDiv, h2, h1] <;> rfl) (fin_ret (res_tt rfl rfl rfl))
  · refine ar_sk (d := (some 12)) (by show ((!(rIn a)) == false) = false; rw [h1]; rfl) rfl ?_
    refine ar_sk (d := (some 13)) (by show ((!(rIn a)) == false) = false; rw [h1]; rfl) rfl ?_
    refine ar_sk (d := (some 14)) (by show ((!(rIn a)) == false) = false; rw [h1]; rfl) rfl ?_
    refine ao 15 rfl rfl (st_pkt' (b := !(rIn a)) (v := .bool true) (by rw [h1]; rfl) rfl rfl rfl ?_)
    refine ao 16 rfl rfl (st_move (v := .bool true) rfl rfl ?_)
    refine ar_sk (d := (some 17)) rfl rfl ?_
    refine ar_sk (d := (some 18)) rfl rfl ?_
    refine ao 19 rfl rfl (st_pkt (v := .bool true) rfl rfl rfl ?_)
    refine ar_nil ?_
    refine ac_then rfl ?_
    refine ac_seq ?_
    refine ac_region_lit ?_
    refine ao 6 rfl rfl (st_assign (v := .int .i64 0) rfl rfl ?_)
    refine ao 7 rfl rfl (st_assign (v := .bool false) rfl rfl ?_)
    refine ar_nil ?_
    refine ac_ret ?_
    exact fin_eq (v := .tuple #[.int .i64 0, .bool false]) (by show _ = (fun (r : Int × Bool) => (.tuple #[.int .i64 r.1, .bool r.2] : Value)) (rDiv a b up); rw [rDiv, h1] <;> rfl) (fin_ret (res_tt rfl rfl rfl))
end Go.Proofs.Ythngkopcadlciaa
