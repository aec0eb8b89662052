import Derived.Test.YthngkopcadlciaaMSagMirrors1
set_option linter.unusedVariables false
set_option linter.unusedSimpArgs false
namespace Go.Proofs.Ythngkopcadlciaa
open Go.RowKit
attribute [local irreducible] AC AR DWalk
def numIn (n : Int) : Bool := (bif decide (n ≥ (-1073741824)) then decide (n ≤ 1073741824) else false)
set_option maxRecDepth 100000 in
theorem c_numIn (n : Int) : Gets Try.prog 65 #[.int .i64 n] ((fun (r : Bool) => (.bool r : Value)) (numIn n)) := by
 refine gets_fin Try.func65 rfl rfl rfl (aQ (aL (aA 2 (.bool false) rfl rfl (aN (aQ (aL (aM 3 (.int .i64 n) rfl rfl (aB 4 (.bool (decide (n ≥ (-1073741824)))) rfl rfl rfl (bi_geq rfl) (aM 5 (.bool (decide (n ≥ (-1073741824)))) rfl rfl ?_)))))))))
 refine bool_split (decide (n ≥ (-1073741824))) (fun h1 => ?_) (fun h1 => ?_)
 ·refine ar_gd (d := (some 6)) (by show ((decide (n ≥ (-1073741824))) == true) = true; rw [h1]; rfl) rfl (st_move (v := .int .i64 n) rfl rfl (ar_gd (d := (some 7)) (by show ((decide (n ≥ (-1073741824))) == true) = true; rw [h1]; rfl) rfl (st_bi (r := .bool (decide (n ≤ 1073741824))) rfl rfl rfl (bi_leq rfl) (ao 8 rfl rfl (st_pkt' (b := decide (n ≥ (-1073741824))) (v := .bool (decide (n ≤ 1073741824))) h1 rfl rfl rfl (aA 2 (.bool (decide (n ≤ 1073741824))) rfl rfl (aN (ac_ret (fin_eq (v := .bool (decide (n ≤ 1073741824))) (by show _ = (fun (r : Bool) => (.bool r : Value)) (numIn n); rw [numIn, h1] <;> rfl) (fin_ret (res_tmp rfl rfl)))))))))))
 ·refine aK 6 (by show ((decide (n ≥ (-1073741824))) == true) = false; rw [h1]; rfl) rfl (aK 7 (by show ((decide (n ≥ (-1073741824))) == true) = false; rw [h1]; rfl) rfl (ao 8 rfl rfl (st_pkf' (b := decide (n ≥ (-1073741824))) (v := .bool false) h1 rfl rfl rfl (aA 2 (.bool false) rfl rfl (aN (ac_ret (fin_eq (v := .bool false) (by show _ = (fun (r : Bool) => (.bool r : Value)) (numIn n); rw [numIn, h1] <;> rfl) (fin_ret (res_tmp rfl rfl)))))))))
def numFloor_e0 (a : Int) (b : Int) : Int := (bif (decide (a < 0)) != (decide (b < 0)) then (w64 ((w64 (Int.tdiv a b)) - 1)) else (w64 (Int.tdiv a b)))
def numFloor (a : Int) (b : Int) : Int := (bif b == 0 then 0 else (bif (Int.tmod a b) != 0 then (numFloor_e0 a b) else w64 (Int.tdiv a b)))
set_option maxRecDepth 100000 in
theorem c_numFloor (a : Int) (b : Int) : Gets Try.prog 121 #[.int .i64 a, .int .i64 b] ((fun (r : Int) => (.int .i64 r : Value)) (numFloor a b)) := by
 refine gets_fin Try.func121 rfl rfl rfl (aQ (aL (aA 4 (.int .i64 0) rfl rfl (aN (aQ (aQ (aL (aM 6 (.int .i64 b) rfl rfl (aB 7 (.bool (b == 0)) rfl rfl rfl (bi_eql rfl) (aN ?_))))))))))
 refine bool_split (b == 0) (fun h1 => ?_) (fun h1 => ?_)
 ·refine ac_then' (b := b == 0) h1 rfl (aQ (aL (aA 4 (.int .i64 0) rfl rfl (aN (ac_ret (fin_eq (v := .int .i64 0) (by show _ = (fun (r : Int) => (.int .i64 r : Value)) (numFloor a b); rw [numFloor, h1] <;> rfl) (fin_ret (res_tmp rfl rfl))))))))
 ·refine ac_else' (b := b == 0) h1 rfl (ac_skip (aQ (aL (aM 8 (.int .i64 a) rfl rfl (aM 9 (.int .i64 b) rfl rfl (aB 10 (.int .i64 (w64 (Int.tdiv a b))) rfl rfl rfl (bi_quo (ne_of_beq0 h1) rfl) (aA 5 (.int .i64 (w64 (Int.tdiv a b))) rfl rfl (aN (aQ (aQ (aL (aM 11 (.int .i64 a) rfl rfl (aM 12 (.int .i64 b) rfl rfl (aB 13 (.int .i64 (Int.tmod a b)) rfl rfl rfl (bi_rem (ne_of_beq0 h1) rfl) (aB 14 (.bool ((Int.tmod a b) != 0)) rfl rfl rfl (bi_neq rfl) (aM 15 (.bool ((Int.tmod a b) != 0)) rfl rfl ?_))))))))))))))))
  refine bool_split ((Int.tmod a b) != 0) (fun h2 => ?_) (fun h2 => ?_)
  ·refine ar_gd (d := (some 16)) (by show (((Int.tmod a b) != 0) == true) = true; rw [h2]; rfl) rfl (st_move (v := .int .i64 a) rfl rfl (ar_gd (d := (some 17)) (by show (((Int.tmod a b) != 0) == true) = true; rw [h2]; rfl) rfl (st_bi (r := .bool (decide (a < 0))) rfl rfl rfl (bi_lss rfl) (ar_gd (d := (some 18)) (by show (((Int.tmod a b) != 0) == true) = true; rw [h2]; rfl) rfl (st_move (v := .int .i64 b) rfl rfl (ar_gd (d := (some 19)) (by show (((Int.tmod a b) != 0) == true) = true; rw [h2]; rfl) rfl (st_bi (r := .bool (decide (b < 0))) rfl rfl rfl (bi_lss rfl) ?_)))))))
   refine ar_gd (d := (some 20)) (by show (((Int.tmod a b) != 0) == true) = true; rw [h2]; rfl) rfl (st_bi (r := .bool ((decide (a < 0)) != (decide (b < 0)))) rfl rfl rfl (bb_neq Try.underlying4 rfl) (ao 21 rfl rfl (st_pkt' (b := (Int.tmod a b) != 0) (v := .bool ((decide (a < 0)) != (decide (b < 0)))) h2 rfl rfl rfl (aN ?_))))
   refine ac_mergeE (fun E9 => (((Env.put E9 (some 22) (.int .i64 (w64 (Int.tdiv a b)))).put (some 23) (.int .i64 (w64 ((w64 (Int.tdiv a b)) - 1)))).put (some 5) (.int .i64 (w64 ((w64 (Int.tdiv a b)) - 1))))) (fun E9 => (((Env.put E9 (some 22) (bif (decide (a < 0)) != (decide (b < 0)) then (.int .i64 (w64 (Int.tdiv a b)) : Value) else E9 22)).put (some 23) (bif (decide (a < 0)) != (decide (b < 0)) then (.int .i64 (w64 ((w64 (Int.tdiv a b)) - 1)) : Value) else E9 23)).put (some 5) (.int .i64 (numFloor_e0 a b)))) (b := (decide (a < 0)) != (decide (b < 0))) rfl (fun hm => ?_) (fun hm => ?_) (fun hm => ?_) ?_
   ·refine aL (aM 22 (.int .i64 (w64 (Int.tdiv a b))) rfl rfl (aB 23 (.int .i64 (w64 ((w64 (Int.tdiv a b)) - 1))) rfl rfl rfl (bi_sub rfl) (aA 5 (.int .i64 (w64 ((w64 (Int.tdiv a b)) - 1))) rfl rfl (aN ?_))))
    exact ⟨rfl, rfl, rfl⟩
   ·unfold numFloor_e0; rw [hm]; rfl
   ·unfold numFloor_e0; rw [hm]; exact ((put_self rfl).trans ((put_self rfl).trans (put_self rfl)))
   refine aQ (aL (aM 24 (.int .i64 (numFloor_e0 a b)) rfl rfl (aA 4 (.int .i64 (numFloor_e0 a b)) rfl rfl (aN (ac_ret (fin_eq (v := .int .i64 (numFloor_e0 a b)) (by show _ = (fun (r : Int) => (.int .i64 r : Value)) (numFloor a b); rw [numFloor, h2, h1] <;> rfl) (fin_ret (res_tmp rfl rfl))))))))
  ·refine aK 16 (by show (((Int.tmod a b) != 0) == true) = false; rw [h2]; rfl) rfl (aK 17 (by show (((Int.tmod a b) != 0) == true) = false; rw [h2]; rfl) rfl (aK 18 (by show (((Int.tmod a b) != 0) == true) = false; rw [h2]; rfl) rfl (aK 19 (by show (((Int.tmod a b) != 0) == true) = false; rw [h2]; rfl) rfl (aK 20 (by show (((Int.tmod a b) != 0) == true) = false; rw [h2]; rfl) rfl (ao 21 rfl rfl (st_pkf' (b := (Int.tmod a b) != 0) (v := .bool false) h2 rfl rfl rfl (aN (ac_else rfl (ac_skip (aQ (aL (aM 24 (.int .i64 (w64 (Int.tdiv a b))) rfl rfl (aA 4 (.int .i64 (w64 (Int.tdiv a b))) rfl rfl (aN (ac_ret ?_)))))))))))))))
   exact fin_eq (v := .int .i64 (w64 (Int.tdiv a b))) (by show _ = (fun (r : Int) => (.int .i64 r : Value)) (numFloor a b); rw [numFloor, h2, h1] <;> rfl) (fin_ret (res_tmp rfl rfl))
def numRounded_e0 (a : Int) (b : Int) (up : Bool) : Int := (bif (Int.tmod a b) != 0 then (w64 ((numFloor a b) + 1)) else (numFloor a b))
def numRounded (a : Int) (b : Int) (up : Bool) : Int × Bool := (bif up then (bif numIn (numRounded_e0 a b up) then ((numRounded_e0 a b up), true) else (0, false)) else (bif numIn (numFloor a b) then ((numFloor a b), true) else (0, false)))
set_option maxRecDepth 100000 in
theorem c_numRounded (a : Int) (b : Int) (up : Bool) (hb : b ≠ 0) : Gets Try.prog 101 #[.int .i64 a, .int .i64 b, .bool up] ((fun (r : Int × Bool) => (.tuple #[.int .i64 r.1, .bool r.2] : Value)) (numRounded a b up)) := by
 refine gets_fin Try.func101 rfl rfl rfl (aQ (aL (aA 6 (.int .i64 0) rfl rfl (aA 7 (.bool false) rfl rfl (aN (aQ (aL (aM 9 (.int .i64 a) rfl rfl (aM 10 (.int .i64 b) rfl rfl (aC 11 (c_numFloor a b) Try.func121 ⟨rfl, by decide⟩ rfl rfl (aA 8 (.int .i64 (numFloor a b)) rfl rfl (aN (aQ (aQ (aL (aM 12 (.bool up) rfl rfl (aM 13 (.bool up) rfl rfl ?_)))))))))))))))))
 refine bool_split (up) (fun h1 => ?_) (fun h1 => ?_)
 ·refine ar_gd (d := (some 14)) (by show (up == true) = true; rw [h1]; rfl) rfl (st_move (v := .int .i64 a) rfl rfl (ar_gd (d := (some 15)) (by show (up == true) = true; rw [h1]; rfl) rfl (st_move (v := .int .i64 b) rfl rfl (ar_gd (d := (some 16)) (by show (up == true) = true; rw [h1]; rfl) rfl (st_bi (r := .int .i64 (Int.tmod a b)) rfl rfl rfl (bi_rem hb rfl) (ar_gd (d := (some 17)) (by show (up == true) = true; rw [h1]; rfl) rfl (st_bi (r := .bool ((Int.tmod a b) != 0)) rfl rfl rfl (bi_neq rfl) (ao 18 rfl rfl (st_pkt' (b := up) (v := .bool ((Int.tmod a b) != 0)) h1 rfl rfl rfl (aN ?_))))))))))
  refine ac_mergeE (fun E9 => (((Env.put E9 (some 19) (.int .i64 (numFloor a b))).put (some 20) (.int .i64 (w64 ((numFloor a b) + 1)))).put (some 8) (.int .i64 (w64 ((numFloor a b) + 1))))) (fun E9 => (((Env.put E9 (some 19) (bif (Int.tmod a b) != 0 then (.int .i64 (numFloor a b) : Value) else E9 19)).put (some 20) (bif (Int.tmod a b) != 0 then (.int .i64 (w64 ((numFloor a b) + 1)) : Value) else E9 20)).put (some 8) (.int .i64 (numRounded_e0 a b up)))) (b := (Int.tmod a b) != 0) rfl (fun hm => ?_) (fun hm => ?_) (fun hm => ?_) ?_
  ·refine aL (aM 19 (.int .i64 (numFloor a b)) rfl rfl (aB 20 (.int .i64 (w64 ((numFloor a b) + 1))) rfl rfl rfl (bi_add rfl) (aA 8 (.int .i64 (w64 ((numFloor a b) + 1))) rfl rfl (aN ?_))))
   exact ⟨rfl, rfl, rfl⟩
  ·unfold numRounded_e0; rw [hm]; rfl
  ·unfold numRounded_e0; rw [hm]; exact ((put_self rfl).trans ((put_self rfl).trans (put_self rfl)))
  refine aQ (aQ (aL (aM 21 (.int .i64 (numRounded_e0 a b up)) rfl rfl (aC 22 (c_numIn (numRounded_e0 a b up)) Try.func65 ⟨rfl, by decide⟩ rfl rfl (ao 23 rfl rfl (st_un (v := .bool (!(numIn (numRounded_e0 a b up)))) rfl rfl (un_not rfl) (aN ?_)))))))
  refine bool_split (numIn (numRounded_e0 a b up)) (fun h2 => ?_) (fun h2 => ?_)
  ·refine ac_else' (b := !(numIn (numRounded_e0 a b up))) (by rw [h2]; rfl) rfl (ac_skip (aQ (aL (aM 24 (.int .i64 (numRounded_e0 a b up)) rfl rfl (aA 6 (.int .i64 (numRounded_e0 a b up)) rfl rfl (aA 7 (.bool true) rfl rfl (aN (ac_ret (fin_eq (v := .tuple #[.int .i64 (numRounded_e0 a b up), .bool true]) (by show _ = (fun (r : Int × Bool) => (.tuple #[.int .i64 r.1, .bool r.2] : Value)) (numRounded a b up); rw [numRounded, h2, h1] <;> rfl) (fin_ret (res_tt rfl rfl rfl)))))))))))
  ·refine ac_then' (b := !(numIn (numRounded_e0 a b up))) (by rw [h2]; rfl) rfl (aQ (aL (aA 6 (.int .i64 0) rfl rfl (aA 7 (.bool false) rfl rfl (aN (ac_ret (fin_eq (v := .tuple #[.int .i64 0, .bool false]) (by show _ = (fun (r : Int × Bool) => (.tuple #[.int .i64 r.1, .bool r.2] : Value)) (numRounded a b up); rw [numRounded, h2, h1] <;> rfl) (fin_ret (res_tt rfl rfl rfl)))))))))
 ·refine aK 14 (by show (up == true) = false; rw [h1]; rfl) rfl (aK 15 (by show (up == true) = false; rw [h1]; rfl) rfl (aK 16 (by show (up == true) = false; rw [h1]; rfl) rfl (aK 17 (by show (up == true) = false; rw [h1]; rfl) rfl (ao 18 rfl rfl (st_pkf' (b := up) (v := .bool false) h1 rfl rfl rfl (aN (ac_else rfl (ac_skip (aQ (aQ (aL (aM 21 (.int .i64 (numFloor a b)) rfl rfl (aC 22 (c_numIn (numFloor a b)) Try.func65 ⟨rfl, by decide⟩ rfl rfl (ao 23 rfl rfl (st_un (v := .bool (!(numIn (numFloor a b)))) rfl rfl (un_not rfl) (aN ?_))))))))))))))))
  refine bool_split (numIn (numFloor a b)) (fun h2 => ?_) (fun h2 => ?_)
  ·refine ac_else' (b := !(numIn (numFloor a b))) (by rw [h2]; rfl) rfl (ac_skip (aQ (aL (aM 24 (.int .i64 (numFloor a b)) rfl rfl (aA 6 (.int .i64 (numFloor a b)) rfl rfl (aA 7 (.bool true) rfl rfl (aN (ac_ret (fin_eq (v := .tuple #[.int .i64 (numFloor a b), .bool true]) (by show _ = (fun (r : Int × Bool) => (.tuple #[.int .i64 r.1, .bool r.2] : Value)) (numRounded a b up); rw [numRounded, h2, h1] <;> rfl) (fin_ret (res_tt rfl rfl rfl)))))))))))
  ·refine ac_then' (b := !(numIn (numFloor a b))) (by rw [h2]; rfl) rfl (aQ (aL (aA 6 (.int .i64 0) rfl rfl (aA 7 (.bool false) rfl rfl (aN (ac_ret (fin_eq (v := .tuple #[.int .i64 0, .bool false]) (by show _ = (fun (r : Int × Bool) => (.tuple #[.int .i64 r.1, .bool r.2] : Value)) (numRounded a b up); rw [numRounded, h2, h1] <;> rfl) (fin_ret (res_tt rfl rfl rfl)))))))))
def numMul (a : Int) (b : Int) (up : Bool) : Int × Bool := (bif numIn a then (bif numIn b then ((numRounded (w64 (a * b)) 65536 up).1, (numRounded (w64 (a * b)) 65536 up).2) else (0, false)) else (0, false))
set_option maxRecDepth 100000 in
theorem c_numMul (a : Int) (b : Int) (up : Bool) : Gets Try.prog 100 #[.int .i64 a, .int .i64 b, .bool up] ((fun (r : Int × Bool) => (.tuple #[.int .i64 r.1, .bool r.2] : Value)) (numMul a b up)) := by
 refine gets_fin Try.func100 rfl rfl rfl (aQ (aL (aA 6 (.int .i64 0) rfl rfl (aA 7 (.bool false) rfl rfl (aN (aQ (aQ (aL (aM 8 (.int .i64 a) rfl rfl (aC 9 (c_numIn a) Try.func65 ⟨rfl, by decide⟩ rfl rfl (ao 10 rfl rfl (st_un (v := .bool (!(numIn a))) rfl rfl (un_not rfl) (aM 11 (.bool (!(numIn a))) rfl rfl ?_)))))))))))))
 refine bool_split (numIn a) (fun h1 => ?_) (fun h1 => ?_)
 ·refine ar_gd (d := (some 12)) (by show ((!(numIn a)) == false) = true; rw [h1]; rfl) rfl (st_move (v := .int .i64 b) rfl rfl (ar_gd (d := (some 13)) (by show ((!(numIn a)) == false) = true; rw [h1]; rfl) rfl (st_cf (c_numIn b) Try.func65 rfl (by decide) rfl rfl rfl (ar_gd (d := (some 14)) (by show ((!(numIn a)) == false) = true; rw [h1]; rfl) rfl (st_un (v := .bool (!(numIn b))) rfl rfl (un_not rfl) (ao 15 rfl rfl (st_pkf' (b := !(numIn a)) (v := .bool (!(numIn b))) (by rw [h1]; rfl) rfl rfl rfl (aN ?_))))))))
  refine bool_split (numIn b) (fun h2 => ?_) (fun h2 => ?_)
  ·refine ac_else' (b := !(numIn b)) (by rw [h2]; rfl) rfl (ac_skip (aQ (aL (aM 16 (.int .i64 a) rfl rfl (aM 17 (.int .i64 b) rfl rfl (aB 18 (.int .i64 (w64 (a * b))) rfl rfl rfl (bi_mul rfl) (aM 19 (.bool up) rfl rfl (aC 20 (c_numRounded (w64 (a * b)) 65536 up (by decide)) Try.func101 ⟨rfl, by decide⟩ rfl rfl (aX 21 (.int .i64 ((numRounded (w64 (a * b)) 65536 up).1)) rfl rfl rfl (aX 22 (.bool ((numRounded (w64 (a * b)) 65536 up).2)) rfl rfl rfl (aA 6 (.int .i64 ((numRounded (w64 (a * b)) 65536 up).1)) rfl rfl (aA 7 (.bool ((numRounded (w64 (a * b)) 65536 up).2)) rfl rfl (aN (ac_ret ?_))))))))))))))
   exact fin_eq (v := .tuple #[.int .i64 ((numRounded (w64 (a * b)) 65536 up).1), .bool ((numRounded (w64 (a * b)) 65536 up).2)]) (by show _ = (fun (r : Int × Bool) => (.tuple #[.int .i64 r.1, .bool r.2] : Value)) (numMul a b up); rw [numMul, h2, h1] <;> rfl) (fin_ret (res_tt rfl rfl rfl))
  ·refine ac_then' (b := !(numIn b)) (by rw [h2]; rfl) rfl (aQ (aL (aA 6 (.int .i64 0) rfl rfl (aA 7 (.bool false) rfl rfl (aN (ac_ret (fin_eq (v := .tuple #[.int .i64 0, .bool false]) (by show _ = (fun (r : Int × Bool) => (.tuple #[.int .i64 r.1, .bool r.2] : Value)) (numMul a b up); rw [numMul, h2, h1] <;> rfl) (fin_ret (res_tt rfl rfl rfl)))))))))
 ·refine aK 12 (by show ((!(numIn a)) == false) = false; rw [h1]; rfl) rfl (aK 13 (by show ((!(numIn a)) == false) = false; rw [h1]; rfl) rfl (aK 14 (by show ((!(numIn a)) == false) = false; rw [h1]; rfl) rfl (ao 15 rfl rfl (st_pkt' (b := !(numIn a)) (v := .bool true) (by rw [h1]; rfl) rfl rfl rfl (aN (ac_then rfl (aQ (aL (aA 6 (.int .i64 0) rfl rfl (aA 7 (.bool false) rfl rfl (aN (ac_ret (fin_eq (v := .tuple #[.int .i64 0, .bool false]) (by show _ = (fun (r : Int × Bool) => (.tuple #[.int .i64 r.1, .bool r.2] : Value)) (numMul a b up); rw [numMul, h1] <;> rfl) (fin_ret (res_tt rfl rfl rfl)))))))))))))))
def numDiv (a : Int) (b : Int) (up : Bool) : Int × Bool := (bif numIn a then (bif numIn b then (bif b == 0 then (0, false) else ((numRounded (w64 (a * 65536)) b up).1, (numRounded (w64 (a * 65536)) b up).2)) else (0, false)) else (0, false))
set_option maxRecDepth 100000 in
theorem c_numDiv (a : Int) (b : Int) (up : Bool) : Gets Try.prog 72 #[.int .i64 a, .int .i64 b, .bool up] ((fun (r : Int × Bool) => (.tuple #[.int .i64 r.1, .bool r.2] : Value)) (numDiv a b up)) := by
 refine gets_fin Try.func72 rfl rfl rfl (aQ (aL (aA 6 (.int .i64 0) rfl rfl (aA 7 (.bool false) rfl rfl (aN (aQ (aQ (aL (aM 8 (.int .i64 a) rfl rfl (aC 9 (c_numIn a) Try.func65 ⟨rfl, by decide⟩ rfl rfl (ao 10 rfl rfl (st_un (v := .bool (!(numIn a))) rfl rfl (un_not rfl) (aM 11 (.bool (!(numIn a))) rfl rfl ?_)))))))))))))
 refine bool_split (numIn a) (fun h1 => ?_) (fun h1 => ?_)
 ·refine ar_gd (d := (some 12)) (by show ((!(numIn a)) == false) = true; rw [h1]; rfl) rfl (st_move (v := .int .i64 b) rfl rfl (ar_gd (d := (some 13)) (by show ((!(numIn a)) == false) = true; rw [h1]; rfl) rfl (st_cf (c_numIn b) Try.func65 rfl (by decide) rfl rfl rfl (ar_gd (d := (some 14)) (by show ((!(numIn a)) == false) = true; rw [h1]; rfl) rfl (st_un (v := .bool (!(numIn b))) rfl rfl (un_not rfl) (ao 15 rfl rfl (st_pkf' (b := !(numIn a)) (v := .bool (!(numIn b))) (by rw [h1]; rfl) rfl rfl rfl (aM 16 (.bool (!(numIn b))) rfl rfl ?_))))))))
  refine bool_split (numIn b) (fun h2 => ?_) (fun h2 => ?_)
  ·refine ar_gd (d := (some 17)) (by show ((!(numIn b)) == false) = true; rw [h2]; rfl) rfl (st_move (v := .int .i64 b) rfl rfl (ar_gd (d := (some 18)) (by show ((!(numIn b)) == false) = true; rw [h2]; rfl) rfl (st_bi (r := .bool (b == 0)) rfl rfl rfl (bi_eql rfl) (ao 19 rfl rfl (st_pkf' (b := !(numIn b)) (v := .bool (b == 0)) (by rw [h2]; rfl) rfl rfl rfl (aN ?_))))))
   refine bool_split (b == 0) (fun h3 => ?_) (fun h3 => ?_)
   ·refine ac_then' (b := b == 0) h3 rfl (aQ (aL (aA 6 (.int .i64 0) rfl rfl (aA 7 (.bool false) rfl rfl (aN (ac_ret (fin_eq (v := .tuple #[.int .i64 0, .bool false]) (by show _ = (fun (r : Int × Bool) => (.tuple #[.int .i64 r.1, .bool r.2] : Value)) (numDiv a b up); rw [numDiv, h3, h2, h1] <;> rfl) (fin_ret (res_tt rfl rfl rfl)))))))))
   ·refine ac_else' (b := b == 0) h3 rfl (ac_skip (aQ (aL (aM 20 (.int .i64 a) rfl rfl (aB 21 (.int .i64 (w64 (a * 65536))) rfl rfl rfl (bi_mul rfl) (aM 22 (.int .i64 b) rfl rfl (aM 23 (.bool up) rfl rfl (aC 24 (c_numRounded (w64 (a * 65536)) b up (ne_of_beq0 h3)) Try.func101 ⟨rfl, by decide⟩ rfl rfl (aX 25 (.int .i64 ((numRounded (w64 (a * 65536)) b up).1)) rfl rfl rfl (aX 26 (.bool ((numRounded (w64 (a * 65536)) b up).2)) rfl rfl rfl (aA 6 (.int .i64 ((numRounded (w64 (a * 65536)) b up).1)) rfl rfl (aA 7 (.bool ((numRounded (w64 (a * 65536)) b up).2)) rfl rfl (aN (ac_ret ?_))))))))))))))
    exact fin_eq (v := .tuple #[.int .i64 ((numRounded (w64 (a * 65536)) b up).1), .bool ((numRounded (w64 (a * 65536)) b up).2)]) (by show _ = (fun (r : Int × Bool) => (.tuple #[.int .i64 r.1, .bool r.2] : Value)) (numDiv a b up); rw [numDiv, h3, h2, h1] <;> rfl) (fin_ret (res_tt rfl rfl rfl))
  ·refine aK 17 (by show ((!(numIn b)) == false) = false; rw [h2]; rfl) rfl (aK 18 (by show ((!(numIn b)) == false) = false; rw [h2]; rfl) rfl (ao 19 rfl rfl (st_pkt' (b := !(numIn b)) (v := .bool true) (by rw [h2]; rfl) rfl rfl rfl (aN (ac_then rfl (aQ (aL (aA 6 (.int .i64 0) rfl rfl (aA 7 (.bool false) rfl rfl (aN (ac_ret (fin_eq (v := .tuple #[.int .i64 0, .bool false]) (by show _ = (fun (r : Int × Bool) => (.tuple #[.int .i64 r.1, .bool r.2] : Value)) (numDiv a b up); rw [numDiv, h2, h1] <;> rfl) (fin_ret (res_tt rfl rfl rfl))))))))))))))
 ·refine aK 12 (by show ((!(numIn a)) == false) = false; rw [h1]; rfl) rfl (aK 13 (by show ((!(numIn a)) == false) = false; rw [h1]; rfl) rfl (aK 14 (by show ((!(numIn a)) == false) = false; rw [h1]; rfl) rfl (ao 15 rfl rfl (st_pkt' (b := !(numIn a)) (v := .bool true) (by rw [h1]; rfl) rfl rfl rfl (aM 16 (.bool true) rfl rfl (aK 17 rfl rfl (aK 18 rfl rfl (ao 19 rfl rfl (st_pkt (v := .bool true) rfl rfl rfl (aN (ac_then rfl (aQ (aL (aA 6 (.int .i64 0) rfl rfl (aA 7 (.bool false) rfl rfl (aN (ac_ret ?_)))))))))))))))))
  exact fin_eq (v := .tuple #[.int .i64 0, .bool false]) (by show _ = (fun (r : Int × Bool) => (.tuple #[.int .i64 r.1, .bool r.2] : Value)) (numDiv a b up); rw [numDiv, h1] <;> rfl) (fin_ret (res_tt rfl rfl rfl))
end Go.Proofs.Ythngkopcadlciaa
namespace Go.Proofs.Ythngkopcadlciaa
open Go.RowKit
attribute [local irreducible] AC AR DWalk
def numRootLoop (n : Int) : Nat → Int → Int
 | 0, r => r
 | j + 1, r => bif decide ((w64 ((orI r (w64 (1 * 2 ^ (min (Int.toNat (j : Int)) 64)))) * (orI r (w64 (1 * 2 ^ (min (Int.toNat (j : Int)) 64)))))) ≤ n) then numRootLoop n j (orI r (w64 (1 * 2 ^ (min (Int.toNat (j : Int)) 64)))) else numRootLoop n j r
set_option maxRecDepth 100000 in
theorem c_numRoot_loop (n : Int) (up : Bool) {Q : Exit → Env → List Box → Prop} {H : List Box} {c : Code} (hc : Try.f122.body.bind loopOf = some c) : ∀ (j : Nat) (r k : Int) (E : Env), j ≤ 64 → k = (j : Int) - 1 → E 1 = .bool up → E 6 = .int .i64 n → E 7 = .int .i64 r → E 8 = .int .i64 k →
  (∀ E' : Env, E' 1 = .bool up → E' 6 = .int .i64 n → E' 7 = .int .i64 (numRootLoop n j r) → Q (.exit 0) E' H) → ARounds Try.prog 44 c Q (j + 1) E H := by
 rw [show Try.f122.body.bind loopOf = some _ from rfl] at hc
 cases hc
 intro j
 induction j with
 | zero =>
  intro r k E hj hk h1 h6 h7 h8 hn
  obtain rfl : k = -1 := by omega
  obtain ⟨E0, rfl⟩ := env4 h1 h6 h7 h8
  refine ar_round (aQ (aQ (aL (aM 19 (.int .i64 (-1)) rfl rfl (aB 20 (.bool false) rfl rfl rfl (bi_geq (by decide)) (aN (ac_else rfl (ac_exit ?_))))))))
  exact hn _ rfl rfl rfl
 | succ j ih =>
  intro r k E hj hk h1 h6 h7 h8 hn
  obtain rfl : k = (j : Int) := by omega
  obtain ⟨E0, rfl⟩ := env4 h1 h6 h7 h8
  have h0 : decide ((j : Int) ≥ 0) = true := decide_eq_true (by omega)
  refine ar_round ?_
  cases h9 : decide ((w64 ((orI r (w64 (1 * 2 ^ (min (Int.toNat (j : Int)) 64)))) * (orI r (w64 (1 * 2 ^ (min (Int.toNat (j : Int)) 64)))))) ≤ n) with
  | false =>
   refine aQ (aQ (aL (aM 19 (.int .i64 (j : Int)) rfl rfl (aB 20 (.bool (decide ((j : Int) ≥ 0))) rfl rfl rfl (bi_geq rfl) (aN (ac_then' (b := decide ((j : Int) ≥ 0)) h0 rfl (ac_skip (aQ (ac_block (aQ (aL (aM 23 (.int .i64 r) rfl rfl (aM 24 (.int .i64 (j : Int)) rfl rfl (aB 25 (.int .i64 (w64 (1 * 2 ^ (min (Int.toNat (j : Int)) 64)))) rfl rfl rfl (bi_shl rfl (by omega)) (aB 26 (.int .i64 (orI r (w64 (1 * 2 ^ (min (Int.toNat (j : Int)) 64))))) rfl rfl rfl (bi_or rfl) (aA 9 (.int .i64 (orI r (w64 (1 * 2 ^ (min (Int.toNat (j : Int)) 64))))) rfl rfl (aN (aQ (aL (aM 27 (.int .i64 (orI r (w64 (1 * 2 ^ (min (Int.toNat (j : Int)) 64))))) rfl rfl ?_))))))))))))))))))))
   refine aM 28 (.int .i64 (orI r (w64 (1 * 2 ^ (min (Int.toNat (j : Int)) 64))))) rfl rfl (aB 29 (.int .i64 (w64 ((orI r (w64 (1 * 2 ^ (min (Int.toNat (j : Int)) 64)))) * (orI r (w64 (1 * 2 ^ (min (Int.toNat (j : Int)) 64))))))) rfl rfl rfl (bi_mul rfl) (aM 30 (.int .i64 n) rfl rfl (aB 31 (.bool (decide ((w64 ((orI r (w64 (1 * 2 ^ (min (Int.toNat (j : Int)) 64)))) * (orI r (w64 (1 * 2 ^ (min (Int.toNat (j : Int)) 64)))))) ≤ n))) rfl rfl rfl (bi_leq rfl) (aN (ac_else' (b := decide ((w64 ((orI r (w64 (1 * 2 ^ (min (Int.toNat (j : Int)) 64)))) * (orI r (w64 (1 * 2 ^ (min (Int.toNat (j : Int)) 64)))))) ≤ n)) h9 rfl (ac_skip (aL (aM 21 (.int .i64 (j : Int)) rfl rfl ?_))))))))
   refine aB 22 (.int .i64 (w64 ((j : Int) - 1))) rfl rfl rfl (bi_sub rfl) (aA 8 (.int .i64 (w64 ((j : Int) - 1))) rfl rfl (aN ?_))
   refine ih _ _ _ (by omega) (w64_id (by omega)) rfl rfl rfl rfl (fun E' a b c => hn E' a b ?_)
   rw [c, numRootLoop, h9]; rfl
  | true =>
   refine aQ (aQ (aL (aM 19 (.int .i64 (j : Int)) rfl rfl (aB 20 (.bool (decide ((j : Int) ≥ 0))) rfl rfl rfl (bi_geq rfl) (aN (ac_then' (b := decide ((j : Int) ≥ 0)) h0 rfl (ac_skip (aQ (ac_block (aQ (aL (aM 23 (.int .i64 r) rfl rfl (aM 24 (.int .i64 (j : Int)) rfl rfl (aB 25 (.int .i64 (w64 (1 * 2 ^ (min (Int.toNat (j : Int)) 64)))) rfl rfl rfl (bi_shl rfl (by omega)) (aB 26 (.int .i64 (orI r (w64 (1 * 2 ^ (min (Int.toNat (j : Int)) 64))))) rfl rfl rfl (bi_or rfl) (aA 9 (.int .i64 (orI r (w64 (1 * 2 ^ (min (Int.toNat (j : Int)) 64))))) rfl rfl (aN (aQ (aL (aM 27 (.int .i64 (orI r (w64 (1 * 2 ^ (min (Int.toNat (j : Int)) 64))))) rfl rfl ?_))))))))))))))))))))
   refine aM 28 (.int .i64 (orI r (w64 (1 * 2 ^ (min (Int.toNat (j : Int)) 64))))) rfl rfl (aB 29 (.int .i64 (w64 ((orI r (w64 (1 * 2 ^ (min (Int.toNat (j : Int)) 64)))) * (orI r (w64 (1 * 2 ^ (min (Int.toNat (j : Int)) 64))))))) rfl rfl rfl (bi_mul rfl) (aM 30 (.int .i64 n) rfl rfl (aB 31 (.bool (decide ((w64 ((orI r (w64 (1 * 2 ^ (min (Int.toNat (j : Int)) 64)))) * (orI r (w64 (1 * 2 ^ (min (Int.toNat (j : Int)) 64)))))) ≤ n))) rfl rfl rfl (bi_leq rfl) (aN (ac_then' (b := decide ((w64 ((orI r (w64 (1 * 2 ^ (min (Int.toNat (j : Int)) 64)))) * (orI r (w64 (1 * 2 ^ (min (Int.toNat (j : Int)) 64)))))) ≤ n)) h9 rfl (aL ?_))))))
   refine aM 32 (.int .i64 (orI r (w64 (1 * 2 ^ (min (Int.toNat (j : Int)) 64))))) rfl rfl (aA 7 (.int .i64 (orI r (w64 (1 * 2 ^ (min (Int.toNat (j : Int)) 64))))) rfl rfl (aN (aL (aM 21 (.int .i64 (j : Int)) rfl rfl (aB 22 (.int .i64 (w64 ((j : Int) - 1))) rfl rfl rfl (bi_sub rfl) (aA 8 (.int .i64 (w64 ((j : Int) - 1))) rfl rfl (aN ?_)))))))
   refine ih _ _ _ (by omega) (w64_id (by omega)) rfl rfl rfl rfl (fun E' a b c => hn E' a b ?_)
   rw [c, numRootLoop, h9]; rfl
def numRoot_e0 (a : Int) (up : Bool) : Int := (bif decide ((w64 ((numRootLoop (w64 (a * 65536)) 25 0) * (numRootLoop (w64 (a * 65536)) 25 0))) < (w64 (a * 65536))) then (w64 ((numRootLoop (w64 (a * 65536)) 25 0) + 1)) else (numRootLoop (w64 (a * 65536)) 25 0))
def numRoot (a : Int) (up : Bool) : Int × Bool := (bif decide (a < 0) then (0, false) else (bif numIn a then (bif up then ((numRoot_e0 a up), true) else (numRootLoop (w64 (a * 65536)) 25 0, true)) else (0, false)))
set_option maxRecDepth 100000 in
theorem c_numRoot (a : Int) (up : Bool) : Gets Try.prog 122 #[.int .i64 a, .bool up] ((fun (r : Int × Bool) => (.tuple #[.int .i64 r.1, .bool r.2] : Value)) (numRoot a up)) := by
 refine gets_fin Try.func122 rfl rfl rfl (aQ (aL (aA 4 (.int .i64 0) rfl rfl (aA 5 (.bool false) rfl rfl (aN (aQ (aQ (aL (aM 10 (.int .i64 a) rfl rfl (aB 11 (.bool (decide (a < 0))) rfl rfl rfl (bi_lss rfl) (aM 12 (.bool (decide (a < 0))) rfl rfl ?_)))))))))))
 refine bool_split (decide (a < 0)) (fun h1 => ?_) (fun h1 => ?_)
 ·refine aK 13 (by show ((decide (a < 0)) == false) = false; rw [h1]; rfl) rfl (aK 14 (by show ((decide (a < 0)) == false) = false; rw [h1]; rfl) rfl (aK 15 (by show ((decide (a < 0)) == false) = false; rw [h1]; rfl) rfl (ao 16 rfl rfl (st_pkt' (b := decide (a < 0)) (v := .bool true) h1 rfl rfl rfl (aN (ac_then rfl (aQ (aL (aA 4 (.int .i64 0) rfl rfl (aA 5 (.bool false) rfl rfl (aN (ac_ret (fin_eq (v := .tuple #[.int .i64 0, .bool false]) (by show _ = (fun (r : Int × Bool) => (.tuple #[.int .i64 r.1, .bool r.2] : Value)) (numRoot a up); rw [numRoot, h1] <;> rfl) (fin_ret (res_tt rfl rfl rfl)))))))))))))))
 ·refine ar_gd (d := (some 13)) (by show ((decide (a < 0)) == false) = true; rw [h1]; rfl) rfl (st_move (v := .int .i64 a) rfl rfl (ar_gd (d := (some 14)) (by show ((decide (a < 0)) == false) = true; rw [h1]; rfl) rfl (st_cf (c_numIn a) Try.func65 rfl (by decide) rfl rfl rfl (ar_gd (d := (some 15)) (by show ((decide (a < 0)) == false) = true; rw [h1]; rfl) rfl (st_un (v := .bool (!(numIn a))) rfl rfl (un_not rfl) (ao 16 rfl rfl (st_pkf' (b := decide (a < 0)) (v := .bool (!(numIn a))) h1 rfl rfl rfl (aN ?_))))))))
  refine bool_split (numIn a) (fun h2 => ?_) (fun h2 => ?_)
  ·refine ac_else' (b := !(numIn a)) (by rw [h2]; rfl) rfl (ac_skip (aQ (aL (aM 17 (.int .i64 a) rfl rfl (aB 18 (.int .i64 (w64 (a * 65536))) rfl rfl rfl (bi_mul rfl) (aA 6 (.int .i64 (w64 (a * 65536))) rfl rfl (aA 7 (.int .i64 0) rfl rfl (aN (aQ (aQ (aL (aA 8 (.int .i64 24) rfl rfl (aN (ac_block ?_))))))))))))))
   refine ac_rounds 26 ?_
   refine c_numRoot_loop (n := (w64 (a * 65536))) (up := up) rfl 25 0 _ _ (by decide) rfl rfl rfl rfl rfl (fun E1 q1 q6 q7 => ?_)
   obtain ⟨E0, rfl⟩ := env3 q1 q6 q7
   refine aQ (aQ (aL (aM 33 (.bool up) rfl rfl (aM 34 (.bool up) rfl rfl ?_))))
   refine bool_split (up) (fun h3 => ?_) (fun h3 => ?_)
   ·refine ar_gd (d := (some 35)) (by show (up == true) = true; rw [h3]; rfl) rfl (st_move (v := .int .i64 (numRootLoop (w64 (a * 65536)) 25 0)) rfl rfl (ar_gd (d := (some 36)) (by show (up == true) = true; rw [h3]; rfl) rfl (st_move (v := .int .i64 (numRootLoop (w64 (a * 65536)) 25 0)) rfl rfl (ar_gd (d := (some 37)) (by show (up == true) = true; rw [h3]; rfl) rfl (st_bi (r := .int .i64 (w64 ((numRootLoop (w64 (a * 65536)) 25 0) * (numRootLoop (w64 (a * 65536)) 25 0)))) rfl rfl rfl (bi_mul rfl) (ar_gd (d := (some 38)) (by show (up == true) = true; rw [h3]; rfl) rfl (st_move (v := .int .i64 (w64 (a * 65536))) rfl rfl ?_)))))))
    refine ar_gd (d := (some 39)) (by show (up == true) = true; rw [h3]; rfl) rfl (st_bi (r := .bool (decide ((w64 ((numRootLoop (w64 (a * 65536)) 25 0) * (numRootLoop (w64 (a * 65536)) 25 0))) < (w64 (a * 65536))))) rfl rfl rfl (bi_lss rfl) (ao 40 rfl rfl (st_pkt' (b := up) (v := .bool (decide ((w64 ((numRootLoop (w64 (a * 65536)) 25 0) * (numRootLoop (w64 (a * 65536)) 25 0))) < (w64 (a * 65536))))) h3 rfl rfl rfl (aN ?_))))
    refine ac_mergeE (fun E9 => (((Env.put E9 (some 41) (.int .i64 (numRootLoop (w64 (a * 65536)) 25 0))).put (some 42) (.int .i64 (w64 ((numRootLoop (w64 (a * 65536)) 25 0) + 1)))).put (some 7) (.int .i64 (w64 ((numRootLoop (w64 (a * 65536)) 25 0) + 1))))) (fun E9 => (((Env.put E9 (some 41) (bif decide ((w64 ((numRootLoop (w64 (a * 65536)) 25 0) * (numRootLoop (w64 (a * 65536)) 25 0))) < (w64 (a * 65536))) then (.int .i64 (numRootLoop (w64 (a * 65536)) 25 0) : Value) else E9 41)).put (some 42) (bif decide ((w64 ((numRootLoop (w64 (a * 65536)) 25 0) * (numRootLoop (w64 (a * 65536)) 25 0))) < (w64 (a * 65536))) then (.int .i64 (w64 ((numRootLoop (w64 (a * 65536)) 25 0) + 1)) : Value) else E9 42)).put (some 7) (.int .i64 (numRoot_e0 a up)))) (b := decide ((w64 ((numRootLoop (w64 (a * 65536)) 25 0) * (numRootLoop (w64 (a * 65536)) 25 0))) < (w64 (a * 65536)))) rfl (fun hm => ?_) (fun hm => ?_) (fun hm => ?_) ?_
    ·refine aL (aM 41 (.int .i64 (numRootLoop (w64 (a * 65536)) 25 0)) rfl rfl (aB 42 (.int .i64 (w64 ((numRootLoop (w64 (a * 65536)) 25 0) + 1))) rfl rfl rfl (bi_add rfl) (aA 7 (.int .i64 (w64 ((numRootLoop (w64 (a * 65536)) 25 0) + 1))) rfl rfl (aN ?_))))
     exact ⟨rfl, rfl, rfl⟩
    ·unfold numRoot_e0; rw [hm]; rfl
    ·unfold numRoot_e0; rw [hm]; exact ((put_self rfl).trans ((put_self rfl).trans (put_self rfl)))
    refine aQ (aL (aM 43 (.int .i64 (numRoot_e0 a up)) rfl rfl (aA 4 (.int .i64 (numRoot_e0 a up)) rfl rfl (aA 5 (.bool true) rfl rfl (aN (ac_ret (fin_eq (v := .tuple #[.int .i64 (numRoot_e0 a up), .bool true]) (by show _ = (fun (r : Int × Bool) => (.tuple #[.int .i64 r.1, .bool r.2] : Value)) (numRoot a up); rw [numRoot, h3, h2, h1] <;> rfl) (fin_ret (res_tt rfl rfl rfl)))))))))
   ·refine aK 35 (by show (up == true) = false; rw [h3]; rfl) rfl (aK 36 (by show (up == true) = false; rw [h3]; rfl) rfl (aK 37 (by show (up == true) = false; rw [h3]; rfl) rfl (aK 38 (by show (up == true) = false; rw [h3]; rfl) rfl (aK 39 (by show (up == true) = false; rw [h3]; rfl) rfl (ao 40 rfl rfl (st_pkf' (b := up) (v := .bool false) h3 rfl rfl rfl (aN (ac_else rfl (ac_skip (aQ (aL (aM 43 (.int .i64 (numRootLoop (w64 (a * 65536)) 25 0)) rfl rfl (aA 4 (.int .i64 (numRootLoop (w64 (a * 65536)) 25 0)) rfl rfl (aA 5 (.bool true) rfl rfl (aN (ac_ret ?_))))))))))))))))
    exact fin_eq (v := .tuple #[.int .i64 (numRootLoop (w64 (a * 65536)) 25 0), .bool true]) (by show _ = (fun (r : Int × Bool) => (.tuple #[.int .i64 r.1, .bool r.2] : Value)) (numRoot a up); rw [numRoot, h3, h2, h1] <;> rfl) (fin_ret (res_tt rfl rfl rfl))
  ·refine ac_then' (b := !(numIn a)) (by rw [h2]; rfl) rfl (aQ (aL (aA 4 (.int .i64 0) rfl rfl (aA 5 (.bool false) rfl rfl (aN (ac_ret (fin_eq (v := .tuple #[.int .i64 0, .bool false]) (by show _ = (fun (r : Int × Bool) => (.tuple #[.int .i64 r.1, .bool r.2] : Value)) (numRoot a up); rw [numRoot, h2, h1] <;> rfl) (fin_ret (res_tt rfl rfl rfl)))))))))
end Go.Proofs.Ythngkopcadlciaa
namespace Go.Proofs.Ythngkopcadlciaa
theorem w64_of {n : Int} (h : -9223372036854775808 ≤ n) (h' : n ≤ 9223372036854775807) : w64 n = n := w64_id ⟨h, h'⟩
theorem numIn_iff (n : Int) : numIn n = true ↔ -1073741824 ≤ n ∧ n ≤ 1073741824 := by
  unfold numIn
  by_cases h : n ≥ -1073741824 <;> simp [h] <;> omega
theorem rIn_eq (n : Int) : rIn n = numIn n := rfl
theorem tmod_lt_neg (a : Int) {b : Int} (hb : b < 0) : a.tmod b < -b ∧ b < a.tmod b := by
  have h1 := Int.tmod_lt_of_pos a (b := -b) (by omega)
  have h2 := Int.lt_tmod_of_pos a (b := -b) (by omega)
  rw [Int.tmod_neg] at h1 h2
  omega
theorem tmod_sign (a b : Int) : (0 ≤ a → 0 ≤ a.tmod b) ∧ (a ≤ 0 → a.tmod b ≤ 0) := by
  refine ⟨fun h => Int.tmod_nonneg b h, fun h => ?_⟩
  have := Int.tmod_nonneg b (a := -a) (by omega)
  rw [Int.neg_tmod] at this
  omega
theorem tdiv_abs (a : Int) {b : Int} (hb : b ≠ 0) (h : -9223372036854775808 < a ∧ a ≤ 9223372036854775807) : -9223372036854775807 ≤ a.tdiv b ∧ a.tdiv b ≤ 9223372036854775807 := by
  have h1 : (a.tdiv b).natAbs ≤ a.natAbs := by
    rw [Int.natAbs_tdiv]
    exact Nat.div_le_self _ _
  omega
theorem numFloor_spec (a : Int) {b : Int} (hb : b ≠ 0) (h : -9223372036854775808 < a ∧ a ≤ 9223372036854775807) :
    (0 < b → numFloor a b = a / b) ∧ (b < 0 → numFloor a b = (-a) / (-b)) := by
  have ht := tdiv_abs a hb h
  have he := Int.mul_tdiv_add_tmod a b
  have hs := tmod_sign a b
  have hne : (b == 0) = false := by simpa using hb
  have h0 : ∀ b' : Int, 0 < b' → ∀ a' q r : Int, b' * q + r = a' → 0 ≤ r → r < b' → a' / b' = q := fun b' hb' a' q r h1 h2 h3 =>
    ((Int.ediv_emod_unique (r := r) (q := q) hb').2 ⟨by omega, h2, h3⟩).1
  have hw1 : w64 (a.tdiv b) = a.tdiv b := w64_of (by omega) (by omega)
  have hw2 : w64 (a.tdiv b - 1) = a.tdiv b - 1 := w64_of (by omega) (by omega)
  unfold numFloor numFloor_e0
  rw [hne, hw1, hw2]
  simp only [cond_false]
  refine ⟨fun hp => ?_, fun hn => ?_⟩
  · have hl := Int.tmod_lt_of_pos a hp
    have hl' := Int.lt_tmod_of_pos a hp
    by_cases hr : a.tmod b = 0
    · simp only [hr, bne_self_eq_false, cond_false]
      exact (h0 b hp a _ _ he (by omega) (by omega)).symm
    · have hr' : (a.tmod b != 0) = true := by simpa using hr
      have hbn : decide (b < 0) = false := decide_eq_false (by omega)
      rw [hr', hbn]
      simp only [cond_true]
      by_cases ha : a < 0
      · simp only [ha, decide_true, Bool.bne_false, cond_true]
        refine (h0 b hp a (a.tdiv b - 1) (a.tmod b + b) ?_ (by omega) (by omega)).symm
        rw [Int.mul_sub, Int.mul_one]
        omega
      · simp only [ha, decide_false, bne_self_eq_false, cond_false]
        exact (h0 b hp a _ _ he (hs.1 (by omega)) hl).symm
  · obtain ⟨hl, hl'⟩ := tmod_lt_neg a hn
    have hpn : 0 < -b := by omega
    by_cases hr : a.tmod b = 0
    · simp only [hr, bne_self_eq_false, cond_false]
      refine (h0 (-b) hpn (-a) _ (-(a.tmod b)) ?_ (by omega) (by omega)).symm
      rw [Int.neg_mul]
      omega
    · have hr' : (a.tmod b != 0) = true := by simpa using hr
      have hbn : decide (b < 0) = true := decide_eq_true hn
      rw [hr', hbn]
      simp only [cond_true]
      by_cases ha : a < 0
      · simp only [ha, decide_true, bne_self_eq_false, cond_false]
        refine (h0 (-b) hpn (-a) _ (-(a.tmod b)) ?_ (by have := hs.2 (by omega); omega) (by omega)).symm
        rw [Int.neg_mul]
        omega
      · simp only [ha, decide_false, Bool.bne_true, Bool.not_false, cond_true]
        refine (h0 (-b) hpn (-a) (a.tdiv b - 1) (-(a.tmod b) - b) ?_ (by have := hs.1 (by omega); omega) (by have := hs.1 (by omega); omega)).symm
        rw [Int.mul_sub, Int.neg_mul, Int.mul_one]
        omega
def dn (a b : Int) : Int := a / b
def upq (a b : Int) : Int := -((-a) / b)
def rq (a b : Int) (up : Bool) : Int := bif up then upq a b else dn a b
theorem dn_le {a b : Int} (hb : 0 < b) : dn a b * b ≤ a ∧ a < (dn a b + 1) * b := by
  unfold dn
  have h1 := Int.mul_ediv_add_emod a b
  have h2 := Int.emod_nonneg a (Int.ne_of_gt hb)
  have h3 := Int.emod_lt_of_pos a hb
  rw [Int.add_mul, Int.one_mul, Int.mul_comm]
  omega
theorem upq_eq {a b : Int} (hb : 0 < b) : upq a b = if a % b = 0 then a / b else a / b + 1 := by
  have h1 := Int.mul_ediv_add_emod a b
  have h2 := Int.emod_nonneg a (Int.ne_of_gt hb)
  have h3 := Int.emod_lt_of_pos a hb
  unfold upq
  split
  · rename_i h
    have : (-a) / b = -(a / b) := ((Int.ediv_emod_unique (r := 0) hb).2 ⟨by rw [Int.mul_neg]; omega, by omega, hb⟩).1
    omega
  · rename_i h
    have : (-a) / b = -(a / b) - 1 := ((Int.ediv_emod_unique (r := b - a % b) hb).2 ⟨by rw [Int.mul_sub, Int.mul_neg, Int.mul_one]; omega, by omega, by omega⟩).1
    omega
def told (q : Int) : Int × Bool := bif numIn q then (q, true) else (0, false)
theorem tmod_zero_iff (a : Int) (b : Int) : a.tmod b = 0 ↔ a % b = 0 := by
  rw [← Int.dvd_iff_tmod_eq_zero, Int.dvd_iff_emod_eq_zero]
theorem numRounded_pos (a : Int) {b : Int} (hb : 0 < b) (h : -9223372036854775808 < a ∧ a < 9223372036854775807) (up : Bool) : numRounded a b up = told (rq a b up) := by
  have hf := (numFloor_spec a (Int.ne_of_gt hb) (by omega)).1 hb
  have hq : -9223372036854775808 ≤ a / b ∧ a / b < 9223372036854775807 := by
    have h1 := tdiv_abs a (Int.ne_of_gt hb) (by omega)
    have h2 := dn_le (a := a) hb
    unfold dn at h2
    constructor
    · have : -9223372036854775808 * b ≤ a := by
        have : -9223372036854775808 * b ≤ -9223372036854775808 * 1 := Int.mul_le_mul_of_nonpos_left (by omega) (by omega)
        omega
      refine Decidable.byContradiction fun hc => ?_
      have : (a / b + 1) * b ≤ -9223372036854775808 * b := Int.mul_le_mul_of_nonneg_right (by omega) (by omega)
      omega
    · refine Decidable.byContradiction fun hc => ?_
      have : 9223372036854775807 * 1 ≤ a / b * b := Int.mul_le_mul (by omega) (by omega) (by omega) (by omega)
      omega
  unfold numRounded numRounded_e0 rq
  rw [hf]
  have hw : w64 (a / b + 1) = a / b + 1 := w64_of (by omega) (by omega)
  rw [hw]
  cases up
  · rfl
  · simp only [cond_true]
    rw [upq_eq hb]
    by_cases hz : a % b = 0
    · have h1 := (tmod_zero_iff a b).2 hz
      simp only [h1, bne_self_eq_false, cond_false, hz, if_true]
      rfl
    · have h1 : ¬ a.tmod b = 0 := fun e => hz ((tmod_zero_iff a b).1 e)
      have h2 : (a.tmod b != 0) = true := by simpa using h1
      simp only [h2, cond_true, hz, if_false]
      rfl
end Go.Proofs.Ythngkopcadlciaa
namespace Go.Proofs.Ythngkopcadlciaa
theorem mul_bound {a b A B : Int} (ha : -A ≤ a ∧ a ≤ A) (hb : -B ≤ b ∧ b ≤ B) : -(A * B) ≤ a * b ∧ a * b ≤ A * B := by
  have h : (a * b).natAbs ≤ (A * B).natAbs := by
    rw [Int.natAbs_mul, Int.natAbs_mul]
    exact Nat.mul_le_mul (by omega) (by omega)
  have h2 : 0 ≤ A * B := Int.mul_nonneg (by omega) (by omega)
  omega
theorem told_in {q : Int} (h : -1073741824 ≤ q ∧ q ≤ 1073741824) : told q = (q, true) := by
  unfold told
  rw [(numIn_iff q).2 h]; rfl
theorem told_snd (q : Int) : (told q).2 = numIn q := by
  unfold told
  cases numIn q <;> rfl
theorem numRounded_neg (a : Int) {b : Int} (hb : b < 0) (hb' : -9223372036854775808 < b) (h : -9223372036854775808 < a ∧ a ≤ 9223372036854775807) (up : Bool) : numRounded a b up = numRounded (-a) (-b) up := by
  have h1 := (numFloor_spec a (Int.ne_of_lt hb) h).2 hb
  have h2 := (numFloor_spec (-a) (b := -b) (by omega) (by omega)).1 (by omega)
  have h3 : numFloor a b = numFloor (-a) (-b) := by rw [h1, h2]
  have h4 : (a.tmod b != 0) = ((-a).tmod (-b) != 0) := by
    rw [Int.tmod_neg, Int.neg_tmod]
    by_cases hz : a.tmod b = 0
    · rw [hz]; rfl
    · have e1 : (a.tmod b != 0) = true := by simpa using hz
      have e2 : (-(a.tmod b) != 0) = true := by simpa using hz
      rw [e1, e2]
  unfold numRounded numRounded_e0
  rw [h3, h4]
theorem numMul_spec {a b : Int} (ha : -1073741824 ≤ a ∧ a ≤ 1073741824) (hb : -1073741824 ≤ b ∧ b ≤ 1073741824) (up : Bool) : numMul a b up = told (rq (a * b) 65536 up) := by
  have h := mul_bound ha hb
  unfold numMul
  rw [(numIn_iff a).2 ha, (numIn_iff b).2 hb, w64_of (by omega) (by omega), numRounded_pos (a * b) (b := 65536) (by omega) (by omega)]
  rfl
def dq (a b : Int) (up : Bool) : Int := rq (bif decide (b < 0) then -(a * 65536) else a * 65536) (bif decide (b < 0) then -b else b) up
theorem numDiv_spec {a b : Int} (ha : -1073741824 ≤ a ∧ a ≤ 1073741824) (hb : -1073741824 ≤ b ∧ b ≤ 1073741824) (h0 : b ≠ 0) (up : Bool) : numDiv a b up = told (dq a b up) := by
  have h0' : (b == 0) = false := by simpa using h0
  unfold numDiv dq
  rw [(numIn_iff a).2 ha, (numIn_iff b).2 hb, w64_of (by omega) (by omega), h0']
  simp only [cond_true, cond_false]
  by_cases hn : b < 0
  · rw [numRounded_neg _ hn (by omega) (by omega), numRounded_pos (-(a * 65536)) (b := -b) (by omega) (by omega), decide_eq_true hn]
    rfl
  · rw [numRounded_pos (a * 65536) (b := b) (by omega) (by omega), decide_eq_false hn]
    rfl
end Go.Proofs.Ythngkopcadlciaa
namespace Go.Proofs.Ythngkopcadlciaa
open Go.RowKit
attribute [local irreducible] AC AR DWalk
def rRight (a : Iv) : Bool := (bif a.no then false else (bif rIn a.lo then (bif rIn a.hi then decide (a.lo ≤ a.hi) else false) else false))
set_option maxRecDepth 100000 in
theorem c_rRight (a : Iv) : Gets Try.prog 40 #[.agg #[.int .i64 a.lo, .int .i64 a.hi, .bool a.no]] ((fun (r : Bool) => (.bool r : Value)) (rRight a)) := by
 refine gets_fin Try.func40 rfl rfl rfl (aQ (aL (ao 1 rfl rfl (st_box (v := .agg #[.int .i64 a.lo, .int .i64 a.hi, .bool a.no]) (cs := [.int .i64 a.lo, .int .i64 a.hi, .bool a.no]) rfl rfl rfl fun g0 => (aA 2 (.bool false) rfl rfl (aN (aQ (aL (aF 3 fa26_2 rfl rfl (aD 4 (.bool a.no) cell4 0 rfl rfl rfl rfl (ao 5 rfl rfl (st_un (v := .bool (!a.no)) rfl rfl (un_not rfl) (aM 6 (.bool (!a.no)) rfl rfl ?_)))))))))))))
 refine bool_split (a.no) (fun h1 => ?_) (fun h1 => ?_)
 ·refine aK 7 (by show ((!a.no) == true) = false; rw [h1]; rfl) rfl (aK 8 (by show ((!a.no) == true) = false; rw [h1]; rfl) rfl (aK 9 (by show ((!a.no) == true) = false; rw [h1]; rfl) rfl (ao 10 rfl rfl (st_pkf' (b := !a.no) (v := .bool false) (by rw [h1]; rfl) rfl rfl rfl (aM 11 (.bool false) rfl rfl (aK 12 rfl rfl (aK 13 rfl rfl (aK 14 rfl rfl (ao 15 rfl rfl (st_pkf (v := .bool false) rfl rfl rfl (aM 16 (.bool false) rfl rfl (aK 17 rfl rfl (aK 18 rfl rfl (aK 19 rfl rfl (aK 20 rfl rfl (aK 21 rfl rfl (ao 22 rfl rfl (st_pkf (v := .bool false) rfl rfl rfl (aA 2 (.bool false) rfl rfl (aN (ac_ret ?_)))))))))))))))))))))
  exact fin_eq (v := .bool false) (by show _ = (fun (r : Bool) => (.bool r : Value)) (rRight a); rw [rRight, h1] <;> rfl) (fin_ret (res_tmp rfl rfl))
 ·refine ar_gd (d := (some 7)) (by show ((!a.no) == true) = true; rw [h1]; rfl) rfl (st_fa rfl fa26_0 rfl (ar_gd (d := (some 8)) (by show ((!a.no) == true) = true; rw [h1]; rfl) rfl (st_ldc (v := .int .i64 a.lo) cell3 0 rfl rfl rfl rfl rfl (ar_gd (d := (some 9)) (by show ((!a.no) == true) = true; rw [h1]; rfl) rfl (st_cf (c_rIn a.lo) Try.func92 rfl (by decide) rfl rfl rfl (ao 10 rfl rfl (st_pkt' (b := !a.no) (v := .bool (rIn a.lo)) (by rw [h1]; rfl) rfl rfl rfl (aM 11 (.bool (rIn a.lo)) rfl rfl ?_))))))))
  refine bool_split (rIn a.lo) (fun h2 => ?_) (fun h2 => ?_)
  ·refine ar_gd (d := (some 12)) (by show ((rIn a.lo) == true) = true; rw [h2]; rfl) rfl (st_fa rfl fa26_1 rfl (ar_gd (d := (some 13)) (by show ((rIn a.lo) == true) = true; rw [h2]; rfl) rfl (st_ldc (v := .int .i64 a.hi) cell3 0 rfl rfl rfl rfl rfl (ar_gd (d := (some 14)) (by show ((rIn a.lo) == true) = true; rw [h2]; rfl) rfl (st_cf (c_rIn a.hi) Try.func92 rfl (by decide) rfl rfl rfl (ao 15 rfl rfl (st_pkt' (b := rIn a.lo) (v := .bool (rIn a.hi)) h2 rfl rfl rfl (aM 16 (.bool (rIn a.hi)) rfl rfl ?_))))))))
   refine bool_split (rIn a.hi) (fun h3 => ?_) (fun h3 => ?_)
   ·refine ar_gd (d := (some 17)) (by show ((rIn a.hi) == true) = true; rw [h3]; rfl) rfl (st_fa rfl fa26_0 rfl (ar_gd (d := (some 18)) (by show ((rIn a.hi) == true) = true; rw [h3]; rfl) rfl (st_ldc (v := .int .i64 a.lo) cell3 0 rfl rfl rfl rfl rfl (ar_gd (d := (some 19)) (by show ((rIn a.hi) == true) = true; rw [h3]; rfl) rfl (st_fa rfl fa26_1 rfl (ar_gd (d := (some 20)) (by show ((rIn a.hi) == true) = true; rw [h3]; rfl) rfl (st_ldc (v := .int .i64 a.hi) cell3 0 rfl rfl rfl rfl rfl (ar_gd (d := (some 21)) (by show ((rIn a.hi) == true) = true; rw [h3]; rfl) rfl (st_bi (r := .bool (decide (a.lo ≤ a.hi))) rfl rfl rfl (bi_leq rfl) ?_)))))))))
    refine ao 22 rfl rfl (st_pkt' (b := rIn a.hi) (v := .bool (decide (a.lo ≤ a.hi))) h3 rfl rfl rfl (aA 2 (.bool (decide (a.lo ≤ a.hi))) rfl rfl (aN (ac_ret (fin_eq (v := .bool (decide (a.lo ≤ a.hi))) (by show _ = (fun (r : Bool) => (.bool r : Value)) (rRight a); rw [rRight, h3, h2, h1] <;> rfl) (fin_ret (res_tmp rfl rfl)))))))
   ·refine aK 17 (by show ((rIn a.hi) == true) = false; rw [h3]; rfl) rfl (aK 18 (by show ((rIn a.hi) == true) = false; rw [h3]; rfl) rfl (aK 19 (by show ((rIn a.hi) == true) = false; rw [h3]; rfl) rfl (aK 20 (by show ((rIn a.hi) == true) = false; rw [h3]; rfl) rfl (aK 21 (by show ((rIn a.hi) == true) = false; rw [h3]; rfl) rfl (ao 22 rfl rfl (st_pkf' (b := rIn a.hi) (v := .bool false) h3 rfl rfl rfl (aA 2 (.bool false) rfl rfl (aN (ac_ret (fin_eq (v := .bool false) (by show _ = (fun (r : Bool) => (.bool r : Value)) (rRight a); rw [rRight, h3, h2, h1] <;> rfl) (fin_ret (res_tmp rfl rfl))))))))))))
  ·refine aK 12 (by show ((rIn a.lo) == true) = false; rw [h2]; rfl) rfl (aK 13 (by show ((rIn a.lo) == true) = false; rw [h2]; rfl) rfl (aK 14 (by show ((rIn a.lo) == true) = false; rw [h2]; rfl) rfl (ao 15 rfl rfl (st_pkf' (b := rIn a.lo) (v := .bool false) h2 rfl rfl rfl (aM 16 (.bool false) rfl rfl (aK 17 rfl rfl (aK 18 rfl rfl (aK 19 rfl rfl (aK 20 rfl rfl (aK 21 rfl rfl (ao 22 rfl rfl (st_pkf (v := .bool false) rfl rfl rfl (aA 2 (.bool false) rfl rfl (aN (ac_ret (fin_eq (v := .bool false) (by show _ = (fun (r : Bool) => (.bool r : Value)) (rRight a); rw [rRight, h2, h1] <;> rfl) (fin_ret (res_tmp rfl rfl))))))))))))))))))
def rNone  : Iv := (⟨0, 0, true⟩ : Iv)
set_option maxRecDepth 100000 in
theorem c_rNone  : Gets Try.prog 111 #[] (Iv.v rNone) := by
 refine gets_fin Try.func111 rfl rfl rfl (aQ (aL (ao 0 rfl rfl (st_new zero26 rfl fun g0 => (aN (aQ (aL (ao 1 rfl rfl (st_bd (us := [(2, .bool true)]) (v := .agg #[.int .i64 0, .int .i64 0, .bool true]) rfl rfl (bd26_2 _) (aS [.int .i64 0, .int .i64 0, .bool true] agg26 0 rfl rfl rfl rfl rfl rfl (aN (ac_ret (fin_eq (v := .agg #[.int .i64 0, .int .i64 0, .bool true]) rfl (fin_ret (res_c (vs := [.int .i64 0, .int .i64 0, .bool true]) agg26 0 rfl rfl rfl rfl rfl rfl)))))))))))))))
def rOf (l : Int) (h : Int) : Iv := (bif rRight (⟨l, h, false⟩ : Iv) then (⟨l, h, false⟩ : Iv) else rNone)
set_option maxRecDepth 100000 in
theorem c_rOf (l : Int) (h : Int) : Gets Try.prog 112 #[.int .i64 l, .int .i64 h] (Iv.v (rOf l h)) := by
 refine gets_fin Try.func112 rfl rfl rfl (aQ (aL (ao 4 rfl rfl (st_new zero26 rfl fun g0 => (aN (aQ (aL (aM 6 (.int .i64 l) rfl rfl (aM 7 (.int .i64 h) rfl rfl (ao 8 rfl rfl (st_bd (us := [(0, .int .i64 l), (1, .int .i64 h)]) (v := .agg #[.int .i64 l, .int .i64 h, .bool false]) rfl rfl (bd26_0_1 _ _) (ao 5 rfl rfl (st_new zero26 rfl fun g1 => (aS [.int .i64 l, .int .i64 h, .bool false] agg26 0 rfl rfl rfl rfl rfl rfl (aN (aQ (aQ (aL (aG 9 [.int .i64 l, .int .i64 h, .bool false] agg26 0 rfl rfl rfl rfl rfl (aC 10 (c_rRight (⟨l, h, false⟩ : Iv)) Try.func40 ⟨rfl, by decide⟩ rfl rfl ?_))))))))))))))))))))
 refine ao 11 rfl rfl (st_un (v := .bool (!(rRight (⟨l, h, false⟩ : Iv)))) rfl rfl (un_not rfl) (aN ?_))
 refine bool_split (rRight (⟨l, h, false⟩ : Iv)) (fun h1 => ?_) (fun h1 => ?_)
 ·refine ac_else' (b := !(rRight (⟨l, h, false⟩ : Iv))) (by rw [h1]; rfl) rfl (ac_skip (aQ (aL (aG 13 [.int .i64 l, .int .i64 h, .bool false] agg26 0 rfl rfl rfl rfl rfl (aS [.int .i64 l, .int .i64 h, .bool false] agg26 1 rfl rfl rfl rfl rfl rfl (aN (ac_ret (fin_eq (v := .agg #[.int .i64 l, .int .i64 h, .bool false]) (by show _ = Iv.v (rOf l h); rw [rOf, h1] <;> rfl) (fin_ret (res_c (vs := [.int .i64 l, .int .i64 h, .bool false]) agg26 1 rfl rfl rfl rfl rfl rfl))))))))))
 ·refine ac_then' (b := !(rRight (⟨l, h, false⟩ : Iv))) (by rw [h1]; rfl) rfl (aQ (aL (aC 12 c_rNone Try.func111 ⟨rfl, by decide⟩ rfl rfl (aS [.int .i64 rNone.lo, .int .i64 rNone.hi, .bool rNone.no] agg26 1 rfl rfl rfl rfl rfl rfl (aN (ac_ret (fin_eq (v := .agg #[.int .i64 rNone.lo, .int .i64 rNone.hi, .bool rNone.no]) (by show _ = Iv.v (rOf l h); rw [rOf, h1] <;> rfl) (fin_ret (res_c (vs := [.int .i64 rNone.lo, .int .i64 rNone.hi, .bool rNone.no]) agg26 1 rfl rfl rfl rfl rfl rfl)))))))))
def rPoint (n : Int) : Iv := (rOf n n)
set_option maxRecDepth 100000 in
theorem c_rPoint (n : Int) : Gets Try.prog 80 #[.int .i64 n] (Iv.v (rPoint n)) := by
 refine gets_fin Try.func80 rfl rfl rfl (aQ (aL (ao 2 rfl rfl (st_new zero26 rfl fun g0 => (aN (aQ (aL (aM 3 (.int .i64 n) rfl rfl (aM 4 (.int .i64 n) rfl rfl (aC 5 (c_rOf n n) Try.func112 ⟨rfl, by decide⟩ rfl rfl (aS [.int .i64 ((rOf n n).lo), .int .i64 ((rOf n n).hi), .bool ((rOf n n).no)] agg26 0 rfl rfl rfl rfl rfl rfl (aN (ac_ret (fin_eq (v := .agg #[.int .i64 ((rOf n n).lo), .int .i64 ((rOf n n).hi), .bool ((rOf n n).no)]) rfl (fin_ret (res_c (vs := [.int .i64 ((rOf n n).lo), .int .i64 ((rOf n n).hi), .bool ((rOf n n).no)]) agg26 0 rfl rfl rfl rfl rfl rfl))))))))))))))))
def rAdd (a : Iv) (b : Iv) : Iv := (bif rRight a then (bif rRight b then (rOf (w64 (a.lo + b.lo)) (w64 (a.hi + b.hi))) else rNone) else rNone)
set_option maxRecDepth 100000 in
theorem c_rAdd (a : Iv) (b : Iv) : Gets Try.prog 86 #[.agg #[.int .i64 a.lo, .int .i64 a.hi, .bool a.no], .agg #[.int .i64 b.lo, .int .i64 b.hi, .bool b.no]] (Iv.v (rAdd a b)) := by
 refine gets_fin Try.func86 rfl rfl rfl (aQ (aL (ao 2 rfl rfl (st_box (v := .agg #[.int .i64 a.lo, .int .i64 a.hi, .bool a.no]) (cs := [.int .i64 a.lo, .int .i64 a.hi, .bool a.no]) rfl rfl rfl fun g0 => (ao 3 rfl rfl (st_box (v := .agg #[.int .i64 b.lo, .int .i64 b.hi, .bool b.no]) (cs := [.int .i64 b.lo, .int .i64 b.hi, .bool b.no]) rfl rfl rfl fun g1 => (ao 4 rfl rfl (st_new zero26 rfl fun g2 => (aN (aQ (aQ (aL (aG 5 [.int .i64 a.lo, .int .i64 a.hi, .bool a.no] agg26 2 rfl rfl rfl rfl rfl (aC 6 (c_rRight a) Try.func40 ⟨rfl, by decide⟩ rfl rfl (ao 7 rfl rfl (st_un (v := .bool (!(rRight a))) rfl rfl (un_not rfl) (aM 8 (.bool (!(rRight a))) rfl rfl ?_)))))))))))))))))
 refine bool_split (rRight a) (fun h1 => ?_) (fun h1 => ?_)
 ·refine ar_gd (d := (some 9)) (by show ((!(rRight a)) == false) = true; rw [h1]; rfl) rfl (st_lda (vs := [.int .i64 b.lo, .int .i64 b.hi, .bool b.no]) agg26 1 rfl rfl rfl rfl rfl rfl (ar_gd (d := (some 10)) (by show ((!(rRight a)) == false) = true; rw [h1]; rfl) rfl (st_cf (c_rRight b) Try.func40 rfl (by decide) rfl rfl rfl (ar_gd (d := (some 11)) (by show ((!(rRight a)) == false) = true; rw [h1]; rfl) rfl (st_un (v := .bool (!(rRight b))) rfl rfl (un_not rfl) (ao 12 rfl rfl (st_pkf' (b := !(rRight a)) (v := .bool (!(rRight b))) (by rw [h1]; rfl) rfl rfl rfl (aN ?_))))))))
  refine bool_split (rRight b) (fun h2 => ?_) (fun h2 => ?_)
  ·refine ac_else' (b := !(rRight b)) (by rw [h2]; rfl) rfl (ac_skip (aQ (aL (aF 14 fa26_0 rfl rfl (aD 15 (.int .i64 a.lo) cell3 2 rfl rfl rfl rfl (aF 16 fa26_0 rfl rfl (aD 17 (.int .i64 b.lo) cell3 1 rfl rfl rfl rfl (aB 18 (.int .i64 (w64 (a.lo + b.lo))) rfl rfl rfl (bi_add rfl) (aF 19 fa26_1 rfl rfl (aD 20 (.int .i64 a.hi) cell3 2 rfl rfl rfl rfl (aF 21 fa26_1 rfl rfl (aD 22 (.int .i64 b.hi) cell3 1 rfl rfl rfl rfl (aB 23 (.int .i64 (w64 (a.hi + b.hi))) rfl rfl rfl (bi_add rfl) (aC 24 (c_rOf (w64 (a.lo + b.lo)) (w64 (a.hi + b.hi))) Try.func112 ⟨rfl, by decide⟩ rfl rfl ?_))))))))))))))
   refine aS [.int .i64 ((rOf (w64 (a.lo + b.lo)) (w64 (a.hi + b.hi))).lo), .int .i64 ((rOf (w64 (a.lo + b.lo)) (w64 (a.hi + b.hi))).hi), .bool ((rOf (w64 (a.lo + b.lo)) (w64 (a.hi + b.hi))).no)] agg26 0 rfl rfl rfl rfl rfl rfl (aN (ac_ret ?_))
   exact fin_eq (v := .agg #[.int .i64 ((rOf (w64 (a.lo + b.lo)) (w64 (a.hi + b.hi))).lo), .int .i64 ((rOf (w64 (a.lo + b.lo)) (w64 (a.hi + b.hi))).hi), .bool ((rOf (w64 (a.lo + b.lo)) (w64 (a.hi + b.hi))).no)]) (by show _ = Iv.v (rAdd a b); rw [rAdd, h2, h1] <;> rfl) (fin_ret (res_c (vs := [.int .i64 ((rOf (w64 (a.lo + b.lo)) (w64 (a.hi + b.hi))).lo), .int .i64 ((rOf (w64 (a.lo + b.lo)) (w64 (a.hi + b.hi))).hi), .bool ((rOf (w64 (a.lo + b.lo)) (w64 (a.hi + b.hi))).no)]) agg26 0 rfl rfl rfl rfl rfl rfl))
  ·refine ac_then' (b := !(rRight b)) (by rw [h2]; rfl) rfl (aQ (aL (aC 13 c_rNone Try.func111 ⟨rfl, by decide⟩ rfl rfl (aS [.int .i64 rNone.lo, .int .i64 rNone.hi, .bool rNone.no] agg26 0 rfl rfl rfl rfl rfl rfl (aN (ac_ret (fin_eq (v := .agg #[.int .i64 rNone.lo, .int .i64 rNone.hi, .bool rNone.no]) (by show _ = Iv.v (rAdd a b); rw [rAdd, h2, h1] <;> rfl) (fin_ret (res_c (vs := [.int .i64 rNone.lo, .int .i64 rNone.hi, .bool rNone.no]) agg26 0 rfl rfl rfl rfl rfl rfl)))))))))
 ·refine aK 9 (by show ((!(rRight a)) == false) = false; rw [h1]; rfl) rfl (aK 10 (by show ((!(rRight a)) == false) = false; rw [h1]; rfl) rfl (aK 11 (by show ((!(rRight a)) == false) = false; rw [h1]; rfl) rfl (ao 12 rfl rfl (st_pkt' (b := !(rRight a)) (v := .bool true) (by rw [h1]; rfl) rfl rfl rfl (aN (ac_then rfl (aQ (aL (aC 13 c_rNone Try.func111 ⟨rfl, by decide⟩ rfl rfl (aS [.int .i64 rNone.lo, .int .i64 rNone.hi, .bool rNone.no] agg26 0 rfl rfl rfl rfl rfl rfl (aN (ac_ret ?_))))))))))))
  exact fin_eq (v := .agg #[.int .i64 rNone.lo, .int .i64 rNone.hi, .bool rNone.no]) (by show _ = Iv.v (rAdd a b); rw [rAdd, h1] <;> rfl) (fin_ret (res_c (vs := [.int .i64 rNone.lo, .int .i64 rNone.hi, .bool rNone.no]) agg26 0 rfl rfl rfl rfl rfl rfl))
def rSub (a : Iv) (b : Iv) : Iv := (bif rRight a then (bif rRight b then (rOf (w64 (a.lo - b.hi)) (w64 (a.hi - b.lo))) else rNone) else rNone)
set_option maxRecDepth 100000 in
theorem c_rSub (a : Iv) (b : Iv) : Gets Try.prog 82 #[.agg #[.int .i64 a.lo, .int .i64 a.hi, .bool a.no], .agg #[.int .i64 b.lo, .int .i64 b.hi, .bool b.no]] (Iv.v (rSub a b)) := by
 refine gets_fin Try.func82 rfl rfl rfl (aQ (aL (ao 2 rfl rfl (st_box (v := .agg #[.int .i64 a.lo, .int .i64 a.hi, .bool a.no]) (cs := [.int .i64 a.lo, .int .i64 a.hi, .bool a.no]) rfl rfl rfl fun g0 => (ao 3 rfl rfl (st_box (v := .agg #[.int .i64 b.lo, .int .i64 b.hi, .bool b.no]) (cs := [.int .i64 b.lo, .int .i64 b.hi, .bool b.no]) rfl rfl rfl fun g1 => (ao 4 rfl rfl (st_new zero26 rfl fun g2 => (aN (aQ (aQ (aL (aG 5 [.int .i64 a.lo, .int .i64 a.hi, .bool a.no] agg26 2 rfl rfl rfl rfl rfl (aC 6 (c_rRight a) Try.func40 ⟨rfl, by decide⟩ rfl rfl (ao 7 rfl rfl (st_un (v := .bool (!(rRight a))) rfl rfl (un_not rfl) (aM 8 (.bool (!(rRight a))) rfl rfl ?_)))))))))))))))))
 refine bool_split (rRight a) (fun h1 => ?_) (fun h1 => ?_)
 ·refine ar_gd (d := (some 9)) (by show ((!(rRight a)) == false) = true; rw [h1]; rfl) rfl (st_lda (vs := [.int .i64 b.lo, .int .i64 b.hi, .bool b.no]) agg26 1 rfl rfl rfl rfl rfl rfl (ar_gd (d := (some 10)) (by show ((!(rRight a)) == false) = true; rw [h1]; rfl) rfl (st_cf (c_rRight b) Try.func40 rfl (by decide) rfl rfl rfl (ar_gd (d := (some 11)) (by show ((!(rRight a)) == false) = true; rw [h1]; rfl) rfl (st_un (v := .bool (!(rRight b))) rfl rfl (un_not rfl) (ao 12 rfl rfl (st_pkf' (b := !(rRight a)) (v := .bool (!(rRight b))) (by rw [h1]; rfl) rfl rfl rfl (aN ?_))))))))
  refine bool_split (rRight b) (fun h2 => ?_) (fun h2 => ?_)
  ·refine ac_else' (b := !(rRight b)) (by rw [h2]; rfl) rfl (ac_skip (aQ (aL (aF 14 fa26_0 rfl rfl (aD 15 (.int .i64 a.lo) cell3 2 rfl rfl rfl rfl (aF 16 fa26_1 rfl rfl (aD 17 (.int .i64 b.hi) cell3 1 rfl rfl rfl rfl (aB 18 (.int .i64 (w64 (a.lo - b.hi))) rfl rfl rfl (bi_sub rfl) (aF 19 fa26_1 rfl rfl (aD 20 (.int .i64 a.hi) cell3 2 rfl rfl rfl rfl (aF 21 fa26_0 rfl rfl (aD 22 (.int .i64 b.lo) cell3 1 rfl rfl rfl rfl (aB 23 (.int .i64 (w64 (a.hi - b.lo))) rfl rfl rfl (bi_sub rfl) (aC 24 (c_rOf (w64 (a.lo - b.hi)) (w64 (a.hi - b.lo))) Try.func112 ⟨rfl, by decide⟩ rfl rfl ?_))))))))))))))
   refine aS [.int .i64 ((rOf (w64 (a.lo - b.hi)) (w64 (a.hi - b.lo))).lo), .int .i64 ((rOf (w64 (a.lo - b.hi)) (w64 (a.hi - b.lo))).hi), .bool ((rOf (w64 (a.lo - b.hi)) (w64 (a.hi - b.lo))).no)] agg26 0 rfl rfl rfl rfl rfl rfl (aN (ac_ret ?_))
   exact fin_eq (v := .agg #[.int .i64 ((rOf (w64 (a.lo - b.hi)) (w64 (a.hi - b.lo))).lo), .int .i64 ((rOf (w64 (a.lo - b.hi)) (w64 (a.hi - b.lo))).hi), .bool ((rOf (w64 (a.lo - b.hi)) (w64 (a.hi - b.lo))).no)]) (by show _ = Iv.v (rSub a b); rw [rSub, h2, h1] <;> rfl) (fin_ret (res_c (vs := [.int .i64 ((rOf (w64 (a.lo - b.hi)) (w64 (a.hi - b.lo))).lo), .int .i64 ((rOf (w64 (a.lo - b.hi)) (w64 (a.hi - b.lo))).hi), .bool ((rOf (w64 (a.lo - b.hi)) (w64 (a.hi - b.lo))).no)]) agg26 0 rfl rfl rfl rfl rfl rfl))
  ·refine ac_then' (b := !(rRight b)) (by rw [h2]; rfl) rfl (aQ (aL (aC 13 c_rNone Try.func111 ⟨rfl, by decide⟩ rfl rfl (aS [.int .i64 rNone.lo, .int .i64 rNone.hi, .bool rNone.no] agg26 0 rfl rfl rfl rfl rfl rfl (aN (ac_ret (fin_eq (v := .agg #[.int .i64 rNone.lo, .int .i64 rNone.hi, .bool rNone.no]) (by show _ = Iv.v (rSub a b); rw [rSub, h2, h1] <;> rfl) (fin_ret (res_c (vs := [.int .i64 rNone.lo, .int .i64 rNone.hi, .bool rNone.no]) agg26 0 rfl rfl rfl rfl rfl rfl)))))))))
 ·refine aK 9 (by show ((!(rRight a)) == false) = false; rw [h1]; rfl) rfl (aK 10 (by show ((!(rRight a)) == false) = false; rw [h1]; rfl) rfl (aK 11 (by show ((!(rRight a)) == false) = false; rw [h1]; rfl) rfl (ao 12 rfl rfl (st_pkt' (b := !(rRight a)) (v := .bool true) (by rw [h1]; rfl) rfl rfl rfl (aN (ac_then rfl (aQ (aL (aC 13 c_rNone Try.func111 ⟨rfl, by decide⟩ rfl rfl (aS [.int .i64 rNone.lo, .int .i64 rNone.hi, .bool rNone.no] agg26 0 rfl rfl rfl rfl rfl rfl (aN (ac_ret ?_))))))))))))
  exact fin_eq (v := .agg #[.int .i64 rNone.lo, .int .i64 rNone.hi, .bool rNone.no]) (by show _ = Iv.v (rSub a b); rw [rSub, h1] <;> rfl) (fin_ret (res_c (vs := [.int .i64 rNone.lo, .int .i64 rNone.hi, .bool rNone.no]) agg26 0 rfl rfl rfl rfl rfl rfl))
def rSqr_e0 (a : Iv) : Int := (bif decide (a.hi ≥ 0) then 0 else (min (max a.lo (w64 (0 - a.lo))) (max a.hi (w64 (0 - a.hi)))))
def rSqr_e1 (a : Iv) : Int × Bool := (rMul (max (max (max a.lo (w64 (0 - a.lo))) a.hi) (w64 (0 - a.hi))) (max (max (max a.lo (w64 (0 - a.lo))) a.hi) (w64 (0 - a.hi))) true)
def rSqr_e2 (a : Iv) : Iv := (rOf ((rMul (rSqr_e0 a) (rSqr_e0 a) false).1) ((rSqr_e1 a).1))
def rSqr_e3 (a : Iv) : Int × Bool := (rMul (min (max a.lo (w64 (0 - a.lo))) (max a.hi (w64 (0 - a.hi)))) (min (max a.lo (w64 (0 - a.lo))) (max a.hi (w64 (0 - a.hi)))) false)
def rSqr (a : Iv) : Iv := (bif rRight a then (bif decide (a.lo ≤ 0) then (bif (rSqr_e1 a).2 then (rSqr_e2 a) else rNone) else (bif (rSqr_e1 a).2 then (rOf ((rSqr_e3 a).1) ((rSqr_e1 a).1)) else rNone)) else rNone)
set_option maxRecDepth 100000 in
theorem c_rSqr (a : Iv) : Gets Try.prog 84 #[.agg #[.int .i64 a.lo, .int .i64 a.hi, .bool a.no]] (Iv.v (rSqr a)) := by
 refine gets_fin Try.func84 rfl rfl rfl (aQ (aL (ao 1 rfl rfl (st_box (v := .agg #[.int .i64 a.lo, .int .i64 a.hi, .bool a.no]) (cs := [.int .i64 a.lo, .int .i64 a.hi, .bool a.no]) rfl rfl rfl fun g0 => (ao 2 rfl rfl (st_new zero26 rfl fun g1 => (aN (aQ (aQ (aL (aG 9 [.int .i64 a.lo, .int .i64 a.hi, .bool a.no] agg26 1 rfl rfl rfl rfl rfl (aC 10 (c_rRight a) Try.func40 ⟨rfl, by decide⟩ rfl rfl (ao 11 rfl rfl (st_un (v := .bool (!(rRight a))) rfl rfl (un_not rfl) (aN ?_)))))))))))))))
 refine bool_split (rRight a) (fun h1 => ?_) (fun h1 => ?_)
 ·refine ac_else' (b := !(rRight a)) (by rw [h1]; rfl) rfl (ac_skip (aQ (aL (aF 13 fa26_0 rfl rfl (aD 14 (.int .i64 a.lo) cell3 1 rfl rfl rfl rfl (aF 15 fa26_0 rfl rfl (aD 16 (.int .i64 a.lo) cell3 1 rfl rfl rfl rfl (ao 17 rfl rfl (st_un (v := .int .i64 (w64 (0 - a.lo))) rfl rfl (un_neg rfl) (ao 18 rfl rfl (st_mx (x := a.lo) (y := (w64 (0 - a.lo))) (c := (max a.lo (w64 (0 - a.lo)))) rfl rfl rfl (aF 19 fa26_1 rfl rfl (aD 20 (.int .i64 a.hi) cell3 1 rfl rfl rfl rfl (aF 21 fa26_1 rfl rfl (aD 22 (.int .i64 a.hi) cell3 1 rfl rfl rfl rfl (ao 23 rfl rfl (st_un (v := .int .i64 (w64 (0 - a.hi))) rfl rfl (un_neg rfl) ?_)))))))))))))))))
  refine ao 24 rfl rfl (st_mx (x := a.hi) (y := (w64 (0 - a.hi))) (c := (max a.hi (w64 (0 - a.hi)))) rfl rfl rfl (ao 25 rfl rfl (st_mn (x := (max a.lo (w64 (0 - a.lo)))) (y := (max a.hi (w64 (0 - a.hi)))) (c := (min (max a.lo (w64 (0 - a.lo))) (max a.hi (w64 (0 - a.hi))))) rfl rfl rfl (aA 3 (.int .i64 (min (max a.lo (w64 (0 - a.lo))) (max a.hi (w64 (0 - a.hi))))) rfl rfl (aN (aQ (aL (aF 26 fa26_0 rfl rfl (aD 27 (.int .i64 a.lo) cell3 1 rfl rfl rfl rfl (aF 28 fa26_0 rfl rfl (aD 29 (.int .i64 a.lo) cell3 1 rfl rfl rfl rfl (ao 30 rfl rfl (st_un (v := .int .i64 (w64 (0 - a.lo))) rfl rfl (un_neg rfl) (aF 31 fa26_1 rfl rfl ?_))))))))))))))
  refine aD 32 (.int .i64 a.hi) cell3 1 rfl rfl rfl rfl (aF 33 fa26_1 rfl rfl (aD 34 (.int .i64 a.hi) cell3 1 rfl rfl rfl rfl (ao 35 rfl rfl (st_un (v := .int .i64 (w64 (0 - a.hi))) rfl rfl (un_neg rfl) (ao 36 rfl rfl (st_mx4 (x := a.lo) (y := (w64 (0 - a.lo))) (z := a.hi) (u := (w64 (0 - a.hi))) (c := (max (max (max a.lo (w64 (0 - a.lo))) a.hi) (w64 (0 - a.hi)))) rfl rfl rfl (aA 4 (.int .i64 (max (max (max a.lo (w64 (0 - a.lo))) a.hi) (w64 (0 - a.hi)))) rfl rfl (aN (aQ (aQ (aL (aF 37 fa26_0 rfl rfl (aD 38 (.int .i64 a.lo) cell3 1 rfl rfl rfl rfl (aB 39 (.bool (decide (a.lo ≤ 0))) rfl rfl rfl (bi_leq rfl) (aM 40 (.bool (decide (a.lo ≤ 0))) rfl rfl ?_)))))))))))))))
  refine bool_split (decide (a.lo ≤ 0)) (fun h2 => ?_) (fun h2 => ?_)
  ·refine ar_gd (d := (some 41)) (by show ((decide (a.lo ≤ 0)) == true) = true; rw [h2]; rfl) rfl (st_fa rfl fa26_1 rfl (ar_gd (d := (some 42)) (by show ((decide (a.lo ≤ 0)) == true) = true; rw [h2]; rfl) rfl (st_ldc (v := .int .i64 a.hi) cell3 1 rfl rfl rfl rfl rfl (ar_gd (d := (some 43)) (by show ((decide (a.lo ≤ 0)) == true) = true; rw [h2]; rfl) rfl (st_bi (r := .bool (decide (a.hi ≥ 0))) rfl rfl rfl (bi_geq rfl) (ao 44 rfl rfl (st_pkt' (b := decide (a.lo ≤ 0)) (v := .bool (decide (a.hi ≥ 0))) h2 rfl rfl rfl (aN ?_))))))))
   refine ac_mergeE (fun E9 => (Env.put E9 (some 3) (.int .i64 0))) (fun E9 => (Env.put E9 (some 3) (.int .i64 (rSqr_e0 a)))) (b := decide (a.hi ≥ 0)) rfl (fun hm => ?_) (fun hm => ?_) (fun hm => ?_) ?_
   ·refine aL (aA 3 (.int .i64 0) rfl rfl (aN ?_))
    exact ⟨rfl, rfl, rfl⟩
   ·unfold rSqr_e0; rw [hm]; rfl
   ·unfold rSqr_e0; rw [hm]; exact (put_self rfl)
   refine aQ (aL (aM 46 (.int .i64 (rSqr_e0 a)) rfl rfl (aM 47 (.int .i64 (rSqr_e0 a)) rfl rfl (aC 48 (c_rMul (rSqr_e0 a) (rSqr_e0 a) false) Try.func115 ⟨rfl, by decide⟩ rfl rfl (aM 45 (.tuple #[.int .i64 ((rMul (rSqr_e0 a) (rSqr_e0 a) false).1), .bool ((rMul (rSqr_e0 a) (rSqr_e0 a) false).2)]) rfl rfl (aX 49 (.int .i64 ((rMul (rSqr_e0 a) (rSqr_e0 a) false).1)) rfl rfl rfl (aX 50 (.bool ((rMul (rSqr_e0 a) (rSqr_e0 a) false).2)) rfl rfl rfl (aA 5 (.int .i64 ((rMul (rSqr_e0 a) (rSqr_e0 a) false).1)) rfl rfl (aA 6 (.bool ((rMul (rSqr_e0 a) (rSqr_e0 a) false).2)) rfl rfl (aN (aQ (aL ?_))))))))))))
   refine aM 52 (.int .i64 (max (max (max a.lo (w64 (0 - a.lo))) a.hi) (w64 (0 - a.hi)))) rfl rfl (aM 53 (.int .i64 (max (max (max a.lo (w64 (0 - a.lo))) a.hi) (w64 (0 - a.hi)))) rfl rfl (aC 54 (c_rMul (max (max (max a.lo (w64 (0 - a.lo))) a.hi) (w64 (0 - a.hi))) (max (max (max a.lo (w64 (0 - a.lo))) a.hi) (w64 (0 - a.hi))) true) Try.func115 ⟨rfl, by decide⟩ rfl rfl (aM 51 (.tuple #[.int .i64 ((rSqr_e1 a).1), .bool ((rSqr_e1 a).2)]) rfl rfl (aX 55 (.int .i64 ((rSqr_e1 a).1)) rfl rfl rfl (aX 56 (.bool ((rSqr_e1 a).2)) rfl rfl rfl (aA 7 (.int .i64 ((rSqr_e1 a).1)) rfl rfl (aA 8 (.bool ((rSqr_e1 a).2)) rfl rfl (aN (aQ (aQ (aL (aM 57 (.bool ((rSqr_e1 a).2)) rfl rfl ?_))))))))))))
   refine ao 58 rfl rfl (st_un (v := .bool (!((rSqr_e1 a).2))) rfl rfl (un_not rfl) (aN ?_))
   refine bool_split ((rSqr_e1 a).2) (fun h3 => ?_) (fun h3 => ?_)
   ·refine ac_else' (b := !((rSqr_e1 a).2)) (by rw [h3]; rfl) rfl (ac_skip (aQ (aL (aM 60 (.int .i64 ((rMul (rSqr_e0 a) (rSqr_e0 a) false).1)) rfl rfl (aM 61 (.int .i64 ((rSqr_e1 a).1)) rfl rfl (aC 62 (c_rOf ((rMul (rSqr_e0 a) (rSqr_e0 a) false).1) ((rSqr_e1 a).1)) Try.func112 ⟨rfl, by decide⟩ rfl rfl (aS [.int .i64 ((rSqr_e2 a).lo), .int .i64 ((rSqr_e2 a).hi), .bool ((rSqr_e2 a).no)] agg26 0 rfl rfl rfl rfl rfl rfl (aN (ac_ret ?_)))))))))
    exact fin_eq (v := .agg #[.int .i64 ((rSqr_e2 a).lo), .int .i64 ((rSqr_e2 a).hi), .bool ((rSqr_e2 a).no)]) (by show _ = Iv.v (rSqr a); rw [rSqr, h3, h2, h1] <;> rfl) (fin_ret (res_c (vs := [.int .i64 ((rSqr_e2 a).lo), .int .i64 ((rSqr_e2 a).hi), .bool ((rSqr_e2 a).no)]) agg26 0 rfl rfl rfl rfl rfl rfl))
   ·refine ac_then' (b := !((rSqr_e1 a).2)) (by rw [h3]; rfl) rfl (aQ (aL (aC 59 c_rNone Try.func111 ⟨rfl, by decide⟩ rfl rfl (aS [.int .i64 rNone.lo, .int .i64 rNone.hi, .bool rNone.no] agg26 0 rfl rfl rfl rfl rfl rfl (aN (ac_ret (fin_eq (v := .agg #[.int .i64 rNone.lo, .int .i64 rNone.hi, .bool rNone.no]) (by show _ = Iv.v (rSqr a); rw [rSqr, h3, h2, h1] <;> rfl) (fin_ret (res_c (vs := [.int .i64 rNone.lo, .int .i64 rNone.hi, .bool rNone.no]) agg26 0 rfl rfl rfl rfl rfl rfl)))))))))
  ·refine aK 41 (by show ((decide (a.lo ≤ 0)) == true) = false; rw [h2]; rfl) rfl (aK 42 (by show ((decide (a.lo ≤ 0)) == true) = false; rw [h2]; rfl) rfl (aK 43 (by show ((decide (a.lo ≤ 0)) == true) = false; rw [h2]; rfl) rfl (ao 44 rfl rfl (st_pkf' (b := decide (a.lo ≤ 0)) (v := .bool false) h2 rfl rfl rfl (aN (ac_else rfl (ac_skip (aQ (aL (aM 46 (.int .i64 (min (max a.lo (w64 (0 - a.lo))) (max a.hi (w64 (0 - a.hi))))) rfl rfl (aM 47 (.int .i64 (min (max a.lo (w64 (0 - a.lo))) (max a.hi (w64 (0 - a.hi))))) rfl rfl ?_)))))))))))
   refine aC 48 (c_rMul (min (max a.lo (w64 (0 - a.lo))) (max a.hi (w64 (0 - a.hi)))) (min (max a.lo (w64 (0 - a.lo))) (max a.hi (w64 (0 - a.hi)))) false) Try.func115 ⟨rfl, by decide⟩ rfl rfl (aM 45 (.tuple #[.int .i64 ((rSqr_e3 a).1), .bool ((rSqr_e3 a).2)]) rfl rfl (aX 49 (.int .i64 ((rSqr_e3 a).1)) rfl rfl rfl (aX 50 (.bool ((rSqr_e3 a).2)) rfl rfl rfl (aA 5 (.int .i64 ((rSqr_e3 a).1)) rfl rfl (aA 6 (.bool ((rSqr_e3 a).2)) rfl rfl (aN (aQ (aL (aM 52 (.int .i64 (max (max (max a.lo (w64 (0 - a.lo))) a.hi) (w64 (0 - a.hi)))) rfl rfl (aM 53 (.int .i64 (max (max (max a.lo (w64 (0 - a.lo))) a.hi) (w64 (0 - a.hi)))) rfl rfl ?_))))))))))
   refine aC 54 (c_rMul (max (max (max a.lo (w64 (0 - a.lo))) a.hi) (w64 (0 - a.hi))) (max (max (max a.lo (w64 (0 - a.lo))) a.hi) (w64 (0 - a.hi))) true) Try.func115 ⟨rfl, by decide⟩ rfl rfl (aM 51 (.tuple #[.int .i64 ((rSqr_e1 a).1), .bool ((rSqr_e1 a).2)]) rfl rfl (aX 55 (.int .i64 ((rSqr_e1 a).1)) rfl rfl rfl (aX 56 (.bool ((rSqr_e1 a).2)) rfl rfl rfl (aA 7 (.int .i64 ((rSqr_e1 a).1)) rfl rfl (aA 8 (.bool ((rSqr_e1 a).2)) rfl rfl (aN (aQ (aQ (aL (aM 57 (.bool ((rSqr_e1 a).2)) rfl rfl (ao 58 rfl rfl (st_un (v := .bool (!((rSqr_e1 a).2))) rfl rfl (un_not rfl) (aN ?_)))))))))))))
   refine bool_split ((rSqr_e1 a).2) (fun h3 => ?_) (fun h3 => ?_)
   ·refine ac_else' (b := !((rSqr_e1 a).2)) (by rw [h3]; rfl) rfl (ac_skip (aQ (aL (aM 60 (.int .i64 ((rSqr_e3 a).1)) rfl rfl (aM 61 (.int .i64 ((rSqr_e1 a).1)) rfl rfl (aC 62 (c_rOf ((rSqr_e3 a).1) ((rSqr_e1 a).1)) Try.func112 ⟨rfl, by decide⟩ rfl rfl (aS [.int .i64 ((rOf ((rSqr_e3 a).1) ((rSqr_e1 a).1)).lo), .int .i64 ((rOf ((rSqr_e3 a).1) ((rSqr_e1 a).1)).hi), .bool ((rOf ((rSqr_e3 a).1) ((rSqr_e1 a).1)).no)] agg26 0 rfl rfl rfl rfl rfl rfl (aN (ac_ret ?_)))))))))
    exact fin_eq (v := .agg #[.int .i64 ((rOf ((rSqr_e3 a).1) ((rSqr_e1 a).1)).lo), .int .i64 ((rOf ((rSqr_e3 a).1) ((rSqr_e1 a).1)).hi), .bool ((rOf ((rSqr_e3 a).1) ((rSqr_e1 a).1)).no)]) (by show _ = Iv.v (rSqr a); rw [rSqr, h3, h2, h1] <;> rfl) (fin_ret (res_c (vs := [.int .i64 ((rOf ((rSqr_e3 a).1) ((rSqr_e1 a).1)).lo), .int .i64 ((rOf ((rSqr_e3 a).1) ((rSqr_e1 a).1)).hi), .bool ((rOf ((rSqr_e3 a).1) ((rSqr_e1 a).1)).no)]) agg26 0 rfl rfl rfl rfl rfl rfl))
   ·refine ac_then' (b := !((rSqr_e1 a).2)) (by rw [h3]; rfl) rfl (aQ (aL (aC 59 c_rNone Try.func111 ⟨rfl, by decide⟩ rfl rfl (aS [.int .i64 rNone.lo, .int .i64 rNone.hi, .bool rNone.no] agg26 0 rfl rfl rfl rfl rfl rfl (aN (ac_ret (fin_eq (v := .agg #[.int .i64 rNone.lo, .int .i64 rNone.hi, .bool rNone.no]) (by show _ = Iv.v (rSqr a); rw [rSqr, h3, h2, h1] <;> rfl) (fin_ret (res_c (vs := [.int .i64 rNone.lo, .int .i64 rNone.hi, .bool rNone.no]) agg26 0 rfl rfl rfl rfl rfl rfl)))))))))
 ·refine ac_then' (b := !(rRight a)) (by rw [h1]; rfl) rfl (aQ (aL (aC 12 c_rNone Try.func111 ⟨rfl, by decide⟩ rfl rfl (aS [.int .i64 rNone.lo, .int .i64 rNone.hi, .bool rNone.no] agg26 0 rfl rfl rfl rfl rfl rfl (aN (ac_ret (fin_eq (v := .agg #[.int .i64 rNone.lo, .int .i64 rNone.hi, .bool rNone.no]) (by show _ = Iv.v (rSqr a); rw [rSqr, h1] <;> rfl) (fin_ret (res_c (vs := [.int .i64 rNone.lo, .int .i64 rNone.hi, .bool rNone.no]) agg26 0 rfl rfl rfl rfl rfl rfl)))))))))
def rRootIv (a : Iv) : Iv := (bif rRight a then (bif decide (a.lo < 0) then rNone else (rOf ((rRoot a.lo false).1) ((rRoot a.hi true).1))) else rNone)
set_option maxRecDepth 100000 in
theorem c_rRootIv (a : Iv) : Gets Try.prog 81 #[.agg #[.int .i64 a.lo, .int .i64 a.hi, .bool a.no]] (Iv.v (rRootIv a)) := by
 refine gets_fin Try.func81 rfl rfl rfl (aQ (aL (ao 1 rfl rfl (st_box (v := .agg #[.int .i64 a.lo, .int .i64 a.hi, .bool a.no]) (cs := [.int .i64 a.lo, .int .i64 a.hi, .bool a.no]) rfl rfl rfl fun g0 => (ao 2 rfl rfl (st_new zero26 rfl fun g1 => (aN (aQ (aQ (aL (aG 7 [.int .i64 a.lo, .int .i64 a.hi, .bool a.no] agg26 1 rfl rfl rfl rfl rfl (aC 8 (c_rRight a) Try.func40 ⟨rfl, by decide⟩ rfl rfl (ao 9 rfl rfl (st_un (v := .bool (!(rRight a))) rfl rfl (un_not rfl) (aM 10 (.bool (!(rRight a))) rfl rfl ?_)))))))))))))))
 refine bool_split (rRight a) (fun h1 => ?_) (fun h1 => ?_)
 ·refine ar_gd (d := (some 11)) (by show ((!(rRight a)) == false) = true; rw [h1]; rfl) rfl (st_fa rfl fa26_0 rfl (ar_gd (d := (some 12)) (by show ((!(rRight a)) == false) = true; rw [h1]; rfl) rfl (st_ldc (v := .int .i64 a.lo) cell3 1 rfl rfl rfl rfl rfl (ar_gd (d := (some 13)) (by show ((!(rRight a)) == false) = true; rw [h1]; rfl) rfl (st_bi (r := .bool (decide (a.lo < 0))) rfl rfl rfl (bi_lss rfl) (ao 14 rfl rfl (st_pkf' (b := !(rRight a)) (v := .bool (decide (a.lo < 0))) (by rw [h1]; rfl) rfl rfl rfl (aN ?_))))))))
  refine bool_split (decide (a.lo < 0)) (fun h2 => ?_) (fun h2 => ?_)
  ·refine ac_then' (b := decide (a.lo < 0)) h2 rfl (aQ (aL (aC 15 c_rNone Try.func111 ⟨rfl, by decide⟩ rfl rfl (aS [.int .i64 rNone.lo, .int .i64 rNone.hi, .bool rNone.no] agg26 0 rfl rfl rfl rfl rfl rfl (aN (ac_ret (fin_eq (v := .agg #[.int .i64 rNone.lo, .int .i64 rNone.hi, .bool rNone.no]) (by show _ = Iv.v (rRootIv a); rw [rRootIv, h2, h1] <;> rfl) (fin_ret (res_c (vs := [.int .i64 rNone.lo, .int .i64 rNone.hi, .bool rNone.no]) agg26 0 rfl rfl rfl rfl rfl rfl)))))))))
  ·refine ac_else' (b := decide (a.lo < 0)) h2 rfl (ac_skip (aQ (aL (aF 17 fa26_0 rfl rfl (aD 18 (.int .i64 a.lo) cell3 1 rfl rfl rfl rfl (aC 19 (c_rRoot a.lo false) Try.func113 ⟨rfl, by decide⟩ rfl rfl (aM 16 (.tuple #[.int .i64 ((rRoot a.lo false).1), .bool ((rRoot a.lo false).2)]) rfl rfl (aX 20 (.int .i64 ((rRoot a.lo false).1)) rfl rfl rfl (aX 21 (.bool ((rRoot a.lo false).2)) rfl rfl rfl (aA 3 (.int .i64 ((rRoot a.lo false).1)) rfl rfl (aA 4 (.bool ((rRoot a.lo false).2)) rfl rfl (aN (aQ (aL (aF 23 fa26_1 rfl rfl (aD 24 (.int .i64 a.hi) cell3 1 rfl rfl rfl rfl (aC 25 (c_rRoot a.hi true) Try.func113 ⟨rfl, by decide⟩ rfl rfl ?_)))))))))))))))))
   refine aM 22 (.tuple #[.int .i64 ((rRoot a.hi true).1), .bool ((rRoot a.hi true).2)]) rfl rfl (aX 26 (.int .i64 ((rRoot a.hi true).1)) rfl rfl rfl (aX 27 (.bool ((rRoot a.hi true).2)) rfl rfl rfl (aA 5 (.int .i64 ((rRoot a.hi true).1)) rfl rfl (aA 6 (.bool ((rRoot a.hi true).2)) rfl rfl (aN (aQ (aL (aM 28 (.int .i64 ((rRoot a.lo false).1)) rfl rfl (aM 29 (.int .i64 ((rRoot a.hi true).1)) rfl rfl (aC 30 (c_rOf ((rRoot a.lo false).1) ((rRoot a.hi true).1)) Try.func112 ⟨rfl, by decide⟩ rfl rfl ?_))))))))))
   refine aS [.int .i64 ((rOf ((rRoot a.lo false).1) ((rRoot a.hi true).1)).lo), .int .i64 ((rOf ((rRoot a.lo false).1) ((rRoot a.hi true).1)).hi), .bool ((rOf ((rRoot a.lo false).1) ((rRoot a.hi true).1)).no)] agg26 0 rfl rfl rfl rfl rfl rfl (aN (ac_ret ?_))
   exact fin_eq (v := .agg #[.int .i64 ((rOf ((rRoot a.lo false).1) ((rRoot a.hi true).1)).lo), .int .i64 ((rOf ((rRoot a.lo false).1) ((rRoot a.hi true).1)).hi), .bool ((rOf ((rRoot a.lo false).1) ((rRoot a.hi true).1)).no)]) (by show _ = Iv.v (rRootIv a); rw [rRootIv, h2, h1] <;> rfl) (fin_ret (res_c (vs := [.int .i64 ((rOf ((rRoot a.lo false).1) ((rRoot a.hi true).1)).lo), .int .i64 ((rOf ((rRoot a.lo false).1) ((rRoot a.hi true).1)).hi), .bool ((rOf ((rRoot a.lo false).1) ((rRoot a.hi true).1)).no)]) agg26 0 rfl rfl rfl rfl rfl rfl))
 ·refine aK 11 (by show ((!(rRight a)) == false) = false; rw [h1]; rfl) rfl (aK 12 (by show ((!(rRight a)) == false) = false; rw [h1]; rfl) rfl (aK 13 (by show ((!(rRight a)) == false) = false; rw [h1]; rfl) rfl (ao 14 rfl rfl (st_pkt' (b := !(rRight a)) (v := .bool true) (by rw [h1]; rfl) rfl rfl rfl (aN (ac_then rfl (aQ (aL (aC 15 c_rNone Try.func111 ⟨rfl, by decide⟩ rfl rfl (aS [.int .i64 rNone.lo, .int .i64 rNone.hi, .bool rNone.no] agg26 0 rfl rfl rfl rfl rfl rfl (aN (ac_ret ?_))))))))))))
  exact fin_eq (v := .agg #[.int .i64 rNone.lo, .int .i64 rNone.hi, .bool rNone.no]) (by show _ = Iv.v (rRootIv a); rw [rRootIv, h1] <;> rfl) (fin_ret (res_c (vs := [.int .i64 rNone.lo, .int .i64 rNone.hi, .bool rNone.no]) agg26 0 rfl rfl rfl rfl rfl rfl))
end Go.Proofs.Ythngkopcadlciaa
namespace Go.Proofs.Ythngkopcadlciaa
open Go.RowKit
attribute [local irreducible] AC AR DWalk
def hPick_e0 (n : Int) (m : Int) : Int := (bif decide ((Int.tmod n m) < 0) then (w64 ((Int.tmod n m) + m)) else (Int.tmod n m))
def hPick (n : Int) (m : Int) : Int := (hPick_e0 n m)
set_option maxRecDepth 100000 in
theorem c_hPick (n : Int) (m : Int) (hm : m ≠ 0) : Gets Try.prog 19 #[.int .i64 n, .int .i64 m] ((fun (r : Int) => (.int .i64 r : Value)) (hPick n m)) := by
 refine gets_fin Try.func19 rfl rfl rfl (aQ (aL (aA 4 (.int .i64 0) rfl rfl (aN (aQ (aL (aM 5 (.int .i64 n) rfl rfl (aM 6 (.int .i64 m) rfl rfl (aB 7 (.int .i64 (Int.tmod n m)) rfl rfl rfl (bi_rem hm rfl) (aA 0 (.int .i64 (Int.tmod n m)) rfl rfl (aN (aQ (aQ (aL (aM 8 (.int .i64 (Int.tmod n m)) rfl rfl (aB 9 (.bool (decide ((Int.tmod n m) < 0))) rfl rfl rfl (bi_lss rfl) (aN ?_)))))))))))))))))
 refine ac_mergeE (fun E9 => ((((Env.put E9 (some 10) (.int .i64 (Int.tmod n m))).put (some 11) (.int .i64 m)).put (some 12) (.int .i64 (w64 ((Int.tmod n m) + m)))).put (some 0) (.int .i64 (w64 ((Int.tmod n m) + m))))) (fun E9 => ((((Env.put E9 (some 10) (bif decide ((Int.tmod n m) < 0) then (.int .i64 (Int.tmod n m) : Value) else E9 10)).put (some 11) (bif decide ((Int.tmod n m) < 0) then (.int .i64 m : Value) else E9 11)).put (some 12) (bif decide ((Int.tmod n m) < 0) then (.int .i64 (w64 ((Int.tmod n m) + m)) : Value) else E9 12)).put (some 0) (.int .i64 (hPick_e0 n m)))) (b := decide ((Int.tmod n m) < 0)) rfl (fun hm => ?_) (fun hm => ?_) (fun hm => ?_) ?_
 ·refine aL (aM 10 (.int .i64 (Int.tmod n m)) rfl rfl (aM 11 (.int .i64 m) rfl rfl (aB 12 (.int .i64 (w64 ((Int.tmod n m) + m))) rfl rfl rfl (bi_add rfl) (aA 0 (.int .i64 (w64 ((Int.tmod n m) + m))) rfl rfl (aN ?_)))))
  exact ⟨rfl, rfl, rfl⟩
 ·unfold hPick_e0; rw [hm]; rfl
 ·unfold hPick_e0; rw [hm]; exact ((put_self rfl).trans ((put_self rfl).trans ((put_self rfl).trans (put_self rfl))))
 refine aQ (aL (aM 13 (.int .i64 (hPick_e0 n m)) rfl rfl (aA 4 (.int .i64 (hPick_e0 n m)) rfl rfl (aN (ac_ret (fin_eq (v := .int .i64 (hPick_e0 n m)) rfl (fin_ret (res_tmp rfl rfl))))))))
def hNum (n : Int) : Int := (bif (hPick n 9) == 0 then n else (bif (hPick n 9) == 1 then w64 ((w64 ((hPick (w64 (Int.tdiv n 9)) 201) - 100)) * 65536) else (bif (hPick n 9) == 2 then w64 ((hPick (w64 (Int.tdiv n 9)) 9) - 4) else (bif (hPick n 9) == 3 then w64 ((w64 ((hPick (w64 (Int.tdiv n 9)) 2147483657) - 1073741824)) - 4) else w64 ((hPick (w64 (Int.tdiv n 9)) 2621440) - 1310720)))))
def within (n : Int) (low : Int) (high : Int) : Int := max low (min high n)
set_option maxRecDepth 100000 in
theorem c_within (n : Int) (low : Int) (high : Int) : Gets Try.prog 64 #[.int .i64 n, .int .i64 low, .int .i64 high] ((fun (r : Int) => (.int .i64 r : Value)) (within n low high)) := by
 refine gets_fin Try.func64 rfl rfl rfl (aQ (aL (aA 6 (.int .i64 0) rfl rfl (aN (aQ (aL (aM 7 (.int .i64 low) rfl rfl (aM 8 (.int .i64 high) rfl rfl (aM 9 (.int .i64 n) rfl rfl (ao 10 rfl rfl (st_mn (x := high) (y := n) (c := (min high n)) rfl rfl rfl (ao 11 rfl rfl (st_mx (x := low) (y := (min high n)) (c := (max low (min high n))) rfl rfl rfl (aA 6 (.int .i64 (max low (min high n))) rfl rfl (aN (ac_ret (fin_eq (v := .int .i64 (max low (min high n))) rfl (fin_ret (res_tmp rfl rfl)))))))))))))))))))
def hWide (x : Int) (w : Int) : Iv := (⟨(within x (-1073741824) 1073741824), min 1073741824 (w64 ((within x (-1073741824) 1073741824) + w)), false⟩ : Iv)
set_option maxRecDepth 100000 in
theorem c_hWide (x : Int) (w : Int) : Gets Try.prog 20 #[.int .i64 x, .int .i64 w] (Iv.v (hWide x w)) := by
 refine gets_fin Try.func20 rfl rfl rfl (aQ (aL (ao 4 rfl rfl (st_new zero26 rfl fun g0 => (aN (aQ (aL (aM 5 (.int .i64 x) rfl rfl (aC 6 (c_within x (-1073741824) 1073741824) Try.func64 ⟨rfl, by decide⟩ rfl rfl (aA 0 (.int .i64 (within x (-1073741824) 1073741824)) rfl rfl (aN (aQ (aL (aM 7 (.int .i64 (within x (-1073741824) 1073741824)) rfl rfl (aM 8 (.int .i64 (within x (-1073741824) 1073741824)) rfl rfl (aM 9 (.int .i64 w) rfl rfl (aB 10 (.int .i64 (w64 ((within x (-1073741824) 1073741824) + w))) rfl rfl rfl (bi_add rfl) ?_)))))))))))))))))
 refine ao 11 rfl rfl (st_mn (x := 1073741824) (y := (w64 ((within x (-1073741824) 1073741824) + w))) (c := (min 1073741824 (w64 ((within x (-1073741824) 1073741824) + w)))) rfl rfl rfl (ao 12 rfl rfl (st_bd (us := [(0, .int .i64 (within x (-1073741824) 1073741824)), (1, .int .i64 (min 1073741824 (w64 ((within x (-1073741824) 1073741824) + w))))]) (v := .agg #[.int .i64 (within x (-1073741824) 1073741824), .int .i64 (min 1073741824 (w64 ((within x (-1073741824) 1073741824) + w))), .bool false]) rfl rfl (bd26_0_1 _ _) ?_)))
 refine aS [.int .i64 (within x (-1073741824) 1073741824), .int .i64 (min 1073741824 (w64 ((within x (-1073741824) 1073741824) + w))), .bool false] agg26 0 rfl rfl rfl rfl rfl rfl (aN (ac_ret (fin_eq (v := .agg #[.int .i64 (within x (-1073741824) 1073741824), .int .i64 (min 1073741824 (w64 ((within x (-1073741824) 1073741824) + w))), .bool false]) rfl (fin_ret (res_c (vs := [.int .i64 (within x (-1073741824) 1073741824), .int .i64 (min 1073741824 (w64 ((within x (-1073741824) 1073741824) + w))), .bool false]) agg26 0 rfl rfl rfl rfl rfl rfl)))))
def hIv (n : Int) (w : Int) : Iv := (bif (hPick w 12) == 0 then (⟨(hNum n), (hNum (w64 (Int.tdiv w 12))), false⟩ : Iv) else (bif (hPick w 12) == 1 then (⟨(hNum n), (hNum n), (hPick (w64 (Int.tdiv w 12)) 5) == 4⟩ : Iv) else (bif (hPick w 12) == 2 then (⟨(hNum n), (hNum n), false⟩ : Iv) else (bif (hPick w 12) == 3 then (⟨(hNum n), (hNum n), false⟩ : Iv) else (hWide (hNum n) (hPick (w64 (Int.tdiv w 12)) 9000))))))
end Go.Proofs.Ythngkopcadlciaa
namespace Go.Proofs.Ythngkopcadlciaa
theorem hPick_spec (n : Int) {m : Int} (hm : 0 < m) (hm' : m ≤ 9223372036854775807) : hPick n m = n % m := by
  have h1 := Int.tmod_lt_of_pos n hm
  have h2 := Int.lt_tmod_of_pos n hm
  have he := Int.mul_tdiv_add_tmod n m
  unfold hPick hPick_e0
  by_cases h : n.tmod m < 0
  · rw [decide_eq_true h, w64_of (by omega) (by omega)]
    simp only [cond_true]
    refine (((Int.ediv_emod_unique (q := n.tdiv m - 1) hm).2 ⟨?_, by omega, by omega⟩).2).symm
    rw [Int.mul_sub, Int.mul_one]; omega
  · rw [decide_eq_false h]
    simp only [cond_false]
    exact (((Int.ediv_emod_unique (q := n.tdiv m) hm).2 ⟨by omega, by omega, by omega⟩).2).symm
theorem hPick_lt (n : Int) {m : Int} (hm : 0 < m) (hm' : m ≤ 9223372036854775807) : 0 ≤ hPick n m ∧ hPick n m < m := by
  rw [hPick_spec n hm hm']
  exact ⟨Int.emod_nonneg n (by omega), Int.emod_lt_of_pos n hm⟩
theorem rRight_iff (a : Iv) : rRight a = true ↔ a.no = false ∧ -1073741824 ≤ a.lo ∧ a.lo ≤ a.hi ∧ a.hi ≤ 1073741824 := by
  obtain ⟨lo, hi, no⟩ := a
  unfold rRight
  simp only [rIn_eq]
  cases no <;> simp [numIn_iff, Bool.cond_eq_ite, Bool.and_eq_true] <;> omega
theorem turn_mod (k : Int) : Int.tmod (w64 (Int.tmod k 4 + 4)) 4 = k % 4 := by
  have h1 := Int.tmod_lt_of_pos k (b := 4) (by omega)
  have h2 := Int.lt_tmod_of_pos k (b := 4) (by omega)
  have he := Int.mul_tdiv_add_tmod k 4
  rw [w64_of (by omega) (by omega), Int.tmod_eq_emod_of_nonneg (by omega)]
  omega
end Go.Proofs.Ythngkopcadlciaa
