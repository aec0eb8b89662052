import Derived.Test.YthngkopcadlciaaFacts4
import Derived.Test.YthngkopcadlciaaTypes2
import Derived.Test.YthngkopcadlciaaNum
set_option linter.unusedVariables false
set_option linter.unusedSimpArgs false
namespace Go.Proofs.Ythngkopcadlciaa
open Go.RowKit

attribute [local irreducible] AC AR DWalk
def decRight (d : Dec) : Bool := (bif decide (d.c ≥ (-100000000000)) then (bif decide (d.c ≤ 100000000000) then (bif decide (d.scale ≥ 0) then (bif decide (d.scale ≤ 6) then (bif d.scale == 0 then true else (Int.tmod d.c 10) != 0) else false) else false) else false) else false)
set_option maxRecDepth 100000 in
theorem c_decRight (d : Dec) : Gets Try.prog 133 #[.agg #[.int .i64 d.c, .int .i64 d.scale]] ((fun (r : Bool) => (.bool r : Value)) (decRight d)) := by
  refine gets_fin Try.func133 rfl rfl rfl ?_
  refine ac_seq ?_
  refine ac_region_lit ?_
  refine ao 1 rfl rfl (st_box (v := .agg #[.int .i64 d.c, .int .i64 d.scale]) (cs := [.int .i64 d.c, .int .i64 d.scale]) rfl rfl rfl fun g0 => ?_)
  refine ao 2 rfl rfl (st_assign (v := .bool false) rfl rfl ?_)
  refine ar_nil ?_
  refine ac_seq ?_
  refine ac_region_lit ?_
  refine ao 3 rfl rfl (st_fa (g := g0) (off := 0) rfl fa83_0 rfl ?_)
  refine ao 4 rfl rfl (st_ldc (g := g0) (off := 0) (v := .int .i64 d.c) cell3 0 rfl rfl rfl rfl rfl ?_)
  refine ao 5 rfl rfl (st_bi (u := .int .i64 d.c) (v := .int .i64 (-100000000000)) (r := .bool (decide (d.c ≥ (-100000000000)))) rfl rfl rfl (bi_geq rfl) ?_)
  refine ao 6 rfl rfl (st_move (v := .bool (decide (d.c ≥ (-100000000000)))) rfl rfl ?_)
  refine bool_split (decide (d.c ≥ (-100000000000))) (fun h1 => ?_) (fun h1 => ?_)
  · refine ar_gd (d := (some 7)) (by show ((decide (d.c ≥ (-100000000000))) == true) = true; rw [h1]; rfl) rfl (st_fa (g := g0) (off := 0) rfl fa83_0 rfl ?_)
    refine ar_gd (d := (some 8)) (by show ((decide (d.c ≥ (-100000000000))) == true) = true; rw [h1]; rfl) rfl (st_ldc (g := g0) (off := 0) (v := .int .i64 d.c) cell3 0 rfl rfl rfl rfl rfl ?_)
    refine ar_gd (d := (some 9)) (by show ((decide (d.c ≥ (-100000000000))) == true) = true; rw [h1]; rfl) rfl (st_bi (u := .int .i64 d.c) (v := .int .i64 100000000000) (r := .bool (decide (d.c ≤ 100000000000))) rfl rfl rfl (bi_leq rfl) ?_)
    refine ao 10 rfl rfl (st_pkt' (b := decide (d.c ≥ (-100000000000))) (v := .bool (decide (d.c ≤ 100000000000))) h1 rfl rfl rfl ?_)
    refine ao 11 rfl rfl (st_move (v := .bool (decide (d.c ≤ 100000000000))) rfl rfl ?_)
    refine bool_split (decide (d.c ≤ 100000000000)) (fun h2 => ?_) (fun h2 => ?_)
    · refine ar_gd (d := (some 12)) (by show ((decide (d.c ≤ 100000000000)) == true) = true; rw [h2]; rfl) rfl (st_fa (g := g0) (off := 0) rfl fa83_1 rfl ?_)
      refine ar_gd (d := (some 13)) (by show ((decide (d.c ≤ 100000000000)) == true) = true; rw [h2]; rfl) rfl (st_ldc (g := g0) (off := 1) (v := .int .i64 d.scale) cell3 0 rfl rfl rfl rfl rfl ?_)
      refine ar_gd (d := (some 14)) (by show ((decide (d.c ≤ 100000000000)) == true) = true; rw [h2]; rfl) rfl (st_bi (u := .int .i64 d.scale) (v := .int .i64 0) (r := .bool (decide (d.scale ≥ 0))) rfl rfl rfl (bi_geq rfl) ?_)
      refine ao 15 rfl rfl (st_pkt' (b := decide (d.c ≤ 100000000000)) (v := .bool (decide (d.scale ≥ 0))) h2 rfl rfl rfl ?_)
      refine ao 16 rfl rfl (st_move (v := .bool (decide (d.scale ≥ 0))) rfl rfl ?_)
      refine bool_split (decide (d.scale ≥ 0)) (fun h3 => ?_) (fun h3 => ?_)
      · refine ar_gd (d := (some 17)) (by show ((decide (d.scale ≥ 0)) == true) = true; rw [h3]; rfl) rfl (st_fa (g := g0) (off := 0) rfl fa83_1 rfl ?_)
        refine ar_gd (d := (some 18)) (by show ((decide (d.scale ≥ 0)) == true) = true; rw [h3]; rfl) rfl (st_ldc (g := g0) (off := 1) (v := .int .i64 d.scale) cell3 0 rfl rfl rfl rfl rfl ?_)
        refine ar_gd (d := (some 19)) (by show ((decide (d.scale ≥ 0)) == true) = true; rw [h3]; rfl) rfl (st_bi (u := .int .i64 d.scale) (v := .int .i64 6) (r := .bool (decide (d.scale ≤ 6))) rfl rfl rfl (bi_leq rfl) ?_)
        refine ao 20 rfl rfl (st_pkt' (b := decide (d.scale ≥ 0)) (v := .bool (decide (d.scale ≤ 6))) h3 rfl rfl rfl ?_)
        refine ao 21 rfl rfl (st_move (v := .bool (decide (d.scale ≤ 6))) rfl rfl ?_)
        refine bool_split (decide (d.scale ≤ 6)) (fun h4 => ?_) (fun h4 => ?_)
        · refine ar_gd (d := (some 22)) (by show ((decide (d.scale ≤ 6)) == true) = true; rw [h4]; rfl) rfl (st_fa (g := g0) (off := 0) rfl fa83_1 rfl ?_)
          refine ar_gd (d := (some 23)) (by show ((decide (d.scale ≤ 6)) == true) = true; rw [h4]; rfl) rfl (st_ldc (g := g0) (off := 1) (v := .int .i64 d.scale) cell3 0 rfl rfl rfl rfl rfl ?_)
          refine ar_gd (d := (some 24)) (by show ((decide (d.scale ≤ 6)) == true) = true; rw [h4]; rfl) rfl (st_bi (u := .int .i64 d.scale) (v := .int .i64 0) (r := .bool (d.scale == 0)) rfl rfl rfl (bi_eql rfl) ?_)
          refine ar_gd (d := (some 25)) (by show ((decide (d.scale ≤ 6)) == true) = true; rw [h4]; rfl) rfl (st_move (v := .bool (d.scale == 0)) rfl rfl ?_)
          refine bool_split (d.scale == 0) (fun h5 => ?_) (fun h5 => ?_)
          · refine ar_sk (d := (some 26)) (by show ((d.scale == 0) == false) = false; rw [h5]; rfl) rfl ?_
            refine ar_sk (d := (some 27)) (by show ((d.scale == 0) == false) = false; rw [h5]; rfl) rfl ?_
            refine ar_sk (d := (some 28)) (by show ((d.scale == 0) == false) = false; rw [h5]; rfl) rfl ?_
            refine ar_sk (d := (some 29)) (by show ((d.scale == 0) == false) = false; rw [h5]; rfl) rfl ?_
            refine ar_gd (d := (some 30)) (by show ((decide (d.scale ≤ 6)) == true) = true; rw [h4]; rfl) rfl (st_pkt' (b := d.scale == 0) (v := .bool true) h5 rfl rfl rfl ?_)
            refine ao 31 rfl rfl (st_pkt' (b := decide (d.scale ≤ 6)) (v := .bool true) h4 rfl rfl rfl ?_)
            refine ao 2 rfl rfl (st_assign (v := .bool true) rfl rfl ?_)
            refine ar_nil ?_
            refine ac_ret ?_
            exact fin_eq (v := .bool true) (by show _ = (fun (r : Bool) => (.bool r : Value)) (decRight d); rw [decRight, h5, h4, h3, h2, h1] <;> rfl) (fin_ret (res_tmp rfl rfl))
          · refine ar_gd (d := (some 26)) (by show ((d.scale == 0) == false) = true; rw [h5]; rfl) rfl (st_fa (g := g0) (off := 0) rfl fa83_0 rfl ?_)
            refine ar_gd (d := (some 27)) (by show ((d.scale == 0) == false) = true; rw [h5]; rfl) rfl (st_ldc (g := g0) (off := 0) (v := .int .i64 d.c) cell3 0 rfl rfl rfl rfl rfl ?_)
            refine ar_gd (d := (some 28)) (by show ((d.scale == 0) == false) = true; rw [h5]; rfl) rfl (st_bi (u := .int .i64 d.c) (v := .int .i64 10) (r := .int .i64 (Int.tmod d.c 10)) rfl rfl rfl (bi_rem (by decide) rfl) ?_)
            refine ar_gd (d := (some 29)) (by show ((d.scale == 0) == false) = true; rw [h5]; rfl) rfl (st_bi (u := .int .i64 (Int.tmod d.c 10)) (v := .int .i64 0) (r := .bool ((Int.tmod d.c 10) != 0)) rfl rfl rfl (bi_neq rfl) ?_)
            refine ar_gd (d := (some 30)) (by show ((decide (d.scale ≤ 6)) == true) = true; rw [h4]; rfl) rfl (st_pkf' (b := d.scale == 0) (v := .bool ((Int.tmod d.c 10) != 0)) h5 rfl rfl rfl ?_)
            refine ao 31 rfl rfl (st_pkt' (b := decide (d.scale ≤ 6)) (v := .bool ((Int.tmod d.c 10) != 0)) h4 rfl rfl rfl ?_)
            refine ao 2 rfl rfl (st_assign (v := .bool ((Int.tmod d.c 10) != 0)) rfl rfl ?_)
            refine ar_nil ?_
            refine ac_ret ?_
            exact fin_eq (v := .bool ((Int.tmod d.c 10) != 0)) (by show _ = (fun (r : Bool) => (.bool r : Value)) (decRight d); rw [decRight, h5, h4, h3, h2, h1] <;> rfl) (fin_ret (res_tmp rfl rfl))
        · refine ar_sk (d := (some 22)) (by show ((decide (d.scale ≤ 6)) == true) = false; rw [h4]; rfl) rfl ?_
          refine ar_sk (d := (some 23)) (by show ((decide (d.scale ≤ 6)) == true) = false; rw [h4]; rfl) rfl ?_
          refine ar_sk (d := (some 24)) (by show ((decide (d.scale ≤ 6)) == true) = false; rw [h4]; rfl) rfl ?_
          refine ar_sk (d := (some 25)) (by show ((decide (d.scale ≤ 6)) == true) = false; rw [h4]; rfl) rfl ?_
          refine ar_sk (d := (some 26)) rfl rfl ?_
          refine ar_sk (d := (some 27)) rfl rfl ?_
          refine ar_sk (d := (some 28)) rfl rfl ?_
          refine ar_sk (d := (some 29)) rfl rfl ?_
          refine ar_sk (d := (some 30)) (by show ((decide (d.scale ≤ 6)) == true) = false; rw [h4]; rfl) rfl ?_
          refine ao 31 rfl rfl (st_pkf' (b := decide (d.scale ≤ 6)) (v := .bool false) h4 rfl rfl rfl ?_)
          refine ao 2 rfl rfl (st_assign (v := .bool false) rfl rfl ?_)
          refine ar_nil ?_
          refine ac_ret ?_
          exact fin_eq (v := .bool false) (by show _ = (fun (r : Bool) => (.bool r : Value)) (decRight d); rw [decRight, h4, h3, h2, h1] <;> rfl) (fin_ret (res_tmp rfl rfl))
      · refine ar_sk (d := (some 17)) (by show ((decide (d.scale ≥ 0)) == true) = false; rw [h3]; rfl) rfl ?_
        refine ar_sk (d := (some 18)) (by show ((decide (d.scale ≥ 0)) == true) = false; rw [h3]; rfl) rfl ?_
        refine ar_sk (d := (some 19)) (by show ((decide (d.scale ≥ 0)) == true) = false; rw [h3]; rfl) rfl ?_
        refine ao 20 rfl rfl (st_pkf' (b := decide (d.scale ≥ 0)) (v := .bool false) h3 rfl rfl rfl ?_)
        refine ao 21 rfl rfl (st_move (v := .bool false) rfl rfl ?_)
        refine ar_sk (d := (some 22)) rfl rfl ?_
        refine ar_sk (d := (some 23)) rfl rfl ?_
        refine ar_sk (d := (some 24)) rfl rfl ?_
        refine ar_sk (d := (some 25)) rfl rfl ?_
        refine ar_sk (d := (some 26)) rfl rfl ?_
        refine ar_sk (d := (some 27)) rfl rfl ?_
        refine ar_sk (d := (some 28)) rfl rfl ?_
        refine ar_sk (d := (some 29)) rfl rfl ?_
        refine ar_sk (d := (some 30)) rfl rfl ?_
        refine ao 31 rfl rfl (st_pkf (v := .bool false) rfl rfl rfl ?_)
        refine ao 2 rfl rfl (st_assign (v := .bool false) rfl rfl ?_)
        refine ar_nil ?_
        refine ac_ret ?_
        exact fin_eq (v := .bool false) (by show _ = (fun (r : Bool) => (.bool r : Value)) (decRight d); rw [decRight, h3, h2, h1] <;> rfl) (fin_ret (res_tmp rfl rfl))
    · refine ar_sk (d := (some 12)) (by show ((decide (d.c ≤ 100000000000)) == true) = false; rw [h2]; rfl) rfl ?_
      refine ar_sk (d := (some 13)) (by show ((decide (d.c ≤ 100000000000)) == true) = false; rw [h2]; rfl) rfl ?_
      refine ar_sk (d := (some 14)) (by show ((decide (d.c ≤ 100000000000)) == true) = false; rw [h2]; rfl) rfl ?_
      refine ao 15 rfl rfl (st_pkf' (b := decide (d.c ≤ 100000000000)) (v := .bool false) h2 rfl rfl rfl ?_)
      refine ao 16 rfl rfl (st_move (v := .bool false) rfl rfl ?_)
      refine ar_sk (d := (some 17)) rfl rfl ?_
      refine ar_sk (d := (some 18)) rfl rfl ?_
      refine ar_sk (d := (some 19)) rfl rfl ?_
      refine ao 20 rfl rfl (st_pkf (v := .bool false) rfl rfl rfl ?_)
      refine ao 21 rfl rfl (st_move (v := .bool false) rfl rfl ?_)
      refine ar_sk (d := (some 22)) rfl rfl ?_
      refine ar_sk (d := (some 23)) rfl rfl ?_
      refine ar_sk (d := (some 24)) rfl rfl ?_
      refine ar_sk (d := (some 25)) rfl rfl ?_
      refine ar_sk (d := (some 26)) rfl rfl ?_
      refine ar_sk (d := (some 27)) rfl rfl ?_
      refine ar_sk (d := (some 28)) rfl rfl ?_
      refine ar_sk (d := (some 29)) rfl rfl ?_
      refine ar_sk (d := (some 30)) rfl rfl ?_
      refine ao 31 rfl rfl (st_pkf (v := .bool false) rfl rfl rfl ?_)
      refine ao 2 rfl rfl (st_assign (v := .bool false) rfl rfl ?_)
      refine ar_nil ?_
      refine ac_ret ?_
      exact fin_eq (v := .bool false) (by show _ = (fun (r : Bool) => (.bool r : Value)) (decRight d); rw [decRight, h2, h1] <;> rfl) (fin_ret (res_tmp rfl rfl))
  · refine ar_sk (d := (some 7)) (by show ((decide (d.c ≥ (-100000000000))) == true) = false; rw [h1]; rfl) rfl ?_
    refine ar_sk (d := (some 8)) (by show ((decide (d.c ≥ (-100000000000))) == true) = false; rw [h1]; rfl) rfl ?_
    refine ar_sk (d := (some 9)) (by show ((decide (d.c ≥ (-100000000000))) == true) = false; rw [h1]; rfl) rfl ?_
    refine ao 10 rfl rfl (st_pkf' (b := decide (d.c ≥ (-100000000000))) (v := .bool false) h1 rfl rfl rfl ?_)
    refine ao 11 rfl rfl (st_move (v := .bool false) rfl rfl ?_)
    refine ar_sk (d := (some 12)) rfl rfl ?_
    refine ar_sk (d := (some 13)) rfl rfl ?_
    refine ar_sk (d := (some 14)) rfl rfl ?_
    refine ao 15 rfl rfl (st_pkf (v := .bool false) rfl rfl rfl ?_)
    refine ao 16 rfl rfl (st_move (v := .bool false) rfl rfl ?_)
    refine ar_sk (d := (some 17)) rfl rfl ?_
    refine ar_sk (d := (some 18)) rfl rfl ?_
    refine ar_sk (d := (some 19)) rfl rfl ?_
    refine ao 20 rfl rfl (st_pkf (v := .bool false) rfl rfl rfl ?_)
    refine ao 21 rfl rfl (st_move (v := .bool false) rfl rfl ?_)
    refine ar_sk (d := (some 22)) rfl rfl ?_
    refine ar_sk (d := (some 23)) rfl rfl ?_
    refine ar_sk (d := (some 24)) rfl rfl ?_
    refine ar_sk (d := (some 25)) rfl rfl ?_
    refine ar_sk (d := (some 26)) rfl rfl ?_
    refine ar_sk (d := (some 27)) rfl rfl ?_
    refine ar_sk (d := (some 28)) rfl rfl ?_
    refine ar_sk (d := (some 29)) rfl rfl ?_
    refine ar_sk (d := (some 30)) rfl rfl ?_
    refine ao 31 rfl rfl (st_pkf (v := .bool false) rfl rfl rfl ?_)
    refine ao 2 rfl rfl (st_assign (v := .bool false) rfl rfl ?_)
    refine ar_nil ?_
    refine ac_ret ?_
    exact fin_eq (v := .bool false) (by show _ = (fun (r : Bool) => (.bool r : Value)) (decRight d); rw [decRight, h1] <;> rfl) (fin_ret (res_tmp rfl rfl))
def decPow0  : Int := 1
set_option maxRecDepth 100000 in
theorem c_decPow0  : Gets Try.prog 134 #[.int .i64 0] ((fun (r : Int) => (.int .i64 r : Value)) decPow0) := by
  refine gets_fin Try.func134 rfl rfl rfl ?_
  refine ac_seq ?_
  refine ac_region_lit ?_
  refine ao 2 rfl rfl (st_assign (v := .int .i64 0) rfl rfl ?_)
  refine ar_nil ?_
  refine ac_seq ?_
  refine ac_region_lit ?_
  refine ao 3 rfl rfl (st_assign (v := .int .i64 1) rfl rfl ?_)
  refine ar_nil ?_
  refine ac_seq ?_
  refine ac_seq ?_
  refine ac_region_lit ?_
  refine ao 4 rfl rfl (st_move (v := .int .i64 0) rfl rfl ?_)
  refine ao 5 rfl rfl (st_move (v := .int .i64 0) rfl rfl ?_)
  refine ar_nil ?_
  refine ac_block ?_
  refine ac_rounds 61 ?_
  refine ar_round ?_
  refine ac_seq ?_
  refine ac_region_lit ?_
  refine ao 6 rfl rfl (st_bi (u := .int .i64 0) (v := .int .i64 0) (r := .bool false) rfl rfl rfl (bi_lss (by decide)) ?_)
  refine ar_nil ?_
  refine ac_seq ?_
  refine ac_else rfl ?_
  refine ac_exit ?_
  refine ac_seq ?_
  refine ac_region_lit ?_
  refine ao 10 rfl rfl (st_move (v := .int .i64 1) rfl rfl ?_)
  refine ao 2 rfl rfl (st_assign (v := .int .i64 1) rfl rfl ?_)
  refine ar_nil ?_
  refine ac_ret ?_
  exact fin_eq (v := .int .i64 1) rfl (fin_ret (res_tmp rfl rfl))
def decPow1  : Int := 10
set_option maxRecDepth 100000 in
theorem c_decPow1  : Gets Try.prog 134 #[.int .i64 1] ((fun (r : Int) => (.int .i64 r : Value)) decPow1) := by
  refine gets_fin Try.func134 rfl rfl rfl ?_
  refine ac_seq ?_
  refine ac_region_lit ?_
  refine ao 2 rfl rfl (st_assign (v := .int .i64 0) rfl rfl ?_)
  refine ar_nil ?_
  refine ac_seq ?_
  refine ac_region_lit ?_
  refine ao 3 rfl rfl (st_assign (v := .int .i64 1) rfl rfl ?_)
  refine ar_nil ?_
  refine ac_seq ?_
  refine ac_seq ?_
  refine ac_region_lit ?_
  refine ao 4 rfl rfl (st_move (v := .int .i64 1) rfl rfl ?_)
  refine ao 5 rfl rfl (st_move (v := .int .i64 0) rfl rfl ?_)
  refine ar_nil ?_
  refine ac_block ?_
  refine ac_rounds 61 ?_
  refine ar_round ?_
  refine ac_seq ?_
  refine ac_region_lit ?_
  refine ao 6 rfl rfl (st_bi (u := .int .i64 0) (v := .int .i64 1) (r := .bool true) rfl rfl rfl (bi_lss (by decide)) ?_)
  refine ar_nil ?_
  refine ac_seq ?_
  refine ac_then rfl ?_
  refine ac_skip ?_
  refine ac_seq ?_
  refine ac_block ?_
  refine ac_region_lit ?_
  refine ao 7 rfl rfl (st_move (v := .int .i64 1) rfl rfl ?_)
  refine ao 8 rfl rfl (st_bi (u := .int .i64 1) (v := .int .i64 10) (r := .int .i64 10) rfl rfl rfl (bi_mul (by decide)) ?_)
  refine ao 3 rfl rfl (st_assign (v := .int .i64 10) rfl rfl ?_)
  refine ar_nil ?_
  refine ac_region_lit ?_
  refine ao 9 rfl rfl (st_bi (u := .int .i64 0) (v := .int .i64 1) (r := .int .i64 1) rfl rfl rfl (bi_add (by decide)) ?_)
  refine ao 5 rfl rfl (st_move (v := .int .i64 1) rfl rfl ?_)
  refine ar_nil ?_
  refine ar_round ?_
  refine ac_seq ?_
  refine ac_region_lit ?_
  refine ao 6 rfl rfl (st_bi (u := .int .i64 1) (v := .int .i64 1) (r := .bool false) rfl rfl rfl (bi_lss (by decide)) ?_)
  refine ar_nil ?_
  refine ac_seq ?_
  refine ac_else rfl ?_
  refine ac_exit ?_
  refine ac_seq ?_
  refine ac_region_lit ?_
  refine ao 10 rfl rfl (st_move (v := .int .i64 10) rfl rfl ?_)
  refine ao 2 rfl rfl (st_assign (v := .int .i64 10) rfl rfl ?_)
  refine ar_nil ?_
  refine ac_ret ?_
  exact fin_eq (v := .int .i64 10) rfl (fin_ret (res_tmp rfl rfl))
def decPow2  : Int := 100
set_option maxRecDepth 100000 in
theorem c_decPow2  : Gets Try.prog 134 #[.int .i64 2] ((fun (r : Int) => (.int .i64 r : Value)) decPow2) := by
  refine gets_fin Try.func134 rfl rfl rfl ?_
  refine ac_seq ?_
  refine ac_region_lit ?_
  refine ao 2 rfl rfl (st_assign (v := .int .i64 0) rfl rfl ?_)
  refine ar_nil ?_
  refine ac_seq ?_
  refine ac_region_lit ?_
  refine ao 3 rfl rfl (st_assign (v := .int .i64 1) rfl rfl ?_)
  refine ar_nil ?_
  refine ac_seq ?_
  refine ac_seq ?_
  refine ac_region_lit ?_
  refine ao 4 rfl rfl (st_move (v := .int .i64 2) rfl rfl ?_)
  refine ao 5 rfl rfl (st_move (v := .int .i64 0) rfl rfl ?_)
  refine ar_nil ?_
  refine ac_block ?_
  refine ac_rounds 61 ?_
  refine ar_round ?_
  refine ac_seq ?_
  refine ac_region_lit ?_
  refine ao 6 rfl rfl (st_bi (u := .int .i64 0) (v := .int .i64 2) (r := .bool true) rfl rfl rfl (bi_lss (by decide)) ?_)
  refine ar_nil ?_
  refine ac_seq ?_
  refine ac_then rfl ?_
  refine ac_skip ?_
  refine ac_seq ?_
  refine ac_block ?_
  refine ac_region_lit ?_
  refine ao 7 rfl rfl (st_move (v := .int .i64 1) rfl rfl ?_)
  refine ao 8 rfl rfl (st_bi (u := .int .i64 1) (v := .int .i64 10) (r := .int .i64 10) rfl rfl rfl (bi_mul (by decide)) ?_)
  refine ao 3 rfl rfl (st_assign (v := .int .i64 10) rfl rfl ?_)
  refine ar_nil ?_
  refine ac_region_lit ?_
  refine ao 9 rfl rfl (st_bi (u := .int .i64 0) (v := .int .i64 1) (r := .int .i64 1) rfl rfl rfl (bi_add (by decide)) ?_)
  refine ao 5 rfl rfl (st_move (v := .int .i64 1) rfl rfl ?_)
  refine ar_nil ?_
  refine ar_round ?_
  refine ac_seq ?_
  refine ac_region_lit ?_
  refine ao 6 rfl rfl (st_bi (u := .int .i64 1) (v := .int .i64 2) (r := .bool true) rfl rfl rfl (bi_lss (by decide)) ?_)
  refine ar_nil ?_
  refine ac_seq ?_
  refine ac_then rfl ?_
  refine ac_skip ?_
  refine ac_seq ?_
  refine ac_block ?_
  refine ac_region_lit ?_
  refine ao 7 rfl rfl (st_move (v := .int .i64 10) rfl rfl ?_)
  refine ao 8 rfl rfl (st_bi (u := .int .i64 10) (v := .int .i64 10) (r := .int .i64 100) rfl rfl rfl (bi_mul (by decide)) ?_)
  refine ao 3 rfl rfl (st_assign (v := .int .i64 100) rfl rfl ?_)
  refine ar_nil ?_
  refine ac_region_lit ?_
  refine ao 9 rfl rfl (st_bi (u := .int .i64 1) (v := .int .i64 1) (r := .int .i64 2) rfl rfl rfl (bi_add (by decide)) ?_)
  refine ao 5 rfl rfl (st_move (v := .int .i64 2) rfl rfl ?_)
  refine ar_nil ?_
  refine ar_round ?_
  refine ac_seq ?_
  refine ac_region_lit ?_
  refine ao 6 rfl rfl (st_bi (u := .int .i64 2) (v := .int .i64 2) (r := .bool false) rfl rfl rfl (bi_lss (by decide)) ?_)
  refine ar_nil ?_
  refine ac_seq ?_
  refine ac_else rfl ?_
  refine ac_exit ?_
  refine ac_seq ?_
  refine ac_region_lit ?_
  refine ao 10 rfl rfl (st_move (v := .int .i64 100) rfl rfl ?_)
  refine ao 2 rfl rfl (st_assign (v := .int .i64 100) rfl rfl ?_)
  refine ar_nil ?_
  refine ac_ret ?_
  exact fin_eq (v := .int .i64 100) rfl (fin_ret (res_tmp rfl rfl))
def decPow3  : Int := 1000
set_option maxRecDepth 100000 in
theorem c_decPow3  : Gets Try.prog 134 #[.int .i64 3] ((fun (r : Int) => (.int .i64 r : Value)) decPow3) := by
  refine gets_fin Try.func134 rfl rfl rfl ?_
  refine ac_seq ?_
  refine ac_region_lit ?_
  refine ao 2 rfl rfl (st_assign (v := .int .i64 0) rfl rfl ?_)
  refine ar_nil ?_
  refine ac_seq ?_
  refine ac_region_lit ?_
  refine ao 3 rfl rfl (st_assign (v := .int .i64 1) rfl rfl ?_)
  refine ar_nil ?_
  refine ac_seq ?_
  refine ac_seq ?_
  refine ac_region_lit ?_
  refine ao 4 rfl rfl (st_move (v := .int .i64 3) rfl rfl ?_)
  refine ao 5 rfl rfl (st_move (v := .int .i64 0) rfl rfl ?_)
  refine ar_nil ?_
  refine ac_block ?_
  refine ac_rounds 61 ?_
  refine ar_round ?_
  refine ac_seq ?_
  refine ac_region_lit ?_
  refine ao 6 rfl rfl (st_bi (u := .int .i64 0) (v := .int .i64 3) (r := .bool true) rfl rfl rfl (bi_lss (by decide)) ?_)
  refine ar_nil ?_
  refine ac_seq ?_
  refine ac_then rfl ?_
  refine ac_skip ?_
  refine ac_seq ?_
  refine ac_block ?_
  refine ac_region_lit ?_
  refine ao 7 rfl rfl (st_move (v := .int .i64 1) rfl rfl ?_)
  refine ao 8 rfl rfl (st_bi (u := .int .i64 1) (v := .int .i64 10) (r := .int .i64 10) rfl rfl rfl (bi_mul (by decide)) ?_)
  refine ao 3 rfl rfl (st_assign (v := .int .i64 10) rfl rfl ?_)
  refine ar_nil ?_
  refine ac_region_lit ?_
  refine ao 9 rfl rfl (st_bi (u := .int .i64 0) (v := .int .i64 1) (r := .int .i64 1) rfl rfl rfl (bi_add (by decide)) ?_)
  refine ao 5 rfl rfl (st_move (v := .int .i64 1) rfl rfl ?_)
  refine ar_nil ?_
  refine ar_round ?_
  refine ac_seq ?_
  refine ac_region_lit ?_
  refine ao 6 rfl rfl (st_bi (u := .int .i64 1) (v := .int .i64 3) (r := .bool true) rfl rfl rfl (bi_lss (by decide)) ?_)
  refine ar_nil ?_
  refine ac_seq ?_
  refine ac_then rfl ?_
  refine ac_skip ?_
  refine ac_seq ?_
  refine ac_block ?_
  refine ac_region_lit ?_
  refine ao 7 rfl rfl (st_move (v := .int .i64 10) rfl rfl ?_)
  refine ao 8 rfl rfl (st_bi (u := .int .i64 10) (v := .int .i64 10) (r := .int .i64 100) rfl rfl rfl (bi_mul (by decide)) ?_)
  refine ao 3 rfl rfl (st_assign (v := .int .i64 100) rfl rfl ?_)
  refine ar_nil ?_
  refine ac_region_lit ?_
  refine ao 9 rfl rfl (st_bi (u := .int .i64 1) (v := .int .i64 1) (r := .int .i64 2) rfl rfl rfl (bi_add (by decide)) ?_)
  refine ao 5 rfl rfl (st_move (v := .int .i64 2) rfl rfl ?_)
  refine ar_nil ?_
  refine ar_round ?_
  refine ac_seq ?_
  refine ac_region_lit ?_
  refine ao 6 rfl rfl (st_bi (u := .int .i64 2) (v := .int .i64 3) (r := .bool true) rfl rfl rfl (bi_lss (by decide)) ?_)
  refine ar_nil ?_
  refine ac_seq ?_
  refine ac_then rfl ?_
  refine ac_skip ?_
  refine ac_seq ?_
  refine ac_block ?_
  refine ac_region_lit ?_
  refine ao 7 rfl rfl (st_move (v := .int .i64 100) rfl rfl ?_)
  refine ao 8 rfl rfl (st_bi (u := .int .i64 100) (v := .int .i64 10) (r := .int .i64 1000) rfl rfl rfl (bi_mul (by decide)) ?_)
  refine ao 3 rfl rfl (st_assign (v := .int .i64 1000) rfl rfl ?_)
  refine ar_nil ?_
  refine ac_region_lit ?_
  refine ao 9 rfl rfl (st_bi (u := .int .i64 2) (v := .int .i64 1) (r := .int .i64 3) rfl rfl rfl (bi_add (by decide)) ?_)
  refine ao 5 rfl rfl (st_move (v := .int .i64 3) rfl rfl ?_)
  refine ar_nil ?_
  refine ar_round ?_
  refine ac_seq ?_
  refine ac_region_lit ?_
  refine ao 6 rfl rfl (st_bi (u := .int .i64 3) (v := .int .i64 3) (r := .bool false) rfl rfl rfl (bi_lss (by decide)) ?_)
  refine ar_nil ?_
  refine ac_seq ?_
  refine ac_else rfl ?_
  refine ac_exit ?_
  refine ac_seq ?_
  refine ac_region_lit ?_
  refine ao 10 rfl rfl (st_move (v := .int .i64 1000) rfl rfl ?_)
  refine ao 2 rfl rfl (st_assign (v := .int .i64 1000) rfl rfl ?_)
  refine ar_nil ?_
  refine ac_ret ?_
  exact fin_eq (v := .int .i64 1000) rfl (fin_ret (res_tmp rfl rfl))
def decPow4  : Int := 10000
set_option maxRecDepth 100000 in
theorem c_decPow4  : Gets Try.prog 134 #[.int .i64 4] ((fun (r : Int) => (.int .i64 r : Value)) decPow4) := by
  refine gets_fin Try.func134 rfl rfl rfl ?_
  refine ac_seq ?_
  refine ac_region_lit ?_
  refine ao 2 rfl rfl (st_assign (v := .int .i64 0) rfl rfl ?_)
  refine ar_nil ?_
  refine ac_seq ?_
  refine ac_region_lit ?_
  refine ao 3 rfl rfl (st_assign (v := .int .i64 1) rfl rfl ?_)
  refine ar_nil ?_
  refine ac_seq ?_
  refine ac_seq ?_
  refine ac_region_lit ?_
  refine ao 4 rfl rfl (st_move (v := .int .i64 4) rfl rfl ?_)
  refine ao 5 rfl rfl (st_move (v := .int .i64 0) rfl rfl ?_)
  refine ar_nil ?_
  refine ac_block ?_
  refine ac_rounds 61 ?_
  refine ar_round ?_
  refine ac_seq ?_
  refine ac_region_lit ?_
  refine ao 6 rfl rfl (st_bi (u := .int .i64 0) (v := .int .i64 4) (r := .bool true) rfl rfl rfl (bi_lss (by decide)) ?_)
  refine ar_nil ?_
  refine ac_seq ?_
  refine ac_then rfl ?_
  refine ac_skip ?_
  refine ac_seq ?_
  refine ac_block ?_
  refine ac_region_lit ?_
  refine ao 7 rfl rfl (st_move (v := .int .i64 1) rfl rfl ?_)
  refine ao 8 rfl rfl (st_bi (u := .int .i64 1) (v := .int .i64 10) (r := .int .i64 10) rfl rfl rfl (bi_mul (by decide)) ?_)
  refine ao 3 rfl rfl (st_assign (v := .int .i64 10) rfl rfl ?_)
  refine ar_nil ?_
  refine ac_region_lit ?_
  refine ao 9 rfl rfl (st_bi (u := .int .i64 0) (v := .int .i64 1) (r := .int .i64 1) rfl rfl rfl (bi_add (by decide)) ?_)
  refine ao 5 rfl rfl (st_move (v := .int .i64 1) rfl rfl ?_)
  refine ar_nil ?_
  refine ar_round ?_
  refine ac_seq ?_
  refine ac_region_lit ?_
  refine ao 6 rfl rfl (st_bi (u := .int .i64 1) (v := .int .i64 4) (r := .bool true) rfl rfl rfl (bi_lss (by decide)) ?_)
  refine ar_nil ?_
  refine ac_seq ?_
  refine ac_then rfl ?_
  refine ac_skip ?_
  refine ac_seq ?_
  refine ac_block ?_
  refine ac_region_lit ?_
  refine ao 7 rfl rfl (st_move (v := .int .i64 10) rfl rfl ?_)
  refine ao 8 rfl rfl (st_bi (u := .int .i64 10) (v := .int .i64 10) (r := .int .i64 100) rfl rfl rfl (bi_mul (by decide)) ?_)
  refine ao 3 rfl rfl (st_assign (v := .int .i64 100) rfl rfl ?_)
  refine ar_nil ?_
  refine ac_region_lit ?_
  refine ao 9 rfl rfl (st_bi (u := .int .i64 1) (v := .int .i64 1) (r := .int .i64 2) rfl rfl rfl (bi_add (by decide)) ?_)
  refine ao 5 rfl rfl (st_move (v := .int .i64 2) rfl rfl ?_)
  refine ar_nil ?_
  refine ar_round ?_
  refine ac_seq ?_
  refine ac_region_lit ?_
  refine ao 6 rfl rfl (st_bi (u := .int .i64 2) (v := .int .i64 4) (r := .bool true) rfl rfl rfl (bi_lss (by decide)) ?_)
  refine ar_nil ?_
  refine ac_seq ?_
  refine ac_then rfl ?_
  refine ac_skip ?_
  refine ac_seq ?_
  refine ac_block ?_
  refine ac_region_lit ?_
  refine ao 7 rfl rfl (st_move (v := .int .i64 100) rfl rfl ?_)
  refine ao 8 rfl rfl (st_bi (u := .int .i64 100) (v := .int .i64 10) (r := .int .i64 1000) rfl rfl rfl (bi_mul (by decide)) ?_)
  refine ao 3 rfl rfl (st_assign (v := .int .i64 1000) rfl rfl ?_)
  refine ar_nil ?_
  refine ac_region_lit ?_
  refine ao 9 rfl rfl (st_bi (u := .int .i64 2) (v := .int .i64 1) (r := .int .i64 3) rfl rfl rfl (bi_add (by decide)) ?_)
  refine ao 5 rfl rfl (st_move (v := .int .i64 3) rfl rfl ?_)
  refine ar_nil ?_
  refine ar_round ?_
  refine ac_seq ?_
  refine ac_region_lit ?_
  refine ao 6 rfl rfl (st_bi (u := .int .i64 3) (v := .int .i64 4) (r := .bool true) rfl rfl rfl (bi_lss (by decide)) ?_)
  refine ar_nil ?_
  refine ac_seq ?_
  refine ac_then rfl ?_
  refine ac_skip ?_
  refine ac_seq ?_
  refine ac_block ?_
  refine ac_region_lit ?_
  refine ao 7 rfl rfl (st_move (v := .int .i64 1000) rfl rfl ?_)
  refine ao 8 rfl rfl (st_bi (u := .int .i64 1000) (v := .int .i64 10) (r := .int .i64 10000) rfl rfl rfl (bi_mul (by decide)) ?_)
  refine ao 3 rfl rfl (st_assign (v := .int .i64 10000) rfl rfl ?_)
  refine ar_nil ?_
  refine ac_region_lit ?_
  refine ao 9 rfl rfl (st_bi (u := .int .i64 3) (v := .int .i64 1) (r := .int .i64 4) rfl rfl rfl (bi_add (by decide)) ?_)
  refine ao 5 rfl rfl (st_move (v := .int .i64 4) rfl rfl ?_)
  refine ar_nil ?_
  refine ar_round ?_
  refine ac_seq ?_
  refine ac_region_lit ?_
  refine ao 6 rfl rfl (st_bi (u := .int .i64 4) (v := .int .i64 4) (r := .bool false) rfl rfl rfl (bi_lss (by decide)) ?_)
  refine ar_nil ?_
  refine ac_seq ?_
  refine ac_else rfl ?_
  refine ac_exit ?_
  refine ac_seq ?_
  refine ac_region_lit ?_
  refine ao 10 rfl rfl (st_move (v := .int .i64 10000) rfl rfl ?_)
  refine ao 2 rfl rfl (st_assign (v := .int .i64 10000) rfl rfl ?_)
  refine ar_nil ?_
  refine ac_ret ?_
  exact fin_eq (v := .int .i64 10000) rfl (fin_ret (res_tmp rfl rfl))
def decPow5  : Int := 100000
set_option maxRecDepth 100000 in
theorem c_decPow5  : Gets Try.prog 134 #[.int .i64 5] ((fun (r : Int) => (.int .i64 r : Value)) decPow5) := by
  refine gets_fin Try.func134 rfl rfl rfl ?_
  refine ac_seq ?_
  refine ac_region_lit ?_
  refine ao 2 rfl rfl (st_assign (v := .int .i64 0) rfl rfl ?_)
  refine ar_nil ?_
  refine ac_seq ?_
  refine ac_region_lit ?_
  refine ao 3 rfl rfl (st_assign (v := .int .i64 1) rfl rfl ?_)
  refine ar_nil ?_
  refine ac_seq ?_
  refine ac_seq ?_
  refine ac_region_lit ?_
  refine ao 4 rfl rfl (st_move (v := .int .i64 5) rfl rfl ?_)
  refine ao 5 rfl rfl (st_move (v := .int .i64 0) rfl rfl ?_)
  refine ar_nil ?_
  refine ac_block ?_
  refine ac_rounds 61 ?_
  refine ar_round ?_
  refine ac_seq ?_
  refine ac_region_lit ?_
  refine ao 6 rfl rfl (st_bi (u := .int .i64 0) (v := .int .i64 5) (r := .bool true) rfl rfl rfl (bi_lss (by decide)) ?_)
  refine ar_nil ?_
  refine ac_seq ?_
  refine ac_then rfl ?_
  refine ac_skip ?_
  refine ac_seq ?_
  refine ac_block ?_
  refine ac_region_lit ?_
  refine ao 7 rfl rfl (st_move (v := .int .i64 1) rfl rfl ?_)
  refine ao 8 rfl rfl (st_bi (u := .int .i64 1) (v := .int .i64 10) (r := .int .i64 10) rfl rfl rfl (bi_mul (by decide)) ?_)
  refine ao 3 rfl rfl (st_assign (v := .int .i64 10) rfl rfl ?_)
  refine ar_nil ?_
  refine ac_region_lit ?_
  refine ao 9 rfl rfl (st_bi (u := .int .i64 0) (v := .int .i64 1) (r := .int .i64 1) rfl rfl rfl (bi_add (by decide)) ?_)
  refine ao 5 rfl rfl (st_move (v := .int .i64 1) rfl rfl ?_)
  refine ar_nil ?_
  refine ar_round ?_
  refine ac_seq ?_
  refine ac_region_lit ?_
  refine ao 6 rfl rfl (st_bi (u := .int .i64 1) (v := .int .i64 5) (r := .bool true) rfl rfl rfl (bi_lss (by decide)) ?_)
  refine ar_nil ?_
  refine ac_seq ?_
  refine ac_then rfl ?_
  refine ac_skip ?_
  refine ac_seq ?_
  refine ac_block ?_
  refine ac_region_lit ?_
  refine ao 7 rfl rfl (st_move (v := .int .i64 10) rfl rfl ?_)
  refine ao 8 rfl rfl (st_bi (u := .int .i64 10) (v := .int .i64 10) (r := .int .i64 100) rfl rfl rfl (bi_mul (by decide)) ?_)
  refine ao 3 rfl rfl (st_assign (v := .int .i64 100) rfl rfl ?_)
  refine ar_nil ?_
  refine ac_region_lit ?_
  refine ao 9 rfl rfl (st_bi (u := .int .i64 1) (v := .int .i64 1) (r := .int .i64 2) rfl rfl rfl (bi_add (by decide)) ?_)
  refine ao 5 rfl rfl (st_move (v := .int .i64 2) rfl rfl ?_)
  refine ar_nil ?_
  refine ar_round ?_
  refine ac_seq ?_
  refine ac_region_lit ?_
  refine ao 6 rfl rfl (st_bi (u := .int .i64 2) (v := .int .i64 5) (r := .bool true) rfl rfl rfl (bi_lss (by decide)) ?_)
  refine ar_nil ?_
  refine ac_seq ?_
  refine ac_then rfl ?_
  refine ac_skip ?_
  refine ac_seq ?_
  refine ac_block ?_
  refine ac_region_lit ?_
  refine ao 7 rfl rfl (st_move (v := .int .i64 100) rfl rfl ?_)
  refine ao 8 rfl rfl (st_bi (u := .int .i64 100) (v := .int .i64 10) (r := .int .i64 1000) rfl rfl rfl (bi_mul (by decide)) ?_)
  refine ao 3 rfl rfl (st_assign (v := .int .i64 1000) rfl rfl ?_)
  refine ar_nil ?_
  refine ac_region_lit ?_
  refine ao 9 rfl rfl (st_bi (u := .int .i64 2) (v := .int .i64 1) (r := .int .i64 3) rfl rfl rfl (bi_add (by decide)) ?_)
  refine ao 5 rfl rfl (st_move (v := .int .i64 3) rfl rfl ?_)
  refine ar_nil ?_
  refine ar_round ?_
  refine ac_seq ?_
  refine ac_region_lit ?_
  refine ao 6 rfl rfl (st_bi (u := .int .i64 3) (v := .int .i64 5) (r := .bool true) rfl rfl rfl (bi_lss (by decide)) ?_)
  refine ar_nil ?_
  refine ac_seq ?_
  refine ac_then rfl ?_
  refine ac_skip ?_
  refine ac_seq ?_
  refine ac_block ?_
  refine ac_region_lit ?_
  refine ao 7 rfl rfl (st_move (v := .int .i64 1000) rfl rfl ?_)
  refine ao 8 rfl rfl (st_bi (u := .int .i64 1000) (v := .int .i64 10) (r := .int .i64 10000) rfl rfl rfl (bi_mul (by decide)) ?_)
  refine ao 3 rfl rfl (st_assign (v := .int .i64 10000) rfl rfl ?_)
  refine ar_nil ?_
  refine ac_region_lit ?_
  refine ao 9 rfl rfl (st_bi (u := .int .i64 3) (v := .int .i64 1) (r := .int .i64 4) rfl rfl rfl (bi_add (by decide)) ?_)
  refine ao 5 rfl rfl (st_move (v := .int .i64 4) rfl rfl ?_)
  refine ar_nil ?_
  refine ar_round ?_
  refine ac_seq ?_
  refine ac_region_lit ?_
  refine ao 6 rfl rfl (st_bi (u := .int .i64 4) (v := .int .i64 5) (r := .bool true) rfl rfl rfl (bi_lss (by decide)) ?_)
  refine ar_nil ?_
  refine ac_seq ?_
  refine ac_then rfl ?_
  refine ac_skip ?_
  refine ac_seq ?_
  refine ac_block ?_
  refine ac_region_lit ?_
  refine ao 7 rfl rfl (st_move (v := .int .i64 10000) rfl rfl ?_)
  refine ao 8 rfl rfl (st_bi (u := .int .i64 10000) (v := .int .i64 10) (r := .int .i64 100000) rfl rfl rfl (bi_mul (by decide)) ?_)
  refine ao 3 rfl rfl (st_assign (v := .int .i64 100000) rfl rfl ?_)
  refine ar_nil ?_
  refine ac_region_lit ?_
  refine ao 9 rfl rfl (st_bi (u := .int .i64 4) (v := .int .i64 1) (r := .int .i64 5) rfl rfl rfl (bi_add (by decide)) ?_)
  refine ao 5 rfl rfl (st_move (v := .int .i64 5) rfl rfl ?_)
  refine ar_nil ?_
  refine ar_round ?_
  refine ac_seq ?_
  refine ac_region_lit ?_
  refine ao 6 rfl rfl (st_bi (u := .int .i64 5) (v := .int .i64 5) (r := .bool false) rfl rfl rfl (bi_lss (by decide)) ?_)
  refine ar_nil ?_
  refine ac_seq ?_
  refine ac_else rfl ?_
  refine ac_exit ?_
  refine ac_seq ?_
  refine ac_region_lit ?_
  refine ao 10 rfl rfl (st_move (v := .int .i64 100000) rfl rfl ?_)
  refine ao 2 rfl rfl (st_assign (v := .int .i64 100000) rfl rfl ?_)
  refine ar_nil ?_
  refine ac_ret ?_
  exact fin_eq (v := .int .i64 100000) rfl (fin_ret (res_tmp rfl rfl))
def decPow6  : Int := 1000000
set_option maxRecDepth 100000 in
theorem c_decPow6  : Gets Try.prog 134 #[.int .i64 6] ((fun (r : Int) => (.int .i64 r : Value)) decPow6) := by
  refine gets_fin Try.func134 rfl rfl rfl ?_
  refine ac_seq ?_
  refine ac_region_lit ?_
  refine ao 2 rfl rfl (st_assign (v := .int .i64 0) rfl rfl ?_)
  refine ar_nil ?_
  refine ac_seq ?_
  refine ac_region_lit ?_
  refine ao 3 rfl rfl (st_assign (v := .int .i64 1) rfl rfl ?_)
  refine ar_nil ?_
  refine ac_seq ?_
  refine ac_seq ?_
  refine ac_region_lit ?_
  refine ao 4 rfl rfl (st_move (v := .int .i64 6) rfl rfl ?_)
  refine ao 5 rfl rfl (st_move (v := .int .i64 0) rfl rfl ?_)
  refine ar_nil ?_
  refine ac_block ?_
  refine ac_rounds 61 ?_
  refine ar_round ?_
  refine ac_seq ?_
  refine ac_region_lit ?_
  refine ao 6 rfl rfl (st_bi (u := .int .i64 0) (v := .int .i64 6) (r := .bool true) rfl rfl rfl (bi_lss (by decide)) ?_)
  refine ar_nil ?_
  refine ac_seq ?_
  refine ac_then rfl ?_
  refine ac_skip ?_
  refine ac_seq ?_
  refine ac_block ?_
  refine ac_region_lit ?_
  refine ao 7 rfl rfl (st_move (v := .int .i64 1) rfl rfl ?_)
  refine ao 8 rfl rfl (st_bi (u := .int .i64 1) (v := .int .i64 10) (r := .int .i64 10) rfl rfl rfl (bi_mul (by decide)) ?_)
  refine ao 3 rfl rfl (st_assign (v := .int .i64 10) rfl rfl ?_)
  refine ar_nil ?_
  refine ac_region_lit ?_
  refine ao 9 rfl rfl (st_bi (u := .int .i64 0) (v := .int .i64 1) (r := .int .i64 1) rfl rfl rfl (bi_add (by decide)) ?_)
  refine ao 5 rfl rfl (st_move (v := .int .i64 1) rfl rfl ?_)
  refine ar_nil ?_
  refine ar_round ?_
  refine ac_seq ?_
  refine ac_region_lit ?_
  refine ao 6 rfl rfl (st_bi (u := .int .i64 1) (v := .int .i64 6) (r := .bool true) rfl rfl rfl (bi_lss (by decide)) ?_)
  refine ar_nil ?_
  refine ac_seq ?_
  refine ac_then rfl ?_
  refine ac_skip ?_
  refine ac_seq ?_
  refine ac_block ?_
  refine ac_region_lit ?_
  refine ao 7 rfl rfl (st_move (v := .int .i64 10) rfl rfl ?_)
  refine ao 8 rfl rfl (st_bi (u := .int .i64 10) (v := .int .i64 10) (r := .int .i64 100) rfl rfl rfl (bi_mul (by decide)) ?_)
  refine ao 3 rfl rfl (st_assign (v := .int .i64 100) rfl rfl ?_)
  refine ar_nil ?_
  refine ac_region_lit ?_
  refine ao 9 rfl rfl (st_bi (u := .int .i64 1) (v := .int .i64 1) (r := .int .i64 2) rfl rfl rfl (bi_add (by decide)) ?_)
  refine ao 5 rfl rfl (st_move (v := .int .i64 2) rfl rfl ?_)
  refine ar_nil ?_
  refine ar_round ?_
  refine ac_seq ?_
  refine ac_region_lit ?_
  refine ao 6 rfl rfl (st_bi (u := .int .i64 2) (v := .int .i64 6) (r := .bool true) rfl rfl rfl (bi_lss (by decide)) ?_)
  refine ar_nil ?_
  refine ac_seq ?_
  refine ac_then rfl ?_
  refine ac_skip ?_
  refine ac_seq ?_
  refine ac_block ?_
  refine ac_region_lit ?_
  refine ao 7 rfl rfl (st_move (v := .int .i64 100) rfl rfl ?_)
  refine ao 8 rfl rfl (st_bi (u := .int .i64 100) (v := .int .i64 10) (r := .int .i64 1000) rfl rfl rfl (bi_mul (by decide)) ?_)
  refine ao 3 rfl rfl (st_assign (v := .int .i64 1000) rfl rfl ?_)
  refine ar_nil ?_
  refine ac_region_lit ?_
  refine ao 9 rfl rfl (st_bi (u := .int .i64 2) (v := .int .i64 1) (r := .int .i64 3) rfl rfl rfl (bi_add (by decide)) ?_)
  refine ao 5 rfl rfl (st_move (v := .int .i64 3) rfl rfl ?_)
  refine ar_nil ?_
  refine ar_round ?_
  refine ac_seq ?_
  refine ac_region_lit ?_
  refine ao 6 rfl rfl (st_bi (u := .int .i64 3) (v := .int .i64 6) (r := .bool true) rfl rfl rfl (bi_lss (by decide)) ?_)
  refine ar_nil ?_
  refine ac_seq ?_
  refine ac_then rfl ?_
  refine ac_skip ?_
  refine ac_seq ?_
  refine ac_block ?_
  refine ac_region_lit ?_
  refine ao 7 rfl rfl (st_move (v := .int .i64 1000) rfl rfl ?_)
  refine ao 8 rfl rfl (st_bi (u := .int .i64 1000) (v := .int .i64 10) (r := .int .i64 10000) rfl rfl rfl (bi_mul (by decide)) ?_)
  refine ao 3 rfl rfl (st_assign (v := .int .i64 10000) rfl rfl ?_)
  refine ar_nil ?_
  refine ac_region_lit ?_
  refine ao 9 rfl rfl (st_bi (u := .int .i64 3) (v := .int .i64 1) (r := .int .i64 4) rfl rfl rfl (bi_add (by decide)) ?_)
  refine ao 5 rfl rfl (st_move (v := .int .i64 4) rfl rfl ?_)
  refine ar_nil ?_
  refine ar_round ?_
  refine ac_seq ?_
  refine ac_region_lit ?_
  refine ao 6 rfl rfl (st_bi (u := .int .i64 4) (v := .int .i64 6) (r := .bool true) rfl rfl rfl (bi_lss (by decide)) ?_)
  refine ar_nil ?_
  refine ac_seq ?_
  refine ac_then rfl ?_
  refine ac_skip ?_
  refine ac_seq ?_
  refine ac_block ?_
  refine ac_region_lit ?_
  refine ao 7 rfl rfl (st_move (v := .int .i64 10000) rfl rfl ?_)
  refine ao 8 rfl rfl (st_bi (u := .int .i64 10000) (v := .int .i64 10) (r := .int .i64 100000) rfl rfl rfl (bi_mul (by decide)) ?_)
  refine ao 3 rfl rfl (st_assign (v := .int .i64 100000) rfl rfl ?_)
  refine ar_nil ?_
  refine ac_region_lit ?_
  refine ao 9 rfl rfl (st_bi (u := .int .i64 4) (v := .int .i64 1) (r := .int .i64 5) rfl rfl rfl (bi_add (by decide)) ?_)
  refine ao 5 rfl rfl (st_move (v := .int .i64 5) rfl rfl ?_)
  refine ar_nil ?_
  refine ar_round ?_
  refine ac_seq ?_
  refine ac_region_lit ?_
  refine ao 6 rfl rfl (st_bi (u := .int .i64 5) (v := .int .i64 6) (r := .bool true) rfl rfl rfl (bi_lss (by decide)) ?_)
  refine ar_nil ?_
  refine ac_seq ?_
  refine ac_then rfl ?_
  refine ac_skip ?_
  refine ac_seq ?_
  refine ac_block ?_
  refine ac_region_lit ?_
  refine ao 7 rfl rfl (st_move (v := .int .i64 100000) rfl rfl ?_)
  refine ao 8 rfl rfl (st_bi (u := .int .i64 100000) (v := .int .i64 10) (r := .int .i64 1000000) rfl rfl rfl (bi_mul (by decide)) ?_)
  refine ao 3 rfl rfl (st_assign (v := .int .i64 1000000) rfl rfl ?_)
  refine ar_nil ?_
  refine ac_region_lit ?_
  refine ao 9 rfl rfl (st_bi (u := .int .i64 5) (v := .int .i64 1) (r := .int .i64 6) rfl rfl rfl (bi_add (by decide)) ?_)
  refine ao 5 rfl rfl (st_move (v := .int .i64 6) rfl rfl ?_)
  refine ar_nil ?_
  refine ar_round ?_
  refine ac_seq ?_
  refine ac_region_lit ?_
  refine ao 6 rfl rfl (st_bi (u := .int .i64 6) (v := .int .i64 6) (r := .bool false) rfl rfl rfl (bi_lss (by decide)) ?_)
  refine ar_nil ?_
  refine ac_seq ?_
  refine ac_else rfl ?_
  refine ac_exit ?_
  refine ac_seq ?_
  refine ac_region_lit ?_
  refine ao 10 rfl rfl (st_move (v := .int .i64 1000000) rfl rfl ?_)
  refine ao 2 rfl rfl (st_assign (v := .int .i64 1000000) rfl rfl ?_)
  refine ar_nil ?_
  refine ac_ret ?_
  exact fin_eq (v := .int .i64 1000000) rfl (fin_ret (res_tmp rfl rfl))
end Go.Proofs.Ythngkopcadlciaa
