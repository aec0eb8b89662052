import Derived.Test.YthngkopcadlciaaMSceneFirst6
import Derived.Test.YthngkopcadlciaaMSceneFirst1
import Derived.Test.YthngkopcadlciaaMSceneFirst4
import Derived.Test.YthngkopcadlciaaMSceneFirst0
set_option linter.unusedVariables false
set_option linter.unusedSimpArgs false
namespace Go.Proofs.Ythngkopcadlciaa
open Go.RowKit
attribute [local irreducible] AC AR DWalk
def decRight (d : Dec) : Bool := (bif decide (d.c ≥ (-100000000000)) then (bif decide (d.c ≤ 100000000000) then (bif decide (d.scale ≥ 0) then (bif decide (d.scale ≤ 6) then (bif d.scale == 0 then true else (Int.tmod d.c 10) != 0) else false) else false) else false) else false)
set_option maxRecDepth 100000 in
theorem c_decRight (d : Dec) : Gets Try.prog 133 #[.agg #[.int .i64 d.c, .int .i64 d.scale]] ((fun (r : Bool) => (.bool r : Value)) (decRight d)) := by
  refine gets_fin Try.func133 rfl rfl rfl ?_
  refine ac_seq ?_
  refine ac_region_lit ?_
  refine ao 1 rfl rfl (st_box (v := .agg #[.int .i64 d.c, .int .i64 d.scale]) (cs := [.int .i64 d.c, .int .i64 d.scale]) rfl rfl rfl fun g0 => ?_)
  refine ao 2 rfl rfl (st_assign (v := .bool false) rfl rfl ?_)
  refine ar_nil ?_
  refine ac_seq ?_
  refine ac_region_lit ?_
  refine ao 3 rfl rfl (st_fa (g := g0) (off := 0) rfl fa83_0 rfl ?_)
  refine ao 4 rfl rfl (st_ldc (g := g0) (off := 0) (v := .int .i64 d.c) cell3 0 rfl rfl rfl rfl rfl ?_)
  refine ao 5 rfl rfl (st_bi (u := .int .i64 d.c) (v := .int .i64 (-100000000000)) (r := .bool (decide (d.c ≥ (-100000000000)))) rfl rfl rfl (bi_geq rfl) ?_)
  refine ao 6 rfl rfl (st_move (v := .bool (decide (d.c ≥ (-100000000000)))) rfl rfl ?_)
  refine bool_split (decide (d.c ≥ (-100000000000))) (fun h1 => ?_) (fun h1 => ?_)
  · refine ar_gd (d := (some 7)) (by show ((decide (d.c ≥ (-100000000000))) == true) = true; rw [h1]; rfl) rfl (st_fa (g := g0) (off := 0) rfl fa83_0 rfl ?_)
    refine ar_gd (d := (some 8)) (by show ((decide (d.c ≥ (-100000000000))) == true) = true; rw [h1]; rfl) rfl (st_ldc (g := g0) (off := 0) (v := .int .i64 d.c) cell3 0 rfl rfl rfl rfl rfl ?_)
    refine ar_gd (d := (some 9)) (by show ((decide (d.c ≥ (-100000000000))) == true) = true; rw [h1]; rfl) rfl (st_bi (u := .int .i64 d.c) (v := .int .i64 100000000000) (r := .bool (decide (d.c ≤ 100000000000))) rfl rfl rfl (bi_leq rfl) ?_)
    refine ao 10 rfl rfl (st_pkt' (b := decide (d.c ≥ (-100000000000))) (v := .bool (decide (d.c ≤ 100000000000))) h1 rfl rfl rfl ?_)
    refine ao 11 rfl rfl (st_move (v := .bool (decide (d.c ≤ 100000000000))) rfl rfl ?_)
    refine bool_split (decide (d.c ≤ 100000000000)) (fun h2 => ?_) (fun h2 => ?_)
    · refine ar_gd (d := (some 12)) (by show ((decide (d.c ≤ 100000000000)) == true) = true; rw [h2]; rfl) rfl (st_fa (g := g0) (off := 0) rfl fa83_1 rfl ?_)
      refine ar_gd (d := (some 13)) (by show ((decide (d.c ≤ 100000000000)) == true) = true; rw [h2]; rfl) rfl (st_ldc (g := g0) (off := 1) (v := .int .i64 d.scale) cell3 0 rfl rfl rfl rfl rfl ?_)
      refine ar_gd (d := (some 14)) (by show ((decide (d.c ≤ 100000000000)) == true) = true; rw [h2]; rfl) rfl (st_bi (u := .int .i64 d.scale) (v := .int .i64 0) (r := .bool (decide (d.scale ≥ 0))) rfl rfl rfl (bi_geq rfl) ?_)
      refine ao 15 rfl rfl (st_pkt' (b := decide (d.c ≤ 100000000000)) (v := .bool (decide (d.scale ≥ 0))) h2 rfl rfl rfl ?_)
      refine ao 16 rfl rfl (st_move (v := .bool (decide (d.scale ≥ 0))) rfl rfl ?_)
      refine bool_split (decide (d.scale ≥ 0)) (fun h3 => ?_) (fun h3 => ?_)
      · refine ar_gd (d := (some 17)) (by show ((decide (d.scale ≥ 0)) == true) = true; rw [h3]; rfl) rfl (st_fa (g := g0) (off := 0) rfl fa83_1 rfl ?_)
        refine ar_gd (d := (some 18)) (by show ((decide (d.scale ≥ 0)) == true) = true; rw [h3]; rfl) rfl (st_ldc (g := g0) (off := 1) (v := .int .i64 d.scale) cell3 0 rfl rfl rfl rfl rfl ?_)
        refine ar_gd (d := (some 19)) (by show ((decide (d.scale ≥ 0)) == true) = true; rw [h3]; rfl) rfl (st_bi (u := .int .i64 d.scale) (v := .int .i64 6) (r := .bool (decide (d.scale ≤ 6))) rfl rfl rfl (bi_leq rfl) ?_)
        refine ao 20 rfl rfl (st_pkt' (b := decide (d.scale ≥ 0)) (v := .bool (decide (d.scale ≤ 6))) h3 rfl rfl rfl ?_)
        refine ao 21 rfl rfl (st_move (v := .bool (decide (d.scale ≤ 6))) rfl rfl ?_)
        refine bool_split (decide (d.scale ≤ 6)) (fun h4 => ?_) (fun h4 => ?_)
        · refine ar_gd (d := (some 22)) (by show ((decide (d.scale ≤ 6)) == true) = true; rw [h4]; rfl) rfl (st_fa (g := g0) (off := 0) rfl fa83_1 rfl ?_)
          refine ar_gd (d := (some 23)) (by show ((decide (d.scale ≤ 6)) == true) = true; rw [h4]; rfl) rfl (st_ldc (g := g0) (off := 1) (v := .int .i64 d.scale) cell3 0 rfl rfl rfl rfl rfl ?_)
          refine ar_gd (d := (some 24)) (by show ((decide (d.scale ≤ 6)) == true) = true; rw [h4]; rfl) rfl (st_bi (u := .int .i64 d.scale) (v := .int .i64 0) (r := .bool (d.scale == 0)) rfl rfl rfl (bi_eql rfl) ?_)
          refine ar_gd (d := (some 25)) (by show ((decide (d.scale ≤ 6)) == true) = true; rw [h4]; rfl) rfl (st_move (v := .bool (d.scale == 0)) rfl rfl ?_)
          refine bool_split (d.scale == 0) (fun h5 => ?_) (fun h5 => ?_)
          · refine ar_sk (d := (some 26)) (by show ((d.scale == 0) == false) = false; rw [h5]; rfl) rfl ?_
            refine ar_sk (d := (some 27)) (by show ((d.scale == 0) == false) = false; rw [h5]; rfl) rfl ?_
            refine ar_sk (d := (some 28)) (by show ((d.scale == 0) == false) = false; rw [h5]; rfl) rfl ?_
            refine ar_sk (d := (some 29)) (by show ((d.scale == 0) == false) = false; rw [h5]; rfl) rfl ?_
            refine ar_gd (d := (some 30)) (by show ((decide (d.scale ≤ 6)) == true) = true; rw [h4]; rfl) rfl (st_pkt' (b := d.scale == 0) (v := .bool true) h5 rfl rfl rfl ?_)
            refine ao 31 rfl rfl (st_pkt' (b := decide (d.scale ≤ 6)) (v := .bool true) h4 rfl rfl rfl ?_)
            refine ao 2 rfl rfl (st_assign (v := .bool true) rfl rfl ?_)
            refine ar_nil ?_
            refine ac_ret ?_
            exact fin_eq (v := .bool true) (by show _ = (fun (r : Bool) => (.bool r : Value)) (decRight d); rw [decRight, h5, h4, h3, h2, h1] <;> rfl) (fin_ret (res_tmp rfl rfl))
          · refine ar_gd (d := (some 26)) (by show ((d.scale == 0) == false) = true; rw [h5]; rfl) rfl (st_fa (g := g0) (off := 0) rfl fa83_0 rfl ?_)
            refine ar_gd (d := (some 27)) (by show ((d.scale == 0) == false) = true; rw [h5]; rfl) rfl (st_ldc (g := g0) (off := 0) (v := .int .i64 d.c) cell3 0 rfl rfl rfl rfl rfl ?_)
            refine ar_gd (d := (some 28)) (by show ((d.scale == 0) == false) = true; rw [h5]; rfl) rfl (st_bi (u := .int .i64 d.c) (v := .int .i64 10) (r := .int .i64 (Int.tmod d.c 10)) rfl rfl rfl (bi_rem (by decide) rfl) ?_)
            refine ar_gd (d := (some 29)) (by show ((d.scale == 0) == false) = true; rw [h5]; rfl) rfl (st_bi (u := .int .i64 (Int.tmod d.c 10)) (v := .int .i64 0) (r := .bool ((Int.tmod d.c 10) != 0)) rfl rfl rfl (bi_neq rfl) ?_)
            refine ar_gd (d := (some 30)) (by show ((decide (d.scale ≤ 6)) == true) = true; rw [h4]; rfl) rfl (st_pkf' (b := d.scale == 0) (v := .bool ((Int.tmod d.c 10) != 0)) h5 rfl rfl rfl ?_)
            refine ao 31 rfl rfl (st_pkt' (b := decide (d.scale ≤ 6)) (v := .bool ((Int.tmod d.c 10) != 0)) h4 rfl rfl rfl ?_)
            refine ao 2 rfl rfl (st_assign (v := .bool ((Int.tmod d.c 10) != 0)) rfl rfl ?_)
            refine ar_nil ?_
            refine ac_ret ?_
            exact fin_eq (v := .bool ((Int.tmod d.c 10) != 0)) (by show _ = (fun (r : Bool) => (.bool r : Value)) (decRight d); rw [decRight, h5, h4, h3, h2, h1] <;> rfl) (fin_ret (res_tmp rfl rfl))
        · refine ar_sk (d := (some 22)) (by show ((decide (d.scale ≤ 6)) == true) = false; rw [h4]; rfl) rfl ?_
          refine ar_sk (d := (some 23)) (by show ((decide (d.scale ≤ 6)) == true) = false; rw [h4]; rfl) rfl ?_
          refine ar_sk (d := (some 24)) (by show ((decide (d.scale ≤ 6)) == true) = false; rw [h4]; rfl) rfl ?_
          refine ar_sk (d := (some 25)) (by show ((decide (d.scale ≤ 6)) == true) = false; rw [h4]; rfl) rfl ?_
          refine ar_sk (d := (some 26)) rfl rfl ?_
          refine ar_sk (d := (some 27)) rfl rfl ?_
          refine ar_sk (d := (some 28)) rfl rfl ?_
          refine ar_sk (d := (some 29)) rfl rfl ?_
          refine ar_sk (d := (some 30)) (by show ((decide (d.scale ≤ 6)) == true) = false; rw [h4]; rfl) rfl ?_
          refine ao 31 rfl rfl (st_pkf' (b := decide (d.scale ≤ 6)) (v := .bool false) h4 rfl rfl rfl ?_)
          refine ao 2 rfl rfl (st_assign (v := .bool false) rfl rfl ?_)
          refine ar_nil ?_
          refine ac_ret ?_
          exact fin_eq (v := .bool false) (by show _ = (fun (r : Bool) => (.bool r : Value)) (decRight d); rw [decRight, h4, h3, h2, h1] <;> rfl) (fin_ret (res_tmp rfl rfl))
      · refine ar_sk (d := (some 17)) (by show ((decide (d.scale ≥ 0)) == true) = false; rw [h3]; rfl) rfl ?_
        refine ar_sk (d := (some 18)) (by show ((decide (d.scale ≥ 0)) == true) = false; rw [h3]; rfl) rfl ?_
        refine ar_sk (d := (some 19)) (by show ((decide (d.scale ≥ 0)) == true) = false; rw [h3]; rfl) rfl ?_
        refine ao 20 rfl rfl (st_pkf' (b := decide (d.scale ≥ 0)) (v := .bool false) h3 rfl rfl rfl ?_)
        refine ao 21 rfl rfl (st_move (v := .bool false) rfl rfl ?_)
        refine ar_sk (d := (some 22)) rfl rfl ?_
        refine ar_sk (d := (some 23)) rfl rfl ?_
        refine ar_sk (d := (some 24)) rfl rfl ?_
        refine ar_sk (d := (some 25)) rfl rfl ?_
        refine ar_sk (d := (some 26)) rfl rfl ?_
        refine ar_sk (d := (some 27)) rfl rfl ?_
        refine ar_sk (d := (some 28)) rfl rfl ?_
        refine ar_sk (d := (some 29)) rfl rfl ?_
        refine ar_sk (d := (some 30)) rfl rfl ?_
        refine ao 31 rfl rfl (st_pkf (v := .bool false) rfl rfl rfl ?_)
        refine ao 2 rfl rfl (st_assign (v := .bool false) rfl rfl ?_)
        refine ar_nil ?_
        refine ac_ret ?_
        exact fin_eq (v := .bool false) (by show _ = (fun (r : Bool) => (.bool r : Value)) (decRight d); rw [decRight, h3, h2, h1] <;> rfl) (fin_ret (res_tmp rfl rfl))
    · refine ar_sk (d := (some 12)) (by show ((decide (d.c ≤ 100000000000)) == true) = false; rw [h2]; rfl) rfl ?_
      refine ar_sk (d := (some 13)) (by show ((decide (d.c ≤ 100000000000)) == true) = false; rw [h2]; rfl) rfl ?_
      refine ar_sk (d := (some 14)) (by show ((decide (d.c ≤ 100000000000)) == true) = false; rw [h2]; rfl) rfl ?_
      refine ao 15 rfl rfl (st_pkf' (b := decide (d.c ≤ 100000000000)) (v := .bool false) h2 rfl rfl rfl ?_)
      refine ao 16 rfl rfl (st_move (v := .bool false) rfl rfl ?_)
      refine ar_sk (d := (some 17)) rfl rfl ?_
      refine ar_sk (d := (some 18)) rfl rfl ?_
      refine ar_sk (d := (some 19)) rfl rfl ?_
      refine ao 20 rfl rfl (st_pkf (v := .bool false) rfl rfl rfl ?_)
      refine ao 21 rfl rfl (st_move (v := .bool false) rfl rfl ?_)
      refine ar_sk (d := (some 22)) rfl rfl ?_
      refine ar_sk (d := (some 23)) rfl rfl ?_
      refine ar_sk (d := (some 24)) rfl rfl ?_
      refine ar_sk (d := (some 25)) rfl rfl ?_
      refine ar_sk (d := (some 26)) rfl rfl ?_
      refine ar_sk (d := (some 27)) rfl rfl ?_
      refine ar_sk (d := (some 28)) rfl rfl ?_
      refine ar_sk (d := (some 29)) rfl rfl ?_
      refine ar_sk (d := (some 30)) rfl rfl ?_
      refine ao 31 rfl rfl (st_pkf (v := .bool false) rfl rfl rfl ?_)
      refine ao 2 rfl rfl (st_assign (v := .bool false) rfl rfl ?_)
      refine ar_nil ?_
      refine ac_ret ?_
      exact fin_eq (v := .bool false) (by show _ = (fun (r : Bool) => (.bool r : Value)) (decRight d); rw [decRight, h2, h1] <;> rfl) (fin_ret (res_tmp rfl rfl))
  · refine ar_sk (d := (some 7)) (by show ((decide (d.c ≥ (-100000000000))) == true) = false; rw [h1]; rfl) rfl ?_
    refine ar_sk (d := (some 8)) (by show ((decide (d.c ≥ (-100000000000))) == true) = false; rw [h1]; rfl) rfl ?_
    refine ar_sk (d := (some 9)) (by show ((decide (d.c ≥ (-100000000000))) == true) = false; rw [h1]; rfl) rfl ?_
    refine ao 10 rfl rfl (st_pkf' (b := decide (d.c ≥ (-100000000000))) (v := .bool false) h1 rfl rfl rfl ?_)
    refine ao 11 rfl rfl (st_move (v := .bool false) rfl rfl ?_)
    refine ar_sk (d := (some 12)) rfl rfl ?_
    refine ar_sk (d := (some 13)) rfl rfl ?_
    refine ar_sk (d := (some 14)) rfl rfl ?_
    refine ao 15 rfl rfl (st_pkf (v := .bool false) rfl rfl rfl ?_)
    refine ao 16 rfl rfl (st_move (v := .bool false) rfl rfl ?_)
    refine ar_sk (d := (some 17)) rfl rfl ?_
    refine ar_sk (d := (some 18)) rfl rfl ?_
    refine ar_sk (d := (some 19)) rfl rfl ?_
    refine ao 20 rfl rfl (st_pkf (v := .bool false) rfl rfl rfl ?_)
    refine ao 21 rfl rfl (st_move (v := .bool false) rfl rfl ?_)
    refine ar_sk (d := (some 22)) rfl rfl ?_
    refine ar_sk (d := (some 23)) rfl rfl ?_
    refine ar_sk (d := (some 24)) rfl rfl ?_
    refine ar_sk (d := (some 25)) rfl rfl ?_
    refine ar_sk (d := (some 26)) rfl rfl ?_
    refine ar_sk (d := (some 27)) rfl rfl ?_
    refine ar_sk (d := (some 28)) rfl rfl ?_
    refine ar_sk (d := (some 29)) rfl rfl ?_
    refine ar_sk (d := (some 30)) rfl rfl ?_
    refine ao 31 rfl rfl (st_pkf (v := .bool false) rfl rfl rfl ?_)
    refine ao 2 rfl rfl (st_assign (v := .bool false) rfl rfl ?_)
    refine ar_nil ?_
    refine ac_ret ?_
    exact fin_eq (v := .bool false) (by show _ = (fun (r : Bool) => (.bool r : Value)) (decRight d); rw [decRight, h1] <;> rfl) (fin_ret (res_tmp rfl rfl))
def decPow0  : Int := 1
set_option maxRecDepth 100000 in
theorem c_decPow0  : Gets Try.prog 134 #[.int .i64 0] ((fun (r : Int) => (.int .i64 r : Value)) decPow0) := by
  refine gets_fin Try.func134 rfl rfl rfl ?_
  refine ac_seq ?_
  refine ac_region_lit ?_
  refine ao 2 rfl rfl (st_assign (v := .int .i64 0) rfl rfl ?_)
  refine ar_nil ?_
  refine ac_seq ?_
  refine ac_region_lit ?_
  refine ao 3 rfl rfl (st_assign (v := .int .i64 1) rfl rfl ?_)
  refine ar_nil ?_
  refine ac_seq ?_
  refine ac_seq ?_
  refine ac_region_lit ?_
  refine ao 4 rfl rfl (st_move (v := .int .i64 0) rfl rfl ?_)
  refine ao 5 rfl rfl (st_move (v := .int .i64 0) rfl rfl ?_)
  refine ar_nil ?_
  refine ac_block ?_
  refine ac_rounds 61 ?_
  refine ar_round ?_
  refine ac_seq ?_
  refine ac_region_lit ?_
  refine ao 6 rfl rfl (st_bi (u := .int .i64 0) (v := .int .i64 0) (r := .bool false) rfl rfl rfl (bi_lss (by decide)) ?_)
  refine ar_nil ?_
  refine ac_seq ?_
  refine ac_else rfl ?_
  refine ac_exit ?_
  refine ac_seq ?_
  refine ac_region_lit ?_
  refine ao 10 rfl rfl (st_move (v := .int .i64 1) rfl rfl ?_)
  refine ao 2 rfl rfl (st_assign (v := .int .i64 1) rfl rfl ?_)
  refine ar_nil ?_
  refine ac_ret ?_
  exact fin_eq (v := .int .i64 1) rfl (fin_ret (res_tmp rfl rfl))
def decPow1  : Int := 10
set_option maxRecDepth 100000 in
theorem c_decPow1  : Gets Try.prog 134 #[.int .i64 1] ((fun (r : Int) => (.int .i64 r : Value)) decPow1) := by
  refine gets_fin Try.func134 rfl rfl rfl ?_
  refine ac_seq ?_
  refine ac_region_lit ?_
  refine ao 2 rfl rfl (st_assign (v := .int .i64 0) rfl rfl ?_)
  refine ar_nil ?_
  refine ac_seq ?_
  refine ac_region_lit ?_
  refine ao 3 rfl rfl (st_assign (v := .int .i64 1) rfl rfl ?_)
  refine ar_nil ?_
  refine ac_seq ?_
  refine ac_seq ?_
  refine ac_region_lit ?_
  refine ao 4 rfl rfl (st_move (v := .int .i64 1) rfl rfl ?_)
  refine ao 5 rfl rfl (st_move (v := .int .i64 0) rfl rfl ?_)
  refine ar_nil ?_
  refine ac_block ?_
  refine ac_rounds 61 ?_
  refine ar_round ?_
  refine ac_seq ?_
  refine ac_region_lit ?_
  refine ao 6 rfl rfl (st_bi (u := .int .i64 0) (v := .int .i64 1) (r := .bool true) rfl rfl rfl (bi_lss (by decide)) ?_)
  refine ar_nil ?_
  refine ac_seq ?_
  refine ac_then rfl ?_
  refine ac_skip ?_
  refine ac_seq ?_
  refine ac_block ?_
  refine ac_region_lit ?_
  refine ao 7 rfl rfl (st_move (v := .int .i64 1) rfl rfl ?_)
  refine ao 8 rfl rfl (st_bi (u := .int .i64 1) (v := .int .i64 10) (r := .int .i64 10) rfl rfl rfl (bi_mul (by decide)) ?_)
  refine ao 3 rfl rfl (st_assign (v := .int .i64 10) rfl rfl ?_)
  refine ar_nil ?_
  refine ac_region_lit ?_
  refine ao 9 rfl rfl (st_bi (u := .int .i64 0) (v := .int .i64 1) (r := .int .i64 1) rfl rfl rfl (bi_add (by decide)) ?_)
  refine ao 5 rfl rfl (st_move (v := .int .i64 1) rfl rfl ?_)
  refine ar_nil ?_
  refine ar_round ?_
  refine ac_seq ?_
  refine ac_region_lit ?_
  refine ao 6 rfl rfl (st_bi (u := .int .i64 1) (v := .int .i64 1) (r := .bool false) rfl rfl rfl (bi_lss (by decide)) ?_)
  refine ar_nil ?_
  refine ac_seq ?_
  refine ac_else rfl ?_
  refine ac_exit ?_
  refine ac_seq ?_
  refine ac_region_lit ?_
  refine ao 10 rfl rfl (st_move (v := .int .i64 10) rfl rfl ?_)
  refine ao 2 rfl rfl (st_assign (v := .int .i64 10) rfl rfl ?_)
  refine ar_nil ?_
  refine ac_ret ?_
  exact fin_eq (v := .int .i64 10) rfl (fin_ret (res_tmp rfl rfl))
def decPow2  : Int := 100
set_option maxRecDepth 100000 in
theorem c_decPow2  : Gets Try.prog 134 #[.int .i64 2] ((fun (r : Int) => (.int .i64 r : Value)) decPow2) := by
  refine gets_fin Try.func134 rfl rfl rfl ?_
  refine ac_seq ?_
  refine ac_region_lit ?_
  refine ao 2 rfl rfl (st_assign (v := .int .i64 0) rfl rfl ?_)
  refine ar_nil ?_
  refine ac_seq ?_
  refine ac_region_lit ?_
  refine ao 3 rfl rfl (st_assign (v := .int .i64 1) rfl rfl ?_)
  refine ar_nil ?_
  refine ac_seq ?_
  refine ac_seq ?_
  refine ac_region_lit ?_
  refine ao 4 rfl rfl (st_move (v := .int .i64 2) rfl rfl ?_)
  refine ao 5 rfl rfl (st_move (v := .int .i64 0) rfl rfl ?_)
  refine ar_nil ?_
  refine ac_block ?_
  refine ac_rounds 61 ?_
  refine ar_round ?_
  refine ac_seq ?_
  refine ac_region_lit ?_
  refine ao 6 rfl rfl (st_bi (u := .int .i64 0) (v := .int .i64 2) (r := .bool true) rfl rfl rfl (bi_lss (by decide)) ?_)
  refine ar_nil ?_
  refine ac_seq ?_
  refine ac_then rfl ?_
  refine ac_skip ?_
  refine ac_seq ?_
  refine ac_block ?_
  refine ac_region_lit ?_
  refine ao 7 rfl rfl (st_move (v := .int .i64 1) rfl rfl ?_)
  refine ao 8 rfl rfl (st_bi (u := .int .i64 1) (v := .int .i64 10) (r := .int .i64 10) rfl rfl rfl (bi_mul (by decide)) ?_)
  refine ao 3 rfl rfl (st_assign (v := .int .i64 10) rfl rfl ?_)
  refine ar_nil ?_
  refine ac_region_lit ?_
  refine ao 9 rfl rfl (st_bi (u := .int .i64 0) (v := .int .i64 1) (r := .int .i64 1) rfl rfl rfl (bi_add (by decide)) ?_)
  refine ao 5 rfl rfl (st_move (v := .int .i64 1) rfl rfl ?_)
  refine ar_nil ?_
  refine ar_round ?_
  refine ac_seq ?_
  refine ac_region_lit ?_
  refine ao 6 rfl rfl (st_bi (u := .int .i64 1) (v := .int .i64 2) (r := .bool true) rfl rfl rfl (bi_lss (by decide)) ?_)
  refine ar_nil ?_
  refine ac_seq ?_
  refine ac_then rfl ?_
  refine ac_skip ?_
  refine ac_seq ?_
  refine ac_block ?_
  refine ac_region_lit ?_
  refine ao 7 rfl rfl (st_move (v := .int .i64 10) rfl rfl ?_)
  refine ao 8 rfl rfl (st_bi (u := .int .i64 10) (v := .int .i64 10) (r := .int .i64 100) rfl rfl rfl (bi_mul (by decide)) ?_)
  refine ao 3 rfl rfl (st_assign (v := .int .i64 100) rfl rfl ?_)
  refine ar_nil ?_
  refine ac_region_lit ?_
  refine ao 9 rfl rfl (st_bi (u := .int .i64 1) (v := .int .i64 1) (r := .int .i64 2) rfl rfl rfl (bi_add (by decide)) ?_)
  refine ao 5 rfl rfl (st_move (v := .int .i64 2) rfl rfl ?_)
  refine ar_nil ?_
  refine ar_round ?_
  refine ac_seq ?_
  refine ac_region_lit ?_
  refine ao 6 rfl rfl (st_bi (u := .int .i64 2) (v := .int .i64 2) (r := .bool false) rfl rfl rfl (bi_lss (by decide)) ?_)
  refine ar_nil ?_
  refine ac_seq ?_
  refine ac_else rfl ?_
  refine ac_exit ?_
  refine ac_seq ?_
  refine ac_region_lit ?_
  refine ao 10 rfl rfl (st_move (v := .int .i64 100) rfl rfl ?_)
  refine ao 2 rfl rfl (st_assign (v := .int .i64 100) rfl rfl ?_)
  refine ar_nil ?_
  refine ac_ret ?_
  exact fin_eq (v := .int .i64 100) rfl (fin_ret (res_tmp rfl rfl))
def decPow3  : Int := 1000
set_option maxRecDepth 100000 in
theorem c_decPow3  : Gets Try.prog 134 #[.int .i64 3] ((fun (r : Int) => (.int .i64 r : Value)) decPow3) := by
  refine gets_fin Try.func134 rfl rfl rfl ?_
  refine ac_seq ?_
  refine ac_region_lit ?_
  refine ao 2 rfl rfl (st_assign (v := .int .i64 0) rfl rfl ?_)
  refine ar_nil ?_
  refine ac_seq ?_
  refine ac_region_lit ?_
  refine ao 3 rfl rfl (st_assign (v := .int .i64 1) rfl rfl ?_)
  refine ar_nil ?_
  refine ac_seq ?_
  refine ac_seq ?_
  refine ac_region_lit ?_
  refine ao 4 rfl rfl (st_move (v := .int .i64 3) rfl rfl ?_)
  refine ao 5 rfl rfl (st_move (v := .int .i64 0) rfl rfl ?_)
  refine ar_nil ?_
  refine ac_block ?_
  refine ac_rounds 61 ?_
  refine ar_round ?_
  refine ac_seq ?_
  refine ac_region_lit ?_
  refine ao 6 rfl rfl (st_bi (u := .int .i64 0) (v := .int .i64 3) (r := .bool true) rfl rfl rfl (bi_lss (by decide)) ?_)
  refine ar_nil ?_
  refine ac_seq ?_
  refine ac_then rfl ?_
  refine ac_skip ?_
  refine ac_seq ?_
  refine ac_block ?_
  refine ac_region_lit ?_
  refine ao 7 rfl rfl (st_move (v := .int .i64 1) rfl rfl ?_)
  refine ao 8 rfl rfl (st_bi (u := .int .i64 1) (v := .int .i64 10) (r := .int .i64 10) rfl rfl rfl (bi_mul (by decide)) ?_)
  refine ao 3 rfl rfl (st_assign (v := .int .i64 10) rfl rfl ?_)
  refine ar_nil ?_
  refine ac_region_lit ?_
  refine ao 9 rfl rfl (st_bi (u := .int .i64 0) (v := .int .i64 1) (r := .int .i64 1) rfl rfl rfl (bi_add (by decide)) ?_)
  refine ao 5 rfl rfl (st_move (v := .int .i64 1) rfl rfl ?_)
  refine ar_nil ?_
  refine ar_round ?_
  refine ac_seq ?_
  refine ac_region_lit ?_
  refine ao 6 rfl rfl (st_bi (u := .int .i64 1) (v := .int .i64 3) (r := .bool true) rfl rfl rfl (bi_lss (by decide)) ?_)
  refine ar_nil ?_
  refine ac_seq ?_
  refine ac_then rfl ?_
  refine ac_skip ?_
  refine ac_seq ?_
  refine ac_block ?_
  refine ac_region_lit ?_
  refine ao 7 rfl rfl (st_move (v := .int .i64 10) rfl rfl ?_)
  refine ao 8 rfl rfl (st_bi (u := .int .i64 10) (v := .int .i64 10) (r := .int .i64 100) rfl rfl rfl (bi_mul (by decide)) ?_)
  refine ao 3 rfl rfl (st_assign (v := .int .i64 100) rfl rfl ?_)
  refine ar_nil ?_
  refine ac_region_lit ?_
  refine ao 9 rfl rfl (st_bi (u := .int .i64 1) (v := .int .i64 1) (r := .int .i64 2) rfl rfl rfl (bi_add (by decide)) ?_)
  refine ao 5 rfl rfl (st_move (v := .int .i64 2) rfl rfl ?_)
  refine ar_nil ?_
  refine ar_round ?_
  refine ac_seq ?_
  refine ac_region_lit ?_
  refine ao 6 rfl rfl (st_bi (u := .int .i64 2) (v := .int .i64 3) (r := .bool true) rfl rfl rfl (bi_lss (by decide)) ?_)
  refine ar_nil ?_
  refine ac_seq ?_
  refine ac_then rfl ?_
  refine ac_skip ?_
  refine ac_seq ?_
  refine ac_block ?_
  refine ac_region_lit ?_
  refine ao 7 rfl rfl (st_move (v := .int .i64 100) rfl rfl ?_)
  refine ao 8 rfl rfl (st_bi (u := .int .i64 100) (v := .int .i64 10) (r := .int .i64 1000) rfl rfl rfl (bi_mul (by decide)) ?_)
  refine ao 3 rfl rfl (st_assign (v := .int .i64 1000) rfl rfl ?_)
  refine ar_nil ?_
  refine ac_region_lit ?_
  refine ao 9 rfl rfl (st_bi (u := .int .i64 2) (v := .int .i64 1) (r := .int .i64 3) rfl rfl rfl (bi_add (by decide)) ?_)
  refine ao 5 rfl rfl (st_move (v := .int .i64 3) rfl rfl ?_)
  refine ar_nil ?_
  refine ar_round ?_
  refine ac_seq ?_
  refine ac_region_lit ?_
  refine ao 6 rfl rfl (st_bi (u := .int .i64 3) (v := .int .i64 3) (r := .bool false) rfl rfl rfl (bi_lss (by decide)) ?_)
  refine ar_nil ?_
  refine ac_seq ?_
  refine ac_else rfl ?_
  refine ac_exit ?_
  refine ac_seq ?_
  refine ac_region_lit ?_
  refine ao 10 rfl rfl (st_move (v := .int .i64 1000) rfl rfl ?_)
  refine ao 2 rfl rfl (st_assign (v := .int .i64 1000) rfl rfl ?_)
  refine ar_nil ?_
  refine ac_ret ?_
  exact fin_eq (v := .int .i64 1000) rfl (fin_ret (res_tmp rfl rfl))
def decPow4  : Int := 10000
set_option maxRecDepth 100000 in
theorem c_decPow4  : Gets Try.prog 134 #[.int .i64 4] ((fun (r : Int) => (.int .i64 r : Value)) decPow4) := by
  refine gets_fin Try.func134 rfl rfl rfl ?_
  refine ac_seq ?_
  refine ac_region_lit ?_
  refine ao 2 rfl rfl (st_assign (v := .int .i64 0) rfl rfl ?_)
  refine ar_nil ?_
  refine ac_seq ?_
  refine ac_region_lit ?_
  refine ao 3 rfl rfl (st_assign (v := .int .i64 1) rfl rfl ?_)
  refine ar_nil ?_
  refine ac_seq ?_
  refine ac_seq ?_
  refine ac_region_lit ?_
  refine ao 4 rfl rfl (st_move (v := .int .i64 4) rfl rfl ?_)
  refine ao 5 rfl rfl (st_move (v := .int .i64 0) rfl rfl ?_)
  refine ar_nil ?_
  refine ac_block ?_
  refine ac_rounds 61 ?_
  refine ar_round ?_
  refine ac_seq ?_
  refine ac_region_lit ?_
  refine ao 6 rfl rfl (st_bi (u := .int .i64 0) (v := .int .i64 4) (r := .bool true) rfl rfl rfl (bi_lss (by decide)) ?_)
  refine ar_nil ?_
  refine ac_seq ?_
  refine ac_then rfl ?_
  refine ac_skip ?_
  refine ac_seq ?_
  refine ac_block ?_
  refine ac_region_lit ?_
  refine ao 7 rfl rfl (st_move (v := .int .i64 1) rfl rfl ?_)
  refine ao 8 rfl rfl (st_bi (u := .int .i64 1) (v := .int .i64 10) (r := .int .i64 10) rfl rfl rfl (bi_mul (by decide)) ?_)
  refine ao 3 rfl rfl (st_assign (v := .int .i64 10) rfl rfl ?_)
  refine ar_nil ?_
  refine ac_region_lit ?_
  refine ao 9 rfl rfl (st_bi (u := .int .i64 0) (v := .int .i64 1) (r := .int .i64 1) rfl rfl rfl (bi_add (by decide)) ?_)
  refine ao 5 rfl rfl (st_move (v := .int .i64 1) rfl rfl ?_)
  refine ar_nil ?_
  refine ar_round ?_
  refine ac_seq ?_
  refine ac_region_lit ?_
  refine ao 6 rfl rfl (st_bi (u := .int .i64 1) (v := .int .i64 4) (r := .bool true) rfl rfl rfl (bi_lss (by decide)) ?_)
  refine ar_nil ?_
  refine ac_seq ?_
  refine ac_then rfl ?_
  refine ac_skip ?_
  refine ac_seq ?_
  refine ac_block ?_
  refine ac_region_lit ?_
  refine ao 7 rfl rfl (st_move (v := .int .i64 10) rfl rfl ?_)
  refine ao 8 rfl rfl (st_bi (u := .int .i64 10) (v := .int .i64 10) (r := .int .i64 100) rfl rfl rfl (bi_mul (by decide)) ?_)
  refine ao 3 rfl rfl (st_assign (v := .int .i64 100) rfl rfl ?_)
  refine ar_nil ?_
  refine ac_region_lit ?_
  refine ao 9 rfl rfl (st_bi (u := .int .i64 1) (v := .int .i64 1) (r := .int .i64 2) rfl rfl rfl (bi_add (by decide)) ?_)
  refine ao 5 rfl rfl (st_move (v := .int .i64 2) rfl rfl ?_)
  refine ar_nil ?_
  refine ar_round ?_
  refine ac_seq ?_
  refine ac_region_lit ?_
  refine ao 6 rfl rfl (st_bi (u := .int .i64 2) (v := .int .i64 4) (r := .bool true) rfl rfl rfl (bi_lss (by decide)) ?_)
  refine ar_nil ?_
  refine ac_seq ?_
  refine ac_then rfl ?_
  refine ac_skip ?_
  refine ac_seq ?_
  refine ac_block ?_
  refine ac_region_lit ?_
  refine ao 7 rfl rfl (st_move (v := .int .i64 100) rfl rfl ?_)
  refine ao 8 rfl rfl (st_bi (u := .int .i64 100) (v := .int .i64 10) (r := .int .i64 1000) rfl rfl rfl (bi_mul (by decide)) ?_)
  refine ao 3 rfl rfl (st_assign (v := .int .i64 1000) rfl rfl ?_)
  refine ar_nil ?_
  refine ac_region_lit ?_
  refine ao 9 rfl rfl (st_bi (u := .int .i64 2) (v := .int .i64 1) (r := .int .i64 3) rfl rfl rfl (bi_add (by decide)) ?_)
  refine ao 5 rfl rfl (st_move (v := .int .i64 3) rfl rfl ?_)
  refine ar_nil ?_
  refine ar_round ?_
  refine ac_seq ?_
  refine ac_region_lit ?_
  refine ao 6 rfl rfl (st_bi (u := .int .i64 3) (v := .int .i64 4) (r := .bool true) rfl rfl rfl (bi_lss (by decide)) ?_)
  refine ar_nil ?_
  refine ac_seq ?_
  refine ac_then rfl ?_
  refine ac_skip ?_
  refine ac_seq ?_
  refine ac_block ?_
  refine ac_region_lit ?_
  refine ao 7 rfl rfl (st_move (v := .int .i64 1000) rfl rfl ?_)
  refine ao 8 rfl rfl (st_bi (u := .int .i64 1000) (v := .int .i64 10) (r := .int .i64 10000) rfl rfl rfl (bi_mul (by decide)) ?_)
  refine ao 3 rfl rfl (st_assign (v := .int .i64 10000) rfl rfl ?_)
  refine ar_nil ?_
  refine ac_region_lit ?_
  refine ao 9 rfl rfl (st_bi (u := .int .i64 3) (v := .int .i64 1) (r := .int .i64 4) rfl rfl rfl (bi_add (by decide)) ?_)
  refine ao 5 rfl rfl (st_move (v := .int .i64 4) rfl rfl ?_)
  refine ar_nil ?_
  refine ar_round ?_
  refine ac_seq ?_
  refine ac_region_lit ?_
  refine ao 6 rfl rfl (st_bi (u := .int .i64 4) (v := .int .i64 4) (r := .bool false) rfl rfl rfl (bi_lss (by decide)) ?_)
  refine ar_nil ?_
  refine ac_seq ?_
  refine ac_else rfl ?_
  refine ac_exit ?_
  refine ac_seq ?_
  refine ac_region_lit ?_
  refine ao 10 rfl rfl (st_move (v := .int .i64 10000) rfl rfl ?_)
  refine ao 2 rfl rfl (st_assign (v := .int .i64 10000) rfl rfl ?_)
  refine ar_nil ?_
  refine ac_ret ?_
  exact fin_eq (v := .int .i64 10000) rfl (fin_ret (res_tmp rfl rfl))
def decPow5  : Int := 100000
set_option maxRecDepth 100000 in
theorem c_decPow5  : Gets Try.prog 134 #[.int .i64 5] ((fun (r : Int) => (.int .i64 r : Value)) decPow5) := by
  refine gets_fin Try.func134 rfl rfl rfl ?_
  refine ac_seq ?_
  refine ac_region_lit ?_
  refine ao 2 rfl rfl (st_assign (v := .int .i64 0) rfl rfl ?_)
  refine ar_nil ?_
  refine ac_seq ?_
  refine ac_region_lit ?_
  refine ao 3 rfl rfl (st_assign (v := .int .i64 1) rfl rfl ?_)
  refine ar_nil ?_
  refine ac_seq ?_
  refine ac_seq ?_
  refine ac_region_lit ?_
  refine ao 4 rfl rfl (st_move (v := .int .i64 5) rfl rfl ?_)
  refine ao 5 rfl rfl (st_move (v := .int .i64 0) rfl rfl ?_)
  refine ar_nil ?_
  refine ac_block ?_
  refine ac_rounds 61 ?_
  refine ar_round ?_
  refine ac_seq ?_
  refine ac_region_lit ?_
  refine ao 6 rfl rfl (st_bi (u := .int .i64 0) (v := .int .i64 5) (r := .bool true) rfl rfl rfl (bi_lss (by decide)) ?_)
  refine ar_nil ?_
  refine ac_seq ?_
  refine ac_then rfl ?_
  refine ac_skip ?_
  refine ac_seq ?_
  refine ac_block ?_
  refine ac_region_lit ?_
  refine ao 7 rfl rfl (st_move (v := .int .i64 1) rfl rfl ?_)
  refine ao 8 rfl rfl (st_bi (u := .int .i64 1) (v := .int .i64 10) (r := .int .i64 10) rfl rfl rfl (bi_mul (by decide)) ?_)
  refine ao 3 rfl rfl (st_assign (v := .int .i64 10) rfl rfl ?_)
  refine ar_nil ?_
  refine ac_region_lit ?_
  refine ao 9 rfl rfl (st_bi (u := .int .i64 0) (v := .int .i64 1) (r := .int .i64 1) rfl rfl rfl (bi_add (by decide)) ?_)
  refine ao 5 rfl rfl (st_move (v := .int .i64 1) rfl rfl ?_)
  refine ar_nil ?_
  refine ar_round ?_
  refine ac_seq ?_
  refine ac_region_lit ?_
  refine ao 6 rfl rfl (st_bi (u := .int .i64 1) (v := .int .i64 5) (r := .bool true) rfl rfl rfl (bi_lss (by decide)) ?_)
  refine ar_nil ?_
  refine ac_seq ?_
  refine ac_then rfl ?_
  refine ac_skip ?_
  refine ac_seq ?_
  refine ac_block ?_
  refine ac_region_lit ?_
  refine ao 7 rfl rfl (st_move (v := .int .i64 10) rfl rfl ?_)
  refine ao 8 rfl rfl (st_bi (u := .int .i64 10) (v := .int .i64 10) (r := .int .i64 100) rfl rfl rfl (bi_mul (by decide)) ?_)
  refine ao 3 rfl rfl (st_assign (v := .int .i64 100) rfl rfl ?_)
  refine ar_nil ?_
  refine ac_region_lit ?_
  refine ao 9 rfl rfl (st_bi (u := .int .i64 1) (v := .int .i64 1) (r := .int .i64 2) rfl rfl rfl (bi_add (by decide)) ?_)
  refine ao 5 rfl rfl (st_move (v := .int .i64 2) rfl rfl ?_)
  refine ar_nil ?_
  refine ar_round ?_
  refine ac_seq ?_
  refine ac_region_lit ?_
  refine ao 6 rfl rfl (st_bi (u := .int .i64 2) (v := .int .i64 5) (r := .bool true) rfl rfl rfl (bi_lss (by decide)) ?_)
  refine ar_nil ?_
  refine ac_seq ?_
  refine ac_then rfl ?_
  refine ac_skip ?_
  refine ac_seq ?_
  refine ac_block ?_
  refine ac_region_lit ?_
  refine ao 7 rfl rfl (st_move (v := .int .i64 100) rfl rfl ?_)
  refine ao 8 rfl rfl (st_bi (u := .int .i64 100) (v := .int .i64 10) (r := .int .i64 1000) rfl rfl rfl (bi_mul (by decide)) ?_)
  refine ao 3 rfl rfl (st_assign (v := .int .i64 1000) rfl rfl ?_)
  refine ar_nil ?_
  refine ac_region_lit ?_
  refine ao 9 rfl rfl (st_bi (u := .int .i64 2) (v := .int .i64 1) (r := .int .i64 3) rfl rfl rfl (bi_add (by decide)) ?_)
  refine ao 5 rfl rfl (st_move (v := .int .i64 3) rfl rfl ?_)
  refine ar_nil ?_
  refine ar_round ?_
  refine ac_seq ?_
  refine ac_region_lit ?_
  refine ao 6 rfl rfl (st_bi (u := .int .i64 3) (v := .int .i64 5) (r := .bool true) rfl rfl rfl (bi_lss (by decide)) ?_)
  refine ar_nil ?_
  refine ac_seq ?_
  refine ac_then rfl ?_
  refine ac_skip ?_
  refine ac_seq ?_
  refine ac_block ?_
  refine ac_region_lit ?_
  refine ao 7 rfl rfl (st_move (v := .int .i64 1000) rfl rfl ?_)
  refine ao 8 rfl rfl (st_bi (u := .int .i64 1000) (v := .int .i64 10) (r := .int .i64 10000) rfl rfl rfl (bi_mul (by decide)) ?_)
  refine ao 3 rfl rfl (st_assign (v := .int .i64 10000) rfl rfl ?_)
  refine ar_nil ?_
  refine ac_region_lit ?_
  refine ao 9 rfl rfl (st_bi (u := .int .i64 3) (v := .int .i64 1) (r := .int .i64 4) rfl rfl rfl (bi_add (by decide)) ?_)
  refine ao 5 rfl rfl (st_move (v := .int .i64 4) rfl rfl ?_)
  refine ar_nil ?_
  refine ar_round ?_
  refine ac_seq ?_
  refine ac_region_lit ?_
  refine ao 6 rfl rfl (st_bi (u := .int .i64 4) (v := .int .i64 5) (r := .bool true) rfl rfl rfl (bi_lss (by decide)) ?_)
  refine ar_nil ?_
  refine ac_seq ?_
  refine ac_then rfl ?_
  refine ac_skip ?_
  refine ac_seq ?_
  refine ac_block ?_
  refine ac_region_lit ?_
  refine ao 7 rfl rfl (st_move (v := .int .i64 10000) rfl rfl ?_)
  refine ao 8 rfl rfl (st_bi (u := .int .i64 10000) (v := .int .i64 10) (r := .int .i64 100000) rfl rfl rfl (bi_mul (by decide)) ?_)
  refine ao 3 rfl rfl (st_assign (v := .int .i64 100000) rfl rfl ?_)
  refine ar_nil ?_
  refine ac_region_lit ?_
  refine ao 9 rfl rfl (st_bi (u := .int .i64 4) (v := .int .i64 1) (r := .int .i64 5) rfl rfl rfl (bi_add (by decide)) ?_)
  refine ao 5 rfl rfl (st_move (v := .int .i64 5) rfl rfl ?_)
  refine ar_nil ?_
  refine ar_round ?_
  refine ac_seq ?_
  refine ac_region_lit ?_
  refine ao 6 rfl rfl (st_bi (u := .int .i64 5) (v := .int .i64 5) (r := .bool false) rfl rfl rfl (bi_lss (by decide)) ?_)
  refine ar_nil ?_
  refine ac_seq ?_
  refine ac_else rfl ?_
  refine ac_exit ?_
  refine ac_seq ?_
  refine ac_region_lit ?_
  refine ao 10 rfl rfl (st_move (v := .int .i64 100000) rfl rfl ?_)
  refine ao 2 rfl rfl (st_assign (v := .int .i64 100000) rfl rfl ?_)
  refine ar_nil ?_
  refine ac_ret ?_
  exact fin_eq (v := .int .i64 100000) rfl (fin_ret (res_tmp rfl rfl))
def decPow6  : Int := 1000000
set_option maxRecDepth 100000 in
theorem c_decPow6  : Gets Try.prog 134 #[.int .i64 6] ((fun (r : Int) => (.int .i64 r : Value)) decPow6) := by
  refine gets_fin Try.func134 rfl rfl rfl ?_
  refine ac_seq ?_
  refine ac_region_lit ?_
  refine ao 2 rfl rfl (st_assign (v := .int .i64 0) rfl rfl ?_)
  refine ar_nil ?_
  refine ac_seq ?_
  refine ac_region_lit ?_
  refine ao 3 rfl rfl (st_assign (v := .int .i64 1) rfl rfl ?_)
  refine ar_nil ?_
  refine ac_seq ?_
  refine ac_seq ?_
  refine ac_region_lit ?_
  refine ao 4 rfl rfl (st_move (v := .int .i64 6) rfl rfl ?_)
  refine ao 5 rfl rfl (st_move (v := .int .i64 0) rfl rfl ?_)
  refine ar_nil ?_
  refine ac_block ?_
  refine ac_rounds 61 ?_
  refine ar_round ?_
  refine ac_seq ?_
  refine ac_region_lit ?_
  refine ao 6 rfl rfl (st_bi (u := .int .i64 0) (v := .int .i64 6) (r := .bool true) rfl rfl rfl (bi_lss (by decide)) ?_)
  refine ar_nil ?_
  refine ac_seq ?_
  refine ac_then rfl ?_
  refine ac_skip ?_
  refine ac_seq ?_
  refine ac_block ?_
  refine ac_region_lit ?_
  refine ao 7 rfl rfl (st_move (v := .int .i64 1) rfl rfl ?_)
  refine ao 8 rfl rfl (st_bi (u := .int .i64 1) (v := .int .i64 10) (r := .int .i64 10) rfl rfl rfl (bi_mul (by decide)) ?_)
  refine ao 3 rfl rfl (st_assign (v := .int .i64 10) rfl rfl ?_)
  refine ar_nil ?_
  refine ac_region_lit ?_
  refine ao 9 rfl rfl (st_bi (u := .int .i64 0) (v := .int .i64 1) (r := .int .i64 1) rfl rfl rfl (bi_add (by decide)) ?_)
  refine ao 5 rfl rfl (st_move (v := .int .i64 1) rfl rfl ?_)
  refine ar_nil ?_
  refine ar_round ?_
  refine ac_seq ?_
  refine ac_region_lit ?_
  refine ao 6 rfl rfl (st_bi (u := .int .i64 1) (v := .int .i64 6) (r := .bool true) rfl rfl rfl (bi_lss (by decide)) ?_)
  refine ar_nil ?_
  refine ac_seq ?_
  refine ac_then rfl ?_
  refine ac_skip ?_
  refine ac_seq ?_
  refine ac_block ?_
  refine ac_region_lit ?_
  refine ao 7 rfl rfl (st_move (v := .int .i64 10) rfl rfl ?_)
  refine ao 8 rfl rfl (st_bi (u := .int .i64 10) (v := .int .i64 10) (r := .int .i64 100) rfl rfl rfl (bi_mul (by decide)) ?_)
  refine ao 3 rfl rfl (st_assign (v := .int .i64 100) rfl rfl ?_)
  refine ar_nil ?_
  refine ac_region_lit ?_
  refine ao 9 rfl rfl (st_bi (u := .int .i64 1) (v := .int .i64 1) (r := .int .i64 2) rfl rfl rfl (bi_add (by decide)) ?_)
  refine ao 5 rfl rfl (st_move (v := .int .i64 2) rfl rfl ?_)
  refine ar_nil ?_
  refine ar_round ?_
  refine ac_seq ?_
  refine ac_region_lit ?_
  refine ao 6 rfl rfl (st_bi (u := .int .i64 2) (v := .int .i64 6) (r := .bool true) rfl rfl rfl (bi_lss (by decide)) ?_)
  refine ar_nil ?_
  refine ac_seq ?_
  refine ac_then rfl ?_
  refine ac_skip ?_
  refine ac_seq ?_
  refine ac_block ?_
  refine ac_region_lit ?_
  refine ao 7 rfl rfl (st_move (v := .int .i64 100) rfl rfl ?_)
  refine ao 8 rfl rfl (st_bi (u := .int .i64 100) (v := .int .i64 10) (r := .int .i64 1000) rfl rfl rfl (bi_mul (by decide)) ?_)
  refine ao 3 rfl rfl (st_assign (v := .int .i64 1000) rfl rfl ?_)
  refine ar_nil ?_
  refine ac_region_lit ?_
  refine ao 9 rfl rfl (st_bi (u := .int .i64 2) (v := .int .i64 1) (r := .int .i64 3) rfl rfl rfl (bi_add (by decide)) ?_)
  refine ao 5 rfl rfl (st_move (v := .int .i64 3) rfl rfl ?_)
  refine ar_nil ?_
  refine ar_round ?_
  refine ac_seq ?_
  refine ac_region_lit ?_
  refine ao 6 rfl rfl (st_bi (u := .int .i64 3) (v := .int .i64 6) (r := .bool true) rfl rfl rfl (bi_lss (by decide)) ?_)
  refine ar_nil ?_
  refine ac_seq ?_
  refine ac_then rfl ?_
  refine ac_skip ?_
  refine ac_seq ?_
  refine ac_block ?_
  refine ac_region_lit ?_
  refine ao 7 rfl rfl (st_move (v := .int .i64 1000) rfl rfl ?_)
  refine ao 8 rfl rfl (st_bi (u := .int .i64 1000) (v := .int .i64 10) (r := .int .i64 10000) rfl rfl rfl (bi_mul (by decide)) ?_)
  refine ao 3 rfl rfl (st_assign (v := .int .i64 10000) rfl rfl ?_)
  refine ar_nil ?_
  refine ac_region_lit ?_
  refine ao 9 rfl rfl (st_bi (u := .int .i64 3) (v := .int .i64 1) (r := .int .i64 4) rfl rfl rfl (bi_add (by decide)) ?_)
  refine ao 5 rfl rfl (st_move (v := .int .i64 4) rfl rfl ?_)
  refine ar_nil ?_
  refine ar_round ?_
  refine ac_seq ?_
  refine ac_region_lit ?_
  refine ao 6 rfl rfl (st_bi (u := .int .i64 4) (v := .int .i64 6) (r := .bool true) rfl rfl rfl (bi_lss (by decide)) ?_)
  refine ar_nil ?_
  refine ac_seq ?_
  refine ac_then rfl ?_
  refine ac_skip ?_
  refine ac_seq ?_
  refine ac_block ?_
  refine ac_region_lit ?_
  refine ao 7 rfl rfl (st_move (v := .int .i64 10000) rfl rfl ?_)
  refine ao 8 rfl rfl (st_bi (u := .int .i64 10000) (v := .int .i64 10) (r := .int .i64 100000) rfl rfl rfl (bi_mul (by decide)) ?_)
  refine ao 3 rfl rfl (st_assign (v := .int .i64 100000) rfl rfl ?_)
  refine ar_nil ?_
  refine ac_region_lit ?_
  refine ao 9 rfl rfl (st_bi (u := .int .i64 4) (v := .int .i64 1) (r := .int .i64 5) rfl rfl rfl (bi_add (by decide)) ?_)
  refine ao 5 rfl rfl (st_move (v := .int .i64 5) rfl rfl ?_)
  refine ar_nil ?_
  refine ar_round ?_
  refine ac_seq ?_
  refine ac_region_lit ?_
  refine ao 6 rfl rfl (st_bi (u := .int .i64 5) (v := .int .i64 6) (r := .bool true) rfl rfl rfl (bi_lss (by decide)) ?_)
  refine ar_nil ?_
  refine ac_seq ?_
  refine ac_then rfl ?_
  refine ac_skip ?_
  refine ac_seq ?_
  refine ac_block ?_
  refine ac_region_lit ?_
  refine ao 7 rfl rfl (st_move (v := .int .i64 100000) rfl rfl ?_)
  refine ao 8 rfl rfl (st_bi (u := .int .i64 100000) (v := .int .i64 10) (r := .int .i64 1000000) rfl rfl rfl (bi_mul (by decide)) ?_)
  refine ao 3 rfl rfl (st_assign (v := .int .i64 1000000) rfl rfl ?_)
  refine ar_nil ?_
  refine ac_region_lit ?_
  refine ao 9 rfl rfl (st_bi (u := .int .i64 5) (v := .int .i64 1) (r := .int .i64 6) rfl rfl rfl (bi_add (by decide)) ?_)
  refine ao 5 rfl rfl (st_move (v := .int .i64 6) rfl rfl ?_)
  refine ar_nil ?_
  refine ar_round ?_
  refine ac_seq ?_
  refine ac_region_lit ?_
  refine ao 6 rfl rfl (st_bi (u := .int .i64 6) (v := .int .i64 6) (r := .bool false) rfl rfl rfl (bi_lss (by decide)) ?_)
  refine ar_nil ?_
  refine ac_seq ?_
  refine ac_else rfl ?_
  refine ac_exit ?_
  refine ac_seq ?_
  refine ac_region_lit ?_
  refine ao 10 rfl rfl (st_move (v := .int .i64 1000000) rfl rfl ?_)
  refine ao 2 rfl rfl (st_assign (v := .int .i64 1000000) rfl rfl ?_)
  refine ar_nil ?_
  refine ac_ret ?_
  exact fin_eq (v := .int .i64 1000000) rfl (fin_ret (res_tmp rfl rfl))
end Go.Proofs.Ythngkopcadlciaa
namespace Go.Proofs.Ythngkopcadlciaa
def decPower (n : Int) : Int := 10 ^ n.toNat
theorem c_decPower (n : Int) (h : 0 ≤ n ∧ n ≤ 6) : Gets Try.prog 134 #[.int .i64 n] ((fun (r : Int) => (.int .i64 r : Value)) (decPower n)) := by
  rcases (by omega : n = 0 ∨ n = 1 ∨ n = 2 ∨ n = 3 ∨ n = 4 ∨ n = 5 ∨ n = 6) with rfl | rfl | rfl | rfl | rfl | rfl | rfl
  · exact c_decPow0
  · exact c_decPow1
  · exact c_decPow2
  · exact c_decPow3
  · exact c_decPow4
  · exact c_decPow5
  · exact c_decPow6
theorem pow_ok (d : Dec) (h : decRight d = true) : 0 ≤ d.scale ∧ d.scale ≤ 6 := by
  unfold decRight at h
  simp only [Bool.cond_eq_ite, Bool.ite_eq_true_distrib] at h
  simp at h
  omega
end Go.Proofs.Ythngkopcadlciaa
namespace Go.Proofs.Ythngkopcadlciaa
open Go.RowKit
attribute [local irreducible] AC AR DWalk
def decOf_e0 (d : Dec) : Int := (numFloor (w64 (0 - (w64 (d.c * 65536)))) (decPower d.scale))
def decOf_e1 (d : Dec) : Iv := (ivOf (numFloor (w64 (d.c * 65536)) (decPower d.scale)) (w64 (0 - (decOf_e0 d))))
def decOf (d : Dec) : Iv := (bif decRight d then (decOf_e1 d) else ivNone)
set_option maxRecDepth 100000 in
theorem c_decOf (d : Dec) : Gets Try.prog 118 #[.agg #[.int .i64 d.c, .int .i64 d.scale]] (Iv.v (decOf d)) := by
  refine gets_fin Try.func118 rfl rfl rfl ?_
  refine ac_seq ?_
  refine ac_region_lit ?_
  refine ao 1 rfl rfl (st_box (v := .agg #[.int .i64 d.c, .int .i64 d.scale]) (cs := [.int .i64 d.c, .int .i64 d.scale]) rfl rfl rfl fun g0 => ?_)
  refine ao 2 rfl rfl (st_new zero26 rfl fun g1 => ?_)
  refine ar_nil ?_
  refine ac_seq ?_
  refine ac_seq ?_
  refine ac_region_lit ?_
  refine ao 5 rfl rfl (st_lda (g := g0) (off := 0) (vs := [.int .i64 d.c, .int .i64 d.scale]) agg83 1 rfl rfl rfl rfl rfl rfl ?_)
  refine ao 6 rfl rfl (st_cf (vs := [.agg #[.int .i64 d.c, .int .i64 d.scale]]) (r := .bool (decRight d)) (c_decRight d) Try.func133 rfl (by decide) rfl rfl rfl ?_)
  refine ao 7 rfl rfl (st_un (u := .bool (decRight d)) (v := .bool (!(decRight d))) rfl rfl (un_not rfl) ?_)
  refine ar_nil ?_
  refine bool_split (decRight d) (fun h1 => ?_) (fun h1 => ?_)
  · refine ac_else' (b := !(decRight d)) (by rw [h1]; rfl) rfl ?_
    refine ac_skip ?_
    refine ac_seq ?_
    refine ac_draw0 (id := 3) [0, 1, 2, 3, 4, 5, 6, 7] [] _ (by kernel_rfl) follows rfl  ?_
    refine dw_op (d := (some 9)) (.pointer (some ⟨g0, 0, none⟩)) rfl rfl rfl (st_fa (g := g0) (off := 0) rfl fa83_0 rfl ⟨rfl, rfl⟩) ?_
    refine dw_op (d := (some 10)) (.int .i64 d.c) rfl rfl rfl (st_ldc (g := g0) (off := 0) (v := .int .i64 d.c) cell3 1 rfl rfl rfl rfl rfl ⟨rfl, rfl⟩) ?_
    refine dw_op (d := (some 11)) (.int .i64 (w64 (d.c * 65536))) rfl rfl rfl (st_bi (u := .int .i64 d.c) (v := .int .i64 65536) (r := .int .i64 (w64 (d.c * 65536))) rfl rfl rfl (bi_mul rfl) ⟨rfl, rfl⟩) ?_
    refine dw_op (d := (some 12)) (.pointer (some ⟨g0, 1, none⟩)) rfl rfl rfl (st_fa (g := g0) (off := 0) rfl fa83_1 rfl ⟨rfl, rfl⟩) ?_
    refine dw_op (d := (some 13)) (.int .i64 d.scale) rfl rfl rfl (st_ldc (g := g0) (off := 1) (v := .int .i64 d.scale) cell3 1 rfl rfl rfl rfl rfl ⟨rfl, rfl⟩) ?_
    refine dw_op (d := (some 14)) (.int .i64 (decPower d.scale)) rfl rfl rfl (st_cf (vs := [.int .i64 d.scale]) (r := .int .i64 (decPower d.scale)) (c_decPower d.scale (pow_ok d h1)) Try.func134 rfl (by decide) rfl rfl rfl ⟨rfl, rfl⟩) ?_
    refine dw_op (d := (some 3)) (.int .i64 (w64 (d.c * 65536))) rfl rfl rfl (st_assign (v := .int .i64 (w64 (d.c * 65536))) rfl rfl ⟨rfl, rfl⟩) ?_
    refine dw_op (d := (some 4)) (.int .i64 (decPower d.scale)) rfl rfl rfl (st_assign (v := .int .i64 (decPower d.scale)) rfl rfl ⟨rfl, rfl⟩) ?_
    refine dw_nil ?_
    refine ar_nil ?_
    refine ac_seq ?_
    refine ac_region_lit ?_
    refine ao 15 rfl rfl (st_move (v := .int .i64 (w64 (d.c * 65536))) rfl rfl ?_)
    refine ao 16 rfl rfl (st_move (v := .int .i64 (decPower d.scale)) rfl rfl ?_)
    refine ao 17 rfl rfl (st_cf (vs := [.int .i64 (w64 (d.c * 65536)), .int .i64 (decPower d.scale)]) (r := .int .i64 (numFloor (w64 (d.c * 65536)) (decPower d.scale))) (c_numFloor (w64 (d.c * 65536)) (decPower d.scale)) Try.func121 rfl (by decide) rfl rfl rfl ?_)
    refine ao 18 rfl rfl (st_move (v := .int .i64 (w64 (d.c * 65536))) rfl rfl ?_)
    refine ao 19 rfl rfl (st_un (u := .int .i64 (w64 (d.c * 65536))) (v := .int .i64 (w64 (0 - (w64 (d.c * 65536))))) rfl rfl (un_neg rfl) ?_)
    refine ao 20 rfl rfl (st_move (v := .int .i64 (decPower d.scale)) rfl rfl ?_)
    refine ao 21 rfl rfl (st_cf (vs := [.int .i64 (w64 (0 - (w64 (d.c * 65536)))), .int .i64 (decPower d.scale)]) (r := .int .i64 (decOf_e0 d)) (c_numFloor (w64 (0 - (w64 (d.c * 65536)))) (decPower d.scale)) Try.func121 rfl (by decide) rfl rfl rfl ?_)
    refine ao 22 rfl rfl (st_un (u := .int .i64 (decOf_e0 d)) (v := .int .i64 (w64 (0 - (decOf_e0 d)))) rfl rfl (un_neg rfl) ?_)
    refine ao 23 rfl rfl (st_cf (vs := [.int .i64 (numFloor (w64 (d.c * 65536)) (decPower d.scale)), .int .i64 (w64 (0 - (decOf_e0 d)))]) (r := .agg #[.int .i64 ((decOf_e1 d).lo), .int .i64 ((decOf_e1 d).hi), .bool ((decOf_e1 d).no)]) (c_ivOf (numFloor (w64 (d.c * 65536)) (decPower d.scale)) (w64 (0 - (decOf_e0 d)))) Try.func70 rfl (by decide) rfl rfl rfl ?_)
    refine ar_op (d := none) rfl rfl (st_sta (g := g1) (off := 0) (us := [.int .i64 ((decOf_e1 d).lo), .int .i64 ((decOf_e1 d).hi), .bool ((decOf_e1 d).no)]) (cs := [.int .i64 ((decOf_e1 d).lo), .int .i64 ((decOf_e1 d).hi), .bool ((decOf_e1 d).no)]) agg26 0 rfl rfl rfl rfl rfl rfl rfl rfl rfl ?_)
    refine ar_nil ?_
    refine ac_ret ?_
    exact fin_eq (v := .agg #[.int .i64 ((decOf_e1 d).lo), .int .i64 ((decOf_e1 d).hi), .bool ((decOf_e1 d).no)]) (by show _ = Iv.v (decOf d); rw [decOf, h1] <;> rfl) (fin_ret (res_c (vs := [.int .i64 ((decOf_e1 d).lo), .int .i64 ((decOf_e1 d).hi), .bool ((decOf_e1 d).no)]) agg26 0 rfl rfl rfl rfl rfl rfl))
  · refine ac_then' (b := !(decRight d)) (by rw [h1]; rfl) rfl ?_
    refine ac_seq ?_
    refine ac_region_lit ?_
    refine ao 8 rfl rfl (st_cf (vs := []) (r := .agg #[.int .i64 ivNone.lo, .int .i64 ivNone.hi, .bool ivNone.no]) c_ivNone Try.func28 rfl (by decide) rfl rfl rfl ?_)
    refine ar_op (d := none) rfl rfl (st_sta (g := g1) (off := 0) (us := [.int .i64 ivNone.lo, .int .i64 ivNone.hi, .bool ivNone.no]) (cs := [.int .i64 ivNone.lo, .int .i64 ivNone.hi, .bool ivNone.no]) agg26 0 rfl rfl rfl rfl rfl rfl rfl rfl rfl ?_)
    refine ar_nil ?_
    refine ac_ret ?_
    exact fin_eq (v := .agg #[.int .i64 ivNone.lo, .int .i64 ivNone.hi, .bool ivNone.no]) (by show _ = Iv.v (decOf d); rw [decOf, h1] <;> rfl) (fin_ret (res_c (vs := [.int .i64 ivNone.lo, .int .i64 ivNone.hi, .bool ivNone.no]) agg26 0 rfl rfl rfl rfl rfl rfl))
end Go.Proofs.Ythngkopcadlciaa
namespace Go.Proofs.Ythngkopcadlciaa
open Go.RowKit
attribute [local irreducible] AC AR DWalk
def sceneMeet_e0 (s : Shape) (r : Ray) : Iv := (vecDot (vecSub r.o (vecOf (decOf s.x) (decOf s.y) (decOf s.z))) r.d)
def sceneMeet_e1 (s : Shape) (r : Ray) : Iv := (vecLen2 (vecSub r.o (vecOf (decOf s.x) (decOf s.y) (decOf s.z))))
def sceneMeet_e2 (s : Shape) (r : Ray) : Iv × Int := (quadNear (vecLen2 r.d) (sceneMeet_e0 s r) (ivSub (sceneMeet_e1 s r) (ivSqr (decOf s.r))))
def sceneMeet (s : Shape) (r : Ray) : Iv × Int := (bif s.kind == 1 then (((sceneMeet_e2 s r).1), (sceneMeet_e2 s r).2) else (bif s.kind == 2 then (bif (ivDiv (ivSub (decOf s.z) r.o.z) r.d.z).no then (ivNone, 0) else ((⟨(ivDiv (ivSub (decOf s.z) r.o.z) r.d.z).lo, (ivDiv (ivSub (decOf s.z) r.o.z) r.d.z).hi, false⟩ : Iv), 1)) else (ivNone, 0)))
set_option maxRecDepth 100000 in
theorem c_sceneMeet (s : Shape) (r : Ray) : Gets Try.prog 98 #[.agg #[.int .i64 s.kind, .int .i64 s.x.c, .int .i64 s.x.scale, .int .i64 s.y.c, .int .i64 s.y.scale, .int .i64 s.z.c, .int .i64 s.z.scale, .int .i64 s.r.c, .int .i64 s.r.scale, .int .i64 s.glow.a0, .int .i64 s.glow.a1, .int .i64 s.glow.a2], .agg #[.int .i64 r.o.x.lo, .int .i64 r.o.x.hi, .bool r.o.x.no, .int .i64 r.o.y.lo, .int .i64 r.o.y.hi, .bool r.o.y.no, .int .i64 r.o.z.lo, .int .i64 r.o.z.hi, .bool r.o.z.no, .int .i64 r.d.x.lo, .int .i64 r.d.x.hi, .bool r.d.x.no, .int .i64 r.d.y.lo, .int .i64 r.d.y.hi, .bool r.d.y.no, .int .i64 r.d.z.lo, .int .i64 r.d.z.hi, .bool r.d.z.no]] ((fun (r : Iv × Int) => (.tuple #[.agg #[.int .i64 r.1.lo, .int .i64 r.1.hi, .bool r.1.no], .int .i64 r.2] : Value)) (sceneMeet s r)) := by
  refine gets_fin Try.func98 rfl rfl rfl ?_
  refine ac_seq ?_
  refine ac_region_lit ?_
  refine ao 2 rfl rfl (st_box (v := .agg #[.int .i64 s.kind, .int .i64 s.x.c, .int .i64 s.x.scale, .int .i64 s.y.c, .int .i64 s.y.scale, .int .i64 s.z.c, .int .i64 s.z.scale, .int .i64 s.r.c, .int .i64 s.r.scale, .int .i64 s.glow.a0, .int .i64 s.glow.a1, .int .i64 s.glow.a2]) (cs := [.int .i64 s.kind, .int .i64 s.x.c, .int .i64 s.x.scale, .int .i64 s.y.c, .int .i64 s.y.scale, .int .i64 s.z.c, .int .i64 s.z.scale, .int .i64 s.r.c, .int .i64 s.r.scale, .int .i64 s.glow.a0, .int .i64 s.glow.a1, .int .i64 s.glow.a2]) rfl rfl rfl fun g0 => ?_)
  refine ao 3 rfl rfl (st_box (v := .agg #[.int .i64 r.o.x.lo, .int .i64 r.o.x.hi, .bool r.o.x.no, .int .i64 r.o.y.lo, .int .i64 r.o.y.hi, .bool r.o.y.no, .int .i64 r.o.z.lo, .int .i64 r.o.z.hi, .bool r.o.z.no, .int .i64 r.d.x.lo, .int .i64 r.d.x.hi, .bool r.d.x.no, .int .i64 r.d.y.lo, .int .i64 r.d.y.hi, .bool r.d.y.no, .int .i64 r.d.z.lo, .int .i64 r.d.z.hi, .bool r.d.z.no]) (cs := [.int .i64 r.o.x.lo, .int .i64 r.o.x.hi, .bool r.o.x.no, .int .i64 r.o.y.lo, .int .i64 r.o.y.hi, .bool r.o.y.no, .int .i64 r.o.z.lo, .int .i64 r.o.z.hi, .bool r.o.z.no, .int .i64 r.d.x.lo, .int .i64 r.d.x.hi, .bool r.d.x.no, .int .i64 r.d.y.lo, .int .i64 r.d.y.hi, .bool r.d.y.no, .int .i64 r.d.z.lo, .int .i64 r.d.z.hi, .bool r.d.z.no]) rfl rfl rfl fun g1 => ?_)
  refine ao 4 rfl rfl (st_new zero26 rfl fun g2 => ?_)
  refine ao 5 rfl rfl (st_assign (v := .int .i64 0) rfl rfl ?_)
  refine ar_nil ?_
  refine ac_seq ?_
  refine ac_seq ?_
  refine ac_region_lit ?_
  refine ao 8 rfl rfl (st_fa (g := g0) (off := 0) rfl fa86_0 rfl ?_)
  refine ao 9 rfl rfl (st_ldc (g := g0) (off := 0) (v := .int .i64 s.kind) cell3 2 rfl rfl rfl rfl rfl ?_)
  refine ar_nil ?_
  refine ac_block ?_
  refine ac_seq ?_
  refine ac_region_lit ?_
  refine ao 11 rfl rfl (st_bi (u := .int .i64 s.kind) (v := .int .i64 1) (r := .bool (s.kind == 1)) rfl rfl rfl (bi_eql rfl) ?_)
  refine ao 10 rfl rfl (st_assign (v := .bool (s.kind == 1)) rfl rfl ?_)
  refine ar_nil ?_
  refine bool_split (s.kind == 1) (fun h1 => ?_) (fun h1 => ?_)
  · refine ac_then' (b := s.kind == 1) h1 rfl ?_
    refine ac_seq ?_
    refine ac_draw1 (id := 3) [0, 1, 2, 3, 4, 5, 6, 7, 8, 9, 10, 11, 12] [14] 13 6 57 _ _ (by kernel_rfl) follows rfl zero57 ⟨_, rfl, rfl, rfl, rfl⟩ ?_
    refine dw_op (d := (some 12)) (.pointer (some ⟨g1, 0, none⟩)) rfl rfl rfl (st_fa (g := g1) (off := 0) rfl fa77_0 rfl ⟨rfl, rfl⟩) ?_
    refine dw_op (d := (some 13)) (.agg #[.int .i64 r.o.x.lo, .int .i64 r.o.x.hi, .bool r.o.x.no, .int .i64 r.o.y.lo, .int .i64 r.o.y.hi, .bool r.o.y.no, .int .i64 r.o.z.lo, .int .i64 r.o.z.hi, .bool r.o.z.no]) rfl rfl rfl (st_lda (g := g1) (off := 0) (vs := [.int .i64 r.o.x.lo, .int .i64 r.o.x.hi, .bool r.o.x.no, .int .i64 r.o.y.lo, .int .i64 r.o.y.hi, .bool r.o.y.no, .int .i64 r.o.z.lo, .int .i64 r.o.z.hi, .bool r.o.z.no]) agg57 1 rfl rfl rfl rfl rfl rfl ⟨rfl, rfl⟩) ?_
    refine dw_op (d := (some 14)) (.pointer (some ⟨g0, 1, none⟩)) rfl rfl rfl (st_fa (g := g0) (off := 0) rfl fa86_1 rfl ⟨rfl, rfl⟩) ?_
    refine dw_op (d := (some 15)) (.agg #[.int .i64 s.x.c, .int .i64 s.x.scale]) rfl rfl rfl (st_lda (g := g0) (off := 1) (vs := [.int .i64 s.x.c, .int .i64 s.x.scale]) agg83 2 rfl rfl rfl rfl rfl rfl ⟨rfl, rfl⟩) ?_
    refine dw_op (d := (some 16)) (.agg #[.int .i64 ((decOf s.x).lo), .int .i64 ((decOf s.x).hi), .bool ((decOf s.x).no)]) rfl rfl rfl (st_cf (vs := [.agg #[.int .i64 s.x.c, .int .i64 s.x.scale]]) (r := .agg #[.int .i64 ((decOf s.x).lo), .int .i64 ((decOf s.x).hi), .bool ((decOf s.x).no)]) (c_decOf s.x) Try.func118 rfl (by decide) rfl rfl rfl ⟨rfl, rfl⟩) ?_
    refine dw_op (d := (some 17)) (.pointer (some ⟨g0, 3, none⟩)) rfl rfl rfl (st_fa (g := g0) (off := 0) rfl fa86_2 rfl ⟨rfl, rfl⟩) ?_
    refine dw_op (d := (some 18)) (.agg #[.int .i64 s.y.c, .int .i64 s.y.scale]) rfl rfl rfl (st_lda (g := g0) (off := 3) (vs := [.int .i64 s.y.c, .int .i64 s.y.scale]) agg83 2 rfl rfl rfl rfl rfl rfl ⟨rfl, rfl⟩) ?_
    refine dw_op (d := (some 19)) (.agg #[.int .i64 ((decOf s.y).lo), .int .i64 ((decOf s.y).hi), .bool ((decOf s.y).no)]) rfl rfl rfl (st_cf (vs := [.agg #[.int .i64 s.y.c, .int .i64 s.y.scale]]) (r := .agg #[.int .i64 ((decOf s.y).lo), .int .i64 ((decOf s.y).hi), .bool ((decOf s.y).no)]) (c_decOf s.y) Try.func118 rfl (by decide) rfl rfl rfl ⟨rfl, rfl⟩) ?_
    refine dw_op (d := (some 20)) (.pointer (some ⟨g0, 5, none⟩)) rfl rfl rfl (st_fa (g := g0) (off := 0) rfl fa86_3 rfl ⟨rfl, rfl⟩) ?_
    refine dw_op (d := (some 21)) (.agg #[.int .i64 s.z.c, .int .i64 s.z.scale]) rfl rfl rfl (st_lda (g := g0) (off := 5) (vs := [.int .i64 s.z.c, .int .i64 s.z.scale]) agg83 2 rfl rfl rfl rfl rfl rfl ⟨rfl, rfl⟩) ?_
    refine dw_op (d := (some 22)) (.agg #[.int .i64 ((decOf s.z).lo), .int .i64 ((decOf s.z).hi), .bool ((decOf s.z).no)]) rfl rfl rfl (st_cf (vs := [.agg #[.int .i64 s.z.c, .int .i64 s.z.scale]]) (r := .agg #[.int .i64 ((decOf s.z).lo), .int .i64 ((decOf s.z).hi), .bool ((decOf s.z).no)]) (c_decOf s.z) Try.func118 rfl (by decide) rfl rfl rfl ⟨rfl, rfl⟩) ?_
    refine dw_op (d := (some 23)) (.agg #[.int .i64 (((vecOf (decOf s.x) (decOf s.y) (decOf s.z)).x).lo), .int .i64 (((vecOf (decOf s.x) (decOf s.y) (decOf s.z)).x).hi), .bool (((vecOf (decOf s.x) (decOf s.y) (decOf s.z)).x).no), .int .i64 (((vecOf (decOf s.x) (decOf s.y) (decOf s.z)).y).lo), .int .i64 (((vecOf (decOf s.x) (decOf s.y) (decOf s.z)).y).hi), .bool (((vecOf (decOf s.x) (decOf s.y) (decOf s.z)).y).no), .int .i64 (((vecOf (decOf s.x) (decOf s.y) (decOf s.z)).z).lo), .int .i64 (((vecOf (decOf s.x) (decOf s.y) (decOf s.z)).z).hi), .bool (((vecOf (decOf s.x) (decOf s.y) (decOf s.z)).z).no)]) rfl rfl rfl (st_cf (vs := [.agg #[.int .i64 ((decOf s.x).lo), .int .i64 ((decOf s.x).hi), .bool ((decOf s.x).no)], .agg #[.int .i64 ((decOf s.y).lo), .int .i64 ((decOf s.y).hi), .bool ((decOf s.y).no)], .agg #[.int .i64 ((decOf s.z).lo), .int .i64 ((decOf s.z).hi), .bool ((decOf s.z).no)]]) (r := .agg #[.int .i64 (((vecOf (decOf s.x) (decOf s.y) (decOf s.z)).x).lo), .int .i64 (((vecOf (decOf s.x) (decOf s.y) (decOf s.z)).x).hi), .bool (((vecOf (decOf s.x) (decOf s.y) (decOf s.z)).x).no), .int .i64 (((vecOf (decOf s.x) (decOf s.y) (decOf s.z)).y).lo), .int .i64 (((vecOf (decOf s.x) (decOf s.y) (decOf s.z)).y).hi), .bool (((vecOf (decOf s.x) (decOf s.y) (decOf s.z)).y).no), .int .i64 (((vecOf (decOf s.x) (decOf s.y) (decOf s.z)).z).lo), .int .i64 (((vecOf (decOf s.x) (decOf s.y) (decOf s.z)).z).hi), .bool (((vecOf (decOf s.x) (decOf s.y) (decOf s.z)).z).no)]) (c_vecOf (decOf s.x) (decOf s.y) (decOf s.z)) Try.func44 rfl (by decide) rfl rfl rfl ⟨rfl, rfl⟩) ?_
    refine dw_op (d := (some 24)) (.agg #[.int .i64 (((vecSub r.o (vecOf (decOf s.x) (decOf s.y) (decOf s.z))).x).lo), .int .i64 (((vecSub r.o (vecOf (decOf s.x) (decOf s.y) (decOf s.z))).x).hi), .bool (((vecSub r.o (vecOf (decOf s.x) (decOf s.y) (decOf s.z))).x).no), .int .i64 (((vecSub r.o (vecOf (decOf s.x) (decOf s.y) (decOf s.z))).y).lo), .int .i64 (((vecSub r.o (vecOf (decOf s.x) (decOf s.y) (decOf s.z))).y).hi), .bool (((vecSub r.o (vecOf (decOf s.x) (decOf s.y) (decOf s.z))).y).no), .int .i64 (((vecSub r.o (vecOf (decOf s.x) (decOf s.y) (decOf s.z))).z).lo), .int .i64 (((vecSub r.o (vecOf (decOf s.x) (decOf s.y) (decOf s.z))).z).hi), .bool (((vecSub r.o (vecOf (decOf s.x) (decOf s.y) (decOf s.z))).z).no)]) rfl rfl rfl (st_cf (vs := [.agg #[.int .i64 r.o.x.lo, .int .i64 r.o.x.hi, .bool r.o.x.no, .int .i64 r.o.y.lo, .int .i64 r.o.y.hi, .bool r.o.y.no, .int .i64 r.o.z.lo, .int .i64 r.o.z.hi, .bool r.o.z.no], .agg #[.int .i64 (((vecOf (decOf s.x) (decOf s.y) (decOf s.z)).x).lo), .int .i64 (((vecOf (decOf s.x) (decOf s.y) (decOf s.z)).x).hi), .bool (((vecOf (decOf s.x) (decOf s.y) (decOf s.z)).x).no), .int .i64 (((vecOf (decOf s.x) (decOf s.y) (decOf s.z)).y).lo), .int .i64 (((vecOf (decOf s.x) (decOf s.y) (decOf s.z)).y).hi), .bool (((vecOf (decOf s.x) (decOf s.y) (decOf s.z)).y).no), .int .i64 (((vecOf (decOf s.x) (decOf s.y) (decOf s.z)).z).lo), .int .i64 (((vecOf (decOf s.x) (decOf s.y) (decOf s.z)).z).hi), .bool (((vecOf (decOf s.x) (decOf s.y) (decOf s.z)).z).no)]]) (r := .agg #[.int .i64 (((vecSub r.o (vecOf (decOf s.x) (decOf s.y) (decOf s.z))).x).lo), .int .i64 (((vecSub r.o (vecOf (decOf s.x) (decOf s.y) (decOf s.z))).x).hi), .bool (((vecSub r.o (vecOf (decOf s.x) (decOf s.y) (decOf s.z))).x).no), .int .i64 (((vecSub r.o (vecOf (decOf s.x) (decOf s.y) (decOf s.z))).y).lo), .int .i64 (((vecSub r.o (vecOf (decOf s.x) (decOf s.y) (decOf s.z))).y).hi), .bool (((vecSub r.o (vecOf (decOf s.x) (decOf s.y) (decOf s.z))).y).no), .int .i64 (((vecSub r.o (vecOf (decOf s.x) (decOf s.y) (decOf s.z))).z).lo), .int .i64 (((vecSub r.o (vecOf (decOf s.x) (decOf s.y) (decOf s.z))).z).hi), .bool (((vecSub r.o (vecOf (decOf s.x) (decOf s.y) (decOf s.z))).z).no)]) (c_vecSub r.o (vecOf (decOf s.x) (decOf s.y) (decOf s.z))) Try.func117 rfl (by decide) rfl rfl rfl ⟨rfl, rfl⟩) ?_
    refine dw_nil ?_
    intro g3
    refine ar_op (d := none) rfl rfl (st_sta (g := g3) (off := 0) (us := [.int .i64 (((vecSub r.o (vecOf (decOf s.x) (decOf s.y) (decOf s.z))).x).lo), .int .i64 (((vecSub r.o (vecOf (decOf s.x) (decOf s.y) (decOf s.z))).x).hi), .bool (((vecSub r.o (vecOf (decOf s.x) (decOf s.y) (decOf s.z))).x).no), .int .i64 (((vecSub r.o (vecOf (decOf s.x) (decOf s.y) (decOf s.z))).y).lo), .int .i64 (((vecSub r.o (vecOf (decOf s.x) (decOf s.y) (decOf s.z))).y).hi), .bool (((vecSub r.o (vecOf (decOf s.x) (decOf s.y) (decOf s.z))).y).no), .int .i64 (((vecSub r.o (vecOf (decOf s.x) (decOf s.y) (decOf s.z))).z).lo), .int .i64 (((vecSub r.o (vecOf (decOf s.x) (decOf s.y) (decOf s.z))).z).hi), .bool (((vecSub r.o (vecOf (decOf s.x) (decOf s.y) (decOf s.z))).z).no)]) (cs := [.int .i64 (((vecSub r.o (vecOf (decOf s.x) (decOf s.y) (decOf s.z))).x).lo), .int .i64 (((vecSub r.o (vecOf (decOf s.x) (decOf s.y) (decOf s.z))).x).hi), .bool (((vecSub r.o (vecOf (decOf s.x) (decOf s.y) (decOf s.z))).x).no), .int .i64 (((vecSub r.o (vecOf (decOf s.x) (decOf s.y) (decOf s.z))).y).lo), .int .i64 (((vecSub r.o (vecOf (decOf s.x) (decOf s.y) (decOf s.z))).y).hi), .bool (((vecSub r.o (vecOf (decOf s.x) (decOf s.y) (decOf s.z))).y).no), .int .i64 (((vecSub r.o (vecOf (decOf s.x) (decOf s.y) (decOf s.z))).z).lo), .int .i64 (((vecSub r.o (vecOf (decOf s.x) (decOf s.y) (decOf s.z))).z).hi), .bool (((vecSub r.o (vecOf (decOf s.x) (decOf s.y) (decOf s.z))).z).no)]) agg57 0 rfl rfl rfl rfl rfl rfl rfl rfl rfl ?_)
    refine ar_nil ?_
    refine ac_seq ?_
    refine ac_draw0 (id := 4) [0, 1, 2, 3, 4, 5, 6, 7, 8, 9, 10, 11, 12, 13, 14, 15, 16] [17, 18] _ (by kernel_rfl) follows rfl  ?_
    refine dw_op (d := (some 25)) (.pointer (some ⟨g1, 9, none⟩)) rfl rfl rfl (st_fa (g := g1) (off := 0) rfl fa77_1 rfl ⟨rfl, rfl⟩) ?_
    refine dw_op (d := (some 26)) (.agg #[.int .i64 r.d.x.lo, .int .i64 r.d.x.hi, .bool r.d.x.no, .int .i64 r.d.y.lo, .int .i64 r.d.y.hi, .bool r.d.y.no, .int .i64 r.d.z.lo, .int .i64 r.d.z.hi, .bool r.d.z.no]) rfl rfl rfl (st_lda (g := g1) (off := 9) (vs := [.int .i64 r.d.x.lo, .int .i64 r.d.x.hi, .bool r.d.x.no, .int .i64 r.d.y.lo, .int .i64 r.d.y.hi, .bool r.d.y.no, .int .i64 r.d.z.lo, .int .i64 r.d.z.hi, .bool r.d.z.no]) agg57 2 rfl rfl rfl rfl rfl rfl ⟨rfl, rfl⟩) ?_
    refine dw_op (d := (some 27)) (.agg #[.int .i64 ((vecLen2 r.d).lo), .int .i64 ((vecLen2 r.d).hi), .bool ((vecLen2 r.d).no)]) rfl rfl rfl (st_cf (vs := [.agg #[.int .i64 r.d.x.lo, .int .i64 r.d.x.hi, .bool r.d.x.no, .int .i64 r.d.y.lo, .int .i64 r.d.y.hi, .bool r.d.y.no, .int .i64 r.d.z.lo, .int .i64 r.d.z.hi, .bool r.d.z.no]]) (r := .agg #[.int .i64 ((vecLen2 r.d).lo), .int .i64 ((vecLen2 r.d).hi), .bool ((vecLen2 r.d).no)]) (c_vecLen2 r.d) Try.func52 rfl (by decide) rfl rfl rfl ⟨rfl, rfl⟩) ?_
    refine dw_op (d := (some 28)) (.agg #[.int .i64 (((vecSub r.o (vecOf (decOf s.x) (decOf s.y) (decOf s.z))).x).lo), .int .i64 (((vecSub r.o (vecOf (decOf s.x) (decOf s.y) (decOf s.z))).x).hi), .bool (((vecSub r.o (vecOf (decOf s.x) (decOf s.y) (decOf s.z))).x).no), .int .i64 (((vecSub r.o (vecOf (decOf s.x) (decOf s.y) (decOf s.z))).y).lo), .int .i64 (((vecSub r.o (vecOf (decOf s.x) (decOf s.y) (decOf s.z))).y).hi), .bool (((vecSub r.o (vecOf (decOf s.x) (decOf s.y) (decOf s.z))).y).no), .int .i64 (((vecSub r.o (vecOf (decOf s.x) (decOf s.y) (decOf s.z))).z).lo), .int .i64 (((vecSub r.o (vecOf (decOf s.x) (decOf s.y) (decOf s.z))).z).hi), .bool (((vecSub r.o (vecOf (decOf s.x) (decOf s.y) (decOf s.z))).z).no)]) rfl rfl rfl (st_lda (g := g3) (off := 0) (vs := [.int .i64 (((vecSub r.o (vecOf (decOf s.x) (decOf s.y) (decOf s.z))).x).lo), .int .i64 (((vecSub r.o (vecOf (decOf s.x) (decOf s.y) (decOf s.z))).x).hi), .bool (((vecSub r.o (vecOf (decOf s.x) (decOf s.y) (decOf s.z))).x).no), .int .i64 (((vecSub r.o (vecOf (decOf s.x) (decOf s.y) (decOf s.z))).y).lo), .int .i64 (((vecSub r.o (vecOf (decOf s.x) (decOf s.y) (decOf s.z))).y).hi), .bool (((vecSub r.o (vecOf (decOf s.x) (decOf s.y) (decOf s.z))).y).no), .int .i64 (((vecSub r.o (vecOf (decOf s.x) (decOf s.y) (decOf s.z))).z).lo), .int .i64 (((vecSub r.o (vecOf (decOf s.x) (decOf s.y) (decOf s.z))).z).hi), .bool (((vecSub r.o (vecOf (decOf s.x) (decOf s.y) (decOf s.z))).z).no)]) agg57 0 rfl rfl rfl rfl rfl rfl ⟨rfl, rfl⟩) ?_
    refine dw_op (d := (some 29)) (.pointer (some ⟨g1, 9, none⟩)) rfl rfl rfl (st_fa (g := g1) (off := 0) rfl fa77_1 rfl ⟨rfl, rfl⟩) ?_
    refine dw_op (d := (some 30)) (.agg #[.int .i64 r.d.x.lo, .int .i64 r.d.x.hi, .bool r.d.x.no, .int .i64 r.d.y.lo, .int .i64 r.d.y.hi, .bool r.d.y.no, .int .i64 r.d.z.lo, .int .i64 r.d.z.hi, .bool r.d.z.no]) rfl rfl rfl (st_lda (g := g1) (off := 9) (vs := [.int .i64 r.d.x.lo, .int .i64 r.d.x.hi, .bool r.d.x.no, .int .i64 r.d.y.lo, .int .i64 r.d.y.hi, .bool r.d.y.no, .int .i64 r.d.z.lo, .int .i64 r.d.z.hi, .bool r.d.z.no]) agg57 2 rfl rfl rfl rfl rfl rfl ⟨rfl, rfl⟩) ?_
    refine dw_op (d := (some 31)) (.agg #[.int .i64 ((sceneMeet_e0 s r).lo), .int .i64 ((sceneMeet_e0 s r).hi), .bool ((sceneMeet_e0 s r).no)]) rfl rfl rfl (st_cf (vs := [.agg #[.int .i64 (((vecSub r.o (vecOf (decOf s.x) (decOf s.y) (decOf s.z))).x).lo), .int .i64 (((vecSub r.o (vecOf (decOf s.x) (decOf s.y) (decOf s.z))).x).hi), .bool (((vecSub r.o (vecOf (decOf s.x) (decOf s.y) (decOf s.z))).x).no), .int .i64 (((vecSub r.o (vecOf (decOf s.x) (decOf s.y) (decOf s.z))).y).lo), .int .i64 (((vecSub r.o (vecOf (decOf s.x) (decOf s.y) (decOf s.z))).y).hi), .bool (((vecSub r.o (vecOf (decOf s.x) (decOf s.y) (decOf s.z))).y).no), .int .i64 (((vecSub r.o (vecOf (decOf s.x) (decOf s.y) (decOf s.z))).z).lo), .int .i64 (((vecSub r.o (vecOf (decOf s.x) (decOf s.y) (decOf s.z))).z).hi), .bool (((vecSub r.o (vecOf (decOf s.x) (decOf s.y) (decOf s.z))).z).no)], .agg #[.int .i64 r.d.x.lo, .int .i64 r.d.x.hi, .bool r.d.x.no, .int .i64 r.d.y.lo, .int .i64 r.d.y.hi, .bool r.d.y.no, .int .i64 r.d.z.lo, .int .i64 r.d.z.hi, .bool r.d.z.no]]) (r := .agg #[.int .i64 ((sceneMeet_e0 s r).lo), .int .i64 ((sceneMeet_e0 s r).hi), .bool ((sceneMeet_e0 s r).no)]) (c_vecDot (vecSub r.o (vecOf (decOf s.x) (decOf s.y) (decOf s.z))) r.d) Try.func120 rfl (by decide) rfl rfl rfl ⟨rfl, rfl⟩) ?_
    refine dw_op (d := (some 32)) (.agg #[.int .i64 (((vecSub r.o (vecOf (decOf s.x) (decOf s.y) (decOf s.z))).x).lo), .int .i64 (((vecSub r.o (vecOf (decOf s.x) (decOf s.y) (decOf s.z))).x).hi), .bool (((vecSub r.o (vecOf (decOf s.x) (decOf s.y) (decOf s.z))).x).no), .int .i64 (((vecSub r.o (vecOf (decOf s.x) (decOf s.y) (decOf s.z))).y).lo), .int .i64 (((vecSub r.o (vecOf (decOf s.x) (decOf s.y) (decOf s.z))).y).hi), .bool (((vecSub r.o (vecOf (decOf s.x) (decOf s.y) (decOf s.z))).y).no), .int .i64 (((vecSub r.o (vecOf (decOf s.x) (decOf s.y) (decOf s.z))).z).lo), .int .i64 (((vecSub r.o (vecOf (decOf s.x) (decOf s.y) (decOf s.z))).z).hi), .bool (((vecSub r.o (vecOf (decOf s.x) (decOf s.y) (decOf s.z))).z).no)]) rfl rfl rfl (st_lda (g := g3) (off := 0) (vs := [.int .i64 (((vecSub r.o (vecOf (decOf s.x) (decOf s.y) (decOf s.z))).x).lo), .int .i64 (((vecSub r.o (vecOf (decOf s.x) (decOf s.y) (decOf s.z))).x).hi), .bool (((vecSub r.o (vecOf (decOf s.x) (decOf s.y) (decOf s.z))).x).no), .int .i64 (((vecSub r.o (vecOf (decOf s.x) (decOf s.y) (decOf s.z))).y).lo), .int .i64 (((vecSub r.o (vecOf (decOf s.x) (decOf s.y) (decOf s.z))).y).hi), .bool (((vecSub r.o (vecOf (decOf s.x) (decOf s.y) (decOf s.z))).y).no), .int .i64 (((vecSub r.o (vecOf (decOf s.x) (decOf s.y) (decOf s.z))).z).lo), .int .i64 (((vecSub r.o (vecOf (decOf s.x) (decOf s.y) (decOf s.z))).z).hi), .bool (((vecSub r.o (vecOf (decOf s.x) (decOf s.y) (decOf s.z))).z).no)]) agg57 0 rfl rfl rfl rfl rfl rfl ⟨rfl, rfl⟩) ?_
    refine dw_op (d := (some 33)) (.agg #[.int .i64 ((sceneMeet_e1 s r).lo), .int .i64 ((sceneMeet_e1 s r).hi), .bool ((sceneMeet_e1 s r).no)]) rfl rfl rfl (st_cf (vs := [.agg #[.int .i64 (((vecSub r.o (vecOf (decOf s.x) (decOf s.y) (decOf s.z))).x).lo), .int .i64 (((vecSub r.o (vecOf (decOf s.x) (decOf s.y) (decOf s.z))).x).hi), .bool (((vecSub r.o (vecOf (decOf s.x) (decOf s.y) (decOf s.z))).x).no), .int .i64 (((vecSub r.o (vecOf (decOf s.x) (decOf s.y) (decOf s.z))).y).lo), .int .i64 (((vecSub r.o (vecOf (decOf s.x) (decOf s.y) (decOf s.z))).y).hi), .bool (((vecSub r.o (vecOf (decOf s.x) (decOf s.y) (decOf s.z))).y).no), .int .i64 (((vecSub r.o (vecOf (decOf s.x) (decOf s.y) (decOf s.z))).z).lo), .int .i64 (((vecSub r.o (vecOf (decOf s.x) (decOf s.y) (decOf s.z))).z).hi), .bool (((vecSub r.o (vecOf (decOf s.x) (decOf s.y) (decOf s.z))).z).no)]]) (r := .agg #[.int .i64 ((sceneMeet_e1 s r).lo), .int .i64 ((sceneMeet_e1 s r).hi), .bool ((sceneMeet_e1 s r).no)]) (c_vecLen2 (vecSub r.o (vecOf (decOf s.x) (decOf s.y) (decOf s.z)))) Try.func52 rfl (by decide) rfl rfl rfl ⟨rfl, rfl⟩) ?_
    refine dw_op (d := (some 34)) (.pointer (some ⟨g0, 7, none⟩)) rfl rfl rfl (st_fa (g := g0) (off := 0) rfl fa86_4 rfl ⟨rfl, rfl⟩) ?_
    refine dw_op (d := (some 35)) (.agg #[.int .i64 s.r.c, .int .i64 s.r.scale]) rfl rfl rfl (st_lda (g := g0) (off := 7) (vs := [.int .i64 s.r.c, .int .i64 s.r.scale]) agg83 3 rfl rfl rfl rfl rfl rfl ⟨rfl, rfl⟩) ?_
    refine dw_op (d := (some 36)) (.agg #[.int .i64 ((decOf s.r).lo), .int .i64 ((decOf s.r).hi), .bool ((decOf s.r).no)]) rfl rfl rfl (st_cf (vs := [.agg #[.int .i64 s.r.c, .int .i64 s.r.scale]]) (r := .agg #[.int .i64 ((decOf s.r).lo), .int .i64 ((decOf s.r).hi), .bool ((decOf s.r).no)]) (c_decOf s.r) Try.func118 rfl (by decide) rfl rfl rfl ⟨rfl, rfl⟩) ?_
    refine dw_op (d := (some 37)) (.agg #[.int .i64 ((ivSqr (decOf s.r)).lo), .int .i64 ((ivSqr (decOf s.r)).hi), .bool ((ivSqr (decOf s.r)).no)]) rfl rfl rfl (st_cf (vs := [.agg #[.int .i64 ((decOf s.r).lo), .int .i64 ((decOf s.r).hi), .bool ((decOf s.r).no)]]) (r := .agg #[.int .i64 ((ivSqr (decOf s.r)).lo), .int .i64 ((ivSqr (decOf s.r)).hi), .bool ((ivSqr (decOf s.r)).no)]) (c_ivSqr (decOf s.r)) Try.func94 rfl (by decide) rfl rfl rfl ⟨rfl, rfl⟩) ?_
    refine dw_op (d := (some 38)) (.agg #[.int .i64 ((ivSub (sceneMeet_e1 s r) (ivSqr (decOf s.r))).lo), .int .i64 ((ivSub (sceneMeet_e1 s r) (ivSqr (decOf s.r))).hi), .bool ((ivSub (sceneMeet_e1 s r) (ivSqr (decOf s.r))).no)]) rfl rfl rfl (st_cf (vs := [.agg #[.int .i64 ((sceneMeet_e1 s r).lo), .int .i64 ((sceneMeet_e1 s r).hi), .bool ((sceneMeet_e1 s r).no)], .agg #[.int .i64 ((ivSqr (decOf s.r)).lo), .int .i64 ((ivSqr (decOf s.r)).hi), .bool ((ivSqr (decOf s.r)).no)]]) (r := .agg #[.int .i64 ((ivSub (sceneMeet_e1 s r) (ivSqr (decOf s.r))).lo), .int .i64 ((ivSub (sceneMeet_e1 s r) (ivSqr (decOf s.r))).hi), .bool ((ivSub (sceneMeet_e1 s r) (ivSqr (decOf s.r))).no)]) (c_ivSub (sceneMeet_e1 s r) (ivSqr (decOf s.r))) Try.func30 rfl (by decide) rfl rfl rfl ⟨rfl, rfl⟩) ?_
    refine dw_op (d := (some 39)) (.tuple #[.agg #[.int .i64 (((sceneMeet_e2 s r).1).lo), .int .i64 (((sceneMeet_e2 s r).1).hi), .bool (((sceneMeet_e2 s r).1).no)], .int .i64 ((sceneMeet_e2 s r).2)]) rfl rfl rfl (st_cf (vs := [.agg #[.int .i64 ((vecLen2 r.d).lo), .int .i64 ((vecLen2 r.d).hi), .bool ((vecLen2 r.d).no)], .agg #[.int .i64 ((sceneMeet_e0 s r).lo), .int .i64 ((sceneMeet_e0 s r).hi), .bool ((sceneMeet_e0 s r).no)], .agg #[.int .i64 ((ivSub (sceneMeet_e1 s r) (ivSqr (decOf s.r))).lo), .int .i64 ((ivSub (sceneMeet_e1 s r) (ivSqr (decOf s.r))).hi), .bool ((ivSub (sceneMeet_e1 s r) (ivSqr (decOf s.r))).no)]]) (r := .tuple #[.agg #[.int .i64 (((sceneMeet_e2 s r).1).lo), .int .i64 (((sceneMeet_e2 s r).1).hi), .bool (((sceneMeet_e2 s r).1).no)], .int .i64 ((sceneMeet_e2 s r).2)]) (c_quadNear (vecLen2 r.d) (sceneMeet_e0 s r) (ivSub (sceneMeet_e1 s r) (ivSqr (decOf s.r)))) Try.func119 rfl (by decide) rfl rfl rfl ⟨rfl, rfl⟩) ?_
    refine dw_op (d := (some 40)) (.agg #[.int .i64 (((sceneMeet_e2 s r).1).lo), .int .i64 (((sceneMeet_e2 s r).1).hi), .bool (((sceneMeet_e2 s r).1).no)]) rfl rfl rfl (st_ex (vs := [.agg #[.int .i64 (((sceneMeet_e2 s r).1).lo), .int .i64 (((sceneMeet_e2 s r).1).hi), .bool (((sceneMeet_e2 s r).1).no)], .int .i64 ((sceneMeet_e2 s r).2)]) (v := .agg #[.int .i64 (((sceneMeet_e2 s r).1).lo), .int .i64 (((sceneMeet_e2 s r).1).hi), .bool (((sceneMeet_e2 s r).1).no)]) rfl rfl rfl ⟨rfl, rfl⟩) ?_
    refine dw_op (d := (some 41)) (.int .i64 ((sceneMeet_e2 s r).2)) rfl rfl rfl (st_ex (vs := [.agg #[.int .i64 (((sceneMeet_e2 s r).1).lo), .int .i64 (((sceneMeet_e2 s r).1).hi), .bool (((sceneMeet_e2 s r).1).no)], .int .i64 ((sceneMeet_e2 s r).2)]) (v := .int .i64 ((sceneMeet_e2 s r).2)) rfl rfl rfl ⟨rfl, rfl⟩) ?_
    refine dw_nil ?_
    refine ar_op (d := none) rfl rfl (st_sta (g := g2) (off := 0) (us := [.int .i64 (((sceneMeet_e2 s r).1).lo), .int .i64 (((sceneMeet_e2 s r).1).hi), .bool (((sceneMeet_e2 s r).1).no)]) (cs := [.int .i64 (((sceneMeet_e2 s r).1).lo), .int .i64 (((sceneMeet_e2 s r).1).hi), .bool (((sceneMeet_e2 s r).1).no)]) agg26 1 rfl rfl rfl rfl rfl rfl rfl rfl rfl ?_)
    refine ao 5 rfl rfl (st_assign (v := .int .i64 ((sceneMeet_e2 s r).2)) rfl rfl ?_)
    refine ar_nil ?_
    refine ac_ret ?_
    exact fin_eq (v := .tuple #[.agg #[.int .i64 (((sceneMeet_e2 s r).1).lo), .int .i64 (((sceneMeet_e2 s r).1).hi), .bool (((sceneMeet_e2 s r).1).no)], .int .i64 ((sceneMeet_e2 s r).2)]) (by show _ = (fun (r : Iv × Int) => (.tuple #[.agg #[.int .i64 r.1.lo, .int .i64 r.1.hi, .bool r.1.no], .int .i64 r.2] : Value)) (sceneMeet s r); rw [sceneMeet, h1] <;> rfl) (fin_ret (res_ct (vs := [.int .i64 (((sceneMeet_e2 s r).1).lo), .int .i64 (((sceneMeet_e2 s r).1).hi), .bool (((sceneMeet_e2 s r).1).no)]) agg26 1 rfl rfl rfl rfl rfl rfl rfl))
  · refine ac_else' (b := s.kind == 1) h1 rfl ?_
    refine ac_seq ?_
    refine ac_region_lit ?_
    refine ao 43 rfl rfl (st_bi (u := .int .i64 s.kind) (v := .int .i64 2) (r := .bool (s.kind == 2)) rfl rfl rfl (bi_eql rfl) ?_)
    refine ao 42 rfl rfl (st_assign (v := .bool (s.kind == 2)) rfl rfl ?_)
    refine ar_nil ?_
    refine bool_split (s.kind == 2) (fun h2 => ?_) (fun h2 => ?_)
    · refine ac_then' (b := s.kind == 2) h2 rfl ?_
      refine ac_seq ?_
      refine ac_draw1 (id := 6) [0, 1, 2, 3, 4, 5, 6, 7, 8, 9, 10] [12] 11 7 26 _ _ (by kernel_rfl) follows rfl zero26 ⟨_, rfl, rfl, rfl, rfl⟩ ?_
      refine dw_op (d := (some 44)) (.pointer (some ⟨g0, 5, none⟩)) rfl rfl rfl (st_fa (g := g0) (off := 0) rfl fa86_3 rfl ⟨rfl, rfl⟩) ?_
      refine dw_op (d := (some 45)) (.agg #[.int .i64 s.z.c, .int .i64 s.z.scale]) rfl rfl rfl (st_lda (g := g0) (off := 5) (vs := [.int .i64 s.z.c, .int .i64 s.z.scale]) agg83 2 rfl rfl rfl rfl rfl rfl ⟨rfl, rfl⟩) ?_
      refine dw_op (d := (some 46)) (.agg #[.int .i64 ((decOf s.z).lo), .int .i64 ((decOf s.z).hi), .bool ((decOf s.z).no)]) rfl rfl rfl (st_cf (vs := [.agg #[.int .i64 s.z.c, .int .i64 s.z.scale]]) (r := .agg #[.int .i64 ((decOf s.z).lo), .int .i64 ((decOf s.z).hi), .bool ((decOf s.z).no)]) (c_decOf s.z) Try.func118 rfl (by decide) rfl rfl rfl ⟨rfl, rfl⟩) ?_
      refine dw_op (d := (some 47)) (.pointer (some ⟨g1, 0, none⟩)) rfl rfl rfl (st_fa (g := g1) (off := 0) rfl fa77_0 rfl ⟨rfl, rfl⟩) ?_
      refine dw_op (d := (some 48)) (.pointer (some ⟨g1, 6, none⟩)) rfl rfl rfl (st_fa (g := g1) (off := 0) rfl fa57_2 rfl ⟨rfl, rfl⟩) ?_
      refine dw_op (d := (some 49)) (.agg #[.int .i64 r.o.z.lo, .int .i64 r.o.z.hi, .bool r.o.z.no]) rfl rfl rfl (st_lda (g := g1) (off := 6) (vs := [.int .i64 r.o.z.lo, .int .i64 r.o.z.hi, .bool r.o.z.no]) agg26 1 rfl rfl rfl rfl rfl rfl ⟨rfl, rfl⟩) ?_
      refine dw_op (d := (some 50)) (.agg #[.int .i64 ((ivSub (decOf s.z) r.o.z).lo), .int .i64 ((ivSub (decOf s.z) r.o.z).hi), .bool ((ivSub (decOf s.z) r.o.z).no)]) rfl rfl rfl (st_cf (vs := [.agg #[.int .i64 ((decOf s.z).lo), .int .i64 ((decOf s.z).hi), .bool ((decOf s.z).no)], .agg #[.int .i64 r.o.z.lo, .int .i64 r.o.z.hi, .bool r.o.z.no]]) (r := .agg #[.int .i64 ((ivSub (decOf s.z) r.o.z).lo), .int .i64 ((ivSub (decOf s.z) r.o.z).hi), .bool ((ivSub (decOf s.z) r.o.z).no)]) (c_ivSub (decOf s.z) r.o.z) Try.func30 rfl (by decide) rfl rfl rfl ⟨rfl, rfl⟩) ?_
      refine dw_op (d := (some 51)) (.pointer (some ⟨g1, 9, none⟩)) rfl rfl rfl (st_fa (g := g1) (off := 0) rfl fa77_1 rfl ⟨rfl, rfl⟩) ?_
      refine dw_op (d := (some 52)) (.pointer (some ⟨g1, 15, none⟩)) rfl rfl rfl (st_fa (g := g1) (off := 9) rfl fa57_2 rfl ⟨rfl, rfl⟩) ?_
      refine dw_op (d := (some 53)) (.agg #[.int .i64 r.d.z.lo, .int .i64 r.d.z.hi, .bool r.d.z.no]) rfl rfl rfl (st_lda (g := g1) (off := 15) (vs := [.int .i64 r.d.z.lo, .int .i64 r.d.z.hi, .bool r.d.z.no]) agg26 1 rfl rfl rfl rfl rfl rfl ⟨rfl, rfl⟩) ?_
      refine dw_op (d := (some 54)) (.agg #[.int .i64 ((ivDiv (ivSub (decOf s.z) r.o.z) r.d.z).lo), .int .i64 ((ivDiv (ivSub (decOf s.z) r.o.z) r.d.z).hi), .bool ((ivDiv (ivSub (decOf s.z) r.o.z) r.d.z).no)]) rfl rfl rfl (st_cf (vs := [.agg #[.int .i64 ((ivSub (decOf s.z) r.o.z).lo), .int .i64 ((ivSub (decOf s.z) r.o.z).hi), .bool ((ivSub (decOf s.z) r.o.z).no)], .agg #[.int .i64 r.d.z.lo, .int .i64 r.d.z.hi, .bool r.d.z.no]]) (r := .agg #[.int .i64 ((ivDiv (ivSub (decOf s.z) r.o.z) r.d.z).lo), .int .i64 ((ivDiv (ivSub (decOf s.z) r.o.z) r.d.z).hi), .bool ((ivDiv (ivSub (decOf s.z) r.o.z) r.d.z).no)]) (c_ivDiv (ivSub (decOf s.z) r.o.z) r.d.z) Try.func33 rfl (by decide) rfl rfl rfl ⟨rfl, rfl⟩) ?_
      refine dw_nil ?_
      intro g3
      refine ar_op (d := none) rfl rfl (st_sta (g := g3) (off := 0) (us := [.int .i64 ((ivDiv (ivSub (decOf s.z) r.o.z) r.d.z).lo), .int .i64 ((ivDiv (ivSub (decOf s.z) r.o.z) r.d.z).hi), .bool ((ivDiv (ivSub (decOf s.z) r.o.z) r.d.z).no)]) (cs := [.int .i64 ((ivDiv (ivSub (decOf s.z) r.o.z) r.d.z).lo), .int .i64 ((ivDiv (ivSub (decOf s.z) r.o.z) r.d.z).hi), .bool ((ivDiv (ivSub (decOf s.z) r.o.z) r.d.z).no)]) agg26 0 rfl rfl rfl rfl rfl rfl rfl rfl rfl ?_)
      refine ar_nil ?_
      refine ac_seq ?_
      refine ac_region_lit ?_
      refine ao 55 rfl rfl (st_fa (g := g3) (off := 0) rfl fa26_2 rfl ?_)
      refine ao 56 rfl rfl (st_ldc (g := g3) (off := 2) (v := .bool ((ivDiv (ivSub (decOf s.z) r.o.z) r.d.z).no)) cell4 0 rfl rfl rfl rfl rfl ?_)
      refine ao 57 rfl rfl (st_un (u := .bool ((ivDiv (ivSub (decOf s.z) r.o.z) r.d.z).no)) (v := .bool (!((ivDiv (ivSub (decOf s.z) r.o.z) r.d.z).no))) rfl rfl (un_not rfl) ?_)
      refine ar_nil ?_
      refine bool_split ((ivDiv (ivSub (decOf s.z) r.o.z) r.d.z).no) (fun h3 => ?_) (fun h3 => ?_)
      · refine ac_else' (b := !((ivDiv (ivSub (decOf s.z) r.o.z) r.d.z).no)) (by rw [h3]; rfl) rfl ?_
        refine ac_skip ?_
        refine ac_seq ?_
        refine ac_region_lit ?_
        refine ao 59 rfl rfl (st_cf (vs := []) (r := .agg #[.int .i64 ivNone.lo, .int .i64 ivNone.hi, .bool ivNone.no]) c_ivNone Try.func28 rfl (by decide) rfl rfl rfl ?_)
        refine ar_op (d := none) rfl rfl (st_sta (g := g2) (off := 0) (us := [.int .i64 ivNone.lo, .int .i64 ivNone.hi, .bool ivNone.no]) (cs := [.int .i64 ivNone.lo, .int .i64 ivNone.hi, .bool ivNone.no]) agg26 1 rfl rfl rfl rfl rfl rfl rfl rfl rfl ?_)
        refine ao 5 rfl rfl (st_assign (v := .int .i64 0) rfl rfl ?_)
        refine ar_nil ?_
        refine ac_ret ?_
        exact fin_eq (v := .tuple #[.agg #[.int .i64 ivNone.lo, .int .i64 ivNone.hi, .bool ivNone.no], .int .i64 0]) (by show _ = (fun (r : Iv × Int) => (.tuple #[.agg #[.int .i64 r.1.lo, .int .i64 r.1.hi, .bool r.1.no], .int .i64 r.2] : Value)) (sceneMeet s r); rw [sceneMeet, h3, h2, h1] <;> rfl) (fin_ret (res_ct (vs := [.int .i64 ivNone.lo, .int .i64 ivNone.hi, .bool ivNone.no]) agg26 1 rfl rfl rfl rfl rfl rfl rfl))
      · refine ac_then' (b := !((ivDiv (ivSub (decOf s.z) r.o.z) r.d.z).no)) (by rw [h3]; rfl) rfl ?_
        refine ac_seq ?_
        refine ac_region_lit ?_
        refine ao 58 rfl rfl (st_lda (g := g3) (off := 0) (vs := [.int .i64 ((ivDiv (ivSub (decOf s.z) r.o.z) r.d.z).lo), .int .i64 ((ivDiv (ivSub (decOf s.z) r.o.z) r.d.z).hi), .bool ((ivDiv (ivSub (decOf s.z) r.o.z) r.d.z).no)]) agg26 0 rfl rfl rfl rfl rfl rfl ?_)
        refine ar_op (d := none) rfl rfl (st_sta (g := g2) (off := 0) (us := [.int .i64 ((ivDiv (ivSub (decOf s.z) r.o.z) r.d.z).lo), .int .i64 ((ivDiv (ivSub (decOf s.z) r.o.z) r.d.z).hi), .bool ((ivDiv (ivSub (decOf s.z) r.o.z) r.d.z).no)]) (cs := [.int .i64 ((ivDiv (ivSub (decOf s.z) r.o.z) r.d.z).lo), .int .i64 ((ivDiv (ivSub (decOf s.z) r.o.z) r.d.z).hi), .bool ((ivDiv (ivSub (decOf s.z) r.o.z) r.d.z).no)]) agg26 1 rfl rfl rfl rfl rfl rfl rfl rfl rfl ?_)
        refine ao 5 rfl rfl (st_assign (v := .int .i64 1) rfl rfl ?_)
        refine ar_nil ?_
        refine ac_ret ?_
        exact fin_eq (v := .tuple #[.agg #[.int .i64 ((ivDiv (ivSub (decOf s.z) r.o.z) r.d.z).lo), .int .i64 ((ivDiv (ivSub (decOf s.z) r.o.z) r.d.z).hi), .bool ((ivDiv (ivSub (decOf s.z) r.o.z) r.d.z).no)], .int .i64 1]) (by show _ = (fun (r : Iv × Int) => (.tuple #[.agg #[.int .i64 r.1.lo, .int .i64 r.1.hi, .bool r.1.no], .int .i64 r.2] : Value)) (sceneMeet s r); rw [sceneMeet, h3, h2, h1] <;> rfl) (fin_ret (res_ct (vs := [.int .i64 ((ivDiv (ivSub (decOf s.z) r.o.z) r.d.z).lo), .int .i64 ((ivDiv (ivSub (decOf s.z) r.o.z) r.d.z).hi), .bool ((ivDiv (ivSub (decOf s.z) r.o.z) r.d.z).no)]) agg26 1 rfl rfl rfl rfl rfl rfl rfl))
    · refine ac_else' (b := s.kind == 2) h2 rfl ?_
      refine ac_skip ?_
      refine ac_seq ?_
      refine ac_region_lit ?_
      refine ao 59 rfl rfl (st_cf (vs := []) (r := .agg #[.int .i64 ivNone.lo, .int .i64 ivNone.hi, .bool ivNone.no]) c_ivNone Try.func28 rfl (by decide) rfl rfl rfl ?_)
      refine ar_op (d := none) rfl rfl (st_sta (g := g2) (off := 0) (us := [.int .i64 ivNone.lo, .int .i64 ivNone.hi, .bool ivNone.no]) (cs := [.int .i64 ivNone.lo, .int .i64 ivNone.hi, .bool ivNone.no]) agg26 0 rfl rfl rfl rfl rfl rfl rfl rfl rfl ?_)
      refine ao 5 rfl rfl (st_assign (v := .int .i64 0) rfl rfl ?_)
      refine ar_nil ?_
      refine ac_ret ?_
      exact fin_eq (v := .tuple #[.agg #[.int .i64 ivNone.lo, .int .i64 ivNone.hi, .bool ivNone.no], .int .i64 0]) (by show _ = (fun (r : Iv × Int) => (.tuple #[.agg #[.int .i64 r.1.lo, .int .i64 r.1.hi, .bool r.1.no], .int .i64 r.2] : Value)) (sceneMeet s r); rw [sceneMeet, h2, h1] <;> rfl) (fin_ret (res_ct (vs := [.int .i64 ivNone.lo, .int .i64 ivNone.hi, .bool ivNone.no]) agg26 0 rfl rfl rfl rfl rfl rfl rfl))
def sceneHit (s : Shape) (r : Ray) : Iv × Int := (bif ((sceneMeet s r).2) != 1 then (ivNone, (sceneMeet s r).2) else (bif decide ((((sceneMeet s r).1).hi) ≤ 0) then (ivNone, 2) else (bif decide ((((sceneMeet s r).1).lo) ≤ 0) then (ivNone, 0) else (((sceneMeet s r).1), 1))))
set_option maxRecDepth 100000 in
theorem c_sceneHit (s : Shape) (r : Ray) : Gets Try.prog 58 #[.agg #[.int .i64 s.kind, .int .i64 s.x.c, .int .i64 s.x.scale, .int .i64 s.y.c, .int .i64 s.y.scale, .int .i64 s.z.c, .int .i64 s.z.scale, .int .i64 s.r.c, .int .i64 s.r.scale, .int .i64 s.glow.a0, .int .i64 s.glow.a1, .int .i64 s.glow.a2], .agg #[.int .i64 r.o.x.lo, .int .i64 r.o.x.hi, .bool r.o.x.no, .int .i64 r.o.y.lo, .int .i64 r.o.y.hi, .bool r.o.y.no, .int .i64 r.o.z.lo, .int .i64 r.o.z.hi, .bool r.o.z.no, .int .i64 r.d.x.lo, .int .i64 r.d.x.hi, .bool r.d.x.no, .int .i64 r.d.y.lo, .int .i64 r.d.y.hi, .bool r.d.y.no, .int .i64 r.d.z.lo, .int .i64 r.d.z.hi, .bool r.d.z.no]] ((fun (r : Iv × Int) => (.tuple #[.agg #[.int .i64 r.1.lo, .int .i64 r.1.hi, .bool r.1.no], .int .i64 r.2] : Value)) (sceneHit s r)) := by
  refine gets_fin Try.func58 rfl rfl rfl ?_
  refine ac_seq ?_
  refine ac_region_lit ?_
  refine ao 2 rfl rfl (st_box (v := .agg #[.int .i64 s.kind, .int .i64 s.x.c, .int .i64 s.x.scale, .int .i64 s.y.c, .int .i64 s.y.scale, .int .i64 s.z.c, .int .i64 s.z.scale, .int .i64 s.r.c, .int .i64 s.r.scale, .int .i64 s.glow.a0, .int .i64 s.glow.a1, .int .i64 s.glow.a2]) (cs := [.int .i64 s.kind, .int .i64 s.x.c, .int .i64 s.x.scale, .int .i64 s.y.c, .int .i64 s.y.scale, .int .i64 s.z.c, .int .i64 s.z.scale, .int .i64 s.r.c, .int .i64 s.r.scale, .int .i64 s.glow.a0, .int .i64 s.glow.a1, .int .i64 s.glow.a2]) rfl rfl rfl fun g0 => ?_)
  refine ao 3 rfl rfl (st_box (v := .agg #[.int .i64 r.o.x.lo, .int .i64 r.o.x.hi, .bool r.o.x.no, .int .i64 r.o.y.lo, .int .i64 r.o.y.hi, .bool r.o.y.no, .int .i64 r.o.z.lo, .int .i64 r.o.z.hi, .bool r.o.z.no, .int .i64 r.d.x.lo, .int .i64 r.d.x.hi, .bool r.d.x.no, .int .i64 r.d.y.lo, .int .i64 r.d.y.hi, .bool r.d.y.no, .int .i64 r.d.z.lo, .int .i64 r.d.z.hi, .bool r.d.z.no]) (cs := [.int .i64 r.o.x.lo, .int .i64 r.o.x.hi, .bool r.o.x.no, .int .i64 r.o.y.lo, .int .i64 r.o.y.hi, .bool r.o.y.no, .int .i64 r.o.z.lo, .int .i64 r.o.z.hi, .bool r.o.z.no, .int .i64 r.d.x.lo, .int .i64 r.d.x.hi, .bool r.d.x.no, .int .i64 r.d.y.lo, .int .i64 r.d.y.hi, .bool r.d.y.no, .int .i64 r.d.z.lo, .int .i64 r.d.z.hi, .bool r.d.z.no]) rfl rfl rfl fun g1 => ?_)
  refine ao 4 rfl rfl (st_new zero26 rfl fun g2 => ?_)
  refine ao 5 rfl rfl (st_assign (v := .int .i64 0) rfl rfl ?_)
  refine ar_nil ?_
  refine ac_seq ?_
  refine ac_region_lit ?_
  refine ao 9 rfl rfl (st_lda (g := g0) (off := 0) (vs := [.int .i64 s.kind, .int .i64 s.x.c, .int .i64 s.x.scale, .int .i64 s.y.c, .int .i64 s.y.scale, .int .i64 s.z.c, .int .i64 s.z.scale, .int .i64 s.r.c, .int .i64 s.r.scale, .int .i64 s.glow.a0, .int .i64 s.glow.a1, .int .i64 s.glow.a2]) agg86 2 rfl rfl rfl rfl rfl rfl ?_)
  refine ao 10 rfl rfl (st_lda (g := g1) (off := 0) (vs := [.int .i64 r.o.x.lo, .int .i64 r.o.x.hi, .bool r.o.x.no, .int .i64 r.o.y.lo, .int .i64 r.o.y.hi, .bool r.o.y.no, .int .i64 r.o.z.lo, .int .i64 r.o.z.hi, .bool r.o.z.no, .int .i64 r.d.x.lo, .int .i64 r.d.x.hi, .bool r.d.x.no, .int .i64 r.d.y.lo, .int .i64 r.d.y.hi, .bool r.d.y.no, .int .i64 r.d.z.lo, .int .i64 r.d.z.hi, .bool r.d.z.no]) agg77 1 rfl rfl rfl rfl rfl rfl ?_)
  refine ao 11 rfl rfl (st_cf (vs := [.agg #[.int .i64 s.kind, .int .i64 s.x.c, .int .i64 s.x.scale, .int .i64 s.y.c, .int .i64 s.y.scale, .int .i64 s.z.c, .int .i64 s.z.scale, .int .i64 s.r.c, .int .i64 s.r.scale, .int .i64 s.glow.a0, .int .i64 s.glow.a1, .int .i64 s.glow.a2], .agg #[.int .i64 r.o.x.lo, .int .i64 r.o.x.hi, .bool r.o.x.no, .int .i64 r.o.y.lo, .int .i64 r.o.y.hi, .bool r.o.y.no, .int .i64 r.o.z.lo, .int .i64 r.o.z.hi, .bool r.o.z.no, .int .i64 r.d.x.lo, .int .i64 r.d.x.hi, .bool r.d.x.no, .int .i64 r.d.y.lo, .int .i64 r.d.y.hi, .bool r.d.y.no, .int .i64 r.d.z.lo, .int .i64 r.d.z.hi, .bool r.d.z.no]]) (r := .tuple #[.agg #[.int .i64 (((sceneMeet s r).1).lo), .int .i64 (((sceneMeet s r).1).hi), .bool (((sceneMeet s r).1).no)], .int .i64 ((sceneMeet s r).2)]) (c_sceneMeet s r) Try.func98 rfl (by decide) rfl rfl rfl ?_)
  refine ao 8 rfl rfl (st_move (v := .tuple #[.agg #[.int .i64 (((sceneMeet s r).1).lo), .int .i64 (((sceneMeet s r).1).hi), .bool (((sceneMeet s r).1).no)], .int .i64 ((sceneMeet s r).2)]) rfl rfl ?_)
  refine ao 12 rfl rfl (st_ex (vs := [.agg #[.int .i64 (((sceneMeet s r).1).lo), .int .i64 (((sceneMeet s r).1).hi), .bool (((sceneMeet s r).1).no)], .int .i64 ((sceneMeet s r).2)]) (v := .agg #[.int .i64 (((sceneMeet s r).1).lo), .int .i64 (((sceneMeet s r).1).hi), .bool (((sceneMeet s r).1).no)]) rfl rfl rfl ?_)
  refine ao 13 rfl rfl (st_ex (vs := [.agg #[.int .i64 (((sceneMeet s r).1).lo), .int .i64 (((sceneMeet s r).1).hi), .bool (((sceneMeet s r).1).no)], .int .i64 ((sceneMeet s r).2)]) (v := .int .i64 ((sceneMeet s r).2)) rfl rfl rfl ?_)
  refine ao 6 rfl rfl (st_new zero26 rfl fun g3 => ?_)
  refine ar_op (d := none) rfl rfl (st_sta (g := g3) (off := 0) (us := [.int .i64 (((sceneMeet s r).1).lo), .int .i64 (((sceneMeet s r).1).hi), .bool (((sceneMeet s r).1).no)]) (cs := [.int .i64 (((sceneMeet s r).1).lo), .int .i64 (((sceneMeet s r).1).hi), .bool (((sceneMeet s r).1).no)]) agg26 0 rfl rfl rfl rfl rfl rfl rfl rfl rfl ?_)
  refine ao 7 rfl rfl (st_assign (v := .int .i64 ((sceneMeet s r).2)) rfl rfl ?_)
  refine ar_nil ?_
  refine ac_seq ?_
  refine ac_block ?_
  refine ac_seq ?_
  refine ac_region_lit ?_
  refine ao 15 rfl rfl (st_move (v := .int .i64 ((sceneMeet s r).2)) rfl rfl ?_)
  refine ao 16 rfl rfl (st_bi (u := .int .i64 ((sceneMeet s r).2)) (v := .int .i64 1) (r := .bool (((sceneMeet s r).2) != 1)) rfl rfl rfl (bi_neq rfl) ?_)
  refine ao 14 rfl rfl (st_assign (v := .bool (((sceneMeet s r).2) != 1)) rfl rfl ?_)
  refine ar_nil ?_
  refine bool_split (((sceneMeet s r).2) != 1) (fun h1 => ?_) (fun h1 => ?_)
  · refine ac_then' (b := ((sceneMeet s r).2) != 1) h1 rfl ?_
    refine ac_seq ?_
    refine ac_region_lit ?_
    refine ao 17 rfl rfl (st_cf (vs := []) (r := .agg #[.int .i64 ivNone.lo, .int .i64 ivNone.hi, .bool ivNone.no]) c_ivNone Try.func28 rfl (by decide) rfl rfl rfl ?_)
    refine ao 18 rfl rfl (st_move (v := .int .i64 ((sceneMeet s r).2)) rfl rfl ?_)
    refine ar_op (d := none) rfl rfl (st_sta (g := g2) (off := 0) (us := [.int .i64 ivNone.lo, .int .i64 ivNone.hi, .bool ivNone.no]) (cs := [.int .i64 ivNone.lo, .int .i64 ivNone.hi, .bool ivNone.no]) agg26 1 rfl rfl rfl rfl rfl rfl rfl rfl rfl ?_)
    refine ao 5 rfl rfl (st_assign (v := .int .i64 ((sceneMeet s r).2)) rfl rfl ?_)
    refine ar_nil ?_
    refine ac_ret ?_
    exact fin_eq (v := .tuple #[.agg #[.int .i64 ivNone.lo, .int .i64 ivNone.hi, .bool ivNone.no], .int .i64 ((sceneMeet s r).2)]) (by show _ = (fun (r : Iv × Int) => (.tuple #[.agg #[.int .i64 r.1.lo, .int .i64 r.1.hi, .bool r.1.no], .int .i64 r.2] : Value)) (sceneHit s r); rw [sceneHit, h1] <;> rfl) (fin_ret (res_ct (vs := [.int .i64 ivNone.lo, .int .i64 ivNone.hi, .bool ivNone.no]) agg26 1 rfl rfl rfl rfl rfl rfl rfl))
  · refine ac_else' (b := ((sceneMeet s r).2) != 1) h1 rfl ?_
    refine ac_seq ?_
    refine ac_region_lit ?_
    refine ao 20 rfl rfl (st_fa (g := g3) (off := 0) rfl fa26_1 rfl ?_)
    refine ao 21 rfl rfl (st_ldc (g := g3) (off := 1) (v := .int .i64 (((sceneMeet s r).1).hi)) cell3 0 rfl rfl rfl rfl rfl ?_)
    refine ao 22 rfl rfl (st_bi (u := .int .i64 (((sceneMeet s r).1).hi)) (v := .int .i64 0) (r := .bool (decide ((((sceneMeet s r).1).hi) ≤ 0))) rfl rfl rfl (bi_leq rfl) ?_)
    refine ao 19 rfl rfl (st_assign (v := .bool (decide ((((sceneMeet s r).1).hi) ≤ 0))) rfl rfl ?_)
    refine ar_nil ?_
    refine bool_split (decide ((((sceneMeet s r).1).hi) ≤ 0)) (fun h2 => ?_) (fun h2 => ?_)
    · refine ac_then' (b := decide ((((sceneMeet s r).1).hi) ≤ 0)) h2 rfl ?_
      refine ac_seq ?_
      refine ac_region_lit ?_
      refine ao 23 rfl rfl (st_cf (vs := []) (r := .agg #[.int .i64 ivNone.lo, .int .i64 ivNone.hi, .bool ivNone.no]) c_ivNone Try.func28 rfl (by decide) rfl rfl rfl ?_)
      refine ar_op (d := none) rfl rfl (st_sta (g := g2) (off := 0) (us := [.int .i64 ivNone.lo, .int .i64 ivNone.hi, .bool ivNone.no]) (cs := [.int .i64 ivNone.lo, .int .i64 ivNone.hi, .bool ivNone.no]) agg26 1 rfl rfl rfl rfl rfl rfl rfl rfl rfl ?_)
      refine ao 5 rfl rfl (st_assign (v := .int .i64 2) rfl rfl ?_)
      refine ar_nil ?_
      refine ac_ret ?_
      exact fin_eq (v := .tuple #[.agg #[.int .i64 ivNone.lo, .int .i64 ivNone.hi, .bool ivNone.no], .int .i64 2]) (by show _ = (fun (r : Iv × Int) => (.tuple #[.agg #[.int .i64 r.1.lo, .int .i64 r.1.hi, .bool r.1.no], .int .i64 r.2] : Value)) (sceneHit s r); rw [sceneHit, h2, h1] <;> rfl) (fin_ret (res_ct (vs := [.int .i64 ivNone.lo, .int .i64 ivNone.hi, .bool ivNone.no]) agg26 1 rfl rfl rfl rfl rfl rfl rfl))
    · refine ac_else' (b := decide ((((sceneMeet s r).1).hi) ≤ 0)) h2 rfl ?_
      refine ac_seq ?_
      refine ac_region_lit ?_
      refine ao 25 rfl rfl (st_fa (g := g3) (off := 0) rfl fa26_0 rfl ?_)
      refine ao 26 rfl rfl (st_ldc (g := g3) (off := 0) (v := .int .i64 (((sceneMeet s r).1).lo)) cell3 0 rfl rfl rfl rfl rfl ?_)
      refine ao 27 rfl rfl (st_bi (u := .int .i64 (((sceneMeet s r).1).lo)) (v := .int .i64 0) (r := .bool (decide ((((sceneMeet s r).1).lo) ≤ 0))) rfl rfl rfl (bi_leq rfl) ?_)
      refine ao 24 rfl rfl (st_assign (v := .bool (decide ((((sceneMeet s r).1).lo) ≤ 0))) rfl rfl ?_)
      refine ar_nil ?_
      refine bool_split (decide ((((sceneMeet s r).1).lo) ≤ 0)) (fun h3 => ?_) (fun h3 => ?_)
      · refine ac_then' (b := decide ((((sceneMeet s r).1).lo) ≤ 0)) h3 rfl ?_
        refine ac_seq ?_
        refine ac_region_lit ?_
        refine ao 28 rfl rfl (st_cf (vs := []) (r := .agg #[.int .i64 ivNone.lo, .int .i64 ivNone.hi, .bool ivNone.no]) c_ivNone Try.func28 rfl (by decide) rfl rfl rfl ?_)
        refine ar_op (d := none) rfl rfl (st_sta (g := g2) (off := 0) (us := [.int .i64 ivNone.lo, .int .i64 ivNone.hi, .bool ivNone.no]) (cs := [.int .i64 ivNone.lo, .int .i64 ivNone.hi, .bool ivNone.no]) agg26 1 rfl rfl rfl rfl rfl rfl rfl rfl rfl ?_)
        refine ao 5 rfl rfl (st_assign (v := .int .i64 0) rfl rfl ?_)
        refine ar_nil ?_
        refine ac_ret ?_
        exact fin_eq (v := .tuple #[.agg #[.int .i64 ivNone.lo, .int .i64 ivNone.hi, .bool ivNone.no], .int .i64 0]) (by show _ = (fun (r : Iv × Int) => (.tuple #[.agg #[.int .i64 r.1.lo, .int .i64 r.1.hi, .bool r.1.no], .int .i64 r.2] : Value)) (sceneHit s r); rw [sceneHit, h3, h2, h1] <;> rfl) (fin_ret (res_ct (vs := [.int .i64 ivNone.lo, .int .i64 ivNone.hi, .bool ivNone.no]) agg26 1 rfl rfl rfl rfl rfl rfl rfl))
      · refine ac_else' (b := decide ((((sceneMeet s r).1).lo) ≤ 0)) h3 rfl ?_
        refine ac_skip ?_
        refine ac_seq ?_
        refine ac_region_lit ?_
        refine ao 29 rfl rfl (st_lda (g := g3) (off := 0) (vs := [.int .i64 (((sceneMeet s r).1).lo), .int .i64 (((sceneMeet s r).1).hi), .bool (((sceneMeet s r).1).no)]) agg26 0 rfl rfl rfl rfl rfl rfl ?_)
        refine ar_op (d := none) rfl rfl (st_sta (g := g2) (off := 0) (us := [.int .i64 (((sceneMeet s r).1).lo), .int .i64 (((sceneMeet s r).1).hi), .bool (((sceneMeet s r).1).no)]) (cs := [.int .i64 (((sceneMeet s r).1).lo), .int .i64 (((sceneMeet s r).1).hi), .bool (((sceneMeet s r).1).no)]) agg26 1 rfl rfl rfl rfl rfl rfl rfl rfl rfl ?_)
        refine ao 5 rfl rfl (st_assign (v := .int .i64 1) rfl rfl ?_)
        refine ar_nil ?_
        refine ac_ret ?_
        exact fin_eq (v := .tuple #[.agg #[.int .i64 (((sceneMeet s r).1).lo), .int .i64 (((sceneMeet s r).1).hi), .bool (((sceneMeet s r).1).no)], .int .i64 1]) (by show _ = (fun (r : Iv × Int) => (.tuple #[.agg #[.int .i64 r.1.lo, .int .i64 r.1.hi, .bool r.1.no], .int .i64 r.2] : Value)) (sceneHit s r); rw [sceneHit, h3, h2, h1] <;> rfl) (fin_ret (res_ct (vs := [.int .i64 (((sceneMeet s r).1).lo), .int .i64 (((sceneMeet s r).1).hi), .bool (((sceneMeet s r).1).no)]) agg26 1 rfl rfl rfl rfl rfl rfl rfl))
end Go.Proofs.Ythngkopcadlciaa
namespace Go.Proofs.Ythngkopcadlciaa
open Go.RowKit
attribute [local irreducible] AC AR DWalk
def near0 (r : Ray) : Int × Iv × Int := ((-1), ivNone, 2)
set_option maxRecDepth 100000 in
theorem c_near0 (r : Ray) : Gets Try.prog 57 #[.slice none 0 0, .agg #[.int .i64 r.o.x.lo, .int .i64 r.o.x.hi, .bool r.o.x.no, .int .i64 r.o.y.lo, .int .i64 r.o.y.hi, .bool r.o.y.no, .int .i64 r.o.z.lo, .int .i64 r.o.z.hi, .bool r.o.z.no, .int .i64 r.d.x.lo, .int .i64 r.d.x.hi, .bool r.d.x.no, .int .i64 r.d.y.lo, .int .i64 r.d.y.hi, .bool r.d.y.no, .int .i64 r.d.z.lo, .int .i64 r.d.z.hi, .bool r.d.z.no]] ((fun (r : Int × Iv × Int) => (.tuple #[.int .i64 r.1, .agg #[.int .i64 r.2.1.lo, .int .i64 r.2.1.hi, .bool r.2.1.no], .int .i64 r.2.2] : Value)) (near0 r)) := by
  refine gets_fin Try.func57 rfl rfl rfl ?_
  refine ac_seq ?_
  refine ac_region_lit ?_
  refine ao 3 rfl rfl (st_box (v := .agg #[.int .i64 r.o.x.lo, .int .i64 r.o.x.hi, .bool r.o.x.no, .int .i64 r.o.y.lo, .int .i64 r.o.y.hi, .bool r.o.y.no, .int .i64 r.o.z.lo, .int .i64 r.o.z.hi, .bool r.o.z.no, .int .i64 r.d.x.lo, .int .i64 r.d.x.hi, .bool r.d.x.no, .int .i64 r.d.y.lo, .int .i64 r.d.y.hi, .bool r.d.y.no, .int .i64 r.d.z.lo, .int .i64 r.d.z.hi, .bool r.d.z.no]) (cs := [.int .i64 r.o.x.lo, .int .i64 r.o.x.hi, .bool r.o.x.no, .int .i64 r.o.y.lo, .int .i64 r.o.y.hi, .bool r.o.y.no, .int .i64 r.o.z.lo, .int .i64 r.o.z.hi, .bool r.o.z.no, .int .i64 r.d.x.lo, .int .i64 r.d.x.hi, .bool r.d.x.no, .int .i64 r.d.y.lo, .int .i64 r.d.y.hi, .bool r.d.y.no, .int .i64 r.d.z.lo, .int .i64 r.d.z.hi, .bool r.d.z.no]) rfl rfl rfl fun g0 => ?_)
  refine ao 4 rfl rfl (st_assign (v := .int .i64 0) rfl rfl ?_)
  refine ao 5 rfl rfl (st_new zero26 rfl fun g1 => ?_)
  refine ao 6 rfl rfl (st_assign (v := .int .i64 0) rfl rfl ?_)
  refine ar_nil ?_
  refine ac_seq ?_
  refine ac_region_lit ?_
  refine ao 17 rfl rfl (st_cf (vs := []) (r := .agg #[.int .i64 ivNone.lo, .int .i64 ivNone.hi, .bool ivNone.no]) c_ivNone Try.func28 rfl (by decide) rfl rfl rfl ?_)
  refine ao 8 rfl rfl (st_new zero26 rfl fun g2 => ?_)
  refine ao 7 rfl rfl (st_assign (v := .int .i64 (-1)) rfl rfl ?_)
  refine ar_op (d := none) rfl rfl (st_sta (g := g2) (off := 0) (us := [.int .i64 ivNone.lo, .int .i64 ivNone.hi, .bool ivNone.no]) (cs := [.int .i64 ivNone.lo, .int .i64 ivNone.hi, .bool ivNone.no]) agg26 0 rfl rfl rfl rfl rfl rfl rfl rfl rfl ?_)
  refine ar_nil ?_
  refine ac_seq ?_
  refine ac_region_lit ?_
  refine ao 9 rfl rfl (st_assign (v := .slice none 0 0) rfl rfl ?_)
  refine ar_nil ?_
  refine ac_seq ?_
  refine ac_seq ?_
  refine ac_region_lit ?_
  refine ao 18 rfl rfl (st_move (v := .slice none 0 0) rfl rfl ?_)
  refine ao 19 rfl rfl (st_ln (a := none) (m := 0) (c := 0) rfl Try.underlying74 rfl ?_)
  refine ao 20 rfl rfl (st_move (v := .int .i64 0) rfl rfl ?_)
  refine ar_nil ?_
  refine ac_block ?_
  refine ac_rounds 61 ?_
  refine ar_round ?_
  refine ac_seq ?_
  refine ac_region_lit ?_
  refine ao 21 rfl rfl (st_bi (u := .int .i64 0) (v := .int .i64 0) (r := .bool false) rfl rfl rfl (bi_lss (by decide)) ?_)
  refine ar_nil ?_
  refine ac_seq ?_
  refine ac_else rfl ?_
  refine ac_exit ?_
  refine ac_seq ?_
  refine ac_seq ?_
  refine ac_region_lit ?_
  refine ao 55 rfl rfl (st_move (v := .int .i64 (-1)) rfl rfl ?_)
  refine ao 56 rfl rfl (st_bi (u := .int .i64 (-1)) (v := .int .i64 0) (r := .bool true) rfl rfl rfl (bi_lss (by decide)) ?_)
  refine ar_nil ?_
  refine ac_then rfl ?_
  refine ac_seq ?_
  refine ac_region_lit ?_
  refine ao 57 rfl rfl (st_cf (vs := []) (r := .agg #[.int .i64 ivNone.lo, .int .i64 ivNone.hi, .bool ivNone.no]) c_ivNone Try.func28 rfl (by decide) rfl rfl rfl ?_)
  refine ao 4 rfl rfl (st_assign (v := .int .i64 (-1)) rfl rfl ?_)
  refine ar_op (d := none) rfl rfl (st_sta (g := g1) (off := 0) (us := [.int .i64 ivNone.lo, .int .i64 ivNone.hi, .bool ivNone.no]) (cs := [.int .i64 ivNone.lo, .int .i64 ivNone.hi, .bool ivNone.no]) agg26 1 rfl rfl rfl rfl rfl rfl rfl rfl rfl ?_)
  refine ao 6 rfl rfl (st_assign (v := .int .i64 2) rfl rfl ?_)
  refine ar_nil ?_
  refine ac_ret ?_
  exact fin_eq (v := .tuple #[.int .i64 (-1), .agg #[.int .i64 ivNone.lo, .int .i64 ivNone.hi, .bool ivNone.no], .int .i64 2]) rfl (fin_ret (res_tct (vs := [.int .i64 ivNone.lo, .int .i64 ivNone.hi, .bool ivNone.no]) agg26 1 rfl rfl rfl rfl rfl rfl rfl rfl))
end Go.Proofs.Ythngkopcadlciaa
namespace Go.Proofs.Ythngkopcadlciaa
def flat (l : List Iv) : List Value := l.flatMap fun a => [.int .i64 a.lo, .int .i64 a.hi, .bool a.no]
theorem flat_length (l : List Iv) : (flat l).length = 3 * l.length := by
  induction l with
  | nil => rfl
  | cons a l ih => simp only [flat, List.flatMap_cons, List.length_append, List.length_cons, List.length_nil] at ih ⊢; omega
theorem flat_append (a b : List Iv) : flat (a ++ b) = flat a ++ flat b := by simp [flat]
def cel (a : Iv) : List Value := [.int .i64 a.lo, .int .i64 a.hi, .bool a.no]
end Go.Proofs.Ythngkopcadlciaa
namespace Go.Proofs.Ythngkopcadlciaa
open Go.RowKit
attribute [local irreducible] AC AR DWalk
def rayC (ray : Ray) : List Value := [.int .i64 ray.o.x.lo, .int .i64 ray.o.x.hi, .bool ray.o.x.no, .int .i64 ray.o.y.lo, .int .i64 ray.o.y.hi, .bool ray.o.y.no, .int .i64 ray.o.z.lo, .int .i64 ray.o.z.hi, .bool ray.o.z.no, .int .i64 ray.d.x.lo, .int .i64 ray.d.x.hi, .bool ray.d.x.no, .int .i64 ray.d.y.lo, .int .i64 ray.d.y.hi, .bool ray.d.y.no, .int .i64 ray.d.z.lo, .int .i64 ray.d.z.hi, .bool ray.d.z.no]
def shapeC (s : Shape) : List Value := [.int .i64 s.kind, .int .i64 s.x.c, .int .i64 s.x.scale, .int .i64 s.y.c, .int .i64 s.y.scale, .int .i64 s.z.c, .int .i64 s.z.scale, .int .i64 s.r.c, .int .i64 s.r.scale, .int .i64 s.glow.a0, .int .i64 s.glow.a1, .int .i64 s.glow.a2]
def loop2Of : Code → Option Code
  | .seq a b => match loopOf a with | some _ => loopOf b | none => loop2Of b
  | .cond _ a b => match loopOf a with | some _ => loopOf b | none => loop2Of b
  | .block _ a => loop2Of a
  | _ => none
def nearStep (ray : Ray) (k : Int) (s : Shape) (best : Int) (at_ : Iv) (all : List Iv) : Option (Int × Iv × List Iv) :=
  bif (sceneHit s ray).2 == 0 then none else bif (sceneHit s ray).2 == 2 then some (best, at_, all) else bif decide (best < 0) then some (k, (sceneHit s ray).1, all ++ [(sceneHit s ray).1]) else
  bif decide ((sceneHit s ray).1.hi < at_.hi) then some (k, (sceneHit s ray).1, all ++ [(sceneHit s ray).1]) else some (best, at_, all ++ [(sceneHit s ray).1])
set_option maxRecDepth 100000 in
theorem near_round (g3 g5 g8 b off N cap ty : Nat) (cs : List Value) (ray : Ray) (k m ca : Nat) (aa : Option Addr) (NA : List Box) (s : Shape) (best : Int) (at_ : Iv) (all : List Iv) {xs : List Value} {Q : Exit → Env → List Box → Prop} {E : Env} {c : Code} {j : Nat} (hc : Try.f57.body.bind loopOf = some c) (hk : k < N) (hm : m ≤ 1000000) (hR : Row 26 3 m xs (.slice aa m ca) NA) (hs : (cs.drop (off + k * 12)).take 12 = shapeC s) (hml : m = all.length) (hxs : xs = flat all) (q3 : E 3 = .pointer (some ⟨g3, 0, none⟩)) (q5 : E 5 = .pointer (some ⟨g5, 0, none⟩)) (q7 : E 7 = .int .i64 best) (q8 : E 8 = .pointer (some ⟨g8, 0, none⟩)) (q9 : E 9 = .slice aa m ca) (q18 : E 18 = .slice (some ⟨b, off, none⟩) N cap) (q19 : E 19 = .int .i64 (N : Int)) (q20 : E 20 = .int .i64 (k : Int))
    (Kret : nearStep ray (k : Int) s best at_ all = none → ∀ (E' : Env) (H' : List Box), E' 4 = .int .i64 (-1) → E' 5 = .pointer (some ⟨g5, 0, none⟩) → E' 6 = .int .i64 0 → (∃ (i : Nat) (x : Box), H'[i]? = some x ∧ x.g = g5 ∧ x.cs = cel ivNone) → Q .ret E' H')
    (Knext : ∀ best' at' all', nearStep ray (k : Int) s best at_ all = some (best', at', all') → ∀ (E' : Env) (m' ca' : Nat) (aa' : Option Addr) (NA' : List Box) (xs' : List Value), m' = all'.length → xs' = flat all' → m' ≤ m + 1 → Row 26 3 m' xs' (.slice aa' m' ca') NA' → E' 3 = .pointer (some ⟨g3, 0, none⟩) → E' 5 = .pointer (some ⟨g5, 0, none⟩) → E' 7 = .int .i64 best' → E' 8 = .pointer (some ⟨g8, 0, none⟩) → E' 9 = .slice aa' m' ca' → E' 18 = .slice (some ⟨b, off, none⟩) N cap → E' 19 = .int .i64 (N : Int) → E' 20 = .int .i64 (w64 ((k : Int) + 1)) → ARounds Try.prog 80 c Q j E' ([⟨g8, cel at', 26, false⟩, ⟨g5, [.int .i64 0, .int .i64 0, .bool false], 26, false⟩, ⟨g3, rayC ray, 77, false⟩, ⟨b, cs, ty, true⟩] ++ NA')) :
    ARounds Try.prog 80 c Q (j + 1) E ([⟨g8, cel at_, 26, false⟩, ⟨g5, [.int .i64 0, .int .i64 0, .bool false], 26, false⟩, ⟨g3, rayC ray, 77, false⟩, ⟨b, cs, ty, true⟩] ++ NA) := by
  rw [show Try.f57.body.bind loopOf = some _ from rfl] at hc
  cases hc
  obtain ⟨E0, rfl⟩ : ∃ E0 : Env, E = ((((((((E0.put (some 3) (.pointer (some ⟨g3, 0, none⟩))).put (some 5) (.pointer (some ⟨g5, 0, none⟩))).put (some 7) (.int .i64 best)).put (some 8) (.pointer (some ⟨g8, 0, none⟩))).put (some 9) (.slice aa m ca)).put (some 18) (.slice (some ⟨b, off, none⟩) N cap)).put (some 19) (.int .i64 (N : Int))).put (some 20) (.int .i64 (k : Int))) := ⟨E, by rw [put_self q3, put_self q5, put_self q7, put_self q8, put_self q9, put_self q18, put_self q19, put_self q20]⟩
  refine ar_round ?_
  refine ac_seq ?_
  refine ac_region_lit ?_
  refine ao 21 rfl rfl (st_bi (u := .int .i64 (k : Int)) (v := .int .i64 (N : Int)) (r := .bool (decide ((k : Int) < (N : Int)))) rfl rfl rfl (bi_lss rfl) ?_)
  refine ar_nil ?_
  refine ac_seq ?_
  refine ac_then' (b := decide ((k : Int) < (N : Int))) (decide_eq_true (show ((k : Int) < (N : Int)) by omega)) rfl ?_
  refine ac_skip ?_
  refine ac_seq ?_
  refine ac_block ?_
  refine ac_seq ?_
  refine ac_region_lit ?_
  refine ao 22 rfl rfl (st_move (v := .int .i64 (k : Int)) rfl rfl ?_)
  refine ao 23 rfl rfl (st_sa (g := b) (off := off) (m := N) (c := cap) (s := 12) (i := k) rfl Try.underlying74 (by kernel_rfl) rfl rfl hk ?_)
  refine ao 24 rfl rfl (st_lda (g := b) (off := off + k * 12) (vs := [.int .i64 s.kind, .int .i64 s.x.c, .int .i64 s.x.scale, .int .i64 s.y.c, .int .i64 s.y.scale, .int .i64 s.z.c, .int .i64 s.z.scale, .int .i64 s.r.c, .int .i64 s.r.scale, .int .i64 s.glow.a0, .int .i64 s.glow.a1, .int .i64 s.glow.a2]) agg86 3 rfl rfl rfl rfl rfl hs ?_)
  refine ao 11 rfl rfl (st_new zero86 rfl fun g0 => ?_)
  refine ao 10 rfl rfl (st_assign (v := .int .i64 (k : Int)) rfl rfl ?_)
  refine ar_op (d := none) rfl rfl (st_sta (g := g0) (off := 0) (us := [.int .i64 s.kind, .int .i64 s.x.c, .int .i64 s.x.scale, .int .i64 s.y.c, .int .i64 s.y.scale, .int .i64 s.z.c, .int .i64 s.z.scale, .int .i64 s.r.c, .int .i64 s.r.scale, .int .i64 s.glow.a0, .int .i64 s.glow.a1, .int .i64 s.glow.a2]) (cs := [.int .i64 s.kind, .int .i64 s.x.c, .int .i64 s.x.scale, .int .i64 s.y.c, .int .i64 s.y.scale, .int .i64 s.z.c, .int .i64 s.z.scale, .int .i64 s.r.c, .int .i64 s.r.scale, .int .i64 s.glow.a0, .int .i64 s.glow.a1, .int .i64 s.glow.a2]) agg86 0 rfl rfl rfl rfl rfl rfl rfl rfl rfl ?_)
  refine ar_nil ?_
  refine ac_seq ?_
  refine ac_region_lit ?_
  refine ao 26 rfl rfl (st_lda (g := g0) (off := 0) (vs := [.int .i64 s.kind, .int .i64 s.x.c, .int .i64 s.x.scale, .int .i64 s.y.c, .int .i64 s.y.scale, .int .i64 s.z.c, .int .i64 s.z.scale, .int .i64 s.r.c, .int .i64 s.r.scale, .int .i64 s.glow.a0, .int .i64 s.glow.a1, .int .i64 s.glow.a2]) agg86 0 rfl rfl rfl rfl rfl rfl ?_)
  refine ao 27 rfl rfl (st_lda (g := g3) (off := 0) (vs := [.int .i64 ray.o.x.lo, .int .i64 ray.o.x.hi, .bool ray.o.x.no, .int .i64 ray.o.y.lo, .int .i64 ray.o.y.hi, .bool ray.o.y.no, .int .i64 ray.o.z.lo, .int .i64 ray.o.z.hi, .bool ray.o.z.no, .int .i64 ray.d.x.lo, .int .i64 ray.d.x.hi, .bool ray.d.x.no, .int .i64 ray.d.y.lo, .int .i64 ray.d.y.hi, .bool ray.d.y.no, .int .i64 ray.d.z.lo, .int .i64 ray.d.z.hi, .bool ray.d.z.no]) agg77 3 rfl rfl rfl rfl rfl rfl ?_)
  refine ao 28 rfl rfl (st_cf (vs := [.agg #[.int .i64 s.kind, .int .i64 s.x.c, .int .i64 s.x.scale, .int .i64 s.y.c, .int .i64 s.y.scale, .int .i64 s.z.c, .int .i64 s.z.scale, .int .i64 s.r.c, .int .i64 s.r.scale, .int .i64 s.glow.a0, .int .i64 s.glow.a1, .int .i64 s.glow.a2], .agg #[.int .i64 ray.o.x.lo, .int .i64 ray.o.x.hi, .bool ray.o.x.no, .int .i64 ray.o.y.lo, .int .i64 ray.o.y.hi, .bool ray.o.y.no, .int .i64 ray.o.z.lo, .int .i64 ray.o.z.hi, .bool ray.o.z.no, .int .i64 ray.d.x.lo, .int .i64 ray.d.x.hi, .bool ray.d.x.no, .int .i64 ray.d.y.lo, .int .i64 ray.d.y.hi, .bool ray.d.y.no, .int .i64 ray.d.z.lo, .int .i64 ray.d.z.hi, .bool ray.d.z.no]]) (r := .tuple #[.agg #[.int .i64 (((sceneHit s ray).1).lo), .int .i64 (((sceneHit s ray).1).hi), .bool (((sceneHit s ray).1).no)], .int .i64 ((sceneHit s ray).2)]) (c_sceneHit s ray) Try.func58 rfl (by decide) rfl rfl rfl ?_)
  refine ao 25 rfl rfl (st_move (v := .tuple #[.agg #[.int .i64 (((sceneHit s ray).1).lo), .int .i64 (((sceneHit s ray).1).hi), .bool (((sceneHit s ray).1).no)], .int .i64 ((sceneHit s ray).2)]) rfl rfl ?_)
  refine ao 29 rfl rfl (st_ex (vs := [.agg #[.int .i64 (((sceneHit s ray).1).lo), .int .i64 (((sceneHit s ray).1).hi), .bool (((sceneHit s ray).1).no)], .int .i64 ((sceneHit s ray).2)]) (v := .agg #[.int .i64 (((sceneHit s ray).1).lo), .int .i64 (((sceneHit s ray).1).hi), .bool (((sceneHit s ray).1).no)]) rfl rfl rfl ?_)
  refine ao 30 rfl rfl (st_ex (vs := [.agg #[.int .i64 (((sceneHit s ray).1).lo), .int .i64 (((sceneHit s ray).1).hi), .bool (((sceneHit s ray).1).no)], .int .i64 ((sceneHit s ray).2)]) (v := .int .i64 ((sceneHit s ray).2)) rfl rfl rfl ?_)
  refine ao 12 rfl rfl (st_new zero26 rfl fun g1 => ?_)
  refine ar_op (d := none) rfl rfl (st_sta (g := g1) (off := 0) (us := [.int .i64 (((sceneHit s ray).1).lo), .int .i64 (((sceneHit s ray).1).hi), .bool (((sceneHit s ray).1).no)]) (cs := [.int .i64 (((sceneHit s ray).1).lo), .int .i64 (((sceneHit s ray).1).hi), .bool (((sceneHit s ray).1).no)]) agg26 0 rfl rfl rfl rfl rfl rfl rfl rfl rfl ?_)
  refine ao 13 rfl rfl (st_assign (v := .int .i64 ((sceneHit s ray).2)) rfl rfl ?_)
  refine ar_nil ?_
  refine ac_seq ?_
  refine ac_block ?_
  refine ac_seq ?_
  refine ac_region_lit ?_
  refine ao 32 rfl rfl (st_move (v := .int .i64 ((sceneHit s ray).2)) rfl rfl ?_)
  refine ao 33 rfl rfl (st_bi (u := .int .i64 ((sceneHit s ray).2)) (v := .int .i64 0) (r := .bool (((sceneHit s ray).2) == 0)) rfl rfl rfl (bi_eql rfl) ?_)
  refine ao 31 rfl rfl (st_assign (v := .bool (((sceneHit s ray).2) == 0)) rfl rfl ?_)
  refine ar_nil ?_
  refine bool_split (((sceneHit s ray).2) == 0) (fun h1 => ?_) (fun h1 => ?_)
  · refine ac_then' (b := ((sceneHit s ray).2) == 0) h1 rfl ?_
    refine ac_seq ?_
    refine ac_region_lit ?_
    refine ao 34 rfl rfl (st_cf (vs := []) (r := .agg #[.int .i64 ivNone.lo, .int .i64 ivNone.hi, .bool ivNone.no]) c_ivNone Try.func28 rfl (by decide) rfl rfl rfl ?_)
    refine ao 4 rfl rfl (st_assign (v := .int .i64 (-1)) rfl rfl ?_)
    refine ar_op (d := none) rfl rfl (st_sta (g := g5) (off := 0) (us := [.int .i64 ivNone.lo, .int .i64 ivNone.hi, .bool ivNone.no]) (cs := [.int .i64 ivNone.lo, .int .i64 ivNone.hi, .bool ivNone.no]) agg26 3 rfl rfl rfl rfl rfl rfl rfl rfl rfl ?_)
    refine ao 6 rfl rfl (st_assign (v := .int .i64 0) rfl rfl ?_)
    refine ar_nil ?_
    refine ac_ret ?_
    exact Kret (by rw [nearStep, h1]; rfl) _ _ rfl rfl rfl ⟨3, _, rfl, rfl, rfl⟩
  · refine ac_else' (b := ((sceneHit s ray).2) == 0) h1 rfl ?_
    refine ac_seq ?_
    refine ac_region_lit ?_
    refine ao 36 rfl rfl (st_move (v := .int .i64 ((sceneHit s ray).2)) rfl rfl ?_)
    refine ao 37 rfl rfl (st_bi (u := .int .i64 ((sceneHit s ray).2)) (v := .int .i64 2) (r := .bool (((sceneHit s ray).2) == 2)) rfl rfl rfl (bi_eql rfl) ?_)
    refine ao 35 rfl rfl (st_assign (v := .bool (((sceneHit s ray).2) == 2)) rfl rfl ?_)
    refine ar_nil ?_
    refine bool_split (((sceneHit s ray).2) == 2) (fun h2 => ?_) (fun h2 => ?_)
    · refine ac_then' (b := ((sceneHit s ray).2) == 2) h2 rfl ?_
      refine ac_exit ?_
      refine ac_region_lit ?_
      refine ao 54 rfl rfl (st_bi (u := .int .i64 (k : Int)) (v := .int .i64 1) (r := .int .i64 (w64 ((k : Int) + 1))) rfl rfl rfl (bi_add rfl) ?_)
      refine ao 20 rfl rfl (st_move (v := .int .i64 (w64 ((k : Int) + 1))) rfl rfl ?_)
      refine ar_nil ?_
      refine ar_dropR (List.Sublist.cons _ (List.Sublist.cons _ (List.Sublist.refl _))) (Knext _ _ _ (by rw [nearStep, h1, h2]; rfl) _ m ca aa NA _ hml hxs (Nat.le_succ _) hR rfl rfl rfl rfl rfl rfl rfl rfl)
    · refine ac_else' (b := ((sceneHit s ray).2) == 2) h2 rfl ?_
      refine ac_seq ?_
      refine ac_region_lit ?_
      refine ao 39 rfl rfl (st_move (v := .int .i64 best) rfl rfl ?_)
      refine ao 40 rfl rfl (st_bi (u := .int .i64 best) (v := .int .i64 0) (r := .bool (decide (best < 0))) rfl rfl rfl (bi_lss rfl) ?_)
      refine ao 41 rfl rfl (st_move (v := .bool (decide (best < 0))) rfl rfl ?_)
      refine bool_split (decide (best < 0)) (fun h3 => ?_) (fun h3 => ?_)
      · refine ar_sk (d := (some 42)) (by show ((decide (best < 0)) == false) = false; rw [h3]; rfl) rfl ?_
        refine ar_sk (d := (some 43)) (by show ((decide (best < 0)) == false) = false; rw [h3]; rfl) rfl ?_
        refine ar_sk (d := (some 44)) (by show ((decide (best < 0)) == false) = false; rw [h3]; rfl) rfl ?_
        refine ar_sk (d := (some 45)) (by show ((decide (best < 0)) == false) = false; rw [h3]; rfl) rfl ?_
        refine ar_sk (d := (some 46)) (by show ((decide (best < 0)) == false) = false; rw [h3]; rfl) rfl ?_
        refine ao 47 rfl rfl (st_pkt' (b := decide (best < 0)) (v := .bool true) h3 rfl rfl rfl ?_)
        refine ao 38 rfl rfl (st_assign (v := .bool true) rfl rfl ?_)
        refine ar_nil ?_
        refine ac_then rfl ?_
        refine ac_draw0 (id := 11) [0, 1, 2] [3] _ (by kernel_rfl) follows rfl  ?_
        refine dw_op (d := (some 48)) (.int .i64 (k : Int)) rfl rfl rfl (st_move (v := .int .i64 (k : Int)) rfl rfl ⟨rfl, rfl⟩) ?_
        refine dw_op (d := (some 49)) (.agg #[.int .i64 (((sceneHit s ray).1).lo), .int .i64 (((sceneHit s ray).1).hi), .bool (((sceneHit s ray).1).no)]) rfl rfl rfl (st_lda (g := g1) (off := 0) (vs := [.int .i64 (((sceneHit s ray).1).lo), .int .i64 (((sceneHit s ray).1).hi), .bool (((sceneHit s ray).1).no)]) agg26 0 rfl rfl rfl rfl rfl rfl ⟨rfl, rfl⟩) ?_
        refine dw_op (d := (some 7)) (.int .i64 (k : Int)) rfl rfl rfl (st_assign (v := .int .i64 (k : Int)) rfl rfl ⟨rfl, rfl⟩) ?_
        refine dw_nil ?_
        refine ar_op (d := none) rfl rfl (st_sta (g := g8) (off := 0) (us := [.int .i64 (((sceneHit s ray).1).lo), .int .i64 (((sceneHit s ray).1).hi), .bool (((sceneHit s ray).1).no)]) (cs := [.int .i64 (((sceneHit s ray).1).lo), .int .i64 (((sceneHit s ray).1).hi), .bool (((sceneHit s ray).1).no)]) agg26 2 rfl rfl rfl rfl rfl rfl rfl rfl rfl ?_)
        refine ar_nil ?_
        refine ac_region_lit ?_
        refine ao 50 rfl rfl (st_move (v := .slice aa m ca) rfl rfl ?_)
        refine ao 51 rfl rfl (st_lda (g := g1) (off := 0) (vs := [.int .i64 (((sceneHit s ray).1).lo), .int .i64 (((sceneHit s ray).1).hi), .bool (((sceneHit s ray).1).no)]) agg26 0 rfl rfl rfl rfl rfl rfl ?_)
        refine ao 52 rfl rfl (st_bs (us := [(0, .agg #[.int .i64 (((sceneHit s ray).1).lo), .int .i64 (((sceneHit s ray).1).hi), .bool (((sceneHit s ray).1).no)])]) (cs := [.int .i64 (((sceneHit s ray).1).lo), .int .i64 (((sceneHit s ray).1).hi), .bool (((sceneHit s ray).1).no)]) rfl rfl (bs24_1_0a _ _ _) fun g2 => ?_)
        refine ao 53 rfl rfl (st_appZ (A := [⟨g2, [.int .i64 (((sceneHit s ray).1).lo), .int .i64 (((sceneHit s ray).1).hi), .bool (((sceneHit s ray).1).no)], 26, false⟩, ⟨g1, [.int .i64 (((sceneHit s ray).1).lo), .int .i64 (((sceneHit s ray).1).hi), .bool (((sceneHit s ray).1).no)], 26, false⟩, ⟨g0, [.int .i64 s.kind, .int .i64 s.x.c, .int .i64 s.x.scale, .int .i64 s.y.c, .int .i64 s.y.scale, .int .i64 s.z.c, .int .i64 s.z.scale, .int .i64 s.r.c, .int .i64 s.r.scale, .int .i64 s.glow.a0, .int .i64 s.glow.a1, .int .i64 s.glow.a2], 86, false⟩, ⟨g8, [.int .i64 (((sceneHit s ray).1).lo), .int .i64 (((sceneHit s ray).1).hi), .bool (((sceneHit s ray).1).no)], 26, false⟩, ⟨g5, [.int .i64 0, .int .i64 0, .bool false], 26, false⟩, ⟨g3, [.int .i64 ray.o.x.lo, .int .i64 ray.o.x.hi, .bool ray.o.x.no, .int .i64 ray.o.y.lo, .int .i64 ray.o.y.hi, .bool ray.o.y.no, .int .i64 ray.o.z.lo, .int .i64 ray.o.z.hi, .bool ray.o.z.no, .int .i64 ray.d.x.lo, .int .i64 ray.d.x.hi, .bool ray.d.x.no, .int .i64 ray.d.y.lo, .int .i64 ray.d.y.hi, .bool ray.d.y.no, .int .i64 ray.d.z.lo, .int .i64 ray.d.z.hi, .bool ray.d.z.no], 77, false⟩, ⟨b, cs, ty, true⟩]) (N := NA) (xs := xs) (news := [.int .i64 (((sceneHit s ray).1).lo), .int .i64 (((sceneHit s ray).1).hi), .bool (((sceneHit s ray).1).no)]) (r := []) slT24 rfl rfl rfl hR rfl (List.mem_of_getElem? (i := 0) rfl) rfl rfl rfl rfl (by decide) (by simp only [maxLen]; omega) (by omega) (fun v H H' hp h => ar_perm hp h) fun v9 Nu1 Ru1 => ?_)
        obtain ⟨au1, cu1, rfl⟩ := Ru1.form
        refine ao 9 rfl rfl (st_assign (v := .slice au1 (m + 1) cu1) rfl rfl ?_)
        refine ar_nil ?_
        refine ac_region_lit ?_
        refine ao 54 rfl rfl (st_bi (u := .int .i64 (k : Int)) (v := .int .i64 1) (r := .int .i64 (w64 ((k : Int) + 1))) rfl rfl rfl (bi_add rfl) ?_)
        refine ao 20 rfl rfl (st_move (v := .int .i64 (w64 ((k : Int) + 1))) rfl rfl ?_)
        refine ar_nil ?_
        refine ar_dropR (List.Sublist.cons _ (List.Sublist.cons _ (List.Sublist.cons _ (List.Sublist.refl _)))) (Knext _ _ _ (by rw [nearStep, h1, h2, h3]; rfl) _ (m + 1) cu1 au1 Nu1 _ (by simp [hml]) (by rw [hxs, flat_append]; rfl) (Nat.le_refl _) Ru1 rfl rfl rfl rfl rfl rfl rfl rfl)
      · refine ar_gd (d := (some 42)) (by show ((decide (best < 0)) == false) = true; rw [h3]; rfl) rfl (st_fa (g := g1) (off := 0) rfl fa26_1 rfl ?_)
        refine ar_gd (d := (some 43)) (by show ((decide (best < 0)) == false) = true; rw [h3]; rfl) rfl (st_ldc (g := g1) (off := 1) (v := .int .i64 (((sceneHit s ray).1).hi)) cell3 0 rfl rfl rfl rfl rfl ?_)
        refine ar_gd (d := (some 44)) (by show ((decide (best < 0)) == false) = true; rw [h3]; rfl) rfl (st_fa (g := g8) (off := 0) rfl fa26_1 rfl ?_)
        refine ar_gd (d := (some 45)) (by show ((decide (best < 0)) == false) = true; rw [h3]; rfl) rfl (st_ldc (g := g8) (off := 1) (v := .int .i64 at_.hi) cell3 2 rfl rfl rfl rfl rfl ?_)
        refine ar_gd (d := (some 46)) (by show ((decide (best < 0)) == false) = true; rw [h3]; rfl) rfl (st_bi (u := .int .i64 (((sceneHit s ray).1).hi)) (v := .int .i64 at_.hi) (r := .bool (decide ((((sceneHit s ray).1).hi) < at_.hi))) rfl rfl rfl (bi_lss rfl) ?_)
        refine ao 47 rfl rfl (st_pkf' (b := decide (best < 0)) (v := .bool (decide ((((sceneHit s ray).1).hi) < at_.hi))) h3 rfl rfl rfl ?_)
        refine ao 38 rfl rfl (st_assign (v := .bool (decide ((((sceneHit s ray).1).hi) < at_.hi))) rfl rfl ?_)
        refine ar_nil ?_
        refine bool_split (decide ((((sceneHit s ray).1).hi) < at_.hi)) (fun h4 => ?_) (fun h4 => ?_)
        · refine ac_then' (b := decide ((((sceneHit s ray).1).hi) < at_.hi)) h4 rfl ?_
          refine ac_draw0 (id := 11) [0, 1, 2] [3] _ (by kernel_rfl) follows rfl  ?_
          refine dw_op (d := (some 48)) (.int .i64 (k : Int)) rfl rfl rfl (st_move (v := .int .i64 (k : Int)) rfl rfl ⟨rfl, rfl⟩) ?_
          refine dw_op (d := (some 49)) (.agg #[.int .i64 (((sceneHit s ray).1).lo), .int .i64 (((sceneHit s ray).1).hi), .bool (((sceneHit s ray).1).no)]) rfl rfl rfl (st_lda (g := g1) (off := 0) (vs := [.int .i64 (((sceneHit s ray).1).lo), .int .i64 (((sceneHit s ray).1).hi), .bool (((sceneHit s ray).1).no)]) agg26 0 rfl rfl rfl rfl rfl rfl ⟨rfl, rfl⟩) ?_
          refine dw_op (d := (some 7)) (.int .i64 (k : Int)) rfl rfl rfl (st_assign (v := .int .i64 (k : Int)) rfl rfl ⟨rfl, rfl⟩) ?_
          refine dw_nil ?_
          refine ar_op (d := none) rfl rfl (st_sta (g := g8) (off := 0) (us := [.int .i64 (((sceneHit s ray).1).lo), .int .i64 (((sceneHit s ray).1).hi), .bool (((sceneHit s ray).1).no)]) (cs := [.int .i64 (((sceneHit s ray).1).lo), .int .i64 (((sceneHit s ray).1).hi), .bool (((sceneHit s ray).1).no)]) agg26 2 rfl rfl rfl rfl rfl rfl rfl rfl rfl ?_)
          refine ar_nil ?_
          refine ac_region_lit ?_
          refine ao 50 rfl rfl (st_move (v := .slice aa m ca) rfl rfl ?_)
          refine ao 51 rfl rfl (st_lda (g := g1) (off := 0) (vs := [.int .i64 (((sceneHit s ray).1).lo), .int .i64 (((sceneHit s ray).1).hi), .bool (((sceneHit s ray).1).no)]) agg26 0 rfl rfl rfl rfl rfl rfl ?_)
          refine ao 52 rfl rfl (st_bs (us := [(0, .agg #[.int .i64 (((sceneHit s ray).1).lo), .int .i64 (((sceneHit s ray).1).hi), .bool (((sceneHit s ray).1).no)])]) (cs := [.int .i64 (((sceneHit s ray).1).lo), .int .i64 (((sceneHit s ray).1).hi), .bool (((sceneHit s ray).1).no)]) rfl rfl (bs24_1_0a _ _ _) fun g2 => ?_)
          refine ao 53 rfl rfl (st_appZ (A := [⟨g2, [.int .i64 (((sceneHit s ray).1).lo), .int .i64 (((sceneHit s ray).1).hi), .bool (((sceneHit s ray).1).no)], 26, false⟩, ⟨g1, [.int .i64 (((sceneHit s ray).1).lo), .int .i64 (((sceneHit s ray).1).hi), .bool (((sceneHit s ray).1).no)], 26, false⟩, ⟨g0, [.int .i64 s.kind, .int .i64 s.x.c, .int .i64 s.x.scale, .int .i64 s.y.c, .int .i64 s.y.scale, .int .i64 s.z.c, .int .i64 s.z.scale, .int .i64 s.r.c, .int .i64 s.r.scale, .int .i64 s.glow.a0, .int .i64 s.glow.a1, .int .i64 s.glow.a2], 86, false⟩, ⟨g8, [.int .i64 (((sceneHit s ray).1).lo), .int .i64 (((sceneHit s ray).1).hi), .bool (((sceneHit s ray).1).no)], 26, false⟩, ⟨g5, [.int .i64 0, .int .i64 0, .bool false], 26, false⟩, ⟨g3, [.int .i64 ray.o.x.lo, .int .i64 ray.o.x.hi, .bool ray.o.x.no, .int .i64 ray.o.y.lo, .int .i64 ray.o.y.hi, .bool ray.o.y.no, .int .i64 ray.o.z.lo, .int .i64 ray.o.z.hi, .bool ray.o.z.no, .int .i64 ray.d.x.lo, .int .i64 ray.d.x.hi, .bool ray.d.x.no, .int .i64 ray.d.y.lo, .int .i64 ray.d.y.hi, .bool ray.d.y.no, .int .i64 ray.d.z.lo, .int .i64 ray.d.z.hi, .bool ray.d.z.no], 77, false⟩, ⟨b, cs, ty, true⟩]) (N := NA) (xs := xs) (news := [.int .i64 (((sceneHit s ray).1).lo), .int .i64 (((sceneHit s ray).1).hi), .bool (((sceneHit s ray).1).no)]) (r := []) slT24 rfl rfl rfl hR rfl (List.mem_of_getElem? (i := 0) rfl) rfl rfl rfl rfl (by decide) (by simp only [maxLen]; omega) (by omega) (fun v H H' hp h => ar_perm hp h) fun v9 Nu1 Ru1 => ?_)
          obtain ⟨au1, cu1, rfl⟩ := Ru1.form
          refine ao 9 rfl rfl (st_assign (v := .slice au1 (m + 1) cu1) rfl rfl ?_)
          refine ar_nil ?_
          refine ac_region_lit ?_
          refine ao 54 rfl rfl (st_bi (u := .int .i64 (k : Int)) (v := .int .i64 1) (r := .int .i64 (w64 ((k : Int) + 1))) rfl rfl rfl (bi_add rfl) ?_)
          refine ao 20 rfl rfl (st_move (v := .int .i64 (w64 ((k : Int) + 1))) rfl rfl ?_)
          refine ar_nil ?_
          refine ar_dropR (List.Sublist.cons _ (List.Sublist.cons _ (List.Sublist.cons _ (List.Sublist.refl _)))) (Knext _ _ _ (by rw [nearStep, h1, h2, h3, h4]; rfl) _ (m + 1) cu1 au1 Nu1 _ (by simp [hml]) (by rw [hxs, flat_append]; rfl) (Nat.le_refl _) Ru1 rfl rfl rfl rfl rfl rfl rfl rfl)
        · refine ac_else' (b := decide ((((sceneHit s ray).1).hi) < at_.hi)) h4 rfl ?_
          refine ac_skip ?_
          refine ac_region_lit ?_
          refine ao 50 rfl rfl (st_move (v := .slice aa m ca) rfl rfl ?_)
          refine ao 51 rfl rfl (st_lda (g := g1) (off := 0) (vs := [.int .i64 (((sceneHit s ray).1).lo), .int .i64 (((sceneHit s ray).1).hi), .bool (((sceneHit s ray).1).no)]) agg26 0 rfl rfl rfl rfl rfl rfl ?_)
          refine ao 52 rfl rfl (st_bs (us := [(0, .agg #[.int .i64 (((sceneHit s ray).1).lo), .int .i64 (((sceneHit s ray).1).hi), .bool (((sceneHit s ray).1).no)])]) (cs := [.int .i64 (((sceneHit s ray).1).lo), .int .i64 (((sceneHit s ray).1).hi), .bool (((sceneHit s ray).1).no)]) rfl rfl (bs24_1_0a _ _ _) fun g2 => ?_)
          refine ao 53 rfl rfl (st_appZ (A := [⟨g2, [.int .i64 (((sceneHit s ray).1).lo), .int .i64 (((sceneHit s ray).1).hi), .bool (((sceneHit s ray).1).no)], 26, false⟩, ⟨g1, [.int .i64 (((sceneHit s ray).1).lo), .int .i64 (((sceneHit s ray).1).hi), .bool (((sceneHit s ray).1).no)], 26, false⟩, ⟨g0, [.int .i64 s.kind, .int .i64 s.x.c, .int .i64 s.x.scale, .int .i64 s.y.c, .int .i64 s.y.scale, .int .i64 s.z.c, .int .i64 s.z.scale, .int .i64 s.r.c, .int .i64 s.r.scale, .int .i64 s.glow.a0, .int .i64 s.glow.a1, .int .i64 s.glow.a2], 86, false⟩, ⟨g8, [.int .i64 at_.lo, .int .i64 at_.hi, .bool at_.no], 26, false⟩, ⟨g5, [.int .i64 0, .int .i64 0, .bool false], 26, false⟩, ⟨g3, [.int .i64 ray.o.x.lo, .int .i64 ray.o.x.hi, .bool ray.o.x.no, .int .i64 ray.o.y.lo, .int .i64 ray.o.y.hi, .bool ray.o.y.no, .int .i64 ray.o.z.lo, .int .i64 ray.o.z.hi, .bool ray.o.z.no, .int .i64 ray.d.x.lo, .int .i64 ray.d.x.hi, .bool ray.d.x.no, .int .i64 ray.d.y.lo, .int .i64 ray.d.y.hi, .bool ray.d.y.no, .int .i64 ray.d.z.lo, .int .i64 ray.d.z.hi, .bool ray.d.z.no], 77, false⟩, ⟨b, cs, ty, true⟩]) (N := NA) (xs := xs) (news := [.int .i64 (((sceneHit s ray).1).lo), .int .i64 (((sceneHit s ray).1).hi), .bool (((sceneHit s ray).1).no)]) (r := []) slT24 rfl rfl rfl hR rfl (List.mem_of_getElem? (i := 0) rfl) rfl rfl rfl rfl (by decide) (by simp only [maxLen]; omega) (by omega) (fun v H H' hp h => ar_perm hp h) fun v9 Nu1 Ru1 => ?_)
          obtain ⟨au1, cu1, rfl⟩ := Ru1.form
          refine ao 9 rfl rfl (st_assign (v := .slice au1 (m + 1) cu1) rfl rfl ?_)
          refine ar_nil ?_
          refine ac_region_lit ?_
          refine ao 54 rfl rfl (st_bi (u := .int .i64 (k : Int)) (v := .int .i64 1) (r := .int .i64 (w64 ((k : Int) + 1))) rfl rfl rfl (bi_add rfl) ?_)
          refine ao 20 rfl rfl (st_move (v := .int .i64 (w64 ((k : Int) + 1))) rfl rfl ?_)
          refine ar_nil ?_
          refine ar_dropR (List.Sublist.cons _ (List.Sublist.cons _ (List.Sublist.cons _ (List.Sublist.refl _)))) (Knext _ _ _ (by rw [nearStep, h1, h2, h3, h4]; rfl) _ (m + 1) cu1 au1 Nu1 _ (by simp [hml]) (by rw [hxs, flat_append]; rfl) (Nat.le_refl _) Ru1 rfl rfl rfl rfl rfl rfl rfl rfl)
set_option maxRecDepth 100000 in
theorem near_leave (g3 g5 g8 b off N cap ty : Nat) (cs : List Value) (ray : Ray) (m ca : Nat) (aa : Option Addr) (NA : List Box) (best : Int) (at_ : Iv) {Q : Exit → Env → List Box → Prop} {E : Env} {c : Code} {j : Nat} (hc : Try.f57.body.bind loopOf = some c) (q3 : E 3 = .pointer (some ⟨g3, 0, none⟩)) (q5 : E 5 = .pointer (some ⟨g5, 0, none⟩)) (q7 : E 7 = .int .i64 best) (q8 : E 8 = .pointer (some ⟨g8, 0, none⟩)) (q9 : E 9 = .slice aa m ca) (q18 : E 18 = .slice (some ⟨b, off, none⟩) N cap) (q19 : E 19 = .int .i64 (N : Int)) (q20 : E 20 = .int .i64 (N : Int)) (K : ∀ E' : Env, E' 3 = .pointer (some ⟨g3, 0, none⟩) → E' 5 = .pointer (some ⟨g5, 0, none⟩) → E' 7 = .int .i64 best → E' 8 = .pointer (some ⟨g8, 0, none⟩) → E' 9 = .slice aa m ca → E' 18 = .slice (some ⟨b, off, none⟩) N cap → E' 19 = .int .i64 (N : Int) → E' 20 = .int .i64 (N : Int) → Q (.exit 0) E' ([⟨g8, cel at_, 26, false⟩, ⟨g5, [.int .i64 0, .int .i64 0, .bool false], 26, false⟩, ⟨g3, rayC ray, 77, false⟩, ⟨b, cs, ty, true⟩] ++ NA)) : ARounds Try.prog 80 c Q (j + 1) E ([⟨g8, cel at_, 26, false⟩, ⟨g5, [.int .i64 0, .int .i64 0, .bool false], 26, false⟩, ⟨g3, rayC ray, 77, false⟩, ⟨b, cs, ty, true⟩] ++ NA) := by
  rw [show Try.f57.body.bind loopOf = some _ from rfl] at hc
  cases hc
  obtain ⟨E0, rfl⟩ : ∃ E0 : Env, E = ((((((((E0.put (some 3) (.pointer (some ⟨g3, 0, none⟩))).put (some 5) (.pointer (some ⟨g5, 0, none⟩))).put (some 7) (.int .i64 best)).put (some 8) (.pointer (some ⟨g8, 0, none⟩))).put (some 9) (.slice aa m ca)).put (some 18) (.slice (some ⟨b, off, none⟩) N cap)).put (some 19) (.int .i64 (N : Int))).put (some 20) (.int .i64 (N : Int))) := ⟨E, by rw [put_self q3, put_self q5, put_self q7, put_self q8, put_self q9, put_self q18, put_self q19, put_self q20]⟩
  refine ar_round ?_
  refine ac_seq ?_
  refine ac_region_lit ?_
  refine ao 21 rfl rfl (st_bi (u := .int .i64 (N : Int)) (v := .int .i64 (N : Int)) (r := .bool (decide ((N : Int) < (N : Int)))) rfl rfl rfl (bi_lss rfl) ?_)
  refine ar_nil ?_
  refine ac_seq ?_
  refine ac_else' (b := decide ((N : Int) < (N : Int))) (decide_eq_false (show ¬ ((N : Int) < (N : Int)) by omega)) rfl ?_
  refine ac_exit ?_
  exact K _ rfl rfl rfl rfl rfl rfl rfl rfl
set_option maxRecDepth 100000 in
theorem near_round2 (g5 g8 gA M ca : Nat) (ra : List Value) (best : Int) (at_ : Iv) (i : Nat) (cnt : Int) (t : Iv) {Q : Exit → Env → List Box → Prop} {E : Env} {c : Code} {j : Nat} (hc : Try.f57.body.bind loop2Of = some c) (hi : i < M) (ht : (ra.drop (0 + i * 3)).take 3 = cel t) (q5 : E 5 = .pointer (some ⟨g5, 0, none⟩)) (q7 : E 7 = .int .i64 best) (q8 : E 8 = .pointer (some ⟨g8, 0, none⟩)) (q9 : E 9 = .slice (some ⟨gA, 0, none⟩) M ca) (q14 : E 14 = .int .i64 cnt) (q58 : E 58 = .slice (some ⟨gA, 0, none⟩) M ca) (q59 : E 59 = .int .i64 (M : Int)) (q60 : E 60 = .int .i64 (i : Int))
    (K : ∀ (cnt' : Int), cnt' = (bif decide (at_.hi < t.lo) then w64 (cnt + 1) else cnt) → ∀ E' : Env, E' 5 = .pointer (some ⟨g5, 0, none⟩) → E' 7 = .int .i64 best → E' 8 = .pointer (some ⟨g8, 0, none⟩) → E' 9 = .slice (some ⟨gA, 0, none⟩) M ca → E' 14 = .int .i64 cnt' → E' 58 = .slice (some ⟨gA, 0, none⟩) M ca → E' 59 = .int .i64 (M : Int) → E' 60 = .int .i64 (w64 ((i : Int) + 1)) → ARounds Try.prog 80 c Q j E' [⟨g8, cel at_, 26, false⟩, ⟨g5, [.int .i64 0, .int .i64 0, .bool false], 26, false⟩, ⟨gA, ra, 26, false⟩]) : ARounds Try.prog 80 c Q (j + 1) E [⟨g8, cel at_, 26, false⟩, ⟨g5, [.int .i64 0, .int .i64 0, .bool false], 26, false⟩, ⟨gA, ra, 26, false⟩] := by
  rw [show Try.f57.body.bind loop2Of = some _ from rfl] at hc
  cases hc
  obtain ⟨E0, rfl⟩ : ∃ E0 : Env, E = ((((((((E0.put (some 5) (.pointer (some ⟨g5, 0, none⟩))).put (some 7) (.int .i64 best)).put (some 8) (.pointer (some ⟨g8, 0, none⟩))).put (some 9) (.slice (some ⟨gA, 0, none⟩) M ca)).put (some 14) (.int .i64 cnt)).put (some 58) (.slice (some ⟨gA, 0, none⟩) M ca)).put (some 59) (.int .i64 (M : Int))).put (some 60) (.int .i64 (i : Int))) := ⟨E, by rw [put_self q5, put_self q7, put_self q8, put_self q9, put_self q14, put_self q58, put_self q59, put_self q60]⟩
  refine ar_round ?_
  refine ac_seq ?_
  refine ac_region_lit ?_
  refine ao 61 rfl rfl (st_bi (u := .int .i64 (i : Int)) (v := .int .i64 (M : Int)) (r := .bool (decide ((i : Int) < (M : Int)))) rfl rfl rfl (bi_lss rfl) ?_)
  refine ar_nil ?_
  refine ac_seq ?_
  refine ac_then' (b := decide ((i : Int) < (M : Int))) (decide_eq_true (show ((i : Int) < (M : Int)) by omega)) rfl ?_
  refine ac_skip ?_
  refine ac_seq ?_
  refine ac_block ?_
  refine ac_seq ?_
  refine ac_region_lit ?_
  refine ao 62 rfl rfl (st_sa (g := gA) (off := 0) (m := M) (c := ca) (s := 3) (i := i) rfl Try.underlying24 (by kernel_rfl) rfl rfl hi ?_)
  refine ao 63 rfl rfl (st_lda (g := gA) (off := 0 + i * 3) (vs := [.int .i64 t.lo, .int .i64 t.hi, .bool t.no]) agg26 2 rfl rfl rfl rfl rfl ht ?_)
  refine ao 16 rfl rfl (st_new zero26 rfl fun g0 => ?_)
  refine ar_op (d := none) rfl rfl (st_sta (g := g0) (off := 0) (us := [.int .i64 t.lo, .int .i64 t.hi, .bool t.no]) (cs := [.int .i64 t.lo, .int .i64 t.hi, .bool t.no]) agg26 0 rfl rfl rfl rfl rfl rfl rfl rfl rfl ?_)
  refine ar_nil ?_
  refine ac_seq ?_
  refine ac_region_lit ?_
  refine ao 64 rfl rfl (st_fa (g := g8) (off := 0) rfl fa26_1 rfl ?_)
  refine ao 65 rfl rfl (st_ldc (g := g8) (off := 1) (v := .int .i64 at_.hi) cell3 1 rfl rfl rfl rfl rfl ?_)
  refine ao 66 rfl rfl (st_fa (g := g0) (off := 0) rfl fa26_0 rfl ?_)
  refine ao 67 rfl rfl (st_ldc (g := g0) (off := 0) (v := .int .i64 t.lo) cell3 0 rfl rfl rfl rfl rfl ?_)
  refine ao 68 rfl rfl (st_bi (u := .int .i64 at_.hi) (v := .int .i64 t.lo) (r := .bool (decide (at_.hi < t.lo))) rfl rfl rfl (bi_lss rfl) ?_)
  refine ar_nil ?_
  refine bool_split (decide (at_.hi < t.lo)) (fun h1 => ?_) (fun h1 => ?_)
  · refine ac_then' (b := decide (at_.hi < t.lo)) h1 rfl ?_
    refine ac_region_lit ?_
    refine ao 69 rfl rfl (st_move (v := .int .i64 cnt) rfl rfl ?_)
    refine ao 70 rfl rfl (st_bi (u := .int .i64 cnt) (v := .int .i64 1) (r := .int .i64 (w64 (cnt + 1))) rfl rfl rfl (bi_add rfl) ?_)
    refine ao 14 rfl rfl (st_assign (v := .int .i64 (w64 (cnt + 1))) rfl rfl ?_)
    refine ar_nil ?_
    refine ac_region_lit ?_
    refine ao 71 rfl rfl (st_bi (u := .int .i64 (i : Int)) (v := .int .i64 1) (r := .int .i64 (w64 ((i : Int) + 1))) rfl rfl rfl (bi_add rfl) ?_)
    refine ao 60 rfl rfl (st_move (v := .int .i64 (w64 ((i : Int) + 1))) rfl rfl ?_)
    refine ar_nil ?_
    refine ar_dropR (List.Sublist.cons _ (List.Sublist.refl _)) (K _ (by rw [h1]; rfl) _ rfl rfl rfl rfl rfl rfl rfl rfl)
  · refine ac_else' (b := decide (at_.hi < t.lo)) h1 rfl ?_
    refine ac_skip ?_
    refine ac_region_lit ?_
    refine ao 71 rfl rfl (st_bi (u := .int .i64 (i : Int)) (v := .int .i64 1) (r := .int .i64 (w64 ((i : Int) + 1))) rfl rfl rfl (bi_add rfl) ?_)
    refine ao 60 rfl rfl (st_move (v := .int .i64 (w64 ((i : Int) + 1))) rfl rfl ?_)
    refine ar_nil ?_
    refine ar_dropR (List.Sublist.cons _ (List.Sublist.refl _)) (K _ (by rw [h1]; rfl) _ rfl rfl rfl rfl rfl rfl rfl rfl)
set_option maxRecDepth 100000 in
theorem near_leave2 (g5 g8 M ca : Nat) (aa : Option Addr) (T : List Box) (best : Int) (at_ : Iv) (cnt : Int) {Q : Exit → Env → List Box → Prop} {E : Env} {c : Code} {j : Nat} (hc : Try.f57.body.bind loop2Of = some c) (q5 : E 5 = .pointer (some ⟨g5, 0, none⟩)) (q7 : E 7 = .int .i64 best) (q8 : E 8 = .pointer (some ⟨g8, 0, none⟩)) (q9 : E 9 = .slice aa M ca) (q14 : E 14 = .int .i64 cnt) (q58 : E 58 = .slice aa M ca) (q59 : E 59 = .int .i64 (M : Int)) (q60 : E 60 = .int .i64 (M : Int)) (K : ∀ E' : Env, E' 5 = .pointer (some ⟨g5, 0, none⟩) → E' 7 = .int .i64 best → E' 8 = .pointer (some ⟨g8, 0, none⟩) → E' 9 = .slice aa M ca → E' 14 = .int .i64 cnt → E' 58 = .slice aa M ca → E' 59 = .int .i64 (M : Int) → E' 60 = .int .i64 (M : Int) → Q (.exit 3) E' ([⟨g8, cel at_, 26, false⟩, ⟨g5, [.int .i64 0, .int .i64 0, .bool false], 26, false⟩] ++ T)) : ARounds Try.prog 80 c Q (j + 1) E ([⟨g8, cel at_, 26, false⟩, ⟨g5, [.int .i64 0, .int .i64 0, .bool false], 26, false⟩] ++ T) := by
  rw [show Try.f57.body.bind loop2Of = some _ from rfl] at hc
  cases hc
  obtain ⟨E0, rfl⟩ : ∃ E0 : Env, E = ((((((((E0.put (some 5) (.pointer (some ⟨g5, 0, none⟩))).put (some 7) (.int .i64 best)).put (some 8) (.pointer (some ⟨g8, 0, none⟩))).put (some 9) (.slice aa M ca)).put (some 14) (.int .i64 cnt)).put (some 58) (.slice aa M ca)).put (some 59) (.int .i64 (M : Int))).put (some 60) (.int .i64 (M : Int))) := ⟨E, by rw [put_self q5, put_self q7, put_self q8, put_self q9, put_self q14, put_self q58, put_self q59, put_self q60]⟩
  refine ar_round ?_
  refine ac_seq ?_
  refine ac_region_lit ?_
  refine ao 61 rfl rfl (st_bi (u := .int .i64 (M : Int)) (v := .int .i64 (M : Int)) (r := .bool (decide ((M : Int) < (M : Int)))) rfl rfl rfl (bi_lss rfl) ?_)
  refine ar_nil ?_
  refine ac_seq ?_
  refine ac_else' (b := decide ((M : Int) < (M : Int))) (decide_eq_false (show ¬ ((M : Int) < (M : Int)) by omega)) rfl ?_
  refine ac_exit ?_
  exact K _ rfl rfl rfl rfl rfl rfl rfl rfl
end Go.Proofs.Ythngkopcadlciaa
namespace Go.Proofs.Ythngkopcadlciaa
open Go.RowKit
def nearL (ray : Ray) : List Shape → Nat → Int → Iv → List Iv → Option (Int × Iv × List Iv)
  | [], _, best, at_, all => some (best, at_, all)
  | s :: l, k, best, at_, all => match nearStep ray (k : Int) s best at_ all with
    | none => none
    | some x => nearL ray l (k + 1) x.1 x.2.1 x.2.2
def nearC (at_ : Iv) : List Iv → Int → Int
  | [], c => c
  | t :: l, c => nearC at_ l (bif decide (at_.hi < t.lo) then w64 (c + 1) else c)
def sNear (l : List Shape) (ray : Ray) : Int × Iv × Int :=
  match nearL ray l 0 (-1) ivNone [] with
  | none => (-1, ivNone, 0)
  | some (best, at_, all) => bif decide (best < 0) then (-1, ivNone, 2) else bif decide (w64 (nearC at_ all 0 + 1) < (all.length : Int)) then (-1, ivNone, 0) else (best, at_, 1)
def nearV (r : Int × Iv × Int) : Value := .tuple #[.int .i64 r.1, .agg #[.int .i64 r.2.1.lo, .int .i64 r.2.1.hi, .bool r.2.1.no], .int .i64 r.2.2]
theorem near_loop (g3 g5 g8 b off N cap ty : Nat) (cs : List Value) (ray : Ray) {Q : Exit → Env → List Box → Prop} {c : Code} (hc : Try.f57.body.bind loopOf = some c) (hN : N ≤ 1000000) :
    ∀ (l : List Shape) (k m ca : Nat) (aa : Option Addr) (NA : List Box) (best : Int) (at_ : Iv) (all : List Iv) (xs : List Value) (E : Env), k + l.length = N → m ≤ k → Row 26 3 m xs (.slice aa m ca) NA → m = all.length → xs = flat all →
      (∀ i s, l[i]? = some s → (cs.drop (off + (k + i) * 12)).take 12 = shapeC s) →
      E 3 = .pointer (some ⟨g3, 0, none⟩) → E 5 = .pointer (some ⟨g5, 0, none⟩) → E 7 = .int .i64 best → E 8 = .pointer (some ⟨g8, 0, none⟩) → E 9 = .slice aa m ca → E 18 = .slice (some ⟨b, off, none⟩) N cap → E 19 = .int .i64 (N : Int) → E 20 = .int .i64 (k : Int) →
      (nearL ray l k best at_ all = none → ∀ (E' : Env) (H' : List Box), E' 4 = .int .i64 (-1) → E' 5 = .pointer (some ⟨g5, 0, none⟩) → E' 6 = .int .i64 0 → (∃ (i : Nat) (x : Box), H'[i]? = some x ∧ x.g = g5 ∧ x.cs = cel ivNone) → Q .ret E' H') →
      (∀ best' at' all', nearL ray l k best at_ all = some (best', at', all') → ∀ (E' : Env) (m' ca' : Nat) (aa' : Option Addr) (NA' : List Box) (xs' : List Value), m' = all'.length → xs' = flat all' → m' ≤ N → Row 26 3 m' xs' (.slice aa' m' ca') NA' →
        E' 3 = .pointer (some ⟨g3, 0, none⟩) → E' 5 = .pointer (some ⟨g5, 0, none⟩) → E' 7 = .int .i64 best' → E' 8 = .pointer (some ⟨g8, 0, none⟩) → E' 9 = .slice aa' m' ca' → E' 18 = .slice (some ⟨b, off, none⟩) N cap → E' 19 = .int .i64 (N : Int) → E' 20 = .int .i64 (N : Int) →
        Q (.exit 0) E' ([⟨g8, cel at', 26, false⟩, ⟨g5, [.int .i64 0, .int .i64 0, .bool false], 26, false⟩, ⟨g3, rayC ray, 77, false⟩, ⟨b, cs, ty, true⟩] ++ NA')) →
      ARounds Try.prog 80 c Q (l.length + 1) E ([⟨g8, cel at_, 26, false⟩, ⟨g5, [.int .i64 0, .int .i64 0, .bool false], 26, false⟩, ⟨g3, rayC ray, 77, false⟩, ⟨b, cs, ty, true⟩] ++ NA) := by
  intro l
  induction l with
  | nil =>
    intro k m ca aa NA best at_ all xs E hk hm hR hml hxs hcs q3 q5 q7 q8 q9 q18 q19 q20 _ Kd
    obtain rfl : k = N := by simpa using hk
    exact near_leave g3 g5 g8 b off k cap ty cs ray m ca aa NA best at_ hc q3 q5 q7 q8 q9 q18 q19 q20 fun E' f3 f5 f7 f8 f9 f18 f19 f20 => Kd best at_ all rfl E' m ca aa NA xs hml hxs hm hR f3 f5 f7 f8 f9 f18 f19 f20
  | cons s l ih =>
    intro k m ca aa NA best at_ all xs E hk hm hR hml hxs hcs q3 q5 q7 q8 q9 q18 q19 q20 Kr Kd
    have hkN : k < N := by simp only [List.length_cons] at hk; omega
    refine near_round g3 g5 g8 b off N cap ty cs ray k m ca aa NA s best at_ all hc hkN (by omega) hR (by have := hcs 0 s rfl; simpa using this) hml hxs q3 q5 q7 q8 q9 q18 q19 q20 (fun h => Kr (by rw [nearL, h])) ?_
    intro b' a' al' h E' m' ca' aa' NA' xs' hml' hxs' hle hR' f3 f5 f7 f8 f9 f18 f19 f20
    refine ih (k + 1) m' ca' aa' NA' b' a' al' xs' E' (by simp only [List.length_cons] at hk; omega) (by omega) hR' hml' hxs' (fun i s hi => by have := hcs (i + 1) s (by simpa using hi); rw [show k + 1 + i = k + (i + 1) from by omega]; exact this) f3 f5 f7 f8 f9 f18 f19 (by rw [f20, w64_id (by omega)]; rfl) (fun hn => Kr (by rw [nearL, h]; exact hn)) (fun b2 a2 l2 hn => Kd b2 a2 l2 (by rw [nearL, h]; exact hn))
theorem near_loop2' (g5 g8 gA M ca : Nat) (ra : List Value) (best : Int) (at_ : Iv) {Q : Exit → Env → List Box → Prop} {c : Code} (hc : Try.f57.body.bind loop2Of = some c) (hM : M ≤ 1000000000) :
    ∀ (l : List Iv) (i : Nat) (cnt : Int) (E : Env), i + l.length = M → (∀ j t, l[j]? = some t → (ra.drop (0 + (i + j) * 3)).take 3 = cel t) →
      E 5 = .pointer (some ⟨g5, 0, none⟩) → E 7 = .int .i64 best → E 8 = .pointer (some ⟨g8, 0, none⟩) → E 9 = .slice (some ⟨gA, 0, none⟩) M ca → E 14 = .int .i64 cnt → E 58 = .slice (some ⟨gA, 0, none⟩) M ca → E 59 = .int .i64 (M : Int) → E 60 = .int .i64 (i : Int) →
      (∀ (cnt' : Int), cnt' = nearC at_ l cnt → ∀ (E' : Env), E' 5 = .pointer (some ⟨g5, 0, none⟩) → E' 7 = .int .i64 best → E' 8 = .pointer (some ⟨g8, 0, none⟩) → E' 9 = .slice (some ⟨gA, 0, none⟩) M ca → E' 14 = .int .i64 cnt' → E' 58 = .slice (some ⟨gA, 0, none⟩) M ca → E' 59 = .int .i64 (M : Int) → E' 60 = .int .i64 (M : Int) →
        Q (.exit 3) E' ([⟨g8, cel at_, 26, false⟩, ⟨g5, [.int .i64 0, .int .i64 0, .bool false], 26, false⟩] ++ [⟨gA, ra, 26, false⟩])) →
      ARounds Try.prog 80 c Q (l.length + 1) E [⟨g8, cel at_, 26, false⟩, ⟨g5, [.int .i64 0, .int .i64 0, .bool false], 26, false⟩, ⟨gA, ra, 26, false⟩] := by
  intro l
  induction l with
  | nil =>
    intro i cnt E hi hra q5 q7 q8 q9 q14 q58 q59 q60 Kd
    obtain rfl : i = M := by simpa using hi
    exact near_leave2 g5 g8 i ca (some ⟨gA, 0, none⟩) [⟨gA, ra, 26, false⟩] best at_ cnt hc q5 q7 q8 q9 q14 q58 q59 q60 fun E' f5 f7 f8 f9 f14 f58 f59 f60 => Kd cnt rfl E' f5 f7 f8 f9 f14 f58 f59 f60
  | cons t l ih =>
    intro i cnt E hi hra q5 q7 q8 q9 q14 q58 q59 q60 Kd
    have hiM : i < M := by simp only [List.length_cons] at hi; omega
    refine near_round2 g5 g8 gA M ca ra best at_ i cnt t hc hiM (by have := hra 0 t rfl; simpa using this) q5 q7 q8 q9 q14 q58 q59 q60 ?_
    intro cnt' hcnt E' f5 f7 f8 f9 f14 f58 f59 f60
    refine ih (i + 1) cnt' E' (by simp only [List.length_cons] at hi; omega) (fun j t hj => by have := hra (j + 1) t (by simpa using hj); rw [show i + 1 + j = i + (j + 1) from by omega]; exact this) f5 f7 f8 f9 f14 f58 f59 (by rw [f60, w64_id (by omega)]; rfl) (fun c2 h2 => Kd c2 (by rw [h2, hcnt]; rfl))
theorem flat_at3 : ∀ (zs : List Iv) (r : List Value) (m : Nat) (t : Iv), zs[m]? = some t → ((flat zs ++ r).drop (m * 3)).take 3 = cel t := by
  intro zs
  induction zs with
  | nil => intro r m t h; simp at h
  | cons z zs ih =>
    intro r m t h
    cases m with
    | zero => simp at h; subst h; rfl
    | succ m =>
      have := ih r m t (by simpa using h)
      rw [show (m + 1) * 3 = m * 3 + 3 from by omega, Nat.add_comm (m * 3) 3, ← List.drop_drop]
      exact this
theorem near_loop2 (g5 g8 m ca : Nat) (aa : Option Addr) (NA : List Box) (best : Int) (at_ : Iv) (all : List Iv) (xs : List Value) (E : Env) (b g3 ty : Nat) (cs : List Value) (ray : Ray) {Q : Exit → Env → List Box → Prop} {c : Code} (hc : Try.f57.body.bind loop2Of = some c)
    (hrow : Row 26 3 m xs (.slice aa m ca) NA) (hmb : m ≤ 1000000) (hm : m = all.length) (hxs : xs = flat all)
    (q5 : E 5 = .pointer (some ⟨g5, 0, none⟩)) (q7 : E 7 = .int .i64 best) (q8 : E 8 = .pointer (some ⟨g8, 0, none⟩)) (q9 : E 9 = .slice aa m ca) (q14 : E 14 = .int .i64 0) (q58 : E 58 = .slice aa m ca) (q59 : E 59 = .int .i64 (m : Int)) (q60 : E 60 = .int .i64 0)
    (K : ∀ (cnt : Int), cnt = nearC at_ all 0 → ∀ (E' : Env) (T : List Box), E' 5 = .pointer (some ⟨g5, 0, none⟩) → E' 7 = .int .i64 best → E' 8 = .pointer (some ⟨g8, 0, none⟩) → E' 9 = .slice aa m ca → E' 14 = .int .i64 cnt → E' 58 = .slice aa m ca → E' 59 = .int .i64 (m : Int) → E' 60 = .int .i64 (m : Int) →
      Q (.exit 3) E' ([⟨g8, cel at_, 26, false⟩, ⟨g5, [.int .i64 0, .int .i64 0, .bool false], 26, false⟩] ++ T)) :
    ARounds Try.prog 80 c Q (all.length + 1) E ([⟨g8, cel at_, 26, false⟩, ⟨g5, [.int .i64 0, .int .i64 0, .bool false], 26, false⟩, ⟨g3, rayC ray, 77, false⟩, ⟨b, cs, ty, true⟩] ++ NA) := by
  rcases hrow with ⟨rfl, h1, h2, rfl⟩ | ⟨gA, cap, rest, h1, rfl, h3, h4, h5, h6⟩
  · obtain rfl : all = [] := List.eq_nil_of_length_eq_zero hm.symm
    refine ar_dropR (H := [⟨g8, cel at_, 26, false⟩, ⟨g5, [.int .i64 0, .int .i64 0, .bool false], 26, false⟩] ++ []) (List.Sublist.cons_cons _ (List.Sublist.cons_cons _ (List.nil_sublist _))) ?_
    exact near_leave2 g5 g8 0 ca aa [] best at_ 0 hc q5 q7 q8 q9 q14 q58 q59 q60 fun E' f5 f7 f8 f9 f14 f58 f59 f60 => K 0 rfl E' [] f5 f7 f8 f9 f14 f58 f59 f60
  · simp only [Value.slice.injEq] at h1
    obtain ⟨rfl, _, rfl⟩ := h1
    refine ar_dropR (H := [⟨g8, cel at_, 26, false⟩, ⟨g5, [.int .i64 0, .int .i64 0, .bool false], 26, false⟩, ⟨gA, xs ++ rest, 26, false⟩]) (List.Sublist.cons_cons _ (List.Sublist.cons_cons _ (List.Sublist.cons _ (List.Sublist.cons _ (List.Sublist.refl _))))) ?_
    refine near_loop2' g5 g8 gA m ca (xs ++ rest) best at_ hc (by omega) all 0 0 E (by omega) (fun j t hj => by rw [hxs, Nat.zero_add, Nat.zero_add]; exact flat_at3 all rest j t hj) q5 q7 q8 q9 q14 q58 q59 q60 (fun cnt hcnt E' f5 f7 f8 f9 f14 f58 f59 f60 => K cnt hcnt E' _ f5 f7 f8 f9 f14 f58 f59 f60)
end Go.Proofs.Ythngkopcadlciaa