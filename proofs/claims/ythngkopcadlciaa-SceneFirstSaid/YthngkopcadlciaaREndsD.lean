import Derived.Test.YthngkopcadlciaaRIv
set_option linter.unusedVariables false
set_option linter.unusedSimpArgs false
namespace Go.Proofs.Ythngkopcadlciaa
open Go.RowKit
attribute [local irreducible] AC AR DWalk
def rEndsDiv_e0 (a : Iv) (b : Iv) : Int := (bif decide (((rDiv a.hi b.lo false).1) < ((rDiv a.lo b.lo false).1)) then ((rDiv a.hi b.lo false).1) else ((rDiv a.lo b.lo false).1))
def rEndsDiv_e1 (a : Iv) (b : Iv) : Int := (bif decide (((rDiv a.hi b.lo true).1) > ((rDiv a.lo b.lo true).1)) then ((rDiv a.hi b.lo true).1) else ((rDiv a.lo b.lo true).1))
def rEndsDiv_e2 (a : Iv) (b : Iv) : Int := (bif decide (((rDiv a.lo b.hi false).1) < (rEndsDiv_e0 a b)) then ((rDiv a.lo b.hi false).1) else (rEndsDiv_e0 a b))
def rEndsDiv_e3 (a : Iv) (b : Iv) : Int := (bif decide (((rDiv a.lo b.hi true).1) > (rEndsDiv_e1 a b)) then ((rDiv a.lo b.hi true).1) else (rEndsDiv_e1 a b))
def rEndsDiv_e4 (a : Iv) (b : Iv) : Int := (bif decide (((rDiv a.hi b.hi false).1) < (rEndsDiv_e2 a b)) then ((rDiv a.hi b.hi false).1) else (rEndsDiv_e2 a b))
def rEndsDiv_e5 (a : Iv) (b : Iv) : Int := (bif decide (((rDiv a.hi b.hi true).1) > (rEndsDiv_e3 a b)) then ((rDiv a.hi b.hi true).1) else (rEndsDiv_e3 a b))
def rEndsDiv (a : Iv) (b : Iv) : Iv := (bif (rDiv a.lo b.lo false).2 then (bif (rDiv a.lo b.lo true).2 then (bif (rDiv a.hi b.lo false).2 then (bif (rDiv a.hi b.lo true).2 then (bif (rDiv a.lo b.hi false).2 then (bif (rDiv a.lo b.hi true).2 then (bif (rDiv a.hi b.hi false).2 then (bif (rDiv a.hi b.hi true).2 then (rOf (rEndsDiv_e4 a b) (rEndsDiv_e5 a b)) else rNone) else rNone) else rNone) else rNone) else rNone) else rNone) else rNone) else rNone)
set_option maxRecDepth 100000 in
set_option maxHeartbeats 4000000 in
theorem c_rEndsDiv (a : Iv) (b : Iv) : Gets Try.prog 114 #[.agg #[.int .i64 a.lo, .int .i64 a.hi, .bool a.no], .agg #[.int .i64 b.lo, .int .i64 b.hi, .bool b.no], .bool true] (Iv.v (rEndsDiv a b)) := by
  refine gets_fin Try.func114 rfl rfl rfl ?_
  refine ac_seq ?_
  refine ac_region_lit ?_
  refine ao 3 rfl rfl (st_box (v := .agg #[.int .i64 a.lo, .int .i64 a.hi, .bool a.no]) (cs := [.int .i64 a.lo, .int .i64 a.hi, .bool a.no]) rfl rfl rfl fun g0 => ?_)
  refine ao 4 rfl rfl (st_box (v := .agg #[.int .i64 b.lo, .int .i64 b.hi, .bool b.no]) (cs := [.int .i64 b.lo, .int .i64 b.hi, .bool b.no]) rfl rfl rfl fun g1 => ?_)
  refine ao 6 rfl rfl (st_new zero26 rfl fun g2 => ?_)
  refine ar_nil ?_
  refine ac_seq ?_
  refine ac_region_lit ?_
  refine ao 7 rfl rfl (st_assign (v := .int .i64 0) rfl rfl ?_)
  refine ar_nil ?_
  refine ac_seq ?_
  refine ac_region_lit ?_
  refine ao 8 rfl rfl (st_assign (v := .int .i64 0) rfl rfl ?_)
  refine ar_nil ?_
  refine ac_seq ?_
  refine ac_seq ?_
  refine ac_region_lit ?_
  refine ao 9 rfl rfl (st_assign (v := .int .i64 0) rfl rfl ?_)
  refine ar_nil ?_
  refine ac_block ?_
  refine ac_rounds 61 ?_
  refine ar_round ?_
  refine ac_seq ?_
  refine ac_seq ?_
  refine ac_region_lit ?_
  refine ao 16 rfl rfl (st_move (v := .int .i64 0) rfl rfl ?_)
  refine ao 17 rfl rfl (st_bi (u := .int .i64 0) (v := .int .i64 4) (r := .bool true) rfl rfl rfl (bi_lss (by decide)) ?_)
  refine ar_nil ?_
  refine ac_then rfl ?_
  refine ac_skip ?_
  refine ac_seq ?_
  refine ac_block ?_
  refine ac_seq ?_
  refine ac_region_lit ?_
  refine ao 20 rfl rfl (st_fa (g := g0) (off := 0) rfl fa26_0 rfl ?_)
  refine ao 21 rfl rfl (st_ldc (g := g0) (off := 0) (v := .int .i64 a.lo) cell3 2 rfl rfl rfl rfl rfl ?_)
  refine ao 10 rfl rfl (st_assign (v := .int .i64 a.lo) rfl rfl ?_)
  refine ar_nil ?_
  refine ac_seq ?_
  refine ac_seq ?_
  refine ac_region_lit ?_
  refine ao 22 rfl rfl (st_move (v := .int .i64 0) rfl rfl ?_)
  refine ao 23 rfl rfl (st_bi (u := .int .i64 0) (v := .int .i64 2) (r := .int .i64 0) rfl rfl rfl (bi_rem (by decide) (by decide)) ?_)
  refine ao 24 rfl rfl (st_bi (u := .int .i64 0) (v := .int .i64 1) (r := .bool false) rfl rfl rfl (bi_eql (by decide)) ?_)
  refine ar_nil ?_
  refine ac_else rfl ?_
  refine ac_skip ?_
  refine ac_seq ?_
  refine ac_region_lit ?_
  refine ao 27 rfl rfl (st_fa (g := g1) (off := 0) rfl fa26_0 rfl ?_)
  refine ao 28 rfl rfl (st_ldc (g := g1) (off := 0) (v := .int .i64 b.lo) cell3 1 rfl rfl rfl rfl rfl ?_)
  refine ao 11 rfl rfl (st_assign (v := .int .i64 b.lo) rfl rfl ?_)
  refine ar_nil ?_
  refine ac_seq ?_
  refine ac_seq ?_
  refine ac_region_lit ?_
  refine ao 29 rfl rfl (st_move (v := .int .i64 0) rfl rfl ?_)
  refine ao 30 rfl rfl (st_bi (u := .int .i64 0) (v := .int .i64 2) (r := .int .i64 0) rfl rfl rfl (bi_quo (by decide) (by decide)) ?_)
  refine ao 31 rfl rfl (st_bi (u := .int .i64 0) (v := .int .i64 1) (r := .bool false) rfl rfl rfl (bi_eql (by decide)) ?_)
  refine ar_nil ?_
  refine ac_else rfl ?_
  refine ac_skip ?_
  refine ac_seq ?_
  refine ac_region_lit ?_
  refine ao 35 rfl rfl (st_move (v := .int .i64 a.lo) rfl rfl ?_)
  refine ao 36 rfl rfl (st_move (v := .int .i64 b.lo) rfl rfl ?_)
  refine ao 37 rfl rfl (st_cf (vs := [.int .i64 a.lo, .int .i64 b.lo, .bool false]) (r := .tuple #[.int .i64 ((rMul a.lo b.lo false).1), .bool ((rMul a.lo b.lo false).2)]) (c_rMul a.lo b.lo false) Try.func115 rfl (by decide) rfl rfl rfl ?_)
  refine ao 34 rfl rfl (st_move (v := .tuple #[.int .i64 ((rMul a.lo b.lo false).1), .bool ((rMul a.lo b.lo false).2)]) rfl rfl ?_)
  refine ao 38 rfl rfl (st_ex (vs := [.int .i64 ((rMul a.lo b.lo false).1), .bool ((rMul a.lo b.lo false).2)]) (v := .int .i64 ((rMul a.lo b.lo false).1)) rfl rfl rfl ?_)
  refine ao 39 rfl rfl (st_ex (vs := [.int .i64 ((rMul a.lo b.lo false).1), .bool ((rMul a.lo b.lo false).2)]) (v := .bool ((rMul a.lo b.lo false).2)) rfl rfl rfl ?_)
  refine ao 12 rfl rfl (st_assign (v := .int .i64 ((rMul a.lo b.lo false).1)) rfl rfl ?_)
  refine ao 13 rfl rfl (st_assign (v := .bool ((rMul a.lo b.lo false).2)) rfl rfl ?_)
  refine ar_nil ?_
  refine ac_seq ?_
  refine ac_region_lit ?_
  refine ao 41 rfl rfl (st_move (v := .int .i64 a.lo) rfl rfl ?_)
  refine ao 42 rfl rfl (st_move (v := .int .i64 b.lo) rfl rfl ?_)
  refine ao 43 rfl rfl (st_cf (vs := [.int .i64 a.lo, .int .i64 b.lo, .bool true]) (r := .tuple #[.int .i64 ((rMul a.lo b.lo true).1), .bool ((rMul a.lo b.lo true).2)]) (c_rMul a.lo b.lo true) Try.func115 rfl (by decide) rfl rfl rfl ?_)
  refine ao 40 rfl rfl (st_move (v := .tuple #[.int .i64 ((rMul a.lo b.lo true).1), .bool ((rMul a.lo b.lo true).2)]) rfl rfl ?_)
  refine ao 44 rfl rfl (st_ex (vs := [.int .i64 ((rMul a.lo b.lo true).1), .bool ((rMul a.lo b.lo true).2)]) (v := .int .i64 ((rMul a.lo b.lo true).1)) rfl rfl rfl ?_)
  refine ao 45 rfl rfl (st_ex (vs := [.int .i64 ((rMul a.lo b.lo true).1), .bool ((rMul a.lo b.lo true).2)]) (v := .bool ((rMul a.lo b.lo true).2)) rfl rfl rfl ?_)
  refine ao 14 rfl rfl (st_assign (v := .int .i64 ((rMul a.lo b.lo true).1)) rfl rfl ?_)
  refine ao 15 rfl rfl (st_assign (v := .bool ((rMul a.lo b.lo true).2)) rfl rfl ?_)
  refine ar_nil ?_
  refine ac_seq ?_
  refine ac_seq ?_
  refine ac_region_lit ?_
  refine ao 46 rfl rfl (st_move (v := .bool true) rfl rfl ?_)
  refine ar_nil ?_
  refine ac_then rfl ?_
  refine ac_seq ?_
  refine ac_region_lit ?_
  refine ao 48 rfl rfl (st_move (v := .int .i64 a.lo) rfl rfl ?_)
  refine ao 49 rfl rfl (st_move (v := .int .i64 b.lo) rfl rfl ?_)
  refine ao 50 rfl rfl (st_cf (vs := [.int .i64 a.lo, .int .i64 b.lo, .bool false]) (r := .tuple #[.int .i64 ((rDiv a.lo b.lo false).1), .bool ((rDiv a.lo b.lo false).2)]) (c_rDiv a.lo b.lo false) Try.func132 rfl (by decide) rfl rfl rfl ?_)
  refine ao 47 rfl rfl (st_move (v := .tuple #[.int .i64 ((rDiv a.lo b.lo false).1), .bool ((rDiv a.lo b.lo false).2)]) rfl rfl ?_)
  refine ao 51 rfl rfl (st_ex (vs := [.int .i64 ((rDiv a.lo b.lo false).1), .bool ((rDiv a.lo b.lo false).2)]) (v := .int .i64 ((rDiv a.lo b.lo false).1)) rfl rfl rfl ?_)
  refine ao 52 rfl rfl (st_ex (vs := [.int .i64 ((rDiv a.lo b.lo false).1), .bool ((rDiv a.lo b.lo false).2)]) (v := .bool ((rDiv a.lo b.lo false).2)) rfl rfl rfl ?_)
  refine ao 12 rfl rfl (st_assign (v := .int .i64 ((rDiv a.lo b.lo false).1)) rfl rfl ?_)
  refine ao 13 rfl rfl (st_assign (v := .bool ((rDiv a.lo b.lo false).2)) rfl rfl ?_)
  refine ar_nil ?_
  refine ac_region_lit ?_
  refine ao 54 rfl rfl (st_move (v := .int .i64 a.lo) rfl rfl ?_)
  refine ao 55 rfl rfl (st_move (v := .int .i64 b.lo) rfl rfl ?_)
  refine ao 56 rfl rfl (st_cf (vs := [.int .i64 a.lo, .int .i64 b.lo, .bool true]) (r := .tuple #[.int .i64 ((rDiv a.lo b.lo true).1), .bool ((rDiv a.lo b.lo true).2)]) (c_rDiv a.lo b.lo true) Try.func132 rfl (by decide) rfl rfl rfl ?_)
  refine ao 53 rfl rfl (st_move (v := .tuple #[.int .i64 ((rDiv a.lo b.lo true).1), .bool ((rDiv a.lo b.lo true).2)]) rfl rfl ?_)
  refine ao 57 rfl rfl (st_ex (vs := [.int .i64 ((rDiv a.lo b.lo true).1), .bool ((rDiv a.lo b.lo true).2)]) (v := .int .i64 ((rDiv a.lo b.lo true).1)) rfl rfl rfl ?_)
  refine ao 58 rfl rfl (st_ex (vs := [.int .i64 ((rDiv a.lo b.lo true).1), .bool ((rDiv a.lo b.lo true).2)]) (v := .bool ((rDiv a.lo b.lo true).2)) rfl rfl rfl ?_)
  refine ao 14 rfl rfl (st_assign (v := .int .i64 ((rDiv a.lo b.lo true).1)) rfl rfl ?_)
  refine ao 15 rfl rfl (st_assign (v := .bool ((rDiv a.lo b.lo true).2)) rfl rfl ?_)
  refine ar_nil ?_
  refine ac_seq ?_
  refine ac_seq ?_
  refine ac_region_lit ?_
  refine ao 59 rfl rfl (st_move (v := .bool ((rDiv a.lo b.lo false).2)) rfl rfl ?_)
  refine ao 60 rfl rfl (st_un (u := .bool ((rDiv a.lo b.lo false).2)) (v := .bool (!((rDiv a.lo b.lo false).2))) rfl rfl (un_not rfl) ?_)
  refine ao 61 rfl rfl (st_move (v := .bool (!((rDiv a.lo b.lo false).2))) rfl rfl ?_)
  refine bool_split ((rDiv a.lo b.lo false).2) (fun h1 => ?_) (fun h1 => ?_)
  · refine ar_gd (d := (some 62)) (by show ((!((rDiv a.lo b.lo false).2)) == false) = true; rw [h1]; rfl) rfl (st_move (v := .bool ((rDiv a.lo b.lo true).2)) rfl rfl ?_)
    refine ar_gd (d := (some 63)) (by show ((!((rDiv a.lo b.lo false).2)) == false) = true; rw [h1]; rfl) rfl (st_un (u := .bool ((rDiv a.lo b.lo true).2)) (v := .bool (!((rDiv a.lo b.lo true).2))) rfl rfl (un_not rfl) ?_)
    refine ao 64 rfl rfl (st_pkf' (b := !((rDiv a.lo b.lo false).2)) (v := .bool (!((rDiv a.lo b.lo true).2))) (by rw [h1]; rfl) rfl rfl rfl ?_)
    refine ar_nil ?_
    refine bool_split ((rDiv a.lo b.lo true).2) (fun h2 => ?_) (fun h2 => ?_)
    · refine ac_else' (b := !((rDiv a.lo b.lo true).2)) (by rw [h2]; rfl) rfl ?_
      refine ac_skip ?_
      refine ac_seq ?_
      refine ac_seq ?_
      refine ac_region_lit ?_
      refine ao 66 rfl rfl (st_move (v := .int .i64 0) rfl rfl ?_)
      refine ao 67 rfl rfl (st_bi (u := .int .i64 0) (v := .int .i64 0) (r := .bool true) rfl rfl rfl (bi_eql (by decide)) ?_)
      refine ao 68 rfl rfl (st_move (v := .bool true) rfl rfl ?_)
      refine ar_sk (d := (some 69)) rfl rfl ?_
      refine ar_sk (d := (some 70)) rfl rfl ?_
      refine ar_sk (d := (some 71)) rfl rfl ?_
      refine ao 72 rfl rfl (st_pkt (v := .bool true) rfl rfl rfl ?_)
      refine ar_nil ?_
      refine ac_then rfl ?_
      refine ac_region_lit ?_
      refine ao 73 rfl rfl (st_move (v := .int .i64 ((rDiv a.lo b.lo false).1)) rfl rfl ?_)
      refine ao 7 rfl rfl (st_assign (v := .int .i64 ((rDiv a.lo b.lo false).1)) rfl rfl ?_)
      refine ar_nil ?_
      refine ac_seq ?_
      refine ac_region_lit ?_
      refine ao 74 rfl rfl (st_move (v := .int .i64 0) rfl rfl ?_)
      refine ao 75 rfl rfl (st_bi (u := .int .i64 0) (v := .int .i64 0) (r := .bool true) rfl rfl rfl (bi_eql (by decide)) ?_)
      refine ao 76 rfl rfl (st_move (v := .bool true) rfl rfl ?_)
      refine ar_sk (d := (some 77)) rfl rfl ?_
      refine ar_sk (d := (some 78)) rfl rfl ?_
      refine ar_sk (d := (some 79)) rfl rfl ?_
      refine ao 80 rfl rfl (st_pkt (v := .bool true) rfl rfl rfl ?_)
      refine ar_nil ?_
      refine ac_then rfl ?_
      refine ac_region_lit ?_
      refine ao 81 rfl rfl (st_move (v := .int .i64 ((rDiv a.lo b.lo true).1)) rfl rfl ?_)
      refine ao 8 rfl rfl (st_assign (v := .int .i64 ((rDiv a.lo b.lo true).1)) rfl rfl ?_)
      refine ar_nil ?_
      refine ac_region_lit ?_
      refine ao 18 rfl rfl (st_move (v := .int .i64 0) rfl rfl ?_)
      refine ao 19 rfl rfl (st_bi (u := .int .i64 0) (v := .int .i64 1) (r := .int .i64 1) rfl rfl rfl (bi_add (by decide)) ?_)
      refine ao 9 rfl rfl (st_assign (v := .int .i64 1) rfl rfl ?_)
      refine ar_nil ?_
      refine ar_round ?_
      refine ac_seq ?_
      refine ac_seq ?_
      refine ac_region_lit ?_
      refine ao 16 rfl rfl (st_move (v := .int .i64 1) rfl rfl ?_)
      refine ao 17 rfl rfl (st_bi (u := .int .i64 1) (v := .int .i64 4) (r := .bool true) rfl rfl rfl (bi_lss (by decide)) ?_)
      refine ar_nil ?_
      refine ac_then rfl ?_
      refine ac_skip ?_
      refine ac_seq ?_
      refine ac_block ?_
      refine ac_seq ?_
      refine ac_region_lit ?_
      refine ao 20 rfl rfl (st_fa (g := g0) (off := 0) rfl fa26_0 rfl ?_)
      refine ao 21 rfl rfl (st_ldc (g := g0) (off := 0) (v := .int .i64 a.lo) cell3 2 rfl rfl rfl rfl rfl ?_)
      refine ao 10 rfl rfl (st_assign (v := .int .i64 a.lo) rfl rfl ?_)
      refine ar_nil ?_
      refine ac_seq ?_
      refine ac_seq ?_
      refine ac_region_lit ?_
      refine ao 22 rfl rfl (st_move (v := .int .i64 1) rfl rfl ?_)
      refine ao 23 rfl rfl (st_bi (u := .int .i64 1) (v := .int .i64 2) (r := .int .i64 1) rfl rfl rfl (bi_rem (by decide) (by decide)) ?_)
      refine ao 24 rfl rfl (st_bi (u := .int .i64 1) (v := .int .i64 1) (r := .bool true) rfl rfl rfl (bi_eql (by decide)) ?_)
      refine ar_nil ?_
      refine ac_then rfl ?_
      refine ac_region_lit ?_
      refine ao 25 rfl rfl (st_fa (g := g0) (off := 0) rfl fa26_1 rfl ?_)
      refine ao 26 rfl rfl (st_ldc (g := g0) (off := 1) (v := .int .i64 a.hi) cell3 2 rfl rfl rfl rfl rfl ?_)
      refine ao 10 rfl rfl (st_assign (v := .int .i64 a.hi) rfl rfl ?_)
      refine ar_nil ?_
      refine ac_seq ?_
      refine ac_region_lit ?_
      refine ao 27 rfl rfl (st_fa (g := g1) (off := 0) rfl fa26_0 rfl ?_)
      refine ao 28 rfl rfl (st_ldc (g := g1) (off := 0) (v := .int .i64 b.lo) cell3 1 rfl rfl rfl rfl rfl ?_)
      refine ao 11 rfl rfl (st_assign (v := .int .i64 b.lo) rfl rfl ?_)
      refine ar_nil ?_
      refine ac_seq ?_
      refine ac_seq ?_
      refine ac_region_lit ?_
      refine ao 29 rfl rfl (st_move (v := .int .i64 1) rfl rfl ?_)
      refine ao 30 rfl rfl (st_bi (u := .int .i64 1) (v := .int .i64 2) (r := .int .i64 0) rfl rfl rfl (bi_quo (by decide) (by decide)) ?_)
      refine ao 31 rfl rfl (st_bi (u := .int .i64 0) (v := .int .i64 1) (r := .bool false) rfl rfl rfl (bi_eql (by decide)) ?_)
      refine ar_nil ?_
      refine ac_else rfl ?_
      refine ac_skip ?_
      refine ac_seq ?_
      refine ac_region_lit ?_
      refine ao 35 rfl rfl (st_move (v := .int .i64 a.hi) rfl rfl ?_)
      refine ao 36 rfl rfl (st_move (v := .int .i64 b.lo) rfl rfl ?_)
      refine ao 37 rfl rfl (st_cf (vs := [.int .i64 a.hi, .int .i64 b.lo, .bool false]) (r := .tuple #[.int .i64 ((rMul a.hi b.lo false).1), .bool ((rMul a.hi b.lo false).2)]) (c_rMul a.hi b.lo false) Try.func115 rfl (by decide) rfl rfl rfl ?_)
      refine ao 34 rfl rfl (st_move (v := .tuple #[.int .i64 ((rMul a.hi b.lo false).1), .bool ((rMul a.hi b.lo false).2)]) rfl rfl ?_)
      refine ao 38 rfl rfl (st_ex (vs := [.int .i64 ((rMul a.hi b.lo false).1), .bool ((rMul a.hi b.lo false).2)]) (v := .int .i64 ((rMul a.hi b.lo false).1)) rfl rfl rfl ?_)
      refine ao 39 rfl rfl (st_ex (vs := [.int .i64 ((rMul a.hi b.lo false).1), .bool ((rMul a.hi b.lo false).2)]) (v := .bool ((rMul a.hi b.lo false).2)) rfl rfl rfl ?_)
      refine ao 12 rfl rfl (st_assign (v := .int .i64 ((rMul a.hi b.lo false).1)) rfl rfl ?_)
      refine ao 13 rfl rfl (st_assign (v := .bool ((rMul a.hi b.lo false).2)) rfl rfl ?_)
      refine ar_nil ?_
      refine ac_seq ?_
      refine ac_region_lit ?_
      refine ao 41 rfl rfl (st_move (v := .int .i64 a.hi) rfl rfl ?_)
      refine ao 42 rfl rfl (st_move (v := .int .i64 b.lo) rfl rfl ?_)
      refine ao 43 rfl rfl (st_cf (vs := [.int .i64 a.hi, .int .i64 b.lo, .bool true]) (r := .tuple #[.int .i64 ((rMul a.hi b.lo true).1), .bool ((rMul a.hi b.lo true).2)]) (c_rMul a.hi b.lo true) Try.func115 rfl (by decide) rfl rfl rfl ?_)
      refine ao 40 rfl rfl (st_move (v := .tuple #[.int .i64 ((rMul a.hi b.lo true).1), .bool ((rMul a.hi b.lo true).2)]) rfl rfl ?_)
      refine ao 44 rfl rfl (st_ex (vs := [.int .i64 ((rMul a.hi b.lo true).1), .bool ((rMul a.hi b.lo true).2)]) (v := .int .i64 ((rMul a.hi b.lo true).1)) rfl rfl rfl ?_)
      refine ao 45 rfl rfl (st_ex (vs := [.int .i64 ((rMul a.hi b.lo true).1), .bool ((rMul a.hi b.lo true).2)]) (v := .bool ((rMul a.hi b.lo true).2)) rfl rfl rfl ?_)
      refine ao 14 rfl rfl (st_assign (v := .int .i64 ((rMul a.hi b.lo true).1)) rfl rfl ?_)
      refine ao 15 rfl rfl (st_assign (v := .bool ((rMul a.hi b.lo true).2)) rfl rfl ?_)
      refine ar_nil ?_
      refine ac_seq ?_
      refine ac_seq ?_
      refine ac_region_lit ?_
      refine ao 46 rfl rfl (st_move (v := .bool true) rfl rfl ?_)
      refine ar_nil ?_
      refine ac_then rfl ?_
      refine ac_seq ?_
      refine ac_region_lit ?_
      refine ao 48 rfl rfl (st_move (v := .int .i64 a.hi) rfl rfl ?_)
      refine ao 49 rfl rfl (st_move (v := .int .i64 b.lo) rfl rfl ?_)
      refine ao 50 rfl rfl (st_cf (vs := [.int .i64 a.hi, .int .i64 b.lo, .bool false]) (r := .tuple #[.int .i64 ((rDiv a.hi b.lo false).1), .bool ((rDiv a.hi b.lo false).2)]) (c_rDiv a.hi b.lo false) Try.func132 rfl (by decide) rfl rfl rfl ?_)
      refine ao 47 rfl rfl (st_move (v := .tuple #[.int .i64 ((rDiv a.hi b.lo false).1), .bool ((rDiv a.hi b.lo false).2)]) rfl rfl ?_)
      refine ao 51 rfl rfl (st_ex (vs := [.int .i64 ((rDiv a.hi b.lo false).1), .bool ((rDiv a.hi b.lo false).2)]) (v := .int .i64 ((rDiv a.hi b.lo false).1)) rfl rfl rfl ?_)
      refine ao 52 rfl rfl (st_ex (vs := [.int .i64 ((rDiv a.hi b.lo false).1), .bool ((rDiv a.hi b.lo false).2)]) (v := .bool ((rDiv a.hi b.lo false).2)) rfl rfl rfl ?_)
      refine ao 12 rfl rfl (st_assign (v := .int .i64 ((rDiv a.hi b.lo false).1)) rfl rfl ?_)
      refine ao 13 rfl rfl (st_assign (v := .bool ((rDiv a.hi b.lo false).2)) rfl rfl ?_)
      refine ar_nil ?_
      refine ac_region_lit ?_
      refine ao 54 rfl rfl (st_move (v := .int .i64 a.hi) rfl rfl ?_)
      refine ao 55 rfl rfl (st_move (v := .int .i64 b.lo) rfl rfl ?_)
      refine ao 56 rfl rfl (st_cf (vs := [.int .i64 a.hi, .int .i64 b.lo, .bool true]) (r := .tuple #[.int .i64 ((rDiv a.hi b.lo true).1), .bool ((rDiv a.hi b.lo true).2)]) (c_rDiv a.hi b.lo true) Try.func132 rfl (by decide) rfl rfl rfl ?_)
      refine ao 53 rfl rfl (st_move (v := .tuple #[.int .i64 ((rDiv a.hi b.lo true).1), .bool ((rDiv a.hi b.lo true).2)]) rfl rfl ?_)
      refine ao 57 rfl rfl (st_ex (vs := [.int .i64 ((rDiv a.hi b.lo true).1), .bool ((rDiv a.hi b.lo true).2)]) (v := .int .i64 ((rDiv a.hi b.lo true).1)) rfl rfl rfl ?_)
      refine ao 58 rfl rfl (st_ex (vs := [.int .i64 ((rDiv a.hi b.lo true).1), .bool ((rDiv a.hi b.lo true).2)]) (v := .bool ((rDiv a.hi b.lo true).2)) rfl rfl rfl ?_)
      refine ao 14 rfl rfl (st_assign (v := .int .i64 ((rDiv a.hi b.lo true).1)) rfl rfl ?_)
      refine ao 15 rfl rfl (st_assign (v := .bool ((rDiv a.hi b.lo true).2)) rfl rfl ?_)
      refine ar_nil ?_
      refine ac_seq ?_
      refine ac_seq ?_
      refine ac_region_lit ?_
      refine ao 59 rfl rfl (st_move (v := .bool ((rDiv a.hi b.lo false).2)) rfl rfl ?_)
      refine ao 60 rfl rfl (st_un (u := .bool ((rDiv a.hi b.lo false).2)) (v := .bool (!((rDiv a.hi b.lo false).2))) rfl rfl (un_not rfl) ?_)
      refine ao 61 rfl rfl (st_move (v := .bool (!((rDiv a.hi b.lo false).2))) rfl rfl ?_)
      refine bool_split ((rDiv a.hi b.lo false).2) (fun h3 => ?_) (fun h3 => ?_)
      · refine ar_gd (d := (some 62)) (by show ((!((rDiv a.hi b.lo false).2)) == false) = true; rw [h3]; rfl) rfl (st_move (v := .bool ((rDiv a.hi b.lo true).2)) rfl rfl ?_)
        refine ar_gd (d := (some 63)) (by show ((!((rDiv a.hi b.lo false).2)) == false) = true; rw [h3]; rfl) rfl (st_un (u := .bool ((rDiv a.hi b.lo true).2)) (v := .bool (!((rDiv a.hi b.lo true).2))) rfl rfl (un_not rfl) ?_)
        refine ao 64 rfl rfl (st_pkf' (b := !((rDiv a.hi b.lo false).2)) (v := .bool (!((rDiv a.hi b.lo true).2))) (by rw [h3]; rfl) rfl rfl rfl ?_)
        refine ar_nil ?_
        refine bool_split ((rDiv a.hi b.lo true).2) (fun h4 => ?_) (fun h4 => ?_)
        · refine ac_else' (b := !((rDiv a.hi b.lo true).2)) (by rw [h4]; rfl) rfl ?_
          refine ac_skip ?_
          refine ac_seq ?_
          refine ac_seq ?_
          refine ac_region_lit ?_
          refine ao 66 rfl rfl (st_move (v := .int .i64 1) rfl rfl ?_)
          refine ao 67 rfl rfl (st_bi (u := .int .i64 1) (v := .int .i64 0) (r := .bool false) rfl rfl rfl (bi_eql (by decide)) ?_)
          refine ao 68 rfl rfl (st_move (v := .bool false) rfl rfl ?_)
          refine ar_gd (d := (some 69)) rfl rfl (st_move (v := .int .i64 ((rDiv a.hi b.lo false).1)) rfl rfl ?_)
          refine ar_gd (d := (some 70)) rfl rfl (st_move (v := .int .i64 ((rDiv a.lo b.lo false).1)) rfl rfl ?_)
          refine ar_gd (d := (some 71)) rfl rfl (st_bi (u := .int .i64 ((rDiv a.hi b.lo false).1)) (v := .int .i64 ((rDiv a.lo b.lo false).1)) (r := .bool (decide (((rDiv a.hi b.lo false).1) < ((rDiv a.lo b.lo false).1)))) rfl rfl rfl (bi_lss rfl) ?_)
          refine ao 72 rfl rfl (st_pkf (v := .bool (decide (((rDiv a.hi b.lo false).1) < ((rDiv a.lo b.lo false).1)))) rfl rfl rfl ?_)
          refine ar_nil ?_
          refine ac_mergeE (fun E9 => ((Env.put E9 (some 73) (.int .i64 ((rDiv a.hi b.lo false).1))).put (some 7) (.int .i64 ((rDiv a.hi b.lo false).1)))) (fun E9 => ((Env.put E9 (some 73) (.int .i64 (rEndsDiv_e0 a b))).put (some 7) (.int .i64 (rEndsDiv_e0 a b)))) (b := decide (((rDiv a.hi b.lo false).1) < ((rDiv a.lo b.lo false).1))) rfl (fun hm => ?_) (fun hm => ?_) (fun hm => ?_) ?_
          · refine ac_region_lit ?_
            refine ao 73 rfl rfl (st_move (v := .int .i64 ((rDiv a.hi b.lo false).1)) rfl rfl ?_)
            refine ao 7 rfl rfl (st_assign (v := .int .i64 ((rDiv a.hi b.lo false).1)) rfl rfl ?_)
            refine ar_nil ?_
            exact ⟨rfl, rfl, rfl⟩
          · unfold rEndsDiv_e0; rw [hm]; rfl
          · unfold rEndsDiv_e0; rw [hm]; exact ((put_self rfl).trans (put_self rfl))
          refine ac_seq ?_
          refine ac_region_lit ?_
          refine ao 74 rfl rfl (st_move (v := .int .i64 1) rfl rfl ?_)
          refine ao 75 rfl rfl (st_bi (u := .int .i64 1) (v := .int .i64 0) (r := .bool false) rfl rfl rfl (bi_eql (by decide)) ?_)
          refine ao 76 rfl rfl (st_move (v := .bool false) rfl rfl ?_)
          refine ar_gd (d := (some 77)) rfl rfl (st_move (v := .int .i64 ((rDiv a.hi b.lo true).1)) rfl rfl ?_)
          refine ar_gd (d := (some 78)) rfl rfl (st_move (v := .int .i64 ((rDiv a.lo b.lo true).1)) rfl rfl ?_)
          refine ar_gd (d := (some 79)) rfl rfl (st_bi (u := .int .i64 ((rDiv a.hi b.lo true).1)) (v := .int .i64 ((rDiv a.lo b.lo true).1)) (r := .bool (decide (((rDiv a.hi b.lo true).1) > ((rDiv a.lo b.lo true).1)))) rfl rfl rfl (bi_gtr rfl) ?_)
          refine ao 80 rfl rfl (st_pkf (v := .bool (decide (((rDiv a.hi b.lo true).1) > ((rDiv a.lo b.lo true).1)))) rfl rfl rfl ?_)
          refine ar_nil ?_
          refine ac_mergeE (fun E9 => ((Env.put E9 (some 81) (.int .i64 ((rDiv a.hi b.lo true).1))).put (some 8) (.int .i64 ((rDiv a.hi b.lo true).1)))) (fun E9 => ((Env.put E9 (some 81) (.int .i64 (rEndsDiv_e1 a b))).put (some 8) (.int .i64 (rEndsDiv_e1 a b)))) (b := decide (((rDiv a.hi b.lo true).1) > ((rDiv a.lo b.lo true).1))) rfl (fun hm => ?_) (fun hm => ?_) (fun hm => ?_) ?_
          · refine ac_region_lit ?_
            refine ao 81 rfl rfl (st_move (v := .int .i64 ((rDiv a.hi b.lo true).1)) rfl rfl ?_)
            refine ao 8 rfl rfl (st_assign (v := .int .i64 ((rDiv a.hi b.lo true).1)) rfl rfl ?_)
            refine ar_nil ?_
            exact ⟨rfl, rfl, rfl⟩
          · unfold rEndsDiv_e1; rw [hm]; rfl
          · unfold rEndsDiv_e1; rw [hm]; exact ((put_self rfl).trans (put_self rfl))
          refine ac_region_lit ?_
          refine ao 18 rfl rfl (st_move (v := .int .i64 1) rfl rfl ?_)
          refine ao 19 rfl rfl (st_bi (u := .int .i64 1) (v := .int .i64 1) (r := .int .i64 2) rfl rfl rfl (bi_add (by decide)) ?_)
          refine ao 9 rfl rfl (st_assign (v := .int .i64 2) rfl rfl ?_)
          refine ar_nil ?_
          refine ar_round ?_
          refine ac_seq ?_
          refine ac_seq ?_
          refine ac_region_lit ?_
          refine ao 16 rfl rfl (st_move (v := .int .i64 2) rfl rfl ?_)
          refine ao 17 rfl rfl (st_bi (u := .int .i64 2) (v := .int .i64 4) (r := .bool true) rfl rfl rfl (bi_lss (by decide)) ?_)
          refine ar_nil ?_
          refine ac_then rfl ?_
          refine ac_skip ?_
          refine ac_seq ?_
          refine ac_block ?_
          refine ac_seq ?_
          refine ac_region_lit ?_
          refine ao 20 rfl rfl (st_fa (g := g0) (off := 0) rfl fa26_0 rfl ?_)
          refine ao 21 rfl rfl (st_ldc (g := g0) (off := 0) (v := .int .i64 a.lo) cell3 2 rfl rfl rfl rfl rfl ?_)
          refine ao 10 rfl rfl (st_assign (v := .int .i64 a.lo) rfl rfl ?_)
          refine ar_nil ?_
          refine ac_seq ?_
          refine ac_seq ?_
          refine ac_region_lit ?_
          refine ao 22 rfl rfl (st_move (v := .int .i64 2) rfl rfl ?_)
          refine ao 23 rfl rfl (st_bi (u := .int .i64 2) (v := .int .i64 2) (r := .int .i64 0) rfl rfl rfl (bi_rem (by decide) (by decide)) ?_)
          refine ao 24 rfl rfl (st_bi (u := .int .i64 0) (v := .int .i64 1) (r := .bool false) rfl rfl rfl (bi_eql (by decide)) ?_)
          refine ar_nil ?_
          refine ac_else rfl ?_
          refine ac_skip ?_
          refine ac_seq ?_
          refine ac_region_lit ?_
          refine ao 27 rfl rfl (st_fa (g := g1) (off := 0) rfl fa26_0 rfl ?_)
          refine ao 28 rfl rfl (st_ldc (g := g1) (off := 0) (v := .int .i64 b.lo) cell3 1 rfl rfl rfl rfl rfl ?_)
          refine ao 11 rfl rfl (st_assign (v := .int .i64 b.lo) rfl rfl ?_)
          refine ar_nil ?_
          refine ac_seq ?_
          refine ac_seq ?_
          refine ac_region_lit ?_
          refine ao 29 rfl rfl (st_move (v := .int .i64 2) rfl rfl ?_)
          refine ao 30 rfl rfl (st_bi (u := .int .i64 2) (v := .int .i64 2) (r := .int .i64 1) rfl rfl rfl (bi_quo (by decide) (by decide)) ?_)
          refine ao 31 rfl rfl (st_bi (u := .int .i64 1) (v := .int .i64 1) (r := .bool true) rfl rfl rfl (bi_eql (by decide)) ?_)
          refine ar_nil ?_
          refine ac_then rfl ?_
          refine ac_region_lit ?_
          refine ao 32 rfl rfl (st_fa (g := g1) (off := 0) rfl fa26_1 rfl ?_)
          refine ao 33 rfl rfl (st_ldc (g := g1) (off := 1) (v := .int .i64 b.hi) cell3 1 rfl rfl rfl rfl rfl ?_)
          refine ao 11 rfl rfl (st_assign (v := .int .i64 b.hi) rfl rfl ?_)
          refine ar_nil ?_
          refine ac_seq ?_
          refine ac_region_lit ?_
          refine ao 35 rfl rfl (st_move (v := .int .i64 a.lo) rfl rfl ?_)
          refine ao 36 rfl rfl (st_move (v := .int .i64 b.hi) rfl rfl ?_)
          refine ao 37 rfl rfl (st_cf (vs := [.int .i64 a.lo, .int .i64 b.hi, .bool false]) (r := .tuple #[.int .i64 ((rMul a.lo b.hi false).1), .bool ((rMul a.lo b.hi false).2)]) (c_rMul a.lo b.hi false) Try.func115 rfl (by decide) rfl rfl rfl ?_)
          refine ao 34 rfl rfl (st_move (v := .tuple #[.int .i64 ((rMul a.lo b.hi false).1), .bool ((rMul a.lo b.hi false).2)]) rfl rfl ?_)
          refine ao 38 rfl rfl (st_ex (vs := [.int .i64 ((rMul a.lo b.hi false).1), .bool ((rMul a.lo b.hi false).2)]) (v := .int .i64 ((rMul a.lo b.hi false).1)) rfl rfl rfl ?_)
          refine ao 39 rfl rfl (st_ex (vs := [.int .i64 ((rMul a.lo b.hi false).1), .bool ((rMul a.lo b.hi false).2)]) (v := .bool ((rMul a.lo b.hi false).2)) rfl rfl rfl ?_)
          refine ao 12 rfl rfl (st_assign (v := .int .i64 ((rMul a.lo b.hi false).1)) rfl rfl ?_)
          refine ao 13 rfl rfl (st_assign (v := .bool ((rMul a.lo b.hi false).2)) rfl rfl ?_)
          refine ar_nil ?_
          refine ac_seq ?_
          refine ac_region_lit ?_
          refine ao 41 rfl rfl (st_move (v := .int .i64 a.lo) rfl rfl ?_)
          refine ao 42 rfl rfl (st_move (v := .int .i64 b.hi) rfl rfl ?_)
          refine ao 43 rfl rfl (st_cf (vs := [.int .i64 a.lo, .int .i64 b.hi, .bool true]) (r := .tuple #[.int .i64 ((rMul a.lo b.hi true).1), .bool ((rMul a.lo b.hi true).2)]) (c_rMul a.lo b.hi true) Try.func115 rfl (by decide) rfl rfl rfl ?_)
          refine ao 40 rfl rfl (st_move (v := .tuple #[.int .i64 ((rMul a.lo b.hi true).1), .bool ((rMul a.lo b.hi true).2)]) rfl rfl ?_)
          refine ao 44 rfl rfl (st_ex (vs := [.int .i64 ((rMul a.lo b.hi true).1), .bool ((rMul a.lo b.hi true).2)]) (v := .int .i64 ((rMul a.lo b.hi true).1)) rfl rfl rfl ?_)
          refine ao 45 rfl rfl (st_ex (vs := [.int .i64 ((rMul a.lo b.hi true).1), .bool ((rMul a.lo b.hi true).2)]) (v := .bool ((rMul a.lo b.hi true).2)) rfl rfl rfl ?_)
          refine ao 14 rfl rfl (st_assign (v := .int .i64 ((rMul a.lo b.hi true).1)) rfl rfl ?_)
          refine ao 15 rfl rfl (st_assign (v := .bool ((rMul a.lo b.hi true).2)) rfl rfl ?_)
          refine ar_nil ?_
          refine ac_seq ?_
          refine ac_seq ?_
          refine ac_region_lit ?_
          refine ao 46 rfl rfl (st_move (v := .bool true) rfl rfl ?_)
          refine ar_nil ?_
          refine ac_then rfl ?_
          refine ac_seq ?_
          refine ac_region_lit ?_
          refine ao 48 rfl rfl (st_move (v := .int .i64 a.lo) rfl rfl ?_)
          refine ao 49 rfl rfl (st_move (v := .int .i64 b.hi) rfl rfl ?_)
          refine ao 50 rfl rfl (st_cf (vs := [.int .i64 a.lo, .int .i64 b.hi, .bool false]) (r := .tuple #[.int .i64 ((rDiv a.lo b.hi false).1), .bool ((rDiv a.lo b.hi false).2)]) (c_rDiv a.lo b.hi false) Try.func132 rfl (by decide) rfl rfl rfl ?_)
          refine ao 47 rfl rfl (st_move (v := .tuple #[.int .i64 ((rDiv a.lo b.hi false).1), .bool ((rDiv a.lo b.hi false).2)]) rfl rfl ?_)
          refine ao 51 rfl rfl (st_ex (vs := [.int .i64 ((rDiv a.lo b.hi false).1), .bool ((rDiv a.lo b.hi false).2)]) (v := .int .i64 ((rDiv a.lo b.hi false).1)) rfl rfl rfl ?_)
          refine ao 52 rfl rfl (st_ex (vs := [.int .i64 ((rDiv a.lo b.hi false).1), .bool ((rDiv a.lo b.hi false).2)]) (v := .bool ((rDiv a.lo b.hi false).2)) rfl rfl rfl ?_)
          refine ao 12 rfl rfl (st_assign (v := .int .i64 ((rDiv a.lo b.hi false).1)) rfl rfl ?_)
          refine ao 13 rfl rfl (st_assign (v := .bool ((rDiv a.lo b.hi false).2)) rfl rfl ?_)
          refine ar_nil ?_
          refine ac_region_lit ?_
          refine ao 54 rfl rfl (st_move (v := .int .i64 a.lo) rfl rfl ?_)
          refine ao 55 rfl rfl (st_move (v := .int .i64 b.hi) rfl rfl ?_)
          refine ao 56 rfl rfl (st_cf (vs := [.int .i64 a.lo, .int .i64 b.hi, .bool true]) (r := .tuple #[.int .i64 ((rDiv a.lo b.hi true).1), .bool ((rDiv a.lo b.hi true).2)]) (c_rDiv a.lo b.hi true) Try.func132 rfl (by decide) rfl rfl rfl ?_)
          refine ao 53 rfl rfl (st_move (v := .tuple #[.int .i64 ((rDiv a.lo b.hi true).1), .bool ((rDiv a.lo b.hi true).2)]) rfl rfl ?_)
          refine ao 57 rfl rfl (st_ex (vs := [.int .i64 ((rDiv a.lo b.hi true).1), .bool ((rDiv a.lo b.hi true).2)]) (v := .int .i64 ((rDiv a.lo b.hi true).1)) rfl rfl rfl ?_)
          refine ao 58 rfl rfl (st_ex (vs := [.int .i64 ((rDiv a.lo b.hi true).1), .bool ((rDiv a.lo b.hi true).2)]) (v := .bool ((rDiv a.lo b.hi true).2)) rfl rfl rfl ?_)
          refine ao 14 rfl rfl (st_assign (v := .int .i64 ((rDiv a.lo b.hi true).1)) rfl rfl ?_)
          refine ao 15 rfl rfl (st_assign (v := .bool ((rDiv a.lo b.hi true).2)) rfl rfl ?_)
          refine ar_nil ?_
          refine ac_seq ?_
          refine ac_seq ?_
          refine ac_region_lit ?_
          refine ao 59 rfl rfl (st_move (v := .bool ((rDiv a.lo b.hi false).2)) rfl rfl ?_)
          refine ao 60 rfl rfl (st_un (u := .bool ((rDiv a.lo b.hi false).2)) (v := .bool (!((rDiv a.lo b.hi false).2))) rfl rfl (un_not rfl) ?_)
          refine ao 61 rfl rfl (st_move (v := .bool (!((rDiv a.lo b.hi false).2))) rfl rfl ?_)
          refine bool_split ((rDiv a.lo b.hi false).2) (fun h5 => ?_) (fun h5 => ?_)
          · refine ar_gd (d := (some 62)) (by show ((!((rDiv a.lo b.hi false).2)) == false) = true; rw [h5]; rfl) rfl (st_move (v := .bool ((rDiv a.lo b.hi true).2)) rfl rfl ?_)
            refine ar_gd (d := (some 63)) (by show ((!((rDiv a.lo b.hi false).2)) == false) = true; rw [h5]; rfl) rfl (st_un (u := .bool ((rDiv a.lo b.hi true).2)) (v := .bool (!((rDiv a.lo b.hi true).2))) rfl rfl (un_not rfl) ?_)
            refine ao 64 rfl rfl (st_pkf' (b := !((rDiv a.lo b.hi false).2)) (v := .bool (!((rDiv a.lo b.hi true).2))) (by rw [h5]; rfl) rfl rfl rfl ?_)
            refine ar_nil ?_
            refine bool_split ((rDiv a.lo b.hi true).2) (fun h6 => ?_) (fun h6 => ?_)
            · refine ac_else' (b := !((rDiv a.lo b.hi true).2)) (by rw [h6]; rfl) rfl ?_
              refine ac_skip ?_
              refine ac_seq ?_
              refine ac_seq ?_
              refine ac_region_lit ?_
              refine ao 66 rfl rfl (st_move (v := .int .i64 2) rfl rfl ?_)
              refine ao 67 rfl rfl (st_bi (u := .int .i64 2) (v := .int .i64 0) (r := .bool false) rfl rfl rfl (bi_eql (by decide)) ?_)
              refine ao 68 rfl rfl (st_move (v := .bool false) rfl rfl ?_)
              refine ar_gd (d := (some 69)) rfl rfl (st_move (v := .int .i64 ((rDiv a.lo b.hi false).1)) rfl rfl ?_)
              refine ar_gd (d := (some 70)) rfl rfl (st_move (v := .int .i64 (rEndsDiv_e0 a b)) rfl rfl ?_)
              refine ar_gd (d := (some 71)) rfl rfl (st_bi (u := .int .i64 ((rDiv a.lo b.hi false).1)) (v := .int .i64 (rEndsDiv_e0 a b)) (r := .bool (decide (((rDiv a.lo b.hi false).1) < (rEndsDiv_e0 a b)))) rfl rfl rfl (bi_lss rfl) ?_)
              refine ao 72 rfl rfl (st_pkf (v := .bool (decide (((rDiv a.lo b.hi false).1) < (rEndsDiv_e0 a b)))) rfl rfl rfl ?_)
              refine ar_nil ?_
              refine ac_mergeE (fun E9 => ((Env.put E9 (some 73) (.int .i64 ((rDiv a.lo b.hi false).1))).put (some 7) (.int .i64 ((rDiv a.lo b.hi false).1)))) (fun E9 => ((Env.put E9 (some 73) (.int .i64 (rEndsDiv_e2 a b))).put (some 7) (.int .i64 (rEndsDiv_e2 a b)))) (b := decide (((rDiv a.lo b.hi false).1) < (rEndsDiv_e0 a b))) rfl (fun hm => ?_) (fun hm => ?_) (fun hm => ?_) ?_
              · refine ac_region_lit ?_
                refine ao 73 rfl rfl (st_move (v := .int .i64 ((rDiv a.lo b.hi false).1)) rfl rfl ?_)
                refine ao 7 rfl rfl (st_assign (v := .int .i64 ((rDiv a.lo b.hi false).1)) rfl rfl ?_)
                refine ar_nil ?_
                exact ⟨rfl, rfl, rfl⟩
              · unfold rEndsDiv_e2; rw [hm]; rfl
              · unfold rEndsDiv_e2; rw [hm]; exact ((put_self rfl).trans (put_self rfl))
              refine ac_seq ?_
              refine ac_region_lit ?_
              refine ao 74 rfl rfl (st_move (v := .int .i64 2) rfl rfl ?_)
              refine ao 75 rfl rfl (st_bi (u := .int .i64 2) (v := .int .i64 0) (r := .bool false) rfl rfl rfl (bi_eql (by decide)) ?_)
              refine ao 76 rfl rfl (st_move (v := .bool false) rfl rfl ?_)
              refine ar_gd (d := (some 77)) rfl rfl (st_move (v := .int .i64 ((rDiv a.lo b.hi true).1)) rfl rfl ?_)
              refine ar_gd (d := (some 78)) rfl rfl (st_move (v := .int .i64 (rEndsDiv_e1 a b)) rfl rfl ?_)
              refine ar_gd (d := (some 79)) rfl rfl (st_bi (u := .int .i64 ((rDiv a.lo b.hi true).1)) (v := .int .i64 (rEndsDiv_e1 a b)) (r := .bool (decide (((rDiv a.lo b.hi true).1) > (rEndsDiv_e1 a b)))) rfl rfl rfl (bi_gtr rfl) ?_)
              refine ao 80 rfl rfl (st_pkf (v := .bool (decide (((rDiv a.lo b.hi true).1) > (rEndsDiv_e1 a b)))) rfl rfl rfl ?_)
              refine ar_nil ?_
              refine ac_mergeE (fun E9 => ((Env.put E9 (some 81) (.int .i64 ((rDiv a.lo b.hi true).1))).put (some 8) (.int .i64 ((rDiv a.lo b.hi true).1)))) (fun E9 => ((Env.put E9 (some 81) (.int .i64 (rEndsDiv_e3 a b))).put (some 8) (.int .i64 (rEndsDiv_e3 a b)))) (b := decide (((rDiv a.lo b.hi true).1) > (rEndsDiv_e1 a b))) rfl (fun hm => ?_) (fun hm => ?_) (fun hm => ?_) ?_
              · refine ac_region_lit ?_
                refine ao 81 rfl rfl (st_move (v := .int .i64 ((rDiv a.lo b.hi true).1)) rfl rfl ?_)
                refine ao 8 rfl rfl (st_assign (v := .int .i64 ((rDiv a.lo b.hi true).1)) rfl rfl ?_)
                refine ar_nil ?_
                exact ⟨rfl, rfl, rfl⟩
              · unfold rEndsDiv_e3; rw [hm]; rfl
              · unfold rEndsDiv_e3; rw [hm]; exact ((put_self rfl).trans (put_self rfl))
              refine ac_region_lit ?_
              refine ao 18 rfl rfl (st_move (v := .int .i64 2) rfl rfl ?_)
              refine ao 19 rfl rfl (st_bi (u := .int .i64 2) (v := .int .i64 1) (r := .int .i64 3) rfl rfl rfl (bi_add (by decide)) ?_)
              refine ao 9 rfl rfl (st_assign (v := .int .i64 3) rfl rfl ?_)
              refine ar_nil ?_
              refine ar_round ?_
              refine ac_seq ?_
              refine ac_seq ?_
              refine ac_region_lit ?_
              refine ao 16 rfl rfl (st_move (v := .int .i64 3) rfl rfl ?_)
              refine ao 17 rfl rfl (st_bi (u := .int .i64 3) (v := .int .i64 4) (r := .bool true) rfl rfl rfl (bi_lss (by decide)) ?_)
              refine ar_nil ?_
              refine ac_then rfl ?_
              refine ac_skip ?_
              refine ac_seq ?_
              refine ac_block ?_
              refine ac_seq ?_
              refine ac_region_lit ?_
              refine ao 20 rfl rfl (st_fa (g := g0) (off := 0) rfl fa26_0 rfl ?_)
              refine ao 21 rfl rfl (st_ldc (g := g0) (off := 0) (v := .int .i64 a.lo) cell3 2 rfl rfl rfl rfl rfl ?_)
              refine ao 10 rfl rfl (st_assign (v := .int .i64 a.lo) rfl rfl ?_)
              refine ar_nil ?_
              refine ac_seq ?_
              refine ac_seq ?_
              refine ac_region_lit ?_
              refine ao 22 rfl rfl (st_move (v := .int .i64 3) rfl rfl ?_)
              refine ao 23 rfl rfl (st_bi (u := .int .i64 3) (v := .int .i64 2) (r := .int .i64 1) rfl rfl rfl (bi_rem (by decide) (by decide)) ?_)
              refine ao 24 rfl rfl (st_bi (u := .int .i64 1) (v := .int .i64 1) (r := .bool true) rfl rfl rfl (bi_eql (by decide)) ?_)
              refine ar_nil ?_
              refine ac_then rfl ?_
              refine ac_region_lit ?_
              refine ao 25 rfl rfl (st_fa (g := g0) (off := 0) rfl fa26_1 rfl ?_)
              refine ao 26 rfl rfl (st_ldc (g := g0) (off := 1) (v := .int .i64 a.hi) cell3 2 rfl rfl rfl rfl rfl ?_)
              refine ao 10 rfl rfl (st_assign (v := .int .i64 a.hi) rfl rfl ?_)
              refine ar_nil ?_
              refine ac_seq ?_
              refine ac_region_lit ?_
              refine ao 27 rfl rfl (st_fa (g := g1) (off := 0) rfl fa26_0 rfl ?_)
              refine ao 28 rfl rfl (st_ldc (g := g1) (off := 0) (v := .int .i64 b.lo) cell3 1 rfl rfl rfl rfl rfl ?_)
              refine ao 11 rfl rfl (st_assign (v := .int .i64 b.lo) rfl rfl ?_)
              refine ar_nil ?_
              refine ac_seq ?_
              refine ac_seq ?_
              refine ac_region_lit ?_
              refine ao 29 rfl rfl (st_move (v := .int .i64 3) rfl rfl ?_)
              refine ao 30 rfl rfl (st_bi (u := .int .i64 3) (v := .int .i64 2) (r := .int .i64 1) rfl rfl rfl (bi_quo (by decide) (by decide)) ?_)
              refine ao 31 rfl rfl (st_bi (u := .int .i64 1) (v := .int .i64 1) (r := .bool true) rfl rfl rfl (bi_eql (by decide)) ?_)
              refine ar_nil ?_
              refine ac_then rfl ?_
              refine ac_region_lit ?_
              refine ao 32 rfl rfl (st_fa (g := g1) (off := 0) rfl fa26_1 rfl ?_)
              refine ao 33 rfl rfl (st_ldc (g := g1) (off := 1) (v := .int .i64 b.hi) cell3 1 rfl rfl rfl rfl rfl ?_)
              refine ao 11 rfl rfl (st_assign (v := .int .i64 b.hi) rfl rfl ?_)
              refine ar_nil ?_
              refine ac_seq ?_
              refine ac_region_lit ?_
              refine ao 35 rfl rfl (st_move (v := .int .i64 a.hi) rfl rfl ?_)
              refine ao 36 rfl rfl (st_move (v := .int .i64 b.hi) rfl rfl ?_)
              refine ao 37 rfl rfl (st_cf (vs := [.int .i64 a.hi, .int .i64 b.hi, .bool false]) (r := .tuple #[.int .i64 ((rMul a.hi b.hi false).1), .bool ((rMul a.hi b.hi false).2)]) (c_rMul a.hi b.hi false) Try.func115 rfl (by decide) rfl rfl rfl ?_)
              refine ao 34 rfl rfl (st_move (v := .tuple #[.int .i64 ((rMul a.hi b.hi false).1), .bool ((rMul a.hi b.hi false).2)]) rfl rfl ?_)
              refine ao 38 rfl rfl (st_ex (vs := [.int .i64 ((rMul a.hi b.hi false).1), .bool ((rMul a.hi b.hi false).2)]) (v := .int .i64 ((rMul a.hi b.hi false).1)) rfl rfl rfl ?_)
              refine ao 39 rfl rfl (st_ex (vs := [.int .i64 ((rMul a.hi b.hi false).1), .bool ((rMul a.hi b.hi false).2)]) (v := .bool ((rMul a.hi b.hi false).2)) rfl rfl rfl ?_)
              refine ao 12 rfl rfl (st_assign (v := .int .i64 ((rMul a.hi b.hi false).1)) rfl rfl ?_)
              refine ao 13 rfl rfl (st_assign (v := .bool ((rMul a.hi b.hi false).2)) rfl rfl ?_)
              refine ar_nil ?_
              refine ac_seq ?_
              refine ac_region_lit ?_
              refine ao 41 rfl rfl (st_move (v := .int .i64 a.hi) rfl rfl ?_)
              refine ao 42 rfl rfl (st_move (v := .int .i64 b.hi) rfl rfl ?_)
              refine ao 43 rfl rfl (st_cf (vs := [.int .i64 a.hi, .int .i64 b.hi, .bool true]) (r := .tuple #[.int .i64 ((rMul a.hi b.hi true).1), .bool ((rMul a.hi b.hi true).2)]) (c_rMul a.hi b.hi true) Try.func115 rfl (by decide) rfl rfl rfl ?_)
              refine ao 40 rfl rfl (st_move (v := .tuple #[.int .i64 ((rMul a.hi b.hi true).1), .bool ((rMul a.hi b.hi true).2)]) rfl rfl ?_)
              refine ao 44 rfl rfl (st_ex (vs := [.int .i64 ((rMul a.hi b.hi true).1), .bool ((rMul a.hi b.hi true).2)]) (v := .int .i64 ((rMul a.hi b.hi true).1)) rfl rfl rfl ?_)
              refine ao 45 rfl rfl (st_ex (vs := [.int .i64 ((rMul a.hi b.hi true).1), .bool ((rMul a.hi b.hi true).2)]) (v := .bool ((rMul a.hi b.hi true).2)) rfl rfl rfl ?_)
              refine ao 14 rfl rfl (st_assign (v := .int .i64 ((rMul a.hi b.hi true).1)) rfl rfl ?_)
              refine ao 15 rfl rfl (st_assign (v := .bool ((rMul a.hi b.hi true).2)) rfl rfl ?_)
              refine ar_nil ?_
              refine ac_seq ?_
              refine ac_seq ?_
              refine ac_region_lit ?_
              refine ao 46 rfl rfl (st_move (v := .bool true) rfl rfl ?_)
              refine ar_nil ?_
              refine ac_then rfl ?_
              refine ac_seq ?_
              refine ac_region_lit ?_
              refine ao 48 rfl rfl (st_move (v := .int .i64 a.hi) rfl rfl ?_)
              refine ao 49 rfl rfl (st_move (v := .int .i64 b.hi) rfl rfl ?_)
              refine ao 50 rfl rfl (st_cf (vs := [.int .i64 a.hi, .int .i64 b.hi, .bool false]) (r := .tuple #[.int .i64 ((rDiv a.hi b.hi false).1), .bool ((rDiv a.hi b.hi false).2)]) (c_rDiv a.hi b.hi false) Try.func132 rfl (by decide) rfl rfl rfl ?_)
              refine ao 47 rfl rfl (st_move (v := .tuple #[.int .i64 ((rDiv a.hi b.hi false).1), .bool ((rDiv a.hi b.hi false).2)]) rfl rfl ?_)
              refine ao 51 rfl rfl (st_ex (vs := [.int .i64 ((rDiv a.hi b.hi false).1), .bool ((rDiv a.hi b.hi false).2)]) (v := .int .i64 ((rDiv a.hi b.hi false).1)) rfl rfl rfl ?_)
              refine ao 52 rfl rfl (st_ex (vs := [.int .i64 ((rDiv a.hi b.hi false).1), .bool ((rDiv a.hi b.hi false).2)]) (v := .bool ((rDiv a.hi b.hi false).2)) rfl rfl rfl ?_)
              refine ao 12 rfl rfl (st_assign (v := .int .i64 ((rDiv a.hi b.hi false).1)) rfl rfl ?_)
              refine ao 13 rfl rfl (st_assign (v := .bool ((rDiv a.hi b.hi false).2)) rfl rfl ?_)
              refine ar_nil ?_
              refine ac_region_lit ?_
              refine ao 54 rfl rfl (st_move (v := .int .i64 a.hi) rfl rfl ?_)
              refine ao 55 rfl rfl (st_move (v := .int .i64 b.hi) rfl rfl ?_)
              refine ao 56 rfl rfl (st_cf (vs := [.int .i64 a.hi, .int .i64 b.hi, .bool true]) (r := .tuple #[.int .i64 ((rDiv a.hi b.hi true).1), .bool ((rDiv a.hi b.hi true).2)]) (c_rDiv a.hi b.hi true) Try.func132 rfl (by decide) rfl rfl rfl ?_)
              refine ao 53 rfl rfl (st_move (v := .tuple #[.int .i64 ((rDiv a.hi b.hi true).1), .bool ((rDiv a.hi b.hi true).2)]) rfl rfl ?_)
              refine ao 57 rfl rfl (st_ex (vs := [.int .i64 ((rDiv a.hi b.hi true).1), .bool ((rDiv a.hi b.hi true).2)]) (v := .int .i64 ((rDiv a.hi b.hi true).1)) rfl rfl rfl ?_)
              refine ao 58 rfl rfl (st_ex (vs := [.int .i64 ((rDiv a.hi b.hi true).1), .bool ((rDiv a.hi b.hi true).2)]) (v := .bool ((rDiv a.hi b.hi true).2)) rfl rfl rfl ?_)
              refine ao 14 rfl rfl (st_assign (v := .int .i64 ((rDiv a.hi b.hi true).1)) rfl rfl ?_)
              refine ao 15 rfl rfl (st_assign (v := .bool ((rDiv a.hi b.hi true).2)) rfl rfl ?_)
              refine ar_nil ?_
              refine ac_seq ?_
              refine ac_seq ?_
              refine ac_region_lit ?_
              refine ao 59 rfl rfl (st_move (v := .bool ((rDiv a.hi b.hi false).2)) rfl rfl ?_)
              refine ao 60 rfl rfl (st_un (u := .bool ((rDiv a.hi b.hi false).2)) (v := .bool (!((rDiv a.hi b.hi false).2))) rfl rfl (un_not rfl) ?_)
              refine ao 61 rfl rfl (st_move (v := .bool (!((rDiv a.hi b.hi false).2))) rfl rfl ?_)
              refine bool_split ((rDiv a.hi b.hi false).2) (fun h7 => ?_) (fun h7 => ?_)
              · refine ar_gd (d := (some 62)) (by show ((!((rDiv a.hi b.hi false).2)) == false) = true; rw [h7]; rfl) rfl (st_move (v := .bool ((rDiv a.hi b.hi true).2)) rfl rfl ?_)
                refine ar_gd (d := (some 63)) (by show ((!((rDiv a.hi b.hi false).2)) == false) = true; rw [h7]; rfl) rfl (st_un (u := .bool ((rDiv a.hi b.hi true).2)) (v := .bool (!((rDiv a.hi b.hi true).2))) rfl rfl (un_not rfl) ?_)
                refine ao 64 rfl rfl (st_pkf' (b := !((rDiv a.hi b.hi false).2)) (v := .bool (!((rDiv a.hi b.hi true).2))) (by rw [h7]; rfl) rfl rfl rfl ?_)
                refine ar_nil ?_
                refine bool_split ((rDiv a.hi b.hi true).2) (fun h8 => ?_) (fun h8 => ?_)
                · refine ac_else' (b := !((rDiv a.hi b.hi true).2)) (by rw [h8]; rfl) rfl ?_
                  refine ac_skip ?_
                  refine ac_seq ?_
                  refine ac_seq ?_
                  refine ac_region_lit ?_
                  refine ao 66 rfl rfl (st_move (v := .int .i64 3) rfl rfl ?_)
                  refine ao 67 rfl rfl (st_bi (u := .int .i64 3) (v := .int .i64 0) (r := .bool false) rfl rfl rfl (bi_eql (by decide)) ?_)
                  refine ao 68 rfl rfl (st_move (v := .bool false) rfl rfl ?_)
                  refine ar_gd (d := (some 69)) rfl rfl (st_move (v := .int .i64 ((rDiv a.hi b.hi false).1)) rfl rfl ?_)
                  refine ar_gd (d := (some 70)) rfl rfl (st_move (v := .int .i64 (rEndsDiv_e2 a b)) rfl rfl ?_)
                  refine ar_gd (d := (some 71)) rfl rfl (st_bi (u := .int .i64 ((rDiv a.hi b.hi false).1)) (v := .int .i64 (rEndsDiv_e2 a b)) (r := .bool (decide (((rDiv a.hi b.hi false).1) < (rEndsDiv_e2 a b)))) rfl rfl rfl (bi_lss rfl) ?_)
                  refine ao 72 rfl rfl (st_pkf (v := .bool (decide (((rDiv a.hi b.hi false).1) < (rEndsDiv_e2 a b)))) rfl rfl rfl ?_)
                  refine ar_nil ?_
                  refine ac_mergeE (fun E9 => ((Env.put E9 (some 73) (.int .i64 ((rDiv a.hi b.hi false).1))).put (some 7) (.int .i64 ((rDiv a.hi b.hi false).1)))) (fun E9 => ((Env.put E9 (some 73) (.int .i64 (rEndsDiv_e4 a b))).put (some 7) (.int .i64 (rEndsDiv_e4 a b)))) (b := decide (((rDiv a.hi b.hi false).1) < (rEndsDiv_e2 a b))) rfl (fun hm => ?_) (fun hm => ?_) (fun hm => ?_) ?_
                  · refine ac_region_lit ?_
                    refine ao 73 rfl rfl (st_move (v := .int .i64 ((rDiv a.hi b.hi false).1)) rfl rfl ?_)
                    refine ao 7 rfl rfl (st_assign (v := .int .i64 ((rDiv a.hi b.hi false).1)) rfl rfl ?_)
                    refine ar_nil ?_
                    exact ⟨rfl, rfl, rfl⟩
                  · unfold rEndsDiv_e4; rw [hm]; rfl
                  · unfold rEndsDiv_e4; rw [hm]; exact ((put_self rfl).trans (put_self rfl))
                  refine ac_seq ?_
                  refine ac_region_lit ?_
                  refine ao 74 rfl rfl (st_move (v := .int .i64 3) rfl rfl ?_)
                  refine ao 75 rfl rfl (st_bi (u := .int .i64 3) (v := .int .i64 0) (r := .bool false) rfl rfl rfl (bi_eql (by decide)) ?_)
                  refine ao 76 rfl rfl (st_move (v := .bool false) rfl rfl ?_)
                  refine ar_gd (d := (some 77)) rfl rfl (st_move (v := .int .i64 ((rDiv a.hi b.hi true).1)) rfl rfl ?_)
                  refine ar_gd (d := (some 78)) rfl rfl (st_move (v := .int .i64 (rEndsDiv_e3 a b)) rfl rfl ?_)
                  refine ar_gd (d := (some 79)) rfl rfl (st_bi (u := .int .i64 ((rDiv a.hi b.hi true).1)) (v := .int .i64 (rEndsDiv_e3 a b)) (r := .bool (decide (((rDiv a.hi b.hi true).1) > (rEndsDiv_e3 a b)))) rfl rfl rfl (bi_gtr rfl) ?_)
                  refine ao 80 rfl rfl (st_pkf (v := .bool (decide (((rDiv a.hi b.hi true).1) > (rEndsDiv_e3 a b)))) rfl rfl rfl ?_)
                  refine ar_nil ?_
                  refine ac_mergeE (fun E9 => ((Env.put E9 (some 81) (.int .i64 ((rDiv a.hi b.hi true).1))).put (some 8) (.int .i64 ((rDiv a.hi b.hi true).1)))) (fun E9 => ((Env.put E9 (some 81) (.int .i64 (rEndsDiv_e5 a b))).put (some 8) (.int .i64 (rEndsDiv_e5 a b)))) (b := decide (((rDiv a.hi b.hi true).1) > (rEndsDiv_e3 a b))) rfl (fun hm => ?_) (fun hm => ?_) (fun hm => ?_) ?_
                  · refine ac_region_lit ?_
                    refine ao 81 rfl rfl (st_move (v := .int .i64 ((rDiv a.hi b.hi true).1)) rfl rfl ?_)
                    refine ao 8 rfl rfl (st_assign (v := .int .i64 ((rDiv a.hi b.hi true).1)) rfl rfl ?_)
                    refine ar_nil ?_
                    exact ⟨rfl, rfl, rfl⟩
                  · unfold rEndsDiv_e5; rw [hm]; rfl
                  · unfold rEndsDiv_e5; rw [hm]; exact ((put_self rfl).trans (put_self rfl))
                  refine ac_region_lit ?_
                  refine ao 18 rfl rfl (st_move (v := .int .i64 3) rfl rfl ?_)
                  refine ao 19 rfl rfl (st_bi (u := .int .i64 3) (v := .int .i64 1) (r := .int .i64 4) rfl rfl rfl (bi_add (by decide)) ?_)
                  refine ao 9 rfl rfl (st_assign (v := .int .i64 4) rfl rfl ?_)
                  refine ar_nil ?_
                  refine ar_round ?_
                  refine ac_seq ?_
                  refine ac_seq ?_
                  refine ac_region_lit ?_
                  refine ao 16 rfl rfl (st_move (v := .int .i64 4) rfl rfl ?_)
                  refine ao 17 rfl rfl (st_bi (u := .int .i64 4) (v := .int .i64 4) (r := .bool false) rfl rfl rfl (bi_lss (by decide)) ?_)
                  refine ar_nil ?_
                  refine ac_else rfl ?_
                  refine ac_exit ?_
                  refine ac_seq ?_
                  refine ac_region_lit ?_
                  refine ao 82 rfl rfl (st_move (v := .int .i64 (rEndsDiv_e4 a b)) rfl rfl ?_)
                  refine ao 83 rfl rfl (st_move (v := .int .i64 (rEndsDiv_e5 a b)) rfl rfl ?_)
                  refine ao 84 rfl rfl (st_cf (vs := [.int .i64 (rEndsDiv_e4 a b), .int .i64 (rEndsDiv_e5 a b)]) (r := .agg #[.int .i64 ((rOf (rEndsDiv_e4 a b) (rEndsDiv_e5 a b)).lo), .int .i64 ((rOf (rEndsDiv_e4 a b) (rEndsDiv_e5 a b)).hi), .bool ((rOf (rEndsDiv_e4 a b) (rEndsDiv_e5 a b)).no)]) (c_rOf (rEndsDiv_e4 a b) (rEndsDiv_e5 a b)) Try.func112 rfl (by decide) rfl rfl rfl ?_)
                  refine ar_op (d := none) rfl rfl (st_sta (g := g2) (off := 0) (us := [.int .i64 ((rOf (rEndsDiv_e4 a b) (rEndsDiv_e5 a b)).lo), .int .i64 ((rOf (rEndsDiv_e4 a b) (rEndsDiv_e5 a b)).hi), .bool ((rOf (rEndsDiv_e4 a b) (rEndsDiv_e5 a b)).no)]) (cs := [.int .i64 ((rOf (rEndsDiv_e4 a b) (rEndsDiv_e5 a b)).lo), .int .i64 ((rOf (rEndsDiv_e4 a b) (rEndsDiv_e5 a b)).hi), .bool ((rOf (rEndsDiv_e4 a b) (rEndsDiv_e5 a b)).no)]) agg26 0 rfl rfl rfl rfl rfl rfl rfl rfl rfl ?_)
                  refine ar_nil ?_
                  refine ac_ret ?_
                  exact fin_eq (v := .agg #[.int .i64 ((rOf (rEndsDiv_e4 a b) (rEndsDiv_e5 a b)).lo), .int .i64 ((rOf (rEndsDiv_e4 a b) (rEndsDiv_e5 a b)).hi), .bool ((rOf (rEndsDiv_e4 a b) (rEndsDiv_e5 a b)).no)]) (by show _ = Iv.v (rEndsDiv a b); rw [rEndsDiv, h8, h7, h6, h5, h4, h3, h2, h1] <;> rfl) (fin_ret (res_c (vs := [.int .i64 ((rOf (rEndsDiv_e4 a b) (rEndsDiv_e5 a b)).lo), .int .i64 ((rOf (rEndsDiv_e4 a b) (rEndsDiv_e5 a b)).hi), .bool ((rOf (rEndsDiv_e4 a b) (rEndsDiv_e5 a b)).no)]) agg26 0 rfl rfl rfl rfl rfl rfl))
                · refine ac_then' (b := !((rDiv a.hi b.hi true).2)) (by rw [h8]; rfl) rfl ?_
                  refine ac_seq ?_
                  refine ac_region_lit ?_
                  refine ao 65 rfl rfl (st_cf (vs := []) (r := .agg #[.int .i64 rNone.lo, .int .i64 rNone.hi, .bool rNone.no]) c_rNone Try.func111 rfl (by decide) rfl rfl rfl ?_)
                  refine ar_op (d := none) rfl rfl (st_sta (g := g2) (off := 0) (us := [.int .i64 rNone.lo, .int .i64 rNone.hi, .bool rNone.no]) (cs := [.int .i64 rNone.lo, .int .i64 rNone.hi, .bool rNone.no]) agg26 0 rfl rfl rfl rfl rfl rfl rfl rfl rfl ?_)
                  refine ar_nil ?_
                  refine ac_ret ?_
                  exact fin_eq (v := .agg #[.int .i64 rNone.lo, .int .i64 rNone.hi, .bool rNone.no]) (by show _ = Iv.v (rEndsDiv a b); rw [rEndsDiv, h8, h7, h6, h5, h4, h3, h2, h1] <;> rfl) (fin_ret (res_c (vs := [.int .i64 rNone.lo, .int .i64 rNone.hi, .bool rNone.no]) agg26 0 rfl rfl rfl rfl rfl rfl))
              · refine ar_sk (d := (some 62)) (by show ((!((rDiv a.hi b.hi false).2)) == false) = false; rw [h7]; rfl) rfl ?_
                refine ar_sk (d := (some 63)) (by show ((!((rDiv a.hi b.hi false).2)) == false) = false; rw [h7]; rfl) rfl ?_
                refine ao 64 rfl rfl (st_pkt' (b := !((rDiv a.hi b.hi false).2)) (v := .bool true) (by rw [h7]; rfl) rfl rfl rfl ?_)
                refine ar_nil ?_
                refine ac_then rfl ?_
                refine ac_seq ?_
                refine ac_region_lit ?_
                refine ao 65 rfl rfl (st_cf (vs := []) (r := .agg #[.int .i64 rNone.lo, .int .i64 rNone.hi, .bool rNone.no]) c_rNone Try.func111 rfl (by decide) rfl rfl rfl ?_)
                refine ar_op (d := none) rfl rfl (st_sta (g := g2) (off := 0) (us := [.int .i64 rNone.lo, .int .i64 rNone.hi, .bool rNone.no]) (cs := [.int .i64 rNone.lo, .int .i64 rNone.hi, .bool rNone.no]) agg26 0 rfl rfl rfl rfl rfl rfl rfl rfl rfl ?_)
                refine ar_nil ?_
                refine ac_ret ?_
                exact fin_eq (v := .agg #[.int .i64 rNone.lo, .int .i64 rNone.hi, .bool rNone.no]) (by show _ = Iv.v (rEndsDiv a b); rw [rEndsDiv, h7, h6, h5, h4, h3, h2, h1] <;> rfl) (fin_ret (res_c (vs := [.int .i64 rNone.lo, .int .i64 rNone.hi, .bool rNone.no]) agg26 0 rfl rfl rfl rfl rfl rfl))
            · refine ac_then' (b := !((rDiv a.lo b.hi true).2)) (by rw [h6]; rfl) rfl ?_
              refine ac_seq ?_
              refine ac_region_lit ?_
              refine ao 65 rfl rfl (st_cf (vs := []) (r := .agg #[.int .i64 rNone.lo, .int .i64 rNone.hi, .bool rNone.no]) c_rNone Try.func111 rfl (by decide) rfl rfl rfl ?_)
              refine ar_op (d := none) rfl rfl (st_sta (g := g2) (off := 0) (us := [.int .i64 rNone.lo, .int .i64 rNone.hi, .bool rNone.no]) (cs := [.int .i64 rNone.lo, .int .i64 rNone.hi, .bool rNone.no]) agg26 0 rfl rfl rfl rfl rfl rfl rfl rfl rfl ?_)
              refine ar_nil ?_
              refine ac_ret ?_
              exact fin_eq (v := .agg #[.int .i64 rNone.lo, .int .i64 rNone.hi, .bool rNone.no]) (by show _ = Iv.v (rEndsDiv a b); rw [rEndsDiv, h6, h5, h4, h3, h2, h1] <;> rfl) (fin_ret (res_c (vs := [.int .i64 rNone.lo, .int .i64 rNone.hi, .bool rNone.no]) agg26 0 rfl rfl rfl rfl rfl rfl))
          · refine ar_sk (d := (some 62)) (by show ((!((rDiv a.lo b.hi false).2)) == false) = false; rw [h5]; rfl) rfl ?_
            refine ar_sk (d := (some 63)) (by show ((!((rDiv a.lo b.hi false).2)) == false) = false; rw [h5]; rfl) rfl ?_
            refine ao 64 rfl rfl (st_pkt' (b := !((rDiv a.lo b.hi false).2)) (v := .bool true) (by rw [h5]; rfl) rfl rfl rfl ?_)
            refine ar_nil ?_
            refine ac_then rfl ?_
            refine ac_seq ?_
            refine ac_region_lit ?_
            refine ao 65 rfl rfl (st_cf (vs := []) (r := .agg #[.int .i64 rNone.lo, .int .i64 rNone.hi, .bool rNone.no]) c_rNone Try.func111 rfl (by decide) rfl rfl rfl ?_)
            refine ar_op (d := none) rfl rfl (st_sta (g := g2) (off := 0) (us := [.int .i64 rNone.lo, .int .i64 rNone.hi, .bool rNone.no]) (cs := [.int .i64 rNone.lo, .int .i64 rNone.hi, .bool rNone.no]) agg26 0 rfl rfl rfl rfl rfl rfl rfl rfl rfl ?_)
            refine ar_nil ?_
            refine ac_ret ?_
            exact fin_eq (v := .agg #[.int .i64 rNone.lo, .int .i64 rNone.hi, .bool rNone.no]) (by show _ = Iv.v (rEndsDiv a b); rw [rEndsDiv, h5, h4, h3, h2, h1] <;> rfl) (fin_ret (res_c (vs := [.int .i64 rNone.lo, .int .i64 rNone.hi, .bool rNone.no]) agg26 0 rfl rfl rfl rfl rfl rfl))
        · refine ac_then' (b := !((rDiv a.hi b.lo true).2)) (by rw [h4]; rfl) rfl ?_
          refine ac_seq ?_
          refine ac_region_lit ?_
          refine ao 65 rfl rfl (st_cf (vs := []) (r := .agg #[.int .i64 rNone.lo, .int .i64 rNone.hi, .bool rNone.no]) c_rNone Try.func111 rfl (by decide) rfl rfl rfl ?_)
          refine ar_op (d := none) rfl rfl (st_sta (g := g2) (off := 0) (us := [.int .i64 rNone.lo, .int .i64 rNone.hi, .bool rNone.no]) (cs := [.int .i64 rNone.lo, .int .i64 rNone.hi, .bool rNone.no]) agg26 0 rfl rfl rfl rfl rfl rfl rfl rfl rfl ?_)
          refine ar_nil ?_
          refine ac_ret ?_
          exact fin_eq (v := .agg #[.int .i64 rNone.lo, .int .i64 rNone.hi, .bool rNone.no]) (by show _ = Iv.v (rEndsDiv a b); rw [rEndsDiv, h4, h3, h2, h1] <;> rfl) (fin_ret (res_c (vs := [.int .i64 rNone.lo, .int .i64 rNone.hi, .bool rNone.no]) agg26 0 rfl rfl rfl rfl rfl rfl))
      · refine ar_sk (d := (some 62)) (by show ((!((rDiv a.hi b.lo false).2)) == false) = false; rw [h3]; rfl) rfl ?_
        refine ar_sk (d := (some 63)) (by show ((!((rDiv a.hi b.lo false).2)) == false) = false; rw [h3]; rfl) rfl ?_
        refine ao 64 rfl rfl (st_pkt' (b := !((rDiv a.hi b.lo false).2)) (v := .bool true) (by rw [h3]; rfl) rfl rfl rfl ?_)
        refine ar_nil ?_
        refine ac_then rfl ?_
        refine ac_seq ?_
        refine ac_region_lit ?_
        refine ao 65 rfl rfl (st_cf (vs := []) (r := .agg #[.int .i64 rNone.lo, .int .i64 rNone.hi, .bool rNone.no]) c_rNone Try.func111 rfl (by decide) rfl rfl rfl ?_)
        refine ar_op (d := none) rfl rfl (st_sta (g := g2) (off := 0) (us := [.int .i64 rNone.lo, .int .i64 rNone.hi, .bool rNone.no]) (cs := [.int .i64 rNone.lo, .int .i64 rNone.hi, .bool rNone.no]) agg26 0 rfl rfl rfl rfl rfl rfl rfl rfl rfl ?_)
        refine ar_nil ?_
        refine ac_ret ?_
        exact fin_eq (v := .agg #[.int .i64 rNone.lo, .int .i64 rNone.hi, .bool rNone.no]) (by show _ = Iv.v (rEndsDiv a b); rw [rEndsDiv, h3, h2, h1] <;> rfl) (fin_ret (res_c (vs := [.int .i64 rNone.lo, .int .i64 rNone.hi, .bool rNone.no]) agg26 0 rfl rfl rfl rfl rfl rfl))
    · refine ac_then' (b := !((rDiv a.lo b.lo true).2)) (by rw [h2]; rfl) rfl ?_
      refine ac_seq ?_
      refine ac_region_lit ?_
      refine ao 65 rfl rfl (st_cf (vs := []) (r := .agg #[.int .i64 rNone.lo, .int .i64 rNone.hi, .bool rNone.no]) c_rNone Try.func111 rfl (by decide) rfl rfl rfl ?_)
      refine ar_op (d := none) rfl rfl (st_sta (g := g2) (off := 0) (us := [.int .i64 rNone.lo, .int .i64 rNone.hi, .bool rNone.no]) (cs := [.int .i64 rNone.lo, .int .i64 rNone.hi, .bool rNone.no]) agg26 0 rfl rfl rfl rfl rfl rfl rfl rfl rfl ?_)
      refine ar_nil ?_
      refine ac_ret ?_
      exact fin_eq (v := .agg #[.int .i64 rNone.lo, .int .i64 rNone.hi, .bool rNone.no]) (by show _ = Iv.v (rEndsDiv a b); rw [rEndsDiv, h2, h1] <;> rfl) (fin_ret (res_c (vs := [.int .i64 rNone.lo, .int .i64 rNone.hi, .bool rNone.no]) agg26 0 rfl rfl rfl rfl rfl rfl))
  · refine ar_sk (d := (some 62)) (by show ((!((rDiv a.lo b.lo false).2)) == false) = false; rw [h1]; rfl) rfl ?_
    refine ar_sk (d := (some 63)) (by show ((!((rDiv a.lo b.lo false).2)) == false) = false; rw [h1]; rfl) rfl ?_
    refine ao 64 rfl rfl (st_pkt' (b := !((rDiv a.lo b.lo false).2)) (v := .bool true) (by rw [h1]; rfl) rfl rfl rfl ?_)
    refine ar_nil ?_
    refine ac_then rfl ?_
    refine ac_seq ?_
    refine ac_region_lit ?_
    refine ao 65 rfl rfl (st_cf (vs := []) (r := .agg #[.int .i64 rNone.lo, .int .i64 rNone.hi, .bool rNone.no]) c_rNone Try.func111 rfl (by decide) rfl rfl rfl ?_)
    refine ar_op (d := none) rfl rfl (st_sta (g := g2) (off := 0) (us := [.int .i64 rNone.lo, .int .i64 rNone.hi, .bool rNone.no]) (cs := [.int .i64 rNone.lo, .int .i64 rNone.hi, .bool rNone.no]) agg26 0 rfl rfl rfl rfl rfl rfl rfl rfl rfl ?_)
    refine ar_nil ?_
    refine ac_ret ?_
    exact fin_eq (v := .agg #[.int .i64 rNone.lo, .int .i64 rNone.hi, .bool rNone.no]) (by show _ = Iv.v (rEndsDiv a b); rw [rEndsDiv, h1] <;> rfl) (fin_ret (res_c (vs := [.int .i64 rNone.lo, .int .i64 rNone.hi, .bool rNone.no]) agg26 0 rfl rfl rfl rfl rfl rfl))
def rDivIv (a : Iv) (b : Iv) : Iv := (bif rRight a then (bif rRight b then (bif decide (b.lo ≤ 0) then (bif decide (b.hi ≥ 0) then rNone else (rEndsDiv a b)) else (rEndsDiv a b)) else rNone) else rNone)
set_option maxRecDepth 100000 in
theorem c_rDivIv (a : Iv) (b : Iv) : Gets Try.prog 85 #[.agg #[.int .i64 a.lo, .int .i64 a.hi, .bool a.no], .agg #[.int .i64 b.lo, .int .i64 b.hi, .bool b.no]] (Iv.v (rDivIv a b)) := by
  refine gets_fin Try.func85 rfl rfl rfl ?_
  refine ac_seq ?_
  refine ac_region_lit ?_
  refine ao 2 rfl rfl (st_box (v := .agg #[.int .i64 a.lo, .int .i64 a.hi, .bool a.no]) (cs := [.int .i64 a.lo, .int .i64 a.hi, .bool a.no]) rfl rfl rfl fun g0 => ?_)
  refine ao 3 rfl rfl (st_box (v := .agg #[.int .i64 b.lo, .int .i64 b.hi, .bool b.no]) (cs := [.int .i64 b.lo, .int .i64 b.hi, .bool b.no]) rfl rfl rfl fun g1 => ?_)
  refine ao 4 rfl rfl (st_new zero26 rfl fun g2 => ?_)
  refine ar_nil ?_
  refine ac_seq ?_
  refine ac_seq ?_
  refine ac_region_lit ?_
  refine ao 5 rfl rfl (st_lda (g := g0) (off := 0) (vs := [.int .i64 a.lo, .int .i64 a.hi, .bool a.no]) agg26 2 rfl rfl rfl rfl rfl rfl ?_)
  refine ao 6 rfl rfl (st_cf (vs := [.agg #[.int .i64 a.lo, .int .i64 a.hi, .bool a.no]]) (r := .bool (rRight a)) (c_rRight a) Try.func40 rfl (by decide) rfl rfl rfl ?_)
  refine ao 7 rfl rfl (st_un (u := .bool (rRight a)) (v := .bool (!(rRight a))) rfl rfl (un_not rfl) ?_)
  refine ao 8 rfl rfl (st_move (v := .bool (!(rRight a))) rfl rfl ?_)
  refine bool_split (rRight a) (fun h1 => ?_) (fun h1 => ?_)
  · refine ar_gd (d := (some 9)) (by show ((!(rRight a)) == false) = true; rw [h1]; rfl) rfl (st_lda (g := g1) (off := 0) (vs := [.int .i64 b.lo, .int .i64 b.hi, .bool b.no]) agg26 1 rfl rfl rfl rfl rfl rfl ?_)
    refine ar_gd (d := (some 10)) (by show ((!(rRight a)) == false) = true; rw [h1]; rfl) rfl (st_cf (vs := [.agg #[.int .i64 b.lo, .int .i64 b.hi, .bool b.no]]) (r := .bool (rRight b)) (c_rRight b) Try.func40 rfl (by decide) rfl rfl rfl ?_)
    refine ar_gd (d := (some 11)) (by show ((!(rRight a)) == false) = true; rw [h1]; rfl) rfl (st_un (u := .bool (rRight b)) (v := .bool (!(rRight b))) rfl rfl (un_not rfl) ?_)
    refine ao 12 rfl rfl (st_pkf' (b := !(rRight a)) (v := .bool (!(rRight b))) (by rw [h1]; rfl) rfl rfl rfl ?_)
    refine ao 13 rfl rfl (st_move (v := .bool (!(rRight b))) rfl rfl ?_)
    refine bool_split (rRight b) (fun h2 => ?_) (fun h2 => ?_)
    · refine ar_gd (d := (some 14)) (by show ((!(rRight b)) == false) = true; rw [h2]; rfl) rfl (st_fa (g := g1) (off := 0) rfl fa26_0 rfl ?_)
      refine ar_gd (d := (some 15)) (by show ((!(rRight b)) == false) = true; rw [h2]; rfl) rfl (st_ldc (g := g1) (off := 0) (v := .int .i64 b.lo) cell3 1 rfl rfl rfl rfl rfl ?_)
      refine ar_gd (d := (some 16)) (by show ((!(rRight b)) == false) = true; rw [h2]; rfl) rfl (st_bi (u := .int .i64 b.lo) (v := .int .i64 0) (r := .bool (decide (b.lo ≤ 0))) rfl rfl rfl (bi_leq rfl) ?_)
      refine ar_gd (d := (some 17)) (by show ((!(rRight b)) == false) = true; rw [h2]; rfl) rfl (st_move (v := .bool (decide (b.lo ≤ 0))) rfl rfl ?_)
      refine bool_split (decide (b.lo ≤ 0)) (fun h3 => ?_) (fun h3 => ?_)
      · refine ar_gd (d := (some 18)) (by show ((decide (b.lo ≤ 0)) == true) = true; rw [h3]; rfl) rfl (st_fa (g := g1) (off := 0) rfl fa26_1 rfl ?_)
        refine ar_gd (d := (some 19)) (by show ((decide (b.lo ≤ 0)) == true) = true; rw [h3]; rfl) rfl (st_ldc (g := g1) (off := 1) (v := .int .i64 b.hi) cell3 1 rfl rfl rfl rfl rfl ?_)
        refine ar_gd (d := (some 20)) (by show ((decide (b.lo ≤ 0)) == true) = true; rw [h3]; rfl) rfl (st_bi (u := .int .i64 b.hi) (v := .int .i64 0) (r := .bool (decide (b.hi ≥ 0))) rfl rfl rfl (bi_geq rfl) ?_)
        refine ar_gd (d := (some 21)) (by show ((!(rRight b)) == false) = true; rw [h2]; rfl) rfl (st_pkt' (b := decide (b.lo ≤ 0)) (v := .bool (decide (b.hi ≥ 0))) h3 rfl rfl rfl ?_)
        refine ao 22 rfl rfl (st_pkf' (b := !(rRight b)) (v := .bool (decide (b.hi ≥ 0))) (by rw [h2]; rfl) rfl rfl rfl ?_)
        refine ar_nil ?_
        refine bool_split (decide (b.hi ≥ 0)) (fun h4 => ?_) (fun h4 => ?_)
        · refine ac_then' (b := decide (b.hi ≥ 0)) h4 rfl ?_
          refine ac_seq ?_
          refine ac_region_lit ?_
          refine ao 23 rfl rfl (st_cf (vs := []) (r := .agg #[.int .i64 rNone.lo, .int .i64 rNone.hi, .bool rNone.no]) c_rNone Try.func111 rfl (by decide) rfl rfl rfl ?_)
          refine ar_op (d := none) rfl rfl (st_sta (g := g2) (off := 0) (us := [.int .i64 rNone.lo, .int .i64 rNone.hi, .bool rNone.no]) (cs := [.int .i64 rNone.lo, .int .i64 rNone.hi, .bool rNone.no]) agg26 0 rfl rfl rfl rfl rfl rfl rfl rfl rfl ?_)
          refine ar_nil ?_
          refine ac_ret ?_
          exact fin_eq (v := .agg #[.int .i64 rNone.lo, .int .i64 rNone.hi, .bool rNone.no]) (by show _ = Iv.v (rDivIv a b); rw [rDivIv, h4, h3, h2, h1] <;> rfl) (fin_ret (res_c (vs := [.int .i64 rNone.lo, .int .i64 rNone.hi, .bool rNone.no]) agg26 0 rfl rfl rfl rfl rfl rfl))
        · refine ac_else' (b := decide (b.hi ≥ 0)) h4 rfl ?_
          refine ac_skip ?_
          refine ac_seq ?_
          refine ac_region_lit ?_
          refine ao 24 rfl rfl (st_lda (g := g0) (off := 0) (vs := [.int .i64 a.lo, .int .i64 a.hi, .bool a.no]) agg26 2 rfl rfl rfl rfl rfl rfl ?_)
          refine ao 25 rfl rfl (st_lda (g := g1) (off := 0) (vs := [.int .i64 b.lo, .int .i64 b.hi, .bool b.no]) agg26 1 rfl rfl rfl rfl rfl rfl ?_)
          refine ao 26 rfl rfl (st_cf (vs := [.agg #[.int .i64 a.lo, .int .i64 a.hi, .bool a.no], .agg #[.int .i64 b.lo, .int .i64 b.hi, .bool b.no], .bool true]) (r := .agg #[.int .i64 ((rEndsDiv a b).lo), .int .i64 ((rEndsDiv a b).hi), .bool ((rEndsDiv a b).no)]) (c_rEndsDiv a b) Try.func114 rfl (by decide) rfl rfl rfl ?_)
          refine ar_op (d := none) rfl rfl (st_sta (g := g2) (off := 0) (us := [.int .i64 ((rEndsDiv a b).lo), .int .i64 ((rEndsDiv a b).hi), .bool ((rEndsDiv a b).no)]) (cs := [.int .i64 ((rEndsDiv a b).lo), .int .i64 ((rEndsDiv a b).hi), .bool ((rEndsDiv a b).no)]) agg26 0 rfl rfl rfl rfl rfl rfl rfl rfl rfl ?_)
          refine ar_nil ?_
          refine ac_ret ?_
          exact fin_eq (v := .agg #[.int .i64 ((rEndsDiv a b).lo), .int .i64 ((rEndsDiv a b).hi), .bool ((rEndsDiv a b).no)]) (by show _ = Iv.v (rDivIv a b); rw [rDivIv, h4, h3, h2, h1] <;> rfl) (fin_ret (res_c (vs := [.int .i64 ((rEndsDiv a b).lo), .int .i64 ((rEndsDiv a b).hi), .bool ((rEndsDiv a b).no)]) agg26 0 rfl rfl rfl rfl rfl rfl))
      · refine ar_sk (d := (some 18)) (by show ((decide (b.lo ≤ 0)) == true) = false; rw [h3]; rfl) rfl ?_
        refine ar_sk (d := (some 19)) (by show ((decide (b.lo ≤ 0)) == true) = false; rw [h3]; rfl) rfl ?_
        refine ar_sk (d := (some 20)) (by show ((decide (b.lo ≤ 0)) == true) = false; rw [h3]; rfl) rfl ?_
        refine ar_gd (d := (some 21)) (by show ((!(rRight b)) == false) = true; rw [h2]; rfl) rfl (st_pkf' (b := decide (b.lo ≤ 0)) (v := .bool false) h3 rfl rfl rfl ?_)
        refine ao 22 rfl rfl (st_pkf' (b := !(rRight b)) (v := .bool false) (by rw [h2]; rfl) rfl rfl rfl ?_)
        refine ar_nil ?_
        refine ac_else rfl ?_
        refine ac_skip ?_
        refine ac_seq ?_
        refine ac_region_lit ?_
        refine ao 24 rfl rfl (st_lda (g := g0) (off := 0) (vs := [.int .i64 a.lo, .int .i64 a.hi, .bool a.no]) agg26 2 rfl rfl rfl rfl rfl rfl ?_)
        refine ao 25 rfl rfl (st_lda (g := g1) (off := 0) (vs := [.int .i64 b.lo, .int .i64 b.hi, .bool b.no]) agg26 1 rfl rfl rfl rfl rfl rfl ?_)
        refine ao 26 rfl rfl (st_cf (vs := [.agg #[.int .i64 a.lo, .int .i64 a.hi, .bool a.no], .agg #[.int .i64 b.lo, .int .i64 b.hi, .bool b.no], .bool true]) (r := .agg #[.int .i64 ((rEndsDiv a b).lo), .int .i64 ((rEndsDiv a b).hi), .bool ((rEndsDiv a b).no)]) (c_rEndsDiv a b) Try.func114 rfl (by decide) rfl rfl rfl ?_)
        refine ar_op (d := none) rfl rfl (st_sta (g := g2) (off := 0) (us := [.int .i64 ((rEndsDiv a b).lo), .int .i64 ((rEndsDiv a b).hi), .bool ((rEndsDiv a b).no)]) (cs := [.int .i64 ((rEndsDiv a b).lo), .int .i64 ((rEndsDiv a b).hi), .bool ((rEndsDiv a b).no)]) agg26 0 rfl rfl rfl rfl rfl rfl rfl rfl rfl ?_)
        refine ar_nil ?_
        refine ac_ret ?_
        exact fin_eq (v := .agg #[.int .i64 ((rEndsDiv a b).lo), .int .i64 ((rEndsDiv a b).hi), .bool ((rEndsDiv a b).no)]) (by show _ = Iv.v (rDivIv a b); rw [rDivIv, h3, h2, h1] <;> rfl) (fin_ret (res_c (vs := [.int .i64 ((rEndsDiv a b).lo), .int .i64 ((rEndsDiv a b).hi), .bool ((rEndsDiv a b).no)]) agg26 0 rfl rfl rfl rfl rfl rfl))
    · refine ar_sk (d := (some 14)) (by show ((!(rRight b)) == false) = false; rw [h2]; rfl) rfl ?_
      refine ar_sk (d := (some 15)) (by show ((!(rRight b)) == false) = false; rw [h2]; rfl) rfl ?_
      refine ar_sk (d := (some 16)) (by show ((!(rRight b)) == false) = false; rw [h2]; rfl) rfl ?_
      refine ar_sk (d := (some 17)) (by show ((!(rRight b)) == false) = false; rw [h2]; rfl) rfl ?_
      refine ar_sk (d := (some 18)) rfl rfl ?_
      refine ar_sk (d := (some 19)) rfl rfl ?_
      refine ar_sk (d := (some 20)) rfl rfl ?_
      refine ar_sk (d := (some 21)) (by show ((!(rRight b)) == false) = false; rw [h2]; rfl) rfl ?_
      refine ao 22 rfl rfl (st_pkt' (b := !(rRight b)) (v := .bool true) (by rw [h2]; rfl) rfl rfl rfl ?_)
      refine ar_nil ?_
      refine ac_then rfl ?_
      refine ac_seq ?_
      refine ac_region_lit ?_
      refine ao 23 rfl rfl (st_cf (vs := []) (r := .agg #[.int .i64 rNone.lo, .int .i64 rNone.hi, .bool rNone.no]) c_rNone Try.func111 rfl (by decide) rfl rfl rfl ?_)
      refine ar_op (d := none) rfl rfl (st_sta (g := g2) (off := 0) (us := [.int .i64 rNone.lo, .int .i64 rNone.hi, .bool rNone.no]) (cs := [.int .i64 rNone.lo, .int .i64 rNone.hi, .bool rNone.no]) agg26 0 rfl rfl rfl rfl rfl rfl rfl rfl rfl ?_)
      refine ar_nil ?_
      refine ac_ret ?_
      exact fin_eq (v := .agg #[.int .i64 rNone.lo, .int .i64 rNone.hi, .bool rNone.no]) (by show _ = Iv.v (rDivIv a b); rw [rDivIv, h2, h1] <;> rfl) (fin_ret (res_c (vs := [.int .i64 rNone.lo, .int .i64 rNone.hi, .bool rNone.no]) agg26 0 rfl rfl rfl rfl rfl rfl))
  · refine ar_sk (d := (some 9)) (by show ((!(rRight a)) == false) = false; rw [h1]; rfl) rfl ?_
    refine ar_sk (d := (some 10)) (by show ((!(rRight a)) == false) = false; rw [h1]; rfl) rfl ?_
    refine ar_sk (d := (some 11)) (by show ((!(rRight a)) == false) = false; rw [h1]; rfl) rfl ?_
    refine ao 12 rfl rfl (st_pkt' (b := !(rRight a)) (v := .bool true) (by rw [h1]; rfl) rfl rfl rfl ?_)
    refine ao 13 rfl rfl (st_move (v := .bool true) rfl rfl ?_)
    refine ar_sk (d := (some 14)) rfl rfl ?_
    refine ar_sk (d := (some 15)) rfl rfl ?_
    refine ar_sk (d := (some 16)) rfl rfl ?_
    refine ar_sk (d := (some 17)) rfl rfl ?_
    refine ar_sk (d := (some 18)) rfl rfl ?_
    refine ar_sk (d := (some 19)) rfl rfl ?_
    refine ar_sk (d := (some 20)) rfl rfl ?_
    refine ar_sk (d := (some 21)) rfl rfl ?_
    refine ao 22 rfl rfl (st_pkt (v := .bool true) rfl rfl rfl ?_)
    refine ar_nil ?_
    refine ac_then rfl ?_
    refine ac_seq ?_
    refine ac_region_lit ?_
    refine ao 23 rfl rfl (st_cf (vs := []) (r := .agg #[.int .i64 rNone.lo, .int .i64 rNone.hi, .bool rNone.no]) c_rNone Try.func111 rfl (by decide) rfl rfl rfl ?_)
    refine ar_op (d := none) rfl rfl (st_sta (g := g2) (off := 0) (us := [.int .i64 rNone.lo, .int .i64 rNone.hi, .bool rNone.no]) (cs := [.int .i64 rNone.lo, .int .i64 rNone.hi, .bool rNone.no]) agg26 0 rfl rfl rfl rfl rfl rfl rfl rfl rfl ?_)
    refine ar_nil ?_
    refine ac_ret ?_
    exact fin_eq (v := .agg #[.int .i64 rNone.lo, .int .i64 rNone.hi, .bool rNone.no]) (by show _ = Iv.v (rDivIv a b); rw [rDivIv, h1] <;> rfl) (fin_ret (res_c (vs := [.int .i64 rNone.lo, .int .i64 rNone.hi, .bool rNone.no]) agg26 0 rfl rfl rfl rfl rfl rfl))
end Go.Proofs.Ythngkopcadlciaa