import Derived.Test.YthngkopcadlciaaIv
set_option linter.unusedVariables false
set_option linter.unusedSimpArgs false
namespace Go.Proofs.Ythngkopcadlciaa
open Go.RowKit

attribute [local irreducible] AC AR DWalk
def endsMul_e0 (a : Iv) (b : Iv) : Iv := (ivOf ((numMul a.lo b.lo false).1) ((numMul a.lo b.lo true).1))
def endsMul_e1 (a : Iv) (b : Iv) : Iv := (ivOf (min ((endsMul_e0 a b).lo) ((numMul a.lo b.lo false).1)) (max ((endsMul_e0 a b).hi) ((numMul a.lo b.lo true).1)))
def endsMul_e2 (a : Iv) (b : Iv) : Iv := (ivOf (min ((endsMul_e1 a b).lo) ((numMul a.lo b.hi false).1)) (max ((endsMul_e1 a b).hi) ((numMul a.lo b.hi true).1)))
def endsMul_e3 (a : Iv) (b : Iv) : Iv := (ivOf (min ((endsMul_e2 a b).lo) ((numMul a.hi b.lo false).1)) (max ((endsMul_e2 a b).hi) ((numMul a.hi b.lo true).1)))
def endsMul_e4 (a : Iv) (b : Iv) : Iv := (ivOf (min ((endsMul_e3 a b).lo) ((numMul a.hi b.hi false).1)) (max ((endsMul_e3 a b).hi) ((numMul a.hi b.hi true).1)))
def endsMul (a : Iv) (b : Iv) : Iv := (bif (numMul a.lo b.lo false).2 then (bif (numMul a.lo b.lo true).2 then (bif (numMul a.lo b.hi false).2 then (bif (numMul a.lo b.hi true).2 then (bif (numMul a.hi b.lo false).2 then (bif (numMul a.hi b.lo true).2 then (bif (numMul a.hi b.hi false).2 then (bif (numMul a.hi b.hi true).2 then (endsMul_e4 a b) else ivNone) else ivNone) else ivNone) else ivNone) else ivNone) else ivNone) else ivNone) else ivNone)
set_option maxRecDepth 100000 in
set_option maxHeartbeats 4000000 in
theorem c_endsMul (a : Iv) (b : Iv) : Gets Try.prog 71 #[.func (.func 100) #[] #[], .agg #[.int .i64 a.lo, .int .i64 a.hi, .bool a.no], .agg #[.int .i64 b.lo, .int .i64 b.hi, .bool b.no]] (Iv.v (endsMul a b)) := by
  refine gets_fin Try.func71 rfl rfl rfl ?_
  refine ac_seq ?_
  refine ac_region_lit ?_
  refine ao 4 rfl rfl (st_box (v := .agg #[.int .i64 a.lo, .int .i64 a.hi, .bool a.no]) (cs := [.int .i64 a.lo, .int .i64 a.hi, .bool a.no]) rfl rfl rfl fun g0 => ?_)
  refine ao 5 rfl rfl (st_box (v := .agg #[.int .i64 b.lo, .int .i64 b.hi, .bool b.no]) (cs := [.int .i64 b.lo, .int .i64 b.hi, .bool b.no]) rfl rfl rfl fun g1 => ?_)
  refine ao 6 rfl rfl (st_new zero26 rfl fun g2 => ?_)
  refine ar_nil ?_
  refine ac_seq ?_
  refine ac_region_lit ?_
  refine ao 7 rfl rfl (st_new zero26 rfl fun g3 => ?_)
  refine ar_nil ?_
  refine ac_seq ?_
  refine ac_region_lit ?_
  refine ao 8 rfl rfl (st_assign (v := .bool true) rfl rfl ?_)
  refine ar_nil ?_
  refine ac_seq ?_
  refine ac_seq ?_
  refine ac_region_lit ?_
  refine ao 17 rfl rfl (st_fa (g := g0) (off := 0) rfl fa26_0 rfl ?_)
  refine ao 18 rfl rfl (st_ldc (g := g0) (off := 0) (v := .int .i64 a.lo) cell3 3 rfl rfl rfl rfl rfl ?_)
  refine ao 19 rfl rfl (st_fa (g := g0) (off := 0) rfl fa26_1 rfl ?_)
  refine ao 20 rfl rfl (st_ldc (g := g0) (off := 1) (v := .int .i64 a.hi) cell3 3 rfl rfl rfl rfl rfl ?_)
  refine ao 21 rfl rfl (st_bd (us := [(0, .int .i64 a.lo), (1, .int .i64 a.hi)]) (v := .agg #[.int .i64 a.lo, .int .i64 a.hi]) rfl rfl (bd118_0_1 _ _) ?_)
  refine ao 22 rfl rfl (st_move (v := .int .i64 0) rfl rfl ?_)
  refine ar_nil ?_
  refine ac_block ?_
  refine ac_rounds 61 ?_
  refine ar_round ?_
  refine ac_seq ?_
  refine ac_region_lit ?_
  refine ao 23 rfl rfl (st_bi (u := .int .i64 0) (v := .int .i64 2) (r := .bool true) rfl rfl rfl (bi_lss (by decide)) ?_)
  refine ar_nil ?_
  refine ac_seq ?_
  refine ac_then rfl ?_
  refine ac_skip ?_
  refine ac_seq ?_
  refine ac_block ?_
  refine ac_seq ?_
  refine ac_region_lit ?_
  refine ao 24 rfl rfl (st_ix (u := .agg #[.int .i64 a.lo, .int .i64 a.hi]) (i := .int .i64 0) (v := .int .i64 a.lo) rfl rfl rfl (ix118_0 _ _) ?_)
  refine ao 10 rfl rfl (st_assign (v := .int .i64 a.lo) rfl rfl ?_)
  refine ar_nil ?_
  refine ac_seq ?_
  refine ac_region_lit ?_
  refine ao 25 rfl rfl (st_fa (g := g1) (off := 0) rfl fa26_0 rfl ?_)
  refine ao 26 rfl rfl (st_ldc (g := g1) (off := 0) (v := .int .i64 b.lo) cell3 2 rfl rfl rfl rfl rfl ?_)
  refine ao 27 rfl rfl (st_fa (g := g1) (off := 0) rfl fa26_1 rfl ?_)
  refine ao 28 rfl rfl (st_ldc (g := g1) (off := 1) (v := .int .i64 b.hi) cell3 2 rfl rfl rfl rfl rfl ?_)
  refine ao 29 rfl rfl (st_bd (us := [(0, .int .i64 b.lo), (1, .int .i64 b.hi)]) (v := .agg #[.int .i64 b.lo, .int .i64 b.hi]) rfl rfl (bd118_0_1 _ _) ?_)
  refine ao 30 rfl rfl (st_move (v := .int .i64 0) rfl rfl ?_)
  refine ar_nil ?_
  refine ac_block ?_
  refine ac_rounds 61 ?_
  refine ar_round ?_
  refine ac_seq ?_
  refine ac_region_lit ?_
  refine ao 31 rfl rfl (st_bi (u := .int .i64 0) (v := .int .i64 2) (r := .bool true) rfl rfl rfl (bi_lss (by decide)) ?_)
  refine ar_nil ?_
  refine ac_seq ?_
  refine ac_then rfl ?_
  refine ac_skip ?_
  refine ac_seq ?_
  refine ac_block ?_
  refine ac_seq ?_
  refine ac_region_lit ?_
  refine ao 32 rfl rfl (st_ix (u := .agg #[.int .i64 b.lo, .int .i64 b.hi]) (i := .int .i64 0) (v := .int .i64 b.lo) rfl rfl rfl (ix118_0 _ _) ?_)
  refine ao 12 rfl rfl (st_assign (v := .int .i64 b.lo) rfl rfl ?_)
  refine ar_nil ?_
  refine ac_seq ?_
  refine ac_region_lit ?_
  refine ao 34 rfl rfl (st_move (v := .func (.func 100) #[] #[]) rfl rfl ?_)
  refine ao 35 rfl rfl (st_move (v := .int .i64 a.lo) rfl rfl ?_)
  refine ao 36 rfl rfl (st_move (v := .int .i64 b.lo) rfl rfl ?_)
  refine ao 37 rfl rfl (st_cv (vs := [.int .i64 a.lo, .int .i64 b.lo, .bool false]) (r := .tuple #[.int .i64 ((numMul a.lo b.lo false).1), .bool ((numMul a.lo b.lo false).2)]) (c_numMul a.lo b.lo false) Try.func100 rfl (by decide) rfl rfl rfl ?_)
  refine ao 33 rfl rfl (st_move (v := .tuple #[.int .i64 ((numMul a.lo b.lo false).1), .bool ((numMul a.lo b.lo false).2)]) rfl rfl ?_)
  refine ao 38 rfl rfl (st_ex (vs := [.int .i64 ((numMul a.lo b.lo false).1), .bool ((numMul a.lo b.lo false).2)]) (v := .int .i64 ((numMul a.lo b.lo false).1)) rfl rfl rfl ?_)
  refine ao 39 rfl rfl (st_ex (vs := [.int .i64 ((numMul a.lo b.lo false).1), .bool ((numMul a.lo b.lo false).2)]) (v := .bool ((numMul a.lo b.lo false).2)) rfl rfl rfl ?_)
  refine ao 13 rfl rfl (st_assign (v := .int .i64 ((numMul a.lo b.lo false).1)) rfl rfl ?_)
  refine ao 14 rfl rfl (st_assign (v := .bool ((numMul a.lo b.lo false).2)) rfl rfl ?_)
  refine ar_nil ?_
  refine ac_seq ?_
  refine ac_region_lit ?_
  refine ao 41 rfl rfl (st_move (v := .func (.func 100) #[] #[]) rfl rfl ?_)
  refine ao 42 rfl rfl (st_move (v := .int .i64 a.lo) rfl rfl ?_)
  refine ao 43 rfl rfl (st_move (v := .int .i64 b.lo) rfl rfl ?_)
  refine ao 44 rfl rfl (st_cv (vs := [.int .i64 a.lo, .int .i64 b.lo, .bool true]) (r := .tuple #[.int .i64 ((numMul a.lo b.lo true).1), .bool ((numMul a.lo b.lo true).2)]) (c_numMul a.lo b.lo true) Try.func100 rfl (by decide) rfl rfl rfl ?_)
  refine ao 40 rfl rfl (st_move (v := .tuple #[.int .i64 ((numMul a.lo b.lo true).1), .bool ((numMul a.lo b.lo true).2)]) rfl rfl ?_)
  refine ao 45 rfl rfl (st_ex (vs := [.int .i64 ((numMul a.lo b.lo true).1), .bool ((numMul a.lo b.lo true).2)]) (v := .int .i64 ((numMul a.lo b.lo true).1)) rfl rfl rfl ?_)
  refine ao 46 rfl rfl (st_ex (vs := [.int .i64 ((numMul a.lo b.lo true).1), .bool ((numMul a.lo b.lo true).2)]) (v := .bool ((numMul a.lo b.lo true).2)) rfl rfl rfl ?_)
  refine ao 15 rfl rfl (st_assign (v := .int .i64 ((numMul a.lo b.lo true).1)) rfl rfl ?_)
  refine ao 16 rfl rfl (st_assign (v := .bool ((numMul a.lo b.lo true).2)) rfl rfl ?_)
  refine ar_nil ?_
  refine ac_seq ?_
  refine ac_seq ?_
  refine ac_region_lit ?_
  refine ao 47 rfl rfl (st_move (v := .bool ((numMul a.lo b.lo false).2)) rfl rfl ?_)
  refine ao 48 rfl rfl (st_un (u := .bool ((numMul a.lo b.lo false).2)) (v := .bool (!((numMul a.lo b.lo false).2))) rfl rfl (un_not rfl) ?_)
  refine ao 49 rfl rfl (st_move (v := .bool (!((numMul a.lo b.lo false).2))) rfl rfl ?_)
  refine bool_split ((numMul a.lo b.lo false).2) (fun h1 => ?_) (fun h1 => ?_)
  · refine ar_gd (d := (some 50)) (by show ((!((numMul a.lo b.lo false).2)) == false) = true; rw [h1]; rfl) rfl (st_move (v := .bool ((numMul a.lo b.lo true).2)) rfl rfl ?_)
    refine ar_gd (d := (some 51)) (by show ((!((numMul a.lo b.lo false).2)) == false) = true; rw [h1]; rfl) rfl (st_un (u := .bool ((numMul a.lo b.lo true).2)) (v := .bool (!((numMul a.lo b.lo true).2))) rfl rfl (un_not rfl) ?_)
    refine ao 52 rfl rfl (st_pkf' (b := !((numMul a.lo b.lo false).2)) (v := .bool (!((numMul a.lo b.lo true).2))) (by rw [h1]; rfl) rfl rfl rfl ?_)
    refine ar_nil ?_
    refine bool_split ((numMul a.lo b.lo true).2) (fun h2 => ?_) (fun h2 => ?_)
    · refine ac_else' (b := !((numMul a.lo b.lo true).2)) (by rw [h2]; rfl) rfl ?_
      refine ac_skip ?_
      refine ac_seq ?_
      refine ac_seq ?_
      refine ac_region_lit ?_
      refine ao 54 rfl rfl (st_move (v := .bool true) rfl rfl ?_)
      refine ar_nil ?_
      refine ac_then rfl ?_
      refine ac_region_lit ?_
      refine ao 55 rfl rfl (st_move (v := .int .i64 ((numMul a.lo b.lo false).1)) rfl rfl ?_)
      refine ao 56 rfl rfl (st_move (v := .int .i64 ((numMul a.lo b.lo true).1)) rfl rfl ?_)
      refine ao 57 rfl rfl (st_cf (vs := [.int .i64 ((numMul a.lo b.lo false).1), .int .i64 ((numMul a.lo b.lo true).1)]) (r := .agg #[.int .i64 ((endsMul_e0 a b).lo), .int .i64 ((endsMul_e0 a b).hi), .bool ((endsMul_e0 a b).no)]) (c_ivOf ((numMul a.lo b.lo false).1) ((numMul a.lo b.lo true).1)) Try.func70 rfl (by decide) rfl rfl rfl ?_)
      refine ar_op (d := none) rfl rfl (st_sta (g := g3) (off := 0) (us := [.int .i64 ((endsMul_e0 a b).lo), .int .i64 ((endsMul_e0 a b).hi), .bool ((endsMul_e0 a b).no)]) (cs := [.int .i64 ((endsMul_e0 a b).lo), .int .i64 ((endsMul_e0 a b).hi), .bool ((endsMul_e0 a b).no)]) agg26 0 rfl rfl rfl rfl rfl rfl rfl rfl rfl ?_)
      refine ao 8 rfl rfl (st_assign (v := .bool false) rfl rfl ?_)
      refine ar_nil ?_
      refine ac_region_lit ?_
      refine ao 58 rfl rfl (st_fa (g := g3) (off := 0) rfl fa26_0 rfl ?_)
      refine ao 59 rfl rfl (st_ldc (g := g3) (off := 0) (v := .int .i64 ((endsMul_e0 a b).lo)) cell3 0 rfl rfl rfl rfl rfl ?_)
      refine ao 60 rfl rfl (st_move (v := .int .i64 ((numMul a.lo b.lo false).1)) rfl rfl ?_)
      refine ao 61 rfl rfl (st_mn (x := ((endsMul_e0 a b).lo)) (y := ((numMul a.lo b.lo false).1)) (c := (min ((endsMul_e0 a b).lo) ((numMul a.lo b.lo false).1))) rfl rfl rfl ?_)
      refine ao 62 rfl rfl (st_fa (g := g3) (off := 0) rfl fa26_1 rfl ?_)
      refine ao 63 rfl rfl (st_ldc (g := g3) (off := 1) (v := .int .i64 ((endsMul_e0 a b).hi)) cell3 0 rfl rfl rfl rfl rfl ?_)
      refine ao 64 rfl rfl (st_move (v := .int .i64 ((numMul a.lo b.lo true).1)) rfl rfl ?_)
      refine ao 65 rfl rfl (st_mx (x := ((endsMul_e0 a b).hi)) (y := ((numMul a.lo b.lo true).1)) (c := (max ((endsMul_e0 a b).hi) ((numMul a.lo b.lo true).1))) rfl rfl rfl ?_)
      refine ao 66 rfl rfl (st_cf (vs := [.int .i64 (min ((endsMul_e0 a b).lo) ((numMul a.lo b.lo false).1)), .int .i64 (max ((endsMul_e0 a b).hi) ((numMul a.lo b.lo true).1))]) (r := .agg #[.int .i64 ((endsMul_e1 a b).lo), .int .i64 ((endsMul_e1 a b).hi), .bool ((endsMul_e1 a b).no)]) (c_ivOf (min ((endsMul_e0 a b).lo) ((numMul a.lo b.lo false).1)) (max ((endsMul_e0 a b).hi) ((numMul a.lo b.lo true).1))) Try.func70 rfl (by decide) rfl rfl rfl ?_)
      refine ar_op (d := none) rfl rfl (st_sta (g := g3) (off := 0) (us := [.int .i64 ((endsMul_e1 a b).lo), .int .i64 ((endsMul_e1 a b).hi), .bool ((endsMul_e1 a b).no)]) (cs := [.int .i64 ((endsMul_e1 a b).lo), .int .i64 ((endsMul_e1 a b).hi), .bool ((endsMul_e1 a b).no)]) agg26 0 rfl rfl rfl rfl rfl rfl rfl rfl rfl ?_)
      refine ar_nil ?_
      refine ac_region_lit ?_
      refine ao 67 rfl rfl (st_bi (u := .int .i64 0) (v := .int .i64 1) (r := .int .i64 1) rfl rfl rfl (bi_add (by decide)) ?_)
      refine ao 30 rfl rfl (st_move (v := .int .i64 1) rfl rfl ?_)
      refine ar_nil ?_
      refine ar_round ?_
      refine ac_seq ?_
      refine ac_region_lit ?_
      refine ao 31 rfl rfl (st_bi (u := .int .i64 1) (v := .int .i64 2) (r := .bool true) rfl rfl rfl (bi_lss (by decide)) ?_)
      refine ar_nil ?_
      refine ac_seq ?_
      refine ac_then rfl ?_
      refine ac_skip ?_
      refine ac_seq ?_
      refine ac_block ?_
      refine ac_seq ?_
      refine ac_region_lit ?_
      refine ao 32 rfl rfl (st_ix (u := .agg #[.int .i64 b.lo, .int .i64 b.hi]) (i := .int .i64 1) (v := .int .i64 b.hi) rfl rfl rfl (ix118_1 _ _) ?_)
      refine ao 12 rfl rfl (st_assign (v := .int .i64 b.hi) rfl rfl ?_)
      refine ar_nil ?_
      refine ac_seq ?_
      refine ac_region_lit ?_
      refine ao 34 rfl rfl (st_move (v := .func (.func 100) #[] #[]) rfl rfl ?_)
      refine ao 35 rfl rfl (st_move (v := .int .i64 a.lo) rfl rfl ?_)
      refine ao 36 rfl rfl (st_move (v := .int .i64 b.hi) rfl rfl ?_)
      refine ao 37 rfl rfl (st_cv (vs := [.int .i64 a.lo, .int .i64 b.hi, .bool false]) (r := .tuple #[.int .i64 ((numMul a.lo b.hi false).1), .bool ((numMul a.lo b.hi false).2)]) (c_numMul a.lo b.hi false) Try.func100 rfl (by decide) rfl rfl rfl ?_)
      refine ao 33 rfl rfl (st_move (v := .tuple #[.int .i64 ((numMul a.lo b.hi false).1), .bool ((numMul a.lo b.hi false).2)]) rfl rfl ?_)
      refine ao 38 rfl rfl (st_ex (vs := [.int .i64 ((numMul a.lo b.hi false).1), .bool ((numMul a.lo b.hi false).2)]) (v := .int .i64 ((numMul a.lo b.hi false).1)) rfl rfl rfl ?_)
      refine ao 39 rfl rfl (st_ex (vs := [.int .i64 ((numMul a.lo b.hi false).1), .bool ((numMul a.lo b.hi false).2)]) (v := .bool ((numMul a.lo b.hi false).2)) rfl rfl rfl ?_)
      refine ao 13 rfl rfl (st_assign (v := .int .i64 ((numMul a.lo b.hi false).1)) rfl rfl ?_)
      refine ao 14 rfl rfl (st_assign (v := .bool ((numMul a.lo b.hi false).2)) rfl rfl ?_)
      refine ar_nil ?_
      refine ac_seq ?_
      refine ac_region_lit ?_
      refine ao 41 rfl rfl (st_move (v := .func (.func 100) #[] #[]) rfl rfl ?_)
      refine ao 42 rfl rfl (st_move (v := .int .i64 a.lo) rfl rfl ?_)
      refine ao 43 rfl rfl (st_move (v := .int .i64 b.hi) rfl rfl ?_)
      refine ao 44 rfl rfl (st_cv (vs := [.int .i64 a.lo, .int .i64 b.hi, .bool true]) (r := .tuple #[.int .i64 ((numMul a.lo b.hi true).1), .bool ((numMul a.lo b.hi true).2)]) (c_numMul a.lo b.hi true) Try.func100 rfl (by decide) rfl rfl rfl ?_)
      refine ao 40 rfl rfl (st_move (v := .tuple #[.int .i64 ((numMul a.lo b.hi true).1), .bool ((numMul a.lo b.hi true).2)]) rfl rfl ?_)
      refine ao 45 rfl rfl (st_ex (vs := [.int .i64 ((numMul a.lo b.hi true).1), .bool ((numMul a.lo b.hi true).2)]) (v := .int .i64 ((numMul a.lo b.hi true).1)) rfl rfl rfl ?_)
      refine ao 46 rfl rfl (st_ex (vs := [.int .i64 ((numMul a.lo b.hi true).1), .bool ((numMul a.lo b.hi true).2)]) (v := .bool ((numMul a.lo b.hi true).2)) rfl rfl rfl ?_)
      refine ao 15 rfl rfl (st_assign (v := .int .i64 ((numMul a.lo b.hi true).1)) rfl rfl ?_)
      refine ao 16 rfl rfl (st_assign (v := .bool ((numMul a.lo b.hi true).2)) rfl rfl ?_)
      refine ar_nil ?_
      refine ac_seq ?_
      refine ac_seq ?_
      refine ac_region_lit ?_
      refine ao 47 rfl rfl (st_move (v := .bool ((numMul a.lo b.hi false).2)) rfl rfl ?_)
      refine ao 48 rfl rfl (st_un (u := .bool ((numMul a.lo b.hi false).2)) (v := .bool (!((numMul a.lo b.hi false).2))) rfl rfl (un_not rfl) ?_)
      refine ao 49 rfl rfl (st_move (v := .bool (!((numMul a.lo b.hi false).2))) rfl rfl ?_)
      refine bool_split ((numMul a.lo b.hi false).2) (fun h3 => ?_) (fun h3 => ?_)
      · refine ar_gd (d := (some 50)) (by show ((!((numMul a.lo b.hi false).2)) == false) = true; rw [h3]; rfl) rfl (st_move (v := .bool ((numMul a.lo b.hi true).2)) rfl rfl ?_)
        refine ar_gd (d := (some 51)) (by show ((!((numMul a.lo b.hi false).2)) == false) = true; rw [h3]; rfl) rfl (st_un (u := .bool ((numMul a.lo b.hi true).2)) (v := .bool (!((numMul a.lo b.hi true).2))) rfl rfl (un_not rfl) ?_)
        refine ao 52 rfl rfl (st_pkf' (b := !((numMul a.lo b.hi false).2)) (v := .bool (!((numMul a.lo b.hi true).2))) (by rw [h3]; rfl) rfl rfl rfl ?_)
        refine ar_nil ?_
        refine bool_split ((numMul a.lo b.hi true).2) (fun h4 => ?_) (fun h4 => ?_)
        · refine ac_else' (b := !((numMul a.lo b.hi true).2)) (by rw [h4]; rfl) rfl ?_
          refine ac_skip ?_
          refine ac_seq ?_
          refine ac_seq ?_
          refine ac_region_lit ?_
          refine ao 54 rfl rfl (st_move (v := .bool false) rfl rfl ?_)
          refine ar_nil ?_
          refine ac_else rfl ?_
          refine ac_skip ?_
          refine ac_region_lit ?_
          refine ao 58 rfl rfl (st_fa (g := g3) (off := 0) rfl fa26_0 rfl ?_)
          refine ao 59 rfl rfl (st_ldc (g := g3) (off := 0) (v := .int .i64 ((endsMul_e1 a b).lo)) cell3 0 rfl rfl rfl rfl rfl ?_)
          refine ao 60 rfl rfl (st_move (v := .int .i64 ((numMul a.lo b.hi false).1)) rfl rfl ?_)
          refine ao 61 rfl rfl (st_mn (x := ((endsMul_e1 a b).lo)) (y := ((numMul a.lo b.hi false).1)) (c := (min ((endsMul_e1 a b).lo) ((numMul a.lo b.hi false).1))) rfl rfl rfl ?_)
          refine ao 62 rfl rfl (st_fa (g := g3) (off := 0) rfl fa26_1 rfl ?_)
          refine ao 63 rfl rfl (st_ldc (g := g3) (off := 1) (v := .int .i64 ((endsMul_e1 a b).hi)) cell3 0 rfl rfl rfl rfl rfl ?_)
          refine ao 64 rfl rfl (st_move (v := .int .i64 ((numMul a.lo b.hi true).1)) rfl rfl ?_)
          refine ao 65 rfl rfl (st_mx (x := ((endsMul_e1 a b).hi)) (y := ((numMul a.lo b.hi true).1)) (c := (max ((endsMul_e1 a b).hi) ((numMul a.lo b.hi true).1))) rfl rfl rfl ?_)
          refine ao 66 rfl rfl (st_cf (vs := [.int .i64 (min ((endsMul_e1 a b).lo) ((numMul a.lo b.hi false).1)), .int .i64 (max ((endsMul_e1 a b).hi) ((numMul a.lo b.hi true).1))]) (r := .agg #[.int .i64 ((endsMul_e2 a b).lo), .int .i64 ((endsMul_e2 a b).hi), .bool ((endsMul_e2 a b).no)]) (c_ivOf (min ((endsMul_e1 a b).lo) ((numMul a.lo b.hi false).1)) (max ((endsMul_e1 a b).hi) ((numMul a.lo b.hi true).1))) Try.func70 rfl (by decide) rfl rfl rfl ?_)
          refine ar_op (d := none) rfl rfl (st_sta (g := g3) (off := 0) (us := [.int .i64 ((endsMul_e2 a b).lo), .int .i64 ((endsMul_e2 a b).hi), .bool ((endsMul_e2 a b).no)]) (cs := [.int .i64 ((endsMul_e2 a b).lo), .int .i64 ((endsMul_e2 a b).hi), .bool ((endsMul_e2 a b).no)]) agg26 0 rfl rfl rfl rfl rfl rfl rfl rfl rfl ?_)
          refine ar_nil ?_
          refine ac_region_lit ?_
          refine ao 67 rfl rfl (st_bi (u := .int .i64 1) (v := .int .i64 1) (r := .int .i64 2) rfl rfl rfl (bi_add (by decide)) ?_)
          refine ao 30 rfl rfl (st_move (v := .int .i64 2) rfl rfl ?_)
          refine ar_nil ?_
          refine ar_round ?_
          refine ac_seq ?_
          refine ac_region_lit ?_
          refine ao 31 rfl rfl (st_bi (u := .int .i64 2) (v := .int .i64 2) (r := .bool false) rfl rfl rfl (bi_lss (by decide)) ?_)
          refine ar_nil ?_
          refine ac_seq ?_
          refine ac_else rfl ?_
          refine ac_exit ?_
          refine ac_region_lit ?_
          refine ao 68 rfl rfl (st_bi (u := .int .i64 0) (v := .int .i64 1) (r := .int .i64 1) rfl rfl rfl (bi_add (by decide)) ?_)
          refine ao 22 rfl rfl (st_move (v := .int .i64 1) rfl rfl ?_)
          refine ar_nil ?_
          refine ar_round ?_
          refine ac_seq ?_
          refine ac_region_lit ?_
          refine ao 23 rfl rfl (st_bi (u := .int .i64 1) (v := .int .i64 2) (r := .bool true) rfl rfl rfl (bi_lss (by decide)) ?_)
          refine ar_nil ?_
          refine ac_seq ?_
          refine ac_then rfl ?_
          refine ac_skip ?_
          refine ac_seq ?_
          refine ac_block ?_
          refine ac_seq ?_
          refine ac_region_lit ?_
          refine ao 24 rfl rfl (st_ix (u := .agg #[.int .i64 a.lo, .int .i64 a.hi]) (i := .int .i64 1) (v := .int .i64 a.hi) rfl rfl rfl (ix118_1 _ _) ?_)
          refine ao 10 rfl rfl (st_assign (v := .int .i64 a.hi) rfl rfl ?_)
          refine ar_nil ?_
          refine ac_seq ?_
          refine ac_region_lit ?_
          refine ao 25 rfl rfl (st_fa (g := g1) (off := 0) rfl fa26_0 rfl ?_)
          refine ao 26 rfl rfl (st_ldc (g := g1) (off := 0) (v := .int .i64 b.lo) cell3 2 rfl rfl rfl rfl rfl ?_)
          refine ao 27 rfl rfl (st_fa (g := g1) (off := 0) rfl fa26_1 rfl ?_)
          refine ao 28 rfl rfl (st_ldc (g := g1) (off := 1) (v := .int .i64 b.hi) cell3 2 rfl rfl rfl rfl rfl ?_)
          refine ao 29 rfl rfl (st_bd (us := [(0, .int .i64 b.lo), (1, .int .i64 b.hi)]) (v := .agg #[.int .i64 b.lo, .int .i64 b.hi]) rfl rfl (bd118_0_1 _ _) ?_)
          refine ao 30 rfl rfl (st_move (v := .int .i64 0) rfl rfl ?_)
          refine ar_nil ?_
          refine ac_block ?_
          refine ac_rounds 61 ?_
          refine ar_round ?_
          refine ac_seq ?_
          refine ac_region_lit ?_
          refine ao 31 rfl rfl (st_bi (u := .int .i64 0) (v := .int .i64 2) (r := .bool true) rfl rfl rfl (bi_lss (by decide)) ?_)
          refine ar_nil ?_
          refine ac_seq ?_
          refine ac_then rfl ?_
          refine ac_skip ?_
          refine ac_seq ?_
          refine ac_block ?_
          refine ac_seq ?_
          refine ac_region_lit ?_
          refine ao 32 rfl rfl (st_ix (u := .agg #[.int .i64 b.lo, .int .i64 b.hi]) (i := .int .i64 0) (v := .int .i64 b.lo) rfl rfl rfl (ix118_0 _ _) ?_)
          refine ao 12 rfl rfl (st_assign (v := .int .i64 b.lo) rfl rfl ?_)
          refine ar_nil ?_
          refine ac_seq ?_
          refine ac_region_lit ?_
          refine ao 34 rfl rfl (st_move (v := .func (.func 100) #[] #[]) rfl rfl ?_)
          refine ao 35 rfl rfl (st_move (v := .int .i64 a.hi) rfl rfl ?_)
          refine ao 36 rfl rfl (st_move (v := .int .i64 b.lo) rfl rfl ?_)
          refine ao 37 rfl rfl (st_cv (vs := [.int .i64 a.hi, .int .i64 b.lo, .bool false]) (r := .tuple #[.int .i64 ((numMul a.hi b.lo false).1), .bool ((numMul a.hi b.lo false).2)]) (c_numMul a.hi b.lo false) Try.func100 rfl (by decide) rfl rfl rfl ?_)
          refine ao 33 rfl rfl (st_move (v := .tuple #[.int .i64 ((numMul a.hi b.lo false).1), .bool ((numMul a.hi b.lo false).2)]) rfl rfl ?_)
          refine ao 38 rfl rfl (st_ex (vs := [.int .i64 ((numMul a.hi b.lo false).1), .bool ((numMul a.hi b.lo false).2)]) (v := .int .i64 ((numMul a.hi b.lo false).1)) rfl rfl rfl ?_)
          refine ao 39 rfl rfl (st_ex (vs := [.int .i64 ((numMul a.hi b.lo false).1), .bool ((numMul a.hi b.lo false).2)]) (v := .bool ((numMul a.hi b.lo false).2)) rfl rfl rfl ?_)
          refine ao 13 rfl rfl (st_assign (v := .int .i64 ((numMul a.hi b.lo false).1)) rfl rfl ?_)
          refine ao 14 rfl rfl (st_assign (v := .bool ((numMul a.hi b.lo false).2)) rfl rfl ?_)
          refine ar_nil ?_
          refine ac_seq ?_
          refine ac_region_lit ?_
          refine ao 41 rfl rfl (st_move (v := .func (.func 100) #[] #[]) rfl rfl ?_)
          refine ao 42 rfl rfl (st_move (v := .int .i64 a.hi) rfl rfl ?_)
          refine ao 43 rfl rfl (st_move (v := .int .i64 b.lo) rfl rfl ?_)
          refine ao 44 rfl rfl (st_cv (vs := [.int .i64 a.hi, .int .i64 b.lo, .bool true]) (r := .tuple #[.int .i64 ((numMul a.hi b.lo true).1), .bool ((numMul a.hi b.lo true).2)]) (c_numMul a.hi b.lo true) Try.func100 rfl (by decide) rfl rfl rfl ?_)
          refine ao 40 rfl rfl (st_move (v := .tuple #[.int .i64 ((numMul a.hi b.lo true).1), .bool ((numMul a.hi b.lo true).2)]) rfl rfl ?_)
          refine ao 45 rfl rfl (st_ex (vs := [.int .i64 ((numMul a.hi b.lo true).1), .bool ((numMul a.hi b.lo true).2)]) (v := .int .i64 ((numMul a.hi b.lo true).1)) rfl rfl rfl ?_)
          refine ao 46 rfl rfl (st_ex (vs := [.int .i64 ((numMul a.hi b.lo true).1), .bool ((numMul a.hi b.lo true).2)]) (v := .bool ((numMul a.hi b.lo true).2)) rfl rfl rfl ?_)
          refine ao 15 rfl rfl (st_assign (v := .int .i64 ((numMul a.hi b.lo true).1)) rfl rfl ?_)
          refine ao 16 rfl rfl (st_assign (v := .bool ((numMul a.hi b.lo true).2)) rfl rfl ?_)
          refine ar_nil ?_
          refine ac_seq ?_
          refine ac_seq ?_
          refine ac_region_lit ?_
          refine ao 47 rfl rfl (st_move (v := .bool ((numMul a.hi b.lo false).2)) rfl rfl ?_)
          refine ao 48 rfl rfl (st_un (u := .bool ((numMul a.hi b.lo false).2)) (v := .bool (!((numMul a.hi b.lo false).2))) rfl rfl (un_not rfl) ?_)
          refine ao 49 rfl rfl (st_move (v := .bool (!((numMul a.hi b.lo false).2))) rfl rfl ?_)
          refine bool_split ((numMul a.hi b.lo false).2) (fun h5 => ?_) (fun h5 => ?_)
          · refine ar_gd (d := (some 50)) (by show ((!((numMul a.hi b.lo false).2)) == false) = true; rw [h5]; rfl) rfl (st_move (v := .bool ((numMul a.hi b.lo true).2)) rfl rfl ?_)
            refine ar_gd (d := (some 51)) (by show ((!((numMul a.hi b.lo false).2)) == false) = true; rw [h5]; rfl) rfl (st_un (u := .bool ((numMul a.hi b.lo true).2)) (v := .bool (!((numMul a.hi b.lo true).2))) rfl rfl (un_not rfl) ?_)
            refine ao 52 rfl rfl (st_pkf' (b := !((numMul a.hi b.lo false).2)) (v := .bool (!((numMul a.hi b.lo true).2))) (by rw [h5]; rfl) rfl rfl rfl ?_)
            refine ar_nil ?_
            refine bool_split ((numMul a.hi b.lo true).2) (fun h6 => ?_) (fun h6 => ?_)
            · refine ac_else' (b := !((numMul a.hi b.lo true).2)) (by rw [h6]; rfl) rfl ?_
              refine ac_skip ?_
              refine ac_seq ?_
              refine ac_seq ?_
              refine ac_region_lit ?_
              refine ao 54 rfl rfl (st_move (v := .bool false) rfl rfl ?_)
              refine ar_nil ?_
              refine ac_else rfl ?_
              refine ac_skip ?_
              refine ac_region_lit ?_
              refine ao 58 rfl rfl (st_fa (g := g3) (off := 0) rfl fa26_0 rfl ?_)
              refine ao 59 rfl rfl (st_ldc (g := g3) (off := 0) (v := .int .i64 ((endsMul_e2 a b).lo)) cell3 0 rfl rfl rfl rfl rfl ?_)
              refine ao 60 rfl rfl (st_move (v := .int .i64 ((numMul a.hi b.lo false).1)) rfl rfl ?_)
              refine ao 61 rfl rfl (st_mn (x := ((endsMul_e2 a b).lo)) (y := ((numMul a.hi b.lo false).1)) (c := (min ((endsMul_e2 a b).lo) ((numMul a.hi b.lo false).1))) rfl rfl rfl ?_)
              refine ao 62 rfl rfl (st_fa (g := g3) (off := 0) rfl fa26_1 rfl ?_)
              refine ao 63 rfl rfl (st_ldc (g := g3) (off := 1) (v := .int .i64 ((endsMul_e2 a b).hi)) cell3 0 rfl rfl rfl rfl rfl ?_)
              refine ao 64 rfl rfl (st_move (v := .int .i64 ((numMul a.hi b.lo true).1)) rfl rfl ?_)
              refine ao 65 rfl rfl (st_mx (x := ((endsMul_e2 a b).hi)) (y := ((numMul a.hi b.lo true).1)) (c := (max ((endsMul_e2 a b).hi) ((numMul a.hi b.lo true).1))) rfl rfl rfl ?_)
              refine ao 66 rfl rfl (st_cf (vs := [.int .i64 (min ((endsMul_e2 a b).lo) ((numMul a.hi b.lo false).1)), .int .i64 (max ((endsMul_e2 a b).hi) ((numMul a.hi b.lo true).1))]) (r := .agg #[.int .i64 ((endsMul_e3 a b).lo), .int .i64 ((endsMul_e3 a b).hi), .bool ((endsMul_e3 a b).no)]) (c_ivOf (min ((endsMul_e2 a b).lo) ((numMul a.hi b.lo false).1)) (max ((endsMul_e2 a b).hi) ((numMul a.hi b.lo true).1))) Try.func70 rfl (by decide) rfl rfl rfl ?_)
              refine ar_op (d := none) rfl rfl (st_sta (g := g3) (off := 0) (us := [.int .i64 ((endsMul_e3 a b).lo), .int .i64 ((endsMul_e3 a b).hi), .bool ((endsMul_e3 a b).no)]) (cs := [.int .i64 ((endsMul_e3 a b).lo), .int .i64 ((endsMul_e3 a b).hi), .bool ((endsMul_e3 a b).no)]) agg26 0 rfl rfl rfl rfl rfl rfl rfl rfl rfl ?_)
              refine ar_nil ?_
              refine ac_region_lit ?_
              refine ao 67 rfl rfl (st_bi (u := .int .i64 0) (v := .int .i64 1) (r := .int .i64 1) rfl rfl rfl (bi_add (by decide)) ?_)
              refine ao 30 rfl rfl (st_move (v := .int .i64 1) rfl rfl ?_)
              refine ar_nil ?_
              refine ar_round ?_
              refine ac_seq ?_
              refine ac_region_lit ?_
              refine ao 31 rfl rfl (st_bi (u := .int .i64 1) (v := .int .i64 2) (r := .bool true) rfl rfl rfl (bi_lss (by decide)) ?_)
              refine ar_nil ?_
              refine ac_seq ?_
              refine ac_then rfl ?_
              refine ac_skip ?_
              refine ac_seq ?_
              refine ac_block ?_
              refine ac_seq ?_
              refine ac_region_lit ?_
              refine ao 32 rfl rfl (st_ix (u := .agg #[.int .i64 b.lo, .int .i64 b.hi]) (i := .int .i64 1) (v := .int .i64 b.hi) rfl rfl rfl (ix118_1 _ _) ?_)
              refine ao 12 rfl rfl (st_assign (v := .int .i64 b.hi) rfl rfl ?_)
              refine ar_nil ?_
              refine ac_seq ?_
              refine ac_region_lit ?_
              refine ao 34 rfl rfl (st_move (v := .func (.func 100) #[] #[]) rfl rfl ?_)
              refine ao 35 rfl rfl (st_move (v := .int .i64 a.hi) rfl rfl ?_)
              refine ao 36 rfl rfl (st_move (v := .int .i64 b.hi) rfl rfl ?_)
              refine ao 37 rfl rfl (st_cv (vs := [.int .i64 a.hi, .int .i64 b.hi, .bool false]) (r := .tuple #[.int .i64 ((numMul a.hi b.hi false).1), .bool ((numMul a.hi b.hi false).2)]) (c_numMul a.hi b.hi false) Try.func100 rfl (by decide) rfl rfl rfl ?_)
              refine ao 33 rfl rfl (st_move (v := .tuple #[.int .i64 ((numMul a.hi b.hi false).1), .bool ((numMul a.hi b.hi false).2)]) rfl rfl ?_)
              refine ao 38 rfl rfl (st_ex (vs := [.int .i64 ((numMul a.hi b.hi false).1), .bool ((numMul a.hi b.hi false).2)]) (v := .int .i64 ((numMul a.hi b.hi false).1)) rfl rfl rfl ?_)
              refine ao 39 rfl rfl (st_ex (vs := [.int .i64 ((numMul a.hi b.hi false).1), .bool ((numMul a.hi b.hi false).2)]) (v := .bool ((numMul a.hi b.hi false).2)) rfl rfl rfl ?_)
              refine ao 13 rfl rfl (st_assign (v := .int .i64 ((numMul a.hi b.hi false).1)) rfl rfl ?_)
              refine ao 14 rfl rfl (st_assign (v := .bool ((numMul a.hi b.hi false).2)) rfl rfl ?_)
              refine ar_nil ?_
              refine ac_seq ?_
              refine ac_region_lit ?_
              refine ao 41 rfl rfl (st_move (v := .func (.func 100) #[] #[]) rfl rfl ?_)
              refine ao 42 rfl rfl (st_move (v := .int .i64 a.hi) rfl rfl ?_)
              refine ao 43 rfl rfl (st_move (v := .int .i64 b.hi) rfl rfl ?_)
              refine ao 44 rfl rfl (st_cv (vs := [.int .i64 a.hi, .int .i64 b.hi, .bool true]) (r := .tuple #[.int .i64 ((numMul a.hi b.hi true).1), .bool ((numMul a.hi b.hi true).2)]) (c_numMul a.hi b.hi true) Try.func100 rfl (by decide) rfl rfl rfl ?_)
              refine ao 40 rfl rfl (st_move (v := .tuple #[.int .i64 ((numMul a.hi b.hi true).1), .bool ((numMul a.hi b.hi true).2)]) rfl rfl ?_)
              refine ao 45 rfl rfl (st_ex (vs := [.int .i64 ((numMul a.hi b.hi true).1), .bool ((numMul a.hi b.hi true).2)]) (v := .int .i64 ((numMul a.hi b.hi true).1)) rfl rfl rfl ?_)
              refine ao 46 rfl rfl (st_ex (vs := [.int .i64 ((numMul a.hi b.hi true).1), .bool ((numMul a.hi b.hi true).2)]) (v := .bool ((numMul a.hi b.hi true).2)) rfl rfl rfl ?_)
              refine ao 15 rfl rfl (st_assign (v := .int .i64 ((numMul a.hi b.hi true).1)) rfl rfl ?_)
              refine ao 16 rfl rfl (st_assign (v := .bool ((numMul a.hi b.hi true).2)) rfl rfl ?_)
              refine ar_nil ?_
              refine ac_seq ?_
              refine ac_seq ?_
              refine ac_region_lit ?_
              refine ao 47 rfl rfl (st_move (v := .bool ((numMul a.hi b.hi false).2)) rfl rfl ?_)
              refine ao 48 rfl rfl (st_un (u := .bool ((numMul a.hi b.hi false).2)) (v := .bool (!((numMul a.hi b.hi false).2))) rfl rfl (un_not rfl) ?_)
              refine ao 49 rfl rfl (st_move (v := .bool (!((numMul a.hi b.hi false).2))) rfl rfl ?_)
              refine bool_split ((numMul a.hi b.hi false).2) (fun h7 => ?_) (fun h7 => ?_)
              · refine ar_gd (d := (some 50)) (by show ((!((numMul a.hi b.hi false).2)) == false) = true; rw [h7]; rfl) rfl (st_move (v := .bool ((numMul a.hi b.hi true).2)) rfl rfl ?_)
                refine ar_gd (d := (some 51)) (by show ((!((numMul a.hi b.hi false).2)) == false) = true; rw [h7]; rfl) rfl (st_un (u := .bool ((numMul a.hi b.hi true).2)) (v := .bool (!((numMul a.hi b.hi true).2))) rfl rfl (un_not rfl) ?_)
                refine ao 52 rfl rfl (st_pkf' (b := !((numMul a.hi b.hi false).2)) (v := .bool (!((numMul a.hi b.hi true).2))) (by rw [h7]; rfl) rfl rfl rfl ?_)
                refine ar_nil ?_
                refine bool_split ((numMul a.hi b.hi true).2) (fun h8 => ?_) (fun h8 => ?_)
                · refine ac_else' (b := !((numMul a.hi b.hi true).2)) (by rw [h8]; rfl) rfl ?_
                  refine ac_skip ?_
                  refine ac_seq ?_
                  refine ac_seq ?_
                  refine ac_region_lit ?_
                  refine ao 54 rfl rfl (st_move (v := .bool false) rfl rfl ?_)
                  refine ar_nil ?_
                  refine ac_else rfl ?_
                  refine ac_skip ?_
                  refine ac_region_lit ?_
                  refine ao 58 rfl rfl (st_fa (g := g3) (off := 0) rfl fa26_0 rfl ?_)
                  refine ao 59 rfl rfl (st_ldc (g := g3) (off := 0) (v := .int .i64 ((endsMul_e3 a b).lo)) cell3 0 rfl rfl rfl rfl rfl ?_)
                  refine ao 60 rfl rfl (st_move (v := .int .i64 ((numMul a.hi b.hi false).1)) rfl rfl ?_)
                  refine ao 61 rfl rfl (st_mn (x := ((endsMul_e3 a b).lo)) (y := ((numMul a.hi b.hi false).1)) (c := (min ((endsMul_e3 a b).lo) ((numMul a.hi b.hi false).1))) rfl rfl rfl ?_)
                  refine ao 62 rfl rfl (st_fa (g := g3) (off := 0) rfl fa26_1 rfl ?_)
                  refine ao 63 rfl rfl (st_ldc (g := g3) (off := 1) (v := .int .i64 ((endsMul_e3 a b).hi)) cell3 0 rfl rfl rfl rfl rfl ?_)
                  refine ao 64 rfl rfl (st_move (v := .int .i64 ((numMul a.hi b.hi true).1)) rfl rfl ?_)
                  refine ao 65 rfl rfl (st_mx (x := ((endsMul_e3 a b).hi)) (y := ((numMul a.hi b.hi true).1)) (c := (max ((endsMul_e3 a b).hi) ((numMul a.hi b.hi true).1))) rfl rfl rfl ?_)
                  refine ao 66 rfl rfl (st_cf (vs := [.int .i64 (min ((endsMul_e3 a b).lo) ((numMul a.hi b.hi false).1)), .int .i64 (max ((endsMul_e3 a b).hi) ((numMul a.hi b.hi true).1))]) (r := .agg #[.int .i64 ((endsMul_e4 a b).lo), .int .i64 ((endsMul_e4 a b).hi), .bool ((endsMul_e4 a b).no)]) (c_ivOf (min ((endsMul_e3 a b).lo) ((numMul a.hi b.hi false).1)) (max ((endsMul_e3 a b).hi) ((numMul a.hi b.hi true).1))) Try.func70 rfl (by decide) rfl rfl rfl ?_)
                  refine ar_op (d := none) rfl rfl (st_sta (g := g3) (off := 0) (us := [.int .i64 ((endsMul_e4 a b).lo), .int .i64 ((endsMul_e4 a b).hi), .bool ((endsMul_e4 a b).no)]) (cs := [.int .i64 ((endsMul_e4 a b).lo), .int .i64 ((endsMul_e4 a b).hi), .bool ((endsMul_e4 a b).no)]) agg26 0 rfl rfl rfl rfl rfl rfl rfl rfl rfl ?_)
                  refine ar_nil ?_
                  refine ac_region_lit ?_
                  refine ao 67 rfl rfl (st_bi (u := .int .i64 1) (v := .int .i64 1) (r := .int .i64 2) rfl rfl rfl (bi_add (by decide)) ?_)
                  refine ao 30 rfl rfl (st_move (v := .int .i64 2) rfl rfl ?_)
                  refine ar_nil ?_
                  refine ar_round ?_
                  refine ac_seq ?_
                  refine ac_region_lit ?_
                  refine ao 31 rfl rfl (st_bi (u := .int .i64 2) (v := .int .i64 2) (r := .bool false) rfl rfl rfl (bi_lss (by decide)) ?_)
                  refine ar_nil ?_
                  refine ac_seq ?_
                  refine ac_else rfl ?_
                  refine ac_exit ?_
                  refine ac_region_lit ?_
                  refine ao 68 rfl rfl (st_bi (u := .int .i64 1) (v := .int .i64 1) (r := .int .i64 2) rfl rfl rfl (bi_add (by decide)) ?_)
                  refine ao 22 rfl rfl (st_move (v := .int .i64 2) rfl rfl ?_)
                  refine ar_nil ?_
                  refine ar_round ?_
                  refine ac_seq ?_
                  refine ac_region_lit ?_
                  refine ao 23 rfl rfl (st_bi (u := .int .i64 2) (v := .int .i64 2) (r := .bool false) rfl rfl rfl (bi_lss (by decide)) ?_)
                  refine ar_nil ?_
                  refine ac_seq ?_
                  refine ac_else rfl ?_
                  refine ac_exit ?_
                  refine ac_seq ?_
                  refine ac_region_lit ?_
                  refine ao 69 rfl rfl (st_lda (g := g3) (off := 0) (vs := [.int .i64 ((endsMul_e4 a b).lo), .int .i64 ((endsMul_e4 a b).hi), .bool ((endsMul_e4 a b).no)]) agg26 0 rfl rfl rfl rfl rfl rfl ?_)
                  refine ar_op (d := none) rfl rfl (st_sta (g := g2) (off := 0) (us := [.int .i64 ((endsMul_e4 a b).lo), .int .i64 ((endsMul_e4 a b).hi), .bool ((endsMul_e4 a b).no)]) (cs := [.int .i64 ((endsMul_e4 a b).lo), .int .i64 ((endsMul_e4 a b).hi), .bool ((endsMul_e4 a b).no)]) agg26 1 rfl rfl rfl rfl rfl rfl rfl rfl rfl ?_)
                  refine ar_nil ?_
                  refine ac_ret ?_
                  exact fin_eq (v := .agg #[.int .i64 ((endsMul_e4 a b).lo), .int .i64 ((endsMul_e4 a b).hi), .bool ((endsMul_e4 a b).no)]) (by show _ = Iv.v (endsMul a b); rw [endsMul, h8, h7, h6, h5, h4, h3, h2, h1] <;> rfl) (fin_ret (res_c (vs := [.int .i64 ((endsMul_e4 a b).lo), .int .i64 ((endsMul_e4 a b).hi), .bool ((endsMul_e4 a b).no)]) agg26 1 rfl rfl rfl rfl rfl rfl))
                · refine ac_then' (b := !((numMul a.hi b.hi true).2)) (by rw [h8]; rfl) rfl ?_
                  refine ac_seq ?_
                  refine ac_region_lit ?_
                  refine ao 53 rfl rfl (st_cf (vs := []) (r := .agg #[.int .i64 ivNone.lo, .int .i64 ivNone.hi, .bool ivNone.no]) c_ivNone Try.func28 rfl (by decide) rfl rfl rfl ?_)
                  refine ar_op (d := none) rfl rfl (st_sta (g := g2) (off := 0) (us := [.int .i64 ivNone.lo, .int .i64 ivNone.hi, .bool ivNone.no]) (cs := [.int .i64 ivNone.lo, .int .i64 ivNone.hi, .bool ivNone.no]) agg26 1 rfl rfl rfl rfl rfl rfl rfl rfl rfl ?_)
                  refine ar_nil ?_
                  refine ac_ret ?_
                  exact fin_eq (v := .agg #[.int .i64 ivNone.lo, .int .i64 ivNone.hi, .bool ivNone.no]) (by show _ = Iv.v (endsMul a b); rw [endsMul, h8, h7, h6, h5, h4, h3, h2, h1] <;> rfl) (fin_ret (res_c (vs := [.int .i64 ivNone.lo, .int .i64 ivNone.hi, .bool ivNone.no]) agg26 1 rfl rfl rfl rfl rfl rfl))
              · refine ar_sk (d := (some 50)) (by show ((!((numMul a.hi b.hi false).2)) == false) = false; rw [h7]; rfl) rfl ?_
                refine ar_sk (d := (some 51)) (by show ((!((numMul a.hi b.hi false).2)) == false) = false; rw [h7]; rfl) rfl ?_
                refine ao 52 rfl rfl (st_pkt' (b := !((numMul a.hi b.hi false).2)) (v := .bool true) (by rw [h7]; rfl) rfl rfl rfl ?_)
                refine ar_nil ?_
                refine ac_then rfl ?_
                refine ac_seq ?_
                refine ac_region_lit ?_
                refine ao 53 rfl rfl (st_cf (vs := []) (r := .agg #[.int .i64 ivNone.lo, .int .i64 ivNone.hi, .bool ivNone.no]) c_ivNone Try.func28 rfl (by decide) rfl rfl rfl ?_)
                refine ar_op (d := none) rfl rfl (st_sta (g := g2) (off := 0) (us := [.int .i64 ivNone.lo, .int .i64 ivNone.hi, .bool ivNone.no]) (cs := [.int .i64 ivNone.lo, .int .i64 ivNone.hi, .bool ivNone.no]) agg26 1 rfl rfl rfl rfl rfl rfl rfl rfl rfl ?_)
                refine ar_nil ?_
                refine ac_ret ?_
                exact fin_eq (v := .agg #[.int .i64 ivNone.lo, .int .i64 ivNone.hi, .bool ivNone.no]) (by show _ = Iv.v (endsMul a b); rw [endsMul, h7, h6, h5, h4, h3, h2, h1] <;> rfl) (fin_ret (res_c (vs := [.int .i64 ivNone.lo, .int .i64 ivNone.hi, .bool ivNone.no]) agg26 1 rfl rfl rfl rfl rfl rfl))
            · refine ac_then' (b := !((numMul a.hi b.lo true).2)) (by rw [h6]; rfl) rfl ?_
              refine ac_seq ?_
              refine ac_region_lit ?_
              refine ao 53 rfl rfl (st_cf (vs := []) (r := .agg #[.int .i64 ivNone.lo, .int .i64 ivNone.hi, .bool ivNone.no]) c_ivNone Try.func28 rfl (by decide) rfl rfl rfl ?_)
              refine ar_op (d := none) rfl rfl (st_sta (g := g2) (off := 0) (us := [.int .i64 ivNone.lo, .int .i64 ivNone.hi, .bool ivNone.no]) (cs := [.int .i64 ivNone.lo, .int .i64 ivNone.hi, .bool ivNone.no]) agg26 1 rfl rfl rfl rfl rfl rfl rfl rfl rfl ?_)
              refine ar_nil ?_
              refine ac_ret ?_
              exact fin_eq (v := .agg #[.int .i64 ivNone.lo, .int .i64 ivNone.hi, .bool ivNone.no]) (by show _ = Iv.v (endsMul a b); rw [endsMul, h6, h5, h4, h3, h2, h1] <;> rfl) (fin_ret (res_c (vs := [.int .i64 ivNone.lo, .int .i64 ivNone.hi, .bool ivNone.no]) agg26 1 rfl rfl rfl rfl rfl rfl))
          · refine ar_sk (d := (some 50)) (by show ((!((numMul a.hi b.lo false).2)) == false) = false; rw [h5]; rfl) rfl ?_
            refine ar_sk (d := (some 51)) (by show ((!((numMul a.hi b.lo false).2)) == false) = false; rw [h5]; rfl) rfl ?_
            refine ao 52 rfl rfl (st_pkt' (b := !((numMul a.hi b.lo false).2)) (v := .bool true) (by rw [h5]; rfl) rfl rfl rfl ?_)
            refine ar_nil ?_
            refine ac_then rfl ?_
            refine ac_seq ?_
            refine ac_region_lit ?_
            refine ao 53 rfl rfl (st_cf (vs := []) (r := .agg #[.int .i64 ivNone.lo, .int .i64 ivNone.hi, .bool ivNone.no]) c_ivNone Try.func28 rfl (by decide) rfl rfl rfl ?_)
            refine ar_op (d := none) rfl rfl (st_sta (g := g2) (off := 0) (us := [.int .i64 ivNone.lo, .int .i64 ivNone.hi, .bool ivNone.no]) (cs := [.int .i64 ivNone.lo, .int .i64 ivNone.hi, .bool ivNone.no]) agg26 1 rfl rfl rfl rfl rfl rfl rfl rfl rfl ?_)
            refine ar_nil ?_
            refine ac_ret ?_
            exact fin_eq (v := .agg #[.int .i64 ivNone.lo, .int .i64 ivNone.hi, .bool ivNone.no]) (by show _ = Iv.v (endsMul a b); rw [endsMul, h5, h4, h3, h2, h1] <;> rfl) (fin_ret (res_c (vs := [.int .i64 ivNone.lo, .int .i64 ivNone.hi, .bool ivNone.no]) agg26 1 rfl rfl rfl rfl rfl rfl))
        · refine ac_then' (b := !((numMul a.lo b.hi true).2)) (by rw [h4]; rfl) rfl ?_
          refine ac_seq ?_
          refine ac_region_lit ?_
          refine ao 53 rfl rfl (st_cf (vs := []) (r := .agg #[.int .i64 ivNone.lo, .int .i64 ivNone.hi, .bool ivNone.no]) c_ivNone Try.func28 rfl (by decide) rfl rfl rfl ?_)
          refine ar_op (d := none) rfl rfl (st_sta (g := g2) (off := 0) (us := [.int .i64 ivNone.lo, .int .i64 ivNone.hi, .bool ivNone.no]) (cs := [.int .i64 ivNone.lo, .int .i64 ivNone.hi, .bool ivNone.no]) agg26 1 rfl rfl rfl rfl rfl rfl rfl rfl rfl ?_)
          refine ar_nil ?_
          refine ac_ret ?_
          exact fin_eq (v := .agg #[.int .i64 ivNone.lo, .int .i64 ivNone.hi, .bool ivNone.no]) (by show _ = Iv.v (endsMul a b); rw [endsMul, h4, h3, h2, h1] <;> rfl) (fin_ret (res_c (vs := [.int .i64 ivNone.lo, .int .i64 ivNone.hi, .bool ivNone.no]) agg26 1 rfl rfl rfl rfl rfl rfl))
      · refine ar_sk (d := (some 50)) (by show ((!((numMul a.lo b.hi false).2)) == false) = false; rw [h3]; rfl) rfl ?_
        refine ar_sk (d := (some 51)) (by show ((!((numMul a.lo b.hi false).2)) == false) = false; rw [h3]; rfl) rfl ?_
        refine ao 52 rfl rfl (st_pkt' (b := !((numMul a.lo b.hi false).2)) (v := .bool true) (by rw [h3]; rfl) rfl rfl rfl ?_)
        refine ar_nil ?_
        refine ac_then rfl ?_
        refine ac_seq ?_
        refine ac_region_lit ?_
        refine ao 53 rfl rfl (st_cf (vs := []) (r := .agg #[.int .i64 ivNone.lo, .int .i64 ivNone.hi, .bool ivNone.no]) c_ivNone Try.func28 rfl (by decide) rfl rfl rfl ?_)
        refine ar_op (d := none) rfl rfl (st_sta (g := g2) (off := 0) (us := [.int .i64 ivNone.lo, .int .i64 ivNone.hi, .bool ivNone.no]) (cs := [.int .i64 ivNone.lo, .int .i64 ivNone.hi, .bool ivNone.no]) agg26 1 rfl rfl rfl rfl rfl rfl rfl rfl rfl ?_)
        refine ar_nil ?_
        refine ac_ret ?_
        exact fin_eq (v := .agg #[.int .i64 ivNone.lo, .int .i64 ivNone.hi, .bool ivNone.no]) (by show _ = Iv.v (endsMul a b); rw [endsMul, h3, h2, h1] <;> rfl) (fin_ret (res_c (vs := [.int .i64 ivNone.lo, .int .i64 ivNone.hi, .bool ivNone.no]) agg26 1 rfl rfl rfl rfl rfl rfl))
    · refine ac_then' (b := !((numMul a.lo b.lo true).2)) (by rw [h2]; rfl) rfl ?_
      refine ac_seq ?_
      refine ac_region_lit ?_
      refine ao 53 rfl rfl (st_cf (vs := []) (r := .agg #[.int .i64 ivNone.lo, .int .i64 ivNone.hi, .bool ivNone.no]) c_ivNone Try.func28 rfl (by decide) rfl rfl rfl ?_)
      refine ar_op (d := none) rfl rfl (st_sta (g := g2) (off := 0) (us := [.int .i64 ivNone.lo, .int .i64 ivNone.hi, .bool ivNone.no]) (cs := [.int .i64 ivNone.lo, .int .i64 ivNone.hi, .bool ivNone.no]) agg26 1 rfl rfl rfl rfl rfl rfl rfl rfl rfl ?_)
      refine ar_nil ?_
      refine ac_ret ?_
      exact fin_eq (v := .agg #[.int .i64 ivNone.lo, .int .i64 ivNone.hi, .bool ivNone.no]) (by show _ = Iv.v (endsMul a b); rw [endsMul, h2, h1] <;> rfl) (fin_ret (res_c (vs := [.int .i64 ivNone.lo, .int .i64 ivNone.hi, .bool ivNone.no]) agg26 1 rfl rfl rfl rfl rfl rfl))
  · refine ar_sk (d := (some 50)) (by show ((!((numMul a.lo b.lo false).2)) == false) = false; rw [h1]; rfl) rfl ?_
    refine ar_sk (d := (some 51)) (by show ((!((numMul a.lo b.lo false).2)) == false) = false; rw [h1]; rfl) rfl ?_
    refine ao 52 rfl rfl (st_pkt' (b := !((numMul a.lo b.lo false).2)) (v := .bool true) (by rw [h1]; rfl) rfl rfl rfl ?_)
    refine ar_nil ?_
    refine ac_then rfl ?_
    refine ac_seq ?_
    refine ac_region_lit ?_
    refine ao 53 rfl rfl (st_cf (vs := []) (r := .agg #[.int .i64 ivNone.lo, .int .i64 ivNone.hi, .bool ivNone.no]) c_ivNone Try.func28 rfl (by decide) rfl rfl rfl ?_)
    refine ar_op (d := none) rfl rfl (st_sta (g := g2) (off := 0) (us := [.int .i64 ivNone.lo, .int .i64 ivNone.hi, .bool ivNone.no]) (cs := [.int .i64 ivNone.lo, .int .i64 ivNone.hi, .bool ivNone.no]) agg26 1 rfl rfl rfl rfl rfl rfl rfl rfl rfl ?_)
    refine ar_nil ?_
    refine ac_ret ?_
    exact fin_eq (v := .agg #[.int .i64 ivNone.lo, .int .i64 ivNone.hi, .bool ivNone.no]) (by show _ = Iv.v (endsMul a b); rw [endsMul, h1] <;> rfl) (fin_ret (res_c (vs := [.int .i64 ivNone.lo, .int .i64 ivNone.hi, .bool ivNone.no]) agg26 1 rfl rfl rfl rfl rfl rfl))
def ivMul (a : Iv) (b : Iv) : Iv := (bif ivBoth a b then (endsMul a b) else ivNone)
set_option maxRecDepth 100000 in
theorem c_ivMul (a : Iv) (b : Iv) : Gets Try.prog 68 #[.agg #[.int .i64 a.lo, .int .i64 a.hi, .bool a.no], .agg #[.int .i64 b.lo, .int .i64 b.hi, .bool b.no]] (Iv.v (ivMul a b)) := by
  refine gets_fin Try.func68 rfl rfl rfl ?_
  refine ac_seq ?_
  refine ac_region_lit ?_
  refine ao 2 rfl rfl (st_box (v := .agg #[.int .i64 a.lo, .int .i64 a.hi, .bool a.no]) (cs := [.int .i64 a.lo, .int .i64 a.hi, .bool a.no]) rfl rfl rfl fun g0 => ?_)
  refine ao 3 rfl rfl (st_box (v := .agg #[.int .i64 b.lo, .int .i64 b.hi, .bool b.no]) (cs := [.int .i64 b.lo, .int .i64 b.hi, .bool b.no]) rfl rfl rfl fun g1 => ?_)
  refine ao 4 rfl rfl (st_new zero26 rfl fun g2 => ?_)
  refine ar_nil ?_
  refine ac_seq ?_
  refine ac_seq ?_
  refine ac_region_lit ?_
  refine ao 5 rfl rfl (st_lda (g := g0) (off := 0) (vs := [.int .i64 a.lo, .int .i64 a.hi, .bool a.no]) agg26 2 rfl rfl rfl rfl rfl rfl ?_)
  refine ao 6 rfl rfl (st_lda (g := g1) (off := 0) (vs := [.int .i64 b.lo, .int .i64 b.hi, .bool b.no]) agg26 1 rfl rfl rfl rfl rfl rfl ?_)
  refine ao 7 rfl rfl (st_cf (vs := [.agg #[.int .i64 a.lo, .int .i64 a.hi, .bool a.no], .agg #[.int .i64 b.lo, .int .i64 b.hi, .bool b.no]]) (r := .bool (ivBoth a b)) (c_ivBoth a b) Try.func69 rfl (by decide) rfl rfl rfl ?_)
  refine ao 8 rfl rfl (st_un (u := .bool (ivBoth a b)) (v := .bool (!(ivBoth a b))) rfl rfl (un_not rfl) ?_)
  refine ar_nil ?_
  refine bool_split (ivBoth a b) (fun h1 => ?_) (fun h1 => ?_)
  · refine ac_else' (b := !(ivBoth a b)) (by rw [h1]; rfl) rfl ?_
    refine ac_skip ?_
    refine ac_seq ?_
    refine ac_region_lit ?_
    refine ao 10 rfl rfl (st_lda (g := g0) (off := 0) (vs := [.int .i64 a.lo, .int .i64 a.hi, .bool a.no]) agg26 2 rfl rfl rfl rfl rfl rfl ?_)
    refine ao 11 rfl rfl (st_lda (g := g1) (off := 0) (vs := [.int .i64 b.lo, .int .i64 b.hi, .bool b.no]) agg26 1 rfl rfl rfl rfl rfl rfl ?_)
    refine ao 12 rfl rfl (st_cf (vs := [.func (.func 100) #[] #[], .agg #[.int .i64 a.lo, .int .i64 a.hi, .bool a.no], .agg #[.int .i64 b.lo, .int .i64 b.hi, .bool b.no]]) (r := .agg #[.int .i64 ((endsMul a b).lo), .int .i64 ((endsMul a b).hi), .bool ((endsMul a b).no)]) (c_endsMul a b) Try.func71 rfl (by decide) rfl rfl rfl ?_)
    refine ar_op (d := none) rfl rfl (st_sta (g := g2) (off := 0) (us := [.int .i64 ((endsMul a b).lo), .int .i64 ((endsMul a b).hi), .bool ((endsMul a b).no)]) (cs := [.int .i64 ((endsMul a b).lo), .int .i64 ((endsMul a b).hi), .bool ((endsMul a b).no)]) agg26 0 rfl rfl rfl rfl rfl rfl rfl rfl rfl ?_)
    refine ar_nil ?_
    refine ac_ret ?_
    exact fin_eq (v := .agg #[.int .i64 ((endsMul a b).lo), .int .i64 ((endsMul a b).hi), .bool ((endsMul a b).no)]) (by show _ = Iv.v (ivMul a b); rw [ivMul, h1] <;> rfl) (fin_ret (res_c (vs := [.int .i64 ((endsMul a b).lo), .int .i64 ((endsMul a b).hi), .bool ((endsMul a b).no)]) agg26 0 rfl rfl rfl rfl rfl rfl))
  · refine ac_then' (b := !(ivBoth a b)) (by rw [h1]; rfl) rfl ?_
    refine ac_seq ?_
    refine ac_region_lit ?_
    refine ao 9 rfl rfl (st_cf (vs := []) (r := .agg #[.int .i64 ivNone.lo, .int .i64 ivNone.hi, .bool ivNone.no]) c_ivNone Try.func28 rfl (by decide) rfl rfl rfl ?_)
    refine ar_op (d := none) rfl rfl (st_sta (g := g2) (off := 0) (us := [.int .i64 ivNone.lo, .int .i64 ivNone.hi, .bool ivNone.no]) (cs := [.int .i64 ivNone.lo, .int .i64 ivNone.hi, .bool ivNone.no]) agg26 0 rfl rfl rfl rfl rfl rfl rfl rfl rfl ?_)
    refine ar_nil ?_
    refine ac_ret ?_
    exact fin_eq (v := .agg #[.int .i64 ivNone.lo, .int .i64 ivNone.hi, .bool ivNone.no]) (by show _ = Iv.v (ivMul a b); rw [ivMul, h1] <;> rfl) (fin_ret (res_c (vs := [.int .i64 ivNone.lo, .int .i64 ivNone.hi, .bool ivNone.no]) agg26 0 rfl rfl rfl rfl rfl rfl))
end Go.Proofs.Ythngkopcadlciaa
