import Derived.Test.YthngkopcadlciaaMSceneTurns4
import Derived.Test.YthngkopcadlciaaRIv
set_option linter.unusedVariables false
set_option linter.unusedSimpArgs false
namespace Go.Proofs.Ythngkopcadlciaa
open Go.RowKit
attribute [local irreducible] AC AR DWalk
def endsDiv_e0 (a : Iv) (b : Iv) : Iv := (ivOf ((numDiv a.lo b.lo false).1) ((numDiv a.lo b.lo true).1))
def endsDiv_e1 (a : Iv) (b : Iv) : Iv := (ivOf (min ((endsDiv_e0 a b).lo) ((numDiv a.lo b.lo false).1)) (max ((endsDiv_e0 a b).hi) ((numDiv a.lo b.lo true).1)))
def endsDiv_e2 (a : Iv) (b : Iv) : Iv := (ivOf (min ((endsDiv_e1 a b).lo) ((numDiv a.lo b.hi false).1)) (max ((endsDiv_e1 a b).hi) ((numDiv a.lo b.hi true).1)))
def endsDiv_e3 (a : Iv) (b : Iv) : Iv := (ivOf (min ((endsDiv_e2 a b).lo) ((numDiv a.hi b.lo false).1)) (max ((endsDiv_e2 a b).hi) ((numDiv a.hi b.lo true).1)))
def endsDiv_e4 (a : Iv) (b : Iv) : Iv := (ivOf (min ((endsDiv_e3 a b).lo) ((numDiv a.hi b.hi false).1)) (max ((endsDiv_e3 a b).hi) ((numDiv a.hi b.hi true).1)))
def endsDiv (a : Iv) (b : Iv) : Iv := (bif (numDiv a.lo b.lo false).2 then (bif (numDiv a.lo b.lo true).2 then (bif (numDiv a.lo b.hi false).2 then (bif (numDiv a.lo b.hi true).2 then (bif (numDiv a.hi b.lo false).2 then (bif (numDiv a.hi b.lo true).2 then (bif (numDiv a.hi b.hi false).2 then (bif (numDiv a.hi b.hi true).2 then (endsDiv_e4 a b) else ivNone) else ivNone) else ivNone) else ivNone) else ivNone) else ivNone) else ivNone) else ivNone)
set_option maxRecDepth 100000 in
set_option maxHeartbeats 4000000 in
theorem c_endsDiv (a : Iv) (b : Iv) : Gets Try.prog 71 #[.func (.func 72) #[] #[], .agg #[.int .i64 a.lo, .int .i64 a.hi, .bool a.no], .agg #[.int .i64 b.lo, .int .i64 b.hi, .bool b.no]] (Iv.v (endsDiv a b)) := by
  refine gets_fin Try.func71 rfl rfl rfl ?_
  refine ac_seq ?_
  refine ac_region_lit ?_
  refine ao 4 rfl rfl (st_box (v := .agg #[.int .i64 a.lo, .int .i64 a.hi, .bool a.no]) (cs := [.int .i64 a.lo, .int .i64 a.hi, .bool a.no]) rfl rfl rfl fun g0 => ?_)
  refine ao 5 rfl rfl (st_box (v := .agg #[.int .i64 b.lo, .int .i64 b.hi, .bool b.no]) (cs := [.int .i64 b.lo, .int .i64 b.hi, .bool b.no]) rfl rfl rfl fun g1 => ?_)
  refine ao 6 rfl rfl (st_new zero26 rfl fun g2 => ?_)
  refine ar_nil ?_
  refine ac_seq ?_
  refine ac_region_lit ?_
  refine ao 7 rfl rfl (st_new zero26 rfl fun g3 => ?_)
  refine ar_nil ?_
  refine ac_seq ?_
  refine ac_region_lit ?_
  refine ao 8 rfl rfl (st_assign (v := .bool true) rfl rfl ?_)
  refine ar_nil ?_
  refine ac_seq ?_
  refine ac_seq ?_
  refine ac_region_lit ?_
  refine ao 17 rfl rfl (st_fa (g := g0) (off := 0) rfl fa26_0 rfl ?_)
  refine ao 18 rfl rfl (st_ldc (g := g0) (off := 0) (v := .int .i64 a.lo) cell3 3 rfl rfl rfl rfl rfl ?_)
  refine ao 19 rfl rfl (st_fa (g := g0) (off := 0) rfl fa26_1 rfl ?_)
  refine ao 20 rfl rfl (st_ldc (g := g0) (off := 1) (v := .int .i64 a.hi) cell3 3 rfl rfl rfl rfl rfl ?_)
  refine ao 21 rfl rfl (st_bd (us := [(0, .int .i64 a.lo), (1, .int .i64 a.hi)]) (v := .agg #[.int .i64 a.lo, .int .i64 a.hi]) rfl rfl (bd118_0_1 _ _) ?_)
  refine ao 22 rfl rfl (st_move (v := .int .i64 0) rfl rfl ?_)
  refine ar_nil ?_
  refine ac_block ?_
  refine ac_rounds 61 ?_
  refine ar_round ?_
  refine ac_seq ?_
  refine ac_region_lit ?_
  refine ao 23 rfl rfl (st_bi (u := .int .i64 0) (v := .int .i64 2) (r := .bool true) rfl rfl rfl (bi_lss (by decide)) ?_)
  refine ar_nil ?_
  refine ac_seq ?_
  refine ac_then rfl ?_
  refine ac_skip ?_
  refine ac_seq ?_
  refine ac_block ?_
  refine ac_seq ?_
  refine ac_region_lit ?_
  refine ao 24 rfl rfl (st_ix (u := .agg #[.int .i64 a.lo, .int .i64 a.hi]) (i := .int .i64 0) (v := .int .i64 a.lo) rfl rfl rfl (ix118_0 _ _) ?_)
  refine ao 10 rfl rfl (st_assign (v := .int .i64 a.lo) rfl rfl ?_)
  refine ar_nil ?_
  refine ac_seq ?_
  refine ac_region_lit ?_
  refine ao 25 rfl rfl (st_fa (g := g1) (off := 0) rfl fa26_0 rfl ?_)
  refine ao 26 rfl rfl (st_ldc (g := g1) (off := 0) (v := .int .i64 b.lo) cell3 2 rfl rfl rfl rfl rfl ?_)
  refine ao 27 rfl rfl (st_fa (g := g1) (off := 0) rfl fa26_1 rfl ?_)
  refine ao 28 rfl rfl (st_ldc (g := g1) (off := 1) (v := .int .i64 b.hi) cell3 2 rfl rfl rfl rfl rfl ?_)
  refine ao 29 rfl rfl (st_bd (us := [(0, .int .i64 b.lo), (1, .int .i64 b.hi)]) (v := .agg #[.int .i64 b.lo, .int .i64 b.hi]) rfl rfl (bd118_0_1 _ _) ?_)
  refine ao 30 rfl rfl (st_move (v := .int .i64 0) rfl rfl ?_)
  refine ar_nil ?_
  refine ac_block ?_
  refine ac_rounds 61 ?_
  refine ar_round ?_
  refine ac_seq ?_
  refine ac_region_lit ?_
  refine ao 31 rfl rfl (st_bi (u := .int .i64 0) (v := .int .i64 2) (r := .bool true) rfl rfl rfl (bi_lss (by decide)) ?_)
  refine ar_nil ?_
  refine ac_seq ?_
  refine ac_then rfl ?_
  refine ac_skip ?_
  refine ac_seq ?_
  refine ac_block ?_
  refine ac_seq ?_
  refine ac_region_lit ?_
  refine ao 32 rfl rfl (st_ix (u := .agg #[.int .i64 b.lo, .int .i64 b.hi]) (i := .int .i64 0) (v := .int .i64 b.lo) rfl rfl rfl (ix118_0 _ _) ?_)
  refine ao 12 rfl rfl (st_assign (v := .int .i64 b.lo) rfl rfl ?_)
  refine ar_nil ?_
  refine ac_seq ?_
  refine ac_region_lit ?_
  refine ao 34 rfl rfl (st_move (v := .func (.func 72) #[] #[]) rfl rfl ?_)
  refine ao 35 rfl rfl (st_move (v := .int .i64 a.lo) rfl rfl ?_)
  refine ao 36 rfl rfl (st_move (v := .int .i64 b.lo) rfl rfl ?_)
  refine ao 37 rfl rfl (st_cv (vs := [.int .i64 a.lo, .int .i64 b.lo, .bool false]) (r := .tuple #[.int .i64 ((numDiv a.lo b.lo false).1), .bool ((numDiv a.lo b.lo false).2)]) (c_numDiv a.lo b.lo false) Try.func72 rfl (by decide) rfl rfl rfl ?_)
  refine ao 33 rfl rfl (st_move (v := .tuple #[.int .i64 ((numDiv a.lo b.lo false).1), .bool ((numDiv a.lo b.lo false).2)]) rfl rfl ?_)
  refine ao 38 rfl rfl (st_ex (vs := [.int .i64 ((numDiv a.lo b.lo false).1), .bool ((numDiv a.lo b.lo false).2)]) (v := .int .i64 ((numDiv a.lo b.lo false).1)) rfl rfl rfl ?_)
  refine ao 39 rfl rfl (st_ex (vs := [.int .i64 ((numDiv a.lo b.lo false).1), .bool ((numDiv a.lo b.lo false).2)]) (v := .bool ((numDiv a.lo b.lo false).2)) rfl rfl rfl ?_)
  refine ao 13 rfl rfl (st_assign (v := .int .i64 ((numDiv a.lo b.lo false).1)) rfl rfl ?_)
  refine ao 14 rfl rfl (st_assign (v := .bool ((numDiv a.lo b.lo false).2)) rfl rfl ?_)
  refine ar_nil ?_
  refine ac_seq ?_
  refine ac_region_lit ?_
  refine ao 41 rfl rfl (st_move (v := .func (.func 72) #[] #[]) rfl rfl ?_)
  refine ao 42 rfl rfl (st_move (v := .int .i64 a.lo) rfl rfl ?_)
  refine ao 43 rfl rfl (st_move (v := .int .i64 b.lo) rfl rfl ?_)
  refine ao 44 rfl rfl (st_cv (vs := [.int .i64 a.lo, .int .i64 b.lo, .bool true]) (r := .tuple #[.int .i64 ((numDiv a.lo b.lo true).1), .bool ((numDiv a.lo b.lo true).2)]) (c_numDiv a.lo b.lo true) Try.func72 rfl (by decide) rfl rfl rfl ?_)
  refine ao 40 rfl rfl (st_move (v := .tuple #[.int .i64 ((numDiv a.lo b.lo true).1), .bool ((numDiv a.lo b.lo true).2)]) rfl rfl ?_)
  refine ao 45 rfl rfl (st_ex (vs := [.int .i64 ((numDiv a.lo b.lo true).1), .bool ((numDiv a.lo b.lo true).2)]) (v := .int .i64 ((numDiv a.lo b.lo true).1)) rfl rfl rfl ?_)
  refine ao 46 rfl rfl (st_ex (vs := [.int .i64 ((numDiv a.lo b.lo true).1), .bool ((numDiv a.lo b.lo true).2)]) (v := .bool ((numDiv a.lo b.lo true).2)) rfl rfl rfl ?_)
  refine ao 15 rfl rfl (st_assign (v := .int .i64 ((numDiv a.lo b.lo true).1)) rfl rfl ?_)
  refine ao 16 rfl rfl (st_assign (v := .bool ((numDiv a.lo b.lo true).2)) rfl rfl ?_)
  refine ar_nil ?_
  refine ac_seq ?_
  refine ac_seq ?_
  refine ac_region_lit ?_
  refine ao 47 rfl rfl (st_move (v := .bool ((numDiv a.lo b.lo false).2)) rfl rfl ?_)
  refine ao 48 rfl rfl (st_un (u := .bool ((numDiv a.lo b.lo false).2)) (v := .bool (!((numDiv a.lo b.lo false).2))) rfl rfl (un_not rfl) ?_)
  refine ao 49 rfl rfl (st_move (v := .bool (!((numDiv a.lo b.lo false).2))) rfl rfl ?_)
  refine bool_split ((numDiv a.lo b.lo false).2) (fun h1 => ?_) (fun h1 => ?_)
  · refine ar_gd (d := (some 50)) (by show ((!((numDiv a.lo b.lo false).2)) == false) = true; rw [h1]; rfl) rfl (st_move (v := .bool ((numDiv a.lo b.lo true).2)) rfl rfl ?_)
    refine ar_gd (d := (some 51)) (by show ((!((numDiv a.lo b.lo false).2)) == false) = true; rw [h1]; rfl) rfl (st_un (u := .bool ((numDiv a.lo b.lo true).2)) (v := .bool (!((numDiv a.lo b.lo true).2))) rfl rfl (un_not rfl) ?_)
    refine ao 52 rfl rfl (st_pkf' (b := !((numDiv a.lo b.lo false).2)) (v := .bool (!((numDiv a.lo b.lo true).2))) (by rw [h1]; rfl) rfl rfl rfl ?_)
    refine ar_nil ?_
    refine bool_split ((numDiv a.lo b.lo true).2) (fun h2 => ?_) (fun h2 => ?_)
    · refine ac_else' (b := !((numDiv a.lo b.lo true).2)) (by rw [h2]; rfl) rfl ?_
      refine ac_skip ?_
      refine ac_seq ?_
      refine ac_seq ?_
      refine ac_region_lit ?_
      refine ao 54 rfl rfl (st_move (v := .bool true) rfl rfl ?_)
      refine ar_nil ?_
      refine ac_then rfl ?_
      refine ac_region_lit ?_
      refine ao 55 rfl rfl (st_move (v := .int .i64 ((numDiv a.lo b.lo false).1)) rfl rfl ?_)
      refine ao 56 rfl rfl (st_move (v := .int .i64 ((numDiv a.lo b.lo true).1)) rfl rfl ?_)
      refine ao 57 rfl rfl (st_cf (vs := [.int .i64 ((numDiv a.lo b.lo false).1), .int .i64 ((numDiv a.lo b.lo true).1)]) (r := .agg #[.int .i64 ((endsDiv_e0 a b).lo), .int .i64 ((endsDiv_e0 a b).hi), .bool ((endsDiv_e0 a b).no)]) (c_ivOf ((numDiv a.lo b.lo false).1) ((numDiv a.lo b.lo true).1)) Try.func70 rfl (by decide) rfl rfl rfl ?_)
      refine ar_op (d := none) rfl rfl (st_sta (g := g3) (off := 0) (us := [.int .i64 ((endsDiv_e0 a b).lo), .int .i64 ((endsDiv_e0 a b).hi), .bool ((endsDiv_e0 a b).no)]) (cs := [.int .i64 ((endsDiv_e0 a b).lo), .int .i64 ((endsDiv_e0 a b).hi), .bool ((endsDiv_e0 a b).no)]) agg26 0 rfl rfl rfl rfl rfl rfl rfl rfl rfl ?_)
      refine ao 8 rfl rfl (st_assign (v := .bool false) rfl rfl ?_)
      refine ar_nil ?_
      refine ac_region_lit ?_
      refine ao 58 rfl rfl (st_fa (g := g3) (off := 0) rfl fa26_0 rfl ?_)
      refine ao 59 rfl rfl (st_ldc (g := g3) (off := 0) (v := .int .i64 ((endsDiv_e0 a b).lo)) cell3 0 rfl rfl rfl rfl rfl ?_)
      refine ao 60 rfl rfl (st_move (v := .int .i64 ((numDiv a.lo b.lo false).1)) rfl rfl ?_)
      refine ao 61 rfl rfl (st_mn (x := ((endsDiv_e0 a b).lo)) (y := ((numDiv a.lo b.lo false).1)) (c := (min ((endsDiv_e0 a b).lo) ((numDiv a.lo b.lo false).1))) rfl rfl rfl ?_)
      refine ao 62 rfl rfl (st_fa (g := g3) (off := 0) rfl fa26_1 rfl ?_)
      refine ao 63 rfl rfl (st_ldc (g := g3) (off := 1) (v := .int .i64 ((endsDiv_e0 a b).hi)) cell3 0 rfl rfl rfl rfl rfl ?_)
      refine ao 64 rfl rfl (st_move (v := .int .i64 ((numDiv a.lo b.lo true).1)) rfl rfl ?_)
      refine ao 65 rfl rfl (st_mx (x := ((endsDiv_e0 a b).hi)) (y := ((numDiv a.lo b.lo true).1)) (c := (max ((endsDiv_e0 a b).hi) ((numDiv a.lo b.lo true).1))) rfl rfl rfl ?_)
      refine ao 66 rfl rfl (st_cf (vs := [.int .i64 (min ((endsDiv_e0 a b).lo) ((numDiv a.lo b.lo false).1)), .int .i64 (max ((endsDiv_e0 a b).hi) ((numDiv a.lo b.lo true).1))]) (r := .agg #[.int .i64 ((endsDiv_e1 a b).lo), .int .i64 ((endsDiv_e1 a b).hi), .bool ((endsDiv_e1 a b).no)]) (c_ivOf (min ((endsDiv_e0 a b).lo) ((numDiv a.lo b.lo false).1)) (max ((endsDiv_e0 a b).hi) ((numDiv a.lo b.lo true).1))) Try.func70 rfl (by decide) rfl rfl rfl ?_)
      refine ar_op (d := none) rfl rfl (st_sta (g := g3) (off := 0) (us := [.int .i64 ((endsDiv_e1 a b).lo), .int .i64 ((endsDiv_e1 a b).hi), .bool ((endsDiv_e1 a b).no)]) (cs := [.int .i64 ((endsDiv_e1 a b).lo), .int .i64 ((endsDiv_e1 a b).hi), .bool ((endsDiv_e1 a b).no)]) agg26 0 rfl rfl rfl rfl rfl rfl rfl rfl rfl ?_)
      refine ar_nil ?_
      refine ac_region_lit ?_
      refine ao 67 rfl rfl (st_bi (u := .int .i64 0) (v := .int .i64 1) (r := .int .i64 1) rfl rfl rfl (bi_add (by decide)) ?_)
      refine ao 30 rfl rfl (st_move (v := .int .i64 1) rfl rfl ?_)
      refine ar_nil ?_
      refine ar_round ?_
      refine ac_seq ?_
      refine ac_region_lit ?_
      refine ao 31 rfl rfl (st_bi (u := .int .i64 1) (v := .int .i64 2) (r := .bool true) rfl rfl rfl (bi_lss (by decide)) ?_)
      refine ar_nil ?_
      refine ac_seq ?_
      refine ac_then rfl ?_
      refine ac_skip ?_
      refine ac_seq ?_
      refine ac_block ?_
      refine ac_seq ?_
      refine ac_region_lit ?_
      refine ao 32 rfl rfl (st_ix (u := .agg #[.int .i64 b.lo, .int .i64 b.hi]) (i := .int .i64 1) (v := .int .i64 b.hi) rfl rfl rfl (ix118_1 _ _) ?_)
      refine ao 12 rfl rfl (st_assign (v := .int .i64 b.hi) rfl rfl ?_)
      refine ar_nil ?_
      refine ac_seq ?_
      refine ac_region_lit ?_
      refine ao 34 rfl rfl (st_move (v := .func (.func 72) #[] #[]) rfl rfl ?_)
      refine ao 35 rfl rfl (st_move (v := .int .i64 a.lo) rfl rfl ?_)
      refine ao 36 rfl rfl (st_move (v := .int .i64 b.hi) rfl rfl ?_)
      refine ao 37 rfl rfl (st_cv (vs := [.int .i64 a.lo, .int .i64 b.hi, .bool false]) (r := .tuple #[.int .i64 ((numDiv a.lo b.hi false).1), .bool ((numDiv a.lo b.hi false).2)]) (c_numDiv a.lo b.hi false) Try.func72 rfl (by decide) rfl rfl rfl ?_)
      refine ao 33 rfl rfl (st_move (v := .tuple #[.int .i64 ((numDiv a.lo b.hi false).1), .bool ((numDiv a.lo b.hi false).2)]) rfl rfl ?_)
      refine ao 38 rfl rfl (st_ex (vs := [.int .i64 ((numDiv a.lo b.hi false).1), .bool ((numDiv a.lo b.hi false).2)]) (v := .int .i64 ((numDiv a.lo b.hi false).1)) rfl rfl rfl ?_)
      refine ao 39 rfl rfl (st_ex (vs := [.int .i64 ((numDiv a.lo b.hi false).1), .bool ((numDiv a.lo b.hi false).2)]) (v := .bool ((numDiv a.lo b.hi false).2)) rfl rfl rfl ?_)
      refine ao 13 rfl rfl (st_assign (v := .int .i64 ((numDiv a.lo b.hi false).1)) rfl rfl ?_)
      refine ao 14 rfl rfl (st_assign (v := .bool ((numDiv a.lo b.hi false).2)) rfl rfl ?_)
      refine ar_nil ?_
      refine ac_seq ?_
      refine ac_region_lit ?_
      refine ao 41 rfl rfl (st_move (v := .func (.func 72) #[] #[]) rfl rfl ?_)
      refine ao 42 rfl rfl (st_move (v := .int .i64 a.lo) rfl rfl ?_)
      refine ao 43 rfl rfl (st_move (v := .int .i64 b.hi) rfl rfl ?_)
      refine ao 44 rfl rfl (st_cv (vs := [.int .i64 a.lo, .int .i64 b.hi, .bool true]) (r := .tuple #[.int .i64 ((numDiv a.lo b.hi true).1), .bool ((numDiv a.lo b.hi true).2)]) (c_numDiv a.lo b.hi true) Try.func72 rfl (by decide) rfl rfl rfl ?_)
      refine ao 40 rfl rfl (st_move (v := .tuple #[.int .i64 ((numDiv a.lo b.hi true).1), .bool ((numDiv a.lo b.hi true).2)]) rfl rfl ?_)
      refine ao 45 rfl rfl (st_ex (vs := [.int .i64 ((numDiv a.lo b.hi true).1), .bool ((numDiv a.lo b.hi true).2)]) (v := .int .i64 ((numDiv a.lo b.hi true).1)) rfl rfl rfl ?_)
      refine ao 46 rfl rfl (st_ex (vs := [.int .i64 ((numDiv a.lo b.hi true).1), .bool ((numDiv a.lo b.hi true).2)]) (v := .bool ((numDiv a.lo b.hi true).2)) rfl rfl rfl ?_)
      refine ao 15 rfl rfl (st_assign (v := .int .i64 ((numDiv a.lo b.hi true).1)) rfl rfl ?_)
      refine ao 16 rfl rfl (st_assign (v := .bool ((numDiv a.lo b.hi true).2)) rfl rfl ?_)
      refine ar_nil ?_
      refine ac_seq ?_
      refine ac_seq ?_
      refine ac_region_lit ?_
      refine ao 47 rfl rfl (st_move (v := .bool ((numDiv a.lo b.hi false).2)) rfl rfl ?_)
      refine ao 48 rfl rfl (st_un (u := .bool ((numDiv a.lo b.hi false).2)) (v := .bool (!((numDiv a.lo b.hi false).2))) rfl rfl (un_not rfl) ?_)
      refine ao 49 rfl rfl (st_move (v := .bool (!((numDiv a.lo b.hi false).2))) rfl rfl ?_)
      refine bool_split ((numDiv a.lo b.hi false).2) (fun h3 => ?_) (fun h3 => ?_)
      · refine ar_gd (d := (some 50)) (by show ((!((numDiv a.lo b.hi false).2)) == false) = true; rw [h3]; rfl) rfl (st_move (v := .bool ((numDiv a.lo b.hi true).2)) rfl rfl ?_)
        refine ar_gd (d := (some 51)) (by show ((!((numDiv a.lo b.hi false).2)) == false) = true; rw [h3]; rfl) rfl (st_un (u := .bool ((numDiv a.lo b.hi true).2)) (v := .bool (!((numDiv a.lo b.hi true).2))) rfl rfl (un_not rfl) ?_)
        refine ao 52 rfl rfl (st_pkf' (b := !((numDiv a.lo b.hi false).2)) (v := .bool (!((numDiv a.lo b.hi true).2))) (by rw [h3]; rfl) rfl rfl rfl ?_)
        refine ar_nil ?_
        refine bool_split ((numDiv a.lo b.hi true).2) (fun h4 => ?_) (fun h4 => ?_)
        · refine ac_else' (b := !((numDiv a.lo b.hi true).2)) (by rw [h4]; rfl) rfl ?_
          refine ac_skip ?_
          refine ac_seq ?_
          refine ac_seq ?_
          refine ac_region_lit ?_
          refine ao 54 rfl rfl (st_move (v := .bool false) rfl rfl ?_)
          refine ar_nil ?_
          refine ac_else rfl ?_
          refine ac_skip ?_
          refine ac_region_lit ?_
          refine ao 58 rfl rfl (st_fa (g := g3) (off := 0) rfl fa26_0 rfl ?_)
          refine ao 59 rfl rfl (st_ldc (g := g3) (off := 0) (v := .int .i64 ((endsDiv_e1 a b).lo)) cell3 0 rfl rfl rfl rfl rfl ?_)
          refine ao 60 rfl rfl (st_move (v := .int .i64 ((numDiv a.lo b.hi false).1)) rfl rfl ?_)
          refine ao 61 rfl rfl (st_mn (x := ((endsDiv_e1 a b).lo)) (y := ((numDiv a.lo b.hi false).1)) (c := (min ((endsDiv_e1 a b).lo) ((numDiv a.lo b.hi false).1))) rfl rfl rfl ?_)
          refine ao 62 rfl rfl (st_fa (g := g3) (off := 0) rfl fa26_1 rfl ?_)
          refine ao 63 rfl rfl (st_ldc (g := g3) (off := 1) (v := .int .i64 ((endsDiv_e1 a b).hi)) cell3 0 rfl rfl rfl rfl rfl ?_)
          refine ao 64 rfl rfl (st_move (v := .int .i64 ((numDiv a.lo b.hi true).1)) rfl rfl ?_)
          refine ao 65 rfl rfl (st_mx (x := ((endsDiv_e1 a b).hi)) (y := ((numDiv a.lo b.hi true).1)) (c := (max ((endsDiv_e1 a b).hi) ((numDiv a.lo b.hi true).1))) rfl rfl rfl ?_)
          refine ao 66 rfl rfl (st_cf (vs := [.int .i64 (min ((endsDiv_e1 a b).lo) ((numDiv a.lo b.hi false).1)), .int .i64 (max ((endsDiv_e1 a b).hi) ((numDiv a.lo b.hi true).1))]) (r := .agg #[.int .i64 ((endsDiv_e2 a b).lo), .int .i64 ((endsDiv_e2 a b).hi), .bool ((endsDiv_e2 a b).no)]) (c_ivOf (min ((endsDiv_e1 a b).lo) ((numDiv a.lo b.hi false).1)) (max ((endsDiv_e1 a b).hi) ((numDiv a.lo b.hi true).1))) Try.func70 rfl (by decide) rfl rfl rfl ?_)
          refine ar_op (d := none) rfl rfl (st_sta (g := g3) (off := 0) (us := [.int .i64 ((endsDiv_e2 a b).lo), .int .i64 ((endsDiv_e2 a b).hi), .bool ((endsDiv_e2 a b).no)]) (cs := [.int .i64 ((endsDiv_e2 a b).lo), .int .i64 ((endsDiv_e2 a b).hi), .bool ((endsDiv_e2 a b).no)]) agg26 0 rfl rfl rfl rfl rfl rfl rfl rfl rfl ?_)
          refine ar_nil ?_
          refine ac_region_lit ?_
          refine ao 67 rfl rfl (st_bi (u := .int .i64 1) (v := .int .i64 1) (r := .int .i64 2) rfl rfl rfl (bi_add (by decide)) ?_)
          refine ao 30 rfl rfl (st_move (v := .int .i64 2) rfl rfl ?_)
          refine ar_nil ?_
          refine ar_round ?_
          refine ac_seq ?_
          refine ac_region_lit ?_
          refine ao 31 rfl rfl (st_bi (u := .int .i64 2) (v := .int .i64 2) (r := .bool false) rfl rfl rfl (bi_lss (by decide)) ?_)
          refine ar_nil ?_
          refine ac_seq ?_
          refine ac_else rfl ?_
          refine ac_exit ?_
          refine ac_region_lit ?_
          refine ao 68 rfl rfl (st_bi (u := .int .i64 0) (v := .int .i64 1) (r := .int .i64 1) rfl rfl rfl (bi_add (by decide)) ?_)
          refine ao 22 rfl rfl (st_move (v := .int .i64 1) rfl rfl ?_)
          refine ar_nil ?_
          refine ar_round ?_
          refine ac_seq ?_
          refine ac_region_lit ?_
          refine ao 23 rfl rfl (st_bi (u := .int .i64 1) (v := .int .i64 2) (r := .bool true) rfl rfl rfl (bi_lss (by decide)) ?_)
          refine ar_nil ?_
          refine ac_seq ?_
          refine ac_then rfl ?_
          refine ac_skip ?_
          refine ac_seq ?_
          refine ac_block ?_
          refine ac_seq ?_
          refine ac_region_lit ?_
          refine ao 24 rfl rfl (st_ix (u := .agg #[.int .i64 a.lo, .int .i64 a.hi]) (i := .int .i64 1) (v := .int .i64 a.hi) rfl rfl rfl (ix118_1 _ _) ?_)
          refine ao 10 rfl rfl (st_assign (v := .int .i64 a.hi) rfl rfl ?_)
          refine ar_nil ?_
          refine ac_seq ?_
          refine ac_region_lit ?_
          refine ao 25 rfl rfl (st_fa (g := g1) (off := 0) rfl fa26_0 rfl ?_)
          refine ao 26 rfl rfl (st_ldc (g := g1) (off := 0) (v := .int .i64 b.lo) cell3 2 rfl rfl rfl rfl rfl ?_)
          refine ao 27 rfl rfl (st_fa (g := g1) (off := 0) rfl fa26_1 rfl ?_)
          refine ao 28 rfl rfl (st_ldc (g := g1) (off := 1) (v := .int .i64 b.hi) cell3 2 rfl rfl rfl rfl rfl ?_)
          refine ao 29 rfl rfl (st_bd (us := [(0, .int .i64 b.lo), (1, .int .i64 b.hi)]) (v := .agg #[.int .i64 b.lo, .int .i64 b.hi]) rfl rfl (bd118_0_1 _ _) ?_)
          refine ao 30 rfl rfl (st_move (v := .int .i64 0) rfl rfl ?_)
          refine ar_nil ?_
          refine ac_block ?_
          refine ac_rounds 61 ?_
          refine ar_round ?_
          refine ac_seq ?_
          refine ac_region_lit ?_
          refine ao 31 rfl rfl (st_bi (u := .int .i64 0) (v := .int .i64 2) (r := .bool true) rfl rfl rfl (bi_lss (by decide)) ?_)
          refine ar_nil ?_
          refine ac_seq ?_
          refine ac_then rfl ?_
          refine ac_skip ?_
          refine ac_seq ?_
          refine ac_block ?_
          refine ac_seq ?_
          refine ac_region_lit ?_
          refine ao 32 rfl rfl (st_ix (u := .agg #[.int .i64 b.lo, .int .i64 b.hi]) (i := .int .i64 0) (v := .int .i64 b.lo) rfl rfl rfl (ix118_0 _ _) ?_)
          refine ao 12 rfl rfl (st_assign (v := .int .i64 b.lo) rfl rfl ?_)
          refine ar_nil ?_
          refine ac_seq ?_
          refine ac_region_lit ?_
          refine ao 34 rfl rfl (st_move (v := .func (.func 72) #[] #[]) rfl rfl ?_)
          refine ao 35 rfl rfl (st_move (v := .int .i64 a.hi) rfl rfl ?_)
          refine ao 36 rfl rfl (st_move (v := .int .i64 b.lo) rfl rfl ?_)
          refine ao 37 rfl rfl (st_cv (vs := [.int .i64 a.hi, .int .i64 b.lo, .bool false]) (r := .tuple #[.int .i64 ((numDiv a.hi b.lo false).1), .bool ((numDiv a.hi b.lo false).2)]) (c_numDiv a.hi b.lo false) Try.func72 rfl (by decide) rfl rfl rfl ?_)
          refine ao 33 rfl rfl (st_move (v := .tuple #[.int .i64 ((numDiv a.hi b.lo false).1), .bool ((numDiv a.hi b.lo false).2)]) rfl rfl ?_)
          refine ao 38 rfl rfl (st_ex (vs := [.int .i64 ((numDiv a.hi b.lo false).1), .bool ((numDiv a.hi b.lo false).2)]) (v := .int .i64 ((numDiv a.hi b.lo false).1)) rfl rfl rfl ?_)
          refine ao 39 rfl rfl (st_ex (vs := [.int .i64 ((numDiv a.hi b.lo false).1), .bool ((numDiv a.hi b.lo false).2)]) (v := .bool ((numDiv a.hi b.lo false).2)) rfl rfl rfl ?_)
          refine ao 13 rfl rfl (st_assign (v := .int .i64 ((numDiv a.hi b.lo false).1)) rfl rfl ?_)
          refine ao 14 rfl rfl (st_assign (v := .bool ((numDiv a.hi b.lo false).2)) rfl rfl ?_)
          refine ar_nil ?_
          refine ac_seq ?_
          refine ac_region_lit ?_
          refine ao 41 rfl rfl (st_move (v := .func (.func 72) #[] #[]) rfl rfl ?_)
          refine ao 42 rfl rfl (st_move (v := .int .i64 a.hi) rfl rfl ?_)
          refine ao 43 rfl rfl (st_move (v := .int .i64 b.lo) rfl rfl ?_)
          refine ao 44 rfl rfl (st_cv (vs := [.int .i64 a.hi, .int .i64 b.lo, .bool true]) (r := .tuple #[.int .i64 ((numDiv a.hi b.lo true).1), .bool ((numDiv a.hi b.lo true).2)]) (c_numDiv a.hi b.lo true) Try.func72 rfl (by decide) rfl rfl rfl ?_)
          refine ao 40 rfl rfl (st_move (v := .tuple #[.int .i64 ((numDiv a.hi b.lo true).1), .bool ((numDiv a.hi b.lo true).2)]) rfl rfl ?_)
          refine ao 45 rfl rfl (st_ex (vs := [.int .i64 ((numDiv a.hi b.lo true).1), .bool ((numDiv a.hi b.lo true).2)]) (v := .int .i64 ((numDiv a.hi b.lo true).1)) rfl rfl rfl ?_)
          refine ao 46 rfl rfl (st_ex (vs := [.int .i64 ((numDiv a.hi b.lo true).1), .bool ((numDiv a.hi b.lo true).2)]) (v := .bool ((numDiv a.hi b.lo true).2)) rfl rfl rfl ?_)
          refine ao 15 rfl rfl (st_assign (v := .int .i64 ((numDiv a.hi b.lo true).1)) rfl rfl ?_)
          refine ao 16 rfl rfl (st_assign (v := .bool ((numDiv a.hi b.lo true).2)) rfl rfl ?_)
          refine ar_nil ?_
          refine ac_seq ?_
          refine ac_seq ?_
          refine ac_region_lit ?_
          refine ao 47 rfl rfl (st_move (v := .bool ((numDiv a.hi b.lo false).2)) rfl rfl ?_)
          refine ao 48 rfl rfl (st_un (u := .bool ((numDiv a.hi b.lo false).2)) (v := .bool (!((numDiv a.hi b.lo false).2))) rfl rfl (un_not rfl) ?_)
          refine ao 49 rfl rfl (st_move (v := .bool (!((numDiv a.hi b.lo false).2))) rfl rfl ?_)
          refine bool_split ((numDiv a.hi b.lo false).2) (fun h5 => ?_) (fun h5 => ?_)
          · refine ar_gd (d := (some 50)) (by show ((!((numDiv a.hi b.lo false).2)) == false) = true; rw [h5]; rfl) rfl (st_move (v := .bool ((numDiv a.hi b.lo true).2)) rfl rfl ?_)
            refine ar_gd (d := (some 51)) (by show ((!((numDiv a.hi b.lo false).2)) == false) = true; rw [h5]; rfl) rfl (st_un (u := .bool ((numDiv a.hi b.lo true).2)) (v := .bool (!((numDiv a.hi b.lo true).2))) rfl rfl (un_not rfl) ?_)
            refine ao 52 rfl rfl (st_pkf' (b := !((numDiv a.hi b.lo false).2)) (v := .bool (!((numDiv a.hi b.lo true).2))) (by rw [h5]; rfl) rfl rfl rfl ?_)
            refine ar_nil ?_
            refine bool_split ((numDiv a.hi b.lo true).2) (fun h6 => ?_) (fun h6 => ?_)
            · refine ac_else' (b := !((numDiv a.hi b.lo true).2)) (by rw [h6]; rfl) rfl ?_
              refine ac_skip ?_
              refine ac_seq ?_
              refine ac_seq ?_
              refine ac_region_lit ?_
              refine ao 54 rfl rfl (st_move (v := .bool false) rfl rfl ?_)
              refine ar_nil ?_
              refine ac_else rfl ?_
              refine ac_skip ?_
              refine ac_region_lit ?_
              refine ao 58 rfl rfl (st_fa (g := g3) (off := 0) rfl fa26_0 rfl ?_)
              refine ao 59 rfl rfl (st_ldc (g := g3) (off := 0) (v := .int .i64 ((endsDiv_e2 a b).lo)) cell3 0 rfl rfl rfl rfl rfl ?_)
              refine ao 60 rfl rfl (st_move (v := .int .i64 ((numDiv a.hi b.lo false).1)) rfl rfl ?_)
              refine ao 61 rfl rfl (st_mn (x := ((endsDiv_e2 a b).lo)) (y := ((numDiv a.hi b.lo false).1)) (c := (min ((endsDiv_e2 a b).lo) ((numDiv a.hi b.lo false).1))) rfl rfl rfl ?_)
              refine ao 62 rfl rfl (st_fa (g := g3) (off := 0) rfl fa26_1 rfl ?_)
              refine ao 63 rfl rfl (st_ldc (g := g3) (off := 1) (v := .int .i64 ((endsDiv_e2 a b).hi)) cell3 0 rfl rfl rfl rfl rfl ?_)
              refine ao 64 rfl rfl (st_move (v := .int .i64 ((numDiv a.hi b.lo true).1)) rfl rfl ?_)
              refine ao 65 rfl rfl (st_mx (x := ((endsDiv_e2 a b).hi)) (y := ((numDiv a.hi b.lo true).1)) (c := (max ((endsDiv_e2 a b).hi) ((numDiv a.hi b.lo true).1))) rfl rfl rfl ?_)
              refine ao 66 rfl rfl (st_cf (vs := [.int .i64 (min ((endsDiv_e2 a b).lo) ((numDiv a.hi b.lo false).1)), .int .i64 (max ((endsDiv_e2 a b).hi) ((numDiv a.hi b.lo true).1))]) (r := .agg #[.int .i64 ((endsDiv_e3 a b).lo), .int .i64 ((endsDiv_e3 a b).hi), .bool ((endsDiv_e3 a b).no)]) (c_ivOf (min ((endsDiv_e2 a b).lo) ((numDiv a.hi b.lo false).1)) (max ((endsDiv_e2 a b).hi) ((numDiv a.hi b.lo true).1))) Try.func70 rfl (by decide) rfl rfl rfl ?_)
              refine ar_op (d := none) rfl rfl (st_sta (g := g3) (off := 0) (us := [.int .i64 ((endsDiv_e3 a b).lo), .int .i64 ((endsDiv_e3 a b).hi), .bool ((endsDiv_e3 a b).no)]) (cs := [.int .i64 ((endsDiv_e3 a b).lo), .int .i64 ((endsDiv_e3 a b).hi), .bool ((endsDiv_e3 a b).no)]) agg26 0 rfl rfl rfl rfl rfl rfl rfl rfl rfl ?_)
              refine ar_nil ?_
              refine ac_region_lit ?_
              refine ao 67 rfl rfl (st_bi (u := .int .i64 0) (v := .int .i64 1) (r := .int .i64 1) rfl rfl rfl (bi_add (by decide)) ?_)
              refine ao 30 rfl rfl (st_move (v := .int .i64 1) rfl rfl ?_)
              refine ar_nil ?_
              refine ar_round ?_
              refine ac_seq ?_
              refine ac_region_lit ?_
              refine ao 31 rfl rfl (st_bi (u := .int .i64 1) (v := .int .i64 2) (r := .bool true) rfl rfl rfl (bi_lss (by decide)) ?_)
              refine ar_nil ?_
              refine ac_seq ?_
              refine ac_then rfl ?_
              refine ac_skip ?_
              refine ac_seq ?_
              refine ac_block ?_
              refine ac_seq ?_
              refine ac_region_lit ?_
              refine ao 32 rfl rfl (st_ix (u := .agg #[.int .i64 b.lo, .int .i64 b.hi]) (i := .int .i64 1) (v := .int .i64 b.hi) rfl rfl rfl (ix118_1 _ _) ?_)
              refine ao 12 rfl rfl (st_assign (v := .int .i64 b.hi) rfl rfl ?_)
              refine ar_nil ?_
              refine ac_seq ?_
              refine ac_region_lit ?_
              refine ao 34 rfl rfl (st_move (v := .func (.func 72) #[] #[]) rfl rfl ?_)
              refine ao 35 rfl rfl (st_move (v := .int .i64 a.hi) rfl rfl ?_)
              refine ao 36 rfl rfl (st_move (v := .int .i64 b.hi) rfl rfl ?_)
              refine ao 37 rfl rfl (st_cv (vs := [.int .i64 a.hi, .int .i64 b.hi, .bool false]) (r := .tuple #[.int .i64 ((numDiv a.hi b.hi false).1), .bool ((numDiv a.hi b.hi false).2)]) (c_numDiv a.hi b.hi false) Try.func72 rfl (by decide) rfl rfl rfl ?_)
              refine ao 33 rfl rfl (st_move (v := .tuple #[.int .i64 ((numDiv a.hi b.hi false).1), .bool ((numDiv a.hi b.hi false).2)]) rfl rfl ?_)
              refine ao 38 rfl rfl (st_ex (vs := [.int .i64 ((numDiv a.hi b.hi false).1), .bool ((numDiv a.hi b.hi false).2)]) (v := .int .i64 ((numDiv a.hi b.hi false).1)) rfl rfl rfl ?_)
              refine ao 39 rfl rfl (st_ex (vs := [.int .i64 ((numDiv a.hi b.hi false).1), .bool ((numDiv a.hi b.hi false).2)]) (v := .bool ((numDiv a.hi b.hi false).2)) rfl rfl rfl ?_)
              refine ao 13 rfl rfl (st_assign (v := .int .i64 ((numDiv a.hi b.hi false).1)) rfl rfl ?_)
              refine ao 14 rfl rfl (st_assign (v := .bool ((numDiv a.hi b.hi false).2)) rfl rfl ?_)
              refine ar_nil ?_
              refine ac_seq ?_
              refine ac_region_lit ?_
              refine ao 41 rfl rfl (st_move (v := .func (.func 72) #[] #[]) rfl rfl ?_)
              refine ao 42 rfl rfl (st_move (v := .int .i64 a.hi) rfl rfl ?_)
              refine ao 43 rfl rfl (st_move (v := .int .i64 b.hi) rfl rfl ?_)
              refine ao 44 rfl rfl (st_cv (vs := [.int .i64 a.hi, .int .i64 b.hi, .bool true]) (r := .tuple #[.int .i64 ((numDiv a.hi b.hi true).1), .bool ((numDiv a.hi b.hi true).2)]) (c_numDiv a.hi b.hi true) Try.func72 rfl (by decide) rfl rfl rfl ?_)
              refine ao 40 rfl rfl (st_move (v := .tuple #[.int .i64 ((numDiv a.hi b.hi true).1), .bool ((numDiv a.hi b.hi true).2)]) rfl rfl ?_)
              refine ao 45 rfl rfl (st_ex (vs := [.int .i64 ((numDiv a.hi b.hi true).1), .bool ((numDiv a.hi b.hi true).2)]) (v := .int .i64 ((numDiv a.hi b.hi true).1)) rfl rfl rfl ?_)
              refine ao 46 rfl rfl (st_ex (vs := [.int .i64 ((numDiv a.hi b.hi true).1), .bool ((numDiv a.hi b.hi true).2)]) (v := .bool ((numDiv a.hi b.hi true).2)) rfl rfl rfl ?_)
              refine ao 15 rfl rfl (st_assign (v := .int .i64 ((numDiv a.hi b.hi true).1)) rfl rfl ?_)
              refine ao 16 rfl rfl (st_assign (v := .bool ((numDiv a.hi b.hi true).2)) rfl rfl ?_)
              refine ar_nil ?_
              refine ac_seq ?_
              refine ac_seq ?_
              refine ac_region_lit ?_
              refine ao 47 rfl rfl (st_move (v := .bool ((numDiv a.hi b.hi false).2)) rfl rfl ?_)
              refine ao 48 rfl rfl (st_un (u := .bool ((numDiv a.hi b.hi false).2)) (v := .bool (!((numDiv a.hi b.hi false).2))) rfl rfl (un_not rfl) ?_)
              refine ao 49 rfl rfl (st_move (v := .bool (!((numDiv a.hi b.hi false).2))) rfl rfl ?_)
              refine bool_split ((numDiv a.hi b.hi false).2) (fun h7 => ?_) (fun h7 => ?_)
              · refine ar_gd (d := (some 50)) (by show ((!((numDiv a.hi b.hi false).2)) == false) = true; rw [h7]; rfl) rfl (st_move (v := .bool ((numDiv a.hi b.hi true).2)) rfl rfl ?_)
                refine ar_gd (d := (some 51)) (by show ((!((numDiv a.hi b.hi false).2)) == false) = true; rw [h7]; rfl) rfl (st_un (u := .bool ((numDiv a.hi b.hi true).2)) (v := .bool (!((numDiv a.hi b.hi true).2))) rfl rfl (un_not rfl) ?_)
                refine ao 52 rfl rfl (st_pkf' (b := !((numDiv a.hi b.hi false).2)) (v := .bool (!((numDiv a.hi b.hi true).2))) (by rw [h7]; rfl) rfl rfl rfl ?_)
                refine ar_nil ?_
                refine bool_split ((numDiv a.hi b.hi true).2) (fun h8 => ?_) (fun h8 => ?_)
                · refine ac_else' (b := !((numDiv a.hi b.hi true).2)) (by rw [h8]; rfl) rfl ?_
                  refine ac_skip ?_
                  refine ac_seq ?_
                  refine ac_seq ?_
                  refine ac_region_lit ?_
                  refine ao 54 rfl rfl (st_move (v := .bool false) rfl rfl ?_)
                  refine ar_nil ?_
                  refine ac_else rfl ?_
                  refine ac_skip ?_
                  refine ac_region_lit ?_
                  refine ao 58 rfl rfl (st_fa (g := g3) (off := 0) rfl fa26_0 rfl ?_)
                  refine ao 59 rfl rfl (st_ldc (g := g3) (off := 0) (v := .int .i64 ((endsDiv_e3 a b).lo)) cell3 0 rfl rfl rfl rfl rfl ?_)
                  refine ao 60 rfl rfl (st_move (v := .int .i64 ((numDiv a.hi b.hi false).1)) rfl rfl ?_)
                  refine ao 61 rfl rfl (st_mn (x := ((endsDiv_e3 a b).lo)) (y := ((numDiv a.hi b.hi false).1)) (c := (min ((endsDiv_e3 a b).lo) ((numDiv a.hi b.hi false).1))) rfl rfl rfl ?_)
                  refine ao 62 rfl rfl (st_fa (g := g3) (off := 0) rfl fa26_1 rfl ?_)
                  refine ao 63 rfl rfl (st_ldc (g := g3) (off := 1) (v := .int .i64 ((endsDiv_e3 a b).hi)) cell3 0 rfl rfl rfl rfl rfl ?_)
                  refine ao 64 rfl rfl (st_move (v := .int .i64 ((numDiv a.hi b.hi true).1)) rfl rfl ?_)
                  refine ao 65 rfl rfl (st_mx (x := ((endsDiv_e3 a b).hi)) (y := ((numDiv a.hi b.hi true).1)) (c := (max ((endsDiv_e3 a b).hi) ((numDiv a.hi b.hi true).1))) rfl rfl rfl ?_)
                  refine ao 66 rfl rfl (st_cf (vs := [.int .i64 (min ((endsDiv_e3 a b).lo) ((numDiv a.hi b.hi false).1)), .int .i64 (max ((endsDiv_e3 a b).hi) ((numDiv a.hi b.hi true).1))]) (r := .agg #[.int .i64 ((endsDiv_e4 a b).lo), .int .i64 ((endsDiv_e4 a b).hi), .bool ((endsDiv_e4 a b).no)]) (c_ivOf (min ((endsDiv_e3 a b).lo) ((numDiv a.hi b.hi false).1)) (max ((endsDiv_e3 a b).hi) ((numDiv a.hi b.hi true).1))) Try.func70 rfl (by decide) rfl rfl rfl ?_)
                  refine ar_op (d := none) rfl rfl (st_sta (g := g3) (off := 0) (us := [.int .i64 ((endsDiv_e4 a b).lo), .int .i64 ((endsDiv_e4 a b).hi), .bool ((endsDiv_e4 a b).no)]) (cs := [.int .i64 ((endsDiv_e4 a b).lo), .int .i64 ((endsDiv_e4 a b).hi), .bool ((endsDiv_e4 a b).no)]) agg26 0 rfl rfl rfl rfl rfl rfl rfl rfl rfl ?_)
                  refine ar_nil ?_
                  refine ac_region_lit ?_
                  refine ao 67 rfl rfl (st_bi (u := .int .i64 1) (v := .int .i64 1) (r := .int .i64 2) rfl rfl rfl (bi_add (by decide)) ?_)
                  refine ao 30 rfl rfl (st_move (v := .int .i64 2) rfl rfl ?_)
                  refine ar_nil ?_
                  refine ar_round ?_
                  refine ac_seq ?_
                  refine ac_region_lit ?_
                  refine ao 31 rfl rfl (st_bi (u := .int .i64 2) (v := .int .i64 2) (r := .bool false) rfl rfl rfl (bi_lss (by decide)) ?_)
                  refine ar_nil ?_
                  refine ac_seq ?_
                  refine ac_else rfl ?_
                  refine ac_exit ?_
                  refine ac_region_lit ?_
                  refine ao 68 rfl rfl (st_bi (u := .int .i64 1) (v := .int .i64 1) (r := .int .i64 2) rfl rfl rfl (bi_add (by decide)) ?_)
                  refine ao 22 rfl rfl (st_move (v := .int .i64 2) rfl rfl ?_)
                  refine ar_nil ?_
                  refine ar_round ?_
                  refine ac_seq ?_
                  refine ac_region_lit ?_
                  refine ao 23 rfl rfl (st_bi (u := .int .i64 2) (v := .int .i64 2) (r := .bool false) rfl rfl rfl (bi_lss (by decide)) ?_)
                  refine ar_nil ?_
                  refine ac_seq ?_
                  refine ac_else rfl ?_
                  refine ac_exit ?_
                  refine ac_seq ?_
                  refine ac_region_lit ?_
                  refine ao 69 rfl rfl (st_lda (g := g3) (off := 0) (vs := [.int .i64 ((endsDiv_e4 a b).lo), .int .i64 ((endsDiv_e4 a b).hi), .bool ((endsDiv_e4 a b).no)]) agg26 0 rfl rfl rfl rfl rfl rfl ?_)
                  refine ar_op (d := none) rfl rfl (st_sta (g := g2) (off := 0) (us := [.int .i64 ((endsDiv_e4 a b).lo), .int .i64 ((endsDiv_e4 a b).hi), .bool ((endsDiv_e4 a b).no)]) (cs := [.int .i64 ((endsDiv_e4 a b).lo), .int .i64 ((endsDiv_e4 a b).hi), .bool ((endsDiv_e4 a b).no)]) agg26 1 rfl rfl rfl rfl rfl rfl rfl rfl rfl ?_)
                  refine ar_nil ?_
                  refine ac_ret ?_
                  exact fin_eq (v := .agg #[.int .i64 ((endsDiv_e4 a b).lo), .int .i64 ((endsDiv_e4 a b).hi), .bool ((endsDiv_e4 a b).no)]) (by show _ = Iv.v (endsDiv a b); rw [endsDiv, h8, h7, h6, h5, h4, h3, h2, h1] <;> rfl) (fin_ret (res_c (vs := [.int .i64 ((endsDiv_e4 a b).lo), .int .i64 ((endsDiv_e4 a b).hi), .bool ((endsDiv_e4 a b).no)]) agg26 1 rfl rfl rfl rfl rfl rfl))
                · refine ac_then' (b := !((numDiv a.hi b.hi true).2)) (by rw [h8]; rfl) rfl ?_
                  refine ac_seq ?_
                  refine ac_region_lit ?_
                  refine ao 53 rfl rfl (st_cf (vs := []) (r := .agg #[.int .i64 ivNone.lo, .int .i64 ivNone.hi, .bool ivNone.no]) c_ivNone Try.func28 rfl (by decide) rfl rfl rfl ?_)
                  refine ar_op (d := none) rfl rfl (st_sta (g := g2) (off := 0) (us := [.int .i64 ivNone.lo, .int .i64 ivNone.hi, .bool ivNone.no]) (cs := [.int .i64 ivNone.lo, .int .i64 ivNone.hi, .bool ivNone.no]) agg26 1 rfl rfl rfl rfl rfl rfl rfl rfl rfl ?_)
                  refine ar_nil ?_
                  refine ac_ret ?_
                  exact fin_eq (v := .agg #[.int .i64 ivNone.lo, .int .i64 ivNone.hi, .bool ivNone.no]) (by show _ = Iv.v (endsDiv a b); rw [endsDiv, h8, h7, h6, h5, h4, h3, h2, h1] <;> rfl) (fin_ret (res_c (vs := [.int .i64 ivNone.lo, .int .i64 ivNone.hi, .bool ivNone.no]) agg26 1 rfl rfl rfl rfl rfl rfl))
              · refine ar_sk (d := (some 50)) (by show ((!((numDiv a.hi b.hi false).2)) == false) = false; rw [h7]; rfl) rfl ?_
                refine ar_sk (d := (some 51)) (by show ((!((numDiv a.hi b.hi false).2)) == false) = false; rw [h7]; rfl) rfl ?_
                refine ao 52 rfl rfl (st_pkt' (b := !((numDiv a.hi b.hi false).2)) (v := .bool true) (by rw [h7]; rfl) rfl rfl rfl ?_)
                refine ar_nil ?_
                refine ac_then rfl ?_
                refine ac_seq ?_
                refine ac_region_lit ?_
                refine ao 53 rfl rfl (st_cf (vs := []) (r := .agg #[.int .i64 ivNone.lo, .int .i64 ivNone.hi, .bool ivNone.no]) c_ivNone Try.func28 rfl (by decide) rfl rfl rfl ?_)
                refine ar_op (d := none) rfl rfl (st_sta (g := g2) (off := 0) (us := [.int .i64 ivNone.lo, .int .i64 ivNone.hi, .bool ivNone.no]) (cs := [.int .i64 ivNone.lo, .int .i64 ivNone.hi, .bool ivNone.no]) agg26 1 rfl rfl rfl rfl rfl rfl rfl rfl rfl ?_)
                refine ar_nil ?_
                refine ac_ret ?_
                exact fin_eq (v := .agg #[.int .i64 ivNone.lo, .int .i64 ivNone.hi, .bool ivNone.no]) (by show _ = Iv.v (endsDiv a b); rw [endsDiv, h7, h6, h5, h4, h3, h2, h1] <;> rfl) (fin_ret (res_c (vs := [.int .i64 ivNone.lo, .int .i64 ivNone.hi, .bool ivNone.no]) agg26 1 rfl rfl rfl rfl rfl rfl))
            · refine ac_then' (b := !((numDiv a.hi b.lo true).2)) (by rw [h6]; rfl) rfl ?_
              refine ac_seq ?_
              refine ac_region_lit ?_
              refine ao 53 rfl rfl (st_cf (vs := []) (r := .agg #[.int .i64 ivNone.lo, .int .i64 ivNone.hi, .bool ivNone.no]) c_ivNone Try.func28 rfl (by decide) rfl rfl rfl ?_)
              refine ar_op (d := none) rfl rfl (st_sta (g := g2) (off := 0) (us := [.int .i64 ivNone.lo, .int .i64 ivNone.hi, .bool ivNone.no]) (cs := [.int .i64 ivNone.lo, .int .i64 ivNone.hi, .bool ivNone.no]) agg26 1 rfl rfl rfl rfl rfl rfl rfl rfl rfl ?_)
              refine ar_nil ?_
              refine ac_ret ?_
              exact fin_eq (v := .agg #[.int .i64 ivNone.lo, .int .i64 ivNone.hi, .bool ivNone.no]) (by show _ = Iv.v (endsDiv a b); rw [endsDiv, h6, h5, h4, h3, h2, h1] <;> rfl) (fin_ret (res_c (vs := [.int .i64 ivNone.lo, .int .i64 ivNone.hi, .bool ivNone.no]) agg26 1 rfl rfl rfl rfl rfl rfl))
          · refine ar_sk (d := (some 50)) (by show ((!((numDiv a.hi b.lo false).2)) == false) = false; rw [h5]; rfl) rfl ?_
            refine ar_sk (d := (some 51)) (by show ((!((numDiv a.hi b.lo false).2)) == false) = false; rw [h5]; rfl) rfl ?_
            refine ao 52 rfl rfl (st_pkt' (b := !((numDiv a.hi b.lo false).2)) (v := .bool true) (by rw [h5]; rfl) rfl rfl rfl ?_)
            refine ar_nil ?_
            refine ac_then rfl ?_
            refine ac_seq ?_
            refine ac_region_lit ?_
            refine ao 53 rfl rfl (st_cf (vs := []) (r := .agg #[.int .i64 ivNone.lo, .int .i64 ivNone.hi, .bool ivNone.no]) c_ivNone Try.func28 rfl (by decide) rfl rfl rfl ?_)
            refine ar_op (d := none) rfl rfl (st_sta (g := g2) (off := 0) (us := [.int .i64 ivNone.lo, .int .i64 ivNone.hi, .bool ivNone.no]) (cs := [.int .i64 ivNone.lo, .int .i64 ivNone.hi, .bool ivNone.no]) agg26 1 rfl rfl rfl rfl rfl rfl rfl rfl rfl ?_)
            refine ar_nil ?_
            refine ac_ret ?_
            exact fin_eq (v := .agg #[.int .i64 ivNone.lo, .int .i64 ivNone.hi, .bool ivNone.no]) (by show _ = Iv.v (endsDiv a b); rw [endsDiv, h5, h4, h3, h2, h1] <;> rfl) (fin_ret (res_c (vs := [.int .i64 ivNone.lo, .int .i64 ivNone.hi, .bool ivNone.no]) agg26 1 rfl rfl rfl rfl rfl rfl))
        · refine ac_then' (b := !((numDiv a.lo b.hi true).2)) (by rw [h4]; rfl) rfl ?_
          refine ac_seq ?_
          refine ac_region_lit ?_
          refine ao 53 rfl rfl (st_cf (vs := []) (r := .agg #[.int .i64 ivNone.lo, .int .i64 ivNone.hi, .bool ivNone.no]) c_ivNone Try.func28 rfl (by decide) rfl rfl rfl ?_)
          refine ar_op (d := none) rfl rfl (st_sta (g := g2) (off := 0) (us := [.int .i64 ivNone.lo, .int .i64 ivNone.hi, .bool ivNone.no]) (cs := [.int .i64 ivNone.lo, .int .i64 ivNone.hi, .bool ivNone.no]) agg26 1 rfl rfl rfl rfl rfl rfl rfl rfl rfl ?_)
          refine ar_nil ?_
          refine ac_ret ?_
          exact fin_eq (v := .agg #[.int .i64 ivNone.lo, .int .i64 ivNone.hi, .bool ivNone.no]) (by show _ = Iv.v (endsDiv a b); rw [endsDiv, h4, h3, h2, h1] <;> rfl) (fin_ret (res_c (vs := [.int .i64 ivNone.lo, .int .i64 ivNone.hi, .bool ivNone.no]) agg26 1 rfl rfl rfl rfl rfl rfl))
      · refine ar_sk (d := (some 50)) (by show ((!((numDiv a.lo b.hi false).2)) == false) = false; rw [h3]; rfl) rfl ?_
        refine ar_sk (d := (some 51)) (by show ((!((numDiv a.lo b.hi false).2)) == false) = false; rw [h3]; rfl) rfl ?_
        refine ao 52 rfl rfl (st_pkt' (b := !((numDiv a.lo b.hi false).2)) (v := .bool true) (by rw [h3]; rfl) rfl rfl rfl ?_)
        refine ar_nil ?_
        refine ac_then rfl ?_
        refine ac_seq ?_
        refine ac_region_lit ?_
        refine ao 53 rfl rfl (st_cf (vs := []) (r := .agg #[.int .i64 ivNone.lo, .int .i64 ivNone.hi, .bool ivNone.no]) c_ivNone Try.func28 rfl (by decide) rfl rfl rfl ?_)
        refine ar_op (d := none) rfl rfl (st_sta (g := g2) (off := 0) (us := [.int .i64 ivNone.lo, .int .i64 ivNone.hi, .bool ivNone.no]) (cs := [.int .i64 ivNone.lo, .int .i64 ivNone.hi, .bool ivNone.no]) agg26 1 rfl rfl rfl rfl rfl rfl rfl rfl rfl ?_)
        refine ar_nil ?_
        refine ac_ret ?_
        exact fin_eq (v := .agg #[.int .i64 ivNone.lo, .int .i64 ivNone.hi, .bool ivNone.no]) (by show _ = Iv.v (endsDiv a b); rw [endsDiv, h3, h2, h1] <;> rfl) (fin_ret (res_c (vs := [.int .i64 ivNone.lo, .int .i64 ivNone.hi, .bool ivNone.no]) agg26 1 rfl rfl rfl rfl rfl rfl))
    · refine ac_then' (b := !((numDiv a.lo b.lo true).2)) (by rw [h2]; rfl) rfl ?_
      refine ac_seq ?_
      refine ac_region_lit ?_
      refine ao 53 rfl rfl (st_cf (vs := []) (r := .agg #[.int .i64 ivNone.lo, .int .i64 ivNone.hi, .bool ivNone.no]) c_ivNone Try.func28 rfl (by decide) rfl rfl rfl ?_)
      refine ar_op (d := none) rfl rfl (st_sta (g := g2) (off := 0) (us := [.int .i64 ivNone.lo, .int .i64 ivNone.hi, .bool ivNone.no]) (cs := [.int .i64 ivNone.lo, .int .i64 ivNone.hi, .bool ivNone.no]) agg26 1 rfl rfl rfl rfl rfl rfl rfl rfl rfl ?_)
      refine ar_nil ?_
      refine ac_ret ?_
      exact fin_eq (v := .agg #[.int .i64 ivNone.lo, .int .i64 ivNone.hi, .bool ivNone.no]) (by show _ = Iv.v (endsDiv a b); rw [endsDiv, h2, h1] <;> rfl) (fin_ret (res_c (vs := [.int .i64 ivNone.lo, .int .i64 ivNone.hi, .bool ivNone.no]) agg26 1 rfl rfl rfl rfl rfl rfl))
  · refine ar_sk (d := (some 50)) (by show ((!((numDiv a.lo b.lo false).2)) == false) = false; rw [h1]; rfl) rfl ?_
    refine ar_sk (d := (some 51)) (by show ((!((numDiv a.lo b.lo false).2)) == false) = false; rw [h1]; rfl) rfl ?_
    refine ao 52 rfl rfl (st_pkt' (b := !((numDiv a.lo b.lo false).2)) (v := .bool true) (by rw [h1]; rfl) rfl rfl rfl ?_)
    refine ar_nil ?_
    refine ac_then rfl ?_
    refine ac_seq ?_
    refine ac_region_lit ?_
    refine ao 53 rfl rfl (st_cf (vs := []) (r := .agg #[.int .i64 ivNone.lo, .int .i64 ivNone.hi, .bool ivNone.no]) c_ivNone Try.func28 rfl (by decide) rfl rfl rfl ?_)
    refine ar_op (d := none) rfl rfl (st_sta (g := g2) (off := 0) (us := [.int .i64 ivNone.lo, .int .i64 ivNone.hi, .bool ivNone.no]) (cs := [.int .i64 ivNone.lo, .int .i64 ivNone.hi, .bool ivNone.no]) agg26 1 rfl rfl rfl rfl rfl rfl rfl rfl rfl ?_)
    refine ar_nil ?_
    refine ac_ret ?_
    exact fin_eq (v := .agg #[.int .i64 ivNone.lo, .int .i64 ivNone.hi, .bool ivNone.no]) (by show _ = Iv.v (endsDiv a b); rw [endsDiv, h1] <;> rfl) (fin_ret (res_c (vs := [.int .i64 ivNone.lo, .int .i64 ivNone.hi, .bool ivNone.no]) agg26 1 rfl rfl rfl rfl rfl rfl))
def ivDiv (a : Iv) (b : Iv) : Iv := (bif ivBoth a b then (bif ivHas b 0 then ivNone else (endsDiv a b)) else ivNone)
set_option maxRecDepth 100000 in
theorem c_ivDiv (a : Iv) (b : Iv) : Gets Try.prog 33 #[.agg #[.int .i64 a.lo, .int .i64 a.hi, .bool a.no], .agg #[.int .i64 b.lo, .int .i64 b.hi, .bool b.no]] (Iv.v (ivDiv a b)) := by
  refine gets_fin Try.func33 rfl rfl rfl ?_
  refine ac_seq ?_
  refine ac_region_lit ?_
  refine ao 2 rfl rfl (st_box (v := .agg #[.int .i64 a.lo, .int .i64 a.hi, .bool a.no]) (cs := [.int .i64 a.lo, .int .i64 a.hi, .bool a.no]) rfl rfl rfl fun g0 => ?_)
  refine ao 3 rfl rfl (st_box (v := .agg #[.int .i64 b.lo, .int .i64 b.hi, .bool b.no]) (cs := [.int .i64 b.lo, .int .i64 b.hi, .bool b.no]) rfl rfl rfl fun g1 => ?_)
  refine ao 4 rfl rfl (st_new zero26 rfl fun g2 => ?_)
  refine ar_nil ?_
  refine ac_seq ?_
  refine ac_seq ?_
  refine ac_region_lit ?_
  refine ao 5 rfl rfl (st_lda (g := g0) (off := 0) (vs := [.int .i64 a.lo, .int .i64 a.hi, .bool a.no]) agg26 2 rfl rfl rfl rfl rfl rfl ?_)
  refine ao 6 rfl rfl (st_lda (g := g1) (off := 0) (vs := [.int .i64 b.lo, .int .i64 b.hi, .bool b.no]) agg26 1 rfl rfl rfl rfl rfl rfl ?_)
  refine ao 7 rfl rfl (st_cf (vs := [.agg #[.int .i64 a.lo, .int .i64 a.hi, .bool a.no], .agg #[.int .i64 b.lo, .int .i64 b.hi, .bool b.no]]) (r := .bool (ivBoth a b)) (c_ivBoth a b) Try.func69 rfl (by decide) rfl rfl rfl ?_)
  refine ao 8 rfl rfl (st_un (u := .bool (ivBoth a b)) (v := .bool (!(ivBoth a b))) rfl rfl (un_not rfl) ?_)
  refine ao 9 rfl rfl (st_move (v := .bool (!(ivBoth a b))) rfl rfl ?_)
  refine bool_split (ivBoth a b) (fun h1 => ?_) (fun h1 => ?_)
  · refine ar_gd (d := (some 10)) (by show ((!(ivBoth a b)) == false) = true; rw [h1]; rfl) rfl (st_lda (g := g1) (off := 0) (vs := [.int .i64 b.lo, .int .i64 b.hi, .bool b.no]) agg26 1 rfl rfl rfl rfl rfl rfl ?_)
    refine ar_gd (d := (some 11)) (by show ((!(ivBoth a b)) == false) = true; rw [h1]; rfl) rfl (st_cf (vs := [.agg #[.int .i64 b.lo, .int .i64 b.hi, .bool b.no], .int .i64 0]) (r := .bool (ivHas b 0)) (c_ivHas b 0) Try.func24 rfl (by decide) rfl rfl rfl ?_)
    refine ao 12 rfl rfl (st_pkf' (b := !(ivBoth a b)) (v := .bool (ivHas b 0)) (by rw [h1]; rfl) rfl rfl rfl ?_)
    refine ar_nil ?_
    refine bool_split (ivHas b 0) (fun h2 => ?_) (fun h2 => ?_)
    · refine ac_then' (b := ivHas b 0) h2 rfl ?_
      refine ac_seq ?_
      refine ac_region_lit ?_
      refine ao 13 rfl rfl (st_cf (vs := []) (r := .agg #[.int .i64 ivNone.lo, .int .i64 ivNone.hi, .bool ivNone.no]) c_ivNone Try.func28 rfl (by decide) rfl rfl rfl ?_)
      refine ar_op (d := none) rfl rfl (st_sta (g := g2) (off := 0) (us := [.int .i64 ivNone.lo, .int .i64 ivNone.hi, .bool ivNone.no]) (cs := [.int .i64 ivNone.lo, .int .i64 ivNone.hi, .bool ivNone.no]) agg26 0 rfl rfl rfl rfl rfl rfl rfl rfl rfl ?_)
      refine ar_nil ?_
      refine ac_ret ?_
      exact fin_eq (v := .agg #[.int .i64 ivNone.lo, .int .i64 ivNone.hi, .bool ivNone.no]) (by show _ = Iv.v (ivDiv a b); rw [ivDiv, h2, h1] <;> rfl) (fin_ret (res_c (vs := [.int .i64 ivNone.lo, .int .i64 ivNone.hi, .bool ivNone.no]) agg26 0 rfl rfl rfl rfl rfl rfl))
    · refine ac_else' (b := ivHas b 0) h2 rfl ?_
      refine ac_skip ?_
      refine ac_seq ?_
      refine ac_region_lit ?_
      refine ao 14 rfl rfl (st_lda (g := g0) (off := 0) (vs := [.int .i64 a.lo, .int .i64 a.hi, .bool a.no]) agg26 2 rfl rfl rfl rfl rfl rfl ?_)
      refine ao 15 rfl rfl (st_lda (g := g1) (off := 0) (vs := [.int .i64 b.lo, .int .i64 b.hi, .bool b.no]) agg26 1 rfl rfl rfl rfl rfl rfl ?_)
      refine ao 16 rfl rfl (st_cf (vs := [.func (.func 72) #[] #[], .agg #[.int .i64 a.lo, .int .i64 a.hi, .bool a.no], .agg #[.int .i64 b.lo, .int .i64 b.hi, .bool b.no]]) (r := .agg #[.int .i64 ((endsDiv a b).lo), .int .i64 ((endsDiv a b).hi), .bool ((endsDiv a b).no)]) (c_endsDiv a b) Try.func71 rfl (by decide) rfl rfl rfl ?_)
      refine ar_op (d := none) rfl rfl (st_sta (g := g2) (off := 0) (us := [.int .i64 ((endsDiv a b).lo), .int .i64 ((endsDiv a b).hi), .bool ((endsDiv a b).no)]) (cs := [.int .i64 ((endsDiv a b).lo), .int .i64 ((endsDiv a b).hi), .bool ((endsDiv a b).no)]) agg26 0 rfl rfl rfl rfl rfl rfl rfl rfl rfl ?_)
      refine ar_nil ?_
      refine ac_ret ?_
      exact fin_eq (v := .agg #[.int .i64 ((endsDiv a b).lo), .int .i64 ((endsDiv a b).hi), .bool ((endsDiv a b).no)]) (by show _ = Iv.v (ivDiv a b); rw [ivDiv, h2, h1] <;> rfl) (fin_ret (res_c (vs := [.int .i64 ((endsDiv a b).lo), .int .i64 ((endsDiv a b).hi), .bool ((endsDiv a b).no)]) agg26 0 rfl rfl rfl rfl rfl rfl))
  · refine ar_sk (d := (some 10)) (by show ((!(ivBoth a b)) == false) = false; rw [h1]; rfl) rfl ?_
    refine ar_sk (d := (some 11)) (by show ((!(ivBoth a b)) == false) = false; rw [h1]; rfl) rfl ?_
    refine ao 12 rfl rfl (st_pkt' (b := !(ivBoth a b)) (v := .bool true) (by rw [h1]; rfl) rfl rfl rfl ?_)
    refine ar_nil ?_
    refine ac_then rfl ?_
    refine ac_seq ?_
    refine ac_region_lit ?_
    refine ao 13 rfl rfl (st_cf (vs := []) (r := .agg #[.int .i64 ivNone.lo, .int .i64 ivNone.hi, .bool ivNone.no]) c_ivNone Try.func28 rfl (by decide) rfl rfl rfl ?_)
    refine ar_op (d := none) rfl rfl (st_sta (g := g2) (off := 0) (us := [.int .i64 ivNone.lo, .int .i64 ivNone.hi, .bool ivNone.no]) (cs := [.int .i64 ivNone.lo, .int .i64 ivNone.hi, .bool ivNone.no]) agg26 0 rfl rfl rfl rfl rfl rfl rfl rfl rfl ?_)
    refine ar_nil ?_
    refine ac_ret ?_
    exact fin_eq (v := .agg #[.int .i64 ivNone.lo, .int .i64 ivNone.hi, .bool ivNone.no]) (by show _ = Iv.v (ivDiv a b); rw [ivDiv, h1] <;> rfl) (fin_ret (res_c (vs := [.int .i64 ivNone.lo, .int .i64 ivNone.hi, .bool ivNone.no]) agg26 0 rfl rfl rfl rfl rfl rfl))
def ivRoot (a : Iv) : Iv := (bif ivRight a then (bif decide (a.lo < 0) then ivNone else (ivOf ((numRoot a.lo false).1) ((numRoot a.hi true).1))) else ivNone)
set_option maxRecDepth 100000 in
theorem c_ivRoot (a : Iv) : Gets Try.prog 102 #[.agg #[.int .i64 a.lo, .int .i64 a.hi, .bool a.no]] (Iv.v (ivRoot a)) := by
  refine gets_fin Try.func102 rfl rfl rfl ?_
  refine ac_seq ?_
  refine ac_region_lit ?_
  refine ao 1 rfl rfl (st_box (v := .agg #[.int .i64 a.lo, .int .i64 a.hi, .bool a.no]) (cs := [.int .i64 a.lo, .int .i64 a.hi, .bool a.no]) rfl rfl rfl fun g0 => ?_)
  refine ao 2 rfl rfl (st_new zero26 rfl fun g1 => ?_)
  refine ar_nil ?_
  refine ac_seq ?_
  refine ac_seq ?_
  refine ac_region_lit ?_
  refine ao 7 rfl rfl (st_lda (g := g0) (off := 0) (vs := [.int .i64 a.lo, .int .i64 a.hi, .bool a.no]) agg26 1 rfl rfl rfl rfl rfl rfl ?_)
  refine ao 8 rfl rfl (st_cf (vs := [.agg #[.int .i64 a.lo, .int .i64 a.hi, .bool a.no]]) (r := .bool (ivRight a)) (c_ivRight a) Try.func25 rfl (by decide) rfl rfl rfl ?_)
  refine ao 9 rfl rfl (st_un (u := .bool (ivRight a)) (v := .bool (!(ivRight a))) rfl rfl (un_not rfl) ?_)
  refine ao 10 rfl rfl (st_move (v := .bool (!(ivRight a))) rfl rfl ?_)
  refine bool_split (ivRight a) (fun h1 => ?_) (fun h1 => ?_)
  · refine ar_gd (d := (some 11)) (by show ((!(ivRight a)) == false) = true; rw [h1]; rfl) rfl (st_fa (g := g0) (off := 0) rfl fa26_0 rfl ?_)
    refine ar_gd (d := (some 12)) (by show ((!(ivRight a)) == false) = true; rw [h1]; rfl) rfl (st_ldc (g := g0) (off := 0) (v := .int .i64 a.lo) cell3 1 rfl rfl rfl rfl rfl ?_)
    refine ar_gd (d := (some 13)) (by show ((!(ivRight a)) == false) = true; rw [h1]; rfl) rfl (st_bi (u := .int .i64 a.lo) (v := .int .i64 0) (r := .bool (decide (a.lo < 0))) rfl rfl rfl (bi_lss rfl) ?_)
    refine ao 14 rfl rfl (st_pkf' (b := !(ivRight a)) (v := .bool (decide (a.lo < 0))) (by rw [h1]; rfl) rfl rfl rfl ?_)
    refine ar_nil ?_
    refine bool_split (decide (a.lo < 0)) (fun h2 => ?_) (fun h2 => ?_)
    · refine ac_then' (b := decide (a.lo < 0)) h2 rfl ?_
      refine ac_seq ?_
      refine ac_region_lit ?_
      refine ao 15 rfl rfl (st_cf (vs := []) (r := .agg #[.int .i64 ivNone.lo, .int .i64 ivNone.hi, .bool ivNone.no]) c_ivNone Try.func28 rfl (by decide) rfl rfl rfl ?_)
      refine ar_op (d := none) rfl rfl (st_sta (g := g1) (off := 0) (us := [.int .i64 ivNone.lo, .int .i64 ivNone.hi, .bool ivNone.no]) (cs := [.int .i64 ivNone.lo, .int .i64 ivNone.hi, .bool ivNone.no]) agg26 0 rfl rfl rfl rfl rfl rfl rfl rfl rfl ?_)
      refine ar_nil ?_
      refine ac_ret ?_
      exact fin_eq (v := .agg #[.int .i64 ivNone.lo, .int .i64 ivNone.hi, .bool ivNone.no]) (by show _ = Iv.v (ivRoot a); rw [ivRoot, h2, h1] <;> rfl) (fin_ret (res_c (vs := [.int .i64 ivNone.lo, .int .i64 ivNone.hi, .bool ivNone.no]) agg26 0 rfl rfl rfl rfl rfl rfl))
    · refine ac_else' (b := decide (a.lo < 0)) h2 rfl ?_
      refine ac_skip ?_
      refine ac_seq ?_
      refine ac_region_lit ?_
      refine ao 17 rfl rfl (st_fa (g := g0) (off := 0) rfl fa26_0 rfl ?_)
      refine ao 18 rfl rfl (st_ldc (g := g0) (off := 0) (v := .int .i64 a.lo) cell3 1 rfl rfl rfl rfl rfl ?_)
      refine ao 19 rfl rfl (st_cf (vs := [.int .i64 a.lo, .bool false]) (r := .tuple #[.int .i64 ((numRoot a.lo false).1), .bool ((numRoot a.lo false).2)]) (c_numRoot a.lo false) Try.func122 rfl (by decide) rfl rfl rfl ?_)
      refine ao 16 rfl rfl (st_move (v := .tuple #[.int .i64 ((numRoot a.lo false).1), .bool ((numRoot a.lo false).2)]) rfl rfl ?_)
      refine ao 20 rfl rfl (st_ex (vs := [.int .i64 ((numRoot a.lo false).1), .bool ((numRoot a.lo false).2)]) (v := .int .i64 ((numRoot a.lo false).1)) rfl rfl rfl ?_)
      refine ao 21 rfl rfl (st_ex (vs := [.int .i64 ((numRoot a.lo false).1), .bool ((numRoot a.lo false).2)]) (v := .bool ((numRoot a.lo false).2)) rfl rfl rfl ?_)
      refine ao 3 rfl rfl (st_assign (v := .int .i64 ((numRoot a.lo false).1)) rfl rfl ?_)
      refine ao 4 rfl rfl (st_assign (v := .bool ((numRoot a.lo false).2)) rfl rfl ?_)
      refine ar_nil ?_
      refine ac_seq ?_
      refine ac_region_lit ?_
      refine ao 23 rfl rfl (st_fa (g := g0) (off := 0) rfl fa26_1 rfl ?_)
      refine ao 24 rfl rfl (st_ldc (g := g0) (off := 1) (v := .int .i64 a.hi) cell3 1 rfl rfl rfl rfl rfl ?_)
      refine ao 25 rfl rfl (st_cf (vs := [.int .i64 a.hi, .bool true]) (r := .tuple #[.int .i64 ((numRoot a.hi true).1), .bool ((numRoot a.hi true).2)]) (c_numRoot a.hi true) Try.func122 rfl (by decide) rfl rfl rfl ?_)
      refine ao 22 rfl rfl (st_move (v := .tuple #[.int .i64 ((numRoot a.hi true).1), .bool ((numRoot a.hi true).2)]) rfl rfl ?_)
      refine ao 26 rfl rfl (st_ex (vs := [.int .i64 ((numRoot a.hi true).1), .bool ((numRoot a.hi true).2)]) (v := .int .i64 ((numRoot a.hi true).1)) rfl rfl rfl ?_)
      refine ao 27 rfl rfl (st_ex (vs := [.int .i64 ((numRoot a.hi true).1), .bool ((numRoot a.hi true).2)]) (v := .bool ((numRoot a.hi true).2)) rfl rfl rfl ?_)
      refine ao 5 rfl rfl (st_assign (v := .int .i64 ((numRoot a.hi true).1)) rfl rfl ?_)
      refine ao 6 rfl rfl (st_assign (v := .bool ((numRoot a.hi true).2)) rfl rfl ?_)
      refine ar_nil ?_
      refine ac_seq ?_
      refine ac_region_lit ?_
      refine ao 28 rfl rfl (st_move (v := .int .i64 ((numRoot a.lo false).1)) rfl rfl ?_)
      refine ao 29 rfl rfl (st_move (v := .int .i64 ((numRoot a.hi true).1)) rfl rfl ?_)
      refine ao 30 rfl rfl (st_cf (vs := [.int .i64 ((numRoot a.lo false).1), .int .i64 ((numRoot a.hi true).1)]) (r := .agg #[.int .i64 ((ivOf ((numRoot a.lo false).1) ((numRoot a.hi true).1)).lo), .int .i64 ((ivOf ((numRoot a.lo false).1) ((numRoot a.hi true).1)).hi), .bool ((ivOf ((numRoot a.lo false).1) ((numRoot a.hi true).1)).no)]) (c_ivOf ((numRoot a.lo false).1) ((numRoot a.hi true).1)) Try.func70 rfl (by decide) rfl rfl rfl ?_)
      refine ar_op (d := none) rfl rfl (st_sta (g := g1) (off := 0) (us := [.int .i64 ((ivOf ((numRoot a.lo false).1) ((numRoot a.hi true).1)).lo), .int .i64 ((ivOf ((numRoot a.lo false).1) ((numRoot a.hi true).1)).hi), .bool ((ivOf ((numRoot a.lo false).1) ((numRoot a.hi true).1)).no)]) (cs := [.int .i64 ((ivOf ((numRoot a.lo false).1) ((numRoot a.hi true).1)).lo), .int .i64 ((ivOf ((numRoot a.lo false).1) ((numRoot a.hi true).1)).hi), .bool ((ivOf ((numRoot a.lo false).1) ((numRoot a.hi true).1)).no)]) agg26 0 rfl rfl rfl rfl rfl rfl rfl rfl rfl ?_)
      refine ar_nil ?_
      refine ac_ret ?_
      exact fin_eq (v := .agg #[.int .i64 ((ivOf ((numRoot a.lo false).1) ((numRoot a.hi true).1)).lo), .int .i64 ((ivOf ((numRoot a.lo false).1) ((numRoot a.hi true).1)).hi), .bool ((ivOf ((numRoot a.lo false).1) ((numRoot a.hi true).1)).no)]) (by show _ = Iv.v (ivRoot a); rw [ivRoot, h2, h1] <;> rfl) (fin_ret (res_c (vs := [.int .i64 ((ivOf ((numRoot a.lo false).1) ((numRoot a.hi true).1)).lo), .int .i64 ((ivOf ((numRoot a.lo false).1) ((numRoot a.hi true).1)).hi), .bool ((ivOf ((numRoot a.lo false).1) ((numRoot a.hi true).1)).no)]) agg26 0 rfl rfl rfl rfl rfl rfl))
  · refine ar_sk (d := (some 11)) (by show ((!(ivRight a)) == false) = false; rw [h1]; rfl) rfl ?_
    refine ar_sk (d := (some 12)) (by show ((!(ivRight a)) == false) = false; rw [h1]; rfl) rfl ?_
    refine ar_sk (d := (some 13)) (by show ((!(ivRight a)) == false) = false; rw [h1]; rfl) rfl ?_
    refine ao 14 rfl rfl (st_pkt' (b := !(ivRight a)) (v := .bool true) (by rw [h1]; rfl) rfl rfl rfl ?_)
    refine ar_nil ?_
    refine ac_then rfl ?_
    refine ac_seq ?_
    refine ac_region_lit ?_
    refine ao 15 rfl rfl (st_cf (vs := []) (r := .agg #[.int .i64 ivNone.lo, .int .i64 ivNone.hi, .bool ivNone.no]) c_ivNone Try.func28 rfl (by decide) rfl rfl rfl ?_)
    refine ar_op (d := none) rfl rfl (st_sta (g := g1) (off := 0) (us := [.int .i64 ivNone.lo, .int .i64 ivNone.hi, .bool ivNone.no]) (cs := [.int .i64 ivNone.lo, .int .i64 ivNone.hi, .bool ivNone.no]) agg26 0 rfl rfl rfl rfl rfl rfl rfl rfl rfl ?_)
    refine ar_nil ?_
    refine ac_ret ?_
    exact fin_eq (v := .agg #[.int .i64 ivNone.lo, .int .i64 ivNone.hi, .bool ivNone.no]) (by show _ = Iv.v (ivRoot a); rw [ivRoot, h1] <;> rfl) (fin_ret (res_c (vs := [.int .i64 ivNone.lo, .int .i64 ivNone.hi, .bool ivNone.no]) agg26 0 rfl rfl rfl rfl rfl rfl))
end Go.Proofs.Ythngkopcadlciaa
namespace Go.Proofs.Ythngkopcadlciaa
open Go.RowKit
attribute [local irreducible] AC AR DWalk
def rEndsMul_e0 (a : Iv) (b : Iv) : Int := (bif decide (((rMul a.hi b.lo false).1) < ((rMul a.lo b.lo false).1)) then ((rMul a.hi b.lo false).1) else ((rMul a.lo b.lo false).1))
def rEndsMul_e1 (a : Iv) (b : Iv) : Int := (bif decide (((rMul a.hi b.lo true).1) > ((rMul a.lo b.lo true).1)) then ((rMul a.hi b.lo true).1) else ((rMul a.lo b.lo true).1))
def rEndsMul_e2 (a : Iv) (b : Iv) : Int := (bif decide (((rMul a.lo b.hi false).1) < (rEndsMul_e0 a b)) then ((rMul a.lo b.hi false).1) else (rEndsMul_e0 a b))
def rEndsMul_e3 (a : Iv) (b : Iv) : Int := (bif decide (((rMul a.lo b.hi true).1) > (rEndsMul_e1 a b)) then ((rMul a.lo b.hi true).1) else (rEndsMul_e1 a b))
def rEndsMul_e4 (a : Iv) (b : Iv) : Int := (bif decide (((rMul a.hi b.hi false).1) < (rEndsMul_e2 a b)) then ((rMul a.hi b.hi false).1) else (rEndsMul_e2 a b))
def rEndsMul_e5 (a : Iv) (b : Iv) : Int := (bif decide (((rMul a.hi b.hi true).1) > (rEndsMul_e3 a b)) then ((rMul a.hi b.hi true).1) else (rEndsMul_e3 a b))
def rEndsMul (a : Iv) (b : Iv) : Iv := (bif (rMul a.lo b.lo false).2 then (bif (rMul a.lo b.lo true).2 then (bif (rMul a.hi b.lo false).2 then (bif (rMul a.hi b.lo true).2 then (bif (rMul a.lo b.hi false).2 then (bif (rMul a.lo b.hi true).2 then (bif (rMul a.hi b.hi false).2 then (bif (rMul a.hi b.hi true).2 then (rOf (rEndsMul_e4 a b) (rEndsMul_e5 a b)) else rNone) else rNone) else rNone) else rNone) else rNone) else rNone) else rNone) else rNone)
set_option maxRecDepth 100000 in
set_option maxHeartbeats 4000000 in
theorem c_rEndsMul (a : Iv) (b : Iv) : Gets Try.prog 114 #[.agg #[.int .i64 a.lo, .int .i64 a.hi, .bool a.no], .agg #[.int .i64 b.lo, .int .i64 b.hi, .bool b.no], .bool false] (Iv.v (rEndsMul a b)) := by
  refine gets_fin Try.func114 rfl rfl rfl ?_
  refine ac_seq ?_
  refine ac_region_lit ?_
  refine ao 3 rfl rfl (st_box (v := .agg #[.int .i64 a.lo, .int .i64 a.hi, .bool a.no]) (cs := [.int .i64 a.lo, .int .i64 a.hi, .bool a.no]) rfl rfl rfl fun g0 => ?_)
  refine ao 4 rfl rfl (st_box (v := .agg #[.int .i64 b.lo, .int .i64 b.hi, .bool b.no]) (cs := [.int .i64 b.lo, .int .i64 b.hi, .bool b.no]) rfl rfl rfl fun g1 => ?_)
  refine ao 6 rfl rfl (st_new zero26 rfl fun g2 => ?_)
  refine ar_nil ?_
  refine ac_seq ?_
  refine ac_region_lit ?_
  refine ao 7 rfl rfl (st_assign (v := .int .i64 0) rfl rfl ?_)
  refine ar_nil ?_
  refine ac_seq ?_
  refine ac_region_lit ?_
  refine ao 8 rfl rfl (st_assign (v := .int .i64 0) rfl rfl ?_)
  refine ar_nil ?_
  refine ac_seq ?_
  refine ac_seq ?_
  refine ac_region_lit ?_
  refine ao 9 rfl rfl (st_assign (v := .int .i64 0) rfl rfl ?_)
  refine ar_nil ?_
  refine ac_block ?_
  refine ac_rounds 61 ?_
  refine ar_round ?_
  refine ac_seq ?_
  refine ac_seq ?_
  refine ac_region_lit ?_
  refine ao 16 rfl rfl (st_move (v := .int .i64 0) rfl rfl ?_)
  refine ao 17 rfl rfl (st_bi (u := .int .i64 0) (v := .int .i64 4) (r := .bool true) rfl rfl rfl (bi_lss (by decide)) ?_)
  refine ar_nil ?_
  refine ac_then rfl ?_
  refine ac_skip ?_
  refine ac_seq ?_
  refine ac_block ?_
  refine ac_seq ?_
  refine ac_region_lit ?_
  refine ao 20 rfl rfl (st_fa (g := g0) (off := 0) rfl fa26_0 rfl ?_)
  refine ao 21 rfl rfl (st_ldc (g := g0) (off := 0) (v := .int .i64 a.lo) cell3 2 rfl rfl rfl rfl rfl ?_)
  refine ao 10 rfl rfl (st_assign (v := .int .i64 a.lo) rfl rfl ?_)
  refine ar_nil ?_
  refine ac_seq ?_
  refine ac_seq ?_
  refine ac_region_lit ?_
  refine ao 22 rfl rfl (st_move (v := .int .i64 0) rfl rfl ?_)
  refine ao 23 rfl rfl (st_bi (u := .int .i64 0) (v := .int .i64 2) (r := .int .i64 0) rfl rfl rfl (bi_rem (by decide) (by decide)) ?_)
  refine ao 24 rfl rfl (st_bi (u := .int .i64 0) (v := .int .i64 1) (r := .bool false) rfl rfl rfl (bi_eql (by decide)) ?_)
  refine ar_nil ?_
  refine ac_else rfl ?_
  refine ac_skip ?_
  refine ac_seq ?_
  refine ac_region_lit ?_
  refine ao 27 rfl rfl (st_fa (g := g1) (off := 0) rfl fa26_0 rfl ?_)
  refine ao 28 rfl rfl (st_ldc (g := g1) (off := 0) (v := .int .i64 b.lo) cell3 1 rfl rfl rfl rfl rfl ?_)
  refine ao 11 rfl rfl (st_assign (v := .int .i64 b.lo) rfl rfl ?_)
  refine ar_nil ?_
  refine ac_seq ?_
  refine ac_seq ?_
  refine ac_region_lit ?_
  refine ao 29 rfl rfl (st_move (v := .int .i64 0) rfl rfl ?_)
  refine ao 30 rfl rfl (st_bi (u := .int .i64 0) (v := .int .i64 2) (r := .int .i64 0) rfl rfl rfl (bi_quo (by decide) (by decide)) ?_)
  refine ao 31 rfl rfl (st_bi (u := .int .i64 0) (v := .int .i64 1) (r := .bool false) rfl rfl rfl (bi_eql (by decide)) ?_)
  refine ar_nil ?_
  refine ac_else rfl ?_
  refine ac_skip ?_
  refine ac_seq ?_
  refine ac_region_lit ?_
  refine ao 35 rfl rfl (st_move (v := .int .i64 a.lo) rfl rfl ?_)
  refine ao 36 rfl rfl (st_move (v := .int .i64 b.lo) rfl rfl ?_)
  refine ao 37 rfl rfl (st_cf (vs := [.int .i64 a.lo, .int .i64 b.lo, .bool false]) (r := .tuple #[.int .i64 ((rMul a.lo b.lo false).1), .bool ((rMul a.lo b.lo false).2)]) (c_rMul a.lo b.lo false) Try.func115 rfl (by decide) rfl rfl rfl ?_)
  refine ao 34 rfl rfl (st_move (v := .tuple #[.int .i64 ((rMul a.lo b.lo false).1), .bool ((rMul a.lo b.lo false).2)]) rfl rfl ?_)
  refine ao 38 rfl rfl (st_ex (vs := [.int .i64 ((rMul a.lo b.lo false).1), .bool ((rMul a.lo b.lo false).2)]) (v := .int .i64 ((rMul a.lo b.lo false).1)) rfl rfl rfl ?_)
  refine ao 39 rfl rfl (st_ex (vs := [.int .i64 ((rMul a.lo b.lo false).1), .bool ((rMul a.lo b.lo false).2)]) (v := .bool ((rMul a.lo b.lo false).2)) rfl rfl rfl ?_)
  refine ao 12 rfl rfl (st_assign (v := .int .i64 ((rMul a.lo b.lo false).1)) rfl rfl ?_)
  refine ao 13 rfl rfl (st_assign (v := .bool ((rMul a.lo b.lo false).2)) rfl rfl ?_)
  refine ar_nil ?_
  refine ac_seq ?_
  refine ac_region_lit ?_
  refine ao 41 rfl rfl (st_move (v := .int .i64 a.lo) rfl rfl ?_)
  refine ao 42 rfl rfl (st_move (v := .int .i64 b.lo) rfl rfl ?_)
  refine ao 43 rfl rfl (st_cf (vs := [.int .i64 a.lo, .int .i64 b.lo, .bool true]) (r := .tuple #[.int .i64 ((rMul a.lo b.lo true).1), .bool ((rMul a.lo b.lo true).2)]) (c_rMul a.lo b.lo true) Try.func115 rfl (by decide) rfl rfl rfl ?_)
  refine ao 40 rfl rfl (st_move (v := .tuple #[.int .i64 ((rMul a.lo b.lo true).1), .bool ((rMul a.lo b.lo true).2)]) rfl rfl ?_)
  refine ao 44 rfl rfl (st_ex (vs := [.int .i64 ((rMul a.lo b.lo true).1), .bool ((rMul a.lo b.lo true).2)]) (v := .int .i64 ((rMul a.lo b.lo true).1)) rfl rfl rfl ?_)
  refine ao 45 rfl rfl (st_ex (vs := [.int .i64 ((rMul a.lo b.lo true).1), .bool ((rMul a.lo b.lo true).2)]) (v := .bool ((rMul a.lo b.lo true).2)) rfl rfl rfl ?_)
  refine ao 14 rfl rfl (st_assign (v := .int .i64 ((rMul a.lo b.lo true).1)) rfl rfl ?_)
  refine ao 15 rfl rfl (st_assign (v := .bool ((rMul a.lo b.lo true).2)) rfl rfl ?_)
  refine ar_nil ?_
  refine ac_seq ?_
  refine ac_seq ?_
  refine ac_region_lit ?_
  refine ao 46 rfl rfl (st_move (v := .bool false) rfl rfl ?_)
  refine ar_nil ?_
  refine ac_else rfl ?_
  refine ac_skip ?_
  refine ac_seq ?_
  refine ac_seq ?_
  refine ac_region_lit ?_
  refine ao 59 rfl rfl (st_move (v := .bool ((rMul a.lo b.lo false).2)) rfl rfl ?_)
  refine ao 60 rfl rfl (st_un (u := .bool ((rMul a.lo b.lo false).2)) (v := .bool (!((rMul a.lo b.lo false).2))) rfl rfl (un_not rfl) ?_)
  refine ao 61 rfl rfl (st_move (v := .bool (!((rMul a.lo b.lo false).2))) rfl rfl ?_)
  refine bool_split ((rMul a.lo b.lo false).2) (fun h1 => ?_) (fun h1 => ?_)
  · refine ar_gd (d := (some 62)) (by show ((!((rMul a.lo b.lo false).2)) == false) = true; rw [h1]; rfl) rfl (st_move (v := .bool ((rMul a.lo b.lo true).2)) rfl rfl ?_)
    refine ar_gd (d := (some 63)) (by show ((!((rMul a.lo b.lo false).2)) == false) = true; rw [h1]; rfl) rfl (st_un (u := .bool ((rMul a.lo b.lo true).2)) (v := .bool (!((rMul a.lo b.lo true).2))) rfl rfl (un_not rfl) ?_)
    refine ao 64 rfl rfl (st_pkf' (b := !((rMul a.lo b.lo false).2)) (v := .bool (!((rMul a.lo b.lo true).2))) (by rw [h1]; rfl) rfl rfl rfl ?_)
    refine ar_nil ?_
    refine bool_split ((rMul a.lo b.lo true).2) (fun h2 => ?_) (fun h2 => ?_)
    · refine ac_else' (b := !((rMul a.lo b.lo true).2)) (by rw [h2]; rfl) rfl ?_
      refine ac_skip ?_
      refine ac_seq ?_
      refine ac_seq ?_
      refine ac_region_lit ?_
      refine ao 66 rfl rfl (st_move (v := .int .i64 0) rfl rfl ?_)
      refine ao 67 rfl rfl (st_bi (u := .int .i64 0) (v := .int .i64 0) (r := .bool true) rfl rfl rfl (bi_eql (by decide)) ?_)
      refine ao 68 rfl rfl (st_move (v := .bool true) rfl rfl ?_)
      refine ar_sk (d := (some 69)) rfl rfl ?_
      refine ar_sk (d := (some 70)) rfl rfl ?_
      refine ar_sk (d := (some 71)) rfl rfl ?_
      refine ao 72 rfl rfl (st_pkt (v := .bool true) rfl rfl rfl ?_)
      refine ar_nil ?_
      refine ac_then rfl ?_
      refine ac_region_lit ?_
      refine ao 73 rfl rfl (st_move (v := .int .i64 ((rMul a.lo b.lo false).1)) rfl rfl ?_)
      refine ao 7 rfl rfl (st_assign (v := .int .i64 ((rMul a.lo b.lo false).1)) rfl rfl ?_)
      refine ar_nil ?_
      refine ac_seq ?_
      refine ac_region_lit ?_
      refine ao 74 rfl rfl (st_move (v := .int .i64 0) rfl rfl ?_)
      refine ao 75 rfl rfl (st_bi (u := .int .i64 0) (v := .int .i64 0) (r := .bool true) rfl rfl rfl (bi_eql (by decide)) ?_)
      refine ao 76 rfl rfl (st_move (v := .bool true) rfl rfl ?_)
      refine ar_sk (d := (some 77)) rfl rfl ?_
      refine ar_sk (d := (some 78)) rfl rfl ?_
      refine ar_sk (d := (some 79)) rfl rfl ?_
      refine ao 80 rfl rfl (st_pkt (v := .bool true) rfl rfl rfl ?_)
      refine ar_nil ?_
      refine ac_then rfl ?_
      refine ac_region_lit ?_
      refine ao 81 rfl rfl (st_move (v := .int .i64 ((rMul a.lo b.lo true).1)) rfl rfl ?_)
      refine ao 8 rfl rfl (st_assign (v := .int .i64 ((rMul a.lo b.lo true).1)) rfl rfl ?_)
      refine ar_nil ?_
      refine ac_region_lit ?_
      refine ao 18 rfl rfl (st_move (v := .int .i64 0) rfl rfl ?_)
      refine ao 19 rfl rfl (st_bi (u := .int .i64 0) (v := .int .i64 1) (r := .int .i64 1) rfl rfl rfl (bi_add (by decide)) ?_)
      refine ao 9 rfl rfl (st_assign (v := .int .i64 1) rfl rfl ?_)
      refine ar_nil ?_
      refine ar_round ?_
      refine ac_seq ?_
      refine ac_seq ?_
      refine ac_region_lit ?_
      refine ao 16 rfl rfl (st_move (v := .int .i64 1) rfl rfl ?_)
      refine ao 17 rfl rfl (st_bi (u := .int .i64 1) (v := .int .i64 4) (r := .bool true) rfl rfl rfl (bi_lss (by decide)) ?_)
      refine ar_nil ?_
      refine ac_then rfl ?_
      refine ac_skip ?_
      refine ac_seq ?_
      refine ac_block ?_
      refine ac_seq ?_
      refine ac_region_lit ?_
      refine ao 20 rfl rfl (st_fa (g := g0) (off := 0) rfl fa26_0 rfl ?_)
      refine ao 21 rfl rfl (st_ldc (g := g0) (off := 0) (v := .int .i64 a.lo) cell3 2 rfl rfl rfl rfl rfl ?_)
      refine ao 10 rfl rfl (st_assign (v := .int .i64 a.lo) rfl rfl ?_)
      refine ar_nil ?_
      refine ac_seq ?_
      refine ac_seq ?_
      refine ac_region_lit ?_
      refine ao 22 rfl rfl (st_move (v := .int .i64 1) rfl rfl ?_)
      refine ao 23 rfl rfl (st_bi (u := .int .i64 1) (v := .int .i64 2) (r := .int .i64 1) rfl rfl rfl (bi_rem (by decide) (by decide)) ?_)
      refine ao 24 rfl rfl (st_bi (u := .int .i64 1) (v := .int .i64 1) (r := .bool true) rfl rfl rfl (bi_eql (by decide)) ?_)
      refine ar_nil ?_
      refine ac_then rfl ?_
      refine ac_region_lit ?_
      refine ao 25 rfl rfl (st_fa (g := g0) (off := 0) rfl fa26_1 rfl ?_)
      refine ao 26 rfl rfl (st_ldc (g := g0) (off := 1) (v := .int .i64 a.hi) cell3 2 rfl rfl rfl rfl rfl ?_)
      refine ao 10 rfl rfl (st_assign (v := .int .i64 a.hi) rfl rfl ?_)
      refine ar_nil ?_
      refine ac_seq ?_
      refine ac_region_lit ?_
      refine ao 27 rfl rfl (st_fa (g := g1) (off := 0) rfl fa26_0 rfl ?_)
      refine ao 28 rfl rfl (st_ldc (g := g1) (off := 0) (v := .int .i64 b.lo) cell3 1 rfl rfl rfl rfl rfl ?_)
      refine ao 11 rfl rfl (st_assign (v := .int .i64 b.lo) rfl rfl ?_)
      refine ar_nil ?_
      refine ac_seq ?_
      refine ac_seq ?_
      refine ac_region_lit ?_
      refine ao 29 rfl rfl (st_move (v := .int .i64 1) rfl rfl ?_)
      refine ao 30 rfl rfl (st_bi (u := .int .i64 1) (v := .int .i64 2) (r := .int .i64 0) rfl rfl rfl (bi_quo (by decide) (by decide)) ?_)
      refine ao 31 rfl rfl (st_bi (u := .int .i64 0) (v := .int .i64 1) (r := .bool false) rfl rfl rfl (bi_eql (by decide)) ?_)
      refine ar_nil ?_
      refine ac_else rfl ?_
      refine ac_skip ?_
      refine ac_seq ?_
      refine ac_region_lit ?_
      refine ao 35 rfl rfl (st_move (v := .int .i64 a.hi) rfl rfl ?_)
      refine ao 36 rfl rfl (st_move (v := .int .i64 b.lo) rfl rfl ?_)
      refine ao 37 rfl rfl (st_cf (vs := [.int .i64 a.hi, .int .i64 b.lo, .bool false]) (r := .tuple #[.int .i64 ((rMul a.hi b.lo false).1), .bool ((rMul a.hi b.lo false).2)]) (c_rMul a.hi b.lo false) Try.func115 rfl (by decide) rfl rfl rfl ?_)
      refine ao 34 rfl rfl (st_move (v := .tuple #[.int .i64 ((rMul a.hi b.lo false).1), .bool ((rMul a.hi b.lo false).2)]) rfl rfl ?_)
      refine ao 38 rfl rfl (st_ex (vs := [.int .i64 ((rMul a.hi b.lo false).1), .bool ((rMul a.hi b.lo false).2)]) (v := .int .i64 ((rMul a.hi b.lo false).1)) rfl rfl rfl ?_)
      refine ao 39 rfl rfl (st_ex (vs := [.int .i64 ((rMul a.hi b.lo false).1), .bool ((rMul a.hi b.lo false).2)]) (v := .bool ((rMul a.hi b.lo false).2)) rfl rfl rfl ?_)
      refine ao 12 rfl rfl (st_assign (v := .int .i64 ((rMul a.hi b.lo false).1)) rfl rfl ?_)
      refine ao 13 rfl rfl (st_assign (v := .bool ((rMul a.hi b.lo false).2)) rfl rfl ?_)
      refine ar_nil ?_
      refine ac_seq ?_
      refine ac_region_lit ?_
      refine ao 41 rfl rfl (st_move (v := .int .i64 a.hi) rfl rfl ?_)
      refine ao 42 rfl rfl (st_move (v := .int .i64 b.lo) rfl rfl ?_)
      refine ao 43 rfl rfl (st_cf (vs := [.int .i64 a.hi, .int .i64 b.lo, .bool true]) (r := .tuple #[.int .i64 ((rMul a.hi b.lo true).1), .bool ((rMul a.hi b.lo true).2)]) (c_rMul a.hi b.lo true) Try.func115 rfl (by decide) rfl rfl rfl ?_)
      refine ao 40 rfl rfl (st_move (v := .tuple #[.int .i64 ((rMul a.hi b.lo true).1), .bool ((rMul a.hi b.lo true).2)]) rfl rfl ?_)
      refine ao 44 rfl rfl (st_ex (vs := [.int .i64 ((rMul a.hi b.lo true).1), .bool ((rMul a.hi b.lo true).2)]) (v := .int .i64 ((rMul a.hi b.lo true).1)) rfl rfl rfl ?_)
      refine ao 45 rfl rfl (st_ex (vs := [.int .i64 ((rMul a.hi b.lo true).1), .bool ((rMul a.hi b.lo true).2)]) (v := .bool ((rMul a.hi b.lo true).2)) rfl rfl rfl ?_)
      refine ao 14 rfl rfl (st_assign (v := .int .i64 ((rMul a.hi b.lo true).1)) rfl rfl ?_)
      refine ao 15 rfl rfl (st_assign (v := .bool ((rMul a.hi b.lo true).2)) rfl rfl ?_)
      refine ar_nil ?_
      refine ac_seq ?_
      refine ac_seq ?_
      refine ac_region_lit ?_
      refine ao 46 rfl rfl (st_move (v := .bool false) rfl rfl ?_)
      refine ar_nil ?_
      refine ac_else rfl ?_
      refine ac_skip ?_
      refine ac_seq ?_
      refine ac_seq ?_
      refine ac_region_lit ?_
      refine ao 59 rfl rfl (st_move (v := .bool ((rMul a.hi b.lo false).2)) rfl rfl ?_)
      refine ao 60 rfl rfl (st_un (u := .bool ((rMul a.hi b.lo false).2)) (v := .bool (!((rMul a.hi b.lo false).2))) rfl rfl (un_not rfl) ?_)
      refine ao 61 rfl rfl (st_move (v := .bool (!((rMul a.hi b.lo false).2))) rfl rfl ?_)
      refine bool_split ((rMul a.hi b.lo false).2) (fun h3 => ?_) (fun h3 => ?_)
      · refine ar_gd (d := (some 62)) (by show ((!((rMul a.hi b.lo false).2)) == false) = true; rw [h3]; rfl) rfl (st_move (v := .bool ((rMul a.hi b.lo true).2)) rfl rfl ?_)
        refine ar_gd (d := (some 63)) (by show ((!((rMul a.hi b.lo false).2)) == false) = true; rw [h3]; rfl) rfl (st_un (u := .bool ((rMul a.hi b.lo true).2)) (v := .bool (!((rMul a.hi b.lo true).2))) rfl rfl (un_not rfl) ?_)
        refine ao 64 rfl rfl (st_pkf' (b := !((rMul a.hi b.lo false).2)) (v := .bool (!((rMul a.hi b.lo true).2))) (by rw [h3]; rfl) rfl rfl rfl ?_)
        refine ar_nil ?_
        refine bool_split ((rMul a.hi b.lo true).2) (fun h4 => ?_) (fun h4 => ?_)
        · refine ac_else' (b := !((rMul a.hi b.lo true).2)) (by rw [h4]; rfl) rfl ?_
          refine ac_skip ?_
          refine ac_seq ?_
          refine ac_seq ?_
          refine ac_region_lit ?_
          refine ao 66 rfl rfl (st_move (v := .int .i64 1) rfl rfl ?_)
          refine ao 67 rfl rfl (st_bi (u := .int .i64 1) (v := .int .i64 0) (r := .bool false) rfl rfl rfl (bi_eql (by decide)) ?_)
          refine ao 68 rfl rfl (st_move (v := .bool false) rfl rfl ?_)
          refine ar_gd (d := (some 69)) rfl rfl (st_move (v := .int .i64 ((rMul a.hi b.lo false).1)) rfl rfl ?_)
          refine ar_gd (d := (some 70)) rfl rfl (st_move (v := .int .i64 ((rMul a.lo b.lo false).1)) rfl rfl ?_)
          refine ar_gd (d := (some 71)) rfl rfl (st_bi (u := .int .i64 ((rMul a.hi b.lo false).1)) (v := .int .i64 ((rMul a.lo b.lo false).1)) (r := .bool (decide (((rMul a.hi b.lo false).1) < ((rMul a.lo b.lo false).1)))) rfl rfl rfl (bi_lss rfl) ?_)
          refine ao 72 rfl rfl (st_pkf (v := .bool (decide (((rMul a.hi b.lo false).1) < ((rMul a.lo b.lo false).1)))) rfl rfl rfl ?_)
          refine ar_nil ?_
          refine ac_mergeE (fun E9 => ((Env.put E9 (some 73) (.int .i64 ((rMul a.hi b.lo false).1))).put (some 7) (.int .i64 ((rMul a.hi b.lo false).1)))) (fun E9 => ((Env.put E9 (some 73) (.int .i64 (rEndsMul_e0 a b))).put (some 7) (.int .i64 (rEndsMul_e0 a b)))) (b := decide (((rMul a.hi b.lo false).1) < ((rMul a.lo b.lo false).1))) rfl (fun hm => ?_) (fun hm => ?_) (fun hm => ?_) ?_
          · refine ac_region_lit ?_
            refine ao 73 rfl rfl (st_move (v := .int .i64 ((rMul a.hi b.lo false).1)) rfl rfl ?_)
            refine ao 7 rfl rfl (st_assign (v := .int .i64 ((rMul a.hi b.lo false).1)) rfl rfl ?_)
            refine ar_nil ?_
            exact ⟨rfl, rfl, rfl⟩
          · unfold rEndsMul_e0; rw [hm]; rfl
          · unfold rEndsMul_e0; rw [hm]; exact ((put_self rfl).trans (put_self rfl))
          refine ac_seq ?_
          refine ac_region_lit ?_
          refine ao 74 rfl rfl (st_move (v := .int .i64 1) rfl rfl ?_)
          refine ao 75 rfl rfl (st_bi (u := .int .i64 1) (v := .int .i64 0) (r := .bool false) rfl rfl rfl (bi_eql (by decide)) ?_)
          refine ao 76 rfl rfl (st_move (v := .bool false) rfl rfl ?_)
          refine ar_gd (d := (some 77)) rfl rfl (st_move (v := .int .i64 ((rMul a.hi b.lo true).1)) rfl rfl ?_)
          refine ar_gd (d := (some 78)) rfl rfl (st_move (v := .int .i64 ((rMul a.lo b.lo true).1)) rfl rfl ?_)
          refine ar_gd (d := (some 79)) rfl rfl (st_bi (u := .int .i64 ((rMul a.hi b.lo true).1)) (v := .int .i64 ((rMul a.lo b.lo true).1)) (r := .bool (decide (((rMul a.hi b.lo true).1) > ((rMul a.lo b.lo true).1)))) rfl rfl rfl (bi_gtr rfl) ?_)
          refine ao 80 rfl rfl (st_pkf (v := .bool (decide (((rMul a.hi b.lo true).1) > ((rMul a.lo b.lo true).1)))) rfl rfl rfl ?_)
          refine ar_nil ?_
          refine ac_mergeE (fun E9 => ((Env.put E9 (some 81) (.int .i64 ((rMul a.hi b.lo true).1))).put (some 8) (.int .i64 ((rMul a.hi b.lo true).1)))) (fun E9 => ((Env.put E9 (some 81) (.int .i64 (rEndsMul_e1 a b))).put (some 8) (.int .i64 (rEndsMul_e1 a b)))) (b := decide (((rMul a.hi b.lo true).1) > ((rMul a.lo b.lo true).1))) rfl (fun hm => ?_) (fun hm => ?_) (fun hm => ?_) ?_
          · refine ac_region_lit ?_
            refine ao 81 rfl rfl (st_move (v := .int .i64 ((rMul a.hi b.lo true).1)) rfl rfl ?_)
            refine ao 8 rfl rfl (st_assign (v := .int .i64 ((rMul a.hi b.lo true).1)) rfl rfl ?_)
            refine ar_nil ?_
            exact ⟨rfl, rfl, rfl⟩
          · unfold rEndsMul_e1; rw [hm]; rfl
          · unfold rEndsMul_e1; rw [hm]; exact ((put_self rfl).trans (put_self rfl))
          refine ac_region_lit ?_
          refine ao 18 rfl rfl (st_move (v := .int .i64 1) rfl rfl ?_)
          refine ao 19 rfl rfl (st_bi (u := .int .i64 1) (v := .int .i64 1) (r := .int .i64 2) rfl rfl rfl (bi_add (by decide)) ?_)
          refine ao 9 rfl rfl (st_assign (v := .int .i64 2) rfl rfl ?_)
          refine ar_nil ?_
          refine ar_round ?_
          refine ac_seq ?_
          refine ac_seq ?_
          refine ac_region_lit ?_
          refine ao 16 rfl rfl (st_move (v := .int .i64 2) rfl rfl ?_)
          refine ao 17 rfl rfl (st_bi (u := .int .i64 2) (v := .int .i64 4) (r := .bool true) rfl rfl rfl (bi_lss (by decide)) ?_)
          refine ar_nil ?_
          refine ac_then rfl ?_
          refine ac_skip ?_
          refine ac_seq ?_
          refine ac_block ?_
          refine ac_seq ?_
          refine ac_region_lit ?_
          refine ao 20 rfl rfl (st_fa (g := g0) (off := 0) rfl fa26_0 rfl ?_)
          refine ao 21 rfl rfl (st_ldc (g := g0) (off := 0) (v := .int .i64 a.lo) cell3 2 rfl rfl rfl rfl rfl ?_)
          refine ao 10 rfl rfl (st_assign (v := .int .i64 a.lo) rfl rfl ?_)
          refine ar_nil ?_
          refine ac_seq ?_
          refine ac_seq ?_
          refine ac_region_lit ?_
          refine ao 22 rfl rfl (st_move (v := .int .i64 2) rfl rfl ?_)
          refine ao 23 rfl rfl (st_bi (u := .int .i64 2) (v := .int .i64 2) (r := .int .i64 0) rfl rfl rfl (bi_rem (by decide) (by decide)) ?_)
          refine ao 24 rfl rfl (st_bi (u := .int .i64 0) (v := .int .i64 1) (r := .bool false) rfl rfl rfl (bi_eql (by decide)) ?_)
          refine ar_nil ?_
          refine ac_else rfl ?_
          refine ac_skip ?_
          refine ac_seq ?_
          refine ac_region_lit ?_
          refine ao 27 rfl rfl (st_fa (g := g1) (off := 0) rfl fa26_0 rfl ?_)
          refine ao 28 rfl rfl (st_ldc (g := g1) (off := 0) (v := .int .i64 b.lo) cell3 1 rfl rfl rfl rfl rfl ?_)
          refine ao 11 rfl rfl (st_assign (v := .int .i64 b.lo) rfl rfl ?_)
          refine ar_nil ?_
          refine ac_seq ?_
          refine ac_seq ?_
          refine ac_region_lit ?_
          refine ao 29 rfl rfl (st_move (v := .int .i64 2) rfl rfl ?_)
          refine ao 30 rfl rfl (st_bi (u := .int .i64 2) (v := .int .i64 2) (r := .int .i64 1) rfl rfl rfl (bi_quo (by decide) (by decide)) ?_)
          refine ao 31 rfl rfl (st_bi (u := .int .i64 1) (v := .int .i64 1) (r := .bool true) rfl rfl rfl (bi_eql (by decide)) ?_)
          refine ar_nil ?_
          refine ac_then rfl ?_
          refine ac_region_lit ?_
          refine ao 32 rfl rfl (st_fa (g := g1) (off := 0) rfl fa26_1 rfl ?_)
          refine ao 33 rfl rfl (st_ldc (g := g1) (off := 1) (v := .int .i64 b.hi) cell3 1 rfl rfl rfl rfl rfl ?_)
          refine ao 11 rfl rfl (st_assign (v := .int .i64 b.hi) rfl rfl ?_)
          refine ar_nil ?_
          refine ac_seq ?_
          refine ac_region_lit ?_
          refine ao 35 rfl rfl (st_move (v := .int .i64 a.lo) rfl rfl ?_)
          refine ao 36 rfl rfl (st_move (v := .int .i64 b.hi) rfl rfl ?_)
          refine ao 37 rfl rfl (st_cf (vs := [.int .i64 a.lo, .int .i64 b.hi, .bool false]) (r := .tuple #[.int .i64 ((rMul a.lo b.hi false).1), .bool ((rMul a.lo b.hi false).2)]) (c_rMul a.lo b.hi false) Try.func115 rfl (by decide) rfl rfl rfl ?_)
          refine ao 34 rfl rfl (st_move (v := .tuple #[.int .i64 ((rMul a.lo b.hi false).1), .bool ((rMul a.lo b.hi false).2)]) rfl rfl ?_)
          refine ao 38 rfl rfl (st_ex (vs := [.int .i64 ((rMul a.lo b.hi false).1), .bool ((rMul a.lo b.hi false).2)]) (v := .int .i64 ((rMul a.lo b.hi false).1)) rfl rfl rfl ?_)
          refine ao 39 rfl rfl (st_ex (vs := [.int .i64 ((rMul a.lo b.hi false).1), .bool ((rMul a.lo b.hi false).2)]) (v := .bool ((rMul a.lo b.hi false).2)) rfl rfl rfl ?_)
          refine ao 12 rfl rfl (st_assign (v := .int .i64 ((rMul a.lo b.hi false).1)) rfl rfl ?_)
          refine ao 13 rfl rfl (st_assign (v := .bool ((rMul a.lo b.hi false).2)) rfl rfl ?_)
          refine ar_nil ?_
          refine ac_seq ?_
          refine ac_region_lit ?_
          refine ao 41 rfl rfl (st_move (v := .int .i64 a.lo) rfl rfl ?_)
          refine ao 42 rfl rfl (st_move (v := .int .i64 b.hi) rfl rfl ?_)
          refine ao 43 rfl rfl (st_cf (vs := [.int .i64 a.lo, .int .i64 b.hi, .bool true]) (r := .tuple #[.int .i64 ((rMul a.lo b.hi true).1), .bool ((rMul a.lo b.hi true).2)]) (c_rMul a.lo b.hi true) Try.func115 rfl (by decide) rfl rfl rfl ?_)
          refine ao 40 rfl rfl (st_move (v := .tuple #[.int .i64 ((rMul a.lo b.hi true).1), .bool ((rMul a.lo b.hi true).2)]) rfl rfl ?_)
          refine ao 44 rfl rfl (st_ex (vs := [.int .i64 ((rMul a.lo b.hi true).1), .bool ((rMul a.lo b.hi true).2)]) (v := .int .i64 ((rMul a.lo b.hi true).1)) rfl rfl rfl ?_)
          refine ao 45 rfl rfl (st_ex (vs := [.int .i64 ((rMul a.lo b.hi true).1), .bool ((rMul a.lo b.hi true).2)]) (v := .bool ((rMul a.lo b.hi true).2)) rfl rfl rfl ?_)
          refine ao 14 rfl rfl (st_assign (v := .int .i64 ((rMul a.lo b.hi true).1)) rfl rfl ?_)
          refine ao 15 rfl rfl (st_assign (v := .bool ((rMul a.lo b.hi true).2)) rfl rfl ?_)
          refine ar_nil ?_
          refine ac_seq ?_
          refine ac_seq ?_
          refine ac_region_lit ?_
          refine ao 46 rfl rfl (st_move (v := .bool false) rfl rfl ?_)
          refine ar_nil ?_
          refine ac_else rfl ?_
          refine ac_skip ?_
          refine ac_seq ?_
          refine ac_seq ?_
          refine ac_region_lit ?_
          refine ao 59 rfl rfl (st_move (v := .bool ((rMul a.lo b.hi false).2)) rfl rfl ?_)
          refine ao 60 rfl rfl (st_un (u := .bool ((rMul a.lo b.hi false).2)) (v := .bool (!((rMul a.lo b.hi false).2))) rfl rfl (un_not rfl) ?_)
          refine ao 61 rfl rfl (st_move (v := .bool (!((rMul a.lo b.hi false).2))) rfl rfl ?_)
          refine bool_split ((rMul a.lo b.hi false).2) (fun h5 => ?_) (fun h5 => ?_)
          · refine ar_gd (d := (some 62)) (by show ((!((rMul a.lo b.hi false).2)) == false) = true; rw [h5]; rfl) rfl (st_move (v := .bool ((rMul a.lo b.hi true).2)) rfl rfl ?_)
            refine ar_gd (d := (some 63)) (by show ((!((rMul a.lo b.hi false).2)) == false) = true; rw [h5]; rfl) rfl (st_un (u := .bool ((rMul a.lo b.hi true).2)) (v := .bool (!((rMul a.lo b.hi true).2))) rfl rfl (un_not rfl) ?_)
            refine ao 64 rfl rfl (st_pkf' (b := !((rMul a.lo b.hi false).2)) (v := .bool (!((rMul a.lo b.hi true).2))) (by rw [h5]; rfl) rfl rfl rfl ?_)
            refine ar_nil ?_
            refine bool_split ((rMul a.lo b.hi true).2) (fun h6 => ?_) (fun h6 => ?_)
            · refine ac_else' (b := !((rMul a.lo b.hi true).2)) (by rw [h6]; rfl) rfl ?_
              refine ac_skip ?_
              refine ac_seq ?_
              refine ac_seq ?_
              refine ac_region_lit ?_
              refine ao 66 rfl rfl (st_move (v := .int .i64 2) rfl rfl ?_)
              refine ao 67 rfl rfl (st_bi (u := .int .i64 2) (v := .int .i64 0) (r := .bool false) rfl rfl rfl (bi_eql (by decide)) ?_)
              refine ao 68 rfl rfl (st_move (v := .bool false) rfl rfl ?_)
              refine ar_gd (d := (some 69)) rfl rfl (st_move (v := .int .i64 ((rMul a.lo b.hi false).1)) rfl rfl ?_)
              refine ar_gd (d := (some 70)) rfl rfl (st_move (v := .int .i64 (rEndsMul_e0 a b)) rfl rfl ?_)
              refine ar_gd (d := (some 71)) rfl rfl (st_bi (u := .int .i64 ((rMul a.lo b.hi false).1)) (v := .int .i64 (rEndsMul_e0 a b)) (r := .bool (decide (((rMul a.lo b.hi false).1) < (rEndsMul_e0 a b)))) rfl rfl rfl (bi_lss rfl) ?_)
              refine ao 72 rfl rfl (st_pkf (v := .bool (decide (((rMul a.lo b.hi false).1) < (rEndsMul_e0 a b)))) rfl rfl rfl ?_)
              refine ar_nil ?_
              refine ac_mergeE (fun E9 => ((Env.put E9 (some 73) (.int .i64 ((rMul a.lo b.hi false).1))).put (some 7) (.int .i64 ((rMul a.lo b.hi false).1)))) (fun E9 => ((Env.put E9 (some 73) (.int .i64 (rEndsMul_e2 a b))).put (some 7) (.int .i64 (rEndsMul_e2 a b)))) (b := decide (((rMul a.lo b.hi false).1) < (rEndsMul_e0 a b))) rfl (fun hm => ?_) (fun hm => ?_) (fun hm => ?_) ?_
              · refine ac_region_lit ?_
                refine ao 73 rfl rfl (st_move (v := .int .i64 ((rMul a.lo b.hi false).1)) rfl rfl ?_)
                refine ao 7 rfl rfl (st_assign (v := .int .i64 ((rMul a.lo b.hi false).1)) rfl rfl ?_)
                refine ar_nil ?_
                exact ⟨rfl, rfl, rfl⟩
              · unfold rEndsMul_e2; rw [hm]; rfl
              · unfold rEndsMul_e2; rw [hm]; exact ((put_self rfl).trans (put_self rfl))
              refine ac_seq ?_
              refine ac_region_lit ?_
              refine ao 74 rfl rfl (st_move (v := .int .i64 2) rfl rfl ?_)
              refine ao 75 rfl rfl (st_bi (u := .int .i64 2) (v := .int .i64 0) (r := .bool false) rfl rfl rfl (bi_eql (by decide)) ?_)
              refine ao 76 rfl rfl (st_move (v := .bool false) rfl rfl ?_)
              refine ar_gd (d := (some 77)) rfl rfl (st_move (v := .int .i64 ((rMul a.lo b.hi true).1)) rfl rfl ?_)
              refine ar_gd (d := (some 78)) rfl rfl (st_move (v := .int .i64 (rEndsMul_e1 a b)) rfl rfl ?_)
              refine ar_gd (d := (some 79)) rfl rfl (st_bi (u := .int .i64 ((rMul a.lo b.hi true).1)) (v := .int .i64 (rEndsMul_e1 a b)) (r := .bool (decide (((rMul a.lo b.hi true).1) > (rEndsMul_e1 a b)))) rfl rfl rfl (bi_gtr rfl) ?_)
              refine ao 80 rfl rfl (st_pkf (v := .bool (decide (((rMul a.lo b.hi true).1) > (rEndsMul_e1 a b)))) rfl rfl rfl ?_)
              refine ar_nil ?_
              refine ac_mergeE (fun E9 => ((Env.put E9 (some 81) (.int .i64 ((rMul a.lo b.hi true).1))).put (some 8) (.int .i64 ((rMul a.lo b.hi true).1)))) (fun E9 => ((Env.put E9 (some 81) (.int .i64 (rEndsMul_e3 a b))).put (some 8) (.int .i64 (rEndsMul_e3 a b)))) (b := decide (((rMul a.lo b.hi true).1) > (rEndsMul_e1 a b))) rfl (fun hm => ?_) (fun hm => ?_) (fun hm => ?_) ?_
              · refine ac_region_lit ?_
                refine ao 81 rfl rfl (st_move (v := .int .i64 ((rMul a.lo b.hi true).1)) rfl rfl ?_)
                refine ao 8 rfl rfl (st_assign (v := .int .i64 ((rMul a.lo b.hi true).1)) rfl rfl ?_)
                refine ar_nil ?_
                exact ⟨rfl, rfl, rfl⟩
              · unfold rEndsMul_e3; rw [hm]; rfl
              · unfold rEndsMul_e3; rw [hm]; exact ((put_self rfl).trans (put_self rfl))
              refine ac_region_lit ?_
              refine ao 18 rfl rfl (st_move (v := .int .i64 2) rfl rfl ?_)
              refine ao 19 rfl rfl (st_bi (u := .int .i64 2) (v := .int .i64 1) (r := .int .i64 3) rfl rfl rfl (bi_add (by decide)) ?_)
              refine ao 9 rfl rfl (st_assign (v := .int .i64 3) rfl rfl ?_)
              refine ar_nil ?_
              refine ar_round ?_
              refine ac_seq ?_
              refine ac_seq ?_
              refine ac_region_lit ?_
              refine ao 16 rfl rfl (st_move (v := .int .i64 3) rfl rfl ?_)
              refine ao 17 rfl rfl (st_bi (u := .int .i64 3) (v := .int .i64 4) (r := .bool true) rfl rfl rfl (bi_lss (by decide)) ?_)
              refine ar_nil ?_
              refine ac_then rfl ?_
              refine ac_skip ?_
              refine ac_seq ?_
              refine ac_block ?_
              refine ac_seq ?_
              refine ac_region_lit ?_
              refine ao 20 rfl rfl (st_fa (g := g0) (off := 0) rfl fa26_0 rfl ?_)
              refine ao 21 rfl rfl (st_ldc (g := g0) (off := 0) (v := .int .i64 a.lo) cell3 2 rfl rfl rfl rfl rfl ?_)
              refine ao 10 rfl rfl (st_assign (v := .int .i64 a.lo) rfl rfl ?_)
              refine ar_nil ?_
              refine ac_seq ?_
              refine ac_seq ?_
              refine ac_region_lit ?_
              refine ao 22 rfl rfl (st_move (v := .int .i64 3) rfl rfl ?_)
              refine ao 23 rfl rfl (st_bi (u := .int .i64 3) (v := .int .i64 2) (r := .int .i64 1) rfl rfl rfl (bi_rem (by decide) (by decide)) ?_)
              refine ao 24 rfl rfl (st_bi (u := .int .i64 1) (v := .int .i64 1) (r := .bool true) rfl rfl rfl (bi_eql (by decide)) ?_)
              refine ar_nil ?_
              refine ac_then rfl ?_
              refine ac_region_lit ?_
              refine ao 25 rfl rfl (st_fa (g := g0) (off := 0) rfl fa26_1 rfl ?_)
              refine ao 26 rfl rfl (st_ldc (g := g0) (off := 1) (v := .int .i64 a.hi) cell3 2 rfl rfl rfl rfl rfl ?_)
              refine ao 10 rfl rfl (st_assign (v := .int .i64 a.hi) rfl rfl ?_)
              refine ar_nil ?_
              refine ac_seq ?_
              refine ac_region_lit ?_
              refine ao 27 rfl rfl (st_fa (g := g1) (off := 0) rfl fa26_0 rfl ?_)
              refine ao 28 rfl rfl (st_ldc (g := g1) (off := 0) (v := .int .i64 b.lo) cell3 1 rfl rfl rfl rfl rfl ?_)
              refine ao 11 rfl rfl (st_assign (v := .int .i64 b.lo) rfl rfl ?_)
              refine ar_nil ?_
              refine ac_seq ?_
              refine ac_seq ?_
              refine ac_region_lit ?_
              refine ao 29 rfl rfl (st_move (v := .int .i64 3) rfl rfl ?_)
              refine ao 30 rfl rfl (st_bi (u := .int .i64 3) (v := .int .i64 2) (r := .int .i64 1) rfl rfl rfl (bi_quo (by decide) (by decide)) ?_)
              refine ao 31 rfl rfl (st_bi (u := .int .i64 1) (v := .int .i64 1) (r := .bool true) rfl rfl rfl (bi_eql (by decide)) ?_)
              refine ar_nil ?_
              refine ac_then rfl ?_
              refine ac_region_lit ?_
              refine ao 32 rfl rfl (st_fa (g := g1) (off := 0) rfl fa26_1 rfl ?_)
              refine ao 33 rfl rfl (st_ldc (g := g1) (off := 1) (v := .int .i64 b.hi) cell3 1 rfl rfl rfl rfl rfl ?_)
              refine ao 11 rfl rfl (st_assign (v := .int .i64 b.hi) rfl rfl ?_)
              refine ar_nil ?_
              refine ac_seq ?_
              refine ac_region_lit ?_
              refine ao 35 rfl rfl (st_move (v := .int .i64 a.hi) rfl rfl ?_)
              refine ao 36 rfl rfl (st_move (v := .int .i64 b.hi) rfl rfl ?_)
              refine ao 37 rfl rfl (st_cf (vs := [.int .i64 a.hi, .int .i64 b.hi, .bool false]) (r := .tuple #[.int .i64 ((rMul a.hi b.hi false).1), .bool ((rMul a.hi b.hi false).2)]) (c_rMul a.hi b.hi false) Try.func115 rfl (by decide) rfl rfl rfl ?_)
              refine ao 34 rfl rfl (st_move (v := .tuple #[.int .i64 ((rMul a.hi b.hi false).1), .bool ((rMul a.hi b.hi false).2)]) rfl rfl ?_)
              refine ao 38 rfl rfl (st_ex (vs := [.int .i64 ((rMul a.hi b.hi false).1), .bool ((rMul a.hi b.hi false).2)]) (v := .int .i64 ((rMul a.hi b.hi false).1)) rfl rfl rfl ?_)
              refine ao 39 rfl rfl (st_ex (vs := [.int .i64 ((rMul a.hi b.hi false).1), .bool ((rMul a.hi b.hi false).2)]) (v := .bool ((rMul a.hi b.hi false).2)) rfl rfl rfl ?_)
              refine ao 12 rfl rfl (st_assign (v := .int .i64 ((rMul a.hi b.hi false).1)) rfl rfl ?_)
              refine ao 13 rfl rfl (st_assign (v := .bool ((rMul a.hi b.hi false).2)) rfl rfl ?_)
              refine ar_nil ?_
              refine ac_seq ?_
              refine ac_region_lit ?_
              refine ao 41 rfl rfl (st_move (v := .int .i64 a.hi) rfl rfl ?_)
              refine ao 42 rfl rfl (st_move (v := .int .i64 b.hi) rfl rfl ?_)
              refine ao 43 rfl rfl (st_cf (vs := [.int .i64 a.hi, .int .i64 b.hi, .bool true]) (r := .tuple #[.int .i64 ((rMul a.hi b.hi true).1), .bool ((rMul a.hi b.hi true).2)]) (c_rMul a.hi b.hi true) Try.func115 rfl (by decide) rfl rfl rfl ?_)
              refine ao 40 rfl rfl (st_move (v := .tuple #[.int .i64 ((rMul a.hi b.hi true).1), .bool ((rMul a.hi b.hi true).2)]) rfl rfl ?_)
              refine ao 44 rfl rfl (st_ex (vs := [.int .i64 ((rMul a.hi b.hi true).1), .bool ((rMul a.hi b.hi true).2)]) (v := .int .i64 ((rMul a.hi b.hi true).1)) rfl rfl rfl ?_)
              refine ao 45 rfl rfl (st_ex (vs := [.int .i64 ((rMul a.hi b.hi true).1), .bool ((rMul a.hi b.hi true).2)]) (v := .bool ((rMul a.hi b.hi true).2)) rfl rfl rfl ?_)
              refine ao 14 rfl rfl (st_assign (v := .int .i64 ((rMul a.hi b.hi true).1)) rfl rfl ?_)
              refine ao 15 rfl rfl (st_assign (v := .bool ((rMul a.hi b.hi true).2)) rfl rfl ?_)
              refine ar_nil ?_
              refine ac_seq ?_
              refine ac_seq ?_
              refine ac_region_lit ?_
              refine ao 46 rfl rfl (st_move (v := .bool false) rfl rfl ?_)
              refine ar_nil ?_
              refine ac_else rfl ?_
              refine ac_skip ?_
              refine ac_seq ?_
              refine ac_seq ?_
              refine ac_region_lit ?_
              refine ao 59 rfl rfl (st_move (v := .bool ((rMul a.hi b.hi false).2)) rfl rfl ?_)
              refine ao 60 rfl rfl (st_un (u := .bool ((rMul a.hi b.hi false).2)) (v := .bool (!((rMul a.hi b.hi false).2))) rfl rfl (un_not rfl) ?_)
              refine ao 61 rfl rfl (st_move (v := .bool (!((rMul a.hi b.hi false).2))) rfl rfl ?_)
              refine bool_split ((rMul a.hi b.hi false).2) (fun h7 => ?_) (fun h7 => ?_)
              · refine ar_gd (d := (some 62)) (by show ((!((rMul a.hi b.hi false).2)) == false) = true; rw [h7]; rfl) rfl (st_move (v := .bool ((rMul a.hi b.hi true).2)) rfl rfl ?_)
                refine ar_gd (d := (some 63)) (by show ((!((rMul a.hi b.hi false).2)) == false) = true; rw [h7]; rfl) rfl (st_un (u := .bool ((rMul a.hi b.hi true).2)) (v := .bool (!((rMul a.hi b.hi true).2))) rfl rfl (un_not rfl) ?_)
                refine ao 64 rfl rfl (st_pkf' (b := !((rMul a.hi b.hi false).2)) (v := .bool (!((rMul a.hi b.hi true).2))) (by rw [h7]; rfl) rfl rfl rfl ?_)
                refine ar_nil ?_
                refine bool_split ((rMul a.hi b.hi true).2) (fun h8 => ?_) (fun h8 => ?_)
                · refine ac_else' (b := !((rMul a.hi b.hi true).2)) (by rw [h8]; rfl) rfl ?_
                  refine ac_skip ?_
                  refine ac_seq ?_
                  refine ac_seq ?_
                  refine ac_region_lit ?_
                  refine ao 66 rfl rfl (st_move (v := .int .i64 3) rfl rfl ?_)
                  refine ao 67 rfl rfl (st_bi (u := .int .i64 3) (v := .int .i64 0) (r := .bool false) rfl rfl rfl (bi_eql (by decide)) ?_)
                  refine ao 68 rfl rfl (st_move (v := .bool false) rfl rfl ?_)
                  refine ar_gd (d := (some 69)) rfl rfl (st_move (v := .int .i64 ((rMul a.hi b.hi false).1)) rfl rfl ?_)
                  refine ar_gd (d := (some 70)) rfl rfl (st_move (v := .int .i64 (rEndsMul_e2 a b)) rfl rfl ?_)
                  refine ar_gd (d := (some 71)) rfl rfl (st_bi (u := .int .i64 ((rMul a.hi b.hi false).1)) (v := .int .i64 (rEndsMul_e2 a b)) (r := .bool (decide (((rMul a.hi b.hi false).1) < (rEndsMul_e2 a b)))) rfl rfl rfl (bi_lss rfl) ?_)
                  refine ao 72 rfl rfl (st_pkf (v := .bool (decide (((rMul a.hi b.hi false).1) < (rEndsMul_e2 a b)))) rfl rfl rfl ?_)
                  refine ar_nil ?_
                  refine ac_mergeE (fun E9 => ((Env.put E9 (some 73) (.int .i64 ((rMul a.hi b.hi false).1))).put (some 7) (.int .i64 ((rMul a.hi b.hi false).1)))) (fun E9 => ((Env.put E9 (some 73) (.int .i64 (rEndsMul_e4 a b))).put (some 7) (.int .i64 (rEndsMul_e4 a b)))) (b := decide (((rMul a.hi b.hi false).1) < (rEndsMul_e2 a b))) rfl (fun hm => ?_) (fun hm => ?_) (fun hm => ?_) ?_
                  · refine ac_region_lit ?_
                    refine ao 73 rfl rfl (st_move (v := .int .i64 ((rMul a.hi b.hi false).1)) rfl rfl ?_)
                    refine ao 7 rfl rfl (st_assign (v := .int .i64 ((rMul a.hi b.hi false).1)) rfl rfl ?_)
                    refine ar_nil ?_
                    exact ⟨rfl, rfl, rfl⟩
                  · unfold rEndsMul_e4; rw [hm]; rfl
                  · unfold rEndsMul_e4; rw [hm]; exact ((put_self rfl).trans (put_self rfl))
                  refine ac_seq ?_
                  refine ac_region_lit ?_
                  refine ao 74 rfl rfl (st_move (v := .int .i64 3) rfl rfl ?_)
                  refine ao 75 rfl rfl (st_bi (u := .int .i64 3) (v := .int .i64 0) (r := .bool false) rfl rfl rfl (bi_eql (by decide)) ?_)
                  refine ao 76 rfl rfl (st_move (v := .bool false) rfl rfl ?_)
                  refine ar_gd (d := (some 77)) rfl rfl (st_move (v := .int .i64 ((rMul a.hi b.hi true).1)) rfl rfl ?_)
                  refine ar_gd (d := (some 78)) rfl rfl (st_move (v := .int .i64 (rEndsMul_e3 a b)) rfl rfl ?_)
                  refine ar_gd (d := (some 79)) rfl rfl (st_bi (u := .int .i64 ((rMul a.hi b.hi true).1)) (v := .int .i64 (rEndsMul_e3 a b)) (r := .bool (decide (((rMul a.hi b.hi true).1) > (rEndsMul_e3 a b)))) rfl rfl rfl (bi_gtr rfl) ?_)
                  refine ao 80 rfl rfl (st_pkf (v := .bool (decide (((rMul a.hi b.hi true).1) > (rEndsMul_e3 a b)))) rfl rfl rfl ?_)
                  refine ar_nil ?_
                  refine ac_mergeE (fun E9 => ((Env.put E9 (some 81) (.int .i64 ((rMul a.hi b.hi true).1))).put (some 8) (.int .i64 ((rMul a.hi b.hi true).1)))) (fun E9 => ((Env.put E9 (some 81) (.int .i64 (rEndsMul_e5 a b))).put (some 8) (.int .i64 (rEndsMul_e5 a b)))) (b := decide (((rMul a.hi b.hi true).1) > (rEndsMul_e3 a b))) rfl (fun hm => ?_) (fun hm => ?_) (fun hm => ?_) ?_
                  · refine ac_region_lit ?_
                    refine ao 81 rfl rfl (st_move (v := .int .i64 ((rMul a.hi b.hi true).1)) rfl rfl ?_)
                    refine ao 8 rfl rfl (st_assign (v := .int .i64 ((rMul a.hi b.hi true).1)) rfl rfl ?_)
                    refine ar_nil ?_
                    exact ⟨rfl, rfl, rfl⟩
                  · unfold rEndsMul_e5; rw [hm]; rfl
                  · unfold rEndsMul_e5; rw [hm]; exact ((put_self rfl).trans (put_self rfl))
                  refine ac_region_lit ?_
                  refine ao 18 rfl rfl (st_move (v := .int .i64 3) rfl rfl ?_)
                  refine ao 19 rfl rfl (st_bi (u := .int .i64 3) (v := .int .i64 1) (r := .int .i64 4) rfl rfl rfl (bi_add (by decide)) ?_)
                  refine ao 9 rfl rfl (st_assign (v := .int .i64 4) rfl rfl ?_)
                  refine ar_nil ?_
                  refine ar_round ?_
                  refine ac_seq ?_
                  refine ac_seq ?_
                  refine ac_region_lit ?_
                  refine ao 16 rfl rfl (st_move (v := .int .i64 4) rfl rfl ?_)
                  refine ao 17 rfl rfl (st_bi (u := .int .i64 4) (v := .int .i64 4) (r := .bool false) rfl rfl rfl (bi_lss (by decide)) ?_)
                  refine ar_nil ?_
                  refine ac_else rfl ?_
                  refine ac_exit ?_
                  refine ac_seq ?_
                  refine ac_region_lit ?_
                  refine ao 82 rfl rfl (st_move (v := .int .i64 (rEndsMul_e4 a b)) rfl rfl ?_)
                  refine ao 83 rfl rfl (st_move (v := .int .i64 (rEndsMul_e5 a b)) rfl rfl ?_)
                  refine ao 84 rfl rfl (st_cf (vs := [.int .i64 (rEndsMul_e4 a b), .int .i64 (rEndsMul_e5 a b)]) (r := .agg #[.int .i64 ((rOf (rEndsMul_e4 a b) (rEndsMul_e5 a b)).lo), .int .i64 ((rOf (rEndsMul_e4 a b) (rEndsMul_e5 a b)).hi), .bool ((rOf (rEndsMul_e4 a b) (rEndsMul_e5 a b)).no)]) (c_rOf (rEndsMul_e4 a b) (rEndsMul_e5 a b)) Try.func112 rfl (by decide) rfl rfl rfl ?_)
                  refine ar_op (d := none) rfl rfl (st_sta (g := g2) (off := 0) (us := [.int .i64 ((rOf (rEndsMul_e4 a b) (rEndsMul_e5 a b)).lo), .int .i64 ((rOf (rEndsMul_e4 a b) (rEndsMul_e5 a b)).hi), .bool ((rOf (rEndsMul_e4 a b) (rEndsMul_e5 a b)).no)]) (cs := [.int .i64 ((rOf (rEndsMul_e4 a b) (rEndsMul_e5 a b)).lo), .int .i64 ((rOf (rEndsMul_e4 a b) (rEndsMul_e5 a b)).hi), .bool ((rOf (rEndsMul_e4 a b) (rEndsMul_e5 a b)).no)]) agg26 0 rfl rfl rfl rfl rfl rfl rfl rfl rfl ?_)
                  refine ar_nil ?_
                  refine ac_ret ?_
                  exact fin_eq (v := .agg #[.int .i64 ((rOf (rEndsMul_e4 a b) (rEndsMul_e5 a b)).lo), .int .i64 ((rOf (rEndsMul_e4 a b) (rEndsMul_e5 a b)).hi), .bool ((rOf (rEndsMul_e4 a b) (rEndsMul_e5 a b)).no)]) (by show _ = Iv.v (rEndsMul a b); rw [rEndsMul, h8, h7, h6, h5, h4, h3, h2, h1] <;> rfl) (fin_ret (res_c (vs := [.int .i64 ((rOf (rEndsMul_e4 a b) (rEndsMul_e5 a b)).lo), .int .i64 ((rOf (rEndsMul_e4 a b) (rEndsMul_e5 a b)).hi), .bool ((rOf (rEndsMul_e4 a b) (rEndsMul_e5 a b)).no)]) agg26 0 rfl rfl rfl rfl rfl rfl))
                · refine ac_then' (b := !((rMul a.hi b.hi true).2)) (by rw [h8]; rfl) rfl ?_
                  refine ac_seq ?_
                  refine ac_region_lit ?_
                  refine ao 65 rfl rfl (st_cf (vs := []) (r := .agg #[.int .i64 rNone.lo, .int .i64 rNone.hi, .bool rNone.no]) c_rNone Try.func111 rfl (by decide) rfl rfl rfl ?_)
                  refine ar_op (d := none) rfl rfl (st_sta (g := g2) (off := 0) (us := [.int .i64 rNone.lo, .int .i64 rNone.hi, .bool rNone.no]) (cs := [.int .i64 rNone.lo, .int .i64 rNone.hi, .bool rNone.no]) agg26 0 rfl rfl rfl rfl rfl rfl rfl rfl rfl ?_)
                  refine ar_nil ?_
                  refine ac_ret ?_
                  exact fin_eq (v := .agg #[.int .i64 rNone.lo, .int .i64 rNone.hi, .bool rNone.no]) (by show _ = Iv.v (rEndsMul a b); rw [rEndsMul, h8, h7, h6, h5, h4, h3, h2, h1] <;> rfl) (fin_ret (res_c (vs := [.int .i64 rNone.lo, .int .i64 rNone.hi, .bool rNone.no]) agg26 0 rfl rfl rfl rfl rfl rfl))
              · refine ar_sk (d := (some 62)) (by show ((!((rMul a.hi b.hi false).2)) == false) = false; rw [h7]; rfl) rfl ?_
                refine ar_sk (d := (some 63)) (by show ((!((rMul a.hi b.hi false).2)) == false) = false; rw [h7]; rfl) rfl ?_
                refine ao 64 rfl rfl (st_pkt' (b := !((rMul a.hi b.hi false).2)) (v := .bool true) (by rw [h7]; rfl) rfl rfl rfl ?_)
                refine ar_nil ?_
                refine ac_then rfl ?_
                refine ac_seq ?_
                refine ac_region_lit ?_
                refine ao 65 rfl rfl (st_cf (vs := []) (r := .agg #[.int .i64 rNone.lo, .int .i64 rNone.hi, .bool rNone.no]) c_rNone Try.func111 rfl (by decide) rfl rfl rfl ?_)
                refine ar_op (d := none) rfl rfl (st_sta (g := g2) (off := 0) (us := [.int .i64 rNone.lo, .int .i64 rNone.hi, .bool rNone.no]) (cs := [.int .i64 rNone.lo, .int .i64 rNone.hi, .bool rNone.no]) agg26 0 rfl rfl rfl rfl rfl rfl rfl rfl rfl ?_)
                refine ar_nil ?_
                refine ac_ret ?_
                exact fin_eq (v := .agg #[.int .i64 rNone.lo, .int .i64 rNone.hi, .bool rNone.no]) (by show _ = Iv.v (rEndsMul a b); rw [rEndsMul, h7, h6, h5, h4, h3, h2, h1] <;> rfl) (fin_ret (res_c (vs := [.int .i64 rNone.lo, .int .i64 rNone.hi, .bool rNone.no]) agg26 0 rfl rfl rfl rfl rfl rfl))
            · refine ac_then' (b := !((rMul a.lo b.hi true).2)) (by rw [h6]; rfl) rfl ?_
              refine ac_seq ?_
              refine ac_region_lit ?_
              refine ao 65 rfl rfl (st_cf (vs := []) (r := .agg #[.int .i64 rNone.lo, .int .i64 rNone.hi, .bool rNone.no]) c_rNone Try.func111 rfl (by decide) rfl rfl rfl ?_)
              refine ar_op (d := none) rfl rfl (st_sta (g := g2) (off := 0) (us := [.int .i64 rNone.lo, .int .i64 rNone.hi, .bool rNone.no]) (cs := [.int .i64 rNone.lo, .int .i64 rNone.hi, .bool rNone.no]) agg26 0 rfl rfl rfl rfl rfl rfl rfl rfl rfl ?_)
              refine ar_nil ?_
              refine ac_ret ?_
              exact fin_eq (v := .agg #[.int .i64 rNone.lo, .int .i64 rNone.hi, .bool rNone.no]) (by show _ = Iv.v (rEndsMul a b); rw [rEndsMul, h6, h5, h4, h3, h2, h1] <;> rfl) (fin_ret (res_c (vs := [.int .i64 rNone.lo, .int .i64 rNone.hi, .bool rNone.no]) agg26 0 rfl rfl rfl rfl rfl rfl))
          · refine ar_sk (d := (some 62)) (by show ((!((rMul a.lo b.hi false).2)) == false) = false; rw [h5]; rfl) rfl ?_
            refine ar_sk (d := (some 63)) (by show ((!((rMul a.lo b.hi false).2)) == false) = false; rw [h5]; rfl) rfl ?_
            refine ao 64 rfl rfl (st_pkt' (b := !((rMul a.lo b.hi false).2)) (v := .bool true) (by rw [h5]; rfl) rfl rfl rfl ?_)
            refine ar_nil ?_
            refine ac_then rfl ?_
            refine ac_seq ?_
            refine ac_region_lit ?_
            refine ao 65 rfl rfl (st_cf (vs := []) (r := .agg #[.int .i64 rNone.lo, .int .i64 rNone.hi, .bool rNone.no]) c_rNone Try.func111 rfl (by decide) rfl rfl rfl ?_)
            refine ar_op (d := none) rfl rfl (st_sta (g := g2) (off := 0) (us := [.int .i64 rNone.lo, .int .i64 rNone.hi, .bool rNone.no]) (cs := [.int .i64 rNone.lo, .int .i64 rNone.hi, .bool rNone.no]) agg26 0 rfl rfl rfl rfl rfl rfl rfl rfl rfl ?_)
            refine ar_nil ?_
            refine ac_ret ?_
            exact fin_eq (v := .agg #[.int .i64 rNone.lo, .int .i64 rNone.hi, .bool rNone.no]) (by show _ = Iv.v (rEndsMul a b); rw [rEndsMul, h5, h4, h3, h2, h1] <;> rfl) (fin_ret (res_c (vs := [.int .i64 rNone.lo, .int .i64 rNone.hi, .bool rNone.no]) agg26 0 rfl rfl rfl rfl rfl rfl))
        · refine ac_then' (b := !((rMul a.hi b.lo true).2)) (by rw [h4]; rfl) rfl ?_
          refine ac_seq ?_
          refine ac_region_lit ?_
          refine ao 65 rfl rfl (st_cf (vs := []) (r := .agg #[.int .i64 rNone.lo, .int .i64 rNone.hi, .bool rNone.no]) c_rNone Try.func111 rfl (by decide) rfl rfl rfl ?_)
          refine ar_op (d := none) rfl rfl (st_sta (g := g2) (off := 0) (us := [.int .i64 rNone.lo, .int .i64 rNone.hi, .bool rNone.no]) (cs := [.int .i64 rNone.lo, .int .i64 rNone.hi, .bool rNone.no]) agg26 0 rfl rfl rfl rfl rfl rfl rfl rfl rfl ?_)
          refine ar_nil ?_
          refine ac_ret ?_
          exact fin_eq (v := .agg #[.int .i64 rNone.lo, .int .i64 rNone.hi, .bool rNone.no]) (by show _ = Iv.v (rEndsMul a b); rw [rEndsMul, h4, h3, h2, h1] <;> rfl) (fin_ret (res_c (vs := [.int .i64 rNone.lo, .int .i64 rNone.hi, .bool rNone.no]) agg26 0 rfl rfl rfl rfl rfl rfl))
      · refine ar_sk (d := (some 62)) (by show ((!((rMul a.hi b.lo false).2)) == false) = false; rw [h3]; rfl) rfl ?_
        refine ar_sk (d := (some 63)) (by show ((!((rMul a.hi b.lo false).2)) == false) = false; rw [h3]; rfl) rfl ?_
        refine ao 64 rfl rfl (st_pkt' (b := !((rMul a.hi b.lo false).2)) (v := .bool true) (by rw [h3]; rfl) rfl rfl rfl ?_)
        refine ar_nil ?_
        refine ac_then rfl ?_
        refine ac_seq ?_
        refine ac_region_lit ?_
        refine ao 65 rfl rfl (st_cf (vs := []) (r := .agg #[.int .i64 rNone.lo, .int .i64 rNone.hi, .bool rNone.no]) c_rNone Try.func111 rfl (by decide) rfl rfl rfl ?_)
        refine ar_op (d := none) rfl rfl (st_sta (g := g2) (off := 0) (us := [.int .i64 rNone.lo, .int .i64 rNone.hi, .bool rNone.no]) (cs := [.int .i64 rNone.lo, .int .i64 rNone.hi, .bool rNone.no]) agg26 0 rfl rfl rfl rfl rfl rfl rfl rfl rfl ?_)
        refine ar_nil ?_
        refine ac_ret ?_
        exact fin_eq (v := .agg #[.int .i64 rNone.lo, .int .i64 rNone.hi, .bool rNone.no]) (by show _ = Iv.v (rEndsMul a b); rw [rEndsMul, h3, h2, h1] <;> rfl) (fin_ret (res_c (vs := [.int .i64 rNone.lo, .int .i64 rNone.hi, .bool rNone.no]) agg26 0 rfl rfl rfl rfl rfl rfl))
    · refine ac_then' (b := !((rMul a.lo b.lo true).2)) (by rw [h2]; rfl) rfl ?_
      refine ac_seq ?_
      refine ac_region_lit ?_
      refine ao 65 rfl rfl (st_cf (vs := []) (r := .agg #[.int .i64 rNone.lo, .int .i64 rNone.hi, .bool rNone.no]) c_rNone Try.func111 rfl (by decide) rfl rfl rfl ?_)
      refine ar_op (d := none) rfl rfl (st_sta (g := g2) (off := 0) (us := [.int .i64 rNone.lo, .int .i64 rNone.hi, .bool rNone.no]) (cs := [.int .i64 rNone.lo, .int .i64 rNone.hi, .bool rNone.no]) agg26 0 rfl rfl rfl rfl rfl rfl rfl rfl rfl ?_)
      refine ar_nil ?_
      refine ac_ret ?_
      exact fin_eq (v := .agg #[.int .i64 rNone.lo, .int .i64 rNone.hi, .bool rNone.no]) (by show _ = Iv.v (rEndsMul a b); rw [rEndsMul, h2, h1] <;> rfl) (fin_ret (res_c (vs := [.int .i64 rNone.lo, .int .i64 rNone.hi, .bool rNone.no]) agg26 0 rfl rfl rfl rfl rfl rfl))
  · refine ar_sk (d := (some 62)) (by show ((!((rMul a.lo b.lo false).2)) == false) = false; rw [h1]; rfl) rfl ?_
    refine ar_sk (d := (some 63)) (by show ((!((rMul a.lo b.lo false).2)) == false) = false; rw [h1]; rfl) rfl ?_
    refine ao 64 rfl rfl (st_pkt' (b := !((rMul a.lo b.lo false).2)) (v := .bool true) (by rw [h1]; rfl) rfl rfl rfl ?_)
    refine ar_nil ?_
    refine ac_then rfl ?_
    refine ac_seq ?_
    refine ac_region_lit ?_
    refine ao 65 rfl rfl (st_cf (vs := []) (r := .agg #[.int .i64 rNone.lo, .int .i64 rNone.hi, .bool rNone.no]) c_rNone Try.func111 rfl (by decide) rfl rfl rfl ?_)
    refine ar_op (d := none) rfl rfl (st_sta (g := g2) (off := 0) (us := [.int .i64 rNone.lo, .int .i64 rNone.hi, .bool rNone.no]) (cs := [.int .i64 rNone.lo, .int .i64 rNone.hi, .bool rNone.no]) agg26 0 rfl rfl rfl rfl rfl rfl rfl rfl rfl ?_)
    refine ar_nil ?_
    refine ac_ret ?_
    exact fin_eq (v := .agg #[.int .i64 rNone.lo, .int .i64 rNone.hi, .bool rNone.no]) (by show _ = Iv.v (rEndsMul a b); rw [rEndsMul, h1] <;> rfl) (fin_ret (res_c (vs := [.int .i64 rNone.lo, .int .i64 rNone.hi, .bool rNone.no]) agg26 0 rfl rfl rfl rfl rfl rfl))
def rMulIv (a : Iv) (b : Iv) : Iv := (bif rRight a then (bif rRight b then (rEndsMul a b) else rNone) else rNone)
set_option maxRecDepth 100000 in
theorem c_rMulIv (a : Iv) (b : Iv) : Gets Try.prog 83 #[.agg #[.int .i64 a.lo, .int .i64 a.hi, .bool a.no], .agg #[.int .i64 b.lo, .int .i64 b.hi, .bool b.no]] (Iv.v (rMulIv a b)) := by
  refine gets_fin Try.func83 rfl rfl rfl ?_
  refine ac_seq ?_
  refine ac_region_lit ?_
  refine ao 2 rfl rfl (st_box (v := .agg #[.int .i64 a.lo, .int .i64 a.hi, .bool a.no]) (cs := [.int .i64 a.lo, .int .i64 a.hi, .bool a.no]) rfl rfl rfl fun g0 => ?_)
  refine ao 3 rfl rfl (st_box (v := .agg #[.int .i64 b.lo, .int .i64 b.hi, .bool b.no]) (cs := [.int .i64 b.lo, .int .i64 b.hi, .bool b.no]) rfl rfl rfl fun g1 => ?_)
  refine ao 4 rfl rfl (st_new zero26 rfl fun g2 => ?_)
  refine ar_nil ?_
  refine ac_seq ?_
  refine ac_seq ?_
  refine ac_region_lit ?_
  refine ao 5 rfl rfl (st_lda (g := g0) (off := 0) (vs := [.int .i64 a.lo, .int .i64 a.hi, .bool a.no]) agg26 2 rfl rfl rfl rfl rfl rfl ?_)
  refine ao 6 rfl rfl (st_cf (vs := [.agg #[.int .i64 a.lo, .int .i64 a.hi, .bool a.no]]) (r := .bool (rRight a)) (c_rRight a) Try.func40 rfl (by decide) rfl rfl rfl ?_)
  refine ao 7 rfl rfl (st_un (u := .bool (rRight a)) (v := .bool (!(rRight a))) rfl rfl (un_not rfl) ?_)
  refine ao 8 rfl rfl (st_move (v := .bool (!(rRight a))) rfl rfl ?_)
  refine bool_split (rRight a) (fun h1 => ?_) (fun h1 => ?_)
  · refine ar_gd (d := (some 9)) (by show ((!(rRight a)) == false) = true; rw [h1]; rfl) rfl (st_lda (g := g1) (off := 0) (vs := [.int .i64 b.lo, .int .i64 b.hi, .bool b.no]) agg26 1 rfl rfl rfl rfl rfl rfl ?_)
    refine ar_gd (d := (some 10)) (by show ((!(rRight a)) == false) = true; rw [h1]; rfl) rfl (st_cf (vs := [.agg #[.int .i64 b.lo, .int .i64 b.hi, .bool b.no]]) (r := .bool (rRight b)) (c_rRight b) Try.func40 rfl (by decide) rfl rfl rfl ?_)
    refine ar_gd (d := (some 11)) (by show ((!(rRight a)) == false) = true; rw [h1]; rfl) rfl (st_un (u := .bool (rRight b)) (v := .bool (!(rRight b))) rfl rfl (un_not rfl) ?_)
    refine ao 12 rfl rfl (st_pkf' (b := !(rRight a)) (v := .bool (!(rRight b))) (by rw [h1]; rfl) rfl rfl rfl ?_)
    refine ar_nil ?_
    refine bool_split (rRight b) (fun h2 => ?_) (fun h2 => ?_)
    · refine ac_else' (b := !(rRight b)) (by rw [h2]; rfl) rfl ?_
      refine ac_skip ?_
      refine ac_seq ?_
      refine ac_region_lit ?_
      refine ao 14 rfl rfl (st_lda (g := g0) (off := 0) (vs := [.int .i64 a.lo, .int .i64 a.hi, .bool a.no]) agg26 2 rfl rfl rfl rfl rfl rfl ?_)
      refine ao 15 rfl rfl (st_lda (g := g1) (off := 0) (vs := [.int .i64 b.lo, .int .i64 b.hi, .bool b.no]) agg26 1 rfl rfl rfl rfl rfl rfl ?_)
      refine ao 16 rfl rfl (st_cf (vs := [.agg #[.int .i64 a.lo, .int .i64 a.hi, .bool a.no], .agg #[.int .i64 b.lo, .int .i64 b.hi, .bool b.no], .bool false]) (r := .agg #[.int .i64 ((rEndsMul a b).lo), .int .i64 ((rEndsMul a b).hi), .bool ((rEndsMul a b).no)]) (c_rEndsMul a b) Try.func114 rfl (by decide) rfl rfl rfl ?_)
      refine ar_op (d := none) rfl rfl (st_sta (g := g2) (off := 0) (us := [.int .i64 ((rEndsMul a b).lo), .int .i64 ((rEndsMul a b).hi), .bool ((rEndsMul a b).no)]) (cs := [.int .i64 ((rEndsMul a b).lo), .int .i64 ((rEndsMul a b).hi), .bool ((rEndsMul a b).no)]) agg26 0 rfl rfl rfl rfl rfl rfl rfl rfl rfl ?_)
      refine ar_nil ?_
      refine ac_ret ?_
      exact fin_eq (v := .agg #[.int .i64 ((rEndsMul a b).lo), .int .i64 ((rEndsMul a b).hi), .bool ((rEndsMul a b).no)]) (by show _ = Iv.v (rMulIv a b); rw [rMulIv, h2, h1] <;> rfl) (fin_ret (res_c (vs := [.int .i64 ((rEndsMul a b).lo), .int .i64 ((rEndsMul a b).hi), .bool ((rEndsMul a b).no)]) agg26 0 rfl rfl rfl rfl rfl rfl))
    · refine ac_then' (b := !(rRight b)) (by rw [h2]; rfl) rfl ?_
      refine ac_seq ?_
      refine ac_region_lit ?_
      refine ao 13 rfl rfl (st_cf (vs := []) (r := .agg #[.int .i64 rNone.lo, .int .i64 rNone.hi, .bool rNone.no]) c_rNone Try.func111 rfl (by decide) rfl rfl rfl ?_)
      refine ar_op (d := none) rfl rfl (st_sta (g := g2) (off := 0) (us := [.int .i64 rNone.lo, .int .i64 rNone.hi, .bool rNone.no]) (cs := [.int .i64 rNone.lo, .int .i64 rNone.hi, .bool rNone.no]) agg26 0 rfl rfl rfl rfl rfl rfl rfl rfl rfl ?_)
      refine ar_nil ?_
      refine ac_ret ?_
      exact fin_eq (v := .agg #[.int .i64 rNone.lo, .int .i64 rNone.hi, .bool rNone.no]) (by show _ = Iv.v (rMulIv a b); rw [rMulIv, h2, h1] <;> rfl) (fin_ret (res_c (vs := [.int .i64 rNone.lo, .int .i64 rNone.hi, .bool rNone.no]) agg26 0 rfl rfl rfl rfl rfl rfl))
  · refine ar_sk (d := (some 9)) (by show ((!(rRight a)) == false) = false; rw [h1]; rfl) rfl ?_
    refine ar_sk (d := (some 10)) (by show ((!(rRight a)) == false) = false; rw [h1]; rfl) rfl ?_
    refine ar_sk (d := (some 11)) (by show ((!(rRight a)) == false) = false; rw [h1]; rfl) rfl ?_
    refine ao 12 rfl rfl (st_pkt' (b := !(rRight a)) (v := .bool true) (by rw [h1]; rfl) rfl rfl rfl ?_)
    refine ar_nil ?_
    refine ac_then rfl ?_
    refine ac_seq ?_
    refine ac_region_lit ?_
    refine ao 13 rfl rfl (st_cf (vs := []) (r := .agg #[.int .i64 rNone.lo, .int .i64 rNone.hi, .bool rNone.no]) c_rNone Try.func111 rfl (by decide) rfl rfl rfl ?_)
    refine ar_op (d := none) rfl rfl (st_sta (g := g2) (off := 0) (us := [.int .i64 rNone.lo, .int .i64 rNone.hi, .bool rNone.no]) (cs := [.int .i64 rNone.lo, .int .i64 rNone.hi, .bool rNone.no]) agg26 0 rfl rfl rfl rfl rfl rfl rfl rfl rfl ?_)
    refine ar_nil ?_
    refine ac_ret ?_
    exact fin_eq (v := .agg #[.int .i64 rNone.lo, .int .i64 rNone.hi, .bool rNone.no]) (by show _ = Iv.v (rMulIv a b); rw [rMulIv, h1] <;> rfl) (fin_ret (res_c (vs := [.int .i64 rNone.lo, .int .i64 rNone.hi, .bool rNone.no]) agg26 0 rfl rfl rfl rfl rfl rfl))
end Go.Proofs.Ythngkopcadlciaa