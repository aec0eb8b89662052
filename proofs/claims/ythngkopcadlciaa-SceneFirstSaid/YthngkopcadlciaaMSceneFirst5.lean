import Derived.Test.YthngkopcadlciaaMSceneFirst4
import Derived.Test.YthngkopcadlciaaMSceneFirst2
import Derived.Test.YthngkopcadlciaaRIv
import Derived.Test.YthngkopcadlciaaMSceneFirst0
set_option linter.unusedVariables false
set_option linter.unusedSimpArgs false
namespace Go.Proofs.Ythngkopcadlciaa
open Go.RowKit
attribute [local irreducible] AC AR DWalk
def endsDiv_e0 (a : Iv) (b : Iv) : Iv := (ivOf ((numDiv a.lo b.lo false).1) ((numDiv a.lo b.lo true).1))
def endsDiv_e1 (a : Iv) (b : Iv) : Iv := (ivOf (min ((endsDiv_e0 a b).lo) ((numDiv a.lo b.lo false).1)) (max ((endsDiv_e0 a b).hi) ((numDiv a.lo b.lo true).1)))
def endsDiv_e2 (a : Iv) (b : Iv) : Iv := (ivOf (min ((endsDiv_e1 a b).lo) ((numDiv a.lo b.hi false).1)) (max ((endsDiv_e1 a b).hi) ((numDiv a.lo b.hi true).1)))
def endsDiv_e3 (a : Iv) (b : Iv) : Iv := (ivOf (min ((endsDiv_e2 a b).lo) ((numDiv a.hi b.lo false).1)) (max ((endsDiv_e2 a b).hi) ((numDiv a.hi b.lo true).1)))
def endsDiv_e4 (a : Iv) (b : Iv) : Iv := (ivOf (min ((endsDiv_e3 a b).lo) ((numDiv a.hi b.hi false).1)) (max ((endsDiv_e3 a b).hi) ((numDiv a.hi b.hi true).1)))
def endsDiv (a : Iv) (b : Iv) : Iv := (bif (numDiv a.lo b.lo false).2 then (bif (numDiv a.lo b.lo true).2 then (bif (numDiv a.lo b.hi false).2 then (bif (numDiv a.lo b.hi true).2 then (bif (numDiv a.hi b.lo false).2 then (bif (numDiv a.hi b.lo true).2 then (bif (numDiv a.hi b.hi false).2 then (bif (numDiv a.hi b.hi true).2 then (endsDiv_e4 a b) else ivNone) else ivNone) else ivNone) else ivNone) else ivNone) else ivNone) else ivNone) else ivNone)
set_option maxRecDepth 100000 in
set_option maxHeartbeats 4000000 in
theorem c_endsDiv (a : Iv) (b : Iv) : Gets Try.prog 71 #[.func (.func 72) #[] #[], .agg #[.int .i64 a.lo, .int .i64 a.hi, .bool a.no], .agg #[.int .i64 b.lo, .int .i64 b.hi, .bool b.no]] (Iv.v (endsDiv a b)) := by
  refine gets_fin Try.func71 rfl rfl rfl ?_
  refine ac_seq ?_
  refine ac_region_lit ?_
  refine ao 4 rfl rfl (st_box (v := .agg #[.int .i64 a.lo, .int .i64 a.hi, .bool a.no]) (cs := [.int .i64 a.lo, .int .i64 a.hi, .bool a.no]) rfl rfl rfl fun g0 => ?_)
  refine ao 5 rfl rfl (st_box (v := .agg #[.int .i64 b.lo, .int .i64 b.hi, .bool b.no]) (cs := [.int .i64 b.lo, .int .i64 b.hi, .bool b.no]) rfl rfl rfl fun g1 => ?_)
  refine ao 6 rfl rfl (st_new zero26 rfl fun g2 => ?_)
  refine ar_nil ?_
  refine ac_seq ?_
  refine ac_region_lit ?_
  refine ao 7 rfl rfl (st_new zero26 rfl fun g3 => ?_)
  refine ar_nil ?_
  refine ac_seq ?_
  refine ac_region_lit ?_
  refine ao 8 rfl rfl (st_assign (v := .bool true) rfl rfl ?_)
  refine ar_nil ?_
  refine ac_seq ?_
  refine ac_seq ?_
  refine ac_region_lit ?_
  refine ao 17 rfl rfl (st_fa (g := g0) (off := 0) rfl fa26_0 rfl ?_)
  refine ao 18 rfl rfl (st_ldc (g := g0) (off := 0) (v := .int .i64 a.lo) cell3 3 rfl rfl rfl rfl rfl ?_)
  refine ao 19 rfl rfl (st_fa (g := g0) (off := 0) rfl fa26_1 rfl ?_)
  refine ao 20 rfl rfl (st_ldc (g := g0) (off := 1) (v := .int .i64 a.hi) cell3 3 rfl rfl rfl rfl rfl ?_)
  refine ao 21 rfl rfl (st_bd (us := [(0, .int .i64 a.lo), (1, .int .i64 a.hi)]) (v := .agg #[.int .i64 a.lo, .int .i64 a.hi]) rfl rfl (bd118_0_1 _ _) ?_)
  refine ao 22 rfl rfl (st_move (v := .int .i64 0) rfl rfl ?_)
  refine ar_nil ?_
  refine ac_block ?_
  refine ac_rounds 61 ?_
  refine ar_round ?_
  refine ac_seq ?_
  refine ac_region_lit ?_
  refine ao 23 rfl rfl (st_bi (u := .int .i64 0) (v := .int .i64 2) (r := .bool true) rfl rfl rfl (bi_lss (by decide)) ?_)
  refine ar_nil ?_
  refine ac_seq ?_
  refine ac_then rfl ?_
  refine ac_skip ?_
  refine ac_seq ?_
  refine ac_block ?_
  refine ac_seq ?_
  refine ac_region_lit ?_
  refine ao 24 rfl rfl (st_ix (u := .agg #[.int .i64 a.lo, .int .i64 a.hi]) (i := .int .i64 0) (v := .int .i64 a.lo) rfl rfl rfl (ix118_0 _ _) ?_)
  refine ao 10 rfl rfl (st_assign (v := .int .i64 a.lo) rfl rfl ?_)
  refine ar_nil ?_
  refine ac_seq ?_
  refine ac_region_lit ?_
  refine ao 25 rfl rfl (st_fa (g := g1) (off := 0) rfl fa26_0 rfl ?_)
  refine ao 26 rfl rfl (st_ldc (g := g1) (off := 0) (v := .int .i64 b.lo) cell3 2 rfl rfl rfl rfl rfl ?_)
  refine ao 27 rfl rfl (st_fa (g := g1) (off := 0) rfl fa26_1 rfl ?_)
  refine ao 28 rfl rfl (st_ldc (g := g1) (off := 1) (v := .int .i64 b.hi) cell3 2 rfl rfl rfl rfl rfl ?_)
  refine ao 29 rfl rfl (st_bd (us := [(0, .int .i64 b.lo), (1, .int .i64 b.hi)]) (v := .agg #[.int .i64 b.lo, .int .i64 b.hi]) rfl rfl (bd118_0_1 _ _) ?_)
  refine ao 30 rfl rfl (st_move (v := .int .i64 0) rfl rfl ?_)
  refine ar_nil ?_
  refine ac_block ?_
  refine ac_rounds 61 ?_
  refine ar_round ?_
  refine ac_seq ?_
  refine ac_region_lit ?_
  refine ao 31 rfl rfl (st_bi (u := .int .i64 0) (v := .int .i64 2) (r := .bool true) rfl rfl rfl (bi_lss (by decide)) ?_)
  refine ar_nil ?_
  refine ac_seq ?_
  refine ac_then rfl ?_
  refine ac_skip ?_
  refine ac_seq ?_
  refine ac_block ?_
  refine ac_seq ?_
  refine ac_region_lit ?_
  refine ao 32 rfl rfl (st_ix (u := .agg #[.int .i64 b.lo, .int .i64 b.hi]) (i := .int .i64 0) (v := .int .i64 b.lo) rfl rfl rfl (ix118_0 _ _) ?_)
  refine ao 12 rfl rfl (st_assign (v := .int .i64 b.lo) rfl rfl ?_)
  refine ar_nil ?_
  refine ac_seq ?_
  refine ac_region_lit ?_
  refine ao 34 rfl rfl (st_move (v := .func (.func 72) #[] #[]) rfl rfl ?_)
  refine ao 35 rfl rfl (st_move (v := .int .i64 a.lo) rfl rfl ?_)
  refine ao 36 rfl rfl (st_move (v := .int .i64 b.lo) rfl rfl ?_)
  refine ao 37 rfl rfl (st_cv (vs := [.int .i64 a.lo, .int .i64 b.lo, .bool false]) (r := .tuple #[.int .i64 ((numDiv a.lo b.lo false).1), .bool ((numDiv a.lo b.lo false).2)]) (c_numDiv a.lo b.lo false) Try.func72 rfl (by decide) rfl rfl rfl ?_)
  refine ao 33 rfl rfl (st_move (v := .tuple #[.int .i64 ((numDiv a.lo b.lo false).1), .bool ((numDiv a.lo b.lo false).2)]) rfl rfl ?_)
  refine ao 38 rfl rfl (st_ex (vs := [.int .i64 ((numDiv a.lo b.lo false).1), .bool ((numDiv a.lo b.lo false).2)]) (v := .int .i64 ((numDiv a.lo b.lo false).1)) rfl rfl rfl ?_)
  refine ao 39 rfl rfl (st_ex (vs := [.int .i64 ((numDiv a.lo b.lo false).1), .bool ((numDiv a.lo b.lo false).2)]) (v := .bool ((numDiv a.lo b.lo false).2)) rfl rfl rfl ?_)
  refine ao 13 rfl rfl (st_assign (v := .int .i64 ((numDiv a.lo b.lo false).1)) rfl rfl ?_)
  refine ao 14 rfl rfl (st_assign (v := .bool ((numDiv a.lo b.lo false).2)) rfl rfl ?_)
  refine ar_nil ?_
  refine ac_seq ?_
  refine ac_region_lit ?_
  refine ao 41 rfl rfl (st_move (v := .func (.func 72) #[] #[]) rfl rfl ?_)
  refine ao 42 rfl rfl (st_move (v := .int .i64 a.lo) rfl rfl ?_)
  refine ao 43 rfl rfl (st_move (v := .int .i64 b.lo) rfl rfl ?_)
  refine ao 44 rfl rfl (st_cv (vs := [.int .i64 a.lo, .int .i64 b.lo, .bool true]) (r := .tuple #[.int .i64 ((numDiv a.lo b.lo true).1), .bool ((numDiv a.lo b.lo true).2)]) (c_numDiv a.lo b.lo true) Try.func72 rfl (by decide) rfl rfl rfl ?_)
  refine ao 40 rfl rfl (st_move (v := .tuple #[.int .i64 ((numDiv a.lo b.lo true).1), .bool ((numDiv a.lo b.lo true).2)]) rfl rfl ?_)
  refine ao 45 rfl rfl (st_ex (vs := [.int .i64 ((numDiv a.lo b.lo true).1), .bool ((numDiv a.lo b.lo true).2)]) (v := .int .i64 ((numDiv a.lo b.lo true).1)) rfl rfl rfl ?_)
  refine ao 46 rfl rfl (st_ex (vs := [.int .i64 ((numDiv a.lo b.lo true).1), .bool ((numDiv a.lo b.lo true).2)]) (v := .bool ((numDiv a.lo b.lo true).2)) rfl rfl rfl ?_)
  refine ao 15 rfl rfl (st_assign (v := .int .i64 ((numDiv a.lo b.lo true).1)) rfl rfl ?_)
  refine ao 16 rfl rfl (st_assign (v := .bool ((numDiv a.lo b.lo true).2)) rfl rfl ?_)
  refine ar_nil ?_
  refine ac_seq ?_
  refine ac_seq ?_
  refine ac_region_lit ?_
  refine ao 47 rfl rfl (st_move (v := .bool ((numDiv a.lo b.lo false).2)) rfl rfl ?_)
  refine ao 48 rfl rfl (st_un (u := .bool ((numDiv a.lo b.lo false).2)) (v := .bool (!((numDiv a.lo b.lo false).2))) rfl rfl (un_not rfl) ?_)
  refine ao 49 rfl rfl (st_move (v := .bool (!((numDiv a.lo b.lo false).2))) rfl rfl ?_)
  refine bool_split ((numDiv a.lo b.lo false).2) (fun h1 => ?_) (fun h1 => ?_)
  · refine ar_gd (d := (some 50)) (by show ((!((numDiv a.lo b.lo false).2)) == false) = true; rw [h1]; rfl) rfl (st_move (v := .bool ((numDiv a.lo b.lo true).2)) rfl rfl ?_)
    refine ar_gd (d := (some 51)) (by show ((!((numDiv a.lo b.lo false).2)) == false) = true; rw [h1]; rfl) rfl (st_un (u := .bool ((numDiv a.lo b.lo true).2)) (v := .bool (!((numDiv a.lo b.lo true).2))) rfl rfl (un_not rfl) ?_)
    refine ao 52 rfl rfl (st_pkf' (b := !((numDiv a.lo b.lo false).2)) (v := .bool (!((numDiv a.lo b.lo true).2))) (by rw [h1]; rfl) rfl rfl rfl ?_)
    refine ar_nil ?_
    refine bool_split ((numDiv a.lo b.lo true).2) (fun h2 => ?_) (fun h2 => ?_)
    · refine ac_else' (b := !((numDiv a.lo b.lo true).2)) (by rw [h2]; rfl) rfl ?_
      refine ac_skip ?_
      refine ac_seq ?_
      refine ac_seq ?_
      refine ac_region_lit ?_
      refine ao 54 rfl rfl (st_move (v := .bool true) rfl rfl ?_)
      refine ar_nil ?_
      refine ac_then rfl ?_
      refine ac_region_lit ?_
      refine ao 55 rfl rfl (st_move (v := .int .i64 ((numDiv a.lo b.lo false).1)) rfl rfl ?_)
      refine ao 56 rfl rfl (st_move (v := .int .i64 ((numDiv a.lo b.lo true).1)) rfl rfl ?_)
      refine ao 57 rfl rfl (st_cf (vs := [.int .i64 ((numDiv a.lo b.lo false).1), .int .i64 ((numDiv a.lo b.lo true).1)]) (r := .agg #[.int .i64 ((endsDiv_e0 a b).lo), .int .i64 ((endsDiv_e0 a b).hi), .bool ((endsDiv_e0 a b).no)]) (c_ivOf ((numDiv a.lo b.lo false).1) ((numDiv a.lo b.lo true).1)) Try.func70 rfl (by decide) rfl rfl rfl ?_)
      refine ar_op (d := none) rfl rfl (st_sta (g := g3) (off := 0) (us := [.int .i64 ((endsDiv_e0 a b).lo), .int .i64 ((endsDiv_e0 a b).hi), .bool ((endsDiv_e0 a b).no)]) (cs := [.int .i64 ((endsDiv_e0 a b).lo), .int .i64 ((endsDiv_e0 a b).hi), .bool ((endsDiv_e0 a b).no)]) agg26 0 rfl rfl rfl rfl rfl rfl rfl rfl rfl ?_)
      refine ao 8 rfl rfl (st_assign (v := .bool false) rfl rfl ?_)
      refine ar_nil ?_
      refine ac_region_lit ?_
      refine ao 58 rfl rfl (st_fa (g := g3) (off := 0) rfl fa26_0 rfl ?_)
      refine ao 59 rfl rfl (st_ldc (g := g3) (off := 0) (v := .int .i64 ((endsDiv_e0 a b).lo)) cell3 0 rfl rfl rfl rfl rfl ?_)
      refine ao 60 rfl rfl (st_move (v := .int .i64 ((numDiv a.lo b.lo false).1)) rfl rfl ?_)
      refine ao 61 rfl rfl (st_mn (x := ((endsDiv_e0 a b).lo)) (y := ((numDiv a.lo b.lo false).1)) (c := (min ((endsDiv_e0 a b).lo) ((numDiv a.lo b.lo false).1))) rfl rfl rfl ?_)
      refine ao 62 rfl rfl (st_fa (g := g3) (off := 0) rfl fa26_1 rfl ?_)
      refine ao 63 rfl rfl (st_ldc (g := g3) (off := 1) (v := .int .i64 ((endsDiv_e0 a b).hi)) cell3 0 rfl rfl rfl rfl rfl ?_)
      refine ao 64 rfl rfl (st_move (v := .int .i64 ((numDiv a.lo b.lo true).1)) rfl rfl ?_)
      refine ao 65 rfl rfl (st_mx (x := ((endsDiv_e0 a b).hi)) (y := ((numDiv a.lo b.lo true).1)) (c := (max ((endsDiv_e0 a b).hi) ((numDiv a.lo b.lo true).1))) rfl rfl rfl ?_)
      refine ao 66 rfl rfl (st_cf (vs := [.int .i64 (min ((endsDiv_e0 a b).lo) ((numDiv a.lo b.lo false).1)), .int .i64 (max ((endsDiv_e0 a b).hi) ((numDiv a.lo b.lo true).1))]) (r := .agg #[.int .i64 ((endsDiv_e1 a b).lo), .int .i64 ((endsDiv_e1 a b).hi), .bool ((endsDiv_e1 a b).no)]) (c_ivOf (min ((endsDiv_e0 a b).lo) ((numDiv a.lo b.lo false).1)) (max ((endsDiv_e0 a b).hi) ((numDiv a.lo b.lo true).1))) Try.func70 rfl (by decide) rfl rfl rfl ?_)
      refine ar_op (d := none) rfl rfl (st_sta (g := g3) (off := 0) (us := [.int .i64 ((endsDiv_e1 a b).lo), .int .i64 ((endsDiv_e1 a b).hi), .bool ((endsDiv_e1 a b).no)]) (cs := [.int .i64 ((endsDiv_e1 a b).lo), .int .i64 ((endsDiv_e1 a b).hi), .bool ((endsDiv_e1 a b).no)]) agg26 0 rfl rfl rfl rfl rfl rfl rfl rfl rfl ?_)
      refine ar_nil ?_
      refine ac_region_lit ?_
      refine ao 67 rfl rfl (st_bi (u := .int .i64 0) (v := .int .i64 1) (r := .int .i64 1) rfl rfl rfl (bi_add (by decide)) ?_)
      refine ao 30 rfl rfl (st_move (v := .int .i64 1) rfl rfl ?_)
      refine ar_nil ?_
      refine ar_round ?_
      refine ac_seq ?_
      refine ac_region_lit ?_
      refine ao 31 rfl rfl (st_bi (u := .int .i64 1) (v := .int .i64 2) (r := .bool true) rfl rfl rfl (bi_lss (by decide)) ?_)
      refine ar_nil ?_
      refine ac_seq ?_
      refine ac_then rfl ?_
      refine ac_skip ?_
      refine ac_seq ?_
      refine ac_block ?_
      refine ac_seq ?_
      refine ac_region_lit ?_
      refine ao 32 rfl rfl (st_ix (u := .agg #[.int .i64 b.lo, .int .i64 b.hi]) (i := .int .i64 1) (v := .int .i64 b.hi) rfl rfl rfl (ix118_1 _ _) ?_)
      refine ao 12 rfl rfl (st_assign (v := .int .i64 b.hi) rfl rfl ?_)
      refine ar_nil ?_
      refine ac_seq ?_
      refine ac_region_lit ?_
      refine ao 34 rfl rfl (st_move (v := .func (.func 72) #[] #[]) rfl rfl ?_)
      refine ao 35 rfl rfl (st_move (v := .int .i64 a.lo) rfl rfl ?_)
      refine ao 36 rfl rfl (st_move (v := .int .i64 b.hi) rfl rfl ?_)
      refine ao 37 rfl rfl (st_cv (vs := [.int .i64 a.lo, .int .i64 b.hi, .bool false]) (r := .tuple #[.int .i64 ((numDiv a.lo b.hi false).1), .bool ((numDiv a.lo b.hi false).2)]) (c_numDiv a.lo b.hi false) Try.func72 rfl (by decide) rfl rfl rfl ?_)
      refine ao 33 rfl rfl (st_move (v := .tuple #[.int .i64 ((numDiv a.lo b.hi false).1), .bool ((numDiv a.lo b.hi false).2)]) rfl rfl ?_)
      refine ao 38 rfl rfl (st_ex (vs := [.int .i64 ((numDiv a.lo b.hi false).1), .bool ((numDiv a.lo b.hi false).2)]) (v := .int .i64 ((numDiv a.lo b.hi false).1)) rfl rfl rfl ?_)
      refine ao 39 rfl rfl (st_ex (vs := [.int .i64 ((numDiv a.lo b.hi false).1), .bool ((numDiv a.lo b.hi false).2)]) (v := .bool ((numDiv a.lo b.hi false).2)) rfl rfl rfl ?_)
      refine ao 13 rfl rfl (st_assign (v := .int .i64 ((numDiv a.lo b.hi false).1)) rfl rfl ?_)
      refine ao 14 rfl rfl (st_assign (v := .bool ((numDiv a.lo b.hi false).2)) rfl rfl ?_)
      refine ar_nil ?_
      refine ac_seq ?_
      refine ac_region_lit ?_
      refine ao 41 rfl rfl (st_move (v := .func (.func 72) #[] #[]) rfl rfl ?_)
      refine ao 42 rfl rfl (st_move (v := .int .i64 a.lo) rfl rfl ?_)
      refine ao 43 rfl rfl (st_move (v := .int .i64 b.hi) rfl rfl ?_)
      refine ao 44 rfl rfl (st_cv (vs := [.int .i64 a.lo, .int .i64 b.hi, .bool true]) (r := .tuple #[.int .i64 ((numDiv a.lo b.hi true).1), .bool ((numDiv a.lo b.hi true).2)]) (c_numDiv a.lo b.hi true) Try.func72 rfl (by decide) rfl rfl rfl ?_)
      refine ao 40 rfl rfl (st_move (v := .tuple #[.int .i64 ((numDiv a.lo b.hi true).1), .bool ((numDiv a.lo b.hi true).2)]) rfl rfl ?_)
      refine ao 45 rfl rfl (st_ex (vs := [.int .i64 ((numDiv a.lo b.hi true).1), .bool ((numDiv a.lo b.hi true).2)]) (v := .int .i64 ((numDiv a.lo b.hi true).1)) rfl rfl rfl ?_)
      refine ao 46 rfl rfl (st_ex (vs := [.int .i64 ((numDiv a.lo b.hi true).1), .bool ((numDiv a.lo b.hi true).2)]) (v := .bool ((numDiv a.lo b.hi true).2)) rfl rfl rfl ?_)
      refine ao 15 rfl rfl (st_assign (v := .int .i64 ((numDiv a.lo b.hi true).1)) rfl rfl ?_)
      refine ao 16 rfl rfl (st_assign (v := .bool ((numDiv a.lo b.hi true).2)) rfl rfl ?_)
      refine ar_nil ?_
      refine ac_seq ?_
      refine ac_seq ?_
      refine ac_region_lit ?_
      refine ao 47 rfl rfl (st_move (v := .bool ((numDiv a.lo b.hi false).2)) rfl rfl ?_)
      refine ao 48 rfl rfl (st_un (u := .bool ((numDiv a.lo b.hi false).2)) (v := .bool (!((numDiv a.lo b.hi false).2))) rfl rfl (un_not rfl) ?_)
      refine ao 49 rfl rfl (st_move (v := .bool (!((numDiv a.lo b.hi false).2))) rfl rfl ?_)
      refine bool_split ((numDiv a.lo b.hi false).2) (fun h3 => ?_) (fun h3 => ?_)
      · refine ar_gd (d := (some 50)) (by show ((!((numDiv a.lo b.hi false).2)) == false) = true; rw [h3]; rfl) rfl (st_move (v := .bool ((numDiv a.lo b.hi true).2)) rfl rfl ?_)
        refine ar_gd (d := (some 51)) (by show ((!((numDiv a.lo b.hi false).2)) == false) = true; rw [h3]; rfl) rfl (st_un (u := .bool ((numDiv a.lo b.hi true).2)) (v := .bool (!((numDiv a.lo b.hi true).2))) rfl rfl (un_not rfl) ?_)
        refine ao 52 rfl rfl (st_pkf' (b := !((numDiv a.lo b.hi false).2)) (v := .bool (!((numDiv a.lo b.hi true).2))) (by rw [h3]; rfl) rfl rfl rfl ?_)
        refine ar_nil ?_
        refine bool_split ((numDiv a.lo b.hi true).2) (fun h4 => ?_) (fun h4 => ?_)
        · refine ac_else' (b := !((numDiv a.lo b.hi true).2)) (by rw [h4]; rfl) rfl ?_
          refine ac_skip ?_
          refine ac_seq ?_
          refine ac_seq ?_
          refine ac_region_lit ?_
          refine ao 54 rfl rfl (st_move (v := .bool false) rfl rfl ?_)
          refine ar_nil ?_
          refine ac_else rfl ?_
          refine ac_skip ?_
          refine ac_region_lit ?_
          refine ao 58 rfl rfl (st_fa (g := g3) (off := 0) rfl fa26_0 rfl ?_)
          refine ao 59 rfl rfl (st_ldc (g := g3) (off := 0) (v := .int .i64 ((endsDiv_e1 a b).lo)) cell3 0 rfl rfl rfl rfl rfl ?_)
          refine ao 60 rfl rfl (st_move (v := .int .i64 ((numDiv a.lo b.hi false).1)) rfl rfl ?_)
          refine ao 61 rfl rfl (st_mn (x := ((endsDiv_e1 a b).lo)) (y := ((numDiv a.lo b.hi false).1)) (c := (min ((endsDiv_e1 a b).lo) ((numDiv a.lo b.hi false).1))) rfl rfl rfl ?_)
          refine ao 62 rfl rfl (st_fa (g := g3) (off := 0) rfl fa26_1 rfl ?_)
          refine ao 63 rfl rfl (st_ldc (g := g3) (off := 1) (v := .int .i64 ((endsDiv_e1 a b).hi)) cell3 0 rfl rfl rfl rfl rfl ?_)
          refine ao 64 rfl rfl (st_move (v := .int .i64 ((numDiv a.lo b.hi true).1)) rfl rfl ?_)
          refine ao 65 rfl rfl (st_mx (x := ((endsDiv_e1 a b).hi)) (y := ((numDiv a.lo b.hi true).1)) (c := (max ((endsDiv_e1 a b).hi) ((numDiv a.lo b.hi true).1))) rfl rfl rfl ?_)
          refine ao 66 rfl rfl (st_cf (vs := [.int .i64 (min ((endsDiv_e1 a b).lo) ((numDiv a.lo b.hi false).1)), .int .i64 (max ((endsDiv_e1 a b).hi) ((numDiv a.lo b.hi true).1))]) (r := .agg #[.int .i64 ((endsDiv_e2 a b).lo), .int .i64 ((endsDiv_e2 a b).hi), .bool ((endsDiv_e2 a b).no)]) (c_ivOf (min ((endsDiv_e1 a b).lo) ((numDiv a.lo b.hi false).1)) (max ((endsDiv_e1 a b).hi) ((numDiv a.lo b.hi true).1))) Try.func70 rfl (by decide) rfl rfl rfl ?_)
          refine ar_op (d := none) rfl rfl (st_sta (g := g3) (off := 0) (us := [.int .i64 ((endsDiv_e2 a b).lo), .int .i64 ((endsDiv_e2 a b).hi), .bool ((endsDiv_e2 a b).no)]) (cs := [.int .i64 ((endsDiv_e2 a b).lo), .int .i64 ((endsDiv_e2 a b).hi), .bool ((endsDiv_e2 a b).no)]) agg26 0 rfl rfl rfl rfl rfl rfl rfl rfl rfl ?_)
          refine ar_nil ?_
          refine ac_region_lit ?_
          refine ao 67 rfl rfl (st_bi (u := .int .i64 1) (v := .int .i64 1) (r := .int .i64 2) rfl rfl rfl (bi_add (by decide)) ?_)
          refine ao 30 rfl rfl (st_move (v := .int .i64 2) rfl rfl ?_)
          refine ar_nil ?_
          refine ar_round ?_
          refine ac_seq ?_
          refine ac_region_lit ?_
          refine ao 31 rfl rfl (st_bi (u := .int .i64 2) (v := .int .i64 2) (r := .bool false) rfl rfl rfl (bi_lss (by decide)) ?_)
          refine ar_nil ?_
          refine ac_seq ?_
          refine ac_else rfl ?_
          refine ac_exit ?_
          refine ac_region_lit ?_
          refine ao 68 rfl rfl (st_bi (u := .int .i64 0) (v := .int .i64 1) (r := .int .i64 1) rfl rfl rfl (bi_add (by decide)) ?_)
          refine ao 22 rfl rfl (st_move (v := .int .i64 1) rfl rfl ?_)
          refine ar_nil ?_
          refine ar_round ?_
          refine ac_seq ?_
          refine ac_region_lit ?_
          refine ao 23 rfl rfl (st_bi (u := .int .i64 1) (v := .int .i64 2) (r := .bool true) rfl rfl rfl (bi_lss (by decide)) ?_)
          refine ar_nil ?_
          refine ac_seq ?_
          refine ac_then rfl ?_
          refine ac_skip ?_
          refine ac_seq ?_
          refine ac_block ?_
          refine ac_seq ?_
          refine ac_region_lit ?_
          refine ao 24 rfl rfl (st_ix (u := .agg #[.int .i64 a.lo, .int .i64 a.hi]) (i := .int .i64 1) (v := .int .i64 a.hi) rfl rfl rfl (ix118_1 _ _) ?_)
          refine ao 10 rfl rfl (st_assign (v := .int .i64 a.hi) rfl rfl ?_)
          refine ar_nil ?_
          refine ac_seq ?_
          refine ac_region_lit ?_
          refine ao 25 rfl rfl (st_fa (g := g1) (off := 0) rfl fa26_0 rfl ?_)
          refine ao 26 rfl rfl (st_ldc (g := g1) (off := 0) (v := .int .i64 b.lo) cell3 2 rfl rfl rfl rfl rfl ?_)
          refine ao 27 rfl rfl (st_fa (g := g1) (off := 0) rfl fa26_1 rfl ?_)
          refine ao 28 rfl rfl (st_ldc (g := g1) (off := 1) (v := .int .i64 b.hi) cell3 2 rfl rfl rfl rfl rfl ?_)
          refine ao 29 rfl rfl (st_bd (us := [(0, .int .i64 b.lo), (1, .int .i64 b.hi)]) (v := .agg #[.int .i64 b.lo, .int .i64 b.hi]) rfl rfl (bd118_0_1 _ _) ?_)
          refine ao 30 rfl rfl (st_move (v := .int .i64 0) rfl rfl ?_)
          refine ar_nil ?_
          refine ac_block ?_
          refine ac_rounds 61 ?_
          refine ar_round ?_
          refine ac_seq ?_
          refine ac_region_lit ?_
          refine ao 31 rfl rfl (st_bi (u := .int .i64 0) (v := .int .i64 2) (r := .bool true) rfl rfl rfl (bi_lss (by decide)) ?_)
          refine ar_nil ?_
          refine ac_seq ?_
          refine ac_then rfl ?_
          refine ac_skip ?_
          refine ac_seq ?_
          refine ac_block ?_
          refine ac_seq ?_
          refine ac_region_lit ?_
          refine ao 32 rfl rfl (st_ix (u := .agg #[.int .i64 b.lo, .int .i64 b.hi]) (i := .int .i64 0) (v := .int .i64 b.lo) rfl rfl rfl (ix118_0 _ _) ?_)
          refine ao 12 rfl rfl (st_assign (v := .int .i64 b.lo) rfl rfl ?_)
          refine ar_nil ?_
          refine ac_seq ?_
          refine ac_region_lit ?_
          refine ao 34 rfl rfl (st_move (v := .func (.func 72) #[] #[]) rfl rfl ?_)
          refine ao 35 rfl rfl (st_move (v := .int .i64 a.hi) rfl rfl ?_)
          refine ao 36 rfl rfl (st_move (v := .int .i64 b.lo) rfl rfl ?_)
          refine ao 37 rfl rfl (st_cv (vs := [.int .i64 a.hi, .int .i64 b.lo, .bool false]) (r := .tuple #[.int .i64 ((numDiv a.hi b.lo false).1), .bool ((numDiv a.hi b.lo false).2)]) (c_numDiv a.hi b.lo false) Try.func72 rfl (by decide) rfl rfl rfl ?_)
          refine ao 33 rfl rfl (st_move (v := .tuple #[.int .i64 ((numDiv a.hi b.lo false).1), .bool ((numDiv a.hi b.lo false).2)]) rfl rfl ?_)
          refine ao 38 rfl rfl (st_ex (vs := [.int .i64 ((numDiv a.hi b.lo false).1), .bool ((numDiv a.hi b.lo false).2)]) (v := .int .i64 ((numDiv a.hi b.lo false).1)) rfl rfl rfl ?_)
          refine ao 39 rfl rfl (st_ex (vs := [.int .i64 ((numDiv a.hi b.lo false).1), .bool ((numDiv a.hi b.lo false).2)]) (v := .bool ((numDiv a.hi b.lo false).2)) rfl rfl rfl ?_)
          refine ao 13 rfl rfl (st_assign (v := .int .i64 ((numDiv a.hi b.lo false).1)) rfl rfl ?_)
          refine ao 14 rfl rfl (st_assign (v := .bool ((numDiv a.hi b.lo false).2)) rfl rfl ?_)
          refine ar_nil ?_
          refine ac_seq ?_
          refine ac_region_lit ?_
          refine ao 41 rfl rfl (st_move (v := .func (.func 72) #[] #[]) rfl rfl ?_)
          refine ao 42 rfl rfl (st_move (v := .int .i64 a.hi) rfl rfl ?_)
          refine ao 43 rfl rfl (st_move (v := .int .i64 b.lo) rfl rfl ?_)
          refine ao 44 rfl rfl (st_cv (vs := [.int .i64 a.hi, .int .i64 b.lo, .bool true]) (r := .tuple #[.int .i64 ((numDiv a.hi b.lo true).1), .bool ((numDiv a.hi b.lo true).2)]) (c_numDiv a.hi b.lo true) Try.func72 rfl (by decide) rfl rfl rfl ?_)
          refine ao 40 rfl rfl (st_move (v := .tuple #[.int .i64 ((numDiv a.hi b.lo true).1), .bool ((numDiv a.hi b.lo true).2)]) rfl rfl ?_)
          refine ao 45 rfl rfl (st_ex (vs := [.int .i64 ((numDiv a.hi b.lo true).1), .bool ((numDiv a.hi b.lo true).2)]) (v := .int .i64 ((numDiv a.hi b.lo true).1)) rfl rfl rfl ?_)
          refine ao 46 rfl rfl (st_ex (vs := [.int .i64 ((numDiv a.hi b.lo true).1), .bool ((numDiv a.hi b.lo true).2)]) (v := .bool ((numDiv a.hi b.lo true).2)) rfl rfl rfl ?_)
          refine ao 15 rfl rfl (st_assign (v := .int .i64 ((numDiv a.hi b.lo true).1)) rfl rfl ?_)
          refine ao 16 rfl rfl (st_assign (v := .bool ((numDiv a.hi b.lo true).2)) rfl rfl ?_)
          refine ar_nil ?_
          refine ac_seq ?_
          refine ac_seq ?_
          refine ac_region_lit ?_
          refine ao 47 rfl rfl (st_move (v := .bool ((numDiv a.hi b.lo false).2)) rfl rfl ?_)
          refine ao 48 rfl rfl (st_un (u := .bool ((numDiv a.hi b.lo false).2)) (v := .bool (!((numDiv a.hi b.lo false).2))) rfl rfl (un_not rfl) ?_)
          refine ao 49 rfl rfl (st_move (v := .bool (!((numDiv a.hi b.lo false).2))) rfl rfl ?_)
          refine bool_split ((numDiv a.hi b.lo false).2) (fun h5 => ?_) (fun h5 => ?_)
          · refine ar_gd (d := (some 50)) (by show ((!((numDiv a.hi b.lo false).2)) == false) = true; rw [h5]; rfl) rfl (st_move (v := .bool ((numDiv a.hi b.lo true).2)) rfl rfl ?_)
            refine ar_gd (d := (some 51)) (by show ((!((numDiv a.hi b.lo false).2)) == false) = true; rw [h5]; rfl) rfl (st_un (u := .bool ((numDiv a.hi b.lo true).2)) (v := .bool (!((numDiv a.hi b.lo true).2))) rfl rfl (un_not rfl) ?_)
            refine ao 52 rfl rfl (st_pkf' (b := !((numDiv a.hi b.lo false).2)) (v := .bool (!((numDiv a.hi b.lo true).2))) (by rw [h5]; rfl) rfl rfl rfl ?_)
            refine ar_nil ?_
            refine bool_split ((numDiv a.hi b.lo true).2) (fun h6 => ?_) (fun h6 => ?_)
            · refine ac_else' (b := !((numDiv a.hi b.lo true).2)) (by rw [h6]; rfl) rfl ?_
              refine ac_skip ?_
              refine ac_seq ?_
              refine ac_seq ?_
              refine ac_region_lit ?_
              refine ao 54 rfl rfl (st_move (v := .bool false) rfl rfl ?_)
              refine ar_nil ?_
              refine ac_else rfl ?_
              refine ac_skip ?_
              refine ac_region_lit ?_
              refine ao 58 rfl rfl (st_fa (g := g3) (off := 0) rfl fa26_0 rfl ?_)
              refine ao 59 rfl rfl (st_ldc (g := g3) (off := 0) (v := .int .i64 ((endsDiv_e2 a b).lo)) cell3 0 rfl rfl rfl rfl rfl ?_)
              refine ao 60 rfl rfl (st_move (v := .int .i64 ((numDiv a.hi b.lo false).1)) rfl rfl ?_)
              refine ao 61 rfl rfl (st_mn (x := ((endsDiv_e2 a b).lo)) (y := ((numDiv a.hi b.lo false).1)) (c := (min ((endsDiv_e2 a b).lo) ((numDiv a.hi b.lo false).1))) rfl rfl rfl ?_)
              refine ao 62 rfl rfl (st_fa (g := g3) (off := 0) rfl fa26_1 rfl ?_)
              refine ao 63 rfl rfl (st_ldc (g := g3) (off := 1) (v := .int .i64 ((endsDiv_e2 a b).hi)) cell3 0 rfl rfl rfl rfl rfl ?_)
              refine ao 64 rfl rfl (st_move (v := .int .i64 ((numDiv a.hi b.lo true).1)) rfl rfl ?_)
              refine ao 65 rfl rfl (st_mx (x := ((endsDiv_e2 a b).hi)) (y := ((numDiv a.hi b.lo true).1)) (c := (max ((endsDiv_e2 a b).hi) ((numDiv a.hi b.lo true).1))) rfl rfl rfl ?_)
              refine ao 66 rfl rfl (st_cf (vs := [.int .i64 (min ((endsDiv_e2 a b).lo) ((numDiv a.hi b.lo false).1)), .int .i64 (max ((endsDiv_e2 a b).hi) ((numDiv a.hi b.lo true).1))]) (r := .agg #[.int .i64 ((endsDiv_e3 a b).lo), .int .i64 ((endsDiv_e3 a b).hi), .bool ((endsDiv_e3 a b).no)]) (c_ivOf (min ((endsDiv_e2 a b).lo) ((numDiv a.hi b.lo false).1)) (max ((endsDiv_e2 a b).hi) ((numDiv a.hi b.lo true).1))) Try.func70 rfl (by decide) rfl rfl rfl ?_)
              refine ar_op (d := none) rfl rfl (st_sta (g := g3) (off := 0) (us := [.int .i64 ((endsDiv_e3 a b).lo), .int .i64 ((endsDiv_e3 a b).hi), .bool ((endsDiv_e3 a b).no)]) (cs := [.int .i64 ((endsDiv_e3 a b).lo), .int .i64 ((endsDiv_e3 a b).hi), .bool ((endsDiv_e3 a b).no)]) agg26 0 rfl rfl rfl rfl rfl rfl rfl rfl rfl ?_)
              refine ar_nil ?_
              refine ac_region_lit ?_
              refine ao 67 rfl rfl (st_bi (u := .int .i64 0) (v := .int .i64 1) (r := .int .i64 1) rfl rfl rfl (bi_add (by decide)) ?_)
              refine ao 30 rfl rfl (st_move (v := .int .i64 1) rfl rfl ?_)
              refine ar_nil ?_
              refine ar_round ?_
              refine ac_seq ?_
              refine ac_region_lit ?_
              refine ao 31 rfl rfl (st_bi (u := .int .i64 1) (v := .int .i64 2) (r := .bool true) rfl rfl rfl (bi_lss (by decide)) ?_)
              refine ar_nil ?_
              refine ac_seq ?_
              refine ac_then rfl ?_
              refine ac_skip ?_
              refine ac_seq ?_
              refine ac_block ?_
              refine ac_seq ?_
              refine ac_region_lit ?_
              refine ao 32 rfl rfl (st_ix (u := .agg #[.int .i64 b.lo, .int .i64 b.hi]) (i := .int .i64 1) (v := .int .i64 b.hi) rfl rfl rfl (ix118_1 _ _) ?_)
              refine ao 12 rfl rfl (st_assign (v := .int .i64 b.hi) rfl rfl ?_)
              refine ar_nil ?_
              refine ac_seq ?_
              refine ac_region_lit ?_
              refine ao 34 rfl rfl (st_move (v := .func (.func 72) #[] #[]) rfl rfl ?_)
              refine ao 35 rfl rfl (st_move (v := .int .i64 a.hi) rfl rfl ?_)
              refine ao 36 rfl rfl (st_move (v := .int .i64 b.hi) rfl rfl ?_)
              refine ao 37 rfl rfl (st_cv (vs := [.int .i64 a.hi, .int .i64 b.hi, .bool false]) (r := .tuple #[.int .i64 ((numDiv a.hi b.hi false).1), .bool ((numDiv a.hi b.hi false).2)]) (c_numDiv a.hi b.hi false) Try.func72 rfl (by decide) rfl rfl rfl ?_)
              refine ao 33 rfl rfl (st_move (v := .tuple #[.int .i64 ((numDiv a.hi b.hi false).1), .bool ((numDiv a.hi b.hi false).2)]) rfl rfl ?_)
              refine ao 38 rfl rfl (st_ex (vs := [.int .i64 ((numDiv a.hi b.hi false).1), .bool ((numDiv a.hi b.hi false).2)]) (v := .int .i64 ((numDiv a.hi b.hi false).1)) rfl rfl rfl ?_)
              refine ao 39 rfl rfl (st_ex (vs := [.int .i64 ((numDiv a.hi b.hi false).1), .bool ((numDiv a.hi b.hi false).2)]) (v := .bool ((numDiv a.hi b.hi false).2)) rfl rfl rfl ?_)
              refine ao 13 rfl rfl (st_assign (v := .int .i64 ((numDiv a.hi b.hi false).1)) rfl rfl ?_)
              refine ao 14 rfl rfl (st_assign (v := .bool ((numDiv a.hi b.hi false).2)) rfl rfl ?_)
              refine ar_nil ?_
              refine ac_seq ?_
              refine ac_region_lit ?_
              refine ao 41 rfl rfl (st_move (v := .func (.func 72) #[] #[]) rfl rfl ?_)
              refine ao 42 rfl rfl (st_move (v := .int .i64 a.hi) rfl rfl ?_)
              refine ao 43 rfl rfl (st_move (v := .int .i64 b.hi) rfl rfl ?_)
              refine ao 44 rfl rfl (st_cv (vs := [.int .i64 a.hi, .int .i64 b.hi, .bool true]) (r := .tuple #[.int .i64 ((numDiv a.hi b.hi true).1), .bool ((numDiv a.hi b.hi true).2)]) (c_numDiv a.hi b.hi true) Try.func72 rfl (by decide) rfl rfl rfl ?_)
              refine ao 40 rfl rfl (st_move (v := .tuple #[.int .i64 ((numDiv a.hi b.hi true).1), .bool ((numDiv a.hi b.hi true).2)]) rfl rfl ?_)
              refine ao 45 rfl rfl (st_ex (vs := [.int .i64 ((numDiv a.hi b.hi true).1), .bool ((numDiv a.hi b.hi true).2)]) (v := .int .i64 ((numDiv a.hi b.hi true).1)) rfl rfl rfl ?_)
              refine ao 46 rfl rfl (st_ex (vs := [.int .i64 ((numDiv a.hi b.hi true).1), .bool ((numDiv a.hi b.hi true).2)]) (v := .bool ((numDiv a.hi b.hi true).2)) rfl rfl rfl ?_)
              refine ao 15 rfl rfl (st_assign (v := .int .i64 ((numDiv a.hi b.hi true).1)) rfl rfl ?_)
              refine ao 16 rfl rfl (st_assign (v := .bool ((numDiv a.hi b.hi true).2)) rfl rfl ?_)
              refine ar_nil ?_
              refine ac_seq ?_
              refine ac_seq ?_
              refine ac_region_lit ?_
              refine ao 47 rfl rfl (st_move (v := .bool ((numDiv a.hi b.hi false).2)) rfl rfl ?_)
              refine ao 48 rfl rfl (st_un (u := .bool ((numDiv a.hi b.hi false).2)) (v := .bool (!((numDiv a.hi b.hi false).2))) rfl rfl (un_not rfl) ?_)
              refine ao 49 rfl rfl (st_move (v := .bool (!((numDiv a.hi b.hi false).2))) rfl rfl ?_)
              refine bool_split ((numDiv a.hi b.hi false).2) (fun h7 => ?_) (fun h7 => ?_)
              · refine ar_gd (d := (some 50)) (by show ((!((numDiv a.hi b.hi false).2)) == false) = true; rw [h7]; rfl) rfl (st_move (v := .bool ((numDiv a.hi b.hi true).2)) rfl rfl ?_)
                refine ar_gd (d := (some 51)) (by show ((!((numDiv a.hi b.hi false).2)) == false) = true; rw [h7]; rfl) rfl (st_un (u := .bool ((numDiv a.hi b.hi true).2)) (v := .bool (!((numDiv a.hi b.hi true).2))) rfl rfl (un_not rfl) ?_)
                refine ao 52 rfl rfl (st_pkf' (b := !((numDiv a.hi b.hi false).2)) (v := .bool (!((numDiv a.hi b.hi true).2))) (by rw [h7]; rfl) rfl rfl rfl ?_)
                refine ar_nil ?_
                refine bool_split ((numDiv a.hi b.hi true).2) (fun h8 => ?_) (fun h8 => ?_)
                · refine ac_else' (b := !((numDiv a.hi b.hi true).2)) (by rw [h8]; rfl) rfl ?_
                  refine ac_skip ?_
                  refine ac_seq ?_
                  refine ac_seq ?_
                  refine ac_region_lit ?_
                  refine ao 54 rfl rfl (st_move (v := .bool false) rfl rfl ?_)
                  refine ar_nil ?_
                  refine ac_else rfl ?_
                  refine ac_skip ?_
                  refine ac_region_lit ?_
                  refine ao 58 rfl rfl (st_fa (g := g3) (off := 0) rfl fa26_0 rfl ?_)
                  refine ao 59 rfl rfl (st_ldc (g := g3) (off := 0) (v := .int .i64 ((endsDiv_e3 a b).lo)) cell3 0 rfl rfl rfl rfl rfl ?_)
                  refine ao 60 rfl rfl (st_move (v := .int .i64 ((numDiv a.hi b.hi false).1)) rfl rfl ?_)
                  refine ao 61 rfl rfl (st_mn (x := ((endsDiv_e3 a b).lo)) (y := ((numDiv a.hi b.hi false).1)) (c := (min ((endsDiv_e3 a b).lo) ((numDiv a.hi b.hi false).1))) rfl rfl rfl ?_)
                  refine ao 62 rfl rfl (st_fa (g := g3) (off := 0) rfl fa26_1 rfl ?_)
                  refine ao 63 rfl rfl (st_ldc (g := g3) (off := 1) (v := .int .i64 ((endsDiv_e3 a b).hi)) cell3 0 rfl rfl rfl rfl rfl ?_)
                  refine ao 64 rfl rfl (st_move (v := .int .i64 ((numDiv a.hi b.hi true).1)) rfl rfl ?_)
                  refine ao 65 rfl rfl (st_mx (x := ((endsDiv_e3 a b).hi)) (y := ((numDiv a.hi b.hi true).1)) (c := (max ((endsDiv_e3 a b).hi) ((numDiv a.hi b.hi true).1))) rfl rfl rfl ?_)
                  refine ao 66 rfl rfl (st_cf (vs := [.int .i64 (min ((endsDiv_e3 a b).lo) ((numDiv a.hi b.hi false).1)), .int .i64 (max ((endsDiv_e3 a b).hi) ((numDiv a.hi b.hi true).1))]) (r := .agg #[.int .i64 ((endsDiv_e4 a b).lo), .int .i64 ((endsDiv_e4 a b).hi), .bool ((endsDiv_e4 a b).no)]) (c_ivOf (min ((endsDiv_e3 a b).lo) ((numDiv a.hi b.hi false).1)) (max ((endsDiv_e3 a b).hi) ((numDiv a.hi b.hi true).1))) Try.func70 rfl (by decide) rfl rfl rfl ?_)
                  refine ar_op (d := none) rfl rfl (st_sta (g := g3) (off := 0) (us := [.int .i64 ((endsDiv_e4 a b).lo), .int .i64 ((endsDiv_e4 a b).hi), .bool ((endsDiv_e4 a b).no)]) (cs := [.int .i64 ((endsDiv_e4 a b).lo), .int .i64 ((endsDiv_e4 a b).hi), .bool ((endsDiv_e4 a b).no)]) agg26 0 rfl rfl rfl rfl rfl rfl rfl rfl rfl ?_)
                  refine ar_nil ?_
                  refine ac_region_lit ?_
                  refine ao 67 rfl rfl (st_bi (u := .int .i64 1) (v := .int .i64 1) (r := .int .i64 2) rfl rfl rfl (bi_add (by decide)) ?_)
                  refine ao 30 rfl rfl (st_move (v := .int .i64 2) rfl rfl ?_)
                  refine ar_nil ?_
                  refine ar_round ?_
                  refine ac_seq ?_
                  refine ac_region_lit ?_
                  refine ao 31 rfl rfl (st_bi (u := .int .i64 2) (v := .int .i64 2) (r := .bool false) rfl rfl rfl (bi_lss (by decide)) ?_)
                  refine ar_nil ?_
                  refine ac_seq ?_
                  refine ac_else rfl ?_
                  refine ac_exit ?_
                  refine ac_region_lit ?_
                  refine ao 68 rfl rfl (st_bi (u := .int .i64 1) (v := .int .i64 1) (r := .int .i64 2) rfl rfl rfl (bi_add (by decide)) ?_)
                  refine ao 22 rfl rfl (st_move (v := .int .i64 2) rfl rfl ?_)
                  refine ar_nil ?_
                  refine ar_round ?_
                  refine ac_seq ?_
                  refine ac_region_lit ?_
                  refine ao 23 rfl rfl (st_bi (u := .int .i64 2) (v := .int .i64 2) (r := .bool false) rfl rfl rfl (bi_lss (by decide)) ?_)
                  refine ar_nil ?_
                  refine ac_seq ?_
                  refine ac_else rfl ?_
                  refine ac_exit ?_
                  refine ac_seq ?_
                  refine ac_region_lit ?_
                  refine ao 69 rfl rfl (st_lda (g := g3) (off := 0) (vs := [.int .i64 ((endsDiv_e4 a b).lo), .int .i64 ((endsDiv_e4 a b).hi), .bool ((endsDiv_e4 a b).no)]) agg26 0 rfl rfl rfl rfl rfl rfl ?_)
                  refine ar_op (d := none) rfl rfl (st_sta (g := g2) (off := 0) (us := [.int .i64 ((endsDiv_e4 a b).lo), .int .i64 ((endsDiv_e4 a b).hi), .bool ((endsDiv_e4 a b).no)]) (cs := [.int .i64 ((endsDiv_e4 a b).lo), .int .i64 ((endsDiv_e4 a b).hi), .bool ((endsDiv_e4 a b).no)]) agg26 1 rfl rfl rfl rfl rfl rfl rfl rfl rfl ?_)
                  refine ar_nil ?_
                  refine ac_ret ?_
                  exact fin_eq (v := .agg #[.int .i64 ((endsDiv_e4 a b).lo), .int .i64 ((endsDiv_e4 a b).hi), .bool ((endsDiv_e4 a b).no)]) (by show _ = Iv.v (endsDiv a b); rw [endsDiv, h8, h7, h6, h5, h4, h3, h2, h1] <;> rfl) (fin_ret (res_c (vs := [.int .i64 ((endsDiv_e4 a b).lo), .int .i64 ((endsDiv_e4 a b).hi), .bool ((endsDiv_e4 a b).no)]) agg26 1 rfl rfl rfl rfl rfl rfl))
                · refine ac_then' (b := !((numDiv a.hi b.hi true).2)) (by rw [h8]; rfl) rfl ?_
                  refine ac_seq ?_
                  refine ac_region_lit ?_
                  refine ao 53 rfl rfl (st_cf (vs := []) (r := .agg #[.int .i64 ivNone.lo, .int .i64 ivNone.hi, .bool ivNone.no]) c_ivNone Try.func28 rfl (by decide) rfl rfl rfl ?_)
                  refine ar_op (d := none) rfl rfl (st_sta (g := g2) (off := 0) (us := [.int .i64 ivNone.lo, .int .i64 ivNone.hi, .bool ivNone.no]) (cs := [.int .i64 ivNone.lo, .int .i64 ivNone.hi, .bool ivNone.no]) agg26 1 rfl rfl rfl rfl rfl rfl rfl rfl rfl ?_)
                  refine ar_nil ?_
                  refine ac_ret ?_
                  exact fin_eq (v := .agg #[.int .i64 ivNone.lo, .int .i64 ivNone.hi, .bool ivNone.no]) (by show _ = Iv.v (endsDiv a b); rw [endsDiv, h8, h7, h6, h5, h4, h3, h2, h1] <;> rfl) (fin_ret (res_c (vs := [.int .i64 ivNone.lo, .int .i64 ivNone.hi, .bool ivNone.no]) agg26 1 rfl rfl rfl rfl rfl rfl))
              · refine ar_sk (d := (some 50)) (by show ((!((numDiv a.hi b.hi false).2)) == false) = false; rw [h7]; rfl) rfl ?_
                refine ar_sk (d := (some 51)) (by show ((!((numDiv a.hi b.hi false).2)) == false) = false; rw [h7]; rfl) rfl ?_
                refine ao 52 rfl rfl (st_pkt' (b := !((numDiv a.hi b.hi false).2)) (v := .bool true) (by rw [h7]; rfl) rfl rfl rfl ?_)
                refine ar_nil ?_
                refine ac_then rfl ?_
                refine ac_seq ?_
                refine ac_region_lit ?_
                refine ao 53 rfl rfl (st_cf (vs := []) (r := .agg #[.int .i64 ivNone.lo, .int .i64 ivNone.hi, .bool ivNone.no]) c_ivNone Try.func28 rfl (by decide) rfl rfl rfl ?_)
                refine ar_op (d := none) rfl rfl (st_sta (g := g2) (off := 0) (us := [.int .i64 ivNone.lo, .int .i64 ivNone.hi, .bool ivNone.no]) (cs := [.int .i64 ivNone.lo, .int .i64 ivNone.hi, .bool ivNone.no]) agg26 1 rfl rfl rfl rfl rfl rfl rfl rfl rfl ?_)
                refine ar_nil ?_
                refine ac_ret ?_
                exact fin_eq (v := .agg #[.int .i64 ivNone.lo, .int .i64 ivNone.hi, .bool ivNone.no]) (by show _ = Iv.v (endsDiv a b); rw [endsDiv, h7, h6, h5, h4, h3, h2, h1] <;> rfl) (fin_ret (res_c (vs := [.int .i64 ivNone.lo, .int .i64 ivNone.hi, .bool ivNone.no]) agg26 1 rfl rfl rfl rfl rfl rfl))
            · refine ac_then' (b := !((numDiv a.hi b.lo true).2)) (by rw [h6]; rfl) rfl ?_
              refine ac_seq ?_
              refine ac_region_lit ?_
              refine ao 53 rfl rfl (st_cf (vs := []) (r := .agg #[.int .i64 ivNone.lo, .int .i64 ivNone.hi, .bool ivNone.no]) c_ivNone Try.func28 rfl (by decide) rfl rfl rfl ?_)
              refine ar_op (d := none) rfl rfl (st_sta (g := g2) (off := 0) (us := [.int .i64 ivNone.lo, .int .i64 ivNone.hi, .bool ivNone.no]) (cs := [.int .i64 ivNone.lo, .int .i64 ivNone.hi, .bool ivNone.no]) agg26 1 rfl rfl rfl rfl rfl rfl rfl rfl rfl ?_)
              refine ar_nil ?_
              refine ac_ret ?_
              exact fin_eq (v := .agg #[.int .i64 ivNone.lo, .int .i64 ivNone.hi, .bool ivNone.no]) (by show _ = Iv.v (endsDiv a b); rw [endsDiv, h6, h5, h4, h3, h2, h1] <;> rfl) (fin_ret (res_c (vs := [.int .i64 ivNone.lo, .int .i64 ivNone.hi, .bool ivNone.no]) agg26 1 rfl rfl rfl rfl rfl rfl))
          · refine ar_sk (d := (some 50)) (by show ((!((numDiv a.hi b.lo false).2)) == false) = false; rw [h5]; rfl) rfl ?_
            refine ar_sk (d := (some 51)) (by show ((!((numDiv a.hi b.lo false).2)) == false) = false; rw [h5]; rfl) rfl ?_
            refine ao 52 rfl rfl (st_pkt' (b := !((numDiv a.hi b.lo false).2)) (v := .bool true) (by rw [h5]; rfl) rfl rfl rfl ?_)
            refine ar_nil ?_
            refine ac_then rfl ?_
            refine ac_seq ?_
            refine ac_region_lit ?_
            refine ao 53 rfl rfl (st_cf (vs := []) (r := .agg #[.int .i64 ivNone.lo, .int .i64 ivNone.hi, .bool ivNone.no]) c_ivNone Try.func28 rfl (by decide) rfl rfl rfl ?_)
            refine ar_op (d := none) rfl rfl (st_sta (g := g2) (off := 0) (us := [.int .i64 ivNone.lo, .int .i64 ivNone.hi, .bool ivNone.no]) (cs := [.int .i64 ivNone.lo, .int .i64 ivNone.hi, .bool ivNone.no]) agg26 1 rfl rfl rfl rfl rfl rfl rfl rfl rfl ?_)
            refine ar_nil ?_
            refine ac_ret ?_
            exact fin_eq (v := .agg #[.int .i64 ivNone.lo, .int .i64 ivNone.hi, .bool ivNone.no]) (by show _ = Iv.v (endsDiv a b); rw [endsDiv, h5, h4, h3, h2, h1] <;> rfl) (fin_ret (res_c (vs := [.int .i64 ivNone.lo, .int .i64 ivNone.hi, .bool ivNone.no]) agg26 1 rfl rfl rfl rfl rfl rfl))
        · refine ac_then' (b := !((numDiv a.lo b.hi true).2)) (by rw [h4]; rfl) rfl ?_
          refine ac_seq ?_
          refine ac_region_lit ?_
          refine ao 53 rfl rfl (st_cf (vs := []) (r := .agg #[.int .i64 ivNone.lo, .int .i64 ivNone.hi, .bool ivNone.no]) c_ivNone Try.func28 rfl (by decide) rfl rfl rfl ?_)
          refine ar_op (d := none) rfl rfl (st_sta (g := g2) (off := 0) (us := [.int .i64 ivNone.lo, .int .i64 ivNone.hi, .bool ivNone.no]) (cs := [.int .i64 ivNone.lo, .int .i64 ivNone.hi, .bool ivNone.no]) agg26 1 rfl rfl rfl rfl rfl rfl rfl rfl rfl ?_)
          refine ar_nil ?_
          refine ac_ret ?_
          exact fin_eq (v := .agg #[.int .i64 ivNone.lo, .int .i64 ivNone.hi, .bool ivNone.no]) (by show _ = Iv.v (endsDiv a b); rw [endsDiv, h4, h3, h2, h1] <;> rfl) (fin_ret (res_c (vs := [.int .i64 ivNone.lo, .int .i64 ivNone.hi, .bool ivNone.no]) agg26 1 rfl rfl rfl rfl rfl rfl))
      · refine ar_sk (d := (some 50)) (by show ((!((numDiv a.lo b.hi false).2)) == false) = false; rw [h3]; rfl) rfl ?_
        refine ar_sk (d := (some 51)) (by show ((!((numDiv a.lo b.hi false).2)) == false) = false; rw [h3]; rfl) rfl ?_
        refine ao 52 rfl rfl (st_pkt' (b := !((numDiv a.lo b.hi false).2)) (v := .bool true) (by rw [h3]; rfl) rfl rfl rfl ?_)
        refine ar_nil ?_
        refine ac_then rfl ?_
        refine ac_seq ?_
        refine ac_region_lit ?_
        refine ao 53 rfl rfl (st_cf (vs := []) (r := .agg #[.int .i64 ivNone.lo, .int .i64 ivNone.hi, .bool ivNone.no]) c_ivNone Try.func28 rfl (by decide) rfl rfl rfl ?_)
        refine ar_op (d := none) rfl rfl (st_sta (g := g2) (off := 0) (us := [.int .i64 ivNone.lo, .int .i64 ivNone.hi, .bool ivNone.no]) (cs := [.int .i64 ivNone.lo, .int .i64 ivNone.hi, .bool ivNone.no]) agg26 1 rfl rfl rfl rfl rfl rfl rfl rfl rfl ?_)
        refine ar_nil ?_
        refine ac_ret ?_
        exact fin_eq (v := .agg #[.int .i64 ivNone.lo, .int .i64 ivNone.hi, .bool ivNone.no]) (by show _ = Iv.v (endsDiv a b); rw [endsDiv, h3, h2, h1] <;> rfl) (fin_ret (res_c (vs := [.int .i64 ivNone.lo, .int .i64 ivNone.hi, .bool ivNone.no]) agg26 1 rfl rfl rfl rfl rfl rfl))
    · refine ac_then' (b := !((numDiv a.lo b.lo true).2)) (by rw [h2]; rfl) rfl ?_
      refine ac_seq ?_
      refine ac_region_lit ?_
      refine ao 53 rfl rfl (st_cf (vs := []) (r := .agg #[.int .i64 ivNone.lo, .int .i64 ivNone.hi, .bool ivNone.no]) c_ivNone Try.func28 rfl (by decide) rfl rfl rfl ?_)
      refine ar_op (d := none) rfl rfl (st_sta (g := g2) (off := 0) (us := [.int .i64 ivNone.lo, .int .i64 ivNone.hi, .bool ivNone.no]) (cs := [.int .i64 ivNone.lo, .int .i64 ivNone.hi, .bool ivNone.no]) agg26 1 rfl rfl rfl rfl rfl rfl rfl rfl rfl ?_)
      refine ar_nil ?_
      refine ac_ret ?_
      exact fin_eq (v := .agg #[.int .i64 ivNone.lo, .int .i64 ivNone.hi, .bool ivNone.no]) (by show _ = Iv.v (endsDiv a b); rw [endsDiv, h2, h1] <;> rfl) (fin_ret (res_c (vs := [.int .i64 ivNone.lo, .int .i64 ivNone.hi, .bool ivNone.no]) agg26 1 rfl rfl rfl rfl rfl rfl))
  · refine ar_sk (d := (some 50)) (by show ((!((numDiv a.lo b.lo false).2)) == false) = false; rw [h1]; rfl) rfl ?_
    refine ar_sk (d := (some 51)) (by show ((!((numDiv a.lo b.lo false).2)) == false) = false; rw [h1]; rfl) rfl ?_
    refine ao 52 rfl rfl (st_pkt' (b := !((numDiv a.lo b.lo false).2)) (v := .bool true) (by rw [h1]; rfl) rfl rfl rfl ?_)
    refine ar_nil ?_
    refine ac_then rfl ?_
    refine ac_seq ?_
    refine ac_region_lit ?_
    refine ao 53 rfl rfl (st_cf (vs := []) (r := .agg #[.int .i64 ivNone.lo, .int .i64 ivNone.hi, .bool ivNone.no]) c_ivNone Try.func28 rfl (by decide) rfl rfl rfl ?_)
    refine ar_op (d := none) rfl rfl (st_sta (g := g2) (off := 0) (us := [.int .i64 ivNone.lo, .int .i64 ivNone.hi, .bool ivNone.no]) (cs := [.int .i64 ivNone.lo, .int .i64 ivNone.hi, .bool ivNone.no]) agg26 1 rfl rfl rfl rfl rfl rfl rfl rfl rfl ?_)
    refine ar_nil ?_
    refine ac_ret ?_
    exact fin_eq (v := .agg #[.int .i64 ivNone.lo, .int .i64 ivNone.hi, .bool ivNone.no]) (by show _ = Iv.v (endsDiv a b); rw [endsDiv, h1] <;> rfl) (fin_ret (res_c (vs := [.int .i64 ivNone.lo, .int .i64 ivNone.hi, .bool ivNone.no]) agg26 1 rfl rfl rfl rfl rfl rfl))
def ivDiv (a : Iv) (b : Iv) : Iv := (bif ivBoth a b then (bif ivHas b 0 then ivNone else (endsDiv a b)) else ivNone)
set_option maxRecDepth 100000 in
theorem c_ivDiv (a : Iv) (b : Iv) : Gets Try.prog 33 #[.agg #[.int .i64 a.lo, .int .i64 a.hi, .bool a.no], .agg #[.int .i64 b.lo, .int .i64 b.hi, .bool b.no]] (Iv.v (ivDiv a b)) := by
  refine gets_fin Try.func33 rfl rfl rfl ?_
  refine ac_seq ?_
  refine ac_region_lit ?_
  refine ao 2 rfl rfl (st_box (v := .agg #[.int .i64 a.lo, .int .i64 a.hi, .bool a.no]) (cs := [.int .i64 a.lo, .int .i64 a.hi, .bool a.no]) rfl rfl rfl fun g0 => ?_)
  refine ao 3 rfl rfl (st_box (v := .agg #[.int .i64 b.lo, .int .i64 b.hi, .bool b.no]) (cs := [.int .i64 b.lo, .int .i64 b.hi, .bool b.no]) rfl rfl rfl fun g1 => ?_)
  refine ao 4 rfl rfl (st_new zero26 rfl fun g2 => ?_)
  refine ar_nil ?_
  refine ac_seq ?_
  refine ac_seq ?_
  refine ac_region_lit ?_
  refine ao 5 rfl rfl (st_lda (g := g0) (off := 0) (vs := [.int .i64 a.lo, .int .i64 a.hi, .bool a.no]) agg26 2 rfl rfl rfl rfl rfl rfl ?_)
  refine ao 6 rfl rfl (st_lda (g := g1) (off := 0) (vs := [.int .i64 b.lo, .int .i64 b.hi, .bool b.no]) agg26 1 rfl rfl rfl rfl rfl rfl ?_)
  refine ao 7 rfl rfl (st_cf (vs := [.agg #[.int .i64 a.lo, .int .i64 a.hi, .bool a.no], .agg #[.int .i64 b.lo, .int .i64 b.hi, .bool b.no]]) (r := .bool (ivBoth a b)) (c_ivBoth a b) Try.func69 rfl (by decide) rfl rfl rfl ?_)
  refine ao 8 rfl rfl (st_un (u := .bool (ivBoth a b)) (v := .bool (!(ivBoth a b))) rfl rfl (un_not rfl) ?_)
  refine ao 9 rfl rfl (st_move (v := .bool (!(ivBoth a b))) rfl rfl ?_)
  refine bool_split (ivBoth a b) (fun h1 => ?_) (fun h1 => ?_)
  · refine ar_gd (d := (some 10)) (by show ((!(ivBoth a b)) == false) = true; rw [h1]; rfl) rfl (st_lda (g := g1) (off := 0) (vs := [.int .i64 b.lo, .int .i64 b.hi, .bool b.no]) agg26 1 rfl rfl rfl rfl rfl rfl ?_)
    refine ar_gd (d := (some 11)) (by show ((!(ivBoth a b)) == false) = true; rw [h1]; rfl) rfl (st_cf (vs := [.agg #[.int .i64 b.lo, .int .i64 b.hi, .bool b.no], .int .i64 0]) (r := .bool (ivHas b 0)) (c_ivHas b 0) Try.func24 rfl (by decide) rfl rfl rfl ?_)
    refine ao 12 rfl rfl (st_pkf' (b := !(ivBoth a b)) (v := .bool (ivHas b 0)) (by rw [h1]; rfl) rfl rfl rfl ?_)
    refine ar_nil ?_
    refine bool_split (ivHas b 0) (fun h2 => ?_) (fun h2 => ?_)
    · refine ac_then' (b := ivHas b 0) h2 rfl ?_
      refine ac_seq ?_
      refine ac_region_lit ?_
      refine ao 13 rfl rfl (st_cf (vs := []) (r := .agg #[.int .i64 ivNone.lo, .int .i64 ivNone.hi, .bool ivNone.no]) c_ivNone Try.func28 rfl (by decide) rfl rfl rfl ?_)
      refine ar_op (d := none) rfl rfl (st_sta (g := g2) (off := 0) (us := [.int .i64 ivNone.lo, .int .i64 ivNone.hi, .bool ivNone.no]) (cs := [.int .i64 ivNone.lo, .int .i64 ivNone.hi, .bool ivNone.no]) agg26 0 rfl rfl rfl rfl rfl rfl rfl rfl rfl ?_)
      refine ar_nil ?_
      refine ac_ret ?_
      exact fin_eq (v := .agg #[.int .i64 ivNone.lo, .int .i64 ivNone.hi, .bool ivNone.no]) (by show _ = Iv.v (ivDiv a b); rw [ivDiv, h2, h1] <;> rfl) (fin_ret (res_c (vs := [.int .i64 ivNone.lo, .int .i64 ivNone.hi, .bool ivNone.no]) agg26 0 rfl rfl rfl rfl rfl rfl))
    · refine ac_else' (b := ivHas b 0) h2 rfl ?_
      refine ac_skip ?_
      refine ac_seq ?_
      refine ac_region_lit ?_
      refine ao 14 rfl rfl (st_lda (g := g0) (off := 0) (vs := [.int .i64 a.lo, .int .i64 a.hi, .bool a.no]) agg26 2 rfl rfl rfl rfl rfl rfl ?_)
      refine ao 15 rfl rfl (st_lda (g := g1) (off := 0) (vs := [.int .i64 b.lo, .int .i64 b.hi, .bool b.no]) agg26 1 rfl rfl rfl rfl rfl rfl ?_)
      refine ao 16 rfl rfl (st_cf (vs := [.func (.func 72) #[] #[], .agg #[.int .i64 a.lo, .int .i64 a.hi, .bool a.no], .agg #[.int .i64 b.lo, .int .i64 b.hi, .bool b.no]]) (r := .agg #[.int .i64 ((endsDiv a b).lo), .int .i64 ((endsDiv a b).hi), .bool ((endsDiv a b).no)]) (c_endsDiv a b) Try.func71 rfl (by decide) rfl rfl rfl ?_)
      refine ar_op (d := none) rfl rfl (st_sta (g := g2) (off := 0) (us := [.int .i64 ((endsDiv a b).lo), .int .i64 ((endsDiv a b).hi), .bool ((endsDiv a b).no)]) (cs := [.int .i64 ((endsDiv a b).lo), .int .i64 ((endsDiv a b).hi), .bool ((endsDiv a b).no)]) agg26 0 rfl rfl rfl rfl rfl rfl rfl rfl rfl ?_)
      refine ar_nil ?_
      refine ac_ret ?_
      exact fin_eq (v := .agg #[.int .i64 ((endsDiv a b).lo), .int .i64 ((endsDiv a b).hi), .bool ((endsDiv a b).no)]) (by show _ = Iv.v (ivDiv a b); rw [ivDiv, h2, h1] <;> rfl) (fin_ret (res_c (vs := [.int .i64 ((endsDiv a b).lo), .int .i64 ((endsDiv a b).hi), .bool ((endsDiv a b).no)]) agg26 0 rfl rfl rfl rfl rfl rfl))
  · refine ar_sk (d := (some 10)) (by show ((!(ivBoth a b)) == false) = false; rw [h1]; rfl) rfl ?_
    refine ar_sk (d := (some 11)) (by show ((!(ivBoth a b)) == false) = false; rw [h1]; rfl) rfl ?_
    refine ao 12 rfl rfl (st_pkt' (b := !(ivBoth a b)) (v := .bool true) (by rw [h1]; rfl) rfl rfl rfl ?_)
    refine ar_nil ?_
    refine ac_then rfl ?_
    refine ac_seq ?_
    refine ac_region_lit ?_
    refine ao 13 rfl rfl (st_cf (vs := []) (r := .agg #[.int .i64 ivNone.lo, .int .i64 ivNone.hi, .bool ivNone.no]) c_ivNone Try.func28 rfl (by decide) rfl rfl rfl ?_)
    refine ar_op (d := none) rfl rfl (st_sta (g := g2) (off := 0) (us := [.int .i64 ivNone.lo, .int .i64 ivNone.hi, .bool ivNone.no]) (cs := [.int .i64 ivNone.lo, .int .i64 ivNone.hi, .bool ivNone.no]) agg26 0 rfl rfl rfl rfl rfl rfl rfl rfl rfl ?_)
    refine ar_nil ?_
    refine ac_ret ?_
    exact fin_eq (v := .agg #[.int .i64 ivNone.lo, .int .i64 ivNone.hi, .bool ivNone.no]) (by show _ = Iv.v (ivDiv a b); rw [ivDiv, h1] <;> rfl) (fin_ret (res_c (vs := [.int .i64 ivNone.lo, .int .i64 ivNone.hi, .bool ivNone.no]) agg26 0 rfl rfl rfl rfl rfl rfl))
def ivRoot (a : Iv) : Iv := (bif ivRight a then (bif decide (a.lo < 0) then ivNone else (ivOf ((numRoot a.lo false).1) ((numRoot a.hi true).1))) else ivNone)
set_option maxRecDepth 100000 in
theorem c_ivRoot (a : Iv) : Gets Try.prog 102 #[.agg #[.int .i64 a.lo, .int .i64 a.hi, .bool a.no]] (Iv.v (ivRoot a)) := by
  refine gets_fin Try.func102 rfl rfl rfl ?_
  refine ac_seq ?_
  refine ac_region_lit ?_
  refine ao 1 rfl rfl (st_box (v := .agg #[.int .i64 a.lo, .int .i64 a.hi, .bool a.no]) (cs := [.int .i64 a.lo, .int .i64 a.hi, .bool a.no]) rfl rfl rfl fun g0 => ?_)
  refine ao 2 rfl rfl (st_new zero26 rfl fun g1 => ?_)
  refine ar_nil ?_
  refine ac_seq ?_
  refine ac_seq ?_
  refine ac_region_lit ?_
  refine ao 7 rfl rfl (st_lda (g := g0) (off := 0) (vs := [.int .i64 a.lo, .int .i64 a.hi, .bool a.no]) agg26 1 rfl rfl rfl rfl rfl rfl ?_)
  refine ao 8 rfl rfl (st_cf (vs := [.agg #[.int .i64 a.lo, .int .i64 a.hi, .bool a.no]]) (r := .bool (ivRight a)) (c_ivRight a) Try.func25 rfl (by decide) rfl rfl rfl ?_)
  refine ao 9 rfl rfl (st_un (u := .bool (ivRight a)) (v := .bool (!(ivRight a))) rfl rfl (un_not rfl) ?_)
  refine ao 10 rfl rfl (st_move (v := .bool (!(ivRight a))) rfl rfl ?_)
  refine bool_split (ivRight a) (fun h1 => ?_) (fun h1 => ?_)
  · refine ar_gd (d := (some 11)) (by show ((!(ivRight a)) == false) = true; rw [h1]; rfl) rfl (st_fa (g := g0) (off := 0) rfl fa26_0 rfl ?_)
    refine ar_gd (d := (some 12)) (by show ((!(ivRight a)) == false) = true; rw [h1]; rfl) rfl (st_ldc (g := g0) (off := 0) (v := .int .i64 a.lo) cell3 1 rfl rfl rfl rfl rfl ?_)
    refine ar_gd (d := (some 13)) (by show ((!(ivRight a)) == false) = true; rw [h1]; rfl) rfl (st_bi (u := .int .i64 a.lo) (v := .int .i64 0) (r := .bool (decide (a.lo < 0))) rfl rfl rfl (bi_lss rfl) ?_)
    refine ao 14 rfl rfl (st_pkf' (b := !(ivRight a)) (v := .bool (decide (a.lo < 0))) (by rw [h1]; rfl) rfl rfl rfl ?_)
    refine ar_nil ?_
    refine bool_split (decide (a.lo < 0)) (fun h2 => ?_) (fun h2 => ?_)
    · refine ac_then' (b := decide (a.lo < 0)) h2 rfl ?_
      refine ac_seq ?_
      refine ac_region_lit ?_
      refine ao 15 rfl rfl (st_cf (vs := []) (r := .agg #[.int .i64 ivNone.lo, .int .i64 ivNone.hi, .bool ivNone.no]) c_ivNone Try.func28 rfl (by decide) rfl rfl rfl ?_)
      refine ar_op (d := none) rfl rfl (st_sta (g := g1) (off := 0) (us := [.int .i64 ivNone.lo, .int .i64 ivNone.hi, .bool ivNone.no]) (cs := [.int .i64 ivNone.lo, .int .i64 ivNone.hi, .bool ivNone.no]) agg26 0 rfl rfl rfl rfl rfl rfl rfl rfl rfl ?_)
      refine ar_nil ?_
      refine ac_ret ?_
      exact fin_eq (v := .agg #[.int .i64 ivNone.lo, .int .i64 ivNone.hi, .bool ivNone.no]) (by show _ = Iv.v (ivRoot a); rw [ivRoot, h2, h1] <;> rfl) (fin_ret (res_c (vs := [.int .i64 ivNone.lo, .int .i64 ivNone.hi, .bool ivNone.no]) agg26 0 rfl rfl rfl rfl rfl rfl))
    · refine ac_else' (b := decide (a.lo < 0)) h2 rfl ?_
      refine ac_skip ?_
      refine ac_seq ?_
      refine ac_region_lit ?_
      refine ao 17 rfl rfl (st_fa (g := g0) (off := 0) rfl fa26_0 rfl ?_)
      refine ao 18 rfl rfl (st_ldc (g := g0) (off := 0) (v := .int .i64 a.lo) cell3 1 rfl rfl rfl rfl rfl ?_)
      refine ao 19 rfl rfl (st_cf (vs := [.int .i64 a.lo, .bool false]) (r := .tuple #[.int .i64 ((numRoot a.lo false).1), .bool ((numRoot a.lo false).2)]) (c_numRoot a.lo false) Try.func122 rfl (by decide) rfl rfl rfl ?_)
      refine ao 16 rfl rfl (st_move (v := .tuple #[.int .i64 ((numRoot a.lo false).1), .bool ((numRoot a.lo false).2)]) rfl rfl ?_)
      refine ao 20 rfl rfl (st_ex (vs := [.int .i64 ((numRoot a.lo false).1), .bool ((numRoot a.lo false).2)]) (v := .int .i64 ((numRoot a.lo false).1)) rfl rfl rfl ?_)
      refine ao 21 rfl rfl (st_ex (vs := [.int .i64 ((numRoot a.lo false).1), .bool ((numRoot a.lo false).2)]) (v := .bool ((numRoot a.lo false).2)) rfl rfl rfl ?_)
      refine ao 3 rfl rfl (st_assign (v := .int .i64 ((numRoot a.lo false).1)) rfl rfl ?_)
      refine ao 4 rfl rfl (st_assign (v := .bool ((numRoot a.lo false).2)) rfl rfl ?_)
      refine ar_nil ?_
      refine ac_seq ?_
      refine ac_region_lit ?_
      refine ao 23 rfl rfl (st_fa (g := g0) (off := 0) rfl fa26_1 rfl ?_)
      refine ao 24 rfl rfl (st_ldc (g := g0) (off := 1) (v := .int .i64 a.hi) cell3 1 rfl rfl rfl rfl rfl ?_)
      refine ao 25 rfl rfl (st_cf (vs := [.int .i64 a.hi, .bool true]) (r := .tuple #[.int .i64 ((numRoot a.hi true).1), .bool ((numRoot a.hi true).2)]) (c_numRoot a.hi true) Try.func122 rfl (by decide) rfl rfl rfl ?_)
      refine ao 22 rfl rfl (st_move (v := .tuple #[.int .i64 ((numRoot a.hi true).1), .bool ((numRoot a.hi true).2)]) rfl rfl ?_)
      refine ao 26 rfl rfl (st_ex (vs := [.int .i64 ((numRoot a.hi true).1), .bool ((numRoot a.hi true).2)]) (v := .int .i64 ((numRoot a.hi true).1)) rfl rfl rfl ?_)
      refine ao 27 rfl rfl (st_ex (vs := [.int .i64 ((numRoot a.hi true).1), .bool ((numRoot a.hi true).2)]) (v := .bool ((numRoot a.hi true).2)) rfl rfl rfl ?_)
      refine ao 5 rfl rfl (st_assign (v := .int .i64 ((numRoot a.hi true).1)) rfl rfl ?_)
      refine ao 6 rfl rfl (st_assign (v := .bool ((numRoot a.hi true).2)) rfl rfl ?_)
      refine ar_nil ?_
      refine ac_seq ?_
      refine ac_region_lit ?_
      refine ao 28 rfl rfl (st_move (v := .int .i64 ((numRoot a.lo false).1)) rfl rfl ?_)
      refine ao 29 rfl rfl (st_move (v := .int .i64 ((numRoot a.hi true).1)) rfl rfl ?_)
      refine ao 30 rfl rfl (st_cf (vs := [.int .i64 ((numRoot a.lo false).1), .int .i64 ((numRoot a.hi true).1)]) (r := .agg #[.int .i64 ((ivOf ((numRoot a.lo false).1) ((numRoot a.hi true).1)).lo), .int .i64 ((ivOf ((numRoot a.lo false).1) ((numRoot a.hi true).1)).hi), .bool ((ivOf ((numRoot a.lo false).1) ((numRoot a.hi true).1)).no)]) (c_ivOf ((numRoot a.lo false).1) ((numRoot a.hi true).1)) Try.func70 rfl (by decide) rfl rfl rfl ?_)
      refine ar_op (d := none) rfl rfl (st_sta (g := g1) (off := 0) (us := [.int .i64 ((ivOf ((numRoot a.lo false).1) ((numRoot a.hi true).1)).lo), .int .i64 ((ivOf ((numRoot a.lo false).1) ((numRoot a.hi true).1)).hi), .bool ((ivOf ((numRoot a.lo false).1) ((numRoot a.hi true).1)).no)]) (cs := [.int .i64 ((ivOf ((numRoot a.lo false).1) ((numRoot a.hi true).1)).lo), .int .i64 ((ivOf ((numRoot a.lo false).1) ((numRoot a.hi true).1)).hi), .bool ((ivOf ((numRoot a.lo false).1) ((numRoot a.hi true).1)).no)]) agg26 0 rfl rfl rfl rfl rfl rfl rfl rfl rfl ?_)
      refine ar_nil ?_
      refine ac_ret ?_
      exact fin_eq (v := .agg #[.int .i64 ((ivOf ((numRoot a.lo false).1) ((numRoot a.hi true).1)).lo), .int .i64 ((ivOf ((numRoot a.lo false).1) ((numRoot a.hi true).1)).hi), .bool ((ivOf ((numRoot a.lo false).1) ((numRoot a.hi true).1)).no)]) (by show _ = Iv.v (ivRoot a); rw [ivRoot, h2, h1] <;> rfl) (fin_ret (res_c (vs := [.int .i64 ((ivOf ((numRoot a.lo false).1) ((numRoot a.hi true).1)).lo), .int .i64 ((ivOf ((numRoot a.lo false).1) ((numRoot a.hi true).1)).hi), .bool ((ivOf ((numRoot a.lo false).1) ((numRoot a.hi true).1)).no)]) agg26 0 rfl rfl rfl rfl rfl rfl))
  · refine ar_sk (d := (some 11)) (by show ((!(ivRight a)) == false) = false; rw [h1]; rfl) rfl ?_
    refine ar_sk (d := (some 12)) (by show ((!(ivRight a)) == false) = false; rw [h1]; rfl) rfl ?_
    refine ar_sk (d := (some 13)) (by show ((!(ivRight a)) == false) = false; rw [h1]; rfl) rfl ?_
    refine ao 14 rfl rfl (st_pkt' (b := !(ivRight a)) (v := .bool true) (by rw [h1]; rfl) rfl rfl rfl ?_)
    refine ar_nil ?_
    refine ac_then rfl ?_
    refine ac_seq ?_
    refine ac_region_lit ?_
    refine ao 15 rfl rfl (st_cf (vs := []) (r := .agg #[.int .i64 ivNone.lo, .int .i64 ivNone.hi, .bool ivNone.no]) c_ivNone Try.func28 rfl (by decide) rfl rfl rfl ?_)
    refine ar_op (d := none) rfl rfl (st_sta (g := g1) (off := 0) (us := [.int .i64 ivNone.lo, .int .i64 ivNone.hi, .bool ivNone.no]) (cs := [.int .i64 ivNone.lo, .int .i64 ivNone.hi, .bool ivNone.no]) agg26 0 rfl rfl rfl rfl rfl rfl rfl rfl rfl ?_)
    refine ar_nil ?_
    refine ac_ret ?_
    exact fin_eq (v := .agg #[.int .i64 ivNone.lo, .int .i64 ivNone.hi, .bool ivNone.no]) (by show _ = Iv.v (ivRoot a); rw [ivRoot, h1] <;> rfl) (fin_ret (res_c (vs := [.int .i64 ivNone.lo, .int .i64 ivNone.hi, .bool ivNone.no]) agg26 0 rfl rfl rfl rfl rfl rfl))
end Go.Proofs.Ythngkopcadlciaa
namespace Go.Proofs.Ythngkopcadlciaa
def R (a : Iv) : Prop := a.no = false ∧ -1073741824 ≤ a.lo ∧ a.lo ≤ a.hi ∧ a.hi ≤ 1073741824
theorem ivRight_iff (a : Iv) : ivRight a = true ↔ R a := rRight_iff a
theorem rRight_eq (a : Iv) : rRight a = ivRight a := rfl
theorem rNone_eq : rNone = ivNone := rfl
theorem rOf_eq (l h : Int) : rOf l h = ivOf l h := rfl
theorem rPoint_eq (n : Int) : rPoint n = ivPoint n := rfl
theorem rWhole_eq (n : Int) : rWhole n = ivWhole n := rfl
theorem R_mk {l h : Int} (h1 : -1073741824 ≤ l) (h2 : l ≤ h) (h3 : h ≤ 1073741824) : R ⟨l, h, false⟩ := ⟨rfl, h1, h2, h3⟩
theorem ivRight_t {a : Iv} (h : R a) : ivRight a = true := (ivRight_iff a).2 h
theorem ivRight_f {a : Iv} (h : ¬ R a) : ivRight a = false := by
  cases e : ivRight a
  · rfl
  · exact absurd ((ivRight_iff a).1 e) h
theorem R_none : ¬ R ivNone := fun h => by cases h.1
theorem ivRight_none : ivRight ivNone = false := rfl
theorem R_eq {a : Iv} (h : R a) : a = ⟨a.lo, a.hi, false⟩ := by
  obtain ⟨lo, hi, no⟩ := a
  obtain ⟨h, _⟩ := h
  simp only at h
  rw [h]
theorem ivOf_in {l h : Int} (k : -1073741824 ≤ l ∧ l ≤ h ∧ h ≤ 1073741824) : ivOf l h = ⟨l, h, false⟩ := by
  unfold ivOf
  rw [ivRight_t (R_mk k.1 k.2.1 k.2.2)]; rfl
theorem ivOf_out {l h : Int} (k : ¬ (-1073741824 ≤ l ∧ l ≤ h ∧ h ≤ 1073741824)) : ivOf l h = ivNone := by
  unfold ivOf
  rw [ivRight_f (fun r => k ⟨r.2.1, r.2.2.1, r.2.2.2⟩)]; rfl
theorem R_of {l h : Int} : R (ivOf l h) ↔ -1073741824 ≤ l ∧ l ≤ h ∧ h ≤ 1073741824 := by
  by_cases k : -1073741824 ≤ l ∧ l ≤ h ∧ h ≤ 1073741824
  · rw [ivOf_in k]; exact ⟨fun _ => k, fun _ => R_mk k.1 k.2.1 k.2.2⟩
  · rw [ivOf_out k]; exact ⟨fun r => absurd r R_none, fun h => absurd h k⟩
theorem ivOf_R {a : Iv} (h : R a) : ivOf a.lo a.hi = a := by
  rw [ivOf_in h.2]; exact (R_eq h).symm
theorem ivBoth_t {a b : Iv} (ha : R a) (hb : R b) : ivBoth a b = true := by
  unfold ivBoth
  rw [ivRight_t ha, ivRight_t hb]; rfl
theorem ivBoth_f {a b : Iv} (h : ¬ (R a ∧ R b)) : ivBoth a b = false := by
  unfold ivBoth
  by_cases ha : R a
  · rw [ivRight_t ha, ivRight_f (fun hb => h ⟨ha, hb⟩)]; rfl
  · rw [ivRight_f ha]; rfl
theorem ivInside_iff (a b : Iv) : ivInside a b = true ↔ R a ∧ R b ∧ b.lo ≤ a.lo ∧ a.hi ≤ b.hi := by
  unfold ivInside
  by_cases h : R a ∧ R b
  · rw [ivBoth_t h.1 h.2]
    simp only [cond_true, Bool.cond_false_right, Bool.and_eq_true, decide_eq_true_eq]
    exact ⟨fun k => ⟨h.1, h.2, k⟩, fun k => k.2.2⟩
  · rw [ivBoth_f h]
    exact ⟨fun k => (nomatch k), fun k => absurd ⟨k.1, k.2.1⟩ h⟩
theorem ivHas_iff (a : Iv) (n : Int) : ivHas a n = true ↔ R a ∧ a.lo ≤ n ∧ n ≤ a.hi := by
  unfold ivHas
  by_cases h : R a
  · rw [ivRight_t h]
    simp only [cond_true, Bool.cond_false_right, Bool.and_eq_true, decide_eq_true_eq]
    exact ⟨fun k => ⟨h, k⟩, fun k => k.2⟩
  · rw [ivRight_f h]
    exact ⟨fun k => (nomatch k), fun k => absurd k.1 h⟩
theorem ivAdd_spec {a b : Iv} (ha : R a) (hb : R b) : ivAdd a b = ivOf (a.lo + b.lo) (a.hi + b.hi) := by
  obtain ⟨_, a1, a2, a3⟩ := ha
  obtain ⟨_, b1, b2, b3⟩ := hb
  unfold ivAdd
  rw [ivBoth_t ⟨‹_›, a1, a2, a3⟩ ⟨‹_›, b1, b2, b3⟩, w64_of (by omega) (by omega), w64_of (by omega) (by omega)]; rfl
theorem ivAdd_out {a b : Iv} (h : ¬ (R a ∧ R b)) : ivAdd a b = ivNone := by
  unfold ivAdd
  rw [ivBoth_f h]; rfl
theorem ivNeg_spec {a : Iv} (ha : R a) : ivNeg a = ⟨-a.hi, -a.lo, false⟩ := by
  have h := ha.2
  unfold ivNeg
  rw [ivRight_t ha, w64_of (by omega) (by omega), w64_of (by omega) (by omega)]
  simp only [cond_true]
  rw [ivOf_in (by omega)]
  congr 1 <;> omega
theorem ivNeg_out {a : Iv} (h : ¬ R a) : ivNeg a = ivNone := by
  unfold ivNeg
  rw [ivRight_f h]; rfl
theorem R_neg {a : Iv} : R (ivNeg a) ↔ R a := by
  by_cases h : R a
  · rw [ivNeg_spec h]
    have := h.2
    exact ⟨fun _ => h, fun _ => R_mk (by omega) (by omega) (by omega)⟩
  · rw [ivNeg_out h]
    exact ⟨fun k => absurd k R_none, fun k => absurd k h⟩
theorem ivSub_spec {a b : Iv} (ha : R a) (hb : R b) : ivSub a b = ivOf (a.lo - b.hi) (a.hi - b.lo) := by
  unfold ivSub
  rw [ivAdd_spec ha (R_neg.2 hb), ivNeg_spec hb]
  rfl
theorem ivSub_out {a b : Iv} (h : ¬ (R a ∧ R b)) : ivSub a b = ivNone := by
  unfold ivSub
  exact ivAdd_out (fun k => h ⟨k.1, R_neg.1 k.2⟩)
theorem ivTimes_spec {a : Iv} {k : Int} (ha : R a) (hk : -1073741824 ≤ k ∧ k ≤ 1073741824) : ivTimes a k = ivOf (min (k * a.lo) (k * a.hi)) (max (k * a.lo) (k * a.hi)) := by
  have h := ha.2
  have m1 := mul_bound (a := k) (b := a.lo) (A := 1073741824) (B := 1073741824) hk (by omega)
  have m2 := mul_bound (a := k) (b := a.hi) (A := 1073741824) (B := 1073741824) hk (by omega)
  unfold ivTimes ivTimes_e0
  rw [ivRight_t ha, (numIn_iff k).2 hk, w64_of (by omega) (by omega), w64_of (by omega) (by omega)]; rfl
theorem ivTimes_out {a : Iv} {k : Int} (h : ¬ (R a ∧ (-1073741824 ≤ k ∧ k ≤ 1073741824))) : ivTimes a k = ivNone := by
  unfold ivTimes
  by_cases ha : R a
  · have : numIn k = false := by
      cases e : numIn k
      · rfl
      · exact absurd ⟨ha, (numIn_iff k).1 e⟩ h
    rw [ivRight_t ha, this]; rfl
  · rw [ivRight_f ha]; rfl
theorem dn_mono {a a' b : Int} (hb : 0 < b) (h : a ≤ a') : dn a b ≤ dn a' b := Int.ediv_le_ediv hb h
theorem upq_mono {a a' b : Int} (hb : 0 < b) (h : a ≤ a') : upq a b ≤ upq a' b := by
  have := Int.ediv_le_ediv (a := -a') (b := -a) hb (by omega)
  unfold upq
  omega
theorem dn_le_upq {a b : Int} (hb : 0 < b) : dn a b ≤ upq a b := by
  rw [upq_eq hb]
  unfold dn
  split <;> omega
theorem dn_min {a a' b : Int} (hb : 0 < b) : dn (min a a') b = min (dn a b) (dn a' b) := by
  by_cases h : a ≤ a'
  · have := dn_mono hb h
    rw [Int.min_eq_left h, Int.min_eq_left this]
  · have := dn_mono hb (show a' ≤ a by omega)
    rw [Int.min_eq_right (by omega), Int.min_eq_right this]
theorem upq_max {a a' b : Int} (hb : 0 < b) : upq (max a a') b = max (upq a b) (upq a' b) := by
  by_cases h : a ≤ a'
  · have := upq_mono hb h
    rw [Int.max_eq_right h, Int.max_eq_right this]
  · have := upq_mono hb (show a' ≤ a by omega)
    rw [Int.max_eq_left (by omega), Int.max_eq_left this]
theorem dn_nonneg {a b : Int} (hb : 0 < b) (h : 0 ≤ a) : 0 ≤ dn a b := Int.ediv_nonneg h (by omega)
def far (a : Iv) : Int := max (-a.lo) a.hi
def near (a : Iv) : Int := max (max a.lo (-a.hi)) 0
theorem near_far {a : Iv} (ha : R a) : 0 ≤ near a ∧ near a ≤ far a ∧ far a ≤ 1073741824 := by
  have := ha.2
  unfold near far
  omega
theorem sq_mono {x y : Int} (h0 : 0 ≤ x) (h : x ≤ y) : x * x ≤ y * y := Int.mul_le_mul h h h0 (by omega)
theorem ivSqr_spec {a : Iv} (ha : R a) : ivSqr a = ivOf (dn (near a * near a) 65536) (upq (far a * far a) 65536) := by
  have h := ha.2
  have h0 := near_far ha
  have e1 : w64 (0 - a.lo) = -a.lo := by rw [w64_of (by omega) (by omega)]; omega
  have e2 : w64 (0 - a.hi) = -a.hi := by rw [w64_of (by omega) (by omega)]; omega
  have k1 : far a = max (-a.lo) a.hi := rfl
  have k2 : near a = max (max a.lo (-a.hi)) 0 := rfl
  have hs := sq_mono h0.1 h0.2.1
  unfold ivSqr ivSqr_e0 ivSqr_e1
  rw [e1, e2, ← k1, ← k2, ivRight_t ha, numMul_spec (by omega) (by omega), numMul_spec (by omega) (by omega), rq, rq]
  simp only [cond_true, cond_false]
  have n0 : 0 ≤ near a * near a := Int.mul_nonneg h0.1 h0.1
  have m1 : 0 ≤ dn (near a * near a) 65536 := dn_nonneg (by omega) n0
  have m2 : dn (near a * near a) 65536 ≤ upq (far a * far a) 65536 := Int.le_trans (dn_mono (by omega) hs) (dn_le_upq (by omega))
  by_cases hc : upq (far a * far a) 65536 ≤ 1073741824
  · rw [told_in (by omega), told_in (by omega)]; rfl
  · have : (told (upq (far a * far a) 65536)).2 = false := by
      rw [told_snd]
      cases e : numIn (upq (far a * far a) 65536)
      · rfl
      · have := (numIn_iff _).1 e
        omega
    rw [this, ivOf_out (l := dn (near a * near a) 65536) (h := upq (far a * far a) 65536) (by omega)]; rfl
theorem ivSqr_out {a : Iv} (h : ¬ R a) : ivSqr a = ivNone := by
  unfold ivSqr
  rw [ivRight_f h]; rfl
theorem ivHull_spec {a b : Iv} (ha : R a) (hb : R b) : ivHull a b = ⟨min a.lo b.lo, max a.hi b.hi, false⟩ := by
  have h1 := ha.2
  have h2 := hb.2
  unfold ivHull
  rw [ivBoth_t ha hb]
  simp only [cond_true]
  rw [ivOf_in (by omega)]
theorem ivHull_out {a b : Iv} (h : ¬ (R a ∧ R b)) : ivHull a b = ivNone := by
  unfold ivHull
  rw [ivBoth_f h]; rfl
theorem ivMeet_spec {a b : Iv} (ha : R a) (hb : R b) : ivMeet a b = ivOf (max a.lo b.lo) (min a.hi b.hi) := by
  unfold ivMeet
  rw [ivBoth_t ha hb]; rfl
theorem ivMeet_out {a b : Iv} (h : ¬ (R a ∧ R b)) : ivMeet a b = ivNone := by
  unfold ivMeet
  rw [ivBoth_f h]; rfl
theorem ivMid_spec {a : Iv} (ha : R a) : ivMid a = (a.lo + a.hi) / 2 := by
  have h := ha.2
  unfold ivMid
  rw [ivRight_t ha, w64_of (by omega) (by omega)]
  simp only [cond_true]
  exact Int.fdiv_eq_ediv_of_nonneg _ (by omega)
theorem ivMid_out {a : Iv} (h : ¬ R a) : ivMid a = 0 := by
  unfold ivMid
  rw [ivRight_f h]; rfl
theorem ivSplit_spec {a : Iv} (ha : R a) : ivSplit a = (⟨a.lo, (a.lo + a.hi) / 2, false⟩, ⟨(a.lo + a.hi) / 2, a.hi, false⟩) := by
  have h := ha.2
  unfold ivSplit
  rw [ivRight_t ha, ivMid_spec ha]
  simp only [cond_true]
  rw [ivOf_in (by omega), ivOf_in (by omega)]
theorem ivSplit_out {a : Iv} (h : ¬ R a) : ivSplit a = (ivNone, ivNone) := by
  unfold ivSplit
  rw [ivRight_f h]; rfl
theorem ivRoot_spec {a : Iv} (ha : R a) (h0 : 0 ≤ a.lo) : ivRoot a = ivOf (rootf a.lo) (rootc a.hi) := by
  have h := ha.2
  unfold ivRoot
  rw [ivRight_t ha, decide_eq_false (by omega), numRoot_spec (by omega) (by omega), numRoot_spec (by omega) (by omega)]; rfl
theorem ivRoot_out {a : Iv} (h : ¬ (R a ∧ 0 ≤ a.lo)) : ivRoot a = ivNone := by
  unfold ivRoot
  by_cases ha : R a
  · rw [ivRight_t ha, decide_eq_true (by have : ¬ 0 ≤ a.lo := fun k => h ⟨ha, k⟩; omega)]; rfl
  · rw [ivRight_f ha]; rfl
theorem root_mono {m n s t : Int} (h : m ≤ n) (hs : IsRoot m s) (ht : IsRoot n t) : s ≤ t := by
  obtain ⟨s1, s2, s3⟩ := hs
  obtain ⟨t1, t2, t3⟩ := ht
  refine Decidable.byContradiction fun hc => ?_
  have := sq_mono (x := t + 1) (y := s) (by omega) (by omega)
  omega
theorem rootf_mono {a b : Int} (h0 : 0 ≤ a) (h : a ≤ b) (hb : b ≤ 1073741824) : rootf a ≤ rootf b :=
  root_mono (m := a * 65536) (n := b * 65536) (by omega) (rootf_is h0 (by omega)) (rootf_is (by omega) hb)
theorem rootf_le_rootc (a : Int) : rootf a ≤ rootc a ∧ rootc a ≤ rootf a + 1 := by
  unfold rootc
  split <;> omega
theorem rootc_ge {a : Int} (h0 : 0 ≤ a) (h1 : a ≤ 1073741824) : a * 65536 ≤ rootc a * rootc a := by
  obtain ⟨k1, k2, k3⟩ := rootf_is h0 h1
  unfold rootc
  split <;> omega
theorem rootc_mono {a b : Int} (h0 : 0 ≤ a) (h : a ≤ b) (hb : b ≤ 1073741824) : rootc a ≤ rootc b := by
  have h1 := rootf_mono h0 h hb
  have h2 := rootf_le_rootc a
  have h3 := rootf_le_rootc b
  refine Decidable.byContradiction fun hc => ?_
  have e1 : rootf a = rootf b := by omega
  have e2 : rootc a = rootf a + 1 := by omega
  have e3 : rootc b = rootf b := by omega
  have k1 := rootc_ge (a := b) (by omega) hb
  have k2 : rootf a * rootf a < a * 65536 := by
    unfold rootc at e2
    split at e2
    · assumption
    · omega
  rw [e3, ← e1] at k1
  omega
theorem rootc_le {a : Int} (h0 : 0 ≤ a) (h1 : a ≤ 1073741824) : 0 ≤ rootc a ∧ rootc a ≤ 8388608 := by
  have h2 := rootf_le h0 h1
  have h3 := rootc_mono h0 h1 (by omega)
  have h4 : rootc 1073741824 = 8388608 := by decide +kernel
  have h5 := rootf_le_rootc a
  omega
theorem R_root {a : Iv} : R (ivRoot a) ↔ R a ∧ 0 ≤ a.lo := by
  by_cases h : R a ∧ 0 ≤ a.lo
  · rw [ivRoot_spec h.1 h.2, R_of]
    have h1 := h.1.2
    have h2 := rootf_le (a := a.lo) h.2 (by omega)
    have h3 := rootc_le (a := a.hi) (by omega) (by omega)
    have h4 := rootf_mono (a := a.lo) (b := a.hi) h.2 (by omega) (by omega)
    have h5 := rootf_le_rootc a.hi
    exact ⟨fun _ => h, fun _ => by omega⟩
  · rw [ivRoot_out h]
    exact ⟨fun k => absurd k R_none, fun k => absurd k h⟩
theorem ivRoot_val {a : Iv} (ha : R a) (h0 : 0 ≤ a.lo) : ivRoot a = ⟨rootf a.lo, rootc a.hi, false⟩ := by
  rw [ivRoot_spec ha h0, ivOf_in]
  have := R_root.2 ⟨ha, h0⟩
  rw [ivRoot_spec ha h0, R_of] at this
  exact this
def ends4 (t1 u1 t2 u2 t3 u3 t4 u4 : Int × Bool) : Iv :=
  let e0 := ivOf t1.1 u1.1
  let e1 := ivOf (min e0.lo t1.1) (max e0.hi u1.1)
  let e2 := ivOf (min e1.lo t2.1) (max e1.hi u2.1)
  let e3 := ivOf (min e2.lo t3.1) (max e2.hi u3.1)
  let e4 := ivOf (min e3.lo t4.1) (max e3.hi u4.1)
  bif t1.2 then bif u1.2 then bif t2.2 then bif u2.2 then bif t3.2 then bif u3.2 then bif t4.2 then bif u4.2 then e4 else ivNone else ivNone else ivNone else ivNone else ivNone else ivNone else ivNone else ivNone
def rends4 (t1 u1 t2 u2 t3 u3 t4 u4 : Int × Bool) : Iv :=
  let e0 := bif decide (t2.1 < t1.1) then t2.1 else t1.1
  let e1 := bif decide (u2.1 > u1.1) then u2.1 else u1.1
  let e2 := bif decide (t3.1 < e0) then t3.1 else e0
  let e3 := bif decide (u3.1 > e1) then u3.1 else e1
  let e4 := bif decide (t4.1 < e2) then t4.1 else e2
  let e5 := bif decide (u4.1 > e3) then u4.1 else e3
  bif t1.2 then bif u1.2 then bif t2.2 then bif u2.2 then bif t3.2 then bif u3.2 then bif t4.2 then bif u4.2 then rOf e4 e5 else rNone else rNone else rNone else rNone else rNone else rNone else rNone else rNone
theorem endsMul_eq (a b : Iv) : endsMul a b = ends4 (numMul a.lo b.lo false) (numMul a.lo b.lo true) (numMul a.lo b.hi false) (numMul a.lo b.hi true) (numMul a.hi b.lo false) (numMul a.hi b.lo true) (numMul a.hi b.hi false) (numMul a.hi b.hi true) := rfl
theorem endsDiv_eq (a b : Iv) : endsDiv a b = ends4 (numDiv a.lo b.lo false) (numDiv a.lo b.lo true) (numDiv a.lo b.hi false) (numDiv a.lo b.hi true) (numDiv a.hi b.lo false) (numDiv a.hi b.lo true) (numDiv a.hi b.hi false) (numDiv a.hi b.hi true) := rfl
theorem numIn_f {q : Int} (h : ¬ (-1073741824 ≤ q ∧ q ≤ 1073741824)) : numIn q = false := by
  cases e : numIn q
  · rfl
  · exact absurd ((numIn_iff q).1 e) h
def min4 (a b c d : Int) : Int := min (min a b) (min c d)
def max4 (a b c d : Int) : Int := max (max a b) (max c d)
theorem ends4_spec {l1 u1 l2 u2 l3 u3 l4 u4 : Int} (h1 : l1 ≤ u1) (h2 : l2 ≤ u2) (h3 : l3 ≤ u3) (h4 : l4 ≤ u4) :
    ends4 (told l1) (told u1) (told l2) (told u2) (told l3) (told u3) (told l4) (told u4) = ivOf (min4 l1 l2 l3 l4) (max4 u1 u2 u3 u4) := by
  unfold ends4
  simp only [told_snd]
  by_cases h : -1073741824 ≤ min4 l1 l2 l3 l4 ∧ max4 u1 u2 u3 u4 ≤ 1073741824
  · unfold min4 max4 at h ⊢
    rw [told_in (q := l1) (by omega), told_in (q := u1) (by omega), told_in (q := l2) (by omega), told_in (q := u2) (by omega), told_in (q := l3) (by omega), told_in (q := u3) (by omega), told_in (q := l4) (by omega), told_in (q := u4) (by omega)]
    rw [(numIn_iff l1).2 (by omega), (numIn_iff u1).2 (by omega), (numIn_iff l2).2 (by omega), (numIn_iff u2).2 (by omega), (numIn_iff l3).2 (by omega), (numIn_iff u3).2 (by omega), (numIn_iff l4).2 (by omega), (numIn_iff u4).2 (by omega)]
    simp only [cond_true]
    rw [ivOf_in (l := l1) (h := u1) (by omega)]
    simp only
    rw [ivOf_in (l := min l1 l1) (by omega)]
    simp only
    rw [ivOf_in (l := min (min l1 l1) l2) (by omega)]
    simp only
    rw [ivOf_in (l := min (min (min l1 l1) l2) l3) (by omega)]
    simp only
    congr 1 <;> omega
  · rw [ivOf_out (l := min4 l1 l2 l3 l4) (h := max4 u1 u2 u3 u4) (fun k => h ⟨k.1, k.2.2⟩)]
    unfold min4 max4 at h
    have k : ∀ (q : Int) (x : Iv), (-1073741824 ≤ q ∧ q ≤ 1073741824 → x = ivNone) → (bif numIn q then x else ivNone) = ivNone := by
      intro q x hx
      by_cases hq : -1073741824 ≤ q ∧ q ≤ 1073741824
      · rw [(numIn_iff q).2 hq, hx hq]; rfl
      · rw [numIn_f hq]; rfl
    exact k _ _ fun a1 => k _ _ fun a2 => k _ _ fun a3 => k _ _ fun a4 => k _ _ fun a5 => k _ _ fun a6 => k _ _ fun a7 => k _ _ fun a8 => by omega
theorem bmin (x y : Int) : (bif decide (x < y) then x else y) = min y x := by
  by_cases h : x < y
  · rw [decide_eq_true h]; simp only [cond_true]; omega
  · rw [decide_eq_false h]; simp only [cond_false]; omega
theorem bmax (x y : Int) : (bif decide (x > y) then x else y) = max y x := by
  by_cases h : x > y
  · rw [decide_eq_true h]; simp only [cond_true]; omega
  · rw [decide_eq_false h]; simp only [cond_false]; omega
theorem rends4_spec {l1 u1 l2 u2 l3 u3 l4 u4 : Int} (h1 : l1 ≤ u1) (h2 : l2 ≤ u2) (h3 : l3 ≤ u3) (h4 : l4 ≤ u4) :
    rends4 (told l1) (told u1) (told l2) (told u2) (told l3) (told u3) (told l4) (told u4) = ivOf (min4 l1 l2 l3 l4) (max4 u1 u2 u3 u4) := by
  unfold rends4
  simp only [told_snd, bmin, bmax, rOf_eq, rNone_eq]
  by_cases h : -1073741824 ≤ min4 l1 l2 l3 l4 ∧ max4 u1 u2 u3 u4 ≤ 1073741824
  · unfold min4 max4 at h ⊢
    rw [told_in (q := l1) (by omega), told_in (q := u1) (by omega), told_in (q := l2) (by omega), told_in (q := u2) (by omega), told_in (q := l3) (by omega), told_in (q := u3) (by omega), told_in (q := l4) (by omega), told_in (q := u4) (by omega)]
    rw [(numIn_iff l1).2 (by omega), (numIn_iff u1).2 (by omega), (numIn_iff l2).2 (by omega), (numIn_iff u2).2 (by omega), (numIn_iff l3).2 (by omega), (numIn_iff u3).2 (by omega), (numIn_iff l4).2 (by omega), (numIn_iff u4).2 (by omega)]
    simp only [cond_true]
    congr 1 <;> omega
  · rw [ivOf_out (l := min4 l1 l2 l3 l4) (h := max4 u1 u2 u3 u4) (fun k => h ⟨k.1, k.2.2⟩)]
    unfold min4 max4 at h
    have k : ∀ (q : Int) (x : Iv), (-1073741824 ≤ q ∧ q ≤ 1073741824 → x = ivNone) → (bif numIn q then x else ivNone) = ivNone := by
      intro q x hx
      by_cases hq : -1073741824 ≤ q ∧ q ≤ 1073741824
      · rw [(numIn_iff q).2 hq, hx hq]; rfl
      · rw [numIn_f hq]; rfl
    exact k _ _ fun a1 => k _ _ fun a2 => k _ _ fun a3 => k _ _ fun a4 => k _ _ fun a5 => k _ _ fun a6 => k _ _ fun a7 => k _ _ fun a8 => by omega
def mn (a b : Iv) : Int := min4 (a.lo * b.lo) (a.lo * b.hi) (a.hi * b.lo) (a.hi * b.hi)
def mx (a b : Iv) : Int := max4 (a.lo * b.lo) (a.lo * b.hi) (a.hi * b.lo) (a.hi * b.hi)
theorem dn_min4 {a b c d n : Int} (hn : 0 < n) : dn (min4 a b c d) n = min4 (dn a n) (dn b n) (dn c n) (dn d n) := by
  unfold min4
  rw [dn_min hn, dn_min hn, dn_min hn]
theorem upq_max4 {a b c d n : Int} (hn : 0 < n) : upq (max4 a b c d) n = max4 (upq a n) (upq b n) (upq c n) (upq d n) := by
  unfold max4
  rw [upq_max hn, upq_max hn, upq_max hn]
theorem ivMul_spec {a b : Iv} (ha : R a) (hb : R b) : ivMul a b = ivOf (dn (mn a b) 65536) (upq (mx a b) 65536) := by
  have h1 := ha.2
  have h2 := hb.2
  unfold ivMul mn mx
  rw [ivBoth_t ha hb, endsMul_eq]
  simp only [cond_true]
  simp (disch := omega) only [numMul_spec]
  simp only [rq, cond_true, cond_false]
  rw [ends4_spec (dn_le_upq (by omega)) (dn_le_upq (by omega)) (dn_le_upq (by omega)) (dn_le_upq (by omega)), dn_min4 (by omega), upq_max4 (by omega)]
theorem ivMul_out {a b : Iv} (h : ¬ (R a ∧ R b)) : ivMul a b = ivNone := by
  unfold ivMul
  rw [ivBoth_f h]; rfl
theorem dq_le {a b : Int} (hb : b ≠ 0) : dq a b false ≤ dq a b true := by
  unfold dq rq
  simp only [cond_true, cond_false]
  by_cases h : b < 0
  · rw [decide_eq_true h]; exact dn_le_upq (by simp only [cond_true]; omega)
  · rw [decide_eq_false h]; exact dn_le_upq (by simp only [cond_false]; omega)
theorem ivDiv_spec {a b : Iv} (ha : R a) (hb : R b) (h0 : ¬ (b.lo ≤ 0 ∧ 0 ≤ b.hi)) : ivDiv a b = ivOf (min4 (dq a.lo b.lo false) (dq a.lo b.hi false) (dq a.hi b.lo false) (dq a.hi b.hi false)) (max4 (dq a.lo b.lo true) (dq a.lo b.hi true) (dq a.hi b.lo true) (dq a.hi b.hi true)) := by
  have h1 := ha.2
  have h2 := hb.2
  have h3 : ivHas b 0 = false := by
    cases e : ivHas b 0
    · rfl
    · have := (ivHas_iff b 0).1 e
      exact absurd this.2 h0
  unfold ivDiv
  rw [ivBoth_t ha hb, h3, endsDiv_eq]
  simp only [cond_true, cond_false]
  simp (disch := omega) only [numDiv_spec]
  rw [ends4_spec (dq_le (by omega)) (dq_le (by omega)) (dq_le (by omega)) (dq_le (by omega))]
theorem ivDiv_out {a b : Iv} (h : ¬ (R a ∧ R b ∧ ¬ (b.lo ≤ 0 ∧ 0 ≤ b.hi))) : ivDiv a b = ivNone := by
  unfold ivDiv
  by_cases k : R a ∧ R b
  · have h3 : ivHas b 0 = true := (ivHas_iff b 0).2 ⟨k.2, Decidable.byContradiction fun e => h ⟨k.1, k.2, e⟩⟩
    rw [ivBoth_t k.1 k.2, h3]; rfl
  · rw [ivBoth_f k]; rfl
end Go.Proofs.Ythngkopcadlciaa
namespace Go.Proofs.Ythngkopcadlciaa
def Le (a b : Iv) : Prop := R b → R a ∧ b.lo ≤ a.lo ∧ a.hi ≤ b.hi
theorem Le.rfl' (a : Iv) : Le a a := fun h => ⟨h, by omega, by omega⟩
theorem Le.trans {a b c : Iv} (h : Le a b) (k : Le b c) : Le a c := fun hc => by
  have h1 := k hc
  have h2 := h h1.1
  exact ⟨h2.1, by omega, by omega⟩
theorem Le.none (a : Iv) : Le a ivNone := fun h => absurd h R_none
theorem le_of {l h l' h' : Int} (h1 : l ≤ l') (h2 : l' ≤ h') (h3 : h' ≤ h) : Le (ivOf l' h') (ivOf l h) := fun k => by
  have k := R_of.1 k
  have e1 : -1073741824 ≤ l' ∧ l' ≤ h' ∧ h' ≤ 1073741824 := by omega
  rw [ivOf_in e1, ivOf_in k]
  exact ⟨R_mk e1.1 e1.2.1 e1.2.2, h1, h3⟩
theorem mul_lin {a b x : Int} (y : Int) (h1 : a ≤ x) (h2 : x ≤ b) : min (a * y) (b * y) ≤ x * y ∧ x * y ≤ max (a * y) (b * y) := by
  by_cases h : 0 ≤ y
  · have := Int.mul_le_mul_of_nonneg_right h1 h
    have := Int.mul_le_mul_of_nonneg_right h2 h
    omega
  · have := Int.mul_le_mul_of_nonpos_right h1 (show y ≤ 0 by omega)
    have := Int.mul_le_mul_of_nonpos_right h2 (show y ≤ 0 by omega)
    omega
theorem mul_lin' {a b x : Int} (y : Int) (h1 : a ≤ x) (h2 : x ≤ b) : min (y * a) (y * b) ≤ y * x ∧ y * x ≤ max (y * a) (y * b) := by
  rw [Int.mul_comm y a, Int.mul_comm y b, Int.mul_comm y x]
  exact mul_lin y h1 h2
theorem mul_hull {a b : Iv} {x y : Int} (h1 : a.lo ≤ x) (h2 : x ≤ a.hi) (h3 : b.lo ≤ y) (h4 : y ≤ b.hi) : mn a b ≤ x * y ∧ x * y ≤ mx a b := by
  have k1 := mul_lin y h1 h2
  have k2 := mul_lin' a.lo h3 h4
  have k3 := mul_lin' a.hi h3 h4
  unfold mn mx min4 max4
  omega
theorem mn_mx {a b : Iv} : mn a b ≤ mx a b := by
  unfold mn mx min4 max4
  omega
theorem R_args2 {f : Iv → Iv → Iv} {a b : Iv} (h : ¬ (R a ∧ R b) → f a b = ivNone) (k : R (f a b)) : R a ∧ R b :=
  Classical.byContradiction fun c => by rw [h c] at k; exact R_none k
theorem R_args1 {f : Iv → Iv} {a : Iv} (h : ¬ R a → f a = ivNone) (k : R (f a)) : R a :=
  Classical.byContradiction fun c => by rw [h c] at k; exact R_none k
theorem le_add {a b c d : Iv} (h1 : Le a c) (h2 : Le b d) : Le (ivAdd a b) (ivAdd c d) := fun k => by
  obtain ⟨rc, rd⟩ := R_args2 ivAdd_out k
  obtain ⟨ra, a1, a2⟩ := h1 rc
  obtain ⟨rb, b1, b2⟩ := h2 rd
  rw [ivAdd_spec ra rb, ivAdd_spec rc rd] at *
  have := ra.2
  have := rb.2
  exact le_of (by omega) (by omega) (by omega) k
theorem le_neg {a c : Iv} (h1 : Le a c) : Le (ivNeg a) (ivNeg c) := fun k => by
  have rc := R_neg.1 k
  obtain ⟨ra, a1, a2⟩ := h1 rc
  refine ⟨R_neg.2 ra, ?_⟩
  rw [ivNeg_spec ra, ivNeg_spec rc]
  simp only
  omega
theorem le_sub {a b c d : Iv} (h1 : Le a c) (h2 : Le b d) : Le (ivSub a b) (ivSub c d) := le_add h1 (le_neg h2)
theorem le_mul {a b c d : Iv} (h1 : Le a c) (h2 : Le b d) : Le (ivMul a b) (ivMul c d) := fun k => by
  obtain ⟨rc, rd⟩ := R_args2 ivMul_out k
  obtain ⟨ra, a1, a2⟩ := h1 rc
  obtain ⟨rb, b1, b2⟩ := h2 rd
  rw [ivMul_spec ra rb, ivMul_spec rc rd] at *
  have r1 := ra.2
  have r2 := rb.2
  have c1 := mul_hull (a := c) (b := d) (x := a.lo) (y := b.lo) (by omega) (by omega) (by omega) (by omega)
  have c2 := mul_hull (a := c) (b := d) (x := a.lo) (y := b.hi) (by omega) (by omega) (by omega) (by omega)
  have c3 := mul_hull (a := c) (b := d) (x := a.hi) (y := b.lo) (by omega) (by omega) (by omega) (by omega)
  have c4 := mul_hull (a := c) (b := d) (x := a.hi) (y := b.hi) (by omega) (by omega) (by omega) (by omega)
  have e1 : mn c d ≤ mn a b := by
    show mn c d ≤ min (min (a.lo * b.lo) (a.lo * b.hi)) (min (a.hi * b.lo) (a.hi * b.hi))
    omega
  have e2 : mx a b ≤ mx c d := by
    show max (max (a.lo * b.lo) (a.lo * b.hi)) (max (a.hi * b.lo) (a.hi * b.hi)) ≤ mx c d
    omega
  exact le_of (dn_mono (by omega) e1) (Int.le_trans (dn_mono (by omega) mn_mx) (dn_le_upq (by omega))) (upq_mono (by omega) e2) k
theorem le_times {a c : Iv} (k : Int) (h1 : Le a c) : Le (ivTimes a k) (ivTimes c k) := fun r => by
  have hc : R c ∧ (-1073741824 ≤ k ∧ k ≤ 1073741824) := Classical.byContradiction fun n => by rw [ivTimes_out n] at r; exact R_none r
  obtain ⟨ra, a1, a2⟩ := h1 hc.1
  rw [ivTimes_spec ra hc.2, ivTimes_spec hc.1 hc.2] at *
  have r1 := ra.2
  have e1 := mul_lin' k (a := c.lo) (b := c.hi) (x := a.lo) (by omega) (by omega)
  have e2 := mul_lin' k (a := c.lo) (b := c.hi) (x := a.hi) (by omega) (by omega)
  exact le_of (by omega) (by omega) (by omega) r
theorem le_sqr {a c : Iv} (h1 : Le a c) : Le (ivSqr a) (ivSqr c) := fun k => by
  have rc := R_args1 ivSqr_out k
  obtain ⟨ra, a1, a2⟩ := h1 rc
  rw [ivSqr_spec ra, ivSqr_spec rc] at *
  have n1 := near_far ra
  have n2 := near_far rc
  have r1 := ra.2
  have e1 : near c ≤ near a := by unfold near; omega
  have e2 : far a ≤ far c := by unfold far; omega
  have q1 := sq_mono n2.1 e1
  have q2 := sq_mono n1.1 n1.2.1
  have q3 := sq_mono (by omega : 0 ≤ far a) e2
  exact le_of (dn_mono (by omega) q1) (Int.le_trans (dn_mono (by omega) q2) (dn_le_upq (by omega))) (upq_mono (by omega) q3) k
theorem le_root {a c : Iv} (h1 : Le a c) : Le (ivRoot a) (ivRoot c) := fun k => by
  obtain ⟨rc, c0⟩ := R_root.1 k
  obtain ⟨ra, a1, a2⟩ := h1 rc
  have r1 := ra.2
  have r2 := rc.2
  refine ⟨R_root.2 ⟨ra, by omega⟩, ?_⟩
  rw [ivRoot_val ra (by omega), ivRoot_val rc c0]
  exact ⟨rootf_mono c0 a1 (by omega), rootc_mono (by omega) a2 (by omega)⟩
theorem le_hull {a b c d : Iv} (h1 : Le a c) (h2 : Le b d) : Le (ivHull a b) (ivHull c d) := fun k => by
  obtain ⟨rc, rd⟩ := R_args2 ivHull_out k
  obtain ⟨ra, a1, a2⟩ := h1 rc
  obtain ⟨rb, b1, b2⟩ := h2 rd
  have r1 := ra.2
  have r2 := rb.2
  rw [ivHull_spec ra rb, ivHull_spec rc rd] at *
  have := k.2
  simp only at this
  exact ⟨R_mk (by omega) (by omega) (by omega), by simp only; omega, by simp only; omega⟩
theorem le_dn_iff {l n c : Int} (hc : 0 < c) : l ≤ dn n c ↔ l * c ≤ n := Int.le_ediv_iff_mul_le hc
theorem upq_le_iff {u n c : Int} (hc : 0 < c) : upq n c ≤ u ↔ n ≤ u * c := by
  have := le_dn_iff (l := -u) (n := -n) hc
  unfold dn at this
  unfold upq
  rw [Int.neg_mul] at this
  omega
theorem le_dq {l x y : Int} (h : y ≠ 0) : l ≤ dq x y false ↔ (0 < y ∧ l * y ≤ x * 65536) ∨ (y < 0 ∧ x * 65536 ≤ l * y) := by
  unfold dq rq
  by_cases hn : y < 0
  · rw [decide_eq_true hn]
    simp only [cond_true, cond_false]
    rw [le_dn_iff (by omega), Int.mul_neg]
    omega
  · rw [decide_eq_false hn]
    simp only [cond_true, cond_false]
    rw [le_dn_iff (by omega)]
    omega
theorem dq_le_iff {u x y : Int} (h : y ≠ 0) : dq x y true ≤ u ↔ (0 < y ∧ x * 65536 ≤ u * y) ∨ (y < 0 ∧ u * y ≤ x * 65536) := by
  unfold dq rq
  by_cases hn : y < 0
  · rw [decide_eq_true hn]
    simp only [cond_true, cond_false]
    rw [upq_le_iff (by omega), Int.mul_neg]
    omega
  · rw [decide_eq_false hn]
    simp only [cond_true, cond_false]
    rw [upq_le_iff (by omega)]
    omega
theorem div_below {a b : Iv} {l x y : Int} (h0 : ¬ (b.lo ≤ 0 ∧ 0 ≤ b.hi)) (h1 : a.lo ≤ x) (h2 : x ≤ a.hi) (h3 : b.lo ≤ y) (h4 : y ≤ b.hi)
    (k1 : l ≤ dq a.lo b.lo false) (k2 : l ≤ dq a.lo b.hi false) (k3 : l ≤ dq a.hi b.lo false) (k4 : l ≤ dq a.hi b.hi false) : l ≤ dq x y false := by
  rw [le_dq (by omega)] at *
  have m := mul_lin' l h3 h4
  omega
theorem div_above {a b : Iv} {u x y : Int} (h0 : ¬ (b.lo ≤ 0 ∧ 0 ≤ b.hi)) (h1 : a.lo ≤ x) (h2 : x ≤ a.hi) (h3 : b.lo ≤ y) (h4 : y ≤ b.hi)
    (k1 : dq a.lo b.lo true ≤ u) (k2 : dq a.lo b.hi true ≤ u) (k3 : dq a.hi b.lo true ≤ u) (k4 : dq a.hi b.hi true ≤ u) : dq x y true ≤ u := by
  rw [dq_le_iff (by omega)] at *
  have m := mul_lin' u h3 h4
  omega
def qn (a b : Iv) : Int := min4 (dq a.lo b.lo false) (dq a.lo b.hi false) (dq a.hi b.lo false) (dq a.hi b.hi false)
def qx (a b : Iv) : Int := max4 (dq a.lo b.lo true) (dq a.lo b.hi true) (dq a.hi b.lo true) (dq a.hi b.hi true)
theorem ivDiv_val {a b : Iv} (ha : R a) (hb : R b) (h0 : ¬ (b.lo ≤ 0 ∧ 0 ≤ b.hi)) : ivDiv a b = ivOf (qn a b) (qx a b) := ivDiv_spec ha hb h0
theorem min4_le (a b c d : Int) : min4 a b c d ≤ a ∧ min4 a b c d ≤ b ∧ min4 a b c d ≤ c ∧ min4 a b c d ≤ d := by
  unfold min4; omega
theorem le_max4 (a b c d : Int) : a ≤ max4 a b c d ∧ b ≤ max4 a b c d ∧ c ≤ max4 a b c d ∧ d ≤ max4 a b c d := by
  unfold max4; omega
theorem div_hull {a b : Iv} {x y : Int} (h0 : ¬ (b.lo ≤ 0 ∧ 0 ≤ b.hi)) (h1 : a.lo ≤ x) (h2 : x ≤ a.hi) (h3 : b.lo ≤ y) (h4 : y ≤ b.hi) : qn a b ≤ dq x y false ∧ dq x y true ≤ qx a b := by
  obtain ⟨k1, k2, k3, k4⟩ := min4_le (dq a.lo b.lo false) (dq a.lo b.hi false) (dq a.hi b.lo false) (dq a.hi b.hi false)
  obtain ⟨j1, j2, j3, j4⟩ := le_max4 (dq a.lo b.lo true) (dq a.lo b.hi true) (dq a.hi b.lo true) (dq a.hi b.hi true)
  exact ⟨div_below h0 h1 h2 h3 h4 k1 k2 k3 k4, div_above h0 h1 h2 h3 h4 j1 j2 j3 j4⟩
theorem R_div {a b : Iv} (k : R (ivDiv a b)) : R a ∧ R b ∧ ¬ (b.lo ≤ 0 ∧ 0 ≤ b.hi) :=
  Classical.byContradiction fun c => by rw [ivDiv_out c] at k; exact R_none k
theorem le_div {a b c d : Iv} (h1 : Le a c) (h2 : Le b d) : Le (ivDiv a b) (ivDiv c d) := fun k => by
  obtain ⟨rc, rd, h0⟩ := R_div k
  obtain ⟨ra, a1, a2⟩ := h1 rc
  obtain ⟨rb, b1, b2⟩ := h2 rd
  have r1 := ra.2
  have r2 := rb.2
  have h0' : ¬ (b.lo ≤ 0 ∧ 0 ≤ b.hi) := by omega
  rw [ivDiv_val ra rb h0', ivDiv_val rc rd h0] at *
  have c1 := div_hull (a := c) (b := d) (x := a.lo) (y := b.lo) h0 (by omega) (by omega) (by omega) (by omega)
  have c2 := div_hull (a := c) (b := d) (x := a.lo) (y := b.hi) h0 (by omega) (by omega) (by omega) (by omega)
  have c3 := div_hull (a := c) (b := d) (x := a.hi) (y := b.lo) h0 (by omega) (by omega) (by omega) (by omega)
  have c4 := div_hull (a := c) (b := d) (x := a.hi) (y := b.hi) h0 (by omega) (by omega) (by omega) (by omega)
  have e0 := dq_le (a := a.lo) (b := b.lo) (by omega)
  have e1 : qn c d ≤ qn a b := by
    show qn c d ≤ min (min (dq a.lo b.lo false) (dq a.lo b.hi false)) (min (dq a.hi b.lo false) (dq a.hi b.hi false))
    omega
  have e2 : qx a b ≤ qx c d := by
    show max (max (dq a.lo b.lo true) (dq a.lo b.hi true)) (max (dq a.hi b.lo true) (dq a.hi b.hi true)) ≤ qx c d
    omega
  have e3 : qn a b ≤ qx a b := by
    show min (min (dq a.lo b.lo false) (dq a.lo b.hi false)) (min (dq a.hi b.lo false) (dq a.hi b.hi false)) ≤ max (max (dq a.lo b.lo true) (dq a.lo b.hi true)) (max (dq a.hi b.lo true) (dq a.hi b.hi true))
    omega
  exact le_of e1 e3 e2 k
theorem le_meet {a b c d : Iv} (h1 : Le a c) (h2 : Le b d) (hm : R (ivMeet a b)) : Le (ivMeet a b) (ivMeet c d) := fun k => by
  obtain ⟨rc, rd⟩ := R_args2 ivMeet_out k
  obtain ⟨ra, a1, a2⟩ := h1 rc
  obtain ⟨rb, b1, b2⟩ := h2 rd
  rw [ivMeet_spec ra rb] at *
  rw [ivMeet_spec rc rd] at *
  have := R_of.1 hm
  exact le_of (by omega) (by omega) (by omega) k
theorem dn_neg (n : Int) {c : Int} : dn (-n) c = -(upq n c) := by
  unfold dn upq
  omega
theorem upq_neg (n : Int) {c : Int} : upq (-n) c = -(dn n c) := by
  unfold dn upq
  rw [Int.neg_neg]
theorem ivNeg_of (l h : Int) : ivNeg (ivOf l h) = ivOf (-h) (-l) := by
  by_cases k : -1073741824 ≤ l ∧ l ≤ h ∧ h ≤ 1073741824
  · rw [ivOf_in k, ivNeg_spec (R_mk k.1 k.2.1 k.2.2), ivOf_in (by omega)]
  · rw [ivOf_out k, ivOf_out (by omega), ivNeg_out R_none]
theorem ivNeg_none : ivNeg ivNone = ivNone := ivNeg_out R_none
theorem ivNeg_neg {a : Iv} (h : R a) : ivNeg (ivNeg a) = a := by
  rw [ivNeg_spec (R_neg.2 h), ivNeg_spec h]
  simp only [Int.neg_neg]
  exact (R_eq h).symm
theorem mn_negl (a b : Iv) (ha : R a) : mn (ivNeg a) b = -(mx a b) ∧ mx (ivNeg a) b = -(mn a b) := by
  rw [ivNeg_spec ha]
  unfold mn mx min4 max4
  simp only [Int.neg_mul]
  omega
theorem mn_comm (a b : Iv) : mn a b = mn b a ∧ mx a b = mx b a := by
  unfold mn mx min4 max4
  rw [Int.mul_comm a.lo b.lo, Int.mul_comm a.lo b.hi, Int.mul_comm a.hi b.lo, Int.mul_comm a.hi b.hi]
  omega
theorem ivMul_comm (a b : Iv) : ivMul a b = ivMul b a := by
  by_cases h : R a ∧ R b
  · rw [ivMul_spec h.1 h.2, ivMul_spec h.2 h.1, (mn_comm a b).1, (mn_comm a b).2]
  · rw [ivMul_out h, ivMul_out (fun k => h ⟨k.2, k.1⟩)]
theorem ivAdd_comm (a b : Iv) : ivAdd a b = ivAdd b a := by
  by_cases h : R a ∧ R b
  · rw [ivAdd_spec h.1 h.2, ivAdd_spec h.2 h.1, Int.add_comm, Int.add_comm a.hi]
  · rw [ivAdd_out h, ivAdd_out (fun k => h ⟨k.2, k.1⟩)]
theorem ivMul_negl (a b : Iv) : ivMul (ivNeg a) b = ivNeg (ivMul a b) := by
  by_cases h : R a ∧ R b
  · rw [ivMul_spec (R_neg.2 h.1) h.2, ivMul_spec h.1 h.2, (mn_negl a b h.1).1, (mn_negl a b h.1).2, ivNeg_of, dn_neg, upq_neg]
  · rw [ivMul_out h, ivMul_out (fun k => h ⟨R_neg.1 k.1, k.2⟩), ivNeg_none]
theorem ivMul_negr (a b : Iv) : ivMul a (ivNeg b) = ivNeg (ivMul a b) := by
  rw [ivMul_comm, ivMul_negl, ivMul_comm]
theorem ivHull_comm (a b : Iv) : ivHull a b = ivHull b a := by
  by_cases h : R a ∧ R b
  · rw [ivHull_spec h.1 h.2, ivHull_spec h.2 h.1, Int.min_comm, Int.max_comm]
  · rw [ivHull_out h, ivHull_out (fun k => h ⟨k.2, k.1⟩)]
theorem ivMeet_comm (a b : Iv) : ivMeet a b = ivMeet b a := by
  by_cases h : R a ∧ R b
  · rw [ivMeet_spec h.1 h.2, ivMeet_spec h.2 h.1, Int.max_comm, Int.min_comm]
  · rw [ivMeet_out h, ivMeet_out (fun k => h ⟨k.2, k.1⟩)]
theorem ivSqr_neg (a : Iv) : ivSqr (ivNeg a) = ivSqr a := by
  by_cases h : R a
  · have e1 : near (ivNeg a) = near a := by rw [ivNeg_spec h]; unfold near; simp only; omega
    have e2 : far (ivNeg a) = far a := by rw [ivNeg_spec h]; unfold far; simp only; omega
    rw [ivSqr_spec (R_neg.2 h), ivSqr_spec h, e1, e2]
  · rw [ivSqr_out h, ivSqr_out (fun k => h (R_neg.1 k))]
theorem ivNeg_add (a b : Iv) : ivNeg (ivAdd a b) = ivAdd (ivNeg a) (ivNeg b) := by
  by_cases h : R a ∧ R b
  · rw [ivAdd_spec h.1 h.2, ivAdd_spec (R_neg.2 h.1) (R_neg.2 h.2), ivNeg_of, ivNeg_spec h.1, ivNeg_spec h.2]
    simp only
    congr 1 <;> omega
  · rw [ivAdd_out h, ivAdd_out (fun k => h ⟨R_neg.1 k.1, R_neg.1 k.2⟩), ivNeg_none]
theorem sqr_le_mul (a : Iv) : Le (ivSqr a) (ivMul a a) := fun k => by
  obtain ⟨ra, _⟩ := R_args2 ivMul_out k
  rw [ivMul_spec ra ra] at k ⊢
  rw [ivSqr_spec ra]
  have h := ra.2
  have n := near_far ra
  have c1 := mul_hull (a := a) (b := a) (x := a.lo) (y := a.lo) (by omega) (by omega) (by omega) (by omega)
  have c4 := mul_hull (a := a) (b := a) (x := a.hi) (y := a.hi) (by omega) (by omega) (by omega) (by omega)
  have e1 : mn a a ≤ near a * near a := by
    by_cases p : 0 < a.lo
    · have : near a = a.lo := by unfold near; omega
      rw [this]; exact c1.1
    · by_cases q : a.hi < 0
      · have : near a = -a.hi := by unfold near; omega
        rw [this, Int.neg_mul_neg]; exact c4.1
      · have : near a = 0 := by unfold near; omega
        rw [this]
        have := mul_hull (a := a) (b := a) (x := 0) (y := 0) (by omega) (by omega) (by omega) (by omega)
        exact this.1
  have e2 : far a * far a ≤ mx a a := by
    by_cases p : -a.lo ≤ a.hi
    · have : far a = a.hi := by unfold far; omega
      rw [this]; exact c4.2
    · have : far a = -a.lo := by unfold far; omega
      rw [this, Int.neg_mul_neg]; exact c1.2
  have hs := sq_mono n.1 n.2.1
  exact le_of (dn_mono (by omega) e1) (Int.le_trans (dn_mono (by omega) hs) (dn_le_upq (by omega))) (upq_mono (by omega) e2) k
end Go.Proofs.Ythngkopcadlciaa
namespace Go.Proofs.Ythngkopcadlciaa
theorem lT {c x : Bool} (h : c = true) (k : x = true) : (bif c then x else false) = true := by rw [h, k]; rfl
theorem lF {c x : Bool} (h : c = false) (k : x = true) : (bif c then false else x) = true := by rw [h, k]; rfl
theorem lC {c x y : Bool} (h : c = true → x = true) (k : c = false → y = true) : (bif c then x else y) = true := by
  cases c
  · exact k rfl
  · exact h rfl
theorem dT {p : Prop} [Decidable p] (h : p) : decide p = true := decide_eq_true h
theorem dF {p : Prop} [Decidable p] (h : ¬ p) : decide p = false := decide_eq_false h
end Go.Proofs.Ythngkopcadlciaa
namespace Go.Proofs.Ythngkopcadlciaa
open Go.RowKit
attribute [local irreducible] AC AR DWalk
def known2  : Bool := (bif decide ((ivMul (ivOf (-1) 1) (ivOf 0 65537)) = (⟨(-2), 2, false⟩ : Iv)) then decide (ivNone = (⟨0, 0, true⟩ : Iv)) else false)
def in2 (a : Iv) (b : Iv) : Bool := (bif ivRight b then ivInside a b else true)
end Go.Proofs.Ythngkopcadlciaa
namespace Go.Proofs.Ythngkopcadlciaa
open Go.RowKit
attribute [local irreducible] AC AR DWalk
def hIn_e0 (a : Iv) (x : Int) (y : Int) : Int := (hPick y (w64 ((w64 (a.hi - (w64 (a.lo + (hPick x (w64 ((w64 (a.hi - a.lo)) + 1))))))) + 1)))
def hIn (a : Iv) (x : Int) (y : Int) : Iv := (bif rRight a then (⟨w64 (a.lo + (hPick x (w64 ((w64 (a.hi - a.lo)) + 1)))), w64 ((w64 (a.lo + (hPick x (w64 ((w64 (a.hi - a.lo)) + 1))))) + (hIn_e0 a x y)), false⟩ : Iv) else a)
set_option maxRecDepth 100000 in
theorem c_hIn (a : Iv) (x : Int) (y : Int) : Gets Try.prog 41 #[.agg #[.int .i64 a.lo, .int .i64 a.hi, .bool a.no], .int .i64 x, .int .i64 y] (Iv.v (hIn a x y)) := by
  refine gets_fin Try.func41 rfl rfl rfl ?_
  refine ac_seq ?_
  refine ac_region_lit ?_
  refine ao 3 rfl rfl (st_box (v := .agg #[.int .i64 a.lo, .int .i64 a.hi, .bool a.no]) (cs := [.int .i64 a.lo, .int .i64 a.hi, .bool a.no]) rfl rfl rfl fun g0 => ?_)
  refine ao 6 rfl rfl (st_new zero26 rfl fun g1 => ?_)
  refine ar_nil ?_
  refine ac_seq ?_
  refine ac_seq ?_
  refine ac_region_lit ?_
  refine ao 8 rfl rfl (st_lda (g := g0) (off := 0) (vs := [.int .i64 a.lo, .int .i64 a.hi, .bool a.no]) agg26 1 rfl rfl rfl rfl rfl rfl ?_)
  refine ao 9 rfl rfl (st_cf (vs := [.agg #[.int .i64 a.lo, .int .i64 a.hi, .bool a.no]]) (r := .bool (rRight a)) (c_rRight a) Try.func40 rfl (by decide) rfl rfl rfl ?_)
  refine ao 10 rfl rfl (st_un (u := .bool (rRight a)) (v := .bool (!(rRight a))) rfl rfl (un_not rfl) ?_)
  refine ar_nil ?_
  refine bool_split (rRight a) (fun h1 => ?_) (fun h1 => ?_)
  · refine ac_else' (b := !(rRight a)) (by rw [h1]; rfl) rfl ?_
    refine ac_skip ?_
    refine ac_seq ?_
    refine ac_draw0 (id := 3) [0, 1, 2, 3, 4, 5, 6, 7, 8, 9, 10, 11] [] _ (by kernel_rfl) follows rfl  ?_
    refine dw_op (d := (some 12)) (.pointer (some ⟨g0, 0, none⟩)) rfl rfl rfl (st_fa (g := g0) (off := 0) rfl fa26_0 rfl ⟨rfl, rfl⟩) ?_
    refine dw_op (d := (some 13)) (.int .i64 a.lo) rfl rfl rfl (st_ldc (g := g0) (off := 0) (v := .int .i64 a.lo) cell3 1 rfl rfl rfl rfl rfl ⟨rfl, rfl⟩) ?_
    refine dw_op (d := (some 14)) (.int .i64 x) rfl rfl rfl (st_move (v := .int .i64 x) rfl rfl ⟨rfl, rfl⟩) ?_
    refine dw_op (d := (some 15)) (.pointer (some ⟨g0, 1, none⟩)) rfl rfl rfl (st_fa (g := g0) (off := 0) rfl fa26_1 rfl ⟨rfl, rfl⟩) ?_
    refine dw_op (d := (some 16)) (.int .i64 a.hi) rfl rfl rfl (st_ldc (g := g0) (off := 1) (v := .int .i64 a.hi) cell3 1 rfl rfl rfl rfl rfl ⟨rfl, rfl⟩) ?_
    refine dw_op (d := (some 17)) (.pointer (some ⟨g0, 0, none⟩)) rfl rfl rfl (st_fa (g := g0) (off := 0) rfl fa26_0 rfl ⟨rfl, rfl⟩) ?_
    refine dw_op (d := (some 18)) (.int .i64 a.lo) rfl rfl rfl (st_ldc (g := g0) (off := 0) (v := .int .i64 a.lo) cell3 1 rfl rfl rfl rfl rfl ⟨rfl, rfl⟩) ?_
    refine dw_op (d := (some 19)) (.int .i64 (w64 (a.hi - a.lo))) rfl rfl rfl (st_bi (u := .int .i64 a.hi) (v := .int .i64 a.lo) (r := .int .i64 (w64 (a.hi - a.lo))) rfl rfl rfl (bi_sub rfl) ⟨rfl, rfl⟩) ?_
    refine dw_op (d := (some 20)) (.int .i64 (w64 ((w64 (a.hi - a.lo)) + 1))) rfl rfl rfl (st_bi (u := .int .i64 (w64 (a.hi - a.lo))) (v := .int .i64 1) (r := .int .i64 (w64 ((w64 (a.hi - a.lo)) + 1))) rfl rfl rfl (bi_add rfl) ⟨rfl, rfl⟩) ?_
    refine dw_op (d := (some 21)) (.int .i64 (hPick x (w64 ((w64 (a.hi - a.lo)) + 1)))) rfl rfl rfl (st_cf (vs := [.int .i64 x, .int .i64 (w64 ((w64 (a.hi - a.lo)) + 1))]) (r := .int .i64 (hPick x (w64 ((w64 (a.hi - a.lo)) + 1)))) (c_hPick x (w64 ((w64 (a.hi - a.lo)) + 1)) (in_nz1 a h1)) Try.func19 rfl (by decide) rfl rfl rfl ⟨rfl, rfl⟩) ?_
    refine dw_op (d := (some 22)) (.int .i64 (w64 (a.lo + (hPick x (w64 ((w64 (a.hi - a.lo)) + 1)))))) rfl rfl rfl (st_bi (u := .int .i64 a.lo) (v := .int .i64 (hPick x (w64 ((w64 (a.hi - a.lo)) + 1)))) (r := .int .i64 (w64 (a.lo + (hPick x (w64 ((w64 (a.hi - a.lo)) + 1)))))) rfl rfl rfl (bi_add rfl) ⟨rfl, rfl⟩) ?_
    refine dw_op (d := (some 7)) (.int .i64 (w64 (a.lo + (hPick x (w64 ((w64 (a.hi - a.lo)) + 1)))))) rfl rfl rfl (st_assign (v := .int .i64 (w64 (a.lo + (hPick x (w64 ((w64 (a.hi - a.lo)) + 1)))))) rfl rfl ⟨rfl, rfl⟩) ?_
    refine dw_nil ?_
    refine ar_nil ?_
    refine ac_seq ?_
    refine ac_region_lit ?_
    refine ao 23 rfl rfl (st_move (v := .int .i64 (w64 (a.lo + (hPick x (w64 ((w64 (a.hi - a.lo)) + 1)))))) rfl rfl ?_)
    refine ao 24 rfl rfl (st_move (v := .int .i64 (w64 (a.lo + (hPick x (w64 ((w64 (a.hi - a.lo)) + 1)))))) rfl rfl ?_)
    refine ao 25 rfl rfl (st_move (v := .int .i64 y) rfl rfl ?_)
    refine ao 26 rfl rfl (st_fa (g := g0) (off := 0) rfl fa26_1 rfl ?_)
    refine ao 27 rfl rfl (st_ldc (g := g0) (off := 1) (v := .int .i64 a.hi) cell3 1 rfl rfl rfl rfl rfl ?_)
    refine ao 28 rfl rfl (st_move (v := .int .i64 (w64 (a.lo + (hPick x (w64 ((w64 (a.hi - a.lo)) + 1)))))) rfl rfl ?_)
    refine ao 29 rfl rfl (st_bi (u := .int .i64 a.hi) (v := .int .i64 (w64 (a.lo + (hPick x (w64 ((w64 (a.hi - a.lo)) + 1)))))) (r := .int .i64 (w64 (a.hi - (w64 (a.lo + (hPick x (w64 ((w64 (a.hi - a.lo)) + 1)))))))) rfl rfl rfl (bi_sub rfl) ?_)
    refine ao 30 rfl rfl (st_bi (u := .int .i64 (w64 (a.hi - (w64 (a.lo + (hPick x (w64 ((w64 (a.hi - a.lo)) + 1)))))))) (v := .int .i64 1) (r := .int .i64 (w64 ((w64 (a.hi - (w64 (a.lo + (hPick x (w64 ((w64 (a.hi - a.lo)) + 1))))))) + 1))) rfl rfl rfl (bi_add rfl) ?_)
    refine ao 31 rfl rfl (st_cf (vs := [.int .i64 y, .int .i64 (w64 ((w64 (a.hi - (w64 (a.lo + (hPick x (w64 ((w64 (a.hi - a.lo)) + 1))))))) + 1))]) (r := .int .i64 (hIn_e0 a x y)) (c_hPick y (w64 ((w64 (a.hi - (w64 (a.lo + (hPick x (w64 ((w64 (a.hi - a.lo)) + 1))))))) + 1)) (in_nz2 a x h1)) Try.func19 rfl (by decide) rfl rfl rfl ?_)
    refine ao 32 rfl rfl (st_bi (u := .int .i64 (w64 (a.lo + (hPick x (w64 ((w64 (a.hi - a.lo)) + 1)))))) (v := .int .i64 (hIn_e0 a x y)) (r := .int .i64 (w64 ((w64 (a.lo + (hPick x (w64 ((w64 (a.hi - a.lo)) + 1))))) + (hIn_e0 a x y)))) rfl rfl rfl (bi_add rfl) ?_)
    refine ao 33 rfl rfl (st_bd (us := [(0, .int .i64 (w64 (a.lo + (hPick x (w64 ((w64 (a.hi - a.lo)) + 1)))))), (1, .int .i64 (w64 ((w64 (a.lo + (hPick x (w64 ((w64 (a.hi - a.lo)) + 1))))) + (hIn_e0 a x y))))]) (v := .agg #[.int .i64 (w64 (a.lo + (hPick x (w64 ((w64 (a.hi - a.lo)) + 1))))), .int .i64 (w64 ((w64 (a.lo + (hPick x (w64 ((w64 (a.hi - a.lo)) + 1))))) + (hIn_e0 a x y))), .bool false]) rfl rfl (bd26_0_1 _ _) ?_)
    refine ar_op (d := none) rfl rfl (st_sta (g := g1) (off := 0) (us := [.int .i64 (w64 (a.lo + (hPick x (w64 ((w64 (a.hi - a.lo)) + 1))))), .int .i64 (w64 ((w64 (a.lo + (hPick x (w64 ((w64 (a.hi - a.lo)) + 1))))) + (hIn_e0 a x y))), .bool false]) (cs := [.int .i64 (w64 (a.lo + (hPick x (w64 ((w64 (a.hi - a.lo)) + 1))))), .int .i64 (w64 ((w64 (a.lo + (hPick x (w64 ((w64 (a.hi - a.lo)) + 1))))) + (hIn_e0 a x y))), .bool false]) agg26 0 rfl rfl rfl rfl rfl rfl rfl rfl rfl ?_)
    refine ar_nil ?_
    refine ac_ret ?_
    exact fin_eq (v := .agg #[.int .i64 (w64 (a.lo + (hPick x (w64 ((w64 (a.hi - a.lo)) + 1))))), .int .i64 (w64 ((w64 (a.lo + (hPick x (w64 ((w64 (a.hi - a.lo)) + 1))))) + (hIn_e0 a x y))), .bool false]) (by show _ = Iv.v (hIn a x y); rw [hIn, h1] <;> rfl) (fin_ret (res_c (vs := [.int .i64 (w64 (a.lo + (hPick x (w64 ((w64 (a.hi - a.lo)) + 1))))), .int .i64 (w64 ((w64 (a.lo + (hPick x (w64 ((w64 (a.hi - a.lo)) + 1))))) + (hIn_e0 a x y))), .bool false]) agg26 0 rfl rfl rfl rfl rfl rfl))
  · refine ac_then' (b := !(rRight a)) (by rw [h1]; rfl) rfl ?_
    refine ac_seq ?_
    refine ac_region_lit ?_
    refine ao 11 rfl rfl (st_lda (g := g0) (off := 0) (vs := [.int .i64 a.lo, .int .i64 a.hi, .bool a.no]) agg26 1 rfl rfl rfl rfl rfl rfl ?_)
    refine ar_op (d := none) rfl rfl (st_sta (g := g1) (off := 0) (us := [.int .i64 a.lo, .int .i64 a.hi, .bool a.no]) (cs := [.int .i64 a.lo, .int .i64 a.hi, .bool a.no]) agg26 0 rfl rfl rfl rfl rfl rfl rfl rfl rfl ?_)
    refine ar_nil ?_
    refine ac_ret ?_
    exact fin_eq (v := .agg #[.int .i64 a.lo, .int .i64 a.hi, .bool a.no]) (by show _ = Iv.v (hIn a x y); rw [hIn, h1] <;> rfl) (fin_ret (res_c (vs := [.int .i64 a.lo, .int .i64 a.hi, .bool a.no]) agg26 0 rfl rfl rfl rfl rfl rfl))
end Go.Proofs.Ythngkopcadlciaa
namespace Go.Proofs.Ythngkopcadlciaa
theorem known2_true : known2 = true := by decide +kernel
theorem in2_iff (a b : Iv) : in2 a b = true ↔ Le a b := by
  unfold in2 Le
  by_cases h : R b
  · rw [ivRight_t h]
    simp only [cond_true, ivInside_iff]
    exact ⟨fun k _ => ⟨k.1, k.2.2⟩, fun k => ⟨(k h).1, h, (k h).2⟩⟩
  · rw [ivRight_f h]
    exact ⟨fun _ k => absurd k h, fun _ => rfl⟩
theorem hIn_le (a : Iv) (x y : Int) : R a → R (hIn a x y) ∧ a.lo ≤ (hIn a x y).lo ∧ (hIn a x y).hi ≤ a.hi := fun ha => by
  have h := ha.2
  have h1 : w64 (w64 (a.hi - a.lo) + 1) = a.hi - a.lo + 1 := by
    rw [w64_of (n := a.hi - a.lo) (by omega) (by omega), w64_of (by omega) (by omega)]
  have h2 := hPick_lt x (m := a.hi - a.lo + 1) (by omega) (by omega)
  unfold hIn hIn_e0
  rw [rRight_eq, ivRight_t ha, h1, w64_of (n := a.lo + hPick x (a.hi - a.lo + 1)) (by omega) (by omega)]
  generalize hPick x (a.hi - a.lo + 1) = k at h2 ⊢
  have h3 : w64 (w64 (a.hi - (a.lo + k)) + 1) = a.hi - (a.lo + k) + 1 := by
    rw [w64_of (n := a.hi - (a.lo + k)) (by omega) (by omega), w64_of (by omega) (by omega)]
  have h4 := hPick_lt y (m := a.hi - (a.lo + k) + 1) (by omega) (by omega)
  rw [h3, w64_of (n := a.lo + k + hPick y (a.hi - (a.lo + k) + 1)) (by omega) (by omega)]
  generalize hPick y (a.hi - (a.lo + k) + 1) = j at h4 ⊢
  simp only [cond_true]
  exact ⟨R_mk (by omega) (by omega) (by omega), by omega, by omega⟩
theorem hIn_Le (a : Iv) (x y : Int) : Le (hIn a x y) a := fun h => hIn_le a x y h
theorem le_hull2 {a b c : Iv} (h1 : Le a c) (h2 : Le b c) : Le (ivHull a b) c := fun k => by
  obtain ⟨ra, a1, a2⟩ := h1 k
  obtain ⟨rb, b1, b2⟩ := h2 k
  have r1 := ra.2
  have r2 := rb.2
  rw [ivHull_spec ra rb]
  exact ⟨R_mk (by omega) (by omega) (by omega), by simp only; omega, by simp only; omega⟩
end Go.Proofs.Ythngkopcadlciaa