import Derived.Test.YthngkopcadlciaaMNormalTells4
import Derived.Test.YthngkopcadlciaaMNormalTells3
set_option linter.unusedVariables false
set_option linter.unusedSimpArgs false
namespace Go.Proofs.Ythngkopcadlciaa
open Go.RowKit
attribute [local irreducible] AC AR DWalk
def endsDiv_e0 (a : Iv) (b : Iv) : Iv := (ivOf ((numDiv a.lo b.lo false).1) ((numDiv a.lo b.lo true).1))
def endsDiv_e1 (a : Iv) (b : Iv) : Iv := (ivOf (min ((endsDiv_e0 a b).lo) ((numDiv a.lo b.lo false).1)) (max ((endsDiv_e0 a b).hi) ((numDiv a.lo b.lo true).1)))
def endsDiv_e2 (a : Iv) (b : Iv) : Iv := (ivOf (min ((endsDiv_e1 a b).lo) ((numDiv a.lo b.hi false).1)) (max ((endsDiv_e1 a b).hi) ((numDiv a.lo b.hi true).1)))
def endsDiv_e3 (a : Iv) (b : Iv) : Iv := (ivOf (min ((endsDiv_e2 a b).lo) ((numDiv a.hi b.lo false).1)) (max ((endsDiv_e2 a b).hi) ((numDiv a.hi b.lo true).1)))
def endsDiv_e4 (a : Iv) (b : Iv) : Iv := (ivOf (min ((endsDiv_e3 a b).lo) ((numDiv a.hi b.hi false).1)) (max ((endsDiv_e3 a b).hi) ((numDiv a.hi b.hi true).1)))
def endsDiv (a : Iv) (b : Iv) : Iv := (bif (numDiv a.lo b.lo false).2 then (bif (numDiv a.lo b.lo true).2 then (bif (numDiv a.lo b.hi false).2 then (bif (numDiv a.lo b.hi true).2 then (bif (numDiv a.hi b.lo false).2 then (bif (numDiv a.hi b.lo true).2 then (bif (numDiv a.hi b.hi false).2 then (bif (numDiv a.hi b.hi true).2 then (endsDiv_e4 a b) else ivNone) else ivNone) else ivNone) else ivNone) else ivNone) else ivNone) else ivNone) else ivNone)
set_option maxRecDepth 100000 in
set_option maxHeartbeats 4000000 in
theorem c_endsDiv (a : Iv) (b : Iv) : Gets Try.prog 71 #[.func (.func 72) #[] #[], .agg #[.int .i64 a.lo, .int .i64 a.hi, .bool a.no], .agg #[.int .i64 b.lo, .int .i64 b.hi, .bool b.no]] (Iv.v (endsDiv a b)) := by
 refine gets_fin Try.func71 rfl rfl rfl (aQ (aL (ao 4 rfl rfl (st_box (v := .agg #[.int .i64 a.lo, .int .i64 a.hi, .bool a.no]) (cs := [.int .i64 a.lo, .int .i64 a.hi, .bool a.no]) rfl rfl rfl fun g0 => (ao 5 rfl rfl (st_box (v := .agg #[.int .i64 b.lo, .int .i64 b.hi, .bool b.no]) (cs := [.int .i64 b.lo, .int .i64 b.hi, .bool b.no]) rfl rfl rfl fun g1 => (ao 6 rfl rfl (st_new zero26 rfl fun g2 => (aN (aQ (aL (ao 7 rfl rfl (st_new zero26 rfl fun g3 => (aN (aQ (aL (aA 8 (.bool true) rfl rfl (aN (aQ (aQ (aL (aF 17 fa26_0 rfl rfl (aD 18 (.int .i64 a.lo) cell3 3 rfl rfl rfl rfl (aF 19 fa26_1 rfl rfl (aD 20 (.int .i64 a.hi) cell3 3 rfl rfl rfl rfl ?_)))))))))))))))))))))))))
 refine ao 21 rfl rfl (st_bd (us := [(0, .int .i64 a.lo), (1, .int .i64 a.hi)]) (v := .agg #[.int .i64 a.lo, .int .i64 a.hi]) rfl rfl (bd118_0_1 _ _) (aM 22 (.int .i64 0) rfl rfl (aN (ac_block ?_))))
 refine ac_rounds 61 (ar_round (aQ (aL (aB 23 (.bool true) rfl rfl rfl (bi_lss (by decide)) (aN (aQ (ac_then rfl (ac_skip (aQ (ac_block (aQ (aL (ao 24 rfl rfl (st_ix (v := .int .i64 a.lo) rfl rfl rfl (ix118_0 _ _) (aA 10 (.int .i64 a.lo) rfl rfl (aN (aQ (aL (aF 25 fa26_0 rfl rfl (aD 26 (.int .i64 b.lo) cell3 2 rfl rfl rfl rfl (aF 27 fa26_1 rfl rfl (aD 28 (.int .i64 b.hi) cell3 2 rfl rfl rfl rfl (ao 29 rfl rfl (st_bd (us := [(0, .int .i64 b.lo), (1, .int .i64 b.hi)]) (v := .agg #[.int .i64 b.lo, .int .i64 b.hi]) rfl rfl (bd118_0_1 _ _) (aM 30 (.int .i64 0) rfl rfl (aN (ac_block ?_)))))))))))))))))))))))))))
 refine ac_rounds 61 (ar_round (aQ (aL (aB 31 (.bool true) rfl rfl rfl (bi_lss (by decide)) (aN (aQ (ac_then rfl (ac_skip (aQ (ac_block (aQ (aL (ao 32 rfl rfl (st_ix (v := .int .i64 b.lo) rfl rfl rfl (ix118_0 _ _) (aA 12 (.int .i64 b.lo) rfl rfl (aN (aQ (aL (aM 34 (.func (.func 72) #[] #[]) rfl rfl (aM 35 (.int .i64 a.lo) rfl rfl (aM 36 (.int .i64 b.lo) rfl rfl (ao 37 rfl rfl (st_cv (c_numDiv a.lo b.lo false) Try.func72 rfl (by decide) rfl rfl rfl (aM 33 (.tuple #[.int .i64 ((numDiv a.lo b.lo false).1), .bool ((numDiv a.lo b.lo false).2)]) rfl rfl (aX 38 (.int .i64 ((numDiv a.lo b.lo false).1)) rfl rfl rfl ?_)))))))))))))))))))))))))
 refine aX 39 (.bool ((numDiv a.lo b.lo false).2)) rfl rfl rfl (aA 13 (.int .i64 ((numDiv a.lo b.lo false).1)) rfl rfl (aA 14 (.bool ((numDiv a.lo b.lo false).2)) rfl rfl (aN (aQ (aL (aM 41 (.func (.func 72) #[] #[]) rfl rfl (aM 42 (.int .i64 a.lo) rfl rfl (aM 43 (.int .i64 b.lo) rfl rfl (ao 44 rfl rfl (st_cv (c_numDiv a.lo b.lo true) Try.func72 rfl (by decide) rfl rfl rfl (aM 40 (.tuple #[.int .i64 ((numDiv a.lo b.lo true).1), .bool ((numDiv a.lo b.lo true).2)]) rfl rfl (aX 45 (.int .i64 ((numDiv a.lo b.lo true).1)) rfl rfl rfl (aX 46 (.bool ((numDiv a.lo b.lo true).2)) rfl rfl rfl (aA 15 (.int .i64 ((numDiv a.lo b.lo true).1)) rfl rfl ?_))))))))))))))
 refine aA 16 (.bool ((numDiv a.lo b.lo true).2)) rfl rfl (aN (aQ (aQ (aL (aM 47 (.bool ((numDiv a.lo b.lo false).2)) rfl rfl (ao 48 rfl rfl (st_un (v := .bool (!((numDiv a.lo b.lo false).2))) rfl rfl (un_not rfl) (aM 49 (.bool (!((numDiv a.lo b.lo false).2))) rfl rfl ?_))))))))
 refine bool_split ((numDiv a.lo b.lo false).2) (fun h1 => ?_) (fun h1 => ?_)
 ·refine ar_gd (d := (some 50)) (by show ((!((numDiv a.lo b.lo false).2)) == false) = true; rw [h1]; rfl) rfl (st_move (v := .bool ((numDiv a.lo b.lo true).2)) rfl rfl (ar_gd (d := (some 51)) (by show ((!((numDiv a.lo b.lo false).2)) == false) = true; rw [h1]; rfl) rfl (st_un (v := .bool (!((numDiv a.lo b.lo true).2))) rfl rfl (un_not rfl) (ao 52 rfl rfl (st_pkf' (b := !((numDiv a.lo b.lo false).2)) (v := .bool (!((numDiv a.lo b.lo true).2))) (by rw [h1]; rfl) rfl rfl rfl (aN ?_))))))
  refine bool_split ((numDiv a.lo b.lo true).2) (fun h2 => ?_) (fun h2 => ?_)
  ·refine ac_else' (b := !((numDiv a.lo b.lo true).2)) (by rw [h2]; rfl) rfl (ac_skip (aQ (aQ (aL (aM 54 (.bool true) rfl rfl (aN (ac_then rfl (aL (aM 55 (.int .i64 ((numDiv a.lo b.lo false).1)) rfl rfl (aM 56 (.int .i64 ((numDiv a.lo b.lo true).1)) rfl rfl (aC 57 (c_ivOf ((numDiv a.lo b.lo false).1) ((numDiv a.lo b.lo true).1)) Try.func70 ⟨rfl, by decide⟩ rfl rfl (aS [.int .i64 ((endsDiv_e0 a b).lo), .int .i64 ((endsDiv_e0 a b).hi), .bool ((endsDiv_e0 a b).no)] agg26 0 rfl rfl rfl rfl rfl rfl (aA 8 (.bool false) rfl rfl (aN (aL (aF 58 fa26_0 rfl rfl (aD 59 (.int .i64 ((endsDiv_e0 a b).lo)) cell3 0 rfl rfl rfl rfl ?_)))))))))))))))))
   refine aM 60 (.int .i64 ((numDiv a.lo b.lo false).1)) rfl rfl (ao 61 rfl rfl (st_mn (x := ((endsDiv_e0 a b).lo)) (y := ((numDiv a.lo b.lo false).1)) (c := (min ((endsDiv_e0 a b).lo) ((numDiv a.lo b.lo false).1))) rfl rfl rfl (aF 62 fa26_1 rfl rfl (aD 63 (.int .i64 ((endsDiv_e0 a b).hi)) cell3 0 rfl rfl rfl rfl (aM 64 (.int .i64 ((numDiv a.lo b.lo true).1)) rfl rfl (ao 65 rfl rfl (st_mx (x := ((endsDiv_e0 a b).hi)) (y := ((numDiv a.lo b.lo true).1)) (c := (max ((endsDiv_e0 a b).hi) ((numDiv a.lo b.lo true).1))) rfl rfl rfl ?_)))))))
   refine aC 66 (c_ivOf (min ((endsDiv_e0 a b).lo) ((numDiv a.lo b.lo false).1)) (max ((endsDiv_e0 a b).hi) ((numDiv a.lo b.lo true).1))) Try.func70 ⟨rfl, by decide⟩ rfl rfl (aS [.int .i64 ((endsDiv_e1 a b).lo), .int .i64 ((endsDiv_e1 a b).hi), .bool ((endsDiv_e1 a b).no)] agg26 0 rfl rfl rfl rfl rfl rfl (aN (aL (aB 67 (.int .i64 1) rfl rfl rfl (bi_add (by decide)) (aM 30 (.int .i64 1) rfl rfl (aN (ar_round (aQ (aL (aB 31 (.bool true) rfl rfl rfl (bi_lss (by decide)) (aN (aQ (ac_then rfl (ac_skip (aQ (ac_block (aQ (aL (ao 32 rfl rfl (st_ix (v := .int .i64 b.hi) rfl rfl rfl (ix118_1 _ _) (aA 12 (.int .i64 b.hi) rfl rfl (aN (aQ (aL ?_))))))))))))))))))))))))
   refine aM 34 (.func (.func 72) #[] #[]) rfl rfl (aM 35 (.int .i64 a.lo) rfl rfl (aM 36 (.int .i64 b.hi) rfl rfl (ao 37 rfl rfl (st_cv (c_numDiv a.lo b.hi false) Try.func72 rfl (by decide) rfl rfl rfl (aM 33 (.tuple #[.int .i64 ((numDiv a.lo b.hi false).1), .bool ((numDiv a.lo b.hi false).2)]) rfl rfl (aX 38 (.int .i64 ((numDiv a.lo b.hi false).1)) rfl rfl rfl (aX 39 (.bool ((numDiv a.lo b.hi false).2)) rfl rfl rfl (aA 13 (.int .i64 ((numDiv a.lo b.hi false).1)) rfl rfl (aA 14 (.bool ((numDiv a.lo b.hi false).2)) rfl rfl (aN (aQ (aL (aM 41 (.func (.func 72) #[] #[]) rfl rfl (aM 42 (.int .i64 a.lo) rfl rfl (aM 43 (.int .i64 b.hi) rfl rfl ?_)))))))))))))))
   refine ao 44 rfl rfl (st_cv (c_numDiv a.lo b.hi true) Try.func72 rfl (by decide) rfl rfl rfl (aM 40 (.tuple #[.int .i64 ((numDiv a.lo b.hi true).1), .bool ((numDiv a.lo b.hi true).2)]) rfl rfl (aX 45 (.int .i64 ((numDiv a.lo b.hi true).1)) rfl rfl rfl (aX 46 (.bool ((numDiv a.lo b.hi true).2)) rfl rfl rfl (aA 15 (.int .i64 ((numDiv a.lo b.hi true).1)) rfl rfl (aA 16 (.bool ((numDiv a.lo b.hi true).2)) rfl rfl (aN (aQ (aQ (aL (aM 47 (.bool ((numDiv a.lo b.hi false).2)) rfl rfl (ao 48 rfl rfl (st_un (v := .bool (!((numDiv a.lo b.hi false).2))) rfl rfl (un_not rfl) (aM 49 (.bool (!((numDiv a.lo b.hi false).2))) rfl rfl ?_))))))))))))))
   refine bool_split ((numDiv a.lo b.hi false).2) (fun h3 => ?_) (fun h3 => ?_)
   ·refine ar_gd (d := (some 50)) (by show ((!((numDiv a.lo b.hi false).2)) == false) = true; rw [h3]; rfl) rfl (st_move (v := .bool ((numDiv a.lo b.hi true).2)) rfl rfl (ar_gd (d := (some 51)) (by show ((!((numDiv a.lo b.hi false).2)) == false) = true; rw [h3]; rfl) rfl (st_un (v := .bool (!((numDiv a.lo b.hi true).2))) rfl rfl (un_not rfl) (ao 52 rfl rfl (st_pkf' (b := !((numDiv a.lo b.hi false).2)) (v := .bool (!((numDiv a.lo b.hi true).2))) (by rw [h3]; rfl) rfl rfl rfl (aN ?_))))))
    refine bool_split ((numDiv a.lo b.hi true).2) (fun h4 => ?_) (fun h4 => ?_)
    ·refine ac_else' (b := !((numDiv a.lo b.hi true).2)) (by rw [h4]; rfl) rfl (ac_skip (aQ (aQ (aL (aM 54 (.bool false) rfl rfl (aN (ac_else rfl (ac_skip (aL (aF 58 fa26_0 rfl rfl (aD 59 (.int .i64 ((endsDiv_e1 a b).lo)) cell3 0 rfl rfl rfl rfl (aM 60 (.int .i64 ((numDiv a.lo b.hi false).1)) rfl rfl (ao 61 rfl rfl (st_mn (x := ((endsDiv_e1 a b).lo)) (y := ((numDiv a.lo b.hi false).1)) (c := (min ((endsDiv_e1 a b).lo) ((numDiv a.lo b.hi false).1))) rfl rfl rfl (aF 62 fa26_1 rfl rfl (aD 63 (.int .i64 ((endsDiv_e1 a b).hi)) cell3 0 rfl rfl rfl rfl (aM 64 (.int .i64 ((numDiv a.lo b.hi true).1)) rfl rfl ?_)))))))))))))))))
     refine ao 65 rfl rfl (st_mx (x := ((endsDiv_e1 a b).hi)) (y := ((numDiv a.lo b.hi true).1)) (c := (max ((endsDiv_e1 a b).hi) ((numDiv a.lo b.hi true).1))) rfl rfl rfl (aC 66 (c_ivOf (min ((endsDiv_e1 a b).lo) ((numDiv a.lo b.hi false).1)) (max ((endsDiv_e1 a b).hi) ((numDiv a.lo b.hi true).1))) Try.func70 ⟨rfl, by decide⟩ rfl rfl (aS [.int .i64 ((endsDiv_e2 a b).lo), .int .i64 ((endsDiv_e2 a b).hi), .bool ((endsDiv_e2 a b).no)] agg26 0 rfl rfl rfl rfl rfl rfl (aN (aL (aB 67 (.int .i64 2) rfl rfl rfl (bi_add (by decide)) (aM 30 (.int .i64 2) rfl rfl (aN (ar_round (aQ (aL (aB 31 (.bool false) rfl rfl rfl (bi_lss (by decide)) (aN (aQ (ac_else rfl ?_)))))))))))))))
     refine ac_exit (aL (aB 68 (.int .i64 1) rfl rfl rfl (bi_add (by decide)) (aM 22 (.int .i64 1) rfl rfl (aN (ar_round (aQ (aL (aB 23 (.bool true) rfl rfl rfl (bi_lss (by decide)) (aN (aQ (ac_then rfl (ac_skip (aQ (ac_block (aQ (aL (ao 24 rfl rfl (st_ix (v := .int .i64 a.hi) rfl rfl rfl (ix118_1 _ _) (aA 10 (.int .i64 a.hi) rfl rfl (aN (aQ (aL (aF 25 fa26_0 rfl rfl (aD 26 (.int .i64 b.lo) cell3 2 rfl rfl rfl rfl (aF 27 fa26_1 rfl rfl (aD 28 (.int .i64 b.hi) cell3 2 rfl rfl rfl rfl (ao 29 rfl rfl (st_bd (us := [(0, .int .i64 b.lo), (1, .int .i64 b.hi)]) (v := .agg #[.int .i64 b.lo, .int .i64 b.hi]) rfl rfl (bd118_0_1 _ _) ?_))))))))))))))))))))))))))))
     refine aM 30 (.int .i64 0) rfl rfl (aN (ac_block ?_))
     refine ac_rounds 61 (ar_round (aQ (aL (aB 31 (.bool true) rfl rfl rfl (bi_lss (by decide)) (aN (aQ (ac_then rfl (ac_skip (aQ (ac_block (aQ (aL (ao 32 rfl rfl (st_ix (v := .int .i64 b.lo) rfl rfl rfl (ix118_0 _ _) (aA 12 (.int .i64 b.lo) rfl rfl (aN (aQ (aL (aM 34 (.func (.func 72) #[] #[]) rfl rfl (aM 35 (.int .i64 a.hi) rfl rfl (aM 36 (.int .i64 b.lo) rfl rfl (ao 37 rfl rfl (st_cv (c_numDiv a.hi b.lo false) Try.func72 rfl (by decide) rfl rfl rfl (aM 33 (.tuple #[.int .i64 ((numDiv a.hi b.lo false).1), .bool ((numDiv a.hi b.lo false).2)]) rfl rfl (aX 38 (.int .i64 ((numDiv a.hi b.lo false).1)) rfl rfl rfl ?_)))))))))))))))))))))))))
     refine aX 39 (.bool ((numDiv a.hi b.lo false).2)) rfl rfl rfl (aA 13 (.int .i64 ((numDiv a.hi b.lo false).1)) rfl rfl (aA 14 (.bool ((numDiv a.hi b.lo false).2)) rfl rfl (aN (aQ (aL (aM 41 (.func (.func 72) #[] #[]) rfl rfl (aM 42 (.int .i64 a.hi) rfl rfl (aM 43 (.int .i64 b.lo) rfl rfl (ao 44 rfl rfl (st_cv (c_numDiv a.hi b.lo true) Try.func72 rfl (by decide) rfl rfl rfl (aM 40 (.tuple #[.int .i64 ((numDiv a.hi b.lo true).1), .bool ((numDiv a.hi b.lo true).2)]) rfl rfl (aX 45 (.int .i64 ((numDiv a.hi b.lo true).1)) rfl rfl rfl (aX 46 (.bool ((numDiv a.hi b.lo true).2)) rfl rfl rfl (aA 15 (.int .i64 ((numDiv a.hi b.lo true).1)) rfl rfl ?_))))))))))))))
     refine aA 16 (.bool ((numDiv a.hi b.lo true).2)) rfl rfl (aN (aQ (aQ (aL (aM 47 (.bool ((numDiv a.hi b.lo false).2)) rfl rfl (ao 48 rfl rfl (st_un (v := .bool (!((numDiv a.hi b.lo false).2))) rfl rfl (un_not rfl) (aM 49 (.bool (!((numDiv a.hi b.lo false).2))) rfl rfl ?_))))))))
     refine bool_split ((numDiv a.hi b.lo false).2) (fun h5 => ?_) (fun h5 => ?_)
     ·refine ar_gd (d := (some 50)) (by show ((!((numDiv a.hi b.lo false).2)) == false) = true; rw [h5]; rfl) rfl (st_move (v := .bool ((numDiv a.hi b.lo true).2)) rfl rfl (ar_gd (d := (some 51)) (by show ((!((numDiv a.hi b.lo false).2)) == false) = true; rw [h5]; rfl) rfl (st_un (v := .bool (!((numDiv a.hi b.lo true).2))) rfl rfl (un_not rfl) (ao 52 rfl rfl (st_pkf' (b := !((numDiv a.hi b.lo false).2)) (v := .bool (!((numDiv a.hi b.lo true).2))) (by rw [h5]; rfl) rfl rfl rfl (aN ?_))))))
      refine bool_split ((numDiv a.hi b.lo true).2) (fun h6 => ?_) (fun h6 => ?_)
      ·refine ac_else' (b := !((numDiv a.hi b.lo true).2)) (by rw [h6]; rfl) rfl (ac_skip (aQ (aQ (aL (aM 54 (.bool false) rfl rfl (aN (ac_else rfl (ac_skip (aL (aF 58 fa26_0 rfl rfl (aD 59 (.int .i64 ((endsDiv_e2 a b).lo)) cell3 0 rfl rfl rfl rfl (aM 60 (.int .i64 ((numDiv a.hi b.lo false).1)) rfl rfl (ao 61 rfl rfl (st_mn (x := ((endsDiv_e2 a b).lo)) (y := ((numDiv a.hi b.lo false).1)) (c := (min ((endsDiv_e2 a b).lo) ((numDiv a.hi b.lo false).1))) rfl rfl rfl (aF 62 fa26_1 rfl rfl (aD 63 (.int .i64 ((endsDiv_e2 a b).hi)) cell3 0 rfl rfl rfl rfl (aM 64 (.int .i64 ((numDiv a.hi b.lo true).1)) rfl rfl ?_)))))))))))))))))
       refine ao 65 rfl rfl (st_mx (x := ((endsDiv_e2 a b).hi)) (y := ((numDiv a.hi b.lo true).1)) (c := (max ((endsDiv_e2 a b).hi) ((numDiv a.hi b.lo true).1))) rfl rfl rfl (aC 66 (c_ivOf (min ((endsDiv_e2 a b).lo) ((numDiv a.hi b.lo false).1)) (max ((endsDiv_e2 a b).hi) ((numDiv a.hi b.lo true).1))) Try.func70 ⟨rfl, by decide⟩ rfl rfl (aS [.int .i64 ((endsDiv_e3 a b).lo), .int .i64 ((endsDiv_e3 a b).hi), .bool ((endsDiv_e3 a b).no)] agg26 0 rfl rfl rfl rfl rfl rfl (aN (aL (aB 67 (.int .i64 1) rfl rfl rfl (bi_add (by decide)) (aM 30 (.int .i64 1) rfl rfl (aN (ar_round (aQ (aL (aB 31 (.bool true) rfl rfl rfl (bi_lss (by decide)) (aN (aQ ?_))))))))))))))
       refine ac_then rfl (ac_skip (aQ (ac_block (aQ (aL (ao 32 rfl rfl (st_ix (v := .int .i64 b.hi) rfl rfl rfl (ix118_1 _ _) (aA 12 (.int .i64 b.hi) rfl rfl (aN (aQ (aL (aM 34 (.func (.func 72) #[] #[]) rfl rfl (aM 35 (.int .i64 a.hi) rfl rfl (aM 36 (.int .i64 b.hi) rfl rfl (ao 37 rfl rfl (st_cv (c_numDiv a.hi b.hi false) Try.func72 rfl (by decide) rfl rfl rfl (aM 33 (.tuple #[.int .i64 ((numDiv a.hi b.hi false).1), .bool ((numDiv a.hi b.hi false).2)]) rfl rfl (aX 38 (.int .i64 ((numDiv a.hi b.hi false).1)) rfl rfl rfl (aX 39 (.bool ((numDiv a.hi b.hi false).2)) rfl rfl rfl (aA 13 (.int .i64 ((numDiv a.hi b.hi false).1)) rfl rfl ?_))))))))))))))))))))
       refine aA 14 (.bool ((numDiv a.hi b.hi false).2)) rfl rfl (aN (aQ (aL (aM 41 (.func (.func 72) #[] #[]) rfl rfl (aM 42 (.int .i64 a.hi) rfl rfl (aM 43 (.int .i64 b.hi) rfl rfl (ao 44 rfl rfl (st_cv (c_numDiv a.hi b.hi true) Try.func72 rfl (by decide) rfl rfl rfl (aM 40 (.tuple #[.int .i64 ((numDiv a.hi b.hi true).1), .bool ((numDiv a.hi b.hi true).2)]) rfl rfl (aX 45 (.int .i64 ((numDiv a.hi b.hi true).1)) rfl rfl rfl (aX 46 (.bool ((numDiv a.hi b.hi true).2)) rfl rfl rfl (aA 15 (.int .i64 ((numDiv a.hi b.hi true).1)) rfl rfl (aA 16 (.bool ((numDiv a.hi b.hi true).2)) rfl rfl (aN (aQ (aQ (aL ?_)))))))))))))))))
       refine aM 47 (.bool ((numDiv a.hi b.hi false).2)) rfl rfl (ao 48 rfl rfl (st_un (v := .bool (!((numDiv a.hi b.hi false).2))) rfl rfl (un_not rfl) (aM 49 (.bool (!((numDiv a.hi b.hi false).2))) rfl rfl ?_)))
       refine bool_split ((numDiv a.hi b.hi false).2) (fun h7 => ?_) (fun h7 => ?_)
       ·refine ar_gd (d := (some 50)) (by show ((!((numDiv a.hi b.hi false).2)) == false) = true; rw [h7]; rfl) rfl (st_move (v := .bool ((numDiv a.hi b.hi true).2)) rfl rfl (ar_gd (d := (some 51)) (by show ((!((numDiv a.hi b.hi false).2)) == false) = true; rw [h7]; rfl) rfl (st_un (v := .bool (!((numDiv a.hi b.hi true).2))) rfl rfl (un_not rfl) (ao 52 rfl rfl (st_pkf' (b := !((numDiv a.hi b.hi false).2)) (v := .bool (!((numDiv a.hi b.hi true).2))) (by rw [h7]; rfl) rfl rfl rfl (aN ?_))))))
        refine bool_split ((numDiv a.hi b.hi true).2) (fun h8 => ?_) (fun h8 => ?_)
        ·refine ac_else' (b := !((numDiv a.hi b.hi true).2)) (by rw [h8]; rfl) rfl (ac_skip (aQ (aQ (aL (aM 54 (.bool false) rfl rfl (aN (ac_else rfl (ac_skip (aL (aF 58 fa26_0 rfl rfl (aD 59 (.int .i64 ((endsDiv_e3 a b).lo)) cell3 0 rfl rfl rfl rfl (aM 60 (.int .i64 ((numDiv a.hi b.hi false).1)) rfl rfl (ao 61 rfl rfl (st_mn (x := ((endsDiv_e3 a b).lo)) (y := ((numDiv a.hi b.hi false).1)) (c := (min ((endsDiv_e3 a b).lo) ((numDiv a.hi b.hi false).1))) rfl rfl rfl (aF 62 fa26_1 rfl rfl (aD 63 (.int .i64 ((endsDiv_e3 a b).hi)) cell3 0 rfl rfl rfl rfl (aM 64 (.int .i64 ((numDiv a.hi b.hi true).1)) rfl rfl ?_)))))))))))))))))
         refine ao 65 rfl rfl (st_mx (x := ((endsDiv_e3 a b).hi)) (y := ((numDiv a.hi b.hi true).1)) (c := (max ((endsDiv_e3 a b).hi) ((numDiv a.hi b.hi true).1))) rfl rfl rfl (aC 66 (c_ivOf (min ((endsDiv_e3 a b).lo) ((numDiv a.hi b.hi false).1)) (max ((endsDiv_e3 a b).hi) ((numDiv a.hi b.hi true).1))) Try.func70 ⟨rfl, by decide⟩ rfl rfl (aS [.int .i64 ((endsDiv_e4 a b).lo), .int .i64 ((endsDiv_e4 a b).hi), .bool ((endsDiv_e4 a b).no)] agg26 0 rfl rfl rfl rfl rfl rfl (aN (aL (aB 67 (.int .i64 2) rfl rfl rfl (bi_add (by decide)) (aM 30 (.int .i64 2) rfl rfl (aN (ar_round (aQ (aL (aB 31 (.bool false) rfl rfl rfl (bi_lss (by decide)) (aN (aQ ?_))))))))))))))
         refine ac_else rfl (ac_exit (aL (aB 68 (.int .i64 2) rfl rfl rfl (bi_add (by decide)) (aM 22 (.int .i64 2) rfl rfl (aN (ar_round (aQ (aL (aB 23 (.bool false) rfl rfl rfl (bi_lss (by decide)) (aN (aQ (ac_else rfl (ac_exit (aQ (aL (aG 69 [.int .i64 ((endsDiv_e4 a b).lo), .int .i64 ((endsDiv_e4 a b).hi), .bool ((endsDiv_e4 a b).no)] agg26 0 rfl rfl rfl rfl rfl (aS [.int .i64 ((endsDiv_e4 a b).lo), .int .i64 ((endsDiv_e4 a b).hi), .bool ((endsDiv_e4 a b).no)] agg26 1 rfl rfl rfl rfl rfl rfl (aN (ac_ret ?_)))))))))))))))))))
         exact fin_eq (v := .agg #[.int .i64 ((endsDiv_e4 a b).lo), .int .i64 ((endsDiv_e4 a b).hi), .bool ((endsDiv_e4 a b).no)]) (by show _ = Iv.v (endsDiv a b); rw [endsDiv, h8, h7, h6, h5, h4, h3, h2, h1] <;> rfl) (fin_ret (res_c (vs := [.int .i64 ((endsDiv_e4 a b).lo), .int .i64 ((endsDiv_e4 a b).hi), .bool ((endsDiv_e4 a b).no)]) agg26 1 rfl rfl rfl rfl rfl rfl))
        ·refine ac_then' (b := !((numDiv a.hi b.hi true).2)) (by rw [h8]; rfl) rfl (aQ (aL (aC 53 c_ivNone Try.func28 ⟨rfl, by decide⟩ rfl rfl (aS [.int .i64 ivNone.lo, .int .i64 ivNone.hi, .bool ivNone.no] agg26 1 rfl rfl rfl rfl rfl rfl (aN (ac_ret (fin_eq (v := .agg #[.int .i64 ivNone.lo, .int .i64 ivNone.hi, .bool ivNone.no]) (by show _ = Iv.v (endsDiv a b); rw [endsDiv, h8, h7, h6, h5, h4, h3, h2, h1] <;> rfl) (fin_ret (res_c (vs := [.int .i64 ivNone.lo, .int .i64 ivNone.hi, .bool ivNone.no]) agg26 1 rfl rfl rfl rfl rfl rfl)))))))))
       ·refine aK 50 (by show ((!((numDiv a.hi b.hi false).2)) == false) = false; rw [h7]; rfl) rfl (aK 51 (by show ((!((numDiv a.hi b.hi false).2)) == false) = false; rw [h7]; rfl) rfl (ao 52 rfl rfl (st_pkt' (b := !((numDiv a.hi b.hi false).2)) (v := .bool true) (by rw [h7]; rfl) rfl rfl rfl (aN (ac_then rfl (aQ (aL (aC 53 c_ivNone Try.func28 ⟨rfl, by decide⟩ rfl rfl (aS [.int .i64 ivNone.lo, .int .i64 ivNone.hi, .bool ivNone.no] agg26 1 rfl rfl rfl rfl rfl rfl (aN (ac_ret ?_)))))))))))
        exact fin_eq (v := .agg #[.int .i64 ivNone.lo, .int .i64 ivNone.hi, .bool ivNone.no]) (by show _ = Iv.v (endsDiv a b); rw [endsDiv, h7, h6, h5, h4, h3, h2, h1] <;> rfl) (fin_ret (res_c (vs := [.int .i64 ivNone.lo, .int .i64 ivNone.hi, .bool ivNone.no]) agg26 1 rfl rfl rfl rfl rfl rfl))
      ·refine ac_then' (b := !((numDiv a.hi b.lo true).2)) (by rw [h6]; rfl) rfl (aQ (aL (aC 53 c_ivNone Try.func28 ⟨rfl, by decide⟩ rfl rfl (aS [.int .i64 ivNone.lo, .int .i64 ivNone.hi, .bool ivNone.no] agg26 1 rfl rfl rfl rfl rfl rfl (aN (ac_ret (fin_eq (v := .agg #[.int .i64 ivNone.lo, .int .i64 ivNone.hi, .bool ivNone.no]) (by show _ = Iv.v (endsDiv a b); rw [endsDiv, h6, h5, h4, h3, h2, h1] <;> rfl) (fin_ret (res_c (vs := [.int .i64 ivNone.lo, .int .i64 ivNone.hi, .bool ivNone.no]) agg26 1 rfl rfl rfl rfl rfl rfl)))))))))
     ·refine aK 50 (by show ((!((numDiv a.hi b.lo false).2)) == false) = false; rw [h5]; rfl) rfl (aK 51 (by show ((!((numDiv a.hi b.lo false).2)) == false) = false; rw [h5]; rfl) rfl (ao 52 rfl rfl (st_pkt' (b := !((numDiv a.hi b.lo false).2)) (v := .bool true) (by rw [h5]; rfl) rfl rfl rfl (aN (ac_then rfl (aQ (aL (aC 53 c_ivNone Try.func28 ⟨rfl, by decide⟩ rfl rfl (aS [.int .i64 ivNone.lo, .int .i64 ivNone.hi, .bool ivNone.no] agg26 1 rfl rfl rfl rfl rfl rfl (aN (ac_ret ?_)))))))))))
      exact fin_eq (v := .agg #[.int .i64 ivNone.lo, .int .i64 ivNone.hi, .bool ivNone.no]) (by show _ = Iv.v (endsDiv a b); rw [endsDiv, h5, h4, h3, h2, h1] <;> rfl) (fin_ret (res_c (vs := [.int .i64 ivNone.lo, .int .i64 ivNone.hi, .bool ivNone.no]) agg26 1 rfl rfl rfl rfl rfl rfl))
    ·refine ac_then' (b := !((numDiv a.lo b.hi true).2)) (by rw [h4]; rfl) rfl (aQ (aL (aC 53 c_ivNone Try.func28 ⟨rfl, by decide⟩ rfl rfl (aS [.int .i64 ivNone.lo, .int .i64 ivNone.hi, .bool ivNone.no] agg26 1 rfl rfl rfl rfl rfl rfl (aN (ac_ret (fin_eq (v := .agg #[.int .i64 ivNone.lo, .int .i64 ivNone.hi, .bool ivNone.no]) (by show _ = Iv.v (endsDiv a b); rw [endsDiv, h4, h3, h2, h1] <;> rfl) (fin_ret (res_c (vs := [.int .i64 ivNone.lo, .int .i64 ivNone.hi, .bool ivNone.no]) agg26 1 rfl rfl rfl rfl rfl rfl)))))))))
   ·refine aK 50 (by show ((!((numDiv a.lo b.hi false).2)) == false) = false; rw [h3]; rfl) rfl (aK 51 (by show ((!((numDiv a.lo b.hi false).2)) == false) = false; rw [h3]; rfl) rfl (ao 52 rfl rfl (st_pkt' (b := !((numDiv a.lo b.hi false).2)) (v := .bool true) (by rw [h3]; rfl) rfl rfl rfl (aN (ac_then rfl (aQ (aL (aC 53 c_ivNone Try.func28 ⟨rfl, by decide⟩ rfl rfl (aS [.int .i64 ivNone.lo, .int .i64 ivNone.hi, .bool ivNone.no] agg26 1 rfl rfl rfl rfl rfl rfl (aN (ac_ret ?_)))))))))))
    exact fin_eq (v := .agg #[.int .i64 ivNone.lo, .int .i64 ivNone.hi, .bool ivNone.no]) (by show _ = Iv.v (endsDiv a b); rw [endsDiv, h3, h2, h1] <;> rfl) (fin_ret (res_c (vs := [.int .i64 ivNone.lo, .int .i64 ivNone.hi, .bool ivNone.no]) agg26 1 rfl rfl rfl rfl rfl rfl))
  ·refine ac_then' (b := !((numDiv a.lo b.lo true).2)) (by rw [h2]; rfl) rfl (aQ (aL (aC 53 c_ivNone Try.func28 ⟨rfl, by decide⟩ rfl rfl (aS [.int .i64 ivNone.lo, .int .i64 ivNone.hi, .bool ivNone.no] agg26 1 rfl rfl rfl rfl rfl rfl (aN (ac_ret (fin_eq (v := .agg #[.int .i64 ivNone.lo, .int .i64 ivNone.hi, .bool ivNone.no]) (by show _ = Iv.v (endsDiv a b); rw [endsDiv, h2, h1] <;> rfl) (fin_ret (res_c (vs := [.int .i64 ivNone.lo, .int .i64 ivNone.hi, .bool ivNone.no]) agg26 1 rfl rfl rfl rfl rfl rfl)))))))))
 ·refine aK 50 (by show ((!((numDiv a.lo b.lo false).2)) == false) = false; rw [h1]; rfl) rfl (aK 51 (by show ((!((numDiv a.lo b.lo false).2)) == false) = false; rw [h1]; rfl) rfl (ao 52 rfl rfl (st_pkt' (b := !((numDiv a.lo b.lo false).2)) (v := .bool true) (by rw [h1]; rfl) rfl rfl rfl (aN (ac_then rfl (aQ (aL (aC 53 c_ivNone Try.func28 ⟨rfl, by decide⟩ rfl rfl (aS [.int .i64 ivNone.lo, .int .i64 ivNone.hi, .bool ivNone.no] agg26 1 rfl rfl rfl rfl rfl rfl (aN (ac_ret ?_)))))))))))
  exact fin_eq (v := .agg #[.int .i64 ivNone.lo, .int .i64 ivNone.hi, .bool ivNone.no]) (by show _ = Iv.v (endsDiv a b); rw [endsDiv, h1] <;> rfl) (fin_ret (res_c (vs := [.int .i64 ivNone.lo, .int .i64 ivNone.hi, .bool ivNone.no]) agg26 1 rfl rfl rfl rfl rfl rfl))
def ivDiv (a : Iv) (b : Iv) : Iv := (bif ivBoth a b then (bif ivHas b 0 then ivNone else (endsDiv a b)) else ivNone)
set_option maxRecDepth 100000 in
theorem c_ivDiv (a : Iv) (b : Iv) : Gets Try.prog 33 #[.agg #[.int .i64 a.lo, .int .i64 a.hi, .bool a.no], .agg #[.int .i64 b.lo, .int .i64 b.hi, .bool b.no]] (Iv.v (ivDiv a b)) := by
 refine gets_fin Try.func33 rfl rfl rfl (aQ (aL (ao 2 rfl rfl (st_box (v := .agg #[.int .i64 a.lo, .int .i64 a.hi, .bool a.no]) (cs := [.int .i64 a.lo, .int .i64 a.hi, .bool a.no]) rfl rfl rfl fun g0 => (ao 3 rfl rfl (st_box (v := .agg #[.int .i64 b.lo, .int .i64 b.hi, .bool b.no]) (cs := [.int .i64 b.lo, .int .i64 b.hi, .bool b.no]) rfl rfl rfl fun g1 => (ao 4 rfl rfl (st_new zero26 rfl fun g2 => (aN (aQ (aQ (aL (aG 5 [.int .i64 a.lo, .int .i64 a.hi, .bool a.no] agg26 2 rfl rfl rfl rfl rfl (aG 6 [.int .i64 b.lo, .int .i64 b.hi, .bool b.no] agg26 1 rfl rfl rfl rfl rfl (aC 7 (c_ivBoth a b) Try.func69 ⟨rfl, by decide⟩ rfl rfl ?_)))))))))))))))
 refine ao 8 rfl rfl (st_un (v := .bool (!(ivBoth a b))) rfl rfl (un_not rfl) (aM 9 (.bool (!(ivBoth a b))) rfl rfl ?_))
 refine bool_split (ivBoth a b) (fun h1 => ?_) (fun h1 => ?_)
 ·refine ar_gd (d := (some 10)) (by show ((!(ivBoth a b)) == false) = true; rw [h1]; rfl) rfl (st_lda (vs := [.int .i64 b.lo, .int .i64 b.hi, .bool b.no]) agg26 1 rfl rfl rfl rfl rfl rfl (ar_gd (d := (some 11)) (by show ((!(ivBoth a b)) == false) = true; rw [h1]; rfl) rfl (st_cf (c_ivHas b 0) Try.func24 rfl (by decide) rfl rfl rfl (ao 12 rfl rfl (st_pkf' (b := !(ivBoth a b)) (v := .bool (ivHas b 0)) (by rw [h1]; rfl) rfl rfl rfl (aN ?_))))))
  refine bool_split (ivHas b 0) (fun h2 => ?_) (fun h2 => ?_)
  ·refine ac_then' (b := ivHas b 0) h2 rfl (aQ (aL (aC 13 c_ivNone Try.func28 ⟨rfl, by decide⟩ rfl rfl (aS [.int .i64 ivNone.lo, .int .i64 ivNone.hi, .bool ivNone.no] agg26 0 rfl rfl rfl rfl rfl rfl (aN (ac_ret (fin_eq (v := .agg #[.int .i64 ivNone.lo, .int .i64 ivNone.hi, .bool ivNone.no]) (by show _ = Iv.v (ivDiv a b); rw [ivDiv, h2, h1] <;> rfl) (fin_ret (res_c (vs := [.int .i64 ivNone.lo, .int .i64 ivNone.hi, .bool ivNone.no]) agg26 0 rfl rfl rfl rfl rfl rfl)))))))))
  ·refine ac_else' (b := ivHas b 0) h2 rfl (ac_skip (aQ (aL (aG 14 [.int .i64 a.lo, .int .i64 a.hi, .bool a.no] agg26 2 rfl rfl rfl rfl rfl (aG 15 [.int .i64 b.lo, .int .i64 b.hi, .bool b.no] agg26 1 rfl rfl rfl rfl rfl (aC 16 (c_endsDiv a b) Try.func71 ⟨rfl, by decide⟩ rfl rfl (aS [.int .i64 ((endsDiv a b).lo), .int .i64 ((endsDiv a b).hi), .bool ((endsDiv a b).no)] agg26 0 rfl rfl rfl rfl rfl rfl (aN (ac_ret ?_)))))))))
   exact fin_eq (v := .agg #[.int .i64 ((endsDiv a b).lo), .int .i64 ((endsDiv a b).hi), .bool ((endsDiv a b).no)]) (by show _ = Iv.v (ivDiv a b); rw [ivDiv, h2, h1] <;> rfl) (fin_ret (res_c (vs := [.int .i64 ((endsDiv a b).lo), .int .i64 ((endsDiv a b).hi), .bool ((endsDiv a b).no)]) agg26 0 rfl rfl rfl rfl rfl rfl))
 ·refine aK 10 (by show ((!(ivBoth a b)) == false) = false; rw [h1]; rfl) rfl (aK 11 (by show ((!(ivBoth a b)) == false) = false; rw [h1]; rfl) rfl (ao 12 rfl rfl (st_pkt' (b := !(ivBoth a b)) (v := .bool true) (by rw [h1]; rfl) rfl rfl rfl (aN (ac_then rfl (aQ (aL (aC 13 c_ivNone Try.func28 ⟨rfl, by decide⟩ rfl rfl (aS [.int .i64 ivNone.lo, .int .i64 ivNone.hi, .bool ivNone.no] agg26 0 rfl rfl rfl rfl rfl rfl (aN (ac_ret ?_)))))))))))
  exact fin_eq (v := .agg #[.int .i64 ivNone.lo, .int .i64 ivNone.hi, .bool ivNone.no]) (by show _ = Iv.v (ivDiv a b); rw [ivDiv, h1] <;> rfl) (fin_ret (res_c (vs := [.int .i64 ivNone.lo, .int .i64 ivNone.hi, .bool ivNone.no]) agg26 0 rfl rfl rfl rfl rfl rfl))
def ivRoot (a : Iv) : Iv := (bif ivRight a then (bif decide (a.lo < 0) then ivNone else (ivOf ((numRoot a.lo false).1) ((numRoot a.hi true).1))) else ivNone)
set_option maxRecDepth 100000 in
theorem c_ivRoot (a : Iv) : Gets Try.prog 102 #[.agg #[.int .i64 a.lo, .int .i64 a.hi, .bool a.no]] (Iv.v (ivRoot a)) := by
 refine gets_fin Try.func102 rfl rfl rfl (aQ (aL (ao 1 rfl rfl (st_box (v := .agg #[.int .i64 a.lo, .int .i64 a.hi, .bool a.no]) (cs := [.int .i64 a.lo, .int .i64 a.hi, .bool a.no]) rfl rfl rfl fun g0 => (ao 2 rfl rfl (st_new zero26 rfl fun g1 => (aN (aQ (aQ (aL (aG 7 [.int .i64 a.lo, .int .i64 a.hi, .bool a.no] agg26 1 rfl rfl rfl rfl rfl (aC 8 (c_ivRight a) Try.func25 ⟨rfl, by decide⟩ rfl rfl (ao 9 rfl rfl (st_un (v := .bool (!(ivRight a))) rfl rfl (un_not rfl) (aM 10 (.bool (!(ivRight a))) rfl rfl ?_)))))))))))))))
 refine bool_split (ivRight a) (fun h1 => ?_) (fun h1 => ?_)
 ·refine ar_gd (d := (some 11)) (by show ((!(ivRight a)) == false) = true; rw [h1]; rfl) rfl (st_fa rfl fa26_0 rfl (ar_gd (d := (some 12)) (by show ((!(ivRight a)) == false) = true; rw [h1]; rfl) rfl (st_ldc (v := .int .i64 a.lo) cell3 1 rfl rfl rfl rfl rfl (ar_gd (d := (some 13)) (by show ((!(ivRight a)) == false) = true; rw [h1]; rfl) rfl (st_bi (r := .bool (decide (a.lo < 0))) rfl rfl rfl (bi_lss rfl) (ao 14 rfl rfl (st_pkf' (b := !(ivRight a)) (v := .bool (decide (a.lo < 0))) (by rw [h1]; rfl) rfl rfl rfl (aN ?_))))))))
  refine bool_split (decide (a.lo < 0)) (fun h2 => ?_) (fun h2 => ?_)
  ·refine ac_then' (b := decide (a.lo < 0)) h2 rfl (aQ (aL (aC 15 c_ivNone Try.func28 ⟨rfl, by decide⟩ rfl rfl (aS [.int .i64 ivNone.lo, .int .i64 ivNone.hi, .bool ivNone.no] agg26 0 rfl rfl rfl rfl rfl rfl (aN (ac_ret (fin_eq (v := .agg #[.int .i64 ivNone.lo, .int .i64 ivNone.hi, .bool ivNone.no]) (by show _ = Iv.v (ivRoot a); rw [ivRoot, h2, h1] <;> rfl) (fin_ret (res_c (vs := [.int .i64 ivNone.lo, .int .i64 ivNone.hi, .bool ivNone.no]) agg26 0 rfl rfl rfl rfl rfl rfl)))))))))
  ·refine ac_else' (b := decide (a.lo < 0)) h2 rfl (ac_skip (aQ (aL (aF 17 fa26_0 rfl rfl (aD 18 (.int .i64 a.lo) cell3 1 rfl rfl rfl rfl (aC 19 (c_numRoot a.lo false) Try.func122 ⟨rfl, by decide⟩ rfl rfl (aM 16 (.tuple #[.int .i64 ((numRoot a.lo false).1), .bool ((numRoot a.lo false).2)]) rfl rfl (aX 20 (.int .i64 ((numRoot a.lo false).1)) rfl rfl rfl (aX 21 (.bool ((numRoot a.lo false).2)) rfl rfl rfl (aA 3 (.int .i64 ((numRoot a.lo false).1)) rfl rfl (aA 4 (.bool ((numRoot a.lo false).2)) rfl rfl (aN (aQ (aL (aF 23 fa26_1 rfl rfl (aD 24 (.int .i64 a.hi) cell3 1 rfl rfl rfl rfl (aC 25 (c_numRoot a.hi true) Try.func122 ⟨rfl, by decide⟩ rfl rfl ?_)))))))))))))))))
   refine aM 22 (.tuple #[.int .i64 ((numRoot a.hi true).1), .bool ((numRoot a.hi true).2)]) rfl rfl (aX 26 (.int .i64 ((numRoot a.hi true).1)) rfl rfl rfl (aX 27 (.bool ((numRoot a.hi true).2)) rfl rfl rfl (aA 5 (.int .i64 ((numRoot a.hi true).1)) rfl rfl (aA 6 (.bool ((numRoot a.hi true).2)) rfl rfl (aN (aQ (aL (aM 28 (.int .i64 ((numRoot a.lo false).1)) rfl rfl (aM 29 (.int .i64 ((numRoot a.hi true).1)) rfl rfl (aC 30 (c_ivOf ((numRoot a.lo false).1) ((numRoot a.hi true).1)) Try.func70 ⟨rfl, by decide⟩ rfl rfl ?_))))))))))
   refine aS [.int .i64 ((ivOf ((numRoot a.lo false).1) ((numRoot a.hi true).1)).lo), .int .i64 ((ivOf ((numRoot a.lo false).1) ((numRoot a.hi true).1)).hi), .bool ((ivOf ((numRoot a.lo false).1) ((numRoot a.hi true).1)).no)] agg26 0 rfl rfl rfl rfl rfl rfl (aN (ac_ret ?_))
   exact fin_eq (v := .agg #[.int .i64 ((ivOf ((numRoot a.lo false).1) ((numRoot a.hi true).1)).lo), .int .i64 ((ivOf ((numRoot a.lo false).1) ((numRoot a.hi true).1)).hi), .bool ((ivOf ((numRoot a.lo false).1) ((numRoot a.hi true).1)).no)]) (by show _ = Iv.v (ivRoot a); rw [ivRoot, h2, h1] <;> rfl) (fin_ret (res_c (vs := [.int .i64 ((ivOf ((numRoot a.lo false).1) ((numRoot a.hi true).1)).lo), .int .i64 ((ivOf ((numRoot a.lo false).1) ((numRoot a.hi true).1)).hi), .bool ((ivOf ((numRoot a.lo false).1) ((numRoot a.hi true).1)).no)]) agg26 0 rfl rfl rfl rfl rfl rfl))
 ·refine aK 11 (by show ((!(ivRight a)) == false) = false; rw [h1]; rfl) rfl (aK 12 (by show ((!(ivRight a)) == false) = false; rw [h1]; rfl) rfl (aK 13 (by show ((!(ivRight a)) == false) = false; rw [h1]; rfl) rfl (ao 14 rfl rfl (st_pkt' (b := !(ivRight a)) (v := .bool true) (by rw [h1]; rfl) rfl rfl rfl (aN (ac_then rfl (aQ (aL (aC 15 c_ivNone Try.func28 ⟨rfl, by decide⟩ rfl rfl (aS [.int .i64 ivNone.lo, .int .i64 ivNone.hi, .bool ivNone.no] agg26 0 rfl rfl rfl rfl rfl rfl (aN (ac_ret ?_))))))))))))
  exact fin_eq (v := .agg #[.int .i64 ivNone.lo, .int .i64 ivNone.hi, .bool ivNone.no]) (by show _ = Iv.v (ivRoot a); rw [ivRoot, h1] <;> rfl) (fin_ret (res_c (vs := [.int .i64 ivNone.lo, .int .i64 ivNone.hi, .bool ivNone.no]) agg26 0 rfl rfl rfl rfl rfl rfl))
end Go.Proofs.Ythngkopcadlciaa
namespace Go.Proofs.Ythngkopcadlciaa
def R (a : Iv) : Prop := a.no = false ∧ -1073741824 ≤ a.lo ∧ a.lo ≤ a.hi ∧ a.hi ≤ 1073741824
theorem ivRight_iff (a : Iv) : ivRight a = true ↔ R a := rRight_iff a
theorem rRight_eq (a : Iv) : rRight a = ivRight a := rfl
theorem rNone_eq : rNone = ivNone := rfl
theorem rOf_eq (l h : Int) : rOf l h = ivOf l h := rfl
theorem rPoint_eq (n : Int) : rPoint n = ivPoint n := rfl
theorem rWhole_eq (n : Int) : rWhole n = ivWhole n := rfl
theorem R_mk {l h : Int} (h1 : -1073741824 ≤ l) (h2 : l ≤ h) (h3 : h ≤ 1073741824) : R ⟨l, h, false⟩ := ⟨rfl, h1, h2, h3⟩
theorem ivRight_t {a : Iv} (h : R a) : ivRight a = true := (ivRight_iff a).2 h
theorem ivRight_f {a : Iv} (h : ¬ R a) : ivRight a = false := by
  cases e : ivRight a
  · rfl
  · exact absurd ((ivRight_iff a).1 e) h
theorem R_none : ¬ R ivNone := fun h => by cases h.1
theorem R_eq {a : Iv} (h : R a) : a = ⟨a.lo, a.hi, false⟩ := by
  obtain ⟨lo, hi, no⟩ := a
  obtain ⟨h, _⟩ := h
  simp only at h
  rw [h]
theorem ivOf_in {l h : Int} (k : -1073741824 ≤ l ∧ l ≤ h ∧ h ≤ 1073741824) : ivOf l h = ⟨l, h, false⟩ := by
  unfold ivOf
  rw [ivRight_t (R_mk k.1 k.2.1 k.2.2)]; rfl
theorem ivOf_out {l h : Int} (k : ¬ (-1073741824 ≤ l ∧ l ≤ h ∧ h ≤ 1073741824)) : ivOf l h = ivNone := by
  unfold ivOf
  rw [ivRight_f (fun r => k ⟨r.2.1, r.2.2.1, r.2.2.2⟩)]; rfl
theorem ivBoth_t {a b : Iv} (ha : R a) (hb : R b) : ivBoth a b = true := by
  unfold ivBoth
  rw [ivRight_t ha, ivRight_t hb]; rfl
theorem ivBoth_f {a b : Iv} (h : ¬ (R a ∧ R b)) : ivBoth a b = false := by
  unfold ivBoth
  by_cases ha : R a
  · rw [ivRight_t ha, ivRight_f (fun hb => h ⟨ha, hb⟩)]; rfl
  · rw [ivRight_f ha]; rfl
theorem ivHas_iff (a : Iv) (n : Int) : ivHas a n = true ↔ R a ∧ a.lo ≤ n ∧ n ≤ a.hi := by
  unfold ivHas
  by_cases h : R a
  · rw [ivRight_t h]
    simp only [cond_true, Bool.cond_false_right, Bool.and_eq_true, decide_eq_true_eq]
    exact ⟨fun k => ⟨h, k⟩, fun k => k.2⟩
  · rw [ivRight_f h]
    exact ⟨fun k => (nomatch k), fun k => absurd k.1 h⟩
theorem ivAdd_spec {a b : Iv} (ha : R a) (hb : R b) : ivAdd a b = ivOf (a.lo + b.lo) (a.hi + b.hi) := by
  obtain ⟨_, a1, a2, a3⟩ := ha
  obtain ⟨_, b1, b2, b3⟩ := hb
  unfold ivAdd
  rw [ivBoth_t ⟨‹_›, a1, a2, a3⟩ ⟨‹_›, b1, b2, b3⟩, w64_of (by omega) (by omega), w64_of (by omega) (by omega)]; rfl
theorem ivAdd_out {a b : Iv} (h : ¬ (R a ∧ R b)) : ivAdd a b = ivNone := by
  unfold ivAdd
  rw [ivBoth_f h]; rfl
theorem ivNeg_spec {a : Iv} (ha : R a) : ivNeg a = ⟨-a.hi, -a.lo, false⟩ := by
  have h := ha.2
  unfold ivNeg
  rw [ivRight_t ha, w64_of (by omega) (by omega), w64_of (by omega) (by omega)]
  simp only [cond_true]
  rw [ivOf_in (by omega)]
  congr 1 <;> omega
theorem ivNeg_out {a : Iv} (h : ¬ R a) : ivNeg a = ivNone := by
  unfold ivNeg
  rw [ivRight_f h]; rfl
theorem R_neg {a : Iv} : R (ivNeg a) ↔ R a := by
  by_cases h : R a
  · rw [ivNeg_spec h]
    have := h.2
    exact ⟨fun _ => h, fun _ => R_mk (by omega) (by omega) (by omega)⟩
  · rw [ivNeg_out h]
    exact ⟨fun k => absurd k R_none, fun k => absurd k h⟩
theorem ivSub_spec {a b : Iv} (ha : R a) (hb : R b) : ivSub a b = ivOf (a.lo - b.hi) (a.hi - b.lo) := by
  unfold ivSub
  rw [ivAdd_spec ha (R_neg.2 hb), ivNeg_spec hb]
  rfl
theorem ivSub_out {a b : Iv} (h : ¬ (R a ∧ R b)) : ivSub a b = ivNone := by
  unfold ivSub
  exact ivAdd_out (fun k => h ⟨k.1, R_neg.1 k.2⟩)
theorem dn_mono {a a' b : Int} (hb : 0 < b) (h : a ≤ a') : dn a b ≤ dn a' b := Int.ediv_le_ediv hb h
theorem upq_mono {a a' b : Int} (hb : 0 < b) (h : a ≤ a') : upq a b ≤ upq a' b := by
  have := Int.ediv_le_ediv (a := -a') (b := -a) hb (by omega)
  unfold upq
  omega
theorem dn_le_upq {a b : Int} (hb : 0 < b) : dn a b ≤ upq a b := by
  rw [upq_eq hb]
  unfold dn
  split <;> omega
theorem dn_min {a a' b : Int} (hb : 0 < b) : dn (min a a') b = min (dn a b) (dn a' b) := by
  by_cases h : a ≤ a'
  · have := dn_mono hb h
    rw [Int.min_eq_left h, Int.min_eq_left this]
  · have := dn_mono hb (show a' ≤ a by omega)
    rw [Int.min_eq_right (by omega), Int.min_eq_right this]
theorem upq_max {a a' b : Int} (hb : 0 < b) : upq (max a a') b = max (upq a b) (upq a' b) := by
  by_cases h : a ≤ a'
  · have := upq_mono hb h
    rw [Int.max_eq_right h, Int.max_eq_right this]
  · have := upq_mono hb (show a' ≤ a by omega)
    rw [Int.max_eq_left (by omega), Int.max_eq_left this]
theorem dn_nonneg {a b : Int} (hb : 0 < b) (h : 0 ≤ a) : 0 ≤ dn a b := Int.ediv_nonneg h (by omega)
def far (a : Iv) : Int := max (-a.lo) a.hi
def near (a : Iv) : Int := max (max a.lo (-a.hi)) 0
theorem near_far {a : Iv} (ha : R a) : 0 ≤ near a ∧ near a ≤ far a ∧ far a ≤ 1073741824 := by
  have := ha.2
  unfold near far
  omega
theorem sq_mono {x y : Int} (h0 : 0 ≤ x) (h : x ≤ y) : x * x ≤ y * y := Int.mul_le_mul h h h0 (by omega)
theorem ivSqr_spec {a : Iv} (ha : R a) : ivSqr a = ivOf (dn (near a * near a) 65536) (upq (far a * far a) 65536) := by
  have h := ha.2
  have h0 := near_far ha
  have e1 : w64 (0 - a.lo) = -a.lo := by rw [w64_of (by omega) (by omega)]; omega
  have e2 : w64 (0 - a.hi) = -a.hi := by rw [w64_of (by omega) (by omega)]; omega
  have k1 : far a = max (-a.lo) a.hi := rfl
  have k2 : near a = max (max a.lo (-a.hi)) 0 := rfl
  have hs := sq_mono h0.1 h0.2.1
  unfold ivSqr ivSqr_e0 ivSqr_e1
  rw [e1, e2, ← k1, ← k2, ivRight_t ha, numMul_spec (by omega) (by omega), numMul_spec (by omega) (by omega), rq, rq]
  simp only [cond_true, cond_false]
  have n0 : 0 ≤ near a * near a := Int.mul_nonneg h0.1 h0.1
  have m1 : 0 ≤ dn (near a * near a) 65536 := dn_nonneg (by omega) n0
  have m2 : dn (near a * near a) 65536 ≤ upq (far a * far a) 65536 := Int.le_trans (dn_mono (by omega) hs) (dn_le_upq (by omega))
  by_cases hc : upq (far a * far a) 65536 ≤ 1073741824
  · rw [told_in (by omega), told_in (by omega)]; rfl
  · have : (told (upq (far a * far a) 65536)).2 = false := by
      rw [told_snd]
      cases e : numIn (upq (far a * far a) 65536)
      · rfl
      · have := (numIn_iff _).1 e
        omega
    rw [this, ivOf_out (l := dn (near a * near a) 65536) (h := upq (far a * far a) 65536) (by omega)]; rfl
theorem ivSqr_out {a : Iv} (h : ¬ R a) : ivSqr a = ivNone := by
  unfold ivSqr
  rw [ivRight_f h]; rfl
def ends4 (t1 u1 t2 u2 t3 u3 t4 u4 : Int × Bool) : Iv :=
  let e0 := ivOf t1.1 u1.1
  let e1 := ivOf (min e0.lo t1.1) (max e0.hi u1.1)
  let e2 := ivOf (min e1.lo t2.1) (max e1.hi u2.1)
  let e3 := ivOf (min e2.lo t3.1) (max e2.hi u3.1)
  let e4 := ivOf (min e3.lo t4.1) (max e3.hi u4.1)
  bif t1.2 then bif u1.2 then bif t2.2 then bif u2.2 then bif t3.2 then bif u3.2 then bif t4.2 then bif u4.2 then e4 else ivNone else ivNone else ivNone else ivNone else ivNone else ivNone else ivNone else ivNone
def rends4 (t1 u1 t2 u2 t3 u3 t4 u4 : Int × Bool) : Iv :=
  let e0 := bif decide (t2.1 < t1.1) then t2.1 else t1.1
  let e1 := bif decide (u2.1 > u1.1) then u2.1 else u1.1
  let e2 := bif decide (t3.1 < e0) then t3.1 else e0
  let e3 := bif decide (u3.1 > e1) then u3.1 else e1
  let e4 := bif decide (t4.1 < e2) then t4.1 else e2
  let e5 := bif decide (u4.1 > e3) then u4.1 else e3
  bif t1.2 then bif u1.2 then bif t2.2 then bif u2.2 then bif t3.2 then bif u3.2 then bif t4.2 then bif u4.2 then rOf e4 e5 else rNone else rNone else rNone else rNone else rNone else rNone else rNone else rNone
theorem endsMul_eq (a b : Iv) : endsMul a b = ends4 (numMul a.lo b.lo false) (numMul a.lo b.lo true) (numMul a.lo b.hi false) (numMul a.lo b.hi true) (numMul a.hi b.lo false) (numMul a.hi b.lo true) (numMul a.hi b.hi false) (numMul a.hi b.hi true) := rfl
theorem endsDiv_eq (a b : Iv) : endsDiv a b = ends4 (numDiv a.lo b.lo false) (numDiv a.lo b.lo true) (numDiv a.lo b.hi false) (numDiv a.lo b.hi true) (numDiv a.hi b.lo false) (numDiv a.hi b.lo true) (numDiv a.hi b.hi false) (numDiv a.hi b.hi true) := rfl
theorem numIn_f {q : Int} (h : ¬ (-1073741824 ≤ q ∧ q ≤ 1073741824)) : numIn q = false := by
  cases e : numIn q
  · rfl
  · exact absurd ((numIn_iff q).1 e) h
def min4 (a b c d : Int) : Int := min (min a b) (min c d)
def max4 (a b c d : Int) : Int := max (max a b) (max c d)
theorem ends4_spec {l1 u1 l2 u2 l3 u3 l4 u4 : Int} (h1 : l1 ≤ u1) (h2 : l2 ≤ u2) (h3 : l3 ≤ u3) (h4 : l4 ≤ u4) :
    ends4 (told l1) (told u1) (told l2) (told u2) (told l3) (told u3) (told l4) (told u4) = ivOf (min4 l1 l2 l3 l4) (max4 u1 u2 u3 u4) := by
  unfold ends4
  simp only [told_snd]
  by_cases h : -1073741824 ≤ min4 l1 l2 l3 l4 ∧ max4 u1 u2 u3 u4 ≤ 1073741824
  · unfold min4 max4 at h ⊢
    rw [told_in (q := l1) (by omega), told_in (q := u1) (by omega), told_in (q := l2) (by omega), told_in (q := u2) (by omega), told_in (q := l3) (by omega), told_in (q := u3) (by omega), told_in (q := l4) (by omega), told_in (q := u4) (by omega)]
    rw [(numIn_iff l1).2 (by omega), (numIn_iff u1).2 (by omega), (numIn_iff l2).2 (by omega), (numIn_iff u2).2 (by omega), (numIn_iff l3).2 (by omega), (numIn_iff u3).2 (by omega), (numIn_iff l4).2 (by omega), (numIn_iff u4).2 (by omega)]
    simp only [cond_true]
    rw [ivOf_in (l := l1) (h := u1) (by omega)]
    simp only
    rw [ivOf_in (l := min l1 l1) (by omega)]
    simp only
    rw [ivOf_in (l := min (min l1 l1) l2) (by omega)]
    simp only
    rw [ivOf_in (l := min (min (min l1 l1) l2) l3) (by omega)]
    simp only
    congr 1 <;> omega
  · rw [ivOf_out (l := min4 l1 l2 l3 l4) (h := max4 u1 u2 u3 u4) (fun k => h ⟨k.1, k.2.2⟩)]
    unfold min4 max4 at h
    have k : ∀ (q : Int) (x : Iv), (-1073741824 ≤ q ∧ q ≤ 1073741824 → x = ivNone) → (bif numIn q then x else ivNone) = ivNone := by
      intro q x hx
      by_cases hq : -1073741824 ≤ q ∧ q ≤ 1073741824
      · rw [(numIn_iff q).2 hq, hx hq]; rfl
      · rw [numIn_f hq]; rfl
    exact k _ _ fun a1 => k _ _ fun a2 => k _ _ fun a3 => k _ _ fun a4 => k _ _ fun a5 => k _ _ fun a6 => k _ _ fun a7 => k _ _ fun a8 => by omega
theorem bmin (x y : Int) : (bif decide (x < y) then x else y) = min y x := by
  by_cases h : x < y
  · rw [decide_eq_true h]; simp only [cond_true]; omega
  · rw [decide_eq_false h]; simp only [cond_false]; omega
theorem bmax (x y : Int) : (bif decide (x > y) then x else y) = max y x := by
  by_cases h : x > y
  · rw [decide_eq_true h]; simp only [cond_true]; omega
  · rw [decide_eq_false h]; simp only [cond_false]; omega
theorem rends4_spec {l1 u1 l2 u2 l3 u3 l4 u4 : Int} (h1 : l1 ≤ u1) (h2 : l2 ≤ u2) (h3 : l3 ≤ u3) (h4 : l4 ≤ u4) :
    rends4 (told l1) (told u1) (told l2) (told u2) (told l3) (told u3) (told l4) (told u4) = ivOf (min4 l1 l2 l3 l4) (max4 u1 u2 u3 u4) := by
  unfold rends4
  simp only [told_snd, bmin, bmax, rOf_eq, rNone_eq]
  by_cases h : -1073741824 ≤ min4 l1 l2 l3 l4 ∧ max4 u1 u2 u3 u4 ≤ 1073741824
  · unfold min4 max4 at h ⊢
    rw [told_in (q := l1) (by omega), told_in (q := u1) (by omega), told_in (q := l2) (by omega), told_in (q := u2) (by omega), told_in (q := l3) (by omega), told_in (q := u3) (by omega), told_in (q := l4) (by omega), told_in (q := u4) (by omega)]
    rw [(numIn_iff l1).2 (by omega), (numIn_iff u1).2 (by omega), (numIn_iff l2).2 (by omega), (numIn_iff u2).2 (by omega), (numIn_iff l3).2 (by omega), (numIn_iff u3).2 (by omega), (numIn_iff l4).2 (by omega), (numIn_iff u4).2 (by omega)]
    simp only [cond_true]
    congr 1 <;> omega
  · rw [ivOf_out (l := min4 l1 l2 l3 l4) (h := max4 u1 u2 u3 u4) (fun k => h ⟨k.1, k.2.2⟩)]
    unfold min4 max4 at h
    have k : ∀ (q : Int) (x : Iv), (-1073741824 ≤ q ∧ q ≤ 1073741824 → x = ivNone) → (bif numIn q then x else ivNone) = ivNone := by
      intro q x hx
      by_cases hq : -1073741824 ≤ q ∧ q ≤ 1073741824
      · rw [(numIn_iff q).2 hq, hx hq]; rfl
      · rw [numIn_f hq]; rfl
    exact k _ _ fun a1 => k _ _ fun a2 => k _ _ fun a3 => k _ _ fun a4 => k _ _ fun a5 => k _ _ fun a6 => k _ _ fun a7 => k _ _ fun a8 => by omega
def mn (a b : Iv) : Int := min4 (a.lo * b.lo) (a.lo * b.hi) (a.hi * b.lo) (a.hi * b.hi)
def mx (a b : Iv) : Int := max4 (a.lo * b.lo) (a.lo * b.hi) (a.hi * b.lo) (a.hi * b.hi)
theorem dn_min4 {a b c d n : Int} (hn : 0 < n) : dn (min4 a b c d) n = min4 (dn a n) (dn b n) (dn c n) (dn d n) := by
  unfold min4
  rw [dn_min hn, dn_min hn, dn_min hn]
theorem upq_max4 {a b c d n : Int} (hn : 0 < n) : upq (max4 a b c d) n = max4 (upq a n) (upq b n) (upq c n) (upq d n) := by
  unfold max4
  rw [upq_max hn, upq_max hn, upq_max hn]
theorem ivMul_spec {a b : Iv} (ha : R a) (hb : R b) : ivMul a b = ivOf (dn (mn a b) 65536) (upq (mx a b) 65536) := by
  have h1 := ha.2
  have h2 := hb.2
  unfold ivMul mn mx
  rw [ivBoth_t ha hb, endsMul_eq]
  simp only [cond_true]
  simp (disch := omega) only [numMul_spec]
  simp only [rq, cond_true, cond_false]
  rw [ends4_spec (dn_le_upq (by omega)) (dn_le_upq (by omega)) (dn_le_upq (by omega)) (dn_le_upq (by omega)), dn_min4 (by omega), upq_max4 (by omega)]
theorem ivMul_out {a b : Iv} (h : ¬ (R a ∧ R b)) : ivMul a b = ivNone := by
  unfold ivMul
  rw [ivBoth_f h]; rfl
theorem dq_le {a b : Int} (hb : b ≠ 0) : dq a b false ≤ dq a b true := by
  unfold dq rq
  simp only [cond_true, cond_false]
  by_cases h : b < 0
  · rw [decide_eq_true h]; exact dn_le_upq (by simp only [cond_true]; omega)
  · rw [decide_eq_false h]; exact dn_le_upq (by simp only [cond_false]; omega)
theorem ivDiv_spec {a b : Iv} (ha : R a) (hb : R b) (h0 : ¬ (b.lo ≤ 0 ∧ 0 ≤ b.hi)) : ivDiv a b = ivOf (min4 (dq a.lo b.lo false) (dq a.lo b.hi false) (dq a.hi b.lo false) (dq a.hi b.hi false)) (max4 (dq a.lo b.lo true) (dq a.lo b.hi true) (dq a.hi b.lo true) (dq a.hi b.hi true)) := by
  have h1 := ha.2
  have h2 := hb.2
  have h3 : ivHas b 0 = false := by
    cases e : ivHas b 0
    · rfl
    · have := (ivHas_iff b 0).1 e
      exact absurd this.2 h0
  unfold ivDiv
  rw [ivBoth_t ha hb, h3, endsDiv_eq]
  simp only [cond_true, cond_false]
  simp (disch := omega) only [numDiv_spec]
  rw [ends4_spec (dq_le (by omega)) (dq_le (by omega)) (dq_le (by omega)) (dq_le (by omega))]
theorem ivDiv_out {a b : Iv} (h : ¬ (R a ∧ R b ∧ ¬ (b.lo ≤ 0 ∧ 0 ≤ b.hi))) : ivDiv a b = ivNone := by
  unfold ivDiv
  by_cases k : R a ∧ R b
  · have h3 : ivHas b 0 = true := (ivHas_iff b 0).2 ⟨k.2, Decidable.byContradiction fun e => h ⟨k.1, k.2, e⟩⟩
    rw [ivBoth_t k.1 k.2, h3]; rfl
  · rw [ivBoth_f k]; rfl
end Go.Proofs.Ythngkopcadlciaa
namespace Go.Proofs.Ythngkopcadlciaa
open Go.RowKit
attribute [local irreducible] AC AR DWalk
def rEndsMul_e0 (a : Iv) (b : Iv) : Int := (bif decide (((rMul a.hi b.lo false).1) < ((rMul a.lo b.lo false).1)) then ((rMul a.hi b.lo false).1) else ((rMul a.lo b.lo false).1))
def rEndsMul_e1 (a : Iv) (b : Iv) : Int := (bif decide (((rMul a.hi b.lo true).1) > ((rMul a.lo b.lo true).1)) then ((rMul a.hi b.lo true).1) else ((rMul a.lo b.lo true).1))
def rEndsMul_e2 (a : Iv) (b : Iv) : Int := (bif decide (((rMul a.lo b.hi false).1) < (rEndsMul_e0 a b)) then ((rMul a.lo b.hi false).1) else (rEndsMul_e0 a b))
def rEndsMul_e3 (a : Iv) (b : Iv) : Int := (bif decide (((rMul a.lo b.hi true).1) > (rEndsMul_e1 a b)) then ((rMul a.lo b.hi true).1) else (rEndsMul_e1 a b))
def rEndsMul_e4 (a : Iv) (b : Iv) : Int := (bif decide (((rMul a.hi b.hi false).1) < (rEndsMul_e2 a b)) then ((rMul a.hi b.hi false).1) else (rEndsMul_e2 a b))
def rEndsMul_e5 (a : Iv) (b : Iv) : Int := (bif decide (((rMul a.hi b.hi true).1) > (rEndsMul_e3 a b)) then ((rMul a.hi b.hi true).1) else (rEndsMul_e3 a b))
def rEndsMul (a : Iv) (b : Iv) : Iv := (bif (rMul a.lo b.lo false).2 then (bif (rMul a.lo b.lo true).2 then (bif (rMul a.hi b.lo false).2 then (bif (rMul a.hi b.lo true).2 then (bif (rMul a.lo b.hi false).2 then (bif (rMul a.lo b.hi true).2 then (bif (rMul a.hi b.hi false).2 then (bif (rMul a.hi b.hi true).2 then (rOf (rEndsMul_e4 a b) (rEndsMul_e5 a b)) else rNone) else rNone) else rNone) else rNone) else rNone) else rNone) else rNone) else rNone)
set_option maxRecDepth 100000 in
set_option maxHeartbeats 4000000 in
theorem c_rEndsMul (a : Iv) (b : Iv) : Gets Try.prog 114 #[.agg #[.int .i64 a.lo, .int .i64 a.hi, .bool a.no], .agg #[.int .i64 b.lo, .int .i64 b.hi, .bool b.no], .bool false] (Iv.v (rEndsMul a b)) := by
 refine gets_fin Try.func114 rfl rfl rfl (aQ (aL (ao 3 rfl rfl (st_box (v := .agg #[.int .i64 a.lo, .int .i64 a.hi, .bool a.no]) (cs := [.int .i64 a.lo, .int .i64 a.hi, .bool a.no]) rfl rfl rfl fun g0 => (ao 4 rfl rfl (st_box (v := .agg #[.int .i64 b.lo, .int .i64 b.hi, .bool b.no]) (cs := [.int .i64 b.lo, .int .i64 b.hi, .bool b.no]) rfl rfl rfl fun g1 => (ao 6 rfl rfl (st_new zero26 rfl fun g2 => (aN (aQ (aL (aA 7 (.int .i64 0) rfl rfl (aN (aQ (aL (aA 8 (.int .i64 0) rfl rfl (aN (aQ (aQ (aL (aA 9 (.int .i64 0) rfl rfl (aN (ac_block ?_)))))))))))))))))))))))
 refine ac_rounds 61 (ar_round (aQ (aQ (aL (aM 16 (.int .i64 0) rfl rfl (aB 17 (.bool true) rfl rfl rfl (bi_lss (by decide)) (aN (ac_then rfl (ac_skip (aQ (ac_block (aQ (aL (aF 20 fa26_0 rfl rfl (aD 21 (.int .i64 a.lo) cell3 2 rfl rfl rfl rfl (aA 10 (.int .i64 a.lo) rfl rfl (aN (aQ (aQ (aL (aM 22 (.int .i64 0) rfl rfl (aB 23 (.int .i64 0) rfl rfl rfl (bi_rem (by decide) (by decide)) (aB 24 (.bool false) rfl rfl rfl (bi_eql (by decide)) (aN (ac_else rfl (ac_skip (aQ (aL (aF 27 fa26_0 rfl rfl (aD 28 (.int .i64 b.lo) cell3 1 rfl rfl rfl rfl (aA 11 (.int .i64 b.lo) rfl rfl (aN (aQ (aQ (aL (aM 29 (.int .i64 0) rfl rfl ?_))))))))))))))))))))))))))))))))))))
 refine aB 30 (.int .i64 0) rfl rfl rfl (bi_quo (by decide) (by decide)) (aB 31 (.bool false) rfl rfl rfl (bi_eql (by decide)) (aN (ac_else rfl (ac_skip (aQ (aL (aM 35 (.int .i64 a.lo) rfl rfl (aM 36 (.int .i64 b.lo) rfl rfl (aC 37 (c_rMul a.lo b.lo false) Try.func115 ⟨rfl, by decide⟩ rfl rfl (aM 34 (.tuple #[.int .i64 ((rMul a.lo b.lo false).1), .bool ((rMul a.lo b.lo false).2)]) rfl rfl (aX 38 (.int .i64 ((rMul a.lo b.lo false).1)) rfl rfl rfl (aX 39 (.bool ((rMul a.lo b.lo false).2)) rfl rfl rfl (aA 12 (.int .i64 ((rMul a.lo b.lo false).1)) rfl rfl (aA 13 (.bool ((rMul a.lo b.lo false).2)) rfl rfl (aN (aQ (aL (aM 41 (.int .i64 a.lo) rfl rfl ?_))))))))))))))))))
 refine aM 42 (.int .i64 b.lo) rfl rfl (aC 43 (c_rMul a.lo b.lo true) Try.func115 ⟨rfl, by decide⟩ rfl rfl (aM 40 (.tuple #[.int .i64 ((rMul a.lo b.lo true).1), .bool ((rMul a.lo b.lo true).2)]) rfl rfl (aX 44 (.int .i64 ((rMul a.lo b.lo true).1)) rfl rfl rfl (aX 45 (.bool ((rMul a.lo b.lo true).2)) rfl rfl rfl (aA 14 (.int .i64 ((rMul a.lo b.lo true).1)) rfl rfl (aA 15 (.bool ((rMul a.lo b.lo true).2)) rfl rfl (aN (aQ (aQ (aL (aM 46 (.bool false) rfl rfl (aN (ac_else rfl (ac_skip (aQ (aQ (aL (aM 59 (.bool ((rMul a.lo b.lo false).2)) rfl rfl (ao 60 rfl rfl (st_un (v := .bool (!((rMul a.lo b.lo false).2))) rfl rfl (un_not rfl) ?_))))))))))))))))))))
 refine aM 61 (.bool (!((rMul a.lo b.lo false).2))) rfl rfl ?_
 refine bool_split ((rMul a.lo b.lo false).2) (fun h1 => ?_) (fun h1 => ?_)
 ·refine ar_gd (d := (some 62)) (by show ((!((rMul a.lo b.lo false).2)) == false) = true; rw [h1]; rfl) rfl (st_move (v := .bool ((rMul a.lo b.lo true).2)) rfl rfl (ar_gd (d := (some 63)) (by show ((!((rMul a.lo b.lo false).2)) == false) = true; rw [h1]; rfl) rfl (st_un (v := .bool (!((rMul a.lo b.lo true).2))) rfl rfl (un_not rfl) (ao 64 rfl rfl (st_pkf' (b := !((rMul a.lo b.lo false).2)) (v := .bool (!((rMul a.lo b.lo true).2))) (by rw [h1]; rfl) rfl rfl rfl (aN ?_))))))
  refine bool_split ((rMul a.lo b.lo true).2) (fun h2 => ?_) (fun h2 => ?_)
  ·refine ac_else' (b := !((rMul a.lo b.lo true).2)) (by rw [h2]; rfl) rfl (ac_skip (aQ (aQ (aL (aM 66 (.int .i64 0) rfl rfl (aB 67 (.bool true) rfl rfl rfl (bi_eql (by decide)) (aM 68 (.bool true) rfl rfl (aK 69 rfl rfl (aK 70 rfl rfl (aK 71 rfl rfl (ao 72 rfl rfl (st_pkt (v := .bool true) rfl rfl rfl (aN (ac_then rfl (aL (aM 73 (.int .i64 ((rMul a.lo b.lo false).1)) rfl rfl (aA 7 (.int .i64 ((rMul a.lo b.lo false).1)) rfl rfl (aN (aQ (aL (aM 74 (.int .i64 0) rfl rfl (aB 75 (.bool true) rfl rfl rfl (bi_eql (by decide)) (aM 76 (.bool true) rfl rfl (aK 77 rfl rfl (aK 78 rfl rfl (aK 79 rfl rfl (ao 80 rfl rfl (st_pkt (v := .bool true) rfl rfl rfl ?_))))))))))))))))))))))))))))
   refine aN (ac_then rfl (aL (aM 81 (.int .i64 ((rMul a.lo b.lo true).1)) rfl rfl (aA 8 (.int .i64 ((rMul a.lo b.lo true).1)) rfl rfl (aN (aL (aM 18 (.int .i64 0) rfl rfl (aB 19 (.int .i64 1) rfl rfl rfl (bi_add (by decide)) (aA 9 (.int .i64 1) rfl rfl (aN (ar_round (aQ (aQ (aL (aM 16 (.int .i64 1) rfl rfl (aB 17 (.bool true) rfl rfl rfl (bi_lss (by decide)) (aN (ac_then rfl (ac_skip (aQ (ac_block (aQ (aL (aF 20 fa26_0 rfl rfl (aD 21 (.int .i64 a.lo) cell3 2 rfl rfl rfl rfl (aA 10 (.int .i64 a.lo) rfl rfl (aN (aQ (aQ (aL (aM 22 (.int .i64 1) rfl rfl (aB 23 (.int .i64 1) rfl rfl rfl (bi_rem (by decide) (by decide)) ?_))))))))))))))))))))))))))))))))
   refine aB 24 (.bool true) rfl rfl rfl (bi_eql (by decide)) (aN (ac_then rfl (aL (aF 25 fa26_1 rfl rfl (aD 26 (.int .i64 a.hi) cell3 2 rfl rfl rfl rfl (aA 10 (.int .i64 a.hi) rfl rfl (aN (aQ (aL (aF 27 fa26_0 rfl rfl (aD 28 (.int .i64 b.lo) cell3 1 rfl rfl rfl rfl (aA 11 (.int .i64 b.lo) rfl rfl (aN (aQ (aQ (aL (aM 29 (.int .i64 1) rfl rfl (aB 30 (.int .i64 0) rfl rfl rfl (bi_quo (by decide) (by decide)) (aB 31 (.bool false) rfl rfl rfl (bi_eql (by decide)) (aN (ac_else rfl (ac_skip (aQ (aL (aM 35 (.int .i64 a.hi) rfl rfl (aM 36 (.int .i64 b.lo) rfl rfl (aC 37 (c_rMul a.hi b.lo false) Try.func115 ⟨rfl, by decide⟩ rfl rfl ?_)))))))))))))))))))))))))))
   refine aM 34 (.tuple #[.int .i64 ((rMul a.hi b.lo false).1), .bool ((rMul a.hi b.lo false).2)]) rfl rfl (aX 38 (.int .i64 ((rMul a.hi b.lo false).1)) rfl rfl rfl (aX 39 (.bool ((rMul a.hi b.lo false).2)) rfl rfl rfl (aA 12 (.int .i64 ((rMul a.hi b.lo false).1)) rfl rfl (aA 13 (.bool ((rMul a.hi b.lo false).2)) rfl rfl (aN (aQ (aL (aM 41 (.int .i64 a.hi) rfl rfl (aM 42 (.int .i64 b.lo) rfl rfl (aC 43 (c_rMul a.hi b.lo true) Try.func115 ⟨rfl, by decide⟩ rfl rfl (aM 40 (.tuple #[.int .i64 ((rMul a.hi b.lo true).1), .bool ((rMul a.hi b.lo true).2)]) rfl rfl (aX 44 (.int .i64 ((rMul a.hi b.lo true).1)) rfl rfl rfl ?_))))))))))))
   refine aX 45 (.bool ((rMul a.hi b.lo true).2)) rfl rfl rfl (aA 14 (.int .i64 ((rMul a.hi b.lo true).1)) rfl rfl (aA 15 (.bool ((rMul a.hi b.lo true).2)) rfl rfl (aN (aQ (aQ (aL (aM 46 (.bool false) rfl rfl (aN (ac_else rfl (ac_skip (aQ (aQ (aL (aM 59 (.bool ((rMul a.hi b.lo false).2)) rfl rfl (ao 60 rfl rfl (st_un (v := .bool (!((rMul a.hi b.lo false).2))) rfl rfl (un_not rfl) (aM 61 (.bool (!((rMul a.hi b.lo false).2))) rfl rfl ?_)))))))))))))))))
   refine bool_split ((rMul a.hi b.lo false).2) (fun h3 => ?_) (fun h3 => ?_)
   ·refine ar_gd (d := (some 62)) (by show ((!((rMul a.hi b.lo false).2)) == false) = true; rw [h3]; rfl) rfl (st_move (v := .bool ((rMul a.hi b.lo true).2)) rfl rfl (ar_gd (d := (some 63)) (by show ((!((rMul a.hi b.lo false).2)) == false) = true; rw [h3]; rfl) rfl (st_un (v := .bool (!((rMul a.hi b.lo true).2))) rfl rfl (un_not rfl) (ao 64 rfl rfl (st_pkf' (b := !((rMul a.hi b.lo false).2)) (v := .bool (!((rMul a.hi b.lo true).2))) (by rw [h3]; rfl) rfl rfl rfl (aN ?_))))))
    refine bool_split ((rMul a.hi b.lo true).2) (fun h4 => ?_) (fun h4 => ?_)
    ·refine ac_else' (b := !((rMul a.hi b.lo true).2)) (by rw [h4]; rfl) rfl (ac_skip (aQ (aQ (aL (aM 66 (.int .i64 1) rfl rfl (aB 67 (.bool false) rfl rfl rfl (bi_eql (by decide)) (aM 68 (.bool false) rfl rfl (ar_gd (d := (some 69)) rfl rfl (st_move (v := .int .i64 ((rMul a.hi b.lo false).1)) rfl rfl (ar_gd (d := (some 70)) rfl rfl (st_move (v := .int .i64 ((rMul a.lo b.lo false).1)) rfl rfl (ar_gd (d := (some 71)) rfl rfl (st_bi (r := .bool (decide (((rMul a.hi b.lo false).1) < ((rMul a.lo b.lo false).1)))) rfl rfl rfl (bi_lss rfl) (ao 72 rfl rfl (st_pkf (v := .bool (decide (((rMul a.hi b.lo false).1) < ((rMul a.lo b.lo false).1)))) rfl rfl rfl (aN ?_))))))))))))))))
     refine ac_mergeE (fun E9 => ((Env.put E9 (some 73) (.int .i64 ((rMul a.hi b.lo false).1))).put (some 7) (.int .i64 ((rMul a.hi b.lo false).1)))) (fun E9 => ((Env.put E9 (some 73) (.int .i64 (rEndsMul_e0 a b))).put (some 7) (.int .i64 (rEndsMul_e0 a b)))) (b := decide (((rMul a.hi b.lo false).1) < ((rMul a.lo b.lo false).1))) rfl (fun hm => ?_) (fun hm => ?_) (fun hm => ?_) ?_
     ·refine aL (aM 73 (.int .i64 ((rMul a.hi b.lo false).1)) rfl rfl (aA 7 (.int .i64 ((rMul a.hi b.lo false).1)) rfl rfl (aN ?_)))
      exact ⟨rfl, rfl, rfl⟩
     ·unfold rEndsMul_e0; rw [hm]; rfl
     ·unfold rEndsMul_e0; rw [hm]; exact ((put_self rfl).trans (put_self rfl))
     refine aQ (aL (aM 74 (.int .i64 1) rfl rfl (aB 75 (.bool false) rfl rfl rfl (bi_eql (by decide)) (aM 76 (.bool false) rfl rfl (ar_gd (d := (some 77)) rfl rfl (st_move (v := .int .i64 ((rMul a.hi b.lo true).1)) rfl rfl (ar_gd (d := (some 78)) rfl rfl (st_move (v := .int .i64 ((rMul a.lo b.lo true).1)) rfl rfl (ar_gd (d := (some 79)) rfl rfl (st_bi (r := .bool (decide (((rMul a.hi b.lo true).1) > ((rMul a.lo b.lo true).1)))) rfl rfl rfl (bi_gtr rfl) (ao 80 rfl rfl (st_pkf (v := .bool (decide (((rMul a.hi b.lo true).1) > ((rMul a.lo b.lo true).1)))) rfl rfl rfl (aN ?_)))))))))))))
     refine ac_mergeE (fun E9 => ((Env.put E9 (some 81) (.int .i64 ((rMul a.hi b.lo true).1))).put (some 8) (.int .i64 ((rMul a.hi b.lo true).1)))) (fun E9 => ((Env.put E9 (some 81) (.int .i64 (rEndsMul_e1 a b))).put (some 8) (.int .i64 (rEndsMul_e1 a b)))) (b := decide (((rMul a.hi b.lo true).1) > ((rMul a.lo b.lo true).1))) rfl (fun hm => ?_) (fun hm => ?_) (fun hm => ?_) ?_
     ·refine aL (aM 81 (.int .i64 ((rMul a.hi b.lo true).1)) rfl rfl (aA 8 (.int .i64 ((rMul a.hi b.lo true).1)) rfl rfl (aN ?_)))
      exact ⟨rfl, rfl, rfl⟩
     ·unfold rEndsMul_e1; rw [hm]; rfl
     ·unfold rEndsMul_e1; rw [hm]; exact ((put_self rfl).trans (put_self rfl))
     refine aL (aM 18 (.int .i64 1) rfl rfl (aB 19 (.int .i64 2) rfl rfl rfl (bi_add (by decide)) (aA 9 (.int .i64 2) rfl rfl (aN (ar_round (aQ (aQ (aL (aM 16 (.int .i64 2) rfl rfl (aB 17 (.bool true) rfl rfl rfl (bi_lss (by decide)) (aN (ac_then rfl (ac_skip (aQ (ac_block (aQ (aL (aF 20 fa26_0 rfl rfl (aD 21 (.int .i64 a.lo) cell3 2 rfl rfl rfl rfl (aA 10 (.int .i64 a.lo) rfl rfl (aN (aQ (aQ (aL (aM 22 (.int .i64 2) rfl rfl (aB 23 (.int .i64 0) rfl rfl rfl (bi_rem (by decide) (by decide)) (aB 24 (.bool false) rfl rfl rfl (bi_eql (by decide)) (aN (ac_else rfl (ac_skip (aQ (aL (aF 27 fa26_0 rfl rfl ?_)))))))))))))))))))))))))))))))))
     refine aD 28 (.int .i64 b.lo) cell3 1 rfl rfl rfl rfl (aA 11 (.int .i64 b.lo) rfl rfl (aN (aQ (aQ (aL (aM 29 (.int .i64 2) rfl rfl (aB 30 (.int .i64 1) rfl rfl rfl (bi_quo (by decide) (by decide)) (aB 31 (.bool true) rfl rfl rfl (bi_eql (by decide)) (aN (ac_then rfl (aL (aF 32 fa26_1 rfl rfl (aD 33 (.int .i64 b.hi) cell3 1 rfl rfl rfl rfl (aA 11 (.int .i64 b.hi) rfl rfl (aN (aQ (aL (aM 35 (.int .i64 a.lo) rfl rfl (aM 36 (.int .i64 b.hi) rfl rfl (aC 37 (c_rMul a.lo b.hi false) Try.func115 ⟨rfl, by decide⟩ rfl rfl (aM 34 (.tuple #[.int .i64 ((rMul a.lo b.hi false).1), .bool ((rMul a.lo b.hi false).2)]) rfl rfl ?_)))))))))))))))))))))
     refine aX 38 (.int .i64 ((rMul a.lo b.hi false).1)) rfl rfl rfl (aX 39 (.bool ((rMul a.lo b.hi false).2)) rfl rfl rfl (aA 12 (.int .i64 ((rMul a.lo b.hi false).1)) rfl rfl (aA 13 (.bool ((rMul a.lo b.hi false).2)) rfl rfl (aN (aQ (aL (aM 41 (.int .i64 a.lo) rfl rfl (aM 42 (.int .i64 b.hi) rfl rfl (aC 43 (c_rMul a.lo b.hi true) Try.func115 ⟨rfl, by decide⟩ rfl rfl (aM 40 (.tuple #[.int .i64 ((rMul a.lo b.hi true).1), .bool ((rMul a.lo b.hi true).2)]) rfl rfl (aX 44 (.int .i64 ((rMul a.lo b.hi true).1)) rfl rfl rfl (aX 45 (.bool ((rMul a.lo b.hi true).2)) rfl rfl rfl (aA 14 (.int .i64 ((rMul a.lo b.hi true).1)) rfl rfl ?_)))))))))))))
     refine aA 15 (.bool ((rMul a.lo b.hi true).2)) rfl rfl (aN (aQ (aQ (aL (aM 46 (.bool false) rfl rfl (aN (ac_else rfl (ac_skip (aQ (aQ (aL (aM 59 (.bool ((rMul a.lo b.hi false).2)) rfl rfl (ao 60 rfl rfl (st_un (v := .bool (!((rMul a.lo b.hi false).2))) rfl rfl (un_not rfl) (aM 61 (.bool (!((rMul a.lo b.hi false).2))) rfl rfl ?_)))))))))))))))
     refine bool_split ((rMul a.lo b.hi false).2) (fun h5 => ?_) (fun h5 => ?_)
     ·refine ar_gd (d := (some 62)) (by show ((!((rMul a.lo b.hi false).2)) == false) = true; rw [h5]; rfl) rfl (st_move (v := .bool ((rMul a.lo b.hi true).2)) rfl rfl (ar_gd (d := (some 63)) (by show ((!((rMul a.lo b.hi false).2)) == false) = true; rw [h5]; rfl) rfl (st_un (v := .bool (!((rMul a.lo b.hi true).2))) rfl rfl (un_not rfl) (ao 64 rfl rfl (st_pkf' (b := !((rMul a.lo b.hi false).2)) (v := .bool (!((rMul a.lo b.hi true).2))) (by rw [h5]; rfl) rfl rfl rfl (aN ?_))))))
      refine bool_split ((rMul a.lo b.hi true).2) (fun h6 => ?_) (fun h6 => ?_)
      ·refine ac_else' (b := !((rMul a.lo b.hi true).2)) (by rw [h6]; rfl) rfl (ac_skip (aQ (aQ (aL (aM 66 (.int .i64 2) rfl rfl (aB 67 (.bool false) rfl rfl rfl (bi_eql (by decide)) (aM 68 (.bool false) rfl rfl (ar_gd (d := (some 69)) rfl rfl (st_move (v := .int .i64 ((rMul a.lo b.hi false).1)) rfl rfl (ar_gd (d := (some 70)) rfl rfl (st_move (v := .int .i64 (rEndsMul_e0 a b)) rfl rfl (ar_gd (d := (some 71)) rfl rfl (st_bi (r := .bool (decide (((rMul a.lo b.hi false).1) < (rEndsMul_e0 a b)))) rfl rfl rfl (bi_lss rfl) (ao 72 rfl rfl (st_pkf (v := .bool (decide (((rMul a.lo b.hi false).1) < (rEndsMul_e0 a b)))) rfl rfl rfl (aN ?_))))))))))))))))
       refine ac_mergeE (fun E9 => ((Env.put E9 (some 73) (.int .i64 ((rMul a.lo b.hi false).1))).put (some 7) (.int .i64 ((rMul a.lo b.hi false).1)))) (fun E9 => ((Env.put E9 (some 73) (.int .i64 (rEndsMul_e2 a b))).put (some 7) (.int .i64 (rEndsMul_e2 a b)))) (b := decide (((rMul a.lo b.hi false).1) < (rEndsMul_e0 a b))) rfl (fun hm => ?_) (fun hm => ?_) (fun hm => ?_) ?_
       ·refine aL (aM 73 (.int .i64 ((rMul a.lo b.hi false).1)) rfl rfl (aA 7 (.int .i64 ((rMul a.lo b.hi false).1)) rfl rfl (aN ?_)))
        exact ⟨rfl, rfl, rfl⟩
       ·unfold rEndsMul_e2; rw [hm]; rfl
       ·unfold rEndsMul_e2; rw [hm]; exact ((put_self rfl).trans (put_self rfl))
       refine aQ (aL (aM 74 (.int .i64 2) rfl rfl (aB 75 (.bool false) rfl rfl rfl (bi_eql (by decide)) (aM 76 (.bool false) rfl rfl (ar_gd (d := (some 77)) rfl rfl (st_move (v := .int .i64 ((rMul a.lo b.hi true).1)) rfl rfl (ar_gd (d := (some 78)) rfl rfl (st_move (v := .int .i64 (rEndsMul_e1 a b)) rfl rfl (ar_gd (d := (some 79)) rfl rfl (st_bi (r := .bool (decide (((rMul a.lo b.hi true).1) > (rEndsMul_e1 a b)))) rfl rfl rfl (bi_gtr rfl) (ao 80 rfl rfl (st_pkf (v := .bool (decide (((rMul a.lo b.hi true).1) > (rEndsMul_e1 a b)))) rfl rfl rfl (aN ?_)))))))))))))
       refine ac_mergeE (fun E9 => ((Env.put E9 (some 81) (.int .i64 ((rMul a.lo b.hi true).1))).put (some 8) (.int .i64 ((rMul a.lo b.hi true).1)))) (fun E9 => ((Env.put E9 (some 81) (.int .i64 (rEndsMul_e3 a b))).put (some 8) (.int .i64 (rEndsMul_e3 a b)))) (b := decide (((rMul a.lo b.hi true).1) > (rEndsMul_e1 a b))) rfl (fun hm => ?_) (fun hm => ?_) (fun hm => ?_) ?_
       ·refine aL (aM 81 (.int .i64 ((rMul a.lo b.hi true).1)) rfl rfl (aA 8 (.int .i64 ((rMul a.lo b.hi true).1)) rfl rfl (aN ?_)))
        exact ⟨rfl, rfl, rfl⟩
       ·unfold rEndsMul_e3; rw [hm]; rfl
       ·unfold rEndsMul_e3; rw [hm]; exact ((put_self rfl).trans (put_self rfl))
       refine aL (aM 18 (.int .i64 2) rfl rfl (aB 19 (.int .i64 3) rfl rfl rfl (bi_add (by decide)) (aA 9 (.int .i64 3) rfl rfl (aN (ar_round (aQ (aQ (aL (aM 16 (.int .i64 3) rfl rfl (aB 17 (.bool true) rfl rfl rfl (bi_lss (by decide)) (aN (ac_then rfl (ac_skip (aQ (ac_block (aQ (aL (aF 20 fa26_0 rfl rfl (aD 21 (.int .i64 a.lo) cell3 2 rfl rfl rfl rfl (aA 10 (.int .i64 a.lo) rfl rfl (aN (aQ (aQ (aL (aM 22 (.int .i64 3) rfl rfl (aB 23 (.int .i64 1) rfl rfl rfl (bi_rem (by decide) (by decide)) (aB 24 (.bool true) rfl rfl rfl (bi_eql (by decide)) (aN (ac_then rfl (aL (aF 25 fa26_1 rfl rfl ?_)))))))))))))))))))))))))))))))
       refine aD 26 (.int .i64 a.hi) cell3 2 rfl rfl rfl rfl (aA 10 (.int .i64 a.hi) rfl rfl (aN (aQ (aL (aF 27 fa26_0 rfl rfl (aD 28 (.int .i64 b.lo) cell3 1 rfl rfl rfl rfl (aA 11 (.int .i64 b.lo) rfl rfl (aN (aQ (aQ (aL (aM 29 (.int .i64 3) rfl rfl (aB 30 (.int .i64 1) rfl rfl rfl (bi_quo (by decide) (by decide)) (aB 31 (.bool true) rfl rfl rfl (bi_eql (by decide)) (aN (ac_then rfl (aL (aF 32 fa26_1 rfl rfl (aD 33 (.int .i64 b.hi) cell3 1 rfl rfl rfl rfl (aA 11 (.int .i64 b.hi) rfl rfl (aN (aQ (aL (aM 35 (.int .i64 a.hi) rfl rfl (aM 36 (.int .i64 b.hi) rfl rfl (aC 37 (c_rMul a.hi b.hi false) Try.func115 ⟨rfl, by decide⟩ rfl rfl ?_))))))))))))))))))))))))))
       refine aM 34 (.tuple #[.int .i64 ((rMul a.hi b.hi false).1), .bool ((rMul a.hi b.hi false).2)]) rfl rfl (aX 38 (.int .i64 ((rMul a.hi b.hi false).1)) rfl rfl rfl (aX 39 (.bool ((rMul a.hi b.hi false).2)) rfl rfl rfl (aA 12 (.int .i64 ((rMul a.hi b.hi false).1)) rfl rfl (aA 13 (.bool ((rMul a.hi b.hi false).2)) rfl rfl (aN (aQ (aL (aM 41 (.int .i64 a.hi) rfl rfl (aM 42 (.int .i64 b.hi) rfl rfl (aC 43 (c_rMul a.hi b.hi true) Try.func115 ⟨rfl, by decide⟩ rfl rfl (aM 40 (.tuple #[.int .i64 ((rMul a.hi b.hi true).1), .bool ((rMul a.hi b.hi true).2)]) rfl rfl (aX 44 (.int .i64 ((rMul a.hi b.hi true).1)) rfl rfl rfl ?_))))))))))))
       refine aX 45 (.bool ((rMul a.hi b.hi true).2)) rfl rfl rfl (aA 14 (.int .i64 ((rMul a.hi b.hi true).1)) rfl rfl (aA 15 (.bool ((rMul a.hi b.hi true).2)) rfl rfl (aN (aQ (aQ (aL (aM 46 (.bool false) rfl rfl (aN (ac_else rfl (ac_skip (aQ (aQ (aL (aM 59 (.bool ((rMul a.hi b.hi false).2)) rfl rfl (ao 60 rfl rfl (st_un (v := .bool (!((rMul a.hi b.hi false).2))) rfl rfl (un_not rfl) (aM 61 (.bool (!((rMul a.hi b.hi false).2))) rfl rfl ?_)))))))))))))))))
       refine bool_split ((rMul a.hi b.hi false).2) (fun h7 => ?_) (fun h7 => ?_)
       ·refine ar_gd (d := (some 62)) (by show ((!((rMul a.hi b.hi false).2)) == false) = true; rw [h7]; rfl) rfl (st_move (v := .bool ((rMul a.hi b.hi true).2)) rfl rfl (ar_gd (d := (some 63)) (by show ((!((rMul a.hi b.hi false).2)) == false) = true; rw [h7]; rfl) rfl (st_un (v := .bool (!((rMul a.hi b.hi true).2))) rfl rfl (un_not rfl) (ao 64 rfl rfl (st_pkf' (b := !((rMul a.hi b.hi false).2)) (v := .bool (!((rMul a.hi b.hi true).2))) (by rw [h7]; rfl) rfl rfl rfl (aN ?_))))))
        refine bool_split ((rMul a.hi b.hi true).2) (fun h8 => ?_) (fun h8 => ?_)
        ·refine ac_else' (b := !((rMul a.hi b.hi true).2)) (by rw [h8]; rfl) rfl (ac_skip (aQ (aQ (aL (aM 66 (.int .i64 3) rfl rfl (aB 67 (.bool false) rfl rfl rfl (bi_eql (by decide)) (aM 68 (.bool false) rfl rfl (ar_gd (d := (some 69)) rfl rfl (st_move (v := .int .i64 ((rMul a.hi b.hi false).1)) rfl rfl (ar_gd (d := (some 70)) rfl rfl (st_move (v := .int .i64 (rEndsMul_e2 a b)) rfl rfl (ar_gd (d := (some 71)) rfl rfl (st_bi (r := .bool (decide (((rMul a.hi b.hi false).1) < (rEndsMul_e2 a b)))) rfl rfl rfl (bi_lss rfl) (ao 72 rfl rfl (st_pkf (v := .bool (decide (((rMul a.hi b.hi false).1) < (rEndsMul_e2 a b)))) rfl rfl rfl (aN ?_))))))))))))))))
         refine ac_mergeE (fun E9 => ((Env.put E9 (some 73) (.int .i64 ((rMul a.hi b.hi false).1))).put (some 7) (.int .i64 ((rMul a.hi b.hi false).1)))) (fun E9 => ((Env.put E9 (some 73) (.int .i64 (rEndsMul_e4 a b))).put (some 7) (.int .i64 (rEndsMul_e4 a b)))) (b := decide (((rMul a.hi b.hi false).1) < (rEndsMul_e2 a b))) rfl (fun hm => ?_) (fun hm => ?_) (fun hm => ?_) ?_
         ·refine aL (aM 73 (.int .i64 ((rMul a.hi b.hi false).1)) rfl rfl (aA 7 (.int .i64 ((rMul a.hi b.hi false).1)) rfl rfl (aN ?_)))
          exact ⟨rfl, rfl, rfl⟩
         ·unfold rEndsMul_e4; rw [hm]; rfl
         ·unfold rEndsMul_e4; rw [hm]; exact ((put_self rfl).trans (put_self rfl))
         refine aQ (aL (aM 74 (.int .i64 3) rfl rfl (aB 75 (.bool false) rfl rfl rfl (bi_eql (by decide)) (aM 76 (.bool false) rfl rfl (ar_gd (d := (some 77)) rfl rfl (st_move (v := .int .i64 ((rMul a.hi b.hi true).1)) rfl rfl (ar_gd (d := (some 78)) rfl rfl (st_move (v := .int .i64 (rEndsMul_e3 a b)) rfl rfl (ar_gd (d := (some 79)) rfl rfl (st_bi (r := .bool (decide (((rMul a.hi b.hi true).1) > (rEndsMul_e3 a b)))) rfl rfl rfl (bi_gtr rfl) (ao 80 rfl rfl (st_pkf (v := .bool (decide (((rMul a.hi b.hi true).1) > (rEndsMul_e3 a b)))) rfl rfl rfl (aN ?_)))))))))))))
         refine ac_mergeE (fun E9 => ((Env.put E9 (some 81) (.int .i64 ((rMul a.hi b.hi true).1))).put (some 8) (.int .i64 ((rMul a.hi b.hi true).1)))) (fun E9 => ((Env.put E9 (some 81) (.int .i64 (rEndsMul_e5 a b))).put (some 8) (.int .i64 (rEndsMul_e5 a b)))) (b := decide (((rMul a.hi b.hi true).1) > (rEndsMul_e3 a b))) rfl (fun hm => ?_) (fun hm => ?_) (fun hm => ?_) ?_
         ·refine aL (aM 81 (.int .i64 ((rMul a.hi b.hi true).1)) rfl rfl (aA 8 (.int .i64 ((rMul a.hi b.hi true).1)) rfl rfl (aN ?_)))
          exact ⟨rfl, rfl, rfl⟩
         ·unfold rEndsMul_e5; rw [hm]; rfl
         ·unfold rEndsMul_e5; rw [hm]; exact ((put_self rfl).trans (put_self rfl))
         refine aL (aM 18 (.int .i64 3) rfl rfl (aB 19 (.int .i64 4) rfl rfl rfl (bi_add (by decide)) (aA 9 (.int .i64 4) rfl rfl (aN (ar_round (aQ (aQ (aL (aM 16 (.int .i64 4) rfl rfl (aB 17 (.bool false) rfl rfl rfl (bi_lss (by decide)) (aN (ac_else rfl (ac_exit (aQ (aL (aM 82 (.int .i64 (rEndsMul_e4 a b)) rfl rfl (aM 83 (.int .i64 (rEndsMul_e5 a b)) rfl rfl (aC 84 (c_rOf (rEndsMul_e4 a b) (rEndsMul_e5 a b)) Try.func112 ⟨rfl, by decide⟩ rfl rfl ?_))))))))))))))))))
         refine aS [.int .i64 ((rOf (rEndsMul_e4 a b) (rEndsMul_e5 a b)).lo), .int .i64 ((rOf (rEndsMul_e4 a b) (rEndsMul_e5 a b)).hi), .bool ((rOf (rEndsMul_e4 a b) (rEndsMul_e5 a b)).no)] agg26 0 rfl rfl rfl rfl rfl rfl (aN (ac_ret ?_))
         exact fin_eq (v := .agg #[.int .i64 ((rOf (rEndsMul_e4 a b) (rEndsMul_e5 a b)).lo), .int .i64 ((rOf (rEndsMul_e4 a b) (rEndsMul_e5 a b)).hi), .bool ((rOf (rEndsMul_e4 a b) (rEndsMul_e5 a b)).no)]) (by show _ = Iv.v (rEndsMul a b); rw [rEndsMul, h8, h7, h6, h5, h4, h3, h2, h1] <;> rfl) (fin_ret (res_c (vs := [.int .i64 ((rOf (rEndsMul_e4 a b) (rEndsMul_e5 a b)).lo), .int .i64 ((rOf (rEndsMul_e4 a b) (rEndsMul_e5 a b)).hi), .bool ((rOf (rEndsMul_e4 a b) (rEndsMul_e5 a b)).no)]) agg26 0 rfl rfl rfl rfl rfl rfl))
        ·refine ac_then' (b := !((rMul a.hi b.hi true).2)) (by rw [h8]; rfl) rfl (aQ (aL (aC 65 c_rNone Try.func111 ⟨rfl, by decide⟩ rfl rfl (aS [.int .i64 rNone.lo, .int .i64 rNone.hi, .bool rNone.no] agg26 0 rfl rfl rfl rfl rfl rfl (aN (ac_ret (fin_eq (v := .agg #[.int .i64 rNone.lo, .int .i64 rNone.hi, .bool rNone.no]) (by show _ = Iv.v (rEndsMul a b); rw [rEndsMul, h8, h7, h6, h5, h4, h3, h2, h1] <;> rfl) (fin_ret (res_c (vs := [.int .i64 rNone.lo, .int .i64 rNone.hi, .bool rNone.no]) agg26 0 rfl rfl rfl rfl rfl rfl)))))))))
       ·refine aK 62 (by show ((!((rMul a.hi b.hi false).2)) == false) = false; rw [h7]; rfl) rfl (aK 63 (by show ((!((rMul a.hi b.hi false).2)) == false) = false; rw [h7]; rfl) rfl (ao 64 rfl rfl (st_pkt' (b := !((rMul a.hi b.hi false).2)) (v := .bool true) (by rw [h7]; rfl) rfl rfl rfl (aN (ac_then rfl (aQ (aL (aC 65 c_rNone Try.func111 ⟨rfl, by decide⟩ rfl rfl (aS [.int .i64 rNone.lo, .int .i64 rNone.hi, .bool rNone.no] agg26 0 rfl rfl rfl rfl rfl rfl (aN (ac_ret ?_)))))))))))
        exact fin_eq (v := .agg #[.int .i64 rNone.lo, .int .i64 rNone.hi, .bool rNone.no]) (by show _ = Iv.v (rEndsMul a b); rw [rEndsMul, h7, h6, h5, h4, h3, h2, h1] <;> rfl) (fin_ret (res_c (vs := [.int .i64 rNone.lo, .int .i64 rNone.hi, .bool rNone.no]) agg26 0 rfl rfl rfl rfl rfl rfl))
      ·refine ac_then' (b := !((rMul a.lo b.hi true).2)) (by rw [h6]; rfl) rfl (aQ (aL (aC 65 c_rNone Try.func111 ⟨rfl, by decide⟩ rfl rfl (aS [.int .i64 rNone.lo, .int .i64 rNone.hi, .bool rNone.no] agg26 0 rfl rfl rfl rfl rfl rfl (aN (ac_ret (fin_eq (v := .agg #[.int .i64 rNone.lo, .int .i64 rNone.hi, .bool rNone.no]) (by show _ = Iv.v (rEndsMul a b); rw [rEndsMul, h6, h5, h4, h3, h2, h1] <;> rfl) (fin_ret (res_c (vs := [.int .i64 rNone.lo, .int .i64 rNone.hi, .bool rNone.no]) agg26 0 rfl rfl rfl rfl rfl rfl)))))))))
     ·refine aK 62 (by show ((!((rMul a.lo b.hi false).2)) == false) = false; rw [h5]; rfl) rfl (aK 63 (by show ((!((rMul a.lo b.hi false).2)) == false) = false; rw [h5]; rfl) rfl (ao 64 rfl rfl (st_pkt' (b := !((rMul a.lo b.hi false).2)) (v := .bool true) (by rw [h5]; rfl) rfl rfl rfl (aN (ac_then rfl (aQ (aL (aC 65 c_rNone Try.func111 ⟨rfl, by decide⟩ rfl rfl (aS [.int .i64 rNone.lo, .int .i64 rNone.hi, .bool rNone.no] agg26 0 rfl rfl rfl rfl rfl rfl (aN (ac_ret ?_)))))))))))
      exact fin_eq (v := .agg #[.int .i64 rNone.lo, .int .i64 rNone.hi, .bool rNone.no]) (by show _ = Iv.v (rEndsMul a b); rw [rEndsMul, h5, h4, h3, h2, h1] <;> rfl) (fin_ret (res_c (vs := [.int .i64 rNone.lo, .int .i64 rNone.hi, .bool rNone.no]) agg26 0 rfl rfl rfl rfl rfl rfl))
    ·refine ac_then' (b := !((rMul a.hi b.lo true).2)) (by rw [h4]; rfl) rfl (aQ (aL (aC 65 c_rNone Try.func111 ⟨rfl, by decide⟩ rfl rfl (aS [.int .i64 rNone.lo, .int .i64 rNone.hi, .bool rNone.no] agg26 0 rfl rfl rfl rfl rfl rfl (aN (ac_ret (fin_eq (v := .agg #[.int .i64 rNone.lo, .int .i64 rNone.hi, .bool rNone.no]) (by show _ = Iv.v (rEndsMul a b); rw [rEndsMul, h4, h3, h2, h1] <;> rfl) (fin_ret (res_c (vs := [.int .i64 rNone.lo, .int .i64 rNone.hi, .bool rNone.no]) agg26 0 rfl rfl rfl rfl rfl rfl)))))))))
   ·refine aK 62 (by show ((!((rMul a.hi b.lo false).2)) == false) = false; rw [h3]; rfl) rfl (aK 63 (by show ((!((rMul a.hi b.lo false).2)) == false) = false; rw [h3]; rfl) rfl (ao 64 rfl rfl (st_pkt' (b := !((rMul a.hi b.lo false).2)) (v := .bool true) (by rw [h3]; rfl) rfl rfl rfl (aN (ac_then rfl (aQ (aL (aC 65 c_rNone Try.func111 ⟨rfl, by decide⟩ rfl rfl (aS [.int .i64 rNone.lo, .int .i64 rNone.hi, .bool rNone.no] agg26 0 rfl rfl rfl rfl rfl rfl (aN (ac_ret ?_)))))))))))
    exact fin_eq (v := .agg #[.int .i64 rNone.lo, .int .i64 rNone.hi, .bool rNone.no]) (by show _ = Iv.v (rEndsMul a b); rw [rEndsMul, h3, h2, h1] <;> rfl) (fin_ret (res_c (vs := [.int .i64 rNone.lo, .int .i64 rNone.hi, .bool rNone.no]) agg26 0 rfl rfl rfl rfl rfl rfl))
  ·refine ac_then' (b := !((rMul a.lo b.lo true).2)) (by rw [h2]; rfl) rfl (aQ (aL (aC 65 c_rNone Try.func111 ⟨rfl, by decide⟩ rfl rfl (aS [.int .i64 rNone.lo, .int .i64 rNone.hi, .bool rNone.no] agg26 0 rfl rfl rfl rfl rfl rfl (aN (ac_ret (fin_eq (v := .agg #[.int .i64 rNone.lo, .int .i64 rNone.hi, .bool rNone.no]) (by show _ = Iv.v (rEndsMul a b); rw [rEndsMul, h2, h1] <;> rfl) (fin_ret (res_c (vs := [.int .i64 rNone.lo, .int .i64 rNone.hi, .bool rNone.no]) agg26 0 rfl rfl rfl rfl rfl rfl)))))))))
 ·refine aK 62 (by show ((!((rMul a.lo b.lo false).2)) == false) = false; rw [h1]; rfl) rfl (aK 63 (by show ((!((rMul a.lo b.lo false).2)) == false) = false; rw [h1]; rfl) rfl (ao 64 rfl rfl (st_pkt' (b := !((rMul a.lo b.lo false).2)) (v := .bool true) (by rw [h1]; rfl) rfl rfl rfl (aN (ac_then rfl (aQ (aL (aC 65 c_rNone Try.func111 ⟨rfl, by decide⟩ rfl rfl (aS [.int .i64 rNone.lo, .int .i64 rNone.hi, .bool rNone.no] agg26 0 rfl rfl rfl rfl rfl rfl (aN (ac_ret ?_)))))))))))
  exact fin_eq (v := .agg #[.int .i64 rNone.lo, .int .i64 rNone.hi, .bool rNone.no]) (by show _ = Iv.v (rEndsMul a b); rw [rEndsMul, h1] <;> rfl) (fin_ret (res_c (vs := [.int .i64 rNone.lo, .int .i64 rNone.hi, .bool rNone.no]) agg26 0 rfl rfl rfl rfl rfl rfl))
def rMulIv (a : Iv) (b : Iv) : Iv := (bif rRight a then (bif rRight b then (rEndsMul a b) else rNone) else rNone)
set_option maxRecDepth 100000 in
theorem c_rMulIv (a : Iv) (b : Iv) : Gets Try.prog 83 #[.agg #[.int .i64 a.lo, .int .i64 a.hi, .bool a.no], .agg #[.int .i64 b.lo, .int .i64 b.hi, .bool b.no]] (Iv.v (rMulIv a b)) := by
 refine gets_fin Try.func83 rfl rfl rfl (aQ (aL (ao 2 rfl rfl (st_box (v := .agg #[.int .i64 a.lo, .int .i64 a.hi, .bool a.no]) (cs := [.int .i64 a.lo, .int .i64 a.hi, .bool a.no]) rfl rfl rfl fun g0 => (ao 3 rfl rfl (st_box (v := .agg #[.int .i64 b.lo, .int .i64 b.hi, .bool b.no]) (cs := [.int .i64 b.lo, .int .i64 b.hi, .bool b.no]) rfl rfl rfl fun g1 => (ao 4 rfl rfl (st_new zero26 rfl fun g2 => (aN (aQ (aQ (aL (aG 5 [.int .i64 a.lo, .int .i64 a.hi, .bool a.no] agg26 2 rfl rfl rfl rfl rfl (aC 6 (c_rRight a) Try.func40 ⟨rfl, by decide⟩ rfl rfl (ao 7 rfl rfl (st_un (v := .bool (!(rRight a))) rfl rfl (un_not rfl) (aM 8 (.bool (!(rRight a))) rfl rfl ?_)))))))))))))))))
 refine bool_split (rRight a) (fun h1 => ?_) (fun h1 => ?_)
 ·refine ar_gd (d := (some 9)) (by show ((!(rRight a)) == false) = true; rw [h1]; rfl) rfl (st_lda (vs := [.int .i64 b.lo, .int .i64 b.hi, .bool b.no]) agg26 1 rfl rfl rfl rfl rfl rfl (ar_gd (d := (some 10)) (by show ((!(rRight a)) == false) = true; rw [h1]; rfl) rfl (st_cf (c_rRight b) Try.func40 rfl (by decide) rfl rfl rfl (ar_gd (d := (some 11)) (by show ((!(rRight a)) == false) = true; rw [h1]; rfl) rfl (st_un (v := .bool (!(rRight b))) rfl rfl (un_not rfl) (ao 12 rfl rfl (st_pkf' (b := !(rRight a)) (v := .bool (!(rRight b))) (by rw [h1]; rfl) rfl rfl rfl (aN ?_))))))))
  refine bool_split (rRight b) (fun h2 => ?_) (fun h2 => ?_)
  ·refine ac_else' (b := !(rRight b)) (by rw [h2]; rfl) rfl (ac_skip (aQ (aL (aG 14 [.int .i64 a.lo, .int .i64 a.hi, .bool a.no] agg26 2 rfl rfl rfl rfl rfl (aG 15 [.int .i64 b.lo, .int .i64 b.hi, .bool b.no] agg26 1 rfl rfl rfl rfl rfl (aC 16 (c_rEndsMul a b) Try.func114 ⟨rfl, by decide⟩ rfl rfl (aS [.int .i64 ((rEndsMul a b).lo), .int .i64 ((rEndsMul a b).hi), .bool ((rEndsMul a b).no)] agg26 0 rfl rfl rfl rfl rfl rfl (aN (ac_ret ?_)))))))))
   exact fin_eq (v := .agg #[.int .i64 ((rEndsMul a b).lo), .int .i64 ((rEndsMul a b).hi), .bool ((rEndsMul a b).no)]) (by show _ = Iv.v (rMulIv a b); rw [rMulIv, h2, h1] <;> rfl) (fin_ret (res_c (vs := [.int .i64 ((rEndsMul a b).lo), .int .i64 ((rEndsMul a b).hi), .bool ((rEndsMul a b).no)]) agg26 0 rfl rfl rfl rfl rfl rfl))
  ·refine ac_then' (b := !(rRight b)) (by rw [h2]; rfl) rfl (aQ (aL (aC 13 c_rNone Try.func111 ⟨rfl, by decide⟩ rfl rfl (aS [.int .i64 rNone.lo, .int .i64 rNone.hi, .bool rNone.no] agg26 0 rfl rfl rfl rfl rfl rfl (aN (ac_ret (fin_eq (v := .agg #[.int .i64 rNone.lo, .int .i64 rNone.hi, .bool rNone.no]) (by show _ = Iv.v (rMulIv a b); rw [rMulIv, h2, h1] <;> rfl) (fin_ret (res_c (vs := [.int .i64 rNone.lo, .int .i64 rNone.hi, .bool rNone.no]) agg26 0 rfl rfl rfl rfl rfl rfl)))))))))
 ·refine aK 9 (by show ((!(rRight a)) == false) = false; rw [h1]; rfl) rfl (aK 10 (by show ((!(rRight a)) == false) = false; rw [h1]; rfl) rfl (aK 11 (by show ((!(rRight a)) == false) = false; rw [h1]; rfl) rfl (ao 12 rfl rfl (st_pkt' (b := !(rRight a)) (v := .bool true) (by rw [h1]; rfl) rfl rfl rfl (aN (ac_then rfl (aQ (aL (aC 13 c_rNone Try.func111 ⟨rfl, by decide⟩ rfl rfl (aS [.int .i64 rNone.lo, .int .i64 rNone.hi, .bool rNone.no] agg26 0 rfl rfl rfl rfl rfl rfl (aN (ac_ret ?_))))))))))))
  exact fin_eq (v := .agg #[.int .i64 rNone.lo, .int .i64 rNone.hi, .bool rNone.no]) (by show _ = Iv.v (rMulIv a b); rw [rMulIv, h1] <;> rfl) (fin_ret (res_c (vs := [.int .i64 rNone.lo, .int .i64 rNone.hi, .bool rNone.no]) agg26 0 rfl rfl rfl rfl rfl rfl))
end Go.Proofs.Ythngkopcadlciaa
