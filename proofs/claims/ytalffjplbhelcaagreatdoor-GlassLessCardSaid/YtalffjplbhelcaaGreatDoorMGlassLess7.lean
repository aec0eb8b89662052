import Derived.Test.YtalffjplbhelcaaGreatDoorMGlassLess6
import Derived.Test.YtalffjplbhelcaaGreatDoorMGlassLess4
import Derived.Test.YtalffjplbhelcaaGreatDoorMGlassLess2
import Derived.Test.YtalffjplbhelcaaGreatDoorMGlassLess5
import Derived.Lib.OthersKept
set_option linter.unusedVariables false
set_option linter.unusedSimpArgs false
namespace Go.Proofs.YtalffjplbhelcaaGreatDoor
open Go.RowKit
attribute [local irreducible] AC AR DWalk
def endsDiv_e0 (a : Iv) (b : Iv) : Iv := (ivOf ((numDiv a.lo b.lo false).1) ((numDiv a.lo b.lo true).1))
def endsDiv_e1 (a : Iv) (b : Iv) : Iv := (ivOf (min ((endsDiv_e0 a b).lo) ((numDiv a.lo b.lo false).1)) (max ((endsDiv_e0 a b).hi) ((numDiv a.lo b.lo true).1)))
def endsDiv_e2 (a : Iv) (b : Iv) : Iv := (ivOf (min ((endsDiv_e1 a b).lo) ((numDiv a.lo b.hi false).1)) (max ((endsDiv_e1 a b).hi) ((numDiv a.lo b.hi true).1)))
def endsDiv_e3 (a : Iv) (b : Iv) : Iv := (ivOf (min ((endsDiv_e2 a b).lo) ((numDiv a.hi b.lo false).1)) (max ((endsDiv_e2 a b).hi) ((numDiv a.hi b.lo true).1)))
def endsDiv_e4 (a : Iv) (b : Iv) : Iv := (ivOf (min ((endsDiv_e3 a b).lo) ((numDiv a.hi b.hi false).1)) (max ((endsDiv_e3 a b).hi) ((numDiv a.hi b.hi true).1)))
def endsDiv (a : Iv) (b : Iv) : Iv := (bif (numDiv a.lo b.lo false).2 then (bif (numDiv a.lo b.lo true).2 then (bif (numDiv a.lo b.hi false).2 then (bif (numDiv a.lo b.hi true).2 then (bif (numDiv a.hi b.lo false).2 then (bif (numDiv a.hi b.lo true).2 then (bif (numDiv a.hi b.hi false).2 then (bif (numDiv a.hi b.hi true).2 then (endsDiv_e4 a b) else ivNone) else ivNone) else ivNone) else ivNone) else ivNone) else ivNone) else ivNone) else ivNone)
set_option maxRecDepth 100000 in
set_option maxHeartbeats 4000000 in
theorem c_endsDiv (a : Iv) (b : Iv) : Gets Tryz.prog 93 #[.func (.func 94) #[] #[], (Iv.v a), (Iv.v b)] (Iv.v (endsDiv a b)) := by
 refine gets_fin Tryz.func93 rfl rfl rfl (aQ (aL (ao 4 rfl rfl (st_box (v := (Iv.v a)) (cs := [.int .i64 a.lo, .int .i64 a.hi, .bool a.no]) rfl rfl rfl fun g0 => (ao 5 rfl rfl (st_box (v := (Iv.v b)) (cs := [.int .i64 b.lo, .int .i64 b.hi, .bool b.no]) rfl rfl rfl fun g1 => (ao 6 rfl rfl (st_new zero32 rfl fun g2 => (aN (aQ (aL (ao 7 rfl rfl (st_new zero32 rfl fun g3 => (aN (aQ (aL (aA 8 (.bool true) rfl rfl (aN (aQ (aQ (aL (aF 17 fa32_0 rfl rfl (aD 18 (.int .i64 a.lo) cell3 3 rfl rfl rfl rfl (aF 19 fa32_1 rfl rfl (aD 20 (.int .i64 a.hi) cell3 3 rfl rfl rfl rfl ?_)))))))))))))))))))))))))
 refine ao 21 rfl rfl (st_bd (us := [(0, .int .i64 a.lo), (1, .int .i64 a.hi)]) (v := .agg #[.int .i64 a.lo, .int .i64 a.hi]) rfl rfl (bd127_0_1 _ _) (aM 22 (.int .i64 0) rfl rfl (aN (ac_block ?_))))
 refine ac_rounds 61 (ar_round (aQ (aL (aB 23 (.bool true) rfl rfl rfl (bi_lss (by decide)) (aN (aQ (ac_then rfl (ac_skip (aQ (ac_block (aQ (aL (ao 24 rfl rfl (st_ix (v := .int .i64 a.lo) rfl rfl rfl (ix127_0 _ _) (aA 10 (.int .i64 a.lo) rfl rfl (aN (aQ (aL (aF 25 fa32_0 rfl rfl (aD 26 (.int .i64 b.lo) cell3 2 rfl rfl rfl rfl (aF 27 fa32_1 rfl rfl (aD 28 (.int .i64 b.hi) cell3 2 rfl rfl rfl rfl (ao 29 rfl rfl (st_bd (us := [(0, .int .i64 b.lo), (1, .int .i64 b.hi)]) (v := .agg #[.int .i64 b.lo, .int .i64 b.hi]) rfl rfl (bd127_0_1 _ _) (aM 30 (.int .i64 0) rfl rfl (aN (ac_block ?_)))))))))))))))))))))))))))
 refine ac_rounds 61 (ar_round (aQ (aL (aB 31 (.bool true) rfl rfl rfl (bi_lss (by decide)) (aN (aQ (ac_then rfl (ac_skip (aQ (ac_block (aQ (aL (ao 32 rfl rfl (st_ix (v := .int .i64 b.lo) rfl rfl rfl (ix127_0 _ _) (aA 12 (.int .i64 b.lo) rfl rfl (aN (aQ (aL (aM 34 (.func (.func 94) #[] #[]) rfl rfl (aM 35 (.int .i64 a.lo) rfl rfl (aM 36 (.int .i64 b.lo) rfl rfl (ao 37 rfl rfl (st_cv (c_numDiv a.lo b.lo false) Tryz.func94 rfl (by decide) rfl rfl rfl (aM 33 (.tuple #[.int .i64 ((numDiv a.lo b.lo false).1), .bool ((numDiv a.lo b.lo false).2)]) rfl rfl (aX 38 (.int .i64 ((numDiv a.lo b.lo false).1)) rfl rfl rfl ?_)))))))))))))))))))))))))
 refine aX 39 (.bool ((numDiv a.lo b.lo false).2)) rfl rfl rfl (aA 13 (.int .i64 ((numDiv a.lo b.lo false).1)) rfl rfl (aA 14 (.bool ((numDiv a.lo b.lo false).2)) rfl rfl (aN (aQ (aL (aM 41 (.func (.func 94) #[] #[]) rfl rfl (aM 42 (.int .i64 a.lo) rfl rfl (aM 43 (.int .i64 b.lo) rfl rfl (ao 44 rfl rfl (st_cv (c_numDiv a.lo b.lo true) Tryz.func94 rfl (by decide) rfl rfl rfl (aM 40 (.tuple #[.int .i64 ((numDiv a.lo b.lo true).1), .bool ((numDiv a.lo b.lo true).2)]) rfl rfl (aX 45 (.int .i64 ((numDiv a.lo b.lo true).1)) rfl rfl rfl (aX 46 (.bool ((numDiv a.lo b.lo true).2)) rfl rfl rfl (aA 15 (.int .i64 ((numDiv a.lo b.lo true).1)) rfl rfl ?_))))))))))))))
 refine aA 16 (.bool ((numDiv a.lo b.lo true).2)) rfl rfl (aN (aQ (aQ (aL (aM 47 (.bool ((numDiv a.lo b.lo false).2)) rfl rfl (ao 48 rfl rfl (st_un (v := .bool (!((numDiv a.lo b.lo false).2))) rfl rfl (un_not rfl) (aM 49 (.bool (!((numDiv a.lo b.lo false).2))) rfl rfl ?_))))))))
 refine bool_split ((numDiv a.lo b.lo false).2) (fun h1 => ?_) (fun h1 => ?_)
 ·refine ar_gd (d := (some 50)) (by show ((!((numDiv a.lo b.lo false).2)) == false) = true; rw [h1]; rfl) rfl (st_move (v := .bool ((numDiv a.lo b.lo true).2)) rfl rfl (ar_gd (d := (some 51)) (by show ((!((numDiv a.lo b.lo false).2)) == false) = true; rw [h1]; rfl) rfl (st_un (v := .bool (!((numDiv a.lo b.lo true).2))) rfl rfl (un_not rfl) (ao 52 rfl rfl (st_pkf' (b := !((numDiv a.lo b.lo false).2)) (v := .bool (!((numDiv a.lo b.lo true).2))) (by rw [h1]; rfl) rfl rfl rfl (aN ?_))))))
  refine bool_split ((numDiv a.lo b.lo true).2) (fun h2 => ?_) (fun h2 => ?_)
  ·refine ac_else' (b := !((numDiv a.lo b.lo true).2)) (by rw [h2]; rfl) rfl (ac_skip (aQ (aQ (aL (aM 54 (.bool true) rfl rfl (aN (ac_then rfl (aL (aM 55 (.int .i64 ((numDiv a.lo b.lo false).1)) rfl rfl (aM 56 (.int .i64 ((numDiv a.lo b.lo true).1)) rfl rfl (aC 57 (c_ivOf ((numDiv a.lo b.lo false).1) ((numDiv a.lo b.lo true).1)) Tryz.func72 ⟨rfl, by decide⟩ rfl rfl (aS [.int .i64 ((endsDiv_e0 a b).lo), .int .i64 ((endsDiv_e0 a b).hi), .bool ((endsDiv_e0 a b).no)] agg32 0 rfl rfl rfl rfl rfl rfl (aA 8 (.bool false) rfl rfl (aN (aL (aF 58 fa32_0 rfl rfl (aD 59 (.int .i64 ((endsDiv_e0 a b).lo)) cell3 0 rfl rfl rfl rfl ?_)))))))))))))))))
   refine aM 60 (.int .i64 ((numDiv a.lo b.lo false).1)) rfl rfl (ao 61 rfl rfl (st_mn (x := ((endsDiv_e0 a b).lo)) (y := ((numDiv a.lo b.lo false).1)) (c := (min ((endsDiv_e0 a b).lo) ((numDiv a.lo b.lo false).1))) rfl rfl rfl (aF 62 fa32_1 rfl rfl (aD 63 (.int .i64 ((endsDiv_e0 a b).hi)) cell3 0 rfl rfl rfl rfl (aM 64 (.int .i64 ((numDiv a.lo b.lo true).1)) rfl rfl (ao 65 rfl rfl (st_mx (x := ((endsDiv_e0 a b).hi)) (y := ((numDiv a.lo b.lo true).1)) (c := (max ((endsDiv_e0 a b).hi) ((numDiv a.lo b.lo true).1))) rfl rfl rfl ?_)))))))
   refine aC 66 (c_ivOf (min ((endsDiv_e0 a b).lo) ((numDiv a.lo b.lo false).1)) (max ((endsDiv_e0 a b).hi) ((numDiv a.lo b.lo true).1))) Tryz.func72 ⟨rfl, by decide⟩ rfl rfl (aS [.int .i64 ((endsDiv_e1 a b).lo), .int .i64 ((endsDiv_e1 a b).hi), .bool ((endsDiv_e1 a b).no)] agg32 0 rfl rfl rfl rfl rfl rfl (aN (aL (aB 67 (.int .i64 1) rfl rfl rfl (bi_add (by decide)) (aM 30 (.int .i64 1) rfl rfl (aN (ar_round (aQ (aL (aB 31 (.bool true) rfl rfl rfl (bi_lss (by decide)) (aN (aQ (ac_then rfl (ac_skip (aQ (ac_block (aQ (aL (ao 32 rfl rfl (st_ix (v := .int .i64 b.hi) rfl rfl rfl (ix127_1 _ _) (aA 12 (.int .i64 b.hi) rfl rfl (aN (aQ (aL ?_))))))))))))))))))))))))
   refine aM 34 (.func (.func 94) #[] #[]) rfl rfl (aM 35 (.int .i64 a.lo) rfl rfl (aM 36 (.int .i64 b.hi) rfl rfl (ao 37 rfl rfl (st_cv (c_numDiv a.lo b.hi false) Tryz.func94 rfl (by decide) rfl rfl rfl (aM 33 (.tuple #[.int .i64 ((numDiv a.lo b.hi false).1), .bool ((numDiv a.lo b.hi false).2)]) rfl rfl (aX 38 (.int .i64 ((numDiv a.lo b.hi false).1)) rfl rfl rfl (aX 39 (.bool ((numDiv a.lo b.hi false).2)) rfl rfl rfl (aA 13 (.int .i64 ((numDiv a.lo b.hi false).1)) rfl rfl (aA 14 (.bool ((numDiv a.lo b.hi false).2)) rfl rfl (aN (aQ (aL (aM 41 (.func (.func 94) #[] #[]) rfl rfl (aM 42 (.int .i64 a.lo) rfl rfl (aM 43 (.int .i64 b.hi) rfl rfl ?_)))))))))))))))
   refine ao 44 rfl rfl (st_cv (c_numDiv a.lo b.hi true) Tryz.func94 rfl (by decide) rfl rfl rfl (aM 40 (.tuple #[.int .i64 ((numDiv a.lo b.hi true).1), .bool ((numDiv a.lo b.hi true).2)]) rfl rfl (aX 45 (.int .i64 ((numDiv a.lo b.hi true).1)) rfl rfl rfl (aX 46 (.bool ((numDiv a.lo b.hi true).2)) rfl rfl rfl (aA 15 (.int .i64 ((numDiv a.lo b.hi true).1)) rfl rfl (aA 16 (.bool ((numDiv a.lo b.hi true).2)) rfl rfl (aN (aQ (aQ (aL (aM 47 (.bool ((numDiv a.lo b.hi false).2)) rfl rfl (ao 48 rfl rfl (st_un (v := .bool (!((numDiv a.lo b.hi false).2))) rfl rfl (un_not rfl) (aM 49 (.bool (!((numDiv a.lo b.hi false).2))) rfl rfl ?_))))))))))))))
   refine bool_split ((numDiv a.lo b.hi false).2) (fun h3 => ?_) (fun h3 => ?_)
   ·refine ar_gd (d := (some 50)) (by show ((!((numDiv a.lo b.hi false).2)) == false) = true; rw [h3]; rfl) rfl (st_move (v := .bool ((numDiv a.lo b.hi true).2)) rfl rfl (ar_gd (d := (some 51)) (by show ((!((numDiv a.lo b.hi false).2)) == false) = true; rw [h3]; rfl) rfl (st_un (v := .bool (!((numDiv a.lo b.hi true).2))) rfl rfl (un_not rfl) (ao 52 rfl rfl (st_pkf' (b := !((numDiv a.lo b.hi false).2)) (v := .bool (!((numDiv a.lo b.hi true).2))) (by rw [h3]; rfl) rfl rfl rfl (aN ?_))))))
    refine bool_split ((numDiv a.lo b.hi true).2) (fun h4 => ?_) (fun h4 => ?_)
    ·refine ac_else' (b := !((numDiv a.lo b.hi true).2)) (by rw [h4]; rfl) rfl (ac_skip (aQ (aQ (aL (aM 54 (.bool false) rfl rfl (aN (ac_else rfl (ac_skip (aL (aF 58 fa32_0 rfl rfl (aD 59 (.int .i64 ((endsDiv_e1 a b).lo)) cell3 0 rfl rfl rfl rfl (aM 60 (.int .i64 ((numDiv a.lo b.hi false).1)) rfl rfl (ao 61 rfl rfl (st_mn (x := ((endsDiv_e1 a b).lo)) (y := ((numDiv a.lo b.hi false).1)) (c := (min ((endsDiv_e1 a b).lo) ((numDiv a.lo b.hi false).1))) rfl rfl rfl (aF 62 fa32_1 rfl rfl (aD 63 (.int .i64 ((endsDiv_e1 a b).hi)) cell3 0 rfl rfl rfl rfl (aM 64 (.int .i64 ((numDiv a.lo b.hi true).1)) rfl rfl ?_)))))))))))))))))
     refine ao 65 rfl rfl (st_mx (x := ((endsDiv_e1 a b).hi)) (y := ((numDiv a.lo b.hi true).1)) (c := (max ((endsDiv_e1 a b).hi) ((numDiv a.lo b.hi true).1))) rfl rfl rfl (aC 66 (c_ivOf (min ((endsDiv_e1 a b).lo) ((numDiv a.lo b.hi false).1)) (max ((endsDiv_e1 a b).hi) ((numDiv a.lo b.hi true).1))) Tryz.func72 ⟨rfl, by decide⟩ rfl rfl (aS [.int .i64 ((endsDiv_e2 a b).lo), .int .i64 ((endsDiv_e2 a b).hi), .bool ((endsDiv_e2 a b).no)] agg32 0 rfl rfl rfl rfl rfl rfl (aN (aL (aB 67 (.int .i64 2) rfl rfl rfl (bi_add (by decide)) (aM 30 (.int .i64 2) rfl rfl (aN (ar_round (aQ (aL (aB 31 (.bool false) rfl rfl rfl (bi_lss (by decide)) (aN (aQ (ac_else rfl ?_)))))))))))))))
     refine ac_exit (aL (aB 68 (.int .i64 1) rfl rfl rfl (bi_add (by decide)) (aM 22 (.int .i64 1) rfl rfl (aN (ar_round (aQ (aL (aB 23 (.bool true) rfl rfl rfl (bi_lss (by decide)) (aN (aQ (ac_then rfl (ac_skip (aQ (ac_block (aQ (aL (ao 24 rfl rfl (st_ix (v := .int .i64 a.hi) rfl rfl rfl (ix127_1 _ _) (aA 10 (.int .i64 a.hi) rfl rfl (aN (aQ (aL (aF 25 fa32_0 rfl rfl (aD 26 (.int .i64 b.lo) cell3 2 rfl rfl rfl rfl (aF 27 fa32_1 rfl rfl (aD 28 (.int .i64 b.hi) cell3 2 rfl rfl rfl rfl (ao 29 rfl rfl (st_bd (us := [(0, .int .i64 b.lo), (1, .int .i64 b.hi)]) (v := .agg #[.int .i64 b.lo, .int .i64 b.hi]) rfl rfl (bd127_0_1 _ _) ?_))))))))))))))))))))))))))))
     refine aM 30 (.int .i64 0) rfl rfl (aN (ac_block ?_))
     refine ac_rounds 61 (ar_round (aQ (aL (aB 31 (.bool true) rfl rfl rfl (bi_lss (by decide)) (aN (aQ (ac_then rfl (ac_skip (aQ (ac_block (aQ (aL (ao 32 rfl rfl (st_ix (v := .int .i64 b.lo) rfl rfl rfl (ix127_0 _ _) (aA 12 (.int .i64 b.lo) rfl rfl (aN (aQ (aL (aM 34 (.func (.func 94) #[] #[]) rfl rfl (aM 35 (.int .i64 a.hi) rfl rfl (aM 36 (.int .i64 b.lo) rfl rfl (ao 37 rfl rfl (st_cv (c_numDiv a.hi b.lo false) Tryz.func94 rfl (by decide) rfl rfl rfl (aM 33 (.tuple #[.int .i64 ((numDiv a.hi b.lo false).1), .bool ((numDiv a.hi b.lo false).2)]) rfl rfl (aX 38 (.int .i64 ((numDiv a.hi b.lo false).1)) rfl rfl rfl ?_)))))))))))))))))))))))))
     refine aX 39 (.bool ((numDiv a.hi b.lo false).2)) rfl rfl rfl (aA 13 (.int .i64 ((numDiv a.hi b.lo false).1)) rfl rfl (aA 14 (.bool ((numDiv a.hi b.lo false).2)) rfl rfl (aN (aQ (aL (aM 41 (.func (.func 94) #[] #[]) rfl rfl (aM 42 (.int .i64 a.hi) rfl rfl (aM 43 (.int .i64 b.lo) rfl rfl (ao 44 rfl rfl (st_cv (c_numDiv a.hi b.lo true) Tryz.func94 rfl (by decide) rfl rfl rfl (aM 40 (.tuple #[.int .i64 ((numDiv a.hi b.lo true).1), .bool ((numDiv a.hi b.lo true).2)]) rfl rfl (aX 45 (.int .i64 ((numDiv a.hi b.lo true).1)) rfl rfl rfl (aX 46 (.bool ((numDiv a.hi b.lo true).2)) rfl rfl rfl (aA 15 (.int .i64 ((numDiv a.hi b.lo true).1)) rfl rfl ?_))))))))))))))
     refine aA 16 (.bool ((numDiv a.hi b.lo true).2)) rfl rfl (aN (aQ (aQ (aL (aM 47 (.bool ((numDiv a.hi b.lo false).2)) rfl rfl (ao 48 rfl rfl (st_un (v := .bool (!((numDiv a.hi b.lo false).2))) rfl rfl (un_not rfl) (aM 49 (.bool (!((numDiv a.hi b.lo false).2))) rfl rfl ?_))))))))
     refine bool_split ((numDiv a.hi b.lo false).2) (fun h5 => ?_) (fun h5 => ?_)
     ·refine ar_gd (d := (some 50)) (by show ((!((numDiv a.hi b.lo false).2)) == false) = true; rw [h5]; rfl) rfl (st_move (v := .bool ((numDiv a.hi b.lo true).2)) rfl rfl (ar_gd (d := (some 51)) (by show ((!((numDiv a.hi b.lo false).2)) == false) = true; rw [h5]; rfl) rfl (st_un (v := .bool (!((numDiv a.hi b.lo true).2))) rfl rfl (un_not rfl) (ao 52 rfl rfl (st_pkf' (b := !((numDiv a.hi b.lo false).2)) (v := .bool (!((numDiv a.hi b.lo true).2))) (by rw [h5]; rfl) rfl rfl rfl (aN ?_))))))
      refine bool_split ((numDiv a.hi b.lo true).2) (fun h6 => ?_) (fun h6 => ?_)
      ·refine ac_else' (b := !((numDiv a.hi b.lo true).2)) (by rw [h6]; rfl) rfl (ac_skip (aQ (aQ (aL (aM 54 (.bool false) rfl rfl (aN (ac_else rfl (ac_skip (aL (aF 58 fa32_0 rfl rfl (aD 59 (.int .i64 ((endsDiv_e2 a b).lo)) cell3 0 rfl rfl rfl rfl (aM 60 (.int .i64 ((numDiv a.hi b.lo false).1)) rfl rfl (ao 61 rfl rfl (st_mn (x := ((endsDiv_e2 a b).lo)) (y := ((numDiv a.hi b.lo false).1)) (c := (min ((endsDiv_e2 a b).lo) ((numDiv a.hi b.lo false).1))) rfl rfl rfl (aF 62 fa32_1 rfl rfl (aD 63 (.int .i64 ((endsDiv_e2 a b).hi)) cell3 0 rfl rfl rfl rfl (aM 64 (.int .i64 ((numDiv a.hi b.lo true).1)) rfl rfl ?_)))))))))))))))))
       refine ao 65 rfl rfl (st_mx (x := ((endsDiv_e2 a b).hi)) (y := ((numDiv a.hi b.lo true).1)) (c := (max ((endsDiv_e2 a b).hi) ((numDiv a.hi b.lo true).1))) rfl rfl rfl (aC 66 (c_ivOf (min ((endsDiv_e2 a b).lo) ((numDiv a.hi b.lo false).1)) (max ((endsDiv_e2 a b).hi) ((numDiv a.hi b.lo true).1))) Tryz.func72 ⟨rfl, by decide⟩ rfl rfl (aS [.int .i64 ((endsDiv_e3 a b).lo), .int .i64 ((endsDiv_e3 a b).hi), .bool ((endsDiv_e3 a b).no)] agg32 0 rfl rfl rfl rfl rfl rfl (aN (aL (aB 67 (.int .i64 1) rfl rfl rfl (bi_add (by decide)) (aM 30 (.int .i64 1) rfl rfl (aN (ar_round (aQ (aL (aB 31 (.bool true) rfl rfl rfl (bi_lss (by decide)) (aN (aQ ?_))))))))))))))
       refine ac_then rfl (ac_skip (aQ (ac_block (aQ (aL (ao 32 rfl rfl (st_ix (v := .int .i64 b.hi) rfl rfl rfl (ix127_1 _ _) (aA 12 (.int .i64 b.hi) rfl rfl (aN (aQ (aL (aM 34 (.func (.func 94) #[] #[]) rfl rfl (aM 35 (.int .i64 a.hi) rfl rfl (aM 36 (.int .i64 b.hi) rfl rfl (ao 37 rfl rfl (st_cv (c_numDiv a.hi b.hi false) Tryz.func94 rfl (by decide) rfl rfl rfl (aM 33 (.tuple #[.int .i64 ((numDiv a.hi b.hi false).1), .bool ((numDiv a.hi b.hi false).2)]) rfl rfl (aX 38 (.int .i64 ((numDiv a.hi b.hi false).1)) rfl rfl rfl (aX 39 (.bool ((numDiv a.hi b.hi false).2)) rfl rfl rfl (aA 13 (.int .i64 ((numDiv a.hi b.hi false).1)) rfl rfl ?_))))))))))))))))))))
       refine aA 14 (.bool ((numDiv a.hi b.hi false).2)) rfl rfl (aN (aQ (aL (aM 41 (.func (.func 94) #[] #[]) rfl rfl (aM 42 (.int .i64 a.hi) rfl rfl (aM 43 (.int .i64 b.hi) rfl rfl (ao 44 rfl rfl (st_cv (c_numDiv a.hi b.hi true) Tryz.func94 rfl (by decide) rfl rfl rfl (aM 40 (.tuple #[.int .i64 ((numDiv a.hi b.hi true).1), .bool ((numDiv a.hi b.hi true).2)]) rfl rfl (aX 45 (.int .i64 ((numDiv a.hi b.hi true).1)) rfl rfl rfl (aX 46 (.bool ((numDiv a.hi b.hi true).2)) rfl rfl rfl (aA 15 (.int .i64 ((numDiv a.hi b.hi true).1)) rfl rfl (aA 16 (.bool ((numDiv a.hi b.hi true).2)) rfl rfl (aN (aQ (aQ (aL ?_)))))))))))))))))
       refine aM 47 (.bool ((numDiv a.hi b.hi false).2)) rfl rfl (ao 48 rfl rfl (st_un (v := .bool (!((numDiv a.hi b.hi false).2))) rfl rfl (un_not rfl) (aM 49 (.bool (!((numDiv a.hi b.hi false).2))) rfl rfl ?_)))
       refine bool_split ((numDiv a.hi b.hi false).2) (fun h7 => ?_) (fun h7 => ?_)
       ·refine ar_gd (d := (some 50)) (by show ((!((numDiv a.hi b.hi false).2)) == false) = true; rw [h7]; rfl) rfl (st_move (v := .bool ((numDiv a.hi b.hi true).2)) rfl rfl (ar_gd (d := (some 51)) (by show ((!((numDiv a.hi b.hi false).2)) == false) = true; rw [h7]; rfl) rfl (st_un (v := .bool (!((numDiv a.hi b.hi true).2))) rfl rfl (un_not rfl) (ao 52 rfl rfl (st_pkf' (b := !((numDiv a.hi b.hi false).2)) (v := .bool (!((numDiv a.hi b.hi true).2))) (by rw [h7]; rfl) rfl rfl rfl (aN ?_))))))
        refine bool_split ((numDiv a.hi b.hi true).2) (fun h8 => ?_) (fun h8 => ?_)
        ·refine ac_else' (b := !((numDiv a.hi b.hi true).2)) (by rw [h8]; rfl) rfl (ac_skip (aQ (aQ (aL (aM 54 (.bool false) rfl rfl (aN (ac_else rfl (ac_skip (aL (aF 58 fa32_0 rfl rfl (aD 59 (.int .i64 ((endsDiv_e3 a b).lo)) cell3 0 rfl rfl rfl rfl (aM 60 (.int .i64 ((numDiv a.hi b.hi false).1)) rfl rfl (ao 61 rfl rfl (st_mn (x := ((endsDiv_e3 a b).lo)) (y := ((numDiv a.hi b.hi false).1)) (c := (min ((endsDiv_e3 a b).lo) ((numDiv a.hi b.hi false).1))) rfl rfl rfl (aF 62 fa32_1 rfl rfl (aD 63 (.int .i64 ((endsDiv_e3 a b).hi)) cell3 0 rfl rfl rfl rfl (aM 64 (.int .i64 ((numDiv a.hi b.hi true).1)) rfl rfl ?_)))))))))))))))))
         refine ao 65 rfl rfl (st_mx (x := ((endsDiv_e3 a b).hi)) (y := ((numDiv a.hi b.hi true).1)) (c := (max ((endsDiv_e3 a b).hi) ((numDiv a.hi b.hi true).1))) rfl rfl rfl (aC 66 (c_ivOf (min ((endsDiv_e3 a b).lo) ((numDiv a.hi b.hi false).1)) (max ((endsDiv_e3 a b).hi) ((numDiv a.hi b.hi true).1))) Tryz.func72 ⟨rfl, by decide⟩ rfl rfl (aS [.int .i64 ((endsDiv_e4 a b).lo), .int .i64 ((endsDiv_e4 a b).hi), .bool ((endsDiv_e4 a b).no)] agg32 0 rfl rfl rfl rfl rfl rfl (aN (aL (aB 67 (.int .i64 2) rfl rfl rfl (bi_add (by decide)) (aM 30 (.int .i64 2) rfl rfl (aN (ar_round (aQ (aL (aB 31 (.bool false) rfl rfl rfl (bi_lss (by decide)) (aN (aQ ?_))))))))))))))
         refine ac_else rfl (ac_exit (aL (aB 68 (.int .i64 2) rfl rfl rfl (bi_add (by decide)) (aM 22 (.int .i64 2) rfl rfl (aN (ar_round (aQ (aL (aB 23 (.bool false) rfl rfl rfl (bi_lss (by decide)) (aN (aQ (ac_else rfl (ac_exit (aQ (aL (aG 69 [.int .i64 ((endsDiv_e4 a b).lo), .int .i64 ((endsDiv_e4 a b).hi), .bool ((endsDiv_e4 a b).no)] agg32 0 rfl rfl rfl rfl rfl (aS [.int .i64 ((endsDiv_e4 a b).lo), .int .i64 ((endsDiv_e4 a b).hi), .bool ((endsDiv_e4 a b).no)] agg32 1 rfl rfl rfl rfl rfl rfl (aN (ac_ret ?_)))))))))))))))))))
         exact fin_eq (v := (Iv.v (endsDiv_e4 a b))) (by show _ = Iv.v (endsDiv a b); rw [endsDiv, h8, h7, h6, h5, h4, h3, h2, h1] <;> rfl) (fin_ret (res_c (vs := [.int .i64 ((endsDiv_e4 a b).lo), .int .i64 ((endsDiv_e4 a b).hi), .bool ((endsDiv_e4 a b).no)]) agg32 1 rfl rfl rfl rfl rfl rfl))
        ·refine ac_then' (b := !((numDiv a.hi b.hi true).2)) (by rw [h8]; rfl) rfl (aQ (aL (aC 53 c_ivNone Tryz.func25 ⟨rfl, by decide⟩ rfl rfl (aS [.int .i64 ivNone.lo, .int .i64 ivNone.hi, .bool ivNone.no] agg32 1 rfl rfl rfl rfl rfl rfl (aN (ac_ret (fin_eq (v := (Iv.v ivNone)) (by show _ = Iv.v (endsDiv a b); rw [endsDiv, h8, h7, h6, h5, h4, h3, h2, h1] <;> rfl) (fin_ret (res_c (vs := [.int .i64 ivNone.lo, .int .i64 ivNone.hi, .bool ivNone.no]) agg32 1 rfl rfl rfl rfl rfl rfl)))))))))
       ·refine aK 50 (by show ((!((numDiv a.hi b.hi false).2)) == false) = false; rw [h7]; rfl) rfl (aK 51 (by show ((!((numDiv a.hi b.hi false).2)) == false) = false; rw [h7]; rfl) rfl (ao 52 rfl rfl (st_pkt' (b := !((numDiv a.hi b.hi false).2)) (v := .bool true) (by rw [h7]; rfl) rfl rfl rfl (aN (ac_then rfl (aQ (aL (aC 53 c_ivNone Tryz.func25 ⟨rfl, by decide⟩ rfl rfl (aS [.int .i64 ivNone.lo, .int .i64 ivNone.hi, .bool ivNone.no] agg32 1 rfl rfl rfl rfl rfl rfl (aN (ac_ret ?_)))))))))))
        exact fin_eq (v := (Iv.v ivNone)) (by show _ = Iv.v (endsDiv a b); rw [endsDiv, h7, h6, h5, h4, h3, h2, h1] <;> rfl) (fin_ret (res_c (vs := [.int .i64 ivNone.lo, .int .i64 ivNone.hi, .bool ivNone.no]) agg32 1 rfl rfl rfl rfl rfl rfl))
      ·refine ac_then' (b := !((numDiv a.hi b.lo true).2)) (by rw [h6]; rfl) rfl (aQ (aL (aC 53 c_ivNone Tryz.func25 ⟨rfl, by decide⟩ rfl rfl (aS [.int .i64 ivNone.lo, .int .i64 ivNone.hi, .bool ivNone.no] agg32 1 rfl rfl rfl rfl rfl rfl (aN (ac_ret (fin_eq (v := (Iv.v ivNone)) (by show _ = Iv.v (endsDiv a b); rw [endsDiv, h6, h5, h4, h3, h2, h1] <;> rfl) (fin_ret (res_c (vs := [.int .i64 ivNone.lo, .int .i64 ivNone.hi, .bool ivNone.no]) agg32 1 rfl rfl rfl rfl rfl rfl)))))))))
     ·refine aK 50 (by show ((!((numDiv a.hi b.lo false).2)) == false) = false; rw [h5]; rfl) rfl (aK 51 (by show ((!((numDiv a.hi b.lo false).2)) == false) = false; rw [h5]; rfl) rfl (ao 52 rfl rfl (st_pkt' (b := !((numDiv a.hi b.lo false).2)) (v := .bool true) (by rw [h5]; rfl) rfl rfl rfl (aN (ac_then rfl (aQ (aL (aC 53 c_ivNone Tryz.func25 ⟨rfl, by decide⟩ rfl rfl (aS [.int .i64 ivNone.lo, .int .i64 ivNone.hi, .bool ivNone.no] agg32 1 rfl rfl rfl rfl rfl rfl (aN (ac_ret ?_)))))))))))
      exact fin_eq (v := (Iv.v ivNone)) (by show _ = Iv.v (endsDiv a b); rw [endsDiv, h5, h4, h3, h2, h1] <;> rfl) (fin_ret (res_c (vs := [.int .i64 ivNone.lo, .int .i64 ivNone.hi, .bool ivNone.no]) agg32 1 rfl rfl rfl rfl rfl rfl))
    ·refine ac_then' (b := !((numDiv a.lo b.hi true).2)) (by rw [h4]; rfl) rfl (aQ (aL (aC 53 c_ivNone Tryz.func25 ⟨rfl, by decide⟩ rfl rfl (aS [.int .i64 ivNone.lo, .int .i64 ivNone.hi, .bool ivNone.no] agg32 1 rfl rfl rfl rfl rfl rfl (aN (ac_ret (fin_eq (v := (Iv.v ivNone)) (by show _ = Iv.v (endsDiv a b); rw [endsDiv, h4, h3, h2, h1] <;> rfl) (fin_ret (res_c (vs := [.int .i64 ivNone.lo, .int .i64 ivNone.hi, .bool ivNone.no]) agg32 1 rfl rfl rfl rfl rfl rfl)))))))))
   ·refine aK 50 (by show ((!((numDiv a.lo b.hi false).2)) == false) = false; rw [h3]; rfl) rfl (aK 51 (by show ((!((numDiv a.lo b.hi false).2)) == false) = false; rw [h3]; rfl) rfl (ao 52 rfl rfl (st_pkt' (b := !((numDiv a.lo b.hi false).2)) (v := .bool true) (by rw [h3]; rfl) rfl rfl rfl (aN (ac_then rfl (aQ (aL (aC 53 c_ivNone Tryz.func25 ⟨rfl, by decide⟩ rfl rfl (aS [.int .i64 ivNone.lo, .int .i64 ivNone.hi, .bool ivNone.no] agg32 1 rfl rfl rfl rfl rfl rfl (aN (ac_ret ?_)))))))))))
    exact fin_eq (v := (Iv.v ivNone)) (by show _ = Iv.v (endsDiv a b); rw [endsDiv, h3, h2, h1] <;> rfl) (fin_ret (res_c (vs := [.int .i64 ivNone.lo, .int .i64 ivNone.hi, .bool ivNone.no]) agg32 1 rfl rfl rfl rfl rfl rfl))
  ·refine ac_then' (b := !((numDiv a.lo b.lo true).2)) (by rw [h2]; rfl) rfl (aQ (aL (aC 53 c_ivNone Tryz.func25 ⟨rfl, by decide⟩ rfl rfl (aS [.int .i64 ivNone.lo, .int .i64 ivNone.hi, .bool ivNone.no] agg32 1 rfl rfl rfl rfl rfl rfl (aN (ac_ret (fin_eq (v := (Iv.v ivNone)) (by show _ = Iv.v (endsDiv a b); rw [endsDiv, h2, h1] <;> rfl) (fin_ret (res_c (vs := [.int .i64 ivNone.lo, .int .i64 ivNone.hi, .bool ivNone.no]) agg32 1 rfl rfl rfl rfl rfl rfl)))))))))
 ·refine aK 50 (by show ((!((numDiv a.lo b.lo false).2)) == false) = false; rw [h1]; rfl) rfl (aK 51 (by show ((!((numDiv a.lo b.lo false).2)) == false) = false; rw [h1]; rfl) rfl (ao 52 rfl rfl (st_pkt' (b := !((numDiv a.lo b.lo false).2)) (v := .bool true) (by rw [h1]; rfl) rfl rfl rfl (aN (ac_then rfl (aQ (aL (aC 53 c_ivNone Tryz.func25 ⟨rfl, by decide⟩ rfl rfl (aS [.int .i64 ivNone.lo, .int .i64 ivNone.hi, .bool ivNone.no] agg32 1 rfl rfl rfl rfl rfl rfl (aN (ac_ret ?_)))))))))))
  exact fin_eq (v := (Iv.v ivNone)) (by show _ = Iv.v (endsDiv a b); rw [endsDiv, h1] <;> rfl) (fin_ret (res_c (vs := [.int .i64 ivNone.lo, .int .i64 ivNone.hi, .bool ivNone.no]) agg32 1 rfl rfl rfl rfl rfl rfl))
def ivDiv (a : Iv) (b : Iv) : Iv := (bif ivBoth a b then (bif ivHas b 0 then ivNone else (endsDiv a b)) else ivNone)
set_option maxRecDepth 100000 in
theorem c_ivDiv (a : Iv) (b : Iv) : Gets Tryz.prog 51 #[(Iv.v a), (Iv.v b)] (Iv.v (ivDiv a b)) := by
 refine gets_fin Tryz.func51 rfl rfl rfl (aQ (aL (ao 2 rfl rfl (st_box (v := (Iv.v a)) (cs := [.int .i64 a.lo, .int .i64 a.hi, .bool a.no]) rfl rfl rfl fun g0 => (ao 3 rfl rfl (st_box (v := (Iv.v b)) (cs := [.int .i64 b.lo, .int .i64 b.hi, .bool b.no]) rfl rfl rfl fun g1 => (ao 4 rfl rfl (st_new zero32 rfl fun g2 => (aN (aQ (aQ (aL (aG 5 [.int .i64 a.lo, .int .i64 a.hi, .bool a.no] agg32 2 rfl rfl rfl rfl rfl (aG 6 [.int .i64 b.lo, .int .i64 b.hi, .bool b.no] agg32 1 rfl rfl rfl rfl rfl (aC 7 (c_ivBoth a b) Tryz.func90 ⟨rfl, by decide⟩ rfl rfl (ao 8 rfl rfl (st_un (v := .bool (!(ivBoth a b))) rfl rfl (un_not rfl) (aM 9 (.bool (!(ivBoth a b))) rfl rfl ?_))))))))))))))))))
 refine bool_split (ivBoth a b) (fun h1 => ?_) (fun h1 => ?_)
 ·refine ar_gd (d := (some 10)) (by show ((!(ivBoth a b)) == false) = true; rw [h1]; rfl) rfl (st_lda (vs := [.int .i64 b.lo, .int .i64 b.hi, .bool b.no]) agg32 1 rfl rfl rfl rfl rfl rfl (ar_gd (d := (some 11)) (by show ((!(ivBoth a b)) == false) = true; rw [h1]; rfl) rfl (st_cf (c_ivHas b 0) Tryz.func92 rfl (by decide) rfl rfl rfl (ao 12 rfl rfl (st_pkf' (b := !(ivBoth a b)) (v := .bool (ivHas b 0)) (by rw [h1]; rfl) rfl rfl rfl (aN ?_))))))
  refine bool_split (ivHas b 0) (fun h2 => ?_) (fun h2 => ?_)
  ·refine ac_then' (b := ivHas b 0) h2 rfl (aQ (aL (aC 13 c_ivNone Tryz.func25 ⟨rfl, by decide⟩ rfl rfl (aS [.int .i64 ivNone.lo, .int .i64 ivNone.hi, .bool ivNone.no] agg32 0 rfl rfl rfl rfl rfl rfl (aN (ac_ret (fin_eq (v := (Iv.v ivNone)) (by show _ = Iv.v (ivDiv a b); rw [ivDiv, h2, h1] <;> rfl) (fin_ret (res_c (vs := [.int .i64 ivNone.lo, .int .i64 ivNone.hi, .bool ivNone.no]) agg32 0 rfl rfl rfl rfl rfl rfl)))))))))
  ·refine ac_else' (b := ivHas b 0) h2 rfl (ac_skip (aQ (aL (aG 14 [.int .i64 a.lo, .int .i64 a.hi, .bool a.no] agg32 2 rfl rfl rfl rfl rfl (aG 15 [.int .i64 b.lo, .int .i64 b.hi, .bool b.no] agg32 1 rfl rfl rfl rfl rfl (aC 16 (c_endsDiv a b) Tryz.func93 ⟨rfl, by decide⟩ rfl rfl (aS [.int .i64 ((endsDiv a b).lo), .int .i64 ((endsDiv a b).hi), .bool ((endsDiv a b).no)] agg32 0 rfl rfl rfl rfl rfl rfl (aN (ac_ret (fin_eq (v := (Iv.v (endsDiv a b))) (by show _ = Iv.v (ivDiv a b); rw [ivDiv, h2, h1] <;> rfl) (fin_ret (res_c (vs := [.int .i64 ((endsDiv a b).lo), .int .i64 ((endsDiv a b).hi), .bool ((endsDiv a b).no)]) agg32 0 rfl rfl rfl rfl rfl rfl))))))))))))
 ·refine aK 10 (by show ((!(ivBoth a b)) == false) = false; rw [h1]; rfl) rfl (aK 11 (by show ((!(ivBoth a b)) == false) = false; rw [h1]; rfl) rfl (ao 12 rfl rfl (st_pkt' (b := !(ivBoth a b)) (v := .bool true) (by rw [h1]; rfl) rfl rfl rfl (aN (ac_then rfl (aQ (aL (aC 13 c_ivNone Tryz.func25 ⟨rfl, by decide⟩ rfl rfl (aS [.int .i64 ivNone.lo, .int .i64 ivNone.hi, .bool ivNone.no] agg32 0 rfl rfl rfl rfl rfl rfl (aN (ac_ret (fin_eq (v := (Iv.v ivNone)) (by show _ = Iv.v (ivDiv a b); rw [ivDiv, h1] <;> rfl) (fin_ret (res_c (vs := [.int .i64 ivNone.lo, .int .i64 ivNone.hi, .bool ivNone.no]) agg32 0 rfl rfl rfl rfl rfl rfl))))))))))))))
def ivRoot (a : Iv) : Iv := (bif ivRight a then (bif decide (a.lo < 0) then ivNone else (ivOf ((numRoot a.lo false).1) ((numRoot a.hi true).1))) else ivNone)
set_option maxRecDepth 100000 in
theorem c_ivRoot (a : Iv) : Gets Tryz.prog 54 #[(Iv.v a)] (Iv.v (ivRoot a)) := by
 refine gets_fin Tryz.func54 rfl rfl rfl (aQ (aL (ao 1 rfl rfl (st_box (v := (Iv.v a)) (cs := [.int .i64 a.lo, .int .i64 a.hi, .bool a.no]) rfl rfl rfl fun g0 => (ao 2 rfl rfl (st_new zero32 rfl fun g1 => (aN (aQ (aQ (aL (aG 7 [.int .i64 a.lo, .int .i64 a.hi, .bool a.no] agg32 1 rfl rfl rfl rfl rfl (aC 8 (c_ivRight a) Tryz.func24 ⟨rfl, by decide⟩ rfl rfl (ao 9 rfl rfl (st_un (v := .bool (!(ivRight a))) rfl rfl (un_not rfl) (aM 10 (.bool (!(ivRight a))) rfl rfl ?_)))))))))))))))
 refine bool_split (ivRight a) (fun h1 => ?_) (fun h1 => ?_)
 ·refine ar_gd (d := (some 11)) (by show ((!(ivRight a)) == false) = true; rw [h1]; rfl) rfl (st_fa rfl fa32_0 rfl (ar_gd (d := (some 12)) (by show ((!(ivRight a)) == false) = true; rw [h1]; rfl) rfl (st_ldc (v := .int .i64 a.lo) cell3 1 rfl rfl rfl rfl rfl (ar_gd (d := (some 13)) (by show ((!(ivRight a)) == false) = true; rw [h1]; rfl) rfl (st_bi (r := .bool (decide (a.lo < 0))) rfl rfl rfl (bi_lss rfl) (ao 14 rfl rfl (st_pkf' (b := !(ivRight a)) (v := .bool (decide (a.lo < 0))) (by rw [h1]; rfl) rfl rfl rfl (aN ?_))))))))
  refine bool_split (decide (a.lo < 0)) (fun h2 => ?_) (fun h2 => ?_)
  ·refine ac_then' (b := decide (a.lo < 0)) h2 rfl (aQ (aL (aC 15 c_ivNone Tryz.func25 ⟨rfl, by decide⟩ rfl rfl (aS [.int .i64 ivNone.lo, .int .i64 ivNone.hi, .bool ivNone.no] agg32 0 rfl rfl rfl rfl rfl rfl (aN (ac_ret (fin_eq (v := (Iv.v ivNone)) (by show _ = Iv.v (ivRoot a); rw [ivRoot, h2, h1] <;> rfl) (fin_ret (res_c (vs := [.int .i64 ivNone.lo, .int .i64 ivNone.hi, .bool ivNone.no]) agg32 0 rfl rfl rfl rfl rfl rfl)))))))))
  ·refine ac_else' (b := decide (a.lo < 0)) h2 rfl (ac_skip (aQ (aL (aF 17 fa32_0 rfl rfl (aD 18 (.int .i64 a.lo) cell3 1 rfl rfl rfl rfl (aC 19 (c_numRoot a.lo false) Tryz.func96 ⟨rfl, by decide⟩ rfl rfl (aM 16 (.tuple #[.int .i64 ((numRoot a.lo false).1), .bool ((numRoot a.lo false).2)]) rfl rfl (aX 20 (.int .i64 ((numRoot a.lo false).1)) rfl rfl rfl (aX 21 (.bool ((numRoot a.lo false).2)) rfl rfl rfl (aA 3 (.int .i64 ((numRoot a.lo false).1)) rfl rfl (aA 4 (.bool ((numRoot a.lo false).2)) rfl rfl (aN (aQ (aL (aF 23 fa32_1 rfl rfl (aD 24 (.int .i64 a.hi) cell3 1 rfl rfl rfl rfl (aC 25 (c_numRoot a.hi true) Tryz.func96 ⟨rfl, by decide⟩ rfl rfl ?_)))))))))))))))))
   refine aM 22 (.tuple #[.int .i64 ((numRoot a.hi true).1), .bool ((numRoot a.hi true).2)]) rfl rfl (aX 26 (.int .i64 ((numRoot a.hi true).1)) rfl rfl rfl (aX 27 (.bool ((numRoot a.hi true).2)) rfl rfl rfl (aA 5 (.int .i64 ((numRoot a.hi true).1)) rfl rfl (aA 6 (.bool ((numRoot a.hi true).2)) rfl rfl (aN (aQ (aL (aM 28 (.int .i64 ((numRoot a.lo false).1)) rfl rfl (aM 29 (.int .i64 ((numRoot a.hi true).1)) rfl rfl (aC 30 (c_ivOf ((numRoot a.lo false).1) ((numRoot a.hi true).1)) Tryz.func72 ⟨rfl, by decide⟩ rfl rfl ?_))))))))))
   refine aS [.int .i64 ((ivOf ((numRoot a.lo false).1) ((numRoot a.hi true).1)).lo), .int .i64 ((ivOf ((numRoot a.lo false).1) ((numRoot a.hi true).1)).hi), .bool ((ivOf ((numRoot a.lo false).1) ((numRoot a.hi true).1)).no)] agg32 0 rfl rfl rfl rfl rfl rfl (aN (ac_ret (fin_eq (v := (Iv.v (ivOf ((numRoot a.lo false).1) ((numRoot a.hi true).1)))) (by show _ = Iv.v (ivRoot a); rw [ivRoot, h2, h1] <;> rfl) (fin_ret (res_c (vs := [.int .i64 ((ivOf ((numRoot a.lo false).1) ((numRoot a.hi true).1)).lo), .int .i64 ((ivOf ((numRoot a.lo false).1) ((numRoot a.hi true).1)).hi), .bool ((ivOf ((numRoot a.lo false).1) ((numRoot a.hi true).1)).no)]) agg32 0 rfl rfl rfl rfl rfl rfl)))))
 ·refine aK 11 (by show ((!(ivRight a)) == false) = false; rw [h1]; rfl) rfl (aK 12 (by show ((!(ivRight a)) == false) = false; rw [h1]; rfl) rfl (aK 13 (by show ((!(ivRight a)) == false) = false; rw [h1]; rfl) rfl (ao 14 rfl rfl (st_pkt' (b := !(ivRight a)) (v := .bool true) (by rw [h1]; rfl) rfl rfl rfl (aN (ac_then rfl (aQ (aL (aC 15 c_ivNone Tryz.func25 ⟨rfl, by decide⟩ rfl rfl (aS [.int .i64 ivNone.lo, .int .i64 ivNone.hi, .bool ivNone.no] agg32 0 rfl rfl rfl rfl rfl rfl (aN (ac_ret ?_))))))))))))
  exact fin_eq (v := (Iv.v ivNone)) (by show _ = Iv.v (ivRoot a); rw [ivRoot, h1] <;> rfl) (fin_ret (res_c (vs := [.int .i64 ivNone.lo, .int .i64 ivNone.hi, .bool ivNone.no]) agg32 0 rfl rfl rfl rfl rfl rfl))
end Go.Proofs.YtalffjplbhelcaaGreatDoor
namespace Go.Proofs.YtalffjplbhelcaaGreatDoor
open Go.RowKit
attribute [local irreducible] AC AR DWalk
def decOf_e0 (d : Dec) : Int := (numFloor (w64 (0 - (w64 (d.c * 65536)))) (decPower d.scale))
def decOf_e1 (d : Dec) : Iv := (ivOf (numFloor (w64 (d.c * 65536)) (decPower d.scale)) (w64 (0 - (decOf_e0 d))))
def decOf (d : Dec) : Iv := (bif decRight d then (decOf_e1 d) else ivNone)
set_option maxRecDepth 100000 in
theorem c_decOf (d : Dec) : Gets Tryz.prog 35 #[.agg #[.int .i64 d.c, .int .i64 d.scale]] (Iv.v (decOf d)) := by
 refine gets_fin Tryz.func35 rfl rfl rfl (aQ (aL (ao 1 rfl rfl (st_box (v := .agg #[.int .i64 d.c, .int .i64 d.scale]) (cs := [.int .i64 d.c, .int .i64 d.scale]) rfl rfl rfl fun g0 => (ao 2 rfl rfl (st_new zero32 rfl fun g1 => (aN (aQ (aQ (aL (aG 5 [.int .i64 d.c, .int .i64 d.scale] agg26 1 rfl rfl rfl rfl rfl (aC 6 (c_decRight d) Tryz.func31 ⟨rfl, by decide⟩ rfl rfl (ao 7 rfl rfl (st_un (v := .bool (!(decRight d))) rfl rfl (un_not rfl) (aN ?_)))))))))))))))
 refine bool_split (decRight d) (fun h1 => ?_) (fun h1 => ?_)
 ·refine ac_else' (b := !(decRight d)) (by rw [h1]; rfl) rfl (ac_skip (aQ ?_))
  refine ac_draw0 (id := 3) [0, 1, 2, 3, 4, 5, 6, 7] [] _ (by kernel_rfl) follows rfl  (dw_op (d := some 9) _ rfl rfl rfl (st_fa rfl fa26_0 rfl ⟨rfl, rfl⟩) (dw_op (d := some 10) _ rfl rfl rfl (st_ldc (v := .int .i64 d.c) cell3 1 rfl rfl rfl rfl rfl ⟨rfl, rfl⟩) (dw_op (d := some 11) _ rfl rfl rfl (st_bi (r := .int .i64 (w64 (d.c * 65536))) rfl rfl rfl (bi_mul rfl) ⟨rfl, rfl⟩) (dw_op (d := some 12) _ rfl rfl rfl (st_fa rfl fa26_1 rfl ⟨rfl, rfl⟩) (dw_op (d := some 13) _ rfl rfl rfl (st_ldc (v := .int .i64 d.scale) cell3 1 rfl rfl rfl rfl rfl ⟨rfl, rfl⟩) ?_)))))
  refine dw_op (d := some 14) _ rfl rfl rfl (st_cf (c_decPower d.scale (pow_ok d h1)) Tryz.func76 rfl (by decide) rfl rfl rfl ⟨rfl, rfl⟩) (dw_op (d := some 3) _ rfl rfl rfl (st_assign (v := .int .i64 (w64 (d.c * 65536))) rfl rfl ⟨rfl, rfl⟩) (dw_op (d := some 4) _ rfl rfl rfl (st_assign (v := .int .i64 (decPower d.scale)) rfl rfl ⟨rfl, rfl⟩) (dw_nil (aN (aQ (aL (aM 15 (.int .i64 (w64 (d.c * 65536))) rfl rfl (aM 16 (.int .i64 (decPower d.scale)) rfl rfl (aC 17 (c_numFloor (w64 (d.c * 65536)) (decPower d.scale)) Tryz.func77 ⟨rfl, by decide⟩ rfl rfl (aM 18 (.int .i64 (w64 (d.c * 65536))) rfl rfl ?_))))))))))
  refine ao 19 rfl rfl (st_un (v := .int .i64 (w64 (0 - (w64 (d.c * 65536))))) rfl rfl (un_neg rfl) (aM 20 (.int .i64 (decPower d.scale)) rfl rfl (aC 21 (c_numFloor (w64 (0 - (w64 (d.c * 65536)))) (decPower d.scale)) Tryz.func77 ⟨rfl, by decide⟩ rfl rfl (ao 22 rfl rfl (st_un (v := .int .i64 (w64 (0 - (decOf_e0 d)))) rfl rfl (un_neg rfl) (aC 23 (c_ivOf (numFloor (w64 (d.c * 65536)) (decPower d.scale)) (w64 (0 - (decOf_e0 d)))) Tryz.func72 ⟨rfl, by decide⟩ rfl rfl (aS [.int .i64 ((decOf_e1 d).lo), .int .i64 ((decOf_e1 d).hi), .bool ((decOf_e1 d).no)] agg32 0 rfl rfl rfl rfl rfl rfl (aN (ac_ret ?_)))))))))
  exact fin_eq (v := .agg #[.int .i64 ((decOf_e1 d).lo), .int .i64 ((decOf_e1 d).hi), .bool ((decOf_e1 d).no)]) (by show _ = Iv.v (decOf d); rw [decOf, h1] <;> rfl) (fin_ret (res_c (vs := [.int .i64 ((decOf_e1 d).lo), .int .i64 ((decOf_e1 d).hi), .bool ((decOf_e1 d).no)]) agg32 0 rfl rfl rfl rfl rfl rfl))
 ·refine ac_then' (b := !(decRight d)) (by rw [h1]; rfl) rfl (aQ (aL (aC 8 c_ivNone Tryz.func25 ⟨rfl, by decide⟩ rfl rfl (aS [.int .i64 ivNone.lo, .int .i64 ivNone.hi, .bool ivNone.no] agg32 0 rfl rfl rfl rfl rfl rfl (aN (ac_ret (fin_eq (v := .agg #[.int .i64 ivNone.lo, .int .i64 ivNone.hi, .bool ivNone.no]) (by show _ = Iv.v (decOf d); rw [decOf, h1] <;> rfl) (fin_ret (res_c (vs := [.int .i64 ivNone.lo, .int .i64 ivNone.hi, .bool ivNone.no]) agg32 0 rfl rfl rfl rfl rfl rfl)))))))))
end Go.Proofs.YtalffjplbhelcaaGreatDoor
namespace Go.Proofs.YtalffjplbhelcaaGreatDoor
open Go.RowKit
attribute [local irreducible] AC AR DWalk
structure D3 where
 d0 : Dec
 d1 : Dec
 d2 : Dec
deriving DecidableEq
structure Glass where
 name : ByteArray
 b : D3
 c : D3
deriving DecidableEq
def Glass.cells (s : Glass) : List Value := [.string s.name, .int .i64 s.b.d0.c, .int .i64 s.b.d0.scale, .int .i64 s.b.d1.c, .int .i64 s.b.d1.scale, .int .i64 s.b.d2.c, .int .i64 s.b.d2.scale, .int .i64 s.c.d0.c, .int .i64 s.c.d0.scale, .int .i64 s.c.d1.c, .int .i64 s.c.d1.scale, .int .i64 s.c.d2.c, .int .i64 s.c.d2.scale]
def Glass.zero : Glass := ⟨⟨#[]⟩, ⟨⟨0, 0⟩, ⟨0, 0⟩, ⟨0, 0⟩⟩, ⟨⟨0, 0⟩, ⟨0, 0⟩, ⟨0, 0⟩⟩⟩
def GlI (a : Option Addr) (m : Nat) (x : Nat → Glass) (H : List Box) : Prop :=
 ∀ i, i < m → ∃ (g off : Nat) (cs : List Value) (t : TypeId) (r : Bool), a = some ⟨g, off, none⟩ ∧ (⟨g, cs, t, r⟩ : Box) ∈ H ∧ (cs.drop (off + i * 13)).take 13 = (x i).cells
def gFind (x : Nat → Glass) (nm : ByteArray) : Nat → Nat → Glass × Bool
 | 0, _ => (Glass.zero, false)
 | j + 1, i => bif sEq (x i).name nm then (x i, true) else gFind x nm j (i + 1)
end Go.Proofs.YtalffjplbhelcaaGreatDoor
namespace Go.Proofs.YtalffjplbhelcaaGreatDoor
open Go.RowKit
attribute [local irreducible] AC AR DWalk
def gIndex_b0 (x : Glass) (wave : Iv) (g : Nat) : Box := ⟨g, (Glass.cells x), 29, false⟩
def gIndex_b1 (x : Glass) (wave : Iv) (g : Nat) : Box := ⟨g, [.int .i64 ((ivSqr wave).lo), .int .i64 ((ivSqr wave).hi), .bool ((ivSqr wave).no)], 32, false⟩
def gIndex_b2 (x : Glass) (wave : Iv) (g : Nat) : Box := ⟨g, [.int .i64 ((ivPoint 65536).lo), .int .i64 ((ivPoint 65536).hi), .bool ((ivPoint 65536).no)], 32, false⟩
def gIndex_e0 (x : Glass) (wave : Iv) : Iv := (ivDiv (ivMul (decOf x.b.d0) (ivSqr wave)) (ivSub (ivSqr wave) (decOf x.c.d0)))
def gIndex_e1 (x : Glass) (wave : Iv) : Iv := (ivDiv (ivMul (decOf x.b.d1) (ivSqr wave)) (ivSub (ivSqr wave) (decOf x.c.d1)))
def gIndex_e2 (x : Glass) (wave : Iv) : Iv := (ivAdd (ivAdd (ivPoint 65536) (gIndex_e0 x wave)) (gIndex_e1 x wave))
def gIndex_e3 (x : Glass) (wave : Iv) : Iv := (ivDiv (ivMul (decOf x.b.d2) (ivSqr wave)) (ivSub (ivSqr wave) (decOf x.c.d2)))
def gIndex (x : Glass) (wave : Iv) : Iv := (bif sEq x.name (⟨#[97, 105, 114]⟩ : ByteArray) then (ivPoint 65536) else (ivRoot (ivAdd (gIndex_e2 x wave) (gIndex_e3 x wave))))
set_option maxRecDepth 100000 in
set_option maxHeartbeats 4000000 in
theorem c_gIndex (x : Glass) (wave : Iv) : Gets Tryz.prog 14 #[.agg (Glass.cells x).toArray, (Iv.v wave)] (Iv.v (gIndex x wave)) := by
 refine gets_fin Tryz.func14 rfl rfl rfl (aQ (aL (ao 2 rfl rfl (st_box (v := .agg (Glass.cells x).toArray) (cs := (Glass.cells x)) rfl rfl rfl fun g0 => (ao 3 rfl rfl (st_box (v := (Iv.v wave)) (cs := [.int .i64 wave.lo, .int .i64 wave.hi, .bool wave.no]) rfl rfl rfl fun g1 => (ao 4 rfl rfl (st_new zero32 rfl fun g2 => (aN (aQ ?_))))))))))
 refine ac_any follows 7 rfl (fun Φ stepR doneR permR => ?_)
 refine ((fun s1_21 => ?_) : (∀ (E : Env) (b1_4 : Nat) (b1_3 : Nat), E 2 = .pointer (some ⟨g0, 0, none⟩) → E 4 = .pointer (some ⟨g2, 0, none⟩) → E 5 = .pointer (some ⟨b1_3, 0, none⟩) → E 6 = .pointer (some ⟨b1_4, 0, none⟩) → Φ 0 [true, true, true, true, true, true, true] E [(gIndex_b1 x wave b1_4), (gIndex_b2 x wave b1_3), ⟨g2, [.int .i64 0, .int .i64 0, .bool false], 32, false⟩, ⟨g1, [.int .i64 wave.lo, .int .i64 wave.hi, .bool wave.no], 32, false⟩, (gIndex_b0 x wave g0)]) → _) ?_
 ·have s1_20 : ∀ (E : Env) (b1_4 : Nat) (b1_3 : Nat), E 2 = .pointer (some ⟨g0, 0, none⟩) → E 4 = .pointer (some ⟨g2, 0, none⟩) → E 5 = .pointer (some ⟨b1_3, 0, none⟩) → E 6 = .pointer (some ⟨b1_4, 0, none⟩) → E 10 = (Iv.v (ivSqr wave)) → Φ 1 [true, true, true, true, true, true, false] E [⟨b1_4, [.int .i64 0, .int .i64 0, .bool false], 32, false⟩, (gIndex_b2 x wave b1_3), ⟨g2, [.int .i64 0, .int .i64 0, .bool false], 32, false⟩, ⟨g1, [.int .i64 wave.lo, .int .i64 wave.hi, .bool wave.no], 32, false⟩, (gIndex_b0 x wave g0)] := by
   intro E b1_4 b1_3 q2 q4 q5 q6 q10
   obtain ⟨E0, rfl⟩ : ∃ E0 : Env, E = (((((E0.put (some 2) (.pointer (some ⟨g0, 0, none⟩))).put (some 4) (.pointer (some ⟨g2, 0, none⟩))).put (some 5) (.pointer (some ⟨b1_3, 0, none⟩))).put (some 6) (.pointer (some ⟨b1_4, 0, none⟩))).put (some 10) ((Iv.v (ivSqr wave)))) := ⟨E, by rw [put_self q2, put_self q4, put_self q5, put_self q6, put_self q10]⟩
   refine stepR 0 _ _ _ [6] (by kernel_rfl) rfl ⟨?_, trivial⟩
   ·refine opR_op (d := none) rfl rfl rfl (st_sta (cs := [.int .i64 ((ivSqr wave).lo), .int .i64 ((ivSqr wave).hi), .bool ((ivSqr wave).no)]) agg32 0 rfl rfl rfl rfl rfl rfl rfl rfl rfl ?_)
    exact s1_21 _ _ _ rfl rfl rfl rfl
  have s1_19 : ∀ (E : Env) (b1_4 : Nat) (b1_3 : Nat), E 2 = .pointer (some ⟨g0, 0, none⟩) → E 4 = .pointer (some ⟨g2, 0, none⟩) → E 5 = .pointer (some ⟨b1_3, 0, none⟩) → E 6 = .pointer (some ⟨b1_4, 0, none⟩) → E 8 = (Iv.v (ivPoint 65536)) → E 10 = (Iv.v (ivSqr wave)) → Φ 2 [true, true, true, true, true, false, false] E [⟨b1_4, [.int .i64 0, .int .i64 0, .bool false], 32, false⟩, ⟨b1_3, [.int .i64 0, .int .i64 0, .bool false], 32, false⟩, ⟨g2, [.int .i64 0, .int .i64 0, .bool false], 32, false⟩, ⟨g1, [.int .i64 wave.lo, .int .i64 wave.hi, .bool wave.no], 32, false⟩, (gIndex_b0 x wave g0)] := by
   intro E b1_4 b1_3 q2 q4 q5 q6 q8 q10
   obtain ⟨E0, rfl⟩ : ∃ E0 : Env, E = ((((((E0.put (some 2) (.pointer (some ⟨g0, 0, none⟩))).put (some 4) (.pointer (some ⟨g2, 0, none⟩))).put (some 5) (.pointer (some ⟨b1_3, 0, none⟩))).put (some 6) (.pointer (some ⟨b1_4, 0, none⟩))).put (some 8) ((Iv.v (ivPoint 65536)))).put (some 10) ((Iv.v (ivSqr wave)))) := ⟨E, by rw [put_self q2, put_self q4, put_self q5, put_self q6, put_self q8, put_self q10]⟩
   refine stepR 1 _ _ _ [5] (by kernel_rfl) rfl ⟨?_, trivial⟩
   ·refine opR_op (d := none) rfl rfl rfl (st_sta (cs := [.int .i64 ((ivPoint 65536).lo), .int .i64 ((ivPoint 65536).hi), .bool ((ivPoint 65536).no)]) agg32 1 rfl rfl rfl rfl rfl rfl rfl rfl rfl ?_)
    exact s1_20 _ _ _ rfl rfl rfl rfl rfl
  have s1_18 : ∀ (E : Env) (b1_3 : Nat), E 2 = .pointer (some ⟨g0, 0, none⟩) → E 4 = .pointer (some ⟨g2, 0, none⟩) → E 5 = .pointer (some ⟨b1_3, 0, none⟩) → E 8 = (Iv.v (ivPoint 65536)) → E 10 = (Iv.v (ivSqr wave)) → Φ 3 [true, true, true, true, false, false, false] E [⟨b1_3, [.int .i64 0, .int .i64 0, .bool false], 32, false⟩, ⟨g2, [.int .i64 0, .int .i64 0, .bool false], 32, false⟩, ⟨g1, [.int .i64 wave.lo, .int .i64 wave.hi, .bool wave.no], 32, false⟩, (gIndex_b0 x wave g0)] := by
   intro E b1_3 q2 q4 q5 q8 q10
   obtain ⟨E0, rfl⟩ : ∃ E0 : Env, E = (((((E0.put (some 2) (.pointer (some ⟨g0, 0, none⟩))).put (some 4) (.pointer (some ⟨g2, 0, none⟩))).put (some 5) (.pointer (some ⟨b1_3, 0, none⟩))).put (some 8) ((Iv.v (ivPoint 65536)))).put (some 10) ((Iv.v (ivSqr wave)))) := ⟨E, by rw [put_self q2, put_self q4, put_self q5, put_self q8, put_self q10]⟩
   refine stepR 2 _ _ _ [4] (by kernel_rfl) rfl ⟨?_, trivial⟩
   ·refine opR_op (d := (some 6)) rfl rfl rfl (st_new zero32 rfl fun b1_4 => ?_)
    exact s1_19 _ _ _ rfl rfl rfl rfl rfl rfl
  have s1_17 : ∀ (E : Env) (b1_4 : Nat), E 2 = .pointer (some ⟨g0, 0, none⟩) → E 4 = .pointer (some ⟨g2, 0, none⟩) → E 6 = .pointer (some ⟨b1_4, 0, none⟩) → E 8 = (Iv.v (ivPoint 65536)) → E 10 = (Iv.v (ivSqr wave)) → Φ 3 [true, true, true, false, true, false, false] E [⟨b1_4, [.int .i64 0, .int .i64 0, .bool false], 32, false⟩, ⟨g2, [.int .i64 0, .int .i64 0, .bool false], 32, false⟩, ⟨g1, [.int .i64 wave.lo, .int .i64 wave.hi, .bool wave.no], 32, false⟩, (gIndex_b0 x wave g0)] := by
   intro E b1_4 q2 q4 q6 q8 q10
   obtain ⟨E0, rfl⟩ : ∃ E0 : Env, E = (((((E0.put (some 2) (.pointer (some ⟨g0, 0, none⟩))).put (some 4) (.pointer (some ⟨g2, 0, none⟩))).put (some 6) (.pointer (some ⟨b1_4, 0, none⟩))).put (some 8) ((Iv.v (ivPoint 65536)))).put (some 10) ((Iv.v (ivSqr wave)))) := ⟨E, by rw [put_self q2, put_self q4, put_self q6, put_self q8, put_self q10]⟩
   refine stepR 2 _ _ _ [3] (by kernel_rfl) rfl ⟨?_, trivial⟩
   ·refine opR_op (d := (some 5)) rfl rfl rfl (st_new zero32 rfl fun b1_3 => ?_)
    exact permR _ _ _ _ _ (List.Perm.trans (List.Perm.swap _ _ _) (List.Perm.cons _ (List.Perm.refl _))).symm (s1_19 _ _ _ rfl rfl rfl rfl rfl rfl)
  have s1_16 : ∀ (E : Env) (b1_4 : Nat) (b1_3 : Nat), E 2 = .pointer (some ⟨g0, 0, none⟩) → E 4 = .pointer (some ⟨g2, 0, none⟩) → E 5 = .pointer (some ⟨b1_3, 0, none⟩) → E 6 = .pointer (some ⟨b1_4, 0, none⟩) → E 8 = (Iv.v (ivPoint 65536)) → E 9 = (Iv.v wave) → Φ 3 [true, true, false, true, true, false, false] E [⟨b1_4, [.int .i64 0, .int .i64 0, .bool false], 32, false⟩, ⟨b1_3, [.int .i64 0, .int .i64 0, .bool false], 32, false⟩, ⟨g2, [.int .i64 0, .int .i64 0, .bool false], 32, false⟩, ⟨g1, [.int .i64 wave.lo, .int .i64 wave.hi, .bool wave.no], 32, false⟩, (gIndex_b0 x wave g0)] := by
   intro E b1_4 b1_3 q2 q4 q5 q6 q8 q9
   obtain ⟨E0, rfl⟩ : ∃ E0 : Env, E = ((((((E0.put (some 2) (.pointer (some ⟨g0, 0, none⟩))).put (some 4) (.pointer (some ⟨g2, 0, none⟩))).put (some 5) (.pointer (some ⟨b1_3, 0, none⟩))).put (some 6) (.pointer (some ⟨b1_4, 0, none⟩))).put (some 8) ((Iv.v (ivPoint 65536)))).put (some 9) (Iv.v wave)) := ⟨E, by rw [put_self q2, put_self q4, put_self q5, put_self q6, put_self q8, put_self q9]⟩
   refine stepR 2 _ _ _ [2] (by kernel_rfl) rfl ⟨?_, trivial⟩
   ·refine opR_op (d := (some 10)) rfl rfl rfl (st_cf (c_ivSqr wave) Tryz.func43 rfl (by decide) rfl rfl rfl ?_)
    exact s1_19 _ _ _ rfl rfl rfl rfl rfl rfl
  have s1_15 : ∀ (E : Env), E 2 = .pointer (some ⟨g0, 0, none⟩) → E 4 = .pointer (some ⟨g2, 0, none⟩) → E 8 = (Iv.v (ivPoint 65536)) → E 10 = (Iv.v (ivSqr wave)) → Φ 4 [true, true, true, false, false, false, false] E [⟨g2, [.int .i64 0, .int .i64 0, .bool false], 32, false⟩, ⟨g1, [.int .i64 wave.lo, .int .i64 wave.hi, .bool wave.no], 32, false⟩, (gIndex_b0 x wave g0)] := by
   intro E q2 q4 q8 q10
   obtain ⟨E0, rfl⟩ : ∃ E0 : Env, E = ((((E0.put (some 2) (.pointer (some ⟨g0, 0, none⟩))).put (some 4) (.pointer (some ⟨g2, 0, none⟩))).put (some 8) ((Iv.v (ivPoint 65536)))).put (some 10) ((Iv.v (ivSqr wave)))) := ⟨E, by rw [put_self q2, put_self q4, put_self q8, put_self q10]⟩
   refine stepR 3 _ _ _ [3, 4] (by kernel_rfl) rfl ⟨?_, ?_, trivial⟩
   ·refine opR_op (d := (some 5)) rfl rfl rfl (st_new zero32 rfl fun b1_3 => ?_)
    exact s1_18 _ _ rfl rfl rfl rfl rfl
   ·refine opR_op (d := (some 6)) rfl rfl rfl (st_new zero32 rfl fun b1_4 => ?_)
    exact s1_17 _ _ rfl rfl rfl rfl rfl
  have s1_14 : ∀ (E : Env) (b1_3 : Nat), E 2 = .pointer (some ⟨g0, 0, none⟩) → E 4 = .pointer (some ⟨g2, 0, none⟩) → E 5 = .pointer (some ⟨b1_3, 0, none⟩) → E 8 = (Iv.v (ivPoint 65536)) → E 9 = (Iv.v wave) → Φ 4 [true, true, false, true, false, false, false] E [⟨b1_3, [.int .i64 0, .int .i64 0, .bool false], 32, false⟩, ⟨g2, [.int .i64 0, .int .i64 0, .bool false], 32, false⟩, ⟨g1, [.int .i64 wave.lo, .int .i64 wave.hi, .bool wave.no], 32, false⟩, (gIndex_b0 x wave g0)] := by
   intro E b1_3 q2 q4 q5 q8 q9
   obtain ⟨E0, rfl⟩ : ∃ E0 : Env, E = (((((E0.put (some 2) (.pointer (some ⟨g0, 0, none⟩))).put (some 4) (.pointer (some ⟨g2, 0, none⟩))).put (some 5) (.pointer (some ⟨b1_3, 0, none⟩))).put (some 8) ((Iv.v (ivPoint 65536)))).put (some 9) (Iv.v wave)) := ⟨E, by rw [put_self q2, put_self q4, put_self q5, put_self q8, put_self q9]⟩
   refine stepR 3 _ _ _ [2, 4] (by kernel_rfl) rfl ⟨?_, ?_, trivial⟩
   ·refine opR_op (d := (some 10)) rfl rfl rfl (st_cf (c_ivSqr wave) Tryz.func43 rfl (by decide) rfl rfl rfl ?_)
    exact s1_18 _ _ rfl rfl rfl rfl rfl
   ·refine opR_op (d := (some 6)) rfl rfl rfl (st_new zero32 rfl fun b1_4 => ?_)
    exact s1_16 _ _ _ rfl rfl rfl rfl rfl rfl
  have s1_13 : ∀ (E : Env) (b1_4 : Nat), E 2 = .pointer (some ⟨g0, 0, none⟩) → E 4 = .pointer (some ⟨g2, 0, none⟩) → E 6 = .pointer (some ⟨b1_4, 0, none⟩) → E 8 = (Iv.v (ivPoint 65536)) → E 9 = (Iv.v wave) → Φ 4 [true, true, false, false, true, false, false] E [⟨b1_4, [.int .i64 0, .int .i64 0, .bool false], 32, false⟩, ⟨g2, [.int .i64 0, .int .i64 0, .bool false], 32, false⟩, ⟨g1, [.int .i64 wave.lo, .int .i64 wave.hi, .bool wave.no], 32, false⟩, (gIndex_b0 x wave g0)] := by
   intro E b1_4 q2 q4 q6 q8 q9
   obtain ⟨E0, rfl⟩ : ∃ E0 : Env, E = (((((E0.put (some 2) (.pointer (some ⟨g0, 0, none⟩))).put (some 4) (.pointer (some ⟨g2, 0, none⟩))).put (some 6) (.pointer (some ⟨b1_4, 0, none⟩))).put (some 8) ((Iv.v (ivPoint 65536)))).put (some 9) (Iv.v wave)) := ⟨E, by rw [put_self q2, put_self q4, put_self q6, put_self q8, put_self q9]⟩
   refine stepR 3 _ _ _ [2, 3] (by kernel_rfl) rfl ⟨?_, ?_, trivial⟩
   ·refine opR_op (d := (some 10)) rfl rfl rfl (st_cf (c_ivSqr wave) Tryz.func43 rfl (by decide) rfl rfl rfl ?_)
    exact s1_17 _ _ rfl rfl rfl rfl rfl
   ·refine opR_op (d := (some 5)) rfl rfl rfl (st_new zero32 rfl fun b1_3 => ?_)
    exact permR _ _ _ _ _ (List.Perm.trans (List.Perm.swap _ _ _) (List.Perm.cons _ (List.Perm.refl _))).symm (s1_16 _ _ _ rfl rfl rfl rfl rfl rfl)
  have s1_12 : ∀ (E : Env) (b1_4 : Nat) (b1_3 : Nat), E 2 = .pointer (some ⟨g0, 0, none⟩) → E 3 = .pointer (some ⟨g1, 0, none⟩) → E 4 = .pointer (some ⟨g2, 0, none⟩) → E 5 = .pointer (some ⟨b1_3, 0, none⟩) → E 6 = .pointer (some ⟨b1_4, 0, none⟩) → E 8 = (Iv.v (ivPoint 65536)) → Φ 4 [true, false, false, true, true, false, false] E [⟨b1_4, [.int .i64 0, .int .i64 0, .bool false], 32, false⟩, ⟨b1_3, [.int .i64 0, .int .i64 0, .bool false], 32, false⟩, ⟨g2, [.int .i64 0, .int .i64 0, .bool false], 32, false⟩, ⟨g1, [.int .i64 wave.lo, .int .i64 wave.hi, .bool wave.no], 32, false⟩, (gIndex_b0 x wave g0)] := by
   intro E b1_4 b1_3 q2 q3 q4 q5 q6 q8
   obtain ⟨E0, rfl⟩ : ∃ E0 : Env, E = ((((((E0.put (some 2) (.pointer (some ⟨g0, 0, none⟩))).put (some 3) (.pointer (some ⟨g1, 0, none⟩))).put (some 4) (.pointer (some ⟨g2, 0, none⟩))).put (some 5) (.pointer (some ⟨b1_3, 0, none⟩))).put (some 6) (.pointer (some ⟨b1_4, 0, none⟩))).put (some 8) ((Iv.v (ivPoint 65536)))) := ⟨E, by rw [put_self q2, put_self q3, put_self q4, put_self q5, put_self q6, put_self q8]⟩
   refine stepR 3 _ _ _ [1] (by kernel_rfl) rfl ⟨?_, trivial⟩
   ·refine opR_op (d := (some 9)) rfl rfl rfl (st_lda (vs := [.int .i64 wave.lo, .int .i64 wave.hi, .bool wave.no]) agg32 3 rfl rfl rfl rfl rfl rfl ?_)
    exact s1_16 _ _ _ rfl rfl rfl rfl rfl rfl
  have s1_11 : ∀ (E : Env) (b1_4 : Nat) (b1_3 : Nat), E 2 = .pointer (some ⟨g0, 0, none⟩) → E 4 = .pointer (some ⟨g2, 0, none⟩) → E 5 = .pointer (some ⟨b1_3, 0, none⟩) → E 6 = .pointer (some ⟨b1_4, 0, none⟩) → E 9 = (Iv.v wave) → Φ 4 [false, true, false, true, true, false, false] E [⟨b1_4, [.int .i64 0, .int .i64 0, .bool false], 32, false⟩, ⟨b1_3, [.int .i64 0, .int .i64 0, .bool false], 32, false⟩, ⟨g2, [.int .i64 0, .int .i64 0, .bool false], 32, false⟩, ⟨g1, [.int .i64 wave.lo, .int .i64 wave.hi, .bool wave.no], 32, false⟩, (gIndex_b0 x wave g0)] := by
   intro E b1_4 b1_3 q2 q4 q5 q6 q9
   obtain ⟨E0, rfl⟩ : ∃ E0 : Env, E = (((((E0.put (some 2) (.pointer (some ⟨g0, 0, none⟩))).put (some 4) (.pointer (some ⟨g2, 0, none⟩))).put (some 5) (.pointer (some ⟨b1_3, 0, none⟩))).put (some 6) (.pointer (some ⟨b1_4, 0, none⟩))).put (some 9) (Iv.v wave)) := ⟨E, by rw [put_self q2, put_self q4, put_self q5, put_self q6, put_self q9]⟩
   refine stepR 3 _ _ _ [0] (by kernel_rfl) rfl ⟨?_, trivial⟩
   ·refine opR_op (d := (some 8)) rfl rfl rfl (st_cf (c_ivPoint 65536) Tryz.func49 rfl (by decide) rfl rfl rfl ?_)
    exact s1_16 _ _ _ rfl rfl rfl rfl rfl rfl
  have s1_10 : ∀ (E : Env), E 2 = .pointer (some ⟨g0, 0, none⟩) → E 4 = .pointer (some ⟨g2, 0, none⟩) → E 8 = (Iv.v (ivPoint 65536)) → E 9 = (Iv.v wave) → Φ 5 [true, true, false, false, false, false, false] E [⟨g2, [.int .i64 0, .int .i64 0, .bool false], 32, false⟩, ⟨g1, [.int .i64 wave.lo, .int .i64 wave.hi, .bool wave.no], 32, false⟩, (gIndex_b0 x wave g0)] := by
   intro E q2 q4 q8 q9
   obtain ⟨E0, rfl⟩ : ∃ E0 : Env, E = ((((E0.put (some 2) (.pointer (some ⟨g0, 0, none⟩))).put (some 4) (.pointer (some ⟨g2, 0, none⟩))).put (some 8) ((Iv.v (ivPoint 65536)))).put (some 9) (Iv.v wave)) := ⟨E, by rw [put_self q2, put_self q4, put_self q8, put_self q9]⟩
   refine stepR 4 _ _ _ [2, 3, 4] (by kernel_rfl) rfl ⟨?_, ?_, ?_, trivial⟩
   ·refine opR_op (d := (some 10)) rfl rfl rfl (st_cf (c_ivSqr wave) Tryz.func43 rfl (by decide) rfl rfl rfl ?_)
    exact s1_15 _ rfl rfl rfl rfl
   ·refine opR_op (d := (some 5)) rfl rfl rfl (st_new zero32 rfl fun b1_3 => ?_)
    exact s1_14 _ _ rfl rfl rfl rfl rfl
   ·refine opR_op (d := (some 6)) rfl rfl rfl (st_new zero32 rfl fun b1_4 => ?_)
    exact s1_13 _ _ rfl rfl rfl rfl rfl
  have s1_9 : ∀ (E : Env) (b1_3 : Nat), E 2 = .pointer (some ⟨g0, 0, none⟩) → E 3 = .pointer (some ⟨g1, 0, none⟩) → E 4 = .pointer (some ⟨g2, 0, none⟩) → E 5 = .pointer (some ⟨b1_3, 0, none⟩) → E 8 = (Iv.v (ivPoint 65536)) → Φ 5 [true, false, false, true, false, false, false] E [⟨b1_3, [.int .i64 0, .int .i64 0, .bool false], 32, false⟩, ⟨g2, [.int .i64 0, .int .i64 0, .bool false], 32, false⟩, ⟨g1, [.int .i64 wave.lo, .int .i64 wave.hi, .bool wave.no], 32, false⟩, (gIndex_b0 x wave g0)] := by
   intro E b1_3 q2 q3 q4 q5 q8
   obtain ⟨E0, rfl⟩ : ∃ E0 : Env, E = (((((E0.put (some 2) (.pointer (some ⟨g0, 0, none⟩))).put (some 3) (.pointer (some ⟨g1, 0, none⟩))).put (some 4) (.pointer (some ⟨g2, 0, none⟩))).put (some 5) (.pointer (some ⟨b1_3, 0, none⟩))).put (some 8) ((Iv.v (ivPoint 65536)))) := ⟨E, by rw [put_self q2, put_self q3, put_self q4, put_self q5, put_self q8]⟩
   refine stepR 4 _ _ _ [1, 4] (by kernel_rfl) rfl ⟨?_, ?_, trivial⟩
   ·refine opR_op (d := (some 9)) rfl rfl rfl (st_lda (vs := [.int .i64 wave.lo, .int .i64 wave.hi, .bool wave.no]) agg32 2 rfl rfl rfl rfl rfl rfl ?_)
    exact s1_14 _ _ rfl rfl rfl rfl rfl
   ·refine opR_op (d := (some 6)) rfl rfl rfl (st_new zero32 rfl fun b1_4 => ?_)
    exact s1_12 _ _ _ rfl rfl rfl rfl rfl rfl
  have s1_8 : ∀ (E : Env) (b1_4 : Nat), E 2 = .pointer (some ⟨g0, 0, none⟩) → E 3 = .pointer (some ⟨g1, 0, none⟩) → E 4 = .pointer (some ⟨g2, 0, none⟩) → E 6 = .pointer (some ⟨b1_4, 0, none⟩) → E 8 = (Iv.v (ivPoint 65536)) → Φ 5 [true, false, false, false, true, false, false] E [⟨b1_4, [.int .i64 0, .int .i64 0, .bool false], 32, false⟩, ⟨g2, [.int .i64 0, .int .i64 0, .bool false], 32, false⟩, ⟨g1, [.int .i64 wave.lo, .int .i64 wave.hi, .bool wave.no], 32, false⟩, (gIndex_b0 x wave g0)] := by
   intro E b1_4 q2 q3 q4 q6 q8
   obtain ⟨E0, rfl⟩ : ∃ E0 : Env, E = (((((E0.put (some 2) (.pointer (some ⟨g0, 0, none⟩))).put (some 3) (.pointer (some ⟨g1, 0, none⟩))).put (some 4) (.pointer (some ⟨g2, 0, none⟩))).put (some 6) (.pointer (some ⟨b1_4, 0, none⟩))).put (some 8) ((Iv.v (ivPoint 65536)))) := ⟨E, by rw [put_self q2, put_self q3, put_self q4, put_self q6, put_self q8]⟩
   refine stepR 4 _ _ _ [1, 3] (by kernel_rfl) rfl ⟨?_, ?_, trivial⟩
   ·refine opR_op (d := (some 9)) rfl rfl rfl (st_lda (vs := [.int .i64 wave.lo, .int .i64 wave.hi, .bool wave.no]) agg32 2 rfl rfl rfl rfl rfl rfl ?_)
    exact s1_13 _ _ rfl rfl rfl rfl rfl
   ·refine opR_op (d := (some 5)) rfl rfl rfl (st_new zero32 rfl fun b1_3 => ?_)
    exact permR _ _ _ _ _ (List.Perm.trans (List.Perm.swap _ _ _) (List.Perm.cons _ (List.Perm.refl _))).symm (s1_12 _ _ _ rfl rfl rfl rfl rfl rfl)
  have s1_7 : ∀ (E : Env) (b1_3 : Nat), E 2 = .pointer (some ⟨g0, 0, none⟩) → E 4 = .pointer (some ⟨g2, 0, none⟩) → E 5 = .pointer (some ⟨b1_3, 0, none⟩) → E 9 = (Iv.v wave) → Φ 5 [false, true, false, true, false, false, false] E [⟨b1_3, [.int .i64 0, .int .i64 0, .bool false], 32, false⟩, ⟨g2, [.int .i64 0, .int .i64 0, .bool false], 32, false⟩, ⟨g1, [.int .i64 wave.lo, .int .i64 wave.hi, .bool wave.no], 32, false⟩, (gIndex_b0 x wave g0)] := by
   intro E b1_3 q2 q4 q5 q9
   obtain ⟨E0, rfl⟩ : ∃ E0 : Env, E = ((((E0.put (some 2) (.pointer (some ⟨g0, 0, none⟩))).put (some 4) (.pointer (some ⟨g2, 0, none⟩))).put (some 5) (.pointer (some ⟨b1_3, 0, none⟩))).put (some 9) (Iv.v wave)) := ⟨E, by rw [put_self q2, put_self q4, put_self q5, put_self q9]⟩
   refine stepR 4 _ _ _ [0, 4] (by kernel_rfl) rfl ⟨?_, ?_, trivial⟩
   ·refine opR_op (d := (some 8)) rfl rfl rfl (st_cf (c_ivPoint 65536) Tryz.func49 rfl (by decide) rfl rfl rfl ?_)
    exact s1_14 _ _ rfl rfl rfl rfl rfl
   ·refine opR_op (d := (some 6)) rfl rfl rfl (st_new zero32 rfl fun b1_4 => ?_)
    exact s1_11 _ _ _ rfl rfl rfl rfl rfl
  have s1_6 : ∀ (E : Env) (b1_4 : Nat), E 2 = .pointer (some ⟨g0, 0, none⟩) → E 4 = .pointer (some ⟨g2, 0, none⟩) → E 6 = .pointer (some ⟨b1_4, 0, none⟩) → E 9 = (Iv.v wave) → Φ 5 [false, true, false, false, true, false, false] E [⟨b1_4, [.int .i64 0, .int .i64 0, .bool false], 32, false⟩, ⟨g2, [.int .i64 0, .int .i64 0, .bool false], 32, false⟩, ⟨g1, [.int .i64 wave.lo, .int .i64 wave.hi, .bool wave.no], 32, false⟩, (gIndex_b0 x wave g0)] := by
   intro E b1_4 q2 q4 q6 q9
   obtain ⟨E0, rfl⟩ : ∃ E0 : Env, E = ((((E0.put (some 2) (.pointer (some ⟨g0, 0, none⟩))).put (some 4) (.pointer (some ⟨g2, 0, none⟩))).put (some 6) (.pointer (some ⟨b1_4, 0, none⟩))).put (some 9) (Iv.v wave)) := ⟨E, by rw [put_self q2, put_self q4, put_self q6, put_self q9]⟩
   refine stepR 4 _ _ _ [0, 3] (by kernel_rfl) rfl ⟨?_, ?_, trivial⟩
   ·refine opR_op (d := (some 8)) rfl rfl rfl (st_cf (c_ivPoint 65536) Tryz.func49 rfl (by decide) rfl rfl rfl ?_)
    exact s1_13 _ _ rfl rfl rfl rfl rfl
   ·refine opR_op (d := (some 5)) rfl rfl rfl (st_new zero32 rfl fun b1_3 => ?_)
    exact permR _ _ _ _ _ (List.Perm.trans (List.Perm.swap _ _ _) (List.Perm.cons _ (List.Perm.refl _))).symm (s1_11 _ _ _ rfl rfl rfl rfl rfl)
  have s1_5 : ∀ (E : Env) (b1_4 : Nat) (b1_3 : Nat), E 2 = .pointer (some ⟨g0, 0, none⟩) → E 3 = .pointer (some ⟨g1, 0, none⟩) → E 4 = .pointer (some ⟨g2, 0, none⟩) → E 5 = .pointer (some ⟨b1_3, 0, none⟩) → E 6 = .pointer (some ⟨b1_4, 0, none⟩) → Φ 5 [false, false, false, true, true, false, false] E [⟨b1_4, [.int .i64 0, .int .i64 0, .bool false], 32, false⟩, ⟨b1_3, [.int .i64 0, .int .i64 0, .bool false], 32, false⟩, ⟨g2, [.int .i64 0, .int .i64 0, .bool false], 32, false⟩, ⟨g1, [.int .i64 wave.lo, .int .i64 wave.hi, .bool wave.no], 32, false⟩, (gIndex_b0 x wave g0)] := by
   intro E b1_4 b1_3 q2 q3 q4 q5 q6
   obtain ⟨E0, rfl⟩ : ∃ E0 : Env, E = (((((E0.put (some 2) (.pointer (some ⟨g0, 0, none⟩))).put (some 3) (.pointer (some ⟨g1, 0, none⟩))).put (some 4) (.pointer (some ⟨g2, 0, none⟩))).put (some 5) (.pointer (some ⟨b1_3, 0, none⟩))).put (some 6) (.pointer (some ⟨b1_4, 0, none⟩))) := ⟨E, by rw [put_self q2, put_self q3, put_self q4, put_self q5, put_self q6]⟩
   refine stepR 4 _ _ _ [0, 1] (by kernel_rfl) rfl ⟨?_, ?_, trivial⟩
   ·refine opR_op (d := (some 8)) rfl rfl rfl (st_cf (c_ivPoint 65536) Tryz.func49 rfl (by decide) rfl rfl rfl ?_)
    exact s1_12 _ _ _ rfl rfl rfl rfl rfl rfl
   ·refine opR_op (d := (some 9)) rfl rfl rfl (st_lda (vs := [.int .i64 wave.lo, .int .i64 wave.hi, .bool wave.no]) agg32 3 rfl rfl rfl rfl rfl rfl ?_)
    exact s1_11 _ _ _ rfl rfl rfl rfl rfl
  have s1_4 : ∀ (E : Env), E 2 = .pointer (some ⟨g0, 0, none⟩) → E 3 = .pointer (some ⟨g1, 0, none⟩) → E 4 = .pointer (some ⟨g2, 0, none⟩) → E 8 = (Iv.v (ivPoint 65536)) → Φ 6 [true, false, false, false, false, false, false] E [⟨g2, [.int .i64 0, .int .i64 0, .bool false], 32, false⟩, ⟨g1, [.int .i64 wave.lo, .int .i64 wave.hi, .bool wave.no], 32, false⟩, (gIndex_b0 x wave g0)] := by
   intro E q2 q3 q4 q8
   obtain ⟨E0, rfl⟩ : ∃ E0 : Env, E = ((((E0.put (some 2) (.pointer (some ⟨g0, 0, none⟩))).put (some 3) (.pointer (some ⟨g1, 0, none⟩))).put (some 4) (.pointer (some ⟨g2, 0, none⟩))).put (some 8) ((Iv.v (ivPoint 65536)))) := ⟨E, by rw [put_self q2, put_self q3, put_self q4, put_self q8]⟩
   refine stepR 5 _ _ _ [1, 3, 4] (by kernel_rfl) rfl ⟨?_, ?_, ?_, trivial⟩
   ·refine opR_op (d := (some 9)) rfl rfl rfl (st_lda (vs := [.int .i64 wave.lo, .int .i64 wave.hi, .bool wave.no]) agg32 1 rfl rfl rfl rfl rfl rfl ?_)
    exact s1_10 _ rfl rfl rfl rfl
   ·refine opR_op (d := (some 5)) rfl rfl rfl (st_new zero32 rfl fun b1_3 => ?_)
    exact s1_9 _ _ rfl rfl rfl rfl rfl
   ·refine opR_op (d := (some 6)) rfl rfl rfl (st_new zero32 rfl fun b1_4 => ?_)
    exact s1_8 _ _ rfl rfl rfl rfl rfl
  have s1_3 : ∀ (E : Env), E 2 = .pointer (some ⟨g0, 0, none⟩) → E 4 = .pointer (some ⟨g2, 0, none⟩) → E 9 = (Iv.v wave) → Φ 6 [false, true, false, false, false, false, false] E [⟨g2, [.int .i64 0, .int .i64 0, .bool false], 32, false⟩, ⟨g1, [.int .i64 wave.lo, .int .i64 wave.hi, .bool wave.no], 32, false⟩, (gIndex_b0 x wave g0)] := by
   intro E q2 q4 q9
   obtain ⟨E0, rfl⟩ : ∃ E0 : Env, E = (((E0.put (some 2) (.pointer (some ⟨g0, 0, none⟩))).put (some 4) (.pointer (some ⟨g2, 0, none⟩))).put (some 9) (Iv.v wave)) := ⟨E, by rw [put_self q2, put_self q4, put_self q9]⟩
   refine stepR 5 _ _ _ [0, 3, 4] (by kernel_rfl) rfl ⟨?_, ?_, ?_, trivial⟩
   ·refine opR_op (d := (some 8)) rfl rfl rfl (st_cf (c_ivPoint 65536) Tryz.func49 rfl (by decide) rfl rfl rfl ?_)
    exact s1_10 _ rfl rfl rfl rfl
   ·refine opR_op (d := (some 5)) rfl rfl rfl (st_new zero32 rfl fun b1_3 => ?_)
    exact s1_7 _ _ rfl rfl rfl rfl
   ·refine opR_op (d := (some 6)) rfl rfl rfl (st_new zero32 rfl fun b1_4 => ?_)
    exact s1_6 _ _ rfl rfl rfl rfl
  have s1_2 : ∀ (E : Env) (b1_3 : Nat), E 2 = .pointer (some ⟨g0, 0, none⟩) → E 3 = .pointer (some ⟨g1, 0, none⟩) → E 4 = .pointer (some ⟨g2, 0, none⟩) → E 5 = .pointer (some ⟨b1_3, 0, none⟩) → Φ 6 [false, false, false, true, false, false, false] E [⟨b1_3, [.int .i64 0, .int .i64 0, .bool false], 32, false⟩, ⟨g2, [.int .i64 0, .int .i64 0, .bool false], 32, false⟩, ⟨g1, [.int .i64 wave.lo, .int .i64 wave.hi, .bool wave.no], 32, false⟩, (gIndex_b0 x wave g0)] := by
   intro E b1_3 q2 q3 q4 q5
   obtain ⟨E0, rfl⟩ : ∃ E0 : Env, E = ((((E0.put (some 2) (.pointer (some ⟨g0, 0, none⟩))).put (some 3) (.pointer (some ⟨g1, 0, none⟩))).put (some 4) (.pointer (some ⟨g2, 0, none⟩))).put (some 5) (.pointer (some ⟨b1_3, 0, none⟩))) := ⟨E, by rw [put_self q2, put_self q3, put_self q4, put_self q5]⟩
   refine stepR 5 _ _ _ [0, 1, 4] (by kernel_rfl) rfl ⟨?_, ?_, ?_, trivial⟩
   ·refine opR_op (d := (some 8)) rfl rfl rfl (st_cf (c_ivPoint 65536) Tryz.func49 rfl (by decide) rfl rfl rfl ?_)
    exact s1_9 _ _ rfl rfl rfl rfl rfl
   ·refine opR_op (d := (some 9)) rfl rfl rfl (st_lda (vs := [.int .i64 wave.lo, .int .i64 wave.hi, .bool wave.no]) agg32 2 rfl rfl rfl rfl rfl rfl ?_)
    exact s1_7 _ _ rfl rfl rfl rfl
   ·refine opR_op (d := (some 6)) rfl rfl rfl (st_new zero32 rfl fun b1_4 => ?_)
    exact s1_5 _ _ _ rfl rfl rfl rfl rfl
  have s1_1 : ∀ (E : Env) (b1_4 : Nat), E 2 = .pointer (some ⟨g0, 0, none⟩) → E 3 = .pointer (some ⟨g1, 0, none⟩) → E 4 = .pointer (some ⟨g2, 0, none⟩) → E 6 = .pointer (some ⟨b1_4, 0, none⟩) → Φ 6 [false, false, false, false, true, false, false] E [⟨b1_4, [.int .i64 0, .int .i64 0, .bool false], 32, false⟩, ⟨g2, [.int .i64 0, .int .i64 0, .bool false], 32, false⟩, ⟨g1, [.int .i64 wave.lo, .int .i64 wave.hi, .bool wave.no], 32, false⟩, (gIndex_b0 x wave g0)] := by
   intro E b1_4 q2 q3 q4 q6
   obtain ⟨E0, rfl⟩ : ∃ E0 : Env, E = ((((E0.put (some 2) (.pointer (some ⟨g0, 0, none⟩))).put (some 3) (.pointer (some ⟨g1, 0, none⟩))).put (some 4) (.pointer (some ⟨g2, 0, none⟩))).put (some 6) (.pointer (some ⟨b1_4, 0, none⟩))) := ⟨E, by rw [put_self q2, put_self q3, put_self q4, put_self q6]⟩
   refine stepR 5 _ _ _ [0, 1, 3] (by kernel_rfl) rfl ⟨?_, ?_, ?_, trivial⟩
   ·refine opR_op (d := (some 8)) rfl rfl rfl (st_cf (c_ivPoint 65536) Tryz.func49 rfl (by decide) rfl rfl rfl ?_)
    exact s1_8 _ _ rfl rfl rfl rfl rfl
   ·refine opR_op (d := (some 9)) rfl rfl rfl (st_lda (vs := [.int .i64 wave.lo, .int .i64 wave.hi, .bool wave.no]) agg32 2 rfl rfl rfl rfl rfl rfl ?_)
    exact s1_6 _ _ rfl rfl rfl rfl
   ·refine opR_op (d := (some 5)) rfl rfl rfl (st_new zero32 rfl fun b1_3 => ?_)
    exact permR _ _ _ _ _ (List.Perm.trans (List.Perm.swap _ _ _) (List.Perm.cons _ (List.Perm.refl _))).symm (s1_5 _ _ _ rfl rfl rfl rfl rfl)
  refine stepR 6 _ _ _ [0, 1, 3, 4] (by kernel_rfl) rfl ⟨?_, ?_, ?_, ?_, trivial⟩
  ·refine opR_op (d := (some 8)) rfl rfl rfl (st_cf (c_ivPoint 65536) Tryz.func49 rfl (by decide) rfl rfl rfl ?_)
   exact s1_4 _ rfl rfl rfl rfl
  ·refine opR_op (d := (some 9)) rfl rfl rfl (st_lda (vs := [.int .i64 wave.lo, .int .i64 wave.hi, .bool wave.no]) agg32 1 rfl rfl rfl rfl rfl rfl ?_)
   exact s1_3 _ rfl rfl rfl
  ·refine opR_op (d := (some 5)) rfl rfl rfl (st_new zero32 rfl fun b1_3 => ?_)
   exact s1_2 _ _ rfl rfl rfl rfl
  ·refine opR_op (d := (some 6)) rfl rfl rfl (st_new zero32 rfl fun b1_4 => ?_)
   exact s1_1 _ _ rfl rfl rfl rfl
 intro E b1_4 b1_3 q2 q4 q5 q6
 obtain ⟨E0, rfl⟩ : ∃ E0 : Env, E = ((((E0.put (some 2) (.pointer (some ⟨g0, 0, none⟩))).put (some 4) (.pointer (some ⟨g2, 0, none⟩))).put (some 5) (.pointer (some ⟨b1_3, 0, none⟩))).put (some 6) (.pointer (some ⟨b1_4, 0, none⟩))) := ⟨E, by rw [put_self q2, put_self q4, put_self q5, put_self q6]⟩
 refine doneR _ _ _ (by kernel_rfl) (aQ (aQ (aL (aF 11 fa29_0 rfl rfl (aD 12 (.string x.name) cell9 4 rfl rfl rfl rfl (aB 13 (.bool (sEq x.name (⟨#[97, 105, 114]⟩ : ByteArray))) rfl rfl rfl (bi_seql rfl) (aN ?_)))))))
 refine bool_split (sEq x.name (⟨#[97, 105, 114]⟩ : ByteArray)) (fun h1 => ?_) (fun h1 => ?_)
 ·refine ac_then' (b := sEq x.name (⟨#[97, 105, 114]⟩ : ByteArray)) h1 rfl (aQ (aL (aG 14 [.int .i64 ((ivPoint 65536).lo), .int .i64 ((ivPoint 65536).hi), .bool ((ivPoint 65536).no)] agg32 1 rfl rfl rfl rfl rfl (aS [.int .i64 ((ivPoint 65536).lo), .int .i64 ((ivPoint 65536).hi), .bool ((ivPoint 65536).no)] agg32 2 rfl rfl rfl rfl rfl rfl (aN (ac_ret (fin_eq (v := (Iv.v (ivPoint 65536))) (by show _ = Iv.v (gIndex x wave); rw [gIndex, h1] <;> rfl) (fin_ret (res_c (vs := [.int .i64 ((ivPoint 65536).lo), .int .i64 ((ivPoint 65536).hi), .bool ((ivPoint 65536).no)]) agg32 2 rfl rfl rfl rfl rfl rfl)))))))))
 ·refine ac_else' (b := sEq x.name (⟨#[97, 105, 114]⟩ : ByteArray)) h1 rfl (ac_skip (aQ (aQ (aL (aM 15 (.int .i64 0) rfl rfl (aN (ac_block ?_)))))))
  refine ac_rounds 61 (ar_round (aQ (aL (aB 16 (.bool true) rfl rfl rfl (bi_lss (by decide)) (aN (aQ (ac_then rfl (ac_skip (aQ (ac_block (aQ (aL (aM 17 (.int .i64 0) rfl rfl (aA 7 (.int .i64 0) rfl rfl (aN ?_)))))))))))))))
  refine ac_draw0 (id := 7) [0, 1, 2, 3, 4, 5, 6, 7, 8, 9, 10, 11, 12, 13, 14, 15, 16] [17] _ (by kernel_rfl) follows rfl  (dw_op (d := some 18) _ rfl rfl rfl (st_lda (vs := [.int .i64 ((ivPoint 65536).lo), .int .i64 ((ivPoint 65536).hi), .bool ((ivPoint 65536).no)]) agg32 1 rfl rfl rfl rfl rfl rfl ⟨rfl, rfl⟩) (dw_op (d := some 19) _ rfl rfl rfl (st_move (v := .int .i64 0) rfl rfl ⟨rfl, rfl⟩) (dw_op (d := some 20) _ rfl rfl rfl (st_fa rfl fa29_1 rfl ⟨rfl, rfl⟩) (dw_op (d := some 21) _ rfl rfl rfl (st_ia (v := .pointer (some ⟨g0, 1, none⟩)) rfl rfl rfl (ia27_0 _ _) ⟨rfl, rfl⟩) ?_))))
  refine dw_op (d := some 22) _ rfl rfl rfl (st_lda (vs := [.int .i64 x.b.d0.c, .int .i64 x.b.d0.scale]) agg26 4 rfl rfl rfl rfl rfl rfl ⟨rfl, rfl⟩) (dw_op (d := some 23) _ rfl rfl rfl (st_cf (c_decOf x.b.d0) Tryz.func35 rfl (by decide) rfl rfl rfl ⟨rfl, rfl⟩) (dw_op (d := some 24) _ rfl rfl rfl (st_lda (vs := [.int .i64 ((ivSqr wave).lo), .int .i64 ((ivSqr wave).hi), .bool ((ivSqr wave).no)]) agg32 0 rfl rfl rfl rfl rfl rfl ⟨rfl, rfl⟩) (dw_op (d := some 25) _ rfl rfl rfl (st_cf (c_ivMul (decOf x.b.d0) (ivSqr wave)) Tryz.func52 rfl (by decide) rfl rfl rfl ⟨rfl, rfl⟩) ?_)))
  refine dw_op (d := some 26) _ rfl rfl rfl (st_lda (vs := [.int .i64 ((ivSqr wave).lo), .int .i64 ((ivSqr wave).hi), .bool ((ivSqr wave).no)]) agg32 0 rfl rfl rfl rfl rfl rfl ⟨rfl, rfl⟩) (dw_op (d := some 27) _ rfl rfl rfl (st_move (v := .int .i64 0) rfl rfl ⟨rfl, rfl⟩) (dw_op (d := some 28) _ rfl rfl rfl (st_fa rfl fa29_2 rfl ⟨rfl, rfl⟩) (dw_op (d := some 29) _ rfl rfl rfl (st_ia (v := .pointer (some ⟨g0, 7, none⟩)) rfl rfl rfl (ia27_0 _ _) ⟨rfl, rfl⟩) (dw_op (d := some 30) _ rfl rfl rfl (st_lda (vs := [.int .i64 x.c.d0.c, .int .i64 x.c.d0.scale]) agg26 4 rfl rfl rfl rfl rfl rfl ⟨rfl, rfl⟩) ?_))))
  refine dw_op (d := some 31) _ rfl rfl rfl (st_cf (c_decOf x.c.d0) Tryz.func35 rfl (by decide) rfl rfl rfl ⟨rfl, rfl⟩) (dw_op (d := some 32) _ rfl rfl rfl (st_cf (c_ivSub (ivSqr wave) (decOf x.c.d0)) Tryz.func53 rfl (by decide) rfl rfl rfl ⟨rfl, rfl⟩) (dw_op (d := some 33) _ rfl rfl rfl (st_cf (c_ivDiv (ivMul (decOf x.b.d0) (ivSqr wave)) (ivSub (ivSqr wave) (decOf x.c.d0))) Tryz.func51 rfl (by decide) rfl rfl rfl ⟨rfl, rfl⟩) (dw_op (d := some 34) _ rfl rfl rfl (st_cf (c_ivAdd (ivPoint 65536) (gIndex_e0 x wave)) Tryz.func50 rfl (by decide) rfl rfl rfl ⟨rfl, rfl⟩) (dw_nil ?_))))
  refine aS [.int .i64 ((ivAdd (ivPoint 65536) (gIndex_e0 x wave)).lo), .int .i64 ((ivAdd (ivPoint 65536) (gIndex_e0 x wave)).hi), .bool ((ivAdd (ivPoint 65536) (gIndex_e0 x wave)).no)] agg32 1 rfl rfl rfl rfl rfl rfl (aN (aL (aB 35 (.int .i64 1) rfl rfl rfl (bi_add (by decide)) (aM 15 (.int .i64 1) rfl rfl (aN (ar_round (aQ (aL (aB 16 (.bool true) rfl rfl rfl (bi_lss (by decide)) (aN (aQ (ac_then rfl (ac_skip (aQ (ac_block (aQ (aL (aM 17 (.int .i64 1) rfl rfl (aA 7 (.int .i64 1) rfl rfl (aN ?_))))))))))))))))))))
  refine ac_draw0 (id := 7) [0, 1, 2, 3, 4, 5, 6, 7, 8, 9, 10, 11, 12, 13, 14, 15, 16] [17] _ (by kernel_rfl) follows rfl  (dw_op (d := some 18) _ rfl rfl rfl (st_lda (vs := [.int .i64 ((ivAdd (ivPoint 65536) (gIndex_e0 x wave)).lo), .int .i64 ((ivAdd (ivPoint 65536) (gIndex_e0 x wave)).hi), .bool ((ivAdd (ivPoint 65536) (gIndex_e0 x wave)).no)]) agg32 1 rfl rfl rfl rfl rfl rfl ⟨rfl, rfl⟩) (dw_op (d := some 19) _ rfl rfl rfl (st_move (v := .int .i64 1) rfl rfl ⟨rfl, rfl⟩) (dw_op (d := some 20) _ rfl rfl rfl (st_fa rfl fa29_1 rfl ⟨rfl, rfl⟩) (dw_op (d := some 21) _ rfl rfl rfl (st_ia (v := .pointer (some ⟨g0, 3, none⟩)) rfl rfl rfl (ia27_1 _ _) ⟨rfl, rfl⟩) ?_))))
  refine dw_op (d := some 22) _ rfl rfl rfl (st_lda (vs := [.int .i64 x.b.d1.c, .int .i64 x.b.d1.scale]) agg26 4 rfl rfl rfl rfl rfl rfl ⟨rfl, rfl⟩) (dw_op (d := some 23) _ rfl rfl rfl (st_cf (c_decOf x.b.d1) Tryz.func35 rfl (by decide) rfl rfl rfl ⟨rfl, rfl⟩) (dw_op (d := some 24) _ rfl rfl rfl (st_lda (vs := [.int .i64 ((ivSqr wave).lo), .int .i64 ((ivSqr wave).hi), .bool ((ivSqr wave).no)]) agg32 0 rfl rfl rfl rfl rfl rfl ⟨rfl, rfl⟩) (dw_op (d := some 25) _ rfl rfl rfl (st_cf (c_ivMul (decOf x.b.d1) (ivSqr wave)) Tryz.func52 rfl (by decide) rfl rfl rfl ⟨rfl, rfl⟩) ?_)))
  refine dw_op (d := some 26) _ rfl rfl rfl (st_lda (vs := [.int .i64 ((ivSqr wave).lo), .int .i64 ((ivSqr wave).hi), .bool ((ivSqr wave).no)]) agg32 0 rfl rfl rfl rfl rfl rfl ⟨rfl, rfl⟩) (dw_op (d := some 27) _ rfl rfl rfl (st_move (v := .int .i64 1) rfl rfl ⟨rfl, rfl⟩) (dw_op (d := some 28) _ rfl rfl rfl (st_fa rfl fa29_2 rfl ⟨rfl, rfl⟩) (dw_op (d := some 29) _ rfl rfl rfl (st_ia (v := .pointer (some ⟨g0, 9, none⟩)) rfl rfl rfl (ia27_1 _ _) ⟨rfl, rfl⟩) (dw_op (d := some 30) _ rfl rfl rfl (st_lda (vs := [.int .i64 x.c.d1.c, .int .i64 x.c.d1.scale]) agg26 4 rfl rfl rfl rfl rfl rfl ⟨rfl, rfl⟩) ?_))))
  refine dw_op (d := some 31) _ rfl rfl rfl (st_cf (c_decOf x.c.d1) Tryz.func35 rfl (by decide) rfl rfl rfl ⟨rfl, rfl⟩) (dw_op (d := some 32) _ rfl rfl rfl (st_cf (c_ivSub (ivSqr wave) (decOf x.c.d1)) Tryz.func53 rfl (by decide) rfl rfl rfl ⟨rfl, rfl⟩) (dw_op (d := some 33) _ rfl rfl rfl (st_cf (c_ivDiv (ivMul (decOf x.b.d1) (ivSqr wave)) (ivSub (ivSqr wave) (decOf x.c.d1))) Tryz.func51 rfl (by decide) rfl rfl rfl ⟨rfl, rfl⟩) (dw_op (d := some 34) _ rfl rfl rfl (st_cf (c_ivAdd (ivAdd (ivPoint 65536) (gIndex_e0 x wave)) (gIndex_e1 x wave)) Tryz.func50 rfl (by decide) rfl rfl rfl ⟨rfl, rfl⟩) (dw_nil ?_))))
  refine aS [.int .i64 ((gIndex_e2 x wave).lo), .int .i64 ((gIndex_e2 x wave).hi), .bool ((gIndex_e2 x wave).no)] agg32 1 rfl rfl rfl rfl rfl rfl (aN (aL (aB 35 (.int .i64 2) rfl rfl rfl (bi_add (by decide)) (aM 15 (.int .i64 2) rfl rfl (aN (ar_round (aQ (aL (aB 16 (.bool true) rfl rfl rfl (bi_lss (by decide)) (aN (aQ (ac_then rfl (ac_skip (aQ (ac_block (aQ (aL (aM 17 (.int .i64 2) rfl rfl (aA 7 (.int .i64 2) rfl rfl (aN ?_))))))))))))))))))))
  refine ac_draw0 (id := 7) [0, 1, 2, 3, 4, 5, 6, 7, 8, 9, 10, 11, 12, 13, 14, 15, 16] [17] _ (by kernel_rfl) follows rfl  (dw_op (d := some 18) _ rfl rfl rfl (st_lda (vs := [.int .i64 ((gIndex_e2 x wave).lo), .int .i64 ((gIndex_e2 x wave).hi), .bool ((gIndex_e2 x wave).no)]) agg32 1 rfl rfl rfl rfl rfl rfl ⟨rfl, rfl⟩) (dw_op (d := some 19) _ rfl rfl rfl (st_move (v := .int .i64 2) rfl rfl ⟨rfl, rfl⟩) (dw_op (d := some 20) _ rfl rfl rfl (st_fa rfl fa29_1 rfl ⟨rfl, rfl⟩) (dw_op (d := some 21) _ rfl rfl rfl (st_ia (v := .pointer (some ⟨g0, 5, none⟩)) rfl rfl rfl (ia27_2 _ _) ⟨rfl, rfl⟩) ?_))))
  refine dw_op (d := some 22) _ rfl rfl rfl (st_lda (vs := [.int .i64 x.b.d2.c, .int .i64 x.b.d2.scale]) agg26 4 rfl rfl rfl rfl rfl rfl ⟨rfl, rfl⟩) (dw_op (d := some 23) _ rfl rfl rfl (st_cf (c_decOf x.b.d2) Tryz.func35 rfl (by decide) rfl rfl rfl ⟨rfl, rfl⟩) (dw_op (d := some 24) _ rfl rfl rfl (st_lda (vs := [.int .i64 ((ivSqr wave).lo), .int .i64 ((ivSqr wave).hi), .bool ((ivSqr wave).no)]) agg32 0 rfl rfl rfl rfl rfl rfl ⟨rfl, rfl⟩) (dw_op (d := some 25) _ rfl rfl rfl (st_cf (c_ivMul (decOf x.b.d2) (ivSqr wave)) Tryz.func52 rfl (by decide) rfl rfl rfl ⟨rfl, rfl⟩) ?_)))
  refine dw_op (d := some 26) _ rfl rfl rfl (st_lda (vs := [.int .i64 ((ivSqr wave).lo), .int .i64 ((ivSqr wave).hi), .bool ((ivSqr wave).no)]) agg32 0 rfl rfl rfl rfl rfl rfl ⟨rfl, rfl⟩) (dw_op (d := some 27) _ rfl rfl rfl (st_move (v := .int .i64 2) rfl rfl ⟨rfl, rfl⟩) (dw_op (d := some 28) _ rfl rfl rfl (st_fa rfl fa29_2 rfl ⟨rfl, rfl⟩) (dw_op (d := some 29) _ rfl rfl rfl (st_ia (v := .pointer (some ⟨g0, 11, none⟩)) rfl rfl rfl (ia27_2 _ _) ⟨rfl, rfl⟩) (dw_op (d := some 30) _ rfl rfl rfl (st_lda (vs := [.int .i64 x.c.d2.c, .int .i64 x.c.d2.scale]) agg26 4 rfl rfl rfl rfl rfl rfl ⟨rfl, rfl⟩) ?_))))
  refine dw_op (d := some 31) _ rfl rfl rfl (st_cf (c_decOf x.c.d2) Tryz.func35 rfl (by decide) rfl rfl rfl ⟨rfl, rfl⟩) (dw_op (d := some 32) _ rfl rfl rfl (st_cf (c_ivSub (ivSqr wave) (decOf x.c.d2)) Tryz.func53 rfl (by decide) rfl rfl rfl ⟨rfl, rfl⟩) (dw_op (d := some 33) _ rfl rfl rfl (st_cf (c_ivDiv (ivMul (decOf x.b.d2) (ivSqr wave)) (ivSub (ivSqr wave) (decOf x.c.d2))) Tryz.func51 rfl (by decide) rfl rfl rfl ⟨rfl, rfl⟩) (dw_op (d := some 34) _ rfl rfl rfl (st_cf (c_ivAdd (gIndex_e2 x wave) (gIndex_e3 x wave)) Tryz.func50 rfl (by decide) rfl rfl rfl ⟨rfl, rfl⟩) (dw_nil ?_))))
  refine aS [.int .i64 ((ivAdd (gIndex_e2 x wave) (gIndex_e3 x wave)).lo), .int .i64 ((ivAdd (gIndex_e2 x wave) (gIndex_e3 x wave)).hi), .bool ((ivAdd (gIndex_e2 x wave) (gIndex_e3 x wave)).no)] agg32 1 rfl rfl rfl rfl rfl rfl (aN (aL (aB 35 (.int .i64 3) rfl rfl rfl (bi_add (by decide)) (aM 15 (.int .i64 3) rfl rfl (aN (ar_round (aQ (aL (aB 16 (.bool false) rfl rfl rfl (bi_lss (by decide)) (aN (aQ (ac_else rfl (ac_exit (aQ (aL (aG 36 [.int .i64 ((ivAdd (gIndex_e2 x wave) (gIndex_e3 x wave)).lo), .int .i64 ((ivAdd (gIndex_e2 x wave) (gIndex_e3 x wave)).hi), .bool ((ivAdd (gIndex_e2 x wave) (gIndex_e3 x wave)).no)] agg32 1 rfl rfl rfl rfl rfl ?_))))))))))))))))
  refine aC 37 (c_ivRoot (ivAdd (gIndex_e2 x wave) (gIndex_e3 x wave))) Tryz.func54 ⟨rfl, by decide⟩ rfl rfl (aS [.int .i64 ((ivRoot (ivAdd (gIndex_e2 x wave) (gIndex_e3 x wave))).lo), .int .i64 ((ivRoot (ivAdd (gIndex_e2 x wave) (gIndex_e3 x wave))).hi), .bool ((ivRoot (ivAdd (gIndex_e2 x wave) (gIndex_e3 x wave))).no)] agg32 2 rfl rfl rfl rfl rfl rfl (aN (ac_ret ?_)))
  exact fin_eq (v := (Iv.v (ivRoot (ivAdd (gIndex_e2 x wave) (gIndex_e3 x wave))))) (by show _ = Iv.v (gIndex x wave); rw [gIndex, h1] <;> rfl) (fin_ret (res_c (vs := [.int .i64 ((ivRoot (ivAdd (gIndex_e2 x wave) (gIndex_e3 x wave))).lo), .int .i64 ((ivRoot (ivAdd (gIndex_e2 x wave) (gIndex_e3 x wave))).hi), .bool ((ivRoot (ivAdd (gIndex_e2 x wave) (gIndex_e3 x wave))).no)]) agg32 2 rfl rfl rfl rfl rfl rfl))
end Go.Proofs.YtalffjplbhelcaaGreatDoor
namespace Go.Proofs.YtalffjplbhelcaaGreatDoor
open Go.RowKit
def nowB (H : List Box) (w : World) : Base := ⟨fun g => ∃ b ∈ H, b.ro = false ∧ b.g = g, w⟩
section
variable {p : Program} {n : Nat} {E : Env} {H H' : List Box} {k pos : Nat} {s : ByteArray} {β : Base} {w w' : World}
theorem Own.now (hO : Own β H w) : Own (nowB H w) H w :=
  ⟨Nat.le_refl _, fun b hb => ⟨by cases hr : b.ro with
    | true => exact .inl rfl
    | false => exact .inr (.inr ⟨b, hb, hr, rfl⟩), (hO.at_ b hb).2⟩, hO.apart⟩
theorem now_may (hO : Own β H w) {g : Nat} (h : (nowB H w).may g) : β.may g := by
  rcases h with h1 | ⟨b, hb, hr, rfl⟩
  · exact .inl (Nat.le_trans hO.size h1)
  · exact (hO.at_ b hb).1.resolve_left (by rw [hr]; exact Bool.false_ne_true)
variable {ops : Array Oper} {l : List Oper} {o : Oper} {R : Nat → Env → List Box → Prop}
end
end Go.Proofs.YtalffjplbhelcaaGreatDoor
namespace Go.Proofs.YtalffjplbhelcaaGreatDoor
open Go.RowKit
section
variable {p : Program} {n : Nat} {o : Oper} {H : List Box} {ρ : Operand → Value} {K : Post}
theorem st_ldam {t t0 m : TypeId} {x : Operand} {g off : Nat} {cs vs : List Value} {ro : Bool} (ha : IsAgg p t m) (ho : o.op = .load t x) (hx : ρ x = .pointer (some ⟨g, off, none⟩)) (hm : (⟨g, cs, t0, ro⟩ : Box) ∈ H) (hn : vs.length = m) (hc : (cs.drop off).take m = vs) (k : K (.agg vs.toArray) H) : Step p ρ o H K := by
  obtain ⟨i, hi⟩ := List.getElem?_of_mem hm
  exact st_lda (g := g) (off := off) (vs := vs) ha i ho hx hi rfl hn hc k
theorem has_self (R : List Box) : Has R R := fun b hb => ⟨b, hb, rfl, rfl, rfl⟩
theorem st_ownT {K : Post} (h : (H.map Box.g).Nodup → Step p ρ o H K) : Step p ρ o H K := fun F β w hO hB => h (by
  have := hO.apart
  rw [List.map_append, List.nodup_append] at this
  exact this.1) F β w hO hB
end
theorem has_tl {H R : List Box} {b : Box} (h : Has H R) : Has (b :: H) R := fun x hx => by
  obtain ⟨c, hc, h1⟩ := h x hx
  exact ⟨c, List.mem_cons_of_mem _ hc, h1⟩
theorem nd_tl {H : List Box} {b : Box} (h : ((b :: H).map Box.g).Nodup) : (H.map Box.g).Nodup := (List.nodup_cons.1 h).2
theorem nd_two {l : List Nat} {g1 g2 : Nat} (h : l.Nodup) (i j : Nat) (h1 : l[i]? = some g1) (h2 : l[j]? = some g2) (hij : i ≠ j) : [g1, g2].Nodup := by
  rw [List.nodup_iff_pairwise_ne, List.pairwise_iff_getElem] at h
  obtain ⟨a1, a2⟩ := List.getElem?_eq_some_iff.1 h1
  obtain ⟨b1, b2⟩ := List.getElem?_eq_some_iff.1 h2
  have hne : g1 ≠ g2 := by
    rcases Nat.lt_or_gt_of_ne hij with hlt | hlt
    · have := h i j a1 b1 hlt
      rw [a2, b2] at this
      exact this
    · have := h j i b1 a1 hlt
      rw [a2, b2] at this
      exact fun e => this e.symm
  simp [hne]
theorem flatT_drop (T : List Tok) (r : List Value) (i : Nat) (t : Tok) (h : T[i]? = some t) : ((flatT T ++ r).drop (0 + i * 3)).take 3 = t.cells := by
  rw [Nat.zero_add]
  apply List.ext_getElem?
  intro j
  rw [List.getElem?_take]
  by_cases hj : j < 3
  · rw [if_pos hj, List.getElem?_drop]
    exact flatT_at T r i t h j hj
  · rw [if_neg hj, List.getElem?_eq_none]
    show 3 ≤ j
    omega
end Go.Proofs.YtalffjplbhelcaaGreatDoor
namespace Go.Proofs.YtalffjplbhelcaaGreatDoor
open Go.RowKit
def Does (p : Program) (f : FuncId) (args : Array Value) (H : List Box) (K : Value → List Box → Prop) : Prop :=
  ∀ w, Own (nowB H w) H w → Calls p f args w fun e w' => ∃ v H', e = .returned v ∧ K v H' ∧ (H'.all fun b => !b.ro) = true ∧ Own (nowB H w) H' w' ∧ Keeps (nowB H w) w'
section
variable {p : Program} {n : Nat} {o : Oper} {H A Hb : List Box} {ρ : Operand → Value} {K : Post}
theorem Own.mid {β : Base} {H H' A : List Box} {w w' : World} (hO : Own β (H ++ A) w) (hB : Keeps β w) (hfree : (H'.all fun b => !b.ro) = true) (hO2 : Own (nowB H w) H' w') (hK : Keeps (nowB H w) w') : Own β (H' ++ A) w' ∧ Keeps β w' := by
  have hOb : Own β H w := Own.sub (List.sublist_append_left _ _) hO
  have hnd := hO.apart
  rw [List.map_append, List.nodup_append] at hnd
  have hout : ∀ b ∈ A, ¬ (nowB H w).may b.g := by
    rintro b hb (h1 | ⟨c, hc, _, e⟩)
    · have := hO.lt (List.mem_append_right _ hb)
      exact absurd this (Nat.not_lt.2 h1)
    · exact hnd.2.2 c.g (List.mem_map.2 ⟨c, hc, rfl⟩) b.g (List.mem_map.2 ⟨b, hb, rfl⟩) e
  have hin : ∀ b ∈ H', (nowB H w).may b.g := fun b hb => (hO2.at_ b hb).1.resolve_left (by
    have := List.all_eq_true.1 hfree b hb
    simpa using this)
  refine ⟨⟨Nat.le_trans hO.size hK.size, ?_, ?_⟩, ⟨hB.base.trans hK.base, fun g hg => by rw [hK.block g (fun h => hg (now_may hOb h))]; exact hB.block g hg⟩⟩
  · intro b hb
    rcases List.mem_append.1 hb with hb | hb
    · exact ⟨(hO2.at_ b hb).1.imp id (now_may hOb), (hO2.at_ b hb).2⟩
    · obtain ⟨h1, h2⟩ := hO.at_ b (List.mem_append_right _ hb)
      exact ⟨h1, by rw [hK.block _ (hout b hb)]; exact h2⟩
  · rw [List.map_append, List.nodup_append]
    refine ⟨hO2.apart, hnd.2.1, ?_⟩
    intro x hx y hy e
    obtain ⟨b, hb, rfl⟩ := List.mem_map.1 hx
    obtain ⟨c, hc, rfl⟩ := List.mem_map.1 hy
    exact hout c hc (e ▸ hin b hb)
theorem st_does {f : FuncId} {x : Operand} {args : List Operand} {ts : Array TypeId} {vs : List Value} {fn : Func} {c : Code} {K0 : Value → List Box → Prop} (h : Does p f vs.toArray Hb K0) (hfn : p.funcs[f]? = some fn) (hb : fn.body = some c) (hnm : (fn.name == "runtime.NumGoroutine") = false)
    (ho : o.op = .call { callee := .value x, args := args.toArray, argTypes := ts }) (hf : ρ x = .func (.func f) #[] #[]) (hv : args.map ρ = vs) (hH : H = Hb ++ A) (k : ∀ v H', K0 v H' → K v (H' ++ A)) : Step p ρ o H K := by
  intro F β w hO hB
  subst hH
  have e : (execOp ρ o).run p w = .ok (.enter f vs.toArray) w := by
    rw [execOp, ho]
    simp only [resolve, hf, Deferred.ofValue, List.map_toArray, hv]
    have hnm' : ¬ fn.name = "runtime.NumGoroutine" := by simpa using hnm
    simp [Sem.run_bind, invoke, callFunc, hfn, hnm', hb]
  rw [e]
  rw [List.append_assoc] at hO
  refine (h w (Own.sub (List.sublist_append_left _ _) hO).now).mono ?_
  rintro e w' ⟨v, H', he, hk, hfree, hO2, hK⟩
  obtain ⟨x1, x2⟩ := Own.mid hO hB hfree hO2 hK
  exact ⟨v, H' ++ A, he, k _ _ hk, by rw [List.append_assoc]; exact x1, x2⟩
theorem does_fin {f : FuncId} {fn : Func} {c : Code} {args : Array Value} (hf : p.funcs[f]? = some fn) (hb : fn.body = some c) (ha : Nat.ble args.size fn.ntmps = true) (h : AC p fn.ntmps c (FinG p fn fn.ntmps K) (envOf args) H) : Does p f args H K := by
  intro w hO
  refine calls_of_wp hf hb ?_
  refine Code.wp_mono ?_ (h (nowB H w) w _ hO (Keeps.refl _ _) (sees_start rfl ha))
  rintro e a w' ⟨E, H', ⟨he, v, N, hk, hsub, hfree, hr⟩, hs, hO2, hK⟩
  rcases he with rfl | rfl
  · exact ⟨hs.defers, v, hr _ _ _ hO2 hs, v, N, rfl, hk, hfree, hO2.sub hsub, hK⟩
  · exact ⟨hs.defers, v, hr _ _ _ hO2 hs, v, N, rfl, hk, hfree, hO2.sub hsub, hK⟩
end
end Go.Proofs.YtalffjplbhelcaaGreatDoor
