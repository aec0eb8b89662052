import Derived.Test.YthngkopcadlciaaMNormalTells3
import Derived.Test.YthngkopcadlciaaMNormalTells5
import Derived.Test.YthngkopcadlciaaMNormalTells1
import Derived.Laws.Append
import Derived.Test.YthngkopcadlciaaMNormalTells2
set_option linter.unusedVariables false
set_option linter.unusedSimpArgs false
namespace Go.Proofs.Ythngkopcadlciaa
open Go.RowKit
attribute [local irreducible] AC AR DWalk
def rEndsDiv_e0 (a : Iv) (b : Iv) : Int := (bif decide (((rDiv a.hi b.lo false).1) < ((rDiv a.lo b.lo false).1)) then ((rDiv a.hi b.lo false).1) else ((rDiv a.lo b.lo false).1))
def rEndsDiv_e1 (a : Iv) (b : Iv) : Int := (bif decide (((rDiv a.hi b.lo true).1) > ((rDiv a.lo b.lo true).1)) then ((rDiv a.hi b.lo true).1) else ((rDiv a.lo b.lo true).1))
def rEndsDiv_e2 (a : Iv) (b : Iv) : Int := (bif decide (((rDiv a.lo b.hi false).1) < (rEndsDiv_e0 a b)) then ((rDiv a.lo b.hi false).1) else (rEndsDiv_e0 a b))
def rEndsDiv_e3 (a : Iv) (b : Iv) : Int := (bif decide (((rDiv a.lo b.hi true).1) > (rEndsDiv_e1 a b)) then ((rDiv a.lo b.hi true).1) else (rEndsDiv_e1 a b))
def rEndsDiv_e4 (a : Iv) (b : Iv) : Int := (bif decide (((rDiv a.hi b.hi false).1) < (rEndsDiv_e2 a b)) then ((rDiv a.hi b.hi false).1) else (rEndsDiv_e2 a b))
def rEndsDiv_e5 (a : Iv) (b : Iv) : Int := (bif decide (((rDiv a.hi b.hi true).1) > (rEndsDiv_e3 a b)) then ((rDiv a.hi b.hi true).1) else (rEndsDiv_e3 a b))
def rEndsDiv (a : Iv) (b : Iv) : Iv := (bif (rDiv a.lo b.lo false).2 then (bif (rDiv a.lo b.lo true).2 then (bif (rDiv a.hi b.lo false).2 then (bif (rDiv a.hi b.lo true).2 then (bif (rDiv a.lo b.hi false).2 then (bif (rDiv a.lo b.hi true).2 then (bif (rDiv a.hi b.hi false).2 then (bif (rDiv a.hi b.hi true).2 then (rOf (rEndsDiv_e4 a b) (rEndsDiv_e5 a b)) else rNone) else rNone) else rNone) else rNone) else rNone) else rNone) else rNone) else rNone)
set_option maxRecDepth 100000 in
set_option maxHeartbeats 4000000 in
theorem c_rEndsDiv (a : Iv) (b : Iv) : Gets Try.prog 114 #[.agg #[.int .i64 a.lo, .int .i64 a.hi, .bool a.no], .agg #[.int .i64 b.lo, .int .i64 b.hi, .bool b.no], .bool true] (Iv.v (rEndsDiv a b)) := by
 refine gets_fin Try.func114 rfl rfl rfl (aQ (aL (ao 3 rfl rfl (st_box (v := .agg #[.int .i64 a.lo, .int .i64 a.hi, .bool a.no]) (cs := [.int .i64 a.lo, .int .i64 a.hi, .bool a.no]) rfl rfl rfl fun g0 => (ao 4 rfl rfl (st_box (v := .agg #[.int .i64 b.lo, .int .i64 b.hi, .bool b.no]) (cs := [.int .i64 b.lo, .int .i64 b.hi, .bool b.no]) rfl rfl rfl fun g1 => (ao 6 rfl rfl (st_new zero26 rfl fun g2 => (aN (aQ (aL (aA 7 (.int .i64 0) rfl rfl (aN (aQ (aL (aA 8 (.int .i64 0) rfl rfl (aN (aQ (aQ (aL (aA 9 (.int .i64 0) rfl rfl (aN (ac_block ?_)))))))))))))))))))))))
 refine ac_rounds 61 (ar_round (aQ (aQ (aL (aM 16 (.int .i64 0) rfl rfl (aB 17 (.bool true) rfl rfl rfl (bi_lss (by decide)) (aN (ac_then rfl (ac_skip (aQ (ac_block (aQ (aL (aF 20 fa26_0 rfl rfl (aD 21 (.int .i64 a.lo) cell3 2 rfl rfl rfl rfl (aA 10 (.int .i64 a.lo) rfl rfl (aN (aQ (aQ (aL (aM 22 (.int .i64 0) rfl rfl (aB 23 (.int .i64 0) rfl rfl rfl (bi_rem (by decide) (by decide)) (aB 24 (.bool false) rfl rfl rfl (bi_eql (by decide)) (aN (ac_else rfl (ac_skip (aQ (aL (aF 27 fa26_0 rfl rfl (aD 28 (.int .i64 b.lo) cell3 1 rfl rfl rfl rfl (aA 11 (.int .i64 b.lo) rfl rfl (aN (aQ (aQ (aL (aM 29 (.int .i64 0) rfl rfl ?_))))))))))))))))))))))))))))))))))))
 refine aB 30 (.int .i64 0) rfl rfl rfl (bi_quo (by decide) (by decide)) (aB 31 (.bool false) rfl rfl rfl (bi_eql (by decide)) (aN (ac_else rfl (ac_skip (aQ (aL (aM 35 (.int .i64 a.lo) rfl rfl (aM 36 (.int .i64 b.lo) rfl rfl (aC 37 (c_rMul a.lo b.lo false) Try.func115 ⟨rfl, by decide⟩ rfl rfl (aM 34 (.tuple #[.int .i64 ((rMul a.lo b.lo false).1), .bool ((rMul a.lo b.lo false).2)]) rfl rfl (aX 38 (.int .i64 ((rMul a.lo b.lo false).1)) rfl rfl rfl (aX 39 (.bool ((rMul a.lo b.lo false).2)) rfl rfl rfl (aA 12 (.int .i64 ((rMul a.lo b.lo false).1)) rfl rfl (aA 13 (.bool ((rMul a.lo b.lo false).2)) rfl rfl (aN (aQ (aL (aM 41 (.int .i64 a.lo) rfl rfl ?_))))))))))))))))))
 refine aM 42 (.int .i64 b.lo) rfl rfl (aC 43 (c_rMul a.lo b.lo true) Try.func115 ⟨rfl, by decide⟩ rfl rfl (aM 40 (.tuple #[.int .i64 ((rMul a.lo b.lo true).1), .bool ((rMul a.lo b.lo true).2)]) rfl rfl (aX 44 (.int .i64 ((rMul a.lo b.lo true).1)) rfl rfl rfl (aX 45 (.bool ((rMul a.lo b.lo true).2)) rfl rfl rfl (aA 14 (.int .i64 ((rMul a.lo b.lo true).1)) rfl rfl (aA 15 (.bool ((rMul a.lo b.lo true).2)) rfl rfl (aN (aQ (aQ (aL (aM 46 (.bool true) rfl rfl (aN (ac_then rfl (aQ (aL (aM 48 (.int .i64 a.lo) rfl rfl (aM 49 (.int .i64 b.lo) rfl rfl (aC 50 (c_rDiv a.lo b.lo false) Try.func132 ⟨rfl, by decide⟩ rfl rfl ?_))))))))))))))))))
 refine aM 47 (.tuple #[.int .i64 ((rDiv a.lo b.lo false).1), .bool ((rDiv a.lo b.lo false).2)]) rfl rfl (aX 51 (.int .i64 ((rDiv a.lo b.lo false).1)) rfl rfl rfl (aX 52 (.bool ((rDiv a.lo b.lo false).2)) rfl rfl rfl (aA 12 (.int .i64 ((rDiv a.lo b.lo false).1)) rfl rfl (aA 13 (.bool ((rDiv a.lo b.lo false).2)) rfl rfl (aN (aL (aM 54 (.int .i64 a.lo) rfl rfl (aM 55 (.int .i64 b.lo) rfl rfl (aC 56 (c_rDiv a.lo b.lo true) Try.func132 ⟨rfl, by decide⟩ rfl rfl (aM 53 (.tuple #[.int .i64 ((rDiv a.lo b.lo true).1), .bool ((rDiv a.lo b.lo true).2)]) rfl rfl (aX 57 (.int .i64 ((rDiv a.lo b.lo true).1)) rfl rfl rfl (aX 58 (.bool ((rDiv a.lo b.lo true).2)) rfl rfl rfl ?_))))))))))))
 refine aA 14 (.int .i64 ((rDiv a.lo b.lo true).1)) rfl rfl (aA 15 (.bool ((rDiv a.lo b.lo true).2)) rfl rfl (aN (aQ (aQ (aL (aM 59 (.bool ((rDiv a.lo b.lo false).2)) rfl rfl (ao 60 rfl rfl (st_un (v := .bool (!((rDiv a.lo b.lo false).2))) rfl rfl (un_not rfl) (aM 61 (.bool (!((rDiv a.lo b.lo false).2))) rfl rfl ?_)))))))))
 refine bool_split ((rDiv a.lo b.lo false).2) (fun h1 => ?_) (fun h1 => ?_)
 ·refine ar_gd (d := (some 62)) (by show ((!((rDiv a.lo b.lo false).2)) == false) = true; rw [h1]; rfl) rfl (st_move (v := .bool ((rDiv a.lo b.lo true).2)) rfl rfl (ar_gd (d := (some 63)) (by show ((!((rDiv a.lo b.lo false).2)) == false) = true; rw [h1]; rfl) rfl (st_un (v := .bool (!((rDiv a.lo b.lo true).2))) rfl rfl (un_not rfl) (ao 64 rfl rfl (st_pkf' (b := !((rDiv a.lo b.lo false).2)) (v := .bool (!((rDiv a.lo b.lo true).2))) (by rw [h1]; rfl) rfl rfl rfl (aN ?_))))))
  refine bool_split ((rDiv a.lo b.lo true).2) (fun h2 => ?_) (fun h2 => ?_)
  ·refine ac_else' (b := !((rDiv a.lo b.lo true).2)) (by rw [h2]; rfl) rfl (ac_skip (aQ (aQ (aL (aM 66 (.int .i64 0) rfl rfl (aB 67 (.bool true) rfl rfl rfl (bi_eql (by decide)) (aM 68 (.bool true) rfl rfl (aK 69 rfl rfl (aK 70 rfl rfl (aK 71 rfl rfl (ao 72 rfl rfl (st_pkt (v := .bool true) rfl rfl rfl (aN (ac_then rfl (aL (aM 73 (.int .i64 ((rDiv a.lo b.lo false).1)) rfl rfl (aA 7 (.int .i64 ((rDiv a.lo b.lo false).1)) rfl rfl (aN (aQ (aL (aM 74 (.int .i64 0) rfl rfl (aB 75 (.bool true) rfl rfl rfl (bi_eql (by decide)) (aM 76 (.bool true) rfl rfl (aK 77 rfl rfl (aK 78 rfl rfl (aK 79 rfl rfl (ao 80 rfl rfl (st_pkt (v := .bool true) rfl rfl rfl ?_))))))))))))))))))))))))))))
   refine aN (ac_then rfl (aL (aM 81 (.int .i64 ((rDiv a.lo b.lo true).1)) rfl rfl (aA 8 (.int .i64 ((rDiv a.lo b.lo true).1)) rfl rfl (aN (aL (aM 18 (.int .i64 0) rfl rfl (aB 19 (.int .i64 1) rfl rfl rfl (bi_add (by decide)) (aA 9 (.int .i64 1) rfl rfl (aN (ar_round (aQ (aQ (aL (aM 16 (.int .i64 1) rfl rfl (aB 17 (.bool true) rfl rfl rfl (bi_lss (by decide)) (aN (ac_then rfl (ac_skip (aQ (ac_block (aQ (aL (aF 20 fa26_0 rfl rfl (aD 21 (.int .i64 a.lo) cell3 2 rfl rfl rfl rfl (aA 10 (.int .i64 a.lo) rfl rfl (aN (aQ (aQ (aL (aM 22 (.int .i64 1) rfl rfl (aB 23 (.int .i64 1) rfl rfl rfl (bi_rem (by decide) (by decide)) ?_))))))))))))))))))))))))))))))))
   refine aB 24 (.bool true) rfl rfl rfl (bi_eql (by decide)) (aN (ac_then rfl (aL (aF 25 fa26_1 rfl rfl (aD 26 (.int .i64 a.hi) cell3 2 rfl rfl rfl rfl (aA 10 (.int .i64 a.hi) rfl rfl (aN (aQ (aL (aF 27 fa26_0 rfl rfl (aD 28 (.int .i64 b.lo) cell3 1 rfl rfl rfl rfl (aA 11 (.int .i64 b.lo) rfl rfl (aN (aQ (aQ (aL (aM 29 (.int .i64 1) rfl rfl (aB 30 (.int .i64 0) rfl rfl rfl (bi_quo (by decide) (by decide)) (aB 31 (.bool false) rfl rfl rfl (bi_eql (by decide)) (aN (ac_else rfl (ac_skip (aQ (aL (aM 35 (.int .i64 a.hi) rfl rfl (aM 36 (.int .i64 b.lo) rfl rfl (aC 37 (c_rMul a.hi b.lo false) Try.func115 ⟨rfl, by decide⟩ rfl rfl ?_)))))))))))))))))))))))))))
   refine aM 34 (.tuple #[.int .i64 ((rMul a.hi b.lo false).1), .bool ((rMul a.hi b.lo false).2)]) rfl rfl (aX 38 (.int .i64 ((rMul a.hi b.lo false).1)) rfl rfl rfl (aX 39 (.bool ((rMul a.hi b.lo false).2)) rfl rfl rfl (aA 12 (.int .i64 ((rMul a.hi b.lo false).1)) rfl rfl (aA 13 (.bool ((rMul a.hi b.lo false).2)) rfl rfl (aN (aQ (aL (aM 41 (.int .i64 a.hi) rfl rfl (aM 42 (.int .i64 b.lo) rfl rfl (aC 43 (c_rMul a.hi b.lo true) Try.func115 ⟨rfl, by decide⟩ rfl rfl (aM 40 (.tuple #[.int .i64 ((rMul a.hi b.lo true).1), .bool ((rMul a.hi b.lo true).2)]) rfl rfl (aX 44 (.int .i64 ((rMul a.hi b.lo true).1)) rfl rfl rfl ?_))))))))))))
   refine aX 45 (.bool ((rMul a.hi b.lo true).2)) rfl rfl rfl (aA 14 (.int .i64 ((rMul a.hi b.lo true).1)) rfl rfl (aA 15 (.bool ((rMul a.hi b.lo true).2)) rfl rfl (aN (aQ (aQ (aL (aM 46 (.bool true) rfl rfl (aN (ac_then rfl (aQ (aL (aM 48 (.int .i64 a.hi) rfl rfl (aM 49 (.int .i64 b.lo) rfl rfl (aC 50 (c_rDiv a.hi b.lo false) Try.func132 ⟨rfl, by decide⟩ rfl rfl (aM 47 (.tuple #[.int .i64 ((rDiv a.hi b.lo false).1), .bool ((rDiv a.hi b.lo false).2)]) rfl rfl (aX 51 (.int .i64 ((rDiv a.hi b.lo false).1)) rfl rfl rfl (aX 52 (.bool ((rDiv a.hi b.lo false).2)) rfl rfl rfl (aA 12 (.int .i64 ((rDiv a.hi b.lo false).1)) rfl rfl ?_))))))))))))))))))
   refine aA 13 (.bool ((rDiv a.hi b.lo false).2)) rfl rfl (aN (aL (aM 54 (.int .i64 a.hi) rfl rfl (aM 55 (.int .i64 b.lo) rfl rfl (aC 56 (c_rDiv a.hi b.lo true) Try.func132 ⟨rfl, by decide⟩ rfl rfl (aM 53 (.tuple #[.int .i64 ((rDiv a.hi b.lo true).1), .bool ((rDiv a.hi b.lo true).2)]) rfl rfl (aX 57 (.int .i64 ((rDiv a.hi b.lo true).1)) rfl rfl rfl (aX 58 (.bool ((rDiv a.hi b.lo true).2)) rfl rfl rfl (aA 14 (.int .i64 ((rDiv a.hi b.lo true).1)) rfl rfl (aA 15 (.bool ((rDiv a.hi b.lo true).2)) rfl rfl (aN (aQ (aQ (aL (aM 59 (.bool ((rDiv a.hi b.lo false).2)) rfl rfl (ao 60 rfl rfl (st_un (v := .bool (!((rDiv a.hi b.lo false).2))) rfl rfl (un_not rfl) ?_)))))))))))))))))
   refine aM 61 (.bool (!((rDiv a.hi b.lo false).2))) rfl rfl ?_
   refine bool_split ((rDiv a.hi b.lo false).2) (fun h3 => ?_) (fun h3 => ?_)
   ·refine ar_gd (d := (some 62)) (by show ((!((rDiv a.hi b.lo false).2)) == false) = true; rw [h3]; rfl) rfl (st_move (v := .bool ((rDiv a.hi b.lo true).2)) rfl rfl (ar_gd (d := (some 63)) (by show ((!((rDiv a.hi b.lo false).2)) == false) = true; rw [h3]; rfl) rfl (st_un (v := .bool (!((rDiv a.hi b.lo true).2))) rfl rfl (un_not rfl) (ao 64 rfl rfl (st_pkf' (b := !((rDiv a.hi b.lo false).2)) (v := .bool (!((rDiv a.hi b.lo true).2))) (by rw [h3]; rfl) rfl rfl rfl (aN ?_))))))
    refine bool_split ((rDiv a.hi b.lo true).2) (fun h4 => ?_) (fun h4 => ?_)
    ·refine ac_else' (b := !((rDiv a.hi b.lo true).2)) (by rw [h4]; rfl) rfl (ac_skip (aQ (aQ (aL (aM 66 (.int .i64 1) rfl rfl (aB 67 (.bool false) rfl rfl rfl (bi_eql (by decide)) (aM 68 (.bool false) rfl rfl (ar_gd (d := (some 69)) rfl rfl (st_move (v := .int .i64 ((rDiv a.hi b.lo false).1)) rfl rfl (ar_gd (d := (some 70)) rfl rfl (st_move (v := .int .i64 ((rDiv a.lo b.lo false).1)) rfl rfl (ar_gd (d := (some 71)) rfl rfl (st_bi (r := .bool (decide (((rDiv a.hi b.lo false).1) < ((rDiv a.lo b.lo false).1)))) rfl rfl rfl (bi_lss rfl) (ao 72 rfl rfl (st_pkf (v := .bool (decide (((rDiv a.hi b.lo false).1) < ((rDiv a.lo b.lo false).1)))) rfl rfl rfl (aN ?_))))))))))))))))
     refine ac_mergeE (fun E9 => ((Env.put E9 (some 73) (.int .i64 ((rDiv a.hi b.lo false).1))).put (some 7) (.int .i64 ((rDiv a.hi b.lo false).1)))) (fun E9 => ((Env.put E9 (some 73) (.int .i64 (rEndsDiv_e0 a b))).put (some 7) (.int .i64 (rEndsDiv_e0 a b)))) (b := decide (((rDiv a.hi b.lo false).1) < ((rDiv a.lo b.lo false).1))) rfl (fun hm => ?_) (fun hm => ?_) (fun hm => ?_) ?_
     ·refine aL (aM 73 (.int .i64 ((rDiv a.hi b.lo false).1)) rfl rfl (aA 7 (.int .i64 ((rDiv a.hi b.lo false).1)) rfl rfl (aN ?_)))
      exact ⟨rfl, rfl, rfl⟩
     ·unfold rEndsDiv_e0; rw [hm]; rfl
     ·unfold rEndsDiv_e0; rw [hm]; exact ((put_self rfl).trans (put_self rfl))
     refine aQ (aL (aM 74 (.int .i64 1) rfl rfl (aB 75 (.bool false) rfl rfl rfl (bi_eql (by decide)) (aM 76 (.bool false) rfl rfl (ar_gd (d := (some 77)) rfl rfl (st_move (v := .int .i64 ((rDiv a.hi b.lo true).1)) rfl rfl (ar_gd (d := (some 78)) rfl rfl (st_move (v := .int .i64 ((rDiv a.lo b.lo true).1)) rfl rfl (ar_gd (d := (some 79)) rfl rfl (st_bi (r := .bool (decide (((rDiv a.hi b.lo true).1) > ((rDiv a.lo b.lo true).1)))) rfl rfl rfl (bi_gtr rfl) (ao 80 rfl rfl (st_pkf (v := .bool (decide (((rDiv a.hi b.lo true).1) > ((rDiv a.lo b.lo true).1)))) rfl rfl rfl (aN ?_)))))))))))))
     refine ac_mergeE (fun E9 => ((Env.put E9 (some 81) (.int .i64 ((rDiv a.hi b.lo true).1))).put (some 8) (.int .i64 ((rDiv a.hi b.lo true).1)))) (fun E9 => ((Env.put E9 (some 81) (.int .i64 (rEndsDiv_e1 a b))).put (some 8) (.int .i64 (rEndsDiv_e1 a b)))) (b := decide (((rDiv a.hi b.lo true).1) > ((rDiv a.lo b.lo true).1))) rfl (fun hm => ?_) (fun hm => ?_) (fun hm => ?_) ?_
     ·refine aL (aM 81 (.int .i64 ((rDiv a.hi b.lo true).1)) rfl rfl (aA 8 (.int .i64 ((rDiv a.hi b.lo true).1)) rfl rfl (aN ?_)))
      exact ⟨rfl, rfl, rfl⟩
     ·unfold rEndsDiv_e1; rw [hm]; rfl
     ·unfold rEndsDiv_e1; rw [hm]; exact ((put_self rfl).trans (put_self rfl))
     refine aL (aM 18 (.int .i64 1) rfl rfl (aB 19 (.int .i64 2) rfl rfl rfl (bi_add (by decide)) (aA 9 (.int .i64 2) rfl rfl (aN (ar_round (aQ (aQ (aL (aM 16 (.int .i64 2) rfl rfl (aB 17 (.bool true) rfl rfl rfl (bi_lss (by decide)) (aN (ac_then rfl (ac_skip (aQ (ac_block (aQ (aL (aF 20 fa26_0 rfl rfl (aD 21 (.int .i64 a.lo) cell3 2 rfl rfl rfl rfl (aA 10 (.int .i64 a.lo) rfl rfl (aN (aQ (aQ (aL (aM 22 (.int .i64 2) rfl rfl (aB 23 (.int .i64 0) rfl rfl rfl (bi_rem (by decide) (by decide)) (aB 24 (.bool false) rfl rfl rfl (bi_eql (by decide)) (aN (ac_else rfl (ac_skip (aQ (aL (aF 27 fa26_0 rfl rfl ?_)))))))))))))))))))))))))))))))))
     refine aD 28 (.int .i64 b.lo) cell3 1 rfl rfl rfl rfl (aA 11 (.int .i64 b.lo) rfl rfl (aN (aQ (aQ (aL (aM 29 (.int .i64 2) rfl rfl (aB 30 (.int .i64 1) rfl rfl rfl (bi_quo (by decide) (by decide)) (aB 31 (.bool true) rfl rfl rfl (bi_eql (by decide)) (aN (ac_then rfl (aL (aF 32 fa26_1 rfl rfl (aD 33 (.int .i64 b.hi) cell3 1 rfl rfl rfl rfl (aA 11 (.int .i64 b.hi) rfl rfl (aN (aQ (aL (aM 35 (.int .i64 a.lo) rfl rfl (aM 36 (.int .i64 b.hi) rfl rfl (aC 37 (c_rMul a.lo b.hi false) Try.func115 ⟨rfl, by decide⟩ rfl rfl (aM 34 (.tuple #[.int .i64 ((rMul a.lo b.hi false).1), .bool ((rMul a.lo b.hi false).2)]) rfl rfl ?_)))))))))))))))))))))
     refine aX 38 (.int .i64 ((rMul a.lo b.hi false).1)) rfl rfl rfl (aX 39 (.bool ((rMul a.lo b.hi false).2)) rfl rfl rfl (aA 12 (.int .i64 ((rMul a.lo b.hi false).1)) rfl rfl (aA 13 (.bool ((rMul a.lo b.hi false).2)) rfl rfl (aN (aQ (aL (aM 41 (.int .i64 a.lo) rfl rfl (aM 42 (.int .i64 b.hi) rfl rfl (aC 43 (c_rMul a.lo b.hi true) Try.func115 ⟨rfl, by decide⟩ rfl rfl (aM 40 (.tuple #[.int .i64 ((rMul a.lo b.hi true).1), .bool ((rMul a.lo b.hi true).2)]) rfl rfl (aX 44 (.int .i64 ((rMul a.lo b.hi true).1)) rfl rfl rfl (aX 45 (.bool ((rMul a.lo b.hi true).2)) rfl rfl rfl (aA 14 (.int .i64 ((rMul a.lo b.hi true).1)) rfl rfl ?_)))))))))))))
     refine aA 15 (.bool ((rMul a.lo b.hi true).2)) rfl rfl (aN (aQ (aQ (aL (aM 46 (.bool true) rfl rfl (aN (ac_then rfl (aQ (aL (aM 48 (.int .i64 a.lo) rfl rfl (aM 49 (.int .i64 b.hi) rfl rfl (aC 50 (c_rDiv a.lo b.hi false) Try.func132 ⟨rfl, by decide⟩ rfl rfl (aM 47 (.tuple #[.int .i64 ((rDiv a.lo b.hi false).1), .bool ((rDiv a.lo b.hi false).2)]) rfl rfl (aX 51 (.int .i64 ((rDiv a.lo b.hi false).1)) rfl rfl rfl (aX 52 (.bool ((rDiv a.lo b.hi false).2)) rfl rfl rfl (aA 12 (.int .i64 ((rDiv a.lo b.hi false).1)) rfl rfl (aA 13 (.bool ((rDiv a.lo b.hi false).2)) rfl rfl (aN (aL (aM 54 (.int .i64 a.lo) rfl rfl (aM 55 (.int .i64 b.hi) rfl rfl ?_)))))))))))))))))))))
     refine aC 56 (c_rDiv a.lo b.hi true) Try.func132 ⟨rfl, by decide⟩ rfl rfl (aM 53 (.tuple #[.int .i64 ((rDiv a.lo b.hi true).1), .bool ((rDiv a.lo b.hi true).2)]) rfl rfl (aX 57 (.int .i64 ((rDiv a.lo b.hi true).1)) rfl rfl rfl (aX 58 (.bool ((rDiv a.lo b.hi true).2)) rfl rfl rfl (aA 14 (.int .i64 ((rDiv a.lo b.hi true).1)) rfl rfl (aA 15 (.bool ((rDiv a.lo b.hi true).2)) rfl rfl (aN (aQ (aQ (aL (aM 59 (.bool ((rDiv a.lo b.hi false).2)) rfl rfl (ao 60 rfl rfl (st_un (v := .bool (!((rDiv a.lo b.hi false).2))) rfl rfl (un_not rfl) (aM 61 (.bool (!((rDiv a.lo b.hi false).2))) rfl rfl ?_)))))))))))))
     refine bool_split ((rDiv a.lo b.hi false).2) (fun h5 => ?_) (fun h5 => ?_)
     ·refine ar_gd (d := (some 62)) (by show ((!((rDiv a.lo b.hi false).2)) == false) = true; rw [h5]; rfl) rfl (st_move (v := .bool ((rDiv a.lo b.hi true).2)) rfl rfl (ar_gd (d := (some 63)) (by show ((!((rDiv a.lo b.hi false).2)) == false) = true; rw [h5]; rfl) rfl (st_un (v := .bool (!((rDiv a.lo b.hi true).2))) rfl rfl (un_not rfl) (ao 64 rfl rfl (st_pkf' (b := !((rDiv a.lo b.hi false).2)) (v := .bool (!((rDiv a.lo b.hi true).2))) (by rw [h5]; rfl) rfl rfl rfl (aN ?_))))))
      refine bool_split ((rDiv a.lo b.hi true).2) (fun h6 => ?_) (fun h6 => ?_)
      ·refine ac_else' (b := !((rDiv a.lo b.hi true).2)) (by rw [h6]; rfl) rfl (ac_skip (aQ (aQ (aL (aM 66 (.int .i64 2) rfl rfl (aB 67 (.bool false) rfl rfl rfl (bi_eql (by decide)) (aM 68 (.bool false) rfl rfl (ar_gd (d := (some 69)) rfl rfl (st_move (v := .int .i64 ((rDiv a.lo b.hi false).1)) rfl rfl (ar_gd (d := (some 70)) rfl rfl (st_move (v := .int .i64 (rEndsDiv_e0 a b)) rfl rfl (ar_gd (d := (some 71)) rfl rfl (st_bi (r := .bool (decide (((rDiv a.lo b.hi false).1) < (rEndsDiv_e0 a b)))) rfl rfl rfl (bi_lss rfl) (ao 72 rfl rfl (st_pkf (v := .bool (decide (((rDiv a.lo b.hi false).1) < (rEndsDiv_e0 a b)))) rfl rfl rfl (aN ?_))))))))))))))))
       refine ac_mergeE (fun E9 => ((Env.put E9 (some 73) (.int .i64 ((rDiv a.lo b.hi false).1))).put (some 7) (.int .i64 ((rDiv a.lo b.hi false).1)))) (fun E9 => ((Env.put E9 (some 73) (.int .i64 (rEndsDiv_e2 a b))).put (some 7) (.int .i64 (rEndsDiv_e2 a b)))) (b := decide (((rDiv a.lo b.hi false).1) < (rEndsDiv_e0 a b))) rfl (fun hm => ?_) (fun hm => ?_) (fun hm => ?_) ?_
       ·refine aL (aM 73 (.int .i64 ((rDiv a.lo b.hi false).1)) rfl rfl (aA 7 (.int .i64 ((rDiv a.lo b.hi false).1)) rfl rfl (aN ?_)))
        exact ⟨rfl, rfl, rfl⟩
       ·unfold rEndsDiv_e2; rw [hm]; rfl
       ·unfold rEndsDiv_e2; rw [hm]; exact ((put_self rfl).trans (put_self rfl))
       refine aQ (aL (aM 74 (.int .i64 2) rfl rfl (aB 75 (.bool false) rfl rfl rfl (bi_eql (by decide)) (aM 76 (.bool false) rfl rfl (ar_gd (d := (some 77)) rfl rfl (st_move (v := .int .i64 ((rDiv a.lo b.hi true).1)) rfl rfl (ar_gd (d := (some 78)) rfl rfl (st_move (v := .int .i64 (rEndsDiv_e1 a b)) rfl rfl (ar_gd (d := (some 79)) rfl rfl (st_bi (r := .bool (decide (((rDiv a.lo b.hi true).1) > (rEndsDiv_e1 a b)))) rfl rfl rfl (bi_gtr rfl) (ao 80 rfl rfl (st_pkf (v := .bool (decide (((rDiv a.lo b.hi true).1) > (rEndsDiv_e1 a b)))) rfl rfl rfl (aN ?_)))))))))))))
       refine ac_mergeE (fun E9 => ((Env.put E9 (some 81) (.int .i64 ((rDiv a.lo b.hi true).1))).put (some 8) (.int .i64 ((rDiv a.lo b.hi true).1)))) (fun E9 => ((Env.put E9 (some 81) (.int .i64 (rEndsDiv_e3 a b))).put (some 8) (.int .i64 (rEndsDiv_e3 a b)))) (b := decide (((rDiv a.lo b.hi true).1) > (rEndsDiv_e1 a b))) rfl (fun hm => ?_) (fun hm => ?_) (fun hm => ?_) ?_
       ·refine aL (aM 81 (.int .i64 ((rDiv a.lo b.hi true).1)) rfl rfl (aA 8 (.int .i64 ((rDiv a.lo b.hi true).1)) rfl rfl (aN ?_)))
        exact ⟨rfl, rfl, rfl⟩
       ·unfold rEndsDiv_e3; rw [hm]; rfl
       ·unfold rEndsDiv_e3; rw [hm]; exact ((put_self rfl).trans (put_self rfl))
       refine aL (aM 18 (.int .i64 2) rfl rfl (aB 19 (.int .i64 3) rfl rfl rfl (bi_add (by decide)) (aA 9 (.int .i64 3) rfl rfl (aN (ar_round (aQ (aQ (aL (aM 16 (.int .i64 3) rfl rfl (aB 17 (.bool true) rfl rfl rfl (bi_lss (by decide)) (aN (ac_then rfl (ac_skip (aQ (ac_block (aQ (aL (aF 20 fa26_0 rfl rfl (aD 21 (.int .i64 a.lo) cell3 2 rfl rfl rfl rfl (aA 10 (.int .i64 a.lo) rfl rfl (aN (aQ (aQ (aL (aM 22 (.int .i64 3) rfl rfl (aB 23 (.int .i64 1) rfl rfl rfl (bi_rem (by decide) (by decide)) (aB 24 (.bool true) rfl rfl rfl (bi_eql (by decide)) (aN (ac_then rfl (aL (aF 25 fa26_1 rfl rfl ?_)))))))))))))))))))))))))))))))
       refine aD 26 (.int .i64 a.hi) cell3 2 rfl rfl rfl rfl (aA 10 (.int .i64 a.hi) rfl rfl (aN (aQ (aL (aF 27 fa26_0 rfl rfl (aD 28 (.int .i64 b.lo) cell3 1 rfl rfl rfl rfl (aA 11 (.int .i64 b.lo) rfl rfl (aN (aQ (aQ (aL (aM 29 (.int .i64 3) rfl rfl (aB 30 (.int .i64 1) rfl rfl rfl (bi_quo (by decide) (by decide)) (aB 31 (.bool true) rfl rfl rfl (bi_eql (by decide)) (aN (ac_then rfl (aL (aF 32 fa26_1 rfl rfl (aD 33 (.int .i64 b.hi) cell3 1 rfl rfl rfl rfl (aA 11 (.int .i64 b.hi) rfl rfl (aN (aQ (aL (aM 35 (.int .i64 a.hi) rfl rfl (aM 36 (.int .i64 b.hi) rfl rfl (aC 37 (c_rMul a.hi b.hi false) Try.func115 ⟨rfl, by decide⟩ rfl rfl ?_))))))))))))))))))))))))))
       refine aM 34 (.tuple #[.int .i64 ((rMul a.hi b.hi false).1), .bool ((rMul a.hi b.hi false).2)]) rfl rfl (aX 38 (.int .i64 ((rMul a.hi b.hi false).1)) rfl rfl rfl (aX 39 (.bool ((rMul a.hi b.hi false).2)) rfl rfl rfl (aA 12 (.int .i64 ((rMul a.hi b.hi false).1)) rfl rfl (aA 13 (.bool ((rMul a.hi b.hi false).2)) rfl rfl (aN (aQ (aL (aM 41 (.int .i64 a.hi) rfl rfl (aM 42 (.int .i64 b.hi) rfl rfl (aC 43 (c_rMul a.hi b.hi true) Try.func115 ⟨rfl, by decide⟩ rfl rfl (aM 40 (.tuple #[.int .i64 ((rMul a.hi b.hi true).1), .bool ((rMul a.hi b.hi true).2)]) rfl rfl (aX 44 (.int .i64 ((rMul a.hi b.hi true).1)) rfl rfl rfl ?_))))))))))))
       refine aX 45 (.bool ((rMul a.hi b.hi true).2)) rfl rfl rfl (aA 14 (.int .i64 ((rMul a.hi b.hi true).1)) rfl rfl (aA 15 (.bool ((rMul a.hi b.hi true).2)) rfl rfl (aN (aQ (aQ (aL (aM 46 (.bool true) rfl rfl (aN (ac_then rfl (aQ (aL (aM 48 (.int .i64 a.hi) rfl rfl (aM 49 (.int .i64 b.hi) rfl rfl (aC 50 (c_rDiv a.hi b.hi false) Try.func132 ⟨rfl, by decide⟩ rfl rfl (aM 47 (.tuple #[.int .i64 ((rDiv a.hi b.hi false).1), .bool ((rDiv a.hi b.hi false).2)]) rfl rfl (aX 51 (.int .i64 ((rDiv a.hi b.hi false).1)) rfl rfl rfl (aX 52 (.bool ((rDiv a.hi b.hi false).2)) rfl rfl rfl (aA 12 (.int .i64 ((rDiv a.hi b.hi false).1)) rfl rfl ?_))))))))))))))))))
       refine aA 13 (.bool ((rDiv a.hi b.hi false).2)) rfl rfl (aN (aL (aM 54 (.int .i64 a.hi) rfl rfl (aM 55 (.int .i64 b.hi) rfl rfl (aC 56 (c_rDiv a.hi b.hi true) Try.func132 ⟨rfl, by decide⟩ rfl rfl (aM 53 (.tuple #[.int .i64 ((rDiv a.hi b.hi true).1), .bool ((rDiv a.hi b.hi true).2)]) rfl rfl (aX 57 (.int .i64 ((rDiv a.hi b.hi true).1)) rfl rfl rfl (aX 58 (.bool ((rDiv a.hi b.hi true).2)) rfl rfl rfl (aA 14 (.int .i64 ((rDiv a.hi b.hi true).1)) rfl rfl (aA 15 (.bool ((rDiv a.hi b.hi true).2)) rfl rfl (aN (aQ (aQ (aL (aM 59 (.bool ((rDiv a.hi b.hi false).2)) rfl rfl ?_)))))))))))))))
       refine ao 60 rfl rfl (st_un (v := .bool (!((rDiv a.hi b.hi false).2))) rfl rfl (un_not rfl) (aM 61 (.bool (!((rDiv a.hi b.hi false).2))) rfl rfl ?_))
       refine bool_split ((rDiv a.hi b.hi false).2) (fun h7 => ?_) (fun h7 => ?_)
       ·refine ar_gd (d := (some 62)) (by show ((!((rDiv a.hi b.hi false).2)) == false) = true; rw [h7]; rfl) rfl (st_move (v := .bool ((rDiv a.hi b.hi true).2)) rfl rfl (ar_gd (d := (some 63)) (by show ((!((rDiv a.hi b.hi false).2)) == false) = true; rw [h7]; rfl) rfl (st_un (v := .bool (!((rDiv a.hi b.hi true).2))) rfl rfl (un_not rfl) (ao 64 rfl rfl (st_pkf' (b := !((rDiv a.hi b.hi false).2)) (v := .bool (!((rDiv a.hi b.hi true).2))) (by rw [h7]; rfl) rfl rfl rfl (aN ?_))))))
        refine bool_split ((rDiv a.hi b.hi true).2) (fun h8 => ?_) (fun h8 => ?_)
        ·refine ac_else' (b := !((rDiv a.hi b.hi true).2)) (by rw [h8]; rfl) rfl (ac_skip (aQ (aQ (aL (aM 66 (.int .i64 3) rfl rfl (aB 67 (.bool false) rfl rfl rfl (bi_eql (by decide)) (aM 68 (.bool false) rfl rfl (ar_gd (d := (some 69)) rfl rfl (st_move (v := .int .i64 ((rDiv a.hi b.hi false).1)) rfl rfl (ar_gd (d := (some 70)) rfl rfl (st_move (v := .int .i64 (rEndsDiv_e2 a b)) rfl rfl (ar_gd (d := (some 71)) rfl rfl (st_bi (r := .bool (decide (((rDiv a.hi b.hi false).1) < (rEndsDiv_e2 a b)))) rfl rfl rfl (bi_lss rfl) (ao 72 rfl rfl (st_pkf (v := .bool (decide (((rDiv a.hi b.hi false).1) < (rEndsDiv_e2 a b)))) rfl rfl rfl (aN ?_))))))))))))))))
         refine ac_mergeE (fun E9 => ((Env.put E9 (some 73) (.int .i64 ((rDiv a.hi b.hi false).1))).put (some 7) (.int .i64 ((rDiv a.hi b.hi false).1)))) (fun E9 => ((Env.put E9 (some 73) (.int .i64 (rEndsDiv_e4 a b))).put (some 7) (.int .i64 (rEndsDiv_e4 a b)))) (b := decide (((rDiv a.hi b.hi false).1) < (rEndsDiv_e2 a b))) rfl (fun hm => ?_) (fun hm => ?_) (fun hm => ?_) ?_
         ·refine aL (aM 73 (.int .i64 ((rDiv a.hi b.hi false).1)) rfl rfl (aA 7 (.int .i64 ((rDiv a.hi b.hi false).1)) rfl rfl (aN ?_)))
          exact ⟨rfl, rfl, rfl⟩
         ·unfold rEndsDiv_e4; rw [hm]; rfl
         ·unfold rEndsDiv_e4; rw [hm]; exact ((put_self rfl).trans (put_self rfl))
         refine aQ (aL (aM 74 (.int .i64 3) rfl rfl (aB 75 (.bool false) rfl rfl rfl (bi_eql (by decide)) (aM 76 (.bool false) rfl rfl (ar_gd (d := (some 77)) rfl rfl (st_move (v := .int .i64 ((rDiv a.hi b.hi true).1)) rfl rfl (ar_gd (d := (some 78)) rfl rfl (st_move (v := .int .i64 (rEndsDiv_e3 a b)) rfl rfl (ar_gd (d := (some 79)) rfl rfl (st_bi (r := .bool (decide (((rDiv a.hi b.hi true).1) > (rEndsDiv_e3 a b)))) rfl rfl rfl (bi_gtr rfl) (ao 80 rfl rfl (st_pkf (v := .bool (decide (((rDiv a.hi b.hi true).1) > (rEndsDiv_e3 a b)))) rfl rfl rfl (aN ?_)))))))))))))
         refine ac_mergeE (fun E9 => ((Env.put E9 (some 81) (.int .i64 ((rDiv a.hi b.hi true).1))).put (some 8) (.int .i64 ((rDiv a.hi b.hi true).1)))) (fun E9 => ((Env.put E9 (some 81) (.int .i64 (rEndsDiv_e5 a b))).put (some 8) (.int .i64 (rEndsDiv_e5 a b)))) (b := decide (((rDiv a.hi b.hi true).1) > (rEndsDiv_e3 a b))) rfl (fun hm => ?_) (fun hm => ?_) (fun hm => ?_) ?_
         ·refine aL (aM 81 (.int .i64 ((rDiv a.hi b.hi true).1)) rfl rfl (aA 8 (.int .i64 ((rDiv a.hi b.hi true).1)) rfl rfl (aN ?_)))
          exact ⟨rfl, rfl, rfl⟩
         ·unfold rEndsDiv_e5; rw [hm]; rfl
         ·unfold rEndsDiv_e5; rw [hm]; exact ((put_self rfl).trans (put_self rfl))
         refine aL (aM 18 (.int .i64 3) rfl rfl (aB 19 (.int .i64 4) rfl rfl rfl (bi_add (by decide)) (aA 9 (.int .i64 4) rfl rfl (aN (ar_round (aQ (aQ (aL (aM 16 (.int .i64 4) rfl rfl (aB 17 (.bool false) rfl rfl rfl (bi_lss (by decide)) (aN (ac_else rfl (ac_exit (aQ (aL (aM 82 (.int .i64 (rEndsDiv_e4 a b)) rfl rfl (aM 83 (.int .i64 (rEndsDiv_e5 a b)) rfl rfl (aC 84 (c_rOf (rEndsDiv_e4 a b) (rEndsDiv_e5 a b)) Try.func112 ⟨rfl, by decide⟩ rfl rfl ?_))))))))))))))))))
         refine aS [.int .i64 ((rOf (rEndsDiv_e4 a b) (rEndsDiv_e5 a b)).lo), .int .i64 ((rOf (rEndsDiv_e4 a b) (rEndsDiv_e5 a b)).hi), .bool ((rOf (rEndsDiv_e4 a b) (rEndsDiv_e5 a b)).no)] agg26 0 rfl rfl rfl rfl rfl rfl (aN (ac_ret ?_))
         exact fin_eq (v := .agg #[.int .i64 ((rOf (rEndsDiv_e4 a b) (rEndsDiv_e5 a b)).lo), .int .i64 ((rOf (rEndsDiv_e4 a b) (rEndsDiv_e5 a b)).hi), .bool ((rOf (rEndsDiv_e4 a b) (rEndsDiv_e5 a b)).no)]) (by show _ = Iv.v (rEndsDiv a b); rw [rEndsDiv, h8, h7, h6, h5, h4, h3, h2, h1] <;> rfl) (fin_ret (res_c (vs := [.int .i64 ((rOf (rEndsDiv_e4 a b) (rEndsDiv_e5 a b)).lo), .int .i64 ((rOf (rEndsDiv_e4 a b) (rEndsDiv_e5 a b)).hi), .bool ((rOf (rEndsDiv_e4 a b) (rEndsDiv_e5 a b)).no)]) agg26 0 rfl rfl rfl rfl rfl rfl))
        ·refine ac_then' (b := !((rDiv a.hi b.hi true).2)) (by rw [h8]; rfl) rfl (aQ (aL (aC 65 c_rNone Try.func111 ⟨rfl, by decide⟩ rfl rfl (aS [.int .i64 rNone.lo, .int .i64 rNone.hi, .bool rNone.no] agg26 0 rfl rfl rfl rfl rfl rfl (aN (ac_ret (fin_eq (v := .agg #[.int .i64 rNone.lo, .int .i64 rNone.hi, .bool rNone.no]) (by show _ = Iv.v (rEndsDiv a b); rw [rEndsDiv, h8, h7, h6, h5, h4, h3, h2, h1] <;> rfl) (fin_ret (res_c (vs := [.int .i64 rNone.lo, .int .i64 rNone.hi, .bool rNone.no]) agg26 0 rfl rfl rfl rfl rfl rfl)))))))))
       ·refine aK 62 (by show ((!((rDiv a.hi b.hi false).2)) == false) = false; rw [h7]; rfl) rfl (aK 63 (by show ((!((rDiv a.hi b.hi false).2)) == false) = false; rw [h7]; rfl) rfl (ao 64 rfl rfl (st_pkt' (b := !((rDiv a.hi b.hi false).2)) (v := .bool true) (by rw [h7]; rfl) rfl rfl rfl (aN (ac_then rfl (aQ (aL (aC 65 c_rNone Try.func111 ⟨rfl, by decide⟩ rfl rfl (aS [.int .i64 rNone.lo, .int .i64 rNone.hi, .bool rNone.no] agg26 0 rfl rfl rfl rfl rfl rfl (aN (ac_ret ?_)))))))))))
        exact fin_eq (v := .agg #[.int .i64 rNone.lo, .int .i64 rNone.hi, .bool rNone.no]) (by show _ = Iv.v (rEndsDiv a b); rw [rEndsDiv, h7, h6, h5, h4, h3, h2, h1] <;> rfl) (fin_ret (res_c (vs := [.int .i64 rNone.lo, .int .i64 rNone.hi, .bool rNone.no]) agg26 0 rfl rfl rfl rfl rfl rfl))
      ·refine ac_then' (b := !((rDiv a.lo b.hi true).2)) (by rw [h6]; rfl) rfl (aQ (aL (aC 65 c_rNone Try.func111 ⟨rfl, by decide⟩ rfl rfl (aS [.int .i64 rNone.lo, .int .i64 rNone.hi, .bool rNone.no] agg26 0 rfl rfl rfl rfl rfl rfl (aN (ac_ret (fin_eq (v := .agg #[.int .i64 rNone.lo, .int .i64 rNone.hi, .bool rNone.no]) (by show _ = Iv.v (rEndsDiv a b); rw [rEndsDiv, h6, h5, h4, h3, h2, h1] <;> rfl) (fin_ret (res_c (vs := [.int .i64 rNone.lo, .int .i64 rNone.hi, .bool rNone.no]) agg26 0 rfl rfl rfl rfl rfl rfl)))))))))
     ·refine aK 62 (by show ((!((rDiv a.lo b.hi false).2)) == false) = false; rw [h5]; rfl) rfl (aK 63 (by show ((!((rDiv a.lo b.hi false).2)) == false) = false; rw [h5]; rfl) rfl (ao 64 rfl rfl (st_pkt' (b := !((rDiv a.lo b.hi false).2)) (v := .bool true) (by rw [h5]; rfl) rfl rfl rfl (aN (ac_then rfl (aQ (aL (aC 65 c_rNone Try.func111 ⟨rfl, by decide⟩ rfl rfl (aS [.int .i64 rNone.lo, .int .i64 rNone.hi, .bool rNone.no] agg26 0 rfl rfl rfl rfl rfl rfl (aN (ac_ret ?_)))))))))))
      exact fin_eq (v := .agg #[.int .i64 rNone.lo, .int .i64 rNone.hi, .bool rNone.no]) (by show _ = Iv.v (rEndsDiv a b); rw [rEndsDiv, h5, h4, h3, h2, h1] <;> rfl) (fin_ret (res_c (vs := [.int .i64 rNone.lo, .int .i64 rNone.hi, .bool rNone.no]) agg26 0 rfl rfl rfl rfl rfl rfl))
    ·refine ac_then' (b := !((rDiv a.hi b.lo true).2)) (by rw [h4]; rfl) rfl (aQ (aL (aC 65 c_rNone Try.func111 ⟨rfl, by decide⟩ rfl rfl (aS [.int .i64 rNone.lo, .int .i64 rNone.hi, .bool rNone.no] agg26 0 rfl rfl rfl rfl rfl rfl (aN (ac_ret (fin_eq (v := .agg #[.int .i64 rNone.lo, .int .i64 rNone.hi, .bool rNone.no]) (by show _ = Iv.v (rEndsDiv a b); rw [rEndsDiv, h4, h3, h2, h1] <;> rfl) (fin_ret (res_c (vs := [.int .i64 rNone.lo, .int .i64 rNone.hi, .bool rNone.no]) agg26 0 rfl rfl rfl rfl rfl rfl)))))))))
   ·refine aK 62 (by show ((!((rDiv a.hi b.lo false).2)) == false) = false; rw [h3]; rfl) rfl (aK 63 (by show ((!((rDiv a.hi b.lo false).2)) == false) = false; rw [h3]; rfl) rfl (ao 64 rfl rfl (st_pkt' (b := !((rDiv a.hi b.lo false).2)) (v := .bool true) (by rw [h3]; rfl) rfl rfl rfl (aN (ac_then rfl (aQ (aL (aC 65 c_rNone Try.func111 ⟨rfl, by decide⟩ rfl rfl (aS [.int .i64 rNone.lo, .int .i64 rNone.hi, .bool rNone.no] agg26 0 rfl rfl rfl rfl rfl rfl (aN (ac_ret ?_)))))))))))
    exact fin_eq (v := .agg #[.int .i64 rNone.lo, .int .i64 rNone.hi, .bool rNone.no]) (by show _ = Iv.v (rEndsDiv a b); rw [rEndsDiv, h3, h2, h1] <;> rfl) (fin_ret (res_c (vs := [.int .i64 rNone.lo, .int .i64 rNone.hi, .bool rNone.no]) agg26 0 rfl rfl rfl rfl rfl rfl))
  ·refine ac_then' (b := !((rDiv a.lo b.lo true).2)) (by rw [h2]; rfl) rfl (aQ (aL (aC 65 c_rNone Try.func111 ⟨rfl, by decide⟩ rfl rfl (aS [.int .i64 rNone.lo, .int .i64 rNone.hi, .bool rNone.no] agg26 0 rfl rfl rfl rfl rfl rfl (aN (ac_ret (fin_eq (v := .agg #[.int .i64 rNone.lo, .int .i64 rNone.hi, .bool rNone.no]) (by show _ = Iv.v (rEndsDiv a b); rw [rEndsDiv, h2, h1] <;> rfl) (fin_ret (res_c (vs := [.int .i64 rNone.lo, .int .i64 rNone.hi, .bool rNone.no]) agg26 0 rfl rfl rfl rfl rfl rfl)))))))))
 ·refine aK 62 (by show ((!((rDiv a.lo b.lo false).2)) == false) = false; rw [h1]; rfl) rfl (aK 63 (by show ((!((rDiv a.lo b.lo false).2)) == false) = false; rw [h1]; rfl) rfl (ao 64 rfl rfl (st_pkt' (b := !((rDiv a.lo b.lo false).2)) (v := .bool true) (by rw [h1]; rfl) rfl rfl rfl (aN (ac_then rfl (aQ (aL (aC 65 c_rNone Try.func111 ⟨rfl, by decide⟩ rfl rfl (aS [.int .i64 rNone.lo, .int .i64 rNone.hi, .bool rNone.no] agg26 0 rfl rfl rfl rfl rfl rfl (aN (ac_ret ?_)))))))))))
  exact fin_eq (v := .agg #[.int .i64 rNone.lo, .int .i64 rNone.hi, .bool rNone.no]) (by show _ = Iv.v (rEndsDiv a b); rw [rEndsDiv, h1] <;> rfl) (fin_ret (res_c (vs := [.int .i64 rNone.lo, .int .i64 rNone.hi, .bool rNone.no]) agg26 0 rfl rfl rfl rfl rfl rfl))
def rDivIv (a : Iv) (b : Iv) : Iv := (bif rRight a then (bif rRight b then (bif decide (b.lo ≤ 0) then (bif decide (b.hi ≥ 0) then rNone else (rEndsDiv a b)) else (rEndsDiv a b)) else rNone) else rNone)
set_option maxRecDepth 100000 in
theorem c_rDivIv (a : Iv) (b : Iv) : Gets Try.prog 85 #[.agg #[.int .i64 a.lo, .int .i64 a.hi, .bool a.no], .agg #[.int .i64 b.lo, .int .i64 b.hi, .bool b.no]] (Iv.v (rDivIv a b)) := by
 refine gets_fin Try.func85 rfl rfl rfl (aQ (aL (ao 2 rfl rfl (st_box (v := .agg #[.int .i64 a.lo, .int .i64 a.hi, .bool a.no]) (cs := [.int .i64 a.lo, .int .i64 a.hi, .bool a.no]) rfl rfl rfl fun g0 => (ao 3 rfl rfl (st_box (v := .agg #[.int .i64 b.lo, .int .i64 b.hi, .bool b.no]) (cs := [.int .i64 b.lo, .int .i64 b.hi, .bool b.no]) rfl rfl rfl fun g1 => (ao 4 rfl rfl (st_new zero26 rfl fun g2 => (aN (aQ (aQ (aL (aG 5 [.int .i64 a.lo, .int .i64 a.hi, .bool a.no] agg26 2 rfl rfl rfl rfl rfl (aC 6 (c_rRight a) Try.func40 ⟨rfl, by decide⟩ rfl rfl (ao 7 rfl rfl (st_un (v := .bool (!(rRight a))) rfl rfl (un_not rfl) (aM 8 (.bool (!(rRight a))) rfl rfl ?_)))))))))))))))))
 refine bool_split (rRight a) (fun h1 => ?_) (fun h1 => ?_)
 ·refine ar_gd (d := (some 9)) (by show ((!(rRight a)) == false) = true; rw [h1]; rfl) rfl (st_lda (vs := [.int .i64 b.lo, .int .i64 b.hi, .bool b.no]) agg26 1 rfl rfl rfl rfl rfl rfl (ar_gd (d := (some 10)) (by show ((!(rRight a)) == false) = true; rw [h1]; rfl) rfl (st_cf (c_rRight b) Try.func40 rfl (by decide) rfl rfl rfl (ar_gd (d := (some 11)) (by show ((!(rRight a)) == false) = true; rw [h1]; rfl) rfl (st_un (v := .bool (!(rRight b))) rfl rfl (un_not rfl) (ao 12 rfl rfl (st_pkf' (b := !(rRight a)) (v := .bool (!(rRight b))) (by rw [h1]; rfl) rfl rfl rfl (aM 13 (.bool (!(rRight b))) rfl rfl ?_))))))))
  refine bool_split (rRight b) (fun h2 => ?_) (fun h2 => ?_)
  ·refine ar_gd (d := (some 14)) (by show ((!(rRight b)) == false) = true; rw [h2]; rfl) rfl (st_fa rfl fa26_0 rfl (ar_gd (d := (some 15)) (by show ((!(rRight b)) == false) = true; rw [h2]; rfl) rfl (st_ldc (v := .int .i64 b.lo) cell3 1 rfl rfl rfl rfl rfl (ar_gd (d := (some 16)) (by show ((!(rRight b)) == false) = true; rw [h2]; rfl) rfl (st_bi (r := .bool (decide (b.lo ≤ 0))) rfl rfl rfl (bi_leq rfl) (ar_gd (d := (some 17)) (by show ((!(rRight b)) == false) = true; rw [h2]; rfl) rfl (st_move (v := .bool (decide (b.lo ≤ 0))) rfl rfl ?_)))))))
   refine bool_split (decide (b.lo ≤ 0)) (fun h3 => ?_) (fun h3 => ?_)
   ·refine ar_gd (d := (some 18)) (by show ((decide (b.lo ≤ 0)) == true) = true; rw [h3]; rfl) rfl (st_fa rfl fa26_1 rfl (ar_gd (d := (some 19)) (by show ((decide (b.lo ≤ 0)) == true) = true; rw [h3]; rfl) rfl (st_ldc (v := .int .i64 b.hi) cell3 1 rfl rfl rfl rfl rfl (ar_gd (d := (some 20)) (by show ((decide (b.lo ≤ 0)) == true) = true; rw [h3]; rfl) rfl (st_bi (r := .bool (decide (b.hi ≥ 0))) rfl rfl rfl (bi_geq rfl) (ar_gd (d := (some 21)) (by show ((!(rRight b)) == false) = true; rw [h2]; rfl) rfl (st_pkt' (b := decide (b.lo ≤ 0)) (v := .bool (decide (b.hi ≥ 0))) h3 rfl rfl rfl ?_)))))))
    refine ao 22 rfl rfl (st_pkf' (b := !(rRight b)) (v := .bool (decide (b.hi ≥ 0))) (by rw [h2]; rfl) rfl rfl rfl (aN ?_))
    refine bool_split (decide (b.hi ≥ 0)) (fun h4 => ?_) (fun h4 => ?_)
    ·refine ac_then' (b := decide (b.hi ≥ 0)) h4 rfl (aQ (aL (aC 23 c_rNone Try.func111 ⟨rfl, by decide⟩ rfl rfl (aS [.int .i64 rNone.lo, .int .i64 rNone.hi, .bool rNone.no] agg26 0 rfl rfl rfl rfl rfl rfl (aN (ac_ret (fin_eq (v := .agg #[.int .i64 rNone.lo, .int .i64 rNone.hi, .bool rNone.no]) (by show _ = Iv.v (rDivIv a b); rw [rDivIv, h4, h3, h2, h1] <;> rfl) (fin_ret (res_c (vs := [.int .i64 rNone.lo, .int .i64 rNone.hi, .bool rNone.no]) agg26 0 rfl rfl rfl rfl rfl rfl)))))))))
    ·refine ac_else' (b := decide (b.hi ≥ 0)) h4 rfl (ac_skip (aQ (aL (aG 24 [.int .i64 a.lo, .int .i64 a.hi, .bool a.no] agg26 2 rfl rfl rfl rfl rfl (aG 25 [.int .i64 b.lo, .int .i64 b.hi, .bool b.no] agg26 1 rfl rfl rfl rfl rfl (aC 26 (c_rEndsDiv a b) Try.func114 ⟨rfl, by decide⟩ rfl rfl (aS [.int .i64 ((rEndsDiv a b).lo), .int .i64 ((rEndsDiv a b).hi), .bool ((rEndsDiv a b).no)] agg26 0 rfl rfl rfl rfl rfl rfl (aN (ac_ret ?_)))))))))
     exact fin_eq (v := .agg #[.int .i64 ((rEndsDiv a b).lo), .int .i64 ((rEndsDiv a b).hi), .bool ((rEndsDiv a b).no)]) (by show _ = Iv.v (rDivIv a b); rw [rDivIv, h4, h3, h2, h1] <;> rfl) (fin_ret (res_c (vs := [.int .i64 ((rEndsDiv a b).lo), .int .i64 ((rEndsDiv a b).hi), .bool ((rEndsDiv a b).no)]) agg26 0 rfl rfl rfl rfl rfl rfl))
   ·refine aK 18 (by show ((decide (b.lo ≤ 0)) == true) = false; rw [h3]; rfl) rfl (aK 19 (by show ((decide (b.lo ≤ 0)) == true) = false; rw [h3]; rfl) rfl (aK 20 (by show ((decide (b.lo ≤ 0)) == true) = false; rw [h3]; rfl) rfl (ar_gd (d := (some 21)) (by show ((!(rRight b)) == false) = true; rw [h2]; rfl) rfl (st_pkf' (b := decide (b.lo ≤ 0)) (v := .bool false) h3 rfl rfl rfl (ao 22 rfl rfl (st_pkf' (b := !(rRight b)) (v := .bool false) (by rw [h2]; rfl) rfl rfl rfl (aN (ac_else rfl (ac_skip (aQ (aL (aG 24 [.int .i64 a.lo, .int .i64 a.hi, .bool a.no] agg26 2 rfl rfl rfl rfl rfl ?_))))))))))))
    refine aG 25 [.int .i64 b.lo, .int .i64 b.hi, .bool b.no] agg26 1 rfl rfl rfl rfl rfl (aC 26 (c_rEndsDiv a b) Try.func114 ⟨rfl, by decide⟩ rfl rfl (aS [.int .i64 ((rEndsDiv a b).lo), .int .i64 ((rEndsDiv a b).hi), .bool ((rEndsDiv a b).no)] agg26 0 rfl rfl rfl rfl rfl rfl (aN (ac_ret (fin_eq (v := .agg #[.int .i64 ((rEndsDiv a b).lo), .int .i64 ((rEndsDiv a b).hi), .bool ((rEndsDiv a b).no)]) (by show _ = Iv.v (rDivIv a b); rw [rDivIv, h3, h2, h1] <;> rfl) (fin_ret (res_c (vs := [.int .i64 ((rEndsDiv a b).lo), .int .i64 ((rEndsDiv a b).hi), .bool ((rEndsDiv a b).no)]) agg26 0 rfl rfl rfl rfl rfl rfl)))))))
  ·refine aK 14 (by show ((!(rRight b)) == false) = false; rw [h2]; rfl) rfl (aK 15 (by show ((!(rRight b)) == false) = false; rw [h2]; rfl) rfl (aK 16 (by show ((!(rRight b)) == false) = false; rw [h2]; rfl) rfl (aK 17 (by show ((!(rRight b)) == false) = false; rw [h2]; rfl) rfl (aK 18 rfl rfl (aK 19 rfl rfl (aK 20 rfl rfl (aK 21 (by show ((!(rRight b)) == false) = false; rw [h2]; rfl) rfl (ao 22 rfl rfl (st_pkt' (b := !(rRight b)) (v := .bool true) (by rw [h2]; rfl) rfl rfl rfl (aN (ac_then rfl (aQ (aL (aC 23 c_rNone Try.func111 ⟨rfl, by decide⟩ rfl rfl (aS [.int .i64 rNone.lo, .int .i64 rNone.hi, .bool rNone.no] agg26 0 rfl rfl rfl rfl rfl rfl (aN ?_))))))))))))))))
   refine ac_ret (fin_eq (v := .agg #[.int .i64 rNone.lo, .int .i64 rNone.hi, .bool rNone.no]) (by show _ = Iv.v (rDivIv a b); rw [rDivIv, h2, h1] <;> rfl) (fin_ret (res_c (vs := [.int .i64 rNone.lo, .int .i64 rNone.hi, .bool rNone.no]) agg26 0 rfl rfl rfl rfl rfl rfl)))
 ·refine aK 9 (by show ((!(rRight a)) == false) = false; rw [h1]; rfl) rfl (aK 10 (by show ((!(rRight a)) == false) = false; rw [h1]; rfl) rfl (aK 11 (by show ((!(rRight a)) == false) = false; rw [h1]; rfl) rfl (ao 12 rfl rfl (st_pkt' (b := !(rRight a)) (v := .bool true) (by rw [h1]; rfl) rfl rfl rfl (aM 13 (.bool true) rfl rfl (aK 14 rfl rfl (aK 15 rfl rfl (aK 16 rfl rfl (aK 17 rfl rfl (aK 18 rfl rfl (aK 19 rfl rfl (aK 20 rfl rfl (aK 21 rfl rfl (ao 22 rfl rfl (st_pkt (v := .bool true) rfl rfl rfl (aN (ac_then rfl (aQ (aL (aC 23 c_rNone Try.func111 ⟨rfl, by decide⟩ rfl rfl ?_))))))))))))))))))))
  refine aS [.int .i64 rNone.lo, .int .i64 rNone.hi, .bool rNone.no] agg26 0 rfl rfl rfl rfl rfl rfl (aN (ac_ret (fin_eq (v := .agg #[.int .i64 rNone.lo, .int .i64 rNone.hi, .bool rNone.no]) (by show _ = Iv.v (rDivIv a b); rw [rDivIv, h1] <;> rfl) (fin_ret (res_c (vs := [.int .i64 rNone.lo, .int .i64 rNone.hi, .bool rNone.no]) agg26 0 rfl rfl rfl rfl rfl rfl)))))
end Go.Proofs.Ythngkopcadlciaa
namespace Go.Proofs.Ythngkopcadlciaa
theorem rEndsMul_eq (a b : Iv) : rEndsMul a b = rends4 (rMul a.lo b.lo false) (rMul a.lo b.lo true) (rMul a.hi b.lo false) (rMul a.hi b.lo true) (rMul a.lo b.hi false) (rMul a.lo b.hi true) (rMul a.hi b.hi false) (rMul a.hi b.hi true) := rfl
theorem rEndsDiv_eq (a b : Iv) : rEndsDiv a b = rends4 (rDiv a.lo b.lo false) (rDiv a.lo b.lo true) (rDiv a.hi b.lo false) (rDiv a.hi b.lo true) (rDiv a.lo b.hi false) (rDiv a.lo b.hi true) (rDiv a.hi b.hi false) (rDiv a.hi b.hi true) := rfl
theorem both_bif {α : Type} (a b : Iv) (x y : α) : (bif rRight a then (bif rRight b then x else y) else y) = bif ivBoth a b then x else y := by
  unfold ivBoth
  rw [rRight_eq, rRight_eq]
  cases ivRight a <;> rfl
theorem rAdd_eq (a b : Iv) : rAdd a b = ivAdd a b := by
  unfold rAdd ivAdd
  rw [both_bif]; rfl
theorem rNeg_eq (a : Iv) : rNeg a = ivNeg a := rfl
theorem rSub_eq (a b : Iv) : rSub a b = ivSub a b := by
  unfold rSub
  rw [both_bif]
  by_cases h : R a ∧ R b
  · have h1 := h.1.2
    have h2 := h.2.2
    rw [ivBoth_t h.1 h.2, ivSub_spec h.1 h.2, w64_of (by omega) (by omega), w64_of (by omega) (by omega)]; rfl
  · rw [ivBoth_f h, ivSub_out h]; rfl
theorem rTimes_eq (a : Iv) (k : Int) : rTimes a k = ivTimes a k := rfl
theorem rSqr_eq (a : Iv) : rSqr a = ivSqr a := by
  unfold rSqr rSqr_e2 rSqr_e1 rSqr_e3 rSqr_e0
  by_cases h : R a
  · have h1 := h.2
    have e1 : w64 (0 - a.lo) = -a.lo := by rw [w64_of (by omega) (by omega)]; omega
    have e2 : w64 (0 - a.hi) = -a.hi := by rw [w64_of (by omega) (by omega)]; omega
    have e3 : max (max (max a.lo (-a.lo)) a.hi) (-a.hi) = far a := by unfold far; omega
    have h0 := near_far h
    have hs := sq_mono h0.1 h0.2.1
    have n0 : 0 ≤ near a * near a := Int.mul_nonneg h0.1 h0.1
    have m1 : 0 ≤ dn (near a * near a) 65536 := dn_nonneg (by omega) n0
    have m2 : dn (near a * near a) 65536 ≤ upq (far a * far a) 65536 := Int.le_trans (dn_mono (by omega) hs) (dn_le_upq (by omega))
    have fin : (bif (rMul (far a) (far a) true).2 then rOf (rMul (near a) (near a) false).1 (rMul (far a) (far a) true).1 else rNone) = ivSqr a := by
      rw [rMul_eq, rMul_eq, numMul_spec (by omega) (by omega), numMul_spec (by omega) (by omega), rq, rq, ivSqr_spec h]
      simp only [cond_true, cond_false]
      by_cases hc : upq (far a * far a) 65536 ≤ 1073741824
      · rw [told_in (by omega), told_in (by omega)]; rfl
      · rw [told_snd, numIn_f (by omega), ivOf_out (l := dn (near a * near a) 65536) (h := upq (far a * far a) 65536) (by omega)]; rfl
    rw [rRight_eq, ivRight_t h, e1, e2, e3]
    simp only [cond_true]
    by_cases hl : a.lo ≤ 0
    · have e4 : (bif decide (a.hi ≥ 0) then 0 else min (max a.lo (-a.lo)) (max a.hi (-a.hi))) = near a := by
        unfold near
        by_cases hh : a.hi ≥ 0
        · rw [decide_eq_true hh]; simp only [cond_true]; omega
        · rw [decide_eq_false hh]; simp only [cond_false]; omega
      rw [decide_eq_true hl, e4]
      simp only [cond_true]
      exact fin
    · have e4 : min (max a.lo (-a.lo)) (max a.hi (-a.hi)) = near a := by unfold near; omega
      rw [decide_eq_false hl, e4]
      simp only [cond_false]
      exact fin
  · rw [rRight_eq, ivRight_f h, ivSqr_out h]; rfl
theorem rRootIv_eq (a : Iv) : rRootIv a = ivRoot a := by
  unfold rRootIv ivRoot
  rw [rRoot_eq, rRoot_eq]; rfl
theorem min4_swap (a b c d : Int) : min4 a b c d = min4 a c b d := by
  unfold min4
  omega
theorem max4_swap (a b c d : Int) : max4 a b c d = max4 a c b d := by
  unfold max4
  omega
theorem rMulIv_eq (a b : Iv) : rMulIv a b = ivMul a b := by
  unfold rMulIv
  rw [both_bif]
  by_cases h : R a ∧ R b
  · have h1 := h.1.2
    have h2 := h.2.2
    rw [ivBoth_t h.1 h.2, ivMul_spec h.1 h.2, rEndsMul_eq]
    simp only [rMul_eq, cond_true]
    simp (disch := omega) only [numMul_spec]
    simp only [rq, cond_true, cond_false]
    rw [rends4_spec (dn_le_upq (by omega)) (dn_le_upq (by omega)) (dn_le_upq (by omega)) (dn_le_upq (by omega))]
    unfold mn mx
    rw [dn_min4 (by omega), upq_max4 (by omega), min4_swap, max4_swap]
  · rw [ivBoth_f h, ivMul_out h]; rfl
theorem rDivIv_eq (a b : Iv) : rDivIv a b = ivDiv a b := by
  unfold rDivIv
  rw [both_bif]
  by_cases h : R a ∧ R b
  · have h1 := h.1.2
    have h2 := h.2.2
    rw [ivBoth_t h.1 h.2]
    simp only [cond_true]
    by_cases h0 : b.lo ≤ 0 ∧ 0 ≤ b.hi
    · rw [decide_eq_true h0.1, decide_eq_true (show b.hi ≥ 0 from h0.2), ivDiv_out (fun k => k.2.2 h0)]; rfl
    · have fin : rEndsDiv a b = ivDiv a b := by
        rw [ivDiv_spec h.1 h.2 h0, rEndsDiv_eq]
        simp only [rDiv_eq]
        simp (disch := omega) only [numDiv_spec]
        rw [rends4_spec (dq_le (by omega)) (dq_le (by omega)) (dq_le (by omega)) (dq_le (by omega)), min4_swap, max4_swap]
      by_cases hl : b.lo ≤ 0
      · rw [decide_eq_true hl, decide_eq_false (by omega), fin]; rfl
      · rw [decide_eq_false hl, fin]; rfl
  · rw [ivBoth_f h, ivDiv_out (fun k => h ⟨k.1, k.2.1⟩)]; rfl
end Go.Proofs.Ythngkopcadlciaa
namespace Go.Proofs.Ythngkopcadlciaa
def qn (a b : Iv) : Int := min4 (dq a.lo b.lo false) (dq a.lo b.hi false) (dq a.hi b.lo false) (dq a.hi b.hi false)
def qx (a b : Iv) : Int := max4 (dq a.lo b.lo true) (dq a.lo b.hi true) (dq a.hi b.lo true) (dq a.hi b.hi true)
theorem ivDiv_val {a b : Iv} (ha : R a) (hb : R b) (h0 : ¬ (b.lo ≤ 0 ∧ 0 ≤ b.hi)) : ivDiv a b = ivOf (qn a b) (qx a b) := ivDiv_spec ha hb h0
end Go.Proofs.Ythngkopcadlciaa
namespace Go.Proofs.Ythngkopcadlciaa
open Go.RowKit
structure SlT (p : Program) (t e : TypeId) (s by_ : Nat) : Prop where
  un : p.underlying t = some (.slice e)
  ex : ∃ z, (p.info? e).map (fun i => (i.zero, i.size, i.bytes)) = some (some z, s, by_) ∧ z.cells.size = s ∧ 0 < s
theorem SlT.out {p : Program} {t e : TypeId} {s by_ : Nat} (h : SlT p t e s by_) : ∃ i z, p.info? e = some i ∧ i.zero = some z ∧ i.size = s ∧ i.bytes = by_ ∧ z.cells.size = s ∧ 0 < s := by
  obtain ⟨z, h1, h2, h3⟩ := h.ex
  cases hq : p.info? e with
  | none => simp [hq] at h1
  | some i =>
    simp only [hq, Option.map_some, Option.some.injEq, Prod.mk.injEq] at h1
    exact ⟨i, z, rfl, h1.1, h1.2.1, h1.2.2, h2, h3⟩
def Row (e s n : Nat) (xs : List Value) (v : Value) (N : List Box) : Prop :=
  (n = 0 ∧ xs = [] ∧ v = .slice none 0 0 ∧ N = []) ∨ ∃ g cap rest, v = .slice (some ⟨g, 0, none⟩) n cap ∧ N = [⟨g, xs ++ rest, e, false⟩] ∧ xs.length = n * s ∧ (xs ++ rest).length = cap * s ∧ n ≤ cap ∧ cap ≤ maxLen
theorem Row.nil (e s : Nat) : Row e s 0 [] (.slice none 0 0) [] := .inl ⟨rfl, rfl, rfl, rfl⟩
section
variable {p : Program} {n : Nat} {ops : Array Oper} {Q : Exit → Env → List Box → Prop} {l : List Oper} {E : Env} {H : List Box} {o : Oper} {ρ : Operand → Value} {K : Post}
theorem st_app {t e s by_ k m c gt : Nat} {x y : Operand} {v : Value} {xs news r : List Value} {N A B : List Box} {bt : Box} (hs : SlT p t e s by_) (ho : o.op = .call { callee := .builtin .append, args := #[x, y], argTypes := #[t, t] })
    (hx : ρ x = v) (hy : ρ y = .slice (some ⟨gt, 0, none⟩) m c) (hR : Row e s k xs v N) (hH : H = A ++ (N ++ B)) (hbt : bt ∈ A ++ B) (hg : bt.g = gt) (hc : bt.cs = news ++ r) (hl : news.length = m * s) (h1 : news.all (·.oneCell') = true) (hm : 0 < m)
    (h63 : k + m ≤ maxLen) (hby : (k + m) * by_ ≤ 140737488355328) (kk : ∀ v' N', Row e s (k + m) (xs ++ news) v' N' → K v' (N' ++ (A ++ B))) : Step p ρ o H K := by
  intro F β w hO hB
  have hu := hs.un
  obtain ⟨inf, z, hi, hz, hsz, hbz, hzc, hs0⟩ := hs.out
  subst hsz hbz hH
  have hsmall : k + m ≤ 9223372036854775807 := by simp only [maxLen] at h63; omega
  have hO1 : Own β (N ++ (A ++ B ++ F)) w := by
    refine hO.perm ?_
    have h1 : (A ++ (N ++ B) ++ F).Perm ((N ++ (A ++ B)) ++ F) := List.Perm.append_right F (by
      rw [← List.append_assoc, ← List.append_assoc]
      exact List.Perm.append_right B List.perm_append_comm)
    rw [List.append_assoc N] at h1
    exact h1
  have hat : ∀ j u, news[j]? = some u → w.cell? ((⟨gt, 0, none⟩ : Addr).add j) = some u := by
    intro j u hj
    obtain ⟨fr, _, hb⟩ := (hO1.at_ bt (List.mem_append_right _ (List.mem_append_left _ hbt))).2
    rw [add_at, Nat.zero_add, ← hg, cell_of_row w bt.g j _ _ _ hb, hc]
    simp only [List.getElem?_toArray]
    rw [List.getElem?_append_left (List.getElem?_eq_some_iff.1 hj).1, hj]
  have ex : ∀ w, (execOp ρ o).run p w = (match (Builtin.append_ #[t, t] o.type #[v, .slice (some ⟨gt, 0, none⟩) m c]).run p w with | .ok u w' => .ok (.value u) w' | .halt x w' => .halt x w') := by
    intro w
    rw [execOp, ho]
    simp only [resolve, List.map_toArray, List.map_cons, List.map_nil, hx, hy]
    simp [invoke, builtin, Sem.run_bind]
    cases (Builtin.append_ #[t, t] o.type #[v, .slice (some ⟨gt, 0, none⟩) m c]).run p w <;> rfl
  have zl : ∀ j, (Builtin.zeroCells z.cells j).toList.length = j * inf.size := by intro j; simp [Builtin.zeroCells, hzc]
  rw [ex]
  rcases hR with ⟨rfl, rfl, rfl, rfl⟩ | ⟨g, cap, rest, rfl, rfl, hxl, hcl, hkc, hcm⟩
  · have hr := run_append_nil (P := p) w t o.type e inf z hu hi hz ⟨gt, 0, none⟩ m c news hl hat hm (by omega) (by simp only [Nat.zero_add] at hby; omega)
    rw [hr]
    have hge := grownCap_ge w m 0 e
    have hcm := grownCap_le_maxLen w m 0 e (by omega)
    refine ⟨_, kk _ [⟨w.heap.size, news ++ (Builtin.zeroCells z.cells (grownCap w m 0 e - m)).toList, e, false⟩] (.inr ⟨w.heap.size, _, _, by rw [Nat.zero_add], rfl, by rw [Nat.zero_add]; exact hl, ?_, by omega, hcm⟩), ?_, (hB.drew).alloc _⟩
    · simp only [List.nil_append, List.length_append, zl, hl, ← Nat.add_mul]
      congr 1
      omega
    · have h3 := hO1.drew.alloc (news ++ (Builtin.zeroCells z.cells (grownCap w m 0 e - m)).toList) e
      simp only [List.nil_append] at h3 ⊢
      have e1 : (news ++ (Builtin.zeroCells z.cells (grownCap w m 0 e - m)).toList).toArray = news.toArray ++ Builtin.zeroCells z.cells (grownCap w m 0 e - m) := by
        apply Array.ext'
        simp
      rw [e1] at h3
      exact h3
  · obtain ⟨fr, hf, hgb⟩ := (hO1.at_ _ (List.mem_append_left _ (List.mem_singleton.2 rfl))).2
    obtain rfl := hf rfl
    simp only at hgb
    by_cases hroom : k + m ≤ cap
    · have hfit : k * inf.size + news.length ≤ (xs ++ rest).toArray.size := by
        simp only [List.size_toArray, hcl, hl, ← Nat.add_mul]
        exact Nat.mul_le_mul_right _ hroom
      have hr := run_append_room (P := p) w t o.type e inf hu hi g k cap (xs ++ rest).toArray hgb ⟨gt, 0, none⟩ m c news hl hat (fun u hu => List.all_eq_true.1 h1 u hu) hroom hfit
      rw [hr]
      have e1 : (xs ++ rest).toArray.toList.take (k * inf.size) ++ news ++ (xs ++ rest).toArray.toList.drop (k * inf.size + news.length) = xs ++ news ++ rest.drop news.length := by
        simp only [List.toList_toArray]
        rw [← hxl, List.take_left, List.drop_length_add_append]
      rw [e1]
      have hmay : β.may g := (((hO1.at_ _ (List.mem_append_left _ (List.mem_singleton.2 rfl))).1).resolve_left (by simp))
      refine ⟨_, kk _ [⟨g, xs ++ news ++ rest.drop news.length, e, false⟩] (.inr ⟨g, cap, _, rfl, rfl, ?_, ?_, hroom, hcm⟩), ?_, hB.setRow _ _ hmay⟩
      · rw [List.length_append, hxl, hl, Nat.add_mul]
      · rw [← hcl]
        simp only [List.length_append, List.length_drop]
        have : news.length ≤ rest.length := by
          have := hfit
          simp only [List.size_toArray, List.length_append, hxl] at this
          omega
        omega
      · have h3 := hO1.set 0 _ rfl rfl (xs ++ news ++ rest.drop news.length)
        exact h3
    · have hold : ∀ j u, xs[j]? = some u → w.cell? ((⟨g, 0, none⟩ : Addr).add j) = some u := by
        intro j u hj
        rw [add_at, Nat.zero_add, cell_of_row w g j _ _ _ hgb]
        simp only [List.getElem?_toArray]
        rw [List.getElem?_append_left (List.getElem?_eq_some_iff.1 hj).1, hj]
      have hr := run_append_grow (P := p) w t o.type e inf z hu hi hz ⟨g, 0, none⟩ k cap xs hxl hold ⟨gt, 0, none⟩ m c news hl hat (by omega) (by omega) (growslice_fits (by omega) hby)
      rw [hr]
      have hge := grownCap_ge w (k + m) cap e
      have hcm := grownCap_le_maxLen w (k + m) cap e h63
      refine ⟨_, kk _ [⟨w.heap.size, xs ++ news ++ (Builtin.zeroCells z.cells (grownCap w (k + m) cap e - (k + m))).toList, e, false⟩] (.inr ⟨w.heap.size, _, _, rfl, rfl, ?_, ?_, hge, hcm⟩), ?_, (hB.drew).alloc _⟩
      · rw [List.length_append, hxl, hl, Nat.add_mul]
      · simp only [List.length_append, zl, hl, hxl, ← Nat.add_mul]
        congr 1
        omega
      · have h2 : Own β (A ++ B ++ F) w := Own.sub (List.sublist_append_right _ _) hO1
        have h3 := h2.drew.alloc (xs ++ news ++ (Builtin.zeroCells z.cells (grownCap w (k + m) cap e - (k + m))).toList) e
        have e1 : (xs ++ news ++ (Builtin.zeroCells z.cells (grownCap w (k + m) cap e - (k + m))).toList).toArray = xs.toArray ++ news.toArray ++ Builtin.zeroCells z.cells (grownCap w (k + m) cap e - (k + m)) := by
          apply Array.ext'
          simp
        rw [e1] at h3
        exact h3
theorem ar_perm {H' : List Box} (hp : H.Perm H') (h : AR p n ops Q l E H) : AR p n ops Q l E H' :=
  fun β w a hO hB hs => h β w a (hO.perm hp.symm) hB hs
theorem Row.form {e s n : Nat} {xs : List Value} {v : Value} {N : List Box} (h : Row e s n xs v N) : ∃ a cap, v = .slice a n cap := by
  rcases h with ⟨rfl, _, rfl, _⟩ | ⟨g, cap, rest, rfl, _⟩
  · exact ⟨_, _, rfl⟩
  · exact ⟨_, _, rfl⟩
theorem st_appZ {t e s by_ k m c gt : Nat} {x y : Operand} {v : Value} {xs news r : List Value} {N A : List Box} {bt : Box} (hs : SlT p t e s by_) (ho : o.op = .call { callee := .builtin .append, args := #[x, y], argTypes := #[t, t] })
    (hx : ρ x = v) (hy : ρ y = .slice (some ⟨gt, 0, none⟩) m c) (hR : Row e s k xs v N) (hH : H = A ++ N) (hbt : bt ∈ A) (hg : bt.g = gt) (hc : bt.cs = news ++ r) (hl : news.length = m * s) (h1 : news.all (·.oneCell') = true) (hm : 0 < m)
    (h63 : k + m ≤ maxLen) (hby : (k + m) * by_ ≤ 140737488355328) (hK : ∀ v H H', H.Perm H' → K v H → K v H') (kk : ∀ v' N', Row e s (k + m) (xs ++ news) v' N' → K v' (A ++ N')) : Step p ρ o H K :=
  st_app (A := A) (B := []) hs ho hx hy hR (by rw [hH, List.append_nil]) (by rw [List.append_nil]; exact hbt) hg hc hl h1 hm h63 hby fun v' N' h => by
    rw [List.append_nil]
    exact hK _ _ _ List.perm_append_comm (kk v' N' h)
end
end Go.Proofs.Ythngkopcadlciaa
namespace Go.Proofs.Ythngkopcadlciaa
open Go.RowKit
section
variable {p : Program} {n : Nat} {ops : Array Oper} {Q : Exit → Env → List Box → Prop}
def AAny (p : Program) (n : Nat) (ops : Array Oper) (Q : Exit → Env → List Box → Prop) (fuel : Nat) (L : List Bool) (E : Env) (H : List Box) : Prop :=
  ∀ β w a, Own β H w → Keeps β w → Sees n E a → wpAny p .any ops (AQ n β Q) fuel L.toArray a w
def OpR (p : Program) (n : Nat) (ops : Array Oper) (E : Env) (H : List Box) (i : Nat) (K : Env → List Box → Prop) : Prop :=
  ∃ o, ops[i]? = some o ∧ ((yld n ops E o = true ∧ Step p (ev n E) o H fun v H' => K (E.put o.dst v) H') ∨ (yld n ops E o = false ∧ K (E.put o.dst undef) H))
def Each (P : Nat → Prop) : List Nat → Prop
  | [] => True
  | i :: is => P i ∧ Each P is
theorem each_mem {P : Nat → Prop} : ∀ {is : List Nat}, Each P is → ∀ i ∈ is, P i
  | [], _, _, h => by cases h
  | j :: is, h, i, hi => by
    rcases List.mem_cons.1 hi with rfl | hi
    · exact h.1
    · exact each_mem h.2 i hi
theorem opR_op {E : Env} {H : List Box} {i : Nat} {d : Option Nat} {K : Env → List Box → Prop} {o : Oper} (ho : ops[i]? = some o) (hg : o.guard = none) (hd : o.dst = d) (h : Step p (ev n E) o H fun v H' => K (E.put d v) H') : OpR p n ops E H i K := by
  subst hd
  exact ⟨o, ho, .inl ⟨by unfold yld; rw [hg], h⟩⟩
def StepRule (p : Program) (n : Nat) (ops : Array Oper) (Φ : Nat → List Bool → Env → List Box → Prop) : Prop :=
  ∀ fuel L E H is, Region.ready .any ops L.toArray = is → is.isEmpty = false → Each (fun i => OpR p n ops E H i (Φ fuel (L.set i true))) is → Φ (fuel + 1) L E H
def PermRule (Φ : Nat → List Bool → Env → List Box → Prop) : Prop := ∀ fuel L E H H', H.Perm H' → Φ fuel L E H → Φ fuel L E H'
theorem ac_any {id : Nat} {E : Env} {H : List Box} (hm : p.follows .mixedOrders = true) (k : Nat) (hk : ops.size = k)
    (h : ∀ Φ : Nat → List Bool → Env → List Box → Prop, StepRule p n ops Φ → (∀ L E H, Region.ready .any ops L.toArray = [] → Q .normal E H → Φ 0 L E H) → PermRule Φ → Φ k (List.replicate k false) E H) : AC p n (.region id ops true) Q E H := by
  have key := h (AAny p n ops Q) (by
    intro fuel L E H is hr hne he β w a hO hB hs
    refine ⟨fun h => ?_, fun i hi => ?_⟩
    · rw [hr] at h
      rw [h] at hne
      cases hne
    · rw [hr] at hi
      obtain ⟨o, ho, hop⟩ := each_mem he i hi
      unfold wpOp
      simp only [ho]
      rw [hs.yld]
      rcases hop with ⟨hw, hst⟩ | ⟨hw, hk⟩
      · rw [hw, if_pos rfl]
        refine .inl (hst.wp hs hO hB fun v H' w' k hO' hB' => ?_)
        have := k β w' _ hO' hB' (hs.put _ _)
        rwa [← List.setIfInBounds_toArray] at this
      · rw [hw, if_neg (by simp)]
        have := hk β w _ hO hB (hs.put _ _)
        rwa [← List.setIfInBounds_toArray] at this) (by
    intro L E H hr hq β w a hO hB hs
    exact ⟨hr, E, H, hq, hs, hO, hB⟩) (fun fuel L E H H' hp h β w a hO hB hs => h β w a (hO.perm hp.symm) hB hs)
  intro β w a hO hB hs
  refine wp_region_any hm ?_
  have := key β { w with drawn := w.drawn + 1 } a hO.drew hB.drew hs
  rw [← hk] at this
  rwa [List.toArray_replicate] at this
end
theorem Row.pos {e s n : Nat} {xs : List Value} {v : Value} {N : List Box} (h : Row e s n xs v N) (hn : 0 < n) : ∃ g cap rest, v = .slice (some ⟨g, 0, none⟩) n cap ∧ N = [⟨g, xs ++ rest, e, false⟩] ∧ (xs.length = n * s ∧ (xs ++ rest).length = cap * s ∧ n ≤ cap ∧ cap ≤ maxLen) := by
  rcases h with ⟨rfl, _⟩ | ⟨g, cap, rest, h1, h2, h3, h4, h5, h6⟩
  · cases hn
  · exact ⟨g, cap, rest, h1, h2, h3, h4, h5, h6⟩
theorem Row.mk {e s n g cap : Nat} {xs rest : List Value} (h : xs.length = n * s ∧ (xs ++ rest).length = cap * s ∧ n ≤ cap ∧ cap ≤ maxLen) : Row e s n xs (.slice (some ⟨g, 0, none⟩) n cap) [⟨g, xs ++ rest, e, false⟩] := .inr ⟨g, cap, rest, rfl, rfl, h.1, h.2.1, h.2.2.1, h.2.2.2⟩
def FinG (p : Program) (fn : Func) (n : Nat) (K : Post) : Exit → Env → List Box → Prop := fun e E H => (e = .ret ∨ e = .normal) ∧ ∃ v N, K v N ∧ List.Sublist N H ∧ (N.all fun b => !b.ro) = true ∧ Res p fn n E H v
theorem gives_fin {p : Program} {f : FuncId} {fn : Func} {c : Code} {args : Array Value} {K : Post} {R : List Box} {n : Nat} (hf : p.funcs[f]? = some fn) (hb : fn.body = some c) (hn : fn.ntmps = n) (ha : Nat.ble args.size n = true) (hr : (R.all fun b => b.ro) = true)
    (h : AC p n c (FinG p fn n K) (envOf args) R) : Gives p f args R K := by
  intro w hA hnd
  refine calls_of_wp hf hb ?_
  refine Code.wp_mono ?_ (h ⟨fun _ => False, w⟩ w _ (own_start hA hnd (fun b hb => List.all_eq_true.1 hr b hb)) (Keeps.refl _ _) (sees_start hn ha))
  rintro e a w' ⟨E, H, ⟨he, v, N, hk, hsub, hN, hres⟩, hs, hO, hB⟩
  have hall : ∀ b ∈ N, b.ro = false := fun b hb => by simpa using List.all_eq_true.1 hN b hb
  rcases he with rfl | rfl
  · exact ⟨hs.defers, v, hres _ _ _ hO hs, v, N, rfl, hk, Own.sub hsub hO, hall, hB.below⟩
  · exact ⟨hs.defers, v, hres _ _ _ hO hs, v, N, rfl, hk, Own.sub hsub hO, hall, hB.below⟩
theorem np_fing {p : Program} {fn : Func} {n : Nat} {K : Post} : ∀ c E H, ¬ FinG p fn n K (.panic c) E H := fun c E H h => by
  rcases h.1 with h | h <;> cases h
theorem fing_ret {p : Program} {fn : Func} {n : Nat} {K : Post} {E : Env} {H N : List Box} {v : Value} (hk : K v N) (hs : List.Sublist N H) (hN : (N.all fun b => !b.ro) = true) (h : Res p fn n E H v) : FinG p fn n K .ret E H := ⟨.inl rfl, v, N, hk, hs, hN, h⟩
theorem fing_v {p : Program} {fn : Func} {n : Nat} {u v : Value} {e : Exit} {E : Env} {H : List Box} (h : Fin p fn n v e E H) (hv : v = u) : FinG p fn n (fun w N => w = u ∧ N = []) e E H := ⟨h.1, v, [], ⟨hv, rfl⟩, List.nil_sublist _, rfl, h.2⟩
end Go.Proofs.Ythngkopcadlciaa
namespace Go.Proofs.Ythngkopcadlciaa
open Go.RowKit
theorem bs24_1_0a (x0_0 : Int) (x0_1 : Int) (x0_2 : Bool) : Makes Try.prog (Instr.buildSlice 24 1 #[(0, .agg #[.int .i64 x0_0, .int .i64 x0_1, .bool x0_2])]) 1 [.int .i64 x0_0, .int .i64 x0_1, .bool x0_2] 26 := ⟨fun w => by go_simp⟩
theorem slT24 : SlT Try.prog 24 26 3 24 := ⟨Try.underlying24, .agg #[.int .i64 0, .int .i64 0, .bool false], by kernel_rfl, rfl, by decide⟩
end Go.Proofs.Ythngkopcadlciaa
namespace Go.Proofs.Ythngkopcadlciaa
open Go.RowKit
theorem agg41 : IsAgg Try.prog 41 23 := ⟨⟨_, Try.underlying41, rfl, by kernel_rfl⟩⟩
theorem bd41_2a_3a_4a_5a_6a_7a_8a (x0_0 : Int) (x0_1 : Int) (x0_2 : Bool) (x1_0 : Int) (x1_1 : Int) (x1_2 : Bool) (x2_0 : Int) (x2_1 : Int) (x2_2 : Bool) (x3_0 : Int) (x3_1 : Int) (x3_2 : Bool) (x4_0 : Int) (x4_1 : Int) (x4_2 : Bool) (x5_0 : Int) (x5_1 : Int) (x5_2 : Bool) (x6_0 : Int) (x6_1 : Int) (x6_2 : Bool) : Runs Try.prog (Instr.build 41 #[(2, .agg #[.int .i64 x0_0, .int .i64 x0_1, .bool x0_2]), (3, .agg #[.int .i64 x1_0, .int .i64 x1_1, .bool x1_2]), (4, .agg #[.int .i64 x2_0, .int .i64 x2_1, .bool x2_2]), (5, .agg #[.int .i64 x3_0, .int .i64 x3_1, .bool x3_2]), (6, .agg #[.int .i64 x4_0, .int .i64 x4_1, .bool x4_2]), (7, .agg #[.int .i64 x5_0, .int .i64 x5_1, .bool x5_2]), (8, .agg #[.int .i64 x6_0, .int .i64 x6_1, .bool x6_2])]) (.agg #[.bool false, .bool false, .int .i64 x0_0, .int .i64 x0_1, .bool x0_2, .int .i64 x1_0, .int .i64 x1_1, .bool x1_2, .int .i64 x2_0, .int .i64 x2_1, .bool x2_2, .int .i64 x3_0, .int .i64 x3_1, .bool x3_2, .int .i64 x4_0, .int .i64 x4_1, .bool x4_2, .int .i64 x5_0, .int .i64 x5_1, .bool x5_2, .int .i64 x6_0, .int .i64 x6_1, .bool x6_2]) := ⟨fun w => by go_simp⟩
theorem bs24_4_0a_1a_2a_3a (x0_0 : Int) (x0_1 : Int) (x0_2 : Bool) (x1_0 : Int) (x1_1 : Int) (x1_2 : Bool) (x2_0 : Int) (x2_1 : Int) (x2_2 : Bool) (x3_0 : Int) (x3_1 : Int) (x3_2 : Bool) : Makes Try.prog (Instr.buildSlice 24 4 #[(0, .agg #[.int .i64 x0_0, .int .i64 x0_1, .bool x0_2]), (1, .agg #[.int .i64 x1_0, .int .i64 x1_1, .bool x1_2]), (2, .agg #[.int .i64 x2_0, .int .i64 x2_1, .bool x2_2]), (3, .agg #[.int .i64 x3_0, .int .i64 x3_1, .bool x3_2])]) 4 [.int .i64 x0_0, .int .i64 x0_1, .bool x0_2, .int .i64 x1_0, .int .i64 x1_1, .bool x1_2, .int .i64 x2_0, .int .i64 x2_1, .bool x2_2, .int .i64 x3_0, .int .i64 x3_1, .bool x3_2] 26 := ⟨fun w => by go_simp⟩
theorem fa41_1 (a : Addr) : Runs Try.prog (Instr.fieldAt 41 (.pointer (some a)) 1) (.pointer (some (a.add 1))) := run_fa (f := 1) (off := 1) (m := 1) Try.underlying41 rfl rfl (by kernel_rfl) (by decide) a
theorem fa41_2 (a : Addr) : Runs Try.prog (Instr.fieldAt 41 (.pointer (some a)) 2) (.pointer (some (a.add 2))) := run_fa (f := 2) (off := 2) (m := 3) Try.underlying41 rfl rfl (by kernel_rfl) (by decide) a
theorem fa41_3 (a : Addr) : Runs Try.prog (Instr.fieldAt 41 (.pointer (some a)) 3) (.pointer (some (a.add 5))) := run_fa (f := 3) (off := 5) (m := 3) Try.underlying41 rfl rfl (by kernel_rfl) (by decide) a
theorem fa41_4 (a : Addr) : Runs Try.prog (Instr.fieldAt 41 (.pointer (some a)) 4) (.pointer (some (a.add 8))) := run_fa (f := 4) (off := 8) (m := 3) Try.underlying41 rfl rfl (by kernel_rfl) (by decide) a
theorem fa41_5 (a : Addr) : Runs Try.prog (Instr.fieldAt 41 (.pointer (some a)) 5) (.pointer (some (a.add 11))) := run_fa (f := 5) (off := 11) (m := 3) Try.underlying41 rfl rfl (by kernel_rfl) (by decide) a
theorem zero41 : Zero Try.prog 41 [.bool false, .bool false, .int .i64 0, .int .i64 0, .bool false, .int .i64 0, .int .i64 0, .bool false, .int .i64 0, .int .i64 0, .bool false, .int .i64 0, .int .i64 0, .bool false, .int .i64 0, .int .i64 0, .bool false, .int .i64 0, .int .i64 0, .bool false, .int .i64 0, .int .i64 0, .bool false] := ⟨⟨.agg #[.bool false, .bool false, .int .i64 0, .int .i64 0, .bool false, .int .i64 0, .int .i64 0, .bool false, .int .i64 0, .int .i64 0, .bool false, .int .i64 0, .int .i64 0, .bool false, .int .i64 0, .int .i64 0, .bool false, .int .i64 0, .int .i64 0, .bool false, .int .i64 0, .int .i64 0, .bool false], by kernel_rfl, rfl⟩⟩
end Go.Proofs.Ythngkopcadlciaa
namespace Go.Proofs.Ythngkopcadlciaa
open Go.RowKit
theorem agg83 : IsAgg Try.prog 83 2 := ⟨⟨_, Try.underlying83, rfl, by kernel_rfl⟩⟩
theorem bd83_0_1 (x0_0 : Int) (x1_0 : Int) : Runs Try.prog (Instr.build 83 #[(0, .int .i64 x0_0), (1, .int .i64 x1_0)]) (.agg #[.int .i64 x0_0, .int .i64 x1_0]) := ⟨fun w => by go_simp⟩
theorem fa83_0 (a : Addr) : Runs Try.prog (Instr.fieldAt 83 (.pointer (some a)) 0) (.pointer (some (a.add 0))) := run_fa (f := 0) (off := 0) (m := 1) Try.underlying83 rfl rfl (by kernel_rfl) (by decide) a
theorem fa83_1 (a : Addr) : Runs Try.prog (Instr.fieldAt 83 (.pointer (some a)) 1) (.pointer (some (a.add 1))) := run_fa (f := 1) (off := 1) (m := 1) Try.underlying83 rfl rfl (by kernel_rfl) (by decide) a
theorem zero83 : Zero Try.prog 83 [.int .i64 0, .int .i64 0] := ⟨⟨.agg #[.int .i64 0, .int .i64 0], by kernel_rfl, rfl⟩⟩
end Go.Proofs.Ythngkopcadlciaa
namespace Go.Proofs.Ythngkopcadlciaa
open Go.RowKit
theorem agg108 : IsAgg Try.prog 108 4 := ⟨⟨_, Try.underlying108, rfl, by kernel_rfl⟩⟩
theorem agg122 : IsAgg Try.prog 122 13 := ⟨⟨_, Try.underlying122, rfl, by kernel_rfl⟩⟩
theorem agg125 : IsAgg Try.prog 125 6 := ⟨⟨_, Try.underlying125, rfl, by kernel_rfl⟩⟩
theorem agg127 : IsAgg Try.prog 127 14 := ⟨⟨_, Try.underlying127, rfl, by kernel_rfl⟩⟩
theorem agg48 : IsAgg Try.prog 48 4 := ⟨⟨_, Try.underlying48, rfl, by kernel_rfl⟩⟩
theorem agg60 : IsAgg Try.prog 60 6 := ⟨⟨_, Try.underlying60, rfl, by kernel_rfl⟩⟩
theorem bd108_0_1a (x0_0 : ByteArray) (x1_0 : Int) (x1_1 : Int) : Runs Try.prog (Instr.build 108 #[(0, .string x0_0), (1, .agg #[.int .i64 x1_0, .int .i64 x1_1])]) (.agg #[.string x0_0, .int .i64 x1_0, .int .i64 x1_1, .slice none 0 0]) := ⟨fun w => by go_simp⟩
theorem bd120_0a_1a_2a (x0_0 : Int) (x0_1 : Int) (x1_0 : Int) (x1_1 : Int) (x2_0 : Int) (x2_1 : Int) : Runs Try.prog (Instr.build 120 #[(0, .agg #[.int .i64 x0_0, .int .i64 x0_1]), (1, .agg #[.int .i64 x1_0, .int .i64 x1_1]), (2, .agg #[.int .i64 x2_0, .int .i64 x2_1])]) (.agg #[.int .i64 x0_0, .int .i64 x0_1, .int .i64 x1_0, .int .i64 x1_1, .int .i64 x2_0, .int .i64 x2_1]) := ⟨fun w => by go_simp⟩
theorem bd122_0_1a_2a (x0_0 : ByteArray) (x1_0 : Int) (x1_1 : Int) (x1_2 : Int) (x1_3 : Int) (x1_4 : Int) (x1_5 : Int) (x2_0 : Int) (x2_1 : Int) (x2_2 : Int) (x2_3 : Int) (x2_4 : Int) (x2_5 : Int) : Runs Try.prog (Instr.build 122 #[(0, .string x0_0), (1, .agg #[.int .i64 x1_0, .int .i64 x1_1, .int .i64 x1_2, .int .i64 x1_3, .int .i64 x1_4, .int .i64 x1_5]), (2, .agg #[.int .i64 x2_0, .int .i64 x2_1, .int .i64 x2_2, .int .i64 x2_3, .int .i64 x2_4, .int .i64 x2_5])]) (.agg #[.string x0_0, .int .i64 x1_0, .int .i64 x1_1, .int .i64 x1_2, .int .i64 x1_3, .int .i64 x1_4, .int .i64 x1_5, .int .i64 x2_0, .int .i64 x2_1, .int .i64 x2_2, .int .i64 x2_3, .int .i64 x2_4, .int .i64 x2_5]) := ⟨fun w => by go_simp⟩
theorem bd122_  : Runs Try.prog (Instr.build 122 #[]) (.agg #[.string (⟨#[]⟩ : ByteArray), .int .i64 0, .int .i64 0, .int .i64 0, .int .i64 0, .int .i64 0, .int .i64 0, .int .i64 0, .int .i64 0, .int .i64 0, .int .i64 0, .int .i64 0, .int .i64 0]) := ⟨fun w => by go_simp⟩
theorem bd127_1a_2a_3a_7 (x0_0 : Int) (x0_1 : Int) (x1_0 : Int) (x1_1 : Int) (x2_0 : Int) (x2_1 : Int) (x3_0 : ByteArray) : Runs Try.prog (Instr.build 127 #[(1, .agg #[.int .i64 x0_0, .int .i64 x0_1]), (2, .agg #[.int .i64 x1_0, .int .i64 x1_1]), (3, .agg #[.int .i64 x2_0, .int .i64 x2_1]), (7, .string x3_0)]) (.agg #[.bool false, .int .i64 x0_0, .int .i64 x0_1, .int .i64 x1_0, .int .i64 x1_1, .int .i64 x2_0, .int .i64 x2_1, .int .i64 0, .int .i64 0, .int .i64 0, .int .i64 0, .int .i64 0, .int .i64 0, .string x3_0]) := ⟨fun w => by go_simp⟩
theorem bd127_2a_3a (x0_0 : Int) (x0_1 : Int) (x1_0 : Int) (x1_1 : Int) : Runs Try.prog (Instr.build 127 #[(2, .agg #[.int .i64 x0_0, .int .i64 x0_1]), (3, .agg #[.int .i64 x1_0, .int .i64 x1_1])]) (.agg #[.bool false, .int .i64 0, .int .i64 0, .int .i64 x0_0, .int .i64 x0_1, .int .i64 x1_0, .int .i64 x1_1, .int .i64 0, .int .i64 0, .int .i64 0, .int .i64 0, .int .i64 0, .int .i64 0, .string (⟨#[]⟩ : ByteArray)]) := ⟨fun w => by go_simp⟩
theorem bd41_0_1_2a_3a_4a_5a_6a_7a_8a (x0_0 : Bool) (x1_0 : Bool) (x2_0 : Int) (x2_1 : Int) (x2_2 : Bool) (x3_0 : Int) (x3_1 : Int) (x3_2 : Bool) (x4_0 : Int) (x4_1 : Int) (x4_2 : Bool) (x5_0 : Int) (x5_1 : Int) (x5_2 : Bool) (x6_0 : Int) (x6_1 : Int) (x6_2 : Bool) (x7_0 : Int) (x7_1 : Int) (x7_2 : Bool) (x8_0 : Int) (x8_1 : Int) (x8_2 : Bool) : Runs Try.prog (Instr.build 41 #[(0, .bool x0_0), (1, .bool x1_0), (2, .agg #[.int .i64 x2_0, .int .i64 x2_1, .bool x2_2]), (3, .agg #[.int .i64 x3_0, .int .i64 x3_1, .bool x3_2]), (4, .agg #[.int .i64 x4_0, .int .i64 x4_1, .bool x4_2]), (5, .agg #[.int .i64 x5_0, .int .i64 x5_1, .bool x5_2]), (6, .agg #[.int .i64 x6_0, .int .i64 x6_1, .bool x6_2]), (7, .agg #[.int .i64 x7_0, .int .i64 x7_1, .bool x7_2]), (8, .agg #[.int .i64 x8_0, .int .i64 x8_1, .bool x8_2])]) (.agg #[.bool x0_0, .bool x1_0, .int .i64 x2_0, .int .i64 x2_1, .bool x2_2, .int .i64 x3_0, .int .i64 x3_1, .bool x3_2, .int .i64 x4_0, .int .i64 x4_1, .bool x4_2, .int .i64 x5_0, .int .i64 x5_1, .bool x5_2, .int .i64 x6_0, .int .i64 x6_1, .bool x6_2, .int .i64 x7_0, .int .i64 x7_1, .bool x7_2, .int .i64 x8_0, .int .i64 x8_1, .bool x8_2]) := ⟨fun w => by go_simp⟩
theorem bd48_1a (x0_0 : Int) (x0_1 : Int) (x0_2 : Bool) : Runs Try.prog (Instr.build 48 #[(1, .agg #[.int .i64 x0_0, .int .i64 x0_1, .bool x0_2])]) (.agg #[.slice none 0 0, .int .i64 x0_0, .int .i64 x0_1, .bool x0_2]) := ⟨fun w => by go_simp⟩
theorem bd48_  : Runs Try.prog (Instr.build 48 #[]) (.agg #[.slice none 0 0, .int .i64 0, .int .i64 0, .bool false]) := ⟨fun w => by go_simp⟩
theorem bd83_  : Runs Try.prog (Instr.build 83 #[]) (.agg #[.int .i64 0, .int .i64 0]) := ⟨fun w => by go_simp⟩
theorem bs104_2_0a_1a (x0_0 : ByteArray) (x0_1 : Int) (x0_2 : Int) (x0_3 : Int) (x0_4 : Int) (x0_5 : Int) (x0_6 : Int) (x0_7 : Int) (x0_8 : Int) (x0_9 : Int) (x0_10 : Int) (x0_11 : Int) (x0_12 : Int) (x1_0 : ByteArray) (x1_1 : Int) (x1_2 : Int) (x1_3 : Int) (x1_4 : Int) (x1_5 : Int) (x1_6 : Int) (x1_7 : Int) (x1_8 : Int) (x1_9 : Int) (x1_10 : Int) (x1_11 : Int) (x1_12 : Int) : Makes Try.prog (Instr.buildSlice 104 2 #[(0, .agg #[.string x0_0, .int .i64 x0_1, .int .i64 x0_2, .int .i64 x0_3, .int .i64 x0_4, .int .i64 x0_5, .int .i64 x0_6, .int .i64 x0_7, .int .i64 x0_8, .int .i64 x0_9, .int .i64 x0_10, .int .i64 x0_11, .int .i64 x0_12]), (1, .agg #[.string x1_0, .int .i64 x1_1, .int .i64 x1_2, .int .i64 x1_3, .int .i64 x1_4, .int .i64 x1_5, .int .i64 x1_6, .int .i64 x1_7, .int .i64 x1_8, .int .i64 x1_9, .int .i64 x1_10, .int .i64 x1_11, .int .i64 x1_12])]) 2 [.string x0_0, .int .i64 x0_1, .int .i64 x0_2, .int .i64 x0_3, .int .i64 x0_4, .int .i64 x0_5, .int .i64 x0_6, .int .i64 x0_7, .int .i64 x0_8, .int .i64 x0_9, .int .i64 x0_10, .int .i64 x0_11, .int .i64 x0_12, .string x1_0, .int .i64 x1_1, .int .i64 x1_2, .int .i64 x1_3, .int .i64 x1_4, .int .i64 x1_5, .int .i64 x1_6, .int .i64 x1_7, .int .i64 x1_8, .int .i64 x1_9, .int .i64 x1_10, .int .i64 x1_11, .int .i64 x1_12] 122 := ⟨fun w => by go_simp⟩
theorem bs106_1_0a (x0_0 : Bool) (x0_1 : Int) (x0_2 : Int) (x0_3 : Int) (x0_4 : Int) (x0_5 : Int) (x0_6 : Int) (x0_7 : Int) (x0_8 : Int) (x0_9 : Int) (x0_10 : Int) (x0_11 : Int) (x0_12 : Int) (x0_13 : ByteArray) : Makes Try.prog (Instr.buildSlice 106 1 #[(0, .agg #[.bool x0_0, .int .i64 x0_1, .int .i64 x0_2, .int .i64 x0_3, .int .i64 x0_4, .int .i64 x0_5, .int .i64 x0_6, .int .i64 x0_7, .int .i64 x0_8, .int .i64 x0_9, .int .i64 x0_10, .int .i64 x0_11, .int .i64 x0_12, .string x0_13])]) 1 [.bool x0_0, .int .i64 x0_1, .int .i64 x0_2, .int .i64 x0_3, .int .i64 x0_4, .int .i64 x0_5, .int .i64 x0_6, .int .i64 x0_7, .int .i64 x0_8, .int .i64 x0_9, .int .i64 x0_10, .int .i64 x0_11, .int .i64 x0_12, .string x0_13] 127 := ⟨fun w => by go_simp⟩
theorem bs141_1_0 (x0_0 : Int) : Makes Try.prog (Instr.buildSlice 141 1 #[(0, .int .u8 x0_0)]) 1 [.int .u8 x0_0] 5 := ⟨fun w => by go_simp⟩
theorem bs46_1_0a (x0_0 : Bool) (x0_1 : Bool) (x0_2 : Int) (x0_3 : Int) (x0_4 : Bool) (x0_5 : Int) (x0_6 : Int) (x0_7 : Bool) (x0_8 : Int) (x0_9 : Int) (x0_10 : Bool) (x0_11 : Int) (x0_12 : Int) (x0_13 : Bool) (x0_14 : Int) (x0_15 : Int) (x0_16 : Bool) (x0_17 : Int) (x0_18 : Int) (x0_19 : Bool) (x0_20 : Int) (x0_21 : Int) (x0_22 : Bool) : Makes Try.prog (Instr.buildSlice 46 1 #[(0, .agg #[.bool x0_0, .bool x0_1, .int .i64 x0_2, .int .i64 x0_3, .bool x0_4, .int .i64 x0_5, .int .i64 x0_6, .bool x0_7, .int .i64 x0_8, .int .i64 x0_9, .bool x0_10, .int .i64 x0_11, .int .i64 x0_12, .bool x0_13, .int .i64 x0_14, .int .i64 x0_15, .bool x0_16, .int .i64 x0_17, .int .i64 x0_18, .bool x0_19, .int .i64 x0_20, .int .i64 x0_21, .bool x0_22])]) 1 [.bool x0_0, .bool x0_1, .int .i64 x0_2, .int .i64 x0_3, .bool x0_4, .int .i64 x0_5, .int .i64 x0_6, .bool x0_7, .int .i64 x0_8, .int .i64 x0_9, .bool x0_10, .int .i64 x0_11, .int .i64 x0_12, .bool x0_13, .int .i64 x0_14, .int .i64 x0_15, .bool x0_16, .int .i64 x0_17, .int .i64 x0_18, .bool x0_19, .int .i64 x0_20, .int .i64 x0_21, .bool x0_22] 41 := ⟨fun w => by go_simp⟩
theorem cell106 : IsCell Try.prog 106 := ⟨⟨_, Try.underlying106, rfl, by kernel_rfl⟩⟩
theorem cell46 : IsCell Try.prog 46 := ⟨⟨_, Try.underlying46, rfl, by kernel_rfl⟩⟩
theorem cell9 : IsCell Try.prog 9 := ⟨⟨_, Try.underlying9, rfl, by kernel_rfl⟩⟩
theorem fa108_0 (a : Addr) : Runs Try.prog (Instr.fieldAt 108 (.pointer (some a)) 0) (.pointer (some (a.add 0))) := run_fa (f := 0) (off := 0) (m := 1) Try.underlying108 rfl rfl (by kernel_rfl) (by decide) a
theorem fa108_1 (a : Addr) : Runs Try.prog (Instr.fieldAt 108 (.pointer (some a)) 1) (.pointer (some (a.add 1))) := run_fa (f := 1) (off := 1) (m := 2) Try.underlying108 rfl rfl (by kernel_rfl) (by decide) a
theorem fa108_2 (a : Addr) : Runs Try.prog (Instr.fieldAt 108 (.pointer (some a)) 2) (.pointer (some (a.add 3))) := run_fa (f := 2) (off := 3) (m := 1) Try.underlying108 rfl rfl (by kernel_rfl) (by decide) a
theorem fa122_0 (a : Addr) : Runs Try.prog (Instr.fieldAt 122 (.pointer (some a)) 0) (.pointer (some (a.add 0))) := run_fa (f := 0) (off := 0) (m := 1) Try.underlying122 rfl rfl (by kernel_rfl) (by decide) a
theorem fa122_1 (a : Addr) : Runs Try.prog (Instr.fieldAt 122 (.pointer (some a)) 1) (.pointer (some (a.add 1))) := run_fa (f := 1) (off := 1) (m := 6) Try.underlying122 rfl rfl (by kernel_rfl) (by decide) a
theorem fa122_2 (a : Addr) : Runs Try.prog (Instr.fieldAt 122 (.pointer (some a)) 2) (.pointer (some (a.add 7))) := run_fa (f := 2) (off := 7) (m := 6) Try.underlying122 rfl rfl (by kernel_rfl) (by decide) a
theorem fa125_0 (a : Addr) : Runs Try.prog (Instr.fieldAt 125 (.pointer (some a)) 0) (.pointer (some (a.add 0))) := run_fa (f := 0) (off := 0) (m := 1) Try.underlying125 rfl rfl (by kernel_rfl) (by decide) a
theorem fa125_1 (a : Addr) : Runs Try.prog (Instr.fieldAt 125 (.pointer (some a)) 1) (.pointer (some (a.add 1))) := run_fa (f := 1) (off := 1) (m := 1) Try.underlying125 rfl rfl (by kernel_rfl) (by decide) a
theorem fa125_2 (a : Addr) : Runs Try.prog (Instr.fieldAt 125 (.pointer (some a)) 2) (.pointer (some (a.add 2))) := run_fa (f := 2) (off := 2) (m := 1) Try.underlying125 rfl rfl (by kernel_rfl) (by decide) a
theorem fa125_3 (a : Addr) : Runs Try.prog (Instr.fieldAt 125 (.pointer (some a)) 3) (.pointer (some (a.add 3))) := run_fa (f := 3) (off := 3) (m := 1) Try.underlying125 rfl rfl (by kernel_rfl) (by decide) a
theorem fa125_4 (a : Addr) : Runs Try.prog (Instr.fieldAt 125 (.pointer (some a)) 4) (.pointer (some (a.add 4))) := run_fa (f := 4) (off := 4) (m := 1) Try.underlying125 rfl rfl (by kernel_rfl) (by decide) a
theorem fa125_5 (a : Addr) : Runs Try.prog (Instr.fieldAt 125 (.pointer (some a)) 5) (.pointer (some (a.add 5))) := run_fa (f := 5) (off := 5) (m := 1) Try.underlying125 rfl rfl (by kernel_rfl) (by decide) a
theorem fa127_0 (a : Addr) : Runs Try.prog (Instr.fieldAt 127 (.pointer (some a)) 0) (.pointer (some (a.add 0))) := run_fa (f := 0) (off := 0) (m := 1) Try.underlying127 rfl rfl (by kernel_rfl) (by decide) a
theorem fa127_1 (a : Addr) : Runs Try.prog (Instr.fieldAt 127 (.pointer (some a)) 1) (.pointer (some (a.add 1))) := run_fa (f := 1) (off := 1) (m := 2) Try.underlying127 rfl rfl (by kernel_rfl) (by decide) a
theorem fa127_2 (a : Addr) : Runs Try.prog (Instr.fieldAt 127 (.pointer (some a)) 2) (.pointer (some (a.add 3))) := run_fa (f := 2) (off := 3) (m := 2) Try.underlying127 rfl rfl (by kernel_rfl) (by decide) a
theorem fa127_3 (a : Addr) : Runs Try.prog (Instr.fieldAt 127 (.pointer (some a)) 3) (.pointer (some (a.add 5))) := run_fa (f := 3) (off := 5) (m := 2) Try.underlying127 rfl rfl (by kernel_rfl) (by decide) a
theorem fa127_4 (a : Addr) : Runs Try.prog (Instr.fieldAt 127 (.pointer (some a)) 4) (.pointer (some (a.add 7))) := run_fa (f := 4) (off := 7) (m := 2) Try.underlying127 rfl rfl (by kernel_rfl) (by decide) a
theorem fa127_5 (a : Addr) : Runs Try.prog (Instr.fieldAt 127 (.pointer (some a)) 5) (.pointer (some (a.add 9))) := run_fa (f := 5) (off := 9) (m := 2) Try.underlying127 rfl rfl (by kernel_rfl) (by decide) a
theorem fa127_6 (a : Addr) : Runs Try.prog (Instr.fieldAt 127 (.pointer (some a)) 6) (.pointer (some (a.add 11))) := run_fa (f := 6) (off := 11) (m := 2) Try.underlying127 rfl rfl (by kernel_rfl) (by decide) a
theorem fa127_7 (a : Addr) : Runs Try.prog (Instr.fieldAt 127 (.pointer (some a)) 7) (.pointer (some (a.add 13))) := run_fa (f := 7) (off := 13) (m := 1) Try.underlying127 rfl rfl (by kernel_rfl) (by decide) a
theorem fa41_6 (a : Addr) : Runs Try.prog (Instr.fieldAt 41 (.pointer (some a)) 6) (.pointer (some (a.add 14))) := run_fa (f := 6) (off := 14) (m := 3) Try.underlying41 rfl rfl (by kernel_rfl) (by decide) a
theorem fa41_7 (a : Addr) : Runs Try.prog (Instr.fieldAt 41 (.pointer (some a)) 7) (.pointer (some (a.add 17))) := run_fa (f := 7) (off := 17) (m := 3) Try.underlying41 rfl rfl (by kernel_rfl) (by decide) a
theorem fa41_8 (a : Addr) : Runs Try.prog (Instr.fieldAt 41 (.pointer (some a)) 8) (.pointer (some (a.add 20))) := run_fa (f := 8) (off := 20) (m := 3) Try.underlying41 rfl rfl (by kernel_rfl) (by decide) a
theorem fa48_0 (a : Addr) : Runs Try.prog (Instr.fieldAt 48 (.pointer (some a)) 0) (.pointer (some (a.add 0))) := run_fa (f := 0) (off := 0) (m := 1) Try.underlying48 rfl rfl (by kernel_rfl) (by decide) a
theorem fa48_1 (a : Addr) : Runs Try.prog (Instr.fieldAt 48 (.pointer (some a)) 1) (.pointer (some (a.add 1))) := run_fa (f := 1) (off := 1) (m := 3) Try.underlying48 rfl rfl (by kernel_rfl) (by decide) a
theorem ia120_0 (g off : Nat) : Runs Try.prog (Instr.indexAt 120 (.pointer (some ⟨g, off, none⟩)) (.int .i64 0)) (.pointer (some ⟨g, off + 0, none⟩)) := run_ia (i := 0) (m := 2) (j := 0) Try.underlying120 (by kernel_rfl) rfl g off (by decide) (by decide)
theorem ia120_1 (g off : Nat) : Runs Try.prog (Instr.indexAt 120 (.pointer (some ⟨g, off, none⟩)) (.int .i64 1)) (.pointer (some ⟨g, off + 2, none⟩)) := run_ia (i := 1) (m := 2) (j := 2) Try.underlying120 (by kernel_rfl) rfl g off (by decide) (by decide)
theorem ia120_2 (g off : Nat) : Runs Try.prog (Instr.indexAt 120 (.pointer (some ⟨g, off, none⟩)) (.int .i64 2)) (.pointer (some ⟨g, off + 4, none⟩)) := run_ia (i := 2) (m := 2) (j := 4) Try.underlying120 (by kernel_rfl) rfl g off (by decide) (by decide)
theorem slT106 : SlT Try.prog 106 127 14 120 := ⟨Try.underlying106, .agg #[.bool false, .int .i64 0, .int .i64 0, .int .i64 0, .int .i64 0, .int .i64 0, .int .i64 0, .int .i64 0, .int .i64 0, .int .i64 0, .int .i64 0, .int .i64 0, .int .i64 0, .string (⟨#[]⟩ : ByteArray)], by kernel_rfl, rfl, by decide⟩
theorem slT46 : SlT Try.prog 46 41 23 176 := ⟨Try.underlying46, .agg #[.bool false, .bool false, .int .i64 0, .int .i64 0, .bool false, .int .i64 0, .int .i64 0, .bool false, .int .i64 0, .int .i64 0, .bool false, .int .i64 0, .int .i64 0, .bool false, .int .i64 0, .int .i64 0, .bool false, .int .i64 0, .int .i64 0, .bool false, .int .i64 0, .int .i64 0, .bool false], by kernel_rfl, rfl, by decide⟩
theorem zero108 : Zero Try.prog 108 [.string (⟨#[]⟩ : ByteArray), .int .i64 0, .int .i64 0, .slice none 0 0] := ⟨⟨.agg #[.string (⟨#[]⟩ : ByteArray), .int .i64 0, .int .i64 0, .slice none 0 0], by kernel_rfl, rfl⟩⟩
theorem zero122 : Zero Try.prog 122 [.string (⟨#[]⟩ : ByteArray), .int .i64 0, .int .i64 0, .int .i64 0, .int .i64 0, .int .i64 0, .int .i64 0, .int .i64 0, .int .i64 0, .int .i64 0, .int .i64 0, .int .i64 0, .int .i64 0] := ⟨⟨.agg #[.string (⟨#[]⟩ : ByteArray), .int .i64 0, .int .i64 0, .int .i64 0, .int .i64 0, .int .i64 0, .int .i64 0, .int .i64 0, .int .i64 0, .int .i64 0, .int .i64 0, .int .i64 0, .int .i64 0], by kernel_rfl, rfl⟩⟩
theorem zero125 : Zero Try.prog 125 [.int .i64 0, .int .i64 0, .int .i64 0, .int .i64 0, .int .i64 0, .int .i64 0] := ⟨⟨.agg #[.int .i64 0, .int .i64 0, .int .i64 0, .int .i64 0, .int .i64 0, .int .i64 0], by kernel_rfl, rfl⟩⟩
theorem zero127 : Zero Try.prog 127 [.bool false, .int .i64 0, .int .i64 0, .int .i64 0, .int .i64 0, .int .i64 0, .int .i64 0, .int .i64 0, .int .i64 0, .int .i64 0, .int .i64 0, .int .i64 0, .int .i64 0, .string (⟨#[]⟩ : ByteArray)] := ⟨⟨.agg #[.bool false, .int .i64 0, .int .i64 0, .int .i64 0, .int .i64 0, .int .i64 0, .int .i64 0, .int .i64 0, .int .i64 0, .int .i64 0, .int .i64 0, .int .i64 0, .int .i64 0, .string (⟨#[]⟩ : ByteArray)], by kernel_rfl, rfl⟩⟩
theorem zero48 : Zero Try.prog 48 [.slice none 0 0, .int .i64 0, .int .i64 0, .bool false] := ⟨⟨.agg #[.slice none 0 0, .int .i64 0, .int .i64 0, .bool false], by kernel_rfl, rfl⟩⟩
end Go.Proofs.Ythngkopcadlciaa
