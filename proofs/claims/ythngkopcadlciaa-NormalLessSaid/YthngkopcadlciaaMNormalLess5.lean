import Derived.Test.YthngkopcadlciaaMNormalLess3
import Derived.Test.YthngkopcadlciaaMNormalLess4
set_option linter.unusedVariables false
set_option linter.unusedSimpArgs false
namespace Go.Proofs.Ythngkopcadlciaa
open Go.RowKit
attribute [local irreducible] AC AR DWalk
def rEndsMul_e0 (a : Iv) (b : Iv) : Int := (bif decide (((rMul a.hi b.lo false).1) < ((rMul a.lo b.lo false).1)) then ((rMul a.hi b.lo false).1) else ((rMul a.lo b.lo false).1))
def rEndsMul_e1 (a : Iv) (b : Iv) : Int := (bif decide (((rMul a.hi b.lo true).1) > ((rMul a.lo b.lo true).1)) then ((rMul a.hi b.lo true).1) else ((rMul a.lo b.lo true).1))
def rEndsMul_e2 (a : Iv) (b : Iv) : Int := (bif decide (((rMul a.lo b.hi false).1) < (rEndsMul_e0 a b)) then ((rMul a.lo b.hi false).1) else (rEndsMul_e0 a b))
def rEndsMul_e3 (a : Iv) (b : Iv) : Int := (bif decide (((rMul a.lo b.hi true).1) > (rEndsMul_e1 a b)) then ((rMul a.lo b.hi true).1) else (rEndsMul_e1 a b))
def rEndsMul_e4 (a : Iv) (b : Iv) : Int := (bif decide (((rMul a.hi b.hi false).1) < (rEndsMul_e2 a b)) then ((rMul a.hi b.hi false).1) else (rEndsMul_e2 a b))
def rEndsMul_e5 (a : Iv) (b : Iv) : Int := (bif decide (((rMul a.hi b.hi true).1) > (rEndsMul_e3 a b)) then ((rMul a.hi b.hi true).1) else (rEndsMul_e3 a b))
def rEndsMul (a : Iv) (b : Iv) : Iv := (bif (rMul a.lo b.lo false).2 then (bif (rMul a.lo b.lo true).2 then (bif (rMul a.hi b.lo false).2 then (bif (rMul a.hi b.lo true).2 then (bif (rMul a.lo b.hi false).2 then (bif (rMul a.lo b.hi true).2 then (bif (rMul a.hi b.hi false).2 then (bif (rMul a.hi b.hi true).2 then (rOf (rEndsMul_e4 a b) (rEndsMul_e5 a b)) else rNone) else rNone) else rNone) else rNone) else rNone) else rNone) else rNone) else rNone)
set_option maxRecDepth 100000 in
set_option maxHeartbeats 4000000 in
theorem c_rEndsMul (a : Iv) (b : Iv) : Gets Try.prog 114 #[.agg #[.int .i64 a.lo, .int .i64 a.hi, .bool a.no], .agg #[.int .i64 b.lo, .int .i64 b.hi, .bool b.no], .bool false] (Iv.v (rEndsMul a b)) := by
 refine gets_fin Try.func114 rfl rfl rfl (aQ (aL (ao 3 rfl rfl (st_box (v := .agg #[.int .i64 a.lo, .int .i64 a.hi, .bool a.no]) (cs := [.int .i64 a.lo, .int .i64 a.hi, .bool a.no]) rfl rfl rfl fun g0 => (ao 4 rfl rfl (st_box (v := .agg #[.int .i64 b.lo, .int .i64 b.hi, .bool b.no]) (cs := [.int .i64 b.lo, .int .i64 b.hi, .bool b.no]) rfl rfl rfl fun g1 => (ao 6 rfl rfl (st_new zero26 rfl fun g2 => (aN (aQ (aL (aA 7 (.int .i64 0) rfl rfl (aN (aQ (aL (aA 8 (.int .i64 0) rfl rfl (aN (aQ (aQ (aL (aA 9 (.int .i64 0) rfl rfl (aN (ac_block ?_)))))))))))))))))))))))
 refine ac_rounds 61 (ar_round (aQ (aQ (aL (aM 16 (.int .i64 0) rfl rfl (aB 17 (.bool true) rfl rfl rfl (bi_lss (by decide)) (aN (ac_then rfl (ac_skip (aQ (ac_block (aQ (aL (aF 20 fa26_0 rfl rfl (aD 21 (.int .i64 a.lo) cell3 2 rfl rfl rfl rfl (aA 10 (.int .i64 a.lo) rfl rfl (aN (aQ (aQ (aL (aM 22 (.int .i64 0) rfl rfl (aB 23 (.int .i64 0) rfl rfl rfl (bi_rem (by decide) (by decide)) (aB 24 (.bool false) rfl rfl rfl (bi_eql (by decide)) (aN (ac_else rfl (ac_skip (aQ (aL (aF 27 fa26_0 rfl rfl (aD 28 (.int .i64 b.lo) cell3 1 rfl rfl rfl rfl (aA 11 (.int .i64 b.lo) rfl rfl (aN (aQ (aQ (aL (aM 29 (.int .i64 0) rfl rfl ?_))))))))))))))))))))))))))))))))))))
 refine aB 30 (.int .i64 0) rfl rfl rfl (bi_quo (by decide) (by decide)) (aB 31 (.bool false) rfl rfl rfl (bi_eql (by decide)) (aN (ac_else rfl (ac_skip (aQ (aL (aM 35 (.int .i64 a.lo) rfl rfl (aM 36 (.int .i64 b.lo) rfl rfl (aC 37 (c_rMul a.lo b.lo false) Try.func115 ⟨rfl, by decide⟩ rfl rfl (aM 34 (.tuple #[.int .i64 ((rMul a.lo b.lo false).1), .bool ((rMul a.lo b.lo false).2)]) rfl rfl (aX 38 (.int .i64 ((rMul a.lo b.lo false).1)) rfl rfl rfl (aX 39 (.bool ((rMul a.lo b.lo false).2)) rfl rfl rfl (aA 12 (.int .i64 ((rMul a.lo b.lo false).1)) rfl rfl (aA 13 (.bool ((rMul a.lo b.lo false).2)) rfl rfl (aN (aQ (aL (aM 41 (.int .i64 a.lo) rfl rfl ?_))))))))))))))))))
 refine aM 42 (.int .i64 b.lo) rfl rfl (aC 43 (c_rMul a.lo b.lo true) Try.func115 ⟨rfl, by decide⟩ rfl rfl (aM 40 (.tuple #[.int .i64 ((rMul a.lo b.lo true).1), .bool ((rMul a.lo b.lo true).2)]) rfl rfl (aX 44 (.int .i64 ((rMul a.lo b.lo true).1)) rfl rfl rfl (aX 45 (.bool ((rMul a.lo b.lo true).2)) rfl rfl rfl (aA 14 (.int .i64 ((rMul a.lo b.lo true).1)) rfl rfl (aA 15 (.bool ((rMul a.lo b.lo true).2)) rfl rfl (aN (aQ (aQ (aL (aM 46 (.bool false) rfl rfl (aN (ac_else rfl (ac_skip (aQ (aQ (aL (aM 59 (.bool ((rMul a.lo b.lo false).2)) rfl rfl (ao 60 rfl rfl (st_un (v := .bool (!((rMul a.lo b.lo false).2))) rfl rfl (un_not rfl) ?_))))))))))))))))))))
 refine aM 61 (.bool (!((rMul a.lo b.lo false).2))) rfl rfl ?_
 refine bool_split ((rMul a.lo b.lo false).2) (fun h1 => ?_) (fun h1 => ?_)
 ·refine ar_gd (d := (some 62)) (by show ((!((rMul a.lo b.lo false).2)) == false) = true; rw [h1]; rfl) rfl (st_move (v := .bool ((rMul a.lo b.lo true).2)) rfl rfl (ar_gd (d := (some 63)) (by show ((!((rMul a.lo b.lo false).2)) == false) = true; rw [h1]; rfl) rfl (st_un (v := .bool (!((rMul a.lo b.lo true).2))) rfl rfl (un_not rfl) (ao 64 rfl rfl (st_pkf' (b := !((rMul a.lo b.lo false).2)) (v := .bool (!((rMul a.lo b.lo true).2))) (by rw [h1]; rfl) rfl rfl rfl (aN ?_))))))
  refine bool_split ((rMul a.lo b.lo true).2) (fun h2 => ?_) (fun h2 => ?_)
  ·refine ac_else' (b := !((rMul a.lo b.lo true).2)) (by rw [h2]; rfl) rfl (ac_skip (aQ (aQ (aL (aM 66 (.int .i64 0) rfl rfl (aB 67 (.bool true) rfl rfl rfl (bi_eql (by decide)) (aM 68 (.bool true) rfl rfl (aK 69 rfl rfl (aK 70 rfl rfl (aK 71 rfl rfl (ao 72 rfl rfl (st_pkt (v := .bool true) rfl rfl rfl (aN (ac_then rfl (aL (aM 73 (.int .i64 ((rMul a.lo b.lo false).1)) rfl rfl (aA 7 (.int .i64 ((rMul a.lo b.lo false).1)) rfl rfl (aN (aQ (aL (aM 74 (.int .i64 0) rfl rfl (aB 75 (.bool true) rfl rfl rfl (bi_eql (by decide)) (aM 76 (.bool true) rfl rfl (aK 77 rfl rfl (aK 78 rfl rfl (aK 79 rfl rfl (ao 80 rfl rfl (st_pkt (v := .bool true) rfl rfl rfl ?_))))))))))))))))))))))))))))
   refine aN (ac_then rfl (aL (aM 81 (.int .i64 ((rMul a.lo b.lo true).1)) rfl rfl (aA 8 (.int .i64 ((rMul a.lo b.lo true).1)) rfl rfl (aN (aL (aM 18 (.int .i64 0) rfl rfl (aB 19 (.int .i64 1) rfl rfl rfl (bi_add (by decide)) (aA 9 (.int .i64 1) rfl rfl (aN (ar_round (aQ (aQ (aL (aM 16 (.int .i64 1) rfl rfl (aB 17 (.bool true) rfl rfl rfl (bi_lss (by decide)) (aN (ac_then rfl (ac_skip (aQ (ac_block (aQ (aL (aF 20 fa26_0 rfl rfl (aD 21 (.int .i64 a.lo) cell3 2 rfl rfl rfl rfl (aA 10 (.int .i64 a.lo) rfl rfl (aN (aQ (aQ (aL (aM 22 (.int .i64 1) rfl rfl (aB 23 (.int .i64 1) rfl rfl rfl (bi_rem (by decide) (by decide)) ?_))))))))))))))))))))))))))))))))
   refine aB 24 (.bool true) rfl rfl rfl (bi_eql (by decide)) (aN (ac_then rfl (aL (aF 25 fa26_1 rfl rfl (aD 26 (.int .i64 a.hi) cell3 2 rfl rfl rfl rfl (aA 10 (.int .i64 a.hi) rfl rfl (aN (aQ (aL (aF 27 fa26_0 rfl rfl (aD 28 (.int .i64 b.lo) cell3 1 rfl rfl rfl rfl (aA 11 (.int .i64 b.lo) rfl rfl (aN (aQ (aQ (aL (aM 29 (.int .i64 1) rfl rfl (aB 30 (.int .i64 0) rfl rfl rfl (bi_quo (by decide) (by decide)) (aB 31 (.bool false) rfl rfl rfl (bi_eql (by decide)) (aN (ac_else rfl (ac_skip (aQ (aL (aM 35 (.int .i64 a.hi) rfl rfl (aM 36 (.int .i64 b.lo) rfl rfl (aC 37 (c_rMul a.hi b.lo false) Try.func115 ⟨rfl, by decide⟩ rfl rfl ?_)))))))))))))))))))))))))))
   refine aM 34 (.tuple #[.int .i64 ((rMul a.hi b.lo false).1), .bool ((rMul a.hi b.lo false).2)]) rfl rfl (aX 38 (.int .i64 ((rMul a.hi b.lo false).1)) rfl rfl rfl (aX 39 (.bool ((rMul a.hi b.lo false).2)) rfl rfl rfl (aA 12 (.int .i64 ((rMul a.hi b.lo false).1)) rfl rfl (aA 13 (.bool ((rMul a.hi b.lo false).2)) rfl rfl (aN (aQ (aL (aM 41 (.int .i64 a.hi) rfl rfl (aM 42 (.int .i64 b.lo) rfl rfl (aC 43 (c_rMul a.hi b.lo true) Try.func115 ⟨rfl, by decide⟩ rfl rfl (aM 40 (.tuple #[.int .i64 ((rMul a.hi b.lo true).1), .bool ((rMul a.hi b.lo true).2)]) rfl rfl (aX 44 (.int .i64 ((rMul a.hi b.lo true).1)) rfl rfl rfl ?_))))))))))))
   refine aX 45 (.bool ((rMul a.hi b.lo true).2)) rfl rfl rfl (aA 14 (.int .i64 ((rMul a.hi b.lo true).1)) rfl rfl (aA 15 (.bool ((rMul a.hi b.lo true).2)) rfl rfl (aN (aQ (aQ (aL (aM 46 (.bool false) rfl rfl (aN (ac_else rfl (ac_skip (aQ (aQ (aL (aM 59 (.bool ((rMul a.hi b.lo false).2)) rfl rfl (ao 60 rfl rfl (st_un (v := .bool (!((rMul a.hi b.lo false).2))) rfl rfl (un_not rfl) (aM 61 (.bool (!((rMul a.hi b.lo false).2))) rfl rfl ?_)))))))))))))))))
   refine bool_split ((rMul a.hi b.lo false).2) (fun h3 => ?_) (fun h3 => ?_)
   ·refine ar_gd (d := (some 62)) (by show ((!((rMul a.hi b.lo false).2)) == false) = true; rw [h3]; rfl) rfl (st_move (v := .bool ((rMul a.hi b.lo true).2)) rfl rfl (ar_gd (d := (some 63)) (by show ((!((rMul a.hi b.lo false).2)) == false) = true; rw [h3]; rfl) rfl (st_un (v := .bool (!((rMul a.hi b.lo true).2))) rfl rfl (un_not rfl) (ao 64 rfl rfl (st_pkf' (b := !((rMul a.hi b.lo false).2)) (v := .bool (!((rMul a.hi b.lo true).2))) (by rw [h3]; rfl) rfl rfl rfl (aN ?_))))))
    refine bool_split ((rMul a.hi b.lo true).2) (fun h4 => ?_) (fun h4 => ?_)
    ·refine ac_else' (b := !((rMul a.hi b.lo true).2)) (by rw [h4]; rfl) rfl (ac_skip (aQ (aQ (aL (aM 66 (.int .i64 1) rfl rfl (aB 67 (.bool false) rfl rfl rfl (bi_eql (by decide)) (aM 68 (.bool false) rfl rfl (ar_gd (d := (some 69)) rfl rfl (st_move (v := .int .i64 ((rMul a.hi b.lo false).1)) rfl rfl (ar_gd (d := (some 70)) rfl rfl (st_move (v := .int .i64 ((rMul a.lo b.lo false).1)) rfl rfl (ar_gd (d := (some 71)) rfl rfl (st_bi (r := .bool (decide (((rMul a.hi b.lo false).1) < ((rMul a.lo b.lo false).1)))) rfl rfl rfl (bi_lss rfl) (ao 72 rfl rfl (st_pkf (v := .bool (decide (((rMul a.hi b.lo false).1) < ((rMul a.lo b.lo false).1)))) rfl rfl rfl (aN ?_))))))))))))))))
     refine ac_mergeE (fun E9 => ((Env.put E9 (some 73) (.int .i64 ((rMul a.hi b.lo false).1))).put (some 7) (.int .i64 ((rMul a.hi b.lo false).1)))) (fun E9 => ((Env.put E9 (some 73) (.int .i64 (rEndsMul_e0 a b))).put (some 7) (.int .i64 (rEndsMul_e0 a b)))) (b := decide (((rMul a.hi b.lo false).1) < ((rMul a.lo b.lo false).1))) rfl (fun hm => ?_) (fun hm => ?_) (fun hm => ?_) ?_
     ·refine aL (aM 73 (.int .i64 ((rMul a.hi b.lo false).1)) rfl rfl (aA 7 (.int .i64 ((rMul a.hi b.lo false).1)) rfl rfl (aN ?_)))
      exact ⟨rfl, rfl, rfl⟩
     ·unfold rEndsMul_e0; rw [hm]; rfl
     ·unfold rEndsMul_e0; rw [hm]; exact ((put_self rfl).trans (put_self rfl))
     refine aQ (aL (aM 74 (.int .i64 1) rfl rfl (aB 75 (.bool false) rfl rfl rfl (bi_eql (by decide)) (aM 76 (.bool false) rfl rfl (ar_gd (d := (some 77)) rfl rfl (st_move (v := .int .i64 ((rMul a.hi b.lo true).1)) rfl rfl (ar_gd (d := (some 78)) rfl rfl (st_move (v := .int .i64 ((rMul a.lo b.lo true).1)) rfl rfl (ar_gd (d := (some 79)) rfl rfl (st_bi (r := .bool (decide (((rMul a.hi b.lo true).1) > ((rMul a.lo b.lo true).1)))) rfl rfl rfl (bi_gtr rfl) (ao 80 rfl rfl (st_pkf (v := .bool (decide (((rMul a.hi b.lo true).1) > ((rMul a.lo b.lo true).1)))) rfl rfl rfl (aN ?_)))))))))))))
     refine ac_mergeE (fun E9 => ((Env.put E9 (some 81) (.int .i64 ((rMul a.hi b.lo true).1))).put (some 8) (.int .i64 ((rMul a.hi b.lo true).1)))) (fun E9 => ((Env.put E9 (some 81) (.int .i64 (rEndsMul_e1 a b))).put (some 8) (.int .i64 (rEndsMul_e1 a b)))) (b := decide (((rMul a.hi b.lo true).1) > ((rMul a.lo b.lo true).1))) rfl (fun hm => ?_) (fun hm => ?_) (fun hm => ?_) ?_
     ·refine aL (aM 81 (.int .i64 ((rMul a.hi b.lo true).1)) rfl rfl (aA 8 (.int .i64 ((rMul a.hi b.lo true).1)) rfl rfl (aN ?_)))
      exact ⟨rfl, rfl, rfl⟩
     ·unfold rEndsMul_e1; rw [hm]; rfl
     ·unfold rEndsMul_e1; rw [hm]; exact ((put_self rfl).trans (put_self rfl))
     refine aL (aM 18 (.int .i64 1) rfl rfl (aB 19 (.int .i64 2) rfl rfl rfl (bi_add (by decide)) (aA 9 (.int .i64 2) rfl rfl (aN (ar_round (aQ (aQ (aL (aM 16 (.int .i64 2) rfl rfl (aB 17 (.bool true) rfl rfl rfl (bi_lss (by decide)) (aN (ac_then rfl (ac_skip (aQ (ac_block (aQ (aL (aF 20 fa26_0 rfl rfl (aD 21 (.int .i64 a.lo) cell3 2 rfl rfl rfl rfl (aA 10 (.int .i64 a.lo) rfl rfl (aN (aQ (aQ (aL (aM 22 (.int .i64 2) rfl rfl (aB 23 (.int .i64 0) rfl rfl rfl (bi_rem (by decide) (by decide)) (aB 24 (.bool false) rfl rfl rfl (bi_eql (by decide)) (aN (ac_else rfl (ac_skip (aQ (aL (aF 27 fa26_0 rfl rfl ?_)))))))))))))))))))))))))))))))))
     refine aD 28 (.int .i64 b.lo) cell3 1 rfl rfl rfl rfl (aA 11 (.int .i64 b.lo) rfl rfl (aN (aQ (aQ (aL (aM 29 (.int .i64 2) rfl rfl (aB 30 (.int .i64 1) rfl rfl rfl (bi_quo (by decide) (by decide)) (aB 31 (.bool true) rfl rfl rfl (bi_eql (by decide)) (aN (ac_then rfl (aL (aF 32 fa26_1 rfl rfl (aD 33 (.int .i64 b.hi) cell3 1 rfl rfl rfl rfl (aA 11 (.int .i64 b.hi) rfl rfl (aN (aQ (aL (aM 35 (.int .i64 a.lo) rfl rfl (aM 36 (.int .i64 b.hi) rfl rfl (aC 37 (c_rMul a.lo b.hi false) Try.func115 ⟨rfl, by decide⟩ rfl rfl (aM 34 (.tuple #[.int .i64 ((rMul a.lo b.hi false).1), .bool ((rMul a.lo b.hi false).2)]) rfl rfl ?_)))))))))))))))))))))
     refine aX 38 (.int .i64 ((rMul a.lo b.hi false).1)) rfl rfl rfl (aX 39 (.bool ((rMul a.lo b.hi false).2)) rfl rfl rfl (aA 12 (.int .i64 ((rMul a.lo b.hi false).1)) rfl rfl (aA 13 (.bool ((rMul a.lo b.hi false).2)) rfl rfl (aN (aQ (aL (aM 41 (.int .i64 a.lo) rfl rfl (aM 42 (.int .i64 b.hi) rfl rfl (aC 43 (c_rMul a.lo b.hi true) Try.func115 ⟨rfl, by decide⟩ rfl rfl (aM 40 (.tuple #[.int .i64 ((rMul a.lo b.hi true).1), .bool ((rMul a.lo b.hi true).2)]) rfl rfl (aX 44 (.int .i64 ((rMul a.lo b.hi true).1)) rfl rfl rfl (aX 45 (.bool ((rMul a.lo b.hi true).2)) rfl rfl rfl (aA 14 (.int .i64 ((rMul a.lo b.hi true).1)) rfl rfl ?_)))))))))))))
     refine aA 15 (.bool ((rMul a.lo b.hi true).2)) rfl rfl (aN (aQ (aQ (aL (aM 46 (.bool false) rfl rfl (aN (ac_else rfl (ac_skip (aQ (aQ (aL (aM 59 (.bool ((rMul a.lo b.hi false).2)) rfl rfl (ao 60 rfl rfl (st_un (v := .bool (!((rMul a.lo b.hi false).2))) rfl rfl (un_not rfl) (aM 61 (.bool (!((rMul a.lo b.hi false).2))) rfl rfl ?_)))))))))))))))
     refine bool_split ((rMul a.lo b.hi false).2) (fun h5 => ?_) (fun h5 => ?_)
     ·refine ar_gd (d := (some 62)) (by show ((!((rMul a.lo b.hi false).2)) == false) = true; rw [h5]; rfl) rfl (st_move (v := .bool ((rMul a.lo b.hi true).2)) rfl rfl (ar_gd (d := (some 63)) (by show ((!((rMul a.lo b.hi false).2)) == false) = true; rw [h5]; rfl) rfl (st_un (v := .bool (!((rMul a.lo b.hi true).2))) rfl rfl (un_not rfl) (ao 64 rfl rfl (st_pkf' (b := !((rMul a.lo b.hi false).2)) (v := .bool (!((rMul a.lo b.hi true).2))) (by rw [h5]; rfl) rfl rfl rfl (aN ?_))))))
      refine bool_split ((rMul a.lo b.hi true).2) (fun h6 => ?_) (fun h6 => ?_)
      ·refine ac_else' (b := !((rMul a.lo b.hi true).2)) (by rw [h6]; rfl) rfl (ac_skip (aQ (aQ (aL (aM 66 (.int .i64 2) rfl rfl (aB 67 (.bool false) rfl rfl rfl (bi_eql (by decide)) (aM 68 (.bool false) rfl rfl (ar_gd (d := (some 69)) rfl rfl (st_move (v := .int .i64 ((rMul a.lo b.hi false).1)) rfl rfl (ar_gd (d := (some 70)) rfl rfl (st_move (v := .int .i64 (rEndsMul_e0 a b)) rfl rfl (ar_gd (d := (some 71)) rfl rfl (st_bi (r := .bool (decide (((rMul a.lo b.hi false).1) < (rEndsMul_e0 a b)))) rfl rfl rfl (bi_lss rfl) (ao 72 rfl rfl (st_pkf (v := .bool (decide (((rMul a.lo b.hi false).1) < (rEndsMul_e0 a b)))) rfl rfl rfl (aN ?_))))))))))))))))
       refine ac_mergeE (fun E9 => ((Env.put E9 (some 73) (.int .i64 ((rMul a.lo b.hi false).1))).put (some 7) (.int .i64 ((rMul a.lo b.hi false).1)))) (fun E9 => ((Env.put E9 (some 73) (.int .i64 (rEndsMul_e2 a b))).put (some 7) (.int .i64 (rEndsMul_e2 a b)))) (b := decide (((rMul a.lo b.hi false).1) < (rEndsMul_e0 a b))) rfl (fun hm => ?_) (fun hm => ?_) (fun hm => ?_) ?_
       ·refine aL (aM 73 (.int .i64 ((rMul a.lo b.hi false).1)) rfl rfl (aA 7 (.int .i64 ((rMul a.lo b.hi false).1)) rfl rfl (aN ?_)))
        exact ⟨rfl, rfl, rfl⟩
       ·unfold rEndsMul_e2; rw [hm]; rfl
       ·unfold rEndsMul_e2; rw [hm]; exact ((put_self rfl).trans (put_self rfl))
       refine aQ (aL (aM 74 (.int .i64 2) rfl rfl (aB 75 (.bool false) rfl rfl rfl (bi_eql (by decide)) (aM 76 (.bool false) rfl rfl (ar_gd (d := (some 77)) rfl rfl (st_move (v := .int .i64 ((rMul a.lo b.hi true).1)) rfl rfl (ar_gd (d := (some 78)) rfl rfl (st_move (v := .int .i64 (rEndsMul_e1 a b)) rfl rfl (ar_gd (d := (some 79)) rfl rfl (st_bi (r := .bool (decide (((rMul a.lo b.hi true).1) > (rEndsMul_e1 a b)))) rfl rfl rfl (bi_gtr rfl) (ao 80 rfl rfl (st_pkf (v := .bool (decide (((rMul a.lo b.hi true).1) > (rEndsMul_e1 a b)))) rfl rfl rfl (aN ?_)))))))))))))
       refine ac_mergeE (fun E9 => ((Env.put E9 (some 81) (.int .i64 ((rMul a.lo b.hi true).1))).put (some 8) (.int .i64 ((rMul a.lo b.hi true).1)))) (fun E9 => ((Env.put E9 (some 81) (.int .i64 (rEndsMul_e3 a b))).put (some 8) (.int .i64 (rEndsMul_e3 a b)))) (b := decide (((rMul a.lo b.hi true).1) > (rEndsMul_e1 a b))) rfl (fun hm => ?_) (fun hm => ?_) (fun hm => ?_) ?_
       ·refine aL (aM 81 (.int .i64 ((rMul a.lo b.hi true).1)) rfl rfl (aA 8 (.int .i64 ((rMul a.lo b.hi true).1)) rfl rfl (aN ?_)))
        exact ⟨rfl, rfl, rfl⟩
       ·unfold rEndsMul_e3; rw [hm]; rfl
       ·unfold rEndsMul_e3; rw [hm]; exact ((put_self rfl).trans (put_self rfl))
       refine aL (aM 18 (.int .i64 2) rfl rfl (aB 19 (.int .i64 3) rfl rfl rfl (bi_add (by decide)) (aA 9 (.int .i64 3) rfl rfl (aN (ar_round (aQ (aQ (aL (aM 16 (.int .i64 3) rfl rfl (aB 17 (.bool true) rfl rfl rfl (bi_lss (by decide)) (aN (ac_then rfl (ac_skip (aQ (ac_block (aQ (aL (aF 20 fa26_0 rfl rfl (aD 21 (.int .i64 a.lo) cell3 2 rfl rfl rfl rfl (aA 10 (.int .i64 a.lo) rfl rfl (aN (aQ (aQ (aL (aM 22 (.int .i64 3) rfl rfl (aB 23 (.int .i64 1) rfl rfl rfl (bi_rem (by decide) (by decide)) (aB 24 (.bool true) rfl rfl rfl (bi_eql (by decide)) (aN (ac_then rfl (aL (aF 25 fa26_1 rfl rfl ?_)))))))))))))))))))))))))))))))
       refine aD 26 (.int .i64 a.hi) cell3 2 rfl rfl rfl rfl (aA 10 (.int .i64 a.hi) rfl rfl (aN (aQ (aL (aF 27 fa26_0 rfl rfl (aD 28 (.int .i64 b.lo) cell3 1 rfl rfl rfl rfl (aA 11 (.int .i64 b.lo) rfl rfl (aN (aQ (aQ (aL (aM 29 (.int .i64 3) rfl rfl (aB 30 (.int .i64 1) rfl rfl rfl (bi_quo (by decide) (by decide)) (aB 31 (.bool true) rfl rfl rfl (bi_eql (by decide)) (aN (ac_then rfl (aL (aF 32 fa26_1 rfl rfl (aD 33 (.int .i64 b.hi) cell3 1 rfl rfl rfl rfl (aA 11 (.int .i64 b.hi) rfl rfl (aN (aQ (aL (aM 35 (.int .i64 a.hi) rfl rfl (aM 36 (.int .i64 b.hi) rfl rfl (aC 37 (c_rMul a.hi b.hi false) Try.func115 ⟨rfl, by decide⟩ rfl rfl ?_))))))))))))))))))))))))))
       refine aM 34 (.tuple #[.int .i64 ((rMul a.hi b.hi false).1), .bool ((rMul a.hi b.hi false).2)]) rfl rfl (aX 38 (.int .i64 ((rMul a.hi b.hi false).1)) rfl rfl rfl (aX 39 (.bool ((rMul a.hi b.hi false).2)) rfl rfl rfl (aA 12 (.int .i64 ((rMul a.hi b.hi false).1)) rfl rfl (aA 13 (.bool ((rMul a.hi b.hi false).2)) rfl rfl (aN (aQ (aL (aM 41 (.int .i64 a.hi) rfl rfl (aM 42 (.int .i64 b.hi) rfl rfl (aC 43 (c_rMul a.hi b.hi true) Try.func115 ⟨rfl, by decide⟩ rfl rfl (aM 40 (.tuple #[.int .i64 ((rMul a.hi b.hi true).1), .bool ((rMul a.hi b.hi true).2)]) rfl rfl (aX 44 (.int .i64 ((rMul a.hi b.hi true).1)) rfl rfl rfl ?_))))))))))))
       refine aX 45 (.bool ((rMul a.hi b.hi true).2)) rfl rfl rfl (aA 14 (.int .i64 ((rMul a.hi b.hi true).1)) rfl rfl (aA 15 (.bool ((rMul a.hi b.hi true).2)) rfl rfl (aN (aQ (aQ (aL (aM 46 (.bool false) rfl rfl (aN (ac_else rfl (ac_skip (aQ (aQ (aL (aM 59 (.bool ((rMul a.hi b.hi false).2)) rfl rfl (ao 60 rfl rfl (st_un (v := .bool (!((rMul a.hi b.hi false).2))) rfl rfl (un_not rfl) (aM 61 (.bool (!((rMul a.hi b.hi false).2))) rfl rfl ?_)))))))))))))))))
       refine bool_split ((rMul a.hi b.hi false).2) (fun h7 => ?_) (fun h7 => ?_)
       ·refine ar_gd (d := (some 62)) (by show ((!((rMul a.hi b.hi false).2)) == false) = true; rw [h7]; rfl) rfl (st_move (v := .bool ((rMul a.hi b.hi true).2)) rfl rfl (ar_gd (d := (some 63)) (by show ((!((rMul a.hi b.hi false).2)) == false) = true; rw [h7]; rfl) rfl (st_un (v := .bool (!((rMul a.hi b.hi true).2))) rfl rfl (un_not rfl) (ao 64 rfl rfl (st_pkf' (b := !((rMul a.hi b.hi false).2)) (v := .bool (!((rMul a.hi b.hi true).2))) (by rw [h7]; rfl) rfl rfl rfl (aN ?_))))))
        refine bool_split ((rMul a.hi b.hi true).2) (fun h8 => ?_) (fun h8 => ?_)
        ·refine ac_else' (b := !((rMul a.hi b.hi true).2)) (by rw [h8]; rfl) rfl (ac_skip (aQ (aQ (aL (aM 66 (.int .i64 3) rfl rfl (aB 67 (.bool false) rfl rfl rfl (bi_eql (by decide)) (aM 68 (.bool false) rfl rfl (ar_gd (d := (some 69)) rfl rfl (st_move (v := .int .i64 ((rMul a.hi b.hi false).1)) rfl rfl (ar_gd (d := (some 70)) rfl rfl (st_move (v := .int .i64 (rEndsMul_e2 a b)) rfl rfl (ar_gd (d := (some 71)) rfl rfl (st_bi (r := .bool (decide (((rMul a.hi b.hi false).1) < (rEndsMul_e2 a b)))) rfl rfl rfl (bi_lss rfl) (ao 72 rfl rfl (st_pkf (v := .bool (decide (((rMul a.hi b.hi false).1) < (rEndsMul_e2 a b)))) rfl rfl rfl (aN ?_))))))))))))))))
         refine ac_mergeE (fun E9 => ((Env.put E9 (some 73) (.int .i64 ((rMul a.hi b.hi false).1))).put (some 7) (.int .i64 ((rMul a.hi b.hi false).1)))) (fun E9 => ((Env.put E9 (some 73) (.int .i64 (rEndsMul_e4 a b))).put (some 7) (.int .i64 (rEndsMul_e4 a b)))) (b := decide (((rMul a.hi b.hi false).1) < (rEndsMul_e2 a b))) rfl (fun hm => ?_) (fun hm => ?_) (fun hm => ?_) ?_
         ·refine aL (aM 73 (.int .i64 ((rMul a.hi b.hi false).1)) rfl rfl (aA 7 (.int .i64 ((rMul a.hi b.hi false).1)) rfl rfl (aN ?_)))
          exact ⟨rfl, rfl, rfl⟩
         ·unfold rEndsMul_e4; rw [hm]; rfl
         ·unfold rEndsMul_e4; rw [hm]; exact ((put_self rfl).trans (put_self rfl))
         refine aQ (aL (aM 74 (.int .i64 3) rfl rfl (aB 75 (.bool false) rfl rfl rfl (bi_eql (by decide)) (aM 76 (.bool false) rfl rfl (ar_gd (d := (some 77)) rfl rfl (st_move (v := .int .i64 ((rMul a.hi b.hi true).1)) rfl rfl (ar_gd (d := (some 78)) rfl rfl (st_move (v := .int .i64 (rEndsMul_e3 a b)) rfl rfl (ar_gd (d := (some 79)) rfl rfl (st_bi (r := .bool (decide (((rMul a.hi b.hi true).1) > (rEndsMul_e3 a b)))) rfl rfl rfl (bi_gtr rfl) (ao 80 rfl rfl (st_pkf (v := .bool (decide (((rMul a.hi b.hi true).1) > (rEndsMul_e3 a b)))) rfl rfl rfl (aN ?_)))))))))))))
         refine ac_mergeE (fun E9 => ((Env.put E9 (some 81) (.int .i64 ((rMul a.hi b.hi true).1))).put (some 8) (.int .i64 ((rMul a.hi b.hi true).1)))) (fun E9 => ((Env.put E9 (some 81) (.int .i64 (rEndsMul_e5 a b))).put (some 8) (.int .i64 (rEndsMul_e5 a b)))) (b := decide (((rMul a.hi b.hi true).1) > (rEndsMul_e3 a b))) rfl (fun hm => ?_) (fun hm => ?_) (fun hm => ?_) ?_
         ·refine aL (aM 81 (.int .i64 ((rMul a.hi b.hi true).1)) rfl rfl (aA 8 (.int .i64 ((rMul a.hi b.hi true).1)) rfl rfl (aN ?_)))
          exact ⟨rfl, rfl, rfl⟩
         ·unfold rEndsMul_e5; rw [hm]; rfl
         ·unfold rEndsMul_e5; rw [hm]; exact ((put_self rfl).trans (put_self rfl))
         refine aL (aM 18 (.int .i64 3) rfl rfl (aB 19 (.int .i64 4) rfl rfl rfl (bi_add (by decide)) (aA 9 (.int .i64 4) rfl rfl (aN (ar_round (aQ (aQ (aL (aM 16 (.int .i64 4) rfl rfl (aB 17 (.bool false) rfl rfl rfl (bi_lss (by decide)) (aN (ac_else rfl (ac_exit (aQ (aL (aM 82 (.int .i64 (rEndsMul_e4 a b)) rfl rfl (aM 83 (.int .i64 (rEndsMul_e5 a b)) rfl rfl (aC 84 (c_rOf (rEndsMul_e4 a b) (rEndsMul_e5 a b)) Try.func112 ⟨rfl, by decide⟩ rfl rfl ?_))))))))))))))))))
         refine aS [.int .i64 ((rOf (rEndsMul_e4 a b) (rEndsMul_e5 a b)).lo), .int .i64 ((rOf (rEndsMul_e4 a b) (rEndsMul_e5 a b)).hi), .bool ((rOf (rEndsMul_e4 a b) (rEndsMul_e5 a b)).no)] agg26 0 rfl rfl rfl rfl rfl rfl (aN (ac_ret ?_))
         exact fin_eq (v := .agg #[.int .i64 ((rOf (rEndsMul_e4 a b) (rEndsMul_e5 a b)).lo), .int .i64 ((rOf (rEndsMul_e4 a b) (rEndsMul_e5 a b)).hi), .bool ((rOf (rEndsMul_e4 a b) (rEndsMul_e5 a b)).no)]) (by show _ = Iv.v (rEndsMul a b); rw [rEndsMul, h8, h7, h6, h5, h4, h3, h2, h1] <;> rfl) (fin_ret (res_c (vs := [.int .i64 ((rOf (rEndsMul_e4 a b) (rEndsMul_e5 a b)).lo), .int .i64 ((rOf (rEndsMul_e4 a b) (rEndsMul_e5 a b)).hi), .bool ((rOf (rEndsMul_e4 a b) (rEndsMul_e5 a b)).no)]) agg26 0 rfl rfl rfl rfl rfl rfl))
        ·refine ac_then' (b := !((rMul a.hi b.hi true).2)) (by rw [h8]; rfl) rfl (aQ (aL (aC 65 c_rNone Try.func111 ⟨rfl, by decide⟩ rfl rfl (aS [.int .i64 rNone.lo, .int .i64 rNone.hi, .bool rNone.no] agg26 0 rfl rfl rfl rfl rfl rfl (aN (ac_ret (fin_eq (v := .agg #[.int .i64 rNone.lo, .int .i64 rNone.hi, .bool rNone.no]) (by show _ = Iv.v (rEndsMul a b); rw [rEndsMul, h8, h7, h6, h5, h4, h3, h2, h1] <;> rfl) (fin_ret (res_c (vs := [.int .i64 rNone.lo, .int .i64 rNone.hi, .bool rNone.no]) agg26 0 rfl rfl rfl rfl rfl rfl)))))))))
       ·refine aK 62 (by show ((!((rMul a.hi b.hi false).2)) == false) = false; rw [h7]; rfl) rfl (aK 63 (by show ((!((rMul a.hi b.hi false).2)) == false) = false; rw [h7]; rfl) rfl (ao 64 rfl rfl (st_pkt' (b := !((rMul a.hi b.hi false).2)) (v := .bool true) (by rw [h7]; rfl) rfl rfl rfl (aN (ac_then rfl (aQ (aL (aC 65 c_rNone Try.func111 ⟨rfl, by decide⟩ rfl rfl (aS [.int .i64 rNone.lo, .int .i64 rNone.hi, .bool rNone.no] agg26 0 rfl rfl rfl rfl rfl rfl (aN (ac_ret ?_)))))))))))
        exact fin_eq (v := .agg #[.int .i64 rNone.lo, .int .i64 rNone.hi, .bool rNone.no]) (by show _ = Iv.v (rEndsMul a b); rw [rEndsMul, h7, h6, h5, h4, h3, h2, h1] <;> rfl) (fin_ret (res_c (vs := [.int .i64 rNone.lo, .int .i64 rNone.hi, .bool rNone.no]) agg26 0 rfl rfl rfl rfl rfl rfl))
      ·refine ac_then' (b := !((rMul a.lo b.hi true).2)) (by rw [h6]; rfl) rfl (aQ (aL (aC 65 c_rNone Try.func111 ⟨rfl, by decide⟩ rfl rfl (aS [.int .i64 rNone.lo, .int .i64 rNone.hi, .bool rNone.no] agg26 0 rfl rfl rfl rfl rfl rfl (aN (ac_ret (fin_eq (v := .agg #[.int .i64 rNone.lo, .int .i64 rNone.hi, .bool rNone.no]) (by show _ = Iv.v (rEndsMul a b); rw [rEndsMul, h6, h5, h4, h3, h2, h1] <;> rfl) (fin_ret (res_c (vs := [.int .i64 rNone.lo, .int .i64 rNone.hi, .bool rNone.no]) agg26 0 rfl rfl rfl rfl rfl rfl)))))))))
     ·refine aK 62 (by show ((!((rMul a.lo b.hi false).2)) == false) = false; rw [h5]; rfl) rfl (aK 63 (by show ((!((rMul a.lo b.hi false).2)) == false) = false; rw [h5]; rfl) rfl (ao 64 rfl rfl (st_pkt' (b := !((rMul a.lo b.hi false).2)) (v := .bool true) (by rw [h5]; rfl) rfl rfl rfl (aN (ac_then rfl (aQ (aL (aC 65 c_rNone Try.func111 ⟨rfl, by decide⟩ rfl rfl (aS [.int .i64 rNone.lo, .int .i64 rNone.hi, .bool rNone.no] agg26 0 rfl rfl rfl rfl rfl rfl (aN (ac_ret ?_)))))))))))
      exact fin_eq (v := .agg #[.int .i64 rNone.lo, .int .i64 rNone.hi, .bool rNone.no]) (by show _ = Iv.v (rEndsMul a b); rw [rEndsMul, h5, h4, h3, h2, h1] <;> rfl) (fin_ret (res_c (vs := [.int .i64 rNone.lo, .int .i64 rNone.hi, .bool rNone.no]) agg26 0 rfl rfl rfl rfl rfl rfl))
    ·refine ac_then' (b := !((rMul a.hi b.lo true).2)) (by rw [h4]; rfl) rfl (aQ (aL (aC 65 c_rNone Try.func111 ⟨rfl, by decide⟩ rfl rfl (aS [.int .i64 rNone.lo, .int .i64 rNone.hi, .bool rNone.no] agg26 0 rfl rfl rfl rfl rfl rfl (aN (ac_ret (fin_eq (v := .agg #[.int .i64 rNone.lo, .int .i64 rNone.hi, .bool rNone.no]) (by show _ = Iv.v (rEndsMul a b); rw [rEndsMul, h4, h3, h2, h1] <;> rfl) (fin_ret (res_c (vs := [.int .i64 rNone.lo, .int .i64 rNone.hi, .bool rNone.no]) agg26 0 rfl rfl rfl rfl rfl rfl)))))))))
   ·refine aK 62 (by show ((!((rMul a.hi b.lo false).2)) == false) = false; rw [h3]; rfl) rfl (aK 63 (by show ((!((rMul a.hi b.lo false).2)) == false) = false; rw [h3]; rfl) rfl (ao 64 rfl rfl (st_pkt' (b := !((rMul a.hi b.lo false).2)) (v := .bool true) (by rw [h3]; rfl) rfl rfl rfl (aN (ac_then rfl (aQ (aL (aC 65 c_rNone Try.func111 ⟨rfl, by decide⟩ rfl rfl (aS [.int .i64 rNone.lo, .int .i64 rNone.hi, .bool rNone.no] agg26 0 rfl rfl rfl rfl rfl rfl (aN (ac_ret ?_)))))))))))
    exact fin_eq (v := .agg #[.int .i64 rNone.lo, .int .i64 rNone.hi, .bool rNone.no]) (by show _ = Iv.v (rEndsMul a b); rw [rEndsMul, h3, h2, h1] <;> rfl) (fin_ret (res_c (vs := [.int .i64 rNone.lo, .int .i64 rNone.hi, .bool rNone.no]) agg26 0 rfl rfl rfl rfl rfl rfl))
  ·refine ac_then' (b := !((rMul a.lo b.lo true).2)) (by rw [h2]; rfl) rfl (aQ (aL (aC 65 c_rNone Try.func111 ⟨rfl, by decide⟩ rfl rfl (aS [.int .i64 rNone.lo, .int .i64 rNone.hi, .bool rNone.no] agg26 0 rfl rfl rfl rfl rfl rfl (aN (ac_ret (fin_eq (v := .agg #[.int .i64 rNone.lo, .int .i64 rNone.hi, .bool rNone.no]) (by show _ = Iv.v (rEndsMul a b); rw [rEndsMul, h2, h1] <;> rfl) (fin_ret (res_c (vs := [.int .i64 rNone.lo, .int .i64 rNone.hi, .bool rNone.no]) agg26 0 rfl rfl rfl rfl rfl rfl)))))))))
 ·refine aK 62 (by show ((!((rMul a.lo b.lo false).2)) == false) = false; rw [h1]; rfl) rfl (aK 63 (by show ((!((rMul a.lo b.lo false).2)) == false) = false; rw [h1]; rfl) rfl (ao 64 rfl rfl (st_pkt' (b := !((rMul a.lo b.lo false).2)) (v := .bool true) (by rw [h1]; rfl) rfl rfl rfl (aN (ac_then rfl (aQ (aL (aC 65 c_rNone Try.func111 ⟨rfl, by decide⟩ rfl rfl (aS [.int .i64 rNone.lo, .int .i64 rNone.hi, .bool rNone.no] agg26 0 rfl rfl rfl rfl rfl rfl (aN (ac_ret ?_)))))))))))
  exact fin_eq (v := .agg #[.int .i64 rNone.lo, .int .i64 rNone.hi, .bool rNone.no]) (by show _ = Iv.v (rEndsMul a b); rw [rEndsMul, h1] <;> rfl) (fin_ret (res_c (vs := [.int .i64 rNone.lo, .int .i64 rNone.hi, .bool rNone.no]) agg26 0 rfl rfl rfl rfl rfl rfl))
def rMulIv (a : Iv) (b : Iv) : Iv := (bif rRight a then (bif rRight b then (rEndsMul a b) else rNone) else rNone)
set_option maxRecDepth 100000 in
theorem c_rMulIv (a : Iv) (b : Iv) : Gets Try.prog 83 #[.agg #[.int .i64 a.lo, .int .i64 a.hi, .bool a.no], .agg #[.int .i64 b.lo, .int .i64 b.hi, .bool b.no]] (Iv.v (rMulIv a b)) := by
 refine gets_fin Try.func83 rfl rfl rfl (aQ (aL (ao 2 rfl rfl (st_box (v := .agg #[.int .i64 a.lo, .int .i64 a.hi, .bool a.no]) (cs := [.int .i64 a.lo, .int .i64 a.hi, .bool a.no]) rfl rfl rfl fun g0 => (ao 3 rfl rfl (st_box (v := .agg #[.int .i64 b.lo, .int .i64 b.hi, .bool b.no]) (cs := [.int .i64 b.lo, .int .i64 b.hi, .bool b.no]) rfl rfl rfl fun g1 => (ao 4 rfl rfl (st_new zero26 rfl fun g2 => (aN (aQ (aQ (aL (aG 5 [.int .i64 a.lo, .int .i64 a.hi, .bool a.no] agg26 2 rfl rfl rfl rfl rfl (aC 6 (c_rRight a) Try.func40 ⟨rfl, by decide⟩ rfl rfl (ao 7 rfl rfl (st_un (v := .bool (!(rRight a))) rfl rfl (un_not rfl) (aM 8 (.bool (!(rRight a))) rfl rfl ?_)))))))))))))))))
 refine bool_split (rRight a) (fun h1 => ?_) (fun h1 => ?_)
 ·refine ar_gd (d := (some 9)) (by show ((!(rRight a)) == false) = true; rw [h1]; rfl) rfl (st_lda (vs := [.int .i64 b.lo, .int .i64 b.hi, .bool b.no]) agg26 1 rfl rfl rfl rfl rfl rfl (ar_gd (d := (some 10)) (by show ((!(rRight a)) == false) = true; rw [h1]; rfl) rfl (st_cf (c_rRight b) Try.func40 rfl (by decide) rfl rfl rfl (ar_gd (d := (some 11)) (by show ((!(rRight a)) == false) = true; rw [h1]; rfl) rfl (st_un (v := .bool (!(rRight b))) rfl rfl (un_not rfl) (ao 12 rfl rfl (st_pkf' (b := !(rRight a)) (v := .bool (!(rRight b))) (by rw [h1]; rfl) rfl rfl rfl (aN ?_))))))))
  refine bool_split (rRight b) (fun h2 => ?_) (fun h2 => ?_)
  ·refine ac_else' (b := !(rRight b)) (by rw [h2]; rfl) rfl (ac_skip (aQ (aL (aG 14 [.int .i64 a.lo, .int .i64 a.hi, .bool a.no] agg26 2 rfl rfl rfl rfl rfl (aG 15 [.int .i64 b.lo, .int .i64 b.hi, .bool b.no] agg26 1 rfl rfl rfl rfl rfl (aC 16 (c_rEndsMul a b) Try.func114 ⟨rfl, by decide⟩ rfl rfl (aS [.int .i64 ((rEndsMul a b).lo), .int .i64 ((rEndsMul a b).hi), .bool ((rEndsMul a b).no)] agg26 0 rfl rfl rfl rfl rfl rfl (aN (ac_ret ?_)))))))))
   exact fin_eq (v := .agg #[.int .i64 ((rEndsMul a b).lo), .int .i64 ((rEndsMul a b).hi), .bool ((rEndsMul a b).no)]) (by show _ = Iv.v (rMulIv a b); rw [rMulIv, h2, h1] <;> rfl) (fin_ret (res_c (vs := [.int .i64 ((rEndsMul a b).lo), .int .i64 ((rEndsMul a b).hi), .bool ((rEndsMul a b).no)]) agg26 0 rfl rfl rfl rfl rfl rfl))
  ·refine ac_then' (b := !(rRight b)) (by rw [h2]; rfl) rfl (aQ (aL (aC 13 c_rNone Try.func111 ⟨rfl, by decide⟩ rfl rfl (aS [.int .i64 rNone.lo, .int .i64 rNone.hi, .bool rNone.no] agg26 0 rfl rfl rfl rfl rfl rfl (aN (ac_ret (fin_eq (v := .agg #[.int .i64 rNone.lo, .int .i64 rNone.hi, .bool rNone.no]) (by show _ = Iv.v (rMulIv a b); rw [rMulIv, h2, h1] <;> rfl) (fin_ret (res_c (vs := [.int .i64 rNone.lo, .int .i64 rNone.hi, .bool rNone.no]) agg26 0 rfl rfl rfl rfl rfl rfl)))))))))
 ·refine aK 9 (by show ((!(rRight a)) == false) = false; rw [h1]; rfl) rfl (aK 10 (by show ((!(rRight a)) == false) = false; rw [h1]; rfl) rfl (aK 11 (by show ((!(rRight a)) == false) = false; rw [h1]; rfl) rfl (ao 12 rfl rfl (st_pkt' (b := !(rRight a)) (v := .bool true) (by rw [h1]; rfl) rfl rfl rfl (aN (ac_then rfl (aQ (aL (aC 13 c_rNone Try.func111 ⟨rfl, by decide⟩ rfl rfl (aS [.int .i64 rNone.lo, .int .i64 rNone.hi, .bool rNone.no] agg26 0 rfl rfl rfl rfl rfl rfl (aN (ac_ret ?_))))))))))))
  exact fin_eq (v := .agg #[.int .i64 rNone.lo, .int .i64 rNone.hi, .bool rNone.no]) (by show _ = Iv.v (rMulIv a b); rw [rMulIv, h1] <;> rfl) (fin_ret (res_c (vs := [.int .i64 rNone.lo, .int .i64 rNone.hi, .bool rNone.no]) agg26 0 rfl rfl rfl rfl rfl rfl))
end Go.Proofs.Ythngkopcadlciaa
namespace Go.Proofs.Ythngkopcadlciaa
open Go.RowKit
attribute [local irreducible] AC AR DWalk
def rEndsDiv_e0 (a : Iv) (b : Iv) : Int := (bif decide (((rDiv a.hi b.lo false).1) < ((rDiv a.lo b.lo false).1)) then ((rDiv a.hi b.lo false).1) else ((rDiv a.lo b.lo false).1))
def rEndsDiv_e1 (a : Iv) (b : Iv) : Int := (bif decide (((rDiv a.hi b.lo true).1) > ((rDiv a.lo b.lo true).1)) then ((rDiv a.hi b.lo true).1) else ((rDiv a.lo b.lo true).1))
def rEndsDiv_e2 (a : Iv) (b : Iv) : Int := (bif decide (((rDiv a.lo b.hi false).1) < (rEndsDiv_e0 a b)) then ((rDiv a.lo b.hi false).1) else (rEndsDiv_e0 a b))
def rEndsDiv_e3 (a : Iv) (b : Iv) : Int := (bif decide (((rDiv a.lo b.hi true).1) > (rEndsDiv_e1 a b)) then ((rDiv a.lo b.hi true).1) else (rEndsDiv_e1 a b))
def rEndsDiv_e4 (a : Iv) (b : Iv) : Int := (bif decide (((rDiv a.hi b.hi false).1) < (rEndsDiv_e2 a b)) then ((rDiv a.hi b.hi false).1) else (rEndsDiv_e2 a b))
def rEndsDiv_e5 (a : Iv) (b : Iv) : Int := (bif decide (((rDiv a.hi b.hi true).1) > (rEndsDiv_e3 a b)) then ((rDiv a.hi b.hi true).1) else (rEndsDiv_e3 a b))
def rEndsDiv (a : Iv) (b : Iv) : Iv := (bif (rDiv a.lo b.lo false).2 then (bif (rDiv a.lo b.lo true).2 then (bif (rDiv a.hi b.lo false).2 then (bif (rDiv a.hi b.lo true).2 then (bif (rDiv a.lo b.hi false).2 then (bif (rDiv a.lo b.hi true).2 then (bif (rDiv a.hi b.hi false).2 then (bif (rDiv a.hi b.hi true).2 then (rOf (rEndsDiv_e4 a b) (rEndsDiv_e5 a b)) else rNone) else rNone) else rNone) else rNone) else rNone) else rNone) else rNone) else rNone)
set_option maxRecDepth 100000 in
set_option maxHeartbeats 4000000 in
theorem c_rEndsDiv (a : Iv) (b : Iv) : Gets Try.prog 114 #[.agg #[.int .i64 a.lo, .int .i64 a.hi, .bool a.no], .agg #[.int .i64 b.lo, .int .i64 b.hi, .bool b.no], .bool true] (Iv.v (rEndsDiv a b)) := by
 refine gets_fin Try.func114 rfl rfl rfl (aQ (aL (ao 3 rfl rfl (st_box (v := .agg #[.int .i64 a.lo, .int .i64 a.hi, .bool a.no]) (cs := [.int .i64 a.lo, .int .i64 a.hi, .bool a.no]) rfl rfl rfl fun g0 => (ao 4 rfl rfl (st_box (v := .agg #[.int .i64 b.lo, .int .i64 b.hi, .bool b.no]) (cs := [.int .i64 b.lo, .int .i64 b.hi, .bool b.no]) rfl rfl rfl fun g1 => (ao 6 rfl rfl (st_new zero26 rfl fun g2 => (aN (aQ (aL (aA 7 (.int .i64 0) rfl rfl (aN (aQ (aL (aA 8 (.int .i64 0) rfl rfl (aN (aQ (aQ (aL (aA 9 (.int .i64 0) rfl rfl (aN (ac_block ?_)))))))))))))))))))))))
 refine ac_rounds 61 (ar_round (aQ (aQ (aL (aM 16 (.int .i64 0) rfl rfl (aB 17 (.bool true) rfl rfl rfl (bi_lss (by decide)) (aN (ac_then rfl (ac_skip (aQ (ac_block (aQ (aL (aF 20 fa26_0 rfl rfl (aD 21 (.int .i64 a.lo) cell3 2 rfl rfl rfl rfl (aA 10 (.int .i64 a.lo) rfl rfl (aN (aQ (aQ (aL (aM 22 (.int .i64 0) rfl rfl (aB 23 (.int .i64 0) rfl rfl rfl (bi_rem (by decide) (by decide)) (aB 24 (.bool false) rfl rfl rfl (bi_eql (by decide)) (aN (ac_else rfl (ac_skip (aQ (aL (aF 27 fa26_0 rfl rfl (aD 28 (.int .i64 b.lo) cell3 1 rfl rfl rfl rfl (aA 11 (.int .i64 b.lo) rfl rfl (aN (aQ (aQ (aL (aM 29 (.int .i64 0) rfl rfl ?_))))))))))))))))))))))))))))))))))))
 refine aB 30 (.int .i64 0) rfl rfl rfl (bi_quo (by decide) (by decide)) (aB 31 (.bool false) rfl rfl rfl (bi_eql (by decide)) (aN (ac_else rfl (ac_skip (aQ (aL (aM 35 (.int .i64 a.lo) rfl rfl (aM 36 (.int .i64 b.lo) rfl rfl (aC 37 (c_rMul a.lo b.lo false) Try.func115 ⟨rfl, by decide⟩ rfl rfl (aM 34 (.tuple #[.int .i64 ((rMul a.lo b.lo false).1), .bool ((rMul a.lo b.lo false).2)]) rfl rfl (aX 38 (.int .i64 ((rMul a.lo b.lo false).1)) rfl rfl rfl (aX 39 (.bool ((rMul a.lo b.lo false).2)) rfl rfl rfl (aA 12 (.int .i64 ((rMul a.lo b.lo false).1)) rfl rfl (aA 13 (.bool ((rMul a.lo b.lo false).2)) rfl rfl (aN (aQ (aL (aM 41 (.int .i64 a.lo) rfl rfl ?_))))))))))))))))))
 refine aM 42 (.int .i64 b.lo) rfl rfl (aC 43 (c_rMul a.lo b.lo true) Try.func115 ⟨rfl, by decide⟩ rfl rfl (aM 40 (.tuple #[.int .i64 ((rMul a.lo b.lo true).1), .bool ((rMul a.lo b.lo true).2)]) rfl rfl (aX 44 (.int .i64 ((rMul a.lo b.lo true).1)) rfl rfl rfl (aX 45 (.bool ((rMul a.lo b.lo true).2)) rfl rfl rfl (aA 14 (.int .i64 ((rMul a.lo b.lo true).1)) rfl rfl (aA 15 (.bool ((rMul a.lo b.lo true).2)) rfl rfl (aN (aQ (aQ (aL (aM 46 (.bool true) rfl rfl (aN (ac_then rfl (aQ (aL (aM 48 (.int .i64 a.lo) rfl rfl (aM 49 (.int .i64 b.lo) rfl rfl (aC 50 (c_rDiv a.lo b.lo false) Try.func132 ⟨rfl, by decide⟩ rfl rfl ?_))))))))))))))))))
 refine aM 47 (.tuple #[.int .i64 ((rDiv a.lo b.lo false).1), .bool ((rDiv a.lo b.lo false).2)]) rfl rfl (aX 51 (.int .i64 ((rDiv a.lo b.lo false).1)) rfl rfl rfl (aX 52 (.bool ((rDiv a.lo b.lo false).2)) rfl rfl rfl (aA 12 (.int .i64 ((rDiv a.lo b.lo false).1)) rfl rfl (aA 13 (.bool ((rDiv a.lo b.lo false).2)) rfl rfl (aN (aL (aM 54 (.int .i64 a.lo) rfl rfl (aM 55 (.int .i64 b.lo) rfl rfl (aC 56 (c_rDiv a.lo b.lo true) Try.func132 ⟨rfl, by decide⟩ rfl rfl (aM 53 (.tuple #[.int .i64 ((rDiv a.lo b.lo true).1), .bool ((rDiv a.lo b.lo true).2)]) rfl rfl (aX 57 (.int .i64 ((rDiv a.lo b.lo true).1)) rfl rfl rfl (aX 58 (.bool ((rDiv a.lo b.lo true).2)) rfl rfl rfl ?_))))))))))))
 refine aA 14 (.int .i64 ((rDiv a.lo b.lo true).1)) rfl rfl (aA 15 (.bool ((rDiv a.lo b.lo true).2)) rfl rfl (aN (aQ (aQ (aL (aM 59 (.bool ((rDiv a.lo b.lo false).2)) rfl rfl (ao 60 rfl rfl (st_un (v := .bool (!((rDiv a.lo b.lo false).2))) rfl rfl (un_not rfl) (aM 61 (.bool (!((rDiv a.lo b.lo false).2))) rfl rfl ?_)))))))))
 refine bool_split ((rDiv a.lo b.lo false).2) (fun h1 => ?_) (fun h1 => ?_)
 ·refine ar_gd (d := (some 62)) (by show ((!((rDiv a.lo b.lo false).2)) == false) = true; rw [h1]; rfl) rfl (st_move (v := .bool ((rDiv a.lo b.lo true).2)) rfl rfl (ar_gd (d := (some 63)) (by show ((!((rDiv a.lo b.lo false).2)) == false) = true; rw [h1]; rfl) rfl (st_un (v := .bool (!((rDiv a.lo b.lo true).2))) rfl rfl (un_not rfl) (ao 64 rfl rfl (st_pkf' (b := !((rDiv a.lo b.lo false).2)) (v := .bool (!((rDiv a.lo b.lo true).2))) (by rw [h1]; rfl) rfl rfl rfl (aN ?_))))))
  refine bool_split ((rDiv a.lo b.lo true).2) (fun h2 => ?_) (fun h2 => ?_)
  ·refine ac_else' (b := !((rDiv a.lo b.lo true).2)) (by rw [h2]; rfl) rfl (ac_skip (aQ (aQ (aL (aM 66 (.int .i64 0) rfl rfl (aB 67 (.bool true) rfl rfl rfl (bi_eql (by decide)) (aM 68 (.bool true) rfl rfl (aK 69 rfl rfl (aK 70 rfl rfl (aK 71 rfl rfl (ao 72 rfl rfl (st_pkt (v := .bool true) rfl rfl rfl (aN (ac_then rfl (aL (aM 73 (.int .i64 ((rDiv a.lo b.lo false).1)) rfl rfl (aA 7 (.int .i64 ((rDiv a.lo b.lo false).1)) rfl rfl (aN (aQ (aL (aM 74 (.int .i64 0) rfl rfl (aB 75 (.bool true) rfl rfl rfl (bi_eql (by decide)) (aM 76 (.bool true) rfl rfl (aK 77 rfl rfl (aK 78 rfl rfl (aK 79 rfl rfl (ao 80 rfl rfl (st_pkt (v := .bool true) rfl rfl rfl ?_))))))))))))))))))))))))))))
   refine aN (ac_then rfl (aL (aM 81 (.int .i64 ((rDiv a.lo b.lo true).1)) rfl rfl (aA 8 (.int .i64 ((rDiv a.lo b.lo true).1)) rfl rfl (aN (aL (aM 18 (.int .i64 0) rfl rfl (aB 19 (.int .i64 1) rfl rfl rfl (bi_add (by decide)) (aA 9 (.int .i64 1) rfl rfl (aN (ar_round (aQ (aQ (aL (aM 16 (.int .i64 1) rfl rfl (aB 17 (.bool true) rfl rfl rfl (bi_lss (by decide)) (aN (ac_then rfl (ac_skip (aQ (ac_block (aQ (aL (aF 20 fa26_0 rfl rfl (aD 21 (.int .i64 a.lo) cell3 2 rfl rfl rfl rfl (aA 10 (.int .i64 a.lo) rfl rfl (aN (aQ (aQ (aL (aM 22 (.int .i64 1) rfl rfl (aB 23 (.int .i64 1) rfl rfl rfl (bi_rem (by decide) (by decide)) ?_))))))))))))))))))))))))))))))))
   refine aB 24 (.bool true) rfl rfl rfl (bi_eql (by decide)) (aN (ac_then rfl (aL (aF 25 fa26_1 rfl rfl (aD 26 (.int .i64 a.hi) cell3 2 rfl rfl rfl rfl (aA 10 (.int .i64 a.hi) rfl rfl (aN (aQ (aL (aF 27 fa26_0 rfl rfl (aD 28 (.int .i64 b.lo) cell3 1 rfl rfl rfl rfl (aA 11 (.int .i64 b.lo) rfl rfl (aN (aQ (aQ (aL (aM 29 (.int .i64 1) rfl rfl (aB 30 (.int .i64 0) rfl rfl rfl (bi_quo (by decide) (by decide)) (aB 31 (.bool false) rfl rfl rfl (bi_eql (by decide)) (aN (ac_else rfl (ac_skip (aQ (aL (aM 35 (.int .i64 a.hi) rfl rfl (aM 36 (.int .i64 b.lo) rfl rfl (aC 37 (c_rMul a.hi b.lo false) Try.func115 ⟨rfl, by decide⟩ rfl rfl ?_)))))))))))))))))))))))))))
   refine aM 34 (.tuple #[.int .i64 ((rMul a.hi b.lo false).1), .bool ((rMul a.hi b.lo false).2)]) rfl rfl (aX 38 (.int .i64 ((rMul a.hi b.lo false).1)) rfl rfl rfl (aX 39 (.bool ((rMul a.hi b.lo false).2)) rfl rfl rfl (aA 12 (.int .i64 ((rMul a.hi b.lo false).1)) rfl rfl (aA 13 (.bool ((rMul a.hi b.lo false).2)) rfl rfl (aN (aQ (aL (aM 41 (.int .i64 a.hi) rfl rfl (aM 42 (.int .i64 b.lo) rfl rfl (aC 43 (c_rMul a.hi b.lo true) Try.func115 ⟨rfl, by decide⟩ rfl rfl (aM 40 (.tuple #[.int .i64 ((rMul a.hi b.lo true).1), .bool ((rMul a.hi b.lo true).2)]) rfl rfl (aX 44 (.int .i64 ((rMul a.hi b.lo true).1)) rfl rfl rfl ?_))))))))))))
   refine aX 45 (.bool ((rMul a.hi b.lo true).2)) rfl rfl rfl (aA 14 (.int .i64 ((rMul a.hi b.lo true).1)) rfl rfl (aA 15 (.bool ((rMul a.hi b.lo true).2)) rfl rfl (aN (aQ (aQ (aL (aM 46 (.bool true) rfl rfl (aN (ac_then rfl (aQ (aL (aM 48 (.int .i64 a.hi) rfl rfl (aM 49 (.int .i64 b.lo) rfl rfl (aC 50 (c_rDiv a.hi b.lo false) Try.func132 ⟨rfl, by decide⟩ rfl rfl (aM 47 (.tuple #[.int .i64 ((rDiv a.hi b.lo false).1), .bool ((rDiv a.hi b.lo false).2)]) rfl rfl (aX 51 (.int .i64 ((rDiv a.hi b.lo false).1)) rfl rfl rfl (aX 52 (.bool ((rDiv a.hi b.lo false).2)) rfl rfl rfl (aA 12 (.int .i64 ((rDiv a.hi b.lo false).1)) rfl rfl ?_))))))))))))))))))
   refine aA 13 (.bool ((rDiv a.hi b.lo false).2)) rfl rfl (aN (aL (aM 54 (.int .i64 a.hi) rfl rfl (aM 55 (.int .i64 b.lo) rfl rfl (aC 56 (c_rDiv a.hi b.lo true) Try.func132 ⟨rfl, by decide⟩ rfl rfl (aM 53 (.tuple #[.int .i64 ((rDiv a.hi b.lo true).1), .bool ((rDiv a.hi b.lo true).2)]) rfl rfl (aX 57 (.int .i64 ((rDiv a.hi b.lo true).1)) rfl rfl rfl (aX 58 (.bool ((rDiv a.hi b.lo true).2)) rfl rfl rfl (aA 14 (.int .i64 ((rDiv a.hi b.lo true).1)) rfl rfl (aA 15 (.bool ((rDiv a.hi b.lo true).2)) rfl rfl (aN (aQ (aQ (aL (aM 59 (.bool ((rDiv a.hi b.lo false).2)) rfl rfl (ao 60 rfl rfl (st_un (v := .bool (!((rDiv a.hi b.lo false).2))) rfl rfl (un_not rfl) ?_)))))))))))))))))
   refine aM 61 (.bool (!((rDiv a.hi b.lo false).2))) rfl rfl ?_
   refine bool_split ((rDiv a.hi b.lo false).2) (fun h3 => ?_) (fun h3 => ?_)
   ·refine ar_gd (d := (some 62)) (by show ((!((rDiv a.hi b.lo false).2)) == false) = true; rw [h3]; rfl) rfl (st_move (v := .bool ((rDiv a.hi b.lo true).2)) rfl rfl (ar_gd (d := (some 63)) (by show ((!((rDiv a.hi b.lo false).2)) == false) = true; rw [h3]; rfl) rfl (st_un (v := .bool (!((rDiv a.hi b.lo true).2))) rfl rfl (un_not rfl) (ao 64 rfl rfl (st_pkf' (b := !((rDiv a.hi b.lo false).2)) (v := .bool (!((rDiv a.hi b.lo true).2))) (by rw [h3]; rfl) rfl rfl rfl (aN ?_))))))
    refine bool_split ((rDiv a.hi b.lo true).2) (fun h4 => ?_) (fun h4 => ?_)
    ·refine ac_else' (b := !((rDiv a.hi b.lo true).2)) (by rw [h4]; rfl) rfl (ac_skip (aQ (aQ (aL (aM 66 (.int .i64 1) rfl rfl (aB 67 (.bool false) rfl rfl rfl (bi_eql (by decide)) (aM 68 (.bool false) rfl rfl (ar_gd (d := (some 69)) rfl rfl (st_move (v := .int .i64 ((rDiv a.hi b.lo false).1)) rfl rfl (ar_gd (d := (some 70)) rfl rfl (st_move (v := .int .i64 ((rDiv a.lo b.lo false).1)) rfl rfl (ar_gd (d := (some 71)) rfl rfl (st_bi (r := .bool (decide (((rDiv a.hi b.lo false).1) < ((rDiv a.lo b.lo false).1)))) rfl rfl rfl (bi_lss rfl) (ao 72 rfl rfl (st_pkf (v := .bool (decide (((rDiv a.hi b.lo false).1) < ((rDiv a.lo b.lo false).1)))) rfl rfl rfl (aN ?_))))))))))))))))
     refine ac_mergeE (fun E9 => ((Env.put E9 (some 73) (.int .i64 ((rDiv a.hi b.lo false).1))).put (some 7) (.int .i64 ((rDiv a.hi b.lo false).1)))) (fun E9 => ((Env.put E9 (some 73) (.int .i64 (rEndsDiv_e0 a b))).put (some 7) (.int .i64 (rEndsDiv_e0 a b)))) (b := decide (((rDiv a.hi b.lo false).1) < ((rDiv a.lo b.lo false).1))) rfl (fun hm => ?_) (fun hm => ?_) (fun hm => ?_) ?_
     ·refine aL (aM 73 (.int .i64 ((rDiv a.hi b.lo false).1)) rfl rfl (aA 7 (.int .i64 ((rDiv a.hi b.lo false).1)) rfl rfl (aN ?_)))
      exact ⟨rfl, rfl, rfl⟩
     ·unfold rEndsDiv_e0; rw [hm]; rfl
     ·unfold rEndsDiv_e0; rw [hm]; exact ((put_self rfl).trans (put_self rfl))
     refine aQ (aL (aM 74 (.int .i64 1) rfl rfl (aB 75 (.bool false) rfl rfl rfl (bi_eql (by decide)) (aM 76 (.bool false) rfl rfl (ar_gd (d := (some 77)) rfl rfl (st_move (v := .int .i64 ((rDiv a.hi b.lo true).1)) rfl rfl (ar_gd (d := (some 78)) rfl rfl (st_move (v := .int .i64 ((rDiv a.lo b.lo true).1)) rfl rfl (ar_gd (d := (some 79)) rfl rfl (st_bi (r := .bool (decide (((rDiv a.hi b.lo true).1) > ((rDiv a.lo b.lo true).1)))) rfl rfl rfl (bi_gtr rfl) (ao 80 rfl rfl (st_pkf (v := .bool (decide (((rDiv a.hi b.lo true).1) > ((rDiv a.lo b.lo true).1)))) rfl rfl rfl (aN ?_)))))))))))))
     refine ac_mergeE (fun E9 => ((Env.put E9 (some 81) (.int .i64 ((rDiv a.hi b.lo true).1))).put (some 8) (.int .i64 ((rDiv a.hi b.lo true).1)))) (fun E9 => ((Env.put E9 (some 81) (.int .i64 (rEndsDiv_e1 a b))).put (some 8) (.int .i64 (rEndsDiv_e1 a b)))) (b := decide (((rDiv a.hi b.lo true).1) > ((rDiv a.lo b.lo true).1))) rfl (fun hm => ?_) (fun hm => ?_) (fun hm => ?_) ?_
     ·refine aL (aM 81 (.int .i64 ((rDiv a.hi b.lo true).1)) rfl rfl (aA 8 (.int .i64 ((rDiv a.hi b.lo true).1)) rfl rfl (aN ?_)))
      exact ⟨rfl, rfl, rfl⟩
     ·unfold rEndsDiv_e1; rw [hm]; rfl
     ·unfold rEndsDiv_e1; rw [hm]; exact ((put_self rfl).trans (put_self rfl))
     refine aL (aM 18 (.int .i64 1) rfl rfl (aB 19 (.int .i64 2) rfl rfl rfl (bi_add (by decide)) (aA 9 (.int .i64 2) rfl rfl (aN (ar_round (aQ (aQ (aL (aM 16 (.int .i64 2) rfl rfl (aB 17 (.bool true) rfl rfl rfl (bi_lss (by decide)) (aN (ac_then rfl (ac_skip (aQ (ac_block (aQ (aL (aF 20 fa26_0 rfl rfl (aD 21 (.int .i64 a.lo) cell3 2 rfl rfl rfl rfl (aA 10 (.int .i64 a.lo) rfl rfl (aN (aQ (aQ (aL (aM 22 (.int .i64 2) rfl rfl (aB 23 (.int .i64 0) rfl rfl rfl (bi_rem (by decide) (by decide)) (aB 24 (.bool false) rfl rfl rfl (bi_eql (by decide)) (aN (ac_else rfl (ac_skip (aQ (aL (aF 27 fa26_0 rfl rfl ?_)))))))))))))))))))))))))))))))))
     refine aD 28 (.int .i64 b.lo) cell3 1 rfl rfl rfl rfl (aA 11 (.int .i64 b.lo) rfl rfl (aN (aQ (aQ (aL (aM 29 (.int .i64 2) rfl rfl (aB 30 (.int .i64 1) rfl rfl rfl (bi_quo (by decide) (by decide)) (aB 31 (.bool true) rfl rfl rfl (bi_eql (by decide)) (aN (ac_then rfl (aL (aF 32 fa26_1 rfl rfl (aD 33 (.int .i64 b.hi) cell3 1 rfl rfl rfl rfl (aA 11 (.int .i64 b.hi) rfl rfl (aN (aQ (aL (aM 35 (.int .i64 a.lo) rfl rfl (aM 36 (.int .i64 b.hi) rfl rfl (aC 37 (c_rMul a.lo b.hi false) Try.func115 ⟨rfl, by decide⟩ rfl rfl (aM 34 (.tuple #[.int .i64 ((rMul a.lo b.hi false).1), .bool ((rMul a.lo b.hi false).2)]) rfl rfl ?_)))))))))))))))))))))
     refine aX 38 (.int .i64 ((rMul a.lo b.hi false).1)) rfl rfl rfl (aX 39 (.bool ((rMul a.lo b.hi false).2)) rfl rfl rfl (aA 12 (.int .i64 ((rMul a.lo b.hi false).1)) rfl rfl (aA 13 (.bool ((rMul a.lo b.hi false).2)) rfl rfl (aN (aQ (aL (aM 41 (.int .i64 a.lo) rfl rfl (aM 42 (.int .i64 b.hi) rfl rfl (aC 43 (c_rMul a.lo b.hi true) Try.func115 ⟨rfl, by decide⟩ rfl rfl (aM 40 (.tuple #[.int .i64 ((rMul a.lo b.hi true).1), .bool ((rMul a.lo b.hi true).2)]) rfl rfl (aX 44 (.int .i64 ((rMul a.lo b.hi true).1)) rfl rfl rfl (aX 45 (.bool ((rMul a.lo b.hi true).2)) rfl rfl rfl (aA 14 (.int .i64 ((rMul a.lo b.hi true).1)) rfl rfl ?_)))))))))))))
     refine aA 15 (.bool ((rMul a.lo b.hi true).2)) rfl rfl (aN (aQ (aQ (aL (aM 46 (.bool true) rfl rfl (aN (ac_then rfl (aQ (aL (aM 48 (.int .i64 a.lo) rfl rfl (aM 49 (.int .i64 b.hi) rfl rfl (aC 50 (c_rDiv a.lo b.hi false) Try.func132 ⟨rfl, by decide⟩ rfl rfl (aM 47 (.tuple #[.int .i64 ((rDiv a.lo b.hi false).1), .bool ((rDiv a.lo b.hi false).2)]) rfl rfl (aX 51 (.int .i64 ((rDiv a.lo b.hi false).1)) rfl rfl rfl (aX 52 (.bool ((rDiv a.lo b.hi false).2)) rfl rfl rfl (aA 12 (.int .i64 ((rDiv a.lo b.hi false).1)) rfl rfl (aA 13 (.bool ((rDiv a.lo b.hi false).2)) rfl rfl (aN (aL (aM 54 (.int .i64 a.lo) rfl rfl (aM 55 (.int .i64 b.hi) rfl rfl ?_)))))))))))))))))))))
     refine aC 56 (c_rDiv a.lo b.hi true) Try.func132 ⟨rfl, by decide⟩ rfl rfl (aM 53 (.tuple #[.int .i64 ((rDiv a.lo b.hi true).1), .bool ((rDiv a.lo b.hi true).2)]) rfl rfl (aX 57 (.int .i64 ((rDiv a.lo b.hi true).1)) rfl rfl rfl (aX 58 (.bool ((rDiv a.lo b.hi true).2)) rfl rfl rfl (aA 14 (.int .i64 ((rDiv a.lo b.hi true).1)) rfl rfl (aA 15 (.bool ((rDiv a.lo b.hi true).2)) rfl rfl (aN (aQ (aQ (aL (aM 59 (.bool ((rDiv a.lo b.hi false).2)) rfl rfl (ao 60 rfl rfl (st_un (v := .bool (!((rDiv a.lo b.hi false).2))) rfl rfl (un_not rfl) (aM 61 (.bool (!((rDiv a.lo b.hi false).2))) rfl rfl ?_)))))))))))))
     refine bool_split ((rDiv a.lo b.hi false).2) (fun h5 => ?_) (fun h5 => ?_)
     ·refine ar_gd (d := (some 62)) (by show ((!((rDiv a.lo b.hi false).2)) == false) = true; rw [h5]; rfl) rfl (st_move (v := .bool ((rDiv a.lo b.hi true).2)) rfl rfl (ar_gd (d := (some 63)) (by show ((!((rDiv a.lo b.hi false).2)) == false) = true; rw [h5]; rfl) rfl (st_un (v := .bool (!((rDiv a.lo b.hi true).2))) rfl rfl (un_not rfl) (ao 64 rfl rfl (st_pkf' (b := !((rDiv a.lo b.hi false).2)) (v := .bool (!((rDiv a.lo b.hi true).2))) (by rw [h5]; rfl) rfl rfl rfl (aN ?_))))))
      refine bool_split ((rDiv a.lo b.hi true).2) (fun h6 => ?_) (fun h6 => ?_)
      ·refine ac_else' (b := !((rDiv a.lo b.hi true).2)) (by rw [h6]; rfl) rfl (ac_skip (aQ (aQ (aL (aM 66 (.int .i64 2) rfl rfl (aB 67 (.bool false) rfl rfl rfl (bi_eql (by decide)) (aM 68 (.bool false) rfl rfl (ar_gd (d := (some 69)) rfl rfl (st_move (v := .int .i64 ((rDiv a.lo b.hi false).1)) rfl rfl (ar_gd (d := (some 70)) rfl rfl (st_move (v := .int .i64 (rEndsDiv_e0 a b)) rfl rfl (ar_gd (d := (some 71)) rfl rfl (st_bi (r := .bool (decide (((rDiv a.lo b.hi false).1) < (rEndsDiv_e0 a b)))) rfl rfl rfl (bi_lss rfl) (ao 72 rfl rfl (st_pkf (v := .bool (decide (((rDiv a.lo b.hi false).1) < (rEndsDiv_e0 a b)))) rfl rfl rfl (aN ?_))))))))))))))))
       refine ac_mergeE (fun E9 => ((Env.put E9 (some 73) (.int .i64 ((rDiv a.lo b.hi false).1))).put (some 7) (.int .i64 ((rDiv a.lo b.hi false).1)))) (fun E9 => ((Env.put E9 (some 73) (.int .i64 (rEndsDiv_e2 a b))).put (some 7) (.int .i64 (rEndsDiv_e2 a b)))) (b := decide (((rDiv a.lo b.hi false).1) < (rEndsDiv_e0 a b))) rfl (fun hm => ?_) (fun hm => ?_) (fun hm => ?_) ?_
       ·refine aL (aM 73 (.int .i64 ((rDiv a.lo b.hi false).1)) rfl rfl (aA 7 (.int .i64 ((rDiv a.lo b.hi false).1)) rfl rfl (aN ?_)))
        exact ⟨rfl, rfl, rfl⟩
       ·unfold rEndsDiv_e2; rw [hm]; rfl
       ·unfold rEndsDiv_e2; rw [hm]; exact ((put_self rfl).trans (put_self rfl))
       refine aQ (aL (aM 74 (.int .i64 2) rfl rfl (aB 75 (.bool false) rfl rfl rfl (bi_eql (by decide)) (aM 76 (.bool false) rfl rfl (ar_gd (d := (some 77)) rfl rfl (st_move (v := .int .i64 ((rDiv a.lo b.hi true).1)) rfl rfl (ar_gd (d := (some 78)) rfl rfl (st_move (v := .int .i64 (rEndsDiv_e1 a b)) rfl rfl (ar_gd (d := (some 79)) rfl rfl (st_bi (r := .bool (decide (((rDiv a.lo b.hi true).1) > (rEndsDiv_e1 a b)))) rfl rfl rfl (bi_gtr rfl) (ao 80 rfl rfl (st_pkf (v := .bool (decide (((rDiv a.lo b.hi true).1) > (rEndsDiv_e1 a b)))) rfl rfl rfl (aN ?_)))))))))))))
       refine ac_mergeE (fun E9 => ((Env.put E9 (some 81) (.int .i64 ((rDiv a.lo b.hi true).1))).put (some 8) (.int .i64 ((rDiv a.lo b.hi true).1)))) (fun E9 => ((Env.put E9 (some 81) (.int .i64 (rEndsDiv_e3 a b))).put (some 8) (.int .i64 (rEndsDiv_e3 a b)))) (b := decide (((rDiv a.lo b.hi true).1) > (rEndsDiv_e1 a b))) rfl (fun hm => ?_) (fun hm => ?_) (fun hm => ?_) ?_
       ·refine aL (aM 81 (.int .i64 ((rDiv a.lo b.hi true).1)) rfl rfl (aA 8 (.int .i64 ((rDiv a.lo b.hi true).1)) rfl rfl (aN ?_)))
        exact ⟨rfl, rfl, rfl⟩
       ·unfold rEndsDiv_e3; rw [hm]; rfl
       ·unfold rEndsDiv_e3; rw [hm]; exact ((put_self rfl).trans (put_self rfl))
       refine aL (aM 18 (.int .i64 2) rfl rfl (aB 19 (.int .i64 3) rfl rfl rfl (bi_add (by decide)) (aA 9 (.int .i64 3) rfl rfl (aN (ar_round (aQ (aQ (aL (aM 16 (.int .i64 3) rfl rfl (aB 17 (.bool true) rfl rfl rfl (bi_lss (by decide)) (aN (ac_then rfl (ac_skip (aQ (ac_block (aQ (aL (aF 20 fa26_0 rfl rfl (aD 21 (.int .i64 a.lo) cell3 2 rfl rfl rfl rfl (aA 10 (.int .i64 a.lo) rfl rfl (aN (aQ (aQ (aL (aM 22 (.int .i64 3) rfl rfl (aB 23 (.int .i64 1) rfl rfl rfl (bi_rem (by decide) (by decide)) (aB 24 (.bool true) rfl rfl rfl (bi_eql (by decide)) (aN (ac_then rfl (aL (aF 25 fa26_1 rfl rfl ?_)))))))))))))))))))))))))))))))
       refine aD 26 (.int .i64 a.hi) cell3 2 rfl rfl rfl rfl (aA 10 (.int .i64 a.hi) rfl rfl (aN (aQ (aL (aF 27 fa26_0 rfl rfl (aD 28 (.int .i64 b.lo) cell3 1 rfl rfl rfl rfl (aA 11 (.int .i64 b.lo) rfl rfl (aN (aQ (aQ (aL (aM 29 (.int .i64 3) rfl rfl (aB 30 (.int .i64 1) rfl rfl rfl (bi_quo (by decide) (by decide)) (aB 31 (.bool true) rfl rfl rfl (bi_eql (by decide)) (aN (ac_then rfl (aL (aF 32 fa26_1 rfl rfl (aD 33 (.int .i64 b.hi) cell3 1 rfl rfl rfl rfl (aA 11 (.int .i64 b.hi) rfl rfl (aN (aQ (aL (aM 35 (.int .i64 a.hi) rfl rfl (aM 36 (.int .i64 b.hi) rfl rfl (aC 37 (c_rMul a.hi b.hi false) Try.func115 ⟨rfl, by decide⟩ rfl rfl ?_))))))))))))))))))))))))))
       refine aM 34 (.tuple #[.int .i64 ((rMul a.hi b.hi false).1), .bool ((rMul a.hi b.hi false).2)]) rfl rfl (aX 38 (.int .i64 ((rMul a.hi b.hi false).1)) rfl rfl rfl (aX 39 (.bool ((rMul a.hi b.hi false).2)) rfl rfl rfl (aA 12 (.int .i64 ((rMul a.hi b.hi false).1)) rfl rfl (aA 13 (.bool ((rMul a.hi b.hi false).2)) rfl rfl (aN (aQ (aL (aM 41 (.int .i64 a.hi) rfl rfl (aM 42 (.int .i64 b.hi) rfl rfl (aC 43 (c_rMul a.hi b.hi true) Try.func115 ⟨rfl, by decide⟩ rfl rfl (aM 40 (.tuple #[.int .i64 ((rMul a.hi b.hi true).1), .bool ((rMul a.hi b.hi true).2)]) rfl rfl (aX 44 (.int .i64 ((rMul a.hi b.hi true).1)) rfl rfl rfl ?_))))))))))))
       refine aX 45 (.bool ((rMul a.hi b.hi true).2)) rfl rfl rfl (aA 14 (.int .i64 ((rMul a.hi b.hi true).1)) rfl rfl (aA 15 (.bool ((rMul a.hi b.hi true).2)) rfl rfl (aN (aQ (aQ (aL (aM 46 (.bool true) rfl rfl (aN (ac_then rfl (aQ (aL (aM 48 (.int .i64 a.hi) rfl rfl (aM 49 (.int .i64 b.hi) rfl rfl (aC 50 (c_rDiv a.hi b.hi false) Try.func132 ⟨rfl, by decide⟩ rfl rfl (aM 47 (.tuple #[.int .i64 ((rDiv a.hi b.hi false).1), .bool ((rDiv a.hi b.hi false).2)]) rfl rfl (aX 51 (.int .i64 ((rDiv a.hi b.hi false).1)) rfl rfl rfl (aX 52 (.bool ((rDiv a.hi b.hi false).2)) rfl rfl rfl (aA 12 (.int .i64 ((rDiv a.hi b.hi false).1)) rfl rfl ?_))))))))))))))))))
       refine aA 13 (.bool ((rDiv a.hi b.hi false).2)) rfl rfl (aN (aL (aM 54 (.int .i64 a.hi) rfl rfl (aM 55 (.int .i64 b.hi) rfl rfl (aC 56 (c_rDiv a.hi b.hi true) Try.func132 ⟨rfl, by decide⟩ rfl rfl (aM 53 (.tuple #[.int .i64 ((rDiv a.hi b.hi true).1), .bool ((rDiv a.hi b.hi true).2)]) rfl rfl (aX 57 (.int .i64 ((rDiv a.hi b.hi true).1)) rfl rfl rfl (aX 58 (.bool ((rDiv a.hi b.hi true).2)) rfl rfl rfl (aA 14 (.int .i64 ((rDiv a.hi b.hi true).1)) rfl rfl (aA 15 (.bool ((rDiv a.hi b.hi true).2)) rfl rfl (aN (aQ (aQ (aL (aM 59 (.bool ((rDiv a.hi b.hi false).2)) rfl rfl ?_)))))))))))))))
       refine ao 60 rfl rfl (st_un (v := .bool (!((rDiv a.hi b.hi false).2))) rfl rfl (un_not rfl) (aM 61 (.bool (!((rDiv a.hi b.hi false).2))) rfl rfl ?_))
       refine bool_split ((rDiv a.hi b.hi false).2) (fun h7 => ?_) (fun h7 => ?_)
       ·refine ar_gd (d := (some 62)) (by show ((!((rDiv a.hi b.hi false).2)) == false) = true; rw [h7]; rfl) rfl (st_move (v := .bool ((rDiv a.hi b.hi true).2)) rfl rfl (ar_gd (d := (some 63)) (by show ((!((rDiv a.hi b.hi false).2)) == false) = true; rw [h7]; rfl) rfl (st_un (v := .bool (!((rDiv a.hi b.hi true).2))) rfl rfl (un_not rfl) (ao 64 rfl rfl (st_pkf' (b := !((rDiv a.hi b.hi false).2)) (v := .bool (!((rDiv a.hi b.hi true).2))) (by rw [h7]; rfl) rfl rfl rfl (aN ?_))))))
        refine bool_split ((rDiv a.hi b.hi true).2) (fun h8 => ?_) (fun h8 => ?_)
        ·refine ac_else' (b := !((rDiv a.hi b.hi true).2)) (by rw [h8]; rfl) rfl (ac_skip (aQ (aQ (aL (aM 66 (.int .i64 3) rfl rfl (aB 67 (.bool false) rfl rfl rfl (bi_eql (by decide)) (aM 68 (.bool false) rfl rfl (ar_gd (d := (some 69)) rfl rfl (st_move (v := .int .i64 ((rDiv a.hi b.hi false).1)) rfl rfl (ar_gd (d := (some 70)) rfl rfl (st_move (v := .int .i64 (rEndsDiv_e2 a b)) rfl rfl (ar_gd (d := (some 71)) rfl rfl (st_bi (r := .bool (decide (((rDiv a.hi b.hi false).1) < (rEndsDiv_e2 a b)))) rfl rfl rfl (bi_lss rfl) (ao 72 rfl rfl (st_pkf (v := .bool (decide (((rDiv a.hi b.hi false).1) < (rEndsDiv_e2 a b)))) rfl rfl rfl (aN ?_))))))))))))))))
         refine ac_mergeE (fun E9 => ((Env.put E9 (some 73) (.int .i64 ((rDiv a.hi b.hi false).1))).put (some 7) (.int .i64 ((rDiv a.hi b.hi false).1)))) (fun E9 => ((Env.put E9 (some 73) (.int .i64 (rEndsDiv_e4 a b))).put (some 7) (.int .i64 (rEndsDiv_e4 a b)))) (b := decide (((rDiv a.hi b.hi false).1) < (rEndsDiv_e2 a b))) rfl (fun hm => ?_) (fun hm => ?_) (fun hm => ?_) ?_
         ·refine aL (aM 73 (.int .i64 ((rDiv a.hi b.hi false).1)) rfl rfl (aA 7 (.int .i64 ((rDiv a.hi b.hi false).1)) rfl rfl (aN ?_)))
          exact ⟨rfl, rfl, rfl⟩
         ·unfold rEndsDiv_e4; rw [hm]; rfl
         ·unfold rEndsDiv_e4; rw [hm]; exact ((put_self rfl).trans (put_self rfl))
         refine aQ (aL (aM 74 (.int .i64 3) rfl rfl (aB 75 (.bool false) rfl rfl rfl (bi_eql (by decide)) (aM 76 (.bool false) rfl rfl (ar_gd (d := (some 77)) rfl rfl (st_move (v := .int .i64 ((rDiv a.hi b.hi true).1)) rfl rfl (ar_gd (d := (some 78)) rfl rfl (st_move (v := .int .i64 (rEndsDiv_e3 a b)) rfl rfl (ar_gd (d := (some 79)) rfl rfl (st_bi (r := .bool (decide (((rDiv a.hi b.hi true).1) > (rEndsDiv_e3 a b)))) rfl rfl rfl (bi_gtr rfl) (ao 80 rfl rfl (st_pkf (v := .bool (decide (((rDiv a.hi b.hi true).1) > (rEndsDiv_e3 a b)))) rfl rfl rfl (aN ?_)))))))))))))
         refine ac_mergeE (fun E9 => ((Env.put E9 (some 81) (.int .i64 ((rDiv a.hi b.hi true).1))).put (some 8) (.int .i64 ((rDiv a.hi b.hi true).1)))) (fun E9 => ((Env.put E9 (some 81) (.int .i64 (rEndsDiv_e5 a b))).put (some 8) (.int .i64 (rEndsDiv_e5 a b)))) (b := decide (((rDiv a.hi b.hi true).1) > (rEndsDiv_e3 a b))) rfl (fun hm => ?_) (fun hm => ?_) (fun hm => ?_) ?_
         ·refine aL (aM 81 (.int .i64 ((rDiv a.hi b.hi true).1)) rfl rfl (aA 8 (.int .i64 ((rDiv a.hi b.hi true).1)) rfl rfl (aN ?_)))
          exact ⟨rfl, rfl, rfl⟩
         ·unfold rEndsDiv_e5; rw [hm]; rfl
         ·unfold rEndsDiv_e5; rw [hm]; exact ((put_self rfl).trans (put_self rfl))
         refine aL (aM 18 (.int .i64 3) rfl rfl (aB 19 (.int .i64 4) rfl rfl rfl (bi_add (by decide)) (aA 9 (.int .i64 4) rfl rfl (aN (ar_round (aQ (aQ (aL (aM 16 (.int .i64 4) rfl rfl (aB 17 (.bool false) rfl rfl rfl (bi_lss (by decide)) (aN (ac_else rfl (ac_exit (aQ (aL (aM 82 (.int .i64 (rEndsDiv_e4 a b)) rfl rfl (aM 83 (.int .i64 (rEndsDiv_e5 a b)) rfl rfl (aC 84 (c_rOf (rEndsDiv_e4 a b) (rEndsDiv_e5 a b)) Try.func112 ⟨rfl, by decide⟩ rfl rfl ?_))))))))))))))))))
         refine aS [.int .i64 ((rOf (rEndsDiv_e4 a b) (rEndsDiv_e5 a b)).lo), .int .i64 ((rOf (rEndsDiv_e4 a b) (rEndsDiv_e5 a b)).hi), .bool ((rOf (rEndsDiv_e4 a b) (rEndsDiv_e5 a b)).no)] agg26 0 rfl rfl rfl rfl rfl rfl (aN (ac_ret ?_))
         exact fin_eq (v := .agg #[.int .i64 ((rOf (rEndsDiv_e4 a b) (rEndsDiv_e5 a b)).lo), .int .i64 ((rOf (rEndsDiv_e4 a b) (rEndsDiv_e5 a b)).hi), .bool ((rOf (rEndsDiv_e4 a b) (rEndsDiv_e5 a b)).no)]) (by show _ = Iv.v (rEndsDiv a b); rw [rEndsDiv, h8, h7, h6, h5, h4, h3, h2, h1] <;> rfl) (fin_ret (res_c (vs := [.int .i64 ((rOf (rEndsDiv_e4 a b) (rEndsDiv_e5 a b)).lo), .int .i64 ((rOf (rEndsDiv_e4 a b) (rEndsDiv_e5 a b)).hi), .bool ((rOf (rEndsDiv_e4 a b) (rEndsDiv_e5 a b)).no)]) agg26 0 rfl rfl rfl rfl rfl rfl))
        ·refine ac_then' (b := !((rDiv a.hi b.hi true).2)) (by rw [h8]; rfl) rfl (aQ (aL (aC 65 c_rNone Try.func111 ⟨rfl, by decide⟩ rfl rfl (aS [.int .i64 rNone.lo, .int .i64 rNone.hi, .bool rNone.no] agg26 0 rfl rfl rfl rfl rfl rfl (aN (ac_ret (fin_eq (v := .agg #[.int .i64 rNone.lo, .int .i64 rNone.hi, .bool rNone.no]) (by show _ = Iv.v (rEndsDiv a b); rw [rEndsDiv, h8, h7, h6, h5, h4, h3, h2, h1] <;> rfl) (fin_ret (res_c (vs := [.int .i64 rNone.lo, .int .i64 rNone.hi, .bool rNone.no]) agg26 0 rfl rfl rfl rfl rfl rfl)))))))))
       ·refine aK 62 (by show ((!((rDiv a.hi b.hi false).2)) == false) = false; rw [h7]; rfl) rfl (aK 63 (by show ((!((rDiv a.hi b.hi false).2)) == false) = false; rw [h7]; rfl) rfl (ao 64 rfl rfl (st_pkt' (b := !((rDiv a.hi b.hi false).2)) (v := .bool true) (by rw [h7]; rfl) rfl rfl rfl (aN (ac_then rfl (aQ (aL (aC 65 c_rNone Try.func111 ⟨rfl, by decide⟩ rfl rfl (aS [.int .i64 rNone.lo, .int .i64 rNone.hi, .bool rNone.no] agg26 0 rfl rfl rfl rfl rfl rfl (aN (ac_ret ?_)))))))))))
        exact fin_eq (v := .agg #[.int .i64 rNone.lo, .int .i64 rNone.hi, .bool rNone.no]) (by show _ = Iv.v (rEndsDiv a b); rw [rEndsDiv, h7, h6, h5, h4, h3, h2, h1] <;> rfl) (fin_ret (res_c (vs := [.int .i64 rNone.lo, .int .i64 rNone.hi, .bool rNone.no]) agg26 0 rfl rfl rfl rfl rfl rfl))
      ·refine ac_then' (b := !((rDiv a.lo b.hi true).2)) (by rw [h6]; rfl) rfl (aQ (aL (aC 65 c_rNone Try.func111 ⟨rfl, by decide⟩ rfl rfl (aS [.int .i64 rNone.lo, .int .i64 rNone.hi, .bool rNone.no] agg26 0 rfl rfl rfl rfl rfl rfl (aN (ac_ret (fin_eq (v := .agg #[.int .i64 rNone.lo, .int .i64 rNone.hi, .bool rNone.no]) (by show _ = Iv.v (rEndsDiv a b); rw [rEndsDiv, h6, h5, h4, h3, h2, h1] <;> rfl) (fin_ret (res_c (vs := [.int .i64 rNone.lo, .int .i64 rNone.hi, .bool rNone.no]) agg26 0 rfl rfl rfl rfl rfl rfl)))))))))
     ·refine aK 62 (by show ((!((rDiv a.lo b.hi false).2)) == false) = false; rw [h5]; rfl) rfl (aK 63 (by show ((!((rDiv a.lo b.hi false).2)) == false) = false; rw [h5]; rfl) rfl (ao 64 rfl rfl (st_pkt' (b := !((rDiv a.lo b.hi false).2)) (v := .bool true) (by rw [h5]; rfl) rfl rfl rfl (aN (ac_then rfl (aQ (aL (aC 65 c_rNone Try.func111 ⟨rfl, by decide⟩ rfl rfl (aS [.int .i64 rNone.lo, .int .i64 rNone.hi, .bool rNone.no] agg26 0 rfl rfl rfl rfl rfl rfl (aN (ac_ret ?_)))))))))))
      exact fin_eq (v := .agg #[.int .i64 rNone.lo, .int .i64 rNone.hi, .bool rNone.no]) (by show _ = Iv.v (rEndsDiv a b); rw [rEndsDiv, h5, h4, h3, h2, h1] <;> rfl) (fin_ret (res_c (vs := [.int .i64 rNone.lo, .int .i64 rNone.hi, .bool rNone.no]) agg26 0 rfl rfl rfl rfl rfl rfl))
    ·refine ac_then' (b := !((rDiv a.hi b.lo true).2)) (by rw [h4]; rfl) rfl (aQ (aL (aC 65 c_rNone Try.func111 ⟨rfl, by decide⟩ rfl rfl (aS [.int .i64 rNone.lo, .int .i64 rNone.hi, .bool rNone.no] agg26 0 rfl rfl rfl rfl rfl rfl (aN (ac_ret (fin_eq (v := .agg #[.int .i64 rNone.lo, .int .i64 rNone.hi, .bool rNone.no]) (by show _ = Iv.v (rEndsDiv a b); rw [rEndsDiv, h4, h3, h2, h1] <;> rfl) (fin_ret (res_c (vs := [.int .i64 rNone.lo, .int .i64 rNone.hi, .bool rNone.no]) agg26 0 rfl rfl rfl rfl rfl rfl)))))))))
   ·refine aK 62 (by show ((!((rDiv a.hi b.lo false).2)) == false) = false; rw [h3]; rfl) rfl (aK 63 (by show ((!((rDiv a.hi b.lo false).2)) == false) = false; rw [h3]; rfl) rfl (ao 64 rfl rfl (st_pkt' (b := !((rDiv a.hi b.lo false).2)) (v := .bool true) (by rw [h3]; rfl) rfl rfl rfl (aN (ac_then rfl (aQ (aL (aC 65 c_rNone Try.func111 ⟨rfl, by decide⟩ rfl rfl (aS [.int .i64 rNone.lo, .int .i64 rNone.hi, .bool rNone.no] agg26 0 rfl rfl rfl rfl rfl rfl (aN (ac_ret ?_)))))))))))
    exact fin_eq (v := .agg #[.int .i64 rNone.lo, .int .i64 rNone.hi, .bool rNone.no]) (by show _ = Iv.v (rEndsDiv a b); rw [rEndsDiv, h3, h2, h1] <;> rfl) (fin_ret (res_c (vs := [.int .i64 rNone.lo, .int .i64 rNone.hi, .bool rNone.no]) agg26 0 rfl rfl rfl rfl rfl rfl))
  ·refine ac_then' (b := !((rDiv a.lo b.lo true).2)) (by rw [h2]; rfl) rfl (aQ (aL (aC 65 c_rNone Try.func111 ⟨rfl, by decide⟩ rfl rfl (aS [.int .i64 rNone.lo, .int .i64 rNone.hi, .bool rNone.no] agg26 0 rfl rfl rfl rfl rfl rfl (aN (ac_ret (fin_eq (v := .agg #[.int .i64 rNone.lo, .int .i64 rNone.hi, .bool rNone.no]) (by show _ = Iv.v (rEndsDiv a b); rw [rEndsDiv, h2, h1] <;> rfl) (fin_ret (res_c (vs := [.int .i64 rNone.lo, .int .i64 rNone.hi, .bool rNone.no]) agg26 0 rfl rfl rfl rfl rfl rfl)))))))))
 ·refine aK 62 (by show ((!((rDiv a.lo b.lo false).2)) == false) = false; rw [h1]; rfl) rfl (aK 63 (by show ((!((rDiv a.lo b.lo false).2)) == false) = false; rw [h1]; rfl) rfl (ao 64 rfl rfl (st_pkt' (b := !((rDiv a.lo b.lo false).2)) (v := .bool true) (by rw [h1]; rfl) rfl rfl rfl (aN (ac_then rfl (aQ (aL (aC 65 c_rNone Try.func111 ⟨rfl, by decide⟩ rfl rfl (aS [.int .i64 rNone.lo, .int .i64 rNone.hi, .bool rNone.no] agg26 0 rfl rfl rfl rfl rfl rfl (aN (ac_ret ?_)))))))))))
  exact fin_eq (v := .agg #[.int .i64 rNone.lo, .int .i64 rNone.hi, .bool rNone.no]) (by show _ = Iv.v (rEndsDiv a b); rw [rEndsDiv, h1] <;> rfl) (fin_ret (res_c (vs := [.int .i64 rNone.lo, .int .i64 rNone.hi, .bool rNone.no]) agg26 0 rfl rfl rfl rfl rfl rfl))
def rDivIv (a : Iv) (b : Iv) : Iv := (bif rRight a then (bif rRight b then (bif decide (b.lo ≤ 0) then (bif decide (b.hi ≥ 0) then rNone else (rEndsDiv a b)) else (rEndsDiv a b)) else rNone) else rNone)
set_option maxRecDepth 100000 in
theorem c_rDivIv (a : Iv) (b : Iv) : Gets Try.prog 85 #[.agg #[.int .i64 a.lo, .int .i64 a.hi, .bool a.no], .agg #[.int .i64 b.lo, .int .i64 b.hi, .bool b.no]] (Iv.v (rDivIv a b)) := by
 refine gets_fin Try.func85 rfl rfl rfl (aQ (aL (ao 2 rfl rfl (st_box (v := .agg #[.int .i64 a.lo, .int .i64 a.hi, .bool a.no]) (cs := [.int .i64 a.lo, .int .i64 a.hi, .bool a.no]) rfl rfl rfl fun g0 => (ao 3 rfl rfl (st_box (v := .agg #[.int .i64 b.lo, .int .i64 b.hi, .bool b.no]) (cs := [.int .i64 b.lo, .int .i64 b.hi, .bool b.no]) rfl rfl rfl fun g1 => (ao 4 rfl rfl (st_new zero26 rfl fun g2 => (aN (aQ (aQ (aL (aG 5 [.int .i64 a.lo, .int .i64 a.hi, .bool a.no] agg26 2 rfl rfl rfl rfl rfl (aC 6 (c_rRight a) Try.func40 ⟨rfl, by decide⟩ rfl rfl (ao 7 rfl rfl (st_un (v := .bool (!(rRight a))) rfl rfl (un_not rfl) (aM 8 (.bool (!(rRight a))) rfl rfl ?_)))))))))))))))))
 refine bool_split (rRight a) (fun h1 => ?_) (fun h1 => ?_)
 ·refine ar_gd (d := (some 9)) (by show ((!(rRight a)) == false) = true; rw [h1]; rfl) rfl (st_lda (vs := [.int .i64 b.lo, .int .i64 b.hi, .bool b.no]) agg26 1 rfl rfl rfl rfl rfl rfl (ar_gd (d := (some 10)) (by show ((!(rRight a)) == false) = true; rw [h1]; rfl) rfl (st_cf (c_rRight b) Try.func40 rfl (by decide) rfl rfl rfl (ar_gd (d := (some 11)) (by show ((!(rRight a)) == false) = true; rw [h1]; rfl) rfl (st_un (v := .bool (!(rRight b))) rfl rfl (un_not rfl) (ao 12 rfl rfl (st_pkf' (b := !(rRight a)) (v := .bool (!(rRight b))) (by rw [h1]; rfl) rfl rfl rfl (aM 13 (.bool (!(rRight b))) rfl rfl ?_))))))))
  refine bool_split (rRight b) (fun h2 => ?_) (fun h2 => ?_)
  ·refine ar_gd (d := (some 14)) (by show ((!(rRight b)) == false) = true; rw [h2]; rfl) rfl (st_fa rfl fa26_0 rfl (ar_gd (d := (some 15)) (by show ((!(rRight b)) == false) = true; rw [h2]; rfl) rfl (st_ldc (v := .int .i64 b.lo) cell3 1 rfl rfl rfl rfl rfl (ar_gd (d := (some 16)) (by show ((!(rRight b)) == false) = true; rw [h2]; rfl) rfl (st_bi (r := .bool (decide (b.lo ≤ 0))) rfl rfl rfl (bi_leq rfl) (ar_gd (d := (some 17)) (by show ((!(rRight b)) == false) = true; rw [h2]; rfl) rfl (st_move (v := .bool (decide (b.lo ≤ 0))) rfl rfl ?_)))))))
   refine bool_split (decide (b.lo ≤ 0)) (fun h3 => ?_) (fun h3 => ?_)
   ·refine ar_gd (d := (some 18)) (by show ((decide (b.lo ≤ 0)) == true) = true; rw [h3]; rfl) rfl (st_fa rfl fa26_1 rfl (ar_gd (d := (some 19)) (by show ((decide (b.lo ≤ 0)) == true) = true; rw [h3]; rfl) rfl (st_ldc (v := .int .i64 b.hi) cell3 1 rfl rfl rfl rfl rfl (ar_gd (d := (some 20)) (by show ((decide (b.lo ≤ 0)) == true) = true; rw [h3]; rfl) rfl (st_bi (r := .bool (decide (b.hi ≥ 0))) rfl rfl rfl (bi_geq rfl) (ar_gd (d := (some 21)) (by show ((!(rRight b)) == false) = true; rw [h2]; rfl) rfl (st_pkt' (b := decide (b.lo ≤ 0)) (v := .bool (decide (b.hi ≥ 0))) h3 rfl rfl rfl ?_)))))))
    refine ao 22 rfl rfl (st_pkf' (b := !(rRight b)) (v := .bool (decide (b.hi ≥ 0))) (by rw [h2]; rfl) rfl rfl rfl (aN ?_))
    refine bool_split (decide (b.hi ≥ 0)) (fun h4 => ?_) (fun h4 => ?_)
    ·refine ac_then' (b := decide (b.hi ≥ 0)) h4 rfl (aQ (aL (aC 23 c_rNone Try.func111 ⟨rfl, by decide⟩ rfl rfl (aS [.int .i64 rNone.lo, .int .i64 rNone.hi, .bool rNone.no] agg26 0 rfl rfl rfl rfl rfl rfl (aN (ac_ret (fin_eq (v := .agg #[.int .i64 rNone.lo, .int .i64 rNone.hi, .bool rNone.no]) (by show _ = Iv.v (rDivIv a b); rw [rDivIv, h4, h3, h2, h1] <;> rfl) (fin_ret (res_c (vs := [.int .i64 rNone.lo, .int .i64 rNone.hi, .bool rNone.no]) agg26 0 rfl rfl rfl rfl rfl rfl)))))))))
    ·refine ac_else' (b := decide (b.hi ≥ 0)) h4 rfl (ac_skip (aQ (aL (aG 24 [.int .i64 a.lo, .int .i64 a.hi, .bool a.no] agg26 2 rfl rfl rfl rfl rfl (aG 25 [.int .i64 b.lo, .int .i64 b.hi, .bool b.no] agg26 1 rfl rfl rfl rfl rfl (aC 26 (c_rEndsDiv a b) Try.func114 ⟨rfl, by decide⟩ rfl rfl (aS [.int .i64 ((rEndsDiv a b).lo), .int .i64 ((rEndsDiv a b).hi), .bool ((rEndsDiv a b).no)] agg26 0 rfl rfl rfl rfl rfl rfl (aN (ac_ret ?_)))))))))
     exact fin_eq (v := .agg #[.int .i64 ((rEndsDiv a b).lo), .int .i64 ((rEndsDiv a b).hi), .bool ((rEndsDiv a b).no)]) (by show _ = Iv.v (rDivIv a b); rw [rDivIv, h4, h3, h2, h1] <;> rfl) (fin_ret (res_c (vs := [.int .i64 ((rEndsDiv a b).lo), .int .i64 ((rEndsDiv a b).hi), .bool ((rEndsDiv a b).no)]) agg26 0 rfl rfl rfl rfl rfl rfl))
   ·refine aK 18 (by show ((decide (b.lo ≤ 0)) == true) = false; rw [h3]; rfl) rfl (aK 19 (by show ((decide (b.lo ≤ 0)) == true) = false; rw [h3]; rfl) rfl (aK 20 (by show ((decide (b.lo ≤ 0)) == true) = false; rw [h3]; rfl) rfl (ar_gd (d := (some 21)) (by show ((!(rRight b)) == false) = true; rw [h2]; rfl) rfl (st_pkf' (b := decide (b.lo ≤ 0)) (v := .bool false) h3 rfl rfl rfl (ao 22 rfl rfl (st_pkf' (b := !(rRight b)) (v := .bool false) (by rw [h2]; rfl) rfl rfl rfl (aN (ac_else rfl (ac_skip (aQ (aL (aG 24 [.int .i64 a.lo, .int .i64 a.hi, .bool a.no] agg26 2 rfl rfl rfl rfl rfl ?_))))))))))))
    refine aG 25 [.int .i64 b.lo, .int .i64 b.hi, .bool b.no] agg26 1 rfl rfl rfl rfl rfl (aC 26 (c_rEndsDiv a b) Try.func114 ⟨rfl, by decide⟩ rfl rfl (aS [.int .i64 ((rEndsDiv a b).lo), .int .i64 ((rEndsDiv a b).hi), .bool ((rEndsDiv a b).no)] agg26 0 rfl rfl rfl rfl rfl rfl (aN (ac_ret (fin_eq (v := .agg #[.int .i64 ((rEndsDiv a b).lo), .int .i64 ((rEndsDiv a b).hi), .bool ((rEndsDiv a b).no)]) (by show _ = Iv.v (rDivIv a b); rw [rDivIv, h3, h2, h1] <;> rfl) (fin_ret (res_c (vs := [.int .i64 ((rEndsDiv a b).lo), .int .i64 ((rEndsDiv a b).hi), .bool ((rEndsDiv a b).no)]) agg26 0 rfl rfl rfl rfl rfl rfl)))))))
  ·refine aK 14 (by show ((!(rRight b)) == false) = false; rw [h2]; rfl) rfl (aK 15 (by show ((!(rRight b)) == false) = false; rw [h2]; rfl) rfl (aK 16 (by show ((!(rRight b)) == false) = false; rw [h2]; rfl) rfl (aK 17 (by show ((!(rRight b)) == false) = false; rw [h2]; rfl) rfl (aK 18 rfl rfl (aK 19 rfl rfl (aK 20 rfl rfl (aK 21 (by show ((!(rRight b)) == false) = false; rw [h2]; rfl) rfl (ao 22 rfl rfl (st_pkt' (b := !(rRight b)) (v := .bool true) (by rw [h2]; rfl) rfl rfl rfl (aN (ac_then rfl (aQ (aL (aC 23 c_rNone Try.func111 ⟨rfl, by decide⟩ rfl rfl (aS [.int .i64 rNone.lo, .int .i64 rNone.hi, .bool rNone.no] agg26 0 rfl rfl rfl rfl rfl rfl (aN ?_))))))))))))))))
   refine ac_ret (fin_eq (v := .agg #[.int .i64 rNone.lo, .int .i64 rNone.hi, .bool rNone.no]) (by show _ = Iv.v (rDivIv a b); rw [rDivIv, h2, h1] <;> rfl) (fin_ret (res_c (vs := [.int .i64 rNone.lo, .int .i64 rNone.hi, .bool rNone.no]) agg26 0 rfl rfl rfl rfl rfl rfl)))
 ·refine aK 9 (by show ((!(rRight a)) == false) = false; rw [h1]; rfl) rfl (aK 10 (by show ((!(rRight a)) == false) = false; rw [h1]; rfl) rfl (aK 11 (by show ((!(rRight a)) == false) = false; rw [h1]; rfl) rfl (ao 12 rfl rfl (st_pkt' (b := !(rRight a)) (v := .bool true) (by rw [h1]; rfl) rfl rfl rfl (aM 13 (.bool true) rfl rfl (aK 14 rfl rfl (aK 15 rfl rfl (aK 16 rfl rfl (aK 17 rfl rfl (aK 18 rfl rfl (aK 19 rfl rfl (aK 20 rfl rfl (aK 21 rfl rfl (ao 22 rfl rfl (st_pkt (v := .bool true) rfl rfl rfl (aN (ac_then rfl (aQ (aL (aC 23 c_rNone Try.func111 ⟨rfl, by decide⟩ rfl rfl ?_))))))))))))))))))))
  refine aS [.int .i64 rNone.lo, .int .i64 rNone.hi, .bool rNone.no] agg26 0 rfl rfl rfl rfl rfl rfl (aN (ac_ret (fin_eq (v := .agg #[.int .i64 rNone.lo, .int .i64 rNone.hi, .bool rNone.no]) (by show _ = Iv.v (rDivIv a b); rw [rDivIv, h1] <;> rfl) (fin_ret (res_c (vs := [.int .i64 rNone.lo, .int .i64 rNone.hi, .bool rNone.no]) agg26 0 rfl rfl rfl rfl rfl rfl)))))
end Go.Proofs.Ythngkopcadlciaa
namespace Go.Proofs.Ythngkopcadlciaa
end Go.Proofs.Ythngkopcadlciaa
namespace Go.Proofs.Ythngkopcadlciaa
def Le (a b : Iv) : Prop := R b → R a ∧ b.lo ≤ a.lo ∧ a.hi ≤ b.hi
theorem Le.rfl' (a : Iv) : Le a a := fun h => ⟨h, by omega, by omega⟩
theorem Le.none (a : Iv) : Le a ivNone := fun h => absurd h R_none
theorem le_of {l h l' h' : Int} (h1 : l ≤ l') (h2 : l' ≤ h') (h3 : h' ≤ h) : Le (ivOf l' h') (ivOf l h) := fun k => by
  have k := R_of.1 k
  have e1 : -1073741824 ≤ l' ∧ l' ≤ h' ∧ h' ≤ 1073741824 := by omega
  rw [ivOf_in e1, ivOf_in k]
  exact ⟨R_mk e1.1 e1.2.1 e1.2.2, h1, h3⟩
theorem mul_lin {a b x : Int} (y : Int) (h1 : a ≤ x) (h2 : x ≤ b) : min (a * y) (b * y) ≤ x * y ∧ x * y ≤ max (a * y) (b * y) := by
  by_cases h : 0 ≤ y
  · have := Int.mul_le_mul_of_nonneg_right h1 h
    have := Int.mul_le_mul_of_nonneg_right h2 h
    omega
  · have := Int.mul_le_mul_of_nonpos_right h1 (show y ≤ 0 by omega)
    have := Int.mul_le_mul_of_nonpos_right h2 (show y ≤ 0 by omega)
    omega
theorem mul_lin' {a b x : Int} (y : Int) (h1 : a ≤ x) (h2 : x ≤ b) : min (y * a) (y * b) ≤ y * x ∧ y * x ≤ max (y * a) (y * b) := by
  rw [Int.mul_comm y a, Int.mul_comm y b, Int.mul_comm y x]
  exact mul_lin y h1 h2
theorem mul_hull {a b : Iv} {x y : Int} (h1 : a.lo ≤ x) (h2 : x ≤ a.hi) (h3 : b.lo ≤ y) (h4 : y ≤ b.hi) : mn a b ≤ x * y ∧ x * y ≤ mx a b := by
  have k1 := mul_lin y h1 h2
  have k2 := mul_lin' a.lo h3 h4
  have k3 := mul_lin' a.hi h3 h4
  unfold mn mx min4 max4
  omega
theorem mn_mx {a b : Iv} : mn a b ≤ mx a b := by
  unfold mn mx min4 max4
  omega
theorem R_args2 {f : Iv → Iv → Iv} {a b : Iv} (h : ¬ (R a ∧ R b) → f a b = ivNone) (k : R (f a b)) : R a ∧ R b :=
  Classical.byContradiction fun c => by rw [h c] at k; exact R_none k
theorem R_args1 {f : Iv → Iv} {a : Iv} (h : ¬ R a → f a = ivNone) (k : R (f a)) : R a :=
  Classical.byContradiction fun c => by rw [h c] at k; exact R_none k
theorem le_add {a b c d : Iv} (h1 : Le a c) (h2 : Le b d) : Le (ivAdd a b) (ivAdd c d) := fun k => by
  obtain ⟨rc, rd⟩ := R_args2 ivAdd_out k
  obtain ⟨ra, a1, a2⟩ := h1 rc
  obtain ⟨rb, b1, b2⟩ := h2 rd
  rw [ivAdd_spec ra rb, ivAdd_spec rc rd] at *
  have := ra.2
  have := rb.2
  exact le_of (by omega) (by omega) (by omega) k
theorem le_neg {a c : Iv} (h1 : Le a c) : Le (ivNeg a) (ivNeg c) := fun k => by
  have rc := R_neg.1 k
  obtain ⟨ra, a1, a2⟩ := h1 rc
  refine ⟨R_neg.2 ra, ?_⟩
  rw [ivNeg_spec ra, ivNeg_spec rc]
  simp only
  omega
theorem le_sub {a b c d : Iv} (h1 : Le a c) (h2 : Le b d) : Le (ivSub a b) (ivSub c d) := le_add h1 (le_neg h2)
theorem le_mul {a b c d : Iv} (h1 : Le a c) (h2 : Le b d) : Le (ivMul a b) (ivMul c d) := fun k => by
  obtain ⟨rc, rd⟩ := R_args2 ivMul_out k
  obtain ⟨ra, a1, a2⟩ := h1 rc
  obtain ⟨rb, b1, b2⟩ := h2 rd
  rw [ivMul_spec ra rb, ivMul_spec rc rd] at *
  have r1 := ra.2
  have r2 := rb.2
  have c1 := mul_hull (a := c) (b := d) (x := a.lo) (y := b.lo) (by omega) (by omega) (by omega) (by omega)
  have c2 := mul_hull (a := c) (b := d) (x := a.lo) (y := b.hi) (by omega) (by omega) (by omega) (by omega)
  have c3 := mul_hull (a := c) (b := d) (x := a.hi) (y := b.lo) (by omega) (by omega) (by omega) (by omega)
  have c4 := mul_hull (a := c) (b := d) (x := a.hi) (y := b.hi) (by omega) (by omega) (by omega) (by omega)
  have e1 : mn c d ≤ mn a b := by
    show mn c d ≤ min (min (a.lo * b.lo) (a.lo * b.hi)) (min (a.hi * b.lo) (a.hi * b.hi))
    omega
  have e2 : mx a b ≤ mx c d := by
    show max (max (a.lo * b.lo) (a.lo * b.hi)) (max (a.hi * b.lo) (a.hi * b.hi)) ≤ mx c d
    omega
  exact le_of (dn_mono (by omega) e1) (Int.le_trans (dn_mono (by omega) mn_mx) (dn_le_upq (by omega))) (upq_mono (by omega) e2) k
theorem le_times {a c : Iv} (k : Int) (h1 : Le a c) : Le (ivTimes a k) (ivTimes c k) := fun r => by
  have hc : R c ∧ (-1073741824 ≤ k ∧ k ≤ 1073741824) := Classical.byContradiction fun n => by rw [ivTimes_out n] at r; exact R_none r
  obtain ⟨ra, a1, a2⟩ := h1 hc.1
  rw [ivTimes_spec ra hc.2, ivTimes_spec hc.1 hc.2] at *
  have r1 := ra.2
  have e1 := mul_lin' k (a := c.lo) (b := c.hi) (x := a.lo) (by omega) (by omega)
  have e2 := mul_lin' k (a := c.lo) (b := c.hi) (x := a.hi) (by omega) (by omega)
  exact le_of (by omega) (by omega) (by omega) r
theorem le_sqr {a c : Iv} (h1 : Le a c) : Le (ivSqr a) (ivSqr c) := fun k => by
  have rc := R_args1 ivSqr_out k
  obtain ⟨ra, a1, a2⟩ := h1 rc
  rw [ivSqr_spec ra, ivSqr_spec rc] at *
  have n1 := near_far ra
  have n2 := near_far rc
  have r1 := ra.2
  have e1 : near c ≤ near a := by unfold near; omega
  have e2 : far a ≤ far c := by unfold far; omega
  have q1 := sq_mono n2.1 e1
  have q2 := sq_mono n1.1 n1.2.1
  have q3 := sq_mono (by omega : 0 ≤ far a) e2
  exact le_of (dn_mono (by omega) q1) (Int.le_trans (dn_mono (by omega) q2) (dn_le_upq (by omega))) (upq_mono (by omega) q3) k
theorem le_root {a c : Iv} (h1 : Le a c) : Le (ivRoot a) (ivRoot c) := fun k => by
  obtain ⟨rc, c0⟩ := R_root.1 k
  obtain ⟨ra, a1, a2⟩ := h1 rc
  have r1 := ra.2
  have r2 := rc.2
  refine ⟨R_root.2 ⟨ra, by omega⟩, ?_⟩
  rw [ivRoot_val ra (by omega), ivRoot_val rc c0]
  exact ⟨rootf_mono c0 a1 (by omega), rootc_mono (by omega) a2 (by omega)⟩
theorem le_dn_iff {l n c : Int} (hc : 0 < c) : l ≤ dn n c ↔ l * c ≤ n := Int.le_ediv_iff_mul_le hc
theorem upq_le_iff {u n c : Int} (hc : 0 < c) : upq n c ≤ u ↔ n ≤ u * c := by
  have := le_dn_iff (l := -u) (n := -n) hc
  unfold dn at this
  unfold upq
  rw [Int.neg_mul] at this
  omega
theorem le_dq {l x y : Int} (h : y ≠ 0) : l ≤ dq x y false ↔ (0 < y ∧ l * y ≤ x * 65536) ∨ (y < 0 ∧ x * 65536 ≤ l * y) := by
  unfold dq rq
  by_cases hn : y < 0
  · rw [decide_eq_true hn]
    simp only [cond_true, cond_false]
    rw [le_dn_iff (by omega), Int.mul_neg]
    omega
  · rw [decide_eq_false hn]
    simp only [cond_true, cond_false]
    rw [le_dn_iff (by omega)]
    omega
theorem dq_le_iff {u x y : Int} (h : y ≠ 0) : dq x y true ≤ u ↔ (0 < y ∧ x * 65536 ≤ u * y) ∨ (y < 0 ∧ u * y ≤ x * 65536) := by
  unfold dq rq
  by_cases hn : y < 0
  · rw [decide_eq_true hn]
    simp only [cond_true, cond_false]
    rw [upq_le_iff (by omega), Int.mul_neg]
    omega
  · rw [decide_eq_false hn]
    simp only [cond_true, cond_false]
    rw [upq_le_iff (by omega)]
    omega
theorem div_below {a b : Iv} {l x y : Int} (h0 : ¬ (b.lo ≤ 0 ∧ 0 ≤ b.hi)) (h1 : a.lo ≤ x) (h2 : x ≤ a.hi) (h3 : b.lo ≤ y) (h4 : y ≤ b.hi)
    (k1 : l ≤ dq a.lo b.lo false) (k2 : l ≤ dq a.lo b.hi false) (k3 : l ≤ dq a.hi b.lo false) (k4 : l ≤ dq a.hi b.hi false) : l ≤ dq x y false := by
  rw [le_dq (by omega)] at *
  have m := mul_lin' l h3 h4
  omega
theorem div_above {a b : Iv} {u x y : Int} (h0 : ¬ (b.lo ≤ 0 ∧ 0 ≤ b.hi)) (h1 : a.lo ≤ x) (h2 : x ≤ a.hi) (h3 : b.lo ≤ y) (h4 : y ≤ b.hi)
    (k1 : dq a.lo b.lo true ≤ u) (k2 : dq a.lo b.hi true ≤ u) (k3 : dq a.hi b.lo true ≤ u) (k4 : dq a.hi b.hi true ≤ u) : dq x y true ≤ u := by
  rw [dq_le_iff (by omega)] at *
  have m := mul_lin' u h3 h4
  omega
def qn (a b : Iv) : Int := min4 (dq a.lo b.lo false) (dq a.lo b.hi false) (dq a.hi b.lo false) (dq a.hi b.hi false)
def qx (a b : Iv) : Int := max4 (dq a.lo b.lo true) (dq a.lo b.hi true) (dq a.hi b.lo true) (dq a.hi b.hi true)
theorem ivDiv_val {a b : Iv} (ha : R a) (hb : R b) (h0 : ¬ (b.lo ≤ 0 ∧ 0 ≤ b.hi)) : ivDiv a b = ivOf (qn a b) (qx a b) := ivDiv_spec ha hb h0
theorem min4_le (a b c d : Int) : min4 a b c d ≤ a ∧ min4 a b c d ≤ b ∧ min4 a b c d ≤ c ∧ min4 a b c d ≤ d := by
  unfold min4; omega
theorem le_max4 (a b c d : Int) : a ≤ max4 a b c d ∧ b ≤ max4 a b c d ∧ c ≤ max4 a b c d ∧ d ≤ max4 a b c d := by
  unfold max4; omega
theorem div_hull {a b : Iv} {x y : Int} (h0 : ¬ (b.lo ≤ 0 ∧ 0 ≤ b.hi)) (h1 : a.lo ≤ x) (h2 : x ≤ a.hi) (h3 : b.lo ≤ y) (h4 : y ≤ b.hi) : qn a b ≤ dq x y false ∧ dq x y true ≤ qx a b := by
  obtain ⟨k1, k2, k3, k4⟩ := min4_le (dq a.lo b.lo false) (dq a.lo b.hi false) (dq a.hi b.lo false) (dq a.hi b.hi false)
  obtain ⟨j1, j2, j3, j4⟩ := le_max4 (dq a.lo b.lo true) (dq a.lo b.hi true) (dq a.hi b.lo true) (dq a.hi b.hi true)
  exact ⟨div_below h0 h1 h2 h3 h4 k1 k2 k3 k4, div_above h0 h1 h2 h3 h4 j1 j2 j3 j4⟩
theorem R_div {a b : Iv} (k : R (ivDiv a b)) : R a ∧ R b ∧ ¬ (b.lo ≤ 0 ∧ 0 ≤ b.hi) :=
  Classical.byContradiction fun c => by rw [ivDiv_out c] at k; exact R_none k
theorem le_div {a b c d : Iv} (h1 : Le a c) (h2 : Le b d) : Le (ivDiv a b) (ivDiv c d) := fun k => by
  obtain ⟨rc, rd, h0⟩ := R_div k
  obtain ⟨ra, a1, a2⟩ := h1 rc
  obtain ⟨rb, b1, b2⟩ := h2 rd
  have r1 := ra.2
  have r2 := rb.2
  have h0' : ¬ (b.lo ≤ 0 ∧ 0 ≤ b.hi) := by omega
  rw [ivDiv_val ra rb h0', ivDiv_val rc rd h0] at *
  have c1 := div_hull (a := c) (b := d) (x := a.lo) (y := b.lo) h0 (by omega) (by omega) (by omega) (by omega)
  have c2 := div_hull (a := c) (b := d) (x := a.lo) (y := b.hi) h0 (by omega) (by omega) (by omega) (by omega)
  have c3 := div_hull (a := c) (b := d) (x := a.hi) (y := b.lo) h0 (by omega) (by omega) (by omega) (by omega)
  have c4 := div_hull (a := c) (b := d) (x := a.hi) (y := b.hi) h0 (by omega) (by omega) (by omega) (by omega)
  have e0 := dq_le (a := a.lo) (b := b.lo) (by omega)
  have e1 : qn c d ≤ qn a b := by
    show qn c d ≤ min (min (dq a.lo b.lo false) (dq a.lo b.hi false)) (min (dq a.hi b.lo false) (dq a.hi b.hi false))
    omega
  have e2 : qx a b ≤ qx c d := by
    show max (max (dq a.lo b.lo true) (dq a.lo b.hi true)) (max (dq a.hi b.lo true) (dq a.hi b.hi true)) ≤ qx c d
    omega
  have e3 : qn a b ≤ qx a b := by
    show min (min (dq a.lo b.lo false) (dq a.lo b.hi false)) (min (dq a.hi b.lo false) (dq a.hi b.hi false)) ≤ max (max (dq a.lo b.lo true) (dq a.lo b.hi true)) (max (dq a.hi b.lo true) (dq a.hi b.hi true))
    omega
  exact le_of e1 e3 e2 k
theorem dn_neg (n : Int) {c : Int} : dn (-n) c = -(upq n c) := by
  unfold dn upq
  omega
theorem upq_neg (n : Int) {c : Int} : upq (-n) c = -(dn n c) := by
  unfold dn upq
  rw [Int.neg_neg]
theorem ivNeg_of (l h : Int) : ivNeg (ivOf l h) = ivOf (-h) (-l) := by
  by_cases k : -1073741824 ≤ l ∧ l ≤ h ∧ h ≤ 1073741824
  · rw [ivOf_in k, ivNeg_spec (R_mk k.1 k.2.1 k.2.2), ivOf_in (by omega)]
  · rw [ivOf_out k, ivOf_out (by omega), ivNeg_out R_none]
theorem ivNeg_none : ivNeg ivNone = ivNone := ivNeg_out R_none
theorem mn_negl (a b : Iv) (ha : R a) : mn (ivNeg a) b = -(mx a b) ∧ mx (ivNeg a) b = -(mn a b) := by
  rw [ivNeg_spec ha]
  unfold mn mx min4 max4
  simp only [Int.neg_mul]
  omega
theorem mn_comm (a b : Iv) : mn a b = mn b a ∧ mx a b = mx b a := by
  unfold mn mx min4 max4
  rw [Int.mul_comm a.lo b.lo, Int.mul_comm a.lo b.hi, Int.mul_comm a.hi b.lo, Int.mul_comm a.hi b.hi]
  omega
theorem ivMul_comm (a b : Iv) : ivMul a b = ivMul b a := by
  by_cases h : R a ∧ R b
  · rw [ivMul_spec h.1 h.2, ivMul_spec h.2 h.1, (mn_comm a b).1, (mn_comm a b).2]
  · rw [ivMul_out h, ivMul_out (fun k => h ⟨k.2, k.1⟩)]
theorem ivAdd_comm (a b : Iv) : ivAdd a b = ivAdd b a := by
  by_cases h : R a ∧ R b
  · rw [ivAdd_spec h.1 h.2, ivAdd_spec h.2 h.1, Int.add_comm, Int.add_comm a.hi]
  · rw [ivAdd_out h, ivAdd_out (fun k => h ⟨k.2, k.1⟩)]
theorem ivMul_negl (a b : Iv) : ivMul (ivNeg a) b = ivNeg (ivMul a b) := by
  by_cases h : R a ∧ R b
  · rw [ivMul_spec (R_neg.2 h.1) h.2, ivMul_spec h.1 h.2, (mn_negl a b h.1).1, (mn_negl a b h.1).2, ivNeg_of, dn_neg, upq_neg]
  · rw [ivMul_out h, ivMul_out (fun k => h ⟨R_neg.1 k.1, k.2⟩), ivNeg_none]
theorem ivMul_negr (a b : Iv) : ivMul a (ivNeg b) = ivNeg (ivMul a b) := by
  rw [ivMul_comm, ivMul_negl, ivMul_comm]
theorem ivSqr_neg (a : Iv) : ivSqr (ivNeg a) = ivSqr a := by
  by_cases h : R a
  · have e1 : near (ivNeg a) = near a := by rw [ivNeg_spec h]; unfold near; simp only; omega
    have e2 : far (ivNeg a) = far a := by rw [ivNeg_spec h]; unfold far; simp only; omega
    rw [ivSqr_spec (R_neg.2 h), ivSqr_spec h, e1, e2]
  · rw [ivSqr_out h, ivSqr_out (fun k => h (R_neg.1 k))]
end Go.Proofs.Ythngkopcadlciaa
