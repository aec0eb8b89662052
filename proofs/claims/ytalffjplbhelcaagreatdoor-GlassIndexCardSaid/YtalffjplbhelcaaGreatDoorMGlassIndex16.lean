import Derived.Test.YtalffjplbhelcaaGreatDoorMGlassIndex7
import Derived.Test.YtalffjplbhelcaaGreatDoorMGlassIndex10
import Derived.Test.YtalffjplbhelcaaGreatDoorMGlassIndex13
import Derived.Test.YtalffjplbhelcaaGreatDoorMGlassIndex15
import Derived.Test.YtalffjplbhelcaaGreatDoorMGlassIndex6
import Derived.Test.YtalffjplbhelcaaGreatDoorMGlassIndex8
import Derived.Test.YtalffjplbhelcaaGreatDoorMGlassIndex3
import Derived.Test.YtalffjplbhelcaaGreatDoorMGlassIndex4
set_option linter.unusedVariables false
set_option linter.unusedSimpArgs false
namespace Go.Proofs.YtalffjplbhelcaaGreatDoor
open Go.RowKit
attribute [local irreducible] AC AR DWalk Step gIndex rIndex hPick hIv hWide gAbbe rAbbe gLnK rLine_
def lawGlassIndexT_e0 (x : Glass) (which : Int) (a : Int) (b : Int) (k : Int) (tame : Bool) : Iv := (gIndex (⟨(⟨#[97, 105, 114]⟩ : ByteArray), x.b, x.c⟩ : Glass) (hWide (w64 (20000 + (hPick a 40000))) (hPick b 300)))
def lawGlassIndexT_e1 (x : Glass) (which : Int) (a : Int) (b : Int) (k : Int) (tame : Bool) : Iv := (rIndex (⟨(⟨#[97, 105, 114]⟩ : ByteArray), x.b, x.c⟩ : Glass) (hWide (w64 (20000 + (hPick a 40000))) (hPick b 300)))
def lawGlassIndexT_e2 (x : Glass) (which : Int) (a : Int) (b : Int) (k : Int) (tame : Bool) : Iv := (gIndex (⟨(⟨#[97, 105, 114]⟩ : ByteArray), x.b, x.c⟩ : Glass) (hIv a b))
def lawGlassIndexT_e3 (x : Glass) (which : Int) (a : Int) (b : Int) (k : Int) (tame : Bool) : Iv := (rIndex (⟨(⟨#[97, 105, 114]⟩ : ByteArray), x.b, x.c⟩ : Glass) (hIv a b))
def lawGlassIndexT_e4 (x : Glass) (which : Int) (a : Int) (b : Int) (k : Int) (tame : Bool) : Iv := (gAbbe (⟨(⟨#[97, 105, 114]⟩ : ByteArray), x.b, x.c⟩ : Glass))
def lawGlassIndexT_e5 (x : Glass) (which : Int) (a : Int) (b : Int) (k : Int) (tame : Bool) : Iv := (rAbbe (⟨(⟨#[97, 105, 114]⟩ : ByteArray), x.b, x.c⟩ : Glass))
def lawGlassIndexT_e6 (x : Glass) (which : Int) (a : Int) (b : Int) (k : Int) (tame : Bool) : Iv := (gIndex x (hWide (w64 (20000 + (hPick a 40000))) (hPick b 300)))
def lawGlassIndexT_e7 (x : Glass) (which : Int) (a : Int) (b : Int) (k : Int) (tame : Bool) : Iv := (rIndex x (hWide (w64 (20000 + (hPick a 40000))) (hPick b 300)))
def lawGlassIndexT (x : Glass) (which : Int) (a : Int) (b : Int) (k : Int) (tame : Bool) : Bool := (bif (Int.tmod which 17) == 16 then (bif tame then (bif decide ((lawGlassIndexT_e0 x which a b k tame) = (lawGlassIndexT_e1 x which a b k tame)) then (bif decide ((lawGlassIndexT_e4 x which a b k tame) = (lawGlassIndexT_e5 x which a b k tame)) then (bif decide ((gLnK k) = (rLine_ k)) then decide ((gLnK (w64 ((hPick k 5) - 1))) = (rLine_ (w64 ((hPick k 5) - 1)))) else false) else false) else false) else (bif decide ((lawGlassIndexT_e2 x which a b k tame) = (lawGlassIndexT_e3 x which a b k tame)) then (bif decide ((lawGlassIndexT_e4 x which a b k tame) = (lawGlassIndexT_e5 x which a b k tame)) then (bif decide ((gLnK k) = (rLine_ k)) then decide ((gLnK (w64 ((hPick k 5) - 1))) = (rLine_ (w64 ((hPick k 5) - 1)))) else false) else false) else false)) else (bif tame then (bif decide ((lawGlassIndexT_e6 x which a b k tame) = (lawGlassIndexT_e7 x which a b k tame)) then (bif decide ((gAbbe x) = (rAbbe x)) then (bif decide ((gLnK k) = (rLine_ k)) then decide ((gLnK (w64 ((hPick k 5) - 1))) = (rLine_ (w64 ((hPick k 5) - 1)))) else false) else false) else false) else (bif decide ((gIndex x (hIv a b)) = (rIndex x (hIv a b))) then (bif decide ((gAbbe x) = (rAbbe x)) then (bif decide ((gLnK k) = (rLine_ k)) then decide ((gLnK (w64 ((hPick k 5) - 1))) = (rLine_ (w64 ((hPick k 5) - 1)))) else false) else false) else false)))
set_option maxRecDepth 100000 in
set_option maxHeartbeats 4000000 in
theorem c_lawGlassIndexT (x : Glass) (which : Int) (a : Int) (b : Int) (k : Int) (tame : Bool) (tP : Nat) (gx : Nat) {E : Env} {c : Code} (hc : Tryz.f3.body.bind (tailOf 3) = some c) (q1 : E 1 = .int .i64 which) (q2 : E 2 = .int .i64 a) (q3 : E 3 = .int .i64 b) (q4 : E 4 = .int .i64 k) (q5 : E 5 = .bool tame) (q14 : E 14 = .pointer (some ⟨gx, 0, none⟩)) (H : (lawGlassIndexT x which a b k tame) = true) : AC Tryz.prog 74 c (Fin Tryz.prog Tryz.f3 74 (.bool true)) E [⟨gx, (Glass.cells x), 29, false⟩, powBox tP] := by
 rw [show Tryz.f3.body.bind (tailOf 3) = some _ from rfl] at hc
 cases hc
 obtain ⟨E0, rfl⟩ : ∃ E0 : Env, E = ((((((E0.put (some 1) (.int .i64 which)).put (some 2) (.int .i64 a)).put (some 3) (.int .i64 b)).put (some 4) (.int .i64 k)).put (some 5) (.bool tame)).put (some 14) (.pointer (some ⟨gx, 0, none⟩))) := ⟨E, by rw [put_self q1, put_self q2, put_self q3, put_self q4, put_self q5, put_self q14]⟩
 refine aQ (aQ (aL (aM 25 (.int .i64 which) rfl rfl (aB 26 (.int .i64 (Int.tmod which 17)) rfl rfl rfl (bi_rem (by decide) rfl) (aB 27 (.bool ((Int.tmod which 17) == 16)) rfl rfl rfl (bi_eql rfl) (aN ?_))))))
 refine bool_split ((Int.tmod which 17) == 16) (fun h1 => ?_) (fun h1 => ?_)
 ·refine ac_then' (b := (Int.tmod which 17) == 16) h1 rfl (aL (aF 28 fa29_0 rfl rfl (ar_op (d := none) rfl rfl (st_stc (cs := [.string (⟨#[97, 105, 114]⟩ : ByteArray), .int .i64 x.b.d0.c, .int .i64 x.b.d0.scale, .int .i64 x.b.d1.c, .int .i64 x.b.d1.scale, .int .i64 x.b.d2.c, .int .i64 x.b.d2.scale, .int .i64 x.c.d0.c, .int .i64 x.c.d0.scale, .int .i64 x.c.d1.c, .int .i64 x.c.d1.scale, .int .i64 x.c.d2.c, .int .i64 x.c.d2.scale]) cell9 0 rfl rfl rfl rfl rfl rfl rfl rfl rfl (aN (aQ (aL (aM 29 (.int .i64 a) rfl rfl (aM 30 (.int .i64 b) rfl rfl (aC 31 (c_hIv a b) Tryz.func11 ⟨rfl, by decide⟩ rfl rfl (ao 15 rfl rfl (st_new zero32 rfl fun g0 => ?_))))))))))))
  refine aS [.int .i64 ((hIv a b).lo), .int .i64 ((hIv a b).hi), .bool ((hIv a b).no)] agg32 0 rfl rfl rfl rfl rfl rfl (aN (aQ (aQ (aL (aM 32 (.bool tame) rfl rfl (aN ?_))))))
  refine bool_split (tame) (fun h2 => ?_) (fun h2 => ?_)
  ·refine ac_then' (b := tame) h2 rfl (aL (aM 33 (.int .i64 a) rfl rfl (aC 34 (c_hPick a 40000 (by decide)) Tryz.func10 ⟨rfl, by decide⟩ rfl rfl (aB 35 (.int .i64 (w64 (20000 + (hPick a 40000)))) rfl rfl rfl (bi_add rfl) (aM 36 (.int .i64 b) rfl rfl (aC 37 (c_hPick b 300 (by decide)) Tryz.func10 ⟨rfl, by decide⟩ rfl rfl (aC 38 (c_hWide (w64 (20000 + (hPick a 40000))) (hPick b 300)) Tryz.func12 ⟨rfl, by decide⟩ rfl rfl (aS [.int .i64 ((hWide (w64 (20000 + (hPick a 40000))) (hPick b 300)).lo), .int .i64 ((hWide (w64 (20000 + (hPick a 40000))) (hPick b 300)).hi), .bool ((hWide (w64 (20000 + (hPick a 40000))) (hPick b 300)).no)] agg32 0 rfl rfl rfl rfl rfl rfl (aN ?_)))))))))
   refine aQ ?_
   refine ac_draw0 (id := 8) [0, 1, 2, 3, 4, 5, 6, 7, 8, 9, 10, 11, 12, 13, 14, 15, 16, 17, 18, 19, 20, 21, 22, 23, 24, 25, 26, 27, 28, 29, 30, 31, 32, 33, 34, 35] [] _ (by kernel_rfl) follows rfl  (dw_op (d := some 39) _ rfl rfl rfl (st_gr (R := [powBox tP]) (r := .bool true) (c_known11 tP) Tryz.func13 rfl (by decide) rfl rfl rfl (has_cons 2 _ rfl rfl rfl rfl has_nil) (by simp) ⟨rfl, rfl⟩) (dw_op (d := some 40) _ rfl rfl rfl (st_move (v := .bool true) rfl rfl ⟨rfl, rfl⟩) ?_))
   refine dw_gd (d := (some 41)) (.agg #[.string (⟨#[97, 105, 114]⟩ : ByteArray), .int .i64 x.b.d0.c, .int .i64 x.b.d0.scale, .int .i64 x.b.d1.c, .int .i64 x.b.d1.scale, .int .i64 x.b.d2.c, .int .i64 x.b.d2.scale, .int .i64 x.c.d0.c, .int .i64 x.c.d0.scale, .int .i64 x.c.d1.c, .int .i64 x.c.d1.scale, .int .i64 x.c.d2.c, .int .i64 x.c.d2.scale]) rfl rfl rfl (st_lda (vs := [.string (⟨#[97, 105, 114]⟩ : ByteArray), .int .i64 x.b.d0.c, .int .i64 x.b.d0.scale, .int .i64 x.b.d1.c, .int .i64 x.b.d1.scale, .int .i64 x.b.d2.c, .int .i64 x.b.d2.scale, .int .i64 x.c.d0.c, .int .i64 x.c.d0.scale, .int .i64 x.c.d1.c, .int .i64 x.c.d1.scale, .int .i64 x.c.d2.c, .int .i64 x.c.d2.scale]) agg29 1 rfl rfl rfl rfl rfl rfl ⟨rfl, rfl⟩) ?_
   refine dw_gd (d := (some 42)) ((Iv.v (hWide (w64 (20000 + (hPick a 40000))) (hPick b 300)))) rfl rfl rfl (st_lda (vs := [.int .i64 ((hWide (w64 (20000 + (hPick a 40000))) (hPick b 300)).lo), .int .i64 ((hWide (w64 (20000 + (hPick a 40000))) (hPick b 300)).hi), .bool ((hWide (w64 (20000 + (hPick a 40000))) (hPick b 300)).no)]) agg32 0 rfl rfl rfl rfl rfl rfl ⟨rfl, rfl⟩) (dw_gd (d := (some 43)) ((Iv.v (lawGlassIndexT_e0 x which a b k tame))) rfl rfl rfl (st_cf (c_gIndex (⟨(⟨#[97, 105, 114]⟩ : ByteArray), x.b, x.c⟩ : Glass) (hWide (w64 (20000 + (hPick a 40000))) (hPick b 300))) Tryz.func14 rfl (by decide) rfl rfl rfl ⟨rfl, rfl⟩) ?_)
   refine dw_gd (d := (some 44)) (.agg #[.string (⟨#[97, 105, 114]⟩ : ByteArray), .int .i64 x.b.d0.c, .int .i64 x.b.d0.scale, .int .i64 x.b.d1.c, .int .i64 x.b.d1.scale, .int .i64 x.b.d2.c, .int .i64 x.b.d2.scale, .int .i64 x.c.d0.c, .int .i64 x.c.d0.scale, .int .i64 x.c.d1.c, .int .i64 x.c.d1.scale, .int .i64 x.c.d2.c, .int .i64 x.c.d2.scale]) rfl rfl rfl (st_lda (vs := [.string (⟨#[97, 105, 114]⟩ : ByteArray), .int .i64 x.b.d0.c, .int .i64 x.b.d0.scale, .int .i64 x.b.d1.c, .int .i64 x.b.d1.scale, .int .i64 x.b.d2.c, .int .i64 x.b.d2.scale, .int .i64 x.c.d0.c, .int .i64 x.c.d0.scale, .int .i64 x.c.d1.c, .int .i64 x.c.d1.scale, .int .i64 x.c.d2.c, .int .i64 x.c.d2.scale]) agg29 1 rfl rfl rfl rfl rfl rfl ⟨rfl, rfl⟩) ?_
   refine dw_gd (d := (some 45)) ((Iv.v (hWide (w64 (20000 + (hPick a 40000))) (hPick b 300)))) rfl rfl rfl (st_lda (vs := [.int .i64 ((hWide (w64 (20000 + (hPick a 40000))) (hPick b 300)).lo), .int .i64 ((hWide (w64 (20000 + (hPick a 40000))) (hPick b 300)).hi), .bool ((hWide (w64 (20000 + (hPick a 40000))) (hPick b 300)).no)]) agg32 0 rfl rfl rfl rfl rfl rfl ⟨rfl, rfl⟩) (dw_gd (d := (some 46)) ((Iv.v (lawGlassIndexT_e1 x which a b k tame))) rfl rfl rfl (st_cf (c_rIndex (⟨(⟨#[97, 105, 114]⟩ : ByteArray), x.b, x.c⟩ : Glass) (hWide (w64 (20000 + (hPick a 40000))) (hPick b 300))) Tryz.func15 rfl (by decide) rfl rfl rfl ⟨rfl, rfl⟩) ?_)
   refine dw_gd (d := (some 47)) (.bool (decide ((lawGlassIndexT_e0 x which a b k tame) = (lawGlassIndexT_e1 x which a b k tame)))) rfl rfl rfl (st_bi (r := .bool (decide ((lawGlassIndexT_e0 x which a b k tame) = (lawGlassIndexT_e1 x which a b k tame)))) rfl rfl rfl (beql_32 (lawGlassIndexT_e0 x which a b k tame) (lawGlassIndexT_e1 x which a b k tame) rfl) ⟨rfl, rfl⟩) (dw_op (d := some 48) _ rfl rfl rfl (st_pkt (v := .bool (decide ((lawGlassIndexT_e0 x which a b k tame) = (lawGlassIndexT_e1 x which a b k tame)))) rfl rfl rfl ⟨rfl, rfl⟩) ?_)
   refine dw_op (d := some 49) _ rfl rfl rfl (st_move (v := .bool (decide ((lawGlassIndexT_e0 x which a b k tame) = (lawGlassIndexT_e1 x which a b k tame)))) rfl rfl ⟨rfl, rfl⟩) (bool_split (decide ((lawGlassIndexT_e0 x which a b k tame) = (lawGlassIndexT_e1 x which a b k tame))) (fun h3 => ?_) (fun h3 => nomatch (show false = true from (show (lawGlassIndexT x which a b k tame) = _ from (eT h1 (eT h2 (eF h3 rfl)))).symm.trans H)))
   refine dw_gd (d := (some 50)) (.agg #[.string (⟨#[97, 105, 114]⟩ : ByteArray), .int .i64 x.b.d0.c, .int .i64 x.b.d0.scale, .int .i64 x.b.d1.c, .int .i64 x.b.d1.scale, .int .i64 x.b.d2.c, .int .i64 x.b.d2.scale, .int .i64 x.c.d0.c, .int .i64 x.c.d0.scale, .int .i64 x.c.d1.c, .int .i64 x.c.d1.scale, .int .i64 x.c.d2.c, .int .i64 x.c.d2.scale]) rfl (by show ((decide ((lawGlassIndexT_e0 x which a b k tame) = (lawGlassIndexT_e1 x which a b k tame))) == true) = true; rw [h3]; rfl) rfl (st_lda (vs := [.string (⟨#[97, 105, 114]⟩ : ByteArray), .int .i64 x.b.d0.c, .int .i64 x.b.d0.scale, .int .i64 x.b.d1.c, .int .i64 x.b.d1.scale, .int .i64 x.b.d2.c, .int .i64 x.b.d2.scale, .int .i64 x.c.d0.c, .int .i64 x.c.d0.scale, .int .i64 x.c.d1.c, .int .i64 x.c.d1.scale, .int .i64 x.c.d2.c, .int .i64 x.c.d2.scale]) agg29 1 rfl rfl rfl rfl rfl rfl ⟨rfl, rfl⟩) ?_
   refine dw_gd (d := (some 51)) ((Iv.v (lawGlassIndexT_e4 x which a b k tame))) rfl (by show ((decide ((lawGlassIndexT_e0 x which a b k tame) = (lawGlassIndexT_e1 x which a b k tame))) == true) = true; rw [h3]; rfl) rfl (st_cf (c_gAbbe (⟨(⟨#[97, 105, 114]⟩ : ByteArray), x.b, x.c⟩ : Glass)) Tryz.func16 rfl (by decide) rfl rfl rfl ⟨rfl, rfl⟩) ?_
   refine dw_gd (d := (some 52)) (.agg #[.string (⟨#[97, 105, 114]⟩ : ByteArray), .int .i64 x.b.d0.c, .int .i64 x.b.d0.scale, .int .i64 x.b.d1.c, .int .i64 x.b.d1.scale, .int .i64 x.b.d2.c, .int .i64 x.b.d2.scale, .int .i64 x.c.d0.c, .int .i64 x.c.d0.scale, .int .i64 x.c.d1.c, .int .i64 x.c.d1.scale, .int .i64 x.c.d2.c, .int .i64 x.c.d2.scale]) rfl (by show ((decide ((lawGlassIndexT_e0 x which a b k tame) = (lawGlassIndexT_e1 x which a b k tame))) == true) = true; rw [h3]; rfl) rfl (st_lda (vs := [.string (⟨#[97, 105, 114]⟩ : ByteArray), .int .i64 x.b.d0.c, .int .i64 x.b.d0.scale, .int .i64 x.b.d1.c, .int .i64 x.b.d1.scale, .int .i64 x.b.d2.c, .int .i64 x.b.d2.scale, .int .i64 x.c.d0.c, .int .i64 x.c.d0.scale, .int .i64 x.c.d1.c, .int .i64 x.c.d1.scale, .int .i64 x.c.d2.c, .int .i64 x.c.d2.scale]) agg29 1 rfl rfl rfl rfl rfl rfl ⟨rfl, rfl⟩) ?_
   refine dw_gd (d := (some 53)) ((Iv.v (lawGlassIndexT_e5 x which a b k tame))) rfl (by show ((decide ((lawGlassIndexT_e0 x which a b k tame) = (lawGlassIndexT_e1 x which a b k tame))) == true) = true; rw [h3]; rfl) rfl (st_cf (c_rAbbe (⟨(⟨#[97, 105, 114]⟩ : ByteArray), x.b, x.c⟩ : Glass)) Tryz.func17 rfl (by decide) rfl rfl rfl ⟨rfl, rfl⟩) ?_
   refine dw_gd (d := (some 54)) (.bool (decide ((lawGlassIndexT_e4 x which a b k tame) = (lawGlassIndexT_e5 x which a b k tame)))) rfl (by show ((decide ((lawGlassIndexT_e0 x which a b k tame) = (lawGlassIndexT_e1 x which a b k tame))) == true) = true; rw [h3]; rfl) rfl (st_bi (r := .bool (decide ((lawGlassIndexT_e4 x which a b k tame) = (lawGlassIndexT_e5 x which a b k tame)))) rfl rfl rfl (beql_32 (lawGlassIndexT_e4 x which a b k tame) (lawGlassIndexT_e5 x which a b k tame) rfl) ⟨rfl, rfl⟩) ?_
   refine dw_op (d := some 55) _ rfl rfl rfl (st_pkt' (b := decide ((lawGlassIndexT_e0 x which a b k tame) = (lawGlassIndexT_e1 x which a b k tame))) (v := .bool (decide ((lawGlassIndexT_e4 x which a b k tame) = (lawGlassIndexT_e5 x which a b k tame)))) h3 rfl rfl rfl ⟨rfl, rfl⟩) (dw_op (d := some 56) _ rfl rfl rfl (st_move (v := .bool (decide ((lawGlassIndexT_e4 x which a b k tame) = (lawGlassIndexT_e5 x which a b k tame)))) rfl rfl ⟨rfl, rfl⟩) ?_)
   refine bool_split (decide ((lawGlassIndexT_e4 x which a b k tame) = (lawGlassIndexT_e5 x which a b k tame))) (fun h4 => ?_) (fun h4 => nomatch (show false = true from (show (lawGlassIndexT x which a b k tame) = _ from (eT h1 (eT h2 (eT h3 (eF h4 rfl))))).symm.trans H))
   refine dw_gd (d := (some 57)) (.int .i64 k) rfl (by show ((decide ((lawGlassIndexT_e4 x which a b k tame) = (lawGlassIndexT_e5 x which a b k tame))) == true) = true; rw [h4]; rfl) rfl (st_move (v := .int .i64 k) rfl rfl ⟨rfl, rfl⟩) (dw_gd (d := (some 58)) ((Iv.v (gLnK k))) rfl (by show ((decide ((lawGlassIndexT_e4 x which a b k tame) = (lawGlassIndexT_e5 x which a b k tame))) == true) = true; rw [h4]; rfl) rfl (st_cf (c_gLnK k) Tryz.func18 rfl (by decide) rfl rfl rfl ⟨rfl, rfl⟩) ?_)
   refine dw_gd (d := (some 59)) (.int .i64 k) rfl (by show ((decide ((lawGlassIndexT_e4 x which a b k tame) = (lawGlassIndexT_e5 x which a b k tame))) == true) = true; rw [h4]; rfl) rfl (st_move (v := .int .i64 k) rfl rfl ⟨rfl, rfl⟩) (dw_gd (d := (some 60)) ((Iv.v (rLine_ k))) rfl (by show ((decide ((lawGlassIndexT_e4 x which a b k tame) = (lawGlassIndexT_e5 x which a b k tame))) == true) = true; rw [h4]; rfl) rfl (st_cf (c_rLine_ k) Tryz.func19 rfl (by decide) rfl rfl rfl ⟨rfl, rfl⟩) ?_)
   refine dw_gd (d := (some 61)) (.bool (decide ((gLnK k) = (rLine_ k)))) rfl (by show ((decide ((lawGlassIndexT_e4 x which a b k tame) = (lawGlassIndexT_e5 x which a b k tame))) == true) = true; rw [h4]; rfl) rfl (st_bi (r := .bool (decide ((gLnK k) = (rLine_ k)))) rfl rfl rfl (beql_32 (gLnK k) (rLine_ k) rfl) ⟨rfl, rfl⟩) (dw_op (d := some 62) _ rfl rfl rfl (st_pkt' (b := decide ((lawGlassIndexT_e4 x which a b k tame) = (lawGlassIndexT_e5 x which a b k tame))) (v := .bool (decide ((gLnK k) = (rLine_ k)))) h4 rfl rfl rfl ⟨rfl, rfl⟩) (dw_op (d := some 63) _ rfl rfl rfl (st_move (v := .bool (decide ((gLnK k) = (rLine_ k)))) rfl rfl ⟨rfl, rfl⟩) ?_))
   refine bool_split (decide ((gLnK k) = (rLine_ k))) (fun h5 => ?_) (fun h5 => nomatch (show false = true from (show (lawGlassIndexT x which a b k tame) = _ from (eT h1 (eT h2 (eT h3 (eT h4 (eF h5 rfl)))))).symm.trans H))
   refine dw_gd (d := (some 64)) (.int .i64 k) rfl (by show ((decide ((gLnK k) = (rLine_ k))) == true) = true; rw [h5]; rfl) rfl (st_move (v := .int .i64 k) rfl rfl ⟨rfl, rfl⟩) (dw_gd (d := (some 65)) (.int .i64 (hPick k 5)) rfl (by show ((decide ((gLnK k) = (rLine_ k))) == true) = true; rw [h5]; rfl) rfl (st_cf (c_hPick k 5 (by decide)) Tryz.func10 rfl (by decide) rfl rfl rfl ⟨rfl, rfl⟩) (dw_gd (d := (some 66)) (.int .i64 (w64 ((hPick k 5) - 1))) rfl (by show ((decide ((gLnK k) = (rLine_ k))) == true) = true; rw [h5]; rfl) rfl (st_bi (r := .int .i64 (w64 ((hPick k 5) - 1))) rfl rfl rfl (bi_sub rfl) ⟨rfl, rfl⟩) ?_))
   refine dw_gd (d := (some 67)) ((Iv.v (gLnK (w64 ((hPick k 5) - 1))))) rfl (by show ((decide ((gLnK k) = (rLine_ k))) == true) = true; rw [h5]; rfl) rfl (st_cf (c_gLnK (w64 ((hPick k 5) - 1))) Tryz.func18 rfl (by decide) rfl rfl rfl ⟨rfl, rfl⟩) (dw_gd (d := (some 68)) (.int .i64 k) rfl (by show ((decide ((gLnK k) = (rLine_ k))) == true) = true; rw [h5]; rfl) rfl (st_move (v := .int .i64 k) rfl rfl ⟨rfl, rfl⟩) (dw_gd (d := (some 69)) (.int .i64 (hPick k 5)) rfl (by show ((decide ((gLnK k) = (rLine_ k))) == true) = true; rw [h5]; rfl) rfl (st_cf (c_hPick k 5 (by decide)) Tryz.func10 rfl (by decide) rfl rfl rfl ⟨rfl, rfl⟩) ?_))
   refine dw_gd (d := (some 70)) (.int .i64 (w64 ((hPick k 5) - 1))) rfl (by show ((decide ((gLnK k) = (rLine_ k))) == true) = true; rw [h5]; rfl) rfl (st_bi (r := .int .i64 (w64 ((hPick k 5) - 1))) rfl rfl rfl (bi_sub rfl) ⟨rfl, rfl⟩) (dw_gd (d := (some 71)) ((Iv.v (rLine_ (w64 ((hPick k 5) - 1))))) rfl (by show ((decide ((gLnK k) = (rLine_ k))) == true) = true; rw [h5]; rfl) rfl (st_cf (c_rLine_ (w64 ((hPick k 5) - 1))) Tryz.func19 rfl (by decide) rfl rfl rfl ⟨rfl, rfl⟩) ?_)
   refine dw_gd (d := (some 72)) (.bool (decide ((gLnK (w64 ((hPick k 5) - 1))) = (rLine_ (w64 ((hPick k 5) - 1)))))) rfl (by show ((decide ((gLnK k) = (rLine_ k))) == true) = true; rw [h5]; rfl) rfl (st_bi (r := .bool (decide ((gLnK (w64 ((hPick k 5) - 1))) = (rLine_ (w64 ((hPick k 5) - 1)))))) rfl rfl rfl (beql_32 (gLnK (w64 ((hPick k 5) - 1))) (rLine_ (w64 ((hPick k 5) - 1))) rfl) ⟨rfl, rfl⟩) (dw_op (d := some 73) _ rfl rfl rfl (st_pkt' (b := decide ((gLnK k) = (rLine_ k))) (v := .bool (decide ((gLnK (w64 ((hPick k 5) - 1))) = (rLine_ (w64 ((hPick k 5) - 1)))))) h5 rfl rfl rfl ⟨rfl, rfl⟩) ?_)
   refine dw_op (d := some 12) _ rfl rfl rfl (st_assign (v := .bool (decide ((gLnK (w64 ((hPick k 5) - 1))) = (rLine_ (w64 ((hPick k 5) - 1)))))) rfl rfl ⟨rfl, rfl⟩) (dw_nil (aN (ac_ret (fin_eq (v := .bool (decide ((gLnK (w64 ((hPick k 5) - 1))) = (rLine_ (w64 ((hPick k 5) - 1)))))) (congrArg Value.bool (show (decide ((gLnK (w64 ((hPick k 5) - 1))) = (rLine_ (w64 ((hPick k 5) - 1))))) = true from (show (lawGlassIndexT x which a b k tame) = _ from (eT h1 (eT h2 (eT h3 (eT h4 (eT h5 rfl)))))).symm.trans H)) (fin_ret (res_tmp rfl rfl))))))
  ·refine ac_else' (b := tame) h2 rfl (ac_skip (aQ ?_))
   refine ac_draw0 (id := 8) [0, 1, 2, 3, 4, 5, 6, 7, 8, 9, 10, 11, 12, 13, 14, 15, 16, 17, 18, 19, 20, 21, 22, 23, 24, 25, 26, 27, 28, 29, 30, 31, 32, 33, 34, 35] [] _ (by kernel_rfl) follows rfl  (dw_op (d := some 39) _ rfl rfl rfl (st_gr (R := [powBox tP]) (r := .bool true) (c_known11 tP) Tryz.func13 rfl (by decide) rfl rfl rfl (has_cons 2 _ rfl rfl rfl rfl has_nil) (by simp) ⟨rfl, rfl⟩) (dw_op (d := some 40) _ rfl rfl rfl (st_move (v := .bool true) rfl rfl ⟨rfl, rfl⟩) ?_))
   refine dw_gd (d := (some 41)) (.agg #[.string (⟨#[97, 105, 114]⟩ : ByteArray), .int .i64 x.b.d0.c, .int .i64 x.b.d0.scale, .int .i64 x.b.d1.c, .int .i64 x.b.d1.scale, .int .i64 x.b.d2.c, .int .i64 x.b.d2.scale, .int .i64 x.c.d0.c, .int .i64 x.c.d0.scale, .int .i64 x.c.d1.c, .int .i64 x.c.d1.scale, .int .i64 x.c.d2.c, .int .i64 x.c.d2.scale]) rfl rfl rfl (st_lda (vs := [.string (⟨#[97, 105, 114]⟩ : ByteArray), .int .i64 x.b.d0.c, .int .i64 x.b.d0.scale, .int .i64 x.b.d1.c, .int .i64 x.b.d1.scale, .int .i64 x.b.d2.c, .int .i64 x.b.d2.scale, .int .i64 x.c.d0.c, .int .i64 x.c.d0.scale, .int .i64 x.c.d1.c, .int .i64 x.c.d1.scale, .int .i64 x.c.d2.c, .int .i64 x.c.d2.scale]) agg29 1 rfl rfl rfl rfl rfl rfl ⟨rfl, rfl⟩) ?_
   refine dw_gd (d := (some 42)) ((Iv.v (hIv a b))) rfl rfl rfl (st_lda (vs := [.int .i64 ((hIv a b).lo), .int .i64 ((hIv a b).hi), .bool ((hIv a b).no)]) agg32 0 rfl rfl rfl rfl rfl rfl ⟨rfl, rfl⟩) (dw_gd (d := (some 43)) ((Iv.v (lawGlassIndexT_e2 x which a b k tame))) rfl rfl rfl (st_cf (c_gIndex (⟨(⟨#[97, 105, 114]⟩ : ByteArray), x.b, x.c⟩ : Glass) (hIv a b)) Tryz.func14 rfl (by decide) rfl rfl rfl ⟨rfl, rfl⟩) ?_)
   refine dw_gd (d := (some 44)) (.agg #[.string (⟨#[97, 105, 114]⟩ : ByteArray), .int .i64 x.b.d0.c, .int .i64 x.b.d0.scale, .int .i64 x.b.d1.c, .int .i64 x.b.d1.scale, .int .i64 x.b.d2.c, .int .i64 x.b.d2.scale, .int .i64 x.c.d0.c, .int .i64 x.c.d0.scale, .int .i64 x.c.d1.c, .int .i64 x.c.d1.scale, .int .i64 x.c.d2.c, .int .i64 x.c.d2.scale]) rfl rfl rfl (st_lda (vs := [.string (⟨#[97, 105, 114]⟩ : ByteArray), .int .i64 x.b.d0.c, .int .i64 x.b.d0.scale, .int .i64 x.b.d1.c, .int .i64 x.b.d1.scale, .int .i64 x.b.d2.c, .int .i64 x.b.d2.scale, .int .i64 x.c.d0.c, .int .i64 x.c.d0.scale, .int .i64 x.c.d1.c, .int .i64 x.c.d1.scale, .int .i64 x.c.d2.c, .int .i64 x.c.d2.scale]) agg29 1 rfl rfl rfl rfl rfl rfl ⟨rfl, rfl⟩) ?_
   refine dw_gd (d := (some 45)) ((Iv.v (hIv a b))) rfl rfl rfl (st_lda (vs := [.int .i64 ((hIv a b).lo), .int .i64 ((hIv a b).hi), .bool ((hIv a b).no)]) agg32 0 rfl rfl rfl rfl rfl rfl ⟨rfl, rfl⟩) (dw_gd (d := (some 46)) ((Iv.v (lawGlassIndexT_e3 x which a b k tame))) rfl rfl rfl (st_cf (c_rIndex (⟨(⟨#[97, 105, 114]⟩ : ByteArray), x.b, x.c⟩ : Glass) (hIv a b)) Tryz.func15 rfl (by decide) rfl rfl rfl ⟨rfl, rfl⟩) ?_)
   refine dw_gd (d := (some 47)) (.bool (decide ((lawGlassIndexT_e2 x which a b k tame) = (lawGlassIndexT_e3 x which a b k tame)))) rfl rfl rfl (st_bi (r := .bool (decide ((lawGlassIndexT_e2 x which a b k tame) = (lawGlassIndexT_e3 x which a b k tame)))) rfl rfl rfl (beql_32 (lawGlassIndexT_e2 x which a b k tame) (lawGlassIndexT_e3 x which a b k tame) rfl) ⟨rfl, rfl⟩) (dw_op (d := some 48) _ rfl rfl rfl (st_pkt (v := .bool (decide ((lawGlassIndexT_e2 x which a b k tame) = (lawGlassIndexT_e3 x which a b k tame)))) rfl rfl rfl ⟨rfl, rfl⟩) ?_)
   refine dw_op (d := some 49) _ rfl rfl rfl (st_move (v := .bool (decide ((lawGlassIndexT_e2 x which a b k tame) = (lawGlassIndexT_e3 x which a b k tame)))) rfl rfl ⟨rfl, rfl⟩) (bool_split (decide ((lawGlassIndexT_e2 x which a b k tame) = (lawGlassIndexT_e3 x which a b k tame))) (fun h3 => ?_) (fun h3 => nomatch (show false = true from (show (lawGlassIndexT x which a b k tame) = _ from (eT h1 (eF h2 (eF h3 rfl)))).symm.trans H)))
   refine dw_gd (d := (some 50)) (.agg #[.string (⟨#[97, 105, 114]⟩ : ByteArray), .int .i64 x.b.d0.c, .int .i64 x.b.d0.scale, .int .i64 x.b.d1.c, .int .i64 x.b.d1.scale, .int .i64 x.b.d2.c, .int .i64 x.b.d2.scale, .int .i64 x.c.d0.c, .int .i64 x.c.d0.scale, .int .i64 x.c.d1.c, .int .i64 x.c.d1.scale, .int .i64 x.c.d2.c, .int .i64 x.c.d2.scale]) rfl (by show ((decide ((lawGlassIndexT_e2 x which a b k tame) = (lawGlassIndexT_e3 x which a b k tame))) == true) = true; rw [h3]; rfl) rfl (st_lda (vs := [.string (⟨#[97, 105, 114]⟩ : ByteArray), .int .i64 x.b.d0.c, .int .i64 x.b.d0.scale, .int .i64 x.b.d1.c, .int .i64 x.b.d1.scale, .int .i64 x.b.d2.c, .int .i64 x.b.d2.scale, .int .i64 x.c.d0.c, .int .i64 x.c.d0.scale, .int .i64 x.c.d1.c, .int .i64 x.c.d1.scale, .int .i64 x.c.d2.c, .int .i64 x.c.d2.scale]) agg29 1 rfl rfl rfl rfl rfl rfl ⟨rfl, rfl⟩) ?_
   refine dw_gd (d := (some 51)) ((Iv.v (lawGlassIndexT_e4 x which a b k tame))) rfl (by show ((decide ((lawGlassIndexT_e2 x which a b k tame) = (lawGlassIndexT_e3 x which a b k tame))) == true) = true; rw [h3]; rfl) rfl (st_cf (c_gAbbe (⟨(⟨#[97, 105, 114]⟩ : ByteArray), x.b, x.c⟩ : Glass)) Tryz.func16 rfl (by decide) rfl rfl rfl ⟨rfl, rfl⟩) ?_
   refine dw_gd (d := (some 52)) (.agg #[.string (⟨#[97, 105, 114]⟩ : ByteArray), .int .i64 x.b.d0.c, .int .i64 x.b.d0.scale, .int .i64 x.b.d1.c, .int .i64 x.b.d1.scale, .int .i64 x.b.d2.c, .int .i64 x.b.d2.scale, .int .i64 x.c.d0.c, .int .i64 x.c.d0.scale, .int .i64 x.c.d1.c, .int .i64 x.c.d1.scale, .int .i64 x.c.d2.c, .int .i64 x.c.d2.scale]) rfl (by show ((decide ((lawGlassIndexT_e2 x which a b k tame) = (lawGlassIndexT_e3 x which a b k tame))) == true) = true; rw [h3]; rfl) rfl (st_lda (vs := [.string (⟨#[97, 105, 114]⟩ : ByteArray), .int .i64 x.b.d0.c, .int .i64 x.b.d0.scale, .int .i64 x.b.d1.c, .int .i64 x.b.d1.scale, .int .i64 x.b.d2.c, .int .i64 x.b.d2.scale, .int .i64 x.c.d0.c, .int .i64 x.c.d0.scale, .int .i64 x.c.d1.c, .int .i64 x.c.d1.scale, .int .i64 x.c.d2.c, .int .i64 x.c.d2.scale]) agg29 1 rfl rfl rfl rfl rfl rfl ⟨rfl, rfl⟩) ?_
   refine dw_gd (d := (some 53)) ((Iv.v (lawGlassIndexT_e5 x which a b k tame))) rfl (by show ((decide ((lawGlassIndexT_e2 x which a b k tame) = (lawGlassIndexT_e3 x which a b k tame))) == true) = true; rw [h3]; rfl) rfl (st_cf (c_rAbbe (⟨(⟨#[97, 105, 114]⟩ : ByteArray), x.b, x.c⟩ : Glass)) Tryz.func17 rfl (by decide) rfl rfl rfl ⟨rfl, rfl⟩) ?_
   refine dw_gd (d := (some 54)) (.bool (decide ((lawGlassIndexT_e4 x which a b k tame) = (lawGlassIndexT_e5 x which a b k tame)))) rfl (by show ((decide ((lawGlassIndexT_e2 x which a b k tame) = (lawGlassIndexT_e3 x which a b k tame))) == true) = true; rw [h3]; rfl) rfl (st_bi (r := .bool (decide ((lawGlassIndexT_e4 x which a b k tame) = (lawGlassIndexT_e5 x which a b k tame)))) rfl rfl rfl (beql_32 (lawGlassIndexT_e4 x which a b k tame) (lawGlassIndexT_e5 x which a b k tame) rfl) ⟨rfl, rfl⟩) ?_
   refine dw_op (d := some 55) _ rfl rfl rfl (st_pkt' (b := decide ((lawGlassIndexT_e2 x which a b k tame) = (lawGlassIndexT_e3 x which a b k tame))) (v := .bool (decide ((lawGlassIndexT_e4 x which a b k tame) = (lawGlassIndexT_e5 x which a b k tame)))) h3 rfl rfl rfl ⟨rfl, rfl⟩) (dw_op (d := some 56) _ rfl rfl rfl (st_move (v := .bool (decide ((lawGlassIndexT_e4 x which a b k tame) = (lawGlassIndexT_e5 x which a b k tame)))) rfl rfl ⟨rfl, rfl⟩) ?_)
   refine bool_split (decide ((lawGlassIndexT_e4 x which a b k tame) = (lawGlassIndexT_e5 x which a b k tame))) (fun h4 => ?_) (fun h4 => nomatch (show false = true from (show (lawGlassIndexT x which a b k tame) = _ from (eT h1 (eF h2 (eT h3 (eF h4 rfl))))).symm.trans H))
   refine dw_gd (d := (some 57)) (.int .i64 k) rfl (by show ((decide ((lawGlassIndexT_e4 x which a b k tame) = (lawGlassIndexT_e5 x which a b k tame))) == true) = true; rw [h4]; rfl) rfl (st_move (v := .int .i64 k) rfl rfl ⟨rfl, rfl⟩) (dw_gd (d := (some 58)) ((Iv.v (gLnK k))) rfl (by show ((decide ((lawGlassIndexT_e4 x which a b k tame) = (lawGlassIndexT_e5 x which a b k tame))) == true) = true; rw [h4]; rfl) rfl (st_cf (c_gLnK k) Tryz.func18 rfl (by decide) rfl rfl rfl ⟨rfl, rfl⟩) ?_)
   refine dw_gd (d := (some 59)) (.int .i64 k) rfl (by show ((decide ((lawGlassIndexT_e4 x which a b k tame) = (lawGlassIndexT_e5 x which a b k tame))) == true) = true; rw [h4]; rfl) rfl (st_move (v := .int .i64 k) rfl rfl ⟨rfl, rfl⟩) (dw_gd (d := (some 60)) ((Iv.v (rLine_ k))) rfl (by show ((decide ((lawGlassIndexT_e4 x which a b k tame) = (lawGlassIndexT_e5 x which a b k tame))) == true) = true; rw [h4]; rfl) rfl (st_cf (c_rLine_ k) Tryz.func19 rfl (by decide) rfl rfl rfl ⟨rfl, rfl⟩) ?_)
   refine dw_gd (d := (some 61)) (.bool (decide ((gLnK k) = (rLine_ k)))) rfl (by show ((decide ((lawGlassIndexT_e4 x which a b k tame) = (lawGlassIndexT_e5 x which a b k tame))) == true) = true; rw [h4]; rfl) rfl (st_bi (r := .bool (decide ((gLnK k) = (rLine_ k)))) rfl rfl rfl (beql_32 (gLnK k) (rLine_ k) rfl) ⟨rfl, rfl⟩) (dw_op (d := some 62) _ rfl rfl rfl (st_pkt' (b := decide ((lawGlassIndexT_e4 x which a b k tame) = (lawGlassIndexT_e5 x which a b k tame))) (v := .bool (decide ((gLnK k) = (rLine_ k)))) h4 rfl rfl rfl ⟨rfl, rfl⟩) (dw_op (d := some 63) _ rfl rfl rfl (st_move (v := .bool (decide ((gLnK k) = (rLine_ k)))) rfl rfl ⟨rfl, rfl⟩) ?_))
   refine bool_split (decide ((gLnK k) = (rLine_ k))) (fun h5 => ?_) (fun h5 => nomatch (show false = true from (show (lawGlassIndexT x which a b k tame) = _ from (eT h1 (eF h2 (eT h3 (eT h4 (eF h5 rfl)))))).symm.trans H))
   refine dw_gd (d := (some 64)) (.int .i64 k) rfl (by show ((decide ((gLnK k) = (rLine_ k))) == true) = true; rw [h5]; rfl) rfl (st_move (v := .int .i64 k) rfl rfl ⟨rfl, rfl⟩) (dw_gd (d := (some 65)) (.int .i64 (hPick k 5)) rfl (by show ((decide ((gLnK k) = (rLine_ k))) == true) = true; rw [h5]; rfl) rfl (st_cf (c_hPick k 5 (by decide)) Tryz.func10 rfl (by decide) rfl rfl rfl ⟨rfl, rfl⟩) (dw_gd (d := (some 66)) (.int .i64 (w64 ((hPick k 5) - 1))) rfl (by show ((decide ((gLnK k) = (rLine_ k))) == true) = true; rw [h5]; rfl) rfl (st_bi (r := .int .i64 (w64 ((hPick k 5) - 1))) rfl rfl rfl (bi_sub rfl) ⟨rfl, rfl⟩) ?_))
   refine dw_gd (d := (some 67)) ((Iv.v (gLnK (w64 ((hPick k 5) - 1))))) rfl (by show ((decide ((gLnK k) = (rLine_ k))) == true) = true; rw [h5]; rfl) rfl (st_cf (c_gLnK (w64 ((hPick k 5) - 1))) Tryz.func18 rfl (by decide) rfl rfl rfl ⟨rfl, rfl⟩) (dw_gd (d := (some 68)) (.int .i64 k) rfl (by show ((decide ((gLnK k) = (rLine_ k))) == true) = true; rw [h5]; rfl) rfl (st_move (v := .int .i64 k) rfl rfl ⟨rfl, rfl⟩) (dw_gd (d := (some 69)) (.int .i64 (hPick k 5)) rfl (by show ((decide ((gLnK k) = (rLine_ k))) == true) = true; rw [h5]; rfl) rfl (st_cf (c_hPick k 5 (by decide)) Tryz.func10 rfl (by decide) rfl rfl rfl ⟨rfl, rfl⟩) ?_))
   refine dw_gd (d := (some 70)) (.int .i64 (w64 ((hPick k 5) - 1))) rfl (by show ((decide ((gLnK k) = (rLine_ k))) == true) = true; rw [h5]; rfl) rfl (st_bi (r := .int .i64 (w64 ((hPick k 5) - 1))) rfl rfl rfl (bi_sub rfl) ⟨rfl, rfl⟩) (dw_gd (d := (some 71)) ((Iv.v (rLine_ (w64 ((hPick k 5) - 1))))) rfl (by show ((decide ((gLnK k) = (rLine_ k))) == true) = true; rw [h5]; rfl) rfl (st_cf (c_rLine_ (w64 ((hPick k 5) - 1))) Tryz.func19 rfl (by decide) rfl rfl rfl ⟨rfl, rfl⟩) ?_)
   refine dw_gd (d := (some 72)) (.bool (decide ((gLnK (w64 ((hPick k 5) - 1))) = (rLine_ (w64 ((hPick k 5) - 1)))))) rfl (by show ((decide ((gLnK k) = (rLine_ k))) == true) = true; rw [h5]; rfl) rfl (st_bi (r := .bool (decide ((gLnK (w64 ((hPick k 5) - 1))) = (rLine_ (w64 ((hPick k 5) - 1)))))) rfl rfl rfl (beql_32 (gLnK (w64 ((hPick k 5) - 1))) (rLine_ (w64 ((hPick k 5) - 1))) rfl) ⟨rfl, rfl⟩) (dw_op (d := some 73) _ rfl rfl rfl (st_pkt' (b := decide ((gLnK k) = (rLine_ k))) (v := .bool (decide ((gLnK (w64 ((hPick k 5) - 1))) = (rLine_ (w64 ((hPick k 5) - 1)))))) h5 rfl rfl rfl ⟨rfl, rfl⟩) ?_)
   refine dw_op (d := some 12) _ rfl rfl rfl (st_assign (v := .bool (decide ((gLnK (w64 ((hPick k 5) - 1))) = (rLine_ (w64 ((hPick k 5) - 1)))))) rfl rfl ⟨rfl, rfl⟩) (dw_nil (aN (ac_ret (fin_eq (v := .bool (decide ((gLnK (w64 ((hPick k 5) - 1))) = (rLine_ (w64 ((hPick k 5) - 1)))))) (congrArg Value.bool (show (decide ((gLnK (w64 ((hPick k 5) - 1))) = (rLine_ (w64 ((hPick k 5) - 1))))) = true from (show (lawGlassIndexT x which a b k tame) = _ from (eT h1 (eF h2 (eT h3 (eT h4 (eT h5 rfl)))))).symm.trans H)) (fin_ret (res_tmp rfl rfl))))))
 ·refine ac_else' (b := (Int.tmod which 17) == 16) h1 rfl (ac_skip (aQ (aL (aM 29 (.int .i64 a) rfl rfl (aM 30 (.int .i64 b) rfl rfl (aC 31 (c_hIv a b) Tryz.func11 ⟨rfl, by decide⟩ rfl rfl (ao 15 rfl rfl (st_new zero32 rfl fun g0 => (aS [.int .i64 ((hIv a b).lo), .int .i64 ((hIv a b).hi), .bool ((hIv a b).no)] agg32 0 rfl rfl rfl rfl rfl rfl (aN (aQ (aQ (aL (aM 32 (.bool tame) rfl rfl (aN ?_)))))))))))))))
  refine bool_split (tame) (fun h2 => ?_) (fun h2 => ?_)
  ·refine ac_then' (b := tame) h2 rfl (aL (aM 33 (.int .i64 a) rfl rfl (aC 34 (c_hPick a 40000 (by decide)) Tryz.func10 ⟨rfl, by decide⟩ rfl rfl (aB 35 (.int .i64 (w64 (20000 + (hPick a 40000)))) rfl rfl rfl (bi_add rfl) (aM 36 (.int .i64 b) rfl rfl (aC 37 (c_hPick b 300 (by decide)) Tryz.func10 ⟨rfl, by decide⟩ rfl rfl (aC 38 (c_hWide (w64 (20000 + (hPick a 40000))) (hPick b 300)) Tryz.func12 ⟨rfl, by decide⟩ rfl rfl (aS [.int .i64 ((hWide (w64 (20000 + (hPick a 40000))) (hPick b 300)).lo), .int .i64 ((hWide (w64 (20000 + (hPick a 40000))) (hPick b 300)).hi), .bool ((hWide (w64 (20000 + (hPick a 40000))) (hPick b 300)).no)] agg32 0 rfl rfl rfl rfl rfl rfl (aN ?_)))))))))
   refine aQ ?_
   refine ac_draw0 (id := 8) [0, 1, 2, 3, 4, 5, 6, 7, 8, 9, 10, 11, 12, 13, 14, 15, 16, 17, 18, 19, 20, 21, 22, 23, 24, 25, 26, 27, 28, 29, 30, 31, 32, 33, 34, 35] [] _ (by kernel_rfl) follows rfl  (dw_op (d := some 39) _ rfl rfl rfl (st_gr (R := [powBox tP]) (r := .bool true) (c_known11 tP) Tryz.func13 rfl (by decide) rfl rfl rfl (has_cons 2 _ rfl rfl rfl rfl has_nil) (by simp) ⟨rfl, rfl⟩) (dw_op (d := some 40) _ rfl rfl rfl (st_move (v := .bool true) rfl rfl ⟨rfl, rfl⟩) (dw_gd (d := (some 41)) (.agg (Glass.cells x).toArray) rfl rfl rfl (st_lda (vs := (Glass.cells x)) agg29 1 rfl rfl rfl rfl rfl rfl ⟨rfl, rfl⟩) ?_)))
   refine dw_gd (d := (some 42)) ((Iv.v (hWide (w64 (20000 + (hPick a 40000))) (hPick b 300)))) rfl rfl rfl (st_lda (vs := [.int .i64 ((hWide (w64 (20000 + (hPick a 40000))) (hPick b 300)).lo), .int .i64 ((hWide (w64 (20000 + (hPick a 40000))) (hPick b 300)).hi), .bool ((hWide (w64 (20000 + (hPick a 40000))) (hPick b 300)).no)]) agg32 0 rfl rfl rfl rfl rfl rfl ⟨rfl, rfl⟩) (dw_gd (d := (some 43)) ((Iv.v (lawGlassIndexT_e6 x which a b k tame))) rfl rfl rfl (st_cf (c_gIndex x (hWide (w64 (20000 + (hPick a 40000))) (hPick b 300))) Tryz.func14 rfl (by decide) rfl rfl rfl ⟨rfl, rfl⟩) ?_)
   refine dw_gd (d := (some 44)) (.agg (Glass.cells x).toArray) rfl rfl rfl (st_lda (vs := (Glass.cells x)) agg29 1 rfl rfl rfl rfl rfl rfl ⟨rfl, rfl⟩) (dw_gd (d := (some 45)) ((Iv.v (hWide (w64 (20000 + (hPick a 40000))) (hPick b 300)))) rfl rfl rfl (st_lda (vs := [.int .i64 ((hWide (w64 (20000 + (hPick a 40000))) (hPick b 300)).lo), .int .i64 ((hWide (w64 (20000 + (hPick a 40000))) (hPick b 300)).hi), .bool ((hWide (w64 (20000 + (hPick a 40000))) (hPick b 300)).no)]) agg32 0 rfl rfl rfl rfl rfl rfl ⟨rfl, rfl⟩) ?_)
   refine dw_gd (d := (some 46)) ((Iv.v (lawGlassIndexT_e7 x which a b k tame))) rfl rfl rfl (st_cf (c_rIndex x (hWide (w64 (20000 + (hPick a 40000))) (hPick b 300))) Tryz.func15 rfl (by decide) rfl rfl rfl ⟨rfl, rfl⟩) (dw_gd (d := (some 47)) (.bool (decide ((lawGlassIndexT_e6 x which a b k tame) = (lawGlassIndexT_e7 x which a b k tame)))) rfl rfl rfl (st_bi (r := .bool (decide ((lawGlassIndexT_e6 x which a b k tame) = (lawGlassIndexT_e7 x which a b k tame)))) rfl rfl rfl (beql_32 (lawGlassIndexT_e6 x which a b k tame) (lawGlassIndexT_e7 x which a b k tame) rfl) ⟨rfl, rfl⟩) ?_)
   refine dw_op (d := some 48) _ rfl rfl rfl (st_pkt (v := .bool (decide ((lawGlassIndexT_e6 x which a b k tame) = (lawGlassIndexT_e7 x which a b k tame)))) rfl rfl rfl ⟨rfl, rfl⟩) (dw_op (d := some 49) _ rfl rfl rfl (st_move (v := .bool (decide ((lawGlassIndexT_e6 x which a b k tame) = (lawGlassIndexT_e7 x which a b k tame)))) rfl rfl ⟨rfl, rfl⟩) (bool_split (decide ((lawGlassIndexT_e6 x which a b k tame) = (lawGlassIndexT_e7 x which a b k tame))) (fun h3 => ?_) (fun h3 => nomatch (show false = true from (show (lawGlassIndexT x which a b k tame) = _ from (eF h1 (eT h2 (eF h3 rfl)))).symm.trans H))))
   refine dw_gd (d := (some 50)) (.agg (Glass.cells x).toArray) rfl (by show ((decide ((lawGlassIndexT_e6 x which a b k tame) = (lawGlassIndexT_e7 x which a b k tame))) == true) = true; rw [h3]; rfl) rfl (st_lda (vs := (Glass.cells x)) agg29 1 rfl rfl rfl rfl rfl rfl ⟨rfl, rfl⟩) (dw_gd (d := (some 51)) ((Iv.v (gAbbe x))) rfl (by show ((decide ((lawGlassIndexT_e6 x which a b k tame) = (lawGlassIndexT_e7 x which a b k tame))) == true) = true; rw [h3]; rfl) rfl (st_cf (c_gAbbe x) Tryz.func16 rfl (by decide) rfl rfl rfl ⟨rfl, rfl⟩) ?_)
   refine dw_gd (d := (some 52)) (.agg (Glass.cells x).toArray) rfl (by show ((decide ((lawGlassIndexT_e6 x which a b k tame) = (lawGlassIndexT_e7 x which a b k tame))) == true) = true; rw [h3]; rfl) rfl (st_lda (vs := (Glass.cells x)) agg29 1 rfl rfl rfl rfl rfl rfl ⟨rfl, rfl⟩) (dw_gd (d := (some 53)) ((Iv.v (rAbbe x))) rfl (by show ((decide ((lawGlassIndexT_e6 x which a b k tame) = (lawGlassIndexT_e7 x which a b k tame))) == true) = true; rw [h3]; rfl) rfl (st_cf (c_rAbbe x) Tryz.func17 rfl (by decide) rfl rfl rfl ⟨rfl, rfl⟩) ?_)
   refine dw_gd (d := (some 54)) (.bool (decide ((gAbbe x) = (rAbbe x)))) rfl (by show ((decide ((lawGlassIndexT_e6 x which a b k tame) = (lawGlassIndexT_e7 x which a b k tame))) == true) = true; rw [h3]; rfl) rfl (st_bi (r := .bool (decide ((gAbbe x) = (rAbbe x)))) rfl rfl rfl (beql_32 (gAbbe x) (rAbbe x) rfl) ⟨rfl, rfl⟩) (dw_op (d := some 55) _ rfl rfl rfl (st_pkt' (b := decide ((lawGlassIndexT_e6 x which a b k tame) = (lawGlassIndexT_e7 x which a b k tame))) (v := .bool (decide ((gAbbe x) = (rAbbe x)))) h3 rfl rfl rfl ⟨rfl, rfl⟩) (dw_op (d := some 56) _ rfl rfl rfl (st_move (v := .bool (decide ((gAbbe x) = (rAbbe x)))) rfl rfl ⟨rfl, rfl⟩) ?_))
   refine bool_split (decide ((gAbbe x) = (rAbbe x))) (fun h4 => ?_) (fun h4 => nomatch (show false = true from (show (lawGlassIndexT x which a b k tame) = _ from (eF h1 (eT h2 (eT h3 (eF h4 rfl))))).symm.trans H))
   refine dw_gd (d := (some 57)) (.int .i64 k) rfl (by show ((decide ((gAbbe x) = (rAbbe x))) == true) = true; rw [h4]; rfl) rfl (st_move (v := .int .i64 k) rfl rfl ⟨rfl, rfl⟩) (dw_gd (d := (some 58)) ((Iv.v (gLnK k))) rfl (by show ((decide ((gAbbe x) = (rAbbe x))) == true) = true; rw [h4]; rfl) rfl (st_cf (c_gLnK k) Tryz.func18 rfl (by decide) rfl rfl rfl ⟨rfl, rfl⟩) (dw_gd (d := (some 59)) (.int .i64 k) rfl (by show ((decide ((gAbbe x) = (rAbbe x))) == true) = true; rw [h4]; rfl) rfl (st_move (v := .int .i64 k) rfl rfl ⟨rfl, rfl⟩) ?_))
   refine dw_gd (d := (some 60)) ((Iv.v (rLine_ k))) rfl (by show ((decide ((gAbbe x) = (rAbbe x))) == true) = true; rw [h4]; rfl) rfl (st_cf (c_rLine_ k) Tryz.func19 rfl (by decide) rfl rfl rfl ⟨rfl, rfl⟩) (dw_gd (d := (some 61)) (.bool (decide ((gLnK k) = (rLine_ k)))) rfl (by show ((decide ((gAbbe x) = (rAbbe x))) == true) = true; rw [h4]; rfl) rfl (st_bi (r := .bool (decide ((gLnK k) = (rLine_ k)))) rfl rfl rfl (beql_32 (gLnK k) (rLine_ k) rfl) ⟨rfl, rfl⟩) (dw_op (d := some 62) _ rfl rfl rfl (st_pkt' (b := decide ((gAbbe x) = (rAbbe x))) (v := .bool (decide ((gLnK k) = (rLine_ k)))) h4 rfl rfl rfl ⟨rfl, rfl⟩) ?_))
   refine dw_op (d := some 63) _ rfl rfl rfl (st_move (v := .bool (decide ((gLnK k) = (rLine_ k)))) rfl rfl ⟨rfl, rfl⟩) (bool_split (decide ((gLnK k) = (rLine_ k))) (fun h5 => ?_) (fun h5 => nomatch (show false = true from (show (lawGlassIndexT x which a b k tame) = _ from (eF h1 (eT h2 (eT h3 (eT h4 (eF h5 rfl)))))).symm.trans H)))
   refine dw_gd (d := (some 64)) (.int .i64 k) rfl (by show ((decide ((gLnK k) = (rLine_ k))) == true) = true; rw [h5]; rfl) rfl (st_move (v := .int .i64 k) rfl rfl ⟨rfl, rfl⟩) (dw_gd (d := (some 65)) (.int .i64 (hPick k 5)) rfl (by show ((decide ((gLnK k) = (rLine_ k))) == true) = true; rw [h5]; rfl) rfl (st_cf (c_hPick k 5 (by decide)) Tryz.func10 rfl (by decide) rfl rfl rfl ⟨rfl, rfl⟩) (dw_gd (d := (some 66)) (.int .i64 (w64 ((hPick k 5) - 1))) rfl (by show ((decide ((gLnK k) = (rLine_ k))) == true) = true; rw [h5]; rfl) rfl (st_bi (r := .int .i64 (w64 ((hPick k 5) - 1))) rfl rfl rfl (bi_sub rfl) ⟨rfl, rfl⟩) ?_))
   refine dw_gd (d := (some 67)) ((Iv.v (gLnK (w64 ((hPick k 5) - 1))))) rfl (by show ((decide ((gLnK k) = (rLine_ k))) == true) = true; rw [h5]; rfl) rfl (st_cf (c_gLnK (w64 ((hPick k 5) - 1))) Tryz.func18 rfl (by decide) rfl rfl rfl ⟨rfl, rfl⟩) (dw_gd (d := (some 68)) (.int .i64 k) rfl (by show ((decide ((gLnK k) = (rLine_ k))) == true) = true; rw [h5]; rfl) rfl (st_move (v := .int .i64 k) rfl rfl ⟨rfl, rfl⟩) (dw_gd (d := (some 69)) (.int .i64 (hPick k 5)) rfl (by show ((decide ((gLnK k) = (rLine_ k))) == true) = true; rw [h5]; rfl) rfl (st_cf (c_hPick k 5 (by decide)) Tryz.func10 rfl (by decide) rfl rfl rfl ⟨rfl, rfl⟩) ?_))
   refine dw_gd (d := (some 70)) (.int .i64 (w64 ((hPick k 5) - 1))) rfl (by show ((decide ((gLnK k) = (rLine_ k))) == true) = true; rw [h5]; rfl) rfl (st_bi (r := .int .i64 (w64 ((hPick k 5) - 1))) rfl rfl rfl (bi_sub rfl) ⟨rfl, rfl⟩) (dw_gd (d := (some 71)) ((Iv.v (rLine_ (w64 ((hPick k 5) - 1))))) rfl (by show ((decide ((gLnK k) = (rLine_ k))) == true) = true; rw [h5]; rfl) rfl (st_cf (c_rLine_ (w64 ((hPick k 5) - 1))) Tryz.func19 rfl (by decide) rfl rfl rfl ⟨rfl, rfl⟩) ?_)
   refine dw_gd (d := (some 72)) (.bool (decide ((gLnK (w64 ((hPick k 5) - 1))) = (rLine_ (w64 ((hPick k 5) - 1)))))) rfl (by show ((decide ((gLnK k) = (rLine_ k))) == true) = true; rw [h5]; rfl) rfl (st_bi (r := .bool (decide ((gLnK (w64 ((hPick k 5) - 1))) = (rLine_ (w64 ((hPick k 5) - 1)))))) rfl rfl rfl (beql_32 (gLnK (w64 ((hPick k 5) - 1))) (rLine_ (w64 ((hPick k 5) - 1))) rfl) ⟨rfl, rfl⟩) (dw_op (d := some 73) _ rfl rfl rfl (st_pkt' (b := decide ((gLnK k) = (rLine_ k))) (v := .bool (decide ((gLnK (w64 ((hPick k 5) - 1))) = (rLine_ (w64 ((hPick k 5) - 1)))))) h5 rfl rfl rfl ⟨rfl, rfl⟩) ?_)
   refine dw_op (d := some 12) _ rfl rfl rfl (st_assign (v := .bool (decide ((gLnK (w64 ((hPick k 5) - 1))) = (rLine_ (w64 ((hPick k 5) - 1)))))) rfl rfl ⟨rfl, rfl⟩) (dw_nil (aN (ac_ret (fin_eq (v := .bool (decide ((gLnK (w64 ((hPick k 5) - 1))) = (rLine_ (w64 ((hPick k 5) - 1)))))) (congrArg Value.bool (show (decide ((gLnK (w64 ((hPick k 5) - 1))) = (rLine_ (w64 ((hPick k 5) - 1))))) = true from (show (lawGlassIndexT x which a b k tame) = _ from (eF h1 (eT h2 (eT h3 (eT h4 (eT h5 rfl)))))).symm.trans H)) (fin_ret (res_tmp rfl rfl))))))
  ·refine ac_else' (b := tame) h2 rfl (ac_skip (aQ ?_))
   refine ac_draw0 (id := 8) [0, 1, 2, 3, 4, 5, 6, 7, 8, 9, 10, 11, 12, 13, 14, 15, 16, 17, 18, 19, 20, 21, 22, 23, 24, 25, 26, 27, 28, 29, 30, 31, 32, 33, 34, 35] [] _ (by kernel_rfl) follows rfl  (dw_op (d := some 39) _ rfl rfl rfl (st_gr (R := [powBox tP]) (r := .bool true) (c_known11 tP) Tryz.func13 rfl (by decide) rfl rfl rfl (has_cons 2 _ rfl rfl rfl rfl has_nil) (by simp) ⟨rfl, rfl⟩) (dw_op (d := some 40) _ rfl rfl rfl (st_move (v := .bool true) rfl rfl ⟨rfl, rfl⟩) (dw_gd (d := (some 41)) (.agg (Glass.cells x).toArray) rfl rfl rfl (st_lda (vs := (Glass.cells x)) agg29 1 rfl rfl rfl rfl rfl rfl ⟨rfl, rfl⟩) ?_)))
   refine dw_gd (d := (some 42)) ((Iv.v (hIv a b))) rfl rfl rfl (st_lda (vs := [.int .i64 ((hIv a b).lo), .int .i64 ((hIv a b).hi), .bool ((hIv a b).no)]) agg32 0 rfl rfl rfl rfl rfl rfl ⟨rfl, rfl⟩) (dw_gd (d := (some 43)) ((Iv.v (gIndex x (hIv a b)))) rfl rfl rfl (st_cf (c_gIndex x (hIv a b)) Tryz.func14 rfl (by decide) rfl rfl rfl ⟨rfl, rfl⟩) (dw_gd (d := (some 44)) (.agg (Glass.cells x).toArray) rfl rfl rfl (st_lda (vs := (Glass.cells x)) agg29 1 rfl rfl rfl rfl rfl rfl ⟨rfl, rfl⟩) ?_))
   refine dw_gd (d := (some 45)) ((Iv.v (hIv a b))) rfl rfl rfl (st_lda (vs := [.int .i64 ((hIv a b).lo), .int .i64 ((hIv a b).hi), .bool ((hIv a b).no)]) agg32 0 rfl rfl rfl rfl rfl rfl ⟨rfl, rfl⟩) (dw_gd (d := (some 46)) ((Iv.v (rIndex x (hIv a b)))) rfl rfl rfl (st_cf (c_rIndex x (hIv a b)) Tryz.func15 rfl (by decide) rfl rfl rfl ⟨rfl, rfl⟩) (dw_gd (d := (some 47)) (.bool (decide ((gIndex x (hIv a b)) = (rIndex x (hIv a b))))) rfl rfl rfl (st_bi (r := .bool (decide ((gIndex x (hIv a b)) = (rIndex x (hIv a b))))) rfl rfl rfl (beql_32 (gIndex x (hIv a b)) (rIndex x (hIv a b)) rfl) ⟨rfl, rfl⟩) ?_))
   refine dw_op (d := some 48) _ rfl rfl rfl (st_pkt (v := .bool (decide ((gIndex x (hIv a b)) = (rIndex x (hIv a b))))) rfl rfl rfl ⟨rfl, rfl⟩) (dw_op (d := some 49) _ rfl rfl rfl (st_move (v := .bool (decide ((gIndex x (hIv a b)) = (rIndex x (hIv a b))))) rfl rfl ⟨rfl, rfl⟩) (bool_split (decide ((gIndex x (hIv a b)) = (rIndex x (hIv a b)))) (fun h3 => ?_) (fun h3 => nomatch (show false = true from (show (lawGlassIndexT x which a b k tame) = _ from (eF h1 (eF h2 (eF h3 rfl)))).symm.trans H))))
   refine dw_gd (d := (some 50)) (.agg (Glass.cells x).toArray) rfl (by show ((decide ((gIndex x (hIv a b)) = (rIndex x (hIv a b)))) == true) = true; rw [h3]; rfl) rfl (st_lda (vs := (Glass.cells x)) agg29 1 rfl rfl rfl rfl rfl rfl ⟨rfl, rfl⟩) (dw_gd (d := (some 51)) ((Iv.v (gAbbe x))) rfl (by show ((decide ((gIndex x (hIv a b)) = (rIndex x (hIv a b)))) == true) = true; rw [h3]; rfl) rfl (st_cf (c_gAbbe x) Tryz.func16 rfl (by decide) rfl rfl rfl ⟨rfl, rfl⟩) ?_)
   refine dw_gd (d := (some 52)) (.agg (Glass.cells x).toArray) rfl (by show ((decide ((gIndex x (hIv a b)) = (rIndex x (hIv a b)))) == true) = true; rw [h3]; rfl) rfl (st_lda (vs := (Glass.cells x)) agg29 1 rfl rfl rfl rfl rfl rfl ⟨rfl, rfl⟩) (dw_gd (d := (some 53)) ((Iv.v (rAbbe x))) rfl (by show ((decide ((gIndex x (hIv a b)) = (rIndex x (hIv a b)))) == true) = true; rw [h3]; rfl) rfl (st_cf (c_rAbbe x) Tryz.func17 rfl (by decide) rfl rfl rfl ⟨rfl, rfl⟩) ?_)
   refine dw_gd (d := (some 54)) (.bool (decide ((gAbbe x) = (rAbbe x)))) rfl (by show ((decide ((gIndex x (hIv a b)) = (rIndex x (hIv a b)))) == true) = true; rw [h3]; rfl) rfl (st_bi (r := .bool (decide ((gAbbe x) = (rAbbe x)))) rfl rfl rfl (beql_32 (gAbbe x) (rAbbe x) rfl) ⟨rfl, rfl⟩) (dw_op (d := some 55) _ rfl rfl rfl (st_pkt' (b := decide ((gIndex x (hIv a b)) = (rIndex x (hIv a b)))) (v := .bool (decide ((gAbbe x) = (rAbbe x)))) h3 rfl rfl rfl ⟨rfl, rfl⟩) (dw_op (d := some 56) _ rfl rfl rfl (st_move (v := .bool (decide ((gAbbe x) = (rAbbe x)))) rfl rfl ⟨rfl, rfl⟩) ?_))
   refine bool_split (decide ((gAbbe x) = (rAbbe x))) (fun h4 => ?_) (fun h4 => nomatch (show false = true from (show (lawGlassIndexT x which a b k tame) = _ from (eF h1 (eF h2 (eT h3 (eF h4 rfl))))).symm.trans H))
   refine dw_gd (d := (some 57)) (.int .i64 k) rfl (by show ((decide ((gAbbe x) = (rAbbe x))) == true) = true; rw [h4]; rfl) rfl (st_move (v := .int .i64 k) rfl rfl ⟨rfl, rfl⟩) (dw_gd (d := (some 58)) ((Iv.v (gLnK k))) rfl (by show ((decide ((gAbbe x) = (rAbbe x))) == true) = true; rw [h4]; rfl) rfl (st_cf (c_gLnK k) Tryz.func18 rfl (by decide) rfl rfl rfl ⟨rfl, rfl⟩) (dw_gd (d := (some 59)) (.int .i64 k) rfl (by show ((decide ((gAbbe x) = (rAbbe x))) == true) = true; rw [h4]; rfl) rfl (st_move (v := .int .i64 k) rfl rfl ⟨rfl, rfl⟩) ?_))
   refine dw_gd (d := (some 60)) ((Iv.v (rLine_ k))) rfl (by show ((decide ((gAbbe x) = (rAbbe x))) == true) = true; rw [h4]; rfl) rfl (st_cf (c_rLine_ k) Tryz.func19 rfl (by decide) rfl rfl rfl ⟨rfl, rfl⟩) (dw_gd (d := (some 61)) (.bool (decide ((gLnK k) = (rLine_ k)))) rfl (by show ((decide ((gAbbe x) = (rAbbe x))) == true) = true; rw [h4]; rfl) rfl (st_bi (r := .bool (decide ((gLnK k) = (rLine_ k)))) rfl rfl rfl (beql_32 (gLnK k) (rLine_ k) rfl) ⟨rfl, rfl⟩) (dw_op (d := some 62) _ rfl rfl rfl (st_pkt' (b := decide ((gAbbe x) = (rAbbe x))) (v := .bool (decide ((gLnK k) = (rLine_ k)))) h4 rfl rfl rfl ⟨rfl, rfl⟩) ?_))
   refine dw_op (d := some 63) _ rfl rfl rfl (st_move (v := .bool (decide ((gLnK k) = (rLine_ k)))) rfl rfl ⟨rfl, rfl⟩) (bool_split (decide ((gLnK k) = (rLine_ k))) (fun h5 => ?_) (fun h5 => nomatch (show false = true from (show (lawGlassIndexT x which a b k tame) = _ from (eF h1 (eF h2 (eT h3 (eT h4 (eF h5 rfl)))))).symm.trans H)))
   refine dw_gd (d := (some 64)) (.int .i64 k) rfl (by show ((decide ((gLnK k) = (rLine_ k))) == true) = true; rw [h5]; rfl) rfl (st_move (v := .int .i64 k) rfl rfl ⟨rfl, rfl⟩) (dw_gd (d := (some 65)) (.int .i64 (hPick k 5)) rfl (by show ((decide ((gLnK k) = (rLine_ k))) == true) = true; rw [h5]; rfl) rfl (st_cf (c_hPick k 5 (by decide)) Tryz.func10 rfl (by decide) rfl rfl rfl ⟨rfl, rfl⟩) (dw_gd (d := (some 66)) (.int .i64 (w64 ((hPick k 5) - 1))) rfl (by show ((decide ((gLnK k) = (rLine_ k))) == true) = true; rw [h5]; rfl) rfl (st_bi (r := .int .i64 (w64 ((hPick k 5) - 1))) rfl rfl rfl (bi_sub rfl) ⟨rfl, rfl⟩) ?_))
   refine dw_gd (d := (some 67)) ((Iv.v (gLnK (w64 ((hPick k 5) - 1))))) rfl (by show ((decide ((gLnK k) = (rLine_ k))) == true) = true; rw [h5]; rfl) rfl (st_cf (c_gLnK (w64 ((hPick k 5) - 1))) Tryz.func18 rfl (by decide) rfl rfl rfl ⟨rfl, rfl⟩) (dw_gd (d := (some 68)) (.int .i64 k) rfl (by show ((decide ((gLnK k) = (rLine_ k))) == true) = true; rw [h5]; rfl) rfl (st_move (v := .int .i64 k) rfl rfl ⟨rfl, rfl⟩) (dw_gd (d := (some 69)) (.int .i64 (hPick k 5)) rfl (by show ((decide ((gLnK k) = (rLine_ k))) == true) = true; rw [h5]; rfl) rfl (st_cf (c_hPick k 5 (by decide)) Tryz.func10 rfl (by decide) rfl rfl rfl ⟨rfl, rfl⟩) ?_))
   refine dw_gd (d := (some 70)) (.int .i64 (w64 ((hPick k 5) - 1))) rfl (by show ((decide ((gLnK k) = (rLine_ k))) == true) = true; rw [h5]; rfl) rfl (st_bi (r := .int .i64 (w64 ((hPick k 5) - 1))) rfl rfl rfl (bi_sub rfl) ⟨rfl, rfl⟩) (dw_gd (d := (some 71)) ((Iv.v (rLine_ (w64 ((hPick k 5) - 1))))) rfl (by show ((decide ((gLnK k) = (rLine_ k))) == true) = true; rw [h5]; rfl) rfl (st_cf (c_rLine_ (w64 ((hPick k 5) - 1))) Tryz.func19 rfl (by decide) rfl rfl rfl ⟨rfl, rfl⟩) ?_)
   refine dw_gd (d := (some 72)) (.bool (decide ((gLnK (w64 ((hPick k 5) - 1))) = (rLine_ (w64 ((hPick k 5) - 1)))))) rfl (by show ((decide ((gLnK k) = (rLine_ k))) == true) = true; rw [h5]; rfl) rfl (st_bi (r := .bool (decide ((gLnK (w64 ((hPick k 5) - 1))) = (rLine_ (w64 ((hPick k 5) - 1)))))) rfl rfl rfl (beql_32 (gLnK (w64 ((hPick k 5) - 1))) (rLine_ (w64 ((hPick k 5) - 1))) rfl) ⟨rfl, rfl⟩) (dw_op (d := some 73) _ rfl rfl rfl (st_pkt' (b := decide ((gLnK k) = (rLine_ k))) (v := .bool (decide ((gLnK (w64 ((hPick k 5) - 1))) = (rLine_ (w64 ((hPick k 5) - 1)))))) h5 rfl rfl rfl ⟨rfl, rfl⟩) ?_)
   refine dw_op (d := some 12) _ rfl rfl rfl (st_assign (v := .bool (decide ((gLnK (w64 ((hPick k 5) - 1))) = (rLine_ (w64 ((hPick k 5) - 1)))))) rfl rfl ⟨rfl, rfl⟩) (dw_nil (aN (ac_ret (fin_eq (v := .bool (decide ((gLnK (w64 ((hPick k 5) - 1))) = (rLine_ (w64 ((hPick k 5) - 1)))))) (congrArg Value.bool (show (decide ((gLnK (w64 ((hPick k 5) - 1))) = (rLine_ (w64 ((hPick k 5) - 1))))) = true from (show (lawGlassIndexT x which a b k tame) = _ from (eF h1 (eF h2 (eT h3 (eT h4 (eT h5 rfl)))))).symm.trans H)) (fin_ret (res_tmp rfl rfl))))))
set_option maxRecDepth 100000 in
set_option maxHeartbeats 2000000 in
theorem c_lawGlassIndex (a1 : Option Addr) (N cap j tP : Nat) (x1 : Nat → Int) (L : List Glass) (NA : List Box) (which : Int) (a : Int) (b : Int) (k : Int) (tame : Bool) (ha : ArgI a1 N x1 NA) (hL : hGl N x1 = L) (h2 : 2 ≤ L.length) (hj : hPick which (L.length : Int) = (j : Int)) (hjl : j < L.length) (hro : (NA.all fun b => b.ro) = true) (H : (lawGlassIndexT (gAt L j) which a b k tame) = true) : Gives Tryz.prog 3 #[.slice a1 N cap, .int .i64 which, .int .i64 a, .int .i64 b, .int .i64 k, .bool tame] (powBox tP :: NA) (fun u N => u = .bool true ∧ N = []) := by
 refine gives_fin Tryz.func3 rfl rfl rfl (by rw [List.all_cons, hro]; rfl) (AC.mono ?_ (fun e E H h => fing_v h rfl))
 refine aQ (aL (aA 12 (.bool false) rfl rfl (aN (aQ (aL (aM 16 (.slice a1 N cap) rfl rfl (ao 17 rfl rfl (st_ownT fun hnd => st_gv (vs := [.slice a1 N cap]) (R := NA) (c_glassesL ha hL) Tryz.func9 rfl (by decide) rfl rfl rfl (has_tl (has_self _)) (nd_tl hnd) fun v9 N9 R9 => ?_))))))))
 obtain ⟨gG, ca, rest, rfl, rfl, hca⟩ := gl_open h2 R9
 refine aA 13 (.slice (some ⟨gG, 0, none⟩) L.length ca) rfl rfl (aN (aQ (aL (aM 18 (.slice (some ⟨gG, 0, none⟩) L.length ca) rfl rfl (aM 19 (.int .i64 which) rfl rfl (aM 20 (.slice (some ⟨gG, 0, none⟩) L.length ca) rfl rfl (ao 21 rfl rfl (st_ln (a := some ⟨gG, 0, none⟩) (m := L.length) (c := ca) rfl Tryz.underlying23 rfl (aC 22 (c_pickL (by omega) hj) Tryz.func10 ⟨rfl, by decide⟩ rfl rfl (ao 23 rfl rfl (st_sa (g := gG) (off := 0) (m := L.length) (c := ca) (s := 13) (i := j) rfl Tryz.underlying23 (by kernel_rfl) rfl rfl hjl ?_)))))))))))
 refine aG 24 [.string ((gAt L j).name), .int .i64 ((((gAt L j).b).d0).c), .int .i64 ((((gAt L j).b).d0).scale), .int .i64 ((((gAt L j).b).d1).c), .int .i64 ((((gAt L j).b).d1).scale), .int .i64 ((((gAt L j).b).d2).c), .int .i64 ((((gAt L j).b).d2).scale), .int .i64 ((((gAt L j).c).d0).c), .int .i64 ((((gAt L j).c).d0).scale), .int .i64 ((((gAt L j).c).d1).c), .int .i64 ((((gAt L j).c).d1).scale), .int .i64 ((((gAt L j).c).d2).c), .int .i64 ((((gAt L j).c).d2).scale)] agg29 0 rfl rfl rfl rfl (flatG_drop L rest j hjl) (ao 14 rfl rfl (st_new zero29 rfl fun g0 => ?_))
 refine aS [.string ((gAt L j).name), .int .i64 ((((gAt L j).b).d0).c), .int .i64 ((((gAt L j).b).d0).scale), .int .i64 ((((gAt L j).b).d1).c), .int .i64 ((((gAt L j).b).d1).scale), .int .i64 ((((gAt L j).b).d2).c), .int .i64 ((((gAt L j).b).d2).scale), .int .i64 ((((gAt L j).c).d0).c), .int .i64 ((((gAt L j).c).d0).scale), .int .i64 ((((gAt L j).c).d1).c), .int .i64 ((((gAt L j).c).d1).scale), .int .i64 ((((gAt L j).c).d2).c), .int .i64 ((((gAt L j).c).d2).scale)] agg29 0 rfl rfl rfl rfl rfl rfl (aN ?_)
 exact ac_drop (List.Sublist.cons_cons _ (List.Sublist.cons _ (List.Sublist.cons_cons _ (List.nil_sublist _)))) (c_lawGlassIndexT (gAt L j) which a b k tame tP g0 rfl rfl rfl rfl rfl rfl rfl H)
end Go.Proofs.YtalffjplbhelcaaGreatDoor
namespace Go.Proofs.YtalffjplbhelcaaGreatDoor
theorem w64_of {n : Int} (h : -9223372036854775808 ≤ n) (h' : n ≤ 9223372036854775807) : w64 n = n := w64_id ⟨h, h'⟩
theorem numIn_iff (n : Int) : numIn n = true ↔ -1073741824 ≤ n ∧ n ≤ 1073741824 := by
  unfold numIn
  by_cases h : n ≥ -1073741824 <;> simp [h] <;> omega
theorem rIn_eq (n : Int) : rIn n = numIn n := rfl
theorem tmod_lt_neg (a : Int) {b : Int} (hb : b < 0) : a.tmod b < -b ∧ b < a.tmod b := by
  have h1 := Int.tmod_lt_of_pos a (b := -b) (by omega)
  have h2 := Int.lt_tmod_of_pos a (b := -b) (by omega)
  rw [Int.tmod_neg] at h1 h2
  omega
theorem tmod_sign (a b : Int) : (0 ≤ a → 0 ≤ a.tmod b) ∧ (a ≤ 0 → a.tmod b ≤ 0) := by
  refine ⟨fun h => Int.tmod_nonneg b h, fun h => ?_⟩
  have := Int.tmod_nonneg b (a := -a) (by omega)
  rw [Int.neg_tmod] at this
  omega
theorem tdiv_abs (a : Int) {b : Int} (hb : b ≠ 0) (h : -9223372036854775808 < a ∧ a ≤ 9223372036854775807) : -9223372036854775807 ≤ a.tdiv b ∧ a.tdiv b ≤ 9223372036854775807 := by
  have h1 : (a.tdiv b).natAbs ≤ a.natAbs := by
    rw [Int.natAbs_tdiv]
    exact Nat.div_le_self _ _
  omega
theorem numFloor_spec (a : Int) {b : Int} (hb : b ≠ 0) (h : -9223372036854775808 < a ∧ a ≤ 9223372036854775807) :
    (0 < b → numFloor a b = a / b) ∧ (b < 0 → numFloor a b = (-a) / (-b)) := by
  have ht := tdiv_abs a hb h
  have he := Int.mul_tdiv_add_tmod a b
  have hs := tmod_sign a b
  have hne : (b == 0) = false := by simpa using hb
  have h0 : ∀ b' : Int, 0 < b' → ∀ a' q r : Int, b' * q + r = a' → 0 ≤ r → r < b' → a' / b' = q := fun b' hb' a' q r h1 h2 h3 =>
    ((Int.ediv_emod_unique (r := r) (q := q) hb').2 ⟨by omega, h2, h3⟩).1
  have hw1 : w64 (a.tdiv b) = a.tdiv b := w64_of (by omega) (by omega)
  have hw2 : w64 (a.tdiv b - 1) = a.tdiv b - 1 := w64_of (by omega) (by omega)
  unfold numFloor numFloor_e0
  rw [hne, hw1, hw2]
  simp only [cond_false]
  refine ⟨fun hp => ?_, fun hn => ?_⟩
  · have hl := Int.tmod_lt_of_pos a hp
    have hl' := Int.lt_tmod_of_pos a hp
    by_cases hr : a.tmod b = 0
    · simp only [hr, bne_self_eq_false, cond_false]
      exact (h0 b hp a _ _ he (by omega) (by omega)).symm
    · have hr' : (a.tmod b != 0) = true := by simpa using hr
      have hbn : decide (b < 0) = false := decide_eq_false (by omega)
      rw [hr', hbn]
      simp only [cond_true]
      by_cases ha : a < 0
      · simp only [ha, decide_true, Bool.bne_false, cond_true]
        refine (h0 b hp a (a.tdiv b - 1) (a.tmod b + b) ?_ (by omega) (by omega)).symm
        rw [Int.mul_sub, Int.mul_one]
        omega
      · simp only [ha, decide_false, bne_self_eq_false, cond_false]
        exact (h0 b hp a _ _ he (hs.1 (by omega)) hl).symm
  · obtain ⟨hl, hl'⟩ := tmod_lt_neg a hn
    have hpn : 0 < -b := by omega
    by_cases hr : a.tmod b = 0
    · simp only [hr, bne_self_eq_false, cond_false]
      refine (h0 (-b) hpn (-a) _ (-(a.tmod b)) ?_ (by omega) (by omega)).symm
      rw [Int.neg_mul]
      omega
    · have hr' : (a.tmod b != 0) = true := by simpa using hr
      have hbn : decide (b < 0) = true := decide_eq_true hn
      rw [hr', hbn]
      simp only [cond_true]
      by_cases ha : a < 0
      · simp only [ha, decide_true, bne_self_eq_false, cond_false]
        refine (h0 (-b) hpn (-a) _ (-(a.tmod b)) ?_ (by have := hs.2 (by omega); omega) (by omega)).symm
        rw [Int.neg_mul]
        omega
      · simp only [ha, decide_false, Bool.bne_true, Bool.not_false, cond_true]
        refine (h0 (-b) hpn (-a) (a.tdiv b - 1) (-(a.tmod b) - b) ?_ (by have := hs.1 (by omega); omega) (by have := hs.1 (by omega); omega)).symm
        rw [Int.mul_sub, Int.neg_mul, Int.mul_one]
        omega
theorem sign_of_tmod {a b : Int} (hr : ¬ a.tmod b = 0) : decide (a.tmod b < 0) = decide (a < 0) := by
  have hs := tmod_sign a b
  by_cases h : a < 0
  · have := hs.2 (by omega)
    rw [decide_eq_true h, decide_eq_true (by omega)]
  · have := hs.1 (by omega)
    rw [decide_eq_false h, decide_eq_false (by omega)]
theorem rFloor_eq (a b : Int) : rFloor a b = numFloor a b := by
  unfold rFloor rFloor_e0 numFloor numFloor_e0
  cases hb : b == 0
  · simp only [cond_false]
    by_cases hr : a.tmod b = 0
    · simp only [hr, bne_self_eq_false, cond_false]
    · rw [sign_of_tmod hr]
  · simp only [cond_true]
def dn (a b : Int) : Int := a / b
def upq (a b : Int) : Int := -((-a) / b)
def rq (a b : Int) (up : Bool) : Int := bif up then upq a b else dn a b
theorem dn_le {a b : Int} (hb : 0 < b) : dn a b * b ≤ a ∧ a < (dn a b + 1) * b := by
  unfold dn
  have h1 := Int.mul_ediv_add_emod a b
  have h2 := Int.emod_nonneg a (Int.ne_of_gt hb)
  have h3 := Int.emod_lt_of_pos a hb
  rw [Int.add_mul, Int.one_mul, Int.mul_comm]
  omega
theorem upq_eq {a b : Int} (hb : 0 < b) : upq a b = if a % b = 0 then a / b else a / b + 1 := by
  have h1 := Int.mul_ediv_add_emod a b
  have h2 := Int.emod_nonneg a (Int.ne_of_gt hb)
  have h3 := Int.emod_lt_of_pos a hb
  unfold upq
  split
  · rename_i h
    have : (-a) / b = -(a / b) := ((Int.ediv_emod_unique (r := 0) hb).2 ⟨by rw [Int.mul_neg]; omega, by omega, hb⟩).1
    omega
  · rename_i h
    have : (-a) / b = -(a / b) - 1 := ((Int.ediv_emod_unique (r := b - a % b) hb).2 ⟨by rw [Int.mul_sub, Int.mul_neg, Int.mul_one]; omega, by omega, by omega⟩).1
    omega
def told (q : Int) : Int × Bool := bif numIn q then (q, true) else (0, false)
theorem tmod_zero_iff (a : Int) (b : Int) : a.tmod b = 0 ↔ a % b = 0 := by
  rw [← Int.dvd_iff_tmod_eq_zero, Int.dvd_iff_emod_eq_zero]
theorem numRounded_pos (a : Int) {b : Int} (hb : 0 < b) (h : -9223372036854775808 < a ∧ a < 9223372036854775807) (up : Bool) : numRounded a b up = told (rq a b up) := by
  have hf := (numFloor_spec a (Int.ne_of_gt hb) (by omega)).1 hb
  have hq : -9223372036854775808 ≤ a / b ∧ a / b < 9223372036854775807 := by
    have h1 := tdiv_abs a (Int.ne_of_gt hb) (by omega)
    have h2 := dn_le (a := a) hb
    unfold dn at h2
    constructor
    · have : -9223372036854775808 * b ≤ a := by
        have : -9223372036854775808 * b ≤ -9223372036854775808 * 1 := Int.mul_le_mul_of_nonpos_left (by omega) (by omega)
        omega
      refine Decidable.byContradiction fun hc => ?_
      have : (a / b + 1) * b ≤ -9223372036854775808 * b := Int.mul_le_mul_of_nonneg_right (by omega) (by omega)
      omega
    · refine Decidable.byContradiction fun hc => ?_
      have : 9223372036854775807 * 1 ≤ a / b * b := Int.mul_le_mul (by omega) (by omega) (by omega) (by omega)
      omega
  unfold numRounded numRounded_e0 rq
  rw [hf]
  have hw : w64 (a / b + 1) = a / b + 1 := w64_of (by omega) (by omega)
  rw [hw]
  cases up
  · rfl
  · simp only [cond_true]
    rw [upq_eq hb]
    by_cases hz : a % b = 0
    · have h1 := (tmod_zero_iff a b).2 hz
      simp only [h1, bne_self_eq_false, cond_false, hz, if_true]
      rfl
    · have h1 : ¬ a.tmod b = 0 := fun e => hz ((tmod_zero_iff a b).1 e)
      have h2 : (a.tmod b != 0) = true := by simpa using h1
      simp only [h2, cond_true, hz, if_false]
      rfl
end Go.Proofs.YtalffjplbhelcaaGreatDoor
namespace Go.Proofs.YtalffjplbhelcaaGreatDoor
theorem mul_bound {a b A B : Int} (ha : -A ≤ a ∧ a ≤ A) (hb : -B ≤ b ∧ b ≤ B) : -(A * B) ≤ a * b ∧ a * b ≤ A * B := by
  have h : (a * b).natAbs ≤ (A * B).natAbs := by
    rw [Int.natAbs_mul, Int.natAbs_mul]
    exact Nat.mul_le_mul (by omega) (by omega)
  have h2 : 0 ≤ A * B := Int.mul_nonneg (by omega) (by omega)
  omega
theorem told_in {q : Int} (h : -1073741824 ≤ q ∧ q ≤ 1073741824) : told q = (q, true) := by
  unfold told
  rw [(numIn_iff q).2 h]; rfl
theorem told_snd (q : Int) : (told q).2 = numIn q := by
  unfold told
  cases numIn q <;> rfl
theorem numRounded_neg (a : Int) {b : Int} (hb : b < 0) (hb' : -9223372036854775808 < b) (h : -9223372036854775808 < a ∧ a ≤ 9223372036854775807) (up : Bool) : numRounded a b up = numRounded (-a) (-b) up := by
  have h1 := (numFloor_spec a (Int.ne_of_lt hb) h).2 hb
  have h2 := (numFloor_spec (-a) (b := -b) (by omega) (by omega)).1 (by omega)
  have h3 : numFloor a b = numFloor (-a) (-b) := by rw [h1, h2]
  have h4 : (a.tmod b != 0) = ((-a).tmod (-b) != 0) := by
    rw [Int.tmod_neg, Int.neg_tmod]
    by_cases hz : a.tmod b = 0
    · rw [hz]; rfl
    · have e1 : (a.tmod b != 0) = true := by simpa using hz
      have e2 : (-(a.tmod b) != 0) = true := by simpa using hz
      rw [e1, e2]
  unfold numRounded numRounded_e0
  rw [h3, h4]
theorem numMul_spec {a b : Int} (ha : -1073741824 ≤ a ∧ a ≤ 1073741824) (hb : -1073741824 ≤ b ∧ b ≤ 1073741824) (up : Bool) : numMul a b up = told (rq (a * b) 65536 up) := by
  have h := mul_bound ha hb
  unfold numMul
  rw [(numIn_iff a).2 ha, (numIn_iff b).2 hb, w64_of (by omega) (by omega), numRounded_pos (a * b) (b := 65536) (by omega) (by omega)]
  rfl
def dq (a b : Int) (up : Bool) : Int := rq (bif decide (b < 0) then -(a * 65536) else a * 65536) (bif decide (b < 0) then -b else b) up
theorem numDiv_spec {a b : Int} (ha : -1073741824 ≤ a ∧ a ≤ 1073741824) (hb : -1073741824 ≤ b ∧ b ≤ 1073741824) (h0 : b ≠ 0) (up : Bool) : numDiv a b up = told (dq a b up) := by
  have h0' : (b == 0) = false := by simpa using h0
  unfold numDiv dq
  rw [(numIn_iff a).2 ha, (numIn_iff b).2 hb, w64_of (by omega) (by omega), h0']
  simp only [cond_true, cond_false]
  by_cases hn : b < 0
  · rw [numRounded_neg _ hn (by omega) (by omega), numRounded_pos (-(a * 65536)) (b := -b) (by omega) (by omega), decide_eq_true hn]
    rfl
  · rw [numRounded_pos (a * 65536) (b := b) (by omega) (by omega), decide_eq_false hn]
    rfl
theorem floor_mul (a : Int) {b : Int} (hb : b ≠ 0) (h : -4611686018427387904 ≤ a ∧ a ≤ 4611686018427387904) (hb' : -4611686018427387904 ≤ b ∧ b ≤ 4611686018427387904) :
    (w64 (numFloor a b * b) != a) = (a.tmod b != 0) := by
  have hs := numFloor_spec a hb (by omega)
  have key : ∀ q r : Int, q * b + r = a → (r = 0 ↔ a.tmod b = 0) → r.natAbs < b.natAbs → numFloor a b = q → (w64 (numFloor a b * b) != a) = (a.tmod b != 0) := by
    intro q r h1 h2 h3 h4
    have e : numFloor a b * b = a - r := by rw [h4]; omega
    rw [e, w64_of (by omega) (by omega)]
    by_cases hr : r = 0
    · rw [h2.1 hr, hr]; simp
    · have h5 : ¬ a.tmod b = 0 := fun e => hr (h2.2 e)
      have e1 : (a.tmod b != 0) = true := by simpa using h5
      rw [e1]
      simp only [bne_iff_ne, ne_eq]
      omega
  by_cases hp : 0 < b
  · have h1 := Int.mul_ediv_add_emod a b
    have h2 := Int.emod_nonneg a (Int.ne_of_gt hp)
    have h3 := Int.emod_lt_of_pos a hp
    exact key (a / b) (a % b) (by rw [Int.mul_comm]; omega) (tmod_zero_iff a b).symm (by omega) (hs.1 hp)
  · have hn : b < 0 := by omega
    have h1 := Int.mul_ediv_add_emod (-a) (-b)
    have h2 := Int.emod_nonneg (-a) (b := -b) (by omega)
    have h3 := Int.emod_lt_of_pos (-a) (b := -b) (by omega)
    refine key ((-a) / (-b)) (-((-a) % (-b))) (by rw [Int.neg_mul] at h1; rw [Int.mul_comm]; omega) ?_ (by omega) (hs.2 hn)
    have h4 := tmod_zero_iff (-a) (-b)
    rw [Int.tmod_neg, Int.neg_tmod] at h4
    omega
theorem rTold_eq (n : Int) : rTold n = told n := rfl
theorem rCeil_eq (a : Int) {b : Int} (hb : b ≠ 0) (h : -4611686018427387904 ≤ a ∧ a ≤ 4611686018427387904) (hb' : -4611686018427387904 ≤ b ∧ b ≤ 4611686018427387904) (up : Bool) : rCeil a b = numRounded_e0 a b up := by
  unfold rCeil rCeil_e0 numRounded_e0
  rw [rFloor_eq, floor_mul a hb h hb']
theorem rounded_told (a b : Int) (up : Bool) : numRounded a b up = told (bif up then numRounded_e0 a b up else numFloor a b) := by
  unfold numRounded told
  cases up <;> rfl
theorem rMul_eq (a b : Int) (up : Bool) : rMul a b up = numMul a b up := by
  unfold rMul numMul
  simp only [rIn_eq]
  cases ha : numIn a
  · rfl
  · cases hb : numIn b
    · rfl
    · have h := mul_bound ((numIn_iff a).1 ha) ((numIn_iff b).1 hb)
      simp only [cond_true, rTold_eq, rFloor_eq, w64_of (n := a * b) (by omega) (by omega), rounded_told]
      rw [rCeil_eq (a * b) (b := 65536) (by omega) (by omega) (by omega) up]
      cases up <;> rfl
theorem rDiv_eq (a b : Int) (up : Bool) : rDiv a b up = numDiv a b up := by
  unfold rDiv numDiv
  simp only [rIn_eq]
  cases ha : numIn a
  · rfl
  · cases hb : numIn b
    · rfl
    · cases h0 : b == 0
      · have ha := (numIn_iff a).1 ha
        have hb := (numIn_iff b).1 hb
        have h0' : b ≠ 0 := by simpa using h0
        simp only [cond_true, cond_false, rTold_eq, rFloor_eq, w64_of (n := a * 65536) (by omega) (by omega), rounded_told]
        rw [rCeil_eq (a * 65536) h0' (by omega) (by omega) up]
        cases up <;> rfl
      · rfl
def IsRoot (n s : Int) : Prop := 0 ≤ s ∧ s * s ≤ n ∧ n < (s + 1) * (s + 1)
theorem isRoot_unique {n s t : Int} (h : IsRoot n s) (k : IsRoot n t) : s = t := by
  obtain ⟨h1, h2, h3⟩ := h
  obtain ⟨k1, k2, k3⟩ := k
  refine Decidable.byContradiction fun hne => ?_
  rcases (by omega : s + 1 ≤ t ∨ t + 1 ≤ s) with h | h
  · have := Int.mul_le_mul h h (by omega) (by omega)
    omega
  · have := Int.mul_le_mul h h (by omega) (by omega)
    omega
theorem orI_add {r : Int} {j : Nat} (h0 : 0 ≤ r) (h1 : r < 4611686018427387904) (hj : j < 62) (hd : (2 : Int) ^ (j + 1) ∣ r) : orI r (2 ^ j) = r + 2 ^ j := by
  obtain ⟨q, rfl⟩ := hd
  have hp : (0 : Int) < 2 ^ (j + 1) := Int.pow_pos (by omega)
  have hq : 0 ≤ q := by
    refine Decidable.byContradiction fun hc => ?_
    have : (2 : Int) ^ (j + 1) * q ≤ 2 ^ (j + 1) * (-1) := Int.mul_le_mul_of_nonneg_left (by omega) (by omega)
    omega
  obtain ⟨k, rfl⟩ := Int.eq_ofNat_of_zero_le hq
  have e1 : ((2 : Int) ^ (j + 1) * (k : Int)) = ((2 ^ (j + 1) * k : Nat) : Int) := by push_cast; rfl
  have e2 : ((2 : Int) ^ j) = ((2 ^ j : Nat) : Int) := by push_cast; rfl
  have hj2 : (2 : Nat) ^ j < 2 ^ 62 := Nat.pow_lt_pow_right (by omega) hj
  have hlt : (2 : Nat) ^ j < 2 ^ (j + 1) := Nat.pow_lt_pow_right (by omega) (by omega)
  rw [e1] at h1
  have h1' : 2 ^ (j + 1) * k < 4611686018427387904 := by omega
  unfold orI
  rw [e1, e2, BitVec.ofInt_natCast, BitVec.ofInt_natCast, BitVec.toNat_or, BitVec.toNat_ofNat, BitVec.toNat_ofNat, Nat.mod_eq_of_lt (by omega), Nat.mod_eq_of_lt (by omega), ← Nat.two_pow_add_eq_or_of_lt hlt]
  rw [w64_of (by omega) (by omega)]
  push_cast
  rfl
theorem pow_min (j : Nat) (hj : j < 64) : w64 (1 * 2 ^ (min (Int.toNat (j : Int)) 64)) = w64 (2 ^ j) := by
  rw [Int.one_mul, Int.toNat_natCast, Nat.min_eq_left (by omega)]
theorem numRootLoop_spec (n : Int) : ∀ (j : Nat) (r : Int), j ≤ 30 → 0 ≤ r → r + 2 ^ j ≤ 2 ^ 30 → (2 : Int) ^ j ∣ r → r * r ≤ n → n < (r + 2 ^ j) * (r + 2 ^ j) → IsRoot n (numRootLoop n j r) := by
  intro j
  induction j with
  | zero =>
    intro r hj h0 h1 hd h2 h3
    show IsRoot n r
    exact ⟨h0, h2, by simpa using h3⟩
  | succ j ih =>
    intro r hj h0 h1 hd h2 h3
    have hp : (0 : Int) < 2 ^ j := Int.pow_pos (by omega)
    have hs : (2 : Int) ^ (j + 1) = 2 ^ j + 2 ^ j := by rw [Int.pow_succ]; omega
    have hd' : (2 : Int) ^ j ∣ r := Int.dvd_trans ⟨2, Int.pow_succ ..⟩ hd
    have hk : (2 : Int) ^ 30 = 1073741824 := by decide
    have e : orI r (w64 (1 * 2 ^ (min (Int.toNat (j : Int)) 64))) = r + 2 ^ j := by
      rw [pow_min j (by omega), w64_of (by omega) (by omega)]
      exact orI_add h0 (by omega) (by omega) hd
    have hm := mul_bound (a := r + 2 ^ j) (b := r + 2 ^ j) (A := 1073741824) (B := 1073741824) (by omega) (by omega)
    rw [numRootLoop, e, w64_of (by omega) (by omega)]
    by_cases hc : (r + 2 ^ j) * (r + 2 ^ j) ≤ n
    · rw [decide_eq_true hc]
      refine ih (r + 2 ^ j) (by omega) (by omega) (by omega) (Int.dvd_add hd' (Int.dvd_refl _)) hc ?_
      rw [Int.add_assoc, ← hs]; exact h3
    · rw [decide_eq_false hc]
      exact ih r (by omega) h0 (by omega) hd' h2 (by omega)
theorem rRootLoop_spec (n : Int) : ∀ (j : Nat) (r : Int), j ≤ 30 → 0 ≤ r → r + 2 ^ j ≤ 2 ^ 30 → r * r ≤ n → n < (r + 2 ^ j) * (r + 2 ^ j) → IsRoot n (rRootLoop n j r) := by
  intro j
  induction j with
  | zero =>
    intro r hj h0 h1 h2 h3
    show IsRoot n r
    exact ⟨h0, h2, by simpa using h3⟩
  | succ j ih =>
    intro r hj h0 h1 h2 h3
    have hp : (0 : Int) < 2 ^ j := Int.pow_pos (by omega)
    have hs : (2 : Int) ^ (j + 1) = 2 ^ j + 2 ^ j := by rw [Int.pow_succ]; omega
    have hk : (2 : Int) ^ 30 = 1073741824 := by decide
    have e0 : IntKind.u64.wrap (j : Int) = (j : Int) := by rw [IntKind.wrap_u64]; omega
    have e : w64 (r + w64 (1 * 2 ^ (min (Int.toNat (IntKind.u64.wrap (j : Int))) 64))) = r + 2 ^ j := by
      rw [e0, pow_min j (by omega), w64_of (n := 2 ^ j) (by omega) (by omega), w64_of (by omega) (by omega)]
    have hm := mul_bound (a := r + 2 ^ j) (b := r + 2 ^ j) (A := 1073741824) (B := 1073741824) (by omega) (by omega)
    rw [rRootLoop, e, w64_of (n := (r + 2 ^ j) * _) (by omega) (by omega)]
    by_cases hc : (r + 2 ^ j) * (r + 2 ^ j) ≤ n
    · rw [decide_eq_true hc]
      refine ih (r + 2 ^ j) (by omega) (by omega) (by omega) hc ?_
      rw [Int.add_assoc, ← hs]; exact h3
    · rw [decide_eq_false hc]
      exact ih r (by omega) h0 (by omega) h2 (by omega)
def rootf (a : Int) : Int := numRootLoop (a * 65536) 25 0
def rootc (a : Int) : Int := if rootf a * rootf a < a * 65536 then rootf a + 1 else rootf a
theorem rootf_is {a : Int} (h0 : 0 ≤ a) (h1 : a ≤ 1073741824) : IsRoot (a * 65536) (rootf a) :=
  numRootLoop_spec _ 25 0 (by omega) (by omega) (by decide) ⟨0, rfl⟩ (by omega) (by
    have : ((0 : Int) + 2 ^ 25) * (0 + 2 ^ 25) = 1125899906842624 := by decide
    omega)
theorem root_lt {n s B : Int} (h : s * s ≤ n) (hn : n < B * B) (hs : 0 ≤ s) (hB : 0 ≤ B) : s < B := by
  refine Decidable.byContradiction fun hc => ?_
  have := Int.mul_le_mul (show B ≤ s by omega) (show B ≤ s by omega) hB hs
  omega
theorem rootf_le {a : Int} (h0 : 0 ≤ a) (h1 : a ≤ 1073741824) : 0 ≤ rootf a ∧ rootf a ≤ 8388608 := by
  obtain ⟨k1, k2, k3⟩ := rootf_is h0 h1
  have := root_lt (B := 8388609) k2 (by omega) k1 (by omega)
  omega
theorem numRoot_spec {a : Int} (h0 : 0 ≤ a) (h1 : a ≤ 1073741824) (up : Bool) : numRoot a up = (bif up then rootc a else rootf a, true) := by
  have hr := rootf_le h0 h1
  have hm := mul_bound (a := rootf a) (b := rootf a) (A := 8388608) (B := 8388608) (by omega) (by omega)
  have e : numRootLoop (a * 65536) 25 0 = rootf a := rfl
  unfold numRoot numRoot_e0
  rw [decide_eq_false (by omega), (numIn_iff a).2 (by omega), w64_of (n := a * 65536) (by omega) (by omega), e, w64_of (n := rootf a * rootf a) (by omega) (by omega), w64_of (n := rootf a + 1) (by omega) (by omega)]
  unfold rootc
  cases up
  · rfl
  · simp only [cond_false, cond_true, Bool.cond_decide]
theorem numRoot_out {a : Int} (h : ¬ (0 ≤ a ∧ a ≤ 1073741824)) (up : Bool) : numRoot a up = (0, false) := by
  unfold numRoot
  by_cases h0 : a < 0
  · rw [decide_eq_true h0]; rfl
  · rw [decide_eq_false h0]
    cases hi : numIn a
    · rfl
    · have := (numIn_iff a).1 hi
      omega
theorem rRoot_eq (a : Int) (up : Bool) : rRoot a up = numRoot a up := by
  by_cases h : 0 ≤ a ∧ a ≤ 1073741824
  · rw [numRoot_spec h.1 h.2]
    have hs : IsRoot (a * 65536) (rRootLoop (a * 65536) 24 0) := rRootLoop_spec _ 24 0 (by omega) (by omega) (by decide) (by omega) (by
      have : ((0 : Int) + 2 ^ 24) * (0 + 2 ^ 24) = 281474976710656 := by decide
      omega)
    have e := isRoot_unique hs (rootf_is h.1 h.2)
    have hr := rootf_le h.1 h.2
    have hm := mul_bound (a := rootf a) (b := rootf a) (A := 8388608) (B := 8388608) (by omega) (by omega)
    unfold rRoot rRoot_e0
    rw [decide_eq_false (by omega), rIn_eq, (numIn_iff a).2 (by omega), w64_of (n := a * 65536) (by omega) (by omega), e, w64_of (n := rootf a * rootf a) (by omega) (by omega), w64_of (n := rootf a + 1) (by omega) (by omega)]
    unfold rootc
    cases up
    · simp only [cond_false, cond_true, rTold_eq]
      rw [told_in (by omega)]
    · simp only [cond_false, cond_true, rTold_eq]
      have h4 := (rootf_is h.1 h.2).2.1
      by_cases hc : rootf a * rootf a = a * 65536
      · rw [hc]
        simp only [bne_self_eq_false, cond_false]
        rw [told_in (by omega), if_neg (by omega)]
      · have : (rootf a * rootf a != a * 65536) = true := by simpa using hc
        rw [this, if_pos (by omega)]
        simp only [cond_true]
        rw [told_in (by omega)]
  · rw [numRoot_out h]
    unfold rRoot
    rw [rIn_eq]
    cases hi : numIn a
    · rfl
    · have := (numIn_iff a).1 hi
      rw [decide_eq_true (by omega)]
      rfl
end Go.Proofs.YtalffjplbhelcaaGreatDoor
namespace Go.Proofs.YtalffjplbhelcaaGreatDoor
theorem rRight_iff (a : Iv) : rRight a = true ↔ a.no = false ∧ -1073741824 ≤ a.lo ∧ a.lo ≤ a.hi ∧ a.hi ≤ 1073741824 := by
  obtain ⟨lo, hi, no⟩ := a
  unfold rRight
  simp only [rIn_eq]
  cases no <;> simp [numIn_iff, Bool.cond_eq_ite, Bool.and_eq_true] <;> omega
end Go.Proofs.YtalffjplbhelcaaGreatDoor
namespace Go.Proofs.YtalffjplbhelcaaGreatDoor
def R (a : Iv) : Prop := a.no = false ∧ -1073741824 ≤ a.lo ∧ a.lo ≤ a.hi ∧ a.hi ≤ 1073741824
theorem ivRight_iff (a : Iv) : ivRight a = true ↔ R a := rRight_iff a
theorem rRight_eq (a : Iv) : rRight a = ivRight a := rfl
theorem rNone_eq : rNone = ivNone := rfl
theorem rOf_eq (l h : Int) : rOf l h = ivOf l h := rfl
theorem rPoint_eq (n : Int) : rPoint n = ivPoint n := rfl
theorem R_mk {l h : Int} (h1 : -1073741824 ≤ l) (h2 : l ≤ h) (h3 : h ≤ 1073741824) : R ⟨l, h, false⟩ := ⟨rfl, h1, h2, h3⟩
theorem ivRight_t {a : Iv} (h : R a) : ivRight a = true := (ivRight_iff a).2 h
theorem ivRight_f {a : Iv} (h : ¬ R a) : ivRight a = false := by
  cases e : ivRight a
  · rfl
  · exact absurd ((ivRight_iff a).1 e) h
theorem R_none : ¬ R ivNone := fun h => by cases h.1
theorem ivOf_in {l h : Int} (k : -1073741824 ≤ l ∧ l ≤ h ∧ h ≤ 1073741824) : ivOf l h = ⟨l, h, false⟩ := by
  unfold ivOf
  rw [ivRight_t (R_mk k.1 k.2.1 k.2.2)]; rfl
theorem ivOf_out {l h : Int} (k : ¬ (-1073741824 ≤ l ∧ l ≤ h ∧ h ≤ 1073741824)) : ivOf l h = ivNone := by
  unfold ivOf
  rw [ivRight_f (fun r => k ⟨r.2.1, r.2.2.1, r.2.2.2⟩)]; rfl
theorem ivBoth_t {a b : Iv} (ha : R a) (hb : R b) : ivBoth a b = true := by
  unfold ivBoth
  rw [ivRight_t ha, ivRight_t hb]; rfl
theorem ivBoth_f {a b : Iv} (h : ¬ (R a ∧ R b)) : ivBoth a b = false := by
  unfold ivBoth
  by_cases ha : R a
  · rw [ivRight_t ha, ivRight_f (fun hb => h ⟨ha, hb⟩)]; rfl
  · rw [ivRight_f ha]; rfl
theorem ivHas_iff (a : Iv) (n : Int) : ivHas a n = true ↔ R a ∧ a.lo ≤ n ∧ n ≤ a.hi := by
  unfold ivHas
  by_cases h : R a
  · rw [ivRight_t h]
    simp only [cond_true, Bool.cond_false_right, Bool.and_eq_true, decide_eq_true_eq]
    exact ⟨fun k => ⟨h, k⟩, fun k => k.2⟩
  · rw [ivRight_f h]
    exact ⟨fun k => (nomatch k), fun k => absurd k.1 h⟩
theorem ivAdd_spec {a b : Iv} (ha : R a) (hb : R b) : ivAdd a b = ivOf (a.lo + b.lo) (a.hi + b.hi) := by
  obtain ⟨_, a1, a2, a3⟩ := ha
  obtain ⟨_, b1, b2, b3⟩ := hb
  unfold ivAdd
  rw [ivBoth_t ⟨‹_›, a1, a2, a3⟩ ⟨‹_›, b1, b2, b3⟩, w64_of (by omega) (by omega), w64_of (by omega) (by omega)]; rfl
theorem ivAdd_out {a b : Iv} (h : ¬ (R a ∧ R b)) : ivAdd a b = ivNone := by
  unfold ivAdd
  rw [ivBoth_f h]; rfl
theorem ivNeg_spec {a : Iv} (ha : R a) : ivNeg a = ⟨-a.hi, -a.lo, false⟩ := by
  have h := ha.2
  unfold ivNeg
  rw [ivRight_t ha, w64_of (by omega) (by omega), w64_of (by omega) (by omega)]
  simp only [cond_true]
  rw [ivOf_in (by omega)]
  congr 1 <;> omega
theorem ivNeg_out {a : Iv} (h : ¬ R a) : ivNeg a = ivNone := by
  unfold ivNeg
  rw [ivRight_f h]; rfl
theorem R_neg {a : Iv} : R (ivNeg a) ↔ R a := by
  by_cases h : R a
  · rw [ivNeg_spec h]
    have := h.2
    exact ⟨fun _ => h, fun _ => R_mk (by omega) (by omega) (by omega)⟩
  · rw [ivNeg_out h]
    exact ⟨fun k => absurd k R_none, fun k => absurd k h⟩
theorem ivSub_spec {a b : Iv} (ha : R a) (hb : R b) : ivSub a b = ivOf (a.lo - b.hi) (a.hi - b.lo) := by
  unfold ivSub
  rw [ivAdd_spec ha (R_neg.2 hb), ivNeg_spec hb]
  rfl
theorem ivSub_out {a b : Iv} (h : ¬ (R a ∧ R b)) : ivSub a b = ivNone := by
  unfold ivSub
  exact ivAdd_out (fun k => h ⟨k.1, R_neg.1 k.2⟩)
theorem dn_mono {a a' b : Int} (hb : 0 < b) (h : a ≤ a') : dn a b ≤ dn a' b := Int.ediv_le_ediv hb h
theorem upq_mono {a a' b : Int} (hb : 0 < b) (h : a ≤ a') : upq a b ≤ upq a' b := by
  have := Int.ediv_le_ediv (a := -a') (b := -a) hb (by omega)
  unfold upq
  omega
theorem dn_le_upq {a b : Int} (hb : 0 < b) : dn a b ≤ upq a b := by
  rw [upq_eq hb]
  unfold dn
  split <;> omega
theorem dn_min {a a' b : Int} (hb : 0 < b) : dn (min a a') b = min (dn a b) (dn a' b) := by
  by_cases h : a ≤ a'
  · have := dn_mono hb h
    rw [Int.min_eq_left h, Int.min_eq_left this]
  · have := dn_mono hb (show a' ≤ a by omega)
    rw [Int.min_eq_right (by omega), Int.min_eq_right this]
theorem upq_max {a a' b : Int} (hb : 0 < b) : upq (max a a') b = max (upq a b) (upq a' b) := by
  by_cases h : a ≤ a'
  · have := upq_mono hb h
    rw [Int.max_eq_right h, Int.max_eq_right this]
  · have := upq_mono hb (show a' ≤ a by omega)
    rw [Int.max_eq_left (by omega), Int.max_eq_left this]
theorem dn_nonneg {a b : Int} (hb : 0 < b) (h : 0 ≤ a) : 0 ≤ dn a b := Int.ediv_nonneg h (by omega)
def far (a : Iv) : Int := max (-a.lo) a.hi
def near (a : Iv) : Int := max (max a.lo (-a.hi)) 0
theorem near_far {a : Iv} (ha : R a) : 0 ≤ near a ∧ near a ≤ far a ∧ far a ≤ 1073741824 := by
  have := ha.2
  unfold near far
  omega
theorem sq_mono {x y : Int} (h0 : 0 ≤ x) (h : x ≤ y) : x * x ≤ y * y := Int.mul_le_mul h h h0 (by omega)
theorem ivSqr_spec {a : Iv} (ha : R a) : ivSqr a = ivOf (dn (near a * near a) 65536) (upq (far a * far a) 65536) := by
  have h := ha.2
  have h0 := near_far ha
  have e1 : w64 (0 - a.lo) = -a.lo := by rw [w64_of (by omega) (by omega)]; omega
  have e2 : w64 (0 - a.hi) = -a.hi := by rw [w64_of (by omega) (by omega)]; omega
  have k1 : far a = max (-a.lo) a.hi := rfl
  have k2 : near a = max (max a.lo (-a.hi)) 0 := rfl
  have hs := sq_mono h0.1 h0.2.1
  unfold ivSqr ivSqr_e0 ivSqr_e1
  rw [e1, e2, ← k1, ← k2, ivRight_t ha, numMul_spec (by omega) (by omega), numMul_spec (by omega) (by omega), rq, rq]
  simp only [cond_true, cond_false]
  have n0 : 0 ≤ near a * near a := Int.mul_nonneg h0.1 h0.1
  have m1 : 0 ≤ dn (near a * near a) 65536 := dn_nonneg (by omega) n0
  have m2 : dn (near a * near a) 65536 ≤ upq (far a * far a) 65536 := Int.le_trans (dn_mono (by omega) hs) (dn_le_upq (by omega))
  by_cases hc : upq (far a * far a) 65536 ≤ 1073741824
  · rw [told_in (by omega), told_in (by omega)]; rfl
  · have : (told (upq (far a * far a) 65536)).2 = false := by
      rw [told_snd]
      cases e : numIn (upq (far a * far a) 65536)
      · rfl
      · have := (numIn_iff _).1 e
        omega
    rw [this, ivOf_out (l := dn (near a * near a) 65536) (h := upq (far a * far a) 65536) (by omega)]; rfl
theorem ivSqr_out {a : Iv} (h : ¬ R a) : ivSqr a = ivNone := by
  unfold ivSqr
  rw [ivRight_f h]; rfl
def ends4 (t1 u1 t2 u2 t3 u3 t4 u4 : Int × Bool) : Iv :=
  let e0 := ivOf t1.1 u1.1
  let e1 := ivOf (min e0.lo t1.1) (max e0.hi u1.1)
  let e2 := ivOf (min e1.lo t2.1) (max e1.hi u2.1)
  let e3 := ivOf (min e2.lo t3.1) (max e2.hi u3.1)
  let e4 := ivOf (min e3.lo t4.1) (max e3.hi u4.1)
  bif t1.2 then bif u1.2 then bif t2.2 then bif u2.2 then bif t3.2 then bif u3.2 then bif t4.2 then bif u4.2 then e4 else ivNone else ivNone else ivNone else ivNone else ivNone else ivNone else ivNone else ivNone
def rends4 (t1 u1 t2 u2 t3 u3 t4 u4 : Int × Bool) : Iv :=
  let e0 := bif decide (t2.1 < t1.1) then t2.1 else t1.1
  let e1 := bif decide (u2.1 > u1.1) then u2.1 else u1.1
  let e2 := bif decide (t3.1 < e0) then t3.1 else e0
  let e3 := bif decide (u3.1 > e1) then u3.1 else e1
  let e4 := bif decide (t4.1 < e2) then t4.1 else e2
  let e5 := bif decide (u4.1 > e3) then u4.1 else e3
  bif t1.2 then bif u1.2 then bif t2.2 then bif u2.2 then bif t3.2 then bif u3.2 then bif t4.2 then bif u4.2 then rOf e4 e5 else rNone else rNone else rNone else rNone else rNone else rNone else rNone else rNone
theorem endsMul_eq (a b : Iv) : endsMul a b = ends4 (numMul a.lo b.lo false) (numMul a.lo b.lo true) (numMul a.lo b.hi false) (numMul a.lo b.hi true) (numMul a.hi b.lo false) (numMul a.hi b.lo true) (numMul a.hi b.hi false) (numMul a.hi b.hi true) := rfl
theorem endsDiv_eq (a b : Iv) : endsDiv a b = ends4 (numDiv a.lo b.lo false) (numDiv a.lo b.lo true) (numDiv a.lo b.hi false) (numDiv a.lo b.hi true) (numDiv a.hi b.lo false) (numDiv a.hi b.lo true) (numDiv a.hi b.hi false) (numDiv a.hi b.hi true) := rfl
theorem numIn_f {q : Int} (h : ¬ (-1073741824 ≤ q ∧ q ≤ 1073741824)) : numIn q = false := by
  cases e : numIn q
  · rfl
  · exact absurd ((numIn_iff q).1 e) h
def min4 (a b c d : Int) : Int := min (min a b) (min c d)
def max4 (a b c d : Int) : Int := max (max a b) (max c d)
theorem ends4_spec {l1 u1 l2 u2 l3 u3 l4 u4 : Int} (h1 : l1 ≤ u1) (h2 : l2 ≤ u2) (h3 : l3 ≤ u3) (h4 : l4 ≤ u4) :
    ends4 (told l1) (told u1) (told l2) (told u2) (told l3) (told u3) (told l4) (told u4) = ivOf (min4 l1 l2 l3 l4) (max4 u1 u2 u3 u4) := by
  unfold ends4
  simp only [told_snd]
  by_cases h : -1073741824 ≤ min4 l1 l2 l3 l4 ∧ max4 u1 u2 u3 u4 ≤ 1073741824
  · unfold min4 max4 at h ⊢
    rw [told_in (q := l1) (by omega), told_in (q := u1) (by omega), told_in (q := l2) (by omega), told_in (q := u2) (by omega), told_in (q := l3) (by omega), told_in (q := u3) (by omega), told_in (q := l4) (by omega), told_in (q := u4) (by omega)]
    rw [(numIn_iff l1).2 (by omega), (numIn_iff u1).2 (by omega), (numIn_iff l2).2 (by omega), (numIn_iff u2).2 (by omega), (numIn_iff l3).2 (by omega), (numIn_iff u3).2 (by omega), (numIn_iff l4).2 (by omega), (numIn_iff u4).2 (by omega)]
    simp only [cond_true]
    rw [ivOf_in (l := l1) (h := u1) (by omega)]
    simp only
    rw [ivOf_in (l := min l1 l1) (by omega)]
    simp only
    rw [ivOf_in (l := min (min l1 l1) l2) (by omega)]
    simp only
    rw [ivOf_in (l := min (min (min l1 l1) l2) l3) (by omega)]
    simp only
    congr 1 <;> omega
  · rw [ivOf_out (l := min4 l1 l2 l3 l4) (h := max4 u1 u2 u3 u4) (fun k => h ⟨k.1, k.2.2⟩)]
    unfold min4 max4 at h
    have k : ∀ (q : Int) (x : Iv), (-1073741824 ≤ q ∧ q ≤ 1073741824 → x = ivNone) → (bif numIn q then x else ivNone) = ivNone := by
      intro q x hx
      by_cases hq : -1073741824 ≤ q ∧ q ≤ 1073741824
      · rw [(numIn_iff q).2 hq, hx hq]; rfl
      · rw [numIn_f hq]; rfl
    exact k _ _ fun a1 => k _ _ fun a2 => k _ _ fun a3 => k _ _ fun a4 => k _ _ fun a5 => k _ _ fun a6 => k _ _ fun a7 => k _ _ fun a8 => by omega
theorem bmin (x y : Int) : (bif decide (x < y) then x else y) = min y x := by
  by_cases h : x < y
  · rw [decide_eq_true h]; simp only [cond_true]; omega
  · rw [decide_eq_false h]; simp only [cond_false]; omega
theorem bmax (x y : Int) : (bif decide (x > y) then x else y) = max y x := by
  by_cases h : x > y
  · rw [decide_eq_true h]; simp only [cond_true]; omega
  · rw [decide_eq_false h]; simp only [cond_false]; omega
theorem rends4_spec {l1 u1 l2 u2 l3 u3 l4 u4 : Int} (h1 : l1 ≤ u1) (h2 : l2 ≤ u2) (h3 : l3 ≤ u3) (h4 : l4 ≤ u4) :
    rends4 (told l1) (told u1) (told l2) (told u2) (told l3) (told u3) (told l4) (told u4) = ivOf (min4 l1 l2 l3 l4) (max4 u1 u2 u3 u4) := by
  unfold rends4
  simp only [told_snd, bmin, bmax, rOf_eq, rNone_eq]
  by_cases h : -1073741824 ≤ min4 l1 l2 l3 l4 ∧ max4 u1 u2 u3 u4 ≤ 1073741824
  · unfold min4 max4 at h ⊢
    rw [told_in (q := l1) (by omega), told_in (q := u1) (by omega), told_in (q := l2) (by omega), told_in (q := u2) (by omega), told_in (q := l3) (by omega), told_in (q := u3) (by omega), told_in (q := l4) (by omega), told_in (q := u4) (by omega)]
    rw [(numIn_iff l1).2 (by omega), (numIn_iff u1).2 (by omega), (numIn_iff l2).2 (by omega), (numIn_iff u2).2 (by omega), (numIn_iff l3).2 (by omega), (numIn_iff u3).2 (by omega), (numIn_iff l4).2 (by omega), (numIn_iff u4).2 (by omega)]
    simp only [cond_true]
    congr 1 <;> omega
  · rw [ivOf_out (l := min4 l1 l2 l3 l4) (h := max4 u1 u2 u3 u4) (fun k => h ⟨k.1, k.2.2⟩)]
    unfold min4 max4 at h
    have k : ∀ (q : Int) (x : Iv), (-1073741824 ≤ q ∧ q ≤ 1073741824 → x = ivNone) → (bif numIn q then x else ivNone) = ivNone := by
      intro q x hx
      by_cases hq : -1073741824 ≤ q ∧ q ≤ 1073741824
      · rw [(numIn_iff q).2 hq, hx hq]; rfl
      · rw [numIn_f hq]; rfl
    exact k _ _ fun a1 => k _ _ fun a2 => k _ _ fun a3 => k _ _ fun a4 => k _ _ fun a5 => k _ _ fun a6 => k _ _ fun a7 => k _ _ fun a8 => by omega
def mn (a b : Iv) : Int := min4 (a.lo * b.lo) (a.lo * b.hi) (a.hi * b.lo) (a.hi * b.hi)
def mx (a b : Iv) : Int := max4 (a.lo * b.lo) (a.lo * b.hi) (a.hi * b.lo) (a.hi * b.hi)
theorem dn_min4 {a b c d n : Int} (hn : 0 < n) : dn (min4 a b c d) n = min4 (dn a n) (dn b n) (dn c n) (dn d n) := by
  unfold min4
  rw [dn_min hn, dn_min hn, dn_min hn]
theorem upq_max4 {a b c d n : Int} (hn : 0 < n) : upq (max4 a b c d) n = max4 (upq a n) (upq b n) (upq c n) (upq d n) := by
  unfold max4
  rw [upq_max hn, upq_max hn, upq_max hn]
theorem ivMul_spec {a b : Iv} (ha : R a) (hb : R b) : ivMul a b = ivOf (dn (mn a b) 65536) (upq (mx a b) 65536) := by
  have h1 := ha.2
  have h2 := hb.2
  unfold ivMul mn mx
  rw [ivBoth_t ha hb, endsMul_eq]
  simp only [cond_true]
  simp (disch := omega) only [numMul_spec]
  simp only [rq, cond_true, cond_false]
  rw [ends4_spec (dn_le_upq (by omega)) (dn_le_upq (by omega)) (dn_le_upq (by omega)) (dn_le_upq (by omega)), dn_min4 (by omega), upq_max4 (by omega)]
theorem ivMul_out {a b : Iv} (h : ¬ (R a ∧ R b)) : ivMul a b = ivNone := by
  unfold ivMul
  rw [ivBoth_f h]; rfl
theorem dq_le {a b : Int} (hb : b ≠ 0) : dq a b false ≤ dq a b true := by
  unfold dq rq
  simp only [cond_true, cond_false]
  by_cases h : b < 0
  · rw [decide_eq_true h]; exact dn_le_upq (by simp only [cond_true]; omega)
  · rw [decide_eq_false h]; exact dn_le_upq (by simp only [cond_false]; omega)
theorem ivDiv_spec {a b : Iv} (ha : R a) (hb : R b) (h0 : ¬ (b.lo ≤ 0 ∧ 0 ≤ b.hi)) : ivDiv a b = ivOf (min4 (dq a.lo b.lo false) (dq a.lo b.hi false) (dq a.hi b.lo false) (dq a.hi b.hi false)) (max4 (dq a.lo b.lo true) (dq a.lo b.hi true) (dq a.hi b.lo true) (dq a.hi b.hi true)) := by
  have h1 := ha.2
  have h2 := hb.2
  have h3 : ivHas b 0 = false := by
    cases e : ivHas b 0
    · rfl
    · have := (ivHas_iff b 0).1 e
      exact absurd this.2 h0
  unfold ivDiv
  rw [ivBoth_t ha hb, h3, endsDiv_eq]
  simp only [cond_true, cond_false]
  simp (disch := omega) only [numDiv_spec]
  rw [ends4_spec (dq_le (by omega)) (dq_le (by omega)) (dq_le (by omega)) (dq_le (by omega))]
theorem ivDiv_out {a b : Iv} (h : ¬ (R a ∧ R b ∧ ¬ (b.lo ≤ 0 ∧ 0 ≤ b.hi))) : ivDiv a b = ivNone := by
  unfold ivDiv
  by_cases k : R a ∧ R b
  · have h3 : ivHas b 0 = true := (ivHas_iff b 0).2 ⟨k.2, Decidable.byContradiction fun e => h ⟨k.1, k.2, e⟩⟩
    rw [ivBoth_t k.1 k.2, h3]; rfl
  · rw [ivBoth_f k]; rfl
end Go.Proofs.YtalffjplbhelcaaGreatDoor
