import Derived.Test.YtalffjplbhelcaaGreatDoorMGlassLess6
import Derived.Test.YtalffjplbhelcaaGreatDoorMGlassLess7
import Derived.Test.YtalffjplbhelcaaGreatDoorMGlassLess11
import Derived.Test.YtalffjplbhelcaaGreatDoorMGlassLess13
import Derived.Test.YtalffjplbhelcaaGreatDoorMGlassLess1
set_option linter.unusedVariables false
set_option linter.unusedSimpArgs false
namespace Go.Proofs.YtalffjplbhelcaaGreatDoor
open Go.RowKit
attribute [local irreducible] AC AR DWalk Step gIndex hPick hWide hIn
def lawGlassLessT_e0 (x : Glass) (a : Int) (b : Int) (m : Int) (n : Int) : Iv := (gIndex x (hWide (w64 (20000 + (hPick a 40000))) (hPick b 900)))
def lawGlassLessT_e1 (x : Glass) (a : Int) (b : Int) (m : Int) (n : Int) : Iv := (hIn (hWide (w64 (20000 + (hPick a 40000))) (hPick b 900)) m n)
def lawGlassLessT_e2 (x : Glass) (a : Int) (b : Int) (m : Int) (n : Int) : Bool := (ivInside (gIndex x (lawGlassLessT_e1 x a b m n)) (lawGlassLessT_e0 x a b m n))
def lawGlassLessT_e3 (x : Glass) (a : Int) (b : Int) (m : Int) (n : Int) : Iv := (gIndex (⟨(⟨#[110]⟩ : ByteArray), (⟨(⟨0, 0⟩ : Dec), (⟨0, 0⟩ : Dec), (⟨0, 0⟩ : Dec)⟩ : D3), (⟨(⟨1, 0⟩ : Dec), (⟨2, 0⟩ : Dec), (⟨3, 0⟩ : Dec)⟩ : D3)⟩ : Glass) (hWide 30000 9))
def lawGlassLessT (x : Glass) (a : Int) (b : Int) (m : Int) (n : Int) : Bool := (bif ivRight (lawGlassLessT_e0 x a b m n) then (bif lawGlassLessT_e2 x a b m n then decide ((lawGlassLessT_e3 x a b m n) = (rWhole 1)) else false) else decide ((lawGlassLessT_e3 x a b m n) = (rWhole 1)))
set_option maxRecDepth 100000 in
set_option maxHeartbeats 4000000 in
theorem c_lawGlassLessT (x : Glass) (a : Int) (b : Int) (m : Int) (n : Int) (tP : Nat) (gx : Nat) {E : Env} {c : Code} (hc : Tryz.f8.body.bind (tailOf 3) = some c) (q2 : E 2 = .int .i64 a) (q3 : E 3 = .int .i64 b) (q4 : E 4 = .int .i64 m) (q5 : E 5 = .int .i64 n) (q14 : E 14 = .pointer (some ⟨gx, 0, none⟩)) (H : (lawGlassLessT x a b m n) = true) : AC Tryz.prog 66 c (Fin Tryz.prog Tryz.f8 66 (.bool true)) E [⟨gx, (Glass.cells x), 29, false⟩, powBox tP] := by
 rw [show Tryz.f8.body.bind (tailOf 3) = some _ from rfl] at hc
 cases hc
 obtain ⟨E0, rfl⟩ : ∃ E0 : Env, E = (((((E0.put (some 2) (.int .i64 a)).put (some 3) (.int .i64 b)).put (some 4) (.int .i64 m)).put (some 5) (.int .i64 n)).put (some 14) (.pointer (some ⟨gx, 0, none⟩))) := ⟨E, by rw [put_self q2, put_self q3, put_self q4, put_self q5, put_self q14]⟩
 refine aQ (aL (aM 28 (.int .i64 a) rfl rfl (aC 29 (c_hPick a 40000 (by decide)) Tryz.func10 ⟨rfl, by decide⟩ rfl rfl (aB 30 (.int .i64 (w64 (20000 + (hPick a 40000)))) rfl rfl rfl (bi_add rfl) (aM 31 (.int .i64 b) rfl rfl (aC 32 (c_hPick b 900 (by decide)) Tryz.func10 ⟨rfl, by decide⟩ rfl rfl (aC 33 (c_hWide (w64 (20000 + (hPick a 40000))) (hPick b 900)) Tryz.func12 ⟨rfl, by decide⟩ rfl rfl (ao 15 rfl rfl (st_new zero32 rfl fun g0 => ?_)))))))))
 refine aS [.int .i64 ((hWide (w64 (20000 + (hPick a 40000))) (hPick b 900)).lo), .int .i64 ((hWide (w64 (20000 + (hPick a 40000))) (hPick b 900)).hi), .bool ((hWide (w64 (20000 + (hPick a 40000))) (hPick b 900)).no)] agg32 0 rfl rfl rfl rfl rfl rfl (aN (aQ (aL (aG 34 (Glass.cells x) agg29 1 rfl rfl rfl rfl rfl (aG 35 [.int .i64 ((hWide (w64 (20000 + (hPick a 40000))) (hPick b 900)).lo), .int .i64 ((hWide (w64 (20000 + (hPick a 40000))) (hPick b 900)).hi), .bool ((hWide (w64 (20000 + (hPick a 40000))) (hPick b 900)).no)] agg32 0 rfl rfl rfl rfl rfl (aC 36 (c_gIndex x (hWide (w64 (20000 + (hPick a 40000))) (hPick b 900))) Tryz.func14 ⟨rfl, by decide⟩ rfl rfl ?_))))))
 refine ao 16 rfl rfl (st_new zero32 rfl fun g1 => (aS [.int .i64 ((lawGlassLessT_e0 x a b m n).lo), .int .i64 ((lawGlassLessT_e0 x a b m n).hi), .bool ((lawGlassLessT_e0 x a b m n).no)] agg32 0 rfl rfl rfl rfl rfl rfl (aN (aQ ?_))))
 refine ac_draw1 (id := 5) [0, 1, 2, 3, 4, 5] [7] 6 17 32 _ _ (by kernel_rfl) follows rfl zero32 ⟨_, rfl, rfl, rfl, rfl⟩ (dw_op (d := some 37) _ rfl rfl rfl (st_lda (vs := (Glass.cells x)) agg29 2 rfl rfl rfl rfl rfl rfl ⟨rfl, rfl⟩) (dw_op (d := some 38) _ rfl rfl rfl (st_lda (vs := [.int .i64 ((hWide (w64 (20000 + (hPick a 40000))) (hPick b 900)).lo), .int .i64 ((hWide (w64 (20000 + (hPick a 40000))) (hPick b 900)).hi), .bool ((hWide (w64 (20000 + (hPick a 40000))) (hPick b 900)).no)]) agg32 1 rfl rfl rfl rfl rfl rfl ⟨rfl, rfl⟩) (dw_op (d := some 39) _ rfl rfl rfl (st_move (v := .int .i64 m) rfl rfl ⟨rfl, rfl⟩) ?_)))
 refine dw_op (d := some 40) _ rfl rfl rfl (st_move (v := .int .i64 n) rfl rfl ⟨rfl, rfl⟩) (dw_op (d := some 41) _ rfl rfl rfl (st_cf (c_hIn (hWide (w64 (20000 + (hPick a 40000))) (hPick b 900)) m n) Tryz.func44 rfl (by decide) rfl rfl rfl ⟨rfl, rfl⟩) (dw_op (d := some 42) _ rfl rfl rfl (st_cf (c_gIndex x (lawGlassLessT_e1 x a b m n)) Tryz.func14 rfl (by decide) rfl rfl rfl ⟨rfl, rfl⟩) (dw_nil ?_)))
 intro g2
 refine aS [.int .i64 ((gIndex x (lawGlassLessT_e1 x a b m n)).lo), .int .i64 ((gIndex x (lawGlassLessT_e1 x a b m n)).hi), .bool ((gIndex x (lawGlassLessT_e1 x a b m n)).no)] agg32 0 rfl rfl rfl rfl rfl rfl (aN (aQ (aL (ao 43 rfl rfl (st_bd (us := [(0, .int .i64 1)]) (v := .agg #[.int .i64 1, .int .i64 0]) rfl rfl (bd26_0 _) (ao 44 rfl rfl (st_bd (us := [(0, .int .i64 2)]) (v := .agg #[.int .i64 2, .int .i64 0]) rfl rfl (bd26_0 _) (ao 45 rfl rfl (st_bd (us := [(0, .int .i64 3)]) (v := .agg #[.int .i64 3, .int .i64 0]) rfl rfl (bd26_0 _) ?_)))))))))
 refine ao 46 rfl rfl (st_bd (us := [(0, .agg #[.int .i64 1, .int .i64 0]), (1, .agg #[.int .i64 2, .int .i64 0]), (2, .agg #[.int .i64 3, .int .i64 0])]) (v := .agg #[.int .i64 1, .int .i64 0, .int .i64 2, .int .i64 0, .int .i64 3, .int .i64 0]) rfl rfl (bd27_0a_1a_2a _ _ _ _ _ _) (ao 47 rfl rfl (st_bd (us := [(0, .string (⟨#[110]⟩ : ByteArray)), (2, .agg #[.int .i64 1, .int .i64 0, .int .i64 2, .int .i64 0, .int .i64 3, .int .i64 0])]) (v := .agg #[.string (⟨#[110]⟩ : ByteArray), .int .i64 0, .int .i64 0, .int .i64 0, .int .i64 0, .int .i64 0, .int .i64 0, .int .i64 1, .int .i64 0, .int .i64 2, .int .i64 0, .int .i64 3, .int .i64 0]) rfl rfl (bd29_0_2a _ _ _ _ _ _ _) ?_)))
 refine ao 18 rfl rfl (st_new zero29 rfl fun g3 => (aS [.string (⟨#[110]⟩ : ByteArray), .int .i64 0, .int .i64 0, .int .i64 0, .int .i64 0, .int .i64 0, .int .i64 0, .int .i64 1, .int .i64 0, .int .i64 2, .int .i64 0, .int .i64 3, .int .i64 0] agg29 0 rfl rfl rfl rfl rfl rfl (aN (aQ ?_))))
 refine ac_draw0 (id := 7) [0, 1, 2, 3, 4, 5, 6, 7, 8, 9, 10, 11, 12, 13, 14, 15, 16, 17, 18] [] _ (by kernel_rfl) follows rfl  (dw_op (d := some 48) _ rfl rfl rfl (st_gr (R := [powBox tP]) (r := .bool true) (c_known11 tP) Tryz.func13 rfl (by decide) rfl rfl rfl (has_cons 5 _ rfl rfl rfl rfl has_nil) (by simp) ⟨rfl, rfl⟩) (dw_op (d := some 49) _ rfl rfl rfl (st_move (v := .bool true) rfl rfl ⟨rfl, rfl⟩) ?_))
 refine dw_gd (d := (some 50)) (.agg #[.int .i64 ((lawGlassLessT_e0 x a b m n).lo), .int .i64 ((lawGlassLessT_e0 x a b m n).hi), .bool ((lawGlassLessT_e0 x a b m n).no)]) rfl rfl rfl (st_lda (vs := [.int .i64 ((lawGlassLessT_e0 x a b m n).lo), .int .i64 ((lawGlassLessT_e0 x a b m n).hi), .bool ((lawGlassLessT_e0 x a b m n).no)]) agg32 2 rfl rfl rfl rfl rfl rfl ⟨rfl, rfl⟩) (dw_gd (d := (some 51)) (.bool (ivRight (lawGlassLessT_e0 x a b m n))) rfl rfl rfl (st_cf (c_ivRight (lawGlassLessT_e0 x a b m n)) Tryz.func24 rfl (by decide) rfl rfl rfl ⟨rfl, rfl⟩) ?_)
 refine dw_gd (d := (some 52)) (.bool (!(ivRight (lawGlassLessT_e0 x a b m n)))) rfl rfl rfl (st_un (v := .bool (!(ivRight (lawGlassLessT_e0 x a b m n)))) rfl rfl (un_not rfl) ⟨rfl, rfl⟩) (dw_gd (d := (some 53)) (.bool (!(ivRight (lawGlassLessT_e0 x a b m n)))) rfl rfl rfl (st_move (v := .bool (!(ivRight (lawGlassLessT_e0 x a b m n)))) rfl rfl ⟨rfl, rfl⟩) ?_)
 refine bool_split (ivRight (lawGlassLessT_e0 x a b m n)) (fun h1 => ?_) (fun h1 => ?_)
 ·refine dw_gd (d := (some 54)) (.agg #[.int .i64 ((gIndex x (lawGlassLessT_e1 x a b m n)).lo), .int .i64 ((gIndex x (lawGlassLessT_e1 x a b m n)).hi), .bool ((gIndex x (lawGlassLessT_e1 x a b m n)).no)]) rfl (by show ((!(ivRight (lawGlassLessT_e0 x a b m n))) == false) = true; rw [h1]; rfl) rfl (st_lda (vs := [.int .i64 ((gIndex x (lawGlassLessT_e1 x a b m n)).lo), .int .i64 ((gIndex x (lawGlassLessT_e1 x a b m n)).hi), .bool ((gIndex x (lawGlassLessT_e1 x a b m n)).no)]) agg32 1 rfl rfl rfl rfl rfl rfl ⟨rfl, rfl⟩) ?_
  refine dw_gd (d := (some 55)) (.agg #[.int .i64 ((lawGlassLessT_e0 x a b m n).lo), .int .i64 ((lawGlassLessT_e0 x a b m n).hi), .bool ((lawGlassLessT_e0 x a b m n).no)]) rfl (by show ((!(ivRight (lawGlassLessT_e0 x a b m n))) == false) = true; rw [h1]; rfl) rfl (st_lda (vs := [.int .i64 ((lawGlassLessT_e0 x a b m n).lo), .int .i64 ((lawGlassLessT_e0 x a b m n).hi), .bool ((lawGlassLessT_e0 x a b m n).no)]) agg32 2 rfl rfl rfl rfl rfl rfl ⟨rfl, rfl⟩) ?_
  refine dw_gd (d := (some 56)) (.bool (lawGlassLessT_e2 x a b m n)) rfl (by show ((!(ivRight (lawGlassLessT_e0 x a b m n))) == false) = true; rw [h1]; rfl) rfl (st_cf (c_ivInside (gIndex x (lawGlassLessT_e1 x a b m n)) (lawGlassLessT_e0 x a b m n)) Tryz.func45 rfl (by decide) rfl rfl rfl ⟨rfl, rfl⟩) (dw_gd (d := (some 57)) (.bool (lawGlassLessT_e2 x a b m n)) rfl rfl rfl (st_pkf' (b := !(ivRight (lawGlassLessT_e0 x a b m n))) (v := .bool (lawGlassLessT_e2 x a b m n)) (by rw [h1]; rfl) rfl rfl rfl ⟨rfl, rfl⟩) (dw_op (d := some 58) _ rfl rfl rfl (st_pkt (v := .bool (lawGlassLessT_e2 x a b m n)) rfl rfl rfl ⟨rfl, rfl⟩) ?_))
  refine dw_op (d := some 59) _ rfl rfl rfl (st_move (v := .bool (lawGlassLessT_e2 x a b m n)) rfl rfl ⟨rfl, rfl⟩) (bool_split (lawGlassLessT_e2 x a b m n) (fun h2 => ?_) (fun h2 => nomatch (show false = true from (show (lawGlassLessT x a b m n) = _ from (eT h1 (eF h2 rfl))).symm.trans H)))
  refine dw_gd (d := (some 60)) (.agg #[.string (⟨#[110]⟩ : ByteArray), .int .i64 0, .int .i64 0, .int .i64 0, .int .i64 0, .int .i64 0, .int .i64 0, .int .i64 1, .int .i64 0, .int .i64 2, .int .i64 0, .int .i64 3, .int .i64 0]) rfl (by show ((lawGlassLessT_e2 x a b m n) == true) = true; rw [h2]; rfl) rfl (st_lda (vs := [.string (⟨#[110]⟩ : ByteArray), .int .i64 0, .int .i64 0, .int .i64 0, .int .i64 0, .int .i64 0, .int .i64 0, .int .i64 1, .int .i64 0, .int .i64 2, .int .i64 0, .int .i64 3, .int .i64 0]) agg29 0 rfl rfl rfl rfl rfl rfl ⟨rfl, rfl⟩) ?_
  refine dw_gd (d := (some 61)) (.agg #[.int .i64 ((hWide 30000 9).lo), .int .i64 ((hWide 30000 9).hi), .bool ((hWide 30000 9).no)]) rfl (by show ((lawGlassLessT_e2 x a b m n) == true) = true; rw [h2]; rfl) rfl (st_cf (c_hWide 30000 9) Tryz.func12 rfl (by decide) rfl rfl rfl ⟨rfl, rfl⟩) ?_
  refine dw_gd (d := (some 62)) (.agg #[.int .i64 ((lawGlassLessT_e3 x a b m n).lo), .int .i64 ((lawGlassLessT_e3 x a b m n).hi), .bool ((lawGlassLessT_e3 x a b m n).no)]) rfl (by show ((lawGlassLessT_e2 x a b m n) == true) = true; rw [h2]; rfl) rfl (st_cf (c_gIndex (⟨(⟨#[110]⟩ : ByteArray), (⟨(⟨0, 0⟩ : Dec), (⟨0, 0⟩ : Dec), (⟨0, 0⟩ : Dec)⟩ : D3), (⟨(⟨1, 0⟩ : Dec), (⟨2, 0⟩ : Dec), (⟨3, 0⟩ : Dec)⟩ : D3)⟩ : Glass) (hWide 30000 9)) Tryz.func14 rfl (by decide) rfl rfl rfl ⟨rfl, rfl⟩) ?_
  refine dw_gd (d := (some 63)) (.agg #[.int .i64 ((rWhole 1).lo), .int .i64 ((rWhole 1).hi), .bool ((rWhole 1).no)]) rfl (by show ((lawGlassLessT_e2 x a b m n) == true) = true; rw [h2]; rfl) rfl (st_cf (c_rWhole 1) Tryz.func46 rfl (by decide) rfl rfl rfl ⟨rfl, rfl⟩) (dw_gd (d := (some 64)) (.bool (decide ((lawGlassLessT_e3 x a b m n) = (rWhole 1)))) rfl (by show ((lawGlassLessT_e2 x a b m n) == true) = true; rw [h2]; rfl) rfl (st_bi (r := .bool (decide ((lawGlassLessT_e3 x a b m n) = (rWhole 1)))) rfl rfl rfl (beql_32 (lawGlassLessT_e3 x a b m n) (rWhole 1) rfl) ⟨rfl, rfl⟩) ?_)
  refine dw_op (d := some 65) _ rfl rfl rfl (st_pkt' (b := lawGlassLessT_e2 x a b m n) (v := .bool (decide ((lawGlassLessT_e3 x a b m n) = (rWhole 1)))) h2 rfl rfl rfl ⟨rfl, rfl⟩) (dw_op (d := some 12) _ rfl rfl rfl (st_assign (v := .bool (decide ((lawGlassLessT_e3 x a b m n) = (rWhole 1)))) rfl rfl ⟨rfl, rfl⟩) (dw_nil (aN (ac_ret (fin_eq (v := .bool (decide ((lawGlassLessT_e3 x a b m n) = (rWhole 1)))) (congrArg Value.bool (show (decide ((lawGlassLessT_e3 x a b m n) = (rWhole 1))) = true from (show (lawGlassLessT x a b m n) = _ from (eT h1 (eT h2 rfl))).symm.trans H)) (fin_ret (res_tmp rfl rfl)))))))
 ·refine dw_sk (d := (some 54)) rfl (by show ((!(ivRight (lawGlassLessT_e0 x a b m n))) == false) = false; rw [h1]; rfl) rfl (dw_sk (d := (some 55)) rfl (by show ((!(ivRight (lawGlassLessT_e0 x a b m n))) == false) = false; rw [h1]; rfl) rfl (dw_sk (d := (some 56)) rfl (by show ((!(ivRight (lawGlassLessT_e0 x a b m n))) == false) = false; rw [h1]; rfl) rfl (dw_gd (d := (some 57)) (.bool true) rfl rfl rfl (st_pkt' (b := !(ivRight (lawGlassLessT_e0 x a b m n))) (v := .bool true) (by rw [h1]; rfl) rfl rfl rfl ⟨rfl, rfl⟩) (dw_op (d := some 58) _ rfl rfl rfl (st_pkt (v := .bool true) rfl rfl rfl ⟨rfl, rfl⟩) ?_))))
  refine dw_op (d := some 59) _ rfl rfl rfl (st_move (v := .bool true) rfl rfl ⟨rfl, rfl⟩) (dw_gd (d := (some 60)) (.agg #[.string (⟨#[110]⟩ : ByteArray), .int .i64 0, .int .i64 0, .int .i64 0, .int .i64 0, .int .i64 0, .int .i64 0, .int .i64 1, .int .i64 0, .int .i64 2, .int .i64 0, .int .i64 3, .int .i64 0]) rfl rfl rfl (st_lda (vs := [.string (⟨#[110]⟩ : ByteArray), .int .i64 0, .int .i64 0, .int .i64 0, .int .i64 0, .int .i64 0, .int .i64 0, .int .i64 1, .int .i64 0, .int .i64 2, .int .i64 0, .int .i64 3, .int .i64 0]) agg29 0 rfl rfl rfl rfl rfl rfl ⟨rfl, rfl⟩) ?_)
  refine dw_gd (d := (some 61)) (.agg #[.int .i64 ((hWide 30000 9).lo), .int .i64 ((hWide 30000 9).hi), .bool ((hWide 30000 9).no)]) rfl rfl rfl (st_cf (c_hWide 30000 9) Tryz.func12 rfl (by decide) rfl rfl rfl ⟨rfl, rfl⟩) (dw_gd (d := (some 62)) (.agg #[.int .i64 ((lawGlassLessT_e3 x a b m n).lo), .int .i64 ((lawGlassLessT_e3 x a b m n).hi), .bool ((lawGlassLessT_e3 x a b m n).no)]) rfl rfl rfl (st_cf (c_gIndex (⟨(⟨#[110]⟩ : ByteArray), (⟨(⟨0, 0⟩ : Dec), (⟨0, 0⟩ : Dec), (⟨0, 0⟩ : Dec)⟩ : D3), (⟨(⟨1, 0⟩ : Dec), (⟨2, 0⟩ : Dec), (⟨3, 0⟩ : Dec)⟩ : D3)⟩ : Glass) (hWide 30000 9)) Tryz.func14 rfl (by decide) rfl rfl rfl ⟨rfl, rfl⟩) ?_)
  refine dw_gd (d := (some 63)) (.agg #[.int .i64 ((rWhole 1).lo), .int .i64 ((rWhole 1).hi), .bool ((rWhole 1).no)]) rfl rfl rfl (st_cf (c_rWhole 1) Tryz.func46 rfl (by decide) rfl rfl rfl ⟨rfl, rfl⟩) (dw_gd (d := (some 64)) (.bool (decide ((lawGlassLessT_e3 x a b m n) = (rWhole 1)))) rfl rfl rfl (st_bi (r := .bool (decide ((lawGlassLessT_e3 x a b m n) = (rWhole 1)))) rfl rfl rfl (beql_32 (lawGlassLessT_e3 x a b m n) (rWhole 1) rfl) ⟨rfl, rfl⟩) (dw_op (d := some 65) _ rfl rfl rfl (st_pkt (v := .bool (decide ((lawGlassLessT_e3 x a b m n) = (rWhole 1)))) rfl rfl rfl ⟨rfl, rfl⟩) ?_))
  refine dw_op (d := some 12) _ rfl rfl rfl (st_assign (v := .bool (decide ((lawGlassLessT_e3 x a b m n) = (rWhole 1)))) rfl rfl ⟨rfl, rfl⟩) (dw_nil (aN (ac_ret (fin_eq (v := .bool (decide ((lawGlassLessT_e3 x a b m n) = (rWhole 1)))) (congrArg Value.bool (show (decide ((lawGlassLessT_e3 x a b m n) = (rWhole 1))) = true from (show (lawGlassLessT x a b m n) = _ from (eF h1 rfl)).symm.trans H)) (fin_ret (res_tmp rfl rfl))))))
set_option maxRecDepth 100000 in
set_option maxHeartbeats 2000000 in
theorem c_lawGlassLess (a1 : Option Addr) (N cap j tP : Nat) (x1 : Nat → Int) (L : List Glass) (NA : List Box) (which : Int) (a : Int) (b : Int) (m : Int) (n : Int) (ha : ArgI a1 N x1 NA) (hL : hGl N x1 = L) (h2 : 2 ≤ L.length) (hj : hPick which (L.length : Int) = (j : Int)) (hjl : j < L.length) (hro : (NA.all fun b => b.ro) = true) (H : (lawGlassLessT (gAt L j) a b m n) = true) : Gives Tryz.prog 8 #[.slice a1 N cap, .int .i64 which, .int .i64 a, .int .i64 b, .int .i64 m, .int .i64 n] (powBox tP :: NA) (fun u N => u = .bool true ∧ N = []) := by
 refine gives_fin Tryz.func8 rfl rfl rfl (by rw [List.all_cons, hro]; rfl) (AC.mono ?_ (fun e E H h => fing_v h rfl))
 refine aQ (aL (aA 12 (.bool false) rfl rfl (aN (aQ (aL (aM 19 (.slice a1 N cap) rfl rfl (ao 20 rfl rfl (st_ownT fun hnd => st_gv (vs := [.slice a1 N cap]) (R := NA) (c_glassesL ha hL) Tryz.func9 rfl (by decide) rfl rfl rfl (has_tl (has_self _)) (nd_tl hnd) fun v9 N9 R9 => ?_))))))))
 obtain ⟨gG, ca, rest, rfl, rfl, hca⟩ := gl_open h2 R9
 refine aA 13 (.slice (some ⟨gG, 0, none⟩) L.length ca) rfl rfl (aN (aQ (aL (aM 21 (.slice (some ⟨gG, 0, none⟩) L.length ca) rfl rfl (aM 22 (.int .i64 which) rfl rfl (aM 23 (.slice (some ⟨gG, 0, none⟩) L.length ca) rfl rfl (ao 24 rfl rfl (st_ln (a := some ⟨gG, 0, none⟩) (m := L.length) (c := ca) rfl Tryz.underlying23 rfl (aC 25 (c_pickL (by omega) hj) Tryz.func10 ⟨rfl, by decide⟩ rfl rfl (ao 26 rfl rfl (st_sa (g := gG) (off := 0) (m := L.length) (c := ca) (s := 13) (i := j) rfl Tryz.underlying23 (by kernel_rfl) rfl rfl hjl ?_)))))))))))
 refine aG 27 [.string ((gAt L j).name), .int .i64 ((((gAt L j).b).d0).c), .int .i64 ((((gAt L j).b).d0).scale), .int .i64 ((((gAt L j).b).d1).c), .int .i64 ((((gAt L j).b).d1).scale), .int .i64 ((((gAt L j).b).d2).c), .int .i64 ((((gAt L j).b).d2).scale), .int .i64 ((((gAt L j).c).d0).c), .int .i64 ((((gAt L j).c).d0).scale), .int .i64 ((((gAt L j).c).d1).c), .int .i64 ((((gAt L j).c).d1).scale), .int .i64 ((((gAt L j).c).d2).c), .int .i64 ((((gAt L j).c).d2).scale)] agg29 0 rfl rfl rfl rfl (flatG_drop L rest j hjl) (ao 14 rfl rfl (st_new zero29 rfl fun g0 => ?_))
 refine aS [.string ((gAt L j).name), .int .i64 ((((gAt L j).b).d0).c), .int .i64 ((((gAt L j).b).d0).scale), .int .i64 ((((gAt L j).b).d1).c), .int .i64 ((((gAt L j).b).d1).scale), .int .i64 ((((gAt L j).b).d2).c), .int .i64 ((((gAt L j).b).d2).scale), .int .i64 ((((gAt L j).c).d0).c), .int .i64 ((((gAt L j).c).d0).scale), .int .i64 ((((gAt L j).c).d1).c), .int .i64 ((((gAt L j).c).d1).scale), .int .i64 ((((gAt L j).c).d2).c), .int .i64 ((((gAt L j).c).d2).scale)] agg29 0 rfl rfl rfl rfl rfl rfl (aN ?_)
 exact ac_drop (List.Sublist.cons_cons _ (List.Sublist.cons _ (List.Sublist.cons_cons _ (List.nil_sublist _)))) (c_lawGlassLessT (gAt L j) a b m n tP g0 rfl rfl rfl rfl rfl rfl H)
end Go.Proofs.YtalffjplbhelcaaGreatDoor
namespace Go.Proofs.YtalffjplbhelcaaGreatDoor
theorem mul_bound {a b A B : Int} (ha : -A ≤ a ∧ a ≤ A) (hb : -B ≤ b ∧ b ≤ B) : -(A * B) ≤ a * b ∧ a * b ≤ A * B := by
  have h : (a * b).natAbs ≤ (A * B).natAbs := by
    rw [Int.natAbs_mul, Int.natAbs_mul]
    exact Nat.mul_le_mul (by omega) (by omega)
  have h2 : 0 ≤ A * B := Int.mul_nonneg (by omega) (by omega)
  omega
theorem told_in {q : Int} (h : -1073741824 ≤ q ∧ q ≤ 1073741824) : told q = (q, true) := by
  unfold told
  rw [(numIn_iff q).2 h]; rfl
theorem told_snd (q : Int) : (told q).2 = numIn q := by
  unfold told
  cases numIn q <;> rfl
theorem numRounded_neg (a : Int) {b : Int} (hb : b < 0) (hb' : -9223372036854775808 < b) (h : -9223372036854775808 < a ∧ a ≤ 9223372036854775807) (up : Bool) : numRounded a b up = numRounded (-a) (-b) up := by
  have h1 := (numFloor_spec a (Int.ne_of_lt hb) h).2 hb
  have h2 := (numFloor_spec (-a) (b := -b) (by omega) (by omega)).1 (by omega)
  have h3 : numFloor a b = numFloor (-a) (-b) := by rw [h1, h2]
  have h4 : (a.tmod b != 0) = ((-a).tmod (-b) != 0) := by
    rw [Int.tmod_neg, Int.neg_tmod]
    by_cases hz : a.tmod b = 0
    · rw [hz]; rfl
    · have e1 : (a.tmod b != 0) = true := by simpa using hz
      have e2 : (-(a.tmod b) != 0) = true := by simpa using hz
      rw [e1, e2]
  unfold numRounded numRounded_e0
  rw [h3, h4]
theorem numMul_spec {a b : Int} (ha : -1073741824 ≤ a ∧ a ≤ 1073741824) (hb : -1073741824 ≤ b ∧ b ≤ 1073741824) (up : Bool) : numMul a b up = told (rq (a * b) 65536 up) := by
  have h := mul_bound ha hb
  unfold numMul
  rw [(numIn_iff a).2 ha, (numIn_iff b).2 hb, w64_of (by omega) (by omega), numRounded_pos (a * b) (b := 65536) (by omega) (by omega)]
  rfl
def dq (a b : Int) (up : Bool) : Int := rq (bif decide (b < 0) then -(a * 65536) else a * 65536) (bif decide (b < 0) then -b else b) up
theorem numDiv_spec {a b : Int} (ha : -1073741824 ≤ a ∧ a ≤ 1073741824) (hb : -1073741824 ≤ b ∧ b ≤ 1073741824) (h0 : b ≠ 0) (up : Bool) : numDiv a b up = told (dq a b up) := by
  have h0' : (b == 0) = false := by simpa using h0
  unfold numDiv dq
  rw [(numIn_iff a).2 ha, (numIn_iff b).2 hb, w64_of (by omega) (by omega), h0']
  simp only [cond_true, cond_false]
  by_cases hn : b < 0
  · rw [numRounded_neg _ hn (by omega) (by omega), numRounded_pos (-(a * 65536)) (b := -b) (by omega) (by omega), decide_eq_true hn]
    rfl
  · rw [numRounded_pos (a * 65536) (b := b) (by omega) (by omega), decide_eq_false hn]
    rfl
def IsRoot (n s : Int) : Prop := 0 ≤ s ∧ s * s ≤ n ∧ n < (s + 1) * (s + 1)
theorem orI_add {r : Int} {j : Nat} (h0 : 0 ≤ r) (h1 : r < 4611686018427387904) (hj : j < 62) (hd : (2 : Int) ^ (j + 1) ∣ r) : orI r (2 ^ j) = r + 2 ^ j := by
  obtain ⟨q, rfl⟩ := hd
  have hp : (0 : Int) < 2 ^ (j + 1) := Int.pow_pos (by omega)
  have hq : 0 ≤ q := by
    refine Decidable.byContradiction fun hc => ?_
    have : (2 : Int) ^ (j + 1) * q ≤ 2 ^ (j + 1) * (-1) := Int.mul_le_mul_of_nonneg_left (by omega) (by omega)
    omega
  obtain ⟨k, rfl⟩ := Int.eq_ofNat_of_zero_le hq
  have e1 : ((2 : Int) ^ (j + 1) * (k : Int)) = ((2 ^ (j + 1) * k : Nat) : Int) := by push_cast; rfl
  have e2 : ((2 : Int) ^ j) = ((2 ^ j : Nat) : Int) := by push_cast; rfl
  have hj2 : (2 : Nat) ^ j < 2 ^ 62 := Nat.pow_lt_pow_right (by omega) hj
  have hlt : (2 : Nat) ^ j < 2 ^ (j + 1) := Nat.pow_lt_pow_right (by omega) (by omega)
  rw [e1] at h1
  have h1' : 2 ^ (j + 1) * k < 4611686018427387904 := by omega
  unfold orI
  rw [e1, e2, BitVec.ofInt_natCast, BitVec.ofInt_natCast, BitVec.toNat_or, BitVec.toNat_ofNat, BitVec.toNat_ofNat, Nat.mod_eq_of_lt (by omega), Nat.mod_eq_of_lt (by omega), ← Nat.two_pow_add_eq_or_of_lt hlt]
  rw [w64_of (by omega) (by omega)]
  push_cast
  rfl
theorem pow_min (j : Nat) (hj : j < 64) : w64 (1 * 2 ^ (min (Int.toNat (j : Int)) 64)) = w64 (2 ^ j) := by
  rw [Int.one_mul, Int.toNat_natCast, Nat.min_eq_left (by omega)]
theorem numRootLoop_spec (n : Int) : ∀ (j : Nat) (r : Int), j ≤ 30 → 0 ≤ r → r + 2 ^ j ≤ 2 ^ 30 → (2 : Int) ^ j ∣ r → r * r ≤ n → n < (r + 2 ^ j) * (r + 2 ^ j) → IsRoot n (numRootLoop n j r) := by
  intro j
  induction j with
  | zero =>
    intro r hj h0 h1 hd h2 h3
    show IsRoot n r
    exact ⟨h0, h2, by simpa using h3⟩
  | succ j ih =>
    intro r hj h0 h1 hd h2 h3
    have hp : (0 : Int) < 2 ^ j := Int.pow_pos (by omega)
    have hs : (2 : Int) ^ (j + 1) = 2 ^ j + 2 ^ j := by rw [Int.pow_succ]; omega
    have hd' : (2 : Int) ^ j ∣ r := Int.dvd_trans ⟨2, Int.pow_succ ..⟩ hd
    have hk : (2 : Int) ^ 30 = 1073741824 := by decide
    have e : orI r (w64 (1 * 2 ^ (min (Int.toNat (j : Int)) 64))) = r + 2 ^ j := by
      rw [pow_min j (by omega), w64_of (by omega) (by omega)]
      exact orI_add h0 (by omega) (by omega) hd
    have hm := mul_bound (a := r + 2 ^ j) (b := r + 2 ^ j) (A := 1073741824) (B := 1073741824) (by omega) (by omega)
    rw [numRootLoop, e, w64_of (by omega) (by omega)]
    by_cases hc : (r + 2 ^ j) * (r + 2 ^ j) ≤ n
    · rw [decide_eq_true hc]
      refine ih (r + 2 ^ j) (by omega) (by omega) (by omega) (Int.dvd_add hd' (Int.dvd_refl _)) hc ?_
      rw [Int.add_assoc, ← hs]; exact h3
    · rw [decide_eq_false hc]
      exact ih r (by omega) h0 (by omega) hd' h2 (by omega)
def rootf (a : Int) : Int := numRootLoop (a * 65536) 25 0
def rootc (a : Int) : Int := if rootf a * rootf a < a * 65536 then rootf a + 1 else rootf a
theorem rootf_is {a : Int} (h0 : 0 ≤ a) (h1 : a ≤ 1073741824) : IsRoot (a * 65536) (rootf a) :=
  numRootLoop_spec _ 25 0 (by omega) (by omega) (by decide) ⟨0, rfl⟩ (by omega) (by
    have : ((0 : Int) + 2 ^ 25) * (0 + 2 ^ 25) = 1125899906842624 := by decide
    omega)
theorem root_lt {n s B : Int} (h : s * s ≤ n) (hn : n < B * B) (hs : 0 ≤ s) (hB : 0 ≤ B) : s < B := by
  refine Decidable.byContradiction fun hc => ?_
  have := Int.mul_le_mul (show B ≤ s by omega) (show B ≤ s by omega) hB hs
  omega
theorem rootf_le {a : Int} (h0 : 0 ≤ a) (h1 : a ≤ 1073741824) : 0 ≤ rootf a ∧ rootf a ≤ 8388608 := by
  obtain ⟨k1, k2, k3⟩ := rootf_is h0 h1
  have := root_lt (B := 8388609) k2 (by omega) k1 (by omega)
  omega
theorem numRoot_spec {a : Int} (h0 : 0 ≤ a) (h1 : a ≤ 1073741824) (up : Bool) : numRoot a up = (bif up then rootc a else rootf a, true) := by
  have hr := rootf_le h0 h1
  have hm := mul_bound (a := rootf a) (b := rootf a) (A := 8388608) (B := 8388608) (by omega) (by omega)
  have e : numRootLoop (a * 65536) 25 0 = rootf a := rfl
  unfold numRoot numRoot_e0
  rw [decide_eq_false (by omega), (numIn_iff a).2 (by omega), w64_of (n := a * 65536) (by omega) (by omega), e, w64_of (n := rootf a * rootf a) (by omega) (by omega), w64_of (n := rootf a + 1) (by omega) (by omega)]
  unfold rootc
  cases up
  · rfl
  · simp only [cond_false, cond_true, Bool.cond_decide]
end Go.Proofs.YtalffjplbhelcaaGreatDoor
namespace Go.Proofs.YtalffjplbhelcaaGreatDoor
def R (a : Iv) : Prop := a.no = false ∧ -1073741824 ≤ a.lo ∧ a.lo ≤ a.hi ∧ a.hi ≤ 1073741824
theorem ivRight_iff (a : Iv) : ivRight a = true ↔ R a := rRight_iff a
theorem rRight_eq (a : Iv) : rRight a = ivRight a := rfl
theorem R_mk {l h : Int} (h1 : -1073741824 ≤ l) (h2 : l ≤ h) (h3 : h ≤ 1073741824) : R ⟨l, h, false⟩ := ⟨rfl, h1, h2, h3⟩
theorem ivRight_t {a : Iv} (h : R a) : ivRight a = true := (ivRight_iff a).2 h
theorem ivRight_f {a : Iv} (h : ¬ R a) : ivRight a = false := by
  cases e : ivRight a
  · rfl
  · exact absurd ((ivRight_iff a).1 e) h
theorem R_none : ¬ R ivNone := fun h => by cases h.1
theorem ivOf_in {l h : Int} (k : -1073741824 ≤ l ∧ l ≤ h ∧ h ≤ 1073741824) : ivOf l h = ⟨l, h, false⟩ := by
  unfold ivOf
  rw [ivRight_t (R_mk k.1 k.2.1 k.2.2)]; rfl
theorem ivOf_out {l h : Int} (k : ¬ (-1073741824 ≤ l ∧ l ≤ h ∧ h ≤ 1073741824)) : ivOf l h = ivNone := by
  unfold ivOf
  rw [ivRight_f (fun r => k ⟨r.2.1, r.2.2.1, r.2.2.2⟩)]; rfl
theorem R_of {l h : Int} : R (ivOf l h) ↔ -1073741824 ≤ l ∧ l ≤ h ∧ h ≤ 1073741824 := by
  by_cases k : -1073741824 ≤ l ∧ l ≤ h ∧ h ≤ 1073741824
  · rw [ivOf_in k]; exact ⟨fun _ => k, fun _ => R_mk k.1 k.2.1 k.2.2⟩
  · rw [ivOf_out k]; exact ⟨fun r => absurd r R_none, fun h => absurd h k⟩
theorem ivBoth_t {a b : Iv} (ha : R a) (hb : R b) : ivBoth a b = true := by
  unfold ivBoth
  rw [ivRight_t ha, ivRight_t hb]; rfl
theorem ivBoth_f {a b : Iv} (h : ¬ (R a ∧ R b)) : ivBoth a b = false := by
  unfold ivBoth
  by_cases ha : R a
  · rw [ivRight_t ha, ivRight_f (fun hb => h ⟨ha, hb⟩)]; rfl
  · rw [ivRight_f ha]; rfl
theorem ivInside_iff (a b : Iv) : ivInside a b = true ↔ R a ∧ R b ∧ b.lo ≤ a.lo ∧ a.hi ≤ b.hi := by
  unfold ivInside
  by_cases h : R a ∧ R b
  · rw [ivBoth_t h.1 h.2]
    simp only [cond_true, Bool.cond_false_right, Bool.and_eq_true, decide_eq_true_eq]
    exact ⟨fun k => ⟨h.1, h.2, k⟩, fun k => k.2.2⟩
  · rw [ivBoth_f h]
    exact ⟨fun k => (nomatch k), fun k => absurd ⟨k.1, k.2.1⟩ h⟩
theorem ivHas_iff (a : Iv) (n : Int) : ivHas a n = true ↔ R a ∧ a.lo ≤ n ∧ n ≤ a.hi := by
  unfold ivHas
  by_cases h : R a
  · rw [ivRight_t h]
    simp only [cond_true, Bool.cond_false_right, Bool.and_eq_true, decide_eq_true_eq]
    exact ⟨fun k => ⟨h, k⟩, fun k => k.2⟩
  · rw [ivRight_f h]
    exact ⟨fun k => (nomatch k), fun k => absurd k.1 h⟩
theorem ivAdd_spec {a b : Iv} (ha : R a) (hb : R b) : ivAdd a b = ivOf (a.lo + b.lo) (a.hi + b.hi) := by
  obtain ⟨_, a1, a2, a3⟩ := ha
  obtain ⟨_, b1, b2, b3⟩ := hb
  unfold ivAdd
  rw [ivBoth_t ⟨‹_›, a1, a2, a3⟩ ⟨‹_›, b1, b2, b3⟩, w64_of (by omega) (by omega), w64_of (by omega) (by omega)]; rfl
theorem ivAdd_out {a b : Iv} (h : ¬ (R a ∧ R b)) : ivAdd a b = ivNone := by
  unfold ivAdd
  rw [ivBoth_f h]; rfl
theorem ivNeg_spec {a : Iv} (ha : R a) : ivNeg a = ⟨-a.hi, -a.lo, false⟩ := by
  have h := ha.2
  unfold ivNeg
  rw [ivRight_t ha, w64_of (by omega) (by omega), w64_of (by omega) (by omega)]
  simp only [cond_true]
  rw [ivOf_in (by omega)]
  congr 1 <;> omega
theorem ivNeg_out {a : Iv} (h : ¬ R a) : ivNeg a = ivNone := by
  unfold ivNeg
  rw [ivRight_f h]; rfl
theorem R_neg {a : Iv} : R (ivNeg a) ↔ R a := by
  by_cases h : R a
  · rw [ivNeg_spec h]
    have := h.2
    exact ⟨fun _ => h, fun _ => R_mk (by omega) (by omega) (by omega)⟩
  · rw [ivNeg_out h]
    exact ⟨fun k => absurd k R_none, fun k => absurd k h⟩
theorem dn_mono {a a' b : Int} (hb : 0 < b) (h : a ≤ a') : dn a b ≤ dn a' b := Int.ediv_le_ediv hb h
theorem upq_mono {a a' b : Int} (hb : 0 < b) (h : a ≤ a') : upq a b ≤ upq a' b := by
  have := Int.ediv_le_ediv (a := -a') (b := -a) hb (by omega)
  unfold upq
  omega
theorem dn_le_upq {a b : Int} (hb : 0 < b) : dn a b ≤ upq a b := by
  rw [upq_eq hb]
  unfold dn
  split <;> omega
theorem dn_min {a a' b : Int} (hb : 0 < b) : dn (min a a') b = min (dn a b) (dn a' b) := by
  by_cases h : a ≤ a'
  · have := dn_mono hb h
    rw [Int.min_eq_left h, Int.min_eq_left this]
  · have := dn_mono hb (show a' ≤ a by omega)
    rw [Int.min_eq_right (by omega), Int.min_eq_right this]
theorem upq_max {a a' b : Int} (hb : 0 < b) : upq (max a a') b = max (upq a b) (upq a' b) := by
  by_cases h : a ≤ a'
  · have := upq_mono hb h
    rw [Int.max_eq_right h, Int.max_eq_right this]
  · have := upq_mono hb (show a' ≤ a by omega)
    rw [Int.max_eq_left (by omega), Int.max_eq_left this]
theorem dn_nonneg {a b : Int} (hb : 0 < b) (h : 0 ≤ a) : 0 ≤ dn a b := Int.ediv_nonneg h (by omega)
def far (a : Iv) : Int := max (-a.lo) a.hi
def near (a : Iv) : Int := max (max a.lo (-a.hi)) 0
theorem near_far {a : Iv} (ha : R a) : 0 ≤ near a ∧ near a ≤ far a ∧ far a ≤ 1073741824 := by
  have := ha.2
  unfold near far
  omega
theorem sq_mono {x y : Int} (h0 : 0 ≤ x) (h : x ≤ y) : x * x ≤ y * y := Int.mul_le_mul h h h0 (by omega)
theorem ivSqr_spec {a : Iv} (ha : R a) : ivSqr a = ivOf (dn (near a * near a) 65536) (upq (far a * far a) 65536) := by
  have h := ha.2
  have h0 := near_far ha
  have e1 : w64 (0 - a.lo) = -a.lo := by rw [w64_of (by omega) (by omega)]; omega
  have e2 : w64 (0 - a.hi) = -a.hi := by rw [w64_of (by omega) (by omega)]; omega
  have k1 : far a = max (-a.lo) a.hi := rfl
  have k2 : near a = max (max a.lo (-a.hi)) 0 := rfl
  have hs := sq_mono h0.1 h0.2.1
  unfold ivSqr ivSqr_e0 ivSqr_e1
  rw [e1, e2, ← k1, ← k2, ivRight_t ha, numMul_spec (by omega) (by omega), numMul_spec (by omega) (by omega), rq, rq]
  simp only [cond_true, cond_false]
  have n0 : 0 ≤ near a * near a := Int.mul_nonneg h0.1 h0.1
  have m1 : 0 ≤ dn (near a * near a) 65536 := dn_nonneg (by omega) n0
  have m2 : dn (near a * near a) 65536 ≤ upq (far a * far a) 65536 := Int.le_trans (dn_mono (by omega) hs) (dn_le_upq (by omega))
  by_cases hc : upq (far a * far a) 65536 ≤ 1073741824
  · rw [told_in (by omega), told_in (by omega)]; rfl
  · have : (told (upq (far a * far a) 65536)).2 = false := by
      rw [told_snd]
      cases e : numIn (upq (far a * far a) 65536)
      · rfl
      · have := (numIn_iff _).1 e
        omega
    rw [this, ivOf_out (l := dn (near a * near a) 65536) (h := upq (far a * far a) 65536) (by omega)]; rfl
theorem ivSqr_out {a : Iv} (h : ¬ R a) : ivSqr a = ivNone := by
  unfold ivSqr
  rw [ivRight_f h]; rfl
theorem ivRoot_spec {a : Iv} (ha : R a) (h0 : 0 ≤ a.lo) : ivRoot a = ivOf (rootf a.lo) (rootc a.hi) := by
  have h := ha.2
  unfold ivRoot
  rw [ivRight_t ha, decide_eq_false (by omega), numRoot_spec (by omega) (by omega), numRoot_spec (by omega) (by omega)]; rfl
theorem ivRoot_out {a : Iv} (h : ¬ (R a ∧ 0 ≤ a.lo)) : ivRoot a = ivNone := by
  unfold ivRoot
  by_cases ha : R a
  · rw [ivRight_t ha, decide_eq_true (by have : ¬ 0 ≤ a.lo := fun k => h ⟨ha, k⟩; omega)]; rfl
  · rw [ivRight_f ha]; rfl
theorem root_mono {m n s t : Int} (h : m ≤ n) (hs : IsRoot m s) (ht : IsRoot n t) : s ≤ t := by
  obtain ⟨s1, s2, s3⟩ := hs
  obtain ⟨t1, t2, t3⟩ := ht
  refine Decidable.byContradiction fun hc => ?_
  have := sq_mono (x := t + 1) (y := s) (by omega) (by omega)
  omega
theorem rootf_mono {a b : Int} (h0 : 0 ≤ a) (h : a ≤ b) (hb : b ≤ 1073741824) : rootf a ≤ rootf b :=
  root_mono (m := a * 65536) (n := b * 65536) (by omega) (rootf_is h0 (by omega)) (rootf_is (by omega) hb)
theorem rootf_le_rootc (a : Int) : rootf a ≤ rootc a ∧ rootc a ≤ rootf a + 1 := by
  unfold rootc
  split <;> omega
theorem rootc_ge {a : Int} (h0 : 0 ≤ a) (h1 : a ≤ 1073741824) : a * 65536 ≤ rootc a * rootc a := by
  obtain ⟨k1, k2, k3⟩ := rootf_is h0 h1
  unfold rootc
  split <;> omega
theorem rootc_mono {a b : Int} (h0 : 0 ≤ a) (h : a ≤ b) (hb : b ≤ 1073741824) : rootc a ≤ rootc b := by
  have h1 := rootf_mono h0 h hb
  have h2 := rootf_le_rootc a
  have h3 := rootf_le_rootc b
  refine Decidable.byContradiction fun hc => ?_
  have e1 : rootf a = rootf b := by omega
  have e2 : rootc a = rootf a + 1 := by omega
  have e3 : rootc b = rootf b := by omega
  have k1 := rootc_ge (a := b) (by omega) hb
  have k2 : rootf a * rootf a < a * 65536 := by
    unfold rootc at e2
    split at e2
    · assumption
    · omega
  rw [e3, ← e1] at k1
  omega
theorem rootc_le {a : Int} (h0 : 0 ≤ a) (h1 : a ≤ 1073741824) : 0 ≤ rootc a ∧ rootc a ≤ 8388608 := by
  have h2 := rootf_le h0 h1
  have h3 := rootc_mono h0 h1 (by omega)
  have h4 : rootc 1073741824 = 8388608 := by decide +kernel
  have h5 := rootf_le_rootc a
  omega
theorem R_root {a : Iv} : R (ivRoot a) ↔ R a ∧ 0 ≤ a.lo := by
  by_cases h : R a ∧ 0 ≤ a.lo
  · rw [ivRoot_spec h.1 h.2, R_of]
    have h1 := h.1.2
    have h2 := rootf_le (a := a.lo) h.2 (by omega)
    have h3 := rootc_le (a := a.hi) (by omega) (by omega)
    have h4 := rootf_mono (a := a.lo) (b := a.hi) h.2 (by omega) (by omega)
    have h5 := rootf_le_rootc a.hi
    exact ⟨fun _ => h, fun _ => by omega⟩
  · rw [ivRoot_out h]
    exact ⟨fun k => absurd k R_none, fun k => absurd k h⟩
theorem ivRoot_val {a : Iv} (ha : R a) (h0 : 0 ≤ a.lo) : ivRoot a = ⟨rootf a.lo, rootc a.hi, false⟩ := by
  rw [ivRoot_spec ha h0, ivOf_in]
  have := R_root.2 ⟨ha, h0⟩
  rw [ivRoot_spec ha h0, R_of] at this
  exact this
def ends4 (t1 u1 t2 u2 t3 u3 t4 u4 : Int × Bool) : Iv :=
  let e0 := ivOf t1.1 u1.1
  let e1 := ivOf (min e0.lo t1.1) (max e0.hi u1.1)
  let e2 := ivOf (min e1.lo t2.1) (max e1.hi u2.1)
  let e3 := ivOf (min e2.lo t3.1) (max e2.hi u3.1)
  let e4 := ivOf (min e3.lo t4.1) (max e3.hi u4.1)
  bif t1.2 then bif u1.2 then bif t2.2 then bif u2.2 then bif t3.2 then bif u3.2 then bif t4.2 then bif u4.2 then e4 else ivNone else ivNone else ivNone else ivNone else ivNone else ivNone else ivNone else ivNone
theorem endsMul_eq (a b : Iv) : endsMul a b = ends4 (numMul a.lo b.lo false) (numMul a.lo b.lo true) (numMul a.lo b.hi false) (numMul a.lo b.hi true) (numMul a.hi b.lo false) (numMul a.hi b.lo true) (numMul a.hi b.hi false) (numMul a.hi b.hi true) := rfl
theorem endsDiv_eq (a b : Iv) : endsDiv a b = ends4 (numDiv a.lo b.lo false) (numDiv a.lo b.lo true) (numDiv a.lo b.hi false) (numDiv a.lo b.hi true) (numDiv a.hi b.lo false) (numDiv a.hi b.lo true) (numDiv a.hi b.hi false) (numDiv a.hi b.hi true) := rfl
theorem numIn_f {q : Int} (h : ¬ (-1073741824 ≤ q ∧ q ≤ 1073741824)) : numIn q = false := by
  cases e : numIn q
  · rfl
  · exact absurd ((numIn_iff q).1 e) h
def min4 (a b c d : Int) : Int := min (min a b) (min c d)
def max4 (a b c d : Int) : Int := max (max a b) (max c d)
theorem ends4_spec {l1 u1 l2 u2 l3 u3 l4 u4 : Int} (h1 : l1 ≤ u1) (h2 : l2 ≤ u2) (h3 : l3 ≤ u3) (h4 : l4 ≤ u4) :
    ends4 (told l1) (told u1) (told l2) (told u2) (told l3) (told u3) (told l4) (told u4) = ivOf (min4 l1 l2 l3 l4) (max4 u1 u2 u3 u4) := by
  unfold ends4
  simp only [told_snd]
  by_cases h : -1073741824 ≤ min4 l1 l2 l3 l4 ∧ max4 u1 u2 u3 u4 ≤ 1073741824
  · unfold min4 max4 at h ⊢
    rw [told_in (q := l1) (by omega), told_in (q := u1) (by omega), told_in (q := l2) (by omega), told_in (q := u2) (by omega), told_in (q := l3) (by omega), told_in (q := u3) (by omega), told_in (q := l4) (by omega), told_in (q := u4) (by omega)]
    rw [(numIn_iff l1).2 (by omega), (numIn_iff u1).2 (by omega), (numIn_iff l2).2 (by omega), (numIn_iff u2).2 (by omega), (numIn_iff l3).2 (by omega), (numIn_iff u3).2 (by omega), (numIn_iff l4).2 (by omega), (numIn_iff u4).2 (by omega)]
    simp only [cond_true]
    rw [ivOf_in (l := l1) (h := u1) (by omega)]
    simp only
    rw [ivOf_in (l := min l1 l1) (by omega)]
    simp only
    rw [ivOf_in (l := min (min l1 l1) l2) (by omega)]
    simp only
    rw [ivOf_in (l := min (min (min l1 l1) l2) l3) (by omega)]
    simp only
    congr 1 <;> omega
  · rw [ivOf_out (l := min4 l1 l2 l3 l4) (h := max4 u1 u2 u3 u4) (fun k => h ⟨k.1, k.2.2⟩)]
    unfold min4 max4 at h
    have k : ∀ (q : Int) (x : Iv), (-1073741824 ≤ q ∧ q ≤ 1073741824 → x = ivNone) → (bif numIn q then x else ivNone) = ivNone := by
      intro q x hx
      by_cases hq : -1073741824 ≤ q ∧ q ≤ 1073741824
      · rw [(numIn_iff q).2 hq, hx hq]; rfl
      · rw [numIn_f hq]; rfl
    exact k _ _ fun a1 => k _ _ fun a2 => k _ _ fun a3 => k _ _ fun a4 => k _ _ fun a5 => k _ _ fun a6 => k _ _ fun a7 => k _ _ fun a8 => by omega
def mn (a b : Iv) : Int := min4 (a.lo * b.lo) (a.lo * b.hi) (a.hi * b.lo) (a.hi * b.hi)
def mx (a b : Iv) : Int := max4 (a.lo * b.lo) (a.lo * b.hi) (a.hi * b.lo) (a.hi * b.hi)
theorem dn_min4 {a b c d n : Int} (hn : 0 < n) : dn (min4 a b c d) n = min4 (dn a n) (dn b n) (dn c n) (dn d n) := by
  unfold min4
  rw [dn_min hn, dn_min hn, dn_min hn]
theorem upq_max4 {a b c d n : Int} (hn : 0 < n) : upq (max4 a b c d) n = max4 (upq a n) (upq b n) (upq c n) (upq d n) := by
  unfold max4
  rw [upq_max hn, upq_max hn, upq_max hn]
theorem ivMul_spec {a b : Iv} (ha : R a) (hb : R b) : ivMul a b = ivOf (dn (mn a b) 65536) (upq (mx a b) 65536) := by
  have h1 := ha.2
  have h2 := hb.2
  unfold ivMul mn mx
  rw [ivBoth_t ha hb, endsMul_eq]
  simp only [cond_true]
  simp (disch := omega) only [numMul_spec]
  simp only [rq, cond_true, cond_false]
  rw [ends4_spec (dn_le_upq (by omega)) (dn_le_upq (by omega)) (dn_le_upq (by omega)) (dn_le_upq (by omega)), dn_min4 (by omega), upq_max4 (by omega)]
theorem ivMul_out {a b : Iv} (h : ¬ (R a ∧ R b)) : ivMul a b = ivNone := by
  unfold ivMul
  rw [ivBoth_f h]; rfl
theorem dq_le {a b : Int} (hb : b ≠ 0) : dq a b false ≤ dq a b true := by
  unfold dq rq
  simp only [cond_true, cond_false]
  by_cases h : b < 0
  · rw [decide_eq_true h]; exact dn_le_upq (by simp only [cond_true]; omega)
  · rw [decide_eq_false h]; exact dn_le_upq (by simp only [cond_false]; omega)
theorem ivDiv_spec {a b : Iv} (ha : R a) (hb : R b) (h0 : ¬ (b.lo ≤ 0 ∧ 0 ≤ b.hi)) : ivDiv a b = ivOf (min4 (dq a.lo b.lo false) (dq a.lo b.hi false) (dq a.hi b.lo false) (dq a.hi b.hi false)) (max4 (dq a.lo b.lo true) (dq a.lo b.hi true) (dq a.hi b.lo true) (dq a.hi b.hi true)) := by
  have h1 := ha.2
  have h2 := hb.2
  have h3 : ivHas b 0 = false := by
    cases e : ivHas b 0
    · rfl
    · have := (ivHas_iff b 0).1 e
      exact absurd this.2 h0
  unfold ivDiv
  rw [ivBoth_t ha hb, h3, endsDiv_eq]
  simp only [cond_true, cond_false]
  simp (disch := omega) only [numDiv_spec]
  rw [ends4_spec (dq_le (by omega)) (dq_le (by omega)) (dq_le (by omega)) (dq_le (by omega))]
theorem ivDiv_out {a b : Iv} (h : ¬ (R a ∧ R b ∧ ¬ (b.lo ≤ 0 ∧ 0 ≤ b.hi))) : ivDiv a b = ivNone := by
  unfold ivDiv
  by_cases k : R a ∧ R b
  · have h3 : ivHas b 0 = true := (ivHas_iff b 0).2 ⟨k.2, Decidable.byContradiction fun e => h ⟨k.1, k.2, e⟩⟩
    rw [ivBoth_t k.1 k.2, h3]; rfl
  · rw [ivBoth_f k]; rfl
end Go.Proofs.YtalffjplbhelcaaGreatDoor
namespace Go.Proofs.YtalffjplbhelcaaGreatDoor
def Le (a b : Iv) : Prop := R b → R a ∧ b.lo ≤ a.lo ∧ a.hi ≤ b.hi
theorem Le.rfl' (a : Iv) : Le a a := fun h => ⟨h, by omega, by omega⟩
theorem le_of {l h l' h' : Int} (h1 : l ≤ l') (h2 : l' ≤ h') (h3 : h' ≤ h) : Le (ivOf l' h') (ivOf l h) := fun k => by
  have k := R_of.1 k
  have e1 : -1073741824 ≤ l' ∧ l' ≤ h' ∧ h' ≤ 1073741824 := by omega
  rw [ivOf_in e1, ivOf_in k]
  exact ⟨R_mk e1.1 e1.2.1 e1.2.2, h1, h3⟩
theorem mul_lin {a b x : Int} (y : Int) (h1 : a ≤ x) (h2 : x ≤ b) : min (a * y) (b * y) ≤ x * y ∧ x * y ≤ max (a * y) (b * y) := by
  by_cases h : 0 ≤ y
  · have := Int.mul_le_mul_of_nonneg_right h1 h
    have := Int.mul_le_mul_of_nonneg_right h2 h
    omega
  · have := Int.mul_le_mul_of_nonpos_right h1 (show y ≤ 0 by omega)
    have := Int.mul_le_mul_of_nonpos_right h2 (show y ≤ 0 by omega)
    omega
theorem mul_lin' {a b x : Int} (y : Int) (h1 : a ≤ x) (h2 : x ≤ b) : min (y * a) (y * b) ≤ y * x ∧ y * x ≤ max (y * a) (y * b) := by
  rw [Int.mul_comm y a, Int.mul_comm y b, Int.mul_comm y x]
  exact mul_lin y h1 h2
theorem mul_hull {a b : Iv} {x y : Int} (h1 : a.lo ≤ x) (h2 : x ≤ a.hi) (h3 : b.lo ≤ y) (h4 : y ≤ b.hi) : mn a b ≤ x * y ∧ x * y ≤ mx a b := by
  have k1 := mul_lin y h1 h2
  have k2 := mul_lin' a.lo h3 h4
  have k3 := mul_lin' a.hi h3 h4
  unfold mn mx min4 max4
  omega
theorem mn_mx {a b : Iv} : mn a b ≤ mx a b := by
  unfold mn mx min4 max4
  omega
theorem R_args2 {f : Iv → Iv → Iv} {a b : Iv} (h : ¬ (R a ∧ R b) → f a b = ivNone) (k : R (f a b)) : R a ∧ R b :=
  Classical.byContradiction fun c => by rw [h c] at k; exact R_none k
theorem R_args1 {f : Iv → Iv} {a : Iv} (h : ¬ R a → f a = ivNone) (k : R (f a)) : R a :=
  Classical.byContradiction fun c => by rw [h c] at k; exact R_none k
theorem le_add {a b c d : Iv} (h1 : Le a c) (h2 : Le b d) : Le (ivAdd a b) (ivAdd c d) := fun k => by
  obtain ⟨rc, rd⟩ := R_args2 ivAdd_out k
  obtain ⟨ra, a1, a2⟩ := h1 rc
  obtain ⟨rb, b1, b2⟩ := h2 rd
  rw [ivAdd_spec ra rb, ivAdd_spec rc rd] at *
  have := ra.2
  have := rb.2
  exact le_of (by omega) (by omega) (by omega) k
theorem le_neg {a c : Iv} (h1 : Le a c) : Le (ivNeg a) (ivNeg c) := fun k => by
  have rc := R_neg.1 k
  obtain ⟨ra, a1, a2⟩ := h1 rc
  refine ⟨R_neg.2 ra, ?_⟩
  rw [ivNeg_spec ra, ivNeg_spec rc]
  simp only
  omega
theorem le_sub {a b c d : Iv} (h1 : Le a c) (h2 : Le b d) : Le (ivSub a b) (ivSub c d) := le_add h1 (le_neg h2)
theorem le_mul {a b c d : Iv} (h1 : Le a c) (h2 : Le b d) : Le (ivMul a b) (ivMul c d) := fun k => by
  obtain ⟨rc, rd⟩ := R_args2 ivMul_out k
  obtain ⟨ra, a1, a2⟩ := h1 rc
  obtain ⟨rb, b1, b2⟩ := h2 rd
  rw [ivMul_spec ra rb, ivMul_spec rc rd] at *
  have r1 := ra.2
  have r2 := rb.2
  have c1 := mul_hull (a := c) (b := d) (x := a.lo) (y := b.lo) (by omega) (by omega) (by omega) (by omega)
  have c2 := mul_hull (a := c) (b := d) (x := a.lo) (y := b.hi) (by omega) (by omega) (by omega) (by omega)
  have c3 := mul_hull (a := c) (b := d) (x := a.hi) (y := b.lo) (by omega) (by omega) (by omega) (by omega)
  have c4 := mul_hull (a := c) (b := d) (x := a.hi) (y := b.hi) (by omega) (by omega) (by omega) (by omega)
  have e1 : mn c d ≤ mn a b := by
    show mn c d ≤ min (min (a.lo * b.lo) (a.lo * b.hi)) (min (a.hi * b.lo) (a.hi * b.hi))
    omega
  have e2 : mx a b ≤ mx c d := by
    show max (max (a.lo * b.lo) (a.lo * b.hi)) (max (a.hi * b.lo) (a.hi * b.hi)) ≤ mx c d
    omega
  exact le_of (dn_mono (by omega) e1) (Int.le_trans (dn_mono (by omega) mn_mx) (dn_le_upq (by omega))) (upq_mono (by omega) e2) k
theorem le_sqr {a c : Iv} (h1 : Le a c) : Le (ivSqr a) (ivSqr c) := fun k => by
  have rc := R_args1 ivSqr_out k
  obtain ⟨ra, a1, a2⟩ := h1 rc
  rw [ivSqr_spec ra, ivSqr_spec rc] at *
  have n1 := near_far ra
  have n2 := near_far rc
  have r1 := ra.2
  have e1 : near c ≤ near a := by unfold near; omega
  have e2 : far a ≤ far c := by unfold far; omega
  have q1 := sq_mono n2.1 e1
  have q2 := sq_mono n1.1 n1.2.1
  have q3 := sq_mono (by omega : 0 ≤ far a) e2
  exact le_of (dn_mono (by omega) q1) (Int.le_trans (dn_mono (by omega) q2) (dn_le_upq (by omega))) (upq_mono (by omega) q3) k
theorem le_root {a c : Iv} (h1 : Le a c) : Le (ivRoot a) (ivRoot c) := fun k => by
  obtain ⟨rc, c0⟩ := R_root.1 k
  obtain ⟨ra, a1, a2⟩ := h1 rc
  have r1 := ra.2
  have r2 := rc.2
  refine ⟨R_root.2 ⟨ra, by omega⟩, ?_⟩
  rw [ivRoot_val ra (by omega), ivRoot_val rc c0]
  exact ⟨rootf_mono c0 a1 (by omega), rootc_mono (by omega) a2 (by omega)⟩
theorem le_dn_iff {l n c : Int} (hc : 0 < c) : l ≤ dn n c ↔ l * c ≤ n := Int.le_ediv_iff_mul_le hc
theorem upq_le_iff {u n c : Int} (hc : 0 < c) : upq n c ≤ u ↔ n ≤ u * c := by
  have := le_dn_iff (l := -u) (n := -n) hc
  unfold dn at this
  unfold upq
  rw [Int.neg_mul] at this
  omega
theorem le_dq {l x y : Int} (h : y ≠ 0) : l ≤ dq x y false ↔ (0 < y ∧ l * y ≤ x * 65536) ∨ (y < 0 ∧ x * 65536 ≤ l * y) := by
  unfold dq rq
  by_cases hn : y < 0
  · rw [decide_eq_true hn]
    simp only [cond_true, cond_false]
    rw [le_dn_iff (by omega), Int.mul_neg]
    omega
  · rw [decide_eq_false hn]
    simp only [cond_true, cond_false]
    rw [le_dn_iff (by omega)]
    omega
theorem dq_le_iff {u x y : Int} (h : y ≠ 0) : dq x y true ≤ u ↔ (0 < y ∧ x * 65536 ≤ u * y) ∨ (y < 0 ∧ u * y ≤ x * 65536) := by
  unfold dq rq
  by_cases hn : y < 0
  · rw [decide_eq_true hn]
    simp only [cond_true, cond_false]
    rw [upq_le_iff (by omega), Int.mul_neg]
    omega
  · rw [decide_eq_false hn]
    simp only [cond_true, cond_false]
    rw [upq_le_iff (by omega)]
    omega
theorem div_below {a b : Iv} {l x y : Int} (h0 : ¬ (b.lo ≤ 0 ∧ 0 ≤ b.hi)) (h1 : a.lo ≤ x) (h2 : x ≤ a.hi) (h3 : b.lo ≤ y) (h4 : y ≤ b.hi)
    (k1 : l ≤ dq a.lo b.lo false) (k2 : l ≤ dq a.lo b.hi false) (k3 : l ≤ dq a.hi b.lo false) (k4 : l ≤ dq a.hi b.hi false) : l ≤ dq x y false := by
  rw [le_dq (by omega)] at *
  have m := mul_lin' l h3 h4
  omega
theorem div_above {a b : Iv} {u x y : Int} (h0 : ¬ (b.lo ≤ 0 ∧ 0 ≤ b.hi)) (h1 : a.lo ≤ x) (h2 : x ≤ a.hi) (h3 : b.lo ≤ y) (h4 : y ≤ b.hi)
    (k1 : dq a.lo b.lo true ≤ u) (k2 : dq a.lo b.hi true ≤ u) (k3 : dq a.hi b.lo true ≤ u) (k4 : dq a.hi b.hi true ≤ u) : dq x y true ≤ u := by
  rw [dq_le_iff (by omega)] at *
  have m := mul_lin' u h3 h4
  omega
def qn (a b : Iv) : Int := min4 (dq a.lo b.lo false) (dq a.lo b.hi false) (dq a.hi b.lo false) (dq a.hi b.hi false)
def qx (a b : Iv) : Int := max4 (dq a.lo b.lo true) (dq a.lo b.hi true) (dq a.hi b.lo true) (dq a.hi b.hi true)
theorem ivDiv_val {a b : Iv} (ha : R a) (hb : R b) (h0 : ¬ (b.lo ≤ 0 ∧ 0 ≤ b.hi)) : ivDiv a b = ivOf (qn a b) (qx a b) := ivDiv_spec ha hb h0
theorem min4_le (a b c d : Int) : min4 a b c d ≤ a ∧ min4 a b c d ≤ b ∧ min4 a b c d ≤ c ∧ min4 a b c d ≤ d := by
  unfold min4; omega
theorem le_max4 (a b c d : Int) : a ≤ max4 a b c d ∧ b ≤ max4 a b c d ∧ c ≤ max4 a b c d ∧ d ≤ max4 a b c d := by
  unfold max4; omega
theorem div_hull {a b : Iv} {x y : Int} (h0 : ¬ (b.lo ≤ 0 ∧ 0 ≤ b.hi)) (h1 : a.lo ≤ x) (h2 : x ≤ a.hi) (h3 : b.lo ≤ y) (h4 : y ≤ b.hi) : qn a b ≤ dq x y false ∧ dq x y true ≤ qx a b := by
  obtain ⟨k1, k2, k3, k4⟩ := min4_le (dq a.lo b.lo false) (dq a.lo b.hi false) (dq a.hi b.lo false) (dq a.hi b.hi false)
  obtain ⟨j1, j2, j3, j4⟩ := le_max4 (dq a.lo b.lo true) (dq a.lo b.hi true) (dq a.hi b.lo true) (dq a.hi b.hi true)
  exact ⟨div_below h0 h1 h2 h3 h4 k1 k2 k3 k4, div_above h0 h1 h2 h3 h4 j1 j2 j3 j4⟩
theorem R_div {a b : Iv} (k : R (ivDiv a b)) : R a ∧ R b ∧ ¬ (b.lo ≤ 0 ∧ 0 ≤ b.hi) :=
  Classical.byContradiction fun c => by rw [ivDiv_out c] at k; exact R_none k
theorem le_div {a b c d : Iv} (h1 : Le a c) (h2 : Le b d) : Le (ivDiv a b) (ivDiv c d) := fun k => by
  obtain ⟨rc, rd, h0⟩ := R_div k
  obtain ⟨ra, a1, a2⟩ := h1 rc
  obtain ⟨rb, b1, b2⟩ := h2 rd
  have r1 := ra.2
  have r2 := rb.2
  have h0' : ¬ (b.lo ≤ 0 ∧ 0 ≤ b.hi) := by omega
  rw [ivDiv_val ra rb h0', ivDiv_val rc rd h0] at *
  have c1 := div_hull (a := c) (b := d) (x := a.lo) (y := b.lo) h0 (by omega) (by omega) (by omega) (by omega)
  have c2 := div_hull (a := c) (b := d) (x := a.lo) (y := b.hi) h0 (by omega) (by omega) (by omega) (by omega)
  have c3 := div_hull (a := c) (b := d) (x := a.hi) (y := b.lo) h0 (by omega) (by omega) (by omega) (by omega)
  have c4 := div_hull (a := c) (b := d) (x := a.hi) (y := b.hi) h0 (by omega) (by omega) (by omega) (by omega)
  have e0 := dq_le (a := a.lo) (b := b.lo) (by omega)
  have e1 : qn c d ≤ qn a b := by
    show qn c d ≤ min (min (dq a.lo b.lo false) (dq a.lo b.hi false)) (min (dq a.hi b.lo false) (dq a.hi b.hi false))
    omega
  have e2 : qx a b ≤ qx c d := by
    show max (max (dq a.lo b.lo true) (dq a.lo b.hi true)) (max (dq a.hi b.lo true) (dq a.hi b.hi true)) ≤ qx c d
    omega
  have e3 : qn a b ≤ qx a b := by
    show min (min (dq a.lo b.lo false) (dq a.lo b.hi false)) (min (dq a.hi b.lo false) (dq a.hi b.hi false)) ≤ max (max (dq a.lo b.lo true) (dq a.lo b.hi true)) (max (dq a.hi b.lo true) (dq a.hi b.hi true))
    omega
  exact le_of e1 e3 e2 k
end Go.Proofs.YtalffjplbhelcaaGreatDoor
namespace Go.Proofs.YtalffjplbhelcaaGreatDoor
theorem lT {c x : Bool} (h : c = true) (k : x = true) : (bif c then x else false) = true := by rw [h, k]; rfl
theorem lC {c x y : Bool} (h : c = true → x = true) (k : c = false → y = true) : (bif c then x else y) = true := by
  cases c
  · exact k rfl
  · exact h rfl
end Go.Proofs.YtalffjplbhelcaaGreatDoor
namespace Go.Proofs.YtalffjplbhelcaaGreatDoor
theorem hIn_le9 (a : Iv) (x y : Int) : Le (hIn a x y) a := fun ha => by
  have h := ha.2
  have h1 : w64 (w64 (a.hi - a.lo) + 1) = a.hi - a.lo + 1 := by
    rw [w64_of (n := a.hi - a.lo) (by omega) (by omega), w64_of (by omega) (by omega)]
  have h2 := hPick_lt x (m := a.hi - a.lo + 1) (by omega) (by omega)
  unfold hIn hIn_e0
  rw [rRight_eq, ivRight_t ha, h1, w64_of (n := a.lo + hPick x (a.hi - a.lo + 1)) (by omega) (by omega)]
  generalize hPick x (a.hi - a.lo + 1) = k at h2 ⊢
  have h3 : w64 (w64 (a.hi - (a.lo + k)) + 1) = a.hi - (a.lo + k) + 1 := by
    rw [w64_of (n := a.hi - (a.lo + k)) (by omega) (by omega), w64_of (by omega) (by omega)]
  have h4 := hPick_lt y (m := a.hi - (a.lo + k) + 1) (by omega) (by omega)
  rw [h3, w64_of (n := a.lo + k + hPick y (a.hi - (a.lo + k) + 1)) (by omega) (by omega)]
  generalize hPick y (a.hi - (a.lo + k) + 1) = j at h4 ⊢
  simp only [cond_true]
  exact ⟨R_mk (by omega) (by omega) (by omega), by omega, by omega⟩
theorem le_bif {c : Bool} {p q r s : Iv} (h1 : Le p r) (h2 : Le q s) : Le (bif c then p else q) (bif c then r else s) := by
  cases c
  · exact h2
  · exact h1
theorem le_gIndex (x : Glass) {v w : Iv} (h : Le v w) : Le (gIndex x v) (gIndex x w) := by
  unfold gIndex gIndex_e3 gIndex_e2 gIndex_e1 gIndex_e0
  have hs := le_sqr h
  exact le_bif (Le.rfl' _) (le_root (le_add (le_add (le_add (Le.rfl' _) (le_div (le_mul (Le.rfl' _) hs) (le_sub hs (Le.rfl' _)))) (le_div (le_mul (Le.rfl' _) hs) (le_sub hs (Le.rfl' _)))) (le_div (le_mul (Le.rfl' _) hs) (le_sub hs (Le.rfl' _)))))
theorem none_air : decide (gIndex (⟨(⟨#[110]⟩ : ByteArray), (⟨(⟨0, 0⟩ : Dec), (⟨0, 0⟩ : Dec), (⟨0, 0⟩ : Dec)⟩ : D3), (⟨(⟨1, 0⟩ : Dec), (⟨2, 0⟩ : Dec), (⟨3, 0⟩ : Dec)⟩ : D3)⟩ : Glass) (hWide 30000 9) = rWhole 1) = true := by decide +kernel
theorem lawGlassLessT_true (x : Glass) (a b m n : Int) : lawGlassLessT x a b m n = true := by
  refine lC (fun hr => lT ?_ none_air) (fun _ => none_air)
  have hR := (ivRight_iff _).1 hr
  exact (ivInside_iff _ _).2 ⟨(le_gIndex x (hIn_le9 _ m n) hR).1, hR, (le_gIndex x (hIn_le9 _ m n) hR).2⟩
end Go.Proofs.YtalffjplbhelcaaGreatDoor
namespace Go.Proofs.YtalffjplbhelcaaGreatDoor
open Go.RowKit
def noI64 (v : Value) : Bool := match v with
  | .int .i64 _ => false
  | _ => true
theorem pow_no : ∀ v ∈ (powBox 0).cs, noI64 v = true := by decide
theorem pow_args {W : World} {tP : Nat} {a1 : Option Addr} {N : Nat} (hT : At [powBox tP] W) (h1 : Ints W a1 N) : ∃ (NA : List Box) (x1 : Nat → Int), ArgI a1 N x1 NA ∧ (NA.all fun b => b.ro) = true ∧ At (powBox tP :: NA) W ∧ ((powBox tP :: NA).map Box.g).Nodup := by
  by_cases h0 : N = 0
  · exact ⟨[], fun _ => 0, .inl ⟨rfl, h0⟩, rfl, hT, by simp⟩
  · rcases h1 with h | ⟨b1, o1, rfl, cs1, t1, fr1, hh1, z1, hz1⟩
    · exact absurd h h0
    · have ht := hT (powBox tP) List.mem_cons_self
      refine ⟨[⟨b1, cs1, t1, true⟩], z1, .inr ⟨b1, o1, cs1, t1, rfl, rfl, hz1⟩, rfl, ?_, ?_⟩
      · intro c hc
        rcases List.mem_cons.1 hc with rfl | hc
        · exact ht
        · obtain rfl := List.mem_singleton.1 hc
          exact ⟨fr1, hh1⟩
      · have hne : (powBox tP).g ≠ b1 := by
          rintro rfl
          obtain ⟨fr, hp⟩ := ht
          have he := hp.symm.trans hh1
          have hcs : (powBox 0).cs = cs1 := by
            have h2 := Option.some.inj he
            injection h2 with h3 h4 h5
            exact congrArg Array.toList h3
          have hv := hz1 0 (by omega)
          rw [← hcs] at hv
          exact Bool.noConfusion (pow_no _ (List.mem_of_getElem? hv))
        show [(powBox tP).g, b1].Nodup
        simp [hne]
end Go.Proofs.YtalffjplbhelcaaGreatDoor
namespace Go.Proofs.YtalffjplbhelcaaGreatDoor
open Go.RowKit
theorem glassLess_calls {W : World} {tP : Nat} (hT : At [powBox tP] W) (a1 : Option Addr) (N cap : Nat) (h1 : Ints W a1 N) (which a b m n : Int) : Calls Tryz.prog 8 #[.slice a1 N cap, .int .i64 which, .int .i64 a, .int .i64 b, .int .i64 m, .int .i64 n] W fun e W' => e = .returned (.bool true) ∧ Below W.heap.size W W' := by
  obtain ⟨NA, x1, ha, hro, hA, hnd⟩ := pow_args hT h1
  obtain ⟨h2, h5⟩ := hGl_len N x1
  obtain ⟨j, hj, hjl⟩ := pick_L h2 h5 which
  exact (c_lawGlassLess a1 N cap j tP x1 _ NA which a b m n ha rfl h2 hj hjl hro (lawGlassLessT_true _ a b m n) W hA hnd).mono fun e w' ⟨v, N', he, ⟨hv, _⟩, _, _, hb⟩ => ⟨by rw [he, hv], hb⟩
end Go.Proofs.YtalffjplbhelcaaGreatDoor
