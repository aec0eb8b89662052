import Derived.Test.YtalffjplbhelcaaGreatDoorMDecTells6
import Derived.Test.YtalffjplbhelcaaGreatDoorMDecTells7
import Derived.Test.YtalffjplbhelcaaGreatDoorMDecTells3
import Derived.Test.YtalffjplbhelcaaGreatDoorMDecTells5
import Derived.Test.YtalffjplbhelcaaGreatDoorMDecTells1
import Derived.WalkKit
import Derived.ProofKit
import Derived.OpenShut
import Derived.ShutString
import Derived.ChangeOld
import Derived.Below
import Derived.SizedLaws
import Derived.ChangeSlices
import Derived.Test.YtalffjplbhelcaaGreatDoorMDecTells2
set_option linter.unusedVariables false
set_option linter.unusedSimpArgs false
namespace Go.Proofs.YtalffjplbhelcaaGreatDoor
open Go.RowKit
attribute [local irreducible] AC AR DWalk
def lawDecTells_e0 (n : Int) (scale : Int) (bend : Int) (raw : ByteArray) (c : Int) (k : Int) (e : Int) (f : Int) (wide : Bool) : Bool := (decLess (⟨c, k⟩ : Dec) (⟨w64 ((hPick e 2000000) - 1000000), w64 ((hPick f 8) - 1)⟩ : Dec))
def lawDecTells_e1 (n : Int) (scale : Int) (bend : Int) (raw : ByteArray) (c : Int) (k : Int) (e : Int) (f : Int) (wide : Bool) : Bool := (rDecLess (⟨c, k⟩ : Dec) (⟨w64 ((hPick e 2000000) - 1000000), w64 ((hPick f 8) - 1)⟩ : Dec))
def lawDecTells_e2 (n : Int) (scale : Int) (bend : Int) (raw : ByteArray) (c : Int) (k : Int) (e : Int) (f : Int) (wide : Bool) : Bool := (decLess (⟨w64 ((hPick e 2000000) - 1000000), w64 ((hPick f 8) - 1)⟩ : Dec) (⟨c, k⟩ : Dec))
def lawDecTells_e3 (n : Int) (scale : Int) (bend : Int) (raw : ByteArray) (c : Int) (k : Int) (e : Int) (f : Int) (wide : Bool) : Bool := (rDecLess (⟨w64 ((hPick e 2000000) - 1000000), w64 ((hPick f 8) - 1)⟩ : Dec) (⟨c, k⟩ : Dec))
def lawDecTells_e4 (n : Int) (scale : Int) (bend : Int) (raw : ByteArray) (c : Int) (k : Int) (e : Int) (f : Int) (wide : Bool) : ByteArray := (rPrintDec (⟨(rRead (txt9 n scale bend raw)).1.c, (rRead (txt9 n scale bend raw)).1.scale⟩ : Dec))
def lawDecTells_e5 (n : Int) (scale : Int) (bend : Int) (raw : ByteArray) (c : Int) (k : Int) (e : Int) (f : Int) (wide : Bool) : Bool := (decRight (⟨w64 ((hPick c 2000000) - 1000000), w64 ((hPick k 8) - 1)⟩ : Dec))
def lawDecTells_e6 (n : Int) (scale : Int) (bend : Int) (raw : ByteArray) (c : Int) (k : Int) (e : Int) (f : Int) (wide : Bool) : Bool := (rRightDec (⟨w64 ((hPick c 2000000) - 1000000), w64 ((hPick k 8) - 1)⟩ : Dec))
def lawDecTells_e7 (n : Int) (scale : Int) (bend : Int) (raw : ByteArray) (c : Int) (k : Int) (e : Int) (f : Int) (wide : Bool) : ByteArray := (rPrintDec (⟨w64 ((hPick c 2000000) - 1000000), w64 ((hPick k 8) - 1)⟩ : Dec))
def lawDecTells_e8 (n : Int) (scale : Int) (bend : Int) (raw : ByteArray) (c : Int) (k : Int) (e : Int) (f : Int) (wide : Bool) : Iv := (decOf (⟨w64 ((hPick c 2000000) - 1000000), w64 ((hPick k 8) - 1)⟩ : Dec))
def lawDecTells_e9 (n : Int) (scale : Int) (bend : Int) (raw : ByteArray) (c : Int) (k : Int) (e : Int) (f : Int) (wide : Bool) : Iv := (rDecIv (⟨w64 ((hPick c 2000000) - 1000000), w64 ((hPick k 8) - 1)⟩ : Dec))
def lawDecTells_e10 (n : Int) (scale : Int) (bend : Int) (raw : ByteArray) (c : Int) (k : Int) (e : Int) (f : Int) (wide : Bool) : Bool := (decLess (⟨w64 ((hPick c 2000000) - 1000000), w64 ((hPick k 8) - 1)⟩ : Dec) (⟨w64 ((hPick e 2000000) - 1000000), w64 ((hPick f 8) - 1)⟩ : Dec))
def lawDecTells_e11 (n : Int) (scale : Int) (bend : Int) (raw : ByteArray) (c : Int) (k : Int) (e : Int) (f : Int) (wide : Bool) : Bool := (rDecLess (⟨w64 ((hPick c 2000000) - 1000000), w64 ((hPick k 8) - 1)⟩ : Dec) (⟨w64 ((hPick e 2000000) - 1000000), w64 ((hPick f 8) - 1)⟩ : Dec))
def lawDecTells_e12 (n : Int) (scale : Int) (bend : Int) (raw : ByteArray) (c : Int) (k : Int) (e : Int) (f : Int) (wide : Bool) : Bool := (decLess (⟨w64 ((hPick e 2000000) - 1000000), w64 ((hPick f 8) - 1)⟩ : Dec) (⟨w64 ((hPick c 2000000) - 1000000), w64 ((hPick k 8) - 1)⟩ : Dec))
def lawDecTells_e13 (n : Int) (scale : Int) (bend : Int) (raw : ByteArray) (c : Int) (k : Int) (e : Int) (f : Int) (wide : Bool) : Bool := (rDecLess (⟨w64 ((hPick e 2000000) - 1000000), w64 ((hPick f 8) - 1)⟩ : Dec) (⟨w64 ((hPick c 2000000) - 1000000), w64 ((hPick k 8) - 1)⟩ : Dec))
def lawDecTells (n : Int) (scale : Int) (bend : Int) (raw : ByteArray) (c : Int) (k : Int) (e : Int) (f : Int) (wide : Bool) : Bool := (bif wide then (bif known9 then (bif decide (((decRead (txt9 n scale bend raw)).1) = (⟨(rRead (txt9 n scale bend raw)).1.c, (rRead (txt9 n scale bend raw)).1.scale⟩ : Dec)) then (bif ((decRead (txt9 n scale bend raw)).2) == ((rRead (txt9 n scale bend raw)).2) then (bif (decRight (⟨c, k⟩ : Dec)) == (rRightDec (⟨c, k⟩ : Dec)) then (bif sEq (decPrint (⟨c, k⟩ : Dec)) (rPrintDec (⟨c, k⟩ : Dec)) then (bif decide ((decOf (⟨c, k⟩ : Dec)) = (rDecIv (⟨c, k⟩ : Dec))) then (bif (lawDecTells_e0 n scale bend raw c k e f wide) == (lawDecTells_e1 n scale bend raw c k e f wide) then (bif (lawDecTells_e2 n scale bend raw c k e f wide) == (lawDecTells_e3 n scale bend raw c k e f wide) then sEq (decPrint ((decRead (txt9 n scale bend raw)).1)) (lawDecTells_e4 n scale bend raw c k e f wide) else false) else false) else false) else false) else false) else false) else false) else false) else (bif known9 then (bif decide (((decRead (txt9 n scale bend raw)).1) = (⟨(rRead (txt9 n scale bend raw)).1.c, (rRead (txt9 n scale bend raw)).1.scale⟩ : Dec)) then (bif ((decRead (txt9 n scale bend raw)).2) == ((rRead (txt9 n scale bend raw)).2) then (bif (lawDecTells_e5 n scale bend raw c k e f wide) == (lawDecTells_e6 n scale bend raw c k e f wide) then (bif sEq (decPrint (⟨w64 ((hPick c 2000000) - 1000000), w64 ((hPick k 8) - 1)⟩ : Dec)) (lawDecTells_e7 n scale bend raw c k e f wide) then (bif decide ((lawDecTells_e8 n scale bend raw c k e f wide) = (lawDecTells_e9 n scale bend raw c k e f wide)) then (bif (lawDecTells_e10 n scale bend raw c k e f wide) == (lawDecTells_e11 n scale bend raw c k e f wide) then (bif (lawDecTells_e12 n scale bend raw c k e f wide) == (lawDecTells_e13 n scale bend raw c k e f wide) then sEq (decPrint ((decRead (txt9 n scale bend raw)).1)) (lawDecTells_e4 n scale bend raw c k e f wide) else false) else false) else false) else false) else false) else false) else false) else false))
set_option maxRecDepth 100000 in
set_option maxHeartbeats 4000000 in
theorem c_lawDecTells (n : Int) (scale : Int) (bend : Int) (raw : ByteArray) (c : Int) (k : Int) (e : Int) (f : Int) (wide : Bool) (tP : Nat) (hraw : raw.size ≤ 140737488351232) (H : (lawDecTells n scale bend raw c k e f wide) = true) : Gives Tryz.prog 5 #[.int .i64 n, .int .i64 scale, .int .i64 bend, .string raw, .int .i64 c, .int .i64 k, .int .i64 e, .int .i64 f, .bool wide] [powBox tP] (fun u N => u = .bool true ∧ N = []) := by
 refine gives_fin Tryz.func5 rfl rfl rfl rfl (AC.mono ?_ (fun e E H h => fing_v h rfl))
 refine aQ (aL (aA 18 (.bool false) rfl rfl (aN (aQ (aL (aM 26 (.int .i64 n) rfl rfl (aM 27 (.int .i64 scale) rfl rfl (aM 28 (.int .i64 bend) rfl rfl (aM 29 (.string raw) rfl rfl (aC 30 (c_txt9 n scale bend raw hraw) Tryz.func27 ⟨rfl, by decide⟩ rfl rfl (aA 19 (.string (txt9 n scale bend raw)) rfl rfl (aN (aQ (aL (aM 32 (.string (txt9 n scale bend raw)) rfl rfl (aC 33 (c_decRead (txt9 n scale bend raw) (Nat.le_trans (t9_sz hraw) (by decide))) Tryz.func28 ⟨rfl, by decide⟩ rfl rfl ?_))))))))))))))))
 refine aM 31 (.tuple #[.agg #[.int .i64 (((decRead (txt9 n scale bend raw)).1).c), .int .i64 (((decRead (txt9 n scale bend raw)).1).scale)], .bool ((decRead (txt9 n scale bend raw)).2)]) rfl rfl (aX 34 (.agg #[.int .i64 (((decRead (txt9 n scale bend raw)).1).c), .int .i64 (((decRead (txt9 n scale bend raw)).1).scale)]) rfl rfl rfl (aX 35 (.bool ((decRead (txt9 n scale bend raw)).2)) rfl rfl rfl (ao 20 rfl rfl (st_new zero26 rfl fun g0 => (aS [.int .i64 (((decRead (txt9 n scale bend raw)).1).c), .int .i64 (((decRead (txt9 n scale bend raw)).1).scale)] agg26 0 rfl rfl rfl rfl rfl rfl (aA 21 (.bool ((decRead (txt9 n scale bend raw)).2)) rfl rfl (aN (aQ (aL ?_)))))))))
 refine aM 37 (.string (txt9 n scale bend raw)) rfl rfl (aC 38 (c_rRead (txt9 n scale bend raw)) Tryz.func29 ⟨rfl, by decide⟩ rfl rfl (aM 36 (.tuple #[.agg #[.int .i64 ((rRead (txt9 n scale bend raw)).1.c), .int .i64 ((rRead (txt9 n scale bend raw)).1.scale)], .bool ((rRead (txt9 n scale bend raw)).2)]) rfl rfl (aX 39 (.agg #[.int .i64 ((rRead (txt9 n scale bend raw)).1.c), .int .i64 ((rRead (txt9 n scale bend raw)).1.scale)]) rfl rfl rfl (aX 40 (.bool ((rRead (txt9 n scale bend raw)).2)) rfl rfl rfl (ao 22 rfl rfl (st_new zero26 rfl fun g1 => ?_))))))
 refine aS [.int .i64 ((rRead (txt9 n scale bend raw)).1.c), .int .i64 ((rRead (txt9 n scale bend raw)).1.scale)] agg26 0 rfl rfl rfl rfl rfl rfl (aA 23 (.bool ((rRead (txt9 n scale bend raw)).2)) rfl rfl (aN (aQ (aL (aM 41 (.int .i64 c) rfl rfl (aC 42 (c_hPick c 2000000 (by decide)) Tryz.func10 ⟨rfl, by decide⟩ rfl rfl (aB 43 (.int .i64 (w64 ((hPick c 2000000) - 1000000))) rfl rfl rfl (bi_sub rfl) (aM 44 (.int .i64 k) rfl rfl (aC 45 (c_hPick k 8 (by decide)) Tryz.func10 ⟨rfl, by decide⟩ rfl rfl (aB 46 (.int .i64 (w64 ((hPick k 8) - 1))) rfl rfl rfl (bi_sub rfl) ?_))))))))))
 refine ao 47 rfl rfl (st_bd (us := [(0, .int .i64 (w64 ((hPick c 2000000) - 1000000))), (1, .int .i64 (w64 ((hPick k 8) - 1)))]) (v := .agg #[.int .i64 (w64 ((hPick c 2000000) - 1000000)), .int .i64 (w64 ((hPick k 8) - 1))]) rfl rfl (bd26_0_1 _ _) (ao 24 rfl rfl (st_new zero26 rfl fun g2 => (aS [.int .i64 (w64 ((hPick c 2000000) - 1000000)), .int .i64 (w64 ((hPick k 8) - 1))] agg26 0 rfl rfl rfl rfl rfl rfl (aN (aQ (aL (aM 48 (.int .i64 e) rfl rfl (aC 49 (c_hPick e 2000000 (by decide)) Tryz.func10 ⟨rfl, by decide⟩ rfl rfl (aB 50 (.int .i64 (w64 ((hPick e 2000000) - 1000000))) rfl rfl rfl (bi_sub rfl) (aM 51 (.int .i64 f) rfl rfl ?_)))))))))))
 refine aC 52 (c_hPick f 8 (by decide)) Tryz.func10 ⟨rfl, by decide⟩ rfl rfl (aB 53 (.int .i64 (w64 ((hPick f 8) - 1))) rfl rfl rfl (bi_sub rfl) (ao 54 rfl rfl (st_bd (us := [(0, .int .i64 (w64 ((hPick e 2000000) - 1000000))), (1, .int .i64 (w64 ((hPick f 8) - 1)))]) (v := .agg #[.int .i64 (w64 ((hPick e 2000000) - 1000000)), .int .i64 (w64 ((hPick f 8) - 1))]) rfl rfl (bd26_0_1 _ _) (ao 25 rfl rfl (st_new zero26 rfl fun g3 => (aS [.int .i64 (w64 ((hPick e 2000000) - 1000000)), .int .i64 (w64 ((hPick f 8) - 1))] agg26 0 rfl rfl rfl rfl rfl rfl (aN (aQ (aQ (aL (aM 55 (.bool wide) rfl rfl (aN ?_))))))))))))
 refine bool_split (wide) (fun h1 => ?_) (fun h1 => ?_)
 ·refine ac_then' (b := wide) h1 rfl (aL (aM 56 (.int .i64 c) rfl rfl (aM 57 (.int .i64 k) rfl rfl (ao 58 rfl rfl (st_bd (us := [(0, .int .i64 c), (1, .int .i64 k)]) (v := .agg #[.int .i64 c, .int .i64 k]) rfl rfl (bd26_0_1 _ _) (aS [.int .i64 c, .int .i64 k] agg26 1 rfl rfl rfl rfl rfl rfl (aN (aQ ?_))))))))
  refine ac_draw0 (id := 8) [0, 1, 2, 3, 4, 5, 6, 7, 8, 9, 10, 11, 12, 13, 14, 15, 16, 17, 18, 19, 20, 21, 22, 23, 24, 25, 26, 27, 28, 29, 30, 31, 32, 33, 34, 35, 36, 37, 38, 39, 40, 41, 42, 43, 44, 45, 46, 47, 48, 49, 50, 51, 52, 53, 54, 55, 56, 57] [] _ (by kernel_rfl) follows rfl  (dw_op (d := some 59) _ rfl rfl rfl (st_gr (R := [powBox tP]) (r := .bool known9) (c_known9 tP) Tryz.func30 rfl (by decide) rfl rfl rfl (has_cons 4 _ rfl rfl rfl rfl has_nil) (by simp) ⟨rfl, rfl⟩) (dw_op (d := some 60) _ rfl rfl rfl (st_move (v := .bool known9) rfl rfl ⟨rfl, rfl⟩) ?_))
  refine bool_split (known9) (fun h2 => ?_) (fun h2 => nomatch (show false = true from (show (lawDecTells n scale bend raw c k e f wide) = _ from (eT h1 (eF h2 rfl))).symm.trans H))
  refine dw_gd (d := (some 61)) (.agg #[.int .i64 (((decRead (txt9 n scale bend raw)).1).c), .int .i64 (((decRead (txt9 n scale bend raw)).1).scale)]) rfl (by show (known9 == true) = true; rw [h2]; rfl) rfl (st_lda (vs := [.int .i64 (((decRead (txt9 n scale bend raw)).1).c), .int .i64 (((decRead (txt9 n scale bend raw)).1).scale)]) agg26 3 rfl rfl rfl rfl rfl rfl ⟨rfl, rfl⟩) ?_
  refine dw_gd (d := (some 62)) (.agg #[.int .i64 ((rRead (txt9 n scale bend raw)).1.c), .int .i64 ((rRead (txt9 n scale bend raw)).1.scale)]) rfl (by show (known9 == true) = true; rw [h2]; rfl) rfl (st_lda (vs := [.int .i64 ((rRead (txt9 n scale bend raw)).1.c), .int .i64 ((rRead (txt9 n scale bend raw)).1.scale)]) agg26 2 rfl rfl rfl rfl rfl rfl ⟨rfl, rfl⟩) ?_
  refine dw_gd (d := (some 63)) (.bool (decide (((decRead (txt9 n scale bend raw)).1) = (⟨(rRead (txt9 n scale bend raw)).1.c, (rRead (txt9 n scale bend raw)).1.scale⟩ : Dec)))) rfl (by show (known9 == true) = true; rw [h2]; rfl) rfl (st_bi (r := .bool (decide (((decRead (txt9 n scale bend raw)).1) = (⟨(rRead (txt9 n scale bend raw)).1.c, (rRead (txt9 n scale bend raw)).1.scale⟩ : Dec)))) rfl rfl rfl (beql_26 ((decRead (txt9 n scale bend raw)).1) (⟨(rRead (txt9 n scale bend raw)).1.c, (rRead (txt9 n scale bend raw)).1.scale⟩ : Dec) rfl) ⟨rfl, rfl⟩) ?_
  refine dw_op (d := some 64) _ rfl rfl rfl (st_pkt' (b := known9) (v := .bool (decide (((decRead (txt9 n scale bend raw)).1) = (⟨(rRead (txt9 n scale bend raw)).1.c, (rRead (txt9 n scale bend raw)).1.scale⟩ : Dec)))) h2 rfl rfl rfl ⟨rfl, rfl⟩) (dw_op (d := some 65) _ rfl rfl rfl (st_move (v := .bool (decide (((decRead (txt9 n scale bend raw)).1) = (⟨(rRead (txt9 n scale bend raw)).1.c, (rRead (txt9 n scale bend raw)).1.scale⟩ : Dec)))) rfl rfl ⟨rfl, rfl⟩) ?_)
  refine bool_split (decide (((decRead (txt9 n scale bend raw)).1) = (⟨(rRead (txt9 n scale bend raw)).1.c, (rRead (txt9 n scale bend raw)).1.scale⟩ : Dec))) (fun h3 => ?_) (fun h3 => nomatch (show false = true from (show (lawDecTells n scale bend raw c k e f wide) = _ from (eT h1 (eT h2 (eF h3 rfl)))).symm.trans H))
  refine dw_gd (d := (some 66)) (.bool ((decRead (txt9 n scale bend raw)).2)) rfl (by show ((decide (((decRead (txt9 n scale bend raw)).1) = (⟨(rRead (txt9 n scale bend raw)).1.c, (rRead (txt9 n scale bend raw)).1.scale⟩ : Dec))) == true) = true; rw [h3]; rfl) rfl (st_move (v := .bool ((decRead (txt9 n scale bend raw)).2)) rfl rfl ⟨rfl, rfl⟩) (dw_gd (d := (some 67)) (.bool ((rRead (txt9 n scale bend raw)).2)) rfl (by show ((decide (((decRead (txt9 n scale bend raw)).1) = (⟨(rRead (txt9 n scale bend raw)).1.c, (rRead (txt9 n scale bend raw)).1.scale⟩ : Dec))) == true) = true; rw [h3]; rfl) rfl (st_move (v := .bool ((rRead (txt9 n scale bend raw)).2)) rfl rfl ⟨rfl, rfl⟩) ?_)
  refine dw_gd (d := (some 68)) (.bool (((decRead (txt9 n scale bend raw)).2) == ((rRead (txt9 n scale bend raw)).2))) rfl (by show ((decide (((decRead (txt9 n scale bend raw)).1) = (⟨(rRead (txt9 n scale bend raw)).1.c, (rRead (txt9 n scale bend raw)).1.scale⟩ : Dec))) == true) = true; rw [h3]; rfl) rfl (st_bi (r := .bool (((decRead (txt9 n scale bend raw)).2) == ((rRead (txt9 n scale bend raw)).2))) rfl rfl rfl (bb_eql Tryz.underlying4 rfl) ⟨rfl, rfl⟩) ?_
  refine dw_op (d := some 69) _ rfl rfl rfl (st_pkt' (b := decide (((decRead (txt9 n scale bend raw)).1) = (⟨(rRead (txt9 n scale bend raw)).1.c, (rRead (txt9 n scale bend raw)).1.scale⟩ : Dec))) (v := .bool (((decRead (txt9 n scale bend raw)).2) == ((rRead (txt9 n scale bend raw)).2))) h3 rfl rfl rfl ⟨rfl, rfl⟩) (dw_op (d := some 70) _ rfl rfl rfl (st_move (v := .bool (((decRead (txt9 n scale bend raw)).2) == ((rRead (txt9 n scale bend raw)).2))) rfl rfl ⟨rfl, rfl⟩) ?_)
  refine bool_split (((decRead (txt9 n scale bend raw)).2) == ((rRead (txt9 n scale bend raw)).2)) (fun h4 => ?_) (fun h4 => nomatch (show false = true from (show (lawDecTells n scale bend raw c k e f wide) = _ from (eT h1 (eT h2 (eT h3 (eF h4 rfl))))).symm.trans H))
  refine dw_gd (d := (some 71)) (.agg #[.int .i64 c, .int .i64 k]) rfl (by show ((((decRead (txt9 n scale bend raw)).2) == ((rRead (txt9 n scale bend raw)).2)) == true) = true; rw [h4]; rfl) rfl (st_lda (vs := [.int .i64 c, .int .i64 k]) agg26 1 rfl rfl rfl rfl rfl rfl ⟨rfl, rfl⟩) (dw_gd (d := (some 72)) (.bool (decRight (⟨c, k⟩ : Dec))) rfl (by show ((((decRead (txt9 n scale bend raw)).2) == ((rRead (txt9 n scale bend raw)).2)) == true) = true; rw [h4]; rfl) rfl (st_cf (c_decRight (⟨c, k⟩ : Dec)) Tryz.func31 rfl (by decide) rfl rfl rfl ⟨rfl, rfl⟩) ?_)
  refine dw_gd (d := (some 73)) (.agg #[.int .i64 c, .int .i64 k]) rfl (by show ((((decRead (txt9 n scale bend raw)).2) == ((rRead (txt9 n scale bend raw)).2)) == true) = true; rw [h4]; rfl) rfl (st_lda (vs := [.int .i64 c, .int .i64 k]) agg26 1 rfl rfl rfl rfl rfl rfl ⟨rfl, rfl⟩) (dw_gd (d := (some 74)) (.bool (rRightDec (⟨c, k⟩ : Dec))) rfl (by show ((((decRead (txt9 n scale bend raw)).2) == ((rRead (txt9 n scale bend raw)).2)) == true) = true; rw [h4]; rfl) rfl (st_cf (c_rRightDec (⟨c, k⟩ : Dec)) Tryz.func32 rfl (by decide) rfl rfl rfl ⟨rfl, rfl⟩) ?_)
  refine dw_gd (d := (some 75)) (.bool ((decRight (⟨c, k⟩ : Dec)) == (rRightDec (⟨c, k⟩ : Dec)))) rfl (by show ((((decRead (txt9 n scale bend raw)).2) == ((rRead (txt9 n scale bend raw)).2)) == true) = true; rw [h4]; rfl) rfl (st_bi (r := .bool ((decRight (⟨c, k⟩ : Dec)) == (rRightDec (⟨c, k⟩ : Dec)))) rfl rfl rfl (bb_eql Tryz.underlying4 rfl) ⟨rfl, rfl⟩) (dw_op (d := some 76) _ rfl rfl rfl (st_pkt' (b := ((decRead (txt9 n scale bend raw)).2) == ((rRead (txt9 n scale bend raw)).2)) (v := .bool ((decRight (⟨c, k⟩ : Dec)) == (rRightDec (⟨c, k⟩ : Dec)))) h4 rfl rfl rfl ⟨rfl, rfl⟩) ?_)
  refine dw_op (d := some 77) _ rfl rfl rfl (st_move (v := .bool ((decRight (⟨c, k⟩ : Dec)) == (rRightDec (⟨c, k⟩ : Dec)))) rfl rfl ⟨rfl, rfl⟩) (bool_split ((decRight (⟨c, k⟩ : Dec)) == (rRightDec (⟨c, k⟩ : Dec))) (fun h5 => ?_) (fun h5 => nomatch (show false = true from (show (lawDecTells n scale bend raw c k e f wide) = _ from (eT h1 (eT h2 (eT h3 (eT h4 (eF h5 rfl)))))).symm.trans H)))
  refine dw_gd (d := (some 78)) (.agg #[.int .i64 c, .int .i64 k]) rfl (by show (((decRight (⟨c, k⟩ : Dec)) == (rRightDec (⟨c, k⟩ : Dec))) == true) = true; rw [h5]; rfl) rfl (st_lda (vs := [.int .i64 c, .int .i64 k]) agg26 1 rfl rfl rfl rfl rfl rfl ⟨rfl, rfl⟩) (dw_gd (d := (some 79)) (.string (decPrint (⟨c, k⟩ : Dec))) rfl (by show (((decRight (⟨c, k⟩ : Dec)) == (rRightDec (⟨c, k⟩ : Dec))) == true) = true; rw [h5]; rfl) rfl (st_gr (R := [powBox tP]) (r := .string (decPrint (⟨c, k⟩ : Dec))) (c_decPrint (⟨c, k⟩ : Dec) tP) Tryz.func33 rfl (by decide) rfl rfl rfl (has_cons 4 _ rfl rfl rfl rfl has_nil) (by simp) ⟨rfl, rfl⟩) ?_)
  refine dw_gd (d := (some 80)) (.agg #[.int .i64 c, .int .i64 k]) rfl (by show (((decRight (⟨c, k⟩ : Dec)) == (rRightDec (⟨c, k⟩ : Dec))) == true) = true; rw [h5]; rfl) rfl (st_lda (vs := [.int .i64 c, .int .i64 k]) agg26 1 rfl rfl rfl rfl rfl rfl ⟨rfl, rfl⟩) (dw_gd (d := (some 81)) (.string (rPrintDec (⟨c, k⟩ : Dec))) rfl (by show (((decRight (⟨c, k⟩ : Dec)) == (rRightDec (⟨c, k⟩ : Dec))) == true) = true; rw [h5]; rfl) rfl (st_cf (c_rPrintDec (⟨c, k⟩ : Dec)) Tryz.func34 rfl (by decide) rfl rfl rfl ⟨rfl, rfl⟩) ?_)
  refine dw_gd (d := (some 82)) (.bool (sEq (decPrint (⟨c, k⟩ : Dec)) (rPrintDec (⟨c, k⟩ : Dec)))) rfl (by show (((decRight (⟨c, k⟩ : Dec)) == (rRightDec (⟨c, k⟩ : Dec))) == true) = true; rw [h5]; rfl) rfl (st_bi (r := .bool (sEq (decPrint (⟨c, k⟩ : Dec)) (rPrintDec (⟨c, k⟩ : Dec)))) rfl rfl rfl (bi_seql rfl) ⟨rfl, rfl⟩) (dw_op (d := some 83) _ rfl rfl rfl (st_pkt' (b := (decRight (⟨c, k⟩ : Dec)) == (rRightDec (⟨c, k⟩ : Dec))) (v := .bool (sEq (decPrint (⟨c, k⟩ : Dec)) (rPrintDec (⟨c, k⟩ : Dec)))) h5 rfl rfl rfl ⟨rfl, rfl⟩) (dw_op (d := some 84) _ rfl rfl rfl (st_move (v := .bool (sEq (decPrint (⟨c, k⟩ : Dec)) (rPrintDec (⟨c, k⟩ : Dec)))) rfl rfl ⟨rfl, rfl⟩) ?_))
  refine bool_split (sEq (decPrint (⟨c, k⟩ : Dec)) (rPrintDec (⟨c, k⟩ : Dec))) (fun h6 => ?_) (fun h6 => nomatch (show false = true from (show (lawDecTells n scale bend raw c k e f wide) = _ from (eT h1 (eT h2 (eT h3 (eT h4 (eT h5 (eF h6 rfl))))))).symm.trans H))
  refine dw_gd (d := (some 85)) (.agg #[.int .i64 c, .int .i64 k]) rfl (by show ((sEq (decPrint (⟨c, k⟩ : Dec)) (rPrintDec (⟨c, k⟩ : Dec))) == true) = true; rw [h6]; rfl) rfl (st_lda (vs := [.int .i64 c, .int .i64 k]) agg26 1 rfl rfl rfl rfl rfl rfl ⟨rfl, rfl⟩) (dw_gd (d := (some 86)) (.agg #[.int .i64 ((decOf (⟨c, k⟩ : Dec)).lo), .int .i64 ((decOf (⟨c, k⟩ : Dec)).hi), .bool ((decOf (⟨c, k⟩ : Dec)).no)]) rfl (by show ((sEq (decPrint (⟨c, k⟩ : Dec)) (rPrintDec (⟨c, k⟩ : Dec))) == true) = true; rw [h6]; rfl) rfl (st_cf (c_decOf (⟨c, k⟩ : Dec)) Tryz.func35 rfl (by decide) rfl rfl rfl ⟨rfl, rfl⟩) ?_)
  refine dw_gd (d := (some 87)) (.agg #[.int .i64 c, .int .i64 k]) rfl (by show ((sEq (decPrint (⟨c, k⟩ : Dec)) (rPrintDec (⟨c, k⟩ : Dec))) == true) = true; rw [h6]; rfl) rfl (st_lda (vs := [.int .i64 c, .int .i64 k]) agg26 1 rfl rfl rfl rfl rfl rfl ⟨rfl, rfl⟩) (dw_gd (d := (some 88)) (.agg #[.int .i64 ((rDecIv (⟨c, k⟩ : Dec)).lo), .int .i64 ((rDecIv (⟨c, k⟩ : Dec)).hi), .bool ((rDecIv (⟨c, k⟩ : Dec)).no)]) rfl (by show ((sEq (decPrint (⟨c, k⟩ : Dec)) (rPrintDec (⟨c, k⟩ : Dec))) == true) = true; rw [h6]; rfl) rfl (st_cf (c_rDecIv (⟨c, k⟩ : Dec)) Tryz.func36 rfl (by decide) rfl rfl rfl ⟨rfl, rfl⟩) ?_)
  refine dw_gd (d := (some 89)) (.bool (decide ((decOf (⟨c, k⟩ : Dec)) = (rDecIv (⟨c, k⟩ : Dec))))) rfl (by show ((sEq (decPrint (⟨c, k⟩ : Dec)) (rPrintDec (⟨c, k⟩ : Dec))) == true) = true; rw [h6]; rfl) rfl (st_bi (r := .bool (decide ((decOf (⟨c, k⟩ : Dec)) = (rDecIv (⟨c, k⟩ : Dec))))) rfl rfl rfl (beql_32 (decOf (⟨c, k⟩ : Dec)) (rDecIv (⟨c, k⟩ : Dec)) rfl) ⟨rfl, rfl⟩) (dw_op (d := some 90) _ rfl rfl rfl (st_pkt' (b := sEq (decPrint (⟨c, k⟩ : Dec)) (rPrintDec (⟨c, k⟩ : Dec))) (v := .bool (decide ((decOf (⟨c, k⟩ : Dec)) = (rDecIv (⟨c, k⟩ : Dec))))) h6 rfl rfl rfl ⟨rfl, rfl⟩) ?_)
  refine dw_op (d := some 91) _ rfl rfl rfl (st_move (v := .bool (decide ((decOf (⟨c, k⟩ : Dec)) = (rDecIv (⟨c, k⟩ : Dec))))) rfl rfl ⟨rfl, rfl⟩) (bool_split (decide ((decOf (⟨c, k⟩ : Dec)) = (rDecIv (⟨c, k⟩ : Dec)))) (fun h7 => ?_) (fun h7 => nomatch (show false = true from (show (lawDecTells n scale bend raw c k e f wide) = _ from (eT h1 (eT h2 (eT h3 (eT h4 (eT h5 (eT h6 (eF h7 rfl)))))))).symm.trans H)))
  refine dw_gd (d := (some 92)) (.agg #[.int .i64 c, .int .i64 k]) rfl (by show ((decide ((decOf (⟨c, k⟩ : Dec)) = (rDecIv (⟨c, k⟩ : Dec)))) == true) = true; rw [h7]; rfl) rfl (st_lda (vs := [.int .i64 c, .int .i64 k]) agg26 1 rfl rfl rfl rfl rfl rfl ⟨rfl, rfl⟩) (dw_gd (d := (some 93)) (.agg #[.int .i64 (w64 ((hPick e 2000000) - 1000000)), .int .i64 (w64 ((hPick f 8) - 1))]) rfl (by show ((decide ((decOf (⟨c, k⟩ : Dec)) = (rDecIv (⟨c, k⟩ : Dec)))) == true) = true; rw [h7]; rfl) rfl (st_lda (vs := [.int .i64 (w64 ((hPick e 2000000) - 1000000)), .int .i64 (w64 ((hPick f 8) - 1))]) agg26 0 rfl rfl rfl rfl rfl rfl ⟨rfl, rfl⟩) ?_)
  refine dw_gd (d := (some 94)) (.bool (lawDecTells_e0 n scale bend raw c k e f wide)) rfl (by show ((decide ((decOf (⟨c, k⟩ : Dec)) = (rDecIv (⟨c, k⟩ : Dec)))) == true) = true; rw [h7]; rfl) rfl (st_cf (c_decLess (⟨c, k⟩ : Dec) (⟨w64 ((hPick e 2000000) - 1000000), w64 ((hPick f 8) - 1)⟩ : Dec)) Tryz.func37 rfl (by decide) rfl rfl rfl ⟨rfl, rfl⟩) (dw_gd (d := (some 95)) (.agg #[.int .i64 c, .int .i64 k]) rfl (by show ((decide ((decOf (⟨c, k⟩ : Dec)) = (rDecIv (⟨c, k⟩ : Dec)))) == true) = true; rw [h7]; rfl) rfl (st_lda (vs := [.int .i64 c, .int .i64 k]) agg26 1 rfl rfl rfl rfl rfl rfl ⟨rfl, rfl⟩) ?_)
  refine dw_gd (d := (some 96)) (.agg #[.int .i64 (w64 ((hPick e 2000000) - 1000000)), .int .i64 (w64 ((hPick f 8) - 1))]) rfl (by show ((decide ((decOf (⟨c, k⟩ : Dec)) = (rDecIv (⟨c, k⟩ : Dec)))) == true) = true; rw [h7]; rfl) rfl (st_lda (vs := [.int .i64 (w64 ((hPick e 2000000) - 1000000)), .int .i64 (w64 ((hPick f 8) - 1))]) agg26 0 rfl rfl rfl rfl rfl rfl ⟨rfl, rfl⟩) ?_
  refine dw_gd (d := (some 97)) (.bool (lawDecTells_e1 n scale bend raw c k e f wide)) rfl (by show ((decide ((decOf (⟨c, k⟩ : Dec)) = (rDecIv (⟨c, k⟩ : Dec)))) == true) = true; rw [h7]; rfl) rfl (st_cf (c_rDecLess (⟨c, k⟩ : Dec) (⟨w64 ((hPick e 2000000) - 1000000), w64 ((hPick f 8) - 1)⟩ : Dec)) Tryz.func38 rfl (by decide) rfl rfl rfl ⟨rfl, rfl⟩) ?_
  refine dw_gd (d := (some 98)) (.bool ((lawDecTells_e0 n scale bend raw c k e f wide) == (lawDecTells_e1 n scale bend raw c k e f wide))) rfl (by show ((decide ((decOf (⟨c, k⟩ : Dec)) = (rDecIv (⟨c, k⟩ : Dec)))) == true) = true; rw [h7]; rfl) rfl (st_bi (r := .bool ((lawDecTells_e0 n scale bend raw c k e f wide) == (lawDecTells_e1 n scale bend raw c k e f wide))) rfl rfl rfl (bb_eql Tryz.underlying4 rfl) ⟨rfl, rfl⟩) (dw_op (d := some 99) _ rfl rfl rfl (st_pkt' (b := decide ((decOf (⟨c, k⟩ : Dec)) = (rDecIv (⟨c, k⟩ : Dec)))) (v := .bool ((lawDecTells_e0 n scale bend raw c k e f wide) == (lawDecTells_e1 n scale bend raw c k e f wide))) h7 rfl rfl rfl ⟨rfl, rfl⟩) ?_)
  refine dw_op (d := some 100) _ rfl rfl rfl (st_move (v := .bool ((lawDecTells_e0 n scale bend raw c k e f wide) == (lawDecTells_e1 n scale bend raw c k e f wide))) rfl rfl ⟨rfl, rfl⟩) (bool_split ((lawDecTells_e0 n scale bend raw c k e f wide) == (lawDecTells_e1 n scale bend raw c k e f wide)) (fun h8 => ?_) (fun h8 => nomatch (show false = true from (show (lawDecTells n scale bend raw c k e f wide) = _ from (eT h1 (eT h2 (eT h3 (eT h4 (eT h5 (eT h6 (eT h7 (eF h8 rfl))))))))).symm.trans H)))
  refine dw_gd (d := (some 101)) (.agg #[.int .i64 (w64 ((hPick e 2000000) - 1000000)), .int .i64 (w64 ((hPick f 8) - 1))]) rfl (by show (((lawDecTells_e0 n scale bend raw c k e f wide) == (lawDecTells_e1 n scale bend raw c k e f wide)) == true) = true; rw [h8]; rfl) rfl (st_lda (vs := [.int .i64 (w64 ((hPick e 2000000) - 1000000)), .int .i64 (w64 ((hPick f 8) - 1))]) agg26 0 rfl rfl rfl rfl rfl rfl ⟨rfl, rfl⟩) ?_
  refine dw_gd (d := (some 102)) (.agg #[.int .i64 c, .int .i64 k]) rfl (by show (((lawDecTells_e0 n scale bend raw c k e f wide) == (lawDecTells_e1 n scale bend raw c k e f wide)) == true) = true; rw [h8]; rfl) rfl (st_lda (vs := [.int .i64 c, .int .i64 k]) agg26 1 rfl rfl rfl rfl rfl rfl ⟨rfl, rfl⟩) (dw_gd (d := (some 103)) (.bool (lawDecTells_e2 n scale bend raw c k e f wide)) rfl (by show (((lawDecTells_e0 n scale bend raw c k e f wide) == (lawDecTells_e1 n scale bend raw c k e f wide)) == true) = true; rw [h8]; rfl) rfl (st_cf (c_decLess (⟨w64 ((hPick e 2000000) - 1000000), w64 ((hPick f 8) - 1)⟩ : Dec) (⟨c, k⟩ : Dec)) Tryz.func37 rfl (by decide) rfl rfl rfl ⟨rfl, rfl⟩) ?_)
  refine dw_gd (d := (some 104)) (.agg #[.int .i64 (w64 ((hPick e 2000000) - 1000000)), .int .i64 (w64 ((hPick f 8) - 1))]) rfl (by show (((lawDecTells_e0 n scale bend raw c k e f wide) == (lawDecTells_e1 n scale bend raw c k e f wide)) == true) = true; rw [h8]; rfl) rfl (st_lda (vs := [.int .i64 (w64 ((hPick e 2000000) - 1000000)), .int .i64 (w64 ((hPick f 8) - 1))]) agg26 0 rfl rfl rfl rfl rfl rfl ⟨rfl, rfl⟩) ?_
  refine dw_gd (d := (some 105)) (.agg #[.int .i64 c, .int .i64 k]) rfl (by show (((lawDecTells_e0 n scale bend raw c k e f wide) == (lawDecTells_e1 n scale bend raw c k e f wide)) == true) = true; rw [h8]; rfl) rfl (st_lda (vs := [.int .i64 c, .int .i64 k]) agg26 1 rfl rfl rfl rfl rfl rfl ⟨rfl, rfl⟩) ?_
  refine dw_gd (d := (some 106)) (.bool (lawDecTells_e3 n scale bend raw c k e f wide)) rfl (by show (((lawDecTells_e0 n scale bend raw c k e f wide) == (lawDecTells_e1 n scale bend raw c k e f wide)) == true) = true; rw [h8]; rfl) rfl (st_cf (c_rDecLess (⟨w64 ((hPick e 2000000) - 1000000), w64 ((hPick f 8) - 1)⟩ : Dec) (⟨c, k⟩ : Dec)) Tryz.func38 rfl (by decide) rfl rfl rfl ⟨rfl, rfl⟩) ?_
  refine dw_gd (d := (some 107)) (.bool ((lawDecTells_e2 n scale bend raw c k e f wide) == (lawDecTells_e3 n scale bend raw c k e f wide))) rfl (by show (((lawDecTells_e0 n scale bend raw c k e f wide) == (lawDecTells_e1 n scale bend raw c k e f wide)) == true) = true; rw [h8]; rfl) rfl (st_bi (r := .bool ((lawDecTells_e2 n scale bend raw c k e f wide) == (lawDecTells_e3 n scale bend raw c k e f wide))) rfl rfl rfl (bb_eql Tryz.underlying4 rfl) ⟨rfl, rfl⟩) ?_
  refine dw_op (d := some 108) _ rfl rfl rfl (st_pkt' (b := (lawDecTells_e0 n scale bend raw c k e f wide) == (lawDecTells_e1 n scale bend raw c k e f wide)) (v := .bool ((lawDecTells_e2 n scale bend raw c k e f wide) == (lawDecTells_e3 n scale bend raw c k e f wide))) h8 rfl rfl rfl ⟨rfl, rfl⟩) (dw_op (d := some 109) _ rfl rfl rfl (st_move (v := .bool ((lawDecTells_e2 n scale bend raw c k e f wide) == (lawDecTells_e3 n scale bend raw c k e f wide))) rfl rfl ⟨rfl, rfl⟩) ?_)
  refine bool_split ((lawDecTells_e2 n scale bend raw c k e f wide) == (lawDecTells_e3 n scale bend raw c k e f wide)) (fun h9 => ?_) (fun h9 => nomatch (show false = true from (show (lawDecTells n scale bend raw c k e f wide) = _ from (eT h1 (eT h2 (eT h3 (eT h4 (eT h5 (eT h6 (eT h7 (eT h8 (eF h9 rfl)))))))))).symm.trans H))
  refine dw_gd (d := (some 110)) (.agg #[.int .i64 (((decRead (txt9 n scale bend raw)).1).c), .int .i64 (((decRead (txt9 n scale bend raw)).1).scale)]) rfl (by show (((lawDecTells_e2 n scale bend raw c k e f wide) == (lawDecTells_e3 n scale bend raw c k e f wide)) == true) = true; rw [h9]; rfl) rfl (st_lda (vs := [.int .i64 (((decRead (txt9 n scale bend raw)).1).c), .int .i64 (((decRead (txt9 n scale bend raw)).1).scale)]) agg26 3 rfl rfl rfl rfl rfl rfl ⟨rfl, rfl⟩) ?_
  refine dw_gd (d := (some 111)) (.string (decPrint ((decRead (txt9 n scale bend raw)).1))) rfl (by show (((lawDecTells_e2 n scale bend raw c k e f wide) == (lawDecTells_e3 n scale bend raw c k e f wide)) == true) = true; rw [h9]; rfl) rfl (st_gr (R := [powBox tP]) (r := .string (decPrint ((decRead (txt9 n scale bend raw)).1))) (c_decPrint ((decRead (txt9 n scale bend raw)).1) tP) Tryz.func33 rfl (by decide) rfl rfl rfl (has_cons 4 _ rfl rfl rfl rfl has_nil) (by simp) ⟨rfl, rfl⟩) ?_
  refine dw_gd (d := (some 112)) (.agg #[.int .i64 ((rRead (txt9 n scale bend raw)).1.c), .int .i64 ((rRead (txt9 n scale bend raw)).1.scale)]) rfl (by show (((lawDecTells_e2 n scale bend raw c k e f wide) == (lawDecTells_e3 n scale bend raw c k e f wide)) == true) = true; rw [h9]; rfl) rfl (st_lda (vs := [.int .i64 ((rRead (txt9 n scale bend raw)).1.c), .int .i64 ((rRead (txt9 n scale bend raw)).1.scale)]) agg26 2 rfl rfl rfl rfl rfl rfl ⟨rfl, rfl⟩) ?_
  refine dw_gd (d := (some 113)) (.string (lawDecTells_e4 n scale bend raw c k e f wide)) rfl (by show (((lawDecTells_e2 n scale bend raw c k e f wide) == (lawDecTells_e3 n scale bend raw c k e f wide)) == true) = true; rw [h9]; rfl) rfl (st_cf (c_rPrintDec (⟨(rRead (txt9 n scale bend raw)).1.c, (rRead (txt9 n scale bend raw)).1.scale⟩ : Dec)) Tryz.func34 rfl (by decide) rfl rfl rfl ⟨rfl, rfl⟩) ?_
  refine dw_gd (d := (some 114)) (.bool (sEq (decPrint ((decRead (txt9 n scale bend raw)).1)) (lawDecTells_e4 n scale bend raw c k e f wide))) rfl (by show (((lawDecTells_e2 n scale bend raw c k e f wide) == (lawDecTells_e3 n scale bend raw c k e f wide)) == true) = true; rw [h9]; rfl) rfl (st_bi (r := .bool (sEq (decPrint ((decRead (txt9 n scale bend raw)).1)) (lawDecTells_e4 n scale bend raw c k e f wide))) rfl rfl rfl (bi_seql rfl) ⟨rfl, rfl⟩) ?_
  refine dw_op (d := some 115) _ rfl rfl rfl (st_pkt' (b := (lawDecTells_e2 n scale bend raw c k e f wide) == (lawDecTells_e3 n scale bend raw c k e f wide)) (v := .bool (sEq (decPrint ((decRead (txt9 n scale bend raw)).1)) (lawDecTells_e4 n scale bend raw c k e f wide))) h9 rfl rfl rfl ⟨rfl, rfl⟩) (dw_op (d := some 18) _ rfl rfl rfl (st_assign (v := .bool (sEq (decPrint ((decRead (txt9 n scale bend raw)).1)) (lawDecTells_e4 n scale bend raw c k e f wide))) rfl rfl ⟨rfl, rfl⟩) (dw_nil (aN (ac_ret ?_))))
  exact fin_eq (v := .bool (sEq (decPrint ((decRead (txt9 n scale bend raw)).1)) (lawDecTells_e4 n scale bend raw c k e f wide))) (congrArg Value.bool (show (sEq (decPrint ((decRead (txt9 n scale bend raw)).1)) (lawDecTells_e4 n scale bend raw c k e f wide)) = true from (show (lawDecTells n scale bend raw c k e f wide) = _ from (eT h1 (eT h2 (eT h3 (eT h4 (eT h5 (eT h6 (eT h7 (eT h8 (eT h9 rfl)))))))))).symm.trans H)) (fin_ret (res_tmp rfl rfl))
 ·refine ac_else' (b := wide) h1 rfl (ac_skip (aQ ?_))
  refine ac_draw0 (id := 8) [0, 1, 2, 3, 4, 5, 6, 7, 8, 9, 10, 11, 12, 13, 14, 15, 16, 17, 18, 19, 20, 21, 22, 23, 24, 25, 26, 27, 28, 29, 30, 31, 32, 33, 34, 35, 36, 37, 38, 39, 40, 41, 42, 43, 44, 45, 46, 47, 48, 49, 50, 51, 52, 53, 54, 55, 56, 57] [] _ (by kernel_rfl) follows rfl  (dw_op (d := some 59) _ rfl rfl rfl (st_gr (R := [powBox tP]) (r := .bool known9) (c_known9 tP) Tryz.func30 rfl (by decide) rfl rfl rfl (has_cons 4 _ rfl rfl rfl rfl has_nil) (by simp) ⟨rfl, rfl⟩) (dw_op (d := some 60) _ rfl rfl rfl (st_move (v := .bool known9) rfl rfl ⟨rfl, rfl⟩) ?_))
  refine bool_split (known9) (fun h2 => ?_) (fun h2 => nomatch (show false = true from (show (lawDecTells n scale bend raw c k e f wide) = _ from (eF h1 (eF h2 rfl))).symm.trans H))
  refine dw_gd (d := (some 61)) (.agg #[.int .i64 (((decRead (txt9 n scale bend raw)).1).c), .int .i64 (((decRead (txt9 n scale bend raw)).1).scale)]) rfl (by show (known9 == true) = true; rw [h2]; rfl) rfl (st_lda (vs := [.int .i64 (((decRead (txt9 n scale bend raw)).1).c), .int .i64 (((decRead (txt9 n scale bend raw)).1).scale)]) agg26 3 rfl rfl rfl rfl rfl rfl ⟨rfl, rfl⟩) ?_
  refine dw_gd (d := (some 62)) (.agg #[.int .i64 ((rRead (txt9 n scale bend raw)).1.c), .int .i64 ((rRead (txt9 n scale bend raw)).1.scale)]) rfl (by show (known9 == true) = true; rw [h2]; rfl) rfl (st_lda (vs := [.int .i64 ((rRead (txt9 n scale bend raw)).1.c), .int .i64 ((rRead (txt9 n scale bend raw)).1.scale)]) agg26 2 rfl rfl rfl rfl rfl rfl ⟨rfl, rfl⟩) ?_
  refine dw_gd (d := (some 63)) (.bool (decide (((decRead (txt9 n scale bend raw)).1) = (⟨(rRead (txt9 n scale bend raw)).1.c, (rRead (txt9 n scale bend raw)).1.scale⟩ : Dec)))) rfl (by show (known9 == true) = true; rw [h2]; rfl) rfl (st_bi (r := .bool (decide (((decRead (txt9 n scale bend raw)).1) = (⟨(rRead (txt9 n scale bend raw)).1.c, (rRead (txt9 n scale bend raw)).1.scale⟩ : Dec)))) rfl rfl rfl (beql_26 ((decRead (txt9 n scale bend raw)).1) (⟨(rRead (txt9 n scale bend raw)).1.c, (rRead (txt9 n scale bend raw)).1.scale⟩ : Dec) rfl) ⟨rfl, rfl⟩) ?_
  refine dw_op (d := some 64) _ rfl rfl rfl (st_pkt' (b := known9) (v := .bool (decide (((decRead (txt9 n scale bend raw)).1) = (⟨(rRead (txt9 n scale bend raw)).1.c, (rRead (txt9 n scale bend raw)).1.scale⟩ : Dec)))) h2 rfl rfl rfl ⟨rfl, rfl⟩) (dw_op (d := some 65) _ rfl rfl rfl (st_move (v := .bool (decide (((decRead (txt9 n scale bend raw)).1) = (⟨(rRead (txt9 n scale bend raw)).1.c, (rRead (txt9 n scale bend raw)).1.scale⟩ : Dec)))) rfl rfl ⟨rfl, rfl⟩) ?_)
  refine bool_split (decide (((decRead (txt9 n scale bend raw)).1) = (⟨(rRead (txt9 n scale bend raw)).1.c, (rRead (txt9 n scale bend raw)).1.scale⟩ : Dec))) (fun h3 => ?_) (fun h3 => nomatch (show false = true from (show (lawDecTells n scale bend raw c k e f wide) = _ from (eF h1 (eT h2 (eF h3 rfl)))).symm.trans H))
  refine dw_gd (d := (some 66)) (.bool ((decRead (txt9 n scale bend raw)).2)) rfl (by show ((decide (((decRead (txt9 n scale bend raw)).1) = (⟨(rRead (txt9 n scale bend raw)).1.c, (rRead (txt9 n scale bend raw)).1.scale⟩ : Dec))) == true) = true; rw [h3]; rfl) rfl (st_move (v := .bool ((decRead (txt9 n scale bend raw)).2)) rfl rfl ⟨rfl, rfl⟩) (dw_gd (d := (some 67)) (.bool ((rRead (txt9 n scale bend raw)).2)) rfl (by show ((decide (((decRead (txt9 n scale bend raw)).1) = (⟨(rRead (txt9 n scale bend raw)).1.c, (rRead (txt9 n scale bend raw)).1.scale⟩ : Dec))) == true) = true; rw [h3]; rfl) rfl (st_move (v := .bool ((rRead (txt9 n scale bend raw)).2)) rfl rfl ⟨rfl, rfl⟩) ?_)
  refine dw_gd (d := (some 68)) (.bool (((decRead (txt9 n scale bend raw)).2) == ((rRead (txt9 n scale bend raw)).2))) rfl (by show ((decide (((decRead (txt9 n scale bend raw)).1) = (⟨(rRead (txt9 n scale bend raw)).1.c, (rRead (txt9 n scale bend raw)).1.scale⟩ : Dec))) == true) = true; rw [h3]; rfl) rfl (st_bi (r := .bool (((decRead (txt9 n scale bend raw)).2) == ((rRead (txt9 n scale bend raw)).2))) rfl rfl rfl (bb_eql Tryz.underlying4 rfl) ⟨rfl, rfl⟩) ?_
  refine dw_op (d := some 69) _ rfl rfl rfl (st_pkt' (b := decide (((decRead (txt9 n scale bend raw)).1) = (⟨(rRead (txt9 n scale bend raw)).1.c, (rRead (txt9 n scale bend raw)).1.scale⟩ : Dec))) (v := .bool (((decRead (txt9 n scale bend raw)).2) == ((rRead (txt9 n scale bend raw)).2))) h3 rfl rfl rfl ⟨rfl, rfl⟩) (dw_op (d := some 70) _ rfl rfl rfl (st_move (v := .bool (((decRead (txt9 n scale bend raw)).2) == ((rRead (txt9 n scale bend raw)).2))) rfl rfl ⟨rfl, rfl⟩) ?_)
  refine bool_split (((decRead (txt9 n scale bend raw)).2) == ((rRead (txt9 n scale bend raw)).2)) (fun h4 => ?_) (fun h4 => nomatch (show false = true from (show (lawDecTells n scale bend raw c k e f wide) = _ from (eF h1 (eT h2 (eT h3 (eF h4 rfl))))).symm.trans H))
  refine dw_gd (d := (some 71)) (.agg #[.int .i64 (w64 ((hPick c 2000000) - 1000000)), .int .i64 (w64 ((hPick k 8) - 1))]) rfl (by show ((((decRead (txt9 n scale bend raw)).2) == ((rRead (txt9 n scale bend raw)).2)) == true) = true; rw [h4]; rfl) rfl (st_lda (vs := [.int .i64 (w64 ((hPick c 2000000) - 1000000)), .int .i64 (w64 ((hPick k 8) - 1))]) agg26 1 rfl rfl rfl rfl rfl rfl ⟨rfl, rfl⟩) ?_
  refine dw_gd (d := (some 72)) (.bool (lawDecTells_e5 n scale bend raw c k e f wide)) rfl (by show ((((decRead (txt9 n scale bend raw)).2) == ((rRead (txt9 n scale bend raw)).2)) == true) = true; rw [h4]; rfl) rfl (st_cf (c_decRight (⟨w64 ((hPick c 2000000) - 1000000), w64 ((hPick k 8) - 1)⟩ : Dec)) Tryz.func31 rfl (by decide) rfl rfl rfl ⟨rfl, rfl⟩) ?_
  refine dw_gd (d := (some 73)) (.agg #[.int .i64 (w64 ((hPick c 2000000) - 1000000)), .int .i64 (w64 ((hPick k 8) - 1))]) rfl (by show ((((decRead (txt9 n scale bend raw)).2) == ((rRead (txt9 n scale bend raw)).2)) == true) = true; rw [h4]; rfl) rfl (st_lda (vs := [.int .i64 (w64 ((hPick c 2000000) - 1000000)), .int .i64 (w64 ((hPick k 8) - 1))]) agg26 1 rfl rfl rfl rfl rfl rfl ⟨rfl, rfl⟩) ?_
  refine dw_gd (d := (some 74)) (.bool (lawDecTells_e6 n scale bend raw c k e f wide)) rfl (by show ((((decRead (txt9 n scale bend raw)).2) == ((rRead (txt9 n scale bend raw)).2)) == true) = true; rw [h4]; rfl) rfl (st_cf (c_rRightDec (⟨w64 ((hPick c 2000000) - 1000000), w64 ((hPick k 8) - 1)⟩ : Dec)) Tryz.func32 rfl (by decide) rfl rfl rfl ⟨rfl, rfl⟩) ?_
  refine dw_gd (d := (some 75)) (.bool ((lawDecTells_e5 n scale bend raw c k e f wide) == (lawDecTells_e6 n scale bend raw c k e f wide))) rfl (by show ((((decRead (txt9 n scale bend raw)).2) == ((rRead (txt9 n scale bend raw)).2)) == true) = true; rw [h4]; rfl) rfl (st_bi (r := .bool ((lawDecTells_e5 n scale bend raw c k e f wide) == (lawDecTells_e6 n scale bend raw c k e f wide))) rfl rfl rfl (bb_eql Tryz.underlying4 rfl) ⟨rfl, rfl⟩) ?_
  refine dw_op (d := some 76) _ rfl rfl rfl (st_pkt' (b := ((decRead (txt9 n scale bend raw)).2) == ((rRead (txt9 n scale bend raw)).2)) (v := .bool ((lawDecTells_e5 n scale bend raw c k e f wide) == (lawDecTells_e6 n scale bend raw c k e f wide))) h4 rfl rfl rfl ⟨rfl, rfl⟩) (dw_op (d := some 77) _ rfl rfl rfl (st_move (v := .bool ((lawDecTells_e5 n scale bend raw c k e f wide) == (lawDecTells_e6 n scale bend raw c k e f wide))) rfl rfl ⟨rfl, rfl⟩) ?_)
  refine bool_split ((lawDecTells_e5 n scale bend raw c k e f wide) == (lawDecTells_e6 n scale bend raw c k e f wide)) (fun h5 => ?_) (fun h5 => nomatch (show false = true from (show (lawDecTells n scale bend raw c k e f wide) = _ from (eF h1 (eT h2 (eT h3 (eT h4 (eF h5 rfl)))))).symm.trans H))
  refine dw_gd (d := (some 78)) (.agg #[.int .i64 (w64 ((hPick c 2000000) - 1000000)), .int .i64 (w64 ((hPick k 8) - 1))]) rfl (by show (((lawDecTells_e5 n scale bend raw c k e f wide) == (lawDecTells_e6 n scale bend raw c k e f wide)) == true) = true; rw [h5]; rfl) rfl (st_lda (vs := [.int .i64 (w64 ((hPick c 2000000) - 1000000)), .int .i64 (w64 ((hPick k 8) - 1))]) agg26 1 rfl rfl rfl rfl rfl rfl ⟨rfl, rfl⟩) ?_
  refine dw_gd (d := (some 79)) (.string (decPrint (⟨w64 ((hPick c 2000000) - 1000000), w64 ((hPick k 8) - 1)⟩ : Dec))) rfl (by show (((lawDecTells_e5 n scale bend raw c k e f wide) == (lawDecTells_e6 n scale bend raw c k e f wide)) == true) = true; rw [h5]; rfl) rfl (st_gr (R := [powBox tP]) (r := .string (decPrint (⟨w64 ((hPick c 2000000) - 1000000), w64 ((hPick k 8) - 1)⟩ : Dec))) (c_decPrint (⟨w64 ((hPick c 2000000) - 1000000), w64 ((hPick k 8) - 1)⟩ : Dec) tP) Tryz.func33 rfl (by decide) rfl rfl rfl (has_cons 4 _ rfl rfl rfl rfl has_nil) (by simp) ⟨rfl, rfl⟩) ?_
  refine dw_gd (d := (some 80)) (.agg #[.int .i64 (w64 ((hPick c 2000000) - 1000000)), .int .i64 (w64 ((hPick k 8) - 1))]) rfl (by show (((lawDecTells_e5 n scale bend raw c k e f wide) == (lawDecTells_e6 n scale bend raw c k e f wide)) == true) = true; rw [h5]; rfl) rfl (st_lda (vs := [.int .i64 (w64 ((hPick c 2000000) - 1000000)), .int .i64 (w64 ((hPick k 8) - 1))]) agg26 1 rfl rfl rfl rfl rfl rfl ⟨rfl, rfl⟩) ?_
  refine dw_gd (d := (some 81)) (.string (lawDecTells_e7 n scale bend raw c k e f wide)) rfl (by show (((lawDecTells_e5 n scale bend raw c k e f wide) == (lawDecTells_e6 n scale bend raw c k e f wide)) == true) = true; rw [h5]; rfl) rfl (st_cf (c_rPrintDec (⟨w64 ((hPick c 2000000) - 1000000), w64 ((hPick k 8) - 1)⟩ : Dec)) Tryz.func34 rfl (by decide) rfl rfl rfl ⟨rfl, rfl⟩) ?_
  refine dw_gd (d := (some 82)) (.bool (sEq (decPrint (⟨w64 ((hPick c 2000000) - 1000000), w64 ((hPick k 8) - 1)⟩ : Dec)) (lawDecTells_e7 n scale bend raw c k e f wide))) rfl (by show (((lawDecTells_e5 n scale bend raw c k e f wide) == (lawDecTells_e6 n scale bend raw c k e f wide)) == true) = true; rw [h5]; rfl) rfl (st_bi (r := .bool (sEq (decPrint (⟨w64 ((hPick c 2000000) - 1000000), w64 ((hPick k 8) - 1)⟩ : Dec)) (lawDecTells_e7 n scale bend raw c k e f wide))) rfl rfl rfl (bi_seql rfl) ⟨rfl, rfl⟩) ?_
  refine dw_op (d := some 83) _ rfl rfl rfl (st_pkt' (b := (lawDecTells_e5 n scale bend raw c k e f wide) == (lawDecTells_e6 n scale bend raw c k e f wide)) (v := .bool (sEq (decPrint (⟨w64 ((hPick c 2000000) - 1000000), w64 ((hPick k 8) - 1)⟩ : Dec)) (lawDecTells_e7 n scale bend raw c k e f wide))) h5 rfl rfl rfl ⟨rfl, rfl⟩) (dw_op (d := some 84) _ rfl rfl rfl (st_move (v := .bool (sEq (decPrint (⟨w64 ((hPick c 2000000) - 1000000), w64 ((hPick k 8) - 1)⟩ : Dec)) (lawDecTells_e7 n scale bend raw c k e f wide))) rfl rfl ⟨rfl, rfl⟩) ?_)
  refine bool_split (sEq (decPrint (⟨w64 ((hPick c 2000000) - 1000000), w64 ((hPick k 8) - 1)⟩ : Dec)) (lawDecTells_e7 n scale bend raw c k e f wide)) (fun h6 => ?_) (fun h6 => nomatch (show false = true from (show (lawDecTells n scale bend raw c k e f wide) = _ from (eF h1 (eT h2 (eT h3 (eT h4 (eT h5 (eF h6 rfl))))))).symm.trans H))
  refine dw_gd (d := (some 85)) (.agg #[.int .i64 (w64 ((hPick c 2000000) - 1000000)), .int .i64 (w64 ((hPick k 8) - 1))]) rfl (by show ((sEq (decPrint (⟨w64 ((hPick c 2000000) - 1000000), w64 ((hPick k 8) - 1)⟩ : Dec)) (lawDecTells_e7 n scale bend raw c k e f wide)) == true) = true; rw [h6]; rfl) rfl (st_lda (vs := [.int .i64 (w64 ((hPick c 2000000) - 1000000)), .int .i64 (w64 ((hPick k 8) - 1))]) agg26 1 rfl rfl rfl rfl rfl rfl ⟨rfl, rfl⟩) ?_
  refine dw_gd (d := (some 86)) (.agg #[.int .i64 ((lawDecTells_e8 n scale bend raw c k e f wide).lo), .int .i64 ((lawDecTells_e8 n scale bend raw c k e f wide).hi), .bool ((lawDecTells_e8 n scale bend raw c k e f wide).no)]) rfl (by show ((sEq (decPrint (⟨w64 ((hPick c 2000000) - 1000000), w64 ((hPick k 8) - 1)⟩ : Dec)) (lawDecTells_e7 n scale bend raw c k e f wide)) == true) = true; rw [h6]; rfl) rfl (st_cf (c_decOf (⟨w64 ((hPick c 2000000) - 1000000), w64 ((hPick k 8) - 1)⟩ : Dec)) Tryz.func35 rfl (by decide) rfl rfl rfl ⟨rfl, rfl⟩) ?_
  refine dw_gd (d := (some 87)) (.agg #[.int .i64 (w64 ((hPick c 2000000) - 1000000)), .int .i64 (w64 ((hPick k 8) - 1))]) rfl (by show ((sEq (decPrint (⟨w64 ((hPick c 2000000) - 1000000), w64 ((hPick k 8) - 1)⟩ : Dec)) (lawDecTells_e7 n scale bend raw c k e f wide)) == true) = true; rw [h6]; rfl) rfl (st_lda (vs := [.int .i64 (w64 ((hPick c 2000000) - 1000000)), .int .i64 (w64 ((hPick k 8) - 1))]) agg26 1 rfl rfl rfl rfl rfl rfl ⟨rfl, rfl⟩) ?_
  refine dw_gd (d := (some 88)) (.agg #[.int .i64 ((lawDecTells_e9 n scale bend raw c k e f wide).lo), .int .i64 ((lawDecTells_e9 n scale bend raw c k e f wide).hi), .bool ((lawDecTells_e9 n scale bend raw c k e f wide).no)]) rfl (by show ((sEq (decPrint (⟨w64 ((hPick c 2000000) - 1000000), w64 ((hPick k 8) - 1)⟩ : Dec)) (lawDecTells_e7 n scale bend raw c k e f wide)) == true) = true; rw [h6]; rfl) rfl (st_cf (c_rDecIv (⟨w64 ((hPick c 2000000) - 1000000), w64 ((hPick k 8) - 1)⟩ : Dec)) Tryz.func36 rfl (by decide) rfl rfl rfl ⟨rfl, rfl⟩) ?_
  refine dw_gd (d := (some 89)) (.bool (decide ((lawDecTells_e8 n scale bend raw c k e f wide) = (lawDecTells_e9 n scale bend raw c k e f wide)))) rfl (by show ((sEq (decPrint (⟨w64 ((hPick c 2000000) - 1000000), w64 ((hPick k 8) - 1)⟩ : Dec)) (lawDecTells_e7 n scale bend raw c k e f wide)) == true) = true; rw [h6]; rfl) rfl (st_bi (r := .bool (decide ((lawDecTells_e8 n scale bend raw c k e f wide) = (lawDecTells_e9 n scale bend raw c k e f wide)))) rfl rfl rfl (beql_32 (lawDecTells_e8 n scale bend raw c k e f wide) (lawDecTells_e9 n scale bend raw c k e f wide) rfl) ⟨rfl, rfl⟩) ?_
  refine dw_op (d := some 90) _ rfl rfl rfl (st_pkt' (b := sEq (decPrint (⟨w64 ((hPick c 2000000) - 1000000), w64 ((hPick k 8) - 1)⟩ : Dec)) (lawDecTells_e7 n scale bend raw c k e f wide)) (v := .bool (decide ((lawDecTells_e8 n scale bend raw c k e f wide) = (lawDecTells_e9 n scale bend raw c k e f wide)))) h6 rfl rfl rfl ⟨rfl, rfl⟩) (dw_op (d := some 91) _ rfl rfl rfl (st_move (v := .bool (decide ((lawDecTells_e8 n scale bend raw c k e f wide) = (lawDecTells_e9 n scale bend raw c k e f wide)))) rfl rfl ⟨rfl, rfl⟩) ?_)
  refine bool_split (decide ((lawDecTells_e8 n scale bend raw c k e f wide) = (lawDecTells_e9 n scale bend raw c k e f wide))) (fun h7 => ?_) (fun h7 => nomatch (show false = true from (show (lawDecTells n scale bend raw c k e f wide) = _ from (eF h1 (eT h2 (eT h3 (eT h4 (eT h5 (eT h6 (eF h7 rfl)))))))).symm.trans H))
  refine dw_gd (d := (some 92)) (.agg #[.int .i64 (w64 ((hPick c 2000000) - 1000000)), .int .i64 (w64 ((hPick k 8) - 1))]) rfl (by show ((decide ((lawDecTells_e8 n scale bend raw c k e f wide) = (lawDecTells_e9 n scale bend raw c k e f wide))) == true) = true; rw [h7]; rfl) rfl (st_lda (vs := [.int .i64 (w64 ((hPick c 2000000) - 1000000)), .int .i64 (w64 ((hPick k 8) - 1))]) agg26 1 rfl rfl rfl rfl rfl rfl ⟨rfl, rfl⟩) ?_
  refine dw_gd (d := (some 93)) (.agg #[.int .i64 (w64 ((hPick e 2000000) - 1000000)), .int .i64 (w64 ((hPick f 8) - 1))]) rfl (by show ((decide ((lawDecTells_e8 n scale bend raw c k e f wide) = (lawDecTells_e9 n scale bend raw c k e f wide))) == true) = true; rw [h7]; rfl) rfl (st_lda (vs := [.int .i64 (w64 ((hPick e 2000000) - 1000000)), .int .i64 (w64 ((hPick f 8) - 1))]) agg26 0 rfl rfl rfl rfl rfl rfl ⟨rfl, rfl⟩) ?_
  refine dw_gd (d := (some 94)) (.bool (lawDecTells_e10 n scale bend raw c k e f wide)) rfl (by show ((decide ((lawDecTells_e8 n scale bend raw c k e f wide) = (lawDecTells_e9 n scale bend raw c k e f wide))) == true) = true; rw [h7]; rfl) rfl (st_cf (c_decLess (⟨w64 ((hPick c 2000000) - 1000000), w64 ((hPick k 8) - 1)⟩ : Dec) (⟨w64 ((hPick e 2000000) - 1000000), w64 ((hPick f 8) - 1)⟩ : Dec)) Tryz.func37 rfl (by decide) rfl rfl rfl ⟨rfl, rfl⟩) ?_
  refine dw_gd (d := (some 95)) (.agg #[.int .i64 (w64 ((hPick c 2000000) - 1000000)), .int .i64 (w64 ((hPick k 8) - 1))]) rfl (by show ((decide ((lawDecTells_e8 n scale bend raw c k e f wide) = (lawDecTells_e9 n scale bend raw c k e f wide))) == true) = true; rw [h7]; rfl) rfl (st_lda (vs := [.int .i64 (w64 ((hPick c 2000000) - 1000000)), .int .i64 (w64 ((hPick k 8) - 1))]) agg26 1 rfl rfl rfl rfl rfl rfl ⟨rfl, rfl⟩) ?_
  refine dw_gd (d := (some 96)) (.agg #[.int .i64 (w64 ((hPick e 2000000) - 1000000)), .int .i64 (w64 ((hPick f 8) - 1))]) rfl (by show ((decide ((lawDecTells_e8 n scale bend raw c k e f wide) = (lawDecTells_e9 n scale bend raw c k e f wide))) == true) = true; rw [h7]; rfl) rfl (st_lda (vs := [.int .i64 (w64 ((hPick e 2000000) - 1000000)), .int .i64 (w64 ((hPick f 8) - 1))]) agg26 0 rfl rfl rfl rfl rfl rfl ⟨rfl, rfl⟩) ?_
  refine dw_gd (d := (some 97)) (.bool (lawDecTells_e11 n scale bend raw c k e f wide)) rfl (by show ((decide ((lawDecTells_e8 n scale bend raw c k e f wide) = (lawDecTells_e9 n scale bend raw c k e f wide))) == true) = true; rw [h7]; rfl) rfl (st_cf (c_rDecLess (⟨w64 ((hPick c 2000000) - 1000000), w64 ((hPick k 8) - 1)⟩ : Dec) (⟨w64 ((hPick e 2000000) - 1000000), w64 ((hPick f 8) - 1)⟩ : Dec)) Tryz.func38 rfl (by decide) rfl rfl rfl ⟨rfl, rfl⟩) ?_
  refine dw_gd (d := (some 98)) (.bool ((lawDecTells_e10 n scale bend raw c k e f wide) == (lawDecTells_e11 n scale bend raw c k e f wide))) rfl (by show ((decide ((lawDecTells_e8 n scale bend raw c k e f wide) = (lawDecTells_e9 n scale bend raw c k e f wide))) == true) = true; rw [h7]; rfl) rfl (st_bi (r := .bool ((lawDecTells_e10 n scale bend raw c k e f wide) == (lawDecTells_e11 n scale bend raw c k e f wide))) rfl rfl rfl (bb_eql Tryz.underlying4 rfl) ⟨rfl, rfl⟩) ?_
  refine dw_op (d := some 99) _ rfl rfl rfl (st_pkt' (b := decide ((lawDecTells_e8 n scale bend raw c k e f wide) = (lawDecTells_e9 n scale bend raw c k e f wide))) (v := .bool ((lawDecTells_e10 n scale bend raw c k e f wide) == (lawDecTells_e11 n scale bend raw c k e f wide))) h7 rfl rfl rfl ⟨rfl, rfl⟩) (dw_op (d := some 100) _ rfl rfl rfl (st_move (v := .bool ((lawDecTells_e10 n scale bend raw c k e f wide) == (lawDecTells_e11 n scale bend raw c k e f wide))) rfl rfl ⟨rfl, rfl⟩) ?_)
  refine bool_split ((lawDecTells_e10 n scale bend raw c k e f wide) == (lawDecTells_e11 n scale bend raw c k e f wide)) (fun h8 => ?_) (fun h8 => nomatch (show false = true from (show (lawDecTells n scale bend raw c k e f wide) = _ from (eF h1 (eT h2 (eT h3 (eT h4 (eT h5 (eT h6 (eT h7 (eF h8 rfl))))))))).symm.trans H))
  refine dw_gd (d := (some 101)) (.agg #[.int .i64 (w64 ((hPick e 2000000) - 1000000)), .int .i64 (w64 ((hPick f 8) - 1))]) rfl (by show (((lawDecTells_e10 n scale bend raw c k e f wide) == (lawDecTells_e11 n scale bend raw c k e f wide)) == true) = true; rw [h8]; rfl) rfl (st_lda (vs := [.int .i64 (w64 ((hPick e 2000000) - 1000000)), .int .i64 (w64 ((hPick f 8) - 1))]) agg26 0 rfl rfl rfl rfl rfl rfl ⟨rfl, rfl⟩) ?_
  refine dw_gd (d := (some 102)) (.agg #[.int .i64 (w64 ((hPick c 2000000) - 1000000)), .int .i64 (w64 ((hPick k 8) - 1))]) rfl (by show (((lawDecTells_e10 n scale bend raw c k e f wide) == (lawDecTells_e11 n scale bend raw c k e f wide)) == true) = true; rw [h8]; rfl) rfl (st_lda (vs := [.int .i64 (w64 ((hPick c 2000000) - 1000000)), .int .i64 (w64 ((hPick k 8) - 1))]) agg26 1 rfl rfl rfl rfl rfl rfl ⟨rfl, rfl⟩) ?_
  refine dw_gd (d := (some 103)) (.bool (lawDecTells_e12 n scale bend raw c k e f wide)) rfl (by show (((lawDecTells_e10 n scale bend raw c k e f wide) == (lawDecTells_e11 n scale bend raw c k e f wide)) == true) = true; rw [h8]; rfl) rfl (st_cf (c_decLess (⟨w64 ((hPick e 2000000) - 1000000), w64 ((hPick f 8) - 1)⟩ : Dec) (⟨w64 ((hPick c 2000000) - 1000000), w64 ((hPick k 8) - 1)⟩ : Dec)) Tryz.func37 rfl (by decide) rfl rfl rfl ⟨rfl, rfl⟩) ?_
  refine dw_gd (d := (some 104)) (.agg #[.int .i64 (w64 ((hPick e 2000000) - 1000000)), .int .i64 (w64 ((hPick f 8) - 1))]) rfl (by show (((lawDecTells_e10 n scale bend raw c k e f wide) == (lawDecTells_e11 n scale bend raw c k e f wide)) == true) = true; rw [h8]; rfl) rfl (st_lda (vs := [.int .i64 (w64 ((hPick e 2000000) - 1000000)), .int .i64 (w64 ((hPick f 8) - 1))]) agg26 0 rfl rfl rfl rfl rfl rfl ⟨rfl, rfl⟩) ?_
  refine dw_gd (d := (some 105)) (.agg #[.int .i64 (w64 ((hPick c 2000000) - 1000000)), .int .i64 (w64 ((hPick k 8) - 1))]) rfl (by show (((lawDecTells_e10 n scale bend raw c k e f wide) == (lawDecTells_e11 n scale bend raw c k e f wide)) == true) = true; rw [h8]; rfl) rfl (st_lda (vs := [.int .i64 (w64 ((hPick c 2000000) - 1000000)), .int .i64 (w64 ((hPick k 8) - 1))]) agg26 1 rfl rfl rfl rfl rfl rfl ⟨rfl, rfl⟩) ?_
  refine dw_gd (d := (some 106)) (.bool (lawDecTells_e13 n scale bend raw c k e f wide)) rfl (by show (((lawDecTells_e10 n scale bend raw c k e f wide) == (lawDecTells_e11 n scale bend raw c k e f wide)) == true) = true; rw [h8]; rfl) rfl (st_cf (c_rDecLess (⟨w64 ((hPick e 2000000) - 1000000), w64 ((hPick f 8) - 1)⟩ : Dec) (⟨w64 ((hPick c 2000000) - 1000000), w64 ((hPick k 8) - 1)⟩ : Dec)) Tryz.func38 rfl (by decide) rfl rfl rfl ⟨rfl, rfl⟩) ?_
  refine dw_gd (d := (some 107)) (.bool ((lawDecTells_e12 n scale bend raw c k e f wide) == (lawDecTells_e13 n scale bend raw c k e f wide))) rfl (by show (((lawDecTells_e10 n scale bend raw c k e f wide) == (lawDecTells_e11 n scale bend raw c k e f wide)) == true) = true; rw [h8]; rfl) rfl (st_bi (r := .bool ((lawDecTells_e12 n scale bend raw c k e f wide) == (lawDecTells_e13 n scale bend raw c k e f wide))) rfl rfl rfl (bb_eql Tryz.underlying4 rfl) ⟨rfl, rfl⟩) ?_
  refine dw_op (d := some 108) _ rfl rfl rfl (st_pkt' (b := (lawDecTells_e10 n scale bend raw c k e f wide) == (lawDecTells_e11 n scale bend raw c k e f wide)) (v := .bool ((lawDecTells_e12 n scale bend raw c k e f wide) == (lawDecTells_e13 n scale bend raw c k e f wide))) h8 rfl rfl rfl ⟨rfl, rfl⟩) (dw_op (d := some 109) _ rfl rfl rfl (st_move (v := .bool ((lawDecTells_e12 n scale bend raw c k e f wide) == (lawDecTells_e13 n scale bend raw c k e f wide))) rfl rfl ⟨rfl, rfl⟩) ?_)
  refine bool_split ((lawDecTells_e12 n scale bend raw c k e f wide) == (lawDecTells_e13 n scale bend raw c k e f wide)) (fun h9 => ?_) (fun h9 => nomatch (show false = true from (show (lawDecTells n scale bend raw c k e f wide) = _ from (eF h1 (eT h2 (eT h3 (eT h4 (eT h5 (eT h6 (eT h7 (eT h8 (eF h9 rfl)))))))))).symm.trans H))
  refine dw_gd (d := (some 110)) (.agg #[.int .i64 (((decRead (txt9 n scale bend raw)).1).c), .int .i64 (((decRead (txt9 n scale bend raw)).1).scale)]) rfl (by show (((lawDecTells_e12 n scale bend raw c k e f wide) == (lawDecTells_e13 n scale bend raw c k e f wide)) == true) = true; rw [h9]; rfl) rfl (st_lda (vs := [.int .i64 (((decRead (txt9 n scale bend raw)).1).c), .int .i64 (((decRead (txt9 n scale bend raw)).1).scale)]) agg26 3 rfl rfl rfl rfl rfl rfl ⟨rfl, rfl⟩) ?_
  refine dw_gd (d := (some 111)) (.string (decPrint ((decRead (txt9 n scale bend raw)).1))) rfl (by show (((lawDecTells_e12 n scale bend raw c k e f wide) == (lawDecTells_e13 n scale bend raw c k e f wide)) == true) = true; rw [h9]; rfl) rfl (st_gr (R := [powBox tP]) (r := .string (decPrint ((decRead (txt9 n scale bend raw)).1))) (c_decPrint ((decRead (txt9 n scale bend raw)).1) tP) Tryz.func33 rfl (by decide) rfl rfl rfl (has_cons 4 _ rfl rfl rfl rfl has_nil) (by simp) ⟨rfl, rfl⟩) ?_
  refine dw_gd (d := (some 112)) (.agg #[.int .i64 ((rRead (txt9 n scale bend raw)).1.c), .int .i64 ((rRead (txt9 n scale bend raw)).1.scale)]) rfl (by show (((lawDecTells_e12 n scale bend raw c k e f wide) == (lawDecTells_e13 n scale bend raw c k e f wide)) == true) = true; rw [h9]; rfl) rfl (st_lda (vs := [.int .i64 ((rRead (txt9 n scale bend raw)).1.c), .int .i64 ((rRead (txt9 n scale bend raw)).1.scale)]) agg26 2 rfl rfl rfl rfl rfl rfl ⟨rfl, rfl⟩) ?_
  refine dw_gd (d := (some 113)) (.string (lawDecTells_e4 n scale bend raw c k e f wide)) rfl (by show (((lawDecTells_e12 n scale bend raw c k e f wide) == (lawDecTells_e13 n scale bend raw c k e f wide)) == true) = true; rw [h9]; rfl) rfl (st_cf (c_rPrintDec (⟨(rRead (txt9 n scale bend raw)).1.c, (rRead (txt9 n scale bend raw)).1.scale⟩ : Dec)) Tryz.func34 rfl (by decide) rfl rfl rfl ⟨rfl, rfl⟩) ?_
  refine dw_gd (d := (some 114)) (.bool (sEq (decPrint ((decRead (txt9 n scale bend raw)).1)) (lawDecTells_e4 n scale bend raw c k e f wide))) rfl (by show (((lawDecTells_e12 n scale bend raw c k e f wide) == (lawDecTells_e13 n scale bend raw c k e f wide)) == true) = true; rw [h9]; rfl) rfl (st_bi (r := .bool (sEq (decPrint ((decRead (txt9 n scale bend raw)).1)) (lawDecTells_e4 n scale bend raw c k e f wide))) rfl rfl rfl (bi_seql rfl) ⟨rfl, rfl⟩) ?_
  refine dw_op (d := some 115) _ rfl rfl rfl (st_pkt' (b := (lawDecTells_e12 n scale bend raw c k e f wide) == (lawDecTells_e13 n scale bend raw c k e f wide)) (v := .bool (sEq (decPrint ((decRead (txt9 n scale bend raw)).1)) (lawDecTells_e4 n scale bend raw c k e f wide))) h9 rfl rfl rfl ⟨rfl, rfl⟩) (dw_op (d := some 18) _ rfl rfl rfl (st_assign (v := .bool (sEq (decPrint ((decRead (txt9 n scale bend raw)).1)) (lawDecTells_e4 n scale bend raw c k e f wide))) rfl rfl ⟨rfl, rfl⟩) (dw_nil (aN (ac_ret ?_))))
  exact fin_eq (v := .bool (sEq (decPrint ((decRead (txt9 n scale bend raw)).1)) (lawDecTells_e4 n scale bend raw c k e f wide))) (congrArg Value.bool (show (sEq (decPrint ((decRead (txt9 n scale bend raw)).1)) (lawDecTells_e4 n scale bend raw c k e f wide)) = true from (show (lawDecTells n scale bend raw c k e f wide) = _ from (eF h1 (eT h2 (eT h3 (eT h4 (eT h5 (eT h6 (eT h7 (eT h8 (eT h9 rfl)))))))))).symm.trans H)) (fin_ret (res_tmp rfl rfl))
end Go.Proofs.YtalffjplbhelcaaGreatDoor
namespace Go.Proofs.YtalffjplbhelcaaGreatDoor
def low : Nat → Nat → List UInt8
  | _, 0 => []
  | u, s + 1 => low (u / 10) s ++ [UInt8.ofNat (48 + u % 10)]
theorem low_len : ∀ (s u : Nat), (low u s).length = s
  | 0, _ => rfl
  | s + 1, u => by rw [low, List.length_append, low_len s]; rfl
theorem pad_split : ∀ (s u : Nat), List.replicate (s + 1 - (Lib.decDigits u).length) 48 ++ Lib.decDigits u = Lib.decDigits (u / 10 ^ s) ++ low u s
  | 0, u => by
    have h := List.length_pos_iff.2 (decDig_all u).2.2
    rw [show 0 + 1 - (Lib.decDigits u).length = 0 by omega, Nat.pow_zero, Nat.div_one, low, List.append_nil]; rfl
  | s + 1, u => by
    have ih := pad_split s (u / 10)
    have e1 : u / 10 ^ (s + 1) = u / 10 / 10 ^ s := by rw [Nat.pow_succ, Nat.mul_comm, Nat.div_div_eq_div_mul]
    rw [low, e1, ← List.append_assoc, ← ih]
    by_cases h : u < 10
    · have e0 : u / 10 = 0 := Nat.div_eq_of_lt h
      have d0 : Lib.decDigits 0 = [48] := by rw [Lib.decDigits, dif_pos (by decide)]; rfl
      have du : Lib.decDigits u = [UInt8.ofNat (48 + u % 10)] := by rw [Lib.decDigits, dif_pos h, Nat.mod_eq_of_lt h]
      rw [e0, d0, du]
      show List.replicate (s + 1) 48 ++ _ = (List.replicate s 48 ++ [48]) ++ _
      rw [← List.replicate_succ']
    · have du : Lib.decDigits u = Lib.decDigits (u / 10) ++ [UInt8.ofNat (48 + u % 10)] := by conv => lhs; rw [Lib.decDigits, dif_neg h]
      rw [du, List.length_append, List.length_singleton, show s + 1 + 1 - ((Lib.decDigits (u / 10)).length + 1) = s + 1 - (Lib.decDigits (u / 10)).length by omega, List.append_assoc]
theorem low_drop : ∀ (s u : Nat), (Lib.decDigits (u % 10 ^ s + 10 ^ s)).drop 1 = low u s
  | 0, u => by rw [Nat.pow_zero, Nat.mod_one, Lib.decDigits, dif_pos (by decide)]; rfl
  | s + 1, u => by
    have ih := low_drop s (u / 10)
    have hp : 0 < 10 ^ s := Nat.pow_pos (by decide)
    have e10 : 10 ^ (s + 1) = 10 ^ s * 10 := Nat.pow_succ ..
    have em : u % 10 ^ (s + 1) = u / 10 % 10 ^ s * 10 + u % 10 := by
      rw [e10, Nat.mul_comm (10 ^ s) 10, Nat.mod_mul]
      omega
    have e1 : (u % 10 ^ (s + 1) + 10 ^ (s + 1)) / 10 = u / 10 % 10 ^ s + 10 ^ s := by rw [em, e10]; omega
    have e2 : (u % 10 ^ (s + 1) + 10 ^ (s + 1)) % 10 = u % 10 := by rw [em, e10]; omega
    have h10 : ¬ (u % 10 ^ (s + 1) + 10 ^ (s + 1)) < 10 := by rw [e10]; omega
    rw [Lib.decDigits, dif_neg h10, e1, e2, List.drop_append_of_le_length (List.length_pos_iff.2 (decDig_all _).2.2), ih, low]
theorem dig_gt (h : Nat) : decide (((Lib.decDigits h).length : Int) > 5) = decide ((h : Int) > 99999) := by
  obtain ⟨d1, d2, d3⟩ := decDig_all h
  by_cases hh : h < 100000
  · have := dg_len 4 h hh
    rw [decide_eq_false (by omega), decide_eq_false (by omega)]
  · rw [decide_eq_true (show (h : Int) > 99999 by omega), decide_eq_true]
    have hl := dval_lt (Lib.decDigits h) 0 0 d1 (by decide)
    rw [d2, Nat.zero_add] at hl
    by_cases h5 : (Lib.decDigits h).length ≤ 5
    · have : 10 ^ (Lib.decDigits h).length ≤ 10 ^ 5 := Nat.pow_le_pow_right (by decide) h5
      omega
    · omega
theorem print_parts {d : Dec} (h : decRight d = true) : decPrint d = bif decide (((d.c.natAbs / 10 ^ d.scale.toNat : Nat) : Int) > 99999) then (⟨#[]⟩ : ByteArray) else byA (sgnL (decide (d.c < 0)) ++ (Lib.decDigits (d.c.natAbs / 10 ^ d.scale.toNat) ++ ptL (low d.c.natAbs d.scale.toNat))) := by
  have hb := dr_bounds h
  have hL : zer d ++ ito d = byA (List.replicate (padN d).toNat 48 ++ Lib.decDigits d.c.natAbs) := by rw [zer_L, ito_L h, byA_app]
  have hp : (padN d).toNat = d.scale.toNat + 1 - (Lib.decDigits d.c.natAbs).length := by
    have := padN_eq h
    have e : (ito d).size = (Lib.decDigits d.c.natAbs).length := by rw [ito_L h]; rfl
    rw [this, e]
    omega
  rw [hp, pad_split] at hL
  obtain ⟨p1, p2⟩ := pad_all h
  have hform := decPrint_form d
  rw [h, cond_true, p1, hL] at hform
  generalize hW : Lib.decDigits (d.c.natAbs / 10 ^ d.scale.toNat) = W at *
  have hF : (low d.c.natAbs d.scale.toNat).length = d.scale.toNat := low_len _ _
  generalize low d.c.natAbs d.scale.toNat = F at *
  have hsz : ((byA (W ++ F)).size : Int) - d.scale = (W.length : Int) := by
    show (((W ++ F).length : Nat) : Int) - d.scale = _
    rw [List.length_append]
    omega
  have e3 : ((byA (W ++ F)).size : Int) = ((W.length + F.length : Nat) : Int) := by show (((W ++ F).length : Nat) : Int) = _; rw [List.length_append]
  rw [hsz, e3] at hform
  have e1 := sub_rest (s := byA (W ++ F)) (i := 0) (w := W) (post := F) rfl
  have e2 := sub_rest (s := byA (W ++ F)) (i := W.length) (w := F) (post := []) (by rw [List.append_nil]; show (W ++ F).drop W.length = F; rw [List.drop_left])
  rw [Nat.zero_add] at e1
  rw [hform, show subS (byA (W ++ F)) 0 (W.length : Int) = byA W from e1, e2, sEq_nil, show (byA W).size = W.length from rfl, ← hW, dig_gt]
  unfold prForm
  cases decide (((d.c.natAbs / 10 ^ d.scale.toNat : Nat) : Int) > 99999)
  · simp only [cond_false]
    cases decide (d.c < 0) <;> cases hF' : F <;> simp only [List.isEmpty_nil, List.isEmpty_cons, cond_true, cond_false, sgnL, ptL, List.nil_append, List.append_nil, List.cons_append]
    · rw [show (⟨#[46]⟩ : ByteArray) = byA [46] from rfl, byA_app, byA_app, List.append_assoc]; rfl
    · rw [show (⟨#[45]⟩ : ByteArray) = byA [45] from rfl, byA_app]; rfl
    · rw [show (⟨#[46]⟩ : ByteArray) = byA [46] from rfl, show (⟨#[45]⟩ : ByteArray) = byA [45] from rfl, byA_app, byA_app, byA_app]
      simp
  · rfl
theorem rest_tl (x : Nat) : subS (rDigs (x : Int)) 1 (((rDigs (x : Int)).size : Nat) : Int) = byA ((Lib.decDigits x).drop 1) := by
  show subS (byA (Lib.decDigits x)) 1 (((byA (Lib.decDigits x)).size : Nat) : Int) = _
  obtain ⟨b, r, e⟩ : ∃ b r, Lib.decDigits x = b :: r := by
    cases h : Lib.decDigits x with
    | nil => exact absurd h (decDig_all x).2.2
    | cons b r => exact ⟨b, r, rfl⟩
  rw [e]
  exact sub_tl b r
theorem print_eq (d : Dec) : rPrintDec d = decPrint d := by
  cases h : decRight d
  · have h' : rRightDec d = false := h
    unfold rPrintDec
    rw [h', decPrint_form, h]
    rfl
  · have h' : rRightDec d = true := h
    have hb := dr_bounds h
    rw [print_parts h]
    unfold rPrintDec
    rw [h', head_eq h', rest_eq h', rest_tl, low_drop]
    have e1 : ∀ x : Nat, rDigs (x : Int) = byA (Lib.decDigits x) := fun _ => rfl
    rw [e1]
    have hF : (low d.c.natAbs d.scale.toNat).length = d.scale.toNat := low_len _ _
    generalize low d.c.natAbs d.scale.toNat = F at *
    generalize Lib.decDigits (d.c.natAbs / 10 ^ d.scale.toNat) = W at *
    cases decide (((d.c.natAbs / 10 ^ d.scale.toNat : Nat) : Int) > 99999)
    · have hz : decide (d.scale > 0) = !F.isEmpty := by
        cases F with
        | nil => exact decide_eq_false (by have : (0 : Nat) = d.scale.toNat := hF; omega)
        | cons b l => exact decide_eq_true (by have : l.length + 1 = d.scale.toNat := hF; omega)
      rw [hz]
      cases decide (d.c < 0) <;> cases F <;> simp only [List.isEmpty_nil, List.isEmpty_cons, cond_true, cond_false, sgnL, ptL, List.nil_append, List.append_nil, List.cons_append, Bool.not_true, Bool.not_false]
      · rw [show (⟨#[46]⟩ : ByteArray) = byA [46] from rfl, byA_app, byA_app, List.append_assoc]; rfl
      · rw [show (⟨#[45]⟩ : ByteArray) = byA [45] from rfl, byA_app]; rfl
      · rw [show (⟨#[46]⟩ : ByteArray) = byA [46] from rfl, show (⟨#[45]⟩ : ByteArray) = byA [45] from rfl, byA_app, byA_app, byA_app]
        simp
    · rfl
end Go.Proofs.YtalffjplbhelcaaGreatDoor
namespace Go.Proofs.YtalffjplbhelcaaGreatDoor
theorem tm_sign (a b : Int) : (0 ≤ a → 0 ≤ a.tmod b) ∧ (a ≤ 0 → a.tmod b ≤ 0) := by
  refine ⟨fun h => Int.tmod_nonneg b h, fun h => ?_⟩
  have := Int.tmod_nonneg b (a := -a) (by omega)
  rw [Int.neg_tmod] at this
  omega
theorem td_abs (a : Int) {b : Int} (h : -9223372036854775808 < a ∧ a ≤ 9223372036854775807) : -9223372036854775807 ≤ a.tdiv b ∧ a.tdiv b ≤ 9223372036854775807 := by
  have h1 : (a.tdiv b).natAbs ≤ a.natAbs := by
    rw [Int.natAbs_tdiv]
    exact Nat.div_le_self _ _
  omega
theorem ed_of {b : Int} (hb : 0 < b) (a q r : Int) (h1 : b * q + r = a) (h2 : 0 ≤ r) (h3 : r < b) : a / b = q := ((Int.ediv_emod_unique (r := r) (q := q) hb).2 ⟨by omega, h2, h3⟩).1
theorem nf_pos (a : Int) {b : Int} (hb : 0 < b) (h : -9223372036854775808 < a ∧ a ≤ 9223372036854775807) : numFloor a b = a / b := by
  have ht := td_abs a (b := b) h
  have he := Int.mul_tdiv_add_tmod a b
  have hs := tm_sign a b
  have hne : (b == 0) = false := beq_eq_false_iff_ne.2 (by omega)
  have hw1 : w64 (a.tdiv b) = a.tdiv b := w64_in (by omega)
  have hw2 : w64 (a.tdiv b - 1) = a.tdiv b - 1 := w64_in (by omega)
  have hl := Int.tmod_lt_of_pos a hb
  have hl' := Int.lt_tmod_of_pos a hb
  unfold numFloor numFloor_e0
  rw [hne, hw1, hw2, cond_false]
  by_cases hr : a.tmod b = 0
  · simp only [hr, bne_self_eq_false, cond_false]
    exact (ed_of hb a _ _ he (by omega) (by omega)).symm
  · have hr' : (a.tmod b != 0) = true := by simpa using hr
    rw [hr', decide_eq_false (show ¬ b < 0 by omega), cond_true]
    by_cases ha : a < 0
    · simp only [ha, decide_true, Bool.bne_false, cond_true]
      refine (ed_of hb a (a.tdiv b - 1) (a.tmod b + b) ?_ (by omega) (by omega)).symm
      rw [Int.mul_sub, Int.mul_one]
      omega
    · simp only [ha, decide_false, bne_self_eq_false, cond_false]
      exact (ed_of hb a _ _ he (hs.1 (by omega)) hl).symm
theorem dp_pos (n : Int) : 0 < decPower n := by
  unfold decPower
  exact Int.pow_pos (by decide)
theorem dp_le {n : Int} (h : n ≤ 6) : decPower n ≤ 1000000 := by
  unfold decPower
  have h1 : (10 : Nat) ^ n.toNat ≤ 10 ^ 6 := Nat.pow_le_pow_right (by decide) (by omega)
  have h2 : ((10 : Nat) ^ n.toNat : Nat) ≤ 1000000 := Nat.le_trans h1 (by decide)
  have h3 : ((10 : Int) ^ n.toNat) = (((10 : Nat) ^ n.toNat : Nat) : Int) := by push_cast; rfl
  rw [h3]
  omega
theorem w65 {d : Dec} (h : decRight d = true) : w64 (d.c * 65536) = d.c * 65536 := by
  have := dr_bounds h
  exact w64_in (by omega)
theorem decOf_val {d : Dec} (h : decRight d = true) : decOf d = ivOf (d.c * 65536 / decPower d.scale) (-((-(d.c * 65536)) / decPower d.scale)) := by
  have hb := dr_bounds h
  have hp := dp_pos d.scale
  have hn : ∀ a : Int, -10000000000000000 ≤ a ∧ a ≤ 10000000000000000 → -10000000000000000 ≤ a / decPower d.scale ∧ a / decPower d.scale ≤ 10000000000000000 := by
    intro a ha
    refine ⟨Int.le_ediv_of_mul_le hp ?_, Int.ediv_le_of_le_mul hp ?_⟩
    · have := Int.mul_le_mul_of_nonneg_left (show 1 ≤ decPower d.scale by omega) (show (0 : Int) ≤ 10000000000000000 by decide)
      omega
    · have := Int.mul_le_mul_of_nonneg_left (show 1 ≤ decPower d.scale by omega) (show (0 : Int) ≤ 10000000000000000 by decide)
      omega
  unfold decOf decOf_e1 decOf_e0
  rw [h, cond_true, w65 h, show w64 (0 - d.c * 65536) = -(d.c * 65536) by rw [w64_in (by omega)]; omega, nf_pos _ hp (by omega), nf_pos _ hp (by omega)]
  have h2 := hn (-(d.c * 65536)) (by omega)
  rw [show w64 (0 - (-(d.c * 65536)) / decPower d.scale) = -((-(d.c * 65536)) / decPower d.scale) by rw [w64_in (by omega)]; omega]
end Go.Proofs.YtalffjplbhelcaaGreatDoor
namespace Go.Proofs.YtalffjplbhelcaaGreatDoor
theorem rf_eq (a b : Int) : rFloor a b = numFloor a b := by
  unfold rFloor rFloor_e0 numFloor numFloor_e0
  cases hb : b == 0
  · simp only [cond_false]
    by_cases hr : a.tmod b = 0
    · simp only [hr, bne_self_eq_false, cond_false]
    · have hs := tm_sign a b
      have e : decide (a.tmod b < 0) = decide (a < 0) := by
        by_cases h : a < 0
        · have := hs.2 (by omega)
          rw [decide_eq_true h, decide_eq_true (by omega)]
        · have := hs.1 (by omega)
          rw [decide_eq_false h, decide_eq_false (by omega)]
      rw [e]
  · simp only [cond_true]
theorem cl_pos (a : Int) {b : Int} (hb : 0 < b) (hb' : b ≤ 1000000) (h : -10000000000000000 ≤ a ∧ a ≤ 10000000000000000) : rCeil a b = -((-a) / b) := by
  have hf : rFloor a b = a / b := by rw [rf_eq, nf_pos a hb (by omega)]
  have h1 := Int.mul_ediv_add_emod a b
  have h2 := Int.emod_nonneg a (Int.ne_of_gt hb)
  have h3 := Int.emod_lt_of_pos a hb
  have hc : b * (a / b) = a / b * b := Int.mul_comm _ _
  have hq : -10000000000000000 - 1 ≤ a / b ∧ a / b ≤ 10000000000000000 := by
    refine ⟨Int.le_ediv_of_mul_le hb ?_, Int.ediv_le_of_le_mul hb ?_⟩
    · have := Int.mul_le_mul_of_nonneg_left (show 1 ≤ b by omega) (show (0 : Int) ≤ 10000000000000001 by decide)
      omega
    · have := Int.mul_le_mul_of_nonneg_left (show 1 ≤ b by omega) (show (0 : Int) ≤ 10000000000000000 by decide)
      omega
  unfold rCeil rCeil_e0
  rw [hf, w64_in (n := a / b * b) (by omega)]
  by_cases hr : a % b = 0
  · have e : (a / b * b != a) = false := by rw [bne_eq_false_iff_eq]; omega
    rw [e, cond_false, ed_of hb (-a) (-(a / b)) 0 (by rw [Int.mul_neg]; omega) (by omega) hb]
    omega
  · have e : (a / b * b != a) = true := by rw [bne_iff_ne]; omega
    rw [e, cond_true, w64_in (by omega), ed_of hb (-a) (-(a / b) - 1) (b - a % b) (by rw [Int.mul_sub, Int.mul_neg, Int.mul_one]; omega) (by omega) (by omega)]
    omega
theorem decIv_eq (d : Dec) : rDecIv d = decOf d := by
  cases h : decRight d
  · have h' : rRightDec d = false := h
    unfold rDecIv decOf
    rw [h', h]
    rfl
  · have h' : rRightDec d = true := h
    have hb := dr_bounds h
    unfold rDecIv rDecIv_e0
    rw [decOf_val h, h', cond_true, w65 h, rf_eq, nf_pos _ (dp_pos _) (by omega), cl_pos _ (dp_pos _) (dp_le (by omega)) (by omega)]
    rfl
theorem decLess_eq (a b : Dec) : rDecLess a b = decLess a b := rfl
end Go.Proofs.YtalffjplbhelcaaGreatDoor
namespace Go.Proofs.YtalffjplbhelcaaGreatDoor
open Go.RowKit
theorem k9_true : known9 = true := by decide +kernel
theorem sEq_self (s : ByteArray) : sEq s s = true := (sEq_iff s s).2 rfl
theorem lawDecTells_true (n scale bend : Int) {raw : ByteArray} (hraw : raw.size ≤ 140737488351232) (c k e f : Int) (wide : Bool) : lawDecTells n scale bend raw c k e f wide = true := by
  have hT : decRead (txt9 n scale bend raw) = rRead (txt9 n scale bend raw) := read_eqA (Nat.le_trans (t9_sz hraw) (by decide))
  unfold lawDecTells lawDecTells_e0 lawDecTells_e1 lawDecTells_e2 lawDecTells_e3 lawDecTells_e4 lawDecTells_e5 lawDecTells_e6 lawDecTells_e7 lawDecTells_e8 lawDecTells_e9 lawDecTells_e10 lawDecTells_e11 lawDecTells_e12 lawDecTells_e13
  rw [hT]
  cases wide <;> simp only [k9_true, print_eq, decIv_eq, decLess_eq, rr_dr, sEq_self, beq_self_eq_true, decide_true, cond_true, cond_false]
theorem decTells_calls {W : World} {tP : Nat} (hT : At [powBox tP] W) (n scale bend : Int) (raw : ByteArray) (hraw : raw.size ≤ 140737488351232) (c k e f : Int) (wide : Bool) : Calls Tryz.prog 5 #[.int .i64 n, .int .i64 scale, .int .i64 bend, .string raw, .int .i64 c, .int .i64 k, .int .i64 e, .int .i64 f, .bool wide] W fun e W' => e = .returned (.bool true) ∧ Below W.heap.size W W' :=
  (c_lawDecTells n scale bend raw c k e f wide tP hraw (lawDecTells_true n scale bend hraw c k e f wide) W hT (by simp)).mono fun e w' ⟨v, N, he, ⟨hv, _⟩, _, _, hb⟩ => ⟨by rw [he, hv], hb⟩
end Go.Proofs.YtalffjplbhelcaaGreatDoor
namespace Go.Proofs.YtalffjplbhelcaaGreatDoor
open Go.ChangeShapes Go.WideShapes Go.ChangeAt Go.RowKit
end Go.Proofs.YtalffjplbhelcaaGreatDoor
namespace Go.Proofs.YtalffjplbhelcaaGreatDoor
open Go.RowKit
end Go.Proofs.YtalffjplbhelcaaGreatDoor
namespace Go.Proofs.YtalffjplbhelcaaGreatDoor
open Go.RowKit
theorem str_weight {H : Type} {P : Program} {bytes : List UInt8} : ∀ (ts : List TypeId) (ds : List (DataW H)) (k : Nat), (DataW.weightsEach P ts ds).all (fun x => decide (x ≤ reachBytes)) = true → ds[k]? = some (.lit (.string bytes)) → (ts[k]?).isSome = true → bytes.length ≤ 140737488351232
  | [], _, k, _, _, h => by simp at h
  | _ :: _, [], k, _, h, _ => by simp at h
  | t :: ts, d :: ds, 0, h, hd, _ => by
    simp only [List.getElem?_cons_zero, Option.some.injEq] at hd
    subst hd
    rw [DataW.weightsEach, List.all_append, Bool.and_eq_true] at h
    have h1 := h.1
    have e : DataW.weights P t (.lit (.string bytes) : DataW H) = [bytes.length] := by rw [DataW.weights]
    rw [e] at h1
    have h2 : decide (bytes.length ≤ reachBytes) = true := by simpa only [List.all_cons, List.all_nil, Bool.and_true] using h1
    exact of_decide_eq_true h2
  | t :: ts, d :: ds, k + 1, h, hd, ht => by
    rw [DataW.weightsEach, List.all_append, Bool.and_eq_true] at h
    exact str_weight ts ds k h.2 (by simpa using hd) (by simpa using ht)
end Go.Proofs.YtalffjplbhelcaaGreatDoor
