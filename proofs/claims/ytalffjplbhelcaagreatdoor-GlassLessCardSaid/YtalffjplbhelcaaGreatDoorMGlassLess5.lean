import Derived.Test.YtalffjplbhelcaaGreatDoorMGlassLess4
import Derived.Test.YtalffjplbhelcaaGreatDoorMGlassLess2
set_option linter.unusedVariables false
set_option linter.unusedSimpArgs false
namespace Go.Proofs.YtalffjplbhelcaaGreatDoor
open Go.RowKit
attribute [local irreducible] AC AR DWalk
def decPrint (d : Dec) : ByteArray := (bif decRight d then (bif decide ((((subS ((zer d) ++ (ito d)) 0 (w64 (((((zer d) ++ (ito d))).size : Int) - d.scale)))).size : Int) > 5) then (⟨#[]⟩ : ByteArray) else (bif decide (d.c < 0) then (bif sEq (subS ((zer d) ++ (ito d)) (w64 (((((zer d) ++ (ito d))).size : Int) - d.scale)) ((((zer d) ++ (ito d))).size : Int)) (⟨#[]⟩ : ByteArray) then ((⟨#[45]⟩ : ByteArray) ++ (subS ((zer d) ++ (ito d)) 0 (w64 (((((zer d) ++ (ito d))).size : Int) - d.scale)))) else ((((⟨#[45]⟩ : ByteArray) ++ (subS ((zer d) ++ (ito d)) 0 (w64 (((((zer d) ++ (ito d))).size : Int) - d.scale)))) ++ (⟨#[46]⟩ : ByteArray)) ++ (subS ((zer d) ++ (ito d)) (w64 (((((zer d) ++ (ito d))).size : Int) - d.scale)) ((((zer d) ++ (ito d))).size : Int)))) else (bif sEq (subS ((zer d) ++ (ito d)) (w64 (((((zer d) ++ (ito d))).size : Int) - d.scale)) ((((zer d) ++ (ito d))).size : Int)) (⟨#[]⟩ : ByteArray) then (subS ((zer d) ++ (ito d)) 0 (w64 (((((zer d) ++ (ito d))).size : Int) - d.scale))) else (((subS ((zer d) ++ (ito d)) 0 (w64 (((((zer d) ++ (ito d))).size : Int) - d.scale))) ++ (⟨#[46]⟩ : ByteArray)) ++ (subS ((zer d) ++ (ito d)) (w64 (((((zer d) ++ (ito d))).size : Int) - d.scale)) ((((zer d) ++ (ito d))).size : Int)))))) else (⟨#[]⟩ : ByteArray))
set_option maxRecDepth 100000 in
theorem c_decPrint (d : Dec) (tP : Nat) : Gives Tryz.prog 33 #[.agg #[.int .i64 d.c, .int .i64 d.scale]] [powBox tP] (fun u N => u = ((fun (r : ByteArray) => (.string r : Value)) (decPrint d)) ∧ N = []) := by
 refine gives_fin Tryz.func33 rfl rfl rfl rfl (AC.mono ?_ (fun e E H h => fing_v h rfl))
 refine aQ (aL (ao 1 rfl rfl (st_box (v := .agg #[.int .i64 d.c, .int .i64 d.scale]) (cs := [.int .i64 d.c, .int .i64 d.scale]) rfl rfl rfl fun g0 => (aA 2 (.string (⟨#[]⟩ : ByteArray)) rfl rfl (aN (aQ (aQ (aL (aG 6 [.int .i64 d.c, .int .i64 d.scale] agg26 0 rfl rfl rfl rfl rfl (aC 7 (c_decRight d) Tryz.func31 ⟨rfl, by decide⟩ rfl rfl (ao 8 rfl rfl (st_un (v := .bool (!(decRight d))) rfl rfl (un_not rfl) (aN ?_)))))))))))))
 refine bool_split (decRight d) (fun h1 => ?_) (fun h1 => ?_)
 ·refine ac_else' (b := !(decRight d)) (by rw [h1]; rfl) rfl (ac_skip (aQ (aL (aF 9 fa26_0 rfl rfl (aD 10 (.int .i64 d.c) cell3 0 rfl rfl rfl rfl (aF 11 fa26_0 rfl rfl (aD 12 (.int .i64 d.c) cell3 0 rfl rfl rfl rfl (ao 13 rfl rfl (st_un (v := .int .i64 (w64 (0 - d.c))) rfl rfl (un_neg rfl) (ao 14 rfl rfl (st_mx (x := d.c) (y := (w64 (0 - d.c))) (c := (max d.c (w64 (0 - d.c)))) rfl rfl rfl (ao 15 rfl rfl (st_gr (R := [powBox tP]) (r := .string (ito d)) (c_lItoa tP _ (ito_lo h1) (ito_hi h1)) Tryz.func73 rfl (by decide) rfl rfl rfl (has_cons 1 _ rfl rfl rfl rfl has_nil) (by simp) (aA 3 (.string (ito d)) rfl rfl (aN (aQ (aL (aF 16 fa26_1 rfl rfl ?_))))))))))))))))))
  refine aD 17 (.int .i64 d.scale) cell3 0 rfl rfl rfl rfl (aB 18 (.int .i64 (w64 (d.scale + 1))) rfl rfl rfl (bi_add rfl) (aM 19 (.string (ito d)) rfl rfl (ao 20 rfl rfl (st_slen (s := (ito d)) rfl Tryz.underlying9 rfl (aB 21 (.int .i64 (w64 ((w64 (d.scale + 1)) - (((ito d)).size : Int)))) rfl rfl rfl (bi_sub rfl) (ao 22 rfl rfl (st_mx (x := 0) (y := (w64 ((w64 (d.scale + 1)) - (((ito d)).size : Int)))) (c := (max 0 (w64 ((w64 (d.scale + 1)) - (((ito d)).size : Int))))) rfl rfl rfl (aC 23 (c_lRepeat (⟨#[48]⟩ : ByteArray) (padN d) (pad_lo d) (pad_le h1) (by decide)) Tryz.func74 ⟨rfl, by decide⟩ rfl rfl (aM 24 (.string (ito d)) rfl rfl ?_)))))))))
  refine aB 25 (.string ((zer d) ++ (ito d))) rfl rfl rfl (bi_sadd (sz_two (zer_sz h1) (ito_sz h1) (by decide))) (aA 3 (.string ((zer d) ++ (ito d))) rfl rfl (aN (aQ ?_)))
  refine ac_draw0 (id := 5) [0, 1, 2, 3, 4, 5, 6, 7, 8, 9, 10, 11, 12, 13, 14, 15] [] _ (by kernel_rfl) follows rfl  (dw_op (d := some 26) _ rfl rfl rfl (st_move (v := .string ((zer d) ++ (ito d))) rfl rfl ⟨rfl, rfl⟩) (dw_op (d := some 27) _ rfl rfl rfl (st_move (v := .string ((zer d) ++ (ito d))) rfl rfl ⟨rfl, rfl⟩) (dw_op (d := some 28) _ rfl rfl rfl (st_slen (s := ((zer d) ++ (ito d))) rfl Tryz.underlying9 rfl ⟨rfl, rfl⟩) (dw_op (d := some 29) _ rfl rfl rfl (st_fa rfl fa26_1 rfl ⟨rfl, rfl⟩) (dw_op (d := some 30) _ rfl rfl rfl (st_ldc (v := .int .i64 d.scale) cell3 0 rfl rfl rfl rfl rfl ⟨rfl, rfl⟩) ?_)))))
  refine dw_op (d := some 31) _ rfl rfl rfl (st_bi (r := .int .i64 (w64 (((((zer d) ++ (ito d))).size : Int) - d.scale))) rfl rfl rfl (bi_sub rfl) ⟨rfl, rfl⟩) (dw_op (d := some 32) _ rfl rfl rfl (st_ssh (pad_hi h1) rfl Tryz.underlying9 rfl rfl ⟨rfl, rfl⟩) (dw_op (d := some 33) _ rfl rfl rfl (st_move (v := .string ((zer d) ++ (ito d))) rfl rfl ⟨rfl, rfl⟩) (dw_op (d := some 34) _ rfl rfl rfl (st_move (v := .string ((zer d) ++ (ito d))) rfl rfl ⟨rfl, rfl⟩) (dw_op (d := some 35) _ rfl rfl rfl (st_slen (s := ((zer d) ++ (ito d))) rfl Tryz.underlying9 rfl ⟨rfl, rfl⟩) (dw_op (d := some 36) _ rfl rfl rfl (st_fa rfl fa26_1 rfl ⟨rfl, rfl⟩) ?_)))))
  refine dw_op (d := some 37) _ rfl rfl rfl (st_ldc (v := .int .i64 d.scale) cell3 0 rfl rfl rfl rfl rfl ⟨rfl, rfl⟩) (dw_op (d := some 38) _ rfl rfl rfl (st_bi (r := .int .i64 (w64 (((((zer d) ++ (ito d))).size : Int) - d.scale))) rfl rfl rfl (bi_sub rfl) ⟨rfl, rfl⟩) (dw_op (d := some 39) _ rfl rfl rfl (st_ssb (pad_hi h1) rfl Tryz.underlying9 rfl rfl ⟨rfl, rfl⟩) (dw_op (d := some 4) _ rfl rfl rfl (st_assign (v := .string (subS ((zer d) ++ (ito d)) 0 (w64 (((((zer d) ++ (ito d))).size : Int) - d.scale)))) rfl rfl ⟨rfl, rfl⟩) ?_)))
  refine dw_op (d := some 5) _ rfl rfl rfl (st_assign (v := .string (subS ((zer d) ++ (ito d)) (w64 (((((zer d) ++ (ito d))).size : Int) - d.scale)) ((((zer d) ++ (ito d))).size : Int))) rfl rfl ⟨rfl, rfl⟩) (dw_nil (aN (aQ (aQ (aL (aM 40 (.string (subS ((zer d) ++ (ito d)) 0 (w64 (((((zer d) ++ (ito d))).size : Int) - d.scale)))) rfl rfl (ao 41 rfl rfl (st_slen (s := (subS ((zer d) ++ (ito d)) 0 (w64 (((((zer d) ++ (ito d))).size : Int) - d.scale)))) rfl Tryz.underlying9 rfl (aB 42 (.bool (decide ((((subS ((zer d) ++ (ito d)) 0 (w64 (((((zer d) ++ (ito d))).size : Int) - d.scale)))).size : Int) > 5))) rfl rfl rfl (bi_gtr rfl) (aN ?_))))))))))
  refine bool_split (decide ((((subS ((zer d) ++ (ito d)) 0 (w64 (((((zer d) ++ (ito d))).size : Int) - d.scale)))).size : Int) > 5)) (fun h2 => ?_) (fun h2 => ?_)
  ·refine ac_then' (b := decide ((((subS ((zer d) ++ (ito d)) 0 (w64 (((((zer d) ++ (ito d))).size : Int) - d.scale)))).size : Int) > 5)) h2 rfl (aQ (aL (aA 2 (.string (⟨#[]⟩ : ByteArray)) rfl rfl (aN (ac_ret (fin_eq (v := .string (⟨#[]⟩ : ByteArray)) (by show _ = (fun (r : ByteArray) => (.string r : Value)) (decPrint d); rw [decPrint, h2, h1] <;> rfl) (fin_ret (res_tmp rfl rfl))))))))
  ·refine ac_else' (b := decide ((((subS ((zer d) ++ (ito d)) 0 (w64 (((((zer d) ++ (ito d))).size : Int) - d.scale)))).size : Int) > 5)) h2 rfl (ac_skip (aQ (aQ (aL (aF 43 fa26_0 rfl rfl (aD 44 (.int .i64 d.c) cell3 0 rfl rfl rfl rfl (aB 45 (.bool (decide (d.c < 0))) rfl rfl rfl (bi_lss rfl) (aN ?_))))))))
   refine bool_split (decide (d.c < 0)) (fun h3 => ?_) (fun h3 => ?_)
   ·refine ac_then' (b := decide (d.c < 0)) h3 rfl (aL (aM 46 (.string (subS ((zer d) ++ (ito d)) 0 (w64 (((((zer d) ++ (ito d))).size : Int) - d.scale)))) rfl rfl (aB 47 (.string ((⟨#[45]⟩ : ByteArray) ++ (subS ((zer d) ++ (ito d)) 0 (w64 (((((zer d) ++ (ito d))).size : Int) - d.scale))))) rfl rfl rfl (bi_sadd (sz_two (show ((⟨#[45]⟩ : ByteArray)).size ≤ 1 from Nat.le_refl _) (subS_le _ _ _ (sz_add (zer_sz h1) (ito_sz h1))) (by decide))) (aA 4 (.string ((⟨#[45]⟩ : ByteArray) ++ (subS ((zer d) ++ (ito d)) 0 (w64 (((((zer d) ++ (ito d))).size : Int) - d.scale))))) rfl rfl (aN (aQ (aQ (aL ?_))))))))
    refine aM 48 (.string (subS ((zer d) ++ (ito d)) (w64 (((((zer d) ++ (ito d))).size : Int) - d.scale)) ((((zer d) ++ (ito d))).size : Int))) rfl rfl (aB 49 (.bool (!(sEq (subS ((zer d) ++ (ito d)) (w64 (((((zer d) ++ (ito d))).size : Int) - d.scale)) ((((zer d) ++ (ito d))).size : Int)) (⟨#[]⟩ : ByteArray)))) rfl rfl rfl (bi_sneq rfl) (aN ?_))
    refine bool_split (sEq (subS ((zer d) ++ (ito d)) (w64 (((((zer d) ++ (ito d))).size : Int) - d.scale)) ((((zer d) ++ (ito d))).size : Int)) (⟨#[]⟩ : ByteArray)) (fun h4 => ?_) (fun h4 => ?_)
    ·refine ac_else' (b := !(sEq (subS ((zer d) ++ (ito d)) (w64 (((((zer d) ++ (ito d))).size : Int) - d.scale)) ((((zer d) ++ (ito d))).size : Int)) (⟨#[]⟩ : ByteArray))) (by rw [h4]; rfl) rfl (ac_skip (aQ (aL (aM 54 (.string ((⟨#[45]⟩ : ByteArray) ++ (subS ((zer d) ++ (ito d)) 0 (w64 (((((zer d) ++ (ito d))).size : Int) - d.scale))))) rfl rfl (aA 2 (.string ((⟨#[45]⟩ : ByteArray) ++ (subS ((zer d) ++ (ito d)) 0 (w64 (((((zer d) ++ (ito d))).size : Int) - d.scale))))) rfl rfl (aN (ac_ret ?_)))))))
     exact fin_eq (v := .string ((⟨#[45]⟩ : ByteArray) ++ (subS ((zer d) ++ (ito d)) 0 (w64 (((((zer d) ++ (ito d))).size : Int) - d.scale))))) (by show _ = (fun (r : ByteArray) => (.string r : Value)) (decPrint d); rw [decPrint, h4, h3, h2, h1] <;> rfl) (fin_ret (res_tmp rfl rfl))
    ·refine ac_then' (b := !(sEq (subS ((zer d) ++ (ito d)) (w64 (((((zer d) ++ (ito d))).size : Int) - d.scale)) ((((zer d) ++ (ito d))).size : Int)) (⟨#[]⟩ : ByteArray))) (by rw [h4]; rfl) rfl (aQ (aL (aM 50 (.string ((⟨#[45]⟩ : ByteArray) ++ (subS ((zer d) ++ (ito d)) 0 (w64 (((((zer d) ++ (ito d))).size : Int) - d.scale))))) rfl rfl ?_)))
     refine aB 51 (.string (((⟨#[45]⟩ : ByteArray) ++ (subS ((zer d) ++ (ito d)) 0 (w64 (((((zer d) ++ (ito d))).size : Int) - d.scale)))) ++ (⟨#[46]⟩ : ByteArray))) rfl rfl rfl (bi_sadd (sz_two (sz_add (show ((⟨#[45]⟩ : ByteArray)).size ≤ 1 from Nat.le_refl _) (subS_le _ _ _ (sz_add (zer_sz h1) (ito_sz h1)))) (show ((⟨#[46]⟩ : ByteArray)).size ≤ 1 from Nat.le_refl _) (by decide))) (aM 52 (.string (subS ((zer d) ++ (ito d)) (w64 (((((zer d) ++ (ito d))).size : Int) - d.scale)) ((((zer d) ++ (ito d))).size : Int))) rfl rfl ?_)
     refine aB 53 (.string ((((⟨#[45]⟩ : ByteArray) ++ (subS ((zer d) ++ (ito d)) 0 (w64 (((((zer d) ++ (ito d))).size : Int) - d.scale)))) ++ (⟨#[46]⟩ : ByteArray)) ++ (subS ((zer d) ++ (ito d)) (w64 (((((zer d) ++ (ito d))).size : Int) - d.scale)) ((((zer d) ++ (ito d))).size : Int)))) rfl rfl rfl (bi_sadd (sz_two (sz_add (sz_add (show ((⟨#[45]⟩ : ByteArray)).size ≤ 1 from Nat.le_refl _) (subS_le _ _ _ (sz_add (zer_sz h1) (ito_sz h1)))) (show ((⟨#[46]⟩ : ByteArray)).size ≤ 1 from Nat.le_refl _)) (subS_le _ _ _ (sz_add (zer_sz h1) (ito_sz h1))) (by decide))) ?_
     refine aA 2 (.string ((((⟨#[45]⟩ : ByteArray) ++ (subS ((zer d) ++ (ito d)) 0 (w64 (((((zer d) ++ (ito d))).size : Int) - d.scale)))) ++ (⟨#[46]⟩ : ByteArray)) ++ (subS ((zer d) ++ (ito d)) (w64 (((((zer d) ++ (ito d))).size : Int) - d.scale)) ((((zer d) ++ (ito d))).size : Int)))) rfl rfl (aN (ac_ret ?_))
     exact fin_eq (v := .string ((((⟨#[45]⟩ : ByteArray) ++ (subS ((zer d) ++ (ito d)) 0 (w64 (((((zer d) ++ (ito d))).size : Int) - d.scale)))) ++ (⟨#[46]⟩ : ByteArray)) ++ (subS ((zer d) ++ (ito d)) (w64 (((((zer d) ++ (ito d))).size : Int) - d.scale)) ((((zer d) ++ (ito d))).size : Int)))) (by show _ = (fun (r : ByteArray) => (.string r : Value)) (decPrint d); rw [decPrint, h4, h3, h2, h1] <;> rfl) (fin_ret (res_tmp rfl rfl))
   ·refine ac_else' (b := decide (d.c < 0)) h3 rfl (ac_skip (aQ (aQ (aL (aM 48 (.string (subS ((zer d) ++ (ito d)) (w64 (((((zer d) ++ (ito d))).size : Int) - d.scale)) ((((zer d) ++ (ito d))).size : Int))) rfl rfl (aB 49 (.bool (!(sEq (subS ((zer d) ++ (ito d)) (w64 (((((zer d) ++ (ito d))).size : Int) - d.scale)) ((((zer d) ++ (ito d))).size : Int)) (⟨#[]⟩ : ByteArray)))) rfl rfl rfl (bi_sneq rfl) (aN ?_)))))))
    refine bool_split (sEq (subS ((zer d) ++ (ito d)) (w64 (((((zer d) ++ (ito d))).size : Int) - d.scale)) ((((zer d) ++ (ito d))).size : Int)) (⟨#[]⟩ : ByteArray)) (fun h4 => ?_) (fun h4 => ?_)
    ·refine ac_else' (b := !(sEq (subS ((zer d) ++ (ito d)) (w64 (((((zer d) ++ (ito d))).size : Int) - d.scale)) ((((zer d) ++ (ito d))).size : Int)) (⟨#[]⟩ : ByteArray))) (by rw [h4]; rfl) rfl (ac_skip (aQ (aL (aM 54 (.string (subS ((zer d) ++ (ito d)) 0 (w64 (((((zer d) ++ (ito d))).size : Int) - d.scale)))) rfl rfl (aA 2 (.string (subS ((zer d) ++ (ito d)) 0 (w64 (((((zer d) ++ (ito d))).size : Int) - d.scale)))) rfl rfl (aN (ac_ret ?_)))))))
     exact fin_eq (v := .string (subS ((zer d) ++ (ito d)) 0 (w64 (((((zer d) ++ (ito d))).size : Int) - d.scale)))) (by show _ = (fun (r : ByteArray) => (.string r : Value)) (decPrint d); rw [decPrint, h4, h3, h2, h1] <;> rfl) (fin_ret (res_tmp rfl rfl))
    ·refine ac_then' (b := !(sEq (subS ((zer d) ++ (ito d)) (w64 (((((zer d) ++ (ito d))).size : Int) - d.scale)) ((((zer d) ++ (ito d))).size : Int)) (⟨#[]⟩ : ByteArray))) (by rw [h4]; rfl) rfl (aQ (aL (aM 50 (.string (subS ((zer d) ++ (ito d)) 0 (w64 (((((zer d) ++ (ito d))).size : Int) - d.scale)))) rfl rfl (aB 51 (.string ((subS ((zer d) ++ (ito d)) 0 (w64 (((((zer d) ++ (ito d))).size : Int) - d.scale))) ++ (⟨#[46]⟩ : ByteArray))) rfl rfl rfl (bi_sadd (sz_two (subS_le _ _ _ (sz_add (zer_sz h1) (ito_sz h1))) (show ((⟨#[46]⟩ : ByteArray)).size ≤ 1 from Nat.le_refl _) (by decide))) ?_))))
     refine aM 52 (.string (subS ((zer d) ++ (ito d)) (w64 (((((zer d) ++ (ito d))).size : Int) - d.scale)) ((((zer d) ++ (ito d))).size : Int))) rfl rfl (aB 53 (.string (((subS ((zer d) ++ (ito d)) 0 (w64 (((((zer d) ++ (ito d))).size : Int) - d.scale))) ++ (⟨#[46]⟩ : ByteArray)) ++ (subS ((zer d) ++ (ito d)) (w64 (((((zer d) ++ (ito d))).size : Int) - d.scale)) ((((zer d) ++ (ito d))).size : Int)))) rfl rfl rfl (bi_sadd (sz_two (sz_add (subS_le _ _ _ (sz_add (zer_sz h1) (ito_sz h1))) (show ((⟨#[46]⟩ : ByteArray)).size ≤ 1 from Nat.le_refl _)) (subS_le _ _ _ (sz_add (zer_sz h1) (ito_sz h1))) (by decide))) ?_)
     refine aA 2 (.string (((subS ((zer d) ++ (ito d)) 0 (w64 (((((zer d) ++ (ito d))).size : Int) - d.scale))) ++ (⟨#[46]⟩ : ByteArray)) ++ (subS ((zer d) ++ (ito d)) (w64 (((((zer d) ++ (ito d))).size : Int) - d.scale)) ((((zer d) ++ (ito d))).size : Int)))) rfl rfl (aN (ac_ret (fin_eq (v := .string (((subS ((zer d) ++ (ito d)) 0 (w64 (((((zer d) ++ (ito d))).size : Int) - d.scale))) ++ (⟨#[46]⟩ : ByteArray)) ++ (subS ((zer d) ++ (ito d)) (w64 (((((zer d) ++ (ito d))).size : Int) - d.scale)) ((((zer d) ++ (ito d))).size : Int)))) (by show _ = (fun (r : ByteArray) => (.string r : Value)) (decPrint d); rw [decPrint, h4, h3, h2, h1] <;> rfl) (fin_ret (res_tmp rfl rfl)))))
 ·refine ac_then' (b := !(decRight d)) (by rw [h1]; rfl) rfl (aQ (aL (aA 2 (.string (⟨#[]⟩ : ByteArray)) rfl rfl (aN (ac_ret (fin_eq (v := .string (⟨#[]⟩ : ByteArray)) (by show _ = (fun (r : ByteArray) => (.string r : Value)) (decPrint d); rw [decPrint, h1] <;> rfl) (fin_ret (res_tmp rfl rfl))))))))
end Go.Proofs.YtalffjplbhelcaaGreatDoor
namespace Go.Proofs.YtalffjplbhelcaaGreatDoor
def prForm (q1 q2 q3 : Bool) (a b : ByteArray) : ByteArray := bif q1 then (⟨#[]⟩ : ByteArray) else (bif q2 then (bif q3 then ((⟨#[45]⟩ : ByteArray) ++ a) else ((((⟨#[45]⟩ : ByteArray) ++ a) ++ (⟨#[46]⟩ : ByteArray)) ++ b)) else (bif q3 then a else ((a ++ (⟨#[46]⟩ : ByteArray)) ++ b)))
theorem prForm_sz (q1 q2 q3 : Bool) {a b : ByteArray} (ha : a.size ≤ 1021) (hb : b.size ≤ 1021) : (prForm q1 q2 q3 a b).size ≤ 3000 := by
  have h1 : (⟨#[45]⟩ : ByteArray).size = 1 := rfl
  have h2 : (⟨#[46]⟩ : ByteArray).size = 1 := rfl
  have h0 : (⟨#[]⟩ : ByteArray).size = 0 := rfl
  unfold prForm
  cases q1 <;> cases q2 <;> cases q3 <;> simp only [cond_false, cond_true, ByteArray.size_append', h0, h1, h2] <;> omega
theorem decPrint_form (d : Dec) : decPrint d = bif decRight d then prForm (decide (((subS (zer d ++ ito d) 0 (w64 (((zer d ++ ito d).size : Int) - d.scale))).size : Int) > 5)) (decide (d.c < 0)) (sEq (subS (zer d ++ ito d) (w64 (((zer d ++ ito d).size : Int) - d.scale)) ((zer d ++ ito d).size : Int)) (⟨#[]⟩ : ByteArray)) (subS (zer d ++ ito d) 0 (w64 (((zer d ++ ito d).size : Int) - d.scale))) (subS (zer d ++ ito d) (w64 (((zer d ++ ito d).size : Int) - d.scale)) ((zer d ++ ito d).size : Int)) else (⟨#[]⟩ : ByteArray) := by
  unfold decPrint prForm
  rfl
theorem print_sz (d : Dec) : (decPrint d).size ≤ 3000 := by
  rw [decPrint_form]
  cases h : decRight d
  · exact Nat.zero_le _
  · have h1 := zer_sz h
    have h2 := ito_sz h
    have h3 : (zer d ++ ito d).size ≤ 1021 := by rw [ByteArray.size_append']; omega
    exact prForm_sz _ _ _ (subS_le _ _ _ h3) (subS_le _ _ _ h3)
end Go.Proofs.YtalffjplbhelcaaGreatDoor
namespace Go.Proofs.YtalffjplbhelcaaGreatDoor
end Go.Proofs.YtalffjplbhelcaaGreatDoor
namespace Go.Proofs.YtalffjplbhelcaaGreatDoor
theorem dg_arg {n : Nat} (hn : n < 1000000000000000000) : w64 (Int.tdiv (n : Int) 10) = ((n / 10 : Nat) : Int) := by
  rw [Int.tdiv_eq_ediv_of_nonneg (by omega), w64_in (by omega)]
  omega
theorem dg_in {p : Program} {f : FuncId} {a b : Int} {v : Value} (h : Gets p f #[.int .i64 b] v) (e : a = b) : Gets p f #[.int .i64 a] v := e ▸ h
theorem dg_byte {k : Int} (h : 0 ≤ k ∧ k < 10) : byteS (IntKind.u8.wrap (w64 (48 + k))) = byA [UInt8.ofNat (48 + k.toNat)] := by
  rw [w64_in (by omega), IntKind.wrap_u8]
  unfold byteS byA
  rw [show ((48 + k) % 256).toNat = 48 + k.toNat by omega]
theorem dg_one {n : Nat} (h : decide ((n : Int) < 10) = true) : byteS (IntKind.u8.wrap (w64 (48 + (n : Int)))) = byA (Lib.decDigits n) := by
  have h := of_decide_eq_true h
  rw [dg_byte (by omega), Lib.decDigits, dif_pos (by omega), Int.toNat_natCast]
theorem dg_more {n : Nat} (h : decide ((n : Int) < 10) = false) : byA (Lib.decDigits (n / 10)) ++ byteS (IntKind.u8.wrap (w64 (48 + (Int.tmod (n : Int) 10)))) = byA (Lib.decDigits n) := by
  have h := of_decide_eq_false h
  have e : Int.tmod (n : Int) 10 = ((n % 10 : Nat) : Int) := by rw [Int.tmod_eq_emod_of_nonneg (by omega)]; omega
  rw [e, dg_byte (by omega), Int.toNat_natCast, byA_app]
  conv => rhs; rw [Lib.decDigits, dif_neg (by omega)]
theorem dg_len : ∀ (k n : Nat), n < 10 ^ (k + 1) → (Lib.decDigits n).length ≤ k + 1
  | 0, n, h => by rw [Lib.decDigits, dif_pos (by omega)]; simp
  | k + 1, n, h => by
    rw [Lib.decDigits]
    by_cases h10 : n < 10
    · rw [dif_pos h10]; simp
    · rw [dif_neg h10, List.length_append]
      have := dg_len k (n / 10) (by rw [Nat.pow_succ] at h; omega)
      simp only [List.length_singleton]
      omega
theorem dg_size {n : Nat} (h : n < 1000000000000000000) : (byA (Lib.decDigits (n / 10))).size ≤ 18 := dg_len 17 (n / 10) (by have : (10 : Nat) ^ (17 + 1) = 1000000000000000000 := by decide
                                                                                                                             omega)
end Go.Proofs.YtalffjplbhelcaaGreatDoor
namespace Go.Proofs.YtalffjplbhelcaaGreatDoor
open Go.RowKit
end Go.Proofs.YtalffjplbhelcaaGreatDoor
namespace Go.Proofs.YtalffjplbhelcaaGreatDoor
open Go.RowKit
end Go.Proofs.YtalffjplbhelcaaGreatDoor
namespace Go.Proofs.YtalffjplbhelcaaGreatDoor
open Go.RowKit
end Go.Proofs.YtalffjplbhelcaaGreatDoor
namespace Go.Proofs.YtalffjplbhelcaaGreatDoor
open Go.RowKit
theorem bs76_1_0 (x0_0 : Int) : Makes Tryz.prog (Instr.buildSlice 76 1 #[(0, .int .u8 x0_0)]) 1 [.int .u8 x0_0] 5 := ⟨fun w => by go_simp⟩
end Go.Proofs.YtalffjplbhelcaaGreatDoor
namespace Go.Proofs.YtalffjplbhelcaaGreatDoor
open Go.RowKit
attribute [local irreducible] AC AR DWalk
set_option maxRecDepth 100000 in
theorem c_rDigits (n : Nat) : n < 1000000000000000000 → Gets Tryz.prog 22 #[.int .i64 (n : Int)] (.string (byA (Lib.decDigits n))) := by
 induction n using Nat.strongRecOn with
 | _ n ih =>
  intro hn
  refine gets_fin Tryz.func22 rfl rfl rfl (aQ (aL (aA 2 (.string (⟨#[]⟩ : ByteArray)) rfl rfl (aN (aQ (aQ (aL (aM 3 (.int .i64 (n : Int)) rfl rfl (aB 4 (.bool (decide ((n : Int) < 0))) rfl rfl rfl (bi_lss rfl) (aN (ac_else' (b := decide ((n : Int) < 0)) (decide_eq_false (by omega)) rfl (ac_skip (aQ (aQ (aL (aM 9 (.int .i64 (n : Int)) rfl rfl (aB 10 (.bool (decide ((n : Int) < 10))) rfl rfl rfl (bi_lss rfl) (aN ?_))))))))))))))))))
  refine bool_split (decide ((n : Int) < 10)) (fun h1 => ?_) (fun h1 => ?_)
  ·refine ac_then' (b := decide ((n : Int) < 10)) h1 rfl (aQ (aL (aM 11 (.int .i64 (n : Int)) rfl rfl (aB 12 (.int .i64 (w64 (48 + (n : Int)))) rfl rfl rfl (bi_add rfl) (ao 13 rfl rfl (st_cv_int (k := .u8) (a := (w64 (48 + (n : Int)))) (c := (IntKind.u8.wrap (w64 (48 + (n : Int))))) Tryz.underlying5 Tryz.underlying3 rfl rfl rfl (ao 14 rfl rfl (st_bs (us := [(0, .int .u8 (IntKind.u8.wrap (w64 (48 + (n : Int)))))]) (cs := [.int .u8 (IntKind.u8.wrap (w64 (48 + (n : Int))))]) rfl rfl (bs76_1_0 _) fun g0 => (ao 15 rfl rfl (st_cvs (g := g0) (n := (IntKind.u8.wrap (w64 (48 + (n : Int))))) 0 rfl Tryz.underlying76 Tryz.underlying5 Tryz.underlying9 rfl rfl rfl rfl ?_))))))))))
   refine aA 2 (.string (byteS (IntKind.u8.wrap (w64 (48 + (n : Int)))))) rfl rfl (aN (ac_ret (fin_eq (v := .string (byteS (IntKind.u8.wrap (w64 (48 + (n : Int)))))) (congrArg Value.string (dg_one h1)) (fin_ret (res_tmp rfl rfl)))))
  ·refine ac_else' (b := decide ((n : Int) < 10)) h1 rfl (ac_skip (aQ ?_))
   refine ac_any follows 11 rfl (fun Φ stepR doneR permR => ?_)
   refine ((fun s5_29 => ?_) : (∀ (E : Env) (b5_7 : Nat), E 2 = .string ((byA (Lib.decDigits (n / 10))) ++ (byteS (IntKind.u8.wrap (w64 (48 + (Int.tmod (n : Int) 10)))))) → Φ 0 [true, true, true, true, true, true, true, true, true, true, true] E [⟨b5_7, [.int .u8 (IntKind.u8.wrap (w64 (48 + (Int.tmod (n : Int) 10))))], 5, false⟩]) → _) ?_
   ·have s5_28 : ∀ (E : Env) (b5_7 : Nat), E 2 = .string (⟨#[]⟩ : ByteArray) → E 25 = .string ((byA (Lib.decDigits (n / 10))) ++ (byteS (IntKind.u8.wrap (w64 (48 + (Int.tmod (n : Int) 10)))))) → Φ 1 [true, true, true, true, true, true, true, true, true, true, false] E [⟨b5_7, [.int .u8 (IntKind.u8.wrap (w64 (48 + (Int.tmod (n : Int) 10))))], 5, false⟩] := by
     intro E b5_7 q2 q25
     obtain ⟨E0, rfl⟩ : ∃ E0 : Env, E = ((E0.put (some 2) (.string (⟨#[]⟩ : ByteArray))).put (some 25) (.string ((byA (Lib.decDigits (n / 10))) ++ (byteS (IntKind.u8.wrap (w64 (48 + (Int.tmod (n : Int) 10)))))))) := ⟨E, by rw [put_self q2, put_self q25]⟩
     refine stepR 0 _ _ _ [10] (by kernel_rfl) rfl ⟨?_, trivial⟩
     ·refine opR_op (d := (some 2)) rfl rfl rfl (st_assign (v := .string ((byA (Lib.decDigits (n / 10))) ++ (byteS (IntKind.u8.wrap (w64 (48 + (Int.tmod (n : Int) 10))))))) rfl rfl ?_)
      exact s5_29 _ _ rfl
    have s5_27 : ∀ (E : Env) (b5_7 : Nat), E 2 = .string (⟨#[]⟩ : ByteArray) → E 18 = .string (byA (Lib.decDigits (n / 10))) → E 24 = .string (byteS (IntKind.u8.wrap (w64 (48 + (Int.tmod (n : Int) 10))))) → Φ 2 [true, true, true, true, true, true, true, true, true, false, false] E [⟨b5_7, [.int .u8 (IntKind.u8.wrap (w64 (48 + (Int.tmod (n : Int) 10))))], 5, false⟩] := by
     intro E b5_7 q2 q18 q24
     obtain ⟨E0, rfl⟩ : ∃ E0 : Env, E = (((E0.put (some 2) (.string (⟨#[]⟩ : ByteArray))).put (some 18) (.string (byA (Lib.decDigits (n / 10))))).put (some 24) (.string (byteS (IntKind.u8.wrap (w64 (48 + (Int.tmod (n : Int) 10))))))) := ⟨E, by rw [put_self q2, put_self q18, put_self q24]⟩
     refine stepR 1 _ _ _ [9] (by kernel_rfl) rfl ⟨?_, trivial⟩
     ·refine opR_op (d := (some 25)) rfl rfl rfl (st_bi (r := .string ((byA (Lib.decDigits (n / 10))) ++ (byteS (IntKind.u8.wrap (w64 (48 + (Int.tmod (n : Int) 10))))))) rfl rfl rfl (bi_sadd (sz_two (dg_size hn) (byteS_size _) (by decide))) ?_)
      exact s5_28 _ _ rfl rfl
    have s5_26 : ∀ (E : Env) (b5_7 : Nat), E 2 = .string (⟨#[]⟩ : ByteArray) → E 18 = .string (byA (Lib.decDigits (n / 10))) → E 23 = .slice (some ⟨b5_7, 0, none⟩) 1 1 → Φ 3 [true, true, true, true, true, true, true, true, false, false, false] E [⟨b5_7, [.int .u8 (IntKind.u8.wrap (w64 (48 + (Int.tmod (n : Int) 10))))], 5, false⟩] := by
     intro E b5_7 q2 q18 q23
     obtain ⟨E0, rfl⟩ : ∃ E0 : Env, E = (((E0.put (some 2) (.string (⟨#[]⟩ : ByteArray))).put (some 18) (.string (byA (Lib.decDigits (n / 10))))).put (some 23) (.slice (some ⟨b5_7, 0, none⟩) 1 1)) := ⟨E, by rw [put_self q2, put_self q18, put_self q23]⟩
     refine stepR 2 _ _ _ [8] (by kernel_rfl) rfl ⟨?_, trivial⟩
     ·refine opR_op (d := (some 24)) rfl rfl rfl (st_cvs (g := b5_7) (n := (IntKind.u8.wrap (w64 (48 + (Int.tmod (n : Int) 10))))) 0 rfl Tryz.underlying76 Tryz.underlying5 Tryz.underlying9 rfl rfl rfl rfl ?_)
      exact s5_27 _ _ rfl rfl rfl
    have s5_25 : ∀ (E : Env) (b5_7 : Nat), E 2 = .string (⟨#[]⟩ : ByteArray) → E 17 = .int .i64 (w64 (Int.tdiv (n : Int) 10)) → E 24 = .string (byteS (IntKind.u8.wrap (w64 (48 + (Int.tmod (n : Int) 10))))) → Φ 3 [true, true, false, true, true, true, true, true, true, false, false] E [⟨b5_7, [.int .u8 (IntKind.u8.wrap (w64 (48 + (Int.tmod (n : Int) 10))))], 5, false⟩] := by
     intro E b5_7 q2 q17 q24
     obtain ⟨E0, rfl⟩ : ∃ E0 : Env, E = (((E0.put (some 2) (.string (⟨#[]⟩ : ByteArray))).put (some 17) (.int .i64 (w64 (Int.tdiv (n : Int) 10)))).put (some 24) (.string (byteS (IntKind.u8.wrap (w64 (48 + (Int.tmod (n : Int) 10))))))) := ⟨E, by rw [put_self q2, put_self q17, put_self q24]⟩
     refine stepR 2 _ _ _ [2] (by kernel_rfl) rfl ⟨?_, trivial⟩
     ·refine opR_op (d := (some 18)) rfl rfl rfl (st_cf (dg_in (ih (n / 10) (by have := of_decide_eq_false h1; omega) (by omega)) (dg_arg hn)) Tryz.func22 rfl (by decide) rfl rfl rfl ?_)
      exact s5_27 _ _ rfl rfl rfl
    have s5_24 : ∀ (E : Env), E 2 = .string (⟨#[]⟩ : ByteArray) → E 18 = .string (byA (Lib.decDigits (n / 10))) → E 22 = .int .u8 (IntKind.u8.wrap (w64 (48 + (Int.tmod (n : Int) 10)))) → Φ 4 [true, true, true, true, true, true, true, false, false, false, false] E [] := by
     intro E q2 q18 q22
     obtain ⟨E0, rfl⟩ : ∃ E0 : Env, E = (((E0.put (some 2) (.string (⟨#[]⟩ : ByteArray))).put (some 18) (.string (byA (Lib.decDigits (n / 10))))).put (some 22) (.int .u8 (IntKind.u8.wrap (w64 (48 + (Int.tmod (n : Int) 10)))))) := ⟨E, by rw [put_self q2, put_self q18, put_self q22]⟩
     refine stepR 3 _ _ _ [7] (by kernel_rfl) rfl ⟨?_, trivial⟩
     ·refine opR_op (d := (some 23)) rfl rfl rfl (st_bs (us := [(0, .int .u8 (IntKind.u8.wrap (w64 (48 + (Int.tmod (n : Int) 10)))))]) (cs := [.int .u8 (IntKind.u8.wrap (w64 (48 + (Int.tmod (n : Int) 10))))]) rfl rfl (bs76_1_0 _) fun b5_7 => ?_)
      exact s5_26 _ _ rfl rfl rfl
    have s5_23 : ∀ (E : Env) (b5_7 : Nat), E 2 = .string (⟨#[]⟩ : ByteArray) → E 17 = .int .i64 (w64 (Int.tdiv (n : Int) 10)) → E 23 = .slice (some ⟨b5_7, 0, none⟩) 1 1 → Φ 4 [true, true, false, true, true, true, true, true, false, false, false] E [⟨b5_7, [.int .u8 (IntKind.u8.wrap (w64 (48 + (Int.tmod (n : Int) 10))))], 5, false⟩] := by
     intro E b5_7 q2 q17 q23
     obtain ⟨E0, rfl⟩ : ∃ E0 : Env, E = (((E0.put (some 2) (.string (⟨#[]⟩ : ByteArray))).put (some 17) (.int .i64 (w64 (Int.tdiv (n : Int) 10)))).put (some 23) (.slice (some ⟨b5_7, 0, none⟩) 1 1)) := ⟨E, by rw [put_self q2, put_self q17, put_self q23]⟩
     refine stepR 3 _ _ _ [2, 8] (by kernel_rfl) rfl ⟨?_, ?_, trivial⟩
     ·refine opR_op (d := (some 18)) rfl rfl rfl (st_cf (dg_in (ih (n / 10) (by have := of_decide_eq_false h1; omega) (by omega)) (dg_arg hn)) Tryz.func22 rfl (by decide) rfl rfl rfl ?_)
      exact s5_26 _ _ rfl rfl rfl
     ·refine opR_op (d := (some 24)) rfl rfl rfl (st_cvs (g := b5_7) (n := (IntKind.u8.wrap (w64 (48 + (Int.tmod (n : Int) 10))))) 0 rfl Tryz.underlying76 Tryz.underlying5 Tryz.underlying9 rfl rfl rfl rfl ?_)
      exact s5_25 _ _ rfl rfl rfl
    have s5_22 : ∀ (E : Env) (b5_7 : Nat), E 2 = .string (⟨#[]⟩ : ByteArray) → E 16 = .int .i64 (n : Int) → E 24 = .string (byteS (IntKind.u8.wrap (w64 (48 + (Int.tmod (n : Int) 10))))) → Φ 4 [true, false, false, true, true, true, true, true, true, false, false] E [⟨b5_7, [.int .u8 (IntKind.u8.wrap (w64 (48 + (Int.tmod (n : Int) 10))))], 5, false⟩] := by
     intro E b5_7 q2 q16 q24
     obtain ⟨E0, rfl⟩ : ∃ E0 : Env, E = (((E0.put (some 2) (.string (⟨#[]⟩ : ByteArray))).put (some 16) (.int .i64 (n : Int))).put (some 24) (.string (byteS (IntKind.u8.wrap (w64 (48 + (Int.tmod (n : Int) 10))))))) := ⟨E, by rw [put_self q2, put_self q16, put_self q24]⟩
     refine stepR 3 _ _ _ [1] (by kernel_rfl) rfl ⟨?_, trivial⟩
     ·refine opR_op (d := (some 17)) rfl rfl rfl (st_bi (r := .int .i64 (w64 (Int.tdiv (n : Int) 10))) rfl rfl rfl (bi_quo (by decide) rfl) ?_)
      exact s5_25 _ _ rfl rfl rfl
    have s5_21 : ∀ (E : Env), E 2 = .string (⟨#[]⟩ : ByteArray) → E 18 = .string (byA (Lib.decDigits (n / 10))) → E 21 = .int .i64 (w64 (48 + (Int.tmod (n : Int) 10))) → Φ 5 [true, true, true, true, true, true, false, false, false, false, false] E [] := by
     intro E q2 q18 q21
     obtain ⟨E0, rfl⟩ : ∃ E0 : Env, E = (((E0.put (some 2) (.string (⟨#[]⟩ : ByteArray))).put (some 18) (.string (byA (Lib.decDigits (n / 10))))).put (some 21) (.int .i64 (w64 (48 + (Int.tmod (n : Int) 10))))) := ⟨E, by rw [put_self q2, put_self q18, put_self q21]⟩
     refine stepR 4 _ _ _ [6] (by kernel_rfl) rfl ⟨?_, trivial⟩
     ·refine opR_op (d := (some 22)) rfl rfl rfl (st_cv_int (k := .u8) (a := (w64 (48 + (Int.tmod (n : Int) 10)))) (c := (IntKind.u8.wrap (w64 (48 + (Int.tmod (n : Int) 10))))) Tryz.underlying5 Tryz.underlying3 rfl rfl rfl ?_)
      exact s5_24 _ rfl rfl rfl
    have s5_20 : ∀ (E : Env), E 2 = .string (⟨#[]⟩ : ByteArray) → E 17 = .int .i64 (w64 (Int.tdiv (n : Int) 10)) → E 22 = .int .u8 (IntKind.u8.wrap (w64 (48 + (Int.tmod (n : Int) 10)))) → Φ 5 [true, true, false, true, true, true, true, false, false, false, false] E [] := by
     intro E q2 q17 q22
     obtain ⟨E0, rfl⟩ : ∃ E0 : Env, E = (((E0.put (some 2) (.string (⟨#[]⟩ : ByteArray))).put (some 17) (.int .i64 (w64 (Int.tdiv (n : Int) 10)))).put (some 22) (.int .u8 (IntKind.u8.wrap (w64 (48 + (Int.tmod (n : Int) 10)))))) := ⟨E, by rw [put_self q2, put_self q17, put_self q22]⟩
     refine stepR 4 _ _ _ [2, 7] (by kernel_rfl) rfl ⟨?_, ?_, trivial⟩
     ·refine opR_op (d := (some 18)) rfl rfl rfl (st_cf (dg_in (ih (n / 10) (by have := of_decide_eq_false h1; omega) (by omega)) (dg_arg hn)) Tryz.func22 rfl (by decide) rfl rfl rfl ?_)
      exact s5_24 _ rfl rfl rfl
     ·refine opR_op (d := (some 23)) rfl rfl rfl (st_bs (us := [(0, .int .u8 (IntKind.u8.wrap (w64 (48 + (Int.tmod (n : Int) 10)))))]) (cs := [.int .u8 (IntKind.u8.wrap (w64 (48 + (Int.tmod (n : Int) 10))))]) rfl rfl (bs76_1_0 _) fun b5_7 => ?_)
      exact s5_23 _ _ rfl rfl rfl
    have s5_19 : ∀ (E : Env) (b5_7 : Nat), E 2 = .string (⟨#[]⟩ : ByteArray) → E 16 = .int .i64 (n : Int) → E 23 = .slice (some ⟨b5_7, 0, none⟩) 1 1 → Φ 5 [true, false, false, true, true, true, true, true, false, false, false] E [⟨b5_7, [.int .u8 (IntKind.u8.wrap (w64 (48 + (Int.tmod (n : Int) 10))))], 5, false⟩] := by
     intro E b5_7 q2 q16 q23
     obtain ⟨E0, rfl⟩ : ∃ E0 : Env, E = (((E0.put (some 2) (.string (⟨#[]⟩ : ByteArray))).put (some 16) (.int .i64 (n : Int))).put (some 23) (.slice (some ⟨b5_7, 0, none⟩) 1 1)) := ⟨E, by rw [put_self q2, put_self q16, put_self q23]⟩
     refine stepR 4 _ _ _ [1, 8] (by kernel_rfl) rfl ⟨?_, ?_, trivial⟩
     ·refine opR_op (d := (some 17)) rfl rfl rfl (st_bi (r := .int .i64 (w64 (Int.tdiv (n : Int) 10))) rfl rfl rfl (bi_quo (by decide) rfl) ?_)
      exact s5_23 _ _ rfl rfl rfl
     ·refine opR_op (d := (some 24)) rfl rfl rfl (st_cvs (g := b5_7) (n := (IntKind.u8.wrap (w64 (48 + (Int.tmod (n : Int) 10))))) 0 rfl Tryz.underlying76 Tryz.underlying5 Tryz.underlying9 rfl rfl rfl rfl ?_)
      exact s5_22 _ _ rfl rfl rfl
    have s5_18 : ∀ (E : Env) (b5_7 : Nat), E 0 = .int .i64 (n : Int) → E 2 = .string (⟨#[]⟩ : ByteArray) → E 24 = .string (byteS (IntKind.u8.wrap (w64 (48 + (Int.tmod (n : Int) 10))))) → Φ 5 [false, false, false, true, true, true, true, true, true, false, false] E [⟨b5_7, [.int .u8 (IntKind.u8.wrap (w64 (48 + (Int.tmod (n : Int) 10))))], 5, false⟩] := by
     intro E b5_7 q0 q2 q24
     obtain ⟨E0, rfl⟩ : ∃ E0 : Env, E = (((E0.put (some 0) (.int .i64 (n : Int))).put (some 2) (.string (⟨#[]⟩ : ByteArray))).put (some 24) (.string (byteS (IntKind.u8.wrap (w64 (48 + (Int.tmod (n : Int) 10))))))) := ⟨E, by rw [put_self q0, put_self q2, put_self q24]⟩
     refine stepR 4 _ _ _ [0] (by kernel_rfl) rfl ⟨?_, trivial⟩
     ·refine opR_op (d := (some 16)) rfl rfl rfl (st_move (v := .int .i64 (n : Int)) rfl rfl ?_)
      exact s5_22 _ _ rfl rfl rfl
    have s5_17 : ∀ (E : Env), E 2 = .string (⟨#[]⟩ : ByteArray) → E 18 = .string (byA (Lib.decDigits (n / 10))) → E 20 = .int .i64 (Int.tmod (n : Int) 10) → Φ 6 [true, true, true, true, true, false, false, false, false, false, false] E [] := by
     intro E q2 q18 q20
     obtain ⟨E0, rfl⟩ : ∃ E0 : Env, E = (((E0.put (some 2) (.string (⟨#[]⟩ : ByteArray))).put (some 18) (.string (byA (Lib.decDigits (n / 10))))).put (some 20) (.int .i64 (Int.tmod (n : Int) 10))) := ⟨E, by rw [put_self q2, put_self q18, put_self q20]⟩
     refine stepR 5 _ _ _ [5] (by kernel_rfl) rfl ⟨?_, trivial⟩
     ·refine opR_op (d := (some 21)) rfl rfl rfl (st_bi (r := .int .i64 (w64 (48 + (Int.tmod (n : Int) 10)))) rfl rfl rfl (bi_add rfl) ?_)
      exact s5_21 _ rfl rfl rfl
    have s5_16 : ∀ (E : Env), E 2 = .string (⟨#[]⟩ : ByteArray) → E 17 = .int .i64 (w64 (Int.tdiv (n : Int) 10)) → E 21 = .int .i64 (w64 (48 + (Int.tmod (n : Int) 10))) → Φ 6 [true, true, false, true, true, true, false, false, false, false, false] E [] := by
     intro E q2 q17 q21
     obtain ⟨E0, rfl⟩ : ∃ E0 : Env, E = (((E0.put (some 2) (.string (⟨#[]⟩ : ByteArray))).put (some 17) (.int .i64 (w64 (Int.tdiv (n : Int) 10)))).put (some 21) (.int .i64 (w64 (48 + (Int.tmod (n : Int) 10))))) := ⟨E, by rw [put_self q2, put_self q17, put_self q21]⟩
     refine stepR 5 _ _ _ [2, 6] (by kernel_rfl) rfl ⟨?_, ?_, trivial⟩
     ·refine opR_op (d := (some 18)) rfl rfl rfl (st_cf (dg_in (ih (n / 10) (by have := of_decide_eq_false h1; omega) (by omega)) (dg_arg hn)) Tryz.func22 rfl (by decide) rfl rfl rfl ?_)
      exact s5_21 _ rfl rfl rfl
     ·refine opR_op (d := (some 22)) rfl rfl rfl (st_cv_int (k := .u8) (a := (w64 (48 + (Int.tmod (n : Int) 10)))) (c := (IntKind.u8.wrap (w64 (48 + (Int.tmod (n : Int) 10))))) Tryz.underlying5 Tryz.underlying3 rfl rfl rfl ?_)
      exact s5_20 _ rfl rfl rfl
    have s5_15 : ∀ (E : Env), E 2 = .string (⟨#[]⟩ : ByteArray) → E 16 = .int .i64 (n : Int) → E 22 = .int .u8 (IntKind.u8.wrap (w64 (48 + (Int.tmod (n : Int) 10)))) → Φ 6 [true, false, false, true, true, true, true, false, false, false, false] E [] := by
     intro E q2 q16 q22
     obtain ⟨E0, rfl⟩ : ∃ E0 : Env, E = (((E0.put (some 2) (.string (⟨#[]⟩ : ByteArray))).put (some 16) (.int .i64 (n : Int))).put (some 22) (.int .u8 (IntKind.u8.wrap (w64 (48 + (Int.tmod (n : Int) 10)))))) := ⟨E, by rw [put_self q2, put_self q16, put_self q22]⟩
     refine stepR 5 _ _ _ [1, 7] (by kernel_rfl) rfl ⟨?_, ?_, trivial⟩
     ·refine opR_op (d := (some 17)) rfl rfl rfl (st_bi (r := .int .i64 (w64 (Int.tdiv (n : Int) 10))) rfl rfl rfl (bi_quo (by decide) rfl) ?_)
      exact s5_20 _ rfl rfl rfl
     ·refine opR_op (d := (some 23)) rfl rfl rfl (st_bs (us := [(0, .int .u8 (IntKind.u8.wrap (w64 (48 + (Int.tmod (n : Int) 10)))))]) (cs := [.int .u8 (IntKind.u8.wrap (w64 (48 + (Int.tmod (n : Int) 10))))]) rfl rfl (bs76_1_0 _) fun b5_7 => ?_)
      exact s5_19 _ _ rfl rfl rfl
    have s5_14 : ∀ (E : Env) (b5_7 : Nat), E 0 = .int .i64 (n : Int) → E 2 = .string (⟨#[]⟩ : ByteArray) → E 23 = .slice (some ⟨b5_7, 0, none⟩) 1 1 → Φ 6 [false, false, false, true, true, true, true, true, false, false, false] E [⟨b5_7, [.int .u8 (IntKind.u8.wrap (w64 (48 + (Int.tmod (n : Int) 10))))], 5, false⟩] := by
     intro E b5_7 q0 q2 q23
     obtain ⟨E0, rfl⟩ : ∃ E0 : Env, E = (((E0.put (some 0) (.int .i64 (n : Int))).put (some 2) (.string (⟨#[]⟩ : ByteArray))).put (some 23) (.slice (some ⟨b5_7, 0, none⟩) 1 1)) := ⟨E, by rw [put_self q0, put_self q2, put_self q23]⟩
     refine stepR 5 _ _ _ [0, 8] (by kernel_rfl) rfl ⟨?_, ?_, trivial⟩
     ·refine opR_op (d := (some 16)) rfl rfl rfl (st_move (v := .int .i64 (n : Int)) rfl rfl ?_)
      exact s5_19 _ _ rfl rfl rfl
     ·refine opR_op (d := (some 24)) rfl rfl rfl (st_cvs (g := b5_7) (n := (IntKind.u8.wrap (w64 (48 + (Int.tmod (n : Int) 10))))) 0 rfl Tryz.underlying76 Tryz.underlying5 Tryz.underlying9 rfl rfl rfl rfl ?_)
      exact s5_18 _ _ rfl rfl rfl
    have s5_13 : ∀ (E : Env), E 2 = .string (⟨#[]⟩ : ByteArray) → E 18 = .string (byA (Lib.decDigits (n / 10))) → E 19 = .int .i64 (n : Int) → Φ 7 [true, true, true, true, false, false, false, false, false, false, false] E [] := by
     intro E q2 q18 q19
     obtain ⟨E0, rfl⟩ : ∃ E0 : Env, E = (((E0.put (some 2) (.string (⟨#[]⟩ : ByteArray))).put (some 18) (.string (byA (Lib.decDigits (n / 10))))).put (some 19) (.int .i64 (n : Int))) := ⟨E, by rw [put_self q2, put_self q18, put_self q19]⟩
     refine stepR 6 _ _ _ [4] (by kernel_rfl) rfl ⟨?_, trivial⟩
     ·refine opR_op (d := (some 20)) rfl rfl rfl (st_bi (r := .int .i64 (Int.tmod (n : Int) 10)) rfl rfl rfl (bi_rem (by decide) rfl) ?_)
      exact s5_17 _ rfl rfl rfl
    have s5_12 : ∀ (E : Env), E 2 = .string (⟨#[]⟩ : ByteArray) → E 17 = .int .i64 (w64 (Int.tdiv (n : Int) 10)) → E 20 = .int .i64 (Int.tmod (n : Int) 10) → Φ 7 [true, true, false, true, true, false, false, false, false, false, false] E [] := by
     intro E q2 q17 q20
     obtain ⟨E0, rfl⟩ : ∃ E0 : Env, E = (((E0.put (some 2) (.string (⟨#[]⟩ : ByteArray))).put (some 17) (.int .i64 (w64 (Int.tdiv (n : Int) 10)))).put (some 20) (.int .i64 (Int.tmod (n : Int) 10))) := ⟨E, by rw [put_self q2, put_self q17, put_self q20]⟩
     refine stepR 6 _ _ _ [2, 5] (by kernel_rfl) rfl ⟨?_, ?_, trivial⟩
     ·refine opR_op (d := (some 18)) rfl rfl rfl (st_cf (dg_in (ih (n / 10) (by have := of_decide_eq_false h1; omega) (by omega)) (dg_arg hn)) Tryz.func22 rfl (by decide) rfl rfl rfl ?_)
      exact s5_17 _ rfl rfl rfl
     ·refine opR_op (d := (some 21)) rfl rfl rfl (st_bi (r := .int .i64 (w64 (48 + (Int.tmod (n : Int) 10)))) rfl rfl rfl (bi_add rfl) ?_)
      exact s5_16 _ rfl rfl rfl
    have s5_11 : ∀ (E : Env), E 2 = .string (⟨#[]⟩ : ByteArray) → E 16 = .int .i64 (n : Int) → E 21 = .int .i64 (w64 (48 + (Int.tmod (n : Int) 10))) → Φ 7 [true, false, false, true, true, true, false, false, false, false, false] E [] := by
     intro E q2 q16 q21
     obtain ⟨E0, rfl⟩ : ∃ E0 : Env, E = (((E0.put (some 2) (.string (⟨#[]⟩ : ByteArray))).put (some 16) (.int .i64 (n : Int))).put (some 21) (.int .i64 (w64 (48 + (Int.tmod (n : Int) 10))))) := ⟨E, by rw [put_self q2, put_self q16, put_self q21]⟩
     refine stepR 6 _ _ _ [1, 6] (by kernel_rfl) rfl ⟨?_, ?_, trivial⟩
     ·refine opR_op (d := (some 17)) rfl rfl rfl (st_bi (r := .int .i64 (w64 (Int.tdiv (n : Int) 10))) rfl rfl rfl (bi_quo (by decide) rfl) ?_)
      exact s5_16 _ rfl rfl rfl
     ·refine opR_op (d := (some 22)) rfl rfl rfl (st_cv_int (k := .u8) (a := (w64 (48 + (Int.tmod (n : Int) 10)))) (c := (IntKind.u8.wrap (w64 (48 + (Int.tmod (n : Int) 10))))) Tryz.underlying5 Tryz.underlying3 rfl rfl rfl ?_)
      exact s5_15 _ rfl rfl rfl
    have s5_10 : ∀ (E : Env), E 0 = .int .i64 (n : Int) → E 2 = .string (⟨#[]⟩ : ByteArray) → E 22 = .int .u8 (IntKind.u8.wrap (w64 (48 + (Int.tmod (n : Int) 10)))) → Φ 7 [false, false, false, true, true, true, true, false, false, false, false] E [] := by
     intro E q0 q2 q22
     obtain ⟨E0, rfl⟩ : ∃ E0 : Env, E = (((E0.put (some 0) (.int .i64 (n : Int))).put (some 2) (.string (⟨#[]⟩ : ByteArray))).put (some 22) (.int .u8 (IntKind.u8.wrap (w64 (48 + (Int.tmod (n : Int) 10)))))) := ⟨E, by rw [put_self q0, put_self q2, put_self q22]⟩
     refine stepR 6 _ _ _ [0, 7] (by kernel_rfl) rfl ⟨?_, ?_, trivial⟩
     ·refine opR_op (d := (some 16)) rfl rfl rfl (st_move (v := .int .i64 (n : Int)) rfl rfl ?_)
      exact s5_15 _ rfl rfl rfl
     ·refine opR_op (d := (some 23)) rfl rfl rfl (st_bs (us := [(0, .int .u8 (IntKind.u8.wrap (w64 (48 + (Int.tmod (n : Int) 10)))))]) (cs := [.int .u8 (IntKind.u8.wrap (w64 (48 + (Int.tmod (n : Int) 10))))]) rfl rfl (bs76_1_0 _) fun b5_7 => ?_)
      exact s5_14 _ _ rfl rfl rfl
    have s5_9 : ∀ (E : Env), E 0 = .int .i64 (n : Int) → E 2 = .string (⟨#[]⟩ : ByteArray) → E 18 = .string (byA (Lib.decDigits (n / 10))) → Φ 8 [true, true, true, false, false, false, false, false, false, false, false] E [] := by
     intro E q0 q2 q18
     obtain ⟨E0, rfl⟩ : ∃ E0 : Env, E = (((E0.put (some 0) (.int .i64 (n : Int))).put (some 2) (.string (⟨#[]⟩ : ByteArray))).put (some 18) (.string (byA (Lib.decDigits (n / 10))))) := ⟨E, by rw [put_self q0, put_self q2, put_self q18]⟩
     refine stepR 7 _ _ _ [3] (by kernel_rfl) rfl ⟨?_, trivial⟩
     ·refine opR_op (d := (some 19)) rfl rfl rfl (st_move (v := .int .i64 (n : Int)) rfl rfl ?_)
      exact s5_13 _ rfl rfl rfl
    have s5_8 : ∀ (E : Env), E 2 = .string (⟨#[]⟩ : ByteArray) → E 17 = .int .i64 (w64 (Int.tdiv (n : Int) 10)) → E 19 = .int .i64 (n : Int) → Φ 8 [true, true, false, true, false, false, false, false, false, false, false] E [] := by
     intro E q2 q17 q19
     obtain ⟨E0, rfl⟩ : ∃ E0 : Env, E = (((E0.put (some 2) (.string (⟨#[]⟩ : ByteArray))).put (some 17) (.int .i64 (w64 (Int.tdiv (n : Int) 10)))).put (some 19) (.int .i64 (n : Int))) := ⟨E, by rw [put_self q2, put_self q17, put_self q19]⟩
     refine stepR 7 _ _ _ [2, 4] (by kernel_rfl) rfl ⟨?_, ?_, trivial⟩
     ·refine opR_op (d := (some 18)) rfl rfl rfl (st_cf (dg_in (ih (n / 10) (by have := of_decide_eq_false h1; omega) (by omega)) (dg_arg hn)) Tryz.func22 rfl (by decide) rfl rfl rfl ?_)
      exact s5_13 _ rfl rfl rfl
     ·refine opR_op (d := (some 20)) rfl rfl rfl (st_bi (r := .int .i64 (Int.tmod (n : Int) 10)) rfl rfl rfl (bi_rem (by decide) rfl) ?_)
      exact s5_12 _ rfl rfl rfl
    have s5_7 : ∀ (E : Env), E 2 = .string (⟨#[]⟩ : ByteArray) → E 16 = .int .i64 (n : Int) → E 20 = .int .i64 (Int.tmod (n : Int) 10) → Φ 8 [true, false, false, true, true, false, false, false, false, false, false] E [] := by
     intro E q2 q16 q20
     obtain ⟨E0, rfl⟩ : ∃ E0 : Env, E = (((E0.put (some 2) (.string (⟨#[]⟩ : ByteArray))).put (some 16) (.int .i64 (n : Int))).put (some 20) (.int .i64 (Int.tmod (n : Int) 10))) := ⟨E, by rw [put_self q2, put_self q16, put_self q20]⟩
     refine stepR 7 _ _ _ [1, 5] (by kernel_rfl) rfl ⟨?_, ?_, trivial⟩
     ·refine opR_op (d := (some 17)) rfl rfl rfl (st_bi (r := .int .i64 (w64 (Int.tdiv (n : Int) 10))) rfl rfl rfl (bi_quo (by decide) rfl) ?_)
      exact s5_12 _ rfl rfl rfl
     ·refine opR_op (d := (some 21)) rfl rfl rfl (st_bi (r := .int .i64 (w64 (48 + (Int.tmod (n : Int) 10)))) rfl rfl rfl (bi_add rfl) ?_)
      exact s5_11 _ rfl rfl rfl
    have s5_6 : ∀ (E : Env), E 0 = .int .i64 (n : Int) → E 2 = .string (⟨#[]⟩ : ByteArray) → E 21 = .int .i64 (w64 (48 + (Int.tmod (n : Int) 10))) → Φ 8 [false, false, false, true, true, true, false, false, false, false, false] E [] := by
     intro E q0 q2 q21
     obtain ⟨E0, rfl⟩ : ∃ E0 : Env, E = (((E0.put (some 0) (.int .i64 (n : Int))).put (some 2) (.string (⟨#[]⟩ : ByteArray))).put (some 21) (.int .i64 (w64 (48 + (Int.tmod (n : Int) 10))))) := ⟨E, by rw [put_self q0, put_self q2, put_self q21]⟩
     refine stepR 7 _ _ _ [0, 6] (by kernel_rfl) rfl ⟨?_, ?_, trivial⟩
     ·refine opR_op (d := (some 16)) rfl rfl rfl (st_move (v := .int .i64 (n : Int)) rfl rfl ?_)
      exact s5_11 _ rfl rfl rfl
     ·refine opR_op (d := (some 22)) rfl rfl rfl (st_cv_int (k := .u8) (a := (w64 (48 + (Int.tmod (n : Int) 10)))) (c := (IntKind.u8.wrap (w64 (48 + (Int.tmod (n : Int) 10))))) Tryz.underlying5 Tryz.underlying3 rfl rfl rfl ?_)
      exact s5_10 _ rfl rfl rfl
    have s5_5 : ∀ (E : Env), E 0 = .int .i64 (n : Int) → E 2 = .string (⟨#[]⟩ : ByteArray) → E 17 = .int .i64 (w64 (Int.tdiv (n : Int) 10)) → Φ 9 [true, true, false, false, false, false, false, false, false, false, false] E [] := by
     intro E q0 q2 q17
     obtain ⟨E0, rfl⟩ : ∃ E0 : Env, E = (((E0.put (some 0) (.int .i64 (n : Int))).put (some 2) (.string (⟨#[]⟩ : ByteArray))).put (some 17) (.int .i64 (w64 (Int.tdiv (n : Int) 10)))) := ⟨E, by rw [put_self q0, put_self q2, put_self q17]⟩
     refine stepR 8 _ _ _ [2, 3] (by kernel_rfl) rfl ⟨?_, ?_, trivial⟩
     ·refine opR_op (d := (some 18)) rfl rfl rfl (st_cf (dg_in (ih (n / 10) (by have := of_decide_eq_false h1; omega) (by omega)) (dg_arg hn)) Tryz.func22 rfl (by decide) rfl rfl rfl ?_)
      exact s5_9 _ rfl rfl rfl
     ·refine opR_op (d := (some 19)) rfl rfl rfl (st_move (v := .int .i64 (n : Int)) rfl rfl ?_)
      exact s5_8 _ rfl rfl rfl
    have s5_4 : ∀ (E : Env), E 2 = .string (⟨#[]⟩ : ByteArray) → E 16 = .int .i64 (n : Int) → E 19 = .int .i64 (n : Int) → Φ 9 [true, false, false, true, false, false, false, false, false, false, false] E [] := by
     intro E q2 q16 q19
     obtain ⟨E0, rfl⟩ : ∃ E0 : Env, E = (((E0.put (some 2) (.string (⟨#[]⟩ : ByteArray))).put (some 16) (.int .i64 (n : Int))).put (some 19) (.int .i64 (n : Int))) := ⟨E, by rw [put_self q2, put_self q16, put_self q19]⟩
     refine stepR 8 _ _ _ [1, 4] (by kernel_rfl) rfl ⟨?_, ?_, trivial⟩
     ·refine opR_op (d := (some 17)) rfl rfl rfl (st_bi (r := .int .i64 (w64 (Int.tdiv (n : Int) 10))) rfl rfl rfl (bi_quo (by decide) rfl) ?_)
      exact s5_8 _ rfl rfl rfl
     ·refine opR_op (d := (some 20)) rfl rfl rfl (st_bi (r := .int .i64 (Int.tmod (n : Int) 10)) rfl rfl rfl (bi_rem (by decide) rfl) ?_)
      exact s5_7 _ rfl rfl rfl
    have s5_3 : ∀ (E : Env), E 0 = .int .i64 (n : Int) → E 2 = .string (⟨#[]⟩ : ByteArray) → E 20 = .int .i64 (Int.tmod (n : Int) 10) → Φ 9 [false, false, false, true, true, false, false, false, false, false, false] E [] := by
     intro E q0 q2 q20
     obtain ⟨E0, rfl⟩ : ∃ E0 : Env, E = (((E0.put (some 0) (.int .i64 (n : Int))).put (some 2) (.string (⟨#[]⟩ : ByteArray))).put (some 20) (.int .i64 (Int.tmod (n : Int) 10))) := ⟨E, by rw [put_self q0, put_self q2, put_self q20]⟩
     refine stepR 8 _ _ _ [0, 5] (by kernel_rfl) rfl ⟨?_, ?_, trivial⟩
     ·refine opR_op (d := (some 16)) rfl rfl rfl (st_move (v := .int .i64 (n : Int)) rfl rfl ?_)
      exact s5_7 _ rfl rfl rfl
     ·refine opR_op (d := (some 21)) rfl rfl rfl (st_bi (r := .int .i64 (w64 (48 + (Int.tmod (n : Int) 10)))) rfl rfl rfl (bi_add rfl) ?_)
      exact s5_6 _ rfl rfl rfl
    have s5_2 : ∀ (E : Env), E 0 = .int .i64 (n : Int) → E 2 = .string (⟨#[]⟩ : ByteArray) → E 16 = .int .i64 (n : Int) → Φ 10 [true, false, false, false, false, false, false, false, false, false, false] E [] := by
     intro E q0 q2 q16
     obtain ⟨E0, rfl⟩ : ∃ E0 : Env, E = (((E0.put (some 0) (.int .i64 (n : Int))).put (some 2) (.string (⟨#[]⟩ : ByteArray))).put (some 16) (.int .i64 (n : Int))) := ⟨E, by rw [put_self q0, put_self q2, put_self q16]⟩
     refine stepR 9 _ _ _ [1, 3] (by kernel_rfl) rfl ⟨?_, ?_, trivial⟩
     ·refine opR_op (d := (some 17)) rfl rfl rfl (st_bi (r := .int .i64 (w64 (Int.tdiv (n : Int) 10))) rfl rfl rfl (bi_quo (by decide) rfl) ?_)
      exact s5_5 _ rfl rfl rfl
     ·refine opR_op (d := (some 19)) rfl rfl rfl (st_move (v := .int .i64 (n : Int)) rfl rfl ?_)
      exact s5_4 _ rfl rfl rfl
    have s5_1 : ∀ (E : Env), E 0 = .int .i64 (n : Int) → E 2 = .string (⟨#[]⟩ : ByteArray) → E 19 = .int .i64 (n : Int) → Φ 10 [false, false, false, true, false, false, false, false, false, false, false] E [] := by
     intro E q0 q2 q19
     obtain ⟨E0, rfl⟩ : ∃ E0 : Env, E = (((E0.put (some 0) (.int .i64 (n : Int))).put (some 2) (.string (⟨#[]⟩ : ByteArray))).put (some 19) (.int .i64 (n : Int))) := ⟨E, by rw [put_self q0, put_self q2, put_self q19]⟩
     refine stepR 9 _ _ _ [0, 4] (by kernel_rfl) rfl ⟨?_, ?_, trivial⟩
     ·refine opR_op (d := (some 16)) rfl rfl rfl (st_move (v := .int .i64 (n : Int)) rfl rfl ?_)
      exact s5_4 _ rfl rfl rfl
     ·refine opR_op (d := (some 20)) rfl rfl rfl (st_bi (r := .int .i64 (Int.tmod (n : Int) 10)) rfl rfl rfl (bi_rem (by decide) rfl) ?_)
      exact s5_3 _ rfl rfl rfl
    refine stepR 10 _ _ _ [0, 3] (by kernel_rfl) rfl ⟨?_, ?_, trivial⟩
    ·refine opR_op (d := (some 16)) rfl rfl rfl (st_move (v := .int .i64 (n : Int)) rfl rfl ?_)
     exact s5_2 _ rfl rfl rfl
    ·refine opR_op (d := (some 19)) rfl rfl rfl (st_move (v := .int .i64 (n : Int)) rfl rfl ?_)
     exact s5_1 _ rfl rfl rfl
   intro E b5_7 q2
   obtain ⟨E0, rfl⟩ : ∃ E0 : Env, E = (E0.put (some 2) (.string ((byA (Lib.decDigits (n / 10))) ++ (byteS (IntKind.u8.wrap (w64 (48 + (Int.tmod (n : Int) 10)))))))) := ⟨E, by rw [put_self q2]⟩
   refine doneR _ _ _ (by kernel_rfl) (ac_ret (fin_eq (v := .string ((byA (Lib.decDigits (n / 10))) ++ (byteS (IntKind.u8.wrap (w64 (48 + (Int.tmod (n : Int) 10))))))) (congrArg Value.string (dg_more h1)) (fin_ret (res_tmp rfl rfl))))
end Go.Proofs.YtalffjplbhelcaaGreatDoor
namespace Go.Proofs.YtalffjplbhelcaaGreatDoor
def rDigs (x : Int) : ByteArray := byA (Lib.decDigits x.toNat)
theorem c_rDigI (x : Int) (h : 0 ≤ x ∧ x < 1000000000000000000) : Gets Tryz.prog 22 #[.int .i64 x] (.string (rDigs x)) := by
  obtain ⟨n, rfl⟩ : ∃ n : Nat, x = (n : Int) := ⟨x.toNat, by omega⟩
  exact c_rDigits n (by omega)
theorem rDigs_sz {x : Int} (h : 0 ≤ x ∧ x < 1000000000000000000) : (rDigs x).size ≤ 18 := dg_len 17 x.toNat (Nat.lt_of_lt_of_le (show x.toNat < 1000000000000000000 by omega) (by decide))
end Go.Proofs.YtalffjplbhelcaaGreatDoor
namespace Go.Proofs.YtalffjplbhelcaaGreatDoor
open Go.RowKit
theorem cell9 : IsCell Tryz.prog 9 := ⟨⟨_, Tryz.underlying9, rfl, by kernel_rfl⟩⟩
end Go.Proofs.YtalffjplbhelcaaGreatDoor
namespace Go.Proofs.YtalffjplbhelcaaGreatDoor
open Go.RowKit
attribute [local irreducible] AC AR DWalk
end Go.Proofs.YtalffjplbhelcaaGreatDoor
namespace Go.Proofs.YtalffjplbhelcaaGreatDoor
end Go.Proofs.YtalffjplbhelcaaGreatDoor
namespace Go.Proofs.YtalffjplbhelcaaGreatDoor
open Go.RowKit
attribute [local irreducible] AC AR DWalk
def rIn (n : Int) : Bool := (bif decide (n ≥ (-1073741824)) then decide (n ≤ 1073741824) else false)
set_option maxRecDepth 100000 in
theorem c_rIn (n : Int) : Gets Tryz.prog 91 #[.int .i64 n] ((fun (r : Bool) => (.bool r : Value)) (rIn n)) := by
 refine gets_fin Tryz.func91 rfl rfl rfl (aQ (aL (aA 2 (.bool false) rfl rfl (aN (aQ (aL (aM 3 (.int .i64 n) rfl rfl (aB 4 (.bool (decide (n ≥ (-1073741824)))) rfl rfl rfl (bi_geq rfl) (aM 5 (.bool (decide (n ≥ (-1073741824)))) rfl rfl ?_)))))))))
 refine bool_split (decide (n ≥ (-1073741824))) (fun h1 => ?_) (fun h1 => ?_)
 ·refine ar_gd (d := (some 6)) (by show ((decide (n ≥ (-1073741824))) == true) = true; rw [h1]; rfl) rfl (st_move (v := .int .i64 n) rfl rfl (ar_gd (d := (some 7)) (by show ((decide (n ≥ (-1073741824))) == true) = true; rw [h1]; rfl) rfl (st_bi (r := .bool (decide (n ≤ 1073741824))) rfl rfl rfl (bi_leq rfl) (ao 8 rfl rfl (st_pkt' (b := decide (n ≥ (-1073741824))) (v := .bool (decide (n ≤ 1073741824))) h1 rfl rfl rfl (aA 2 (.bool (decide (n ≤ 1073741824))) rfl rfl (aN (ac_ret (fin_eq (v := .bool (decide (n ≤ 1073741824))) (by show _ = (fun (r : Bool) => (.bool r : Value)) (rIn n); rw [rIn, h1] <;> rfl) (fin_ret (res_tmp rfl rfl)))))))))))
 ·refine aK 6 (by show ((decide (n ≥ (-1073741824))) == true) = false; rw [h1]; rfl) rfl (aK 7 (by show ((decide (n ≥ (-1073741824))) == true) = false; rw [h1]; rfl) rfl (ao 8 rfl rfl (st_pkf' (b := decide (n ≥ (-1073741824))) (v := .bool false) h1 rfl rfl rfl (aA 2 (.bool false) rfl rfl (aN (ac_ret (fin_eq (v := .bool false) (by show _ = (fun (r : Bool) => (.bool r : Value)) (rIn n); rw [rIn, h1] <;> rfl) (fin_ret (res_tmp rfl rfl)))))))))
def rRight (a : Iv) : Bool := (bif a.no then false else (bif rIn a.lo then (bif rIn a.hi then decide (a.lo ≤ a.hi) else false) else false))
set_option maxRecDepth 100000 in
theorem c_rRight (a : Iv) : Gets Tryz.prog 89 #[.agg #[.int .i64 a.lo, .int .i64 a.hi, .bool a.no]] ((fun (r : Bool) => (.bool r : Value)) (rRight a)) := by
 refine gets_fin Tryz.func89 rfl rfl rfl (aQ (aL (ao 1 rfl rfl (st_box (v := .agg #[.int .i64 a.lo, .int .i64 a.hi, .bool a.no]) (cs := [.int .i64 a.lo, .int .i64 a.hi, .bool a.no]) rfl rfl rfl fun g0 => (aA 2 (.bool false) rfl rfl (aN (aQ (aL (aF 3 fa32_2 rfl rfl (aD 4 (.bool a.no) cell4 0 rfl rfl rfl rfl (ao 5 rfl rfl (st_un (v := .bool (!a.no)) rfl rfl (un_not rfl) (aM 6 (.bool (!a.no)) rfl rfl ?_)))))))))))))
 refine bool_split (a.no) (fun h1 => ?_) (fun h1 => ?_)
 ·refine aK 7 (by show ((!a.no) == true) = false; rw [h1]; rfl) rfl (aK 8 (by show ((!a.no) == true) = false; rw [h1]; rfl) rfl (aK 9 (by show ((!a.no) == true) = false; rw [h1]; rfl) rfl (ao 10 rfl rfl (st_pkf' (b := !a.no) (v := .bool false) (by rw [h1]; rfl) rfl rfl rfl (aM 11 (.bool false) rfl rfl (aK 12 rfl rfl (aK 13 rfl rfl (aK 14 rfl rfl (ao 15 rfl rfl (st_pkf (v := .bool false) rfl rfl rfl (aM 16 (.bool false) rfl rfl (aK 17 rfl rfl (aK 18 rfl rfl (aK 19 rfl rfl (aK 20 rfl rfl (aK 21 rfl rfl (ao 22 rfl rfl (st_pkf (v := .bool false) rfl rfl rfl (aA 2 (.bool false) rfl rfl (aN (ac_ret ?_)))))))))))))))))))))
  exact fin_eq (v := .bool false) (by show _ = (fun (r : Bool) => (.bool r : Value)) (rRight a); rw [rRight, h1] <;> rfl) (fin_ret (res_tmp rfl rfl))
 ·refine ar_gd (d := (some 7)) (by show ((!a.no) == true) = true; rw [h1]; rfl) rfl (st_fa rfl fa32_0 rfl (ar_gd (d := (some 8)) (by show ((!a.no) == true) = true; rw [h1]; rfl) rfl (st_ldc (v := .int .i64 a.lo) cell3 0 rfl rfl rfl rfl rfl (ar_gd (d := (some 9)) (by show ((!a.no) == true) = true; rw [h1]; rfl) rfl (st_cf (c_rIn a.lo) Tryz.func91 rfl (by decide) rfl rfl rfl (ao 10 rfl rfl (st_pkt' (b := !a.no) (v := .bool (rIn a.lo)) (by rw [h1]; rfl) rfl rfl rfl (aM 11 (.bool (rIn a.lo)) rfl rfl ?_))))))))
  refine bool_split (rIn a.lo) (fun h2 => ?_) (fun h2 => ?_)
  ·refine ar_gd (d := (some 12)) (by show ((rIn a.lo) == true) = true; rw [h2]; rfl) rfl (st_fa rfl fa32_1 rfl (ar_gd (d := (some 13)) (by show ((rIn a.lo) == true) = true; rw [h2]; rfl) rfl (st_ldc (v := .int .i64 a.hi) cell3 0 rfl rfl rfl rfl rfl (ar_gd (d := (some 14)) (by show ((rIn a.lo) == true) = true; rw [h2]; rfl) rfl (st_cf (c_rIn a.hi) Tryz.func91 rfl (by decide) rfl rfl rfl (ao 15 rfl rfl (st_pkt' (b := rIn a.lo) (v := .bool (rIn a.hi)) h2 rfl rfl rfl (aM 16 (.bool (rIn a.hi)) rfl rfl ?_))))))))
   refine bool_split (rIn a.hi) (fun h3 => ?_) (fun h3 => ?_)
   ·refine ar_gd (d := (some 17)) (by show ((rIn a.hi) == true) = true; rw [h3]; rfl) rfl (st_fa rfl fa32_0 rfl (ar_gd (d := (some 18)) (by show ((rIn a.hi) == true) = true; rw [h3]; rfl) rfl (st_ldc (v := .int .i64 a.lo) cell3 0 rfl rfl rfl rfl rfl (ar_gd (d := (some 19)) (by show ((rIn a.hi) == true) = true; rw [h3]; rfl) rfl (st_fa rfl fa32_1 rfl (ar_gd (d := (some 20)) (by show ((rIn a.hi) == true) = true; rw [h3]; rfl) rfl (st_ldc (v := .int .i64 a.hi) cell3 0 rfl rfl rfl rfl rfl (ar_gd (d := (some 21)) (by show ((rIn a.hi) == true) = true; rw [h3]; rfl) rfl (st_bi (r := .bool (decide (a.lo ≤ a.hi))) rfl rfl rfl (bi_leq rfl) ?_)))))))))
    refine ao 22 rfl rfl (st_pkt' (b := rIn a.hi) (v := .bool (decide (a.lo ≤ a.hi))) h3 rfl rfl rfl (aA 2 (.bool (decide (a.lo ≤ a.hi))) rfl rfl (aN (ac_ret (fin_eq (v := .bool (decide (a.lo ≤ a.hi))) (by show _ = (fun (r : Bool) => (.bool r : Value)) (rRight a); rw [rRight, h3, h2, h1] <;> rfl) (fin_ret (res_tmp rfl rfl)))))))
   ·refine aK 17 (by show ((rIn a.hi) == true) = false; rw [h3]; rfl) rfl (aK 18 (by show ((rIn a.hi) == true) = false; rw [h3]; rfl) rfl (aK 19 (by show ((rIn a.hi) == true) = false; rw [h3]; rfl) rfl (aK 20 (by show ((rIn a.hi) == true) = false; rw [h3]; rfl) rfl (aK 21 (by show ((rIn a.hi) == true) = false; rw [h3]; rfl) rfl (ao 22 rfl rfl (st_pkf' (b := rIn a.hi) (v := .bool false) h3 rfl rfl rfl (aA 2 (.bool false) rfl rfl (aN (ac_ret (fin_eq (v := .bool false) (by show _ = (fun (r : Bool) => (.bool r : Value)) (rRight a); rw [rRight, h3, h2, h1] <;> rfl) (fin_ret (res_tmp rfl rfl))))))))))))
  ·refine aK 12 (by show ((rIn a.lo) == true) = false; rw [h2]; rfl) rfl (aK 13 (by show ((rIn a.lo) == true) = false; rw [h2]; rfl) rfl (aK 14 (by show ((rIn a.lo) == true) = false; rw [h2]; rfl) rfl (ao 15 rfl rfl (st_pkf' (b := rIn a.lo) (v := .bool false) h2 rfl rfl rfl (aM 16 (.bool false) rfl rfl (aK 17 rfl rfl (aK 18 rfl rfl (aK 19 rfl rfl (aK 20 rfl rfl (aK 21 rfl rfl (ao 22 rfl rfl (st_pkf (v := .bool false) rfl rfl rfl (aA 2 (.bool false) rfl rfl (aN (ac_ret (fin_eq (v := .bool false) (by show _ = (fun (r : Bool) => (.bool r : Value)) (rRight a); rw [rRight, h2, h1] <;> rfl) (fin_ret (res_tmp rfl rfl))))))))))))))))))
def rNone  : Iv := (⟨0, 0, true⟩ : Iv)
set_option maxRecDepth 100000 in
theorem c_rNone  : Gets Tryz.prog 62 #[] (Iv.v rNone) := by
 refine gets_fin Tryz.func62 rfl rfl rfl (aQ (aL (ao 0 rfl rfl (st_new zero32 rfl fun g0 => (aN (aQ (aL (ao 1 rfl rfl (st_bd (us := [(2, .bool true)]) (v := .agg #[.int .i64 0, .int .i64 0, .bool true]) rfl rfl (bd32_2 _) (aS [.int .i64 0, .int .i64 0, .bool true] agg32 0 rfl rfl rfl rfl rfl rfl (aN (ac_ret (fin_eq (v := .agg #[.int .i64 0, .int .i64 0, .bool true]) rfl (fin_ret (res_c (vs := [.int .i64 0, .int .i64 0, .bool true]) agg32 0 rfl rfl rfl rfl rfl rfl)))))))))))))))
def rOf (l : Int) (h : Int) : Iv := (bif rRight (⟨l, h, false⟩ : Iv) then (⟨l, h, false⟩ : Iv) else rNone)
set_option maxRecDepth 100000 in
theorem c_rOf (l : Int) (h : Int) : Gets Tryz.prog 78 #[.int .i64 l, .int .i64 h] (Iv.v (rOf l h)) := by
 refine gets_fin Tryz.func78 rfl rfl rfl (aQ (aL (ao 4 rfl rfl (st_new zero32 rfl fun g0 => (aN (aQ (aL (aM 6 (.int .i64 l) rfl rfl (aM 7 (.int .i64 h) rfl rfl (ao 8 rfl rfl (st_bd (us := [(0, .int .i64 l), (1, .int .i64 h)]) (v := .agg #[.int .i64 l, .int .i64 h, .bool false]) rfl rfl (bd32_0_1 _ _) (ao 5 rfl rfl (st_new zero32 rfl fun g1 => (aS [.int .i64 l, .int .i64 h, .bool false] agg32 0 rfl rfl rfl rfl rfl rfl (aN (aQ (aQ (aL (aG 9 [.int .i64 l, .int .i64 h, .bool false] agg32 0 rfl rfl rfl rfl rfl (aC 10 (c_rRight (⟨l, h, false⟩ : Iv)) Tryz.func89 ⟨rfl, by decide⟩ rfl rfl ?_))))))))))))))))))))
 refine ao 11 rfl rfl (st_un (v := .bool (!(rRight (⟨l, h, false⟩ : Iv)))) rfl rfl (un_not rfl) (aN ?_))
 refine bool_split (rRight (⟨l, h, false⟩ : Iv)) (fun h1 => ?_) (fun h1 => ?_)
 ·refine ac_else' (b := !(rRight (⟨l, h, false⟩ : Iv))) (by rw [h1]; rfl) rfl (ac_skip (aQ (aL (aG 13 [.int .i64 l, .int .i64 h, .bool false] agg32 0 rfl rfl rfl rfl rfl (aS [.int .i64 l, .int .i64 h, .bool false] agg32 1 rfl rfl rfl rfl rfl rfl (aN (ac_ret (fin_eq (v := .agg #[.int .i64 l, .int .i64 h, .bool false]) (by show _ = Iv.v (rOf l h); rw [rOf, h1] <;> rfl) (fin_ret (res_c (vs := [.int .i64 l, .int .i64 h, .bool false]) agg32 1 rfl rfl rfl rfl rfl rfl))))))))))
 ·refine ac_then' (b := !(rRight (⟨l, h, false⟩ : Iv))) (by rw [h1]; rfl) rfl (aQ (aL (aC 12 c_rNone Tryz.func62 ⟨rfl, by decide⟩ rfl rfl (aS [.int .i64 rNone.lo, .int .i64 rNone.hi, .bool rNone.no] agg32 1 rfl rfl rfl rfl rfl rfl (aN (ac_ret (fin_eq (v := .agg #[.int .i64 rNone.lo, .int .i64 rNone.hi, .bool rNone.no]) (by show _ = Iv.v (rOf l h); rw [rOf, h1] <;> rfl) (fin_ret (res_c (vs := [.int .i64 rNone.lo, .int .i64 rNone.hi, .bool rNone.no]) agg32 1 rfl rfl rfl rfl rfl rfl)))))))))
end Go.Proofs.YtalffjplbhelcaaGreatDoor
namespace Go.Proofs.YtalffjplbhelcaaGreatDoor
open Go.RowKit
theorem agg29 : IsAgg Tryz.prog 29 13 := ⟨⟨_, Tryz.underlying29, rfl, by kernel_rfl⟩⟩
theorem bd29_  : Runs Tryz.prog (Instr.build 29 #[]) (.agg #[.string (⟨#[]⟩ : ByteArray), .int .i64 0, .int .i64 0, .int .i64 0, .int .i64 0, .int .i64 0, .int .i64 0, .int .i64 0, .int .i64 0, .int .i64 0, .int .i64 0, .int .i64 0, .int .i64 0]) := ⟨fun w => by go_simp⟩
theorem fa108_0 (a : Addr) : Runs Tryz.prog (Instr.fieldAt 108 (.pointer (some a)) 0) (.pointer (some (a.add 0))) := run_fa (f := 0) (off := 0) (m := 1) Tryz.underlying108 rfl rfl (by kernel_rfl) (by decide) a
theorem fa108_1 (a : Addr) : Runs Tryz.prog (Instr.fieldAt 108 (.pointer (some a)) 1) (.pointer (some (a.add 1))) := run_fa (f := 1) (off := 1) (m := 1) Tryz.underlying108 rfl rfl (by kernel_rfl) (by decide) a
theorem fa29_0 (a : Addr) : Runs Tryz.prog (Instr.fieldAt 29 (.pointer (some a)) 0) (.pointer (some (a.add 0))) := run_fa (f := 0) (off := 0) (m := 1) Tryz.underlying29 rfl rfl (by kernel_rfl) (by decide) a
theorem zero29 : Zero Tryz.prog 29 [.string (⟨#[]⟩ : ByteArray), .int .i64 0, .int .i64 0, .int .i64 0, .int .i64 0, .int .i64 0, .int .i64 0, .int .i64 0, .int .i64 0, .int .i64 0, .int .i64 0, .int .i64 0, .int .i64 0] := ⟨⟨.agg #[.string (⟨#[]⟩ : ByteArray), .int .i64 0, .int .i64 0, .int .i64 0, .int .i64 0, .int .i64 0, .int .i64 0, .int .i64 0, .int .i64 0, .int .i64 0, .int .i64 0, .int .i64 0, .int .i64 0], by kernel_rfl, rfl⟩⟩
end Go.Proofs.YtalffjplbhelcaaGreatDoor
namespace Go.Proofs.YtalffjplbhelcaaGreatDoor
open Go.RowKit
theorem agg108 : IsAgg Tryz.prog 108 3 := ⟨⟨_, Tryz.underlying108, rfl, by kernel_rfl⟩⟩
theorem bs23_1_0a (x0_0 : ByteArray) (x0_1 : Int) (x0_2 : Int) (x0_3 : Int) (x0_4 : Int) (x0_5 : Int) (x0_6 : Int) (x0_7 : Int) (x0_8 : Int) (x0_9 : Int) (x0_10 : Int) (x0_11 : Int) (x0_12 : Int) : Makes Tryz.prog (Instr.buildSlice 23 1 #[(0, .agg #[.string x0_0, .int .i64 x0_1, .int .i64 x0_2, .int .i64 x0_3, .int .i64 x0_4, .int .i64 x0_5, .int .i64 x0_6, .int .i64 x0_7, .int .i64 x0_8, .int .i64 x0_9, .int .i64 x0_10, .int .i64 x0_11, .int .i64 x0_12])]) 1 [.string x0_0, .int .i64 x0_1, .int .i64 x0_2, .int .i64 x0_3, .int .i64 x0_4, .int .i64 x0_5, .int .i64 x0_6, .int .i64 x0_7, .int .i64 x0_8, .int .i64 x0_9, .int .i64 x0_10, .int .i64 x0_11, .int .i64 x0_12] 29 := ⟨fun w => by go_simp⟩
theorem bs94_6_0a_1a_2a_3a_4a_5a (x0_0 : Int) (x0_1 : Int) (x1_0 : Int) (x1_1 : Int) (x2_0 : Int) (x2_1 : Int) (x3_0 : Int) (x3_1 : Int) (x4_0 : Int) (x4_1 : Int) (x5_0 : Int) (x5_1 : Int) : Makes Tryz.prog (Instr.buildSlice 94 6 #[(0, .agg #[.int .i64 x0_0, .int .i64 x0_1]), (1, .agg #[.int .i64 x1_0, .int .i64 x1_1]), (2, .agg #[.int .i64 x2_0, .int .i64 x2_1]), (3, .agg #[.int .i64 x3_0, .int .i64 x3_1]), (4, .agg #[.int .i64 x4_0, .int .i64 x4_1]), (5, .agg #[.int .i64 x5_0, .int .i64 x5_1])]) 6 [.int .i64 x0_0, .int .i64 x0_1, .int .i64 x1_0, .int .i64 x1_1, .int .i64 x2_0, .int .i64 x2_1, .int .i64 x3_0, .int .i64 x3_1, .int .i64 x4_0, .int .i64 x4_1, .int .i64 x5_0, .int .i64 x5_1] 26 := ⟨fun w => by go_simp⟩
theorem cell39 : IsCell Tryz.prog 39 := ⟨⟨_, Tryz.underlying39, rfl, by kernel_rfl⟩⟩
theorem cell76 : IsCell Tryz.prog 76 := ⟨⟨_, Tryz.underlying76, rfl, by kernel_rfl⟩⟩
theorem cell91 : IsCell Tryz.prog 91 := ⟨⟨_, Tryz.underlying91, rfl, by kernel_rfl⟩⟩
theorem fa108_2 (a : Addr) : Runs Tryz.prog (Instr.fieldAt 108 (.pointer (some a)) 2) (.pointer (some (a.add 2))) := run_fa (f := 2) (off := 2) (m := 1) Tryz.underlying108 rfl rfl (by kernel_rfl) (by decide) a
theorem fa29_1 (a : Addr) : Runs Tryz.prog (Instr.fieldAt 29 (.pointer (some a)) 1) (.pointer (some (a.add 1))) := run_fa (f := 1) (off := 1) (m := 6) Tryz.underlying29 rfl rfl (by kernel_rfl) (by decide) a
theorem fa29_2 (a : Addr) : Runs Tryz.prog (Instr.fieldAt 29 (.pointer (some a)) 2) (.pointer (some (a.add 7))) := run_fa (f := 2) (off := 7) (m := 6) Tryz.underlying29 rfl rfl (by kernel_rfl) (by decide) a
theorem fa93_0 (a : Addr) : Runs Tryz.prog (Instr.fieldAt 93 (.pointer (some a)) 0) (.pointer (some (a.add 0))) := run_fa (f := 0) (off := 0) (m := 1) Tryz.underlying93 rfl rfl (by kernel_rfl) (by decide) a
theorem fa93_1 (a : Addr) : Runs Tryz.prog (Instr.fieldAt 93 (.pointer (some a)) 1) (.pointer (some (a.add 1))) := run_fa (f := 1) (off := 1) (m := 1) Tryz.underlying93 rfl rfl (by kernel_rfl) (by decide) a
theorem ia27_0 (g off : Nat) : Runs Tryz.prog (Instr.indexAt 27 (.pointer (some ⟨g, off, none⟩)) (.int .i64 0)) (.pointer (some ⟨g, off + 0, none⟩)) := run_ia (i := 0) (m := 2) (j := 0) Tryz.underlying27 (by kernel_rfl) rfl g off (by decide) (by decide)
theorem ia27_1 (g off : Nat) : Runs Tryz.prog (Instr.indexAt 27 (.pointer (some ⟨g, off, none⟩)) (.int .i64 1)) (.pointer (some ⟨g, off + 2, none⟩)) := run_ia (i := 1) (m := 2) (j := 2) Tryz.underlying27 (by kernel_rfl) rfl g off (by decide) (by decide)
theorem ia27_2 (g off : Nat) : Runs Tryz.prog (Instr.indexAt 27 (.pointer (some ⟨g, off, none⟩)) (.int .i64 2)) (.pointer (some ⟨g, off + 4, none⟩)) := run_ia (i := 2) (m := 2) (j := 4) Tryz.underlying27 (by kernel_rfl) rfl g off (by decide) (by decide)
theorem slT23 : SlT Tryz.prog 23 29 13 112 := ⟨Tryz.underlying23, .agg #[.string (⟨#[]⟩ : ByteArray), .int .i64 0, .int .i64 0, .int .i64 0, .int .i64 0, .int .i64 0, .int .i64 0, .int .i64 0, .int .i64 0, .int .i64 0, .int .i64 0, .int .i64 0, .int .i64 0], by kernel_rfl, rfl, by decide⟩
theorem zero93 : Zero Tryz.prog 93 [.pointer none, .slice none 0 0] := ⟨⟨.agg #[.pointer none, .slice none 0 0], by kernel_rfl, rfl⟩⟩
end Go.Proofs.YtalffjplbhelcaaGreatDoor
namespace Go.Proofs.YtalffjplbhelcaaGreatDoor
open Go.RowKit
theorem bd127_0_1 (x0_0 : Int) (x1_0 : Int) : Runs Tryz.prog (Instr.build 127 #[(0, .int .i64 x0_0), (1, .int .i64 x1_0)]) (.agg #[.int .i64 x0_0, .int .i64 x1_0]) := ⟨fun w => by go_simp⟩
theorem bd27_0a_1a_2a (x0_0 : Int) (x0_1 : Int) (x1_0 : Int) (x1_1 : Int) (x2_0 : Int) (x2_1 : Int) : Runs Tryz.prog (Instr.build 27 #[(0, .agg #[.int .i64 x0_0, .int .i64 x0_1]), (1, .agg #[.int .i64 x1_0, .int .i64 x1_1]), (2, .agg #[.int .i64 x2_0, .int .i64 x2_1])]) (.agg #[.int .i64 x0_0, .int .i64 x0_1, .int .i64 x1_0, .int .i64 x1_1, .int .i64 x2_0, .int .i64 x2_1]) := ⟨fun w => by go_simp⟩
theorem bd29_0_1a_2a (x0_0 : ByteArray) (x1_0 : Int) (x1_1 : Int) (x1_2 : Int) (x1_3 : Int) (x1_4 : Int) (x1_5 : Int) (x2_0 : Int) (x2_1 : Int) (x2_2 : Int) (x2_3 : Int) (x2_4 : Int) (x2_5 : Int) : Runs Tryz.prog (Instr.build 29 #[(0, .string x0_0), (1, .agg #[.int .i64 x1_0, .int .i64 x1_1, .int .i64 x1_2, .int .i64 x1_3, .int .i64 x1_4, .int .i64 x1_5]), (2, .agg #[.int .i64 x2_0, .int .i64 x2_1, .int .i64 x2_2, .int .i64 x2_3, .int .i64 x2_4, .int .i64 x2_5])]) (.agg #[.string x0_0, .int .i64 x1_0, .int .i64 x1_1, .int .i64 x1_2, .int .i64 x1_3, .int .i64 x1_4, .int .i64 x1_5, .int .i64 x2_0, .int .i64 x2_1, .int .i64 x2_2, .int .i64 x2_3, .int .i64 x2_4, .int .i64 x2_5]) := ⟨fun w => by go_simp⟩
theorem bs23_2_0a_1a (x0_0 : ByteArray) (x0_1 : Int) (x0_2 : Int) (x0_3 : Int) (x0_4 : Int) (x0_5 : Int) (x0_6 : Int) (x0_7 : Int) (x0_8 : Int) (x0_9 : Int) (x0_10 : Int) (x0_11 : Int) (x0_12 : Int) (x1_0 : ByteArray) (x1_1 : Int) (x1_2 : Int) (x1_3 : Int) (x1_4 : Int) (x1_5 : Int) (x1_6 : Int) (x1_7 : Int) (x1_8 : Int) (x1_9 : Int) (x1_10 : Int) (x1_11 : Int) (x1_12 : Int) : Makes Tryz.prog (Instr.buildSlice 23 2 #[(0, .agg #[.string x0_0, .int .i64 x0_1, .int .i64 x0_2, .int .i64 x0_3, .int .i64 x0_4, .int .i64 x0_5, .int .i64 x0_6, .int .i64 x0_7, .int .i64 x0_8, .int .i64 x0_9, .int .i64 x0_10, .int .i64 x0_11, .int .i64 x0_12]), (1, .agg #[.string x1_0, .int .i64 x1_1, .int .i64 x1_2, .int .i64 x1_3, .int .i64 x1_4, .int .i64 x1_5, .int .i64 x1_6, .int .i64 x1_7, .int .i64 x1_8, .int .i64 x1_9, .int .i64 x1_10, .int .i64 x1_11, .int .i64 x1_12])]) 2 [.string x0_0, .int .i64 x0_1, .int .i64 x0_2, .int .i64 x0_3, .int .i64 x0_4, .int .i64 x0_5, .int .i64 x0_6, .int .i64 x0_7, .int .i64 x0_8, .int .i64 x0_9, .int .i64 x0_10, .int .i64 x0_11, .int .i64 x0_12, .string x1_0, .int .i64 x1_1, .int .i64 x1_2, .int .i64 x1_3, .int .i64 x1_4, .int .i64 x1_5, .int .i64 x1_6, .int .i64 x1_7, .int .i64 x1_8, .int .i64 x1_9, .int .i64 x1_10, .int .i64 x1_11, .int .i64 x1_12] 29 := ⟨fun w => by go_simp⟩
theorem ix127_0 (x0 : Int) (x1 : Int) : Runs Tryz.prog (Instr.index 127 (.agg #[.int .i64 x0, .int .i64 x1]) (.int .i64 0)) (.int .i64 x0) := run_ixc (xs := [.int .i64 x0, .int .i64 x1]) Tryz.underlying127 cell3 (by decide) (by decide) rfl
theorem ix127_1 (x0 : Int) (x1 : Int) : Runs Tryz.prog (Instr.index 127 (.agg #[.int .i64 x0, .int .i64 x1]) (.int .i64 1)) (.int .i64 x1) := run_ixc (xs := [.int .i64 x0, .int .i64 x1]) Tryz.underlying127 cell3 (by decide) (by decide) rfl
end Go.Proofs.YtalffjplbhelcaaGreatDoor
namespace Go.Proofs.YtalffjplbhelcaaGreatDoor
open Go.RowKit
theorem bd26_0 (x0_0 : Int) : Runs Tryz.prog (Instr.build 26 #[(0, .int .i64 x0_0)]) (.agg #[.int .i64 x0_0, .int .i64 0]) := ⟨fun w => by go_simp⟩
theorem bd29_0_2a (x0_0 : ByteArray) (x1_0 : Int) (x1_1 : Int) (x1_2 : Int) (x1_3 : Int) (x1_4 : Int) (x1_5 : Int) : Runs Tryz.prog (Instr.build 29 #[(0, .string x0_0), (2, .agg #[.int .i64 x1_0, .int .i64 x1_1, .int .i64 x1_2, .int .i64 x1_3, .int .i64 x1_4, .int .i64 x1_5])]) (.agg #[.string x0_0, .int .i64 0, .int .i64 0, .int .i64 0, .int .i64 0, .int .i64 0, .int .i64 0, .int .i64 x1_0, .int .i64 x1_1, .int .i64 x1_2, .int .i64 x1_3, .int .i64 x1_4, .int .i64 x1_5]) := ⟨fun w => by go_simp⟩
end Go.Proofs.YtalffjplbhelcaaGreatDoor
namespace Go.Proofs.YtalffjplbhelcaaGreatDoor
open Go.RowKit
attribute [local irreducible] AC AR DWalk
end Go.Proofs.YtalffjplbhelcaaGreatDoor
namespace Go.Proofs.YtalffjplbhelcaaGreatDoor
open Go.RowKit
attribute [local irreducible] AC AR DWalk
end Go.Proofs.YtalffjplbhelcaaGreatDoor
namespace Go.Proofs.YtalffjplbhelcaaGreatDoor
open Go.RowKit
attribute [local irreducible] AC AR DWalk
def numRounded_e0 (a : Int) (b : Int) (up : Bool) : Int := (bif (Int.tmod a b) != 0 then (w64 ((numFloor a b) + 1)) else (numFloor a b))
def numRounded (a : Int) (b : Int) (up : Bool) : Int × Bool := (bif up then (bif numIn (numRounded_e0 a b up) then ((numRounded_e0 a b up), true) else (0, false)) else (bif numIn (numFloor a b) then ((numFloor a b), true) else (0, false)))
set_option maxRecDepth 100000 in
theorem c_numRounded (a : Int) (b : Int) (up : Bool) (hb : b ≠ 0) : Gets Tryz.prog 124 #[.int .i64 a, .int .i64 b, .bool up] ((fun (r : Int × Bool) => (.tuple #[.int .i64 r.1, .bool r.2] : Value)) (numRounded a b up)) := by
 refine gets_fin Tryz.func124 rfl rfl rfl (aQ (aL (aA 6 (.int .i64 0) rfl rfl (aA 7 (.bool false) rfl rfl (aN (aQ (aL (aM 9 (.int .i64 a) rfl rfl (aM 10 (.int .i64 b) rfl rfl (aC 11 (c_numFloor a b) Tryz.func77 ⟨rfl, by decide⟩ rfl rfl (aA 8 (.int .i64 (numFloor a b)) rfl rfl (aN (aQ (aQ (aL (aM 12 (.bool up) rfl rfl (aM 13 (.bool up) rfl rfl ?_)))))))))))))))))
 refine bool_split (up) (fun h1 => ?_) (fun h1 => ?_)
 ·refine ar_gd (d := (some 14)) (by show (up == true) = true; rw [h1]; rfl) rfl (st_move (v := .int .i64 a) rfl rfl (ar_gd (d := (some 15)) (by show (up == true) = true; rw [h1]; rfl) rfl (st_move (v := .int .i64 b) rfl rfl (ar_gd (d := (some 16)) (by show (up == true) = true; rw [h1]; rfl) rfl (st_bi (r := .int .i64 (Int.tmod a b)) rfl rfl rfl (bi_rem hb rfl) (ar_gd (d := (some 17)) (by show (up == true) = true; rw [h1]; rfl) rfl (st_bi (r := .bool ((Int.tmod a b) != 0)) rfl rfl rfl (bi_neq rfl) (ao 18 rfl rfl (st_pkt' (b := up) (v := .bool ((Int.tmod a b) != 0)) h1 rfl rfl rfl (aN ?_))))))))))
  refine ac_mergeE (fun E9 => (((Env.put E9 (some 19) (.int .i64 (numFloor a b))).put (some 20) (.int .i64 (w64 ((numFloor a b) + 1)))).put (some 8) (.int .i64 (w64 ((numFloor a b) + 1))))) (fun E9 => (((Env.put E9 (some 19) (bif (Int.tmod a b) != 0 then (.int .i64 (numFloor a b) : Value) else E9 19)).put (some 20) (bif (Int.tmod a b) != 0 then (.int .i64 (w64 ((numFloor a b) + 1)) : Value) else E9 20)).put (some 8) (.int .i64 (numRounded_e0 a b up)))) (b := (Int.tmod a b) != 0) rfl (fun hm => ?_) (fun hm => ?_) (fun hm => ?_) ?_
  ·refine aL (aM 19 (.int .i64 (numFloor a b)) rfl rfl (aB 20 (.int .i64 (w64 ((numFloor a b) + 1))) rfl rfl rfl (bi_add rfl) (aA 8 (.int .i64 (w64 ((numFloor a b) + 1))) rfl rfl (aN ?_))))
   exact ⟨rfl, rfl, rfl⟩
  ·unfold numRounded_e0; rw [hm]; rfl
  ·unfold numRounded_e0; rw [hm]; exact ((put_self rfl).trans ((put_self rfl).trans (put_self rfl)))
  refine aQ (aQ (aL (aM 21 (.int .i64 (numRounded_e0 a b up)) rfl rfl (aC 22 (c_numIn (numRounded_e0 a b up)) Tryz.func65 ⟨rfl, by decide⟩ rfl rfl (ao 23 rfl rfl (st_un (v := .bool (!(numIn (numRounded_e0 a b up)))) rfl rfl (un_not rfl) (aN ?_)))))))
  refine bool_split (numIn (numRounded_e0 a b up)) (fun h2 => ?_) (fun h2 => ?_)
  ·refine ac_else' (b := !(numIn (numRounded_e0 a b up))) (by rw [h2]; rfl) rfl (ac_skip (aQ (aL (aM 24 (.int .i64 (numRounded_e0 a b up)) rfl rfl (aA 6 (.int .i64 (numRounded_e0 a b up)) rfl rfl (aA 7 (.bool true) rfl rfl (aN (ac_ret (fin_eq (v := .tuple #[.int .i64 (numRounded_e0 a b up), .bool true]) (by show _ = (fun (r : Int × Bool) => (.tuple #[.int .i64 r.1, .bool r.2] : Value)) (numRounded a b up); rw [numRounded, h2, h1] <;> rfl) (fin_ret (res_tt rfl rfl rfl)))))))))))
  ·refine ac_then' (b := !(numIn (numRounded_e0 a b up))) (by rw [h2]; rfl) rfl (aQ (aL (aA 6 (.int .i64 0) rfl rfl (aA 7 (.bool false) rfl rfl (aN (ac_ret (fin_eq (v := .tuple #[.int .i64 0, .bool false]) (by show _ = (fun (r : Int × Bool) => (.tuple #[.int .i64 r.1, .bool r.2] : Value)) (numRounded a b up); rw [numRounded, h2, h1] <;> rfl) (fin_ret (res_tt rfl rfl rfl)))))))))
 ·refine aK 14 (by show (up == true) = false; rw [h1]; rfl) rfl (aK 15 (by show (up == true) = false; rw [h1]; rfl) rfl (aK 16 (by show (up == true) = false; rw [h1]; rfl) rfl (aK 17 (by show (up == true) = false; rw [h1]; rfl) rfl (ao 18 rfl rfl (st_pkf' (b := up) (v := .bool false) h1 rfl rfl rfl (aN (ac_else rfl (ac_skip (aQ (aQ (aL (aM 21 (.int .i64 (numFloor a b)) rfl rfl (aC 22 (c_numIn (numFloor a b)) Tryz.func65 ⟨rfl, by decide⟩ rfl rfl (ao 23 rfl rfl (st_un (v := .bool (!(numIn (numFloor a b)))) rfl rfl (un_not rfl) (aN ?_))))))))))))))))
  refine bool_split (numIn (numFloor a b)) (fun h2 => ?_) (fun h2 => ?_)
  ·refine ac_else' (b := !(numIn (numFloor a b))) (by rw [h2]; rfl) rfl (ac_skip (aQ (aL (aM 24 (.int .i64 (numFloor a b)) rfl rfl (aA 6 (.int .i64 (numFloor a b)) rfl rfl (aA 7 (.bool true) rfl rfl (aN (ac_ret (fin_eq (v := .tuple #[.int .i64 (numFloor a b), .bool true]) (by show _ = (fun (r : Int × Bool) => (.tuple #[.int .i64 r.1, .bool r.2] : Value)) (numRounded a b up); rw [numRounded, h2, h1] <;> rfl) (fin_ret (res_tt rfl rfl rfl)))))))))))
  ·refine ac_then' (b := !(numIn (numFloor a b))) (by rw [h2]; rfl) rfl (aQ (aL (aA 6 (.int .i64 0) rfl rfl (aA 7 (.bool false) rfl rfl (aN (ac_ret (fin_eq (v := .tuple #[.int .i64 0, .bool false]) (by show _ = (fun (r : Int × Bool) => (.tuple #[.int .i64 r.1, .bool r.2] : Value)) (numRounded a b up); rw [numRounded, h2, h1] <;> rfl) (fin_ret (res_tt rfl rfl rfl)))))))))
def numMul (a : Int) (b : Int) (up : Bool) : Int × Bool := (bif numIn a then (bif numIn b then ((numRounded (w64 (a * b)) 65536 up).1, (numRounded (w64 (a * b)) 65536 up).2) else (0, false)) else (0, false))
set_option maxRecDepth 100000 in
theorem c_numMul (a : Int) (b : Int) (up : Bool) : Gets Tryz.prog 88 #[.int .i64 a, .int .i64 b, .bool up] ((fun (r : Int × Bool) => (.tuple #[.int .i64 r.1, .bool r.2] : Value)) (numMul a b up)) := by
 refine gets_fin Tryz.func88 rfl rfl rfl (aQ (aL (aA 6 (.int .i64 0) rfl rfl (aA 7 (.bool false) rfl rfl (aN (aQ (aQ (aL (aM 8 (.int .i64 a) rfl rfl (aC 9 (c_numIn a) Tryz.func65 ⟨rfl, by decide⟩ rfl rfl (ao 10 rfl rfl (st_un (v := .bool (!(numIn a))) rfl rfl (un_not rfl) (aM 11 (.bool (!(numIn a))) rfl rfl ?_)))))))))))))
 refine bool_split (numIn a) (fun h1 => ?_) (fun h1 => ?_)
 ·refine ar_gd (d := (some 12)) (by show ((!(numIn a)) == false) = true; rw [h1]; rfl) rfl (st_move (v := .int .i64 b) rfl rfl (ar_gd (d := (some 13)) (by show ((!(numIn a)) == false) = true; rw [h1]; rfl) rfl (st_cf (c_numIn b) Tryz.func65 rfl (by decide) rfl rfl rfl (ar_gd (d := (some 14)) (by show ((!(numIn a)) == false) = true; rw [h1]; rfl) rfl (st_un (v := .bool (!(numIn b))) rfl rfl (un_not rfl) (ao 15 rfl rfl (st_pkf' (b := !(numIn a)) (v := .bool (!(numIn b))) (by rw [h1]; rfl) rfl rfl rfl (aN ?_))))))))
  refine bool_split (numIn b) (fun h2 => ?_) (fun h2 => ?_)
  ·refine ac_else' (b := !(numIn b)) (by rw [h2]; rfl) rfl (ac_skip (aQ (aL (aM 16 (.int .i64 a) rfl rfl (aM 17 (.int .i64 b) rfl rfl (aB 18 (.int .i64 (w64 (a * b))) rfl rfl rfl (bi_mul rfl) (aM 19 (.bool up) rfl rfl (aC 20 (c_numRounded (w64 (a * b)) 65536 up (by decide)) Tryz.func124 ⟨rfl, by decide⟩ rfl rfl (aX 21 (.int .i64 ((numRounded (w64 (a * b)) 65536 up).1)) rfl rfl rfl (aX 22 (.bool ((numRounded (w64 (a * b)) 65536 up).2)) rfl rfl rfl (aA 6 (.int .i64 ((numRounded (w64 (a * b)) 65536 up).1)) rfl rfl (aA 7 (.bool ((numRounded (w64 (a * b)) 65536 up).2)) rfl rfl (aN (ac_ret ?_))))))))))))))
   exact fin_eq (v := .tuple #[.int .i64 ((numRounded (w64 (a * b)) 65536 up).1), .bool ((numRounded (w64 (a * b)) 65536 up).2)]) (by show _ = (fun (r : Int × Bool) => (.tuple #[.int .i64 r.1, .bool r.2] : Value)) (numMul a b up); rw [numMul, h2, h1] <;> rfl) (fin_ret (res_tt rfl rfl rfl))
  ·refine ac_then' (b := !(numIn b)) (by rw [h2]; rfl) rfl (aQ (aL (aA 6 (.int .i64 0) rfl rfl (aA 7 (.bool false) rfl rfl (aN (ac_ret (fin_eq (v := .tuple #[.int .i64 0, .bool false]) (by show _ = (fun (r : Int × Bool) => (.tuple #[.int .i64 r.1, .bool r.2] : Value)) (numMul a b up); rw [numMul, h2, h1] <;> rfl) (fin_ret (res_tt rfl rfl rfl)))))))))
 ·refine aK 12 (by show ((!(numIn a)) == false) = false; rw [h1]; rfl) rfl (aK 13 (by show ((!(numIn a)) == false) = false; rw [h1]; rfl) rfl (aK 14 (by show ((!(numIn a)) == false) = false; rw [h1]; rfl) rfl (ao 15 rfl rfl (st_pkt' (b := !(numIn a)) (v := .bool true) (by rw [h1]; rfl) rfl rfl rfl (aN (ac_then rfl (aQ (aL (aA 6 (.int .i64 0) rfl rfl (aA 7 (.bool false) rfl rfl (aN (ac_ret (fin_eq (v := .tuple #[.int .i64 0, .bool false]) (by show _ = (fun (r : Int × Bool) => (.tuple #[.int .i64 r.1, .bool r.2] : Value)) (numMul a b up); rw [numMul, h1] <;> rfl) (fin_ret (res_tt rfl rfl rfl)))))))))))))))
def numDiv (a : Int) (b : Int) (up : Bool) : Int × Bool := (bif numIn a then (bif numIn b then (bif b == 0 then (0, false) else ((numRounded (w64 (a * 65536)) b up).1, (numRounded (w64 (a * 65536)) b up).2)) else (0, false)) else (0, false))
set_option maxRecDepth 100000 in
theorem c_numDiv (a : Int) (b : Int) (up : Bool) : Gets Tryz.prog 94 #[.int .i64 a, .int .i64 b, .bool up] ((fun (r : Int × Bool) => (.tuple #[.int .i64 r.1, .bool r.2] : Value)) (numDiv a b up)) := by
 refine gets_fin Tryz.func94 rfl rfl rfl (aQ (aL (aA 6 (.int .i64 0) rfl rfl (aA 7 (.bool false) rfl rfl (aN (aQ (aQ (aL (aM 8 (.int .i64 a) rfl rfl (aC 9 (c_numIn a) Tryz.func65 ⟨rfl, by decide⟩ rfl rfl (ao 10 rfl rfl (st_un (v := .bool (!(numIn a))) rfl rfl (un_not rfl) (aM 11 (.bool (!(numIn a))) rfl rfl ?_)))))))))))))
 refine bool_split (numIn a) (fun h1 => ?_) (fun h1 => ?_)
 ·refine ar_gd (d := (some 12)) (by show ((!(numIn a)) == false) = true; rw [h1]; rfl) rfl (st_move (v := .int .i64 b) rfl rfl (ar_gd (d := (some 13)) (by show ((!(numIn a)) == false) = true; rw [h1]; rfl) rfl (st_cf (c_numIn b) Tryz.func65 rfl (by decide) rfl rfl rfl (ar_gd (d := (some 14)) (by show ((!(numIn a)) == false) = true; rw [h1]; rfl) rfl (st_un (v := .bool (!(numIn b))) rfl rfl (un_not rfl) (ao 15 rfl rfl (st_pkf' (b := !(numIn a)) (v := .bool (!(numIn b))) (by rw [h1]; rfl) rfl rfl rfl (aM 16 (.bool (!(numIn b))) rfl rfl ?_))))))))
  refine bool_split (numIn b) (fun h2 => ?_) (fun h2 => ?_)
  ·refine ar_gd (d := (some 17)) (by show ((!(numIn b)) == false) = true; rw [h2]; rfl) rfl (st_move (v := .int .i64 b) rfl rfl (ar_gd (d := (some 18)) (by show ((!(numIn b)) == false) = true; rw [h2]; rfl) rfl (st_bi (r := .bool (b == 0)) rfl rfl rfl (bi_eql rfl) (ao 19 rfl rfl (st_pkf' (b := !(numIn b)) (v := .bool (b == 0)) (by rw [h2]; rfl) rfl rfl rfl (aN ?_))))))
   refine bool_split (b == 0) (fun h3 => ?_) (fun h3 => ?_)
   ·refine ac_then' (b := b == 0) h3 rfl (aQ (aL (aA 6 (.int .i64 0) rfl rfl (aA 7 (.bool false) rfl rfl (aN (ac_ret (fin_eq (v := .tuple #[.int .i64 0, .bool false]) (by show _ = (fun (r : Int × Bool) => (.tuple #[.int .i64 r.1, .bool r.2] : Value)) (numDiv a b up); rw [numDiv, h3, h2, h1] <;> rfl) (fin_ret (res_tt rfl rfl rfl)))))))))
   ·refine ac_else' (b := b == 0) h3 rfl (ac_skip (aQ (aL (aM 20 (.int .i64 a) rfl rfl (aB 21 (.int .i64 (w64 (a * 65536))) rfl rfl rfl (bi_mul rfl) (aM 22 (.int .i64 b) rfl rfl (aM 23 (.bool up) rfl rfl (aC 24 (c_numRounded (w64 (a * 65536)) b up (ne_of_beq0 h3)) Tryz.func124 ⟨rfl, by decide⟩ rfl rfl (aX 25 (.int .i64 ((numRounded (w64 (a * 65536)) b up).1)) rfl rfl rfl (aX 26 (.bool ((numRounded (w64 (a * 65536)) b up).2)) rfl rfl rfl (aA 6 (.int .i64 ((numRounded (w64 (a * 65536)) b up).1)) rfl rfl (aA 7 (.bool ((numRounded (w64 (a * 65536)) b up).2)) rfl rfl (aN (ac_ret ?_))))))))))))))
    exact fin_eq (v := .tuple #[.int .i64 ((numRounded (w64 (a * 65536)) b up).1), .bool ((numRounded (w64 (a * 65536)) b up).2)]) (by show _ = (fun (r : Int × Bool) => (.tuple #[.int .i64 r.1, .bool r.2] : Value)) (numDiv a b up); rw [numDiv, h3, h2, h1] <;> rfl) (fin_ret (res_tt rfl rfl rfl))
  ·refine aK 17 (by show ((!(numIn b)) == false) = false; rw [h2]; rfl) rfl (aK 18 (by show ((!(numIn b)) == false) = false; rw [h2]; rfl) rfl (ao 19 rfl rfl (st_pkt' (b := !(numIn b)) (v := .bool true) (by rw [h2]; rfl) rfl rfl rfl (aN (ac_then rfl (aQ (aL (aA 6 (.int .i64 0) rfl rfl (aA 7 (.bool false) rfl rfl (aN (ac_ret (fin_eq (v := .tuple #[.int .i64 0, .bool false]) (by show _ = (fun (r : Int × Bool) => (.tuple #[.int .i64 r.1, .bool r.2] : Value)) (numDiv a b up); rw [numDiv, h2, h1] <;> rfl) (fin_ret (res_tt rfl rfl rfl))))))))))))))
 ·refine aK 12 (by show ((!(numIn a)) == false) = false; rw [h1]; rfl) rfl (aK 13 (by show ((!(numIn a)) == false) = false; rw [h1]; rfl) rfl (aK 14 (by show ((!(numIn a)) == false) = false; rw [h1]; rfl) rfl (ao 15 rfl rfl (st_pkt' (b := !(numIn a)) (v := .bool true) (by rw [h1]; rfl) rfl rfl rfl (aM 16 (.bool true) rfl rfl (aK 17 rfl rfl (aK 18 rfl rfl (ao 19 rfl rfl (st_pkt (v := .bool true) rfl rfl rfl (aN (ac_then rfl (aQ (aL (aA 6 (.int .i64 0) rfl rfl (aA 7 (.bool false) rfl rfl (aN (ac_ret ?_)))))))))))))))))
  exact fin_eq (v := .tuple #[.int .i64 0, .bool false]) (by show _ = (fun (r : Int × Bool) => (.tuple #[.int .i64 r.1, .bool r.2] : Value)) (numDiv a b up); rw [numDiv, h1] <;> rfl) (fin_ret (res_tt rfl rfl rfl))
end Go.Proofs.YtalffjplbhelcaaGreatDoor
