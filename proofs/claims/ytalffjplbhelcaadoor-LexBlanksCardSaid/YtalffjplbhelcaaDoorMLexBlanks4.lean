import Derived.Test.YtalffjplbhelcaaDoorMLexBlanks3
import Derived.Test.YtalffjplbhelcaaDoorMLexBlanks1
import Derived.WalkKit
import Derived.ProofKit
import Derived.OpenShut
import Derived.ShutString
import Derived.ChangeOld
import Derived.Below
import Derived.SizedLaws
import Derived.ChangeSlices
set_option linter.unusedVariables false
set_option linter.unusedSimpArgs false
namespace Go.Proofs.YtalffjplbhelcaaDoor
open Go.RowKit
attribute [local irreducible] AC AR DWalk
def known10  : Bool := (bif cxEq (⟨0, 0⟩ : Cx) (⟨0, 0⟩ : Cx) then (bif tokEq (⟨1, (⟨#[97]⟩ : ByteArray), (⟨4607182418800017408, 4607182418800017408⟩ : Cx)⟩ : Tok) (⟨1, (⟨#[97]⟩ : ByteArray), (⟨4607182418800017408, 4607182418800017408⟩ : Cx)⟩ : Tok) then (bif tokEq (⟨2, (⟨#[49, 46, 53]⟩ : ByteArray), (⟨4607182418800017408, 4613937818241073152⟩ : Cx)⟩ : Tok) (⟨2, (⟨#[49, 46, 53]⟩ : ByteArray), (⟨4607182418800017408, 4613937818241073152⟩ : Cx)⟩ : Tok) then tokEq (⟨3, (⟨#[]⟩ : ByteArray), (⟨4607182418800017408, 4618441417868443648⟩ : Cx)⟩ : Tok) (⟨3, (⟨#[]⟩ : ByteArray), (⟨4607182418800017408, 4618441417868443648⟩ : Cx)⟩ : Tok) else false) else false) else false)
set_option maxRecDepth 100000 in
theorem c_known10  : Gets Tryd.prog 10 #[] ((fun (r : Bool) => (.bool r : Value)) known10) := by
 refine gets_fin Tryd.func10 rfl rfl rfl (aQ (aL (aA 0 (.bool false) rfl rfl (aN (aQ (aL (ao 5 rfl rfl (st_gv (R := []) (c_tokens (⟨#[97, 32, 49, 46, 53]⟩ : ByteArray)) Tryd.func9 rfl (by decide) rfl rfl rfl has_nil (by simp) fun v9 N9 R9 => ?_))))))))
 obtain ⟨gT1, cgT1, rgT1, rfl, rfl⟩ := tok_closed [⟨1, (⟨#[97]⟩ : ByteArray), (⟨4607182418800017408, 4607182418800017408⟩ : Cx)⟩, ⟨2, (⟨#[49, 46, 53]⟩ : ByteArray), (⟨4607182418800017408, 4613937818241073152⟩ : Cx)⟩, ⟨3, (⟨#[]⟩ : ByteArray), (⟨4607182418800017408, 4618441417868443648⟩ : Cx)⟩] (⟨0, 0⟩ : Cx) 0 3 [.int .i64 1, .string (⟨#[97]⟩ : ByteArray), .complex .f64 ((⟨4607182418800017408, 4607182418800017408⟩ : Cx)).re ((⟨4607182418800017408, 4607182418800017408⟩ : Cx)).im, .int .i64 2, .string (⟨#[49, 46, 53]⟩ : ByteArray), .complex .f64 ((⟨4607182418800017408, 4613937818241073152⟩ : Cx)).re ((⟨4607182418800017408, 4613937818241073152⟩ : Cx)).im, .int .i64 3, .string (⟨#[]⟩ : ByteArray), .complex .f64 ((⟨4607182418800017408, 4618441417868443648⟩ : Cx)).re ((⟨4607182418800017408, 4618441417868443648⟩ : Cx)).im] R9 (by decide +kernel) rfl rfl rfl
 refine aM 4 (.tuple #[.slice (some ⟨gT1, 0, none⟩) 3 cgT1, .complex .f64 ((⟨0, 0⟩ : Cx)).re ((⟨0, 0⟩ : Cx)).im, .int .i64 0]) rfl rfl (aX 6 (.slice (some ⟨gT1, 0, none⟩) 3 cgT1) rfl rfl rfl (aX 7 (.complex .f64 ((⟨0, 0⟩ : Cx)).re ((⟨0, 0⟩ : Cx)).im) rfl rfl rfl (aX 8 (.int .i64 0) rfl rfl rfl (aA 1 (.slice (some ⟨gT1, 0, none⟩) 3 cgT1) rfl rfl (aA 2 (.complex .f64 ((⟨0, 0⟩ : Cx)).re ((⟨0, 0⟩ : Cx)).im) rfl rfl (aA 3 (.int .i64 0) rfl rfl (aN (aQ (aL (aM 9 (.int .i64 0) rfl rfl (aB 10 (.bool true) rfl rfl rfl (bi_eql (by decide)) (aM 11 (.bool true) rfl rfl (ar_gd (d := (some 12)) rfl rfl (st_move (v := .complex .f64 ((⟨0, 0⟩ : Cx)).re ((⟨0, 0⟩ : Cx)).im) rfl rfl ?_))))))))))))))
 refine ar_gd (d := (some 13)) rfl rfl (st_bi (r := .bool (cxEq (⟨0, 0⟩ : Cx) (⟨0, 0⟩ : Cx))) rfl rfl rfl (bi_ceql (a := (⟨0, 0⟩ : Cx)) (b := (⟨0, 0⟩ : Cx)) rfl) (ao 14 rfl rfl (st_pkt (v := .bool (cxEq (⟨0, 0⟩ : Cx) (⟨0, 0⟩ : Cx))) rfl rfl rfl (aM 15 (.bool (cxEq (⟨0, 0⟩ : Cx) (⟨0, 0⟩ : Cx))) rfl rfl ?_))))
 refine bool_split (cxEq (⟨0, 0⟩ : Cx) (⟨0, 0⟩ : Cx)) (fun h1 => ?_) (fun h1 => ?_)
 ·refine ar_gd (d := (some 16)) (by show ((cxEq (⟨0, 0⟩ : Cx) (⟨0, 0⟩ : Cx)) == true) = true; rw [h1]; rfl) rfl (st_move (v := .slice (some ⟨gT1, 0, none⟩) 3 cgT1) rfl rfl (ar_gd (d := (some 17)) (by show ((cxEq (⟨0, 0⟩ : Cx) (⟨0, 0⟩ : Cx)) == true) = true; rw [h1]; rfl) rfl (st_ln (a := some ⟨gT1, 0, none⟩) (m := 3) (c := cgT1) rfl Tryd.underlying22 rfl (ar_gd (d := (some 18)) (by show ((cxEq (⟨0, 0⟩ : Cx) (⟨0, 0⟩ : Cx)) == true) = true; rw [h1]; rfl) rfl (st_bi (r := .bool true) rfl rfl rfl (bi_eql (by decide)) (ao 19 rfl rfl (st_pkt' (b := cxEq (⟨0, 0⟩ : Cx) (⟨0, 0⟩ : Cx)) (v := .bool true) h1 rfl rfl rfl (aM 20 (.bool true) rfl rfl ?_))))))))
  refine ar_gd (d := (some 21)) rfl rfl (st_move (v := .slice (some ⟨gT1, 0, none⟩) 3 cgT1) rfl rfl (ar_gd (d := (some 22)) rfl rfl (st_sa (g := gT1) (off := 0) (m := 3) (c := cgT1) (s := 3) (i := 0) rfl Tryd.underlying22 (by kernel_rfl) rfl rfl (by decide) (ar_gd (d := (some 23)) rfl rfl (st_lda (vs := [.int .i64 1, .string (⟨#[97]⟩ : ByteArray), .complex .f64 ((⟨4607182418800017408, 4607182418800017408⟩ : Cx)).re ((⟨4607182418800017408, 4607182418800017408⟩ : Cx)).im]) agg32 0 rfl rfl rfl rfl rfl rfl ?_)))))
  refine ar_gd (d := (some 24)) rfl rfl (st_bd (us := [(0, .int .i64 1), (1, .string (⟨#[97]⟩ : ByteArray)), (2, .complex .f64 ((⟨4607182418800017408, 4607182418800017408⟩ : Cx)).re ((⟨4607182418800017408, 4607182418800017408⟩ : Cx)).im)]) (v := .agg #[.int .i64 1, .string (⟨#[97]⟩ : ByteArray), .complex .f64 ((⟨4607182418800017408, 4607182418800017408⟩ : Cx)).re ((⟨4607182418800017408, 4607182418800017408⟩ : Cx)).im]) rfl rfl (bd32_0_1_2 _ _ _) ?_)
  refine ar_gd (d := (some 25)) rfl rfl (st_bi (r := .bool (tokEq (⟨1, (⟨#[97]⟩ : ByteArray), (⟨4607182418800017408, 4607182418800017408⟩ : Cx)⟩ : Tok) (⟨1, (⟨#[97]⟩ : ByteArray), (⟨4607182418800017408, 4607182418800017408⟩ : Cx)⟩ : Tok))) rfl rfl rfl (beql_32 (⟨1, (⟨#[97]⟩ : ByteArray), (⟨4607182418800017408, 4607182418800017408⟩ : Cx)⟩ : Tok) (⟨1, (⟨#[97]⟩ : ByteArray), (⟨4607182418800017408, 4607182418800017408⟩ : Cx)⟩ : Tok) rfl) (ao 26 rfl rfl (st_pkt (v := .bool (tokEq (⟨1, (⟨#[97]⟩ : ByteArray), (⟨4607182418800017408, 4607182418800017408⟩ : Cx)⟩ : Tok) (⟨1, (⟨#[97]⟩ : ByteArray), (⟨4607182418800017408, 4607182418800017408⟩ : Cx)⟩ : Tok))) rfl rfl rfl ?_)))
  refine aM 27 (.bool (tokEq (⟨1, (⟨#[97]⟩ : ByteArray), (⟨4607182418800017408, 4607182418800017408⟩ : Cx)⟩ : Tok) (⟨1, (⟨#[97]⟩ : ByteArray), (⟨4607182418800017408, 4607182418800017408⟩ : Cx)⟩ : Tok))) rfl rfl ?_
  refine bool_split (tokEq (⟨1, (⟨#[97]⟩ : ByteArray), (⟨4607182418800017408, 4607182418800017408⟩ : Cx)⟩ : Tok) (⟨1, (⟨#[97]⟩ : ByteArray), (⟨4607182418800017408, 4607182418800017408⟩ : Cx)⟩ : Tok)) (fun h2 => ?_) (fun h2 => ?_)
  ·refine ar_gd (d := (some 28)) (by show ((tokEq (⟨1, (⟨#[97]⟩ : ByteArray), (⟨4607182418800017408, 4607182418800017408⟩ : Cx)⟩ : Tok) (⟨1, (⟨#[97]⟩ : ByteArray), (⟨4607182418800017408, 4607182418800017408⟩ : Cx)⟩ : Tok)) == true) = true; rw [h2]; rfl) rfl (st_move (v := .slice (some ⟨gT1, 0, none⟩) 3 cgT1) rfl rfl ?_)
   refine ar_gd (d := (some 29)) (by show ((tokEq (⟨1, (⟨#[97]⟩ : ByteArray), (⟨4607182418800017408, 4607182418800017408⟩ : Cx)⟩ : Tok) (⟨1, (⟨#[97]⟩ : ByteArray), (⟨4607182418800017408, 4607182418800017408⟩ : Cx)⟩ : Tok)) == true) = true; rw [h2]; rfl) rfl (st_sa (g := gT1) (off := 0) (m := 3) (c := cgT1) (s := 3) (i := 1) rfl Tryd.underlying22 (by kernel_rfl) rfl rfl (by decide) ?_)
   refine ar_gd (d := (some 30)) (by show ((tokEq (⟨1, (⟨#[97]⟩ : ByteArray), (⟨4607182418800017408, 4607182418800017408⟩ : Cx)⟩ : Tok) (⟨1, (⟨#[97]⟩ : ByteArray), (⟨4607182418800017408, 4607182418800017408⟩ : Cx)⟩ : Tok)) == true) = true; rw [h2]; rfl) rfl (st_lda (vs := [.int .i64 2, .string (⟨#[49, 46, 53]⟩ : ByteArray), .complex .f64 ((⟨4607182418800017408, 4613937818241073152⟩ : Cx)).re ((⟨4607182418800017408, 4613937818241073152⟩ : Cx)).im]) agg32 0 rfl rfl rfl rfl rfl rfl ?_)
   refine ar_gd (d := (some 31)) (by show ((tokEq (⟨1, (⟨#[97]⟩ : ByteArray), (⟨4607182418800017408, 4607182418800017408⟩ : Cx)⟩ : Tok) (⟨1, (⟨#[97]⟩ : ByteArray), (⟨4607182418800017408, 4607182418800017408⟩ : Cx)⟩ : Tok)) == true) = true; rw [h2]; rfl) rfl (st_bd (us := [(0, .int .i64 2), (1, .string (⟨#[49, 46, 53]⟩ : ByteArray)), (2, .complex .f64 ((⟨4607182418800017408, 4613937818241073152⟩ : Cx)).re ((⟨4607182418800017408, 4613937818241073152⟩ : Cx)).im)]) (v := .agg #[.int .i64 2, .string (⟨#[49, 46, 53]⟩ : ByteArray), .complex .f64 ((⟨4607182418800017408, 4613937818241073152⟩ : Cx)).re ((⟨4607182418800017408, 4613937818241073152⟩ : Cx)).im]) rfl rfl (bd32_0_1_2 _ _ _) ?_)
   refine ar_gd (d := (some 32)) (by show ((tokEq (⟨1, (⟨#[97]⟩ : ByteArray), (⟨4607182418800017408, 4607182418800017408⟩ : Cx)⟩ : Tok) (⟨1, (⟨#[97]⟩ : ByteArray), (⟨4607182418800017408, 4607182418800017408⟩ : Cx)⟩ : Tok)) == true) = true; rw [h2]; rfl) rfl (st_bi (r := .bool (tokEq (⟨2, (⟨#[49, 46, 53]⟩ : ByteArray), (⟨4607182418800017408, 4613937818241073152⟩ : Cx)⟩ : Tok) (⟨2, (⟨#[49, 46, 53]⟩ : ByteArray), (⟨4607182418800017408, 4613937818241073152⟩ : Cx)⟩ : Tok))) rfl rfl rfl (beql_32 (⟨2, (⟨#[49, 46, 53]⟩ : ByteArray), (⟨4607182418800017408, 4613937818241073152⟩ : Cx)⟩ : Tok) (⟨2, (⟨#[49, 46, 53]⟩ : ByteArray), (⟨4607182418800017408, 4613937818241073152⟩ : Cx)⟩ : Tok) rfl) ?_)
   refine ao 33 rfl rfl (st_pkt' (b := tokEq (⟨1, (⟨#[97]⟩ : ByteArray), (⟨4607182418800017408, 4607182418800017408⟩ : Cx)⟩ : Tok) (⟨1, (⟨#[97]⟩ : ByteArray), (⟨4607182418800017408, 4607182418800017408⟩ : Cx)⟩ : Tok)) (v := .bool (tokEq (⟨2, (⟨#[49, 46, 53]⟩ : ByteArray), (⟨4607182418800017408, 4613937818241073152⟩ : Cx)⟩ : Tok) (⟨2, (⟨#[49, 46, 53]⟩ : ByteArray), (⟨4607182418800017408, 4613937818241073152⟩ : Cx)⟩ : Tok))) h2 rfl rfl rfl (aM 34 (.bool (tokEq (⟨2, (⟨#[49, 46, 53]⟩ : ByteArray), (⟨4607182418800017408, 4613937818241073152⟩ : Cx)⟩ : Tok) (⟨2, (⟨#[49, 46, 53]⟩ : ByteArray), (⟨4607182418800017408, 4613937818241073152⟩ : Cx)⟩ : Tok))) rfl rfl ?_))
   refine bool_split (tokEq (⟨2, (⟨#[49, 46, 53]⟩ : ByteArray), (⟨4607182418800017408, 4613937818241073152⟩ : Cx)⟩ : Tok) (⟨2, (⟨#[49, 46, 53]⟩ : ByteArray), (⟨4607182418800017408, 4613937818241073152⟩ : Cx)⟩ : Tok)) (fun h3 => ?_) (fun h3 => ?_)
   ·refine ar_gd (d := (some 35)) (by show ((tokEq (⟨2, (⟨#[49, 46, 53]⟩ : ByteArray), (⟨4607182418800017408, 4613937818241073152⟩ : Cx)⟩ : Tok) (⟨2, (⟨#[49, 46, 53]⟩ : ByteArray), (⟨4607182418800017408, 4613937818241073152⟩ : Cx)⟩ : Tok)) == true) = true; rw [h3]; rfl) rfl (st_move (v := .slice (some ⟨gT1, 0, none⟩) 3 cgT1) rfl rfl ?_)
    refine ar_gd (d := (some 36)) (by show ((tokEq (⟨2, (⟨#[49, 46, 53]⟩ : ByteArray), (⟨4607182418800017408, 4613937818241073152⟩ : Cx)⟩ : Tok) (⟨2, (⟨#[49, 46, 53]⟩ : ByteArray), (⟨4607182418800017408, 4613937818241073152⟩ : Cx)⟩ : Tok)) == true) = true; rw [h3]; rfl) rfl (st_sa (g := gT1) (off := 0) (m := 3) (c := cgT1) (s := 3) (i := 2) rfl Tryd.underlying22 (by kernel_rfl) rfl rfl (by decide) ?_)
    refine ar_gd (d := (some 37)) (by show ((tokEq (⟨2, (⟨#[49, 46, 53]⟩ : ByteArray), (⟨4607182418800017408, 4613937818241073152⟩ : Cx)⟩ : Tok) (⟨2, (⟨#[49, 46, 53]⟩ : ByteArray), (⟨4607182418800017408, 4613937818241073152⟩ : Cx)⟩ : Tok)) == true) = true; rw [h3]; rfl) rfl (st_lda (vs := [.int .i64 3, .string (⟨#[]⟩ : ByteArray), .complex .f64 ((⟨4607182418800017408, 4618441417868443648⟩ : Cx)).re ((⟨4607182418800017408, 4618441417868443648⟩ : Cx)).im]) agg32 0 rfl rfl rfl rfl rfl rfl ?_)
    refine ar_gd (d := (some 38)) (by show ((tokEq (⟨2, (⟨#[49, 46, 53]⟩ : ByteArray), (⟨4607182418800017408, 4613937818241073152⟩ : Cx)⟩ : Tok) (⟨2, (⟨#[49, 46, 53]⟩ : ByteArray), (⟨4607182418800017408, 4613937818241073152⟩ : Cx)⟩ : Tok)) == true) = true; rw [h3]; rfl) rfl (st_bd (us := [(0, .int .i64 3), (2, .complex .f64 ((⟨4607182418800017408, 4618441417868443648⟩ : Cx)).re ((⟨4607182418800017408, 4618441417868443648⟩ : Cx)).im)]) (v := .agg #[.int .i64 3, .string (⟨#[]⟩ : ByteArray), .complex .f64 ((⟨4607182418800017408, 4618441417868443648⟩ : Cx)).re ((⟨4607182418800017408, 4618441417868443648⟩ : Cx)).im]) rfl rfl (bd32_0_2 _ _) ?_)
    refine ar_gd (d := (some 39)) (by show ((tokEq (⟨2, (⟨#[49, 46, 53]⟩ : ByteArray), (⟨4607182418800017408, 4613937818241073152⟩ : Cx)⟩ : Tok) (⟨2, (⟨#[49, 46, 53]⟩ : ByteArray), (⟨4607182418800017408, 4613937818241073152⟩ : Cx)⟩ : Tok)) == true) = true; rw [h3]; rfl) rfl (st_bi (r := .bool (tokEq (⟨3, (⟨#[]⟩ : ByteArray), (⟨4607182418800017408, 4618441417868443648⟩ : Cx)⟩ : Tok) (⟨3, (⟨#[]⟩ : ByteArray), (⟨4607182418800017408, 4618441417868443648⟩ : Cx)⟩ : Tok))) rfl rfl rfl (beql_32 (⟨3, (⟨#[]⟩ : ByteArray), (⟨4607182418800017408, 4618441417868443648⟩ : Cx)⟩ : Tok) (⟨3, (⟨#[]⟩ : ByteArray), (⟨4607182418800017408, 4618441417868443648⟩ : Cx)⟩ : Tok) rfl) ?_)
    refine ao 40 rfl rfl (st_pkt' (b := tokEq (⟨2, (⟨#[49, 46, 53]⟩ : ByteArray), (⟨4607182418800017408, 4613937818241073152⟩ : Cx)⟩ : Tok) (⟨2, (⟨#[49, 46, 53]⟩ : ByteArray), (⟨4607182418800017408, 4613937818241073152⟩ : Cx)⟩ : Tok)) (v := .bool (tokEq (⟨3, (⟨#[]⟩ : ByteArray), (⟨4607182418800017408, 4618441417868443648⟩ : Cx)⟩ : Tok) (⟨3, (⟨#[]⟩ : ByteArray), (⟨4607182418800017408, 4618441417868443648⟩ : Cx)⟩ : Tok))) h3 rfl rfl rfl (aA 0 (.bool (tokEq (⟨3, (⟨#[]⟩ : ByteArray), (⟨4607182418800017408, 4618441417868443648⟩ : Cx)⟩ : Tok) (⟨3, (⟨#[]⟩ : ByteArray), (⟨4607182418800017408, 4618441417868443648⟩ : Cx)⟩ : Tok))) rfl rfl (aN (ac_ret ?_))))
    exact fin_eq (v := .bool (tokEq (⟨3, (⟨#[]⟩ : ByteArray), (⟨4607182418800017408, 4618441417868443648⟩ : Cx)⟩ : Tok) (⟨3, (⟨#[]⟩ : ByteArray), (⟨4607182418800017408, 4618441417868443648⟩ : Cx)⟩ : Tok))) (by show _ = (fun (r : Bool) => (.bool r : Value)) known10; rw [known10, h3, h2, h1] <;> rfl) (fin_ret (res_tmp rfl rfl))
   ·refine aK 35 (by show ((tokEq (⟨2, (⟨#[49, 46, 53]⟩ : ByteArray), (⟨4607182418800017408, 4613937818241073152⟩ : Cx)⟩ : Tok) (⟨2, (⟨#[49, 46, 53]⟩ : ByteArray), (⟨4607182418800017408, 4613937818241073152⟩ : Cx)⟩ : Tok)) == true) = false; rw [h3]; rfl) rfl (aK 36 (by show ((tokEq (⟨2, (⟨#[49, 46, 53]⟩ : ByteArray), (⟨4607182418800017408, 4613937818241073152⟩ : Cx)⟩ : Tok) (⟨2, (⟨#[49, 46, 53]⟩ : ByteArray), (⟨4607182418800017408, 4613937818241073152⟩ : Cx)⟩ : Tok)) == true) = false; rw [h3]; rfl) rfl ?_)
    refine aK 37 (by show ((tokEq (⟨2, (⟨#[49, 46, 53]⟩ : ByteArray), (⟨4607182418800017408, 4613937818241073152⟩ : Cx)⟩ : Tok) (⟨2, (⟨#[49, 46, 53]⟩ : ByteArray), (⟨4607182418800017408, 4613937818241073152⟩ : Cx)⟩ : Tok)) == true) = false; rw [h3]; rfl) rfl (aK 38 (by show ((tokEq (⟨2, (⟨#[49, 46, 53]⟩ : ByteArray), (⟨4607182418800017408, 4613937818241073152⟩ : Cx)⟩ : Tok) (⟨2, (⟨#[49, 46, 53]⟩ : ByteArray), (⟨4607182418800017408, 4613937818241073152⟩ : Cx)⟩ : Tok)) == true) = false; rw [h3]; rfl) rfl ?_)
    refine aK 39 (by show ((tokEq (⟨2, (⟨#[49, 46, 53]⟩ : ByteArray), (⟨4607182418800017408, 4613937818241073152⟩ : Cx)⟩ : Tok) (⟨2, (⟨#[49, 46, 53]⟩ : ByteArray), (⟨4607182418800017408, 4613937818241073152⟩ : Cx)⟩ : Tok)) == true) = false; rw [h3]; rfl) rfl (ao 40 rfl rfl (st_pkf' (b := tokEq (⟨2, (⟨#[49, 46, 53]⟩ : ByteArray), (⟨4607182418800017408, 4613937818241073152⟩ : Cx)⟩ : Tok) (⟨2, (⟨#[49, 46, 53]⟩ : ByteArray), (⟨4607182418800017408, 4613937818241073152⟩ : Cx)⟩ : Tok)) (v := .bool false) h3 rfl rfl rfl (aA 0 (.bool false) rfl rfl (aN (ac_ret ?_)))))
    exact fin_eq (v := .bool false) (by show _ = (fun (r : Bool) => (.bool r : Value)) known10; rw [known10, h3, h2, h1] <;> rfl) (fin_ret (res_tmp rfl rfl))
  ·refine aK 28 (by show ((tokEq (⟨1, (⟨#[97]⟩ : ByteArray), (⟨4607182418800017408, 4607182418800017408⟩ : Cx)⟩ : Tok) (⟨1, (⟨#[97]⟩ : ByteArray), (⟨4607182418800017408, 4607182418800017408⟩ : Cx)⟩ : Tok)) == true) = false; rw [h2]; rfl) rfl (aK 29 (by show ((tokEq (⟨1, (⟨#[97]⟩ : ByteArray), (⟨4607182418800017408, 4607182418800017408⟩ : Cx)⟩ : Tok) (⟨1, (⟨#[97]⟩ : ByteArray), (⟨4607182418800017408, 4607182418800017408⟩ : Cx)⟩ : Tok)) == true) = false; rw [h2]; rfl) rfl ?_)
   refine aK 30 (by show ((tokEq (⟨1, (⟨#[97]⟩ : ByteArray), (⟨4607182418800017408, 4607182418800017408⟩ : Cx)⟩ : Tok) (⟨1, (⟨#[97]⟩ : ByteArray), (⟨4607182418800017408, 4607182418800017408⟩ : Cx)⟩ : Tok)) == true) = false; rw [h2]; rfl) rfl (aK 31 (by show ((tokEq (⟨1, (⟨#[97]⟩ : ByteArray), (⟨4607182418800017408, 4607182418800017408⟩ : Cx)⟩ : Tok) (⟨1, (⟨#[97]⟩ : ByteArray), (⟨4607182418800017408, 4607182418800017408⟩ : Cx)⟩ : Tok)) == true) = false; rw [h2]; rfl) rfl ?_)
   refine aK 32 (by show ((tokEq (⟨1, (⟨#[97]⟩ : ByteArray), (⟨4607182418800017408, 4607182418800017408⟩ : Cx)⟩ : Tok) (⟨1, (⟨#[97]⟩ : ByteArray), (⟨4607182418800017408, 4607182418800017408⟩ : Cx)⟩ : Tok)) == true) = false; rw [h2]; rfl) rfl (ao 33 rfl rfl (st_pkf' (b := tokEq (⟨1, (⟨#[97]⟩ : ByteArray), (⟨4607182418800017408, 4607182418800017408⟩ : Cx)⟩ : Tok) (⟨1, (⟨#[97]⟩ : ByteArray), (⟨4607182418800017408, 4607182418800017408⟩ : Cx)⟩ : Tok)) (v := .bool false) h2 rfl rfl rfl (aM 34 (.bool false) rfl rfl (aK 35 rfl rfl (aK 36 rfl rfl (aK 37 rfl rfl (aK 38 rfl rfl (aK 39 rfl rfl (ao 40 rfl rfl (st_pkf (v := .bool false) rfl rfl rfl (aA 0 (.bool false) rfl rfl ?_)))))))))))
   refine aN (ac_ret (fin_eq (v := .bool false) (by show _ = (fun (r : Bool) => (.bool r : Value)) known10; rw [known10, h2, h1] <;> rfl) (fin_ret (res_tmp rfl rfl))))
 ·refine aK 16 (by show ((cxEq (⟨0, 0⟩ : Cx) (⟨0, 0⟩ : Cx)) == true) = false; rw [h1]; rfl) rfl (aK 17 (by show ((cxEq (⟨0, 0⟩ : Cx) (⟨0, 0⟩ : Cx)) == true) = false; rw [h1]; rfl) rfl (aK 18 (by show ((cxEq (⟨0, 0⟩ : Cx) (⟨0, 0⟩ : Cx)) == true) = false; rw [h1]; rfl) rfl (ao 19 rfl rfl (st_pkf' (b := cxEq (⟨0, 0⟩ : Cx) (⟨0, 0⟩ : Cx)) (v := .bool false) h1 rfl rfl rfl (aM 20 (.bool false) rfl rfl (aK 21 rfl rfl (aK 22 rfl rfl (aK 23 rfl rfl (aK 24 rfl rfl (aK 25 rfl rfl (ao 26 rfl rfl (st_pkf (v := .bool false) rfl rfl rfl (aM 27 (.bool false) rfl rfl (aK 28 rfl rfl (aK 29 rfl rfl (aK 30 rfl rfl (aK 31 rfl rfl (aK 32 rfl rfl ?_))))))))))))))))))
  refine ao 33 rfl rfl (st_pkf (v := .bool false) rfl rfl rfl (aM 34 (.bool false) rfl rfl (aK 35 rfl rfl (aK 36 rfl rfl (aK 37 rfl rfl (aK 38 rfl rfl (aK 39 rfl rfl (ao 40 rfl rfl (st_pkf (v := .bool false) rfl rfl rfl (aA 0 (.bool false) rfl rfl (aN (ac_ret (fin_eq (v := .bool false) (by show _ = (fun (r : Bool) => (.bool r : Value)) known10; rw [known10, h1] <;> rfl) (fin_ret (res_tmp rfl rfl)))))))))))))))
end Go.Proofs.YtalffjplbhelcaaDoor
namespace Go.Proofs.YtalffjplbhelcaaDoor
open Go.RowKit
attribute [local irreducible] AC AR DWalk
theorem ne_zero {x : Int} (h : x = 0) : (x != 0) = false := by subst h; rfl
theorem ne_len {a b : Nat} (h : a = b) : ((a : Int) != (b : Int)) = false := by subst h; simp
set_option maxRecDepth 100000 in
set_option maxHeartbeats 4000000 in
theorem c_lawLexBlanks (m1 c1 m2 c2 : Nat) (a1 a2 : Option Addr) (x1 x2 : Nat → Int) (NA : List Box) (pl wd : ByteArray) (hPW : blRun m1 m2 x1 x2 30 0 (⟨#[]⟩ : ByteArray) (⟨#[]⟩ : ByteArray) = (pl, wd)) (hl1 : SlI a1 m1 x1 NA) (hl2 : SlI a2 m2 x2 NA) (hro : (NA.all fun b => b.ro) = true) (he : (lexAll pl).2.2 = 0) (hf : (lexAll wd).2.2 = 0) (hlen : (lexAll pl).1.length = (lexAll wd).1.length) (hp : ∀ (i : Nat) (ta tb : Tok), (lexAll pl).1[i]? = some ta → (lexAll wd).1[i]? = some tb → ta.kind = tb.kind ∧ ta.text = tb.text) (hkn : known10 = true) : Gives Tryd.prog 6 #[.slice a1 m1 c1, .slice a2 m2 c2] NA (fun v N => v = .bool true ∧ N = []) := by
 refine gives_fin Tryd.func6 rfl rfl rfl hro (aQ (aL (aA 4 (.bool false) rfl rfl (aN (aQ (aL ?_))))))
 refine ao 18 rfl rfl (st_bd (us := [(0, .string (⟨#[97]⟩ : ByteArray)), (1, .string (⟨#[108, 101, 110, 115]⟩ : ByteArray)), (2, .string (⟨#[45, 50, 46, 53]⟩ : ByteArray)), (3, .string (⟨#[49, 55]⟩ : ByteArray)), (4, .string (⟨#[120, 95, 49]⟩ : ByteArray)), (5, .string (⟨#[102, 108, 105, 110, 116]⟩ : ByteArray)), (6, .string (⟨#[48, 46, 50, 53]⟩ : ByteArray)), (7, .string (⟨#[98, 45, 98]⟩ : ByteArray))]) (v := .agg #[.string (⟨#[97]⟩ : ByteArray), .string (⟨#[108, 101, 110, 115]⟩ : ByteArray), .string (⟨#[45, 50, 46, 53]⟩ : ByteArray), .string (⟨#[49, 55]⟩ : ByteArray), .string (⟨#[120, 95, 49]⟩ : ByteArray), .string (⟨#[102, 108, 105, 110, 116]⟩ : ByteArray), .string (⟨#[48, 46, 50, 53]⟩ : ByteArray), .string (⟨#[98, 45, 98]⟩ : ByteArray)]) rfl rfl (bd47_0_1_2_3_4_5_6_7 _ _ _ _ _ _ _ _) ?_)
 refine ao 5 rfl rfl (st_new zero47 rfl fun g0 => (aS [.string (⟨#[97]⟩ : ByteArray), .string (⟨#[108, 101, 110, 115]⟩ : ByteArray), .string (⟨#[45, 50, 46, 53]⟩ : ByteArray), .string (⟨#[49, 55]⟩ : ByteArray), .string (⟨#[120, 95, 49]⟩ : ByteArray), .string (⟨#[102, 108, 105, 110, 116]⟩ : ByteArray), .string (⟨#[48, 46, 50, 53]⟩ : ByteArray), .string (⟨#[98, 45, 98]⟩ : ByteArray)] agg47 0 rfl rfl rfl rfl rfl rfl (aN (aQ (aL (aA 6 (.string (⟨#[]⟩ : ByteArray)) rfl rfl (aN (aQ (aL (aA 7 (.string (⟨#[]⟩ : ByteArray)) rfl rfl (aN (aQ (aQ (aL (aA 8 (.int .i64 0) rfl rfl (aN (ac_block ?_)))))))))))))))))
 refine ac_rounds 31 ?_
 refine bl_loop g0 m1 c1 m2 c2 a1 a2 x1 x2 NA hl1 hl2 rfl 30 0 _ _ _ rfl (Nat.zero_le _) (Nat.zero_le _) rfl rfl rfl rfl rfl (by rfl) (fun E9 f6 f7 => ?_)
 rw [hPW] at f6 f7
 obtain ⟨E0, rfl⟩ : ∃ E0 : Env, E9 = ((E0.put (some 6) (.string pl)).put (some 7) (.string wd)) := ⟨E9, by rw [put_self f6, put_self f7]⟩
 refine aQ (aL (aM 72 (.string pl) rfl rfl (ao 73 rfl rfl (st_gv (R := []) (c_tokens pl) Tryd.func9 rfl (by decide) rfl rfl rfl has_nil (by simp) fun v9 NT1 R9 => ?_))))
 obtain ⟨aT1, cT1, rfl, h4T1, hT1⟩ := tok_cases R9
 refine aM 71 (.tuple #[.slice aT1 ((lexAll pl).1.length) cT1, .complex .f64 ((lexAll pl).2.1).re ((lexAll pl).2.1).im, .int .i64 ((lexAll pl).2.2)]) rfl rfl (aX 74 (.slice aT1 ((lexAll pl).1.length) cT1) rfl rfl rfl (aX 75 (.complex .f64 ((lexAll pl).2.1).re ((lexAll pl).2.1).im) rfl rfl rfl (aX 76 (.int .i64 ((lexAll pl).2.2)) rfl rfl rfl (aA 11 (.slice aT1 ((lexAll pl).1.length) cT1) rfl rfl (aA 12 (.complex .f64 ((lexAll pl).2.1).re ((lexAll pl).2.1).im) rfl rfl (aA 13 (.int .i64 ((lexAll pl).2.2)) rfl rfl (aN (aQ (aL (aM 78 (.string wd) rfl rfl (ao 79 rfl rfl (st_gv (R := []) (c_tokens wd) Tryd.func9 rfl (by decide) rfl rfl rfl has_nil (by simp) fun v9 NT2 R9 => ?_))))))))))))
 obtain ⟨aT2, cT2, rfl, h4T2, hT2⟩ := tok_cases R9
 have hT1 := hT1
 refine aM 77 (.tuple #[.slice aT2 ((lexAll wd).1.length) cT2, .complex .f64 ((lexAll wd).2.1).re ((lexAll wd).2.1).im, .int .i64 ((lexAll wd).2.2)]) rfl rfl (aX 80 (.slice aT2 ((lexAll wd).1.length) cT2) rfl rfl rfl (aX 81 (.complex .f64 ((lexAll wd).2.1).re ((lexAll wd).2.1).im) rfl rfl rfl (aX 82 (.int .i64 ((lexAll wd).2.2)) rfl rfl rfl (aA 14 (.slice aT2 ((lexAll wd).1.length) cT2) rfl rfl (aA 15 (.complex .f64 ((lexAll wd).2.1).re ((lexAll wd).2.1).im) rfl rfl (aA 16 (.int .i64 ((lexAll wd).2.2)) rfl rfl (aN (aQ (aQ (aL (aC 83 c_known10 Tryd.func10 ⟨rfl, by decide⟩ rfl rfl (ao 84 rfl rfl (st_un (v := .bool (!known10)) rfl rfl (un_not rfl) ?_)))))))))))))
 refine aM 85 (.bool (!known10)) rfl rfl (ar_gd (d := (some 86)) (by show ((!known10) == false) = true; rw [hkn]; rfl) rfl (st_move (v := .int .i64 ((lexAll pl).2.2)) rfl rfl (ar_gd (d := (some 87)) (by show ((!known10) == false) = true; rw [hkn]; rfl) rfl (st_bi (r := .bool (((lexAll pl).2.2) != 0)) rfl rfl rfl (bi_neq rfl) (ao 88 rfl rfl (st_pkf' (b := !known10) (v := .bool (((lexAll pl).2.2) != 0)) (by rw [hkn]; rfl) rfl rfl rfl (aM 89 (.bool (((lexAll pl).2.2) != 0)) rfl rfl (ar_gd (d := (some 90)) (by show ((((lexAll pl).2.2) != 0) == false) = true; rw [(ne_zero he)]; rfl) rfl (st_move (v := .int .i64 ((lexAll wd).2.2)) rfl rfl ?_)))))))))
 refine ar_gd (d := (some 91)) (by show ((((lexAll pl).2.2) != 0) == false) = true; rw [(ne_zero he)]; rfl) rfl (st_bi (r := .bool (((lexAll wd).2.2) != 0)) rfl rfl rfl (bi_neq rfl) (ao 92 rfl rfl (st_pkf' (b := ((lexAll pl).2.2) != 0) (v := .bool (((lexAll wd).2.2) != 0)) (ne_zero he) rfl rfl rfl (aM 93 (.bool (((lexAll wd).2.2) != 0)) rfl rfl (ar_gd (d := (some 94)) (by show ((((lexAll wd).2.2) != 0) == false) = true; rw [(ne_zero hf)]; rfl) rfl (st_move (v := .slice aT1 ((lexAll pl).1.length) cT1) rfl rfl ?_))))))
 refine ar_gd (d := (some 95)) (by show ((((lexAll wd).2.2) != 0) == false) = true; rw [(ne_zero hf)]; rfl) rfl (st_ln (a := aT1) (m := (lexAll pl).1.length) (c := cT1) rfl Tryd.underlying22 rfl (ar_gd (d := (some 96)) (by show ((((lexAll wd).2.2) != 0) == false) = true; rw [(ne_zero hf)]; rfl) rfl (st_move (v := .slice aT2 ((lexAll wd).1.length) cT2) rfl rfl (ar_gd (d := (some 97)) (by show ((((lexAll wd).2.2) != 0) == false) = true; rw [(ne_zero hf)]; rfl) rfl (st_ln (a := aT2) (m := (lexAll wd).1.length) (c := cT2) rfl Tryd.underlying22 rfl ?_)))))
 refine ar_gd (d := (some 98)) (by show ((((lexAll wd).2.2) != 0) == false) = true; rw [(ne_zero hf)]; rfl) rfl (st_bi (r := .bool (((lexAll pl).1.length : Int) != ((lexAll wd).1.length : Int))) rfl rfl rfl (bi_neq rfl) (ao 99 rfl rfl (st_pkf' (b := ((lexAll wd).2.2) != 0) (v := .bool (((lexAll pl).1.length : Int) != ((lexAll wd).1.length : Int))) (ne_zero hf) rfl rfl rfl (aN (ac_else' (b := ((lexAll pl).1.length : Int) != ((lexAll wd).1.length : Int)) (ne_len hlen) rfl (ac_skip (aQ (aQ (aL (aM 100 (.slice aT1 ((lexAll pl).1.length) cT1) rfl rfl (ao 101 rfl rfl (st_ln (a := aT1) (m := (lexAll pl).1.length) (c := cT1) rfl Tryd.underlying22 rfl ?_))))))))))))
 refine aM 102 (.int .i64 0) rfl rfl (aN (ac_block ?_))
 refine ac_rounds ((lexAll wd).1.length + 1) ?_
 refine blc_loop (lexAll wd).1.length cT1 cT2 aT1 aT2 (lexAll pl).1 (lexAll wd).1 h4T2 hlen rfl (fun i hi => ?_) (fun i hi => ?_) hp rfl (lexAll wd).1.length 0 _ (Nat.zero_add _) (by show Value.slice _ _ _ = _; rw [hlen]) (by rfl) (by show Value.int _ _ = _; rw [hlen]) (by rfl) (fun E9 => ?_)
 ·obtain ⟨g, r, e, h⟩ := hT1 i hi; exact ⟨g, r, e, by simp [h]⟩
 ·obtain ⟨g, r, e, h⟩ := hT2 i hi; exact ⟨g, r, e, by simp [h]⟩
 refine aQ (aL (aA 4 (.bool true) rfl rfl (aN (ac_ret ?_))))
 exact fing_ret (N := []) ⟨rfl, rfl⟩ (List.nil_sublist _) rfl (res_tmp rfl rfl)
end Go.Proofs.YtalffjplbhelcaaDoor
namespace Go.Proofs.YtalffjplbhelcaaDoor
def restL (s : ByteArray) (i : Nat) : List UInt8 := s.data.toList.drop i
theorem rest_len (s : ByteArray) (i : Nat) : (restL s i).length = s.size - i := by
  unfold restL
  rw [List.length_drop]
  rfl
theorem rest_add {s : ByteArray} {i : Nat} {w r : List UInt8} (h : restL s i = w ++ r) : restL s (i + w.length) = r := by
  unfold restL at *
  rw [← List.drop_drop, h, List.drop_left]
theorem rest_cons {s : ByteArray} {i : Nat} {b : UInt8} {r : List UInt8} (h : restL s i = b :: r) : i < s.size ∧ sAt s i = (b.toNat : Int) ∧ restL s (i + 1) = r := by
  have hl := rest_len s i
  rw [h] at hl
  simp only [List.length_cons] at hl
  have hi : i < s.size := by omega
  refine ⟨hi, ?_, rest_add (w := [b]) h⟩
  have e : s.data.toList[i]? = some b := by
    have h0 : (s.data.toList.drop i)[0]? = some b := by
      rw [show s.data.toList.drop i = b :: r from h]; rfl
    rw [List.getElem?_drop] at h0
    exact h0
  unfold sAt
  have e2 : s[i]? = some b := by
    rw [getElem?_pos s i hi]
    rw [Array.getElem?_toList] at e
    obtain ⟨_, hb⟩ := Array.getElem?_eq_some_iff.1 e
    rw [← hb]
    rfl
  rw [e2]
  rfl
theorem run_rest {P : Int → Bool} {s : ByteArray} : ∀ (n i : Nat) (w post : List UInt8), s.size ≤ i + n → restL s i = w ++ post → (∀ b ∈ w, P (b.toNat : Int) = true) → (post = [] ∨ ∃ b r, post = b :: r ∧ P (b.toNat : Int) = false) → runTo P s n i = i + w.length
  | 0, i, w, post, hn, h, hw, hp => by
    have hl := rest_len s i
    rw [h, List.length_append] at hl
    have : w.length = 0 := by omega
    rw [runTo, this]; rfl
  | n + 1, i, w, post, hn, h, hw, hp => by
    rw [runTo]
    cases w with
    | nil =>
      rw [List.nil_append] at h
      rcases hp with rfl | ⟨b, r, rfl, hb⟩
      · have hl := rest_len s i
        rw [h] at hl
        have hl : 0 = s.size - i := hl
        rw [decide_eq_false (by omega)]; rfl
      · obtain ⟨h1, h2, _⟩ := rest_cons h
        rw [h2, hb, Bool.and_false]; rfl
    | cons b w =>
      obtain ⟨h1, h2, h3⟩ := rest_cons h
      rw [decide_eq_true h1, h2, hw b List.mem_cons_self, Bool.and_true, cond_true, run_rest n (i + 1) w post (by omega) h3 (fun c hc => hw c (List.mem_cons_of_mem _ hc)) hp, List.length_cons]
      omega
theorem sub_rest {s : ByteArray} {i : Nat} {w post : List UInt8} (h : restL s i = w ++ post) : subS s (i : Int) ((i + w.length : Nat) : Int) = byA w := by
  unfold subS byA
  apply ByteArray.ext
  apply Array.ext'
  simp only [Int.toNat_natCast, ByteArray.data_extract, Array.toList_extract]
  rw [List.extract_eq_take_drop, show (s.data.toList.drop i) = w ++ post from h]
  simp
section
variable {s : ByteArray} {n i : Nat} {line start : Int} {any_ : Bool} {out : List Tok}
theorem i_ne {s : ByteArray} {i : Nat} (h : i < s.size) : ((i : Int) == ((s).size : Int)) = false := by
  rw [beq_eq_false_iff_ne]; omega
theorem lex_blank {b : UInt8} {r : List UInt8} (h : restL s i = b :: r) (hb : b = 32 ∨ b = 9) : lexRun s (n + 1) i line start any_ out = lexRun s n (i + 1) line start any_ out := by
  obtain ⟨h1, h2, h3⟩ := rest_cons h
  rw [lexRun, lexStep, i_ne h1, h2]
  rcases hb with rfl | rfl <;> rfl
theorem lex_feed {r : List UInt8} (h : restL s i = 10 :: r) : lexRun s (n + 1) i line start any_ out = lexRun s n (i + 1) (w64 (line + 1)) ((i + 1 : Nat) : Int) false (bif any_ then out ++ [⟨3, ⟨#[]⟩, lexHere i line start⟩] else out) := by
  obtain ⟨h1, h2, h3⟩ := rest_cons h
  rw [lexRun, lexStep, i_ne h1, h2]
  show lexFeed _ _ _ _ _ _ _ = _
  rw [lexFeed, i_ne h1]
  cases any_ <;> rfl
theorem lex_end (h : restL s i = []) (hi : i ≤ s.size) : lexRun s (n + 1) i line start any_ out = (bif any_ then out ++ [⟨3, ⟨#[]⟩, lexHere i line start⟩] else out, ⟨0, 0⟩, 0) := by
  have hl := rest_len s i
  rw [h] at hl
  have hl : 0 = s.size - i := hl
  have e : ((i : Int) == ((s).size : Int)) = true := by rw [beq_iff_eq]; omega
  rw [lexRun, lexStep, e, cond_true, lexFeed, e]
  cases any_ <;> rfl
theorem lex_rem {r post : List UInt8} (h : restL s i = 35 :: (r ++ 10 :: post)) (hr : ∀ b ∈ r, b ≠ 10) : lexRun s (n + 1) i line start any_ out = lexRun s n (i + 1 + r.length) line start any_ out := by
  obtain ⟨h1, h2, h3⟩ := rest_cons h
  rw [lexRun, lexStep, i_ne h1, h2]
  show lexRun s n _ line start any_ out = _
  rw [run_rest (s.size - (i + 1)) (i + 1) r (10 :: post) (by omega) h3 (fun b hb => by
    have := hr b hb
    unfold lexNoLine
    simp only [bne_iff_ne, ne_eq]
    intro e
    exact this (UInt8.toNat_inj.1 (by show b.toNat = 10; omega))) (.inr ⟨10, post, rfl, rfl⟩)]
theorem let_ne {c : Int} (h : lexLetter c = true) {k : Int} (hk : lexLetter k = false) : (c == k) = false := by
  rw [beq_eq_false_iff_ne]
  rintro rfl
  rw [h] at hk
  cases hk
theorem dig_ne {c : Int} (h : lexDigit c = true) {k : Int} (hk : lexDigit k = false) : (c == k) = false := by
  rw [beq_eq_false_iff_ne]
  rintro rfl
  rw [h] at hk
  cases hk
theorem lex_word {b : UInt8} {w post : List UInt8} (h : restL s i = (b :: w) ++ post) (hb : lexLetter (b.toNat : Int) = true) (hw : ∀ x ∈ w, lexInWord (x.toNat : Int) = true) (hp : post = [] ∨ ∃ c r, post = c :: r ∧ lexInWord (c.toNat : Int) = false) (h20 : w.length + 1 ≤ 20) (hs : s.size ≤ 4000) :
    lexRun s (n + 1) i line start any_ out = lexRun s n (i + (b :: w).length) line start true (out ++ [⟨1, byA (b :: w), lexHere i line start⟩]) := by
  obtain ⟨h1, h2, h3⟩ := rest_cons h
  rw [lexRun, lexStep, i_ne h1, h2, let_ne hb (k := 10) rfl, let_ne hb (k := 32) rfl, let_ne hb (k := 9) rfl, let_ne hb (k := 35) rfl, hb]
  simp only [cond_true, cond_false]
  have hr := run_rest (P := lexInWord) (s.size - (i + 1)) (i + 1) w post (by omega) h3 hw hp
  have hl : (b :: w).length = w.length + 1 := rfl
  rw [lexWord, hr, decide_eq_false (by rw [w64_in (by omega)]; omega), cond_false, show i + 1 + w.length = i + (b :: w).length by omega, sub_rest h]
theorem lex_num {b : UInt8} {w post : List UInt8} (h : restL s i = (b :: w) ++ post) (hb : lexDigit (b.toNat : Int) = true ∨ b = 45) (hw : ∀ x ∈ w, lexInNum (x.toNat : Int) = true) (hp : post = [] ∨ ∃ c r, post = c :: r ∧ lexInNum (c.toNat : Int) = false) (hd : (decRead (byA (b :: w))).2 = true) :
    lexRun s (n + 1) i line start any_ out = lexRun s n (i + (b :: w).length) line start true (out ++ [⟨2, byA (b :: w), lexHere i line start⟩]) := by
  obtain ⟨h1, h2, h3⟩ := rest_cons h
  have hr := run_rest (P := lexInNum) (s.size - (i + 1)) (i + 1) w post (by omega) h3 hw hp
  have hl : (b :: w).length = w.length + 1 := rfl
  have hn : lexNum (lexRun s n) s i line start out (lexHere i line start) = lexRun s n (i + (b :: w).length) line start true (out ++ [⟨2, byA (b :: w), lexHere i line start⟩]) := by
    rw [lexNum, hr, show i + 1 + w.length = i + (b :: w).length by omega, sub_rest h, hd, cond_true]
  rw [lexRun, lexStep, i_ne h1, h2]
  rcases hb with hb | rfl
  · have hle : lexLetter (b.toNat : Int) = false := by
      unfold lexDigit at hb
      unfold lexLetter
      cases h48 : decide ((b.toNat : Int) ≥ 48)
      · rw [h48] at hb; cases hb
      · rw [h48] at hb
        have h57 := of_decide_eq_true (show decide ((b.toNat : Int) ≤ 57) = true from hb)
        rw [decide_eq_false (show ¬ ((b.toNat : Int) ≥ 97) by omega), decide_eq_false (show ¬ ((b.toNat : Int) ≥ 65) by omega)]
        rfl
    rw [dig_ne hb (k := 10) rfl, dig_ne hb (k := 32) rfl, dig_ne hb (k := 9) rfl, dig_ne hb (k := 35) rfl, hle, hb]
    simp only [cond_true, cond_false]
    exact hn
  · exact hn
end
def kt (t : Tok) : Int × ByteArray := (t.kind, t.text)
def endT (any_ : Bool) : List (Int × ByteArray) := bif any_ then [(3, ⟨#[]⟩)] else []
def LxL (s : ByteArray) (r : List UInt8) (any_ : Bool) (T : List (Int × ByteArray)) : Prop :=
  ∀ i, restL s i = r → i ≤ s.size → ∀ (n : Nat) (line start : Int) (out : List Tok), s.size - i < n → ∃ T', lexRun s n i line start any_ out = (out ++ T', ⟨0, 0⟩, 0) ∧ T'.map kt = T
def wOk : List UInt8 → Bool
  | [] => false
  | b :: w => lexLetter (b.toNat : Int) && (w.all (fun x => lexInWord (x.toNat : Int)) && decide (w.length < 20))
def nOk : List UInt8 → Bool
  | [] => false
  | b :: w => (lexDigit (b.toNat : Int) || b == 45) && (w.all (fun x => lexInNum (x.toNat : Int)) && (decRead (byA (b :: w))).2)
def kindL (l : List UInt8) : Int := bif wOk l then 1 else 2
theorem lxL_end {s : ByteArray} {any_ : Bool} : LxL s [] any_ (endT any_) := by
  intro i h hi n line start out hn
  obtain ⟨n, rfl⟩ : ∃ n', n = n' + 1 := ⟨n - 1, by omega⟩
  rw [lex_end h hi]
  cases any_
  · exact ⟨[], by simp, rfl⟩
  · exact ⟨[⟨3, ⟨#[]⟩, lexHere i line start⟩], rfl, rfl⟩
theorem lxL_blank {s : ByteArray} {b : UInt8} {r : List UInt8} {any_ : Bool} {T : List (Int × ByteArray)} (hb : b = 32 ∨ b = 9) (h : LxL s r any_ T) : LxL s (b :: r) any_ T := by
  intro i hr hi n line start out hn
  obtain ⟨n, rfl⟩ : ∃ n', n = n' + 1 := ⟨n - 1, by omega⟩
  obtain ⟨h1, _, h3⟩ := rest_cons hr
  rw [lex_blank hr hb]
  exact h (i + 1) h3 h1 n line start out (by omega)
theorem lxL_feed {s : ByteArray} {r : List UInt8} {any_ : Bool} {T : List (Int × ByteArray)} (h : LxL s r false T) : LxL s (10 :: r) any_ (endT any_ ++ T) := by
  intro i hr hi n line start out hn
  obtain ⟨n, rfl⟩ : ∃ n', n = n' + 1 := ⟨n - 1, by omega⟩
  obtain ⟨h1, _, h3⟩ := rest_cons hr
  rw [lex_feed hr]
  cases any_
  · obtain ⟨T', e, hT⟩ := h (i + 1) h3 h1 n (w64 (line + 1)) ((i + 1 : Nat) : Int) out (by omega)
    exact ⟨T', e, hT⟩
  · obtain ⟨T', e, hT⟩ := h (i + 1) h3 h1 n (w64 (line + 1)) ((i + 1 : Nat) : Int) (out ++ [⟨3, ⟨#[]⟩, lexHere i line start⟩]) (by omega)
    refine ⟨⟨3, ⟨#[]⟩, lexHere i line start⟩ :: T', ?_, ?_⟩
    · rw [cond_true, e, List.append_assoc]; rfl
    · rw [List.map_cons, hT]; rfl
theorem lxL_rem {s : ByteArray} {r post : List UInt8} {any_ : Bool} {T : List (Int × ByteArray)} (hr : ∀ b ∈ r, b ≠ 10) (h : LxL s (10 :: post) any_ T) : LxL s (35 :: (r ++ 10 :: post)) any_ T := by
  intro i hi hs n line start out hn
  obtain ⟨n, rfl⟩ : ∃ n', n = n' + 1 := ⟨n - 1, by omega⟩
  obtain ⟨h1, _, h3⟩ := rest_cons hi
  have h4 := rest_add h3
  have h5 := (rest_cons h4).1
  rw [lex_rem hi hr]
  exact h _ h4 (by omega) n line start out (by omega)
theorem lxL_tok {s : ByteArray} {l r : List UInt8} {c : UInt8} {any_ : Bool} {T : List (Int × ByteArray)} (hs : s.size ≤ 4000) (hl : (wOk l || nOk l) = true) (hc1 : lexInWord (c.toNat : Int) = false) (hc2 : lexInNum (c.toNat : Int) = false) (h : LxL s (c :: r) true T) : LxL s (l ++ c :: r) any_ ((kindL l, byA l) :: T) := by
  intro i hr hi n line start out hn
  obtain ⟨n, rfl⟩ : ∃ n', n = n' + 1 := ⟨n - 1, by omega⟩
  cases l with
  | nil => cases hl
  | cons b w =>
    have h4 := rest_add hr
    have h5 := (rest_cons h4).1
    have h6 : (b :: w).length = w.length + 1 := rfl
    cases hw : wOk (b :: w)
    · rw [hw, Bool.false_or] at hl
      simp only [nOk, Bool.and_eq_true, Bool.or_eq_true, beq_iff_eq, List.all_eq_true] at hl
      rw [lex_num hr hl.1 hl.2.1 (.inr ⟨c, r, rfl, hc2⟩) hl.2.2]
      obtain ⟨T', e, hT⟩ := h _ h4 (by omega) n line start (out ++ [⟨2, byA (b :: w), lexHere i line start⟩]) (by omega)
      refine ⟨⟨2, byA (b :: w), lexHere i line start⟩ :: T', by rw [e, List.append_assoc]; rfl, ?_⟩
      rw [List.map_cons, hT, kindL, hw]; rfl
    · have hw' := hw
      simp only [wOk, Bool.and_eq_true, List.all_eq_true, decide_eq_true_eq] at hw'
      rw [lex_word hr hw'.1 hw'.2.1 (.inr ⟨c, r, rfl, hc1⟩) (by omega) hs]
      obtain ⟨T', e, hT⟩ := h _ h4 (by omega) n line start (out ++ [⟨1, byA (b :: w), lexHere i line start⟩]) (by omega)
      refine ⟨⟨1, byA (b :: w), lexHere i line start⟩ :: T', by rw [e, List.append_assoc]; rfl, ?_⟩
      rw [List.map_cons, hT, kindL, hw]; rfl
theorem lxL_all {s : ByteArray} {T : List (Int × ByteArray)} (hs : s.size ≤ 4000) (h : LxL s s.data.toList false T) : ∃ T', lexAll s = (T', ⟨0, 0⟩, 0) ∧ T'.map kt = T := by
  obtain ⟨T', e, hT⟩ := h 0 rfl (Nat.zero_le _) (s.size + 1) 1 0 [] (by omega)
  refine ⟨T', ?_, hT⟩
  rw [lexAll, decide_eq_false (by omega), cond_false, e]; rfl
end Go.Proofs.YtalffjplbhelcaaDoor
namespace Go.Proofs.YtalffjplbhelcaaDoor
open Go.RowKit
def isNl (x : Int) : Bool := decide (hPick x 11 > 7)
def blWord (x : Int) : List UInt8 := (wordB (hPick x 8)).data.toList
def pP (x : Int) : List UInt8 := bif isNl x then [10] else blWord x ++ [32]
def blRem (g : Int) : List UInt8 := bif g % 2 == 1 then [9, 35, 32, 49, 32, 97, 32, 33] else []
def pW (x g : Int) : List UInt8 := bif isNl x then blRem g ++ [10, 10] else List.replicate g.toNat 32 ++ (blWord x ++ [32, 9])
theorem toL_app (a b : ByteArray) : (a ++ b).data.toList = a.data.toList ++ b.data.toList := by simp
theorem blP_list (x : Int) (p : ByteArray) : (blP x p).data.toList = p.data.toList ++ pP x := by
  unfold blP pP isNl blWord
  cases decide (hPick x 11 > 7)
  · simp only [cond_false, toL_app, List.append_assoc]
  · simp only [cond_true, toL_app]
theorem gap_list (g : Int) (h : 0 ≤ g ∧ g ≤ 4) : (subS (⟨#[32, 32, 32, 32]⟩ : ByteArray) 0 g).data.toList = List.replicate g.toNat 32 := by
  have h5 : g = 0 ∨ g = 1 ∨ g = 2 ∨ g = 3 ∨ g = 4 := by omega
  rcases h5 with rfl | rfl | rfl | rfl | rfl <;> decide +kernel
theorem rem_list (g : Int) (h : 0 ≤ g ∧ g ≤ 4) : (subS (⟨#[9, 35, 32, 49, 32, 97, 32, 33]⟩ : ByteArray) 0 (w64 (8 * (Int.tmod g 2)))).data.toList = blRem g := by
  have h5 : g = 0 ∨ g = 1 ∨ g = 2 ∨ g = 3 ∨ g = 4 := by omega
  rcases h5 with rfl | rfl | rfl | rfl | rfl <;> decide +kernel
theorem blW_list (x g : Int) (w : ByteArray) (h : 0 ≤ g ∧ g ≤ 4) : (blW x g w).data.toList = w.data.toList ++ pW x g := by
  unfold blW pW isNl blWord
  cases decide (hPick x 11 > 7)
  · simp only [cond_false, toL_app, gap_list g h, List.append_assoc]
  · simp only [cond_true, toL_app, rem_list g h, List.append_assoc]
theorem blG_in (m2 : Nat) (x2 : Nat → Int) (i : Nat) : 0 ≤ blG m2 x2 i ∧ blG m2 x2 i ≤ 4 := by
  unfold blG
  have := hPick_lt (x2 i) (m := 5) (by omega) (by omega)
  cases decide (i < m2)
  · exact ⟨Int.le_refl _, (by decide : (0 : Int) ≤ 4)⟩
  · exact ⟨this.1, by show hPick (x2 i) 5 ≤ 4; omega⟩
theorem blRun_list (m1 m2 : Nat) (x1 x2 : Nat → Int) : ∀ (k i : Nat) (p w : ByteArray), ∃ L : List (Int × Int), (∀ q ∈ L, 0 ≤ q.2 ∧ q.2 ≤ 4) ∧
    (blRun m1 m2 x1 x2 k i p w).1.data.toList = p.data.toList ++ L.flatMap (fun q => pP q.1) ∧ (blRun m1 m2 x1 x2 k i p w).2.data.toList = w.data.toList ++ L.flatMap (fun q => pW q.1 q.2) := by
  intro k
  induction k with
  | zero => intro i p w; exact ⟨[], by simp, by simp [blRun], by simp [blRun]⟩
  | succ k ih =>
    intro i p w
    rw [blRun]
    cases decide (i < m1)
    · exact ⟨[], by simp, by simp, by simp⟩
    · obtain ⟨L, h1, h2, h3⟩ := ih (i + 1) (blP (x1 i) p) (blW (x1 i) (blG m2 x2 i) w)
      refine ⟨(x1 i, blG m2 x2 i) :: L, ?_, ?_, ?_⟩
      · intro q hq
        rcases List.mem_cons.1 hq with rfl | hq
        · exact blG_in m2 x2 i
        · exact h1 q hq
      · rw [cond_true, h2, blP_list, List.flatMap_cons, List.append_assoc]
      · rw [cond_true, h3, blW_list _ _ _ (blG_in m2 x2 i), List.flatMap_cons, List.append_assoc]
theorem blRun_size (m1 m2 : Nat) (x1 x2 : Nat → Int) : ∀ (k i : Nat) (p w : ByteArray), (blRun m1 m2 x1 x2 k i p w).1.size ≤ p.size + 20 * k ∧ (blRun m1 m2 x1 x2 k i p w).2.size ≤ w.size + 20 * k := by
  intro k
  induction k with
  | zero => intro i p w; exact ⟨by simp [blRun], by simp [blRun]⟩
  | succ k ih =>
    intro i p w
    rw [blRun]
    cases decide (i < m1)
    · exact ⟨by simp only [cond_false]; omega, by simp only [cond_false]; omega⟩
    · have h := ih (i + 1) (blP (x1 i) p) (blW (x1 i) (blG m2 x2 i) w)
      have h1 := blP_size (x1 i) p
      have h2 := blW_size (x1 i) (blG m2 x2 i) w
      rw [cond_true]
      omega
def exp (any_ : Bool) : List (Int × Int) → List (Int × ByteArray)
  | [] => endT any_
  | q :: L => bif isNl q.1 then endT any_ ++ exp false L else (kindL (blWord q.1), byA (blWord q.1)) :: exp true L
theorem words_all : (blWords.all fun w => wOk w.data.toList || nOk w.data.toList) = true := by decide +kernel
theorem word_ok (x : Int) : (wOk (blWord x) || nOk (blWord x)) = true := by
  have h := hPick_lt x (m := 8) (by omega) (by omega)
  have hm : wordB (hPick x 8) ∈ blWords := by
    unfold wordB
    have hl : (hPick x 8).toNat < blWords.length := by show _ < 8; omega
    rw [List.getD_eq_getElem?_getD, List.getElem?_eq_getElem hl]
    exact List.getElem_mem _
  exact (List.all_eq_true.1 words_all) _ hm
theorem lex_plain {s : ByteArray} (hs : s.size ≤ 4000) : ∀ (L : List (Int × Int)) (any_ : Bool), LxL s (L.flatMap fun q => pP q.1) any_ (exp any_ L) := by
  intro L
  induction L with
  | nil => intro a; exact lxL_end
  | cons q L ih =>
    intro a
    rw [List.flatMap_cons, exp]
    show LxL s (pP q.1 ++ _) _ _
    unfold pP
    cases isNl q.1
    · simp only [cond_false, List.append_assoc]
      exact lxL_tok hs (word_ok _) rfl rfl (lxL_blank (.inl rfl) (ih true))
    · simp only [cond_true]
      exact lxL_feed (ih false)
theorem lxL_gap {s : ByteArray} {r : List UInt8} {any_ : Bool} {T : List (Int × ByteArray)} (h : LxL s r any_ T) : ∀ k : Nat, LxL s (List.replicate k 32 ++ r) any_ T
  | 0 => h
  | k + 1 => lxL_blank (.inl rfl) (lxL_gap h k)
theorem lex_wide {s : ByteArray} (hs : s.size ≤ 4000) : ∀ (L : List (Int × Int)) (any_ : Bool), LxL s (L.flatMap fun q => pW q.1 q.2) any_ (exp any_ L) := by
  intro L
  induction L with
  | nil => intro a; exact lxL_end
  | cons q L ih =>
    intro a
    rw [List.flatMap_cons, exp]
    show LxL s (pW q.1 q.2 ++ _) _ _
    unfold pW
    cases isNl q.1
    · simp only [cond_false, List.append_assoc]
      exact lxL_gap (lxL_tok hs (word_ok _) rfl rfl (lxL_blank (.inl rfl) (lxL_blank (.inr rfl) (ih true)))) _
    · simp only [cond_true, List.append_assoc]
      have h2 : LxL s (10 :: 10 :: (L.flatMap fun q => pW q.1 q.2)) a (endT a ++ exp false L) := lxL_feed (lxL_feed (ih false))
      unfold blRem
      cases q.2 % 2 == 1
      · exact h2
      · exact lxL_blank (.inr rfl) (lxL_rem (r := [32, 49, 32, 97, 32, 33]) (by decide) h2)
theorem lexBlanks_true (m1 m2 : Nat) (x1 x2 : Nat → Int) (pl wd : ByteArray) (h : blRun m1 m2 x1 x2 30 0 (⟨#[]⟩ : ByteArray) (⟨#[]⟩ : ByteArray) = (pl, wd)) :
    (lexAll pl).2.2 = 0 ∧ (lexAll wd).2.2 = 0 ∧ (lexAll pl).1.length = (lexAll wd).1.length ∧ ∀ (i : Nat) (ta tb : Tok), (lexAll pl).1[i]? = some ta → (lexAll wd).1[i]? = some tb → ta.kind = tb.kind ∧ ta.text = tb.text := by
  obtain ⟨L, _, h1, h2⟩ := blRun_list m1 m2 x1 x2 30 0 (⟨#[]⟩ : ByteArray) (⟨#[]⟩ : ByteArray)
  have h3 := blRun_size m1 m2 x1 x2 30 0 (⟨#[]⟩ : ByteArray) (⟨#[]⟩ : ByteArray)
  rw [h] at h1 h2 h3
  have e0 : (⟨#[]⟩ : ByteArray).data.toList = [] := rfl
  have z0 : (⟨#[]⟩ : ByteArray).size = 0 := rfl
  rw [e0, List.nil_append] at h1 h2
  rw [z0] at h3
  simp only at h3
  obtain ⟨T1, a1, b1⟩ := lxL_all (s := pl) (T := exp false L) (by omega) (by rw [show pl.data.toList = _ from h1]; exact lex_plain (by omega) L false)
  obtain ⟨T2, a2, b2⟩ := lxL_all (s := wd) (T := exp false L) (by omega) (by rw [show wd.data.toList = _ from h2]; exact lex_wide (by omega) L false)
  rw [a1, a2]
  have hT : T1.map kt = T2.map kt := b1.trans b2.symm
  refine ⟨rfl, rfl, ?_, fun i ta tb ha hb => ?_⟩
  · have := congrArg List.length hT
    simpa using this
  · have h9 := congrArg (fun l => l[i]?) hT
    simp only [List.getElem?_map, ha, hb, Option.map_some, Option.some.injEq, kt, Prod.mk.injEq] at h9
    exact h9
theorem known10_true : known10 = true := by decide +kernel
theorem lexBlanks_gives (m1 c1 m2 c2 : Nat) (a1 a2 : Option Addr) (x1 x2 : Nat → Int) (NA : List Box) (hl1 : SlI a1 m1 x1 NA) (hl2 : SlI a2 m2 x2 NA) (hro : (NA.all fun b => b.ro) = true) : Gives Tryd.prog 6 #[.slice a1 m1 c1, .slice a2 m2 c2] NA (fun v N => v = .bool true ∧ N = []) := by
  obtain ⟨h1, h2, h3, h4⟩ := lexBlanks_true m1 m2 x1 x2 _ _ (Prod.eta _).symm
  exact c_lawLexBlanks m1 c1 m2 c2 a1 a2 x1 x2 NA _ _ (Prod.eta _).symm hl1 hl2 hro h1 h2 h3 h4 known10_true
end Go.Proofs.YtalffjplbhelcaaDoor
namespace Go.Proofs.YtalffjplbhelcaaDoor
open Go.ChangeShapes Go.WideShapes Go.ChangeAt Go.RowKit
theorem heap_of_cell {w : World} {b o : Nat} {v : Value} (h : w.cell? ⟨b, o, none⟩ = some v) : ∃ (cs : List Value) (ty : TypeId) (fr : Nat × Nat), w.heap[b]? = some (.cells cs.toArray ty fr) ∧ cs[o]? = some v := by
  unfold World.cell? at h
  cases hb : w.heap[b]? with
  | none => simp [hb] at h
  | some x =>
    cases x <;> simp [hb] at h
    case cells c t fr => exact ⟨c.toList, t, fr, by simp, by simpa using h⟩
def Ints (W : World) (a : Option Addr) (len : Nat) : Prop := len = 0 ∨ ∃ b off, a = some ⟨b, off, none⟩ ∧ ∃ (cs : List Value) (ty : TypeId) (fr : Nat × Nat), W.heap[b]? = some (.cells cs.toArray ty fr) ∧ ∃ zs : Nat → Int, ∀ j, j < len → cs[off + j]? = some (.int .i64 (zs j))
theorem open_il {H : Type} {enc : TypeId × Value → H} {P : Program} {W : World} {base b0 : Nat} {held : Bool} {r : Reach} {t e : TypeId} {v : Value} {d : DataW H} {ps : List MemPlace} (ht : P.underlying t = some (.slice e)) (he : P.underlying e = some (.int .i64)) (hc : P.cellsOf e = 1)
    (hval : Value.okWide P W r b0 t v) (h : DataW.Trod enc P W base (fun _ => true) held t v d ps) :
    ∃ a len cap, v = .slice a len cap ∧ Ints W a len ∧ ∀ W', Below W.heap.size W W' → DataW.Trod enc P W' base (fun b => decide (b < W.heap.size)) held t v d ps := by
  obtain ⟨a0, len, cap, rfl⟩ := okWide_slice ht hval
  obtain ⟨fuel, hf⟩ := h
  refine ⟨a0, len, cap, rfl, ?_⟩
  rcases open_ints ht he hc hf with ⟨hcs, hx⟩ | ⟨a, len', cap', zs, hcs, hb, hl, hm, hz, hx, hcell, hw⟩
  · simp [Value.cells] at hcs
    obtain ⟨rfl, rfl, rfl⟩ := hcs
    simp only [Prod.mk.injEq] at hx
    obtain ⟨rfl, rfl⟩ := hx
    exact ⟨.inl rfl, fun W' _ => shut_slice_nil ht⟩
  · simp [Value.cells] at hcs
    obtain ⟨rfl, rfl, rfl⟩ := hcs
    simp only [Prod.mk.injEq] at hx
    obtain ⟨rfl, rfl⟩ := hx
    have hz0 : zs.length = cap := by simpa using hz
    have hlz : len ≤ zs.length := by omega
    have hz' : zs.length = if decide (a.block < W.heap.size) = true then cap else len := by
      by_cases h0 : 0 < zs.length
      · have := World.block_lt_of_cell? W _ (hcell 0 h0)
        have hlt : a.block < W.heap.size := by simpa [Addr.add] using this
        rw [if_pos (decide_eq_true hlt)]
        exact hz0
      · split <;> omega
    refine ⟨?_, fun W' bel => ?_⟩
    · by_cases h0 : len = 0
      · exact .inl h0
      · right
        obtain ⟨b, off, rfl, hc2⟩ := ints_at hcell (by omega)
        obtain ⟨cs, ty, fr, hh, _⟩ := heap_of_cell (hc2 0 (by omega))
        refine ⟨b, off, rfl, cs, ty, fr, hh, fun j => zs.getD j 0, fun j hj => ?_⟩
        obtain ⟨cs', ty', fr', hh', hv⟩ := heap_of_cell (hc2 j (by omega))
        rw [hh] at hh'
        simp only [Option.some.injEq, Obj.cells.injEq] at hh'
        have : cs = cs' := by
          have := congrArg Array.toList hh'.1
          simpa using this
        rw [this]
        exact hv
    · have := shut_ints (P := P) (w := W') (enc := enc) (base := base) (spare := fun b => decide (b < W.heap.size)) (held := held) (a := a) (cap := cap) (zs := zs) 0 ht he hc hb hl hm hz' (fun i hi => by
        have h1 := hcell i hi
        rw [← h1]
        exact World.cell?_of_block (bel.block _ (World.block_lt_of_cell? W _ h1))) hw
      exact ⟨_, this⟩
end Go.Proofs.YtalffjplbhelcaaDoor
namespace Go.Proofs.YtalffjplbhelcaaDoor
open Go.RowKit
theorem slI_nil (a : Option Addr) (x : Nat → Int) (NA : List Box) : SlI a 0 x NA := fun i hi => absurd hi (Nat.not_lt_zero i)
theorem slI_box {g off m t : Nat} {cs : List Value} {x : Nat → Int} {NA : List Box} (h : ∀ j, j < m → cs[off + j]? = some (.int .i64 (x j))) (hm : (⟨g, cs, t, true⟩ : Box) ∈ NA) : SlI (some ⟨g, off, none⟩) m x NA :=
  fun i hi => ⟨g, off, cs, t, rfl, hm, by rw [Nat.mul_one]; exact h i hi⟩
theorem at_one {W : World} {g t : Nat} {cs : List Value} {fr : Nat × Nat} (h : W.heap[g]? = some (.cells cs.toArray t fr)) : At [⟨g, cs, t, true⟩] W := by
  intro c hc
  obtain rfl := List.mem_singleton.1 hc
  exact ⟨fr, h⟩
theorem ints_two {W : World} {a1 a2 : Option Addr} {m1 m2 : Nat} (h1 : Ints W a1 m1) (h2 : Ints W a2 m2) : ∃ (NA : List Box) (x1 x2 : Nat → Int), SlI a1 m1 x1 NA ∧ SlI a2 m2 x2 NA ∧ (NA.all fun b => b.ro) = true ∧ At NA W ∧ (NA.map Box.g).Nodup := by
  rcases h1 with rfl | ⟨b1, o1, rfl, cs1, t1, fr1, hh1, z1, hz1⟩
  · rcases h2 with rfl | ⟨b2, o2, rfl, cs2, t2, fr2, hh2, z2, hz2⟩
    · exact ⟨[], fun _ => 0, fun _ => 0, slI_nil _ _ _, slI_nil _ _ _, rfl, by simp [At], by simp⟩
    · exact ⟨[⟨b2, cs2, t2, true⟩], fun _ => 0, z2, slI_nil _ _ _, slI_box hz2 List.mem_cons_self, rfl, at_one hh2, by simp⟩
  · rcases h2 with rfl | ⟨b2, o2, rfl, cs2, t2, fr2, hh2, z2, hz2⟩
    · exact ⟨[⟨b1, cs1, t1, true⟩], z1, fun _ => 0, slI_box hz1 List.mem_cons_self, slI_nil _ _ _, rfl, at_one hh1, by simp⟩
    · by_cases hb : b1 = b2
      · subst hb
        rw [hh1] at hh2
        simp only [Option.some.injEq, Obj.cells.injEq] at hh2
        obtain ⟨e1, e2, _⟩ := hh2
        obtain rfl : cs1 = cs2 := by simpa using congrArg Array.toList e1
        exact ⟨[⟨b1, cs1, t1, true⟩], z1, z2, slI_box hz1 List.mem_cons_self, slI_box hz2 List.mem_cons_self, rfl, at_one hh1, by simp⟩
      · refine ⟨[⟨b1, cs1, t1, true⟩, ⟨b2, cs2, t2, true⟩], z1, z2, slI_box hz1 List.mem_cons_self, slI_box hz2 (List.mem_cons_of_mem _ List.mem_cons_self), rfl, ?_, by simp [hb]⟩
        intro c hc
        rcases List.mem_cons.1 hc with rfl | hc
        · exact ⟨fr1, hh1⟩
        · obtain rfl := List.mem_singleton.1 hc
          exact ⟨fr2, hh2⟩
theorem lexBlanks_calls {W : World} (a1 : Option Addr) (m1 c1 : Nat) (h1 : Ints W a1 m1) (a2 : Option Addr) (m2 c2 : Nat) (h2 : Ints W a2 m2) : Calls Tryd.prog 6 #[.slice a1 m1 c1, .slice a2 m2 c2] W fun e W' => e = .returned (.bool true) ∧ Below W.heap.size W W' := by
  obtain ⟨NA, x1, x2, hl1, hl2, hro, hA, hnd⟩ := ints_two h1 h2
  refine (lexBlanks_gives m1 c1 m2 c2 a1 a2 x1 x2 NA hl1 hl2 hro W hA hnd).mono ?_
  rintro e w' ⟨v', N, he, ⟨rfl, _⟩, _, _, hb⟩
  exact ⟨he, hb⟩
end Go.Proofs.YtalffjplbhelcaaDoor
