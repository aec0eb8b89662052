import Derived.Test.YtalffjplbhelcaaGreatDoorMGlassKnown3
import Derived.Test.YtalffjplbhelcaaGreatDoorMGlassKnown2
import Derived.Test.YtalffjplbhelcaaGreatDoorMGlassKnown1
set_option linter.unusedVariables false
set_option linter.unusedSimpArgs false
namespace Go.Proofs.YtalffjplbhelcaaGreatDoor
open Go.RowKit
attribute [local irreducible] AC AR DWalk
def lexLetter (c : Int) : Bool := (bif decide (c ≥ 97) then (bif decide (c ≤ 122) then true else (bif decide (c ≥ 65) then decide (c ≤ 90) else false)) else (bif decide (c ≥ 65) then decide (c ≤ 90) else false))
set_option maxRecDepth 100000 in
theorem c_lexLetter (c : Int) : Gets Tryz.prog 101 #[.int .u8 c] ((fun (r : Bool) => (.bool r : Value)) (lexLetter c)) := by
 refine gets_fin Tryz.func101 rfl rfl rfl (aQ (aL (aA 2 (.bool false) rfl rfl (aN (aQ (aL (aM 3 (.int .u8 c) rfl rfl (aB 4 (.bool (decide (c ≥ 97))) rfl rfl rfl (bk_geq rfl) (aM 5 (.bool (decide (c ≥ 97))) rfl rfl ?_)))))))))
 refine bool_split (decide (c ≥ 97)) (fun h1 => ?_) (fun h1 => ?_)
 ·refine ar_gd (d := (some 6)) (by show ((decide (c ≥ 97)) == true) = true; rw [h1]; rfl) rfl (st_move (v := .int .u8 c) rfl rfl (ar_gd (d := (some 7)) (by show ((decide (c ≥ 97)) == true) = true; rw [h1]; rfl) rfl (st_bi (r := .bool (decide (c ≤ 122))) rfl rfl rfl (bk_leq rfl) (ao 8 rfl rfl (st_pkt' (b := decide (c ≥ 97)) (v := .bool (decide (c ≤ 122))) h1 rfl rfl rfl (aM 9 (.bool (decide (c ≤ 122))) rfl rfl ?_))))))
  refine bool_split (decide (c ≤ 122)) (fun h2 => ?_) (fun h2 => ?_)
  ·refine aK 10 (by show ((decide (c ≤ 122)) == false) = false; rw [h2]; rfl) rfl (aK 11 (by show ((decide (c ≤ 122)) == false) = false; rw [h2]; rfl) rfl (aK 12 (by show ((decide (c ≤ 122)) == false) = false; rw [h2]; rfl) rfl (aK 13 rfl rfl (aK 14 rfl rfl (aK 15 (by show ((decide (c ≤ 122)) == false) = false; rw [h2]; rfl) rfl (ao 16 rfl rfl (st_pkt' (b := decide (c ≤ 122)) (v := .bool true) h2 rfl rfl rfl (aA 2 (.bool true) rfl rfl (aN (ac_ret (fin_eq (v := .bool true) (by show _ = (fun (r : Bool) => (.bool r : Value)) (lexLetter c); rw [lexLetter, h2, h1] <;> rfl) (fin_ret (res_tmp rfl rfl)))))))))))))
  ·refine ar_gd (d := (some 10)) (by show ((decide (c ≤ 122)) == false) = true; rw [h2]; rfl) rfl (st_move (v := .int .u8 c) rfl rfl (ar_gd (d := (some 11)) (by show ((decide (c ≤ 122)) == false) = true; rw [h2]; rfl) rfl (st_bi (r := .bool (decide (c ≥ 65))) rfl rfl rfl (bk_geq rfl) (ar_gd (d := (some 12)) (by show ((decide (c ≤ 122)) == false) = true; rw [h2]; rfl) rfl (st_move (v := .bool (decide (c ≥ 65))) rfl rfl ?_)))))
   refine bool_split (decide (c ≥ 65)) (fun h3 => ?_) (fun h3 => ?_)
   ·refine ar_gd (d := (some 13)) (by show ((decide (c ≥ 65)) == true) = true; rw [h3]; rfl) rfl (st_move (v := .int .u8 c) rfl rfl (ar_gd (d := (some 14)) (by show ((decide (c ≥ 65)) == true) = true; rw [h3]; rfl) rfl (st_bi (r := .bool (decide (c ≤ 90))) rfl rfl rfl (bk_leq rfl) (ar_gd (d := (some 15)) (by show ((decide (c ≤ 122)) == false) = true; rw [h2]; rfl) rfl (st_pkt' (b := decide (c ≥ 65)) (v := .bool (decide (c ≤ 90))) h3 rfl rfl rfl (ao 16 rfl rfl (st_pkf' (b := decide (c ≤ 122)) (v := .bool (decide (c ≤ 90))) h2 rfl rfl rfl (aA 2 (.bool (decide (c ≤ 90))) rfl rfl (aN (ac_ret ?_))))))))))
    exact fin_eq (v := .bool (decide (c ≤ 90))) (by show _ = (fun (r : Bool) => (.bool r : Value)) (lexLetter c); rw [lexLetter, h3, h2, h1] <;> rfl) (fin_ret (res_tmp rfl rfl))
   ·refine aK 13 (by show ((decide (c ≥ 65)) == true) = false; rw [h3]; rfl) rfl (aK 14 (by show ((decide (c ≥ 65)) == true) = false; rw [h3]; rfl) rfl (ar_gd (d := (some 15)) (by show ((decide (c ≤ 122)) == false) = true; rw [h2]; rfl) rfl (st_pkf' (b := decide (c ≥ 65)) (v := .bool false) h3 rfl rfl rfl (ao 16 rfl rfl (st_pkf' (b := decide (c ≤ 122)) (v := .bool false) h2 rfl rfl rfl (aA 2 (.bool false) rfl rfl (aN (ac_ret (fin_eq (v := .bool false) (by show _ = (fun (r : Bool) => (.bool r : Value)) (lexLetter c); rw [lexLetter, h3, h2, h1] <;> rfl) (fin_ret (res_tmp rfl rfl)))))))))))
 ·refine aK 6 (by show ((decide (c ≥ 97)) == true) = false; rw [h1]; rfl) rfl (aK 7 (by show ((decide (c ≥ 97)) == true) = false; rw [h1]; rfl) rfl (ao 8 rfl rfl (st_pkf' (b := decide (c ≥ 97)) (v := .bool false) h1 rfl rfl rfl (aM 9 (.bool false) rfl rfl (ar_gd (d := (some 10)) rfl rfl (st_move (v := .int .u8 c) rfl rfl (ar_gd (d := (some 11)) rfl rfl (st_bi (r := .bool (decide (c ≥ 65))) rfl rfl rfl (bk_geq rfl) (ar_gd (d := (some 12)) rfl rfl (st_move (v := .bool (decide (c ≥ 65))) rfl rfl ?_))))))))))
  refine bool_split (decide (c ≥ 65)) (fun h2 => ?_) (fun h2 => ?_)
  ·refine ar_gd (d := (some 13)) (by show ((decide (c ≥ 65)) == true) = true; rw [h2]; rfl) rfl (st_move (v := .int .u8 c) rfl rfl (ar_gd (d := (some 14)) (by show ((decide (c ≥ 65)) == true) = true; rw [h2]; rfl) rfl (st_bi (r := .bool (decide (c ≤ 90))) rfl rfl rfl (bk_leq rfl) (ar_gd (d := (some 15)) rfl rfl (st_pkt' (b := decide (c ≥ 65)) (v := .bool (decide (c ≤ 90))) h2 rfl rfl rfl (ao 16 rfl rfl (st_pkf (v := .bool (decide (c ≤ 90))) rfl rfl rfl (aA 2 (.bool (decide (c ≤ 90))) rfl rfl (aN (ac_ret (fin_eq (v := .bool (decide (c ≤ 90))) (by show _ = (fun (r : Bool) => (.bool r : Value)) (lexLetter c); rw [lexLetter, h2, h1] <;> rfl) (fin_ret (res_tmp rfl rfl)))))))))))))
  ·refine aK 13 (by show ((decide (c ≥ 65)) == true) = false; rw [h2]; rfl) rfl (aK 14 (by show ((decide (c ≥ 65)) == true) = false; rw [h2]; rfl) rfl (ar_gd (d := (some 15)) rfl rfl (st_pkf' (b := decide (c ≥ 65)) (v := .bool false) h2 rfl rfl rfl (ao 16 rfl rfl (st_pkf (v := .bool false) rfl rfl rfl (aA 2 (.bool false) rfl rfl (aN (ac_ret (fin_eq (v := .bool false) (by show _ = (fun (r : Bool) => (.bool r : Value)) (lexLetter c); rw [lexLetter, h2, h1] <;> rfl) (fin_ret (res_tmp rfl rfl)))))))))))
def lexDigit (c : Int) : Bool := (bif decide (c ≥ 48) then decide (c ≤ 57) else false)
set_option maxRecDepth 100000 in
theorem c_lexDigit (c : Int) : Gets Tryz.prog 102 #[.int .u8 c] ((fun (r : Bool) => (.bool r : Value)) (lexDigit c)) := by
 refine gets_fin Tryz.func102 rfl rfl rfl (aQ (aL (aA 2 (.bool false) rfl rfl (aN (aQ (aL (aM 3 (.int .u8 c) rfl rfl (aB 4 (.bool (decide (c ≥ 48))) rfl rfl rfl (bk_geq rfl) (aM 5 (.bool (decide (c ≥ 48))) rfl rfl ?_)))))))))
 refine bool_split (decide (c ≥ 48)) (fun h1 => ?_) (fun h1 => ?_)
 ·refine ar_gd (d := (some 6)) (by show ((decide (c ≥ 48)) == true) = true; rw [h1]; rfl) rfl (st_move (v := .int .u8 c) rfl rfl (ar_gd (d := (some 7)) (by show ((decide (c ≥ 48)) == true) = true; rw [h1]; rfl) rfl (st_bi (r := .bool (decide (c ≤ 57))) rfl rfl rfl (bk_leq rfl) (ao 8 rfl rfl (st_pkt' (b := decide (c ≥ 48)) (v := .bool (decide (c ≤ 57))) h1 rfl rfl rfl (aA 2 (.bool (decide (c ≤ 57))) rfl rfl (aN (ac_ret (fin_eq (v := .bool (decide (c ≤ 57))) (by show _ = (fun (r : Bool) => (.bool r : Value)) (lexDigit c); rw [lexDigit, h1] <;> rfl) (fin_ret (res_tmp rfl rfl)))))))))))
 ·refine aK 6 (by show ((decide (c ≥ 48)) == true) = false; rw [h1]; rfl) rfl (aK 7 (by show ((decide (c ≥ 48)) == true) = false; rw [h1]; rfl) rfl (ao 8 rfl rfl (st_pkf' (b := decide (c ≥ 48)) (v := .bool false) h1 rfl rfl rfl (aA 2 (.bool false) rfl rfl (aN (ac_ret (fin_eq (v := .bool false) (by show _ = (fun (r : Bool) => (.bool r : Value)) (lexDigit c); rw [lexDigit, h1] <;> rfl) (fin_ret (res_tmp rfl rfl)))))))))
def lexInWord (c : Int) : Bool := (bif lexLetter c then true else (bif lexDigit c then true else (bif c == 45 then true else c == 95)))
set_option maxRecDepth 100000 in
theorem c_lexInWord (c : Int) : Gets Tryz.prog 105 #[.int .u8 c] ((fun (r : Bool) => (.bool r : Value)) (lexInWord c)) := by
 refine gets_fin Tryz.func105 rfl rfl rfl (aQ (aL (aA 2 (.bool false) rfl rfl (aN (aQ (aL (aM 3 (.int .u8 c) rfl rfl (aC 4 (c_lexLetter c) Tryz.func101 ⟨rfl, by decide⟩ rfl rfl (aM 5 (.bool (lexLetter c)) rfl rfl ?_)))))))))
 refine bool_split (lexLetter c) (fun h1 => ?_) (fun h1 => ?_)
 ·refine aK 6 (by show ((lexLetter c) == false) = false; rw [h1]; rfl) rfl (aK 7 (by show ((lexLetter c) == false) = false; rw [h1]; rfl) rfl (ao 8 rfl rfl (st_pkt' (b := lexLetter c) (v := .bool true) h1 rfl rfl rfl (aM 9 (.bool true) rfl rfl (aK 10 rfl rfl (aK 11 rfl rfl (ao 12 rfl rfl (st_pkt (v := .bool true) rfl rfl rfl (aM 13 (.bool true) rfl rfl (aK 14 rfl rfl (aK 15 rfl rfl (ao 16 rfl rfl (st_pkt (v := .bool true) rfl rfl rfl (aA 2 (.bool true) rfl rfl (aN (ac_ret (fin_eq (v := .bool true) (by show _ = (fun (r : Bool) => (.bool r : Value)) (lexInWord c); rw [lexInWord, h1] <;> rfl) (fin_ret (res_tmp rfl rfl)))))))))))))))))))
 ·refine ar_gd (d := (some 6)) (by show ((lexLetter c) == false) = true; rw [h1]; rfl) rfl (st_move (v := .int .u8 c) rfl rfl (ar_gd (d := (some 7)) (by show ((lexLetter c) == false) = true; rw [h1]; rfl) rfl (st_cf (c_lexDigit c) Tryz.func102 rfl (by decide) rfl rfl rfl (ao 8 rfl rfl (st_pkf' (b := lexLetter c) (v := .bool (lexDigit c)) h1 rfl rfl rfl (aM 9 (.bool (lexDigit c)) rfl rfl ?_))))))
  refine bool_split (lexDigit c) (fun h2 => ?_) (fun h2 => ?_)
  ·refine aK 10 (by show ((lexDigit c) == false) = false; rw [h2]; rfl) rfl (aK 11 (by show ((lexDigit c) == false) = false; rw [h2]; rfl) rfl (ao 12 rfl rfl (st_pkt' (b := lexDigit c) (v := .bool true) h2 rfl rfl rfl (aM 13 (.bool true) rfl rfl (aK 14 rfl rfl (aK 15 rfl rfl (ao 16 rfl rfl (st_pkt (v := .bool true) rfl rfl rfl (aA 2 (.bool true) rfl rfl (aN (ac_ret (fin_eq (v := .bool true) (by show _ = (fun (r : Bool) => (.bool r : Value)) (lexInWord c); rw [lexInWord, h2, h1] <;> rfl) (fin_ret (res_tmp rfl rfl))))))))))))))
  ·refine ar_gd (d := (some 10)) (by show ((lexDigit c) == false) = true; rw [h2]; rfl) rfl (st_move (v := .int .u8 c) rfl rfl (ar_gd (d := (some 11)) (by show ((lexDigit c) == false) = true; rw [h2]; rfl) rfl (st_bi (r := .bool (c == 45)) rfl rfl rfl (bk_eql rfl) (ao 12 rfl rfl (st_pkf' (b := lexDigit c) (v := .bool (c == 45)) h2 rfl rfl rfl (aM 13 (.bool (c == 45)) rfl rfl ?_))))))
   refine bool_split (c == 45) (fun h3 => ?_) (fun h3 => ?_)
   ·refine aK 14 (by show ((c == 45) == false) = false; rw [h3]; rfl) rfl (aK 15 (by show ((c == 45) == false) = false; rw [h3]; rfl) rfl (ao 16 rfl rfl (st_pkt' (b := c == 45) (v := .bool true) h3 rfl rfl rfl (aA 2 (.bool true) rfl rfl (aN (ac_ret (fin_eq (v := .bool true) (by show _ = (fun (r : Bool) => (.bool r : Value)) (lexInWord c); rw [lexInWord, h3, h2, h1] <;> rfl) (fin_ret (res_tmp rfl rfl)))))))))
   ·refine ar_gd (d := (some 14)) (by show ((c == 45) == false) = true; rw [h3]; rfl) rfl (st_move (v := .int .u8 c) rfl rfl (ar_gd (d := (some 15)) (by show ((c == 45) == false) = true; rw [h3]; rfl) rfl (st_bi (r := .bool (c == 95)) rfl rfl rfl (bk_eql rfl) (ao 16 rfl rfl (st_pkf' (b := c == 45) (v := .bool (c == 95)) h3 rfl rfl rfl (aA 2 (.bool (c == 95)) rfl rfl (aN (ac_ret (fin_eq (v := .bool (c == 95)) (by show _ = (fun (r : Bool) => (.bool r : Value)) (lexInWord c); rw [lexInWord, h3, h2, h1] <;> rfl) (fin_ret (res_tmp rfl rfl)))))))))))
def lexInNum (c : Int) : Bool := (bif lexDigit c then true else c == 46)
set_option maxRecDepth 100000 in
theorem c_lexInNum (c : Int) : Gets Tryz.prog 106 #[.int .u8 c] ((fun (r : Bool) => (.bool r : Value)) (lexInNum c)) := by
 refine gets_fin Tryz.func106 rfl rfl rfl (aQ (aL (aA 2 (.bool false) rfl rfl (aN (aQ (aL (aM 3 (.int .u8 c) rfl rfl (aC 4 (c_lexDigit c) Tryz.func102 ⟨rfl, by decide⟩ rfl rfl (aM 5 (.bool (lexDigit c)) rfl rfl ?_)))))))))
 refine bool_split (lexDigit c) (fun h1 => ?_) (fun h1 => ?_)
 ·refine aK 6 (by show ((lexDigit c) == false) = false; rw [h1]; rfl) rfl (aK 7 (by show ((lexDigit c) == false) = false; rw [h1]; rfl) rfl (ao 8 rfl rfl (st_pkt' (b := lexDigit c) (v := .bool true) h1 rfl rfl rfl (aA 2 (.bool true) rfl rfl (aN (ac_ret (fin_eq (v := .bool true) (by show _ = (fun (r : Bool) => (.bool r : Value)) (lexInNum c); rw [lexInNum, h1] <;> rfl) (fin_ret (res_tmp rfl rfl)))))))))
 ·refine ar_gd (d := (some 6)) (by show ((lexDigit c) == false) = true; rw [h1]; rfl) rfl (st_move (v := .int .u8 c) rfl rfl (ar_gd (d := (some 7)) (by show ((lexDigit c) == false) = true; rw [h1]; rfl) rfl (st_bi (r := .bool (c == 46)) rfl rfl rfl (bk_eql rfl) (ao 8 rfl rfl (st_pkf' (b := lexDigit c) (v := .bool (c == 46)) h1 rfl rfl rfl (aA 2 (.bool (c == 46)) rfl rfl (aN (ac_ret (fin_eq (v := .bool (c == 46)) (by show _ = (fun (r : Bool) => (.bool r : Value)) (lexInNum c); rw [lexInNum, h1] <;> rfl) (fin_ret (res_tmp rfl rfl)))))))))))
def lexNoLine (c : Int) : Bool := c != 10
set_option maxRecDepth 100000 in
theorem c_lexNoLine (c : Int) : Gets Tryz.prog 104 #[.int .u8 c] ((fun (r : Bool) => (.bool r : Value)) (lexNoLine c)) := by
 refine gets_fin Tryz.func104 rfl rfl rfl (aQ (aL (aA 2 (.bool false) rfl rfl (aN (aQ (aL (aM 3 (.int .u8 c) rfl rfl (aB 4 (.bool (c != 10)) rfl rfl rfl (bk_neq rfl) (aA 2 (.bool (c != 10)) rfl rfl (aN (ac_ret (fin_eq (v := .bool (c != 10)) rfl (fin_ret (res_tmp rfl rfl))))))))))))))
def place (line : Int) (column : Int) : Cx := (⟨fl line, fl column⟩ : Cx)
set_option maxRecDepth 100000 in
theorem c_place (line : Int) (column : Int) : Gets Tryz.prog 100 #[.int .i64 line, .int .i64 column] ((fun (r : Cx) => (.complex .f64 (r).re (r).im : Value)) (place line column)) := by
 refine gets_fin Tryz.func100 rfl rfl rfl (aQ (aL (aA 4 (.complex .f64 ((⟨0, 0⟩ : Cx)).re ((⟨0, 0⟩ : Cx)).im) rfl rfl (aN (aQ (aL (aM 5 (.int .i64 line) rfl rfl (ao 6 rfl rfl (st_cvf (a := line) rfl rfl Tryz.underlying129 Tryz.underlying3 (aM 7 (.int .i64 column) rfl rfl (ao 8 rfl rfl (st_cvf (a := column) rfl rfl Tryz.underlying129 Tryz.underlying3 (ao 9 rfl rfl (st_cpx (a := (fl line)) (b := (fl column)) rfl rfl (aA 4 (.complex .f64 ((⟨fl line, fl column⟩ : Cx)).re ((⟨fl line, fl column⟩ : Cx)).im) rfl rfl (aN (ac_ret (fin_eq (v := .complex .f64 ((⟨fl line, fl column⟩ : Cx)).re ((⟨fl line, fl column⟩ : Cx)).im) rfl (fin_ret (res_tmp rfl rfl))))))))))))))))))))
end Go.Proofs.YtalffjplbhelcaaGreatDoor
namespace Go.Proofs.YtalffjplbhelcaaGreatDoor
def runTo (P : Int → Bool) (s : ByteArray) : Nat → Nat → Nat
  | 0, i => i
  | n + 1, i => bif decide (i < s.size) && P (sAt s i) then runTo P s n (i + 1) else i
theorem runTo_ge (P : Int → Bool) (s : ByteArray) : ∀ n i, i ≤ runTo P s n i
  | 0, i => Nat.le_refl _
  | n + 1, i => by
    rw [runTo]
    cases decide (i < s.size) && P (sAt s i)
    · exact Nat.le_refl _
    · exact Nat.le_trans (Nat.le_succ i) (runTo_ge P s n (i + 1))
theorem runTo_le (P : Int → Bool) (s : ByteArray) : ∀ n i, i ≤ s.size → runTo P s n i ≤ s.size
  | 0, i, h => h
  | n + 1, i, h => by
    rw [runTo]
    cases hd : decide (i < s.size)
    · exact h
    · rw [Bool.true_and]
      cases P (sAt s i)
      · exact h
      · exact runTo_le P s n (i + 1) (of_decide_eq_true hd)
end Go.Proofs.YtalffjplbhelcaaGreatDoor
namespace Go.Proofs.YtalffjplbhelcaaGreatDoor
open Go.RowKit
attribute [local irreducible] AC AR DWalk
set_option maxRecDepth 100000 in
theorem runW_go (s : ByteArray) (i : Nat) (hi : i < s.size) (hp : lexInWord (sAt s i) = true) {Q : Exit → Env → List Box → Prop} {E : Env} {c : Code} {j : Nat} (hc : Tryz.f103.body.bind loopOf = some c) (q0 : E 0 = .string s) (q2 : E 2 = .func (.func 105) #[] #[]) (q7 : E 7 = .int .i64 (i : Int)) (K : ∀ E' : Env, E' 0 = .string s → E' 2 = .func (.func 105) #[] #[] → E' 7 = .int .i64 (w64 ((i : Int) + 1)) → ARounds Tryz.prog 24 c Q j E' []) : ARounds Tryz.prog 24 c Q (j + 1) E [] := by
 rw [show Tryz.f103.body.bind loopOf = some _ from rfl] at hc
 cases hc
 obtain ⟨E0, rfl⟩ : ∃ E0 : Env, E = (((E0.put (some 0) (.string s)).put (some 2) (.func (.func 105) #[] #[])).put (some 7) (.int .i64 (i : Int))) := ⟨E, by rw [put_self q0, put_self q2, put_self q7]⟩
 refine ar_round (aQ (aQ (aL (aM 10 (.int .i64 (i : Int)) rfl rfl (aM 11 (.string s) rfl rfl (ao 12 rfl rfl (st_slen (s := s) rfl Tryz.underlying9 rfl (aB 13 (.bool (decide ((i : Int) < ((s).size : Int)))) rfl rfl rfl (bi_lss rfl) (aM 14 (.bool (decide ((i : Int) < ((s).size : Int)))) rfl rfl (ar_gd (d := (some 15)) (by show ((decide ((i : Int) < ((s).size : Int))) == true) = true; rw [(decide_eq_true (show (i : Int) < ((s).size : Int) by omega))]; rfl) rfl (st_move (v := .func (.func 105) #[] #[]) rfl rfl ?_)))))))))))
 refine ar_gd (d := (some 16)) (by show ((decide ((i : Int) < ((s).size : Int))) == true) = true; rw [(decide_eq_true (show (i : Int) < ((s).size : Int) by omega))]; rfl) rfl (st_move (v := .string s) rfl rfl (ar_gd (d := (some 17)) (by show ((decide ((i : Int) < ((s).size : Int))) == true) = true; rw [(decide_eq_true (show (i : Int) < ((s).size : Int) by omega))]; rfl) rfl (st_move (v := .int .i64 (i : Int)) rfl rfl (ar_gd (d := (some 18)) (by show ((decide ((i : Int) < ((s).size : Int))) == true) = true; rw [(decide_eq_true (show (i : Int) < ((s).size : Int) by omega))]; rfl) rfl (st_six (s := s) (i := i) rfl Tryz.underlying9 rfl rfl hi ?_)))))
 refine ar_gd (d := (some 19)) (by show ((decide ((i : Int) < ((s).size : Int))) == true) = true; rw [(decide_eq_true (show (i : Int) < ((s).size : Int) by omega))]; rfl) rfl (st_cv (c_lexInWord (sAt s i)) Tryz.func105 rfl (by decide) rfl rfl rfl (ao 20 rfl rfl (st_pkt' (b := decide ((i : Int) < ((s).size : Int))) (v := .bool (lexInWord (sAt s i))) (decide_eq_true (show (i : Int) < ((s).size : Int) by omega)) rfl rfl rfl (aN (ac_then' (b := lexInWord (sAt s i)) hp rfl (ac_skip (ac_block (aL (aM 21 (.int .i64 (i : Int)) rfl rfl (aB 22 (.int .i64 (w64 ((i : Int) + 1))) rfl rfl rfl (bi_add rfl) (aA 7 (.int .i64 (w64 ((i : Int) + 1))) rfl rfl (aN ?_))))))))))))
 exact K _ rfl rfl rfl
set_option maxRecDepth 100000 in
theorem runW_no (s : ByteArray) (i : Nat) (hi : i < s.size) (hp : lexInWord (sAt s i) = false) {Q : Exit → Env → List Box → Prop} {E : Env} {c : Code} {j : Nat} (hc : Tryz.f103.body.bind loopOf = some c) (q0 : E 0 = .string s) (q2 : E 2 = .func (.func 105) #[] #[]) (q7 : E 7 = .int .i64 (i : Int)) (K : ∀ E' : Env, E' 7 = .int .i64 (i : Int) → Q (.exit 0) E' []) : ARounds Tryz.prog 24 c Q (j + 1) E [] := by
 rw [show Tryz.f103.body.bind loopOf = some _ from rfl] at hc
 cases hc
 obtain ⟨E0, rfl⟩ : ∃ E0 : Env, E = (((E0.put (some 0) (.string s)).put (some 2) (.func (.func 105) #[] #[])).put (some 7) (.int .i64 (i : Int))) := ⟨E, by rw [put_self q0, put_self q2, put_self q7]⟩
 refine ar_round (aQ (aQ (aL (aM 10 (.int .i64 (i : Int)) rfl rfl (aM 11 (.string s) rfl rfl (ao 12 rfl rfl (st_slen (s := s) rfl Tryz.underlying9 rfl (aB 13 (.bool (decide ((i : Int) < ((s).size : Int)))) rfl rfl rfl (bi_lss rfl) (aM 14 (.bool (decide ((i : Int) < ((s).size : Int)))) rfl rfl (ar_gd (d := (some 15)) (by show ((decide ((i : Int) < ((s).size : Int))) == true) = true; rw [(decide_eq_true (show (i : Int) < ((s).size : Int) by omega))]; rfl) rfl (st_move (v := .func (.func 105) #[] #[]) rfl rfl ?_)))))))))))
 refine ar_gd (d := (some 16)) (by show ((decide ((i : Int) < ((s).size : Int))) == true) = true; rw [(decide_eq_true (show (i : Int) < ((s).size : Int) by omega))]; rfl) rfl (st_move (v := .string s) rfl rfl (ar_gd (d := (some 17)) (by show ((decide ((i : Int) < ((s).size : Int))) == true) = true; rw [(decide_eq_true (show (i : Int) < ((s).size : Int) by omega))]; rfl) rfl (st_move (v := .int .i64 (i : Int)) rfl rfl (ar_gd (d := (some 18)) (by show ((decide ((i : Int) < ((s).size : Int))) == true) = true; rw [(decide_eq_true (show (i : Int) < ((s).size : Int) by omega))]; rfl) rfl (st_six (s := s) (i := i) rfl Tryz.underlying9 rfl rfl hi ?_)))))
 refine ar_gd (d := (some 19)) (by show ((decide ((i : Int) < ((s).size : Int))) == true) = true; rw [(decide_eq_true (show (i : Int) < ((s).size : Int) by omega))]; rfl) rfl (st_cv (c_lexInWord (sAt s i)) Tryz.func105 rfl (by decide) rfl rfl rfl (ao 20 rfl rfl (st_pkt' (b := decide ((i : Int) < ((s).size : Int))) (v := .bool (lexInWord (sAt s i))) (decide_eq_true (show (i : Int) < ((s).size : Int) by omega)) rfl rfl rfl (aN (ac_else' (b := lexInWord (sAt s i)) hp rfl (ac_exit ?_))))))
 exact K _ rfl
set_option maxRecDepth 100000 in
theorem runW_end (s : ByteArray) (i : Nat) (hi : s.size ≤ i) {Q : Exit → Env → List Box → Prop} {E : Env} {c : Code} {j : Nat} (hc : Tryz.f103.body.bind loopOf = some c) (q0 : E 0 = .string s) (q2 : E 2 = .func (.func 105) #[] #[]) (q7 : E 7 = .int .i64 (i : Int)) (K : ∀ E' : Env, E' 7 = .int .i64 (i : Int) → Q (.exit 0) E' []) : ARounds Tryz.prog 24 c Q (j + 1) E [] := by
 rw [show Tryz.f103.body.bind loopOf = some _ from rfl] at hc
 cases hc
 obtain ⟨E0, rfl⟩ : ∃ E0 : Env, E = (((E0.put (some 0) (.string s)).put (some 2) (.func (.func 105) #[] #[])).put (some 7) (.int .i64 (i : Int))) := ⟨E, by rw [put_self q0, put_self q2, put_self q7]⟩
 refine ar_round (aQ (aQ (aL (aM 10 (.int .i64 (i : Int)) rfl rfl (aM 11 (.string s) rfl rfl (ao 12 rfl rfl (st_slen (s := s) rfl Tryz.underlying9 rfl (aB 13 (.bool (decide ((i : Int) < ((s).size : Int)))) rfl rfl rfl (bi_lss rfl) (aM 14 (.bool (decide ((i : Int) < ((s).size : Int)))) rfl rfl (aK 15 (by show ((decide ((i : Int) < ((s).size : Int))) == true) = false; rw [(decide_eq_false (show ¬ ((i : Int) < ((s).size : Int)) by omega))]; rfl) rfl (aK 16 (by show ((decide ((i : Int) < ((s).size : Int))) == true) = false; rw [(decide_eq_false (show ¬ ((i : Int) < ((s).size : Int)) by omega))]; rfl) rfl ?_)))))))))))
 refine aK 17 (by show ((decide ((i : Int) < ((s).size : Int))) == true) = false; rw [(decide_eq_false (show ¬ ((i : Int) < ((s).size : Int)) by omega))]; rfl) rfl (aK 18 (by show ((decide ((i : Int) < ((s).size : Int))) == true) = false; rw [(decide_eq_false (show ¬ ((i : Int) < ((s).size : Int)) by omega))]; rfl) rfl (aK 19 (by show ((decide ((i : Int) < ((s).size : Int))) == true) = false; rw [(decide_eq_false (show ¬ ((i : Int) < ((s).size : Int)) by omega))]; rfl) rfl (ao 20 rfl rfl (st_pkf' (b := decide ((i : Int) < ((s).size : Int))) (v := .bool false) (decide_eq_false (show ¬ ((i : Int) < ((s).size : Int)) by omega)) rfl rfl rfl (aN (ac_else rfl (ac_exit ?_)))))))
 exact K _ rfl
theorem runW_loop (s : ByteArray) (hs : s.size ≤ 9223372036854775807) {Q : Exit → Env → List Box → Prop} {c : Code} (hc : Tryz.f103.body.bind loopOf = some c) : ∀ (k i : Nat) (E : Env), s.size ≤ i + k → E 0 = .string s → E 2 = .func (.func 105) #[] #[] → E 7 = .int .i64 (i : Int) → (∀ E' : Env, E' 7 = .int .i64 (runTo lexInWord s k i : Nat) → Q (.exit 0) E' []) → ARounds Tryz.prog 24 c Q (k + 1) E [] := by
 intro k
 induction k with
 | zero =>
  intro i E hk q0 q2 q7 K
  exact runW_end s i (by omega) hc q0 q2 q7 K
 | succ k ih =>
  intro i E hk q0 q2 q7 K
  by_cases hi : i < s.size
  ·cases hp : lexInWord (sAt s i)
   ·refine runW_no s i hi hp hc q0 q2 q7 (fun E' h7 => K E' ?_)
    rw [h7, runTo, hp, Bool.and_false]; rfl
   ·refine runW_go s i hi hp hc q0 q2 q7 (fun E' f0 f2 f7 => ih (i + 1) E' (by omega) f0 f2 (by rw [f7, w64_in (by omega)]; rfl) (fun E'' h7 => K E'' ?_))
    rw [h7, runTo, hp, decide_eq_true hi]; rfl
  ·refine runW_end s i (by omega) hc q0 q2 q7 (fun E' h7 => K E' ?_)
   rw [h7, runTo, decide_eq_false hi]; rfl
set_option maxRecDepth 100000 in
theorem c_runW (s : ByteArray) (i : Nat) (hs : s.size ≤ 9223372036854775807) (hi : i < s.size) : Gets Tryz.prog 103 #[.string s, .int .i64 (i : Int), .func (.func 105) #[] #[]] (.int .i64 (runTo lexInWord s (s.size - (i + 1)) (i + 1) : Nat)) := by
 refine gets_fin Tryz.func103 rfl rfl rfl (aQ (aL (aA 6 (.int .i64 0) rfl rfl (aN (aQ (aL (aM 8 (.int .i64 (i : Int)) rfl rfl (aB 9 (.int .i64 (w64 ((i : Int) + 1))) rfl rfl rfl (bi_add rfl) (aA 7 (.int .i64 (w64 ((i : Int) + 1))) rfl rfl (aN (aQ (ac_block ?_))))))))))))
 refine ac_rounds (s.size - (i + 1) + 1) ?_
 refine runW_loop s hs rfl (s.size - (i + 1)) (i + 1) _ (by omega) rfl rfl (by show Value.int _ _ = _; rw [w64_in (by omega)]; rfl) ?_
 intro E' f7
 obtain ⟨E0, rfl⟩ : ∃ E0 : Env, E' = (E0.put (some 7) (.int .i64 ((runTo lexInWord s (s.size - (i + 1)) (i + 1) : Nat) : Int))) := ⟨E', by rw [put_self f7]⟩
 refine aQ (aL (aM 23 (.int .i64 ((runTo lexInWord s (s.size - (i + 1)) (i + 1) : Nat) : Int)) rfl rfl (aA 6 (.int .i64 ((runTo lexInWord s (s.size - (i + 1)) (i + 1) : Nat) : Int)) rfl rfl (aN (ac_ret (fin_eq (v := .int .i64 ((runTo lexInWord s (s.size - (i + 1)) (i + 1) : Nat) : Int)) rfl (fin_ret (res_tmp rfl rfl))))))))
end Go.Proofs.YtalffjplbhelcaaGreatDoor
namespace Go.Proofs.YtalffjplbhelcaaGreatDoor
open Go.RowKit
attribute [local irreducible] AC AR DWalk
set_option maxRecDepth 100000 in
theorem runN_go (s : ByteArray) (i : Nat) (hi : i < s.size) (hp : lexInNum (sAt s i) = true) {Q : Exit → Env → List Box → Prop} {E : Env} {c : Code} {j : Nat} (hc : Tryz.f103.body.bind loopOf = some c) (q0 : E 0 = .string s) (q2 : E 2 = .func (.func 106) #[] #[]) (q7 : E 7 = .int .i64 (i : Int)) (K : ∀ E' : Env, E' 0 = .string s → E' 2 = .func (.func 106) #[] #[] → E' 7 = .int .i64 (w64 ((i : Int) + 1)) → ARounds Tryz.prog 24 c Q j E' []) : ARounds Tryz.prog 24 c Q (j + 1) E [] := by
 rw [show Tryz.f103.body.bind loopOf = some _ from rfl] at hc
 cases hc
 obtain ⟨E0, rfl⟩ : ∃ E0 : Env, E = (((E0.put (some 0) (.string s)).put (some 2) (.func (.func 106) #[] #[])).put (some 7) (.int .i64 (i : Int))) := ⟨E, by rw [put_self q0, put_self q2, put_self q7]⟩
 refine ar_round (aQ (aQ (aL (aM 10 (.int .i64 (i : Int)) rfl rfl (aM 11 (.string s) rfl rfl (ao 12 rfl rfl (st_slen (s := s) rfl Tryz.underlying9 rfl (aB 13 (.bool (decide ((i : Int) < ((s).size : Int)))) rfl rfl rfl (bi_lss rfl) (aM 14 (.bool (decide ((i : Int) < ((s).size : Int)))) rfl rfl (ar_gd (d := (some 15)) (by show ((decide ((i : Int) < ((s).size : Int))) == true) = true; rw [(decide_eq_true (show (i : Int) < ((s).size : Int) by omega))]; rfl) rfl (st_move (v := .func (.func 106) #[] #[]) rfl rfl ?_)))))))))))
 refine ar_gd (d := (some 16)) (by show ((decide ((i : Int) < ((s).size : Int))) == true) = true; rw [(decide_eq_true (show (i : Int) < ((s).size : Int) by omega))]; rfl) rfl (st_move (v := .string s) rfl rfl (ar_gd (d := (some 17)) (by show ((decide ((i : Int) < ((s).size : Int))) == true) = true; rw [(decide_eq_true (show (i : Int) < ((s).size : Int) by omega))]; rfl) rfl (st_move (v := .int .i64 (i : Int)) rfl rfl (ar_gd (d := (some 18)) (by show ((decide ((i : Int) < ((s).size : Int))) == true) = true; rw [(decide_eq_true (show (i : Int) < ((s).size : Int) by omega))]; rfl) rfl (st_six (s := s) (i := i) rfl Tryz.underlying9 rfl rfl hi ?_)))))
 refine ar_gd (d := (some 19)) (by show ((decide ((i : Int) < ((s).size : Int))) == true) = true; rw [(decide_eq_true (show (i : Int) < ((s).size : Int) by omega))]; rfl) rfl (st_cv (c_lexInNum (sAt s i)) Tryz.func106 rfl (by decide) rfl rfl rfl (ao 20 rfl rfl (st_pkt' (b := decide ((i : Int) < ((s).size : Int))) (v := .bool (lexInNum (sAt s i))) (decide_eq_true (show (i : Int) < ((s).size : Int) by omega)) rfl rfl rfl (aN (ac_then' (b := lexInNum (sAt s i)) hp rfl (ac_skip (ac_block (aL (aM 21 (.int .i64 (i : Int)) rfl rfl (aB 22 (.int .i64 (w64 ((i : Int) + 1))) rfl rfl rfl (bi_add rfl) (aA 7 (.int .i64 (w64 ((i : Int) + 1))) rfl rfl (aN ?_))))))))))))
 exact K _ rfl rfl rfl
set_option maxRecDepth 100000 in
theorem runN_no (s : ByteArray) (i : Nat) (hi : i < s.size) (hp : lexInNum (sAt s i) = false) {Q : Exit → Env → List Box → Prop} {E : Env} {c : Code} {j : Nat} (hc : Tryz.f103.body.bind loopOf = some c) (q0 : E 0 = .string s) (q2 : E 2 = .func (.func 106) #[] #[]) (q7 : E 7 = .int .i64 (i : Int)) (K : ∀ E' : Env, E' 7 = .int .i64 (i : Int) → Q (.exit 0) E' []) : ARounds Tryz.prog 24 c Q (j + 1) E [] := by
 rw [show Tryz.f103.body.bind loopOf = some _ from rfl] at hc
 cases hc
 obtain ⟨E0, rfl⟩ : ∃ E0 : Env, E = (((E0.put (some 0) (.string s)).put (some 2) (.func (.func 106) #[] #[])).put (some 7) (.int .i64 (i : Int))) := ⟨E, by rw [put_self q0, put_self q2, put_self q7]⟩
 refine ar_round (aQ (aQ (aL (aM 10 (.int .i64 (i : Int)) rfl rfl (aM 11 (.string s) rfl rfl (ao 12 rfl rfl (st_slen (s := s) rfl Tryz.underlying9 rfl (aB 13 (.bool (decide ((i : Int) < ((s).size : Int)))) rfl rfl rfl (bi_lss rfl) (aM 14 (.bool (decide ((i : Int) < ((s).size : Int)))) rfl rfl (ar_gd (d := (some 15)) (by show ((decide ((i : Int) < ((s).size : Int))) == true) = true; rw [(decide_eq_true (show (i : Int) < ((s).size : Int) by omega))]; rfl) rfl (st_move (v := .func (.func 106) #[] #[]) rfl rfl ?_)))))))))))
 refine ar_gd (d := (some 16)) (by show ((decide ((i : Int) < ((s).size : Int))) == true) = true; rw [(decide_eq_true (show (i : Int) < ((s).size : Int) by omega))]; rfl) rfl (st_move (v := .string s) rfl rfl (ar_gd (d := (some 17)) (by show ((decide ((i : Int) < ((s).size : Int))) == true) = true; rw [(decide_eq_true (show (i : Int) < ((s).size : Int) by omega))]; rfl) rfl (st_move (v := .int .i64 (i : Int)) rfl rfl (ar_gd (d := (some 18)) (by show ((decide ((i : Int) < ((s).size : Int))) == true) = true; rw [(decide_eq_true (show (i : Int) < ((s).size : Int) by omega))]; rfl) rfl (st_six (s := s) (i := i) rfl Tryz.underlying9 rfl rfl hi ?_)))))
 refine ar_gd (d := (some 19)) (by show ((decide ((i : Int) < ((s).size : Int))) == true) = true; rw [(decide_eq_true (show (i : Int) < ((s).size : Int) by omega))]; rfl) rfl (st_cv (c_lexInNum (sAt s i)) Tryz.func106 rfl (by decide) rfl rfl rfl (ao 20 rfl rfl (st_pkt' (b := decide ((i : Int) < ((s).size : Int))) (v := .bool (lexInNum (sAt s i))) (decide_eq_true (show (i : Int) < ((s).size : Int) by omega)) rfl rfl rfl (aN (ac_else' (b := lexInNum (sAt s i)) hp rfl (ac_exit ?_))))))
 exact K _ rfl
set_option maxRecDepth 100000 in
theorem runN_end (s : ByteArray) (i : Nat) (hi : s.size ≤ i) {Q : Exit → Env → List Box → Prop} {E : Env} {c : Code} {j : Nat} (hc : Tryz.f103.body.bind loopOf = some c) (q0 : E 0 = .string s) (q2 : E 2 = .func (.func 106) #[] #[]) (q7 : E 7 = .int .i64 (i : Int)) (K : ∀ E' : Env, E' 7 = .int .i64 (i : Int) → Q (.exit 0) E' []) : ARounds Tryz.prog 24 c Q (j + 1) E [] := by
 rw [show Tryz.f103.body.bind loopOf = some _ from rfl] at hc
 cases hc
 obtain ⟨E0, rfl⟩ : ∃ E0 : Env, E = (((E0.put (some 0) (.string s)).put (some 2) (.func (.func 106) #[] #[])).put (some 7) (.int .i64 (i : Int))) := ⟨E, by rw [put_self q0, put_self q2, put_self q7]⟩
 refine ar_round (aQ (aQ (aL (aM 10 (.int .i64 (i : Int)) rfl rfl (aM 11 (.string s) rfl rfl (ao 12 rfl rfl (st_slen (s := s) rfl Tryz.underlying9 rfl (aB 13 (.bool (decide ((i : Int) < ((s).size : Int)))) rfl rfl rfl (bi_lss rfl) (aM 14 (.bool (decide ((i : Int) < ((s).size : Int)))) rfl rfl (aK 15 (by show ((decide ((i : Int) < ((s).size : Int))) == true) = false; rw [(decide_eq_false (show ¬ ((i : Int) < ((s).size : Int)) by omega))]; rfl) rfl (aK 16 (by show ((decide ((i : Int) < ((s).size : Int))) == true) = false; rw [(decide_eq_false (show ¬ ((i : Int) < ((s).size : Int)) by omega))]; rfl) rfl ?_)))))))))))
 refine aK 17 (by show ((decide ((i : Int) < ((s).size : Int))) == true) = false; rw [(decide_eq_false (show ¬ ((i : Int) < ((s).size : Int)) by omega))]; rfl) rfl (aK 18 (by show ((decide ((i : Int) < ((s).size : Int))) == true) = false; rw [(decide_eq_false (show ¬ ((i : Int) < ((s).size : Int)) by omega))]; rfl) rfl (aK 19 (by show ((decide ((i : Int) < ((s).size : Int))) == true) = false; rw [(decide_eq_false (show ¬ ((i : Int) < ((s).size : Int)) by omega))]; rfl) rfl (ao 20 rfl rfl (st_pkf' (b := decide ((i : Int) < ((s).size : Int))) (v := .bool false) (decide_eq_false (show ¬ ((i : Int) < ((s).size : Int)) by omega)) rfl rfl rfl (aN (ac_else rfl (ac_exit ?_)))))))
 exact K _ rfl
theorem runN_loop (s : ByteArray) (hs : s.size ≤ 9223372036854775807) {Q : Exit → Env → List Box → Prop} {c : Code} (hc : Tryz.f103.body.bind loopOf = some c) : ∀ (k i : Nat) (E : Env), s.size ≤ i + k → E 0 = .string s → E 2 = .func (.func 106) #[] #[] → E 7 = .int .i64 (i : Int) → (∀ E' : Env, E' 7 = .int .i64 (runTo lexInNum s k i : Nat) → Q (.exit 0) E' []) → ARounds Tryz.prog 24 c Q (k + 1) E [] := by
 intro k
 induction k with
 | zero =>
  intro i E hk q0 q2 q7 K
  exact runN_end s i (by omega) hc q0 q2 q7 K
 | succ k ih =>
  intro i E hk q0 q2 q7 K
  by_cases hi : i < s.size
  ·cases hp : lexInNum (sAt s i)
   ·refine runN_no s i hi hp hc q0 q2 q7 (fun E' h7 => K E' ?_)
    rw [h7, runTo, hp, Bool.and_false]; rfl
   ·refine runN_go s i hi hp hc q0 q2 q7 (fun E' f0 f2 f7 => ih (i + 1) E' (by omega) f0 f2 (by rw [f7, w64_in (by omega)]; rfl) (fun E'' h7 => K E'' ?_))
    rw [h7, runTo, hp, decide_eq_true hi]; rfl
  ·refine runN_end s i (by omega) hc q0 q2 q7 (fun E' h7 => K E' ?_)
   rw [h7, runTo, decide_eq_false hi]; rfl
set_option maxRecDepth 100000 in
theorem c_runN (s : ByteArray) (i : Nat) (hs : s.size ≤ 9223372036854775807) (hi : i < s.size) : Gets Tryz.prog 103 #[.string s, .int .i64 (i : Int), .func (.func 106) #[] #[]] (.int .i64 (runTo lexInNum s (s.size - (i + 1)) (i + 1) : Nat)) := by
 refine gets_fin Tryz.func103 rfl rfl rfl (aQ (aL (aA 6 (.int .i64 0) rfl rfl (aN (aQ (aL (aM 8 (.int .i64 (i : Int)) rfl rfl (aB 9 (.int .i64 (w64 ((i : Int) + 1))) rfl rfl rfl (bi_add rfl) (aA 7 (.int .i64 (w64 ((i : Int) + 1))) rfl rfl (aN (aQ (ac_block ?_))))))))))))
 refine ac_rounds (s.size - (i + 1) + 1) ?_
 refine runN_loop s hs rfl (s.size - (i + 1)) (i + 1) _ (by omega) rfl rfl (by show Value.int _ _ = _; rw [w64_in (by omega)]; rfl) ?_
 intro E' f7
 obtain ⟨E0, rfl⟩ : ∃ E0 : Env, E' = (E0.put (some 7) (.int .i64 ((runTo lexInNum s (s.size - (i + 1)) (i + 1) : Nat) : Int))) := ⟨E', by rw [put_self f7]⟩
 refine aQ (aL (aM 23 (.int .i64 ((runTo lexInNum s (s.size - (i + 1)) (i + 1) : Nat) : Int)) rfl rfl (aA 6 (.int .i64 ((runTo lexInNum s (s.size - (i + 1)) (i + 1) : Nat) : Int)) rfl rfl (aN (ac_ret (fin_eq (v := .int .i64 ((runTo lexInNum s (s.size - (i + 1)) (i + 1) : Nat) : Int)) rfl (fin_ret (res_tmp rfl rfl))))))))
end Go.Proofs.YtalffjplbhelcaaGreatDoor
namespace Go.Proofs.YtalffjplbhelcaaGreatDoor
open Go.RowKit
attribute [local irreducible] AC AR DWalk
set_option maxRecDepth 100000 in
theorem runL_go (s : ByteArray) (i : Nat) (hi : i < s.size) (hp : lexNoLine (sAt s i) = true) {Q : Exit → Env → List Box → Prop} {E : Env} {c : Code} {j : Nat} (hc : Tryz.f103.body.bind loopOf = some c) (q0 : E 0 = .string s) (q2 : E 2 = .func (.func 104) #[] #[]) (q7 : E 7 = .int .i64 (i : Int)) (K : ∀ E' : Env, E' 0 = .string s → E' 2 = .func (.func 104) #[] #[] → E' 7 = .int .i64 (w64 ((i : Int) + 1)) → ARounds Tryz.prog 24 c Q j E' []) : ARounds Tryz.prog 24 c Q (j + 1) E [] := by
 rw [show Tryz.f103.body.bind loopOf = some _ from rfl] at hc
 cases hc
 obtain ⟨E0, rfl⟩ : ∃ E0 : Env, E = (((E0.put (some 0) (.string s)).put (some 2) (.func (.func 104) #[] #[])).put (some 7) (.int .i64 (i : Int))) := ⟨E, by rw [put_self q0, put_self q2, put_self q7]⟩
 refine ar_round (aQ (aQ (aL (aM 10 (.int .i64 (i : Int)) rfl rfl (aM 11 (.string s) rfl rfl (ao 12 rfl rfl (st_slen (s := s) rfl Tryz.underlying9 rfl (aB 13 (.bool (decide ((i : Int) < ((s).size : Int)))) rfl rfl rfl (bi_lss rfl) (aM 14 (.bool (decide ((i : Int) < ((s).size : Int)))) rfl rfl (ar_gd (d := (some 15)) (by show ((decide ((i : Int) < ((s).size : Int))) == true) = true; rw [(decide_eq_true (show (i : Int) < ((s).size : Int) by omega))]; rfl) rfl (st_move (v := .func (.func 104) #[] #[]) rfl rfl ?_)))))))))))
 refine ar_gd (d := (some 16)) (by show ((decide ((i : Int) < ((s).size : Int))) == true) = true; rw [(decide_eq_true (show (i : Int) < ((s).size : Int) by omega))]; rfl) rfl (st_move (v := .string s) rfl rfl (ar_gd (d := (some 17)) (by show ((decide ((i : Int) < ((s).size : Int))) == true) = true; rw [(decide_eq_true (show (i : Int) < ((s).size : Int) by omega))]; rfl) rfl (st_move (v := .int .i64 (i : Int)) rfl rfl (ar_gd (d := (some 18)) (by show ((decide ((i : Int) < ((s).size : Int))) == true) = true; rw [(decide_eq_true (show (i : Int) < ((s).size : Int) by omega))]; rfl) rfl (st_six (s := s) (i := i) rfl Tryz.underlying9 rfl rfl hi ?_)))))
 refine ar_gd (d := (some 19)) (by show ((decide ((i : Int) < ((s).size : Int))) == true) = true; rw [(decide_eq_true (show (i : Int) < ((s).size : Int) by omega))]; rfl) rfl (st_cv (c_lexNoLine (sAt s i)) Tryz.func104 rfl (by decide) rfl rfl rfl (ao 20 rfl rfl (st_pkt' (b := decide ((i : Int) < ((s).size : Int))) (v := .bool (lexNoLine (sAt s i))) (decide_eq_true (show (i : Int) < ((s).size : Int) by omega)) rfl rfl rfl (aN (ac_then' (b := lexNoLine (sAt s i)) hp rfl (ac_skip (ac_block (aL (aM 21 (.int .i64 (i : Int)) rfl rfl (aB 22 (.int .i64 (w64 ((i : Int) + 1))) rfl rfl rfl (bi_add rfl) (aA 7 (.int .i64 (w64 ((i : Int) + 1))) rfl rfl (aN ?_))))))))))))
 exact K _ rfl rfl rfl
set_option maxRecDepth 100000 in
theorem runL_no (s : ByteArray) (i : Nat) (hi : i < s.size) (hp : lexNoLine (sAt s i) = false) {Q : Exit → Env → List Box → Prop} {E : Env} {c : Code} {j : Nat} (hc : Tryz.f103.body.bind loopOf = some c) (q0 : E 0 = .string s) (q2 : E 2 = .func (.func 104) #[] #[]) (q7 : E 7 = .int .i64 (i : Int)) (K : ∀ E' : Env, E' 7 = .int .i64 (i : Int) → Q (.exit 0) E' []) : ARounds Tryz.prog 24 c Q (j + 1) E [] := by
 rw [show Tryz.f103.body.bind loopOf = some _ from rfl] at hc
 cases hc
 obtain ⟨E0, rfl⟩ : ∃ E0 : Env, E = (((E0.put (some 0) (.string s)).put (some 2) (.func (.func 104) #[] #[])).put (some 7) (.int .i64 (i : Int))) := ⟨E, by rw [put_self q0, put_self q2, put_self q7]⟩
 refine ar_round (aQ (aQ (aL (aM 10 (.int .i64 (i : Int)) rfl rfl (aM 11 (.string s) rfl rfl (ao 12 rfl rfl (st_slen (s := s) rfl Tryz.underlying9 rfl (aB 13 (.bool (decide ((i : Int) < ((s).size : Int)))) rfl rfl rfl (bi_lss rfl) (aM 14 (.bool (decide ((i : Int) < ((s).size : Int)))) rfl rfl (ar_gd (d := (some 15)) (by show ((decide ((i : Int) < ((s).size : Int))) == true) = true; rw [(decide_eq_true (show (i : Int) < ((s).size : Int) by omega))]; rfl) rfl (st_move (v := .func (.func 104) #[] #[]) rfl rfl ?_)))))))))))
 refine ar_gd (d := (some 16)) (by show ((decide ((i : Int) < ((s).size : Int))) == true) = true; rw [(decide_eq_true (show (i : Int) < ((s).size : Int) by omega))]; rfl) rfl (st_move (v := .string s) rfl rfl (ar_gd (d := (some 17)) (by show ((decide ((i : Int) < ((s).size : Int))) == true) = true; rw [(decide_eq_true (show (i : Int) < ((s).size : Int) by omega))]; rfl) rfl (st_move (v := .int .i64 (i : Int)) rfl rfl (ar_gd (d := (some 18)) (by show ((decide ((i : Int) < ((s).size : Int))) == true) = true; rw [(decide_eq_true (show (i : Int) < ((s).size : Int) by omega))]; rfl) rfl (st_six (s := s) (i := i) rfl Tryz.underlying9 rfl rfl hi ?_)))))
 refine ar_gd (d := (some 19)) (by show ((decide ((i : Int) < ((s).size : Int))) == true) = true; rw [(decide_eq_true (show (i : Int) < ((s).size : Int) by omega))]; rfl) rfl (st_cv (c_lexNoLine (sAt s i)) Tryz.func104 rfl (by decide) rfl rfl rfl (ao 20 rfl rfl (st_pkt' (b := decide ((i : Int) < ((s).size : Int))) (v := .bool (lexNoLine (sAt s i))) (decide_eq_true (show (i : Int) < ((s).size : Int) by omega)) rfl rfl rfl (aN (ac_else' (b := lexNoLine (sAt s i)) hp rfl (ac_exit ?_))))))
 exact K _ rfl
set_option maxRecDepth 100000 in
theorem runL_end (s : ByteArray) (i : Nat) (hi : s.size ≤ i) {Q : Exit → Env → List Box → Prop} {E : Env} {c : Code} {j : Nat} (hc : Tryz.f103.body.bind loopOf = some c) (q0 : E 0 = .string s) (q2 : E 2 = .func (.func 104) #[] #[]) (q7 : E 7 = .int .i64 (i : Int)) (K : ∀ E' : Env, E' 7 = .int .i64 (i : Int) → Q (.exit 0) E' []) : ARounds Tryz.prog 24 c Q (j + 1) E [] := by
 rw [show Tryz.f103.body.bind loopOf = some _ from rfl] at hc
 cases hc
 obtain ⟨E0, rfl⟩ : ∃ E0 : Env, E = (((E0.put (some 0) (.string s)).put (some 2) (.func (.func 104) #[] #[])).put (some 7) (.int .i64 (i : Int))) := ⟨E, by rw [put_self q0, put_self q2, put_self q7]⟩
 refine ar_round (aQ (aQ (aL (aM 10 (.int .i64 (i : Int)) rfl rfl (aM 11 (.string s) rfl rfl (ao 12 rfl rfl (st_slen (s := s) rfl Tryz.underlying9 rfl (aB 13 (.bool (decide ((i : Int) < ((s).size : Int)))) rfl rfl rfl (bi_lss rfl) (aM 14 (.bool (decide ((i : Int) < ((s).size : Int)))) rfl rfl (aK 15 (by show ((decide ((i : Int) < ((s).size : Int))) == true) = false; rw [(decide_eq_false (show ¬ ((i : Int) < ((s).size : Int)) by omega))]; rfl) rfl (aK 16 (by show ((decide ((i : Int) < ((s).size : Int))) == true) = false; rw [(decide_eq_false (show ¬ ((i : Int) < ((s).size : Int)) by omega))]; rfl) rfl ?_)))))))))))
 refine aK 17 (by show ((decide ((i : Int) < ((s).size : Int))) == true) = false; rw [(decide_eq_false (show ¬ ((i : Int) < ((s).size : Int)) by omega))]; rfl) rfl (aK 18 (by show ((decide ((i : Int) < ((s).size : Int))) == true) = false; rw [(decide_eq_false (show ¬ ((i : Int) < ((s).size : Int)) by omega))]; rfl) rfl (aK 19 (by show ((decide ((i : Int) < ((s).size : Int))) == true) = false; rw [(decide_eq_false (show ¬ ((i : Int) < ((s).size : Int)) by omega))]; rfl) rfl (ao 20 rfl rfl (st_pkf' (b := decide ((i : Int) < ((s).size : Int))) (v := .bool false) (decide_eq_false (show ¬ ((i : Int) < ((s).size : Int)) by omega)) rfl rfl rfl (aN (ac_else rfl (ac_exit ?_)))))))
 exact K _ rfl
theorem runL_loop (s : ByteArray) (hs : s.size ≤ 9223372036854775807) {Q : Exit → Env → List Box → Prop} {c : Code} (hc : Tryz.f103.body.bind loopOf = some c) : ∀ (k i : Nat) (E : Env), s.size ≤ i + k → E 0 = .string s → E 2 = .func (.func 104) #[] #[] → E 7 = .int .i64 (i : Int) → (∀ E' : Env, E' 7 = .int .i64 (runTo lexNoLine s k i : Nat) → Q (.exit 0) E' []) → ARounds Tryz.prog 24 c Q (k + 1) E [] := by
 intro k
 induction k with
 | zero =>
  intro i E hk q0 q2 q7 K
  exact runL_end s i (by omega) hc q0 q2 q7 K
 | succ k ih =>
  intro i E hk q0 q2 q7 K
  by_cases hi : i < s.size
  ·cases hp : lexNoLine (sAt s i)
   ·refine runL_no s i hi hp hc q0 q2 q7 (fun E' h7 => K E' ?_)
    rw [h7, runTo, hp, Bool.and_false]; rfl
   ·refine runL_go s i hi hp hc q0 q2 q7 (fun E' f0 f2 f7 => ih (i + 1) E' (by omega) f0 f2 (by rw [f7, w64_in (by omega)]; rfl) (fun E'' h7 => K E'' ?_))
    rw [h7, runTo, hp, decide_eq_true hi]; rfl
  ·refine runL_end s i (by omega) hc q0 q2 q7 (fun E' h7 => K E' ?_)
   rw [h7, runTo, decide_eq_false hi]; rfl
set_option maxRecDepth 100000 in
theorem c_runL (s : ByteArray) (i : Nat) (hs : s.size ≤ 9223372036854775807) (hi : i < s.size) : Gets Tryz.prog 103 #[.string s, .int .i64 (i : Int), .func (.func 104) #[] #[]] (.int .i64 (runTo lexNoLine s (s.size - (i + 1)) (i + 1) : Nat)) := by
 refine gets_fin Tryz.func103 rfl rfl rfl (aQ (aL (aA 6 (.int .i64 0) rfl rfl (aN (aQ (aL (aM 8 (.int .i64 (i : Int)) rfl rfl (aB 9 (.int .i64 (w64 ((i : Int) + 1))) rfl rfl rfl (bi_add rfl) (aA 7 (.int .i64 (w64 ((i : Int) + 1))) rfl rfl (aN (aQ (ac_block ?_))))))))))))
 refine ac_rounds (s.size - (i + 1) + 1) ?_
 refine runL_loop s hs rfl (s.size - (i + 1)) (i + 1) _ (by omega) rfl rfl (by show Value.int _ _ = _; rw [w64_in (by omega)]; rfl) ?_
 intro E' f7
 obtain ⟨E0, rfl⟩ : ∃ E0 : Env, E' = (E0.put (some 7) (.int .i64 ((runTo lexNoLine s (s.size - (i + 1)) (i + 1) : Nat) : Int))) := ⟨E', by rw [put_self f7]⟩
 refine aQ (aL (aM 23 (.int .i64 ((runTo lexNoLine s (s.size - (i + 1)) (i + 1) : Nat) : Int)) rfl rfl (aA 6 (.int .i64 ((runTo lexNoLine s (s.size - (i + 1)) (i + 1) : Nat) : Int)) rfl rfl (aN (ac_ret (fin_eq (v := .int .i64 ((runTo lexNoLine s (s.size - (i + 1)) (i + 1) : Nat) : Int)) rfl (fin_ret (res_tmp rfl rfl))))))))
end Go.Proofs.YtalffjplbhelcaaGreatDoor
namespace Go.Proofs.YtalffjplbhelcaaGreatDoor
structure Tok where
  kind : Int
  text : ByteArray
  at_ : Cx
deriving DecidableEq
def Tok.cells (x : Tok) : List Value := [.int .i64 x.kind, .string x.text, .complex .f64 x.at_.re x.at_.im]
def flatT (l : List Tok) : List Value := l.flatMap Tok.cells
theorem flatT_append (a b : List Tok) : flatT (a ++ b) = flatT a ++ flatT b := List.flatMap_append ..
abbrev LRes := List Tok × Cx × Int
abbrev LNext := Nat → Int → Int → Bool → List Tok → LRes
def lexHere (i : Nat) (line start : Int) : Cx := place line (w64 ((w64 ((i : Int) - start)) + 1))
def lexFeed (next : LNext) (s : ByteArray) (i : Nat) (line : Int) (any_ : Bool) (out : List Tok) (here : Cx) : LRes :=
  bif any_ then (bif (i : Int) == ((s).size : Int) then (out ++ [⟨3, ⟨#[]⟩, here⟩], ⟨0, 0⟩, 0) else next (i + 1) (w64 (line + 1)) ((i + 1 : Nat) : Int) false (out ++ [⟨3, ⟨#[]⟩, here⟩]))
  else (bif (i : Int) == ((s).size : Int) then (out, ⟨0, 0⟩, 0) else next (i + 1) (w64 (line + 1)) ((i + 1 : Nat) : Int) false out)
def lexWord (next : LNext) (s : ByteArray) (i : Nat) (line start : Int) (out : List Tok) (here : Cx) : LRes :=
  bif decide ((w64 (((runTo lexInWord s (s.size - (i + 1)) (i + 1) : Nat) : Int) - (i : Int))) > 20) then ([], here, 3)
  else next (runTo lexInWord s (s.size - (i + 1)) (i + 1)) line start true (out ++ [⟨1, subS s (i : Int) ((runTo lexInWord s (s.size - (i + 1)) (i + 1) : Nat) : Int), here⟩])
def lexNum (next : LNext) (s : ByteArray) (i : Nat) (line start : Int) (out : List Tok) (here : Cx) : LRes :=
  bif (decRead (subS s (i : Int) ((runTo lexInNum s (s.size - (i + 1)) (i + 1) : Nat) : Int))).2
  then next (runTo lexInNum s (s.size - (i + 1)) (i + 1)) line start true (out ++ [⟨2, subS s (i : Int) ((runTo lexInNum s (s.size - (i + 1)) (i + 1) : Nat) : Int), here⟩])
  else ([], here, 2)
def lexStep (next : LNext) (s : ByteArray) (i : Nat) (line start : Int) (any_ : Bool) (out : List Tok) : LRes :=
  bif (i : Int) == ((s).size : Int) then lexFeed next s i line any_ out (lexHere i line start)
  else bif (sAt s i) == 10 then lexFeed next s i line any_ out (lexHere i line start)
  else bif (sAt s i) == 32 then next (i + 1) line start any_ out
  else bif (sAt s i) == 9 then next (i + 1) line start any_ out
  else bif (sAt s i) == 35 then next (runTo lexNoLine s (s.size - (i + 1)) (i + 1)) line start any_ out
  else bif lexLetter (sAt s i) then lexWord next s i line start out (lexHere i line start)
  else bif lexDigit (sAt s i) then lexNum next s i line start out (lexHere i line start)
  else bif (sAt s i) == 45 then lexNum next s i line start out (lexHere i line start)
  else ([], lexHere i line start, 2)
def lexRun (s : ByteArray) : Nat → LNext
  | 0 => fun _ _ _ _ _ => ([], ⟨0, 0⟩, 0)
  | n + 1 => lexStep (lexRun s n) s
def lexAll (s : ByteArray) : LRes := bif decide (((s).size : Int) > 4000) then ([], ⟨0, 0⟩, 3) else lexRun s (s.size + 1) 0 1 0 false []
def LexSt (s : ByteArray) (out : List Tok) (i m ca : Nat) (aa : Option Addr) (xs : List Value) (NA : List Box) : Prop :=
  m = out.length ∧ xs = flatT out ∧ m ≤ i ∧ i ≤ s.size ∧ Row 108 3 m xs (.slice aa m ca) NA
def LexJ (s : ByteArray) (R : LRes) (l k : Nat) (E : Env) (H : List Box) : Prop :=
  ∃ (i m ca n : Nat) (line start : Int) (any_ : Bool) (here : Cx) (out : List Tok) (aa : Option Addr) (NA : List Box) (xs : List Value), LexSt s out i m ca aa xs NA ∧ List.Sublist NA H ∧
    E 0 = .string s ∧ E 5 = .slice aa m ca ∧ E 6 = .int .i64 (i : Int) ∧ E 8 = .int .i64 line ∧ E 9 = .int .i64 start ∧ E 10 = .bool any_ ∧
    ((l = 0 ∧ k = 2 * (s.size - i) + 1 ∧ s.size - i < n ∧ lexRun s n i line start any_ out = R) ∨
     (E 12 = .complex .f64 here.re here.im ∧ k = 2 * (s.size - i) ∧ s.size - i ≤ n ∧
      ((l = 1 ∧ lexFeed (lexRun s n) s i line any_ out here = R) ∨
       (i < s.size ∧ ((l = 2 ∧ lexRun s n (runTo lexNoLine s (s.size - (i + 1)) (i + 1)) line start any_ out = R) ∨ (l = 3 ∧ lexWord (lexRun s n) s i line start out here = R) ∨ (l = 4 ∧ lexNum (lexRun s n) s i line start out here = R))))))
theorem lexj0 {s : ByteArray} {R : LRes} {i m ca n K : Nat} {line start : Int} {any_ : Bool} {out : List Tok} {aa : Option Addr} {NA H : List Box} {xs : List Value} {E : Env} (hSt : LexSt s out i m ca aa xs NA) (hsub : List.Sublist NA H)
    (q0 : E 0 = .string s) (q5 : E 5 = .slice aa m ca) (q6 : E 6 = .int .i64 (i : Int)) (q8 : E 8 = .int .i64 line) (q9 : E 9 = .int .i64 start) (q10 : E 10 = .bool any_) (hk : 2 * (s.size - i) + 1 < K) (hn : s.size - i < n) (hR : lexRun s n i line start any_ out = R) : ∃ k', k' < K ∧ LexJ s R 0 k' E H :=
  ⟨_, hk, i, m, ca, n, line, start, any_, ⟨0, 0⟩, out, aa, NA, xs, hSt, hsub, q0, q5, q6, q8, q9, q10, .inl ⟨rfl, rfl, hn, hR⟩⟩
theorem lexj1 {s : ByteArray} {R : LRes} {i m ca n K : Nat} {line start : Int} {any_ : Bool} {here : Cx} {out : List Tok} {aa : Option Addr} {NA H : List Box} {xs : List Value} {E : Env} (hSt : LexSt s out i m ca aa xs NA) (hsub : List.Sublist NA H)
    (q0 : E 0 = .string s) (q5 : E 5 = .slice aa m ca) (q6 : E 6 = .int .i64 (i : Int)) (q8 : E 8 = .int .i64 line) (q9 : E 9 = .int .i64 start) (q10 : E 10 = .bool any_) (q12 : E 12 = .complex .f64 here.re here.im) (hk : 2 * (s.size - i) < K) (hn : s.size - i ≤ n) (hR : lexFeed (lexRun s n) s i line any_ out here = R) : ∃ k', k' < K ∧ LexJ s R 1 k' E H :=
  ⟨_, hk, i, m, ca, n, line, start, any_, here, out, aa, NA, xs, hSt, hsub, q0, q5, q6, q8, q9, q10, .inr ⟨q12, rfl, hn, .inl ⟨rfl, hR⟩⟩⟩
theorem lexj2 {s : ByteArray} {R : LRes} {i m ca n K : Nat} {line start : Int} {any_ : Bool} {here : Cx} {out : List Tok} {aa : Option Addr} {NA H : List Box} {xs : List Value} {E : Env} (hSt : LexSt s out i m ca aa xs NA) (hsub : List.Sublist NA H)
    (q0 : E 0 = .string s) (q5 : E 5 = .slice aa m ca) (q6 : E 6 = .int .i64 (i : Int)) (q8 : E 8 = .int .i64 line) (q9 : E 9 = .int .i64 start) (q10 : E 10 = .bool any_) (q12 : E 12 = .complex .f64 here.re here.im) (hk : 2 * (s.size - i) < K) (hn : s.size - i ≤ n) (hi : i < s.size) (hR : lexRun s n (runTo lexNoLine s (s.size - (i + 1)) (i + 1)) line start any_ out = R) : ∃ k', k' < K ∧ LexJ s R 2 k' E H :=
  ⟨_, hk, i, m, ca, n, line, start, any_, here, out, aa, NA, xs, hSt, hsub, q0, q5, q6, q8, q9, q10, .inr ⟨q12, rfl, hn, .inr ⟨hi, .inl ⟨rfl, hR⟩⟩⟩⟩
theorem lexj3 {s : ByteArray} {R : LRes} {i m ca n K : Nat} {line start : Int} {any_ : Bool} {here : Cx} {out : List Tok} {aa : Option Addr} {NA H : List Box} {xs : List Value} {E : Env} (hSt : LexSt s out i m ca aa xs NA) (hsub : List.Sublist NA H)
    (q0 : E 0 = .string s) (q5 : E 5 = .slice aa m ca) (q6 : E 6 = .int .i64 (i : Int)) (q8 : E 8 = .int .i64 line) (q9 : E 9 = .int .i64 start) (q10 : E 10 = .bool any_) (q12 : E 12 = .complex .f64 here.re here.im) (hk : 2 * (s.size - i) < K) (hn : s.size - i ≤ n) (hi : i < s.size) (hR : lexWord (lexRun s n) s i line start out here = R) : ∃ k', k' < K ∧ LexJ s R 3 k' E H :=
  ⟨_, hk, i, m, ca, n, line, start, any_, here, out, aa, NA, xs, hSt, hsub, q0, q5, q6, q8, q9, q10, .inr ⟨q12, rfl, hn, .inr ⟨hi, .inr (.inl ⟨rfl, hR⟩)⟩⟩⟩
theorem lexj4 {s : ByteArray} {R : LRes} {i m ca n K : Nat} {line start : Int} {any_ : Bool} {here : Cx} {out : List Tok} {aa : Option Addr} {NA H : List Box} {xs : List Value} {E : Env} (hSt : LexSt s out i m ca aa xs NA) (hsub : List.Sublist NA H)
    (q0 : E 0 = .string s) (q5 : E 5 = .slice aa m ca) (q6 : E 6 = .int .i64 (i : Int)) (q8 : E 8 = .int .i64 line) (q9 : E 9 = .int .i64 start) (q10 : E 10 = .bool any_) (q12 : E 12 = .complex .f64 here.re here.im) (hk : 2 * (s.size - i) < K) (hn : s.size - i ≤ n) (hi : i < s.size) (hR : lexNum (lexRun s n) s i line start out here = R) : ∃ k', k' < K ∧ LexJ s R 4 k' E H :=
  ⟨_, hk, i, m, ca, n, line, start, any_, here, out, aa, NA, xs, hSt, hsub, q0, q5, q6, q8, q9, q10, .inr ⟨q12, rfl, hn, .inr ⟨hi, .inr (.inr ⟨rfl, hR⟩)⟩⟩⟩
theorem rowFree {e s n : Nat} {xs : List Value} {v : Value} {N : List Box} (h : Row e s n xs v N) : (N.all fun b => !b.ro) = true := by
  rcases h with ⟨_, _, _, rfl⟩ | ⟨_, _, _, _, rfl, _⟩ <;> rfl
def TokPost (R : LRes) (v : Value) (N : List Box) : Prop :=
  ∃ (m ca : Nat) (aa : Option Addr) (xs : List Value), v = .tuple #[.slice aa m ca, .complex .f64 R.2.1.re R.2.1.im, .int .i64 R.2.2] ∧ m = R.1.length ∧ m ≤ 4001 ∧ xs = flatT R.1 ∧ Row 108 3 m xs (.slice aa m ca) N
theorem tokPost_nil {R : LRes} {a : Cx} {e : Int} (h : ([], a, e) = R) : TokPost R (.tuple #[.slice none 0 0, .complex .f64 a.re a.im, .int .i64 e]) [] := by
  subst h
  exact ⟨0, 0, none, [], rfl, rfl, by decide, rfl, Row.nil _ _⟩
theorem tokPost_row {R : LRes} {out : List Tok} {a : Cx} {e : Int} {m ca : Nat} {aa : Option Addr} {xs : List Value} {N : List Box} (h : (out, a, e) = R) (hm : m = out.length) (h4 : m ≤ 4001) (hx : xs = flatT out) (hR : Row 108 3 m xs (.slice aa m ca) N) : TokPost R (.tuple #[.slice aa m ca, .complex .f64 a.re a.im, .int .i64 e]) N := by
  subst h
  exact ⟨m, ca, aa, xs, rfl, hm, h4, hx, hR⟩
theorem lexSt_more {s : ByteArray} {out : List Tok} {m ca : Nat} {aa : Option Addr} {xs ys : List Value} {NA : List Box} {x : Tok} {i' : Nat} (hm : m = out.length) (hx : xs = flatT out) (hmi : m < i') (hi : i' ≤ s.size) (hy : ys = xs ++ x.cells) (hR : Row 108 3 (m + 1) ys (.slice aa (m + 1) ca) NA) : LexSt s (out ++ [x]) i' (m + 1) ca aa ys NA := by
  subst hy hx
  exact ⟨by rw [List.length_append, ← hm]; rfl, by rw [flatT_append]; simp [flatT], hmi, hi, hR⟩
theorem lexSt_same {s : ByteArray} {out : List Tok} {i m ca : Nat} {aa : Option Addr} {xs : List Value} {NA : List Box} {i' : Nat} (h : LexSt s out i m ca aa xs NA) (hi : i ≤ i') (hi' : i' ≤ s.size) : LexSt s out i' m ca aa xs NA :=
  ⟨h.1, h.2.1, Nat.le_trans h.2.2.1 hi, hi', h.2.2.2.2⟩
theorem run_ge1 (P : Int → Bool) (s : ByteArray) (i : Nat) : i + 1 ≤ runTo P s (s.size - (i + 1)) (i + 1) := runTo_ge P s _ _
theorem run_le1 (P : Int → Bool) {s : ByteArray} {i : Nat} (hi : i < s.size) : runTo P s (s.size - (i + 1)) (i + 1) ≤ s.size := runTo_le P s _ _ hi
theorem run_bd (P : Int → Bool) {s : ByteArray} {i : Nat} (hi : i < s.size) : 0 ≤ (i : Int) ∧ (i : Int) ≤ ((runTo P s (s.size - (i + 1)) (i + 1) : Nat) : Int) ∧ ((runTo P s (s.size - (i + 1)) (i + 1) : Nat) : Int) ≤ s.size := by
  have := run_ge1 P s i
  have := run_le1 P hi
  omega
theorem ne_lt {s : ByteArray} {i : Nat} (hi : i ≤ s.size) (h : ((i : Int) == ((s).size : Int)) = false) : i < s.size := by
  have := of_decide_eq_false h
  omega
theorem w64_succ {s : ByteArray} {i : Nat} (h4 : s.size ≤ 4000) (hi : i ≤ s.size) : (Value.int .i64 (w64 ((i : Int) + 1)) : Value) = .int .i64 ((i + 1 : Nat) : Int) := by
  rw [w64_in (by omega)]
  rfl
theorem aj_weak {J : Nat → Nat → Env → List Box → Prop} {Q : Exit → Env → List Box → Prop} {K : Nat} : ∀ (e : Exit) (E : Env) (H : List Box), AJ (fun l' E' H' => ∃ k', k' < K ∧ J l' k' E' H') Q e E H → AJ (fun l' E' H' => ∃ k', J l' k' E' H') Q e E H := by
  intro e E H h
  cases e <;> first | exact h | (obtain ⟨k, _, hJ⟩ := h; exact ⟨k, hJ⟩)
def scopeOf : Code → Option Code
  | .scope c => some c
  | .seq a b => (scopeOf a).orElse fun _ => scopeOf b
  | .cond _ a b => (scopeOf a).orElse fun _ => scopeOf b
  | _ => none
end Go.Proofs.YtalffjplbhelcaaGreatDoor
namespace Go.Proofs.YtalffjplbhelcaaGreatDoor
open Go.RowKit
section
variable {p : Program} {n : Nat} {ops : Array Oper} {Q : Exit → Env → List Box → Prop} {l : List Oper} {E : Env} {H : List Box} {o : Oper} {ρ : Operand → Value} {K : Post}
end
end Go.Proofs.YtalffjplbhelcaaGreatDoor
namespace Go.Proofs.YtalffjplbhelcaaGreatDoor
open Go.RowKit
theorem bd108_0_1_2 (x0_0 : Int) (x1_0 : ByteArray) (x2_0 : Cx) : Runs Tryz.prog (Instr.build 108 #[(0, .int .i64 x0_0), (1, .string x1_0), (2, .complex .f64 (x2_0).re (x2_0).im)]) (.agg #[.int .i64 x0_0, .string x1_0, .complex .f64 (x2_0).re (x2_0).im]) := ⟨fun w => by go_simp⟩
theorem bs71_1_0a (x0_0 : Int) (x0_1 : ByteArray) (x0_2 : Cx) : Makes Tryz.prog (Instr.buildSlice 71 1 #[(0, .agg #[.int .i64 x0_0, .string x0_1, .complex .f64 (x0_2).re (x0_2).im])]) 1 [.int .i64 x0_0, .string x0_1, .complex .f64 (x0_2).re (x0_2).im] 108 := ⟨fun w => by go_simp⟩
theorem slT71 : SlT Tryz.prog 71 108 3 40 := ⟨Tryz.underlying71, .agg #[.int .i64 0, .string (⟨#[]⟩ : ByteArray), .complex .f64 ((⟨0, 0⟩ : Cx)).re ((⟨0, 0⟩ : Cx)).im], by kernel_rfl, rfl, by decide⟩
end Go.Proofs.YtalffjplbhelcaaGreatDoor
