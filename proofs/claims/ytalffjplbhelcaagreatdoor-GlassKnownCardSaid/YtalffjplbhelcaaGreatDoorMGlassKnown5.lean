import Derived.Test.YtalffjplbhelcaaGreatDoorMGlassKnown4
import Derived.Laws.MakeOwn
import Derived.Laws.IdiomStrings
import Derived.Test.YtalffjplbhelcaaGreatDoorMGlassKnown1
import Derived.Test.YtalffjplbhelcaaGreatDoorMGlassKnown3
import Derived.Test.YtalffjplbhelcaaGreatDoorMGlassKnown2
import Derived.Lib.AppendStr
import Derived.Lib.Builder
set_option linter.unusedVariables false
set_option linter.unusedSimpArgs false
namespace Go.Proofs.YtalffjplbhelcaaGreatDoor
open Go.RowKit
attribute [local irreducible] AC AR DWalk
set_option maxRecDepth 100000 in
set_option maxHeartbeats 4000000 in
theorem seg0 (s : ByteArray) (hs4 : s.size ≤ 4000) (R : LRes) (K i m ca n : Nat) (line start : Int) (any_ : Bool) (out : List Tok) (aa : Option Addr) (NA : List Box) (xs : List Value) (hSt : LexSt s out i m ca aa xs NA) (hk : K = 2 * (s.size - i) + 1) (hn : s.size - i ≤ n) (hq : lexStep (lexRun s n) s i line start any_ out = R) {E : Env} {H : List Box} {rest : Code} (hc : ((Tryz.f63.body.bind scopeOf).bind fun c => findLabel c 0) = some (.seq .skip rest)) (hsub : List.Sublist NA H) (q0 : E 0 = .string s) (q5 : E 5 = .slice aa m ca) (q6 : E 6 = .int .i64 (i : Int)) (q8 : E 8 = .int .i64 line) (q9 : E 9 = .int .i64 start) (q10 : E 10 = .bool any_) : AC Tryz.prog 118 rest (AJ (fun l' E' H' => ∃ k', k' < K ∧ LexJ s R l' k' E' H') (FinG Tryz.prog Tryz.f63 118 (TokPost R))) E H := by
 rw [show ((Tryz.f63.body.bind scopeOf).bind fun c => findLabel c 0) = some (.seq .skip _) from rfl] at hc
 cases hc
 refine ac_drop hsub ?_
 have hSt0 := hSt
 obtain ⟨hm, hxs, hmi, hil, hR⟩ := hSt
 obtain ⟨E0, rfl⟩ : ∃ E0 : Env, E = ((((((E0.put (some 0) (.string s)).put (some 5) (.slice aa m ca)).put (some 6) (.int .i64 (i : Int))).put (some 8) (.int .i64 line)).put (some 9) (.int .i64 start)).put (some 10) (.bool any_)) := ⟨E, by rw [put_self q0, put_self q5, put_self q6, put_self q8, put_self q9, put_self q10]⟩
 refine aQ (aL (aM 18 (.int .i64 line) rfl rfl (aM 19 (.int .i64 (i : Int)) rfl rfl (aM 20 (.int .i64 start) rfl rfl (aB 21 (.int .i64 (w64 ((i : Int) - start))) rfl rfl rfl (bi_sub rfl) (aB 22 (.int .i64 (w64 ((w64 ((i : Int) - start)) + 1))) rfl rfl rfl (bi_add rfl) (aC 23 (c_place line (w64 ((w64 ((i : Int) - start)) + 1))) Tryz.func100 ⟨rfl, by decide⟩ rfl rfl (aA 12 (.complex .f64 ((place line (w64 ((w64 ((i : Int) - start)) + 1)))).re ((place line (w64 ((w64 ((i : Int) - start)) + 1)))).im) rfl rfl (aN (aQ (aQ (aL (aM 24 (.int .i64 (i : Int)) rfl rfl (aM 25 (.string s) rfl rfl (ao 26 rfl rfl (st_slen (s := s) rfl Tryz.underlying9 rfl ?_))))))))))))))))
 refine aB 27 (.bool ((i : Int) == ((s).size : Int))) rfl rfl rfl (bi_eql rfl) (aN ?_)
 refine bool_split ((i : Int) == ((s).size : Int)) (fun h1 => ?_) (fun h1 => ?_)
 ·refine ac_then' (b := (i : Int) == ((s).size : Int)) h1 rfl ?_
  refine ac_goto ?_
  simp only [lexStep, h1, cond_true, cond_false] at hq
  exact lexj1 (i := i) (n := n) (here := (lexHere i line start)) (lexSt_same hSt0 (by omega) hil) (List.Sublist.refl _) rfl rfl rfl rfl rfl rfl rfl (by have := hil; omega) (by have := hil; omega) hq
 ·refine ac_else' (b := (i : Int) == ((s).size : Int)) h1 rfl (ac_skip (aQ (aL (aM 28 (.string s) rfl rfl (aM 29 (.int .i64 (i : Int)) rfl rfl (ao 30 rfl rfl (st_six (s := s) (i := i) rfl Tryz.underlying9 rfl rfl (ne_lt hil h1) (aA 11 (.int .u8 (sAt s i)) rfl rfl (aN (aQ (ac_block (aQ (aL (aM 32 (.int .u8 (sAt s i)) rfl rfl (aB 33 (.bool ((sAt s i) == 10)) rfl rfl rfl (bk_eql rfl) (aA 31 (.bool ((sAt s i) == 10)) rfl rfl (aN ?_)))))))))))))))))
  refine bool_split ((sAt s i) == 10) (fun h2 => ?_) (fun h2 => ?_)
  ·refine ac_then' (b := (sAt s i) == 10) h2 rfl ?_
   refine ac_goto ?_
   simp only [lexStep, h1, h2, cond_true, cond_false] at hq
   exact lexj1 (i := i) (n := n) (here := (lexHere i line start)) (lexSt_same hSt0 (by omega) hil) (List.Sublist.refl _) rfl rfl rfl rfl rfl rfl rfl (by have := hil; have := (ne_lt hil h1); omega) (by have := hil; have := (ne_lt hil h1); omega) hq
  ·refine ac_else' (b := (sAt s i) == 10) h2 rfl (aQ (aL (aM 35 (.int .u8 (sAt s i)) rfl rfl (aB 36 (.bool ((sAt s i) == 32)) rfl rfl rfl (bk_eql rfl) (aM 37 (.bool ((sAt s i) == 32)) rfl rfl ?_)))))
   refine bool_split ((sAt s i) == 32) (fun h3 => ?_) (fun h3 => ?_)
   ·refine aK 38 (by show (((sAt s i) == 32) == false) = false; rw [h3]; rfl) rfl (aK 39 (by show (((sAt s i) == 32) == false) = false; rw [h3]; rfl) rfl (ao 40 rfl rfl (st_pkt' (b := (sAt s i) == 32) (v := .bool true) h3 rfl rfl rfl (aA 34 (.bool true) rfl rfl (aN (ac_then rfl (aQ (aL (aM 41 (.int .i64 (i : Int)) rfl rfl (aB 42 (.int .i64 (w64 ((i : Int) + 1))) rfl rfl rfl (bi_add rfl) (aA 6 (.int .i64 (w64 ((i : Int) + 1))) rfl rfl (aN ?_))))))))))))
    refine ac_goto ?_
    simp only [lexStep, h1, h2, h3, cond_true, cond_false] at hq
    exact lexj0 (i := (i + 1)) (n := n) (lexSt_same hSt0 (by omega) (ne_lt hil h1)) (List.Sublist.refl _) rfl rfl (w64_succ hs4 hil) rfl rfl rfl (by have := hil; have := (ne_lt hil h1); omega) (by have := hil; have := (ne_lt hil h1); omega) hq
   ·refine ar_gd (d := (some 38)) (by show (((sAt s i) == 32) == false) = true; rw [h3]; rfl) rfl (st_move (v := .int .u8 (sAt s i)) rfl rfl (ar_gd (d := (some 39)) (by show (((sAt s i) == 32) == false) = true; rw [h3]; rfl) rfl (st_bi (r := .bool ((sAt s i) == 9)) rfl rfl rfl (bk_eql rfl) (ao 40 rfl rfl (st_pkf' (b := (sAt s i) == 32) (v := .bool ((sAt s i) == 9)) h3 rfl rfl rfl (aA 34 (.bool ((sAt s i) == 9)) rfl rfl (aN ?_)))))))
    refine bool_split ((sAt s i) == 9) (fun h4 => ?_) (fun h4 => ?_)
    ·refine ac_then' (b := (sAt s i) == 9) h4 rfl (aQ (aL (aM 41 (.int .i64 (i : Int)) rfl rfl (aB 42 (.int .i64 (w64 ((i : Int) + 1))) rfl rfl rfl (bi_add rfl) (aA 6 (.int .i64 (w64 ((i : Int) + 1))) rfl rfl (aN ?_))))))
     refine ac_goto ?_
     simp only [lexStep, h1, h2, h3, h4, cond_true, cond_false] at hq
     exact lexj0 (i := (i + 1)) (n := n) (lexSt_same hSt0 (by omega) (ne_lt hil h1)) (List.Sublist.refl _) rfl rfl (w64_succ hs4 hil) rfl rfl rfl (by have := hil; have := (ne_lt hil h1); omega) (by have := hil; have := (ne_lt hil h1); omega) hq
    ·refine ac_else' (b := (sAt s i) == 9) h4 rfl (aQ (aL (aM 44 (.int .u8 (sAt s i)) rfl rfl (aB 45 (.bool ((sAt s i) == 35)) rfl rfl rfl (bk_eql rfl) (aA 43 (.bool ((sAt s i) == 35)) rfl rfl (aN ?_))))))
     refine bool_split ((sAt s i) == 35) (fun h5 => ?_) (fun h5 => ?_)
     ·refine ac_then' (b := (sAt s i) == 35) h5 rfl ?_
      refine ac_goto ?_
      simp only [lexStep, h1, h2, h3, h4, h5, cond_true, cond_false] at hq
      exact lexj2 (i := i) (n := n) (here := (lexHere i line start)) (lexSt_same hSt0 (by omega) hil) (List.Sublist.refl _) rfl rfl rfl rfl rfl rfl rfl (by have := hil; have := (ne_lt hil h1); omega) (by have := hil; have := (ne_lt hil h1); omega) (ne_lt hil h1) hq
     ·refine ac_else' (b := (sAt s i) == 35) h5 rfl (aQ (aL (aM 47 (.int .u8 (sAt s i)) rfl rfl (aC 48 (c_lexLetter (sAt s i)) Tryz.func101 ⟨rfl, by decide⟩ rfl rfl (aA 46 (.bool (lexLetter (sAt s i))) rfl rfl (aN ?_))))))
      refine bool_split (lexLetter (sAt s i)) (fun h6 => ?_) (fun h6 => ?_)
      ·refine ac_then' (b := lexLetter (sAt s i)) h6 rfl ?_
       refine ac_goto ?_
       simp only [lexStep, h1, h2, h3, h4, h5, h6, cond_true, cond_false] at hq
       exact lexj3 (i := i) (n := n) (here := (lexHere i line start)) (lexSt_same hSt0 (by omega) hil) (List.Sublist.refl _) rfl rfl rfl rfl rfl rfl rfl (by have := hil; have := (ne_lt hil h1); omega) (by have := hil; have := (ne_lt hil h1); omega) (ne_lt hil h1) hq
      ·refine ac_else' (b := lexLetter (sAt s i)) h6 rfl (aQ (aL (aM 50 (.int .u8 (sAt s i)) rfl rfl (aC 51 (c_lexDigit (sAt s i)) Tryz.func102 ⟨rfl, by decide⟩ rfl rfl (aM 52 (.bool (lexDigit (sAt s i))) rfl rfl ?_)))))
       refine bool_split (lexDigit (sAt s i)) (fun h7 => ?_) (fun h7 => ?_)
       ·refine aK 53 (by show ((lexDigit (sAt s i)) == false) = false; rw [h7]; rfl) rfl (aK 54 (by show ((lexDigit (sAt s i)) == false) = false; rw [h7]; rfl) rfl (ao 55 rfl rfl (st_pkt' (b := lexDigit (sAt s i)) (v := .bool true) h7 rfl rfl rfl (aA 49 (.bool true) rfl rfl (aN (ac_then rfl ?_))))))
        refine ac_goto ?_
        simp only [lexStep, h1, h2, h3, h4, h5, h6, h7, cond_true, cond_false] at hq
        exact lexj4 (i := i) (n := n) (here := (lexHere i line start)) (lexSt_same hSt0 (by omega) hil) (List.Sublist.refl _) rfl rfl rfl rfl rfl rfl rfl (by have := hil; have := (ne_lt hil h1); omega) (by have := hil; have := (ne_lt hil h1); omega) (ne_lt hil h1) hq
       ·refine ar_gd (d := (some 53)) (by show ((lexDigit (sAt s i)) == false) = true; rw [h7]; rfl) rfl (st_move (v := .int .u8 (sAt s i)) rfl rfl (ar_gd (d := (some 54)) (by show ((lexDigit (sAt s i)) == false) = true; rw [h7]; rfl) rfl (st_bi (r := .bool ((sAt s i) == 45)) rfl rfl rfl (bk_eql rfl) (ao 55 rfl rfl (st_pkf' (b := lexDigit (sAt s i)) (v := .bool ((sAt s i) == 45)) h7 rfl rfl rfl (aA 49 (.bool ((sAt s i) == 45)) rfl rfl (aN ?_)))))))
        refine bool_split ((sAt s i) == 45) (fun h8 => ?_) (fun h8 => ?_)
        ·refine ac_then' (b := (sAt s i) == 45) h8 rfl ?_
         refine ac_goto ?_
         simp only [lexStep, h1, h2, h3, h4, h5, h6, h7, h8, cond_true, cond_false] at hq
         exact lexj4 (i := i) (n := n) (here := (lexHere i line start)) (lexSt_same hSt0 (by omega) hil) (List.Sublist.refl _) rfl rfl rfl rfl rfl rfl rfl (by have := hil; have := (ne_lt hil h1); omega) (by have := hil; have := (ne_lt hil h1); omega) (ne_lt hil h1) hq
        ·refine ac_else' (b := (sAt s i) == 45) h8 rfl (ac_skip (aQ (aQ (aL (aM 56 (.complex .f64 ((place line (w64 ((w64 ((i : Int) - start)) + 1)))).re ((place line (w64 ((w64 ((i : Int) - start)) + 1)))).im) rfl rfl (aA 2 (.slice none 0 0) rfl rfl (aA 3 (.complex .f64 ((place line (w64 ((w64 ((i : Int) - start)) + 1)))).re ((place line (w64 ((w64 ((i : Int) - start)) + 1)))).im) rfl rfl (aA 4 (.int .i64 2) rfl rfl (aN (ac_ret ?_))))))))))
         simp only [lexStep, h1, h2, h3, h4, h5, h6, h7, h8, cond_true, cond_false] at hq
         exact fing_ret (N := []) (tokPost_nil hq) (List.nil_sublist _) rfl (res_ttt rfl rfl rfl rfl)
set_option maxRecDepth 100000 in
set_option maxHeartbeats 4000000 in
theorem seg1 (s : ByteArray) (hs4 : s.size ≤ 4000) (R : LRes) (K i m ca n : Nat) (line start : Int) (any_ : Bool) (out : List Tok) (aa : Option Addr) (NA : List Box) (xs : List Value) (hSt : LexSt s out i m ca aa xs NA) (here : Cx) (hk : K = 2 * (s.size - i)) (hn : s.size - i ≤ n) (hq : lexFeed (lexRun s n) s i line any_ out here = R) {E : Env} {H : List Box} {rest : Code} (hc : ((Tryz.f63.body.bind scopeOf).bind fun c => findLabel c 1) = some (.seq .skip rest)) (hsub : List.Sublist NA H) (q0 : E 0 = .string s) (q5 : E 5 = .slice aa m ca) (q6 : E 6 = .int .i64 (i : Int)) (q8 : E 8 = .int .i64 line) (q9 : E 9 = .int .i64 start) (q10 : E 10 = .bool any_) (q12 : E 12 = .complex .f64 (here).re (here).im) : AC Tryz.prog 118 rest (AJ (fun l' E' H' => ∃ k', k' < K ∧ LexJ s R l' k' E' H') (FinG Tryz.prog Tryz.f63 118 (TokPost R))) E H := by
 rw [show ((Tryz.f63.body.bind scopeOf).bind fun c => findLabel c 1) = some (.seq .skip _) from rfl] at hc
 cases hc
 refine ac_drop hsub ?_
 have hSt0 := hSt
 obtain ⟨hm, hxs, hmi, hil, hR⟩ := hSt
 obtain ⟨E0, rfl⟩ : ∃ E0 : Env, E = (((((((E0.put (some 0) (.string s)).put (some 5) (.slice aa m ca)).put (some 6) (.int .i64 (i : Int))).put (some 8) (.int .i64 line)).put (some 9) (.int .i64 start)).put (some 10) (.bool any_)).put (some 12) (.complex .f64 (here).re (here).im)) := ⟨E, by rw [put_self q0, put_self q5, put_self q6, put_self q8, put_self q9, put_self q10, put_self q12]⟩
 refine aQ (aQ (aL (aM 102 (.bool any_) rfl rfl (aN ?_))))
 refine bool_split (any_) (fun h1 => ?_) (fun h1 => ?_)
 ·refine ac_then' (b := any_) h1 rfl (aL (aM 103 (.slice aa m ca) rfl rfl (aM 104 (.complex .f64 (here).re (here).im) rfl rfl (ao 105 rfl rfl (st_bd (us := [(0, .int .i64 3), (1, .string (⟨#[]⟩ : ByteArray)), (2, .complex .f64 (here).re (here).im)]) (v := .agg #[.int .i64 3, .string (⟨#[]⟩ : ByteArray), .complex .f64 (here).re (here).im]) rfl rfl (bd108_0_1_2 _ _ _) (ao 106 rfl rfl (st_bs (us := [(0, .agg #[.int .i64 3, .string (⟨#[]⟩ : ByteArray), .complex .f64 (here).re (here).im])]) (cs := [.int .i64 3, .string (⟨#[]⟩ : ByteArray), .complex .f64 (here).re (here).im]) rfl rfl (bs71_1_0a _ _ _) fun g0 => ?_)))))))
  refine ao 107 rfl rfl (st_appZ (A := [⟨g0, [.int .i64 3, .string (⟨#[]⟩ : ByteArray), .complex .f64 (here).re (here).im], 108, false⟩]) (N := NA) (xs := xs) (news := [.int .i64 3, .string (⟨#[]⟩ : ByteArray), .complex .f64 (here).re (here).im]) (r := []) slT71 rfl rfl rfl hR rfl (List.mem_of_getElem? (i := 0) rfl) rfl rfl rfl rfl (by decide) (by simp only [maxLen]; omega) (by omega) (fun v H H' hp h => ar_perm hp h) fun v9 Nu1 Ru1 => ?_)
  obtain ⟨au1, cu1, rfl⟩ := Ru1.form
  refine aA 5 (.slice au1 (m + 1) cu1) rfl rfl (aN (aQ (aQ (aL (aM 108 (.int .i64 (i : Int)) rfl rfl (aM 109 (.string s) rfl rfl (ao 110 rfl rfl (st_slen (s := s) rfl Tryz.underlying9 rfl (aB 111 (.bool ((i : Int) == ((s).size : Int))) rfl rfl rfl (bi_eql rfl) (aN ?_))))))))))
  refine bool_split ((i : Int) == ((s).size : Int)) (fun h2 => ?_) (fun h2 => ?_)
  ·refine ac_then' (b := (i : Int) == ((s).size : Int)) h2 rfl (aQ (aL (aM 112 (.slice au1 (m + 1) cu1) rfl rfl (aA 2 (.slice au1 (m + 1) cu1) rfl rfl (aA 3 (.complex .f64 ((⟨0, 0⟩ : Cx)).re ((⟨0, 0⟩ : Cx)).im) rfl rfl (aA 4 (.int .i64 0) rfl rfl (aN (ac_ret ?_))))))))
   simp only [lexFeed, h1, h2, cond_true, cond_false] at hq
   exact fing_ret (N := Nu1) (tokPost_row hq (by simp [hm]) (by omega) (by rw [hxs]; simp [flatT, Tok.cells]) Ru1) (List.Sublist.cons _ (List.Sublist.refl _)) (rowFree Ru1) (res_ttt rfl rfl rfl rfl)
  ·refine ac_else' (b := (i : Int) == ((s).size : Int)) h2 rfl (ac_skip (aQ (aL (aM 113 (.int .i64 (i : Int)) rfl rfl (aB 114 (.int .i64 (w64 ((i : Int) + 1))) rfl rfl rfl (bi_add rfl) (aA 6 (.int .i64 (w64 ((i : Int) + 1))) rfl rfl (aN (aQ (aL (aM 115 (.int .i64 line) rfl rfl (aB 116 (.int .i64 (w64 (line + 1))) rfl rfl rfl (bi_add rfl) (aM 117 (.int .i64 (w64 ((i : Int) + 1))) rfl rfl (aA 8 (.int .i64 (w64 (line + 1))) rfl rfl (aA 9 (.int .i64 (w64 ((i : Int) + 1))) rfl rfl (aA 10 (.bool false) rfl rfl (aN ?_))))))))))))))))
   refine ac_goto ?_
   simp only [lexFeed, h1, h2, cond_true, cond_false] at hq
   exact lexj0 (i := (i + 1)) (n := n) (lexSt_more hm hxs (by have := hmi; omega) (ne_lt hil h2) (by rfl) Ru1) (List.Sublist.cons _ (List.Sublist.refl _)) rfl rfl (w64_succ hs4 hil) rfl (w64_succ hs4 hil) rfl (by have := hil; have := (ne_lt hil h2); omega) (by have := hil; have := (ne_lt hil h2); omega) hq
 ·refine ac_else' (b := any_) h1 rfl (ac_skip (aQ (aQ (aL (aM 108 (.int .i64 (i : Int)) rfl rfl (aM 109 (.string s) rfl rfl (ao 110 rfl rfl (st_slen (s := s) rfl Tryz.underlying9 rfl (aB 111 (.bool ((i : Int) == ((s).size : Int))) rfl rfl rfl (bi_eql rfl) (aN ?_))))))))))
  refine bool_split ((i : Int) == ((s).size : Int)) (fun h2 => ?_) (fun h2 => ?_)
  ·refine ac_then' (b := (i : Int) == ((s).size : Int)) h2 rfl (aQ (aL (aM 112 (.slice aa m ca) rfl rfl (aA 2 (.slice aa m ca) rfl rfl (aA 3 (.complex .f64 ((⟨0, 0⟩ : Cx)).re ((⟨0, 0⟩ : Cx)).im) rfl rfl (aA 4 (.int .i64 0) rfl rfl (aN (ac_ret ?_))))))))
   simp only [lexFeed, h1, h2, cond_true, cond_false] at hq
   exact fing_ret (N := NA) (tokPost_row hq hm (by omega) hxs hR) (List.Sublist.refl _) (rowFree hR) (res_ttt rfl rfl rfl rfl)
  ·refine ac_else' (b := (i : Int) == ((s).size : Int)) h2 rfl (ac_skip (aQ (aL (aM 113 (.int .i64 (i : Int)) rfl rfl (aB 114 (.int .i64 (w64 ((i : Int) + 1))) rfl rfl rfl (bi_add rfl) (aA 6 (.int .i64 (w64 ((i : Int) + 1))) rfl rfl (aN (aQ (aL (aM 115 (.int .i64 line) rfl rfl (aB 116 (.int .i64 (w64 (line + 1))) rfl rfl rfl (bi_add rfl) (aM 117 (.int .i64 (w64 ((i : Int) + 1))) rfl rfl (aA 8 (.int .i64 (w64 (line + 1))) rfl rfl (aA 9 (.int .i64 (w64 ((i : Int) + 1))) rfl rfl (aA 10 (.bool false) rfl rfl (aN ?_))))))))))))))))
   refine ac_goto ?_
   simp only [lexFeed, h1, h2, cond_true, cond_false] at hq
   exact lexj0 (i := (i + 1)) (n := n) (lexSt_same hSt0 (by omega) (ne_lt hil h2)) (List.Sublist.refl _) rfl rfl (w64_succ hs4 hil) rfl (w64_succ hs4 hil) rfl (by have := hil; have := (ne_lt hil h2); omega) (by have := hil; have := (ne_lt hil h2); omega) hq
set_option maxRecDepth 100000 in
set_option maxHeartbeats 4000000 in
theorem seg2 (s : ByteArray) (hs4 : s.size ≤ 4000) (R : LRes) (K i m ca n : Nat) (line start : Int) (any_ : Bool) (out : List Tok) (aa : Option Addr) (NA : List Box) (xs : List Value) (hSt : LexSt s out i m ca aa xs NA) (here : Cx) (hk : K = 2 * (s.size - i)) (hn : s.size - i ≤ n) (hi : i < s.size) (hq : lexRun s n (runTo lexNoLine s (s.size - (i + 1)) (i + 1)) line start any_ out = R) {E : Env} {H : List Box} {rest : Code} (hc : ((Tryz.f63.body.bind scopeOf).bind fun c => findLabel c 2) = some (.seq .skip rest)) (hsub : List.Sublist NA H) (q0 : E 0 = .string s) (q5 : E 5 = .slice aa m ca) (q6 : E 6 = .int .i64 (i : Int)) (q8 : E 8 = .int .i64 line) (q9 : E 9 = .int .i64 start) (q10 : E 10 = .bool any_) (q12 : E 12 = .complex .f64 (here).re (here).im) : AC Tryz.prog 118 rest (AJ (fun l' E' H' => ∃ k', k' < K ∧ LexJ s R l' k' E' H') (FinG Tryz.prog Tryz.f63 118 (TokPost R))) E H := by
 rw [show ((Tryz.f63.body.bind scopeOf).bind fun c => findLabel c 2) = some (.seq .skip _) from rfl] at hc
 cases hc
 refine ac_drop hsub ?_
 have hSt0 := hSt
 obtain ⟨hm, hxs, hmi, hil, hR⟩ := hSt
 obtain ⟨E0, rfl⟩ : ∃ E0 : Env, E = (((((((E0.put (some 0) (.string s)).put (some 5) (.slice aa m ca)).put (some 6) (.int .i64 (i : Int))).put (some 8) (.int .i64 line)).put (some 9) (.int .i64 start)).put (some 10) (.bool any_)).put (some 12) (.complex .f64 (here).re (here).im)) := ⟨E, by rw [put_self q0, put_self q5, put_self q6, put_self q8, put_self q9, put_self q10, put_self q12]⟩
 refine aQ (aL (aM 57 (.string s) rfl rfl (aM 58 (.int .i64 (i : Int)) rfl rfl (aC 59 (c_runL s i (by omega) hi) Tryz.func103 ⟨rfl, by decide⟩ rfl rfl (aA 6 (.int .i64 ((runTo lexNoLine s (s.size - (i + 1)) (i + 1) : Nat) : Int)) rfl rfl (aN (aQ ?_)))))))
 refine ac_goto ?_
 exact lexj0 (i := (runTo lexNoLine s (s.size - (i + 1)) (i + 1))) (n := n) (lexSt_same hSt0 (by have := run_ge1 lexNoLine s i; omega) (run_le1 lexNoLine hi)) (List.Sublist.refl _) rfl rfl rfl rfl rfl rfl (by have := run_ge1 lexNoLine s i; omega) (by have := run_ge1 lexNoLine s i; omega) hq
set_option maxRecDepth 100000 in
set_option maxHeartbeats 4000000 in
theorem seg3 (s : ByteArray) (hs4 : s.size ≤ 4000) (R : LRes) (K i m ca n : Nat) (line start : Int) (any_ : Bool) (out : List Tok) (aa : Option Addr) (NA : List Box) (xs : List Value) (hSt : LexSt s out i m ca aa xs NA) (here : Cx) (hk : K = 2 * (s.size - i)) (hn : s.size - i ≤ n) (hi : i < s.size) (hq : lexWord (lexRun s n) s i line start out here = R) {E : Env} {H : List Box} {rest : Code} (hc : ((Tryz.f63.body.bind scopeOf).bind fun c => findLabel c 3) = some (.seq .skip rest)) (hsub : List.Sublist NA H) (q0 : E 0 = .string s) (q5 : E 5 = .slice aa m ca) (q6 : E 6 = .int .i64 (i : Int)) (q8 : E 8 = .int .i64 line) (q9 : E 9 = .int .i64 start) (q10 : E 10 = .bool any_) (q12 : E 12 = .complex .f64 (here).re (here).im) : AC Tryz.prog 118 rest (AJ (fun l' E' H' => ∃ k', k' < K ∧ LexJ s R l' k' E' H') (FinG Tryz.prog Tryz.f63 118 (TokPost R))) E H := by
 rw [show ((Tryz.f63.body.bind scopeOf).bind fun c => findLabel c 3) = some (.seq .skip _) from rfl] at hc
 cases hc
 refine ac_drop hsub ?_
 have hSt0 := hSt
 obtain ⟨hm, hxs, hmi, hil, hR⟩ := hSt
 obtain ⟨E0, rfl⟩ : ∃ E0 : Env, E = (((((((E0.put (some 0) (.string s)).put (some 5) (.slice aa m ca)).put (some 6) (.int .i64 (i : Int))).put (some 8) (.int .i64 line)).put (some 9) (.int .i64 start)).put (some 10) (.bool any_)).put (some 12) (.complex .f64 (here).re (here).im)) := ⟨E, by rw [put_self q0, put_self q5, put_self q6, put_self q8, put_self q9, put_self q10, put_self q12]⟩
 refine aQ (aL (aM 60 (.string s) rfl rfl (aM 61 (.int .i64 (i : Int)) rfl rfl (aC 62 (c_runW s i (by omega) hi) Tryz.func103 ⟨rfl, by decide⟩ rfl rfl (aA 7 (.int .i64 ((runTo lexInWord s (s.size - (i + 1)) (i + 1) : Nat) : Int)) rfl rfl (aN (aQ (aQ (aL (aM 63 (.int .i64 ((runTo lexInWord s (s.size - (i + 1)) (i + 1) : Nat) : Int)) rfl rfl (aM 64 (.int .i64 (i : Int)) rfl rfl (aB 65 (.int .i64 (w64 (((runTo lexInWord s (s.size - (i + 1)) (i + 1) : Nat) : Int) - (i : Int)))) rfl rfl rfl (bi_sub rfl) (aB 66 (.bool (decide ((w64 (((runTo lexInWord s (s.size - (i + 1)) (i + 1) : Nat) : Int) - (i : Int))) > 20))) rfl rfl rfl (bi_gtr rfl) (aN ?_))))))))))))))
 refine bool_split (decide ((w64 (((runTo lexInWord s (s.size - (i + 1)) (i + 1) : Nat) : Int) - (i : Int))) > 20)) (fun h1 => ?_) (fun h1 => ?_)
 ·refine ac_then' (b := decide ((w64 (((runTo lexInWord s (s.size - (i + 1)) (i + 1) : Nat) : Int) - (i : Int))) > 20)) h1 rfl (aQ (aL (aM 67 (.complex .f64 (here).re (here).im) rfl rfl (aA 2 (.slice none 0 0) rfl rfl (aA 3 (.complex .f64 (here).re (here).im) rfl rfl (aA 4 (.int .i64 3) rfl rfl (aN (ac_ret ?_))))))))
  simp only [lexWord, h1, cond_true, cond_false] at hq
  exact fing_ret (N := []) (tokPost_nil hq) (List.nil_sublist _) rfl (res_ttt rfl rfl rfl rfl)
 ·refine ac_else' (b := decide ((w64 (((runTo lexInWord s (s.size - (i + 1)) (i + 1) : Nat) : Int) - (i : Int))) > 20)) h1 rfl (ac_skip (aQ (aL (aM 68 (.slice aa m ca) rfl rfl (aM 69 (.string s) rfl rfl (aM 70 (.int .i64 (i : Int)) rfl rfl (aM 71 (.int .i64 ((runTo lexInWord s (s.size - (i + 1)) (i + 1) : Nat) : Int)) rfl rfl (ao 72 rfl rfl (st_ss (run_bd lexInWord hi) rfl Tryz.underlying9 rfl rfl rfl (aM 73 (.complex .f64 (here).re (here).im) rfl rfl ?_))))))))))
  refine ao 74 rfl rfl (st_bd (us := [(0, .int .i64 1), (1, .string (subS s (i : Int) ((runTo lexInWord s (s.size - (i + 1)) (i + 1) : Nat) : Int))), (2, .complex .f64 (here).re (here).im)]) (v := .agg #[.int .i64 1, .string (subS s (i : Int) ((runTo lexInWord s (s.size - (i + 1)) (i + 1) : Nat) : Int)), .complex .f64 (here).re (here).im]) rfl rfl (bd108_0_1_2 _ _ _) ?_)
  refine ao 75 rfl rfl (st_bs (us := [(0, .agg #[.int .i64 1, .string (subS s (i : Int) ((runTo lexInWord s (s.size - (i + 1)) (i + 1) : Nat) : Int)), .complex .f64 (here).re (here).im])]) (cs := [.int .i64 1, .string (subS s (i : Int) ((runTo lexInWord s (s.size - (i + 1)) (i + 1) : Nat) : Int)), .complex .f64 (here).re (here).im]) rfl rfl (bs71_1_0a _ _ _) fun g0 => ?_)
  refine ao 76 rfl rfl (st_appZ (A := [⟨g0, [.int .i64 1, .string (subS s (i : Int) ((runTo lexInWord s (s.size - (i + 1)) (i + 1) : Nat) : Int)), .complex .f64 (here).re (here).im], 108, false⟩]) (N := NA) (xs := xs) (news := [.int .i64 1, .string (subS s (i : Int) ((runTo lexInWord s (s.size - (i + 1)) (i + 1) : Nat) : Int)), .complex .f64 (here).re (here).im]) (r := []) slT71 rfl rfl rfl hR rfl (List.mem_of_getElem? (i := 0) rfl) rfl rfl rfl rfl (by decide) (by simp only [maxLen]; omega) (by omega) (fun v H H' hp h => ar_perm hp h) fun v9 Nu1 Ru1 => ?_)
  obtain ⟨au1, cu1, rfl⟩ := Ru1.form
  refine aA 5 (.slice au1 (m + 1) cu1) rfl rfl (aN (aQ (aL (aM 77 (.int .i64 ((runTo lexInWord s (s.size - (i + 1)) (i + 1) : Nat) : Int)) rfl rfl (aA 6 (.int .i64 ((runTo lexInWord s (s.size - (i + 1)) (i + 1) : Nat) : Int)) rfl rfl (aA 10 (.bool true) rfl rfl (aN (aQ ?_))))))))
  refine ac_goto ?_
  simp only [lexWord, h1, cond_true, cond_false] at hq
  exact lexj0 (i := (runTo lexInWord s (s.size - (i + 1)) (i + 1))) (n := n) (lexSt_more hm hxs (by have := run_ge1 lexInWord s i; omega) (run_le1 lexInWord hi) (by rfl) Ru1) (List.Sublist.cons _ (List.Sublist.refl _)) rfl rfl rfl rfl rfl rfl (by have := run_ge1 lexInWord s i; omega) (by have := run_ge1 lexInWord s i; omega) hq
set_option maxRecDepth 100000 in
set_option maxHeartbeats 4000000 in
theorem seg4 (s : ByteArray) (hs4 : s.size ≤ 4000) (R : LRes) (K i m ca n : Nat) (line start : Int) (any_ : Bool) (out : List Tok) (aa : Option Addr) (NA : List Box) (xs : List Value) (hSt : LexSt s out i m ca aa xs NA) (here : Cx) (hk : K = 2 * (s.size - i)) (hn : s.size - i ≤ n) (hi : i < s.size) (hq : lexNum (lexRun s n) s i line start out here = R) {E : Env} {H : List Box} {rest : Code} (hc : ((Tryz.f63.body.bind scopeOf).bind fun c => findLabel c 4) = some (.seq .skip rest)) (hsub : List.Sublist NA H) (q0 : E 0 = .string s) (q5 : E 5 = .slice aa m ca) (q6 : E 6 = .int .i64 (i : Int)) (q8 : E 8 = .int .i64 line) (q9 : E 9 = .int .i64 start) (q10 : E 10 = .bool any_) (q12 : E 12 = .complex .f64 (here).re (here).im) : AC Tryz.prog 118 rest (AJ (fun l' E' H' => ∃ k', k' < K ∧ LexJ s R l' k' E' H') (FinG Tryz.prog Tryz.f63 118 (TokPost R))) E H := by
 rw [show ((Tryz.f63.body.bind scopeOf).bind fun c => findLabel c 4) = some (.seq .skip _) from rfl] at hc
 cases hc
 refine ac_drop hsub ?_
 have hSt0 := hSt
 obtain ⟨hm, hxs, hmi, hil, hR⟩ := hSt
 obtain ⟨E0, rfl⟩ : ∃ E0 : Env, E = (((((((E0.put (some 0) (.string s)).put (some 5) (.slice aa m ca)).put (some 6) (.int .i64 (i : Int))).put (some 8) (.int .i64 line)).put (some 9) (.int .i64 start)).put (some 10) (.bool any_)).put (some 12) (.complex .f64 (here).re (here).im)) := ⟨E, by rw [put_self q0, put_self q5, put_self q6, put_self q8, put_self q9, put_self q10, put_self q12]⟩
 refine aQ (aL (aM 78 (.string s) rfl rfl (aM 79 (.int .i64 (i : Int)) rfl rfl (aC 80 (c_runN s i (by omega) hi) Tryz.func103 ⟨rfl, by decide⟩ rfl rfl (aA 7 (.int .i64 ((runTo lexInNum s (s.size - (i + 1)) (i + 1) : Nat) : Int)) rfl rfl (aN (aQ (aQ (aL (aM 82 (.string s) rfl rfl (aM 83 (.int .i64 (i : Int)) rfl rfl (aM 84 (.int .i64 ((runTo lexInNum s (s.size - (i + 1)) (i + 1) : Nat) : Int)) rfl rfl (ao 85 rfl rfl (st_ss (run_bd lexInNum hi) rfl Tryz.underlying9 rfl rfl rfl (aC 86 (c_decRead (subS s (i : Int) ((runTo lexInNum s (s.size - (i + 1)) (i + 1) : Nat) : Int)) (Nat.le_trans (subS_le _ _ _ hs4) (by decide))) Tryz.func28 ⟨rfl, by decide⟩ rfl rfl ?_)))))))))))))))
 refine aM 81 (.tuple #[.agg #[.int .i64 (((decRead (subS s (i : Int) ((runTo lexInNum s (s.size - (i + 1)) (i + 1) : Nat) : Int))).1).c), .int .i64 (((decRead (subS s (i : Int) ((runTo lexInNum s (s.size - (i + 1)) (i + 1) : Nat) : Int))).1).scale)], .bool ((decRead (subS s (i : Int) ((runTo lexInNum s (s.size - (i + 1)) (i + 1) : Nat) : Int))).2)]) rfl rfl (aX 87 (.agg #[.int .i64 (((decRead (subS s (i : Int) ((runTo lexInNum s (s.size - (i + 1)) (i + 1) : Nat) : Int))).1).c), .int .i64 (((decRead (subS s (i : Int) ((runTo lexInNum s (s.size - (i + 1)) (i + 1) : Nat) : Int))).1).scale)]) rfl rfl rfl ?_)
 refine aX 88 (.bool ((decRead (subS s (i : Int) ((runTo lexInNum s (s.size - (i + 1)) (i + 1) : Nat) : Int))).2)) rfl rfl rfl (ao 13 rfl rfl (st_new zero26 rfl fun g0 => (aS [.int .i64 (((decRead (subS s (i : Int) ((runTo lexInNum s (s.size - (i + 1)) (i + 1) : Nat) : Int))).1).c), .int .i64 (((decRead (subS s (i : Int) ((runTo lexInNum s (s.size - (i + 1)) (i + 1) : Nat) : Int))).1).scale)] agg26 0 rfl rfl rfl rfl rfl rfl (aA 14 (.bool ((decRead (subS s (i : Int) ((runTo lexInNum s (s.size - (i + 1)) (i + 1) : Nat) : Int))).2)) rfl rfl (aN (aQ (aL (aM 89 (.bool ((decRead (subS s (i : Int) ((runTo lexInNum s (s.size - (i + 1)) (i + 1) : Nat) : Int))).2)) rfl rfl ?_))))))))
 refine ao 90 rfl rfl (st_un (v := .bool (!((decRead (subS s (i : Int) ((runTo lexInNum s (s.size - (i + 1)) (i + 1) : Nat) : Int))).2))) rfl rfl (un_not rfl) (aN ?_))
 refine bool_split ((decRead (subS s (i : Int) ((runTo lexInNum s (s.size - (i + 1)) (i + 1) : Nat) : Int))).2) (fun h1 => ?_) (fun h1 => ?_)
 ·refine ac_else' (b := !((decRead (subS s (i : Int) ((runTo lexInNum s (s.size - (i + 1)) (i + 1) : Nat) : Int))).2)) (by rw [h1]; rfl) rfl (ac_skip (aQ (aL (aM 92 (.slice aa m ca) rfl rfl (aM 93 (.string s) rfl rfl (aM 94 (.int .i64 (i : Int)) rfl rfl (aM 95 (.int .i64 ((runTo lexInNum s (s.size - (i + 1)) (i + 1) : Nat) : Int)) rfl rfl (ao 96 rfl rfl (st_ss (run_bd lexInNum hi) rfl Tryz.underlying9 rfl rfl rfl (aM 97 (.complex .f64 (here).re (here).im) rfl rfl ?_))))))))))
  refine ao 98 rfl rfl (st_bd (us := [(0, .int .i64 2), (1, .string (subS s (i : Int) ((runTo lexInNum s (s.size - (i + 1)) (i + 1) : Nat) : Int))), (2, .complex .f64 (here).re (here).im)]) (v := .agg #[.int .i64 2, .string (subS s (i : Int) ((runTo lexInNum s (s.size - (i + 1)) (i + 1) : Nat) : Int)), .complex .f64 (here).re (here).im]) rfl rfl (bd108_0_1_2 _ _ _) ?_)
  refine ao 99 rfl rfl (st_bs (us := [(0, .agg #[.int .i64 2, .string (subS s (i : Int) ((runTo lexInNum s (s.size - (i + 1)) (i + 1) : Nat) : Int)), .complex .f64 (here).re (here).im])]) (cs := [.int .i64 2, .string (subS s (i : Int) ((runTo lexInNum s (s.size - (i + 1)) (i + 1) : Nat) : Int)), .complex .f64 (here).re (here).im]) rfl rfl (bs71_1_0a _ _ _) fun g1 => ?_)
  refine ao 100 rfl rfl (st_appZ (A := [⟨g1, [.int .i64 2, .string (subS s (i : Int) ((runTo lexInNum s (s.size - (i + 1)) (i + 1) : Nat) : Int)), .complex .f64 (here).re (here).im], 108, false⟩, ⟨g0, [.int .i64 (((decRead (subS s (i : Int) ((runTo lexInNum s (s.size - (i + 1)) (i + 1) : Nat) : Int))).1).c), .int .i64 (((decRead (subS s (i : Int) ((runTo lexInNum s (s.size - (i + 1)) (i + 1) : Nat) : Int))).1).scale)], 26, false⟩]) (N := NA) (xs := xs) (news := [.int .i64 2, .string (subS s (i : Int) ((runTo lexInNum s (s.size - (i + 1)) (i + 1) : Nat) : Int)), .complex .f64 (here).re (here).im]) (r := []) slT71 rfl rfl rfl hR rfl (List.mem_of_getElem? (i := 0) rfl) rfl rfl rfl rfl (by decide) (by simp only [maxLen]; omega) (by omega) (fun v H H' hp h => ar_perm hp h) fun v9 Nu1 Ru1 => ?_)
  obtain ⟨au1, cu1, rfl⟩ := Ru1.form
  refine aA 5 (.slice au1 (m + 1) cu1) rfl rfl (aN (aQ (aL (aM 101 (.int .i64 ((runTo lexInNum s (s.size - (i + 1)) (i + 1) : Nat) : Int)) rfl rfl (aA 6 (.int .i64 ((runTo lexInNum s (s.size - (i + 1)) (i + 1) : Nat) : Int)) rfl rfl (aA 10 (.bool true) rfl rfl (aN (aQ ?_))))))))
  refine ac_goto ?_
  simp only [lexNum, h1, cond_true, cond_false] at hq
  exact lexj0 (i := (runTo lexInNum s (s.size - (i + 1)) (i + 1))) (n := n) (lexSt_more hm hxs (by have := run_ge1 lexInNum s i; omega) (run_le1 lexInNum hi) (by rfl) Ru1) (List.Sublist.cons _ (List.Sublist.cons _ (List.Sublist.refl _))) rfl rfl rfl rfl rfl rfl (by have := run_ge1 lexInNum s i; omega) (by have := run_ge1 lexInNum s i; omega) hq
 ·refine ac_then' (b := !((decRead (subS s (i : Int) ((runTo lexInNum s (s.size - (i + 1)) (i + 1) : Nat) : Int))).2)) (by rw [h1]; rfl) rfl (aQ (aL (aM 91 (.complex .f64 (here).re (here).im) rfl rfl (aA 2 (.slice none 0 0) rfl rfl (aA 3 (.complex .f64 (here).re (here).im) rfl rfl (aA 4 (.int .i64 2) rfl rfl (aN (ac_ret ?_))))))))
  simp only [lexNum, h1, cond_true, cond_false] at hq
  exact fing_ret (N := []) (tokPost_nil hq) (List.nil_sublist _) rfl (res_ttt rfl rfl rfl rfl)
theorem tok_pass (s : ByteArray) (hs4 : s.size ≤ 4000) (R : LRes) {c : Code} (hc : Tryz.f63.body.bind scopeOf = some c) (l k : Nat) (E : Env) (H : List Box) (h : LexJ s R l k E H) : ∃ rest, findLabel c l = some rest ∧ AC Tryz.prog 118 rest (AJ (fun l' E' H' => ∃ k', k' < k ∧ LexJ s R l' k' E' H') (FinG Tryz.prog Tryz.f63 118 (TokPost R))) E H := by
 have key : ∀ rest, (((Tryz.f63.body.bind scopeOf).bind fun c => findLabel c l) = some rest) → findLabel c l = some rest := by
  intro rest hr
  rw [hc] at hr
  exact hr
 obtain ⟨i, m, ca, n, line, start, any_, here, out, aa, NA, xs, hSt, hsub, q0, q5, q6, q8, q9, q10, h⟩ := h
 rcases h with ⟨rfl, hk, hn, hR⟩ | ⟨q12, hk, hn, ⟨rfl, hR⟩ | ⟨hi, ⟨rfl, hR⟩ | ⟨rfl, hR⟩ | ⟨rfl, hR⟩⟩⟩
 ·obtain ⟨n, rfl⟩ : ∃ n', n = n' + 1 := ⟨n - 1, by omega⟩
  exact ⟨_, key _ rfl, ac_seq (ac_skip (seg0 s hs4 R k i m ca n line start any_ out aa NA xs hSt hk (by omega) hR rfl hsub q0 q5 q6 q8 q9 q10))⟩
 ·exact ⟨_, key _ rfl, ac_seq (ac_skip (seg1 s hs4 R k i m ca n line start any_ out aa NA xs hSt here hk hn hR rfl hsub q0 q5 q6 q8 q9 q10 q12))⟩
 ·exact ⟨_, key _ rfl, ac_seq (ac_skip (seg2 s hs4 R k i m ca n line start any_ out aa NA xs hSt here hk hn hi hR rfl hsub q0 q5 q6 q8 q9 q10 q12))⟩
 ·exact ⟨_, key _ rfl, ac_seq (ac_skip (seg3 s hs4 R k i m ca n line start any_ out aa NA xs hSt here hk hn hi hR rfl hsub q0 q5 q6 q8 q9 q10 q12))⟩
 ·exact ⟨_, key _ rfl, ac_seq (ac_skip (seg4 s hs4 R k i m ca n line start any_ out aa NA xs hSt here hk hn hi hR rfl hsub q0 q5 q6 q8 q9 q10 q12))⟩
set_option maxRecDepth 100000 in
theorem c_tokBig (s : ByteArray) (hs : 4000 < s.size) : Gives Tryz.prog 63 #[.string s] [] (TokPost (lexAll s)) := by
 refine gives_fin Tryz.func63 rfl rfl rfl rfl (aQ (aL (aA 2 (.slice none 0 0) rfl rfl (aA 3 (.complex .f64 ((⟨0, 0⟩ : Cx)).re ((⟨0, 0⟩ : Cx)).im) rfl rfl (aA 4 (.int .i64 0) rfl rfl (aN ?_))))))
 refine ac_scope (fun l k E H => False) ?_ ?_
 rotate_left
 ·intro l k E H h; exact h.elim
 refine aQ (aL (aA 5 (.slice none 0 0) rfl rfl (aN (aQ (aL (aA 6 (.int .i64 0) rfl rfl (aA 7 (.int .i64 0) rfl rfl (aN (aQ (aL (aA 8 (.int .i64 1) rfl rfl (aA 9 (.int .i64 0) rfl rfl (aN (aQ (aL (aA 10 (.bool false) rfl rfl (aN (aQ (aL (aA 11 (.int .u8 0) rfl rfl (aN (aQ (aL (aA 12 (.complex .f64 ((⟨0, 0⟩ : Cx)).re ((⟨0, 0⟩ : Cx)).im) rfl rfl (aN (aQ (aQ (aL (aM 15 (.string s) rfl rfl (ao 16 rfl rfl (st_slen (s := s) rfl Tryz.underlying9 rfl (aB 17 (.bool (decide (((s).size : Int) > 4000))) rfl rfl rfl (bi_gtr rfl) (aN (ac_then' (b := decide (((s).size : Int) > 4000)) (decide_eq_true (by omega)) rfl (aQ (aL (aA 2 (.slice none 0 0) rfl rfl ?_)))))))))))))))))))))))))))))))))))))
 refine aA 3 (.complex .f64 ((⟨0, 0⟩ : Cx)).re ((⟨0, 0⟩ : Cx)).im) rfl rfl (aA 4 (.int .i64 3) rfl rfl (aN (ac_ret ?_)))
 exact fing_ret (N := []) (tokPost_nil (by rw [lexAll, decide_eq_true (by omega)]; rfl)) (List.nil_sublist _) rfl (res_ttt rfl rfl rfl rfl)
set_option maxRecDepth 100000 in
theorem c_tokFit (s : ByteArray) (hs : s.size ≤ 4000) : Gives Tryz.prog 63 #[.string s] [] (TokPost (lexAll s)) := by
 refine gives_fin Tryz.func63 rfl rfl rfl rfl (aQ (aL (aA 2 (.slice none 0 0) rfl rfl (aA 3 (.complex .f64 ((⟨0, 0⟩ : Cx)).re ((⟨0, 0⟩ : Cx)).im) rfl rfl (aA 4 (.int .i64 0) rfl rfl (aN ?_))))))
 refine ac_scope (fun l k E H => LexJ s (lexAll s) l k E H) ?_ ?_
 rotate_left
 ·intro l k E H h; exact tok_pass s (by omega) (lexAll s) rfl l k E H h
 refine aQ (aL (aA 5 (.slice none 0 0) rfl rfl (aN (aQ (aL (aA 6 (.int .i64 0) rfl rfl (aA 7 (.int .i64 0) rfl rfl (aN (aQ (aL (aA 8 (.int .i64 1) rfl rfl (aA 9 (.int .i64 0) rfl rfl (aN (aQ (aL (aA 10 (.bool false) rfl rfl (aN (aQ (aL (aA 11 (.int .u8 0) rfl rfl (aN (aQ (aL (aA 12 (.complex .f64 ((⟨0, 0⟩ : Cx)).re ((⟨0, 0⟩ : Cx)).im) rfl rfl (aN (aQ (aQ (aL (aM 15 (.string s) rfl rfl (ao 16 rfl rfl (st_slen (s := s) rfl Tryz.underlying9 rfl (aB 17 (.bool (decide (((s).size : Int) > 4000))) rfl rfl rfl (bi_gtr rfl) (aN (ac_else' (b := decide (((s).size : Int) > 4000)) (decide_eq_false (by omega)) rfl (ac_skip (aQ ?_))))))))))))))))))))))))))))))))))))
 refine ac_label ?_
 exact AC.mono (seg0 s (by omega) (lexAll s) (2 * (s.size - 0) + 1) 0 0 0 s.size 1 0 false [] none [] [] ⟨rfl, rfl, Nat.le_refl _, Nat.zero_le _, Row.nil _ _⟩ rfl (by omega) (by rw [lexAll, decide_eq_false (by omega)]; rfl) rfl (List.Sublist.refl _) rfl rfl rfl rfl rfl rfl) aj_weak
theorem c_tokens (s : ByteArray) : Gives Tryz.prog 63 #[.string s] [] (TokPost (lexAll s)) := by
 by_cases h : s.size ≤ 4000
 ·exact c_tokFit s h
 ·exact c_tokBig s (by omega)
end Go.Proofs.YtalffjplbhelcaaGreatDoor
namespace Go.Proofs.YtalffjplbhelcaaGreatDoor
open Go.RowKit
section
variable {p : Program} {n : Nat} {o : Oper} {H : List Box} {ρ : Operand → Value} {K : Post}
end
end Go.Proofs.YtalffjplbhelcaaGreatDoor
namespace Go.Proofs.YtalffjplbhelcaaGreatDoor
open Go.RowKit
end Go.Proofs.YtalffjplbhelcaaGreatDoor
namespace Go.Proofs.YtalffjplbhelcaaGreatDoor
open Go.RowKit
end Go.Proofs.YtalffjplbhelcaaGreatDoor
namespace Go.Proofs.YtalffjplbhelcaaGreatDoor
open Go.RowKit
attribute [local irreducible] AC AR DWalk
def hPick_e0 (n : Int) (m : Int) : Int := (bif decide ((Int.tmod n m) < 0) then (w64 ((Int.tmod n m) + m)) else (Int.tmod n m))
def hPick (n : Int) (m : Int) : Int := (hPick_e0 n m)
end Go.Proofs.YtalffjplbhelcaaGreatDoor
namespace Go.Proofs.YtalffjplbhelcaaGreatDoor
end Go.Proofs.YtalffjplbhelcaaGreatDoor
namespace Go.Proofs.YtalffjplbhelcaaGreatDoor
end Go.Proofs.YtalffjplbhelcaaGreatDoor
namespace Go.Proofs.YtalffjplbhelcaaGreatDoor
section
variable {p : Program} {n : Nat} {o : Oper} {H : List Box} {ρ : Operand → Value} {K : Post}
theorem st_ldm {t t0 : TypeId} {x : Operand} {g off : Nat} {cs : List Value} {ro : Bool} {v : Value} (ha : IsCell p t) (ho : o.op = .load t x) (hx : ρ x = .pointer (some ⟨g, off, none⟩)) (hm : (⟨g, cs, t0, ro⟩ : Box) ∈ H) (hc : cs[off]? = some v) (k : K v H) : Step p ρ o H K := by
  obtain ⟨i, hi⟩ := List.getElem?_of_mem hm
  exact st_ldc (g := g) (off := off) (v := v) ha i ho hx hi rfl hc k
end
theorem flatT_at (T : List Tok) (r : List Value) (i : Nat) (t : Tok) (h : T[i]? = some t) (j : Nat) (hj : j < 3) : (flatT T ++ r)[i * 3 + j]? = t.cells[j]? := by
  induction T generalizing i with
  | nil => simp at h
  | cons a T ih =>
    cases i with
    | zero =>
      simp only [List.getElem?_cons_zero, Option.some.injEq] at h
      subst h
      have e : flatT (a :: T) = a.cells ++ flatT T := by simp [flatT]
      rw [e, List.append_assoc, List.getElem?_append_left (by simp [Tok.cells]; omega)]
      simp
    | succ i =>
      simp only [List.getElem?_cons_succ] at h
      have e : flatT (a :: T) = a.cells ++ flatT T := by simp [flatT]
      rw [e, List.append_assoc, List.getElem?_append_right (by simp [Tok.cells]; omega)]
      have e2 : (i + 1) * 3 + j - a.cells.length = i * 3 + j := by simp [Tok.cells]; omega
      rw [e2]
      exact ih i h
theorem flatT_kind (T : List Tok) (r : List Value) (i : Nat) (t : Tok) (h : T[i]? = some t) : (flatT T ++ r)[0 + i * 3 + 0]? = some (.int .i64 t.kind) := by
  rw [Nat.zero_add]; exact flatT_at T r i t h 0 (by omega)
theorem flatT_text (T : List Tok) (r : List Value) (i : Nat) (t : Tok) (h : T[i]? = some t) : (flatT T ++ r)[0 + i * 3 + 1]? = some (.string t.text) := by
  rw [Nat.zero_add]; exact flatT_at T r i t h 1 (by omega)
theorem tok_cases {R : LRes} {v : Value} {N : List Box} (h : TokPost R v N) : ∃ (a : Option Addr) (ca : Nat), v = .tuple #[.slice a R.1.length ca, .complex .f64 R.2.1.re R.2.1.im, .int .i64 R.2.2] ∧ R.1.length ≤ 4001 ∧
    (∀ i, i < R.1.length → ∃ (g : Nat) (r : List Value), a = some ⟨g, 0, none⟩ ∧ (⟨g, flatT R.1 ++ r, 108, false⟩ : Box) ∈ N) := by
  obtain ⟨m, ca, aa, xs, rfl, rfl, h4, rfl, hR⟩ := h
  refine ⟨aa, ca, rfl, h4, fun i hi => ?_⟩
  rcases hR with ⟨h0, _⟩ | ⟨g, cap, rest, hv, hN, _⟩
  · omega
  · cases hv
    exact ⟨g, rest, rfl, by rw [hN]; exact List.mem_singleton.2 rfl⟩
end Go.Proofs.YtalffjplbhelcaaGreatDoor
namespace Go.Proofs.YtalffjplbhelcaaGreatDoor
open Go.RowKit
section
variable {p : Program} {n : Nat} {o : Oper} {H : List Box} {ρ : Operand → Value} {K : Post}
theorem st_ldam {t t0 m : TypeId} {x : Operand} {g off : Nat} {cs vs : List Value} {ro : Bool} (ha : IsAgg p t m) (ho : o.op = .load t x) (hx : ρ x = .pointer (some ⟨g, off, none⟩)) (hm : (⟨g, cs, t0, ro⟩ : Box) ∈ H) (hn : vs.length = m) (hc : (cs.drop off).take m = vs) (k : K (.agg vs.toArray) H) : Step p ρ o H K := by
  obtain ⟨i, hi⟩ := List.getElem?_of_mem hm
  exact st_lda (g := g) (off := off) (vs := vs) ha i ho hx hi rfl hn hc k
theorem has_self (R : List Box) : Has R R := fun b hb => ⟨b, hb, rfl, rfl, rfl⟩
theorem st_ownT {K : Post} (h : (H.map Box.g).Nodup → Step p ρ o H K) : Step p ρ o H K := fun F β w hO hB => h (by
  have := hO.apart
  rw [List.map_append, List.nodup_append] at this
  exact this.1) F β w hO hB
end
theorem has_tl {H R : List Box} {b : Box} (h : Has H R) : Has (b :: H) R := fun x hx => by
  obtain ⟨c, hc, h1⟩ := h x hx
  exact ⟨c, List.mem_cons_of_mem _ hc, h1⟩
theorem nd_tl {H : List Box} {b : Box} (h : ((b :: H).map Box.g).Nodup) : (H.map Box.g).Nodup := (List.nodup_cons.1 h).2
theorem nd_two {l : List Nat} {g1 g2 : Nat} (h : l.Nodup) (i j : Nat) (h1 : l[i]? = some g1) (h2 : l[j]? = some g2) (hij : i ≠ j) : [g1, g2].Nodup := by
  rw [List.nodup_iff_pairwise_ne, List.pairwise_iff_getElem] at h
  obtain ⟨a1, a2⟩ := List.getElem?_eq_some_iff.1 h1
  obtain ⟨b1, b2⟩ := List.getElem?_eq_some_iff.1 h2
  have hne : g1 ≠ g2 := by
    rcases Nat.lt_or_gt_of_ne hij with hlt | hlt
    · have := h i j a1 b1 hlt
      rw [a2, b2] at this
      exact this
    · have := h j i b1 a1 hlt
      rw [a2, b2] at this
      exact fun e => this e.symm
  simp [hne]
theorem flatT_drop (T : List Tok) (r : List Value) (i : Nat) (t : Tok) (h : T[i]? = some t) : ((flatT T ++ r).drop (0 + i * 3)).take 3 = t.cells := by
  rw [Nat.zero_add]
  apply List.ext_getElem?
  intro j
  rw [List.getElem?_take]
  by_cases hj : j < 3
  · rw [if_pos hj, List.getElem?_drop]
    exact flatT_at T r i t h j hj
  · rw [if_neg hj, List.getElem?_eq_none]
    show 3 ≤ j
    omega
end Go.Proofs.YtalffjplbhelcaaGreatDoor
namespace Go.Proofs.YtalffjplbhelcaaGreatDoor
open Go.RowKit
def Does (p : Program) (f : FuncId) (args : Array Value) (H : List Box) (K : Value → List Box → Prop) : Prop :=
  ∀ w, Own (nowB H w) H w → Calls p f args w fun e w' => ∃ v H', e = .returned v ∧ K v H' ∧ (H'.all fun b => !b.ro) = true ∧ Own (nowB H w) H' w' ∧ Keeps (nowB H w) w'
section
variable {p : Program} {n : Nat} {o : Oper} {H A Hb : List Box} {ρ : Operand → Value} {K : Post}
theorem Own.mid {β : Base} {H H' A : List Box} {w w' : World} (hO : Own β (H ++ A) w) (hB : Keeps β w) (hfree : (H'.all fun b => !b.ro) = true) (hO2 : Own (nowB H w) H' w') (hK : Keeps (nowB H w) w') : Own β (H' ++ A) w' ∧ Keeps β w' := by
  have hOb : Own β H w := Own.sub (List.sublist_append_left _ _) hO
  have hnd := hO.apart
  rw [List.map_append, List.nodup_append] at hnd
  have hout : ∀ b ∈ A, ¬ (nowB H w).may b.g := by
    rintro b hb (h1 | ⟨c, hc, _, e⟩)
    · have := hO.lt (List.mem_append_right _ hb)
      exact absurd this (Nat.not_lt.2 h1)
    · exact hnd.2.2 c.g (List.mem_map.2 ⟨c, hc, rfl⟩) b.g (List.mem_map.2 ⟨b, hb, rfl⟩) e
  have hin : ∀ b ∈ H', (nowB H w).may b.g := fun b hb => (hO2.at_ b hb).1.resolve_left (by
    have := List.all_eq_true.1 hfree b hb
    simpa using this)
  refine ⟨⟨Nat.le_trans hO.size hK.size, ?_, ?_⟩, ⟨hB.base.trans hK.base, fun g hg => by rw [hK.block g (fun h => hg (now_may hOb h))]; exact hB.block g hg⟩⟩
  · intro b hb
    rcases List.mem_append.1 hb with hb | hb
    · exact ⟨(hO2.at_ b hb).1.imp id (now_may hOb), (hO2.at_ b hb).2⟩
    · obtain ⟨h1, h2⟩ := hO.at_ b (List.mem_append_right _ hb)
      exact ⟨h1, by rw [hK.block _ (hout b hb)]; exact h2⟩
  · rw [List.map_append, List.nodup_append]
    refine ⟨hO2.apart, hnd.2.1, ?_⟩
    intro x hx y hy e
    obtain ⟨b, hb, rfl⟩ := List.mem_map.1 hx
    obtain ⟨c, hc, rfl⟩ := List.mem_map.1 hy
    exact hout c hc (e ▸ hin b hb)
theorem st_does {f : FuncId} {x : Operand} {args : List Operand} {ts : Array TypeId} {vs : List Value} {fn : Func} {c : Code} {K0 : Value → List Box → Prop} (h : Does p f vs.toArray Hb K0) (hfn : p.funcs[f]? = some fn) (hb : fn.body = some c) (hnm : (fn.name == "runtime.NumGoroutine") = false)
    (ho : o.op = .call { callee := .value x, args := args.toArray, argTypes := ts }) (hf : ρ x = .func (.func f) #[] #[]) (hv : args.map ρ = vs) (hH : H = Hb ++ A) (k : ∀ v H', K0 v H' → K v (H' ++ A)) : Step p ρ o H K := by
  intro F β w hO hB
  subst hH
  have e : (execOp ρ o).run p w = .ok (.enter f vs.toArray) w := by
    rw [execOp, ho]
    simp only [resolve, hf, Deferred.ofValue, List.map_toArray, hv]
    have hnm' : ¬ fn.name = "runtime.NumGoroutine" := by simpa using hnm
    simp [Sem.run_bind, invoke, callFunc, hfn, hnm', hb]
  rw [e]
  rw [List.append_assoc] at hO
  refine (h w (Own.sub (List.sublist_append_left _ _) hO).now).mono ?_
  rintro e w' ⟨v, H', he, hk, hfree, hO2, hK⟩
  obtain ⟨x1, x2⟩ := Own.mid hO hB hfree hO2 hK
  exact ⟨v, H' ++ A, he, k _ _ hk, by rw [List.append_assoc]; exact x1, x2⟩
theorem does_fin {f : FuncId} {fn : Func} {c : Code} {args : Array Value} (hf : p.funcs[f]? = some fn) (hb : fn.body = some c) (ha : Nat.ble args.size fn.ntmps = true) (h : AC p fn.ntmps c (FinG p fn fn.ntmps K) (envOf args) H) : Does p f args H K := by
  intro w hO
  refine calls_of_wp hf hb ?_
  refine Code.wp_mono ?_ (h (nowB H w) w _ hO (Keeps.refl _ _) (sees_start rfl ha))
  rintro e a w' ⟨E, H', ⟨he, v, N, hk, hsub, hfree, hr⟩, hs, hO2, hK⟩
  rcases he with rfl | rfl
  · exact ⟨hs.defers, v, hr _ _ _ hO2 hs, v, N, rfl, hk, hfree, hO2.sub hsub, hK⟩
  · exact ⟨hs.defers, v, hr _ _ _ hO2 hs, v, N, rfl, hk, hfree, hO2.sub hsub, hK⟩
end
end Go.Proofs.YtalffjplbhelcaaGreatDoor
namespace Go.Proofs.YtalffjplbhelcaaGreatDoor
open Go.RowKit Go.Lib
section
variable {p : Program} {n : Nat} {o : Oper} {H A : List Box} {ρ : Operand → Value} {K : Post}
theorem st_appS {t u e k : Nat} {x y : Operand} {v : Value} {xs : List Value} {s : ByteArray} {N : List Box} (ht : p.underlying t = some (.slice e)) (hus : p.underlying u = some .string) (hi0 : (p.info? e).map (fun i => (i.zero, i.size, i.bytes)) = some (some (.int .u8 0), 1, 1))
    (ho : o.op = .call { callee := .builtin .append, args := #[x, y], argTypes := #[t, u] }) (hx : ρ x = v) (hy : ρ y = .string s) (hR : Row e 1 k xs v N) (hH : H = A ++ N) (h63 : k + s.size ≤ maxLen) (hby : k + s.size ≤ 140737488355328)
    (kk : ∀ v' N', Row e 1 (k + s.size) (xs ++ strCells s) v' N' → K v' (N' ++ A)) : Step p ρ o H K := by
  intro F β w hO hB
  subst hH
  obtain ⟨inf, hi, hq⟩ := Option.map_eq_some_iff.1 hi0
  simp only [Prod.mk.injEq] at hq
  obtain ⟨hz, hsz, hbz⟩ := hq
  have hsmall : k + s.size ≤ 9223372036854775807 := by simp only [maxLen] at h63; omega
  have hO1 : Own β (N ++ (A ++ F)) w := by
    refine hO.perm ?_
    rw [← List.append_assoc]
    exact List.Perm.append_right F List.perm_append_comm
  have ex : ∀ w, (execOp ρ o).run p w = (match (Builtin.append_ #[t, u] o.type #[v, .string s]).run p w with | .ok u w' => .ok (.value u) w' | .halt x w' => .halt x w') := by
    intro w
    rw [execOp, ho]
    simp only [resolve, List.map_toArray, List.map_cons, List.map_nil, hx, hy]
    simp [invoke, builtin, Sem.run_bind]
    cases (Builtin.append_ #[t, u] o.type #[v, .string s]).run p w <;> rfl
  have hsl : (strCells s).length = s.size := strCells_length s
  have z1 : (Value.int IntKind.u8 0).cells.size = 1 := rfl
  have zl : ∀ j, (Builtin.zeroCells (Value.int .u8 0).cells j).toList.length = j := by intro j; simp [Builtin.zeroCells, z1]
  rw [ex]
  rcases hR with ⟨rfl, rfl, rfl, rfl⟩ | ⟨g, cap, rest, rfl, rfl, hxl, hcl, hkc, hcm⟩
  · by_cases hm : s.size = 0
    · have hn : strCells s = [] := List.eq_nil_of_length_eq_zero (by rw [hsl]; exact hm)
      have hf := run_firstCells_string (P := p) w 1 s
      rw [hm] at hf
      have hr : (Builtin.append_ #[t, u] o.type #[.slice none 0 0, .string s]).run p w = .ok (.slice none 0 0) w := by
        simp [Builtin.append_, run_underlying ht, run_underlying hus, sizeOf, typeInfo, hi, hsz, Builtin.lenOf, hm, hf]
      rw [hr]
      exact ⟨_, kk _ [] (by rw [hm, hn]; exact Row.nil _ _), by rw [List.nil_append]; exact hO1, hB⟩
    · have hr := run_append_nil_string (P := p) w t u o.type e inf (.int .u8 0) ht hus hi hz s (by omega) (by omega) (by rw [hbz]; omega)
      rw [hr]
      have hge := grownCap_ge w s.size 0 e
      have hcm := grownCap_le_maxLen w s.size 0 e (by omega)
      have e0 : (s.data.map fun b => Value.int .u8 b.toNat) = (strCells s).toArray := by
        apply Array.ext'
        simp [strCells]
      rw [e0]
      refine ⟨_, kk _ [⟨w.heap.size, strCells s ++ (Builtin.zeroCells (Value.int .u8 0).cells (grownCap w s.size 0 e - s.size)).toList, e, false⟩] (.inr ⟨w.heap.size, _, _, by rw [Nat.zero_add], by rw [List.nil_append], by rw [List.nil_append, hsl]; omega, ?_, by omega, hcm⟩), ?_, (hB.drew).alloc _⟩
      · rw [List.nil_append, List.length_append, zl, hsl]; omega
      · have h3 := hO1.drew.alloc (strCells s ++ (Builtin.zeroCells (Value.int .u8 0).cells (grownCap w s.size 0 e - s.size)).toList) e
        simp only [List.nil_append] at h3
        have e1 : (strCells s ++ (Builtin.zeroCells (Value.int .u8 0).cells (grownCap w s.size 0 e - s.size)).toList).toArray = (strCells s).toArray ++ Builtin.zeroCells (Value.int .u8 0).cells (grownCap w s.size 0 e - s.size) := by
          apply Array.ext'
          simp
        rw [e1] at h3
        exact h3
  · obtain ⟨fr, hf, hgb⟩ := (hO1.at_ _ (List.mem_append_left _ (List.mem_singleton.2 rfl))).2
    obtain rfl := hf rfl
    simp only at hgb
    rw [Nat.mul_one] at hxl hcl
    by_cases hroom : k + s.size ≤ cap
    · have hr := run_append_room_string (P := p) w t u o.type e inf ht hus hi hsz g k cap (xs ++ rest).toArray hgb s hroom (by rw [List.size_toArray, hcl]; exact hroom)
      rw [hr]
      have e1 : (xs ++ rest).toArray.toList.take k ++ strCells s ++ (xs ++ rest).toArray.toList.drop (k + s.size) = xs ++ strCells s ++ rest.drop s.size := by
        simp only [List.toList_toArray]
        rw [← hxl, List.take_left, List.drop_length_add_append]
      rw [e1]
      have hmay : β.may g := (((hO1.at_ _ (List.mem_append_left _ (List.mem_singleton.2 rfl))).1).resolve_left (by simp))
      refine ⟨_, kk _ [⟨g, xs ++ strCells s ++ rest.drop s.size, e, false⟩] (.inr ⟨g, cap, _, rfl, rfl, ?_, ?_, hroom, hcm⟩), ?_, hB.setRow _ _ hmay⟩
      · rw [List.length_append, hxl, hsl, Nat.mul_one]
      · rw [List.length_append] at hcl
        simp only [List.length_append, List.length_drop, hsl, Nat.mul_one]
        omega
      · have h3 := hO1.set 0 _ rfl rfl (xs ++ strCells s ++ rest.drop s.size)
        exact h3
    · have hold : ∀ j u, xs[j]? = some u → w.cell? ((⟨g, 0, none⟩ : Addr).add j) = some u := by
        intro j u hj
        rw [add_at, Nat.zero_add, cell_of_row w g j _ _ _ hgb]
        simp only [List.getElem?_toArray]
        rw [List.getElem?_append_left (List.getElem?_eq_some_iff.1 hj).1, hj]
      have hr := run_append_grow_string (P := p) w t u o.type e inf (.int .u8 0) ht hus hi hz ⟨g, 0, none⟩ k cap xs (by rw [hsz, Nat.mul_one]; exact hxl) hold s (by omega) (by omega) (by rw [hbz]; exact growslice_fits (by omega) (by omega))
      rw [hr]
      have hge := grownCap_ge w (k + s.size) cap e
      have hcm := grownCap_le_maxLen w (k + s.size) cap e h63
      refine ⟨_, kk _ [⟨w.heap.size, xs ++ strCells s ++ (Builtin.zeroCells (Value.int .u8 0).cells (grownCap w (k + s.size) cap e - (k + s.size))).toList, e, false⟩] (.inr ⟨w.heap.size, _, _, rfl, rfl, ?_, ?_, hge, hcm⟩), ?_, (hB.drew).alloc _⟩
      · rw [List.length_append, hxl, hsl, Nat.mul_one]
      · simp only [List.length_append, zl, hsl, hxl, Nat.mul_one]
        omega
      · have h2 : Own β (A ++ F) w := Own.sub (List.sublist_append_right _ _) hO1
        have h3 := h2.drew.alloc (xs ++ strCells s ++ (Builtin.zeroCells (Value.int .u8 0).cells (grownCap w (k + s.size) cap e - (k + s.size))).toList) e
        have e1 : (xs ++ strCells s ++ (Builtin.zeroCells (Value.int .u8 0).cells (grownCap w (k + s.size) cap e - (k + s.size))).toList).toArray = xs.toArray ++ (strCells s).toArray ++ Builtin.zeroCells (Value.int .u8 0).cells (grownCap w (k + s.size) cap e - (k + s.size)) := by
          apply Array.ext'
          simp
        rw [e1] at h3
        exact h3
theorem st_appSZ {t u e k : Nat} {x y : Operand} {v : Value} {xs : List Value} {s : ByteArray} {N : List Box} (ht : p.underlying t = some (.slice e)) (hus : p.underlying u = some .string) (hi0 : (p.info? e).map (fun i => (i.zero, i.size, i.bytes)) = some (some (.int .u8 0), 1, 1))
    (ho : o.op = .call { callee := .builtin .append, args := #[x, y], argTypes := #[t, u] }) (hx : ρ x = v) (hy : ρ y = .string s) (hR : Row e 1 k xs v N) (hH : H = A ++ N) (h63 : k + s.size ≤ maxLen) (hby : k + s.size ≤ 140737488355328)
    (hK : ∀ v H H', H.Perm H' → K v H → K v H') (kk : ∀ v' N', Row e 1 (k + s.size) (xs ++ strCells s) v' N' → K v' (A ++ N')) : Step p ρ o H K :=
  st_appS ht hus hi0 ho hx hy hR hH h63 hby fun v' N' h => hK _ _ _ List.perm_append_comm (kk v' N' h)
theorem res_0 {E : Env} {fn : Func} (h : fn.results = #[]) : Res p fn n E H (.tuple #[]) := by
  intro β w a hO hs
  simp [results, h, Sem.run_bind]
theorem st_nck {x : Operand} {a : Addr} (ho : o.op = .nilCheck x) (hx : ρ x = .pointer (some a)) (k : K (.pointer (some a)) H) : Step p ρ o H K :=
  st_val (fun w => by rw [execOp, ho]; simp [hx, Sem.run_bind]) k
theorem bp_nil {t : Nat} (hu : p.underlying t = some (.pointer n)) (x y : Operand) : Runs p (do eqGuard .eql t x y (.pointer none) (.pointer none); binOp .eql t (.pointer none) (.pointer none)) (.bool true) := ⟨fun w => by
  have h : (Op.equalIn Op.maxDepth t (.pointer none) (.pointer none)).run p w = .ok true w := by
    show (Op.equalIn (9999 + 1) t (.pointer none) (.pointer none)).run p w = _
    rw [Op.equalIn, Sem.run_bind, run_underlying hu w]
    rfl
  simp [eqGuard, binOp, Sem.run_bind, Op.equal, h, Result.andThen]⟩
theorem bp_some {t : Nat} {a : Addr} (hu : p.underlying t = some (.pointer n)) (x y : Operand) : Runs p (do eqGuard .eql t x y (.pointer (some a)) (.pointer none); binOp .eql t (.pointer (some a)) (.pointer none)) (.bool false) := ⟨fun w => by
  have h : (Op.equalIn Op.maxDepth t (.pointer (some a)) (.pointer none)).run p w = .ok false w := by
    show (Op.equalIn (9999 + 1) t (.pointer (some a)) (.pointer none)).run p w = _
    rw [Op.equalIn, Sem.run_bind, run_underlying hu w]
    rfl
  simp [eqGuard, binOp, Sem.run_bind, Op.equal, h, Result.andThen]⟩
theorem bp_ne {t : Nat} {a : Addr} {c : Nat} (hu : p.underlying t = some (.pointer n)) (hj : (p.info? n).map (·.size) = some c) (x y : Operand) : Runs p (do eqGuard .neq t x y (.pointer (some a)) (.pointer (some a)); binOp .neq t (.pointer (some a)) (.pointer (some a))) (.bool false) := ⟨fun w => by
  obtain ⟨inf, hi, _⟩ := Option.map_eq_some_iff.1 hj
  have h := run_neq_ptr_same (P := p) w a hu hi
  simp [eqGuard, Sem.run_bind, h, Result.andThen]⟩
theorem st_cvU {t u e c : Nat} {x : Operand} {g : Nat} {b : Box} (i : Nat) (ho : o.op = .convert t u x) (hx : ρ x = .pointer (some ⟨g, 0, none⟩)) (hs : p.underlying t = some (.pointer e)) (hd : p.underlying u = some .unsafePointer) (hj : (p.info? e).map (·.size) = some c) (hc : c ≠ 0) (hm : H[i]? = some b) (hg : b.g = g) (hl : 0 < b.cs.length) (k : K (.pointer (some ⟨g, 0, none⟩)) H) : Step p ρ o H K := by
  intro F β w hO hB
  obtain ⟨fr, _, hb⟩ := (hO.at_ b (List.mem_append_left _ (List.mem_of_getElem? hm))).2
  obtain ⟨inf, hi, hq⟩ := Option.map_eq_some_iff.1 hj
  have hsh : w.shape? g = some (b.t, b.cs.length) := by rw [← hg]; simp [World.shape?, hb]
  have hr := run_to_unsafe (P := p) (w := w) (src := t) (dst := u) (t := e) ⟨g, 0, none⟩ hs hd hi (by rw [hq]; exact hc) hsh hl
  have e : (execOp ρ o).run p w = .ok (.value (.pointer (some ⟨g, 0, none⟩))) w := by
    rw [execOp, ho]
    simp only [hx]
    simp [Sem.run_bind, hr]
  rw [e]
  exact ⟨H, k, hO, hB⟩
theorem st_cvP {t u e : Nat} {x : Operand} {g : Nat} {b : Box} {c : Nat} (i : Nat) (ho : o.op = .convert t u x) (hx : ρ x = .pointer (some ⟨g, 0, none⟩)) (hs : p.underlying t = some .unsafePointer) (hd : p.underlying u = some (.pointer e)) (hj : (p.info? e).map (·.size) = some c) (hm : H[i]? = some b) (hg : b.g = g) (hlies : liesAt p p.depth b.t (b.cs.length / p.cellsOf b.t) 0 e 1 = true) (k : K (.pointer (some ⟨g, 0, none⟩)) H) : Step p ρ o H K := by
  intro F β w hO hB
  obtain ⟨fr, _, hb⟩ := (hO.at_ b (List.mem_append_left _ (List.mem_of_getElem? hm))).2
  obtain ⟨inf, hi, hq⟩ := Option.map_eq_some_iff.1 hj
  have hsh : w.shape? g = some (b.t, b.cs.length) := by rw [← hg]; simp [World.shape?, hb]
  have hr := run_from_unsafe (P := p) (w := w) (src := t) (dst := u) (u := e) ⟨g, 0, none⟩ hs hd hi hsh hlies
  have e : (execOp ρ o).run p w = .ok (.value (.pointer (some ⟨g, 0, none⟩))) w := by
    rw [execOp, ho]
    simp only [hx]
    simp [Sem.run_bind, hr]
  rw [e]
  exact ⟨H, k, hO, hB⟩
theorem st_noesc {f : FuncId} {x : Operand} {args : List Operand} {ts : Array TypeId} {v : Value} {fn : Func} (hf : p.funcs[f]? = some fn) (hname : (fn.name == "runtime.NumGoroutine") = false) (hb : fn.body.isNone = true) (hn : Extern.findNext fn = none) (he : Extern.find fn = some Extern.AbiNoEscape.same)
    (ho : o.op = .call { callee := .value x, args := args.toArray, argTypes := ts }) (hx : ρ x = .func (.func f) #[] #[]) (hv : args.map ρ = [v]) (k : K v H) : Step p ρ o H K := by
  refine st_val (fun w => ?_) k
  rw [execOp, ho]
  simp only [resolve, hx, Deferred.ofValue, List.map_toArray, hv]
  have hr := run_callFunc_extern hf hname hb hn he #[v] w
  rw [run_noEscape] at hr
  simp only [Result.andThen] at hr
  simp [Sem.run_bind, invoke, hr]
end
end Go.Proofs.YtalffjplbhelcaaGreatDoor
namespace Go.Proofs.YtalffjplbhelcaaGreatDoor
open Go.RowKit
attribute [local irreducible] AC AR DWalk
structure D3 where
 d0 : Dec
 d1 : Dec
 d2 : Dec
deriving DecidableEq
structure Glass where
 name : ByteArray
 b : D3
 c : D3
deriving DecidableEq
def Glass.cells (s : Glass) : List Value := [.string s.name, .int .i64 s.b.d0.c, .int .i64 s.b.d0.scale, .int .i64 s.b.d1.c, .int .i64 s.b.d1.scale, .int .i64 s.b.d2.c, .int .i64 s.b.d2.scale, .int .i64 s.c.d0.c, .int .i64 s.c.d0.scale, .int .i64 s.c.d1.c, .int .i64 s.c.d1.scale, .int .i64 s.c.d2.c, .int .i64 s.c.d2.scale]
def Glass.zero : Glass := ⟨⟨#[]⟩, ⟨⟨0, 0⟩, ⟨0, 0⟩, ⟨0, 0⟩⟩, ⟨⟨0, 0⟩, ⟨0, 0⟩, ⟨0, 0⟩⟩⟩
def GlI (a : Option Addr) (m : Nat) (x : Nat → Glass) (H : List Box) : Prop :=
 ∀ i, i < m → ∃ (g off : Nat) (cs : List Value) (t : TypeId) (r : Bool), a = some ⟨g, off, none⟩ ∧ (⟨g, cs, t, r⟩ : Box) ∈ H ∧ (cs.drop (off + i * 13)).take 13 = (x i).cells
def gFind (x : Nat → Glass) (nm : ByteArray) : Nat → Nat → Glass × Bool
 | 0, _ => (Glass.zero, false)
 | j + 1, i => bif sEq (x i).name nm then (x i, true) else gFind x nm j (i + 1)
end Go.Proofs.YtalffjplbhelcaaGreatDoor
namespace Go.Proofs.YtalffjplbhelcaaGreatDoor
theorem ar_drop {p : Program} {n : Nat} {c : Code} {Q : Exit → Env → List Box → Prop} {H H' : List Box} (hs : List.Sublist H H') : ∀ {j : Nat} {E : Env}, ARounds p n c Q j E H → ARounds p n c Q j E H'
  | 0, _, h => h.elim
  | j + 1, _, h => ac_drop hs h
end Go.Proofs.YtalffjplbhelcaaGreatDoor
namespace Go.Proofs.YtalffjplbhelcaaGreatDoor
open Go.RowKit
end Go.Proofs.YtalffjplbhelcaaGreatDoor
namespace Go.Proofs.YtalffjplbhelcaaGreatDoor
open Go.RowKit
end Go.Proofs.YtalffjplbhelcaaGreatDoor
namespace Go.Proofs.YtalffjplbhelcaaGreatDoor
open Go.RowKit
end Go.Proofs.YtalffjplbhelcaaGreatDoor
namespace Go.Proofs.YtalffjplbhelcaaGreatDoor
open Go.RowKit
end Go.Proofs.YtalffjplbhelcaaGreatDoor
namespace Go.Proofs.YtalffjplbhelcaaGreatDoor
open Go.RowKit
end Go.Proofs.YtalffjplbhelcaaGreatDoor
namespace Go.Proofs.YtalffjplbhelcaaGreatDoor
open Go.RowKit
theorem bs76_1_0 (x0_0 : Int) : Makes Tryz.prog (Instr.buildSlice 76 1 #[(0, .int .u8 x0_0)]) 1 [.int .u8 x0_0] 5 := ⟨fun w => by go_simp⟩
end Go.Proofs.YtalffjplbhelcaaGreatDoor
namespace Go.Proofs.YtalffjplbhelcaaGreatDoor
open Go.RowKit
theorem cell9 : IsCell Tryz.prog 9 := ⟨⟨_, Tryz.underlying9, rfl, by kernel_rfl⟩⟩
end Go.Proofs.YtalffjplbhelcaaGreatDoor
namespace Go.Proofs.YtalffjplbhelcaaGreatDoor
open Go.RowKit
theorem agg29 : IsAgg Tryz.prog 29 13 := ⟨⟨_, Tryz.underlying29, rfl, by kernel_rfl⟩⟩
theorem bd29_  : Runs Tryz.prog (Instr.build 29 #[]) (.agg #[.string (⟨#[]⟩ : ByteArray), .int .i64 0, .int .i64 0, .int .i64 0, .int .i64 0, .int .i64 0, .int .i64 0, .int .i64 0, .int .i64 0, .int .i64 0, .int .i64 0, .int .i64 0, .int .i64 0]) := ⟨fun w => by go_simp⟩
theorem fa108_0 (a : Addr) : Runs Tryz.prog (Instr.fieldAt 108 (.pointer (some a)) 0) (.pointer (some (a.add 0))) := run_fa (f := 0) (off := 0) (m := 1) Tryz.underlying108 rfl rfl (by kernel_rfl) (by decide) a
theorem fa108_1 (a : Addr) : Runs Tryz.prog (Instr.fieldAt 108 (.pointer (some a)) 1) (.pointer (some (a.add 1))) := run_fa (f := 1) (off := 1) (m := 1) Tryz.underlying108 rfl rfl (by kernel_rfl) (by decide) a
theorem fa29_0 (a : Addr) : Runs Tryz.prog (Instr.fieldAt 29 (.pointer (some a)) 0) (.pointer (some (a.add 0))) := run_fa (f := 0) (off := 0) (m := 1) Tryz.underlying29 rfl rfl (by kernel_rfl) (by decide) a
theorem zero29 : Zero Tryz.prog 29 [.string (⟨#[]⟩ : ByteArray), .int .i64 0, .int .i64 0, .int .i64 0, .int .i64 0, .int .i64 0, .int .i64 0, .int .i64 0, .int .i64 0, .int .i64 0, .int .i64 0, .int .i64 0, .int .i64 0] := ⟨⟨.agg #[.string (⟨#[]⟩ : ByteArray), .int .i64 0, .int .i64 0, .int .i64 0, .int .i64 0, .int .i64 0, .int .i64 0, .int .i64 0, .int .i64 0, .int .i64 0, .int .i64 0, .int .i64 0, .int .i64 0], by kernel_rfl, rfl⟩⟩
end Go.Proofs.YtalffjplbhelcaaGreatDoor
namespace Go.Proofs.YtalffjplbhelcaaGreatDoor
open Go.RowKit
theorem agg108 : IsAgg Tryz.prog 108 3 := ⟨⟨_, Tryz.underlying108, rfl, by kernel_rfl⟩⟩
theorem bs23_1_0a (x0_0 : ByteArray) (x0_1 : Int) (x0_2 : Int) (x0_3 : Int) (x0_4 : Int) (x0_5 : Int) (x0_6 : Int) (x0_7 : Int) (x0_8 : Int) (x0_9 : Int) (x0_10 : Int) (x0_11 : Int) (x0_12 : Int) : Makes Tryz.prog (Instr.buildSlice 23 1 #[(0, .agg #[.string x0_0, .int .i64 x0_1, .int .i64 x0_2, .int .i64 x0_3, .int .i64 x0_4, .int .i64 x0_5, .int .i64 x0_6, .int .i64 x0_7, .int .i64 x0_8, .int .i64 x0_9, .int .i64 x0_10, .int .i64 x0_11, .int .i64 x0_12])]) 1 [.string x0_0, .int .i64 x0_1, .int .i64 x0_2, .int .i64 x0_3, .int .i64 x0_4, .int .i64 x0_5, .int .i64 x0_6, .int .i64 x0_7, .int .i64 x0_8, .int .i64 x0_9, .int .i64 x0_10, .int .i64 x0_11, .int .i64 x0_12] 29 := ⟨fun w => by go_simp⟩
theorem bs94_6_0a_1a_2a_3a_4a_5a (x0_0 : Int) (x0_1 : Int) (x1_0 : Int) (x1_1 : Int) (x2_0 : Int) (x2_1 : Int) (x3_0 : Int) (x3_1 : Int) (x4_0 : Int) (x4_1 : Int) (x5_0 : Int) (x5_1 : Int) : Makes Tryz.prog (Instr.buildSlice 94 6 #[(0, .agg #[.int .i64 x0_0, .int .i64 x0_1]), (1, .agg #[.int .i64 x1_0, .int .i64 x1_1]), (2, .agg #[.int .i64 x2_0, .int .i64 x2_1]), (3, .agg #[.int .i64 x3_0, .int .i64 x3_1]), (4, .agg #[.int .i64 x4_0, .int .i64 x4_1]), (5, .agg #[.int .i64 x5_0, .int .i64 x5_1])]) 6 [.int .i64 x0_0, .int .i64 x0_1, .int .i64 x1_0, .int .i64 x1_1, .int .i64 x2_0, .int .i64 x2_1, .int .i64 x3_0, .int .i64 x3_1, .int .i64 x4_0, .int .i64 x4_1, .int .i64 x5_0, .int .i64 x5_1] 26 := ⟨fun w => by go_simp⟩
theorem cell39 : IsCell Tryz.prog 39 := ⟨⟨_, Tryz.underlying39, rfl, by kernel_rfl⟩⟩
theorem cell76 : IsCell Tryz.prog 76 := ⟨⟨_, Tryz.underlying76, rfl, by kernel_rfl⟩⟩
theorem cell91 : IsCell Tryz.prog 91 := ⟨⟨_, Tryz.underlying91, rfl, by kernel_rfl⟩⟩
theorem fa108_2 (a : Addr) : Runs Tryz.prog (Instr.fieldAt 108 (.pointer (some a)) 2) (.pointer (some (a.add 2))) := run_fa (f := 2) (off := 2) (m := 1) Tryz.underlying108 rfl rfl (by kernel_rfl) (by decide) a
theorem fa29_1 (a : Addr) : Runs Tryz.prog (Instr.fieldAt 29 (.pointer (some a)) 1) (.pointer (some (a.add 1))) := run_fa (f := 1) (off := 1) (m := 6) Tryz.underlying29 rfl rfl (by kernel_rfl) (by decide) a
theorem fa29_2 (a : Addr) : Runs Tryz.prog (Instr.fieldAt 29 (.pointer (some a)) 2) (.pointer (some (a.add 7))) := run_fa (f := 2) (off := 7) (m := 6) Tryz.underlying29 rfl rfl (by kernel_rfl) (by decide) a
theorem fa93_0 (a : Addr) : Runs Tryz.prog (Instr.fieldAt 93 (.pointer (some a)) 0) (.pointer (some (a.add 0))) := run_fa (f := 0) (off := 0) (m := 1) Tryz.underlying93 rfl rfl (by kernel_rfl) (by decide) a
theorem fa93_1 (a : Addr) : Runs Tryz.prog (Instr.fieldAt 93 (.pointer (some a)) 1) (.pointer (some (a.add 1))) := run_fa (f := 1) (off := 1) (m := 1) Tryz.underlying93 rfl rfl (by kernel_rfl) (by decide) a
theorem ia27_0 (g off : Nat) : Runs Tryz.prog (Instr.indexAt 27 (.pointer (some ⟨g, off, none⟩)) (.int .i64 0)) (.pointer (some ⟨g, off + 0, none⟩)) := run_ia (i := 0) (m := 2) (j := 0) Tryz.underlying27 (by kernel_rfl) rfl g off (by decide) (by decide)
theorem ia27_1 (g off : Nat) : Runs Tryz.prog (Instr.indexAt 27 (.pointer (some ⟨g, off, none⟩)) (.int .i64 1)) (.pointer (some ⟨g, off + 2, none⟩)) := run_ia (i := 1) (m := 2) (j := 2) Tryz.underlying27 (by kernel_rfl) rfl g off (by decide) (by decide)
theorem ia27_2 (g off : Nat) : Runs Tryz.prog (Instr.indexAt 27 (.pointer (some ⟨g, off, none⟩)) (.int .i64 2)) (.pointer (some ⟨g, off + 4, none⟩)) := run_ia (i := 2) (m := 2) (j := 4) Tryz.underlying27 (by kernel_rfl) rfl g off (by decide) (by decide)
theorem slT23 : SlT Tryz.prog 23 29 13 112 := ⟨Tryz.underlying23, .agg #[.string (⟨#[]⟩ : ByteArray), .int .i64 0, .int .i64 0, .int .i64 0, .int .i64 0, .int .i64 0, .int .i64 0, .int .i64 0, .int .i64 0, .int .i64 0, .int .i64 0, .int .i64 0, .int .i64 0], by kernel_rfl, rfl, by decide⟩
theorem zero93 : Zero Tryz.prog 93 [.pointer none, .slice none 0 0] := ⟨⟨.agg #[.pointer none, .slice none 0 0], by kernel_rfl, rfl⟩⟩
end Go.Proofs.YtalffjplbhelcaaGreatDoor
namespace Go.Proofs.YtalffjplbhelcaaGreatDoor
open Go.RowKit
attribute [local irreducible] AC AR DWalk
set_option maxRecDepth 100000 in
theorem gf_hit (g4 g off m c i t : Nat) (r : Bool) (nm : ByteArray) (x : Nat → Glass) (cs : List Value) (NA : List Box) (hi : i < m) (hm4 : m ≤ 4001) (hm : (⟨g, cs, t, r⟩ : Box) ∈ NA) (hc : (cs.drop (off + i * 13)).take 13 = [.string ((x i).name), .int .i64 ((((x i).b).d0).c), .int .i64 ((((x i).b).d0).scale), .int .i64 ((((x i).b).d1).c), .int .i64 ((((x i).b).d1).scale), .int .i64 ((((x i).b).d2).c), .int .i64 ((((x i).b).d2).scale), .int .i64 ((((x i).c).d0).c), .int .i64 ((((x i).c).d0).scale), .int .i64 ((((x i).c).d1).c), .int .i64 ((((x i).c).d1).scale), .int .i64 ((((x i).c).d2).c), .int .i64 ((((x i).c).d2).scale)]) (he : sEq ((x i).name) nm = true) {Q : Exit → Env → List Box → Prop} {E : Env} {code : Code} {j : Nat} (hc0 : Tryz.f23.body.bind loopOf = some code) (q1 : E 1 = .string nm) (q4 : E 4 = .pointer (some ⟨g4, 0, none⟩)) (q5 : E 5 = .bool false) (q8 : E 8 = .slice (some ⟨g, off, none⟩) m c) (q9 : E 9 = .int .i64 (m : Int)) (q10 : E 10 = .int .i64 (i : Int)) (K : ∀ (E' : Env) (g7 : Nat) (cs7 : List Value), E' 4 = .pointer (some ⟨g4, 0, none⟩) → E' 5 = .bool true → Q .ret E' (⟨g7, cs7, 29, false⟩ :: ⟨g4, (x i).cells, 29, false⟩ :: NA)) : ARounds Tryz.prog 21 code Q (j + 1) E (⟨g4, [.string (⟨#[]⟩ : ByteArray), .int .i64 0, .int .i64 0, .int .i64 0, .int .i64 0, .int .i64 0, .int .i64 0, .int .i64 0, .int .i64 0, .int .i64 0, .int .i64 0, .int .i64 0, .int .i64 0], 29, false⟩ :: NA) := by
 rw [show Tryz.f23.body.bind loopOf = some _ from rfl] at hc0
 cases hc0
 obtain ⟨E0, rfl⟩ : ∃ E0 : Env, E = ((((((E0.put (some 1) (.string nm)).put (some 4) (.pointer (some ⟨g4, 0, none⟩))).put (some 5) (.bool false)).put (some 8) (.slice (some ⟨g, off, none⟩) m c)).put (some 9) (.int .i64 (m : Int))).put (some 10) (.int .i64 (i : Int))) := ⟨E, by rw [put_self q1, put_self q4, put_self q5, put_self q8, put_self q9, put_self q10]⟩
 refine ar_round (aQ (aL (aB 11 (.bool (decide ((i : Int) < (m : Int)))) rfl rfl rfl (bi_lss rfl) (aN (aQ (ac_then' (b := decide ((i : Int) < (m : Int))) (show (decide ((i : Int) < (m : Int))) = true from (decide_eq_true (by omega))) rfl (ac_skip (aQ (ac_block (aQ (aL (ao 12 rfl rfl (st_sa (g := g) (off := off) (m := m) (c := c) (s := 13) (i := i) rfl Tryz.underlying23 (by kernel_rfl) rfl rfl hi ?_)))))))))))))
 refine ao 13 rfl rfl (st_ldam (g := g) (off := off + i * 13) (vs := [.string ((x i).name), .int .i64 ((((x i).b).d0).c), .int .i64 ((((x i).b).d0).scale), .int .i64 ((((x i).b).d1).c), .int .i64 ((((x i).b).d1).scale), .int .i64 ((((x i).b).d2).c), .int .i64 ((((x i).b).d2).scale), .int .i64 ((((x i).c).d0).c), .int .i64 ((((x i).c).d0).scale), .int .i64 ((((x i).c).d1).c), .int .i64 ((((x i).c).d1).scale), .int .i64 ((((x i).c).d2).c), .int .i64 ((((x i).c).d2).scale)]) agg29 rfl rfl (List.mem_cons_of_mem _ hm) rfl hc (ao 7 rfl rfl (st_new zero29 rfl fun g5 => ?_)))
 refine aS [.string ((x i).name), .int .i64 ((((x i).b).d0).c), .int .i64 ((((x i).b).d0).scale), .int .i64 ((((x i).b).d1).c), .int .i64 ((((x i).b).d1).scale), .int .i64 ((((x i).b).d2).c), .int .i64 ((((x i).b).d2).scale), .int .i64 ((((x i).c).d0).c), .int .i64 ((((x i).c).d0).scale), .int .i64 ((((x i).c).d1).c), .int .i64 ((((x i).c).d1).scale), .int .i64 ((((x i).c).d2).c), .int .i64 ((((x i).c).d2).scale)] agg29 0 rfl rfl rfl rfl rfl rfl (aN (aQ (aL (aF 14 fa29_0 rfl rfl (aD 15 (.string ((x i).name)) cell9 0 rfl rfl rfl rfl (aM 16 (.string nm) rfl rfl (aB 17 (.bool (sEq ((x i).name) nm)) rfl rfl rfl (bi_seql rfl) (aN ?_))))))))
 refine ac_then' (b := sEq ((x i).name) nm) (show (sEq ((x i).name) nm) = true from he) rfl (aQ (aL (aG 18 [.string ((x i).name), .int .i64 ((((x i).b).d0).c), .int .i64 ((((x i).b).d0).scale), .int .i64 ((((x i).b).d1).c), .int .i64 ((((x i).b).d1).scale), .int .i64 ((((x i).b).d2).c), .int .i64 ((((x i).b).d2).scale), .int .i64 ((((x i).c).d0).c), .int .i64 ((((x i).c).d0).scale), .int .i64 ((((x i).c).d1).c), .int .i64 ((((x i).c).d1).scale), .int .i64 ((((x i).c).d2).c), .int .i64 ((((x i).c).d2).scale)] agg29 0 rfl rfl rfl rfl rfl ?_)))
 refine aS [.string ((x i).name), .int .i64 ((((x i).b).d0).c), .int .i64 ((((x i).b).d0).scale), .int .i64 ((((x i).b).d1).c), .int .i64 ((((x i).b).d1).scale), .int .i64 ((((x i).b).d2).c), .int .i64 ((((x i).b).d2).scale), .int .i64 ((((x i).c).d0).c), .int .i64 ((((x i).c).d0).scale), .int .i64 ((((x i).c).d1).c), .int .i64 ((((x i).c).d1).scale), .int .i64 ((((x i).c).d2).c), .int .i64 ((((x i).c).d2).scale)] agg29 1 rfl rfl rfl rfl rfl rfl (aA 5 (.bool true) rfl rfl (aN (ac_ret ?_)))
 exact K _ _ _ rfl rfl
set_option maxRecDepth 100000 in
theorem gf_no (g4 g off m c i t : Nat) (r : Bool) (nm : ByteArray) (x : Nat → Glass) (cs : List Value) (NA : List Box) (hi : i < m) (hm4 : m ≤ 4001) (hm : (⟨g, cs, t, r⟩ : Box) ∈ NA) (hc : (cs.drop (off + i * 13)).take 13 = [.string ((x i).name), .int .i64 ((((x i).b).d0).c), .int .i64 ((((x i).b).d0).scale), .int .i64 ((((x i).b).d1).c), .int .i64 ((((x i).b).d1).scale), .int .i64 ((((x i).b).d2).c), .int .i64 ((((x i).b).d2).scale), .int .i64 ((((x i).c).d0).c), .int .i64 ((((x i).c).d0).scale), .int .i64 ((((x i).c).d1).c), .int .i64 ((((x i).c).d1).scale), .int .i64 ((((x i).c).d2).c), .int .i64 ((((x i).c).d2).scale)]) (he : sEq ((x i).name) nm = false) {Q : Exit → Env → List Box → Prop} {E : Env} {code : Code} {j : Nat} (hc0 : Tryz.f23.body.bind loopOf = some code) (q1 : E 1 = .string nm) (q4 : E 4 = .pointer (some ⟨g4, 0, none⟩)) (q5 : E 5 = .bool false) (q8 : E 8 = .slice (some ⟨g, off, none⟩) m c) (q9 : E 9 = .int .i64 (m : Int)) (q10 : E 10 = .int .i64 (i : Int)) (K : ∀ E' : Env, E' 1 = .string nm → E' 4 = .pointer (some ⟨g4, 0, none⟩) → E' 5 = .bool false → E' 8 = .slice (some ⟨g, off, none⟩) m c → E' 9 = .int .i64 (m : Int) → E' 10 = .int .i64 ((i + 1 : Nat) : Int) → ARounds Tryz.prog 21 code Q j E' (⟨g4, [.string (⟨#[]⟩ : ByteArray), .int .i64 0, .int .i64 0, .int .i64 0, .int .i64 0, .int .i64 0, .int .i64 0, .int .i64 0, .int .i64 0, .int .i64 0, .int .i64 0, .int .i64 0, .int .i64 0], 29, false⟩ :: NA)) : ARounds Tryz.prog 21 code Q (j + 1) E (⟨g4, [.string (⟨#[]⟩ : ByteArray), .int .i64 0, .int .i64 0, .int .i64 0, .int .i64 0, .int .i64 0, .int .i64 0, .int .i64 0, .int .i64 0, .int .i64 0, .int .i64 0, .int .i64 0, .int .i64 0], 29, false⟩ :: NA) := by
 rw [show Tryz.f23.body.bind loopOf = some _ from rfl] at hc0
 cases hc0
 obtain ⟨E0, rfl⟩ : ∃ E0 : Env, E = ((((((E0.put (some 1) (.string nm)).put (some 4) (.pointer (some ⟨g4, 0, none⟩))).put (some 5) (.bool false)).put (some 8) (.slice (some ⟨g, off, none⟩) m c)).put (some 9) (.int .i64 (m : Int))).put (some 10) (.int .i64 (i : Int))) := ⟨E, by rw [put_self q1, put_self q4, put_self q5, put_self q8, put_self q9, put_self q10]⟩
 refine ar_round (aQ (aL (aB 11 (.bool (decide ((i : Int) < (m : Int)))) rfl rfl rfl (bi_lss rfl) (aN (aQ (ac_then' (b := decide ((i : Int) < (m : Int))) (show (decide ((i : Int) < (m : Int))) = true from (decide_eq_true (by omega))) rfl (ac_skip (aQ (ac_block (aQ (aL (ao 12 rfl rfl (st_sa (g := g) (off := off) (m := m) (c := c) (s := 13) (i := i) rfl Tryz.underlying23 (by kernel_rfl) rfl rfl hi ?_)))))))))))))
 refine ao 13 rfl rfl (st_ldam (g := g) (off := off + i * 13) (vs := [.string ((x i).name), .int .i64 ((((x i).b).d0).c), .int .i64 ((((x i).b).d0).scale), .int .i64 ((((x i).b).d1).c), .int .i64 ((((x i).b).d1).scale), .int .i64 ((((x i).b).d2).c), .int .i64 ((((x i).b).d2).scale), .int .i64 ((((x i).c).d0).c), .int .i64 ((((x i).c).d0).scale), .int .i64 ((((x i).c).d1).c), .int .i64 ((((x i).c).d1).scale), .int .i64 ((((x i).c).d2).c), .int .i64 ((((x i).c).d2).scale)]) agg29 rfl rfl (List.mem_cons_of_mem _ hm) rfl hc (ao 7 rfl rfl (st_new zero29 rfl fun g5 => ?_)))
 refine aS [.string ((x i).name), .int .i64 ((((x i).b).d0).c), .int .i64 ((((x i).b).d0).scale), .int .i64 ((((x i).b).d1).c), .int .i64 ((((x i).b).d1).scale), .int .i64 ((((x i).b).d2).c), .int .i64 ((((x i).b).d2).scale), .int .i64 ((((x i).c).d0).c), .int .i64 ((((x i).c).d0).scale), .int .i64 ((((x i).c).d1).c), .int .i64 ((((x i).c).d1).scale), .int .i64 ((((x i).c).d2).c), .int .i64 ((((x i).c).d2).scale)] agg29 0 rfl rfl rfl rfl rfl rfl (aN (aQ (aL (aF 14 fa29_0 rfl rfl (aD 15 (.string ((x i).name)) cell9 0 rfl rfl rfl rfl (aM 16 (.string nm) rfl rfl (aB 17 (.bool (sEq ((x i).name) nm)) rfl rfl rfl (bi_seql rfl) (aN ?_))))))))
 refine ac_else' (b := sEq ((x i).name) nm) (show (sEq ((x i).name) nm) = false from he) rfl (ac_skip (aL (aB 19 (.int .i64 (w64 ((i : Int) + 1))) rfl rfl rfl (bi_add rfl) (aM 10 (.int .i64 (w64 ((i : Int) + 1))) rfl rfl (aN ?_)))))
 exact ar_drop (List.sublist_cons_self _ _) (K _ rfl rfl rfl rfl rfl (by show Value.int _ _ = _; rw [w64_in (by omega)]; rfl))
set_option maxRecDepth 100000 in
theorem gf_end (g4 m : Nat) (NA : List Box)  {Q : Exit → Env → List Box → Prop} {E : Env} {code : Code} {j : Nat} (hc0 : Tryz.f23.body.bind loopOf = some code) (q4 : E 4 = .pointer (some ⟨g4, 0, none⟩)) (q5 : E 5 = .bool false) (q9 : E 9 = .int .i64 (m : Int)) (q10 : E 10 = .int .i64 (m : Int)) (K : ∀ E' : Env, E' 4 = .pointer (some ⟨g4, 0, none⟩) → Q (.exit 0) E' (⟨g4, [.string (⟨#[]⟩ : ByteArray), .int .i64 0, .int .i64 0, .int .i64 0, .int .i64 0, .int .i64 0, .int .i64 0, .int .i64 0, .int .i64 0, .int .i64 0, .int .i64 0, .int .i64 0, .int .i64 0], 29, false⟩ :: NA)) : ARounds Tryz.prog 21 code Q (j + 1) E (⟨g4, [.string (⟨#[]⟩ : ByteArray), .int .i64 0, .int .i64 0, .int .i64 0, .int .i64 0, .int .i64 0, .int .i64 0, .int .i64 0, .int .i64 0, .int .i64 0, .int .i64 0, .int .i64 0, .int .i64 0], 29, false⟩ :: NA) := by
 rw [show Tryz.f23.body.bind loopOf = some _ from rfl] at hc0
 cases hc0
 obtain ⟨E0, rfl⟩ : ∃ E0 : Env, E = ((((E0.put (some 4) (.pointer (some ⟨g4, 0, none⟩))).put (some 5) (.bool false)).put (some 9) (.int .i64 (m : Int))).put (some 10) (.int .i64 (m : Int))) := ⟨E, by rw [put_self q4, put_self q5, put_self q9, put_self q10]⟩
 refine ar_round (aQ (aL (aB 11 (.bool (decide ((m : Int) < (m : Int)))) rfl rfl rfl (bi_lss rfl) (aN (aQ (ac_else' (b := decide ((m : Int) < (m : Int))) (show (decide ((m : Int) < (m : Int))) = false from (decide_eq_false (by omega))) rfl (ac_exit ?_)))))))
 exact K _ rfl
theorem gf_loop (g4 m c : Nat) (a : Option Addr) (nm : ByteArray) (x : Nat → Glass) (NA : List Box) (hm4 : m ≤ 4001) (hl : GlI a m x NA) {Q : Exit → Env → List Box → Prop} {code : Code} (hc0 : Tryz.f23.body.bind loopOf = some code) :
  ∀ (j i : Nat) (E : Env), i + j = m → E 1 = .string nm → E 4 = .pointer (some ⟨g4, 0, none⟩) → E 5 = .bool false → E 8 = .slice a m c → E 9 = .int .i64 (m : Int) → E 10 = .int .i64 (i : Int) →
   (∀ (E' : Env) (g7 : Nat) (cs7 : List Value) (y : Glass), gFind x nm j i = (y, true) → E' 4 = .pointer (some ⟨g4, 0, none⟩) → E' 5 = .bool true → Q .ret E' (⟨g7, cs7, 29, false⟩ :: ⟨g4, y.cells, 29, false⟩ :: NA)) →
   (∀ E' : Env, gFind x nm j i = (Glass.zero, false) → E' 4 = .pointer (some ⟨g4, 0, none⟩) → Q (.exit 0) E' (⟨g4, [.string (⟨#[]⟩ : ByteArray), .int .i64 0, .int .i64 0, .int .i64 0, .int .i64 0, .int .i64 0, .int .i64 0, .int .i64 0, .int .i64 0, .int .i64 0, .int .i64 0, .int .i64 0, .int .i64 0], 29, false⟩ :: NA)) → ARounds Tryz.prog 21 code Q (j + 1) E (⟨g4, [.string (⟨#[]⟩ : ByteArray), .int .i64 0, .int .i64 0, .int .i64 0, .int .i64 0, .int .i64 0, .int .i64 0, .int .i64 0, .int .i64 0, .int .i64 0, .int .i64 0, .int .i64 0, .int .i64 0], 29, false⟩ :: NA) := by
 intro j
 induction j with
 | zero =>
  intro i E hk q1 q4 q5 q8 q9 q10 K1 K2
  obtain rfl : i = m := by omega
  exact gf_end g4 i NA hc0 q4 q5 q9 q10 (fun E' f4 => K2 E' rfl f4)
 | succ j ih =>
  intro i E hk q1 q4 q5 q8 q9 q10 K1 K2
  obtain ⟨g, off, cs, t, r, rfl, hm, hc⟩ := hl i (by omega)
  cases he : sEq (x i).name nm
  ·have e : gFind x nm (j + 1) i = gFind x nm j (i + 1) := by rw [gFind, he]; rfl
   rw [e] at K1 K2
   exact gf_no g4 g off m c i t r nm x cs NA (by omega) hm4 hm hc he hc0 q1 q4 q5 q8 q9 q10 (fun E' f1 f4 f5 f8 f9 f10 => ih (i + 1) E' (by omega) f1 f4 f5 f8 f9 f10 K1 K2)
  ·have e : gFind x nm (j + 1) i = (x i, true) := by rw [gFind, he]; rfl
   rw [e] at K1
   exact gf_hit g4 g off m c i t r nm x cs NA (by omega) hm4 hm hc he hc0 q1 q4 q5 q8 q9 q10 (fun E' g7 cs7 f4 f5 => K1 E' g7 cs7 (x i) rfl f4 f5)
def findV (r : Glass × Bool) : Value := .tuple #[.agg #[.string r.1.name, .int .i64 r.1.b.d0.c, .int .i64 r.1.b.d0.scale, .int .i64 r.1.b.d1.c, .int .i64 r.1.b.d1.scale, .int .i64 r.1.b.d2.c, .int .i64 r.1.b.d2.scale, .int .i64 r.1.c.d0.c, .int .i64 r.1.c.d0.scale, .int .i64 r.1.c.d1.c, .int .i64 r.1.c.d1.scale, .int .i64 r.1.c.d2.c, .int .i64 r.1.c.d2.scale], .bool r.2]
set_option maxRecDepth 100000 in
theorem c_gFind (m c : Nat) (a : Option Addr) (nm : ByteArray) (x : Nat → Glass) (NA : List Box) (hm4 : m ≤ 4001) (hl : GlI a m x NA) (hro : (NA.all fun b => b.ro) = true) : Gives Tryz.prog 23 #[.slice a m c, .string nm] NA (fun v N => v = findV (gFind x nm m 0) ∧ N = []) := by
 refine gives_fin Tryz.func23 rfl rfl rfl hro (aQ (aL (ao 4 rfl rfl (st_new zero29 rfl fun g0 => (aA 5 (.bool false) rfl rfl (aN (aQ (aQ (aL (aM 8 (.slice a m c) rfl rfl (ao 9 rfl rfl (st_ln (a := a) (m := m) (c := c) rfl Tryz.underlying23 rfl (aM 10 (.int .i64 0) rfl rfl (aN (ac_block ?_)))))))))))))))
 refine ac_rounds (m + 1) ?_
 refine gf_loop g0 m c a nm x NA hm4 hl rfl m 0 _ (Nat.zero_add _) rfl rfl rfl rfl rfl (by rfl) (fun E9 g7 cs7 y hy f4 f5 => ?_) (fun E9 hy f4 => ?_)
 ·obtain ⟨E0, rfl⟩ : ∃ E0 : Env, E9 = ((E0.put (some 4) (.pointer (some ⟨g0, 0, none⟩))).put (some 5) (.bool true)) := ⟨E9, by rw [put_self f4, put_self f5]⟩
  exact fing_ret (N := []) ⟨by rw [hy]; rfl, rfl⟩ (List.nil_sublist _) rfl (res_ct (vs := y.cells) agg29 1 rfl rfl rfl rfl rfl rfl rfl)
 obtain ⟨E0, rfl⟩ : ∃ E0 : Env, E9 = (E0.put (some 4) (.pointer (some ⟨g0, 0, none⟩))) := ⟨E9, by rw [put_self f4]⟩
 refine aQ (aL (ao 20 rfl rfl (st_bd (us := []) (v := .agg #[.string (⟨#[]⟩ : ByteArray), .int .i64 0, .int .i64 0, .int .i64 0, .int .i64 0, .int .i64 0, .int .i64 0, .int .i64 0, .int .i64 0, .int .i64 0, .int .i64 0, .int .i64 0, .int .i64 0]) rfl rfl (bd29_ ) (aS [.string (⟨#[]⟩ : ByteArray), .int .i64 0, .int .i64 0, .int .i64 0, .int .i64 0, .int .i64 0, .int .i64 0, .int .i64 0, .int .i64 0, .int .i64 0, .int .i64 0, .int .i64 0, .int .i64 0] agg29 0 rfl rfl rfl rfl rfl rfl (aA 5 (.bool false) rfl rfl (aN (ac_ret ?_)))))))
 exact fing_ret (N := []) ⟨by rw [hy]; rfl, rfl⟩ (List.nil_sublist _) rfl (res_ct (vs := [.string (⟨#[]⟩ : ByteArray), .int .i64 0, .int .i64 0, .int .i64 0, .int .i64 0, .int .i64 0, .int .i64 0, .int .i64 0, .int .i64 0, .int .i64 0, .int .i64 0, .int .i64 0, .int .i64 0]) agg29 0 rfl rfl rfl rfl rfl rfl rfl)
end Go.Proofs.YtalffjplbhelcaaGreatDoor
