import Derived.Test.YtalffjplbhelcaaDoorMLexKnown2
import Derived.Laws.MakeOwn
import Derived.Laws.IdiomStrings
import Derived.Test.YtalffjplbhelcaaDoorMLexKnown1
set_option linter.unusedVariables false
set_option linter.unusedSimpArgs false
namespace Go.Proofs.YtalffjplbhelcaaDoor
open Go.RowKit
attribute [local irreducible] AC AR DWalk
set_option maxRecDepth 100000 in
set_option maxHeartbeats 4000000 in
theorem seg0 (s : ByteArray) (hs4 : s.size ≤ 4000) (R : LRes) (K i m ca n : Nat) (line start : Int) (any_ : Bool) (out : List Tok) (aa : Option Addr) (NA : List Box) (xs : List Value) (hSt : LexSt s out i m ca aa xs NA) (hk : K = 2 * (s.size - i) + 1) (hn : s.size - i ≤ n) (hq : lexStep (lexRun s n) s i line start any_ out = R) {E : Env} {H : List Box} {rest : Code} (hc : ((Tryd.f9.body.bind scopeOf).bind fun c => findLabel c 0) = some (.seq .skip rest)) (hsub : List.Sublist NA H) (q0 : E 0 = .string s) (q5 : E 5 = .slice aa m ca) (q6 : E 6 = .int .i64 (i : Int)) (q8 : E 8 = .int .i64 line) (q9 : E 9 = .int .i64 start) (q10 : E 10 = .bool any_) : AC Tryd.prog 118 rest (AJ (fun l' E' H' => ∃ k', k' < K ∧ LexJ s R l' k' E' H') (FinG Tryd.prog Tryd.f9 118 (TokPost R))) E H := by
 rw [show ((Tryd.f9.body.bind scopeOf).bind fun c => findLabel c 0) = some (.seq .skip _) from rfl] at hc
 cases hc
 refine ac_drop hsub ?_
 have hSt0 := hSt
 obtain ⟨hm, hxs, hmi, hil, hR⟩ := hSt
 obtain ⟨E0, rfl⟩ : ∃ E0 : Env, E = ((((((E0.put (some 0) (.string s)).put (some 5) (.slice aa m ca)).put (some 6) (.int .i64 (i : Int))).put (some 8) (.int .i64 line)).put (some 9) (.int .i64 start)).put (some 10) (.bool any_)) := ⟨E, by rw [put_self q0, put_self q5, put_self q6, put_self q8, put_self q9, put_self q10]⟩
 refine aQ (aL (aM 18 (.int .i64 line) rfl rfl (aM 19 (.int .i64 (i : Int)) rfl rfl (aM 20 (.int .i64 start) rfl rfl (aB 21 (.int .i64 (w64 ((i : Int) - start))) rfl rfl rfl (bi_sub rfl) (aB 22 (.int .i64 (w64 ((w64 ((i : Int) - start)) + 1))) rfl rfl rfl (bi_add rfl) (aC 23 (c_place line (w64 ((w64 ((i : Int) - start)) + 1))) Tryd.func26 ⟨rfl, by decide⟩ rfl rfl (aA 12 (.complex .f64 ((place line (w64 ((w64 ((i : Int) - start)) + 1)))).re ((place line (w64 ((w64 ((i : Int) - start)) + 1)))).im) rfl rfl (aN (aQ (aQ (aL (aM 24 (.int .i64 (i : Int)) rfl rfl (aM 25 (.string s) rfl rfl (ao 26 rfl rfl (st_slen (s := s) rfl Tryd.underlying9 rfl ?_))))))))))))))))
 refine aB 27 (.bool ((i : Int) == ((s).size : Int))) rfl rfl rfl (bi_eql rfl) (aN ?_)
 refine bool_split ((i : Int) == ((s).size : Int)) (fun h1 => ?_) (fun h1 => ?_)
 ·refine ac_then' (b := (i : Int) == ((s).size : Int)) h1 rfl ?_
  refine ac_goto ?_
  simp only [lexStep, h1, cond_true, cond_false] at hq
  exact lexj1 (i := i) (n := n) (here := (lexHere i line start)) (lexSt_same hSt0 (by omega) hil) (List.Sublist.refl _) rfl rfl rfl rfl rfl rfl rfl (by have := hil; omega) (by have := hil; omega) hq
 ·refine ac_else' (b := (i : Int) == ((s).size : Int)) h1 rfl (ac_skip (aQ (aL (aM 28 (.string s) rfl rfl (aM 29 (.int .i64 (i : Int)) rfl rfl (ao 30 rfl rfl (st_six (s := s) (i := i) rfl Tryd.underlying9 rfl rfl (ne_lt hil h1) (aA 11 (.int .u8 (sAt s i)) rfl rfl (aN (aQ (ac_block (aQ (aL (aM 32 (.int .u8 (sAt s i)) rfl rfl (aB 33 (.bool ((sAt s i) == 10)) rfl rfl rfl (bk_eql rfl) (aA 31 (.bool ((sAt s i) == 10)) rfl rfl (aN ?_)))))))))))))))))
  refine bool_split ((sAt s i) == 10) (fun h2 => ?_) (fun h2 => ?_)
  ·refine ac_then' (b := (sAt s i) == 10) h2 rfl ?_
   refine ac_goto ?_
   simp only [lexStep, h1, h2, cond_true, cond_false] at hq
   exact lexj1 (i := i) (n := n) (here := (lexHere i line start)) (lexSt_same hSt0 (by omega) hil) (List.Sublist.refl _) rfl rfl rfl rfl rfl rfl rfl (by have := hil; have := (ne_lt hil h1); omega) (by have := hil; have := (ne_lt hil h1); omega) hq
  ·refine ac_else' (b := (sAt s i) == 10) h2 rfl (aQ (aL (aM 35 (.int .u8 (sAt s i)) rfl rfl (aB 36 (.bool ((sAt s i) == 32)) rfl rfl rfl (bk_eql rfl) (aM 37 (.bool ((sAt s i) == 32)) rfl rfl ?_)))))
   refine bool_split ((sAt s i) == 32) (fun h3 => ?_) (fun h3 => ?_)
   ·refine aK 38 (by show (((sAt s i) == 32) == false) = false; rw [h3]; rfl) rfl (aK 39 (by show (((sAt s i) == 32) == false) = false; rw [h3]; rfl) rfl (ao 40 rfl rfl (st_pkt' (b := (sAt s i) == 32) (v := .bool true) h3 rfl rfl rfl (aA 34 (.bool true) rfl rfl (aN (ac_then rfl (aQ (aL (aM 41 (.int .i64 (i : Int)) rfl rfl (aB 42 (.int .i64 (w64 ((i : Int) + 1))) rfl rfl rfl (bi_add rfl) (aA 6 (.int .i64 (w64 ((i : Int) + 1))) rfl rfl (aN ?_))))))))))))
    refine ac_goto ?_
    simp only [lexStep, h1, h2, h3, cond_true, cond_false] at hq
    exact lexj0 (i := (i + 1)) (n := n) (lexSt_same hSt0 (by omega) (ne_lt hil h1)) (List.Sublist.refl _) rfl rfl (w64_succ hs4 hil) rfl rfl rfl (by have := hil; have := (ne_lt hil h1); omega) (by have := hil; have := (ne_lt hil h1); omega) hq
   ·refine ar_gd (d := (some 38)) (by show (((sAt s i) == 32) == false) = true; rw [h3]; rfl) rfl (st_move (v := .int .u8 (sAt s i)) rfl rfl (ar_gd (d := (some 39)) (by show (((sAt s i) == 32) == false) = true; rw [h3]; rfl) rfl (st_bi (r := .bool ((sAt s i) == 9)) rfl rfl rfl (bk_eql rfl) (ao 40 rfl rfl (st_pkf' (b := (sAt s i) == 32) (v := .bool ((sAt s i) == 9)) h3 rfl rfl rfl (aA 34 (.bool ((sAt s i) == 9)) rfl rfl (aN ?_)))))))
    refine bool_split ((sAt s i) == 9) (fun h4 => ?_) (fun h4 => ?_)
    ·refine ac_then' (b := (sAt s i) == 9) h4 rfl (aQ (aL (aM 41 (.int .i64 (i : Int)) rfl rfl (aB 42 (.int .i64 (w64 ((i : Int) + 1))) rfl rfl rfl (bi_add rfl) (aA 6 (.int .i64 (w64 ((i : Int) + 1))) rfl rfl (aN ?_))))))
     refine ac_goto ?_
     simp only [lexStep, h1, h2, h3, h4, cond_true, cond_false] at hq
     exact lexj0 (i := (i + 1)) (n := n) (lexSt_same hSt0 (by omega) (ne_lt hil h1)) (List.Sublist.refl _) rfl rfl (w64_succ hs4 hil) rfl rfl rfl (by have := hil; have := (ne_lt hil h1); omega) (by have := hil; have := (ne_lt hil h1); omega) hq
    ·refine ac_else' (b := (sAt s i) == 9) h4 rfl (aQ (aL (aM 44 (.int .u8 (sAt s i)) rfl rfl (aB 45 (.bool ((sAt s i) == 35)) rfl rfl rfl (bk_eql rfl) (aA 43 (.bool ((sAt s i) == 35)) rfl rfl (aN ?_))))))
     refine bool_split ((sAt s i) == 35) (fun h5 => ?_) (fun h5 => ?_)
     ·refine ac_then' (b := (sAt s i) == 35) h5 rfl ?_
      refine ac_goto ?_
      simp only [lexStep, h1, h2, h3, h4, h5, cond_true, cond_false] at hq
      exact lexj2 (i := i) (n := n) (here := (lexHere i line start)) (lexSt_same hSt0 (by omega) hil) (List.Sublist.refl _) rfl rfl rfl rfl rfl rfl rfl (by have := hil; have := (ne_lt hil h1); omega) (by have := hil; have := (ne_lt hil h1); omega) (ne_lt hil h1) hq
     ·refine ac_else' (b := (sAt s i) == 35) h5 rfl (aQ (aL (aM 47 (.int .u8 (sAt s i)) rfl rfl (aC 48 (c_lexLetter (sAt s i)) Tryd.func27 ⟨rfl, by decide⟩ rfl rfl (aA 46 (.bool (lexLetter (sAt s i))) rfl rfl (aN ?_))))))
      refine bool_split (lexLetter (sAt s i)) (fun h6 => ?_) (fun h6 => ?_)
      ·refine ac_then' (b := lexLetter (sAt s i)) h6 rfl ?_
       refine ac_goto ?_
       simp only [lexStep, h1, h2, h3, h4, h5, h6, cond_true, cond_false] at hq
       exact lexj3 (i := i) (n := n) (here := (lexHere i line start)) (lexSt_same hSt0 (by omega) hil) (List.Sublist.refl _) rfl rfl rfl rfl rfl rfl rfl (by have := hil; have := (ne_lt hil h1); omega) (by have := hil; have := (ne_lt hil h1); omega) (ne_lt hil h1) hq
      ·refine ac_else' (b := lexLetter (sAt s i)) h6 rfl (aQ (aL (aM 50 (.int .u8 (sAt s i)) rfl rfl (aC 51 (c_lexDigit (sAt s i)) Tryd.func28 ⟨rfl, by decide⟩ rfl rfl (aM 52 (.bool (lexDigit (sAt s i))) rfl rfl ?_)))))
       refine bool_split (lexDigit (sAt s i)) (fun h7 => ?_) (fun h7 => ?_)
       ·refine aK 53 (by show ((lexDigit (sAt s i)) == false) = false; rw [h7]; rfl) rfl (aK 54 (by show ((lexDigit (sAt s i)) == false) = false; rw [h7]; rfl) rfl (ao 55 rfl rfl (st_pkt' (b := lexDigit (sAt s i)) (v := .bool true) h7 rfl rfl rfl (aA 49 (.bool true) rfl rfl (aN (ac_then rfl ?_))))))
        refine ac_goto ?_
        simp only [lexStep, h1, h2, h3, h4, h5, h6, h7, cond_true, cond_false] at hq
        exact lexj4 (i := i) (n := n) (here := (lexHere i line start)) (lexSt_same hSt0 (by omega) hil) (List.Sublist.refl _) rfl rfl rfl rfl rfl rfl rfl (by have := hil; have := (ne_lt hil h1); omega) (by have := hil; have := (ne_lt hil h1); omega) (ne_lt hil h1) hq
       ·refine ar_gd (d := (some 53)) (by show ((lexDigit (sAt s i)) == false) = true; rw [h7]; rfl) rfl (st_move (v := .int .u8 (sAt s i)) rfl rfl (ar_gd (d := (some 54)) (by show ((lexDigit (sAt s i)) == false) = true; rw [h7]; rfl) rfl (st_bi (r := .bool ((sAt s i) == 45)) rfl rfl rfl (bk_eql rfl) (ao 55 rfl rfl (st_pkf' (b := lexDigit (sAt s i)) (v := .bool ((sAt s i) == 45)) h7 rfl rfl rfl (aA 49 (.bool ((sAt s i) == 45)) rfl rfl (aN ?_)))))))
        refine bool_split ((sAt s i) == 45) (fun h8 => ?_) (fun h8 => ?_)
        ·refine ac_then' (b := (sAt s i) == 45) h8 rfl ?_
         refine ac_goto ?_
         simp only [lexStep, h1, h2, h3, h4, h5, h6, h7, h8, cond_true, cond_false] at hq
         exact lexj4 (i := i) (n := n) (here := (lexHere i line start)) (lexSt_same hSt0 (by omega) hil) (List.Sublist.refl _) rfl rfl rfl rfl rfl rfl rfl (by have := hil; have := (ne_lt hil h1); omega) (by have := hil; have := (ne_lt hil h1); omega) (ne_lt hil h1) hq
        ·refine ac_else' (b := (sAt s i) == 45) h8 rfl (ac_skip (aQ (aQ (aL (aM 56 (.complex .f64 ((place line (w64 ((w64 ((i : Int) - start)) + 1)))).re ((place line (w64 ((w64 ((i : Int) - start)) + 1)))).im) rfl rfl (aA 2 (.slice none 0 0) rfl rfl (aA 3 (.complex .f64 ((place line (w64 ((w64 ((i : Int) - start)) + 1)))).re ((place line (w64 ((w64 ((i : Int) - start)) + 1)))).im) rfl rfl (aA 4 (.int .i64 2) rfl rfl (aN (ac_ret ?_))))))))))
         simp only [lexStep, h1, h2, h3, h4, h5, h6, h7, h8, cond_true, cond_false] at hq
         exact fing_ret (N := []) (tokPost_nil hq) (List.nil_sublist _) rfl (res_ttt rfl rfl rfl rfl)
set_option maxRecDepth 100000 in
set_option maxHeartbeats 4000000 in
theorem seg1 (s : ByteArray) (hs4 : s.size ≤ 4000) (R : LRes) (K i m ca n : Nat) (line start : Int) (any_ : Bool) (out : List Tok) (aa : Option Addr) (NA : List Box) (xs : List Value) (hSt : LexSt s out i m ca aa xs NA) (here : Cx) (hk : K = 2 * (s.size - i)) (hn : s.size - i ≤ n) (hq : lexFeed (lexRun s n) s i line any_ out here = R) {E : Env} {H : List Box} {rest : Code} (hc : ((Tryd.f9.body.bind scopeOf).bind fun c => findLabel c 1) = some (.seq .skip rest)) (hsub : List.Sublist NA H) (q0 : E 0 = .string s) (q5 : E 5 = .slice aa m ca) (q6 : E 6 = .int .i64 (i : Int)) (q8 : E 8 = .int .i64 line) (q9 : E 9 = .int .i64 start) (q10 : E 10 = .bool any_) (q12 : E 12 = .complex .f64 (here).re (here).im) : AC Tryd.prog 118 rest (AJ (fun l' E' H' => ∃ k', k' < K ∧ LexJ s R l' k' E' H') (FinG Tryd.prog Tryd.f9 118 (TokPost R))) E H := by
 rw [show ((Tryd.f9.body.bind scopeOf).bind fun c => findLabel c 1) = some (.seq .skip _) from rfl] at hc
 cases hc
 refine ac_drop hsub ?_
 have hSt0 := hSt
 obtain ⟨hm, hxs, hmi, hil, hR⟩ := hSt
 obtain ⟨E0, rfl⟩ : ∃ E0 : Env, E = (((((((E0.put (some 0) (.string s)).put (some 5) (.slice aa m ca)).put (some 6) (.int .i64 (i : Int))).put (some 8) (.int .i64 line)).put (some 9) (.int .i64 start)).put (some 10) (.bool any_)).put (some 12) (.complex .f64 (here).re (here).im)) := ⟨E, by rw [put_self q0, put_self q5, put_self q6, put_self q8, put_self q9, put_self q10, put_self q12]⟩
 refine aQ (aQ (aL (aM 102 (.bool any_) rfl rfl (aN ?_))))
 refine bool_split (any_) (fun h1 => ?_) (fun h1 => ?_)
 ·refine ac_then' (b := any_) h1 rfl (aL (aM 103 (.slice aa m ca) rfl rfl (aM 104 (.complex .f64 (here).re (here).im) rfl rfl (ao 105 rfl rfl (st_bd (us := [(0, .int .i64 3), (1, .string (⟨#[]⟩ : ByteArray)), (2, .complex .f64 (here).re (here).im)]) (v := .agg #[.int .i64 3, .string (⟨#[]⟩ : ByteArray), .complex .f64 (here).re (here).im]) rfl rfl (bd32_0_1_2 _ _ _) (ao 106 rfl rfl (st_bs (us := [(0, .agg #[.int .i64 3, .string (⟨#[]⟩ : ByteArray), .complex .f64 (here).re (here).im])]) (cs := [.int .i64 3, .string (⟨#[]⟩ : ByteArray), .complex .f64 (here).re (here).im]) rfl rfl (bs22_1_0a _ _ _) fun g0 => ?_)))))))
  refine ao 107 rfl rfl (st_appZ (A := [⟨g0, [.int .i64 3, .string (⟨#[]⟩ : ByteArray), .complex .f64 (here).re (here).im], 32, false⟩]) (N := NA) (xs := xs) (news := [.int .i64 3, .string (⟨#[]⟩ : ByteArray), .complex .f64 (here).re (here).im]) (r := []) slT22 rfl rfl rfl hR rfl (List.mem_of_getElem? (i := 0) rfl) rfl rfl rfl rfl (by decide) (by simp only [maxLen]; omega) (by omega) (fun v H H' hp h => ar_perm hp h) fun v9 Nu1 Ru1 => ?_)
  obtain ⟨au1, cu1, rfl⟩ := Ru1.form
  refine aA 5 (.slice au1 (m + 1) cu1) rfl rfl (aN (aQ (aQ (aL (aM 108 (.int .i64 (i : Int)) rfl rfl (aM 109 (.string s) rfl rfl (ao 110 rfl rfl (st_slen (s := s) rfl Tryd.underlying9 rfl (aB 111 (.bool ((i : Int) == ((s).size : Int))) rfl rfl rfl (bi_eql rfl) (aN ?_))))))))))
  refine bool_split ((i : Int) == ((s).size : Int)) (fun h2 => ?_) (fun h2 => ?_)
  ·refine ac_then' (b := (i : Int) == ((s).size : Int)) h2 rfl (aQ (aL (aM 112 (.slice au1 (m + 1) cu1) rfl rfl (aA 2 (.slice au1 (m + 1) cu1) rfl rfl (aA 3 (.complex .f64 ((⟨0, 0⟩ : Cx)).re ((⟨0, 0⟩ : Cx)).im) rfl rfl (aA 4 (.int .i64 0) rfl rfl (aN (ac_ret ?_))))))))
   simp only [lexFeed, h1, h2, cond_true, cond_false] at hq
   exact fing_ret (N := Nu1) (tokPost_row hq (by simp [hm]) (by omega) (by rw [hxs]; simp [flatT, Tok.cells]) Ru1) (List.Sublist.cons _ (List.Sublist.refl _)) (rowFree Ru1) (res_ttt rfl rfl rfl rfl)
  ·refine ac_else' (b := (i : Int) == ((s).size : Int)) h2 rfl (ac_skip (aQ (aL (aM 113 (.int .i64 (i : Int)) rfl rfl (aB 114 (.int .i64 (w64 ((i : Int) + 1))) rfl rfl rfl (bi_add rfl) (aA 6 (.int .i64 (w64 ((i : Int) + 1))) rfl rfl (aN (aQ (aL (aM 115 (.int .i64 line) rfl rfl (aB 116 (.int .i64 (w64 (line + 1))) rfl rfl rfl (bi_add rfl) (aM 117 (.int .i64 (w64 ((i : Int) + 1))) rfl rfl (aA 8 (.int .i64 (w64 (line + 1))) rfl rfl (aA 9 (.int .i64 (w64 ((i : Int) + 1))) rfl rfl (aA 10 (.bool false) rfl rfl (aN ?_))))))))))))))))
   refine ac_goto ?_
   simp only [lexFeed, h1, h2, cond_true, cond_false] at hq
   exact lexj0 (i := (i + 1)) (n := n) (lexSt_more hm hxs (by have := hmi; omega) (ne_lt hil h2) (by rfl) Ru1) (List.Sublist.cons _ (List.Sublist.refl _)) rfl rfl (w64_succ hs4 hil) rfl (w64_succ hs4 hil) rfl (by have := hil; have := (ne_lt hil h2); omega) (by have := hil; have := (ne_lt hil h2); omega) hq
 ·refine ac_else' (b := any_) h1 rfl (ac_skip (aQ (aQ (aL (aM 108 (.int .i64 (i : Int)) rfl rfl (aM 109 (.string s) rfl rfl (ao 110 rfl rfl (st_slen (s := s) rfl Tryd.underlying9 rfl (aB 111 (.bool ((i : Int) == ((s).size : Int))) rfl rfl rfl (bi_eql rfl) (aN ?_))))))))))
  refine bool_split ((i : Int) == ((s).size : Int)) (fun h2 => ?_) (fun h2 => ?_)
  ·refine ac_then' (b := (i : Int) == ((s).size : Int)) h2 rfl (aQ (aL (aM 112 (.slice aa m ca) rfl rfl (aA 2 (.slice aa m ca) rfl rfl (aA 3 (.complex .f64 ((⟨0, 0⟩ : Cx)).re ((⟨0, 0⟩ : Cx)).im) rfl rfl (aA 4 (.int .i64 0) rfl rfl (aN (ac_ret ?_))))))))
   simp only [lexFeed, h1, h2, cond_true, cond_false] at hq
   exact fing_ret (N := NA) (tokPost_row hq hm (by omega) hxs hR) (List.Sublist.refl _) (rowFree hR) (res_ttt rfl rfl rfl rfl)
  ·refine ac_else' (b := (i : Int) == ((s).size : Int)) h2 rfl (ac_skip (aQ (aL (aM 113 (.int .i64 (i : Int)) rfl rfl (aB 114 (.int .i64 (w64 ((i : Int) + 1))) rfl rfl rfl (bi_add rfl) (aA 6 (.int .i64 (w64 ((i : Int) + 1))) rfl rfl (aN (aQ (aL (aM 115 (.int .i64 line) rfl rfl (aB 116 (.int .i64 (w64 (line + 1))) rfl rfl rfl (bi_add rfl) (aM 117 (.int .i64 (w64 ((i : Int) + 1))) rfl rfl (aA 8 (.int .i64 (w64 (line + 1))) rfl rfl (aA 9 (.int .i64 (w64 ((i : Int) + 1))) rfl rfl (aA 10 (.bool false) rfl rfl (aN ?_))))))))))))))))
   refine ac_goto ?_
   simp only [lexFeed, h1, h2, cond_true, cond_false] at hq
   exact lexj0 (i := (i + 1)) (n := n) (lexSt_same hSt0 (by omega) (ne_lt hil h2)) (List.Sublist.refl _) rfl rfl (w64_succ hs4 hil) rfl (w64_succ hs4 hil) rfl (by have := hil; have := (ne_lt hil h2); omega) (by have := hil; have := (ne_lt hil h2); omega) hq
set_option maxRecDepth 100000 in
set_option maxHeartbeats 4000000 in
theorem seg2 (s : ByteArray) (hs4 : s.size ≤ 4000) (R : LRes) (K i m ca n : Nat) (line start : Int) (any_ : Bool) (out : List Tok) (aa : Option Addr) (NA : List Box) (xs : List Value) (hSt : LexSt s out i m ca aa xs NA) (here : Cx) (hk : K = 2 * (s.size - i)) (hn : s.size - i ≤ n) (hi : i < s.size) (hq : lexRun s n (runTo lexNoLine s (s.size - (i + 1)) (i + 1)) line start any_ out = R) {E : Env} {H : List Box} {rest : Code} (hc : ((Tryd.f9.body.bind scopeOf).bind fun c => findLabel c 2) = some (.seq .skip rest)) (hsub : List.Sublist NA H) (q0 : E 0 = .string s) (q5 : E 5 = .slice aa m ca) (q6 : E 6 = .int .i64 (i : Int)) (q8 : E 8 = .int .i64 line) (q9 : E 9 = .int .i64 start) (q10 : E 10 = .bool any_) (q12 : E 12 = .complex .f64 (here).re (here).im) : AC Tryd.prog 118 rest (AJ (fun l' E' H' => ∃ k', k' < K ∧ LexJ s R l' k' E' H') (FinG Tryd.prog Tryd.f9 118 (TokPost R))) E H := by
 rw [show ((Tryd.f9.body.bind scopeOf).bind fun c => findLabel c 2) = some (.seq .skip _) from rfl] at hc
 cases hc
 refine ac_drop hsub ?_
 have hSt0 := hSt
 obtain ⟨hm, hxs, hmi, hil, hR⟩ := hSt
 obtain ⟨E0, rfl⟩ : ∃ E0 : Env, E = (((((((E0.put (some 0) (.string s)).put (some 5) (.slice aa m ca)).put (some 6) (.int .i64 (i : Int))).put (some 8) (.int .i64 line)).put (some 9) (.int .i64 start)).put (some 10) (.bool any_)).put (some 12) (.complex .f64 (here).re (here).im)) := ⟨E, by rw [put_self q0, put_self q5, put_self q6, put_self q8, put_self q9, put_self q10, put_self q12]⟩
 refine aQ (aL (aM 57 (.string s) rfl rfl (aM 58 (.int .i64 (i : Int)) rfl rfl (aC 59 (c_runL s i (by omega) hi) Tryd.func29 ⟨rfl, by decide⟩ rfl rfl (aA 6 (.int .i64 ((runTo lexNoLine s (s.size - (i + 1)) (i + 1) : Nat) : Int)) rfl rfl (aN (aQ ?_)))))))
 refine ac_goto ?_
 exact lexj0 (i := (runTo lexNoLine s (s.size - (i + 1)) (i + 1))) (n := n) (lexSt_same hSt0 (by have := run_ge1 lexNoLine s i; omega) (run_le1 lexNoLine hi)) (List.Sublist.refl _) rfl rfl rfl rfl rfl rfl (by have := run_ge1 lexNoLine s i; omega) (by have := run_ge1 lexNoLine s i; omega) hq
set_option maxRecDepth 100000 in
set_option maxHeartbeats 4000000 in
theorem seg3 (s : ByteArray) (hs4 : s.size ≤ 4000) (R : LRes) (K i m ca n : Nat) (line start : Int) (any_ : Bool) (out : List Tok) (aa : Option Addr) (NA : List Box) (xs : List Value) (hSt : LexSt s out i m ca aa xs NA) (here : Cx) (hk : K = 2 * (s.size - i)) (hn : s.size - i ≤ n) (hi : i < s.size) (hq : lexWord (lexRun s n) s i line start out here = R) {E : Env} {H : List Box} {rest : Code} (hc : ((Tryd.f9.body.bind scopeOf).bind fun c => findLabel c 3) = some (.seq .skip rest)) (hsub : List.Sublist NA H) (q0 : E 0 = .string s) (q5 : E 5 = .slice aa m ca) (q6 : E 6 = .int .i64 (i : Int)) (q8 : E 8 = .int .i64 line) (q9 : E 9 = .int .i64 start) (q10 : E 10 = .bool any_) (q12 : E 12 = .complex .f64 (here).re (here).im) : AC Tryd.prog 118 rest (AJ (fun l' E' H' => ∃ k', k' < K ∧ LexJ s R l' k' E' H') (FinG Tryd.prog Tryd.f9 118 (TokPost R))) E H := by
 rw [show ((Tryd.f9.body.bind scopeOf).bind fun c => findLabel c 3) = some (.seq .skip _) from rfl] at hc
 cases hc
 refine ac_drop hsub ?_
 have hSt0 := hSt
 obtain ⟨hm, hxs, hmi, hil, hR⟩ := hSt
 obtain ⟨E0, rfl⟩ : ∃ E0 : Env, E = (((((((E0.put (some 0) (.string s)).put (some 5) (.slice aa m ca)).put (some 6) (.int .i64 (i : Int))).put (some 8) (.int .i64 line)).put (some 9) (.int .i64 start)).put (some 10) (.bool any_)).put (some 12) (.complex .f64 (here).re (here).im)) := ⟨E, by rw [put_self q0, put_self q5, put_self q6, put_self q8, put_self q9, put_self q10, put_self q12]⟩
 refine aQ (aL (aM 60 (.string s) rfl rfl (aM 61 (.int .i64 (i : Int)) rfl rfl (aC 62 (c_runW s i (by omega) hi) Tryd.func29 ⟨rfl, by decide⟩ rfl rfl (aA 7 (.int .i64 ((runTo lexInWord s (s.size - (i + 1)) (i + 1) : Nat) : Int)) rfl rfl (aN (aQ (aQ (aL (aM 63 (.int .i64 ((runTo lexInWord s (s.size - (i + 1)) (i + 1) : Nat) : Int)) rfl rfl (aM 64 (.int .i64 (i : Int)) rfl rfl (aB 65 (.int .i64 (w64 (((runTo lexInWord s (s.size - (i + 1)) (i + 1) : Nat) : Int) - (i : Int)))) rfl rfl rfl (bi_sub rfl) (aB 66 (.bool (decide ((w64 (((runTo lexInWord s (s.size - (i + 1)) (i + 1) : Nat) : Int) - (i : Int))) > 20))) rfl rfl rfl (bi_gtr rfl) (aN ?_))))))))))))))
 refine bool_split (decide ((w64 (((runTo lexInWord s (s.size - (i + 1)) (i + 1) : Nat) : Int) - (i : Int))) > 20)) (fun h1 => ?_) (fun h1 => ?_)
 ·refine ac_then' (b := decide ((w64 (((runTo lexInWord s (s.size - (i + 1)) (i + 1) : Nat) : Int) - (i : Int))) > 20)) h1 rfl (aQ (aL (aM 67 (.complex .f64 (here).re (here).im) rfl rfl (aA 2 (.slice none 0 0) rfl rfl (aA 3 (.complex .f64 (here).re (here).im) rfl rfl (aA 4 (.int .i64 3) rfl rfl (aN (ac_ret ?_))))))))
  simp only [lexWord, h1, cond_true, cond_false] at hq
  exact fing_ret (N := []) (tokPost_nil hq) (List.nil_sublist _) rfl (res_ttt rfl rfl rfl rfl)
 ·refine ac_else' (b := decide ((w64 (((runTo lexInWord s (s.size - (i + 1)) (i + 1) : Nat) : Int) - (i : Int))) > 20)) h1 rfl (ac_skip (aQ (aL (aM 68 (.slice aa m ca) rfl rfl (aM 69 (.string s) rfl rfl (aM 70 (.int .i64 (i : Int)) rfl rfl (aM 71 (.int .i64 ((runTo lexInWord s (s.size - (i + 1)) (i + 1) : Nat) : Int)) rfl rfl (ao 72 rfl rfl (st_ss (run_bd lexInWord hi) rfl Tryd.underlying9 rfl rfl rfl (aM 73 (.complex .f64 (here).re (here).im) rfl rfl ?_))))))))))
  refine ao 74 rfl rfl (st_bd (us := [(0, .int .i64 1), (1, .string (subS s (i : Int) ((runTo lexInWord s (s.size - (i + 1)) (i + 1) : Nat) : Int))), (2, .complex .f64 (here).re (here).im)]) (v := .agg #[.int .i64 1, .string (subS s (i : Int) ((runTo lexInWord s (s.size - (i + 1)) (i + 1) : Nat) : Int)), .complex .f64 (here).re (here).im]) rfl rfl (bd32_0_1_2 _ _ _) ?_)
  refine ao 75 rfl rfl (st_bs (us := [(0, .agg #[.int .i64 1, .string (subS s (i : Int) ((runTo lexInWord s (s.size - (i + 1)) (i + 1) : Nat) : Int)), .complex .f64 (here).re (here).im])]) (cs := [.int .i64 1, .string (subS s (i : Int) ((runTo lexInWord s (s.size - (i + 1)) (i + 1) : Nat) : Int)), .complex .f64 (here).re (here).im]) rfl rfl (bs22_1_0a _ _ _) fun g0 => ?_)
  refine ao 76 rfl rfl (st_appZ (A := [⟨g0, [.int .i64 1, .string (subS s (i : Int) ((runTo lexInWord s (s.size - (i + 1)) (i + 1) : Nat) : Int)), .complex .f64 (here).re (here).im], 32, false⟩]) (N := NA) (xs := xs) (news := [.int .i64 1, .string (subS s (i : Int) ((runTo lexInWord s (s.size - (i + 1)) (i + 1) : Nat) : Int)), .complex .f64 (here).re (here).im]) (r := []) slT22 rfl rfl rfl hR rfl (List.mem_of_getElem? (i := 0) rfl) rfl rfl rfl rfl (by decide) (by simp only [maxLen]; omega) (by omega) (fun v H H' hp h => ar_perm hp h) fun v9 Nu1 Ru1 => ?_)
  obtain ⟨au1, cu1, rfl⟩ := Ru1.form
  refine aA 5 (.slice au1 (m + 1) cu1) rfl rfl (aN (aQ (aL (aM 77 (.int .i64 ((runTo lexInWord s (s.size - (i + 1)) (i + 1) : Nat) : Int)) rfl rfl (aA 6 (.int .i64 ((runTo lexInWord s (s.size - (i + 1)) (i + 1) : Nat) : Int)) rfl rfl (aA 10 (.bool true) rfl rfl (aN (aQ ?_))))))))
  refine ac_goto ?_
  simp only [lexWord, h1, cond_true, cond_false] at hq
  exact lexj0 (i := (runTo lexInWord s (s.size - (i + 1)) (i + 1))) (n := n) (lexSt_more hm hxs (by have := run_ge1 lexInWord s i; omega) (run_le1 lexInWord hi) (by rfl) Ru1) (List.Sublist.cons _ (List.Sublist.refl _)) rfl rfl rfl rfl rfl rfl (by have := run_ge1 lexInWord s i; omega) (by have := run_ge1 lexInWord s i; omega) hq
set_option maxRecDepth 100000 in
set_option maxHeartbeats 4000000 in
theorem seg4 (s : ByteArray) (hs4 : s.size ≤ 4000) (R : LRes) (K i m ca n : Nat) (line start : Int) (any_ : Bool) (out : List Tok) (aa : Option Addr) (NA : List Box) (xs : List Value) (hSt : LexSt s out i m ca aa xs NA) (here : Cx) (hk : K = 2 * (s.size - i)) (hn : s.size - i ≤ n) (hi : i < s.size) (hq : lexNum (lexRun s n) s i line start out here = R) {E : Env} {H : List Box} {rest : Code} (hc : ((Tryd.f9.body.bind scopeOf).bind fun c => findLabel c 4) = some (.seq .skip rest)) (hsub : List.Sublist NA H) (q0 : E 0 = .string s) (q5 : E 5 = .slice aa m ca) (q6 : E 6 = .int .i64 (i : Int)) (q8 : E 8 = .int .i64 line) (q9 : E 9 = .int .i64 start) (q10 : E 10 = .bool any_) (q12 : E 12 = .complex .f64 (here).re (here).im) : AC Tryd.prog 118 rest (AJ (fun l' E' H' => ∃ k', k' < K ∧ LexJ s R l' k' E' H') (FinG Tryd.prog Tryd.f9 118 (TokPost R))) E H := by
 rw [show ((Tryd.f9.body.bind scopeOf).bind fun c => findLabel c 4) = some (.seq .skip _) from rfl] at hc
 cases hc
 refine ac_drop hsub ?_
 have hSt0 := hSt
 obtain ⟨hm, hxs, hmi, hil, hR⟩ := hSt
 obtain ⟨E0, rfl⟩ : ∃ E0 : Env, E = (((((((E0.put (some 0) (.string s)).put (some 5) (.slice aa m ca)).put (some 6) (.int .i64 (i : Int))).put (some 8) (.int .i64 line)).put (some 9) (.int .i64 start)).put (some 10) (.bool any_)).put (some 12) (.complex .f64 (here).re (here).im)) := ⟨E, by rw [put_self q0, put_self q5, put_self q6, put_self q8, put_self q9, put_self q10, put_self q12]⟩
 refine aQ (aL (aM 78 (.string s) rfl rfl (aM 79 (.int .i64 (i : Int)) rfl rfl (aC 80 (c_runN s i (by omega) hi) Tryd.func29 ⟨rfl, by decide⟩ rfl rfl (aA 7 (.int .i64 ((runTo lexInNum s (s.size - (i + 1)) (i + 1) : Nat) : Int)) rfl rfl (aN (aQ (aQ (aL (aM 82 (.string s) rfl rfl (aM 83 (.int .i64 (i : Int)) rfl rfl (aM 84 (.int .i64 ((runTo lexInNum s (s.size - (i + 1)) (i + 1) : Nat) : Int)) rfl rfl (ao 85 rfl rfl (st_ss (run_bd lexInNum hi) rfl Tryd.underlying9 rfl rfl rfl (aC 86 (c_decRead (subS s (i : Int) ((runTo lexInNum s (s.size - (i + 1)) (i + 1) : Nat) : Int)) (Nat.le_trans (subS_le _ _ _ hs4) (by decide))) Tryd.func17 ⟨rfl, by decide⟩ rfl rfl ?_)))))))))))))))
 refine aM 81 (.tuple #[.agg #[.int .i64 (((decRead (subS s (i : Int) ((runTo lexInNum s (s.size - (i + 1)) (i + 1) : Nat) : Int))).1).c), .int .i64 (((decRead (subS s (i : Int) ((runTo lexInNum s (s.size - (i + 1)) (i + 1) : Nat) : Int))).1).scale)], .bool ((decRead (subS s (i : Int) ((runTo lexInNum s (s.size - (i + 1)) (i + 1) : Nat) : Int))).2)]) rfl rfl (aX 87 (.agg #[.int .i64 (((decRead (subS s (i : Int) ((runTo lexInNum s (s.size - (i + 1)) (i + 1) : Nat) : Int))).1).c), .int .i64 (((decRead (subS s (i : Int) ((runTo lexInNum s (s.size - (i + 1)) (i + 1) : Nat) : Int))).1).scale)]) rfl rfl rfl ?_)
 refine aX 88 (.bool ((decRead (subS s (i : Int) ((runTo lexInNum s (s.size - (i + 1)) (i + 1) : Nat) : Int))).2)) rfl rfl rfl (ao 13 rfl rfl (st_new zero52 rfl fun g0 => (aS [.int .i64 (((decRead (subS s (i : Int) ((runTo lexInNum s (s.size - (i + 1)) (i + 1) : Nat) : Int))).1).c), .int .i64 (((decRead (subS s (i : Int) ((runTo lexInNum s (s.size - (i + 1)) (i + 1) : Nat) : Int))).1).scale)] agg52 0 rfl rfl rfl rfl rfl rfl (aA 14 (.bool ((decRead (subS s (i : Int) ((runTo lexInNum s (s.size - (i + 1)) (i + 1) : Nat) : Int))).2)) rfl rfl (aN (aQ (aL (aM 89 (.bool ((decRead (subS s (i : Int) ((runTo lexInNum s (s.size - (i + 1)) (i + 1) : Nat) : Int))).2)) rfl rfl ?_))))))))
 refine ao 90 rfl rfl (st_un (v := .bool (!((decRead (subS s (i : Int) ((runTo lexInNum s (s.size - (i + 1)) (i + 1) : Nat) : Int))).2))) rfl rfl (un_not rfl) (aN ?_))
 refine bool_split ((decRead (subS s (i : Int) ((runTo lexInNum s (s.size - (i + 1)) (i + 1) : Nat) : Int))).2) (fun h1 => ?_) (fun h1 => ?_)
 ·refine ac_else' (b := !((decRead (subS s (i : Int) ((runTo lexInNum s (s.size - (i + 1)) (i + 1) : Nat) : Int))).2)) (by rw [h1]; rfl) rfl (ac_skip (aQ (aL (aM 92 (.slice aa m ca) rfl rfl (aM 93 (.string s) rfl rfl (aM 94 (.int .i64 (i : Int)) rfl rfl (aM 95 (.int .i64 ((runTo lexInNum s (s.size - (i + 1)) (i + 1) : Nat) : Int)) rfl rfl (ao 96 rfl rfl (st_ss (run_bd lexInNum hi) rfl Tryd.underlying9 rfl rfl rfl (aM 97 (.complex .f64 (here).re (here).im) rfl rfl ?_))))))))))
  refine ao 98 rfl rfl (st_bd (us := [(0, .int .i64 2), (1, .string (subS s (i : Int) ((runTo lexInNum s (s.size - (i + 1)) (i + 1) : Nat) : Int))), (2, .complex .f64 (here).re (here).im)]) (v := .agg #[.int .i64 2, .string (subS s (i : Int) ((runTo lexInNum s (s.size - (i + 1)) (i + 1) : Nat) : Int)), .complex .f64 (here).re (here).im]) rfl rfl (bd32_0_1_2 _ _ _) ?_)
  refine ao 99 rfl rfl (st_bs (us := [(0, .agg #[.int .i64 2, .string (subS s (i : Int) ((runTo lexInNum s (s.size - (i + 1)) (i + 1) : Nat) : Int)), .complex .f64 (here).re (here).im])]) (cs := [.int .i64 2, .string (subS s (i : Int) ((runTo lexInNum s (s.size - (i + 1)) (i + 1) : Nat) : Int)), .complex .f64 (here).re (here).im]) rfl rfl (bs22_1_0a _ _ _) fun g1 => ?_)
  refine ao 100 rfl rfl (st_appZ (A := [⟨g1, [.int .i64 2, .string (subS s (i : Int) ((runTo lexInNum s (s.size - (i + 1)) (i + 1) : Nat) : Int)), .complex .f64 (here).re (here).im], 32, false⟩, ⟨g0, [.int .i64 (((decRead (subS s (i : Int) ((runTo lexInNum s (s.size - (i + 1)) (i + 1) : Nat) : Int))).1).c), .int .i64 (((decRead (subS s (i : Int) ((runTo lexInNum s (s.size - (i + 1)) (i + 1) : Nat) : Int))).1).scale)], 52, false⟩]) (N := NA) (xs := xs) (news := [.int .i64 2, .string (subS s (i : Int) ((runTo lexInNum s (s.size - (i + 1)) (i + 1) : Nat) : Int)), .complex .f64 (here).re (here).im]) (r := []) slT22 rfl rfl rfl hR rfl (List.mem_of_getElem? (i := 0) rfl) rfl rfl rfl rfl (by decide) (by simp only [maxLen]; omega) (by omega) (fun v H H' hp h => ar_perm hp h) fun v9 Nu1 Ru1 => ?_)
  obtain ⟨au1, cu1, rfl⟩ := Ru1.form
  refine aA 5 (.slice au1 (m + 1) cu1) rfl rfl (aN (aQ (aL (aM 101 (.int .i64 ((runTo lexInNum s (s.size - (i + 1)) (i + 1) : Nat) : Int)) rfl rfl (aA 6 (.int .i64 ((runTo lexInNum s (s.size - (i + 1)) (i + 1) : Nat) : Int)) rfl rfl (aA 10 (.bool true) rfl rfl (aN (aQ ?_))))))))
  refine ac_goto ?_
  simp only [lexNum, h1, cond_true, cond_false] at hq
  exact lexj0 (i := (runTo lexInNum s (s.size - (i + 1)) (i + 1))) (n := n) (lexSt_more hm hxs (by have := run_ge1 lexInNum s i; omega) (run_le1 lexInNum hi) (by rfl) Ru1) (List.Sublist.cons _ (List.Sublist.cons _ (List.Sublist.refl _))) rfl rfl rfl rfl rfl rfl (by have := run_ge1 lexInNum s i; omega) (by have := run_ge1 lexInNum s i; omega) hq
 ·refine ac_then' (b := !((decRead (subS s (i : Int) ((runTo lexInNum s (s.size - (i + 1)) (i + 1) : Nat) : Int))).2)) (by rw [h1]; rfl) rfl (aQ (aL (aM 91 (.complex .f64 (here).re (here).im) rfl rfl (aA 2 (.slice none 0 0) rfl rfl (aA 3 (.complex .f64 (here).re (here).im) rfl rfl (aA 4 (.int .i64 2) rfl rfl (aN (ac_ret ?_))))))))
  simp only [lexNum, h1, cond_true, cond_false] at hq
  exact fing_ret (N := []) (tokPost_nil hq) (List.nil_sublist _) rfl (res_ttt rfl rfl rfl rfl)
theorem tok_pass (s : ByteArray) (hs4 : s.size ≤ 4000) (R : LRes) {c : Code} (hc : Tryd.f9.body.bind scopeOf = some c) (l k : Nat) (E : Env) (H : List Box) (h : LexJ s R l k E H) : ∃ rest, findLabel c l = some rest ∧ AC Tryd.prog 118 rest (AJ (fun l' E' H' => ∃ k', k' < k ∧ LexJ s R l' k' E' H') (FinG Tryd.prog Tryd.f9 118 (TokPost R))) E H := by
 have key : ∀ rest, (((Tryd.f9.body.bind scopeOf).bind fun c => findLabel c l) = some rest) → findLabel c l = some rest := by
  intro rest hr
  rw [hc] at hr
  exact hr
 obtain ⟨i, m, ca, n, line, start, any_, here, out, aa, NA, xs, hSt, hsub, q0, q5, q6, q8, q9, q10, h⟩ := h
 rcases h with ⟨rfl, hk, hn, hR⟩ | ⟨q12, hk, hn, ⟨rfl, hR⟩ | ⟨hi, ⟨rfl, hR⟩ | ⟨rfl, hR⟩ | ⟨rfl, hR⟩⟩⟩
 ·obtain ⟨n, rfl⟩ : ∃ n', n = n' + 1 := ⟨n - 1, by omega⟩
  exact ⟨_, key _ rfl, ac_seq (ac_skip (seg0 s hs4 R k i m ca n line start any_ out aa NA xs hSt hk (by omega) hR rfl hsub q0 q5 q6 q8 q9 q10))⟩
 ·exact ⟨_, key _ rfl, ac_seq (ac_skip (seg1 s hs4 R k i m ca n line start any_ out aa NA xs hSt here hk hn hR rfl hsub q0 q5 q6 q8 q9 q10 q12))⟩
 ·exact ⟨_, key _ rfl, ac_seq (ac_skip (seg2 s hs4 R k i m ca n line start any_ out aa NA xs hSt here hk hn hi hR rfl hsub q0 q5 q6 q8 q9 q10 q12))⟩
 ·exact ⟨_, key _ rfl, ac_seq (ac_skip (seg3 s hs4 R k i m ca n line start any_ out aa NA xs hSt here hk hn hi hR rfl hsub q0 q5 q6 q8 q9 q10 q12))⟩
 ·exact ⟨_, key _ rfl, ac_seq (ac_skip (seg4 s hs4 R k i m ca n line start any_ out aa NA xs hSt here hk hn hi hR rfl hsub q0 q5 q6 q8 q9 q10 q12))⟩
set_option maxRecDepth 100000 in
theorem c_tokBig (s : ByteArray) (hs : 4000 < s.size) : Gives Tryd.prog 9 #[.string s] [] (TokPost (lexAll s)) := by
 refine gives_fin Tryd.func9 rfl rfl rfl rfl (aQ (aL (aA 2 (.slice none 0 0) rfl rfl (aA 3 (.complex .f64 ((⟨0, 0⟩ : Cx)).re ((⟨0, 0⟩ : Cx)).im) rfl rfl (aA 4 (.int .i64 0) rfl rfl (aN ?_))))))
 refine ac_scope (fun l k E H => False) ?_ ?_
 rotate_left
 ·intro l k E H h; exact h.elim
 refine aQ (aL (aA 5 (.slice none 0 0) rfl rfl (aN (aQ (aL (aA 6 (.int .i64 0) rfl rfl (aA 7 (.int .i64 0) rfl rfl (aN (aQ (aL (aA 8 (.int .i64 1) rfl rfl (aA 9 (.int .i64 0) rfl rfl (aN (aQ (aL (aA 10 (.bool false) rfl rfl (aN (aQ (aL (aA 11 (.int .u8 0) rfl rfl (aN (aQ (aL (aA 12 (.complex .f64 ((⟨0, 0⟩ : Cx)).re ((⟨0, 0⟩ : Cx)).im) rfl rfl (aN (aQ (aQ (aL (aM 15 (.string s) rfl rfl (ao 16 rfl rfl (st_slen (s := s) rfl Tryd.underlying9 rfl (aB 17 (.bool (decide (((s).size : Int) > 4000))) rfl rfl rfl (bi_gtr rfl) (aN (ac_then' (b := decide (((s).size : Int) > 4000)) (decide_eq_true (by omega)) rfl (aQ (aL (aA 2 (.slice none 0 0) rfl rfl ?_)))))))))))))))))))))))))))))))))))))
 refine aA 3 (.complex .f64 ((⟨0, 0⟩ : Cx)).re ((⟨0, 0⟩ : Cx)).im) rfl rfl (aA 4 (.int .i64 3) rfl rfl (aN (ac_ret ?_)))
 exact fing_ret (N := []) (tokPost_nil (by rw [lexAll, decide_eq_true (by omega)]; rfl)) (List.nil_sublist _) rfl (res_ttt rfl rfl rfl rfl)
set_option maxRecDepth 100000 in
theorem c_tokFit (s : ByteArray) (hs : s.size ≤ 4000) : Gives Tryd.prog 9 #[.string s] [] (TokPost (lexAll s)) := by
 refine gives_fin Tryd.func9 rfl rfl rfl rfl (aQ (aL (aA 2 (.slice none 0 0) rfl rfl (aA 3 (.complex .f64 ((⟨0, 0⟩ : Cx)).re ((⟨0, 0⟩ : Cx)).im) rfl rfl (aA 4 (.int .i64 0) rfl rfl (aN ?_))))))
 refine ac_scope (fun l k E H => LexJ s (lexAll s) l k E H) ?_ ?_
 rotate_left
 ·intro l k E H h; exact tok_pass s (by omega) (lexAll s) rfl l k E H h
 refine aQ (aL (aA 5 (.slice none 0 0) rfl rfl (aN (aQ (aL (aA 6 (.int .i64 0) rfl rfl (aA 7 (.int .i64 0) rfl rfl (aN (aQ (aL (aA 8 (.int .i64 1) rfl rfl (aA 9 (.int .i64 0) rfl rfl (aN (aQ (aL (aA 10 (.bool false) rfl rfl (aN (aQ (aL (aA 11 (.int .u8 0) rfl rfl (aN (aQ (aL (aA 12 (.complex .f64 ((⟨0, 0⟩ : Cx)).re ((⟨0, 0⟩ : Cx)).im) rfl rfl (aN (aQ (aQ (aL (aM 15 (.string s) rfl rfl (ao 16 rfl rfl (st_slen (s := s) rfl Tryd.underlying9 rfl (aB 17 (.bool (decide (((s).size : Int) > 4000))) rfl rfl rfl (bi_gtr rfl) (aN (ac_else' (b := decide (((s).size : Int) > 4000)) (decide_eq_false (by omega)) rfl (ac_skip (aQ ?_))))))))))))))))))))))))))))))))))))
 refine ac_label ?_
 exact AC.mono (seg0 s (by omega) (lexAll s) (2 * (s.size - 0) + 1) 0 0 0 s.size 1 0 false [] none [] [] ⟨rfl, rfl, Nat.le_refl _, Nat.zero_le _, Row.nil _ _⟩ rfl (by omega) (by rw [lexAll, decide_eq_false (by omega)]; rfl) rfl (List.Sublist.refl _) rfl rfl rfl rfl rfl rfl) aj_weak
theorem c_tokens (s : ByteArray) : Gives Tryd.prog 9 #[.string s] [] (TokPost (lexAll s)) := by
 by_cases h : s.size ≤ 4000
 ·exact c_tokFit s h
 ·exact c_tokBig s (by omega)
end Go.Proofs.YtalffjplbhelcaaDoor
namespace Go.Proofs.YtalffjplbhelcaaDoor
open Go.RowKit
def fill (n k : Nat) : List Value := List.replicate k (.int .u8 32) ++ List.replicate (n - k) (.int .u8 0)
def blanks (n : Nat) : ByteArray := ⟨(List.replicate n (32 : UInt8)).toArray⟩
theorem fill_le {n k : Nat} (h : k < n) : Nat.ble (0 + k * 1 + 1) (fill n k).length = true := by
  simp only [fill, List.length_append, List.length_replicate, Nat.ble_eq]
  omega
theorem fill_set {n k : Nat} (h : k < n) : (fill n k).take (0 + k * 1) ++ [.int .u8 32] ++ (fill n k).drop (0 + k * 1 + 1) = fill n (k + 1) := by
  obtain ⟨j, rfl⟩ : ∃ j, n = k + 1 + j := ⟨n - (k + 1), by omega⟩
  have e1 : k + 1 + j - k = j + 1 := by omega
  have e2 : k + 1 + j - (k + 1) = j := by omega
  have e3 : 0 + k * 1 = k := by omega
  rw [e3]
  unfold fill
  rw [e1, e2, List.take_append_of_le_length (by simp), List.take_of_length_le (by simp), List.drop_append, List.drop_of_length_le (by simp), List.length_replicate, show k + 1 - k = 1 by omega, List.replicate_succ (n := j), List.drop_succ_cons, List.drop_zero, List.replicate_succ']
  simp
section
variable {p : Program} {n : Nat} {o : Oper} {H : List Box} {ρ : Operand → Value} {K : Post}
theorem st_mkF {t e m by_ : Nat} {x y : Operand} (hu : p.underlying t = some (.slice e)) (hi : (p.info? e).map (fun i => (i.zero, i.size, i.bytes)) = some (some (.int .u8 0), 1, by_)) (hby : by_ * m ≤ 281474976710656) (ho : o.op = .makeSlice t x y) (hx : ρ x = .int .i64 (m : Int)) (hy : ρ y = .int .i64 (m : Int)) (h63 : m ≤ 9223372036854775807)
    (k : ∀ g, K (.slice (some ⟨g, 0, none⟩) m m) (⟨g, fill m 0, e, false⟩ :: H)) : Step p ρ o H K := by
  intro F β w hO hB
  obtain ⟨i, hi, hzz⟩ := Option.map_eq_some_iff.1 hi
  simp only [Prod.mk.injEq] at hzz
  obtain ⟨hz, hs, hb⟩ := hzz
  have hb' : (i.bytes : Int) * (m : Int) ≤ 281474976710656 := by
    have h : ((i.bytes * m : Nat) : Int) ≤ 281474976710656 := by rw [hb]; omega
    rwa [Int.natCast_mul] at h
  have hr := run_make (P := p) w t e i _ hu hi hz .i64 .i64 m m (by omega) (Int.le_refl _) hb' (by omega)
  have ec : madeCells (Value.cells (.int .u8 0)) ((m : Int).toNat * i.size) = (fill m 0).toArray := by
    rw [hs, Int.toNat_natCast, Nat.mul_one]
    apply Array.ext'
    simp only [fill, List.replicate_zero, List.nil_append, Nat.sub_zero]
    apply List.ext_getElem
    · simp [madeCells]
    · intro j h1 h2
      have : (Value.cells (.int .u8 0)) = #[.int .u8 0] := rfl
      have hj : j % 1 = 0 := Nat.mod_one j
      simp [madeCells, this, hj]
  rw [ec] at hr
  have e1 : (execOp ρ o).run p w = .ok (.value (.slice (some ⟨w.heap.size, 0, none⟩) m m)) (w.alloc (.cells (fill m 0).toArray e (0, 0))) := by
    rw [execOp, ho]
    simp only [hx, hy]
    simp [Sem.run_bind, hr]
  rw [e1]
  exact ⟨_, k _, hO.alloc _ _, hB.alloc _⟩
theorem st_b2sF {t u e g m : Nat} {x : Operand} (i : Nat) (ho : o.op = .convert t u x) (ht : p.underlying t = some (.slice e)) (he : p.underlying e = some (.int .u8)) (hu : p.underlying u = some .string) (hx : ρ x = .slice (some ⟨g, 0, none⟩) m m) (hm : H[i]? = some ⟨g, fill m m, e, false⟩)
    (k : K (.string (blanks m)) H) : Step p ρ o H K := by
  intro F β w hO hB
  obtain ⟨fr, _, hb⟩ := (hO.at_ _ (List.mem_append_left _ (List.mem_of_getElem? hm))).2
  have hr := run_convert_bytes_back (P := p) w t u e ⟨g, 0, none⟩ m (List.replicate m 32) ht he hu fun j hj => by
    rw [add_at, Nat.zero_add, cell_of_row w g j _ _ _ hb]
    simp only [List.length_replicate] at hj
    simp [fill, hj]
  rw [List.length_replicate] at hr
  have e1 : (execOp ρ o).run p w = .ok (.value (.string (blanks m))) w := by
    rw [execOp, ho]
    simp only [hx]
    simp [Sem.run_bind, hr, blanks]
  rw [e1]
  exact ⟨H, k, hO, hB⟩
theorem st_gvT {f : FuncId} {x : Operand} {args : List Operand} {ts : Array TypeId} {vs : List Value} {R : List Box} {K' : Post} {fn : Func} {c : Code} (h : Gives p f vs.toArray R K') (hfn : p.funcs[f]? = some fn) (hb : fn.body = some c) (hnm : (fn.name == "runtime.NumGoroutine") = false)
    (ho : o.op = .call { callee := .value x, args := args.toArray, argTypes := ts }) (hf : ρ x = .func (.func f) #[] #[]) (hv : args.map ρ = vs) (hR : Has H R) (hnd : (R.map Box.g).Nodup) (hK : ∀ v H H', H.Perm H' → K v H → K v H') (k : ∀ v N, K' v N → K v (H ++ N)) : Step p ρ o H K :=
  st_gv h hfn hb hnm ho hf hv hR hnd fun v N hk => hK _ _ _ List.perm_append_comm (k v N hk)
end
theorem tok_closed {s : ByteArray} {v : Value} {N : List Box} (T : List Tok) (a : Cx) (e : Int) (m : Nat) (xs : List Value) (h : TokPost (lexAll s) v N) (hc : lexAll s = (T, a, e)) (hn : Nat.ble 1 T.length = true) (hm : T.length = m) (hxs : flatT T = xs) :
    ∃ (g ca : Nat) (r : List Value), v = .tuple #[.slice (some ⟨g, 0, none⟩) m ca, .complex .f64 a.re a.im, .int .i64 e] ∧ N = [⟨g, xs ++ r, 32, false⟩] := by
  subst hm hxs
  rw [hc] at h
  obtain ⟨m, ca, aa, xs, rfl, rfl, _, rfl, hR⟩ := h
  rcases hR with ⟨h0, _⟩ | ⟨g, cap, rest, hv, hN, _⟩
  · simp only at h0
    rw [h0] at hn
    cases hn
  · cases hv
    exact ⟨g, _, rest, rfl, hN⟩
theorem tok_any {R : LRes} {v : Value} {N : List Box} (h : TokPost R v N) : ∃ (m ca : Nat) (aa : Option Addr), v = .tuple #[.slice aa m ca, .complex .f64 R.2.1.re R.2.1.im, .int .i64 R.2.2] := by
  obtain ⟨m, ca, aa, xs, rfl, _⟩ := h
  exact ⟨m, ca, aa, rfl⟩
end Go.Proofs.YtalffjplbhelcaaDoor
namespace Go.Proofs.YtalffjplbhelcaaDoor
def tokEq (a b : Tok) : Bool := (a.kind == b.kind) && ((a.text == b.text) && cxEq a.at_ b.at_)
theorem cell_cx : IsCell Tryd.prog 23 := ⟨⟨_, Tryd.underlying23, rfl, by kernel_rfl⟩⟩
theorem cell_st : IsCell Tryd.prog 9 := ⟨⟨_, Tryd.underlying9, rfl, by kernel_rfl⟩⟩
theorem stood_tok : Tryd.prog.stoodInHeld 32 = false := by kernel_rfl
theorem eqi_str {p : Program} {w : World} (d : Nat) (t : TypeId) (a b : ByteArray) (h : p.underlying t = some .string) : (Op.equalIn (d + 1) t (.string a) (.string b)).run p w = .ok (a == b) w := by
  simp [Op.equalIn, run_underlying h]
theorem eqi_cx {p : Program} {w : World} (d : Nat) (t : TypeId) (a b : Cx) (h : p.underlying t = some (.complex .f64)) : (Op.equalIn (d + 1) t (.complex .f64 a.re a.im) (.complex .f64 b.re b.im)).run p w = .ok (cxEq a b) w := by
  simp [Op.equalIn, run_underlying h, cxEq, feq, Op.floatEq]
theorem eqr_tok (a b : Tok) (d : Nat) (w : World) : (Op.equalIn (d + 2) 32 (.agg a.cells.toArray) (.agg b.cells.toArray)).run Tryd.prog w = .ok (tokEq a b) w := by
  refine eqf_s (xs := a.cells) (ys := b.cells) Tryd.underlying32 stood_tok ?_
  refine eqf_c (by decide) (part_c cell_int rfl) (part_c cell_int rfl) (run_equalIn_int _ _ _ _ _ _ _ Tryd.underlying3) ?_
  refine eqf_c (by decide) (part_c cell_st rfl) (part_c cell_st rfl) (eqi_str _ _ _ _ Tryd.underlying9) ?_
  have := eqf_c (p := Tryd.prog) (d := d + 1) (xs := a.cells) (ys := b.cells) (w := w) (f := { name := "At", type := 23, offset := 2, embedded := false, tag := "", pkgPath := "", byteOffset := 24 }) (fs := []) (by decide) (part_c cell_cx rfl) (part_c cell_cx rfl) (eqi_cx _ _ _ _ Tryd.underlying23) eqf_n
  rw [Bool.and_true] at this
  exact this
theorem guard_tok : Tryd.prog.eqGuardType Tryd.prog.depth 32 = false := by kernel_rfl
theorem beql_32 (a b : Tok) {d : Bool} (h : tokEq a b = d) (x y : Operand) : Runs Tryd.prog (do eqGuard .eql 32 x y (.agg a.cells.toArray) (.agg b.cells.toArray); binOp .eql 32 (.agg a.cells.toArray) (.agg b.cells.toArray)) (.bool d) := bs_eql guard_tok (fun w => eqr_tok a b 9998 w) h x y
end Go.Proofs.YtalffjplbhelcaaDoor
namespace Go.Proofs.YtalffjplbhelcaaDoor
open Go.RowKit
theorem agg32 : IsAgg Tryd.prog 32 3 := ⟨⟨_, Tryd.underlying32, rfl, by kernel_rfl⟩⟩
theorem bd32_0_2 (x0_0 : Int) (x1_0 : Cx) : Runs Tryd.prog (Instr.build 32 #[(0, .int .i64 x0_0), (2, .complex .f64 (x1_0).re (x1_0).im)]) (.agg #[.int .i64 x0_0, .string (⟨#[]⟩ : ByteArray), .complex .f64 (x1_0).re (x1_0).im]) := ⟨fun w => by go_simp⟩
theorem cell23 : IsCell Tryd.prog 23 := ⟨⟨_, Tryd.underlying23, rfl, by kernel_rfl⟩⟩
theorem cell5 : IsCell Tryd.prog 5 := ⟨⟨_, Tryd.underlying5, rfl, by kernel_rfl⟩⟩
theorem fa32_0 (a : Addr) : Runs Tryd.prog (Instr.fieldAt 32 (.pointer (some a)) 0) (.pointer (some (a.add 0))) := run_fa (f := 0) (off := 0) (m := 1) Tryd.underlying32 rfl rfl (by kernel_rfl) (by decide) a
theorem fa32_1 (a : Addr) : Runs Tryd.prog (Instr.fieldAt 32 (.pointer (some a)) 1) (.pointer (some (a.add 1))) := run_fa (f := 1) (off := 1) (m := 1) Tryd.underlying32 rfl rfl (by kernel_rfl) (by decide) a
theorem fa32_2 (a : Addr) : Runs Tryd.prog (Instr.fieldAt 32 (.pointer (some a)) 2) (.pointer (some (a.add 2))) := run_fa (f := 2) (off := 2) (m := 1) Tryd.underlying32 rfl rfl (by kernel_rfl) (by decide) a
end Go.Proofs.YtalffjplbhelcaaDoor
namespace Go.Proofs.YtalffjplbhelcaaDoor
open Go.RowKit
attribute [local irreducible] AC AR DWalk
def lexWhy (s : ByteArray) : Cx × Int := ((lexAll s).2.1, (lexAll s).2.2)
set_option maxRecDepth 100000 in
theorem c_lexWhy (s : ByteArray) : Gets Tryd.prog 11 #[.string s] ((fun (r : Cx × Int) => (.tuple #[.complex .f64 (r.1).re (r.1).im, .int .i64 r.2] : Value)) (lexWhy s)) := by
 refine gets_fin Tryd.func11 rfl rfl rfl (aQ (aL (aA 2 (.complex .f64 ((⟨0, 0⟩ : Cx)).re ((⟨0, 0⟩ : Cx)).im) rfl rfl (aA 3 (.int .i64 0) rfl rfl (aN (aQ (aL (aM 8 (.string s) rfl rfl (ao 9 rfl rfl (st_gvT (vs := [.string s]) (R := []) (c_tokens s) Tryd.func9 rfl (by decide) rfl rfl rfl has_nil (by simp) (fun v H H' hp h => ar_perm hp h) fun v9 Nu9 R9 => ?_))))))))))
 obtain ⟨mT1, cT1, aT1, rfl⟩ := tok_any R9
 refine aM 7 (.tuple #[.slice aT1 mT1 cT1, .complex .f64 ((lexAll s).2.1).re ((lexAll s).2.1).im, .int .i64 ((lexAll s).2.2)]) rfl rfl (aX 10 (.slice aT1 mT1 cT1) rfl rfl rfl (aX 11 (.complex .f64 ((lexAll s).2.1).re ((lexAll s).2.1).im) rfl rfl rfl (aX 12 (.int .i64 ((lexAll s).2.2)) rfl rfl rfl (aA 4 (.slice aT1 mT1 cT1) rfl rfl (aA 5 (.complex .f64 ((lexAll s).2.1).re ((lexAll s).2.1).im) rfl rfl (aA 6 (.int .i64 ((lexAll s).2.2)) rfl rfl (aN (aQ (aL (aM 13 (.complex .f64 ((lexAll s).2.1).re ((lexAll s).2.1).im) rfl rfl (aM 14 (.int .i64 ((lexAll s).2.2)) rfl rfl (aA 2 (.complex .f64 ((lexAll s).2.1).re ((lexAll s).2.1).im) rfl rfl ?_))))))))))))
 refine aA 3 (.int .i64 ((lexAll s).2.2)) rfl rfl (aN (ac_ret (fin_eq (v := .tuple #[.complex .f64 ((lexAll s).2.1).re ((lexAll s).2.1).im, .int .i64 ((lexAll s).2.2)]) rfl (fin_ret (res_tt rfl rfl rfl)))))
def known10  : Bool := (bif cxEq (⟨0, 0⟩ : Cx) (⟨0, 0⟩ : Cx) then (bif tokEq (⟨1, (⟨#[97]⟩ : ByteArray), (⟨4607182418800017408, 4607182418800017408⟩ : Cx)⟩ : Tok) (⟨1, (⟨#[97]⟩ : ByteArray), (⟨4607182418800017408, 4607182418800017408⟩ : Cx)⟩ : Tok) then (bif tokEq (⟨2, (⟨#[49, 46, 53]⟩ : ByteArray), (⟨4607182418800017408, 4613937818241073152⟩ : Cx)⟩ : Tok) (⟨2, (⟨#[49, 46, 53]⟩ : ByteArray), (⟨4607182418800017408, 4613937818241073152⟩ : Cx)⟩ : Tok) then tokEq (⟨3, (⟨#[]⟩ : ByteArray), (⟨4607182418800017408, 4618441417868443648⟩ : Cx)⟩ : Tok) (⟨3, (⟨#[]⟩ : ByteArray), (⟨4607182418800017408, 4618441417868443648⟩ : Cx)⟩ : Tok) else false) else false) else false)
set_option maxRecDepth 100000 in
theorem c_known10  : Gets Tryd.prog 10 #[] ((fun (r : Bool) => (.bool r : Value)) known10) := by
 refine gets_fin Tryd.func10 rfl rfl rfl (aQ (aL (aA 0 (.bool false) rfl rfl (aN (aQ (aL (ao 5 rfl rfl (st_gv (R := []) (c_tokens (⟨#[97, 32, 49, 46, 53]⟩ : ByteArray)) Tryd.func9 rfl (by decide) rfl rfl rfl has_nil (by simp) fun v9 N9 R9 => ?_))))))))
 obtain ⟨gT1, cgT1, rgT1, rfl, rfl⟩ := tok_closed [⟨1, (⟨#[97]⟩ : ByteArray), (⟨4607182418800017408, 4607182418800017408⟩ : Cx)⟩, ⟨2, (⟨#[49, 46, 53]⟩ : ByteArray), (⟨4607182418800017408, 4613937818241073152⟩ : Cx)⟩, ⟨3, (⟨#[]⟩ : ByteArray), (⟨4607182418800017408, 4618441417868443648⟩ : Cx)⟩] (⟨0, 0⟩ : Cx) 0 3 [.int .i64 1, .string (⟨#[97]⟩ : ByteArray), .complex .f64 ((⟨4607182418800017408, 4607182418800017408⟩ : Cx)).re ((⟨4607182418800017408, 4607182418800017408⟩ : Cx)).im, .int .i64 2, .string (⟨#[49, 46, 53]⟩ : ByteArray), .complex .f64 ((⟨4607182418800017408, 4613937818241073152⟩ : Cx)).re ((⟨4607182418800017408, 4613937818241073152⟩ : Cx)).im, .int .i64 3, .string (⟨#[]⟩ : ByteArray), .complex .f64 ((⟨4607182418800017408, 4618441417868443648⟩ : Cx)).re ((⟨4607182418800017408, 4618441417868443648⟩ : Cx)).im] R9 (by decide +kernel) rfl rfl rfl
 refine aM 4 (.tuple #[.slice (some ⟨gT1, 0, none⟩) 3 cgT1, .complex .f64 ((⟨0, 0⟩ : Cx)).re ((⟨0, 0⟩ : Cx)).im, .int .i64 0]) rfl rfl (aX 6 (.slice (some ⟨gT1, 0, none⟩) 3 cgT1) rfl rfl rfl (aX 7 (.complex .f64 ((⟨0, 0⟩ : Cx)).re ((⟨0, 0⟩ : Cx)).im) rfl rfl rfl (aX 8 (.int .i64 0) rfl rfl rfl (aA 1 (.slice (some ⟨gT1, 0, none⟩) 3 cgT1) rfl rfl (aA 2 (.complex .f64 ((⟨0, 0⟩ : Cx)).re ((⟨0, 0⟩ : Cx)).im) rfl rfl (aA 3 (.int .i64 0) rfl rfl (aN (aQ (aL (aM 9 (.int .i64 0) rfl rfl (aB 10 (.bool true) rfl rfl rfl (bi_eql (by decide)) (aM 11 (.bool true) rfl rfl (ar_gd (d := (some 12)) rfl rfl (st_move (v := .complex .f64 ((⟨0, 0⟩ : Cx)).re ((⟨0, 0⟩ : Cx)).im) rfl rfl ?_))))))))))))))
 refine ar_gd (d := (some 13)) rfl rfl (st_bi (r := .bool (cxEq (⟨0, 0⟩ : Cx) (⟨0, 0⟩ : Cx))) rfl rfl rfl (bi_ceql (a := (⟨0, 0⟩ : Cx)) (b := (⟨0, 0⟩ : Cx)) rfl) (ao 14 rfl rfl (st_pkt (v := .bool (cxEq (⟨0, 0⟩ : Cx) (⟨0, 0⟩ : Cx))) rfl rfl rfl (aM 15 (.bool (cxEq (⟨0, 0⟩ : Cx) (⟨0, 0⟩ : Cx))) rfl rfl ?_))))
 refine bool_split (cxEq (⟨0, 0⟩ : Cx) (⟨0, 0⟩ : Cx)) (fun h1 => ?_) (fun h1 => ?_)
 ·refine ar_gd (d := (some 16)) (by show ((cxEq (⟨0, 0⟩ : Cx) (⟨0, 0⟩ : Cx)) == true) = true; rw [h1]; rfl) rfl (st_move (v := .slice (some ⟨gT1, 0, none⟩) 3 cgT1) rfl rfl (ar_gd (d := (some 17)) (by show ((cxEq (⟨0, 0⟩ : Cx) (⟨0, 0⟩ : Cx)) == true) = true; rw [h1]; rfl) rfl (st_ln (a := some ⟨gT1, 0, none⟩) (m := 3) (c := cgT1) rfl Tryd.underlying22 rfl (ar_gd (d := (some 18)) (by show ((cxEq (⟨0, 0⟩ : Cx) (⟨0, 0⟩ : Cx)) == true) = true; rw [h1]; rfl) rfl (st_bi (r := .bool true) rfl rfl rfl (bi_eql (by decide)) (ao 19 rfl rfl (st_pkt' (b := cxEq (⟨0, 0⟩ : Cx) (⟨0, 0⟩ : Cx)) (v := .bool true) h1 rfl rfl rfl (aM 20 (.bool true) rfl rfl ?_))))))))
  refine ar_gd (d := (some 21)) rfl rfl (st_move (v := .slice (some ⟨gT1, 0, none⟩) 3 cgT1) rfl rfl (ar_gd (d := (some 22)) rfl rfl (st_sa (g := gT1) (off := 0) (m := 3) (c := cgT1) (s := 3) (i := 0) rfl Tryd.underlying22 (by kernel_rfl) rfl rfl (by decide) (ar_gd (d := (some 23)) rfl rfl (st_lda (vs := [.int .i64 1, .string (⟨#[97]⟩ : ByteArray), .complex .f64 ((⟨4607182418800017408, 4607182418800017408⟩ : Cx)).re ((⟨4607182418800017408, 4607182418800017408⟩ : Cx)).im]) agg32 0 rfl rfl rfl rfl rfl rfl ?_)))))
  refine ar_gd (d := (some 24)) rfl rfl (st_bd (us := [(0, .int .i64 1), (1, .string (⟨#[97]⟩ : ByteArray)), (2, .complex .f64 ((⟨4607182418800017408, 4607182418800017408⟩ : Cx)).re ((⟨4607182418800017408, 4607182418800017408⟩ : Cx)).im)]) (v := .agg #[.int .i64 1, .string (⟨#[97]⟩ : ByteArray), .complex .f64 ((⟨4607182418800017408, 4607182418800017408⟩ : Cx)).re ((⟨4607182418800017408, 4607182418800017408⟩ : Cx)).im]) rfl rfl (bd32_0_1_2 _ _ _) ?_)
  refine ar_gd (d := (some 25)) rfl rfl (st_bi (r := .bool (tokEq (⟨1, (⟨#[97]⟩ : ByteArray), (⟨4607182418800017408, 4607182418800017408⟩ : Cx)⟩ : Tok) (⟨1, (⟨#[97]⟩ : ByteArray), (⟨4607182418800017408, 4607182418800017408⟩ : Cx)⟩ : Tok))) rfl rfl rfl (beql_32 (⟨1, (⟨#[97]⟩ : ByteArray), (⟨4607182418800017408, 4607182418800017408⟩ : Cx)⟩ : Tok) (⟨1, (⟨#[97]⟩ : ByteArray), (⟨4607182418800017408, 4607182418800017408⟩ : Cx)⟩ : Tok) rfl) (ao 26 rfl rfl (st_pkt (v := .bool (tokEq (⟨1, (⟨#[97]⟩ : ByteArray), (⟨4607182418800017408, 4607182418800017408⟩ : Cx)⟩ : Tok) (⟨1, (⟨#[97]⟩ : ByteArray), (⟨4607182418800017408, 4607182418800017408⟩ : Cx)⟩ : Tok))) rfl rfl rfl ?_)))
  refine aM 27 (.bool (tokEq (⟨1, (⟨#[97]⟩ : ByteArray), (⟨4607182418800017408, 4607182418800017408⟩ : Cx)⟩ : Tok) (⟨1, (⟨#[97]⟩ : ByteArray), (⟨4607182418800017408, 4607182418800017408⟩ : Cx)⟩ : Tok))) rfl rfl ?_
  refine bool_split (tokEq (⟨1, (⟨#[97]⟩ : ByteArray), (⟨4607182418800017408, 4607182418800017408⟩ : Cx)⟩ : Tok) (⟨1, (⟨#[97]⟩ : ByteArray), (⟨4607182418800017408, 4607182418800017408⟩ : Cx)⟩ : Tok)) (fun h2 => ?_) (fun h2 => ?_)
  ·refine ar_gd (d := (some 28)) (by show ((tokEq (⟨1, (⟨#[97]⟩ : ByteArray), (⟨4607182418800017408, 4607182418800017408⟩ : Cx)⟩ : Tok) (⟨1, (⟨#[97]⟩ : ByteArray), (⟨4607182418800017408, 4607182418800017408⟩ : Cx)⟩ : Tok)) == true) = true; rw [h2]; rfl) rfl (st_move (v := .slice (some ⟨gT1, 0, none⟩) 3 cgT1) rfl rfl ?_)
   refine ar_gd (d := (some 29)) (by show ((tokEq (⟨1, (⟨#[97]⟩ : ByteArray), (⟨4607182418800017408, 4607182418800017408⟩ : Cx)⟩ : Tok) (⟨1, (⟨#[97]⟩ : ByteArray), (⟨4607182418800017408, 4607182418800017408⟩ : Cx)⟩ : Tok)) == true) = true; rw [h2]; rfl) rfl (st_sa (g := gT1) (off := 0) (m := 3) (c := cgT1) (s := 3) (i := 1) rfl Tryd.underlying22 (by kernel_rfl) rfl rfl (by decide) ?_)
   refine ar_gd (d := (some 30)) (by show ((tokEq (⟨1, (⟨#[97]⟩ : ByteArray), (⟨4607182418800017408, 4607182418800017408⟩ : Cx)⟩ : Tok) (⟨1, (⟨#[97]⟩ : ByteArray), (⟨4607182418800017408, 4607182418800017408⟩ : Cx)⟩ : Tok)) == true) = true; rw [h2]; rfl) rfl (st_lda (vs := [.int .i64 2, .string (⟨#[49, 46, 53]⟩ : ByteArray), .complex .f64 ((⟨4607182418800017408, 4613937818241073152⟩ : Cx)).re ((⟨4607182418800017408, 4613937818241073152⟩ : Cx)).im]) agg32 0 rfl rfl rfl rfl rfl rfl ?_)
   refine ar_gd (d := (some 31)) (by show ((tokEq (⟨1, (⟨#[97]⟩ : ByteArray), (⟨4607182418800017408, 4607182418800017408⟩ : Cx)⟩ : Tok) (⟨1, (⟨#[97]⟩ : ByteArray), (⟨4607182418800017408, 4607182418800017408⟩ : Cx)⟩ : Tok)) == true) = true; rw [h2]; rfl) rfl (st_bd (us := [(0, .int .i64 2), (1, .string (⟨#[49, 46, 53]⟩ : ByteArray)), (2, .complex .f64 ((⟨4607182418800017408, 4613937818241073152⟩ : Cx)).re ((⟨4607182418800017408, 4613937818241073152⟩ : Cx)).im)]) (v := .agg #[.int .i64 2, .string (⟨#[49, 46, 53]⟩ : ByteArray), .complex .f64 ((⟨4607182418800017408, 4613937818241073152⟩ : Cx)).re ((⟨4607182418800017408, 4613937818241073152⟩ : Cx)).im]) rfl rfl (bd32_0_1_2 _ _ _) ?_)
   refine ar_gd (d := (some 32)) (by show ((tokEq (⟨1, (⟨#[97]⟩ : ByteArray), (⟨4607182418800017408, 4607182418800017408⟩ : Cx)⟩ : Tok) (⟨1, (⟨#[97]⟩ : ByteArray), (⟨4607182418800017408, 4607182418800017408⟩ : Cx)⟩ : Tok)) == true) = true; rw [h2]; rfl) rfl (st_bi (r := .bool (tokEq (⟨2, (⟨#[49, 46, 53]⟩ : ByteArray), (⟨4607182418800017408, 4613937818241073152⟩ : Cx)⟩ : Tok) (⟨2, (⟨#[49, 46, 53]⟩ : ByteArray), (⟨4607182418800017408, 4613937818241073152⟩ : Cx)⟩ : Tok))) rfl rfl rfl (beql_32 (⟨2, (⟨#[49, 46, 53]⟩ : ByteArray), (⟨4607182418800017408, 4613937818241073152⟩ : Cx)⟩ : Tok) (⟨2, (⟨#[49, 46, 53]⟩ : ByteArray), (⟨4607182418800017408, 4613937818241073152⟩ : Cx)⟩ : Tok) rfl) ?_)
   refine ao 33 rfl rfl (st_pkt' (b := tokEq (⟨1, (⟨#[97]⟩ : ByteArray), (⟨4607182418800017408, 4607182418800017408⟩ : Cx)⟩ : Tok) (⟨1, (⟨#[97]⟩ : ByteArray), (⟨4607182418800017408, 4607182418800017408⟩ : Cx)⟩ : Tok)) (v := .bool (tokEq (⟨2, (⟨#[49, 46, 53]⟩ : ByteArray), (⟨4607182418800017408, 4613937818241073152⟩ : Cx)⟩ : Tok) (⟨2, (⟨#[49, 46, 53]⟩ : ByteArray), (⟨4607182418800017408, 4613937818241073152⟩ : Cx)⟩ : Tok))) h2 rfl rfl rfl (aM 34 (.bool (tokEq (⟨2, (⟨#[49, 46, 53]⟩ : ByteArray), (⟨4607182418800017408, 4613937818241073152⟩ : Cx)⟩ : Tok) (⟨2, (⟨#[49, 46, 53]⟩ : ByteArray), (⟨4607182418800017408, 4613937818241073152⟩ : Cx)⟩ : Tok))) rfl rfl ?_))
   refine bool_split (tokEq (⟨2, (⟨#[49, 46, 53]⟩ : ByteArray), (⟨4607182418800017408, 4613937818241073152⟩ : Cx)⟩ : Tok) (⟨2, (⟨#[49, 46, 53]⟩ : ByteArray), (⟨4607182418800017408, 4613937818241073152⟩ : Cx)⟩ : Tok)) (fun h3 => ?_) (fun h3 => ?_)
   ·refine ar_gd (d := (some 35)) (by show ((tokEq (⟨2, (⟨#[49, 46, 53]⟩ : ByteArray), (⟨4607182418800017408, 4613937818241073152⟩ : Cx)⟩ : Tok) (⟨2, (⟨#[49, 46, 53]⟩ : ByteArray), (⟨4607182418800017408, 4613937818241073152⟩ : Cx)⟩ : Tok)) == true) = true; rw [h3]; rfl) rfl (st_move (v := .slice (some ⟨gT1, 0, none⟩) 3 cgT1) rfl rfl ?_)
    refine ar_gd (d := (some 36)) (by show ((tokEq (⟨2, (⟨#[49, 46, 53]⟩ : ByteArray), (⟨4607182418800017408, 4613937818241073152⟩ : Cx)⟩ : Tok) (⟨2, (⟨#[49, 46, 53]⟩ : ByteArray), (⟨4607182418800017408, 4613937818241073152⟩ : Cx)⟩ : Tok)) == true) = true; rw [h3]; rfl) rfl (st_sa (g := gT1) (off := 0) (m := 3) (c := cgT1) (s := 3) (i := 2) rfl Tryd.underlying22 (by kernel_rfl) rfl rfl (by decide) ?_)
    refine ar_gd (d := (some 37)) (by show ((tokEq (⟨2, (⟨#[49, 46, 53]⟩ : ByteArray), (⟨4607182418800017408, 4613937818241073152⟩ : Cx)⟩ : Tok) (⟨2, (⟨#[49, 46, 53]⟩ : ByteArray), (⟨4607182418800017408, 4613937818241073152⟩ : Cx)⟩ : Tok)) == true) = true; rw [h3]; rfl) rfl (st_lda (vs := [.int .i64 3, .string (⟨#[]⟩ : ByteArray), .complex .f64 ((⟨4607182418800017408, 4618441417868443648⟩ : Cx)).re ((⟨4607182418800017408, 4618441417868443648⟩ : Cx)).im]) agg32 0 rfl rfl rfl rfl rfl rfl ?_)
    refine ar_gd (d := (some 38)) (by show ((tokEq (⟨2, (⟨#[49, 46, 53]⟩ : ByteArray), (⟨4607182418800017408, 4613937818241073152⟩ : Cx)⟩ : Tok) (⟨2, (⟨#[49, 46, 53]⟩ : ByteArray), (⟨4607182418800017408, 4613937818241073152⟩ : Cx)⟩ : Tok)) == true) = true; rw [h3]; rfl) rfl (st_bd (us := [(0, .int .i64 3), (2, .complex .f64 ((⟨4607182418800017408, 4618441417868443648⟩ : Cx)).re ((⟨4607182418800017408, 4618441417868443648⟩ : Cx)).im)]) (v := .agg #[.int .i64 3, .string (⟨#[]⟩ : ByteArray), .complex .f64 ((⟨4607182418800017408, 4618441417868443648⟩ : Cx)).re ((⟨4607182418800017408, 4618441417868443648⟩ : Cx)).im]) rfl rfl (bd32_0_2 _ _) ?_)
    refine ar_gd (d := (some 39)) (by show ((tokEq (⟨2, (⟨#[49, 46, 53]⟩ : ByteArray), (⟨4607182418800017408, 4613937818241073152⟩ : Cx)⟩ : Tok) (⟨2, (⟨#[49, 46, 53]⟩ : ByteArray), (⟨4607182418800017408, 4613937818241073152⟩ : Cx)⟩ : Tok)) == true) = true; rw [h3]; rfl) rfl (st_bi (r := .bool (tokEq (⟨3, (⟨#[]⟩ : ByteArray), (⟨4607182418800017408, 4618441417868443648⟩ : Cx)⟩ : Tok) (⟨3, (⟨#[]⟩ : ByteArray), (⟨4607182418800017408, 4618441417868443648⟩ : Cx)⟩ : Tok))) rfl rfl rfl (beql_32 (⟨3, (⟨#[]⟩ : ByteArray), (⟨4607182418800017408, 4618441417868443648⟩ : Cx)⟩ : Tok) (⟨3, (⟨#[]⟩ : ByteArray), (⟨4607182418800017408, 4618441417868443648⟩ : Cx)⟩ : Tok) rfl) ?_)
    refine ao 40 rfl rfl (st_pkt' (b := tokEq (⟨2, (⟨#[49, 46, 53]⟩ : ByteArray), (⟨4607182418800017408, 4613937818241073152⟩ : Cx)⟩ : Tok) (⟨2, (⟨#[49, 46, 53]⟩ : ByteArray), (⟨4607182418800017408, 4613937818241073152⟩ : Cx)⟩ : Tok)) (v := .bool (tokEq (⟨3, (⟨#[]⟩ : ByteArray), (⟨4607182418800017408, 4618441417868443648⟩ : Cx)⟩ : Tok) (⟨3, (⟨#[]⟩ : ByteArray), (⟨4607182418800017408, 4618441417868443648⟩ : Cx)⟩ : Tok))) h3 rfl rfl rfl (aA 0 (.bool (tokEq (⟨3, (⟨#[]⟩ : ByteArray), (⟨4607182418800017408, 4618441417868443648⟩ : Cx)⟩ : Tok) (⟨3, (⟨#[]⟩ : ByteArray), (⟨4607182418800017408, 4618441417868443648⟩ : Cx)⟩ : Tok))) rfl rfl (aN (ac_ret ?_))))
    exact fin_eq (v := .bool (tokEq (⟨3, (⟨#[]⟩ : ByteArray), (⟨4607182418800017408, 4618441417868443648⟩ : Cx)⟩ : Tok) (⟨3, (⟨#[]⟩ : ByteArray), (⟨4607182418800017408, 4618441417868443648⟩ : Cx)⟩ : Tok))) (by show _ = (fun (r : Bool) => (.bool r : Value)) known10; rw [known10, h3, h2, h1] <;> rfl) (fin_ret (res_tmp rfl rfl))
   ·refine aK 35 (by show ((tokEq (⟨2, (⟨#[49, 46, 53]⟩ : ByteArray), (⟨4607182418800017408, 4613937818241073152⟩ : Cx)⟩ : Tok) (⟨2, (⟨#[49, 46, 53]⟩ : ByteArray), (⟨4607182418800017408, 4613937818241073152⟩ : Cx)⟩ : Tok)) == true) = false; rw [h3]; rfl) rfl (aK 36 (by show ((tokEq (⟨2, (⟨#[49, 46, 53]⟩ : ByteArray), (⟨4607182418800017408, 4613937818241073152⟩ : Cx)⟩ : Tok) (⟨2, (⟨#[49, 46, 53]⟩ : ByteArray), (⟨4607182418800017408, 4613937818241073152⟩ : Cx)⟩ : Tok)) == true) = false; rw [h3]; rfl) rfl ?_)
    refine aK 37 (by show ((tokEq (⟨2, (⟨#[49, 46, 53]⟩ : ByteArray), (⟨4607182418800017408, 4613937818241073152⟩ : Cx)⟩ : Tok) (⟨2, (⟨#[49, 46, 53]⟩ : ByteArray), (⟨4607182418800017408, 4613937818241073152⟩ : Cx)⟩ : Tok)) == true) = false; rw [h3]; rfl) rfl (aK 38 (by show ((tokEq (⟨2, (⟨#[49, 46, 53]⟩ : ByteArray), (⟨4607182418800017408, 4613937818241073152⟩ : Cx)⟩ : Tok) (⟨2, (⟨#[49, 46, 53]⟩ : ByteArray), (⟨4607182418800017408, 4613937818241073152⟩ : Cx)⟩ : Tok)) == true) = false; rw [h3]; rfl) rfl ?_)
    refine aK 39 (by show ((tokEq (⟨2, (⟨#[49, 46, 53]⟩ : ByteArray), (⟨4607182418800017408, 4613937818241073152⟩ : Cx)⟩ : Tok) (⟨2, (⟨#[49, 46, 53]⟩ : ByteArray), (⟨4607182418800017408, 4613937818241073152⟩ : Cx)⟩ : Tok)) == true) = false; rw [h3]; rfl) rfl (ao 40 rfl rfl (st_pkf' (b := tokEq (⟨2, (⟨#[49, 46, 53]⟩ : ByteArray), (⟨4607182418800017408, 4613937818241073152⟩ : Cx)⟩ : Tok) (⟨2, (⟨#[49, 46, 53]⟩ : ByteArray), (⟨4607182418800017408, 4613937818241073152⟩ : Cx)⟩ : Tok)) (v := .bool false) h3 rfl rfl rfl (aA 0 (.bool false) rfl rfl (aN (ac_ret ?_)))))
    exact fin_eq (v := .bool false) (by show _ = (fun (r : Bool) => (.bool r : Value)) known10; rw [known10, h3, h2, h1] <;> rfl) (fin_ret (res_tmp rfl rfl))
  ·refine aK 28 (by show ((tokEq (⟨1, (⟨#[97]⟩ : ByteArray), (⟨4607182418800017408, 4607182418800017408⟩ : Cx)⟩ : Tok) (⟨1, (⟨#[97]⟩ : ByteArray), (⟨4607182418800017408, 4607182418800017408⟩ : Cx)⟩ : Tok)) == true) = false; rw [h2]; rfl) rfl (aK 29 (by show ((tokEq (⟨1, (⟨#[97]⟩ : ByteArray), (⟨4607182418800017408, 4607182418800017408⟩ : Cx)⟩ : Tok) (⟨1, (⟨#[97]⟩ : ByteArray), (⟨4607182418800017408, 4607182418800017408⟩ : Cx)⟩ : Tok)) == true) = false; rw [h2]; rfl) rfl ?_)
   refine aK 30 (by show ((tokEq (⟨1, (⟨#[97]⟩ : ByteArray), (⟨4607182418800017408, 4607182418800017408⟩ : Cx)⟩ : Tok) (⟨1, (⟨#[97]⟩ : ByteArray), (⟨4607182418800017408, 4607182418800017408⟩ : Cx)⟩ : Tok)) == true) = false; rw [h2]; rfl) rfl (aK 31 (by show ((tokEq (⟨1, (⟨#[97]⟩ : ByteArray), (⟨4607182418800017408, 4607182418800017408⟩ : Cx)⟩ : Tok) (⟨1, (⟨#[97]⟩ : ByteArray), (⟨4607182418800017408, 4607182418800017408⟩ : Cx)⟩ : Tok)) == true) = false; rw [h2]; rfl) rfl ?_)
   refine aK 32 (by show ((tokEq (⟨1, (⟨#[97]⟩ : ByteArray), (⟨4607182418800017408, 4607182418800017408⟩ : Cx)⟩ : Tok) (⟨1, (⟨#[97]⟩ : ByteArray), (⟨4607182418800017408, 4607182418800017408⟩ : Cx)⟩ : Tok)) == true) = false; rw [h2]; rfl) rfl (ao 33 rfl rfl (st_pkf' (b := tokEq (⟨1, (⟨#[97]⟩ : ByteArray), (⟨4607182418800017408, 4607182418800017408⟩ : Cx)⟩ : Tok) (⟨1, (⟨#[97]⟩ : ByteArray), (⟨4607182418800017408, 4607182418800017408⟩ : Cx)⟩ : Tok)) (v := .bool false) h2 rfl rfl rfl (aM 34 (.bool false) rfl rfl (aK 35 rfl rfl (aK 36 rfl rfl (aK 37 rfl rfl (aK 38 rfl rfl (aK 39 rfl rfl (ao 40 rfl rfl (st_pkf (v := .bool false) rfl rfl rfl (aA 0 (.bool false) rfl rfl ?_)))))))))))
   refine aN (ac_ret (fin_eq (v := .bool false) (by show _ = (fun (r : Bool) => (.bool r : Value)) known10; rw [known10, h2, h1] <;> rfl) (fin_ret (res_tmp rfl rfl))))
 ·refine aK 16 (by show ((cxEq (⟨0, 0⟩ : Cx) (⟨0, 0⟩ : Cx)) == true) = false; rw [h1]; rfl) rfl (aK 17 (by show ((cxEq (⟨0, 0⟩ : Cx) (⟨0, 0⟩ : Cx)) == true) = false; rw [h1]; rfl) rfl (aK 18 (by show ((cxEq (⟨0, 0⟩ : Cx) (⟨0, 0⟩ : Cx)) == true) = false; rw [h1]; rfl) rfl (ao 19 rfl rfl (st_pkf' (b := cxEq (⟨0, 0⟩ : Cx) (⟨0, 0⟩ : Cx)) (v := .bool false) h1 rfl rfl rfl (aM 20 (.bool false) rfl rfl (aK 21 rfl rfl (aK 22 rfl rfl (aK 23 rfl rfl (aK 24 rfl rfl (aK 25 rfl rfl (ao 26 rfl rfl (st_pkf (v := .bool false) rfl rfl rfl (aM 27 (.bool false) rfl rfl (aK 28 rfl rfl (aK 29 rfl rfl (aK 30 rfl rfl (aK 31 rfl rfl (aK 32 rfl rfl ?_))))))))))))))))))
  refine ao 33 rfl rfl (st_pkf (v := .bool false) rfl rfl rfl (aM 34 (.bool false) rfl rfl (aK 35 rfl rfl (aK 36 rfl rfl (aK 37 rfl rfl (aK 38 rfl rfl (aK 39 rfl rfl (ao 40 rfl rfl (st_pkf (v := .bool false) rfl rfl rfl (aA 0 (.bool false) rfl rfl (aN (ac_ret (fin_eq (v := .bool false) (by show _ = (fun (r : Bool) => (.bool r : Value)) known10; rw [known10, h1] <;> rfl) (fin_ret (res_tmp rfl rfl)))))))))))))))
end Go.Proofs.YtalffjplbhelcaaDoor
