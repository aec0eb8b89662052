import Derived.Test.YtalffjplbhelcaaDoorMLexTells2
import Derived.Test.YtalffjplbhelcaaDoorMLexTells1
import Derived.Laws.MakeOwn
import Derived.Laws.IdiomStrings
set_option linter.unusedVariables false
set_option linter.unusedSimpArgs false
namespace Go.Proofs.YtalffjplbhelcaaDoor
open Go.RowKit
attribute [local irreducible] AC AR DWalk
set_option maxRecDepth 100000 in
set_option maxHeartbeats 4000000 in
theorem seg0 (s : ByteArray) (hs4 : s.size ≤ 4000) (R : LRes) (K i m ca n : Nat) (line start : Int) (any_ : Bool) (out : List Tok) (aa : Option Addr) (NA : List Box) (xs : List Value) (hSt : LexSt s out i m ca aa xs NA) (hk : K = 2 * (s.size - i) + 1) (hn : s.size - i ≤ n) (hq : lexStep (lexRun s n) s i line start any_ out = R) {E : Env} {H : List Box} {rest : Code} (hc : ((Tryd.f9.body.bind scopeOf).bind fun c => findLabel c 0) = some (.seq .skip rest)) (hsub : List.Sublist NA H) (q0 : E 0 = .string s) (q5 : E 5 = .slice aa m ca) (q6 : E 6 = .int .i64 (i : Int)) (q8 : E 8 = .int .i64 line) (q9 : E 9 = .int .i64 start) (q10 : E 10 = .bool any_) : AC Tryd.prog 118 rest (AJ (fun l' E' H' => ∃ k', k' < K ∧ LexJ s R l' k' E' H') (FinG Tryd.prog Tryd.f9 118 (TokPost R))) E H := by
 rw [show ((Tryd.f9.body.bind scopeOf).bind fun c => findLabel c 0) = some (.seq .skip _) from rfl] at hc
 cases hc
 refine ac_drop hsub ?_
 have hSt0 := hSt
 obtain ⟨hm, hxs, hmi, hil, hR⟩ := hSt
 obtain ⟨E0, rfl⟩ : ∃ E0 : Env, E = ((((((E0.put (some 0) (.string s)).put (some 5) (.slice aa m ca)).put (some 6) (.int .i64 (i : Int))).put (some 8) (.int .i64 line)).put (some 9) (.int .i64 start)).put (some 10) (.bool any_)) := ⟨E, by rw [put_self q0, put_self q5, put_self q6, put_self q8, put_self q9, put_self q10]⟩
 refine aQ (aL (aM 18 (.int .i64 line) rfl rfl (aM 19 (.int .i64 (i : Int)) rfl rfl (aM 20 (.int .i64 start) rfl rfl (aB 21 (.int .i64 (w64 ((i : Int) - start))) rfl rfl rfl (bi_sub rfl) (aB 22 (.int .i64 (w64 ((w64 ((i : Int) - start)) + 1))) rfl rfl rfl (bi_add rfl) (aC 23 (c_place line (w64 ((w64 ((i : Int) - start)) + 1))) Tryd.func26 ⟨rfl, by decide⟩ rfl rfl (aA 12 (.complex .f64 ((place line (w64 ((w64 ((i : Int) - start)) + 1)))).re ((place line (w64 ((w64 ((i : Int) - start)) + 1)))).im) rfl rfl (aN (aQ (aQ (aL (aM 24 (.int .i64 (i : Int)) rfl rfl (aM 25 (.string s) rfl rfl (ao 26 rfl rfl (st_slen (s := s) rfl Tryd.underlying9 rfl ?_))))))))))))))))
 refine aB 27 (.bool ((i : Int) == ((s).size : Int))) rfl rfl rfl (bi_eql rfl) (aN ?_)
 refine bool_split ((i : Int) == ((s).size : Int)) (fun h1 => ?_) (fun h1 => ?_)
 ·refine ac_then' (b := (i : Int) == ((s).size : Int)) h1 rfl ?_
  refine ac_goto ?_
  simp only [lexStep, h1, cond_true, cond_false] at hq
  exact lexj1 (i := i) (n := n) (here := (lexHere i line start)) (lexSt_same hSt0 (by omega) hil) (List.Sublist.refl _) rfl rfl rfl rfl rfl rfl rfl (by have := hil; omega) (by have := hil; omega) hq
 ·refine ac_else' (b := (i : Int) == ((s).size : Int)) h1 rfl (ac_skip (aQ (aL (aM 28 (.string s) rfl rfl (aM 29 (.int .i64 (i : Int)) rfl rfl (ao 30 rfl rfl (st_six (s := s) (i := i) rfl Tryd.underlying9 rfl rfl (ne_lt hil h1) (aA 11 (.int .u8 (sAt s i)) rfl rfl (aN (aQ (ac_block (aQ (aL (aM 32 (.int .u8 (sAt s i)) rfl rfl (aB 33 (.bool ((sAt s i) == 10)) rfl rfl rfl (bk_eql rfl) (aA 31 (.bool ((sAt s i) == 10)) rfl rfl (aN ?_)))))))))))))))))
  refine bool_split ((sAt s i) == 10) (fun h2 => ?_) (fun h2 => ?_)
  ·refine ac_then' (b := (sAt s i) == 10) h2 rfl ?_
   refine ac_goto ?_
   simp only [lexStep, h1, h2, cond_true, cond_false] at hq
   exact lexj1 (i := i) (n := n) (here := (lexHere i line start)) (lexSt_same hSt0 (by omega) hil) (List.Sublist.refl _) rfl rfl rfl rfl rfl rfl rfl (by have := hil; have := (ne_lt hil h1); omega) (by have := hil; have := (ne_lt hil h1); omega) hq
  ·refine ac_else' (b := (sAt s i) == 10) h2 rfl (aQ (aL (aM 35 (.int .u8 (sAt s i)) rfl rfl (aB 36 (.bool ((sAt s i) == 32)) rfl rfl rfl (bk_eql rfl) (aM 37 (.bool ((sAt s i) == 32)) rfl rfl ?_)))))
   refine bool_split ((sAt s i) == 32) (fun h3 => ?_) (fun h3 => ?_)
   ·refine aK 38 (by show (((sAt s i) == 32) == false) = false; rw [h3]; rfl) rfl (aK 39 (by show (((sAt s i) == 32) == false) = false; rw [h3]; rfl) rfl (ao 40 rfl rfl (st_pkt' (b := (sAt s i) == 32) (v := .bool true) h3 rfl rfl rfl (aA 34 (.bool true) rfl rfl (aN (ac_then rfl (aQ (aL (aM 41 (.int .i64 (i : Int)) rfl rfl (aB 42 (.int .i64 (w64 ((i : Int) + 1))) rfl rfl rfl (bi_add rfl) (aA 6 (.int .i64 (w64 ((i : Int) + 1))) rfl rfl (aN ?_))))))))))))
    refine ac_goto ?_
    simp only [lexStep, h1, h2, h3, cond_true, cond_false] at hq
    exact lexj0 (i := (i + 1)) (n := n) (lexSt_same hSt0 (by omega) (ne_lt hil h1)) (List.Sublist.refl _) rfl rfl (w64_succ hs4 hil) rfl rfl rfl (by have := hil; have := (ne_lt hil h1); omega) (by have := hil; have := (ne_lt hil h1); omega) hq
   ·refine ar_gd (d := (some 38)) (by show (((sAt s i) == 32) == false) = true; rw [h3]; rfl) rfl (st_move (v := .int .u8 (sAt s i)) rfl rfl (ar_gd (d := (some 39)) (by show (((sAt s i) == 32) == false) = true; rw [h3]; rfl) rfl (st_bi (r := .bool ((sAt s i) == 9)) rfl rfl rfl (bk_eql rfl) (ao 40 rfl rfl (st_pkf' (b := (sAt s i) == 32) (v := .bool ((sAt s i) == 9)) h3 rfl rfl rfl (aA 34 (.bool ((sAt s i) == 9)) rfl rfl (aN ?_)))))))
    refine bool_split ((sAt s i) == 9) (fun h4 => ?_) (fun h4 => ?_)
    ·refine ac_then' (b := (sAt s i) == 9) h4 rfl (aQ (aL (aM 41 (.int .i64 (i : Int)) rfl rfl (aB 42 (.int .i64 (w64 ((i : Int) + 1))) rfl rfl rfl (bi_add rfl) (aA 6 (.int .i64 (w64 ((i : Int) + 1))) rfl rfl (aN ?_))))))
     refine ac_goto ?_
     simp only [lexStep, h1, h2, h3, h4, cond_true, cond_false] at hq
     exact lexj0 (i := (i + 1)) (n := n) (lexSt_same hSt0 (by omega) (ne_lt hil h1)) (List.Sublist.refl _) rfl rfl (w64_succ hs4 hil) rfl rfl rfl (by have := hil; have := (ne_lt hil h1); omega) (by have := hil; have := (ne_lt hil h1); omega) hq
    ·refine ac_else' (b := (sAt s i) == 9) h4 rfl (aQ (aL (aM 44 (.int .u8 (sAt s i)) rfl rfl (aB 45 (.bool ((sAt s i) == 35)) rfl rfl rfl (bk_eql rfl) (aA 43 (.bool ((sAt s i) == 35)) rfl rfl (aN ?_))))))
     refine bool_split ((sAt s i) == 35) (fun h5 => ?_) (fun h5 => ?_)
     ·refine ac_then' (b := (sAt s i) == 35) h5 rfl ?_
      refine ac_goto ?_
      simp only [lexStep, h1, h2, h3, h4, h5, cond_true, cond_false] at hq
      exact lexj2 (i := i) (n := n) (here := (lexHere i line start)) (lexSt_same hSt0 (by omega) hil) (List.Sublist.refl _) rfl rfl rfl rfl rfl rfl rfl (by have := hil; have := (ne_lt hil h1); omega) (by have := hil; have := (ne_lt hil h1); omega) (ne_lt hil h1) hq
     ·refine ac_else' (b := (sAt s i) == 35) h5 rfl (aQ (aL (aM 47 (.int .u8 (sAt s i)) rfl rfl (aC 48 (c_lexLetter (sAt s i)) Tryd.func27 ⟨rfl, by decide⟩ rfl rfl (aA 46 (.bool (lexLetter (sAt s i))) rfl rfl (aN ?_))))))
      refine bool_split (lexLetter (sAt s i)) (fun h6 => ?_) (fun h6 => ?_)
      ·refine ac_then' (b := lexLetter (sAt s i)) h6 rfl ?_
       refine ac_goto ?_
       simp only [lexStep, h1, h2, h3, h4, h5, h6, cond_true, cond_false] at hq
       exact lexj3 (i := i) (n := n) (here := (lexHere i line start)) (lexSt_same hSt0 (by omega) hil) (List.Sublist.refl _) rfl rfl rfl rfl rfl rfl rfl (by have := hil; have := (ne_lt hil h1); omega) (by have := hil; have := (ne_lt hil h1); omega) (ne_lt hil h1) hq
      ·refine ac_else' (b := lexLetter (sAt s i)) h6 rfl (aQ (aL (aM 50 (.int .u8 (sAt s i)) rfl rfl (aC 51 (c_lexDigit (sAt s i)) Tryd.func28 ⟨rfl, by decide⟩ rfl rfl (aM 52 (.bool (lexDigit (sAt s i))) rfl rfl ?_)))))
       refine bool_split (lexDigit (sAt s i)) (fun h7 => ?_) (fun h7 => ?_)
       ·refine aK 53 (by show ((lexDigit (sAt s i)) == false) = false; rw [h7]; rfl) rfl (aK 54 (by show ((lexDigit (sAt s i)) == false) = false; rw [h7]; rfl) rfl (ao 55 rfl rfl (st_pkt' (b := lexDigit (sAt s i)) (v := .bool true) h7 rfl rfl rfl (aA 49 (.bool true) rfl rfl (aN (ac_then rfl ?_))))))
        refine ac_goto ?_
        simp only [lexStep, h1, h2, h3, h4, h5, h6, h7, cond_true, cond_false] at hq
        exact lexj4 (i := i) (n := n) (here := (lexHere i line start)) (lexSt_same hSt0 (by omega) hil) (List.Sublist.refl _) rfl rfl rfl rfl rfl rfl rfl (by have := hil; have := (ne_lt hil h1); omega) (by have := hil; have := (ne_lt hil h1); omega) (ne_lt hil h1) hq
       ·refine ar_gd (d := (some 53)) (by show ((lexDigit (sAt s i)) == false) = true; rw [h7]; rfl) rfl (st_move (v := .int .u8 (sAt s i)) rfl rfl (ar_gd (d := (some 54)) (by show ((lexDigit (sAt s i)) == false) = true; rw [h7]; rfl) rfl (st_bi (r := .bool ((sAt s i) == 45)) rfl rfl rfl (bk_eql rfl) (ao 55 rfl rfl (st_pkf' (b := lexDigit (sAt s i)) (v := .bool ((sAt s i) == 45)) h7 rfl rfl rfl (aA 49 (.bool ((sAt s i) == 45)) rfl rfl (aN ?_)))))))
        refine bool_split ((sAt s i) == 45) (fun h8 => ?_) (fun h8 => ?_)
        ·refine ac_then' (b := (sAt s i) == 45) h8 rfl ?_
         refine ac_goto ?_
         simp only [lexStep, h1, h2, h3, h4, h5, h6, h7, h8, cond_true, cond_false] at hq
         exact lexj4 (i := i) (n := n) (here := (lexHere i line start)) (lexSt_same hSt0 (by omega) hil) (List.Sublist.refl _) rfl rfl rfl rfl rfl rfl rfl (by have := hil; have := (ne_lt hil h1); omega) (by have := hil; have := (ne_lt hil h1); omega) (ne_lt hil h1) hq
        ·refine ac_else' (b := (sAt s i) == 45) h8 rfl (ac_skip (aQ (aQ (aL (aM 56 (.complex .f64 ((place line (w64 ((w64 ((i : Int) - start)) + 1)))).re ((place line (w64 ((w64 ((i : Int) - start)) + 1)))).im) rfl rfl (aA 2 (.slice none 0 0) rfl rfl (aA 3 (.complex .f64 ((place line (w64 ((w64 ((i : Int) - start)) + 1)))).re ((place line (w64 ((w64 ((i : Int) - start)) + 1)))).im) rfl rfl (aA 4 (.int .i64 2) rfl rfl (aN (ac_ret ?_))))))))))
         simp only [lexStep, h1, h2, h3, h4, h5, h6, h7, h8, cond_true, cond_false] at hq
         exact fing_ret (N := []) (tokPost_nil hq) (List.nil_sublist _) rfl (res_ttt rfl rfl rfl rfl)
set_option maxRecDepth 100000 in
set_option maxHeartbeats 4000000 in
theorem seg1 (s : ByteArray) (hs4 : s.size ≤ 4000) (R : LRes) (K i m ca n : Nat) (line start : Int) (any_ : Bool) (out : List Tok) (aa : Option Addr) (NA : List Box) (xs : List Value) (hSt : LexSt s out i m ca aa xs NA) (here : Cx) (hk : K = 2 * (s.size - i)) (hn : s.size - i ≤ n) (hq : lexFeed (lexRun s n) s i line any_ out here = R) {E : Env} {H : List Box} {rest : Code} (hc : ((Tryd.f9.body.bind scopeOf).bind fun c => findLabel c 1) = some (.seq .skip rest)) (hsub : List.Sublist NA H) (q0 : E 0 = .string s) (q5 : E 5 = .slice aa m ca) (q6 : E 6 = .int .i64 (i : Int)) (q8 : E 8 = .int .i64 line) (q9 : E 9 = .int .i64 start) (q10 : E 10 = .bool any_) (q12 : E 12 = .complex .f64 (here).re (here).im) : AC Tryd.prog 118 rest (AJ (fun l' E' H' => ∃ k', k' < K ∧ LexJ s R l' k' E' H') (FinG Tryd.prog Tryd.f9 118 (TokPost R))) E H := by
 rw [show ((Tryd.f9.body.bind scopeOf).bind fun c => findLabel c 1) = some (.seq .skip _) from rfl] at hc
 cases hc
 refine ac_drop hsub ?_
 have hSt0 := hSt
 obtain ⟨hm, hxs, hmi, hil, hR⟩ := hSt
 obtain ⟨E0, rfl⟩ : ∃ E0 : Env, E = (((((((E0.put (some 0) (.string s)).put (some 5) (.slice aa m ca)).put (some 6) (.int .i64 (i : Int))).put (some 8) (.int .i64 line)).put (some 9) (.int .i64 start)).put (some 10) (.bool any_)).put (some 12) (.complex .f64 (here).re (here).im)) := ⟨E, by rw [put_self q0, put_self q5, put_self q6, put_self q8, put_self q9, put_self q10, put_self q12]⟩
 refine aQ (aQ (aL (aM 102 (.bool any_) rfl rfl (aN ?_))))
 refine bool_split (any_) (fun h1 => ?_) (fun h1 => ?_)
 ·refine ac_then' (b := any_) h1 rfl (aL (aM 103 (.slice aa m ca) rfl rfl (aM 104 (.complex .f64 (here).re (here).im) rfl rfl (ao 105 rfl rfl (st_bd (us := [(0, .int .i64 3), (1, .string (⟨#[]⟩ : ByteArray)), (2, .complex .f64 (here).re (here).im)]) (v := .agg #[.int .i64 3, .string (⟨#[]⟩ : ByteArray), .complex .f64 (here).re (here).im]) rfl rfl (bd32_0_1_2 _ _ _) (ao 106 rfl rfl (st_bs (us := [(0, .agg #[.int .i64 3, .string (⟨#[]⟩ : ByteArray), .complex .f64 (here).re (here).im])]) (cs := [.int .i64 3, .string (⟨#[]⟩ : ByteArray), .complex .f64 (here).re (here).im]) rfl rfl (bs22_1_0a _ _ _) fun g0 => ?_)))))))
  refine ao 107 rfl rfl (st_appZ (A := [⟨g0, [.int .i64 3, .string (⟨#[]⟩ : ByteArray), .complex .f64 (here).re (here).im], 32, false⟩]) (N := NA) (xs := xs) (news := [.int .i64 3, .string (⟨#[]⟩ : ByteArray), .complex .f64 (here).re (here).im]) (r := []) slT22 rfl rfl rfl hR rfl (List.mem_of_getElem? (i := 0) rfl) rfl rfl rfl rfl (by decide) (by simp only [maxLen]; omega) (by omega) (fun v H H' hp h => ar_perm hp h) fun v9 Nu1 Ru1 => ?_)
  obtain ⟨au1, cu1, rfl⟩ := Ru1.form
  refine aA 5 (.slice au1 (m + 1) cu1) rfl rfl (aN (aQ (aQ (aL (aM 108 (.int .i64 (i : Int)) rfl rfl (aM 109 (.string s) rfl rfl (ao 110 rfl rfl (st_slen (s := s) rfl Tryd.underlying9 rfl (aB 111 (.bool ((i : Int) == ((s).size : Int))) rfl rfl rfl (bi_eql rfl) (aN ?_))))))))))
  refine bool_split ((i : Int) == ((s).size : Int)) (fun h2 => ?_) (fun h2 => ?_)
  ·refine ac_then' (b := (i : Int) == ((s).size : Int)) h2 rfl (aQ (aL (aM 112 (.slice au1 (m + 1) cu1) rfl rfl (aA 2 (.slice au1 (m + 1) cu1) rfl rfl (aA 3 (.complex .f64 ((⟨0, 0⟩ : Cx)).re ((⟨0, 0⟩ : Cx)).im) rfl rfl (aA 4 (.int .i64 0) rfl rfl (aN (ac_ret ?_))))))))
   simp only [lexFeed, h1, h2, cond_true, cond_false] at hq
   exact fing_ret (N := Nu1) (tokPost_row hq (by simp [hm]) (by omega) (by rw [hxs]; simp [flatT, Tok.cells]) Ru1) (List.Sublist.cons _ (List.Sublist.refl _)) (rowFree Ru1) (res_ttt rfl rfl rfl rfl)
  ·refine ac_else' (b := (i : Int) == ((s).size : Int)) h2 rfl (ac_skip (aQ (aL (aM 113 (.int .i64 (i : Int)) rfl rfl (aB 114 (.int .i64 (w64 ((i : Int) + 1))) rfl rfl rfl (bi_add rfl) (aA 6 (.int .i64 (w64 ((i : Int) + 1))) rfl rfl (aN (aQ (aL (aM 115 (.int .i64 line) rfl rfl (aB 116 (.int .i64 (w64 (line + 1))) rfl rfl rfl (bi_add rfl) (aM 117 (.int .i64 (w64 ((i : Int) + 1))) rfl rfl (aA 8 (.int .i64 (w64 (line + 1))) rfl rfl (aA 9 (.int .i64 (w64 ((i : Int) + 1))) rfl rfl (aA 10 (.bool false) rfl rfl (aN ?_))))))))))))))))
   refine ac_goto ?_
   simp only [lexFeed, h1, h2, cond_true, cond_false] at hq
   exact lexj0 (i := (i + 1)) (n := n) (lexSt_more hm hxs (by have := hmi; omega) (ne_lt hil h2) (by rfl) Ru1) (List.Sublist.cons _ (List.Sublist.refl _)) rfl rfl (w64_succ hs4 hil) rfl (w64_succ hs4 hil) rfl (by have := hil; have := (ne_lt hil h2); omega) (by have := hil; have := (ne_lt hil h2); omega) hq
 ·refine ac_else' (b := any_) h1 rfl (ac_skip (aQ (aQ (aL (aM 108 (.int .i64 (i : Int)) rfl rfl (aM 109 (.string s) rfl rfl (ao 110 rfl rfl (st_slen (s := s) rfl Tryd.underlying9 rfl (aB 111 (.bool ((i : Int) == ((s).size : Int))) rfl rfl rfl (bi_eql rfl) (aN ?_))))))))))
  refine bool_split ((i : Int) == ((s).size : Int)) (fun h2 => ?_) (fun h2 => ?_)
  ·refine ac_then' (b := (i : Int) == ((s).size : Int)) h2 rfl (aQ (aL (aM 112 (.slice aa m ca) rfl rfl (aA 2 (.slice aa m ca) rfl rfl (aA 3 (.complex .f64 ((⟨0, 0⟩ : Cx)).re ((⟨0, 0⟩ : Cx)).im) rfl rfl (aA 4 (.int .i64 0) rfl rfl (aN (ac_ret ?_))))))))
   simp only [lexFeed, h1, h2, cond_true, cond_false] at hq
   exact fing_ret (N := NA) (tokPost_row hq hm (by omega) hxs hR) (List.Sublist.refl _) (rowFree hR) (res_ttt rfl rfl rfl rfl)
  ·refine ac_else' (b := (i : Int) == ((s).size : Int)) h2 rfl (ac_skip (aQ (aL (aM 113 (.int .i64 (i : Int)) rfl rfl (aB 114 (.int .i64 (w64 ((i : Int) + 1))) rfl rfl rfl (bi_add rfl) (aA 6 (.int .i64 (w64 ((i : Int) + 1))) rfl rfl (aN (aQ (aL (aM 115 (.int .i64 line) rfl rfl (aB 116 (.int .i64 (w64 (line + 1))) rfl rfl rfl (bi_add rfl) (aM 117 (.int .i64 (w64 ((i : Int) + 1))) rfl rfl (aA 8 (.int .i64 (w64 (line + 1))) rfl rfl (aA 9 (.int .i64 (w64 ((i : Int) + 1))) rfl rfl (aA 10 (.bool false) rfl rfl (aN ?_))))))))))))))))
   refine ac_goto ?_
   simp only [lexFeed, h1, h2, cond_true, cond_false] at hq
   exact lexj0 (i := (i + 1)) (n := n) (lexSt_same hSt0 (by omega) (ne_lt hil h2)) (List.Sublist.refl _) rfl rfl (w64_succ hs4 hil) rfl (w64_succ hs4 hil) rfl (by have := hil; have := (ne_lt hil h2); omega) (by have := hil; have := (ne_lt hil h2); omega) hq
set_option maxRecDepth 100000 in
set_option maxHeartbeats 4000000 in
theorem seg2 (s : ByteArray) (hs4 : s.size ≤ 4000) (R : LRes) (K i m ca n : Nat) (line start : Int) (any_ : Bool) (out : List Tok) (aa : Option Addr) (NA : List Box) (xs : List Value) (hSt : LexSt s out i m ca aa xs NA) (here : Cx) (hk : K = 2 * (s.size - i)) (hn : s.size - i ≤ n) (hi : i < s.size) (hq : lexRun s n (runTo lexNoLine s (s.size - (i + 1)) (i + 1)) line start any_ out = R) {E : Env} {H : List Box} {rest : Code} (hc : ((Tryd.f9.body.bind scopeOf).bind fun c => findLabel c 2) = some (.seq .skip rest)) (hsub : List.Sublist NA H) (q0 : E 0 = .string s) (q5 : E 5 = .slice aa m ca) (q6 : E 6 = .int .i64 (i : Int)) (q8 : E 8 = .int .i64 line) (q9 : E 9 = .int .i64 start) (q10 : E 10 = .bool any_) (q12 : E 12 = .complex .f64 (here).re (here).im) : AC Tryd.prog 118 rest (AJ (fun l' E' H' => ∃ k', k' < K ∧ LexJ s R l' k' E' H') (FinG Tryd.prog Tryd.f9 118 (TokPost R))) E H := by
 rw [show ((Tryd.f9.body.bind scopeOf).bind fun c => findLabel c 2) = some (.seq .skip _) from rfl] at hc
 cases hc
 refine ac_drop hsub ?_
 have hSt0 := hSt
 obtain ⟨hm, hxs, hmi, hil, hR⟩ := hSt
 obtain ⟨E0, rfl⟩ : ∃ E0 : Env, E = (((((((E0.put (some 0) (.string s)).put (some 5) (.slice aa m ca)).put (some 6) (.int .i64 (i : Int))).put (some 8) (.int .i64 line)).put (some 9) (.int .i64 start)).put (some 10) (.bool any_)).put (some 12) (.complex .f64 (here).re (here).im)) := ⟨E, by rw [put_self q0, put_self q5, put_self q6, put_self q8, put_self q9, put_self q10, put_self q12]⟩
 refine aQ (aL (aM 57 (.string s) rfl rfl (aM 58 (.int .i64 (i : Int)) rfl rfl (aC 59 (c_runL s i (by omega) hi) Tryd.func29 ⟨rfl, by decide⟩ rfl rfl (aA 6 (.int .i64 ((runTo lexNoLine s (s.size - (i + 1)) (i + 1) : Nat) : Int)) rfl rfl (aN (aQ ?_)))))))
 refine ac_goto ?_
 exact lexj0 (i := (runTo lexNoLine s (s.size - (i + 1)) (i + 1))) (n := n) (lexSt_same hSt0 (by have := run_ge1 lexNoLine s i; omega) (run_le1 lexNoLine hi)) (List.Sublist.refl _) rfl rfl rfl rfl rfl rfl (by have := run_ge1 lexNoLine s i; omega) (by have := run_ge1 lexNoLine s i; omega) hq
set_option maxRecDepth 100000 in
set_option maxHeartbeats 4000000 in
theorem seg3 (s : ByteArray) (hs4 : s.size ≤ 4000) (R : LRes) (K i m ca n : Nat) (line start : Int) (any_ : Bool) (out : List Tok) (aa : Option Addr) (NA : List Box) (xs : List Value) (hSt : LexSt s out i m ca aa xs NA) (here : Cx) (hk : K = 2 * (s.size - i)) (hn : s.size - i ≤ n) (hi : i < s.size) (hq : lexWord (lexRun s n) s i line start out here = R) {E : Env} {H : List Box} {rest : Code} (hc : ((Tryd.f9.body.bind scopeOf).bind fun c => findLabel c 3) = some (.seq .skip rest)) (hsub : List.Sublist NA H) (q0 : E 0 = .string s) (q5 : E 5 = .slice aa m ca) (q6 : E 6 = .int .i64 (i : Int)) (q8 : E 8 = .int .i64 line) (q9 : E 9 = .int .i64 start) (q10 : E 10 = .bool any_) (q12 : E 12 = .complex .f64 (here).re (here).im) : AC Tryd.prog 118 rest (AJ (fun l' E' H' => ∃ k', k' < K ∧ LexJ s R l' k' E' H') (FinG Tryd.prog Tryd.f9 118 (TokPost R))) E H := by
 rw [show ((Tryd.f9.body.bind scopeOf).bind fun c => findLabel c 3) = some (.seq .skip _) from rfl] at hc
 cases hc
 refine ac_drop hsub ?_
 have hSt0 := hSt
 obtain ⟨hm, hxs, hmi, hil, hR⟩ := hSt
 obtain ⟨E0, rfl⟩ : ∃ E0 : Env, E = (((((((E0.put (some 0) (.string s)).put (some 5) (.slice aa m ca)).put (some 6) (.int .i64 (i : Int))).put (some 8) (.int .i64 line)).put (some 9) (.int .i64 start)).put (some 10) (.bool any_)).put (some 12) (.complex .f64 (here).re (here).im)) := ⟨E, by rw [put_self q0, put_self q5, put_self q6, put_self q8, put_self q9, put_self q10, put_self q12]⟩
 refine aQ (aL (aM 60 (.string s) rfl rfl (aM 61 (.int .i64 (i : Int)) rfl rfl (aC 62 (c_runW s i (by omega) hi) Tryd.func29 ⟨rfl, by decide⟩ rfl rfl (aA 7 (.int .i64 ((runTo lexInWord s (s.size - (i + 1)) (i + 1) : Nat) : Int)) rfl rfl (aN (aQ (aQ (aL (aM 63 (.int .i64 ((runTo lexInWord s (s.size - (i + 1)) (i + 1) : Nat) : Int)) rfl rfl (aM 64 (.int .i64 (i : Int)) rfl rfl (aB 65 (.int .i64 (w64 (((runTo lexInWord s (s.size - (i + 1)) (i + 1) : Nat) : Int) - (i : Int)))) rfl rfl rfl (bi_sub rfl) (aB 66 (.bool (decide ((w64 (((runTo lexInWord s (s.size - (i + 1)) (i + 1) : Nat) : Int) - (i : Int))) > 20))) rfl rfl rfl (bi_gtr rfl) (aN ?_))))))))))))))
 refine bool_split (decide ((w64 (((runTo lexInWord s (s.size - (i + 1)) (i + 1) : Nat) : Int) - (i : Int))) > 20)) (fun h1 => ?_) (fun h1 => ?_)
 ·refine ac_then' (b := decide ((w64 (((runTo lexInWord s (s.size - (i + 1)) (i + 1) : Nat) : Int) - (i : Int))) > 20)) h1 rfl (aQ (aL (aM 67 (.complex .f64 (here).re (here).im) rfl rfl (aA 2 (.slice none 0 0) rfl rfl (aA 3 (.complex .f64 (here).re (here).im) rfl rfl (aA 4 (.int .i64 3) rfl rfl (aN (ac_ret ?_))))))))
  simp only [lexWord, h1, cond_true, cond_false] at hq
  exact fing_ret (N := []) (tokPost_nil hq) (List.nil_sublist _) rfl (res_ttt rfl rfl rfl rfl)
 ·refine ac_else' (b := decide ((w64 (((runTo lexInWord s (s.size - (i + 1)) (i + 1) : Nat) : Int) - (i : Int))) > 20)) h1 rfl (ac_skip (aQ (aL (aM 68 (.slice aa m ca) rfl rfl (aM 69 (.string s) rfl rfl (aM 70 (.int .i64 (i : Int)) rfl rfl (aM 71 (.int .i64 ((runTo lexInWord s (s.size - (i + 1)) (i + 1) : Nat) : Int)) rfl rfl (ao 72 rfl rfl (st_ss (run_bd lexInWord hi) rfl Tryd.underlying9 rfl rfl rfl (aM 73 (.complex .f64 (here).re (here).im) rfl rfl ?_))))))))))
  refine ao 74 rfl rfl (st_bd (us := [(0, .int .i64 1), (1, .string (subS s (i : Int) ((runTo lexInWord s (s.size - (i + 1)) (i + 1) : Nat) : Int))), (2, .complex .f64 (here).re (here).im)]) (v := .agg #[.int .i64 1, .string (subS s (i : Int) ((runTo lexInWord s (s.size - (i + 1)) (i + 1) : Nat) : Int)), .complex .f64 (here).re (here).im]) rfl rfl (bd32_0_1_2 _ _ _) ?_)
  refine ao 75 rfl rfl (st_bs (us := [(0, .agg #[.int .i64 1, .string (subS s (i : Int) ((runTo lexInWord s (s.size - (i + 1)) (i + 1) : Nat) : Int)), .complex .f64 (here).re (here).im])]) (cs := [.int .i64 1, .string (subS s (i : Int) ((runTo lexInWord s (s.size - (i + 1)) (i + 1) : Nat) : Int)), .complex .f64 (here).re (here).im]) rfl rfl (bs22_1_0a _ _ _) fun g0 => ?_)
  refine ao 76 rfl rfl (st_appZ (A := [⟨g0, [.int .i64 1, .string (subS s (i : Int) ((runTo lexInWord s (s.size - (i + 1)) (i + 1) : Nat) : Int)), .complex .f64 (here).re (here).im], 32, false⟩]) (N := NA) (xs := xs) (news := [.int .i64 1, .string (subS s (i : Int) ((runTo lexInWord s (s.size - (i + 1)) (i + 1) : Nat) : Int)), .complex .f64 (here).re (here).im]) (r := []) slT22 rfl rfl rfl hR rfl (List.mem_of_getElem? (i := 0) rfl) rfl rfl rfl rfl (by decide) (by simp only [maxLen]; omega) (by omega) (fun v H H' hp h => ar_perm hp h) fun v9 Nu1 Ru1 => ?_)
  obtain ⟨au1, cu1, rfl⟩ := Ru1.form
  refine aA 5 (.slice au1 (m + 1) cu1) rfl rfl (aN (aQ (aL (aM 77 (.int .i64 ((runTo lexInWord s (s.size - (i + 1)) (i + 1) : Nat) : Int)) rfl rfl (aA 6 (.int .i64 ((runTo lexInWord s (s.size - (i + 1)) (i + 1) : Nat) : Int)) rfl rfl (aA 10 (.bool true) rfl rfl (aN (aQ ?_))))))))
  refine ac_goto ?_
  simp only [lexWord, h1, cond_true, cond_false] at hq
  exact lexj0 (i := (runTo lexInWord s (s.size - (i + 1)) (i + 1))) (n := n) (lexSt_more hm hxs (by have := run_ge1 lexInWord s i; omega) (run_le1 lexInWord hi) (by rfl) Ru1) (List.Sublist.cons _ (List.Sublist.refl _)) rfl rfl rfl rfl rfl rfl (by have := run_ge1 lexInWord s i; omega) (by have := run_ge1 lexInWord s i; omega) hq
set_option maxRecDepth 100000 in
set_option maxHeartbeats 4000000 in
theorem seg4 (s : ByteArray) (hs4 : s.size ≤ 4000) (R : LRes) (K i m ca n : Nat) (line start : Int) (any_ : Bool) (out : List Tok) (aa : Option Addr) (NA : List Box) (xs : List Value) (hSt : LexSt s out i m ca aa xs NA) (here : Cx) (hk : K = 2 * (s.size - i)) (hn : s.size - i ≤ n) (hi : i < s.size) (hq : lexNum (lexRun s n) s i line start out here = R) {E : Env} {H : List Box} {rest : Code} (hc : ((Tryd.f9.body.bind scopeOf).bind fun c => findLabel c 4) = some (.seq .skip rest)) (hsub : List.Sublist NA H) (q0 : E 0 = .string s) (q5 : E 5 = .slice aa m ca) (q6 : E 6 = .int .i64 (i : Int)) (q8 : E 8 = .int .i64 line) (q9 : E 9 = .int .i64 start) (q10 : E 10 = .bool any_) (q12 : E 12 = .complex .f64 (here).re (here).im) : AC Tryd.prog 118 rest (AJ (fun l' E' H' => ∃ k', k' < K ∧ LexJ s R l' k' E' H') (FinG Tryd.prog Tryd.f9 118 (TokPost R))) E H := by
 rw [show ((Tryd.f9.body.bind scopeOf).bind fun c => findLabel c 4) = some (.seq .skip _) from rfl] at hc
 cases hc
 refine ac_drop hsub ?_
 have hSt0 := hSt
 obtain ⟨hm, hxs, hmi, hil, hR⟩ := hSt
 obtain ⟨E0, rfl⟩ : ∃ E0 : Env, E = (((((((E0.put (some 0) (.string s)).put (some 5) (.slice aa m ca)).put (some 6) (.int .i64 (i : Int))).put (some 8) (.int .i64 line)).put (some 9) (.int .i64 start)).put (some 10) (.bool any_)).put (some 12) (.complex .f64 (here).re (here).im)) := ⟨E, by rw [put_self q0, put_self q5, put_self q6, put_self q8, put_self q9, put_self q10, put_self q12]⟩
 refine aQ (aL (aM 78 (.string s) rfl rfl (aM 79 (.int .i64 (i : Int)) rfl rfl (aC 80 (c_runN s i (by omega) hi) Tryd.func29 ⟨rfl, by decide⟩ rfl rfl (aA 7 (.int .i64 ((runTo lexInNum s (s.size - (i + 1)) (i + 1) : Nat) : Int)) rfl rfl (aN (aQ (aQ (aL (aM 82 (.string s) rfl rfl (aM 83 (.int .i64 (i : Int)) rfl rfl (aM 84 (.int .i64 ((runTo lexInNum s (s.size - (i + 1)) (i + 1) : Nat) : Int)) rfl rfl (ao 85 rfl rfl (st_ss (run_bd lexInNum hi) rfl Tryd.underlying9 rfl rfl rfl (aC 86 (c_decRead (subS s (i : Int) ((runTo lexInNum s (s.size - (i + 1)) (i + 1) : Nat) : Int)) (Nat.le_trans (subS_le _ _ _ hs4) (by decide))) Tryd.func17 ⟨rfl, by decide⟩ rfl rfl ?_)))))))))))))))
 refine aM 81 (.tuple #[.agg #[.int .i64 (((decRead (subS s (i : Int) ((runTo lexInNum s (s.size - (i + 1)) (i + 1) : Nat) : Int))).1).c), .int .i64 (((decRead (subS s (i : Int) ((runTo lexInNum s (s.size - (i + 1)) (i + 1) : Nat) : Int))).1).scale)], .bool ((decRead (subS s (i : Int) ((runTo lexInNum s (s.size - (i + 1)) (i + 1) : Nat) : Int))).2)]) rfl rfl (aX 87 (.agg #[.int .i64 (((decRead (subS s (i : Int) ((runTo lexInNum s (s.size - (i + 1)) (i + 1) : Nat) : Int))).1).c), .int .i64 (((decRead (subS s (i : Int) ((runTo lexInNum s (s.size - (i + 1)) (i + 1) : Nat) : Int))).1).scale)]) rfl rfl rfl ?_)
 refine aX 88 (.bool ((decRead (subS s (i : Int) ((runTo lexInNum s (s.size - (i + 1)) (i + 1) : Nat) : Int))).2)) rfl rfl rfl (ao 13 rfl rfl (st_new zero52 rfl fun g0 => (aS [.int .i64 (((decRead (subS s (i : Int) ((runTo lexInNum s (s.size - (i + 1)) (i + 1) : Nat) : Int))).1).c), .int .i64 (((decRead (subS s (i : Int) ((runTo lexInNum s (s.size - (i + 1)) (i + 1) : Nat) : Int))).1).scale)] agg52 0 rfl rfl rfl rfl rfl rfl (aA 14 (.bool ((decRead (subS s (i : Int) ((runTo lexInNum s (s.size - (i + 1)) (i + 1) : Nat) : Int))).2)) rfl rfl (aN (aQ (aL (aM 89 (.bool ((decRead (subS s (i : Int) ((runTo lexInNum s (s.size - (i + 1)) (i + 1) : Nat) : Int))).2)) rfl rfl ?_))))))))
 refine ao 90 rfl rfl (st_un (v := .bool (!((decRead (subS s (i : Int) ((runTo lexInNum s (s.size - (i + 1)) (i + 1) : Nat) : Int))).2))) rfl rfl (un_not rfl) (aN ?_))
 refine bool_split ((decRead (subS s (i : Int) ((runTo lexInNum s (s.size - (i + 1)) (i + 1) : Nat) : Int))).2) (fun h1 => ?_) (fun h1 => ?_)
 ·refine ac_else' (b := !((decRead (subS s (i : Int) ((runTo lexInNum s (s.size - (i + 1)) (i + 1) : Nat) : Int))).2)) (by rw [h1]; rfl) rfl (ac_skip (aQ (aL (aM 92 (.slice aa m ca) rfl rfl (aM 93 (.string s) rfl rfl (aM 94 (.int .i64 (i : Int)) rfl rfl (aM 95 (.int .i64 ((runTo lexInNum s (s.size - (i + 1)) (i + 1) : Nat) : Int)) rfl rfl (ao 96 rfl rfl (st_ss (run_bd lexInNum hi) rfl Tryd.underlying9 rfl rfl rfl (aM 97 (.complex .f64 (here).re (here).im) rfl rfl ?_))))))))))
  refine ao 98 rfl rfl (st_bd (us := [(0, .int .i64 2), (1, .string (subS s (i : Int) ((runTo lexInNum s (s.size - (i + 1)) (i + 1) : Nat) : Int))), (2, .complex .f64 (here).re (here).im)]) (v := .agg #[.int .i64 2, .string (subS s (i : Int) ((runTo lexInNum s (s.size - (i + 1)) (i + 1) : Nat) : Int)), .complex .f64 (here).re (here).im]) rfl rfl (bd32_0_1_2 _ _ _) ?_)
  refine ao 99 rfl rfl (st_bs (us := [(0, .agg #[.int .i64 2, .string (subS s (i : Int) ((runTo lexInNum s (s.size - (i + 1)) (i + 1) : Nat) : Int)), .complex .f64 (here).re (here).im])]) (cs := [.int .i64 2, .string (subS s (i : Int) ((runTo lexInNum s (s.size - (i + 1)) (i + 1) : Nat) : Int)), .complex .f64 (here).re (here).im]) rfl rfl (bs22_1_0a _ _ _) fun g1 => ?_)
  refine ao 100 rfl rfl (st_appZ (A := [⟨g1, [.int .i64 2, .string (subS s (i : Int) ((runTo lexInNum s (s.size - (i + 1)) (i + 1) : Nat) : Int)), .complex .f64 (here).re (here).im], 32, false⟩, ⟨g0, [.int .i64 (((decRead (subS s (i : Int) ((runTo lexInNum s (s.size - (i + 1)) (i + 1) : Nat) : Int))).1).c), .int .i64 (((decRead (subS s (i : Int) ((runTo lexInNum s (s.size - (i + 1)) (i + 1) : Nat) : Int))).1).scale)], 52, false⟩]) (N := NA) (xs := xs) (news := [.int .i64 2, .string (subS s (i : Int) ((runTo lexInNum s (s.size - (i + 1)) (i + 1) : Nat) : Int)), .complex .f64 (here).re (here).im]) (r := []) slT22 rfl rfl rfl hR rfl (List.mem_of_getElem? (i := 0) rfl) rfl rfl rfl rfl (by decide) (by simp only [maxLen]; omega) (by omega) (fun v H H' hp h => ar_perm hp h) fun v9 Nu1 Ru1 => ?_)
  obtain ⟨au1, cu1, rfl⟩ := Ru1.form
  refine aA 5 (.slice au1 (m + 1) cu1) rfl rfl (aN (aQ (aL (aM 101 (.int .i64 ((runTo lexInNum s (s.size - (i + 1)) (i + 1) : Nat) : Int)) rfl rfl (aA 6 (.int .i64 ((runTo lexInNum s (s.size - (i + 1)) (i + 1) : Nat) : Int)) rfl rfl (aA 10 (.bool true) rfl rfl (aN (aQ ?_))))))))
  refine ac_goto ?_
  simp only [lexNum, h1, cond_true, cond_false] at hq
  exact lexj0 (i := (runTo lexInNum s (s.size - (i + 1)) (i + 1))) (n := n) (lexSt_more hm hxs (by have := run_ge1 lexInNum s i; omega) (run_le1 lexInNum hi) (by rfl) Ru1) (List.Sublist.cons _ (List.Sublist.cons _ (List.Sublist.refl _))) rfl rfl rfl rfl rfl rfl (by have := run_ge1 lexInNum s i; omega) (by have := run_ge1 lexInNum s i; omega) hq
 ·refine ac_then' (b := !((decRead (subS s (i : Int) ((runTo lexInNum s (s.size - (i + 1)) (i + 1) : Nat) : Int))).2)) (by rw [h1]; rfl) rfl (aQ (aL (aM 91 (.complex .f64 (here).re (here).im) rfl rfl (aA 2 (.slice none 0 0) rfl rfl (aA 3 (.complex .f64 (here).re (here).im) rfl rfl (aA 4 (.int .i64 2) rfl rfl (aN (ac_ret ?_))))))))
  simp only [lexNum, h1, cond_true, cond_false] at hq
  exact fing_ret (N := []) (tokPost_nil hq) (List.nil_sublist _) rfl (res_ttt rfl rfl rfl rfl)
theorem tok_pass (s : ByteArray) (hs4 : s.size ≤ 4000) (R : LRes) {c : Code} (hc : Tryd.f9.body.bind scopeOf = some c) (l k : Nat) (E : Env) (H : List Box) (h : LexJ s R l k E H) : ∃ rest, findLabel c l = some rest ∧ AC Tryd.prog 118 rest (AJ (fun l' E' H' => ∃ k', k' < k ∧ LexJ s R l' k' E' H') (FinG Tryd.prog Tryd.f9 118 (TokPost R))) E H := by
 have key : ∀ rest, (((Tryd.f9.body.bind scopeOf).bind fun c => findLabel c l) = some rest) → findLabel c l = some rest := by
  intro rest hr
  rw [hc] at hr
  exact hr
 obtain ⟨i, m, ca, n, line, start, any_, here, out, aa, NA, xs, hSt, hsub, q0, q5, q6, q8, q9, q10, h⟩ := h
 rcases h with ⟨rfl, hk, hn, hR⟩ | ⟨q12, hk, hn, ⟨rfl, hR⟩ | ⟨hi, ⟨rfl, hR⟩ | ⟨rfl, hR⟩ | ⟨rfl, hR⟩⟩⟩
 ·obtain ⟨n, rfl⟩ : ∃ n', n = n' + 1 := ⟨n - 1, by omega⟩
  exact ⟨_, key _ rfl, ac_seq (ac_skip (seg0 s hs4 R k i m ca n line start any_ out aa NA xs hSt hk (by omega) hR rfl hsub q0 q5 q6 q8 q9 q10))⟩
 ·exact ⟨_, key _ rfl, ac_seq (ac_skip (seg1 s hs4 R k i m ca n line start any_ out aa NA xs hSt here hk hn hR rfl hsub q0 q5 q6 q8 q9 q10 q12))⟩
 ·exact ⟨_, key _ rfl, ac_seq (ac_skip (seg2 s hs4 R k i m ca n line start any_ out aa NA xs hSt here hk hn hi hR rfl hsub q0 q5 q6 q8 q9 q10 q12))⟩
 ·exact ⟨_, key _ rfl, ac_seq (ac_skip (seg3 s hs4 R k i m ca n line start any_ out aa NA xs hSt here hk hn hi hR rfl hsub q0 q5 q6 q8 q9 q10 q12))⟩
 ·exact ⟨_, key _ rfl, ac_seq (ac_skip (seg4 s hs4 R k i m ca n line start any_ out aa NA xs hSt here hk hn hi hR rfl hsub q0 q5 q6 q8 q9 q10 q12))⟩
set_option maxRecDepth 100000 in
theorem c_tokBig (s : ByteArray) (hs : 4000 < s.size) : Gives Tryd.prog 9 #[.string s] [] (TokPost (lexAll s)) := by
 refine gives_fin Tryd.func9 rfl rfl rfl rfl (aQ (aL (aA 2 (.slice none 0 0) rfl rfl (aA 3 (.complex .f64 ((⟨0, 0⟩ : Cx)).re ((⟨0, 0⟩ : Cx)).im) rfl rfl (aA 4 (.int .i64 0) rfl rfl (aN ?_))))))
 refine ac_scope (fun l k E H => False) ?_ ?_
 rotate_left
 ·intro l k E H h; exact h.elim
 refine aQ (aL (aA 5 (.slice none 0 0) rfl rfl (aN (aQ (aL (aA 6 (.int .i64 0) rfl rfl (aA 7 (.int .i64 0) rfl rfl (aN (aQ (aL (aA 8 (.int .i64 1) rfl rfl (aA 9 (.int .i64 0) rfl rfl (aN (aQ (aL (aA 10 (.bool false) rfl rfl (aN (aQ (aL (aA 11 (.int .u8 0) rfl rfl (aN (aQ (aL (aA 12 (.complex .f64 ((⟨0, 0⟩ : Cx)).re ((⟨0, 0⟩ : Cx)).im) rfl rfl (aN (aQ (aQ (aL (aM 15 (.string s) rfl rfl (ao 16 rfl rfl (st_slen (s := s) rfl Tryd.underlying9 rfl (aB 17 (.bool (decide (((s).size : Int) > 4000))) rfl rfl rfl (bi_gtr rfl) (aN (ac_then' (b := decide (((s).size : Int) > 4000)) (decide_eq_true (by omega)) rfl (aQ (aL (aA 2 (.slice none 0 0) rfl rfl ?_)))))))))))))))))))))))))))))))))))))
 refine aA 3 (.complex .f64 ((⟨0, 0⟩ : Cx)).re ((⟨0, 0⟩ : Cx)).im) rfl rfl (aA 4 (.int .i64 3) rfl rfl (aN (ac_ret ?_)))
 exact fing_ret (N := []) (tokPost_nil (by rw [lexAll, decide_eq_true (by omega)]; rfl)) (List.nil_sublist _) rfl (res_ttt rfl rfl rfl rfl)
set_option maxRecDepth 100000 in
theorem c_tokFit (s : ByteArray) (hs : s.size ≤ 4000) : Gives Tryd.prog 9 #[.string s] [] (TokPost (lexAll s)) := by
 refine gives_fin Tryd.func9 rfl rfl rfl rfl (aQ (aL (aA 2 (.slice none 0 0) rfl rfl (aA 3 (.complex .f64 ((⟨0, 0⟩ : Cx)).re ((⟨0, 0⟩ : Cx)).im) rfl rfl (aA 4 (.int .i64 0) rfl rfl (aN ?_))))))
 refine ac_scope (fun l k E H => LexJ s (lexAll s) l k E H) ?_ ?_
 rotate_left
 ·intro l k E H h; exact tok_pass s (by omega) (lexAll s) rfl l k E H h
 refine aQ (aL (aA 5 (.slice none 0 0) rfl rfl (aN (aQ (aL (aA 6 (.int .i64 0) rfl rfl (aA 7 (.int .i64 0) rfl rfl (aN (aQ (aL (aA 8 (.int .i64 1) rfl rfl (aA 9 (.int .i64 0) rfl rfl (aN (aQ (aL (aA 10 (.bool false) rfl rfl (aN (aQ (aL (aA 11 (.int .u8 0) rfl rfl (aN (aQ (aL (aA 12 (.complex .f64 ((⟨0, 0⟩ : Cx)).re ((⟨0, 0⟩ : Cx)).im) rfl rfl (aN (aQ (aQ (aL (aM 15 (.string s) rfl rfl (ao 16 rfl rfl (st_slen (s := s) rfl Tryd.underlying9 rfl (aB 17 (.bool (decide (((s).size : Int) > 4000))) rfl rfl rfl (bi_gtr rfl) (aN (ac_else' (b := decide (((s).size : Int) > 4000)) (decide_eq_false (by omega)) rfl (ac_skip (aQ ?_))))))))))))))))))))))))))))))))))))
 refine ac_label ?_
 exact AC.mono (seg0 s (by omega) (lexAll s) (2 * (s.size - 0) + 1) 0 0 0 s.size 1 0 false [] none [] [] ⟨rfl, rfl, Nat.le_refl _, Nat.zero_le _, Row.nil _ _⟩ rfl (by omega) (by rw [lexAll, decide_eq_false (by omega)]; rfl) rfl (List.Sublist.refl _) rfl rfl rfl rfl rfl rfl) aj_weak
theorem c_tokens (s : ByteArray) : Gives Tryd.prog 9 #[.string s] [] (TokPost (lexAll s)) := by
 by_cases h : s.size ≤ 4000
 ·exact c_tokFit s h
 ·exact c_tokBig s (by omega)
end Go.Proofs.YtalffjplbhelcaaDoor
namespace Go.Proofs.YtalffjplbhelcaaDoor
open Go.RowKit
section
variable {p : Program} {n : Nat} {o : Oper} {H : List Box} {ρ : Operand → Value} {K : Post}
end
theorem tok_closed {s : ByteArray} {v : Value} {N : List Box} (T : List Tok) (a : Cx) (e : Int) (m : Nat) (xs : List Value) (h : TokPost (lexAll s) v N) (hc : lexAll s = (T, a, e)) (hn : Nat.ble 1 T.length = true) (hm : T.length = m) (hxs : flatT T = xs) :
    ∃ (g ca : Nat) (r : List Value), v = .tuple #[.slice (some ⟨g, 0, none⟩) m ca, .complex .f64 a.re a.im, .int .i64 e] ∧ N = [⟨g, xs ++ r, 32, false⟩] := by
  subst hm hxs
  rw [hc] at h
  obtain ⟨m, ca, aa, xs, rfl, rfl, _, rfl, hR⟩ := h
  rcases hR with ⟨h0, _⟩ | ⟨g, cap, rest, hv, hN, _⟩
  · simp only at h0
    rw [h0] at hn
    cases hn
  · cases hv
    exact ⟨g, _, rest, rfl, hN⟩
end Go.Proofs.YtalffjplbhelcaaDoor
namespace Go.Proofs.YtalffjplbhelcaaDoor
open Go.RowKit
attribute [local irreducible] AC AR DWalk
def hPick_e0 (n : Int) (m : Int) : Int := (bif decide ((Int.tmod n m) < 0) then (w64 ((Int.tmod n m) + m)) else (Int.tmod n m))
def hPick (n : Int) (m : Int) : Int := (hPick_e0 n m)
set_option maxRecDepth 100000 in
theorem c_hPick (n : Int) (m : Int) (hm : m ≠ 0) : Gets Tryd.prog 15 #[.int .i64 n, .int .i64 m] ((fun (r : Int) => (.int .i64 r : Value)) (hPick n m)) := by
 refine gets_fin Tryd.func15 rfl rfl rfl (aQ (aL (aA 4 (.int .i64 0) rfl rfl (aN (aQ (aL (aM 5 (.int .i64 n) rfl rfl (aM 6 (.int .i64 m) rfl rfl (aB 7 (.int .i64 (Int.tmod n m)) rfl rfl rfl (bi_rem hm rfl) (aA 0 (.int .i64 (Int.tmod n m)) rfl rfl (aN (aQ (aQ (aL (aM 8 (.int .i64 (Int.tmod n m)) rfl rfl (aB 9 (.bool (decide ((Int.tmod n m) < 0))) rfl rfl rfl (bi_lss rfl) (aN ?_)))))))))))))))))
 refine ac_mergeE (fun E9 => ((((Env.put E9 (some 10) (.int .i64 (Int.tmod n m))).put (some 11) (.int .i64 m)).put (some 12) (.int .i64 (w64 ((Int.tmod n m) + m)))).put (some 0) (.int .i64 (w64 ((Int.tmod n m) + m))))) (fun E9 => ((((Env.put E9 (some 10) (bif decide ((Int.tmod n m) < 0) then (.int .i64 (Int.tmod n m) : Value) else E9 10)).put (some 11) (bif decide ((Int.tmod n m) < 0) then (.int .i64 m : Value) else E9 11)).put (some 12) (bif decide ((Int.tmod n m) < 0) then (.int .i64 (w64 ((Int.tmod n m) + m)) : Value) else E9 12)).put (some 0) (.int .i64 (hPick_e0 n m)))) (b := decide ((Int.tmod n m) < 0)) rfl (fun hm => ?_) (fun hm => ?_) (fun hm => ?_) ?_
 ·refine aL (aM 10 (.int .i64 (Int.tmod n m)) rfl rfl (aM 11 (.int .i64 m) rfl rfl (aB 12 (.int .i64 (w64 ((Int.tmod n m) + m))) rfl rfl rfl (bi_add rfl) (aA 0 (.int .i64 (w64 ((Int.tmod n m) + m))) rfl rfl (aN ?_)))))
  exact ⟨rfl, rfl, rfl⟩
 ·unfold hPick_e0; rw [hm]; rfl
 ·unfold hPick_e0; rw [hm]; exact ((put_self rfl).trans ((put_self rfl).trans ((put_self rfl).trans (put_self rfl))))
 refine aQ (aL (aM 13 (.int .i64 (hPick_e0 n m)) rfl rfl (aA 4 (.int .i64 (hPick_e0 n m)) rfl rfl (aN (ac_ret (fin_eq (v := .int .i64 (hPick_e0 n m)) rfl (fin_ret (res_tmp rfl rfl))))))))
end Go.Proofs.YtalffjplbhelcaaDoor
namespace Go.Proofs.YtalffjplbhelcaaDoor
theorem hPick_spec (n : Int) {m : Int} (hm : 0 < m) (hm' : m ≤ 9223372036854775807) : hPick n m = n % m := by
  have h1 := Int.tmod_lt_of_pos n hm
  have h2 := Int.lt_tmod_of_pos n hm
  have he := Int.mul_tdiv_add_tmod n m
  unfold hPick hPick_e0
  by_cases h : n.tmod m < 0
  · rw [decide_eq_true h, w64_in (by omega)]
    simp only [cond_true]
    refine (((Int.ediv_emod_unique (q := n.tdiv m - 1) hm).2 ⟨?_, by omega, by omega⟩).2).symm
    rw [Int.mul_sub, Int.mul_one]; omega
  · rw [decide_eq_false h]
    simp only [cond_false]
    exact (((Int.ediv_emod_unique (q := n.tdiv m) hm).2 ⟨by omega, by omega, by omega⟩).2).symm
theorem hPick_lt (n : Int) {m : Int} (hm : 0 < m) (hm' : m ≤ 9223372036854775807) : 0 ≤ hPick n m ∧ hPick n m < m := by
  rw [hPick_spec n hm hm']
  exact ⟨Int.emod_nonneg n (by omega), Int.emod_lt_of_pos n hm⟩
end Go.Proofs.YtalffjplbhelcaaDoor
namespace Go.Proofs.YtalffjplbhelcaaDoor
def tokEq (a b : Tok) : Bool := (a.kind == b.kind) && ((a.text == b.text) && cxEq a.at_ b.at_)
theorem cell_cx : IsCell Tryd.prog 23 := ⟨⟨_, Tryd.underlying23, rfl, by kernel_rfl⟩⟩
theorem cell_st : IsCell Tryd.prog 9 := ⟨⟨_, Tryd.underlying9, rfl, by kernel_rfl⟩⟩
theorem stood_tok : Tryd.prog.stoodInHeld 32 = false := by kernel_rfl
theorem eqi_str {p : Program} {w : World} (d : Nat) (t : TypeId) (a b : ByteArray) (h : p.underlying t = some .string) : (Op.equalIn (d + 1) t (.string a) (.string b)).run p w = .ok (a == b) w := by
  simp [Op.equalIn, run_underlying h]
theorem eqi_cx {p : Program} {w : World} (d : Nat) (t : TypeId) (a b : Cx) (h : p.underlying t = some (.complex .f64)) : (Op.equalIn (d + 1) t (.complex .f64 a.re a.im) (.complex .f64 b.re b.im)).run p w = .ok (cxEq a b) w := by
  simp [Op.equalIn, run_underlying h, cxEq, feq, Op.floatEq]
theorem eqr_tok (a b : Tok) (d : Nat) (w : World) : (Op.equalIn (d + 2) 32 (.agg a.cells.toArray) (.agg b.cells.toArray)).run Tryd.prog w = .ok (tokEq a b) w := by
  refine eqf_s (xs := a.cells) (ys := b.cells) Tryd.underlying32 stood_tok ?_
  refine eqf_c (by decide) (part_c cell_int rfl) (part_c cell_int rfl) (run_equalIn_int _ _ _ _ _ _ _ Tryd.underlying3) ?_
  refine eqf_c (by decide) (part_c cell_st rfl) (part_c cell_st rfl) (eqi_str _ _ _ _ Tryd.underlying9) ?_
  have := eqf_c (p := Tryd.prog) (d := d + 1) (xs := a.cells) (ys := b.cells) (w := w) (f := { name := "At", type := 23, offset := 2, embedded := false, tag := "", pkgPath := "", byteOffset := 24 }) (fs := []) (by decide) (part_c cell_cx rfl) (part_c cell_cx rfl) (eqi_cx _ _ _ _ Tryd.underlying23) eqf_n
  rw [Bool.and_true] at this
  exact this
theorem guard_tok : Tryd.prog.eqGuardType Tryd.prog.depth 32 = false := by kernel_rfl
theorem beql_32 (a b : Tok) {d : Bool} (h : tokEq a b = d) (x y : Operand) : Runs Tryd.prog (do eqGuard .eql 32 x y (.agg a.cells.toArray) (.agg b.cells.toArray); binOp .eql 32 (.agg a.cells.toArray) (.agg b.cells.toArray)) (.bool d) := bs_eql guard_tok (fun w => eqr_tok a b 9998 w) h x y
theorem bneq_32 (a b : Tok) {d : Bool} (h : (!tokEq a b) = d) (x y : Operand) : Runs Tryd.prog (do eqGuard .neq 32 x y (.agg a.cells.toArray) (.agg b.cells.toArray); binOp .neq 32 (.agg a.cells.toArray) (.agg b.cells.toArray)) (.bool d) := bs_neq guard_tok (fun w => eqr_tok a b 9998 w) h x y
end Go.Proofs.YtalffjplbhelcaaDoor
namespace Go.Proofs.YtalffjplbhelcaaDoor
def SlI (a : Option Addr) (m : Nat) (x : Nat → Int) (NA : List Box) : Prop :=
  ∀ i, i < m → ∃ (g off : Nat) (cs : List Value) (t : TypeId), a = some ⟨g, off, none⟩ ∧ (⟨g, cs, t, true⟩ : Box) ∈ NA ∧ cs[off + i * 1]? = some (.int .i64 (x i))
section
variable {p : Program} {n : Nat} {o : Oper} {H : List Box} {ρ : Operand → Value} {K : Post}
theorem st_ldm {t t0 : TypeId} {x : Operand} {g off : Nat} {cs : List Value} {ro : Bool} {v : Value} (ha : IsCell p t) (ho : o.op = .load t x) (hx : ρ x = .pointer (some ⟨g, off, none⟩)) (hm : (⟨g, cs, t0, ro⟩ : Box) ∈ H) (hc : cs[off]? = some v) (k : K v H) : Step p ρ o H K := by
  obtain ⟨i, hi⟩ := List.getElem?_of_mem hm
  exact st_ldc (g := g) (off := off) (v := v) ha i ho hx hi rfl hc k
theorem st_iaA {t e m s : Nat} {x y : Operand} {g off : Nat} {i : Int} (ho : o.op = .indexAddr t x y) (hu : p.underlying t = some (.array m e)) (hs : (p.info? e).map (·.size) = some s) (hx : ρ x = .pointer (some ⟨g, off, none⟩)) (hy : ρ y = .int .i64 i) (h0 : 0 ≤ i ∧ i < m)
    (k : K (.pointer (some ⟨g, off + i.toNat * s, none⟩)) H) : Step p ρ o H K := by
  refine st_run (s := Instr.indexAt t (.pointer (some ⟨g, off, none⟩)) (.int .i64 i)) (by rw [execOp, ho]; simp only [hx, hy]) ⟨fun w => ?_⟩ k
  cases hq : p.info? e with
  | none => simp [hq] at hs
  | some inf =>
    have hs' : inf.size = s := by simpa [hq] using hs
    have ha : (⟨g, off, none⟩ : Addr).add (i.toNat * s) = ⟨g, off + i.toNat * s, none⟩ := by
      unfold Addr.add
      split
      · simp_all
      · rfl
    simp [Instr.indexAt, Instr.sureAddr, asIntOf, Sem.run_bind, run_underlying hu w, h0, sizeOf, typeInfo, hq, hs', ha]
end
theorem flatT_at (T : List Tok) (r : List Value) (i : Nat) (t : Tok) (h : T[i]? = some t) (j : Nat) (hj : j < 3) : (flatT T ++ r)[i * 3 + j]? = t.cells[j]? := by
  induction T generalizing i with
  | nil => simp at h
  | cons a T ih =>
    cases i with
    | zero =>
      simp only [List.getElem?_cons_zero, Option.some.injEq] at h
      subst h
      have e : flatT (a :: T) = a.cells ++ flatT T := by simp [flatT]
      rw [e, List.append_assoc, List.getElem?_append_left (by simp [Tok.cells]; omega)]
      simp
    | succ i =>
      simp only [List.getElem?_cons_succ] at h
      have e : flatT (a :: T) = a.cells ++ flatT T := by simp [flatT]
      rw [e, List.append_assoc, List.getElem?_append_right (by simp [Tok.cells]; omega)]
      have e2 : (i + 1) * 3 + j - a.cells.length = i * 3 + j := by simp [Tok.cells]; omega
      rw [e2]
      exact ih i h
def loopsOf : Code → List Code
  | .seq a b => loopsOf a ++ loopsOf b
  | .cond _ a b => loopsOf a ++ loopsOf b
  | .block _ a => loopsOf a
  | .scope a => loopsOf a
  | .loop c => [c]
  | _ => []
def loopN (k : Nat) (c : Code) : Option Code := (loopsOf c)[k]?
theorem tok_cases {R : LRes} {v : Value} {N : List Box} (h : TokPost R v N) : ∃ (a : Option Addr) (ca : Nat), v = .tuple #[.slice a R.1.length ca, .complex .f64 R.2.1.re R.2.1.im, .int .i64 R.2.2] ∧ R.1.length ≤ 4001 ∧
    (∀ i, i < R.1.length → ∃ (g : Nat) (r : List Value), a = some ⟨g, 0, none⟩ ∧ (⟨g, flatT R.1 ++ r, 32, false⟩ : Box) ∈ N) := by
  obtain ⟨m, ca, aa, xs, rfl, rfl, h4, rfl, hR⟩ := h
  refine ⟨aa, ca, rfl, h4, fun i hi => ?_⟩
  rcases hR with ⟨h0, _⟩ | ⟨g, cap, rest, hv, hN, _⟩
  · omega
  · cases hv
    exact ⟨g, rest, rfl, by rw [hN]; exact List.mem_singleton.2 rfl⟩
end Go.Proofs.YtalffjplbhelcaaDoor
namespace Go.Proofs.YtalffjplbhelcaaDoor
def restL (s : ByteArray) (i : Nat) : List UInt8 := s.data.toList.drop i
theorem rest_len (s : ByteArray) (i : Nat) : (restL s i).length = s.size - i := by
  unfold restL
  rw [List.length_drop]
  rfl
theorem rest_add {s : ByteArray} {i : Nat} {w r : List UInt8} (h : restL s i = w ++ r) : restL s (i + w.length) = r := by
  unfold restL at *
  rw [← List.drop_drop, h, List.drop_left]
theorem rest_cons {s : ByteArray} {i : Nat} {b : UInt8} {r : List UInt8} (h : restL s i = b :: r) : i < s.size ∧ sAt s i = (b.toNat : Int) ∧ restL s (i + 1) = r := by
  have hl := rest_len s i
  rw [h] at hl
  simp only [List.length_cons] at hl
  have hi : i < s.size := by omega
  refine ⟨hi, ?_, rest_add (w := [b]) h⟩
  have e : s.data.toList[i]? = some b := by
    have h0 : (s.data.toList.drop i)[0]? = some b := by
      rw [show s.data.toList.drop i = b :: r from h]; rfl
    rw [List.getElem?_drop] at h0
    exact h0
  unfold sAt
  have e2 : s[i]? = some b := by
    rw [getElem?_pos s i hi]
    rw [Array.getElem?_toList] at e
    obtain ⟨_, hb⟩ := Array.getElem?_eq_some_iff.1 e
    rw [← hb]
    rfl
  rw [e2]
  rfl
theorem sub_rest {s : ByteArray} {i : Nat} {w post : List UInt8} (h : restL s i = w ++ post) : subS s (i : Int) ((i + w.length : Nat) : Int) = byA w := by
  unfold subS byA
  apply ByteArray.ext
  apply Array.ext'
  simp only [Int.toNat_natCast, ByteArray.data_extract, Array.toList_extract]
  rw [List.extract_eq_take_drop, show (s.data.toList.drop i) = w ++ post from h]
  simp
section
variable {s : ByteArray} {n i : Nat} {line start : Int} {any_ : Bool} {out : List Tok}
theorem i_ne {s : ByteArray} {i : Nat} (h : i < s.size) : ((i : Int) == ((s).size : Int)) = false := by
  rw [beq_eq_false_iff_ne]; omega
end
end Go.Proofs.YtalffjplbhelcaaDoor
namespace Go.Proofs.YtalffjplbhelcaaDoor
theorem sub_tl (b : UInt8) (r : List UInt8) : subS (byA (b :: r)) 1 (((byA (b :: r)).size : Nat) : Int) = byA r := by
  have h : restL (byA (b :: r)) 1 = r ++ [] := by simp [restL, byA]
  have := sub_rest (s := byA (b :: r)) (i := 1) h
  rw [← this]
  congr 1
  show ((r.length + 1 : Nat) : Int) = _
  omega
theorem sAt_hd (b : UInt8) (r : List UInt8) : sAt (byA (b :: r)) 0 = (b.toNat : Int) := (rest_cons (s := byA (b :: r)) (i := 0) rfl).2.1
theorem byA_pos (b : UInt8) (r : List UInt8) : 0 < (byA (b :: r)).size := Nat.succ_pos _
section
variable {p : Program} {n : Nat} {o : Oper} {H : List Box} {ρ : Operand → Value} {K : Post}
theorem bk_sub8 {t : Nat} {a b : Int} (x y : Operand) : Runs p (do eqGuard .sub t x y (.int .u8 a) (.int .u8 b); binOp .sub t (.int .u8 a) (.int .u8 b)) (.int .u8 (IntKind.u8.wrap (a - b))) := ⟨fun w => by
  simp [eqGuard, binOp, Op.intArith, Sem.run_bind]⟩
theorem st_cv8 {t u : Nat} {x : Operand} {a : Int} (ho : o.op = .convert t u x) (hu : p.underlying u = some (.int .i64)) (ht : p.underlying t = some (.int .u8)) (hx : ρ x = .int .u8 a) (kk : K (.int .i64 (w64 a)) H) : Step p ρ o H K :=
  st_run (s := convert t u (.int .u8 a)) (by rw [execOp, ho]; simp only [hx]) ⟨fun w => by simp [convert, Sem.run_bind, run_underlying hu w, run_underlying ht w, Conv.intToInt]⟩ kk
end
end Go.Proofs.YtalffjplbhelcaaDoor
