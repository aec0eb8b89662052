import Derived.Test.YtalffjplbhelcaaDoorMLexPlaces2
import Derived.Test.YtalffjplbhelcaaDoorMLexPlaces1
import Derived.Laws.MakeOwn
import Derived.Laws.IdiomStrings
set_option linter.unusedVariables false
set_option linter.unusedSimpArgs false
namespace Go.Proofs.YtalffjplbhelcaaDoor
open Go.RowKit
attribute [local irreducible] AC AR DWalk
set_option maxRecDepth 100000 in
set_option maxHeartbeats 4000000 in
theorem seg0 (s : ByteArray) (hs4 : s.size ≤ 4000) (R : LRes) (K i m ca n : Nat) (line start : Int) (any_ : Bool) (out : List Tok) (aa : Option Addr) (NA : List Box) (xs : List Value) (hSt : LexSt s out i m ca aa xs NA) (hk : K = 2 * (s.size - i) + 1) (hn : s.size - i ≤ n) (hq : lexStep (lexRun s n) s i line start any_ out = R) {E : Env} {H : List Box} {rest : Code} (hc : ((Tryd.f9.body.bind scopeOf).bind fun c => findLabel c 0) = some (.seq .skip rest)) (hsub : List.Sublist NA H) (q0 : E 0 = .string s) (q5 : E 5 = .slice aa m ca) (q6 : E 6 = .int .i64 (i : Int)) (q8 : E 8 = .int .i64 line) (q9 : E 9 = .int .i64 start) (q10 : E 10 = .bool any_) : AC Tryd.prog 118 rest (AJ (fun l' E' H' => ∃ k', k' < K ∧ LexJ s R l' k' E' H') (FinG Tryd.prog Tryd.f9 118 (TokPost R))) E H := by
 rw [show ((Tryd.f9.body.bind scopeOf).bind fun c => findLabel c 0) = some (.seq .skip _) from rfl] at hc
 cases hc
 refine ac_drop hsub ?_
 have hSt0 := hSt
 obtain ⟨hm, hxs, hmi, hil, hR⟩ := hSt
 obtain ⟨E0, rfl⟩ : ∃ E0 : Env, E = ((((((E0.put (some 0) (.string s)).put (some 5) (.slice aa m ca)).put (some 6) (.int .i64 (i : Int))).put (some 8) (.int .i64 line)).put (some 9) (.int .i64 start)).put (some 10) (.bool any_)) := ⟨E, by rw [put_self q0, put_self q5, put_self q6, put_self q8, put_self q9, put_self q10]⟩
 refine aQ (aL (aM 18 (.int .i64 line) rfl rfl (aM 19 (.int .i64 (i : Int)) rfl rfl (aM 20 (.int .i64 start) rfl rfl (aB 21 (.int .i64 (w64 ((i : Int) - start))) rfl rfl rfl (bi_sub rfl) (aB 22 (.int .i64 (w64 ((w64 ((i : Int) - start)) + 1))) rfl rfl rfl (bi_add rfl) (aC 23 (c_place line (w64 ((w64 ((i : Int) - start)) + 1))) Tryd.func26 ⟨rfl, by decide⟩ rfl rfl (aA 12 (.complex .f64 ((place line (w64 ((w64 ((i : Int) - start)) + 1)))).re ((place line (w64 ((w64 ((i : Int) - start)) + 1)))).im) rfl rfl (aN (aQ (aQ (aL (aM 24 (.int .i64 (i : Int)) rfl rfl (aM 25 (.string s) rfl rfl (ao 26 rfl rfl (st_slen (s := s) rfl Tryd.underlying9 rfl ?_))))))))))))))))
 refine aB 27 (.bool ((i : Int) == ((s).size : Int))) rfl rfl rfl (bi_eql rfl) (aN ?_)
 refine bool_split ((i : Int) == ((s).size : Int)) (fun h1 => ?_) (fun h1 => ?_)
 ·refine ac_then' (b := (i : Int) == ((s).size : Int)) h1 rfl ?_
  refine ac_goto ?_
  simp only [lexStep, h1, cond_true, cond_false] at hq
  exact lexj1 (i := i) (n := n) (here := (lexHere i line start)) (lexSt_same hSt0 (by omega) hil) (List.Sublist.refl _) rfl rfl rfl rfl rfl rfl rfl (by have := hil; omega) (by have := hil; omega) hq
 ·refine ac_else' (b := (i : Int) == ((s).size : Int)) h1 rfl (ac_skip (aQ (aL (aM 28 (.string s) rfl rfl (aM 29 (.int .i64 (i : Int)) rfl rfl (ao 30 rfl rfl (st_six (s := s) (i := i) rfl Tryd.underlying9 rfl rfl (ne_lt hil h1) (aA 11 (.int .u8 (sAt s i)) rfl rfl (aN (aQ (ac_block (aQ (aL (aM 32 (.int .u8 (sAt s i)) rfl rfl (aB 33 (.bool ((sAt s i) == 10)) rfl rfl rfl (bk_eql rfl) (aA 31 (.bool ((sAt s i) == 10)) rfl rfl (aN ?_)))))))))))))))))
  refine bool_split ((sAt s i) == 10) (fun h2 => ?_) (fun h2 => ?_)
  ·refine ac_then' (b := (sAt s i) == 10) h2 rfl ?_
   refine ac_goto ?_
   simp only [lexStep, h1, h2, cond_true, cond_false] at hq
   exact lexj1 (i := i) (n := n) (here := (lexHere i line start)) (lexSt_same hSt0 (by omega) hil) (List.Sublist.refl _) rfl rfl rfl rfl rfl rfl rfl (by have := hil; have := (ne_lt hil h1); omega) (by have := hil; have := (ne_lt hil h1); omega) hq
  ·refine ac_else' (b := (sAt s i) == 10) h2 rfl (aQ (aL (aM 35 (.int .u8 (sAt s i)) rfl rfl (aB 36 (.bool ((sAt s i) == 32)) rfl rfl rfl (bk_eql rfl) (aM 37 (.bool ((sAt s i) == 32)) rfl rfl ?_)))))
   refine bool_split ((sAt s i) == 32) (fun h3 => ?_) (fun h3 => ?_)
   ·refine aK 38 (by show (((sAt s i) == 32) == false) = false; rw [h3]; rfl) rfl (aK 39 (by show (((sAt s i) == 32) == false) = false; rw [h3]; rfl) rfl (ao 40 rfl rfl (st_pkt' (b := (sAt s i) == 32) (v := .bool true) h3 rfl rfl rfl (aA 34 (.bool true) rfl rfl (aN (ac_then rfl (aQ (aL (aM 41 (.int .i64 (i : Int)) rfl rfl (aB 42 (.int .i64 (w64 ((i : Int) + 1))) rfl rfl rfl (bi_add rfl) (aA 6 (.int .i64 (w64 ((i : Int) + 1))) rfl rfl (aN ?_))))))))))))
    refine ac_goto ?_
    simp only [lexStep, h1, h2, h3, cond_true, cond_false] at hq
    exact lexj0 (i := (i + 1)) (n := n) (lexSt_same hSt0 (by omega) (ne_lt hil h1)) (List.Sublist.refl _) rfl rfl (w64_succ hs4 hil) rfl rfl rfl (by have := hil; have := (ne_lt hil h1); omega) (by have := hil; have := (ne_lt hil h1); omega) hq
   ·refine ar_gd (d := (some 38)) (by show (((sAt s i) == 32) == false) = true; rw [h3]; rfl) rfl (st_move (v := .int .u8 (sAt s i)) rfl rfl (ar_gd (d := (some 39)) (by show (((sAt s i) == 32) == false) = true; rw [h3]; rfl) rfl (st_bi (r := .bool ((sAt s i) == 9)) rfl rfl rfl (bk_eql rfl) (ao 40 rfl rfl (st_pkf' (b := (sAt s i) == 32) (v := .bool ((sAt s i) == 9)) h3 rfl rfl rfl (aA 34 (.bool ((sAt s i) == 9)) rfl rfl (aN ?_)))))))
    refine bool_split ((sAt s i) == 9) (fun h4 => ?_) (fun h4 => ?_)
    ·refine ac_then' (b := (sAt s i) == 9) h4 rfl (aQ (aL (aM 41 (.int .i64 (i : Int)) rfl rfl (aB 42 (.int .i64 (w64 ((i : Int) + 1))) rfl rfl rfl (bi_add rfl) (aA 6 (.int .i64 (w64 ((i : Int) + 1))) rfl rfl (aN ?_))))))
     refine ac_goto ?_
     simp only [lexStep, h1, h2, h3, h4, cond_true, cond_false] at hq
     exact lexj0 (i := (i + 1)) (n := n) (lexSt_same hSt0 (by omega) (ne_lt hil h1)) (List.Sublist.refl _) rfl rfl (w64_succ hs4 hil) rfl rfl rfl (by have := hil; have := (ne_lt hil h1); omega) (by have := hil; have := (ne_lt hil h1); omega) hq
    ·refine ac_else' (b := (sAt s i) == 9) h4 rfl (aQ (aL (aM 44 (.int .u8 (sAt s i)) rfl rfl (aB 45 (.bool ((sAt s i) == 35)) rfl rfl rfl (bk_eql rfl) (aA 43 (.bool ((sAt s i) == 35)) rfl rfl (aN ?_))))))
     refine bool_split ((sAt s i) == 35) (fun h5 => ?_) (fun h5 => ?_)
     ·refine ac_then' (b := (sAt s i) == 35) h5 rfl ?_
      refine ac_goto ?_
      simp only [lexStep, h1, h2, h3, h4, h5, cond_true, cond_false] at hq
      exact lexj2 (i := i) (n := n) (here := (lexHere i line start)) (lexSt_same hSt0 (by omega) hil) (List.Sublist.refl _) rfl rfl rfl rfl rfl rfl rfl (by have := hil; have := (ne_lt hil h1); omega) (by have := hil; have := (ne_lt hil h1); omega) (ne_lt hil h1) hq
     ·refine ac_else' (b := (sAt s i) == 35) h5 rfl (aQ (aL (aM 47 (.int .u8 (sAt s i)) rfl rfl (aC 48 (c_lexLetter (sAt s i)) Tryd.func27 ⟨rfl, by decide⟩ rfl rfl (aA 46 (.bool (lexLetter (sAt s i))) rfl rfl (aN ?_))))))
      refine bool_split (lexLetter (sAt s i)) (fun h6 => ?_) (fun h6 => ?_)
      ·refine ac_then' (b := lexLetter (sAt s i)) h6 rfl ?_
       refine ac_goto ?_
       simp only [lexStep, h1, h2, h3, h4, h5, h6, cond_true, cond_false] at hq
       exact lexj3 (i := i) (n := n) (here := (lexHere i line start)) (lexSt_same hSt0 (by omega) hil) (List.Sublist.refl _) rfl rfl rfl rfl rfl rfl rfl (by have := hil; have := (ne_lt hil h1); omega) (by have := hil; have := (ne_lt hil h1); omega) (ne_lt hil h1) hq
      ·refine ac_else' (b := lexLetter (sAt s i)) h6 rfl (aQ (aL (aM 50 (.int .u8 (sAt s i)) rfl rfl (aC 51 (c_lexDigit (sAt s i)) Tryd.func28 ⟨rfl, by decide⟩ rfl rfl (aM 52 (.bool (lexDigit (sAt s i))) rfl rfl ?_)))))
       refine bool_split (lexDigit (sAt s i)) (fun h7 => ?_) (fun h7 => ?_)
       ·refine aK 53 (by show ((lexDigit (sAt s i)) == false) = false; rw [h7]; rfl) rfl (aK 54 (by show ((lexDigit (sAt s i)) == false) = false; rw [h7]; rfl) rfl (ao 55 rfl rfl (st_pkt' (b := lexDigit (sAt s i)) (v := .bool true) h7 rfl rfl rfl (aA 49 (.bool true) rfl rfl (aN (ac_then rfl ?_))))))
        refine ac_goto ?_
        simp only [lexStep, h1, h2, h3, h4, h5, h6, h7, cond_true, cond_false] at hq
        exact lexj4 (i := i) (n := n) (here := (lexHere i line start)) (lexSt_same hSt0 (by omega) hil) (List.Sublist.refl _) rfl rfl rfl rfl rfl rfl rfl (by have := hil; have := (ne_lt hil h1); omega) (by have := hil; have := (ne_lt hil h1); omega) (ne_lt hil h1) hq
       ·refine ar_gd (d := (some 53)) (by show ((lexDigit (sAt s i)) == false) = true; rw [h7]; rfl) rfl (st_move (v := .int .u8 (sAt s i)) rfl rfl (ar_gd (d := (some 54)) (by show ((lexDigit (sAt s i)) == false) = true; rw [h7]; rfl) rfl (st_bi (r := .bool ((sAt s i) == 45)) rfl rfl rfl (bk_eql rfl) (ao 55 rfl rfl (st_pkf' (b := lexDigit (sAt s i)) (v := .bool ((sAt s i) == 45)) h7 rfl rfl rfl (aA 49 (.bool ((sAt s i) == 45)) rfl rfl (aN ?_)))))))
        refine bool_split ((sAt s i) == 45) (fun h8 => ?_) (fun h8 => ?_)
        ·refine ac_then' (b := (sAt s i) == 45) h8 rfl ?_
         refine ac_goto ?_
         simp only [lexStep, h1, h2, h3, h4, h5, h6, h7, h8, cond_true, cond_false] at hq
         exact lexj4 (i := i) (n := n) (here := (lexHere i line start)) (lexSt_same hSt0 (by omega) hil) (List.Sublist.refl _) rfl rfl rfl rfl rfl rfl rfl (by have := hil; have := (ne_lt hil h1); omega) (by have := hil; have := (ne_lt hil h1); omega) (ne_lt hil h1) hq
        ·refine ac_else' (b := (sAt s i) == 45) h8 rfl (ac_skip (aQ (aQ (aL (aM 56 (.complex .f64 ((place line (w64 ((w64 ((i : Int) - start)) + 1)))).re ((place line (w64 ((w64 ((i : Int) - start)) + 1)))).im) rfl rfl (aA 2 (.slice none 0 0) rfl rfl (aA 3 (.complex .f64 ((place line (w64 ((w64 ((i : Int) - start)) + 1)))).re ((place line (w64 ((w64 ((i : Int) - start)) + 1)))).im) rfl rfl (aA 4 (.int .i64 2) rfl rfl (aN (ac_ret ?_))))))))))
         simp only [lexStep, h1, h2, h3, h4, h5, h6, h7, h8, cond_true, cond_false] at hq
         exact fing_ret (N := []) (tokPost_nil hq) (List.nil_sublist _) rfl (res_ttt rfl rfl rfl rfl)
set_option maxRecDepth 100000 in
set_option maxHeartbeats 4000000 in
theorem seg1 (s : ByteArray) (hs4 : s.size ≤ 4000) (R : LRes) (K i m ca n : Nat) (line start : Int) (any_ : Bool) (out : List Tok) (aa : Option Addr) (NA : List Box) (xs : List Value) (hSt : LexSt s out i m ca aa xs NA) (here : Cx) (hk : K = 2 * (s.size - i)) (hn : s.size - i ≤ n) (hq : lexFeed (lexRun s n) s i line any_ out here = R) {E : Env} {H : List Box} {rest : Code} (hc : ((Tryd.f9.body.bind scopeOf).bind fun c => findLabel c 1) = some (.seq .skip rest)) (hsub : List.Sublist NA H) (q0 : E 0 = .string s) (q5 : E 5 = .slice aa m ca) (q6 : E 6 = .int .i64 (i : Int)) (q8 : E 8 = .int .i64 line) (q9 : E 9 = .int .i64 start) (q10 : E 10 = .bool any_) (q12 : E 12 = .complex .f64 (here).re (here).im) : AC Tryd.prog 118 rest (AJ (fun l' E' H' => ∃ k', k' < K ∧ LexJ s R l' k' E' H') (FinG Tryd.prog Tryd.f9 118 (TokPost R))) E H := by
 rw [show ((Tryd.f9.body.bind scopeOf).bind fun c => findLabel c 1) = some (.seq .skip _) from rfl] at hc
 cases hc
 refine ac_drop hsub ?_
 have hSt0 := hSt
 obtain ⟨hm, hxs, hmi, hil, hR⟩ := hSt
 obtain ⟨E0, rfl⟩ : ∃ E0 : Env, E = (((((((E0.put (some 0) (.string s)).put (some 5) (.slice aa m ca)).put (some 6) (.int .i64 (i : Int))).put (some 8) (.int .i64 line)).put (some 9) (.int .i64 start)).put (some 10) (.bool any_)).put (some 12) (.complex .f64 (here).re (here).im)) := ⟨E, by rw [put_self q0, put_self q5, put_self q6, put_self q8, put_self q9, put_self q10, put_self q12]⟩
 refine aQ (aQ (aL (aM 102 (.bool any_) rfl rfl (aN ?_))))
 refine bool_split (any_) (fun h1 => ?_) (fun h1 => ?_)
 ·refine ac_then' (b := any_) h1 rfl (aL (aM 103 (.slice aa m ca) rfl rfl (aM 104 (.complex .f64 (here).re (here).im) rfl rfl (ao 105 rfl rfl (st_bd (us := [(0, .int .i64 3), (1, .string (⟨#[]⟩ : ByteArray)), (2, .complex .f64 (here).re (here).im)]) (v := .agg #[.int .i64 3, .string (⟨#[]⟩ : ByteArray), .complex .f64 (here).re (here).im]) rfl rfl (bd32_0_1_2 _ _ _) (ao 106 rfl rfl (st_bs (us := [(0, .agg #[.int .i64 3, .string (⟨#[]⟩ : ByteArray), .complex .f64 (here).re (here).im])]) (cs := [.int .i64 3, .string (⟨#[]⟩ : ByteArray), .complex .f64 (here).re (here).im]) rfl rfl (bs22_1_0a _ _ _) fun g0 => ?_)))))))
  refine ao 107 rfl rfl (st_appZ (A := [⟨g0, [.int .i64 3, .string (⟨#[]⟩ : ByteArray), .complex .f64 (here).re (here).im], 32, false⟩]) (N := NA) (xs := xs) (news := [.int .i64 3, .string (⟨#[]⟩ : ByteArray), .complex .f64 (here).re (here).im]) (r := []) slT22 rfl rfl rfl hR rfl (List.mem_of_getElem? (i := 0) rfl) rfl rfl rfl rfl (by decide) (by simp only [maxLen]; omega) (by omega) (fun v H H' hp h => ar_perm hp h) fun v9 Nu1 Ru1 => ?_)
  obtain ⟨au1, cu1, rfl⟩ := Ru1.form
  refine aA 5 (.slice au1 (m + 1) cu1) rfl rfl (aN (aQ (aQ (aL (aM 108 (.int .i64 (i : Int)) rfl rfl (aM 109 (.string s) rfl rfl (ao 110 rfl rfl (st_slen (s := s) rfl Tryd.underlying9 rfl (aB 111 (.bool ((i : Int) == ((s).size : Int))) rfl rfl rfl (bi_eql rfl) (aN ?_))))))))))
  refine bool_split ((i : Int) == ((s).size : Int)) (fun h2 => ?_) (fun h2 => ?_)
  ·refine ac_then' (b := (i : Int) == ((s).size : Int)) h2 rfl (aQ (aL (aM 112 (.slice au1 (m + 1) cu1) rfl rfl (aA 2 (.slice au1 (m + 1) cu1) rfl rfl (aA 3 (.complex .f64 ((⟨0, 0⟩ : Cx)).re ((⟨0, 0⟩ : Cx)).im) rfl rfl (aA 4 (.int .i64 0) rfl rfl (aN (ac_ret ?_))))))))
   simp only [lexFeed, h1, h2, cond_true, cond_false] at hq
   exact fing_ret (N := Nu1) (tokPost_row hq (by simp [hm]) (by omega) (by rw [hxs]; simp [flatT, Tok.cells]) Ru1) (List.Sublist.cons _ (List.Sublist.refl _)) (rowFree Ru1) (res_ttt rfl rfl rfl rfl)
  ·refine ac_else' (b := (i : Int) == ((s).size : Int)) h2 rfl (ac_skip (aQ (aL (aM 113 (.int .i64 (i : Int)) rfl rfl (aB 114 (.int .i64 (w64 ((i : Int) + 1))) rfl rfl rfl (bi_add rfl) (aA 6 (.int .i64 (w64 ((i : Int) + 1))) rfl rfl (aN (aQ (aL (aM 115 (.int .i64 line) rfl rfl (aB 116 (.int .i64 (w64 (line + 1))) rfl rfl rfl (bi_add rfl) (aM 117 (.int .i64 (w64 ((i : Int) + 1))) rfl rfl (aA 8 (.int .i64 (w64 (line + 1))) rfl rfl (aA 9 (.int .i64 (w64 ((i : Int) + 1))) rfl rfl (aA 10 (.bool false) rfl rfl (aN ?_))))))))))))))))
   refine ac_goto ?_
   simp only [lexFeed, h1, h2, cond_true, cond_false] at hq
   exact lexj0 (i := (i + 1)) (n := n) (lexSt_more hm hxs (by have := hmi; omega) (ne_lt hil h2) (by rfl) Ru1) (List.Sublist.cons _ (List.Sublist.refl _)) rfl rfl (w64_succ hs4 hil) rfl (w64_succ hs4 hil) rfl (by have := hil; have := (ne_lt hil h2); omega) (by have := hil; have := (ne_lt hil h2); omega) hq
 ·refine ac_else' (b := any_) h1 rfl (ac_skip (aQ (aQ (aL (aM 108 (.int .i64 (i : Int)) rfl rfl (aM 109 (.string s) rfl rfl (ao 110 rfl rfl (st_slen (s := s) rfl Tryd.underlying9 rfl (aB 111 (.bool ((i : Int) == ((s).size : Int))) rfl rfl rfl (bi_eql rfl) (aN ?_))))))))))
  refine bool_split ((i : Int) == ((s).size : Int)) (fun h2 => ?_) (fun h2 => ?_)
  ·refine ac_then' (b := (i : Int) == ((s).size : Int)) h2 rfl (aQ (aL (aM 112 (.slice aa m ca) rfl rfl (aA 2 (.slice aa m ca) rfl rfl (aA 3 (.complex .f64 ((⟨0, 0⟩ : Cx)).re ((⟨0, 0⟩ : Cx)).im) rfl rfl (aA 4 (.int .i64 0) rfl rfl (aN (ac_ret ?_))))))))
   simp only [lexFeed, h1, h2, cond_true, cond_false] at hq
   exact fing_ret (N := NA) (tokPost_row hq hm (by omega) hxs hR) (List.Sublist.refl _) (rowFree hR) (res_ttt rfl rfl rfl rfl)
  ·refine ac_else' (b := (i : Int) == ((s).size : Int)) h2 rfl (ac_skip (aQ (aL (aM 113 (.int .i64 (i : Int)) rfl rfl (aB 114 (.int .i64 (w64 ((i : Int) + 1))) rfl rfl rfl (bi_add rfl) (aA 6 (.int .i64 (w64 ((i : Int) + 1))) rfl rfl (aN (aQ (aL (aM 115 (.int .i64 line) rfl rfl (aB 116 (.int .i64 (w64 (line + 1))) rfl rfl rfl (bi_add rfl) (aM 117 (.int .i64 (w64 ((i : Int) + 1))) rfl rfl (aA 8 (.int .i64 (w64 (line + 1))) rfl rfl (aA 9 (.int .i64 (w64 ((i : Int) + 1))) rfl rfl (aA 10 (.bool false) rfl rfl (aN ?_))))))))))))))))
   refine ac_goto ?_
   simp only [lexFeed, h1, h2, cond_true, cond_false] at hq
   exact lexj0 (i := (i + 1)) (n := n) (lexSt_same hSt0 (by omega) (ne_lt hil h2)) (List.Sublist.refl _) rfl rfl (w64_succ hs4 hil) rfl (w64_succ hs4 hil) rfl (by have := hil; have := (ne_lt hil h2); omega) (by have := hil; have := (ne_lt hil h2); omega) hq
set_option maxRecDepth 100000 in
set_option maxHeartbeats 4000000 in
theorem seg2 (s : ByteArray) (hs4 : s.size ≤ 4000) (R : LRes) (K i m ca n : Nat) (line start : Int) (any_ : Bool) (out : List Tok) (aa : Option Addr) (NA : List Box) (xs : List Value) (hSt : LexSt s out i m ca aa xs NA) (here : Cx) (hk : K = 2 * (s.size - i)) (hn : s.size - i ≤ n) (hi : i < s.size) (hq : lexRun s n (runTo lexNoLine s (s.size - (i + 1)) (i + 1)) line start any_ out = R) {E : Env} {H : List Box} {rest : Code} (hc : ((Tryd.f9.body.bind scopeOf).bind fun c => findLabel c 2) = some (.seq .skip rest)) (hsub : List.Sublist NA H) (q0 : E 0 = .string s) (q5 : E 5 = .slice aa m ca) (q6 : E 6 = .int .i64 (i : Int)) (q8 : E 8 = .int .i64 line) (q9 : E 9 = .int .i64 start) (q10 : E 10 = .bool any_) (q12 : E 12 = .complex .f64 (here).re (here).im) : AC Tryd.prog 118 rest (AJ (fun l' E' H' => ∃ k', k' < K ∧ LexJ s R l' k' E' H') (FinG Tryd.prog Tryd.f9 118 (TokPost R))) E H := by
 rw [show ((Tryd.f9.body.bind scopeOf).bind fun c => findLabel c 2) = some (.seq .skip _) from rfl] at hc
 cases hc
 refine ac_drop hsub ?_
 have hSt0 := hSt
 obtain ⟨hm, hxs, hmi, hil, hR⟩ := hSt
 obtain ⟨E0, rfl⟩ : ∃ E0 : Env, E = (((((((E0.put (some 0) (.string s)).put (some 5) (.slice aa m ca)).put (some 6) (.int .i64 (i : Int))).put (some 8) (.int .i64 line)).put (some 9) (.int .i64 start)).put (some 10) (.bool any_)).put (some 12) (.complex .f64 (here).re (here).im)) := ⟨E, by rw [put_self q0, put_self q5, put_self q6, put_self q8, put_self q9, put_self q10, put_self q12]⟩
 refine aQ (aL (aM 57 (.string s) rfl rfl (aM 58 (.int .i64 (i : Int)) rfl rfl (aC 59 (c_runL s i (by omega) hi) Tryd.func29 ⟨rfl, by decide⟩ rfl rfl (aA 6 (.int .i64 ((runTo lexNoLine s (s.size - (i + 1)) (i + 1) : Nat) : Int)) rfl rfl (aN (aQ ?_)))))))
 refine ac_goto ?_
 exact lexj0 (i := (runTo lexNoLine s (s.size - (i + 1)) (i + 1))) (n := n) (lexSt_same hSt0 (by have := run_ge1 lexNoLine s i; omega) (run_le1 lexNoLine hi)) (List.Sublist.refl _) rfl rfl rfl rfl rfl rfl (by have := run_ge1 lexNoLine s i; omega) (by have := run_ge1 lexNoLine s i; omega) hq
set_option maxRecDepth 100000 in
set_option maxHeartbeats 4000000 in
theorem seg3 (s : ByteArray) (hs4 : s.size ≤ 4000) (R : LRes) (K i m ca n : Nat) (line start : Int) (any_ : Bool) (out : List Tok) (aa : Option Addr) (NA : List Box) (xs : List Value) (hSt : LexSt s out i m ca aa xs NA) (here : Cx) (hk : K = 2 * (s.size - i)) (hn : s.size - i ≤ n) (hi : i < s.size) (hq : lexWord (lexRun s n) s i line start out here = R) {E : Env} {H : List Box} {rest : Code} (hc : ((Tryd.f9.body.bind scopeOf).bind fun c => findLabel c 3) = some (.seq .skip rest)) (hsub : List.Sublist NA H) (q0 : E 0 = .string s) (q5 : E 5 = .slice aa m ca) (q6 : E 6 = .int .i64 (i : Int)) (q8 : E 8 = .int .i64 line) (q9 : E 9 = .int .i64 start) (q10 : E 10 = .bool any_) (q12 : E 12 = .complex .f64 (here).re (here).im) : AC Tryd.prog 118 rest (AJ (fun l' E' H' => ∃ k', k' < K ∧ LexJ s R l' k' E' H') (FinG Tryd.prog Tryd.f9 118 (TokPost R))) E H := by
 rw [show ((Tryd.f9.body.bind scopeOf).bind fun c => findLabel c 3) = some (.seq .skip _) from rfl] at hc
 cases hc
 refine ac_drop hsub ?_
 have hSt0 := hSt
 obtain ⟨hm, hxs, hmi, hil, hR⟩ := hSt
 obtain ⟨E0, rfl⟩ : ∃ E0 : Env, E = (((((((E0.put (some 0) (.string s)).put (some 5) (.slice aa m ca)).put (some 6) (.int .i64 (i : Int))).put (some 8) (.int .i64 line)).put (some 9) (.int .i64 start)).put (some 10) (.bool any_)).put (some 12) (.complex .f64 (here).re (here).im)) := ⟨E, by rw [put_self q0, put_self q5, put_self q6, put_self q8, put_self q9, put_self q10, put_self q12]⟩
 refine aQ (aL (aM 60 (.string s) rfl rfl (aM 61 (.int .i64 (i : Int)) rfl rfl (aC 62 (c_runW s i (by omega) hi) Tryd.func29 ⟨rfl, by decide⟩ rfl rfl (aA 7 (.int .i64 ((runTo lexInWord s (s.size - (i + 1)) (i + 1) : Nat) : Int)) rfl rfl (aN (aQ (aQ (aL (aM 63 (.int .i64 ((runTo lexInWord s (s.size - (i + 1)) (i + 1) : Nat) : Int)) rfl rfl (aM 64 (.int .i64 (i : Int)) rfl rfl (aB 65 (.int .i64 (w64 (((runTo lexInWord s (s.size - (i + 1)) (i + 1) : Nat) : Int) - (i : Int)))) rfl rfl rfl (bi_sub rfl) (aB 66 (.bool (decide ((w64 (((runTo lexInWord s (s.size - (i + 1)) (i + 1) : Nat) : Int) - (i : Int))) > 20))) rfl rfl rfl (bi_gtr rfl) (aN ?_))))))))))))))
 refine bool_split (decide ((w64 (((runTo lexInWord s (s.size - (i + 1)) (i + 1) : Nat) : Int) - (i : Int))) > 20)) (fun h1 => ?_) (fun h1 => ?_)
 ·refine ac_then' (b := decide ((w64 (((runTo lexInWord s (s.size - (i + 1)) (i + 1) : Nat) : Int) - (i : Int))) > 20)) h1 rfl (aQ (aL (aM 67 (.complex .f64 (here).re (here).im) rfl rfl (aA 2 (.slice none 0 0) rfl rfl (aA 3 (.complex .f64 (here).re (here).im) rfl rfl (aA 4 (.int .i64 3) rfl rfl (aN (ac_ret ?_))))))))
  simp only [lexWord, h1, cond_true, cond_false] at hq
  exact fing_ret (N := []) (tokPost_nil hq) (List.nil_sublist _) rfl (res_ttt rfl rfl rfl rfl)
 ·refine ac_else' (b := decide ((w64 (((runTo lexInWord s (s.size - (i + 1)) (i + 1) : Nat) : Int) - (i : Int))) > 20)) h1 rfl (ac_skip (aQ (aL (aM 68 (.slice aa m ca) rfl rfl (aM 69 (.string s) rfl rfl (aM 70 (.int .i64 (i : Int)) rfl rfl (aM 71 (.int .i64 ((runTo lexInWord s (s.size - (i + 1)) (i + 1) : Nat) : Int)) rfl rfl (ao 72 rfl rfl (st_ss (run_bd lexInWord hi) rfl Tryd.underlying9 rfl rfl rfl (aM 73 (.complex .f64 (here).re (here).im) rfl rfl ?_))))))))))
  refine ao 74 rfl rfl (st_bd (us := [(0, .int .i64 1), (1, .string (subS s (i : Int) ((runTo lexInWord s (s.size - (i + 1)) (i + 1) : Nat) : Int))), (2, .complex .f64 (here).re (here).im)]) (v := .agg #[.int .i64 1, .string (subS s (i : Int) ((runTo lexInWord s (s.size - (i + 1)) (i + 1) : Nat) : Int)), .complex .f64 (here).re (here).im]) rfl rfl (bd32_0_1_2 _ _ _) ?_)
  refine ao 75 rfl rfl (st_bs (us := [(0, .agg #[.int .i64 1, .string (subS s (i : Int) ((runTo lexInWord s (s.size - (i + 1)) (i + 1) : Nat) : Int)), .complex .f64 (here).re (here).im])]) (cs := [.int .i64 1, .string (subS s (i : Int) ((runTo lexInWord s (s.size - (i + 1)) (i + 1) : Nat) : Int)), .complex .f64 (here).re (here).im]) rfl rfl (bs22_1_0a _ _ _) fun g0 => ?_)
  refine ao 76 rfl rfl (st_appZ (A := [⟨g0, [.int .i64 1, .string (subS s (i : Int) ((runTo lexInWord s (s.size - (i + 1)) (i + 1) : Nat) : Int)), .complex .f64 (here).re (here).im], 32, false⟩]) (N := NA) (xs := xs) (news := [.int .i64 1, .string (subS s (i : Int) ((runTo lexInWord s (s.size - (i + 1)) (i + 1) : Nat) : Int)), .complex .f64 (here).re (here).im]) (r := []) slT22 rfl rfl rfl hR rfl (List.mem_of_getElem? (i := 0) rfl) rfl rfl rfl rfl (by decide) (by simp only [maxLen]; omega) (by omega) (fun v H H' hp h => ar_perm hp h) fun v9 Nu1 Ru1 => ?_)
  obtain ⟨au1, cu1, rfl⟩ := Ru1.form
  refine aA 5 (.slice au1 (m + 1) cu1) rfl rfl (aN (aQ (aL (aM 77 (.int .i64 ((runTo lexInWord s (s.size - (i + 1)) (i + 1) : Nat) : Int)) rfl rfl (aA 6 (.int .i64 ((runTo lexInWord s (s.size - (i + 1)) (i + 1) : Nat) : Int)) rfl rfl (aA 10 (.bool true) rfl rfl (aN (aQ ?_))))))))
  refine ac_goto ?_
  simp only [lexWord, h1, cond_true, cond_false] at hq
  exact lexj0 (i := (runTo lexInWord s (s.size - (i + 1)) (i + 1))) (n := n) (lexSt_more hm hxs (by have := run_ge1 lexInWord s i; omega) (run_le1 lexInWord hi) (by rfl) Ru1) (List.Sublist.cons _ (List.Sublist.refl _)) rfl rfl rfl rfl rfl rfl (by have := run_ge1 lexInWord s i; omega) (by have := run_ge1 lexInWord s i; omega) hq
set_option maxRecDepth 100000 in
set_option maxHeartbeats 4000000 in
theorem seg4 (s : ByteArray) (hs4 : s.size ≤ 4000) (R : LRes) (K i m ca n : Nat) (line start : Int) (any_ : Bool) (out : List Tok) (aa : Option Addr) (NA : List Box) (xs : List Value) (hSt : LexSt s out i m ca aa xs NA) (here : Cx) (hk : K = 2 * (s.size - i)) (hn : s.size - i ≤ n) (hi : i < s.size) (hq : lexNum (lexRun s n) s i line start out here = R) {E : Env} {H : List Box} {rest : Code} (hc : ((Tryd.f9.body.bind scopeOf).bind fun c => findLabel c 4) = some (.seq .skip rest)) (hsub : List.Sublist NA H) (q0 : E 0 = .string s) (q5 : E 5 = .slice aa m ca) (q6 : E 6 = .int .i64 (i : Int)) (q8 : E 8 = .int .i64 line) (q9 : E 9 = .int .i64 start) (q10 : E 10 = .bool any_) (q12 : E 12 = .complex .f64 (here).re (here).im) : AC Tryd.prog 118 rest (AJ (fun l' E' H' => ∃ k', k' < K ∧ LexJ s R l' k' E' H') (FinG Tryd.prog Tryd.f9 118 (TokPost R))) E H := by
 rw [show ((Tryd.f9.body.bind scopeOf).bind fun c => findLabel c 4) = some (.seq .skip _) from rfl] at hc
 cases hc
 refine ac_drop hsub ?_
 have hSt0 := hSt
 obtain ⟨hm, hxs, hmi, hil, hR⟩ := hSt
 obtain ⟨E0, rfl⟩ : ∃ E0 : Env, E = (((((((E0.put (some 0) (.string s)).put (some 5) (.slice aa m ca)).put (some 6) (.int .i64 (i : Int))).put (some 8) (.int .i64 line)).put (some 9) (.int .i64 start)).put (some 10) (.bool any_)).put (some 12) (.complex .f64 (here).re (here).im)) := ⟨E, by rw [put_self q0, put_self q5, put_self q6, put_self q8, put_self q9, put_self q10, put_self q12]⟩
 refine aQ (aL (aM 78 (.string s) rfl rfl (aM 79 (.int .i64 (i : Int)) rfl rfl (aC 80 (c_runN s i (by omega) hi) Tryd.func29 ⟨rfl, by decide⟩ rfl rfl (aA 7 (.int .i64 ((runTo lexInNum s (s.size - (i + 1)) (i + 1) : Nat) : Int)) rfl rfl (aN (aQ (aQ (aL (aM 82 (.string s) rfl rfl (aM 83 (.int .i64 (i : Int)) rfl rfl (aM 84 (.int .i64 ((runTo lexInNum s (s.size - (i + 1)) (i + 1) : Nat) : Int)) rfl rfl (ao 85 rfl rfl (st_ss (run_bd lexInNum hi) rfl Tryd.underlying9 rfl rfl rfl (aC 86 (c_decRead (subS s (i : Int) ((runTo lexInNum s (s.size - (i + 1)) (i + 1) : Nat) : Int)) (Nat.le_trans (subS_le _ _ _ hs4) (by decide))) Tryd.func17 ⟨rfl, by decide⟩ rfl rfl ?_)))))))))))))))
 refine aM 81 (.tuple #[.agg #[.int .i64 (((decRead (subS s (i : Int) ((runTo lexInNum s (s.size - (i + 1)) (i + 1) : Nat) : Int))).1).c), .int .i64 (((decRead (subS s (i : Int) ((runTo lexInNum s (s.size - (i + 1)) (i + 1) : Nat) : Int))).1).scale)], .bool ((decRead (subS s (i : Int) ((runTo lexInNum s (s.size - (i + 1)) (i + 1) : Nat) : Int))).2)]) rfl rfl (aX 87 (.agg #[.int .i64 (((decRead (subS s (i : Int) ((runTo lexInNum s (s.size - (i + 1)) (i + 1) : Nat) : Int))).1).c), .int .i64 (((decRead (subS s (i : Int) ((runTo lexInNum s (s.size - (i + 1)) (i + 1) : Nat) : Int))).1).scale)]) rfl rfl rfl ?_)
 refine aX 88 (.bool ((decRead (subS s (i : Int) ((runTo lexInNum s (s.size - (i + 1)) (i + 1) : Nat) : Int))).2)) rfl rfl rfl (ao 13 rfl rfl (st_new zero52 rfl fun g0 => (aS [.int .i64 (((decRead (subS s (i : Int) ((runTo lexInNum s (s.size - (i + 1)) (i + 1) : Nat) : Int))).1).c), .int .i64 (((decRead (subS s (i : Int) ((runTo lexInNum s (s.size - (i + 1)) (i + 1) : Nat) : Int))).1).scale)] agg52 0 rfl rfl rfl rfl rfl rfl (aA 14 (.bool ((decRead (subS s (i : Int) ((runTo lexInNum s (s.size - (i + 1)) (i + 1) : Nat) : Int))).2)) rfl rfl (aN (aQ (aL (aM 89 (.bool ((decRead (subS s (i : Int) ((runTo lexInNum s (s.size - (i + 1)) (i + 1) : Nat) : Int))).2)) rfl rfl ?_))))))))
 refine ao 90 rfl rfl (st_un (v := .bool (!((decRead (subS s (i : Int) ((runTo lexInNum s (s.size - (i + 1)) (i + 1) : Nat) : Int))).2))) rfl rfl (un_not rfl) (aN ?_))
 refine bool_split ((decRead (subS s (i : Int) ((runTo lexInNum s (s.size - (i + 1)) (i + 1) : Nat) : Int))).2) (fun h1 => ?_) (fun h1 => ?_)
 ·refine ac_else' (b := !((decRead (subS s (i : Int) ((runTo lexInNum s (s.size - (i + 1)) (i + 1) : Nat) : Int))).2)) (by rw [h1]; rfl) rfl (ac_skip (aQ (aL (aM 92 (.slice aa m ca) rfl rfl (aM 93 (.string s) rfl rfl (aM 94 (.int .i64 (i : Int)) rfl rfl (aM 95 (.int .i64 ((runTo lexInNum s (s.size - (i + 1)) (i + 1) : Nat) : Int)) rfl rfl (ao 96 rfl rfl (st_ss (run_bd lexInNum hi) rfl Tryd.underlying9 rfl rfl rfl (aM 97 (.complex .f64 (here).re (here).im) rfl rfl ?_))))))))))
  refine ao 98 rfl rfl (st_bd (us := [(0, .int .i64 2), (1, .string (subS s (i : Int) ((runTo lexInNum s (s.size - (i + 1)) (i + 1) : Nat) : Int))), (2, .complex .f64 (here).re (here).im)]) (v := .agg #[.int .i64 2, .string (subS s (i : Int) ((runTo lexInNum s (s.size - (i + 1)) (i + 1) : Nat) : Int)), .complex .f64 (here).re (here).im]) rfl rfl (bd32_0_1_2 _ _ _) ?_)
  refine ao 99 rfl rfl (st_bs (us := [(0, .agg #[.int .i64 2, .string (subS s (i : Int) ((runTo lexInNum s (s.size - (i + 1)) (i + 1) : Nat) : Int)), .complex .f64 (here).re (here).im])]) (cs := [.int .i64 2, .string (subS s (i : Int) ((runTo lexInNum s (s.size - (i + 1)) (i + 1) : Nat) : Int)), .complex .f64 (here).re (here).im]) rfl rfl (bs22_1_0a _ _ _) fun g1 => ?_)
  refine ao 100 rfl rfl (st_appZ (A := [⟨g1, [.int .i64 2, .string (subS s (i : Int) ((runTo lexInNum s (s.size - (i + 1)) (i + 1) : Nat) : Int)), .complex .f64 (here).re (here).im], 32, false⟩, ⟨g0, [.int .i64 (((decRead (subS s (i : Int) ((runTo lexInNum s (s.size - (i + 1)) (i + 1) : Nat) : Int))).1).c), .int .i64 (((decRead (subS s (i : Int) ((runTo lexInNum s (s.size - (i + 1)) (i + 1) : Nat) : Int))).1).scale)], 52, false⟩]) (N := NA) (xs := xs) (news := [.int .i64 2, .string (subS s (i : Int) ((runTo lexInNum s (s.size - (i + 1)) (i + 1) : Nat) : Int)), .complex .f64 (here).re (here).im]) (r := []) slT22 rfl rfl rfl hR rfl (List.mem_of_getElem? (i := 0) rfl) rfl rfl rfl rfl (by decide) (by simp only [maxLen]; omega) (by omega) (fun v H H' hp h => ar_perm hp h) fun v9 Nu1 Ru1 => ?_)
  obtain ⟨au1, cu1, rfl⟩ := Ru1.form
  refine aA 5 (.slice au1 (m + 1) cu1) rfl rfl (aN (aQ (aL (aM 101 (.int .i64 ((runTo lexInNum s (s.size - (i + 1)) (i + 1) : Nat) : Int)) rfl rfl (aA 6 (.int .i64 ((runTo lexInNum s (s.size - (i + 1)) (i + 1) : Nat) : Int)) rfl rfl (aA 10 (.bool true) rfl rfl (aN (aQ ?_))))))))
  refine ac_goto ?_
  simp only [lexNum, h1, cond_true, cond_false] at hq
  exact lexj0 (i := (runTo lexInNum s (s.size - (i + 1)) (i + 1))) (n := n) (lexSt_more hm hxs (by have := run_ge1 lexInNum s i; omega) (run_le1 lexInNum hi) (by rfl) Ru1) (List.Sublist.cons _ (List.Sublist.cons _ (List.Sublist.refl _))) rfl rfl rfl rfl rfl rfl (by have := run_ge1 lexInNum s i; omega) (by have := run_ge1 lexInNum s i; omega) hq
 ·refine ac_then' (b := !((decRead (subS s (i : Int) ((runTo lexInNum s (s.size - (i + 1)) (i + 1) : Nat) : Int))).2)) (by rw [h1]; rfl) rfl (aQ (aL (aM 91 (.complex .f64 (here).re (here).im) rfl rfl (aA 2 (.slice none 0 0) rfl rfl (aA 3 (.complex .f64 (here).re (here).im) rfl rfl (aA 4 (.int .i64 2) rfl rfl (aN (ac_ret ?_))))))))
  simp only [lexNum, h1, cond_true, cond_false] at hq
  exact fing_ret (N := []) (tokPost_nil hq) (List.nil_sublist _) rfl (res_ttt rfl rfl rfl rfl)
theorem tok_pass (s : ByteArray) (hs4 : s.size ≤ 4000) (R : LRes) {c : Code} (hc : Tryd.f9.body.bind scopeOf = some c) (l k : Nat) (E : Env) (H : List Box) (h : LexJ s R l k E H) : ∃ rest, findLabel c l = some rest ∧ AC Tryd.prog 118 rest (AJ (fun l' E' H' => ∃ k', k' < k ∧ LexJ s R l' k' E' H') (FinG Tryd.prog Tryd.f9 118 (TokPost R))) E H := by
 have key : ∀ rest, (((Tryd.f9.body.bind scopeOf).bind fun c => findLabel c l) = some rest) → findLabel c l = some rest := by
  intro rest hr
  rw [hc] at hr
  exact hr
 obtain ⟨i, m, ca, n, line, start, any_, here, out, aa, NA, xs, hSt, hsub, q0, q5, q6, q8, q9, q10, h⟩ := h
 rcases h with ⟨rfl, hk, hn, hR⟩ | ⟨q12, hk, hn, ⟨rfl, hR⟩ | ⟨hi, ⟨rfl, hR⟩ | ⟨rfl, hR⟩ | ⟨rfl, hR⟩⟩⟩
 ·obtain ⟨n, rfl⟩ : ∃ n', n = n' + 1 := ⟨n - 1, by omega⟩
  exact ⟨_, key _ rfl, ac_seq (ac_skip (seg0 s hs4 R k i m ca n line start any_ out aa NA xs hSt hk (by omega) hR rfl hsub q0 q5 q6 q8 q9 q10))⟩
 ·exact ⟨_, key _ rfl, ac_seq (ac_skip (seg1 s hs4 R k i m ca n line start any_ out aa NA xs hSt here hk hn hR rfl hsub q0 q5 q6 q8 q9 q10 q12))⟩
 ·exact ⟨_, key _ rfl, ac_seq (ac_skip (seg2 s hs4 R k i m ca n line start any_ out aa NA xs hSt here hk hn hi hR rfl hsub q0 q5 q6 q8 q9 q10 q12))⟩
 ·exact ⟨_, key _ rfl, ac_seq (ac_skip (seg3 s hs4 R k i m ca n line start any_ out aa NA xs hSt here hk hn hi hR rfl hsub q0 q5 q6 q8 q9 q10 q12))⟩
 ·exact ⟨_, key _ rfl, ac_seq (ac_skip (seg4 s hs4 R k i m ca n line start any_ out aa NA xs hSt here hk hn hi hR rfl hsub q0 q5 q6 q8 q9 q10 q12))⟩
set_option maxRecDepth 100000 in
theorem c_tokBig (s : ByteArray) (hs : 4000 < s.size) : Gives Tryd.prog 9 #[.string s] [] (TokPost (lexAll s)) := by
 refine gives_fin Tryd.func9 rfl rfl rfl rfl (aQ (aL (aA 2 (.slice none 0 0) rfl rfl (aA 3 (.complex .f64 ((⟨0, 0⟩ : Cx)).re ((⟨0, 0⟩ : Cx)).im) rfl rfl (aA 4 (.int .i64 0) rfl rfl (aN ?_))))))
 refine ac_scope (fun l k E H => False) ?_ ?_
 rotate_left
 ·intro l k E H h; exact h.elim
 refine aQ (aL (aA 5 (.slice none 0 0) rfl rfl (aN (aQ (aL (aA 6 (.int .i64 0) rfl rfl (aA 7 (.int .i64 0) rfl rfl (aN (aQ (aL (aA 8 (.int .i64 1) rfl rfl (aA 9 (.int .i64 0) rfl rfl (aN (aQ (aL (aA 10 (.bool false) rfl rfl (aN (aQ (aL (aA 11 (.int .u8 0) rfl rfl (aN (aQ (aL (aA 12 (.complex .f64 ((⟨0, 0⟩ : Cx)).re ((⟨0, 0⟩ : Cx)).im) rfl rfl (aN (aQ (aQ (aL (aM 15 (.string s) rfl rfl (ao 16 rfl rfl (st_slen (s := s) rfl Tryd.underlying9 rfl (aB 17 (.bool (decide (((s).size : Int) > 4000))) rfl rfl rfl (bi_gtr rfl) (aN (ac_then' (b := decide (((s).size : Int) > 4000)) (decide_eq_true (by omega)) rfl (aQ (aL (aA 2 (.slice none 0 0) rfl rfl ?_)))))))))))))))))))))))))))))))))))))
 refine aA 3 (.complex .f64 ((⟨0, 0⟩ : Cx)).re ((⟨0, 0⟩ : Cx)).im) rfl rfl (aA 4 (.int .i64 3) rfl rfl (aN (ac_ret ?_)))
 exact fing_ret (N := []) (tokPost_nil (by rw [lexAll, decide_eq_true (by omega)]; rfl)) (List.nil_sublist _) rfl (res_ttt rfl rfl rfl rfl)
set_option maxRecDepth 100000 in
theorem c_tokFit (s : ByteArray) (hs : s.size ≤ 4000) : Gives Tryd.prog 9 #[.string s] [] (TokPost (lexAll s)) := by
 refine gives_fin Tryd.func9 rfl rfl rfl rfl (aQ (aL (aA 2 (.slice none 0 0) rfl rfl (aA 3 (.complex .f64 ((⟨0, 0⟩ : Cx)).re ((⟨0, 0⟩ : Cx)).im) rfl rfl (aA 4 (.int .i64 0) rfl rfl (aN ?_))))))
 refine ac_scope (fun l k E H => LexJ s (lexAll s) l k E H) ?_ ?_
 rotate_left
 ·intro l k E H h; exact tok_pass s (by omega) (lexAll s) rfl l k E H h
 refine aQ (aL (aA 5 (.slice none 0 0) rfl rfl (aN (aQ (aL (aA 6 (.int .i64 0) rfl rfl (aA 7 (.int .i64 0) rfl rfl (aN (aQ (aL (aA 8 (.int .i64 1) rfl rfl (aA 9 (.int .i64 0) rfl rfl (aN (aQ (aL (aA 10 (.bool false) rfl rfl (aN (aQ (aL (aA 11 (.int .u8 0) rfl rfl (aN (aQ (aL (aA 12 (.complex .f64 ((⟨0, 0⟩ : Cx)).re ((⟨0, 0⟩ : Cx)).im) rfl rfl (aN (aQ (aQ (aL (aM 15 (.string s) rfl rfl (ao 16 rfl rfl (st_slen (s := s) rfl Tryd.underlying9 rfl (aB 17 (.bool (decide (((s).size : Int) > 4000))) rfl rfl rfl (bi_gtr rfl) (aN (ac_else' (b := decide (((s).size : Int) > 4000)) (decide_eq_false (by omega)) rfl (ac_skip (aQ ?_))))))))))))))))))))))))))))))))))))
 refine ac_label ?_
 exact AC.mono (seg0 s (by omega) (lexAll s) (2 * (s.size - 0) + 1) 0 0 0 s.size 1 0 false [] none [] [] ⟨rfl, rfl, Nat.le_refl _, Nat.zero_le _, Row.nil _ _⟩ rfl (by omega) (by rw [lexAll, decide_eq_false (by omega)]; rfl) rfl (List.Sublist.refl _) rfl rfl rfl rfl rfl rfl) aj_weak
theorem c_tokens (s : ByteArray) : Gives Tryd.prog 9 #[.string s] [] (TokPost (lexAll s)) := by
 by_cases h : s.size ≤ 4000
 ·exact c_tokFit s h
 ·exact c_tokBig s (by omega)
end Go.Proofs.YtalffjplbhelcaaDoor
namespace Go.Proofs.YtalffjplbhelcaaDoor
section
variable {s : ByteArray} {n i : Nat} {line start : Int} {any_ : Bool} {out : List Tok}
theorem i_ne {s : ByteArray} {i : Nat} (h : i < s.size) : ((i : Int) == ((s).size : Int)) = false := by
  rw [beq_eq_false_iff_ne]; omega
end
end Go.Proofs.YtalffjplbhelcaaDoor
namespace Go.Proofs.YtalffjplbhelcaaDoor
def rowsF (s : ByteArray) : Nat → Nat → Nat → List (Nat × Nat)
  | 0, _, _ => []
  | n + 1, i, f => bif (i : Int) == ((s).size : Int) then [(f, i)] else bif (sAt s i) == 10 then (f, i) :: rowsF s n (i + 1) (i + 1) else rowsF s n (i + 1) f
def rowsA (s : ByteArray) : List (Nat × Nat) := rowsF s (s.size + 1) 0 0
theorem rows_hd {s : ByteArray} : ∀ (n k f : Nat), k ≤ s.size → n = s.size + 1 - k → ∃ e l, rowsF s n k f = (f, e) :: l ∧ k ≤ e ∧ e ≤ s.size
  | 0, k, f, hk, hn => by omega
  | n + 1, k, f, hk, hn => by
    rw [rowsF]
    by_cases he : k = s.size
    · rw [show ((k : Int) == ((s).size : Int)) = true from beq_iff_eq.2 (by omega)]
      exact ⟨k, [], rfl, Nat.le_refl _, hk⟩
    · rw [show ((k : Int) == ((s).size : Int)) = false from beq_eq_false_iff_ne.2 (by omega), cond_false]
      cases (sAt s k) == 10
      · obtain ⟨e, l, h1, h2, h3⟩ := rows_hd (s := s) n (k + 1) f (by omega) (by omega)
        exact ⟨e, l, h1, by omega, h3⟩
      · exact ⟨k, _, rfl, Nat.le_refl _, hk⟩
theorem rows_len {s : ByteArray} : ∀ (n k f : Nat), (rowsF s n k f).length ≤ n
  | 0, k, f => Nat.le_refl _
  | n + 1, k, f => by
    rw [rowsF]
    cases (k : Int) == ((s).size : Int)
    · rw [cond_false]
      cases (sAt s k) == 10
      · exact Nat.le_succ_of_le (rows_len n _ _)
      · exact Nat.succ_le_succ (rows_len n _ _)
    · exact Nat.succ_le_succ (Nat.zero_le _)
theorem rows_on {s : ByteArray} : ∀ (k i n f : Nat), i + k ≤ s.size → n = s.size + 1 - i → (∀ j, i ≤ j → j < i + k → ¬ sAt s j = 10) → rowsF s n i f = rowsF s (s.size + 1 - (i + k)) (i + k) f
  | 0, i, n, f, _, hn, _ => by rw [hn]; rfl
  | k + 1, i, n, f, hk, hn, hj => by
    obtain ⟨m, rfl⟩ : ∃ m, n = m + 1 := ⟨n - 1, by omega⟩
    rw [rowsF, show ((i : Int) == ((s).size : Int)) = false from beq_eq_false_iff_ne.2 (by omega), show ((sAt s i) == 10) = false from beq_eq_false_iff_ne.2 (hj i (Nat.le_refl _) (by omega)), cond_false, cond_false, rows_on k (i + 1) m f (by omega) (by omega) (fun j h1 h2 => hj j (by omega) (by omega))]
    rw [show i + 1 + k = i + (k + 1) by omega]
structure Stp (s : ByteArray) (t : Tok) (L C : Nat) (e : Bool) (l c : Nat) : Prop where
  at_ : t.at_ = place ((l + 1 : Nat) : Int) ((c + 1 : Nat) : Int)
  big : l ≤ 4000 ∧ c ≤ 4000
  ord : (L < l + 1 ∧ e = true) ∨ (L = l + 1 ∧ C < c + 1 ∧ e = false)
  row : ∃ f g, (rowsA s)[l]? = some (f, g) ∧ f ≤ g ∧ g ≤ s.size ∧
    ((t.kind = 3 ∧ c = g - f ∧ t.text = (⟨#[]⟩ : ByteArray)) ∨ (t.kind ≠ 3 ∧ ∃ k, f + c < k ∧ k ≤ g ∧ t.text = subS s ((f + c : Nat) : Int) (k : Int)))
inductive Chn (s : ByteArray) : List Tok → Nat → Nat → Bool → Prop
  | nil : Chn s [] 0 0 true
  | more {T : List Tok} {L C : Nat} {e : Bool} {t : Tok} {l c : Nat} : Chn s T L C e → Stp s t L C e l c → Chn s (T ++ [t]) (l + 1) (c + 1) (t.kind == 3)
theorem chn_at {s : ByteArray} {T : List Tok} {L C : Nat} {e : Bool} (h : Chn s T L C e) : ∀ k (hk : k < T.length), ∃ L' C' e' l c, Chn s (T.take k) L' C' e' ∧ Stp s T[k] L' C' e' l c := by
  induction h with
  | nil => intro k hk; exact absurd hk (Nat.not_lt_zero _)
  | @more T L C e t l c h hs ih =>
    intro k hk
    rw [List.length_append, List.length_singleton] at hk
    by_cases hlt : k < T.length
    · obtain ⟨L', C', e', l', c', h1, h2⟩ := ih k hlt
      refine ⟨L', C', e', l', c', ?_, ?_⟩
      · rw [List.take_append_of_le_length (by omega)]; exact h1
      · rw [List.getElem_append_left hlt]; exact h2
    · obtain rfl : k = T.length := by omega
      refine ⟨L, C, e, l, c, ?_, ?_⟩
      · rw [List.take_left]; exact h
      · rw [List.getElem_append_right (Nat.le_refl _)]; simpa using hs
theorem chn_one {s : ByteArray} {T : List Tok} {L C L' C' : Nat} {e e' : Bool} (h : Chn s T L C e) (h' : Chn s T L' C' e') : place (L : Int) (C : Int) = place (L' : Int) (C' : Int) ∧ e = e' := by
  cases h with
  | nil =>
    generalize hT : ([] : List Tok) = T at h'
    cases h' with
    | nil => exact ⟨rfl, rfl⟩
    | more _ _ => exact absurd hT (by simp)
  | @more T L C e t l c h hs =>
    generalize hT : T ++ [t] = T2 at h'
    cases h' with
    | nil => exact absurd hT (by simp)
    | @more T' L' C' e' t' l' c' h' hs' =>
      have := List.append_inj_right' hT rfl
      obtain rfl : t = t' := by simpa using this
      exact ⟨hs.at_.symm.trans hs'.at_, rfl⟩
structure LexS (s : ByteArray) (i : Nat) (line start : Int) (any_ : Bool) (out : List Tok) (l f L C : Nat) (e : Bool) : Prop where
  line : line = ((l + 1 : Nat) : Int)
  start : start = (f : Int)
  fi : f ≤ i
  li : l ≤ f
  rows : (rowsA s).drop l = rowsF s (s.size + 1 - i) i f
  chn : Chn s out L C e
  ok : (any_ = true ∧ L = l + 1 ∧ C ≤ i - f ∧ e = false) ∨ (any_ = false ∧ L < l + 1 ∧ e = true)
theorem LexS.at {s : ByteArray} {i l f L C : Nat} {line start : Int} {any_ : Bool} {out : List Tok} {e : Bool} (h : LexS s i line start any_ out l f L C e) (hi : i ≤ s.size) : ∃ g, (rowsA s)[l]? = some (f, g) ∧ i ≤ g ∧ g ≤ s.size := by
  obtain ⟨g, m, h1, h2, h3⟩ := rows_hd (s := s) (s.size + 1 - i) i f hi rfl
  have h0 : ((rowsA s).drop l)[0]? = some (f, g) := by rw [h.rows, h1]; rfl
  rw [List.getElem?_drop] at h0
  exact ⟨g, h0, h2, h3⟩
theorem LexS.here {s : ByteArray} {i l f L C : Nat} {line start : Int} {any_ : Bool} {out : List Tok} {e : Bool} (h : LexS s i line start any_ out l f L C e) (hs : s.size ≤ 4000) (hi : i ≤ s.size) : lexHere i line start = place ((l + 1 : Nat) : Int) ((i - f + 1 : Nat) : Int) := by
  have := h.fi
  unfold lexHere
  rw [h.line, h.start, w64_in (n := (i : Int) - (f : Int)) (by omega), w64_in (by omega)]
  congr 1
  omega
theorem LexS.go {s : ByteArray} {i l f L C : Nat} {line start : Int} {any_ : Bool} {out : List Tok} {e : Bool} (h : LexS s i line start any_ out l f L C e) {k : Nat} (hik : i ≤ k) (hk : k ≤ s.size) (hn : ∀ j, i ≤ j → j < k → ¬ sAt s j = 10) : LexS s k line start any_ out l f L C e :=
  ⟨h.line, h.start, Nat.le_trans h.fi hik, h.li, by rw [h.rows, rows_on (k - i) i _ f (by omega) rfl (fun j h1 h2 => hn j h1 (by omega)), show i + (k - i) = k by omega], h.chn, h.ok.imp (fun ⟨a, b, c, d⟩ => ⟨a, b, by omega, d⟩) id⟩
theorem LexS.tok {s : ByteArray} {i l f L C : Nat} {line start : Int} {any_ : Bool} {out : List Tok} {e : Bool} (h : LexS s i line start any_ out l f L C e) (hs : s.size ≤ 4000) {k : Nat} (hik : i < k) (hk : k ≤ s.size) (hn : ∀ j, i ≤ j → j < k → ¬ sAt s j = 10) {q : Int} (hq : q ≠ 3) :
    LexS s k line start true (out ++ [(⟨q, subS s (i : Int) (k : Int), lexHere i line start⟩ : Tok)]) l f (l + 1) (i - f + 1) false := by
  have h' := h.go (Nat.le_of_lt hik) hk hn
  have hfi := h.fi
  have hli := h.li
  obtain ⟨g, hg, h2, h3⟩ := h'.at hk
  have st : Stp s (⟨q, subS s (i : Int) (k : Int), lexHere i line start⟩ : Tok) L C e l (i - f) := by
    refine ⟨h.here hs (by omega), by omega, ?_, f, g, hg, by omega, h3, .inr ⟨hq, k, by omega, h2, ?_⟩⟩
    · rcases h.ok with ⟨_, a, b, c⟩ | ⟨_, a, b⟩
      · exact .inr ⟨a, by omega, c⟩
      · exact .inl ⟨a, b⟩
    · rw [show f + (i - f) = i by omega]
  have hc := Chn.more h.chn st
  rw [show ((⟨q, subS s (i : Int) (k : Int), lexHere i line start⟩ : Tok).kind == 3) = false from beq_eq_false_iff_ne.2 hq] at hc
  exact ⟨h'.line, h'.start, h'.fi, h'.li, h'.rows, hc, .inl ⟨rfl, rfl, by omega, rfl⟩⟩
theorem LexS.fin {s : ByteArray} {i l f L C : Nat} {line start : Int} {out : List Tok} {e : Bool} (h : LexS s i line start true out l f L C e) (hs : s.size ≤ 4000) (hi : i ≤ s.size) (he : i = s.size ∨ sAt s i = 10) : Chn s (out ++ [(⟨3, ⟨#[]⟩, lexHere i line start⟩ : Tok)]) (l + 1) (i - f + 1) true := by
  have hfi := h.fi
  have hli := h.li
  have hr : rowsF s (s.size + 1 - i) i f = (f, i) :: (rowsF s (s.size + 1 - i) i f).tail := by
    obtain ⟨m, hm⟩ : ∃ m, s.size + 1 - i = m + 1 := ⟨s.size - i, by omega⟩
    rw [hm, rowsF]
    rcases he with rfl | he
    · rw [show (((s.size : Nat) : Int) == ((s).size : Int)) = true from beq_iff_eq.2 rfl]; rfl
    · rw [he]
      cases (i : Int) == ((s).size : Int) <;> rfl
  have hg : (rowsA s)[l]? = some (f, i) := by
    have h0 : ((rowsA s).drop l)[0]? = some (f, i) := by rw [h.rows, hr]; rfl
    rw [List.getElem?_drop] at h0
    exact h0
  refine Chn.more (t := (⟨3, ⟨#[]⟩, lexHere i line start⟩ : Tok)) (c := i - f) h.chn ⟨h.here hs hi, by omega, ?_, f, i, hg, hfi, hi, .inl ⟨rfl, rfl, rfl⟩⟩
  rcases h.ok with ⟨_, a, b, c⟩ | ⟨a, _⟩
  · exact .inr ⟨a, by omega, c⟩
  · cases a
theorem LexS.line' {s : ByteArray} {i l f L C L' C' : Nat} {line start : Int} {any_ : Bool} {out out' : List Tok} {e : Bool} (h : LexS s i line start any_ out l f L C e) (hs : s.size ≤ 4000) (hi : i < s.size) (he : sAt s i = 10) (hc : Chn s out' L' C' true) (hL : L' < l + 2) :
    LexS s (i + 1) (w64 (line + 1)) ((i + 1 : Nat) : Int) false out' (l + 1) (i + 1) L' C' true := by
  have hfi := h.fi
  have hli := h.li
  refine ⟨?_, rfl, Nat.le_refl _, by omega, ?_, hc, .inr ⟨rfl, hL, rfl⟩⟩
  · rw [h.line, w64_in (by omega)]; omega
  · obtain ⟨m, hm⟩ : ∃ m, s.size + 1 - i = m + 1 := ⟨s.size - i, by omega⟩
    have hr := h.rows
    rw [hm, rowsF, show ((i : Int) == ((s).size : Int)) = false from beq_eq_false_iff_ne.2 (by omega), he] at hr
    have e2 : (rowsA s).drop (l + 1) = ((rowsA s).drop l).drop 1 := by rw [List.drop_drop]
    rw [e2, hr, show s.size + 1 - (i + 1) = m by omega]
    rfl
def LexG (s : ByteArray) (R : LRes) : Prop := ∃ L C, Chn s R.1 L C true
theorem lexG_nil (s : ByteArray) (a : Cx) (e : Int) : LexG s ([], a, e) := ⟨0, 0, .nil⟩
theorem run_all (P : Int → Bool) (s : ByteArray) : ∀ n i j, i ≤ j → j < runTo P s n i → P (sAt s j) = true
  | 0, i, j, h1, h2 => by rw [runTo] at h2; omega
  | n + 1, i, j, h1, h2 => by
    rw [runTo] at h2
    cases hd : decide (i < s.size)
    · rw [hd, Bool.false_and, cond_false] at h2; omega
    · rw [hd, Bool.true_and] at h2
      cases hp : P (sAt s i)
      · rw [hp, cond_false] at h2; omega
      · rw [hp, cond_true] at h2
        by_cases hij : i = j
        · subst hij; exact hp
        · exact run_all P s n (i + 1) j (by omega) h2
theorem run_no10 {P : Int → Bool} (hP : P 10 = false) {s : ByteArray} {i : Nat} (h0 : ¬ sAt s i = 10) : ∀ j, i ≤ j → j < runTo P s (s.size - (i + 1)) (i + 1) → ¬ sAt s j = 10 := by
  intro j h1 h2 h3
  by_cases hij : i = j
  · subst hij; exact h0 h3
  · have := run_all P s _ (i + 1) j (by omega) h2
    rw [h3, hP] at this
    cases this
theorem lexG_all : ∀ (n i : Nat) (s : ByteArray) (line start : Int) (any_ : Bool) (out : List Tok) (l f L C : Nat) (e : Bool), s.size ≤ 4000 → i ≤ s.size → LexS s i line start any_ out l f L C e → LexG s (lexRun s n i line start any_ out)
  | 0, i, s, line, start, any_, out, l, f, L, C, e, _, _, _ => lexG_nil s _ _
  | n + 1, i, s, line, start, any_, out, l, f, L, C, e, hs, hi, h => by
    have feed : (i = s.size ∨ sAt s i = 10) → LexG s (lexFeed (lexRun s n) s i line any_ out (lexHere i line start)) := by
      intro he
      unfold lexFeed
      by_cases hz : (i : Int) = ((s).size : Int)
      · rw [show ((i : Int) == ((s).size : Int)) = true from beq_iff_eq.2 hz]
        cases any_
        · rcases h.ok with ⟨a, _⟩ | ⟨_, _, rfl⟩
          · cases a
          · exact ⟨L, C, h.chn⟩
        · exact ⟨_, _, h.fin hs hi he⟩
      · have hl : i < s.size := by omega
        have h10 : sAt s i = 10 := he.resolve_left (by omega)
        rw [i_ne hl]
        cases any_
        · rcases h.ok with ⟨a, _⟩ | ⟨_, a, rfl⟩
          · cases a
          · exact lexG_all n (i + 1) s _ _ _ _ _ _ _ _ _ hs hl (h.line' hs hl h10 h.chn (by omega))
        · exact lexG_all n (i + 1) s _ _ _ _ _ _ _ _ _ hs hl (h.line' hs hl h10 (h.fin hs hi he) (by omega))
    rw [lexRun, lexStep]
    by_cases he : (i : Int) = ((s).size : Int)
    · rw [show ((i : Int) == ((s).size : Int)) = true from beq_iff_eq.2 he]
      exact feed (.inl (by omega))
    · have hl : i < s.size := by omega
      have ge := fun P : Int → Bool => runTo_ge P s (s.size - (i + 1)) (i + 1)
      have le := fun P : Int → Bool => runTo_le P s (s.size - (i + 1)) (i + 1) hl
      rw [i_ne hl, cond_false]
      cases h10 : (sAt s i) == 10
      · have n10 : ¬ sAt s i = 10 := beq_eq_false_iff_ne.1 h10
        have one : LexS s (i + 1) line start any_ out l f L C e := h.go (by omega) hl (fun j h1 h2 => by rw [show j = i by omega]; exact n10)
        have hnum : LexG s (lexNum (lexRun s n) s i line start out (lexHere i line start)) := by
          unfold lexNum
          cases (decRead (subS s (i : Int) ((runTo lexInNum s (s.size - (i + 1)) (i + 1) : Nat) : Int))).2
          · exact lexG_nil s _ _
          · exact lexG_all n _ s _ _ _ _ _ _ _ _ _ hs (le lexInNum) (h.tok hs (by have := ge lexInNum; omega) (le lexInNum) (run_no10 (by decide) n10) (by decide))
        cases (sAt s i) == 32
        · cases (sAt s i) == 9
          · cases (sAt s i) == 35
            · cases lexLetter (sAt s i)
              · cases lexDigit (sAt s i)
                · cases (sAt s i) == 45
                  · exact lexG_nil s _ _
                  · exact hnum
                · exact hnum
              · show LexG s (lexWord (lexRun s n) s i line start out (lexHere i line start))
                unfold lexWord
                cases decide ((w64 (((runTo lexInWord s (s.size - (i + 1)) (i + 1) : Nat) : Int) - (i : Int))) > 20)
                · exact lexG_all n _ s _ _ _ _ _ _ _ _ _ hs (le lexInWord) (h.tok hs (by have := ge lexInWord; omega) (le lexInWord) (run_no10 (by decide) n10) (by decide))
                · exact lexG_nil s _ _
            · exact lexG_all n _ s _ _ _ _ _ _ _ _ _ hs (le lexNoLine) (h.go (by have := ge lexNoLine; omega) (le lexNoLine) (run_no10 (by decide) n10))
          · exact lexG_all n _ s _ _ _ _ _ _ _ _ _ hs hl one
        · exact lexG_all n _ s _ _ _ _ _ _ _ _ _ hs hl one
      · exact feed (.inr (beq_iff_eq.1 h10))
theorem lexAll_G (s : ByteArray) : LexG s (lexAll s) := by
  unfold lexAll
  by_cases h : ((s.size : Int) > 4000)
  · rw [decide_eq_true h]
    exact lexG_nil s _ _
  · rw [decide_eq_false h]
    exact lexG_all _ 0 s 1 0 false [] 0 0 0 0 true (by omega) (Nat.zero_le _) ⟨rfl, rfl, Nat.le_refl _, Nat.le_refl _, rfl, .nil, .inr ⟨rfl, by decide, rfl⟩⟩
end Go.Proofs.YtalffjplbhelcaaDoor
namespace Go.Proofs.YtalffjplbhelcaaDoor
def flChk (n : Nat) : Bool := match Ieee.double.read (fl (n : Int)) with
  | .number false m i => decide (i ≤ 0) && m == n <<< (-i).toNat && (match (Ieee.Datum.number false m i).toInt .zero with | some k => k == (n : Int) | none => false)
  | _ => false
theorem fl_chk : ∀ n : Nat, n ≤ 4002 → flChk n = true := by
  have h : ((List.range 4003).all flChk) = true := by decide +kernel
  intro n hn
  exact (List.all_eq_true.1 h) n (List.mem_range.2 (by omega))
theorem fl_form {n : Nat} (hn : n ≤ 4002) : (∃ k : Nat, Ieee.double.read (fl (n : Int)) = .number false (n <<< k) (-(k : Int))) ∧ (Ieee.double.read (fl (n : Int))).toInt .zero = some (n : Int) := by
  have h := fl_chk n hn
  unfold flChk at h
  generalize Ieee.double.read (fl (n : Int)) = d at h
  cases d with
  | nan => cases h
  | infinity => cases h
  | number s m i =>
    cases s with
    | true => cases h
    | false =>
      simp only [Bool.and_eq_true, decide_eq_true_eq, beq_iff_eq] at h
      obtain ⟨⟨h1, h2⟩, h3⟩ := h
      refine ⟨⟨(-i).toNat, ?_⟩, ?_⟩
      · rw [← h2]; congr 1; omega
      · revert h3
        cases (Ieee.Datum.number false m i).toInt .zero with
        | none => intro h3; cases h3
        | some k => intro h3; simp only [beq_iff_eq] at h3; rw [h3]
theorem fl_order {a b : Nat} (ha : a ≤ 4002) (hb : b ≤ 4002) : FloatKind.f64.format.order (fl (a : Int)) (fl (b : Int)) = some (compare (a : Int) (b : Int)) := by
  obtain ⟨⟨k, hk⟩, _⟩ := fl_form ha
  obtain ⟨⟨j, hj⟩, _⟩ := fl_form hb
  show (Ieee.double.read _).order (Ieee.double.read _) = _
  rw [hk, hj]
  unfold Ieee.Datum.order
  simp only [Ieee.signed, Bool.false_eq_true, if_false]
  congr 1
  generalize hB : min (-(k : Int)) (-(j : Int)) = B
  rw [← Nat.shiftLeft_add, ← Nat.shiftLeft_add]
  have e1 : k + (-(k : Int) - B).toNat = max k j := by omega
  have e2 : j + (-(j : Int) - B).toNat = max k j := by omega
  rw [e1, e2, Nat.shiftLeft_eq, Nat.shiftLeft_eq]
  have hp : 0 < 2 ^ max k j := Nat.pow_pos (by decide)
  show compareOfLessAndEq _ _ = compareOfLessAndEq _ _
  unfold compareOfLessAndEq
  rcases Nat.lt_trichotomy a b with h | h | h
  · have := Nat.mul_lt_mul_of_pos_right h hp
    rw [if_pos (by omega), if_pos (by omega)]
  · subst h
    rw [if_neg (by omega), if_pos rfl, if_neg (by omega), if_pos rfl]
  · have := Nat.mul_lt_mul_of_pos_right h hp
    rw [if_neg (by omega), if_neg (by omega), if_neg (by omega), if_neg (by omega)]
section
variable {p : Program} {n : Nat} {o : Oper} {H : List Box} {ρ : Operand → Value} {K : Post} {t : Nat} {a b : Nat} {d : Bool}
theorem bf_lss (ha : a ≤ 4002) (hb : b ≤ 4002) (h : decide (a < b) = d) (x y : Operand) : Runs p (do eqGuard .lss t x y (.float .f64 (fl (a : Int))) (.float .f64 (fl (b : Int))); binOp .lss t (.float .f64 (fl (a : Int))) (.float .f64 (fl (b : Int)))) (.bool d) := ⟨fun w => by
  subst h
  have e := fl_order ha hb
  simp only [eqGuard, binOp, Op.floatCmp, Sem.run_bind, e]
  rcases Nat.lt_trichotomy a b with h | h | h
  · have e1 : compare (a : Int) (b : Int) = .lt := by show compareOfLessAndEq _ _ = _; unfold compareOfLessAndEq; rw [if_pos (by omega)]
    rw [e1, decide_eq_true h]; rfl
  · have e1 : compare (a : Int) (b : Int) = .eq := by show compareOfLessAndEq _ _ = _; unfold compareOfLessAndEq; rw [if_neg (by omega), if_pos (by omega)]
    rw [e1, decide_eq_false (by omega)]; rfl
  · have e1 : compare (a : Int) (b : Int) = .gt := by show compareOfLessAndEq _ _ = _; unfold compareOfLessAndEq; rw [if_neg (by omega), if_neg (by omega)]
    rw [e1, decide_eq_false (by omega)]; rfl⟩
theorem bf_gtr (ha : a ≤ 4002) (hb : b ≤ 4002) (h : decide (a > b) = d) (x y : Operand) : Runs p (do eqGuard .gtr t x y (.float .f64 (fl (a : Int))) (.float .f64 (fl (b : Int))); binOp .gtr t (.float .f64 (fl (a : Int))) (.float .f64 (fl (b : Int)))) (.bool d) := ⟨fun w => by
  subst h
  have e := fl_order ha hb
  simp only [eqGuard, binOp, Op.floatCmp, Sem.run_bind, e]
  rcases Nat.lt_trichotomy a b with h | h | h
  · have e1 : compare (a : Int) (b : Int) = .lt := by show compareOfLessAndEq _ _ = _; unfold compareOfLessAndEq; rw [if_pos (by omega)]
    rw [e1, decide_eq_false (by omega)]; rfl
  · have e1 : compare (a : Int) (b : Int) = .eq := by show compareOfLessAndEq _ _ = _; unfold compareOfLessAndEq; rw [if_neg (by omega), if_pos (by omega)]
    rw [e1, decide_eq_false (by omega)]; rfl
  · have e1 : compare (a : Int) (b : Int) = .gt := by show compareOfLessAndEq _ _ = _; unfold compareOfLessAndEq; rw [if_neg (by omega), if_neg (by omega)]
    rw [e1, decide_eq_true h]; rfl⟩
theorem bf_eql (ha : a ≤ 4002) (hb : b ≤ 4002) (h : decide (a = b) = d) (x y : Operand) : Runs p (do eqGuard .eql t x y (.float .f64 (fl (a : Int))) (.float .f64 (fl (b : Int))); binOp .eql t (.float .f64 (fl (a : Int))) (.float .f64 (fl (b : Int)))) (.bool d) := ⟨fun w => by
  subst h
  have e := fl_order ha hb
  simp only [eqGuard, binOp, Op.floatCmp, Sem.run_bind, e]
  rcases Nat.lt_trichotomy a b with h | h | h
  · have e1 : compare (a : Int) (b : Int) = .lt := by show compareOfLessAndEq _ _ = _; unfold compareOfLessAndEq; rw [if_pos (by omega)]
    rw [e1, decide_eq_false (by omega)]; rfl
  · have e1 : compare (a : Int) (b : Int) = .eq := by show compareOfLessAndEq _ _ = _; unfold compareOfLessAndEq; rw [if_neg (by omega), if_pos (by omega)]
    rw [e1, decide_eq_true h]; rfl
  · have e1 : compare (a : Int) (b : Int) = .gt := by show compareOfLessAndEq _ _ = _; unfold compareOfLessAndEq; rw [if_neg (by omega), if_neg (by omega)]
    rw [e1, decide_eq_false (by omega)]; rfl⟩
theorem bf_leq (ha : a ≤ 4002) (hb : b ≤ 4002) (h : decide (a ≤ b) = d) (x y : Operand) : Runs p (do eqGuard .leq t x y (.float .f64 (fl (a : Int))) (.float .f64 (fl (b : Int))); binOp .leq t (.float .f64 (fl (a : Int))) (.float .f64 (fl (b : Int)))) (.bool d) := ⟨fun w => by
  subst h
  have e := fl_order ha hb
  simp only [eqGuard, binOp, Op.floatCmp, Sem.run_bind, e]
  rcases Nat.lt_trichotomy a b with h | h | h
  · have e1 : compare (a : Int) (b : Int) = .lt := by show compareOfLessAndEq _ _ = _; unfold compareOfLessAndEq; rw [if_pos (by omega)]
    rw [e1, decide_eq_true (by omega)]; rfl
  · have e1 : compare (a : Int) (b : Int) = .eq := by show compareOfLessAndEq _ _ = _; unfold compareOfLessAndEq; rw [if_neg (by omega), if_pos (by omega)]
    rw [e1, decide_eq_true (by omega)]; rfl
  · have e1 : compare (a : Int) (b : Int) = .gt := by show compareOfLessAndEq _ _ = _; unfold compareOfLessAndEq; rw [if_neg (by omega), if_neg (by omega)]
    rw [e1, decide_eq_false (by omega)]; rfl⟩
theorem st_cvi {t u : Nat} {x : Operand} (ha : a ≤ 4002) (ho : o.op = .convert t u x) (hx : ρ x = .float .f64 (fl (a : Int))) (hu : p.underlying u = some (.int .i64)) (ht : p.underlying t = some (.float .f64)) (k : K (.int .i64 (a : Int)) H) : Step p ρ o H K :=
  st_run (s := convert t u (.float .f64 (fl (a : Int)))) (by rw [execOp, ho]; simp only [hx]) ⟨fun w => by
    have e : (FloatKind.f64.decode (fl (a : Int))).toInt .zero = some (a : Int) := (fl_form ha).2
    have e2 : IntKind.i64.min ≤ (a : Int) ∧ (a : Int) ≤ IntKind.i64.max := by
      have e3 : IntKind.i64.min = -9223372036854775808 := by decide
      have e4 : IntKind.i64.max = 9223372036854775807 := by decide
      rw [e3, e4]; omega
    simp only [convert, Sem.run_bind, run_underlying hu w, run_underlying ht w, Result.andThen]
    simp only [Conv.floatToInt, e]
    rw [if_pos e2]
    rfl⟩ k
end
end Go.Proofs.YtalffjplbhelcaaDoor
namespace Go.Proofs.YtalffjplbhelcaaDoor
open Go.RowKit
section
variable {p : Program} {n : Nat} {o : Oper} {H : List Box} {ρ : Operand → Value} {K : Post}
end
theorem tok_closed {s : ByteArray} {v : Value} {N : List Box} (T : List Tok) (a : Cx) (e : Int) (m : Nat) (xs : List Value) (h : TokPost (lexAll s) v N) (hc : lexAll s = (T, a, e)) (hn : Nat.ble 1 T.length = true) (hm : T.length = m) (hxs : flatT T = xs) :
    ∃ (g ca : Nat) (r : List Value), v = .tuple #[.slice (some ⟨g, 0, none⟩) m ca, .complex .f64 a.re a.im, .int .i64 e] ∧ N = [⟨g, xs ++ r, 32, false⟩] := by
  subst hm hxs
  rw [hc] at h
  obtain ⟨m, ca, aa, xs, rfl, rfl, _, rfl, hR⟩ := h
  rcases hR with ⟨h0, _⟩ | ⟨g, cap, rest, hv, hN, _⟩
  · simp only at h0
    rw [h0] at hn
    cases hn
  · cases hv
    exact ⟨g, _, rest, rfl, hN⟩
end Go.Proofs.YtalffjplbhelcaaDoor
namespace Go.Proofs.YtalffjplbhelcaaDoor
open Go.RowKit
theorem agg32 : IsAgg Tryd.prog 32 3 := ⟨⟨_, Tryd.underlying32, rfl, by kernel_rfl⟩⟩
theorem bd32_0_2 (x0_0 : Int) (x1_0 : Cx) : Runs Tryd.prog (Instr.build 32 #[(0, .int .i64 x0_0), (2, .complex .f64 (x1_0).re (x1_0).im)]) (.agg #[.int .i64 x0_0, .string (⟨#[]⟩ : ByteArray), .complex .f64 (x1_0).re (x1_0).im]) := ⟨fun w => by go_simp⟩
theorem cell23 : IsCell Tryd.prog 23 := ⟨⟨_, Tryd.underlying23, rfl, by kernel_rfl⟩⟩
theorem fa32_0 (a : Addr) : Runs Tryd.prog (Instr.fieldAt 32 (.pointer (some a)) 0) (.pointer (some (a.add 0))) := run_fa (f := 0) (off := 0) (m := 1) Tryd.underlying32 rfl rfl (by kernel_rfl) (by decide) a
theorem fa32_1 (a : Addr) : Runs Tryd.prog (Instr.fieldAt 32 (.pointer (some a)) 1) (.pointer (some (a.add 1))) := run_fa (f := 1) (off := 1) (m := 1) Tryd.underlying32 rfl rfl (by kernel_rfl) (by decide) a
theorem fa32_2 (a : Addr) : Runs Tryd.prog (Instr.fieldAt 32 (.pointer (some a)) 2) (.pointer (some (a.add 2))) := run_fa (f := 2) (off := 2) (m := 1) Tryd.underlying32 rfl rfl (by kernel_rfl) (by decide) a
end Go.Proofs.YtalffjplbhelcaaDoor
namespace Go.Proofs.YtalffjplbhelcaaDoor
open Go.RowKit
end Go.Proofs.YtalffjplbhelcaaDoor
namespace Go.Proofs.YtalffjplbhelcaaDoor
open Go.RowKit
attribute [local irreducible] AC AR DWalk
def hPick_e0 (n : Int) (m : Int) : Int := (bif decide ((Int.tmod n m) < 0) then (w64 ((Int.tmod n m) + m)) else (Int.tmod n m))
def hPick (n : Int) (m : Int) : Int := (hPick_e0 n m)
set_option maxRecDepth 100000 in
theorem c_hPick (n : Int) (m : Int) (hm : m ≠ 0) : Gets Tryd.prog 15 #[.int .i64 n, .int .i64 m] ((fun (r : Int) => (.int .i64 r : Value)) (hPick n m)) := by
 refine gets_fin Tryd.func15 rfl rfl rfl (aQ (aL (aA 4 (.int .i64 0) rfl rfl (aN (aQ (aL (aM 5 (.int .i64 n) rfl rfl (aM 6 (.int .i64 m) rfl rfl (aB 7 (.int .i64 (Int.tmod n m)) rfl rfl rfl (bi_rem hm rfl) (aA 0 (.int .i64 (Int.tmod n m)) rfl rfl (aN (aQ (aQ (aL (aM 8 (.int .i64 (Int.tmod n m)) rfl rfl (aB 9 (.bool (decide ((Int.tmod n m) < 0))) rfl rfl rfl (bi_lss rfl) (aN ?_)))))))))))))))))
 refine ac_mergeE (fun E9 => ((((Env.put E9 (some 10) (.int .i64 (Int.tmod n m))).put (some 11) (.int .i64 m)).put (some 12) (.int .i64 (w64 ((Int.tmod n m) + m)))).put (some 0) (.int .i64 (w64 ((Int.tmod n m) + m))))) (fun E9 => ((((Env.put E9 (some 10) (bif decide ((Int.tmod n m) < 0) then (.int .i64 (Int.tmod n m) : Value) else E9 10)).put (some 11) (bif decide ((Int.tmod n m) < 0) then (.int .i64 m : Value) else E9 11)).put (some 12) (bif decide ((Int.tmod n m) < 0) then (.int .i64 (w64 ((Int.tmod n m) + m)) : Value) else E9 12)).put (some 0) (.int .i64 (hPick_e0 n m)))) (b := decide ((Int.tmod n m) < 0)) rfl (fun hm => ?_) (fun hm => ?_) (fun hm => ?_) ?_
 ·refine aL (aM 10 (.int .i64 (Int.tmod n m)) rfl rfl (aM 11 (.int .i64 m) rfl rfl (aB 12 (.int .i64 (w64 ((Int.tmod n m) + m))) rfl rfl rfl (bi_add rfl) (aA 0 (.int .i64 (w64 ((Int.tmod n m) + m))) rfl rfl (aN ?_)))))
  exact ⟨rfl, rfl, rfl⟩
 ·unfold hPick_e0; rw [hm]; rfl
 ·unfold hPick_e0; rw [hm]; exact ((put_self rfl).trans ((put_self rfl).trans ((put_self rfl).trans (put_self rfl))))
 refine aQ (aL (aM 13 (.int .i64 (hPick_e0 n m)) rfl rfl (aA 4 (.int .i64 (hPick_e0 n m)) rfl rfl (aN (ac_ret (fin_eq (v := .int .i64 (hPick_e0 n m)) rfl (fin_ret (res_tmp rfl rfl))))))))
end Go.Proofs.YtalffjplbhelcaaDoor
namespace Go.Proofs.YtalffjplbhelcaaDoor
theorem hPick_spec (n : Int) {m : Int} (hm : 0 < m) (hm' : m ≤ 9223372036854775807) : hPick n m = n % m := by
  have h1 := Int.tmod_lt_of_pos n hm
  have h2 := Int.lt_tmod_of_pos n hm
  have he := Int.mul_tdiv_add_tmod n m
  unfold hPick hPick_e0
  by_cases h : n.tmod m < 0
  · rw [decide_eq_true h, w64_in (by omega)]
    simp only [cond_true]
    refine (((Int.ediv_emod_unique (q := n.tdiv m - 1) hm).2 ⟨?_, by omega, by omega⟩).2).symm
    rw [Int.mul_sub, Int.mul_one]; omega
  · rw [decide_eq_false h]
    simp only [cond_false]
    exact (((Int.ediv_emod_unique (q := n.tdiv m) hm).2 ⟨by omega, by omega, by omega⟩).2).symm
theorem hPick_lt (n : Int) {m : Int} (hm : 0 < m) (hm' : m ≤ 9223372036854775807) : 0 ≤ hPick n m ∧ hPick n m < m := by
  rw [hPick_spec n hm hm']
  exact ⟨Int.emod_nonneg n (by omega), Int.emod_lt_of_pos n hm⟩
end Go.Proofs.YtalffjplbhelcaaDoor
namespace Go.Proofs.YtalffjplbhelcaaDoor
def tokEq (a b : Tok) : Bool := (a.kind == b.kind) && ((a.text == b.text) && cxEq a.at_ b.at_)
theorem cell_cx : IsCell Tryd.prog 23 := ⟨⟨_, Tryd.underlying23, rfl, by kernel_rfl⟩⟩
theorem cell_st : IsCell Tryd.prog 9 := ⟨⟨_, Tryd.underlying9, rfl, by kernel_rfl⟩⟩
theorem stood_tok : Tryd.prog.stoodInHeld 32 = false := by kernel_rfl
theorem eqi_str {p : Program} {w : World} (d : Nat) (t : TypeId) (a b : ByteArray) (h : p.underlying t = some .string) : (Op.equalIn (d + 1) t (.string a) (.string b)).run p w = .ok (a == b) w := by
  simp [Op.equalIn, run_underlying h]
theorem eqi_cx {p : Program} {w : World} (d : Nat) (t : TypeId) (a b : Cx) (h : p.underlying t = some (.complex .f64)) : (Op.equalIn (d + 1) t (.complex .f64 a.re a.im) (.complex .f64 b.re b.im)).run p w = .ok (cxEq a b) w := by
  simp [Op.equalIn, run_underlying h, cxEq, feq, Op.floatEq]
theorem eqr_tok (a b : Tok) (d : Nat) (w : World) : (Op.equalIn (d + 2) 32 (.agg a.cells.toArray) (.agg b.cells.toArray)).run Tryd.prog w = .ok (tokEq a b) w := by
  refine eqf_s (xs := a.cells) (ys := b.cells) Tryd.underlying32 stood_tok ?_
  refine eqf_c (by decide) (part_c cell_int rfl) (part_c cell_int rfl) (run_equalIn_int _ _ _ _ _ _ _ Tryd.underlying3) ?_
  refine eqf_c (by decide) (part_c cell_st rfl) (part_c cell_st rfl) (eqi_str _ _ _ _ Tryd.underlying9) ?_
  have := eqf_c (p := Tryd.prog) (d := d + 1) (xs := a.cells) (ys := b.cells) (w := w) (f := { name := "At", type := 23, offset := 2, embedded := false, tag := "", pkgPath := "", byteOffset := 24 }) (fs := []) (by decide) (part_c cell_cx rfl) (part_c cell_cx rfl) (eqi_cx _ _ _ _ Tryd.underlying23) eqf_n
  rw [Bool.and_true] at this
  exact this
theorem guard_tok : Tryd.prog.eqGuardType Tryd.prog.depth 32 = false := by kernel_rfl
theorem beql_32 (a b : Tok) {d : Bool} (h : tokEq a b = d) (x y : Operand) : Runs Tryd.prog (do eqGuard .eql 32 x y (.agg a.cells.toArray) (.agg b.cells.toArray); binOp .eql 32 (.agg a.cells.toArray) (.agg b.cells.toArray)) (.bool d) := bs_eql guard_tok (fun w => eqr_tok a b 9998 w) h x y
end Go.Proofs.YtalffjplbhelcaaDoor
namespace Go.Proofs.YtalffjplbhelcaaDoor
def SlI (a : Option Addr) (m : Nat) (x : Nat → Int) (NA : List Box) : Prop :=
  ∀ i, i < m → ∃ (g off : Nat) (cs : List Value) (t : TypeId), a = some ⟨g, off, none⟩ ∧ (⟨g, cs, t, true⟩ : Box) ∈ NA ∧ cs[off + i * 1]? = some (.int .i64 (x i))
section
variable {p : Program} {n : Nat} {o : Oper} {H : List Box} {ρ : Operand → Value} {K : Post}
theorem st_ldm {t t0 : TypeId} {x : Operand} {g off : Nat} {cs : List Value} {ro : Bool} {v : Value} (ha : IsCell p t) (ho : o.op = .load t x) (hx : ρ x = .pointer (some ⟨g, off, none⟩)) (hm : (⟨g, cs, t0, ro⟩ : Box) ∈ H) (hc : cs[off]? = some v) (k : K v H) : Step p ρ o H K := by
  obtain ⟨i, hi⟩ := List.getElem?_of_mem hm
  exact st_ldc (g := g) (off := off) (v := v) ha i ho hx hi rfl hc k
theorem st_iaA {t e m s : Nat} {x y : Operand} {g off : Nat} {i : Int} (ho : o.op = .indexAddr t x y) (hu : p.underlying t = some (.array m e)) (hs : (p.info? e).map (·.size) = some s) (hx : ρ x = .pointer (some ⟨g, off, none⟩)) (hy : ρ y = .int .i64 i) (h0 : 0 ≤ i ∧ i < m)
    (k : K (.pointer (some ⟨g, off + i.toNat * s, none⟩)) H) : Step p ρ o H K := by
  refine st_run (s := Instr.indexAt t (.pointer (some ⟨g, off, none⟩)) (.int .i64 i)) (by rw [execOp, ho]; simp only [hx, hy]) ⟨fun w => ?_⟩ k
  cases hq : p.info? e with
  | none => simp [hq] at hs
  | some inf =>
    have hs' : inf.size = s := by simpa [hq] using hs
    have ha : (⟨g, off, none⟩ : Addr).add (i.toNat * s) = ⟨g, off + i.toNat * s, none⟩ := by
      unfold Addr.add
      split
      · simp_all
      · rfl
    simp [Instr.indexAt, Instr.sureAddr, asIntOf, Sem.run_bind, run_underlying hu w, h0, sizeOf, typeInfo, hq, hs', ha]
end
theorem flatT_at (T : List Tok) (r : List Value) (i : Nat) (t : Tok) (h : T[i]? = some t) (j : Nat) (hj : j < 3) : (flatT T ++ r)[i * 3 + j]? = t.cells[j]? := by
  induction T generalizing i with
  | nil => simp at h
  | cons a T ih =>
    cases i with
    | zero =>
      simp only [List.getElem?_cons_zero, Option.some.injEq] at h
      subst h
      have e : flatT (a :: T) = a.cells ++ flatT T := by simp [flatT]
      rw [e, List.append_assoc, List.getElem?_append_left (by simp [Tok.cells]; omega)]
      simp
    | succ i =>
      simp only [List.getElem?_cons_succ] at h
      have e : flatT (a :: T) = a.cells ++ flatT T := by simp [flatT]
      rw [e, List.append_assoc, List.getElem?_append_right (by simp [Tok.cells]; omega)]
      have e2 : (i + 1) * 3 + j - a.cells.length = i * 3 + j := by simp [Tok.cells]; omega
      rw [e2]
      exact ih i h
def loopsOf : Code → List Code
  | .seq a b => loopsOf a ++ loopsOf b
  | .cond _ a b => loopsOf a ++ loopsOf b
  | .block _ a => loopsOf a
  | .scope a => loopsOf a
  | .loop c => [c]
  | _ => []
def loopN (k : Nat) (c : Code) : Option Code := (loopsOf c)[k]?
theorem tok_cases {R : LRes} {v : Value} {N : List Box} (h : TokPost R v N) : ∃ (a : Option Addr) (ca : Nat), v = .tuple #[.slice a R.1.length ca, .complex .f64 R.2.1.re R.2.1.im, .int .i64 R.2.2] ∧ R.1.length ≤ 4001 ∧
    (∀ i, i < R.1.length → ∃ (g : Nat) (r : List Value), a = some ⟨g, 0, none⟩ ∧ (⟨g, flatT R.1 ++ r, 32, false⟩ : Box) ∈ N) := by
  obtain ⟨m, ca, aa, xs, rfl, rfl, h4, rfl, hR⟩ := h
  refine ⟨aa, ca, rfl, h4, fun i hi => ?_⟩
  rcases hR with ⟨h0, _⟩ | ⟨g, cap, rest, hv, hN, _⟩
  · omega
  · cases hv
    exact ⟨g, rest, rfl, by rw [hN]; exact List.mem_singleton.2 rfl⟩
end Go.Proofs.YtalffjplbhelcaaDoor
namespace Go.Proofs.YtalffjplbhelcaaDoor
open Go.RowKit
theorem agg69 : IsAgg Tryd.prog 69 18 := ⟨⟨_, Tryd.underlying69, rfl, by kernel_rfl⟩⟩
theorem bd69_0_1_2_3_4_5_6_7_8_9_10_11_12_13_14_15_16_17 (x0_0 : ByteArray) (x1_0 : ByteArray) (x2_0 : ByteArray) (x3_0 : ByteArray) (x4_0 : ByteArray) (x5_0 : ByteArray) (x6_0 : ByteArray) (x7_0 : ByteArray) (x8_0 : ByteArray) (x9_0 : ByteArray) (x10_0 : ByteArray) (x11_0 : ByteArray) (x12_0 : ByteArray) (x13_0 : ByteArray) (x14_0 : ByteArray) (x15_0 : ByteArray) (x16_0 : ByteArray) (x17_0 : ByteArray) : Runs Tryd.prog (Instr.build 69 #[(0, .string x0_0), (1, .string x1_0), (2, .string x2_0), (3, .string x3_0), (4, .string x4_0), (5, .string x5_0), (6, .string x6_0), (7, .string x7_0), (8, .string x8_0), (9, .string x9_0), (10, .string x10_0), (11, .string x11_0), (12, .string x12_0), (13, .string x13_0), (14, .string x14_0), (15, .string x15_0), (16, .string x16_0), (17, .string x17_0)]) (.agg #[.string x0_0, .string x1_0, .string x2_0, .string x3_0, .string x4_0, .string x5_0, .string x6_0, .string x7_0, .string x8_0, .string x9_0, .string x10_0, .string x11_0, .string x12_0, .string x13_0, .string x14_0, .string x15_0, .string x16_0, .string x17_0]) := ⟨fun w => by go_simp⟩
theorem zero69 : Zero Tryd.prog 69 [.string (⟨#[]⟩ : ByteArray), .string (⟨#[]⟩ : ByteArray), .string (⟨#[]⟩ : ByteArray), .string (⟨#[]⟩ : ByteArray), .string (⟨#[]⟩ : ByteArray), .string (⟨#[]⟩ : ByteArray), .string (⟨#[]⟩ : ByteArray), .string (⟨#[]⟩ : ByteArray), .string (⟨#[]⟩ : ByteArray), .string (⟨#[]⟩ : ByteArray), .string (⟨#[]⟩ : ByteArray), .string (⟨#[]⟩ : ByteArray), .string (⟨#[]⟩ : ByteArray), .string (⟨#[]⟩ : ByteArray), .string (⟨#[]⟩ : ByteArray), .string (⟨#[]⟩ : ByteArray), .string (⟨#[]⟩ : ByteArray), .string (⟨#[]⟩ : ByteArray)] := ⟨⟨.agg #[.string (⟨#[]⟩ : ByteArray), .string (⟨#[]⟩ : ByteArray), .string (⟨#[]⟩ : ByteArray), .string (⟨#[]⟩ : ByteArray), .string (⟨#[]⟩ : ByteArray), .string (⟨#[]⟩ : ByteArray), .string (⟨#[]⟩ : ByteArray), .string (⟨#[]⟩ : ByteArray), .string (⟨#[]⟩ : ByteArray), .string (⟨#[]⟩ : ByteArray), .string (⟨#[]⟩ : ByteArray), .string (⟨#[]⟩ : ByteArray), .string (⟨#[]⟩ : ByteArray), .string (⟨#[]⟩ : ByteArray), .string (⟨#[]⟩ : ByteArray), .string (⟨#[]⟩ : ByteArray), .string (⟨#[]⟩ : ByteArray), .string (⟨#[]⟩ : ByteArray)], by kernel_rfl, rfl⟩⟩
end Go.Proofs.YtalffjplbhelcaaDoor
namespace Go.Proofs.YtalffjplbhelcaaDoor
open Go.RowKit
end Go.Proofs.YtalffjplbhelcaaDoor
namespace Go.Proofs.YtalffjplbhelcaaDoor
open Go.RowKit
attribute [local irreducible] AC AR DWalk
end Go.Proofs.YtalffjplbhelcaaDoor
namespace Go.Proofs.YtalffjplbhelcaaDoor
open Go.RowKit
attribute [local irreducible] AC AR DWalk
end Go.Proofs.YtalffjplbhelcaaDoor
namespace Go.Proofs.YtalffjplbhelcaaDoor
section
variable {p : Program} {n : Nat} {o : Oper} {H : List Box} {ρ : Operand → Value} {K : Post}
end
end Go.Proofs.YtalffjplbhelcaaDoor
namespace Go.Proofs.YtalffjplbhelcaaDoor
open Go.RowKit
attribute [local irreducible] AC AR DWalk
end Go.Proofs.YtalffjplbhelcaaDoor
namespace Go.Proofs.YtalffjplbhelcaaDoor
open Go.RowKit
end Go.Proofs.YtalffjplbhelcaaDoor
namespace Go.Proofs.YtalffjplbhelcaaDoor
open Go.RowKit
attribute [local irreducible] AC AR DWalk
end Go.Proofs.YtalffjplbhelcaaDoor
namespace Go.Proofs.YtalffjplbhelcaaDoor
end Go.Proofs.YtalffjplbhelcaaDoor
namespace Go.Proofs.YtalffjplbhelcaaDoor
section
variable {s : ByteArray} {n i : Nat} {line start : Int} {any_ : Bool} {out : List Tok} {R : LRes}
end
end Go.Proofs.YtalffjplbhelcaaDoor
namespace Go.Proofs.YtalffjplbhelcaaDoor
open Go.RowKit
end Go.Proofs.YtalffjplbhelcaaDoor
namespace Go.Proofs.YtalffjplbhelcaaDoor
open Go.RowKit
attribute [local irreducible] AC AR DWalk
end Go.Proofs.YtalffjplbhelcaaDoor
