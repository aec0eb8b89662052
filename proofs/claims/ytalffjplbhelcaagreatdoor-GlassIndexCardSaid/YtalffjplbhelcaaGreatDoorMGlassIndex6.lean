import Derived.Test.YtalffjplbhelcaaGreatDoorMGlassIndex5
import Derived.Test.YtalffjplbhelcaaGreatDoorMGlassIndex3
import Derived.Laws.MakeOwn
import Derived.Laws.IdiomStrings
import Derived.Test.YtalffjplbhelcaaGreatDoorMGlassIndex4
import Derived.Test.YtalffjplbhelcaaGreatDoorMGlassIndex2
set_option linter.unusedVariables false
set_option linter.unusedSimpArgs false
namespace Go.Proofs.YtalffjplbhelcaaGreatDoor
open Go.RowKit
attribute [local irreducible] AC AR DWalk
set_option maxRecDepth 100000 in
set_option maxHeartbeats 4000000 in
theorem seg0 (s : ByteArray) (hs4 : s.size ≤ 4000) (R : LRes) (K i m ca n : Nat) (line start : Int) (any_ : Bool) (out : List Tok) (aa : Option Addr) (NA : List Box) (xs : List Value) (hSt : LexSt s out i m ca aa xs NA) (hk : K = 2 * (s.size - i) + 1) (hn : s.size - i ≤ n) (hq : lexStep (lexRun s n) s i line start any_ out = R) {E : Env} {H : List Box} {rest : Code} (hc : ((Tryz.f63.body.bind scopeOf).bind fun c => findLabel c 0) = some (.seq .skip rest)) (hsub : List.Sublist NA H) (q0 : E 0 = .string s) (q5 : E 5 = .slice aa m ca) (q6 : E 6 = .int .i64 (i : Int)) (q8 : E 8 = .int .i64 line) (q9 : E 9 = .int .i64 start) (q10 : E 10 = .bool any_) : AC Tryz.prog 118 rest (AJ (fun l' E' H' => ∃ k', k' < K ∧ LexJ s R l' k' E' H') (FinG Tryz.prog Tryz.f63 118 (TokPost R))) E H := by
 rw [show ((Tryz.f63.body.bind scopeOf).bind fun c => findLabel c 0) = some (.seq .skip _) from rfl] at hc
 cases hc
 refine ac_drop hsub ?_
 have hSt0 := hSt
 obtain ⟨hm, hxs, hmi, hil, hR⟩ := hSt
 obtain ⟨E0, rfl⟩ : ∃ E0 : Env, E = ((((((E0.put (some 0) (.string s)).put (some 5) (.slice aa m ca)).put (some 6) (.int .i64 (i : Int))).put (some 8) (.int .i64 line)).put (some 9) (.int .i64 start)).put (some 10) (.bool any_)) := ⟨E, by rw [put_self q0, put_self q5, put_self q6, put_self q8, put_self q9, put_self q10]⟩
 refine aQ (aL (aM 18 (.int .i64 line) rfl rfl (aM 19 (.int .i64 (i : Int)) rfl rfl (aM 20 (.int .i64 start) rfl rfl (aB 21 (.int .i64 (w64 ((i : Int) - start))) rfl rfl rfl (bi_sub rfl) (aB 22 (.int .i64 (w64 ((w64 ((i : Int) - start)) + 1))) rfl rfl rfl (bi_add rfl) (aC 23 (c_place line (w64 ((w64 ((i : Int) - start)) + 1))) Tryz.func100 ⟨rfl, by decide⟩ rfl rfl (aA 12 (.complex .f64 ((place line (w64 ((w64 ((i : Int) - start)) + 1)))).re ((place line (w64 ((w64 ((i : Int) - start)) + 1)))).im) rfl rfl (aN (aQ (aQ (aL (aM 24 (.int .i64 (i : Int)) rfl rfl (aM 25 (.string s) rfl rfl (ao 26 rfl rfl (st_slen (s := s) rfl Tryz.underlying9 rfl ?_))))))))))))))))
 refine aB 27 (.bool ((i : Int) == ((s).size : Int))) rfl rfl rfl (bi_eql rfl) (aN ?_)
 refine bool_split ((i : Int) == ((s).size : Int)) (fun h1 => ?_) (fun h1 => ?_)
 ·refine ac_then' (b := (i : Int) == ((s).size : Int)) h1 rfl ?_
  refine ac_goto ?_
  simp only [lexStep, h1, cond_true, cond_false] at hq
  exact lexj1 (i := i) (n := n) (here := (lexHere i line start)) (lexSt_same hSt0 (by omega) hil) (List.Sublist.refl _) rfl rfl rfl rfl rfl rfl rfl (by have := hil; omega) (by have := hil; omega) hq
 ·refine ac_else' (b := (i : Int) == ((s).size : Int)) h1 rfl (ac_skip (aQ (aL (aM 28 (.string s) rfl rfl (aM 29 (.int .i64 (i : Int)) rfl rfl (ao 30 rfl rfl (st_six (s := s) (i := i) rfl Tryz.underlying9 rfl rfl (ne_lt hil h1) (aA 11 (.int .u8 (sAt s i)) rfl rfl (aN (aQ (ac_block (aQ (aL (aM 32 (.int .u8 (sAt s i)) rfl rfl (aB 33 (.bool ((sAt s i) == 10)) rfl rfl rfl (bk_eql rfl) (aA 31 (.bool ((sAt s i) == 10)) rfl rfl (aN ?_)))))))))))))))))
  refine bool_split ((sAt s i) == 10) (fun h2 => ?_) (fun h2 => ?_)
  ·refine ac_then' (b := (sAt s i) == 10) h2 rfl ?_
   refine ac_goto ?_
   simp only [lexStep, h1, h2, cond_true, cond_false] at hq
   exact lexj1 (i := i) (n := n) (here := (lexHere i line start)) (lexSt_same hSt0 (by omega) hil) (List.Sublist.refl _) rfl rfl rfl rfl rfl rfl rfl (by have := hil; have := (ne_lt hil h1); omega) (by have := hil; have := (ne_lt hil h1); omega) hq
  ·refine ac_else' (b := (sAt s i) == 10) h2 rfl (aQ (aL (aM 35 (.int .u8 (sAt s i)) rfl rfl (aB 36 (.bool ((sAt s i) == 32)) rfl rfl rfl (bk_eql rfl) (aM 37 (.bool ((sAt s i) == 32)) rfl rfl ?_)))))
   refine bool_split ((sAt s i) == 32) (fun h3 => ?_) (fun h3 => ?_)
   ·refine aK 38 (by show (((sAt s i) == 32) == false) = false; rw [h3]; rfl) rfl (aK 39 (by show (((sAt s i) == 32) == false) = false; rw [h3]; rfl) rfl (ao 40 rfl rfl (st_pkt' (b := (sAt s i) == 32) (v := .bool true) h3 rfl rfl rfl (aA 34 (.bool true) rfl rfl (aN (ac_then rfl (aQ (aL (aM 41 (.int .i64 (i : Int)) rfl rfl (aB 42 (.int .i64 (w64 ((i : Int) + 1))) rfl rfl rfl (bi_add rfl) (aA 6 (.int .i64 (w64 ((i : Int) + 1))) rfl rfl (aN ?_))))))))))))
    refine ac_goto ?_
    simp only [lexStep, h1, h2, h3, cond_true, cond_false] at hq
    exact lexj0 (i := (i + 1)) (n := n) (lexSt_same hSt0 (by omega) (ne_lt hil h1)) (List.Sublist.refl _) rfl rfl (w64_succ hs4 hil) rfl rfl rfl (by have := hil; have := (ne_lt hil h1); omega) (by have := hil; have := (ne_lt hil h1); omega) hq
   ·refine ar_gd (d := (some 38)) (by show (((sAt s i) == 32) == false) = true; rw [h3]; rfl) rfl (st_move (v := .int .u8 (sAt s i)) rfl rfl (ar_gd (d := (some 39)) (by show (((sAt s i) == 32) == false) = true; rw [h3]; rfl) rfl (st_bi (r := .bool ((sAt s i) == 9)) rfl rfl rfl (bk_eql rfl) (ao 40 rfl rfl (st_pkf' (b := (sAt s i) == 32) (v := .bool ((sAt s i) == 9)) h3 rfl rfl rfl (aA 34 (.bool ((sAt s i) == 9)) rfl rfl (aN ?_)))))))
    refine bool_split ((sAt s i) == 9) (fun h4 => ?_) (fun h4 => ?_)
    ·refine ac_then' (b := (sAt s i) == 9) h4 rfl (aQ (aL (aM 41 (.int .i64 (i : Int)) rfl rfl (aB 42 (.int .i64 (w64 ((i : Int) + 1))) rfl rfl rfl (bi_add rfl) (aA 6 (.int .i64 (w64 ((i : Int) + 1))) rfl rfl (aN ?_))))))
     refine ac_goto ?_
     simp only [lexStep, h1, h2, h3, h4, cond_true, cond_false] at hq
     exact lexj0 (i := (i + 1)) (n := n) (lexSt_same hSt0 (by omega) (ne_lt hil h1)) (List.Sublist.refl _) rfl rfl (w64_succ hs4 hil) rfl rfl rfl (by have := hil; have := (ne_lt hil h1); omega) (by have := hil; have := (ne_lt hil h1); omega) hq
    ·refine ac_else' (b := (sAt s i) == 9) h4 rfl (aQ (aL (aM 44 (.int .u8 (sAt s i)) rfl rfl (aB 45 (.bool ((sAt s i) == 35)) rfl rfl rfl (bk_eql rfl) (aA 43 (.bool ((sAt s i) == 35)) rfl rfl (aN ?_))))))
     refine bool_split ((sAt s i) == 35) (fun h5 => ?_) (fun h5 => ?_)
     ·refine ac_then' (b := (sAt s i) == 35) h5 rfl ?_
      refine ac_goto ?_
      simp only [lexStep, h1, h2, h3, h4, h5, cond_true, cond_false] at hq
      exact lexj2 (i := i) (n := n) (here := (lexHere i line start)) (lexSt_same hSt0 (by omega) hil) (List.Sublist.refl _) rfl rfl rfl rfl rfl rfl rfl (by have := hil; have := (ne_lt hil h1); omega) (by have := hil; have := (ne_lt hil h1); omega) (ne_lt hil h1) hq
     ·refine ac_else' (b := (sAt s i) == 35) h5 rfl (aQ (aL (aM 47 (.int .u8 (sAt s i)) rfl rfl (aC 48 (c_lexLetter (sAt s i)) Tryz.func101 ⟨rfl, by decide⟩ rfl rfl (aA 46 (.bool (lexLetter (sAt s i))) rfl rfl (aN ?_))))))
      refine bool_split (lexLetter (sAt s i)) (fun h6 => ?_) (fun h6 => ?_)
      ·refine ac_then' (b := lexLetter (sAt s i)) h6 rfl ?_
       refine ac_goto ?_
       simp only [lexStep, h1, h2, h3, h4, h5, h6, cond_true, cond_false] at hq
       exact lexj3 (i := i) (n := n) (here := (lexHere i line start)) (lexSt_same hSt0 (by omega) hil) (List.Sublist.refl _) rfl rfl rfl rfl rfl rfl rfl (by have := hil; have := (ne_lt hil h1); omega) (by have := hil; have := (ne_lt hil h1); omega) (ne_lt hil h1) hq
      ·refine ac_else' (b := lexLetter (sAt s i)) h6 rfl (aQ (aL (aM 50 (.int .u8 (sAt s i)) rfl rfl (aC 51 (c_lexDigit (sAt s i)) Tryz.func102 ⟨rfl, by decide⟩ rfl rfl (aM 52 (.bool (lexDigit (sAt s i))) rfl rfl ?_)))))
       refine bool_split (lexDigit (sAt s i)) (fun h7 => ?_) (fun h7 => ?_)
       ·refine aK 53 (by show ((lexDigit (sAt s i)) == false) = false; rw [h7]; rfl) rfl (aK 54 (by show ((lexDigit (sAt s i)) == false) = false; rw [h7]; rfl) rfl (ao 55 rfl rfl (st_pkt' (b := lexDigit (sAt s i)) (v := .bool true) h7 rfl rfl rfl (aA 49 (.bool true) rfl rfl (aN (ac_then rfl ?_))))))
        refine ac_goto ?_
        simp only [lexStep, h1, h2, h3, h4, h5, h6, h7, cond_true, cond_false] at hq
        exact lexj4 (i := i) (n := n) (here := (lexHere i line start)) (lexSt_same hSt0 (by omega) hil) (List.Sublist.refl _) rfl rfl rfl rfl rfl rfl rfl (by have := hil; have := (ne_lt hil h1); omega) (by have := hil; have := (ne_lt hil h1); omega) (ne_lt hil h1) hq
       ·refine ar_gd (d := (some 53)) (by show ((lexDigit (sAt s i)) == false) = true; rw [h7]; rfl) rfl (st_move (v := .int .u8 (sAt s i)) rfl rfl (ar_gd (d := (some 54)) (by show ((lexDigit (sAt s i)) == false) = true; rw [h7]; rfl) rfl (st_bi (r := .bool ((sAt s i) == 45)) rfl rfl rfl (bk_eql rfl) (ao 55 rfl rfl (st_pkf' (b := lexDigit (sAt s i)) (v := .bool ((sAt s i) == 45)) h7 rfl rfl rfl (aA 49 (.bool ((sAt s i) == 45)) rfl rfl (aN ?_)))))))
        refine bool_split ((sAt s i) == 45) (fun h8 => ?_) (fun h8 => ?_)
        ·refine ac_then' (b := (sAt s i) == 45) h8 rfl ?_
         refine ac_goto ?_
         simp only [lexStep, h1, h2, h3, h4, h5, h6, h7, h8, cond_true, cond_false] at hq
         exact lexj4 (i := i) (n := n) (here := (lexHere i line start)) (lexSt_same hSt0 (by omega) hil) (List.Sublist.refl _) rfl rfl rfl rfl rfl rfl rfl (by have := hil; have := (ne_lt hil h1); omega) (by have := hil; have := (ne_lt hil h1); omega) (ne_lt hil h1) hq
        ·refine ac_else' (b := (sAt s i) == 45) h8 rfl (ac_skip (aQ (aQ (aL (aM 56 (.complex .f64 ((place line (w64 ((w64 ((i : Int) - start)) + 1)))).re ((place line (w64 ((w64 ((i : Int) - start)) + 1)))).im) rfl rfl (aA 2 (.slice none 0 0) rfl rfl (aA 3 (.complex .f64 ((place line (w64 ((w64 ((i : Int) - start)) + 1)))).re ((place line (w64 ((w64 ((i : Int) - start)) + 1)))).im) rfl rfl (aA 4 (.int .i64 2) rfl rfl (aN (ac_ret ?_))))))))))
         simp only [lexStep, h1, h2, h3, h4, h5, h6, h7, h8, cond_true, cond_false] at hq
         exact fing_ret (N := []) (tokPost_nil hq) (List.nil_sublist _) rfl (res_ttt rfl rfl rfl rfl)
set_option maxRecDepth 100000 in
set_option maxHeartbeats 4000000 in
theorem seg1 (s : ByteArray) (hs4 : s.size ≤ 4000) (R : LRes) (K i m ca n : Nat) (line start : Int) (any_ : Bool) (out : List Tok) (aa : Option Addr) (NA : List Box) (xs : List Value) (hSt : LexSt s out i m ca aa xs NA) (here : Cx) (hk : K = 2 * (s.size - i)) (hn : s.size - i ≤ n) (hq : lexFeed (lexRun s n) s i line any_ out here = R) {E : Env} {H : List Box} {rest : Code} (hc : ((Tryz.f63.body.bind scopeOf).bind fun c => findLabel c 1) = some (.seq .skip rest)) (hsub : List.Sublist NA H) (q0 : E 0 = .string s) (q5 : E 5 = .slice aa m ca) (q6 : E 6 = .int .i64 (i : Int)) (q8 : E 8 = .int .i64 line) (q9 : E 9 = .int .i64 start) (q10 : E 10 = .bool any_) (q12 : E 12 = .complex .f64 (here).re (here).im) : AC Tryz.prog 118 rest (AJ (fun l' E' H' => ∃ k', k' < K ∧ LexJ s R l' k' E' H') (FinG Tryz.prog Tryz.f63 118 (TokPost R))) E H := by
 rw [show ((Tryz.f63.body.bind scopeOf).bind fun c => findLabel c 1) = some (.seq .skip _) from rfl] at hc
 cases hc
 refine ac_drop hsub ?_
 have hSt0 := hSt
 obtain ⟨hm, hxs, hmi, hil, hR⟩ := hSt
 obtain ⟨E0, rfl⟩ : ∃ E0 : Env, E = (((((((E0.put (some 0) (.string s)).put (some 5) (.slice aa m ca)).put (some 6) (.int .i64 (i : Int))).put (some 8) (.int .i64 line)).put (some 9) (.int .i64 start)).put (some 10) (.bool any_)).put (some 12) (.complex .f64 (here).re (here).im)) := ⟨E, by rw [put_self q0, put_self q5, put_self q6, put_self q8, put_self q9, put_self q10, put_self q12]⟩
 refine aQ (aQ (aL (aM 102 (.bool any_) rfl rfl (aN ?_))))
 refine bool_split (any_) (fun h1 => ?_) (fun h1 => ?_)
 ·refine ac_then' (b := any_) h1 rfl (aL (aM 103 (.slice aa m ca) rfl rfl (aM 104 (.complex .f64 (here).re (here).im) rfl rfl (ao 105 rfl rfl (st_bd (us := [(0, .int .i64 3), (1, .string (⟨#[]⟩ : ByteArray)), (2, .complex .f64 (here).re (here).im)]) (v := .agg #[.int .i64 3, .string (⟨#[]⟩ : ByteArray), .complex .f64 (here).re (here).im]) rfl rfl (bd108_0_1_2 _ _ _) (ao 106 rfl rfl (st_bs (us := [(0, .agg #[.int .i64 3, .string (⟨#[]⟩ : ByteArray), .complex .f64 (here).re (here).im])]) (cs := [.int .i64 3, .string (⟨#[]⟩ : ByteArray), .complex .f64 (here).re (here).im]) rfl rfl (bs71_1_0a _ _ _) fun g0 => ?_)))))))
  refine ao 107 rfl rfl (st_appZ (A := [⟨g0, [.int .i64 3, .string (⟨#[]⟩ : ByteArray), .complex .f64 (here).re (here).im], 108, false⟩]) (N := NA) (xs := xs) (news := [.int .i64 3, .string (⟨#[]⟩ : ByteArray), .complex .f64 (here).re (here).im]) (r := []) slT71 rfl rfl rfl hR rfl (List.mem_of_getElem? (i := 0) rfl) rfl rfl rfl rfl (by decide) (by simp only [maxLen]; omega) (by omega) (fun v H H' hp h => ar_perm hp h) fun v9 Nu1 Ru1 => ?_)
  obtain ⟨au1, cu1, rfl⟩ := Ru1.form
  refine aA 5 (.slice au1 (m + 1) cu1) rfl rfl (aN (aQ (aQ (aL (aM 108 (.int .i64 (i : Int)) rfl rfl (aM 109 (.string s) rfl rfl (ao 110 rfl rfl (st_slen (s := s) rfl Tryz.underlying9 rfl (aB 111 (.bool ((i : Int) == ((s).size : Int))) rfl rfl rfl (bi_eql rfl) (aN ?_))))))))))
  refine bool_split ((i : Int) == ((s).size : Int)) (fun h2 => ?_) (fun h2 => ?_)
  ·refine ac_then' (b := (i : Int) == ((s).size : Int)) h2 rfl (aQ (aL (aM 112 (.slice au1 (m + 1) cu1) rfl rfl (aA 2 (.slice au1 (m + 1) cu1) rfl rfl (aA 3 (.complex .f64 ((⟨0, 0⟩ : Cx)).re ((⟨0, 0⟩ : Cx)).im) rfl rfl (aA 4 (.int .i64 0) rfl rfl (aN (ac_ret ?_))))))))
   simp only [lexFeed, h1, h2, cond_true, cond_false] at hq
   exact fing_ret (N := Nu1) (tokPost_row hq (by simp [hm]) (by omega) (by rw [hxs]; simp [flatT, Tok.cells]) Ru1) (List.Sublist.cons _ (List.Sublist.refl _)) (rowFree Ru1) (res_ttt rfl rfl rfl rfl)
  ·refine ac_else' (b := (i : Int) == ((s).size : Int)) h2 rfl (ac_skip (aQ (aL (aM 113 (.int .i64 (i : Int)) rfl rfl (aB 114 (.int .i64 (w64 ((i : Int) + 1))) rfl rfl rfl (bi_add rfl) (aA 6 (.int .i64 (w64 ((i : Int) + 1))) rfl rfl (aN (aQ (aL (aM 115 (.int .i64 line) rfl rfl (aB 116 (.int .i64 (w64 (line + 1))) rfl rfl rfl (bi_add rfl) (aM 117 (.int .i64 (w64 ((i : Int) + 1))) rfl rfl (aA 8 (.int .i64 (w64 (line + 1))) rfl rfl (aA 9 (.int .i64 (w64 ((i : Int) + 1))) rfl rfl (aA 10 (.bool false) rfl rfl (aN ?_))))))))))))))))
   refine ac_goto ?_
   simp only [lexFeed, h1, h2, cond_true, cond_false] at hq
   exact lexj0 (i := (i + 1)) (n := n) (lexSt_more hm hxs (by have := hmi; omega) (ne_lt hil h2) (by rfl) Ru1) (List.Sublist.cons _ (List.Sublist.refl _)) rfl rfl (w64_succ hs4 hil) rfl (w64_succ hs4 hil) rfl (by have := hil; have := (ne_lt hil h2); omega) (by have := hil; have := (ne_lt hil h2); omega) hq
 ·refine ac_else' (b := any_) h1 rfl (ac_skip (aQ (aQ (aL (aM 108 (.int .i64 (i : Int)) rfl rfl (aM 109 (.string s) rfl rfl (ao 110 rfl rfl (st_slen (s := s) rfl Tryz.underlying9 rfl (aB 111 (.bool ((i : Int) == ((s).size : Int))) rfl rfl rfl (bi_eql rfl) (aN ?_))))))))))
  refine bool_split ((i : Int) == ((s).size : Int)) (fun h2 => ?_) (fun h2 => ?_)
  ·refine ac_then' (b := (i : Int) == ((s).size : Int)) h2 rfl (aQ (aL (aM 112 (.slice aa m ca) rfl rfl (aA 2 (.slice aa m ca) rfl rfl (aA 3 (.complex .f64 ((⟨0, 0⟩ : Cx)).re ((⟨0, 0⟩ : Cx)).im) rfl rfl (aA 4 (.int .i64 0) rfl rfl (aN (ac_ret ?_))))))))
   simp only [lexFeed, h1, h2, cond_true, cond_false] at hq
   exact fing_ret (N := NA) (tokPost_row hq hm (by omega) hxs hR) (List.Sublist.refl _) (rowFree hR) (res_ttt rfl rfl rfl rfl)
  ·refine ac_else' (b := (i : Int) == ((s).size : Int)) h2 rfl (ac_skip (aQ (aL (aM 113 (.int .i64 (i : Int)) rfl rfl (aB 114 (.int .i64 (w64 ((i : Int) + 1))) rfl rfl rfl (bi_add rfl) (aA 6 (.int .i64 (w64 ((i : Int) + 1))) rfl rfl (aN (aQ (aL (aM 115 (.int .i64 line) rfl rfl (aB 116 (.int .i64 (w64 (line + 1))) rfl rfl rfl (bi_add rfl) (aM 117 (.int .i64 (w64 ((i : Int) + 1))) rfl rfl (aA 8 (.int .i64 (w64 (line + 1))) rfl rfl (aA 9 (.int .i64 (w64 ((i : Int) + 1))) rfl rfl (aA 10 (.bool false) rfl rfl (aN ?_))))))))))))))))
   refine ac_goto ?_
   simp only [lexFeed, h1, h2, cond_true, cond_false] at hq
   exact lexj0 (i := (i + 1)) (n := n) (lexSt_same hSt0 (by omega) (ne_lt hil h2)) (List.Sublist.refl _) rfl rfl (w64_succ hs4 hil) rfl (w64_succ hs4 hil) rfl (by have := hil; have := (ne_lt hil h2); omega) (by have := hil; have := (ne_lt hil h2); omega) hq
set_option maxRecDepth 100000 in
set_option maxHeartbeats 4000000 in
theorem seg2 (s : ByteArray) (hs4 : s.size ≤ 4000) (R : LRes) (K i m ca n : Nat) (line start : Int) (any_ : Bool) (out : List Tok) (aa : Option Addr) (NA : List Box) (xs : List Value) (hSt : LexSt s out i m ca aa xs NA) (here : Cx) (hk : K = 2 * (s.size - i)) (hn : s.size - i ≤ n) (hi : i < s.size) (hq : lexRun s n (runTo lexNoLine s (s.size - (i + 1)) (i + 1)) line start any_ out = R) {E : Env} {H : List Box} {rest : Code} (hc : ((Tryz.f63.body.bind scopeOf).bind fun c => findLabel c 2) = some (.seq .skip rest)) (hsub : List.Sublist NA H) (q0 : E 0 = .string s) (q5 : E 5 = .slice aa m ca) (q6 : E 6 = .int .i64 (i : Int)) (q8 : E 8 = .int .i64 line) (q9 : E 9 = .int .i64 start) (q10 : E 10 = .bool any_) (q12 : E 12 = .complex .f64 (here).re (here).im) : AC Tryz.prog 118 rest (AJ (fun l' E' H' => ∃ k', k' < K ∧ LexJ s R l' k' E' H') (FinG Tryz.prog Tryz.f63 118 (TokPost R))) E H := by
 rw [show ((Tryz.f63.body.bind scopeOf).bind fun c => findLabel c 2) = some (.seq .skip _) from rfl] at hc
 cases hc
 refine ac_drop hsub ?_
 have hSt0 := hSt
 obtain ⟨hm, hxs, hmi, hil, hR⟩ := hSt
 obtain ⟨E0, rfl⟩ : ∃ E0 : Env, E = (((((((E0.put (some 0) (.string s)).put (some 5) (.slice aa m ca)).put (some 6) (.int .i64 (i : Int))).put (some 8) (.int .i64 line)).put (some 9) (.int .i64 start)).put (some 10) (.bool any_)).put (some 12) (.complex .f64 (here).re (here).im)) := ⟨E, by rw [put_self q0, put_self q5, put_self q6, put_self q8, put_self q9, put_self q10, put_self q12]⟩
 refine aQ (aL (aM 57 (.string s) rfl rfl (aM 58 (.int .i64 (i : Int)) rfl rfl (aC 59 (c_runL s i (by omega) hi) Tryz.func103 ⟨rfl, by decide⟩ rfl rfl (aA 6 (.int .i64 ((runTo lexNoLine s (s.size - (i + 1)) (i + 1) : Nat) : Int)) rfl rfl (aN (aQ ?_)))))))
 refine ac_goto ?_
 exact lexj0 (i := (runTo lexNoLine s (s.size - (i + 1)) (i + 1))) (n := n) (lexSt_same hSt0 (by have := run_ge1 lexNoLine s i; omega) (run_le1 lexNoLine hi)) (List.Sublist.refl _) rfl rfl rfl rfl rfl rfl (by have := run_ge1 lexNoLine s i; omega) (by have := run_ge1 lexNoLine s i; omega) hq
set_option maxRecDepth 100000 in
set_option maxHeartbeats 4000000 in
theorem seg3 (s : ByteArray) (hs4 : s.size ≤ 4000) (R : LRes) (K i m ca n : Nat) (line start : Int) (any_ : Bool) (out : List Tok) (aa : Option Addr) (NA : List Box) (xs : List Value) (hSt : LexSt s out i m ca aa xs NA) (here : Cx) (hk : K = 2 * (s.size - i)) (hn : s.size - i ≤ n) (hi : i < s.size) (hq : lexWord (lexRun s n) s i line start out here = R) {E : Env} {H : List Box} {rest : Code} (hc : ((Tryz.f63.body.bind scopeOf).bind fun c => findLabel c 3) = some (.seq .skip rest)) (hsub : List.Sublist NA H) (q0 : E 0 = .string s) (q5 : E 5 = .slice aa m ca) (q6 : E 6 = .int .i64 (i : Int)) (q8 : E 8 = .int .i64 line) (q9 : E 9 = .int .i64 start) (q10 : E 10 = .bool any_) (q12 : E 12 = .complex .f64 (here).re (here).im) : AC Tryz.prog 118 rest (AJ (fun l' E' H' => ∃ k', k' < K ∧ LexJ s R l' k' E' H') (FinG Tryz.prog Tryz.f63 118 (TokPost R))) E H := by
 rw [show ((Tryz.f63.body.bind scopeOf).bind fun c => findLabel c 3) = some (.seq .skip _) from rfl] at hc
 cases hc
 refine ac_drop hsub ?_
 have hSt0 := hSt
 obtain ⟨hm, hxs, hmi, hil, hR⟩ := hSt
 obtain ⟨E0, rfl⟩ : ∃ E0 : Env, E = (((((((E0.put (some 0) (.string s)).put (some 5) (.slice aa m ca)).put (some 6) (.int .i64 (i : Int))).put (some 8) (.int .i64 line)).put (some 9) (.int .i64 start)).put (some 10) (.bool any_)).put (some 12) (.complex .f64 (here).re (here).im)) := ⟨E, by rw [put_self q0, put_self q5, put_self q6, put_self q8, put_self q9, put_self q10, put_self q12]⟩
 refine aQ (aL (aM 60 (.string s) rfl rfl (aM 61 (.int .i64 (i : Int)) rfl rfl (aC 62 (c_runW s i (by omega) hi) Tryz.func103 ⟨rfl, by decide⟩ rfl rfl (aA 7 (.int .i64 ((runTo lexInWord s (s.size - (i + 1)) (i + 1) : Nat) : Int)) rfl rfl (aN (aQ (aQ (aL (aM 63 (.int .i64 ((runTo lexInWord s (s.size - (i + 1)) (i + 1) : Nat) : Int)) rfl rfl (aM 64 (.int .i64 (i : Int)) rfl rfl (aB 65 (.int .i64 (w64 (((runTo lexInWord s (s.size - (i + 1)) (i + 1) : Nat) : Int) - (i : Int)))) rfl rfl rfl (bi_sub rfl) (aB 66 (.bool (decide ((w64 (((runTo lexInWord s (s.size - (i + 1)) (i + 1) : Nat) : Int) - (i : Int))) > 20))) rfl rfl rfl (bi_gtr rfl) (aN ?_))))))))))))))
 refine bool_split (decide ((w64 (((runTo lexInWord s (s.size - (i + 1)) (i + 1) : Nat) : Int) - (i : Int))) > 20)) (fun h1 => ?_) (fun h1 => ?_)
 ·refine ac_then' (b := decide ((w64 (((runTo lexInWord s (s.size - (i + 1)) (i + 1) : Nat) : Int) - (i : Int))) > 20)) h1 rfl (aQ (aL (aM 67 (.complex .f64 (here).re (here).im) rfl rfl (aA 2 (.slice none 0 0) rfl rfl (aA 3 (.complex .f64 (here).re (here).im) rfl rfl (aA 4 (.int .i64 3) rfl rfl (aN (ac_ret ?_))))))))
  simp only [lexWord, h1, cond_true, cond_false] at hq
  exact fing_ret (N := []) (tokPost_nil hq) (List.nil_sublist _) rfl (res_ttt rfl rfl rfl rfl)
 ·refine ac_else' (b := decide ((w64 (((runTo lexInWord s (s.size - (i + 1)) (i + 1) : Nat) : Int) - (i : Int))) > 20)) h1 rfl (ac_skip (aQ (aL (aM 68 (.slice aa m ca) rfl rfl (aM 69 (.string s) rfl rfl (aM 70 (.int .i64 (i : Int)) rfl rfl (aM 71 (.int .i64 ((runTo lexInWord s (s.size - (i + 1)) (i + 1) : Nat) : Int)) rfl rfl (ao 72 rfl rfl (st_ss (run_bd lexInWord hi) rfl Tryz.underlying9 rfl rfl rfl (aM 73 (.complex .f64 (here).re (here).im) rfl rfl ?_))))))))))
  refine ao 74 rfl rfl (st_bd (us := [(0, .int .i64 1), (1, .string (subS s (i : Int) ((runTo lexInWord s (s.size - (i + 1)) (i + 1) : Nat) : Int))), (2, .complex .f64 (here).re (here).im)]) (v := .agg #[.int .i64 1, .string (subS s (i : Int) ((runTo lexInWord s (s.size - (i + 1)) (i + 1) : Nat) : Int)), .complex .f64 (here).re (here).im]) rfl rfl (bd108_0_1_2 _ _ _) ?_)
  refine ao 75 rfl rfl (st_bs (us := [(0, .agg #[.int .i64 1, .string (subS s (i : Int) ((runTo lexInWord s (s.size - (i + 1)) (i + 1) : Nat) : Int)), .complex .f64 (here).re (here).im])]) (cs := [.int .i64 1, .string (subS s (i : Int) ((runTo lexInWord s (s.size - (i + 1)) (i + 1) : Nat) : Int)), .complex .f64 (here).re (here).im]) rfl rfl (bs71_1_0a _ _ _) fun g0 => ?_)
  refine ao 76 rfl rfl (st_appZ (A := [⟨g0, [.int .i64 1, .string (subS s (i : Int) ((runTo lexInWord s (s.size - (i + 1)) (i + 1) : Nat) : Int)), .complex .f64 (here).re (here).im], 108, false⟩]) (N := NA) (xs := xs) (news := [.int .i64 1, .string (subS s (i : Int) ((runTo lexInWord s (s.size - (i + 1)) (i + 1) : Nat) : Int)), .complex .f64 (here).re (here).im]) (r := []) slT71 rfl rfl rfl hR rfl (List.mem_of_getElem? (i := 0) rfl) rfl rfl rfl rfl (by decide) (by simp only [maxLen]; omega) (by omega) (fun v H H' hp h => ar_perm hp h) fun v9 Nu1 Ru1 => ?_)
  obtain ⟨au1, cu1, rfl⟩ := Ru1.form
  refine aA 5 (.slice au1 (m + 1) cu1) rfl rfl (aN (aQ (aL (aM 77 (.int .i64 ((runTo lexInWord s (s.size - (i + 1)) (i + 1) : Nat) : Int)) rfl rfl (aA 6 (.int .i64 ((runTo lexInWord s (s.size - (i + 1)) (i + 1) : Nat) : Int)) rfl rfl (aA 10 (.bool true) rfl rfl (aN (aQ ?_))))))))
  refine ac_goto ?_
  simp only [lexWord, h1, cond_true, cond_false] at hq
  exact lexj0 (i := (runTo lexInWord s (s.size - (i + 1)) (i + 1))) (n := n) (lexSt_more hm hxs (by have := run_ge1 lexInWord s i; omega) (run_le1 lexInWord hi) (by rfl) Ru1) (List.Sublist.cons _ (List.Sublist.refl _)) rfl rfl rfl rfl rfl rfl (by have := run_ge1 lexInWord s i; omega) (by have := run_ge1 lexInWord s i; omega) hq
set_option maxRecDepth 100000 in
set_option maxHeartbeats 4000000 in
theorem seg4 (s : ByteArray) (hs4 : s.size ≤ 4000) (R : LRes) (K i m ca n : Nat) (line start : Int) (any_ : Bool) (out : List Tok) (aa : Option Addr) (NA : List Box) (xs : List Value) (hSt : LexSt s out i m ca aa xs NA) (here : Cx) (hk : K = 2 * (s.size - i)) (hn : s.size - i ≤ n) (hi : i < s.size) (hq : lexNum (lexRun s n) s i line start out here = R) {E : Env} {H : List Box} {rest : Code} (hc : ((Tryz.f63.body.bind scopeOf).bind fun c => findLabel c 4) = some (.seq .skip rest)) (hsub : List.Sublist NA H) (q0 : E 0 = .string s) (q5 : E 5 = .slice aa m ca) (q6 : E 6 = .int .i64 (i : Int)) (q8 : E 8 = .int .i64 line) (q9 : E 9 = .int .i64 start) (q10 : E 10 = .bool any_) (q12 : E 12 = .complex .f64 (here).re (here).im) : AC Tryz.prog 118 rest (AJ (fun l' E' H' => ∃ k', k' < K ∧ LexJ s R l' k' E' H') (FinG Tryz.prog Tryz.f63 118 (TokPost R))) E H := by
 rw [show ((Tryz.f63.body.bind scopeOf).bind fun c => findLabel c 4) = some (.seq .skip _) from rfl] at hc
 cases hc
 refine ac_drop hsub ?_
 have hSt0 := hSt
 obtain ⟨hm, hxs, hmi, hil, hR⟩ := hSt
 obtain ⟨E0, rfl⟩ : ∃ E0 : Env, E = (((((((E0.put (some 0) (.string s)).put (some 5) (.slice aa m ca)).put (some 6) (.int .i64 (i : Int))).put (some 8) (.int .i64 line)).put (some 9) (.int .i64 start)).put (some 10) (.bool any_)).put (some 12) (.complex .f64 (here).re (here).im)) := ⟨E, by rw [put_self q0, put_self q5, put_self q6, put_self q8, put_self q9, put_self q10, put_self q12]⟩
 refine aQ (aL (aM 78 (.string s) rfl rfl (aM 79 (.int .i64 (i : Int)) rfl rfl (aC 80 (c_runN s i (by omega) hi) Tryz.func103 ⟨rfl, by decide⟩ rfl rfl (aA 7 (.int .i64 ((runTo lexInNum s (s.size - (i + 1)) (i + 1) : Nat) : Int)) rfl rfl (aN (aQ (aQ (aL (aM 82 (.string s) rfl rfl (aM 83 (.int .i64 (i : Int)) rfl rfl (aM 84 (.int .i64 ((runTo lexInNum s (s.size - (i + 1)) (i + 1) : Nat) : Int)) rfl rfl (ao 85 rfl rfl (st_ss (run_bd lexInNum hi) rfl Tryz.underlying9 rfl rfl rfl (aC 86 (c_decRead (subS s (i : Int) ((runTo lexInNum s (s.size - (i + 1)) (i + 1) : Nat) : Int)) (Nat.le_trans (subS_le _ _ _ hs4) (by decide))) Tryz.func28 ⟨rfl, by decide⟩ rfl rfl ?_)))))))))))))))
 refine aM 81 (.tuple #[.agg #[.int .i64 (((decRead (subS s (i : Int) ((runTo lexInNum s (s.size - (i + 1)) (i + 1) : Nat) : Int))).1).c), .int .i64 (((decRead (subS s (i : Int) ((runTo lexInNum s (s.size - (i + 1)) (i + 1) : Nat) : Int))).1).scale)], .bool ((decRead (subS s (i : Int) ((runTo lexInNum s (s.size - (i + 1)) (i + 1) : Nat) : Int))).2)]) rfl rfl (aX 87 (.agg #[.int .i64 (((decRead (subS s (i : Int) ((runTo lexInNum s (s.size - (i + 1)) (i + 1) : Nat) : Int))).1).c), .int .i64 (((decRead (subS s (i : Int) ((runTo lexInNum s (s.size - (i + 1)) (i + 1) : Nat) : Int))).1).scale)]) rfl rfl rfl ?_)
 refine aX 88 (.bool ((decRead (subS s (i : Int) ((runTo lexInNum s (s.size - (i + 1)) (i + 1) : Nat) : Int))).2)) rfl rfl rfl (ao 13 rfl rfl (st_new zero26 rfl fun g0 => (aS [.int .i64 (((decRead (subS s (i : Int) ((runTo lexInNum s (s.size - (i + 1)) (i + 1) : Nat) : Int))).1).c), .int .i64 (((decRead (subS s (i : Int) ((runTo lexInNum s (s.size - (i + 1)) (i + 1) : Nat) : Int))).1).scale)] agg26 0 rfl rfl rfl rfl rfl rfl (aA 14 (.bool ((decRead (subS s (i : Int) ((runTo lexInNum s (s.size - (i + 1)) (i + 1) : Nat) : Int))).2)) rfl rfl (aN (aQ (aL (aM 89 (.bool ((decRead (subS s (i : Int) ((runTo lexInNum s (s.size - (i + 1)) (i + 1) : Nat) : Int))).2)) rfl rfl ?_))))))))
 refine ao 90 rfl rfl (st_un (v := .bool (!((decRead (subS s (i : Int) ((runTo lexInNum s (s.size - (i + 1)) (i + 1) : Nat) : Int))).2))) rfl rfl (un_not rfl) (aN ?_))
 refine bool_split ((decRead (subS s (i : Int) ((runTo lexInNum s (s.size - (i + 1)) (i + 1) : Nat) : Int))).2) (fun h1 => ?_) (fun h1 => ?_)
 ·refine ac_else' (b := !((decRead (subS s (i : Int) ((runTo lexInNum s (s.size - (i + 1)) (i + 1) : Nat) : Int))).2)) (by rw [h1]; rfl) rfl (ac_skip (aQ (aL (aM 92 (.slice aa m ca) rfl rfl (aM 93 (.string s) rfl rfl (aM 94 (.int .i64 (i : Int)) rfl rfl (aM 95 (.int .i64 ((runTo lexInNum s (s.size - (i + 1)) (i + 1) : Nat) : Int)) rfl rfl (ao 96 rfl rfl (st_ss (run_bd lexInNum hi) rfl Tryz.underlying9 rfl rfl rfl (aM 97 (.complex .f64 (here).re (here).im) rfl rfl ?_))))))))))
  refine ao 98 rfl rfl (st_bd (us := [(0, .int .i64 2), (1, .string (subS s (i : Int) ((runTo lexInNum s (s.size - (i + 1)) (i + 1) : Nat) : Int))), (2, .complex .f64 (here).re (here).im)]) (v := .agg #[.int .i64 2, .string (subS s (i : Int) ((runTo lexInNum s (s.size - (i + 1)) (i + 1) : Nat) : Int)), .complex .f64 (here).re (here).im]) rfl rfl (bd108_0_1_2 _ _ _) ?_)
  refine ao 99 rfl rfl (st_bs (us := [(0, .agg #[.int .i64 2, .string (subS s (i : Int) ((runTo lexInNum s (s.size - (i + 1)) (i + 1) : Nat) : Int)), .complex .f64 (here).re (here).im])]) (cs := [.int .i64 2, .string (subS s (i : Int) ((runTo lexInNum s (s.size - (i + 1)) (i + 1) : Nat) : Int)), .complex .f64 (here).re (here).im]) rfl rfl (bs71_1_0a _ _ _) fun g1 => ?_)
  refine ao 100 rfl rfl (st_appZ (A := [⟨g1, [.int .i64 2, .string (subS s (i : Int) ((runTo lexInNum s (s.size - (i + 1)) (i + 1) : Nat) : Int)), .complex .f64 (here).re (here).im], 108, false⟩, ⟨g0, [.int .i64 (((decRead (subS s (i : Int) ((runTo lexInNum s (s.size - (i + 1)) (i + 1) : Nat) : Int))).1).c), .int .i64 (((decRead (subS s (i : Int) ((runTo lexInNum s (s.size - (i + 1)) (i + 1) : Nat) : Int))).1).scale)], 26, false⟩]) (N := NA) (xs := xs) (news := [.int .i64 2, .string (subS s (i : Int) ((runTo lexInNum s (s.size - (i + 1)) (i + 1) : Nat) : Int)), .complex .f64 (here).re (here).im]) (r := []) slT71 rfl rfl rfl hR rfl (List.mem_of_getElem? (i := 0) rfl) rfl rfl rfl rfl (by decide) (by simp only [maxLen]; omega) (by omega) (fun v H H' hp h => ar_perm hp h) fun v9 Nu1 Ru1 => ?_)
  obtain ⟨au1, cu1, rfl⟩ := Ru1.form
  refine aA 5 (.slice au1 (m + 1) cu1) rfl rfl (aN (aQ (aL (aM 101 (.int .i64 ((runTo lexInNum s (s.size - (i + 1)) (i + 1) : Nat) : Int)) rfl rfl (aA 6 (.int .i64 ((runTo lexInNum s (s.size - (i + 1)) (i + 1) : Nat) : Int)) rfl rfl (aA 10 (.bool true) rfl rfl (aN (aQ ?_))))))))
  refine ac_goto ?_
  simp only [lexNum, h1, cond_true, cond_false] at hq
  exact lexj0 (i := (runTo lexInNum s (s.size - (i + 1)) (i + 1))) (n := n) (lexSt_more hm hxs (by have := run_ge1 lexInNum s i; omega) (run_le1 lexInNum hi) (by rfl) Ru1) (List.Sublist.cons _ (List.Sublist.cons _ (List.Sublist.refl _))) rfl rfl rfl rfl rfl rfl (by have := run_ge1 lexInNum s i; omega) (by have := run_ge1 lexInNum s i; omega) hq
 ·refine ac_then' (b := !((decRead (subS s (i : Int) ((runTo lexInNum s (s.size - (i + 1)) (i + 1) : Nat) : Int))).2)) (by rw [h1]; rfl) rfl (aQ (aL (aM 91 (.complex .f64 (here).re (here).im) rfl rfl (aA 2 (.slice none 0 0) rfl rfl (aA 3 (.complex .f64 (here).re (here).im) rfl rfl (aA 4 (.int .i64 2) rfl rfl (aN (ac_ret ?_))))))))
  simp only [lexNum, h1, cond_true, cond_false] at hq
  exact fing_ret (N := []) (tokPost_nil hq) (List.nil_sublist _) rfl (res_ttt rfl rfl rfl rfl)
theorem tok_pass (s : ByteArray) (hs4 : s.size ≤ 4000) (R : LRes) {c : Code} (hc : Tryz.f63.body.bind scopeOf = some c) (l k : Nat) (E : Env) (H : List Box) (h : LexJ s R l k E H) : ∃ rest, findLabel c l = some rest ∧ AC Tryz.prog 118 rest (AJ (fun l' E' H' => ∃ k', k' < k ∧ LexJ s R l' k' E' H') (FinG Tryz.prog Tryz.f63 118 (TokPost R))) E H := by
 have key : ∀ rest, (((Tryz.f63.body.bind scopeOf).bind fun c => findLabel c l) = some rest) → findLabel c l = some rest := by
  intro rest hr
  rw [hc] at hr
  exact hr
 obtain ⟨i, m, ca, n, line, start, any_, here, out, aa, NA, xs, hSt, hsub, q0, q5, q6, q8, q9, q10, h⟩ := h
 rcases h with ⟨rfl, hk, hn, hR⟩ | ⟨q12, hk, hn, ⟨rfl, hR⟩ | ⟨hi, ⟨rfl, hR⟩ | ⟨rfl, hR⟩ | ⟨rfl, hR⟩⟩⟩
 ·obtain ⟨n, rfl⟩ : ∃ n', n = n' + 1 := ⟨n - 1, by omega⟩
  exact ⟨_, key _ rfl, ac_seq (ac_skip (seg0 s hs4 R k i m ca n line start any_ out aa NA xs hSt hk (by omega) hR rfl hsub q0 q5 q6 q8 q9 q10))⟩
 ·exact ⟨_, key _ rfl, ac_seq (ac_skip (seg1 s hs4 R k i m ca n line start any_ out aa NA xs hSt here hk hn hR rfl hsub q0 q5 q6 q8 q9 q10 q12))⟩
 ·exact ⟨_, key _ rfl, ac_seq (ac_skip (seg2 s hs4 R k i m ca n line start any_ out aa NA xs hSt here hk hn hi hR rfl hsub q0 q5 q6 q8 q9 q10 q12))⟩
 ·exact ⟨_, key _ rfl, ac_seq (ac_skip (seg3 s hs4 R k i m ca n line start any_ out aa NA xs hSt here hk hn hi hR rfl hsub q0 q5 q6 q8 q9 q10 q12))⟩
 ·exact ⟨_, key _ rfl, ac_seq (ac_skip (seg4 s hs4 R k i m ca n line start any_ out aa NA xs hSt here hk hn hi hR rfl hsub q0 q5 q6 q8 q9 q10 q12))⟩
set_option maxRecDepth 100000 in
theorem c_tokBig (s : ByteArray) (hs : 4000 < s.size) : Gives Tryz.prog 63 #[.string s] [] (TokPost (lexAll s)) := by
 refine gives_fin Tryz.func63 rfl rfl rfl rfl (aQ (aL (aA 2 (.slice none 0 0) rfl rfl (aA 3 (.complex .f64 ((⟨0, 0⟩ : Cx)).re ((⟨0, 0⟩ : Cx)).im) rfl rfl (aA 4 (.int .i64 0) rfl rfl (aN ?_))))))
 refine ac_scope (fun l k E H => False) ?_ ?_
 rotate_left
 ·intro l k E H h; exact h.elim
 refine aQ (aL (aA 5 (.slice none 0 0) rfl rfl (aN (aQ (aL (aA 6 (.int .i64 0) rfl rfl (aA 7 (.int .i64 0) rfl rfl (aN (aQ (aL (aA 8 (.int .i64 1) rfl rfl (aA 9 (.int .i64 0) rfl rfl (aN (aQ (aL (aA 10 (.bool false) rfl rfl (aN (aQ (aL (aA 11 (.int .u8 0) rfl rfl (aN (aQ (aL (aA 12 (.complex .f64 ((⟨0, 0⟩ : Cx)).re ((⟨0, 0⟩ : Cx)).im) rfl rfl (aN (aQ (aQ (aL (aM 15 (.string s) rfl rfl (ao 16 rfl rfl (st_slen (s := s) rfl Tryz.underlying9 rfl (aB 17 (.bool (decide (((s).size : Int) > 4000))) rfl rfl rfl (bi_gtr rfl) (aN (ac_then' (b := decide (((s).size : Int) > 4000)) (decide_eq_true (by omega)) rfl (aQ (aL (aA 2 (.slice none 0 0) rfl rfl ?_)))))))))))))))))))))))))))))))))))))
 refine aA 3 (.complex .f64 ((⟨0, 0⟩ : Cx)).re ((⟨0, 0⟩ : Cx)).im) rfl rfl (aA 4 (.int .i64 3) rfl rfl (aN (ac_ret ?_)))
 exact fing_ret (N := []) (tokPost_nil (by rw [lexAll, decide_eq_true (by omega)]; rfl)) (List.nil_sublist _) rfl (res_ttt rfl rfl rfl rfl)
set_option maxRecDepth 100000 in
theorem c_tokFit (s : ByteArray) (hs : s.size ≤ 4000) : Gives Tryz.prog 63 #[.string s] [] (TokPost (lexAll s)) := by
 refine gives_fin Tryz.func63 rfl rfl rfl rfl (aQ (aL (aA 2 (.slice none 0 0) rfl rfl (aA 3 (.complex .f64 ((⟨0, 0⟩ : Cx)).re ((⟨0, 0⟩ : Cx)).im) rfl rfl (aA 4 (.int .i64 0) rfl rfl (aN ?_))))))
 refine ac_scope (fun l k E H => LexJ s (lexAll s) l k E H) ?_ ?_
 rotate_left
 ·intro l k E H h; exact tok_pass s (by omega) (lexAll s) rfl l k E H h
 refine aQ (aL (aA 5 (.slice none 0 0) rfl rfl (aN (aQ (aL (aA 6 (.int .i64 0) rfl rfl (aA 7 (.int .i64 0) rfl rfl (aN (aQ (aL (aA 8 (.int .i64 1) rfl rfl (aA 9 (.int .i64 0) rfl rfl (aN (aQ (aL (aA 10 (.bool false) rfl rfl (aN (aQ (aL (aA 11 (.int .u8 0) rfl rfl (aN (aQ (aL (aA 12 (.complex .f64 ((⟨0, 0⟩ : Cx)).re ((⟨0, 0⟩ : Cx)).im) rfl rfl (aN (aQ (aQ (aL (aM 15 (.string s) rfl rfl (ao 16 rfl rfl (st_slen (s := s) rfl Tryz.underlying9 rfl (aB 17 (.bool (decide (((s).size : Int) > 4000))) rfl rfl rfl (bi_gtr rfl) (aN (ac_else' (b := decide (((s).size : Int) > 4000)) (decide_eq_false (by omega)) rfl (ac_skip (aQ ?_))))))))))))))))))))))))))))))))))))
 refine ac_label ?_
 exact AC.mono (seg0 s (by omega) (lexAll s) (2 * (s.size - 0) + 1) 0 0 0 s.size 1 0 false [] none [] [] ⟨rfl, rfl, Nat.le_refl _, Nat.zero_le _, Row.nil _ _⟩ rfl (by omega) (by rw [lexAll, decide_eq_false (by omega)]; rfl) rfl (List.Sublist.refl _) rfl rfl rfl rfl rfl rfl) aj_weak
theorem c_tokens (s : ByteArray) : Gives Tryz.prog 63 #[.string s] [] (TokPost (lexAll s)) := by
 by_cases h : s.size ≤ 4000
 ·exact c_tokFit s h
 ·exact c_tokBig s (by omega)
end Go.Proofs.YtalffjplbhelcaaGreatDoor
namespace Go.Proofs.YtalffjplbhelcaaGreatDoor
open Go.RowKit
section
variable {p : Program} {n : Nat} {o : Oper} {H : List Box} {ρ : Operand → Value} {K : Post}
end
end Go.Proofs.YtalffjplbhelcaaGreatDoor
namespace Go.Proofs.YtalffjplbhelcaaGreatDoor
open Go.RowKit
attribute [local irreducible] AC AR DWalk
structure D3 where
 d0 : Dec
 d1 : Dec
 d2 : Dec
deriving DecidableEq
structure Glass where
 name : ByteArray
 b : D3
 c : D3
deriving DecidableEq
def Glass.cells (s : Glass) : List Value := [.string s.name, .int .i64 s.b.d0.c, .int .i64 s.b.d0.scale, .int .i64 s.b.d1.c, .int .i64 s.b.d1.scale, .int .i64 s.b.d2.c, .int .i64 s.b.d2.scale, .int .i64 s.c.d0.c, .int .i64 s.c.d0.scale, .int .i64 s.c.d1.c, .int .i64 s.c.d1.scale, .int .i64 s.c.d2.c, .int .i64 s.c.d2.scale]
def Glass.zero : Glass := ⟨⟨#[]⟩, ⟨⟨0, 0⟩, ⟨0, 0⟩, ⟨0, 0⟩⟩, ⟨⟨0, 0⟩, ⟨0, 0⟩, ⟨0, 0⟩⟩⟩
def GlI (a : Option Addr) (m : Nat) (x : Nat → Glass) (H : List Box) : Prop :=
 ∀ i, i < m → ∃ (g off : Nat) (cs : List Value) (t : TypeId) (r : Bool), a = some ⟨g, off, none⟩ ∧ (⟨g, cs, t, r⟩ : Box) ∈ H ∧ (cs.drop (off + i * 13)).take 13 = (x i).cells
def gFind (x : Nat → Glass) (nm : ByteArray) : Nat → Nat → Glass × Bool
 | 0, _ => (Glass.zero, false)
 | j + 1, i => bif sEq (x i).name nm then (x i, true) else gFind x nm j (i + 1)
end Go.Proofs.YtalffjplbhelcaaGreatDoor
namespace Go.Proofs.YtalffjplbhelcaaGreatDoor
open Go.RowKit
attribute [local irreducible] AC AR DWalk
def gIndex_b0 (x : Glass) (wave : Iv) (g : Nat) : Box := ⟨g, (Glass.cells x), 29, false⟩
def gIndex_b1 (x : Glass) (wave : Iv) (g : Nat) : Box := ⟨g, [.int .i64 ((ivSqr wave).lo), .int .i64 ((ivSqr wave).hi), .bool ((ivSqr wave).no)], 32, false⟩
def gIndex_b2 (x : Glass) (wave : Iv) (g : Nat) : Box := ⟨g, [.int .i64 ((ivPoint 65536).lo), .int .i64 ((ivPoint 65536).hi), .bool ((ivPoint 65536).no)], 32, false⟩
def gIndex_e0 (x : Glass) (wave : Iv) : Iv := (ivDiv (ivMul (decOf x.b.d0) (ivSqr wave)) (ivSub (ivSqr wave) (decOf x.c.d0)))
def gIndex_e1 (x : Glass) (wave : Iv) : Iv := (ivDiv (ivMul (decOf x.b.d1) (ivSqr wave)) (ivSub (ivSqr wave) (decOf x.c.d1)))
def gIndex_e2 (x : Glass) (wave : Iv) : Iv := (ivAdd (ivAdd (ivPoint 65536) (gIndex_e0 x wave)) (gIndex_e1 x wave))
def gIndex_e3 (x : Glass) (wave : Iv) : Iv := (ivDiv (ivMul (decOf x.b.d2) (ivSqr wave)) (ivSub (ivSqr wave) (decOf x.c.d2)))
def gIndex (x : Glass) (wave : Iv) : Iv := (bif sEq x.name (⟨#[97, 105, 114]⟩ : ByteArray) then (ivPoint 65536) else (ivRoot (ivAdd (gIndex_e2 x wave) (gIndex_e3 x wave))))
set_option maxRecDepth 100000 in
set_option maxHeartbeats 4000000 in
theorem c_gIndex (x : Glass) (wave : Iv) : Gets Tryz.prog 14 #[.agg (Glass.cells x).toArray, (Iv.v wave)] (Iv.v (gIndex x wave)) := by
 refine gets_fin Tryz.func14 rfl rfl rfl (aQ (aL (ao 2 rfl rfl (st_box (v := .agg (Glass.cells x).toArray) (cs := (Glass.cells x)) rfl rfl rfl fun g0 => (ao 3 rfl rfl (st_box (v := (Iv.v wave)) (cs := [.int .i64 wave.lo, .int .i64 wave.hi, .bool wave.no]) rfl rfl rfl fun g1 => (ao 4 rfl rfl (st_new zero32 rfl fun g2 => (aN (aQ ?_))))))))))
 refine ac_any follows 7 rfl (fun Φ stepR doneR permR => ?_)
 refine ((fun s1_21 => ?_) : (∀ (E : Env) (b1_4 : Nat) (b1_3 : Nat), E 2 = .pointer (some ⟨g0, 0, none⟩) → E 4 = .pointer (some ⟨g2, 0, none⟩) → E 5 = .pointer (some ⟨b1_3, 0, none⟩) → E 6 = .pointer (some ⟨b1_4, 0, none⟩) → Φ 0 [true, true, true, true, true, true, true] E [(gIndex_b1 x wave b1_4), (gIndex_b2 x wave b1_3), ⟨g2, [.int .i64 0, .int .i64 0, .bool false], 32, false⟩, ⟨g1, [.int .i64 wave.lo, .int .i64 wave.hi, .bool wave.no], 32, false⟩, (gIndex_b0 x wave g0)]) → _) ?_
 ·have s1_20 : ∀ (E : Env) (b1_4 : Nat) (b1_3 : Nat), E 2 = .pointer (some ⟨g0, 0, none⟩) → E 4 = .pointer (some ⟨g2, 0, none⟩) → E 5 = .pointer (some ⟨b1_3, 0, none⟩) → E 6 = .pointer (some ⟨b1_4, 0, none⟩) → E 10 = (Iv.v (ivSqr wave)) → Φ 1 [true, true, true, true, true, true, false] E [⟨b1_4, [.int .i64 0, .int .i64 0, .bool false], 32, false⟩, (gIndex_b2 x wave b1_3), ⟨g2, [.int .i64 0, .int .i64 0, .bool false], 32, false⟩, ⟨g1, [.int .i64 wave.lo, .int .i64 wave.hi, .bool wave.no], 32, false⟩, (gIndex_b0 x wave g0)] := by
   intro E b1_4 b1_3 q2 q4 q5 q6 q10
   obtain ⟨E0, rfl⟩ : ∃ E0 : Env, E = (((((E0.put (some 2) (.pointer (some ⟨g0, 0, none⟩))).put (some 4) (.pointer (some ⟨g2, 0, none⟩))).put (some 5) (.pointer (some ⟨b1_3, 0, none⟩))).put (some 6) (.pointer (some ⟨b1_4, 0, none⟩))).put (some 10) ((Iv.v (ivSqr wave)))) := ⟨E, by rw [put_self q2, put_self q4, put_self q5, put_self q6, put_self q10]⟩
   refine stepR 0 _ _ _ [6] (by kernel_rfl) rfl ⟨?_, trivial⟩
   ·refine opR_op (d := none) rfl rfl rfl (st_sta (cs := [.int .i64 ((ivSqr wave).lo), .int .i64 ((ivSqr wave).hi), .bool ((ivSqr wave).no)]) agg32 0 rfl rfl rfl rfl rfl rfl rfl rfl rfl ?_)
    exact s1_21 _ _ _ rfl rfl rfl rfl
  have s1_19 : ∀ (E : Env) (b1_4 : Nat) (b1_3 : Nat), E 2 = .pointer (some ⟨g0, 0, none⟩) → E 4 = .pointer (some ⟨g2, 0, none⟩) → E 5 = .pointer (some ⟨b1_3, 0, none⟩) → E 6 = .pointer (some ⟨b1_4, 0, none⟩) → E 8 = (Iv.v (ivPoint 65536)) → E 10 = (Iv.v (ivSqr wave)) → Φ 2 [true, true, true, true, true, false, false] E [⟨b1_4, [.int .i64 0, .int .i64 0, .bool false], 32, false⟩, ⟨b1_3, [.int .i64 0, .int .i64 0, .bool false], 32, false⟩, ⟨g2, [.int .i64 0, .int .i64 0, .bool false], 32, false⟩, ⟨g1, [.int .i64 wave.lo, .int .i64 wave.hi, .bool wave.no], 32, false⟩, (gIndex_b0 x wave g0)] := by
   intro E b1_4 b1_3 q2 q4 q5 q6 q8 q10
   obtain ⟨E0, rfl⟩ : ∃ E0 : Env, E = ((((((E0.put (some 2) (.pointer (some ⟨g0, 0, none⟩))).put (some 4) (.pointer (some ⟨g2, 0, none⟩))).put (some 5) (.pointer (some ⟨b1_3, 0, none⟩))).put (some 6) (.pointer (some ⟨b1_4, 0, none⟩))).put (some 8) ((Iv.v (ivPoint 65536)))).put (some 10) ((Iv.v (ivSqr wave)))) := ⟨E, by rw [put_self q2, put_self q4, put_self q5, put_self q6, put_self q8, put_self q10]⟩
   refine stepR 1 _ _ _ [5] (by kernel_rfl) rfl ⟨?_, trivial⟩
   ·refine opR_op (d := none) rfl rfl rfl (st_sta (cs := [.int .i64 ((ivPoint 65536).lo), .int .i64 ((ivPoint 65536).hi), .bool ((ivPoint 65536).no)]) agg32 1 rfl rfl rfl rfl rfl rfl rfl rfl rfl ?_)
    exact s1_20 _ _ _ rfl rfl rfl rfl rfl
  have s1_18 : ∀ (E : Env) (b1_3 : Nat), E 2 = .pointer (some ⟨g0, 0, none⟩) → E 4 = .pointer (some ⟨g2, 0, none⟩) → E 5 = .pointer (some ⟨b1_3, 0, none⟩) → E 8 = (Iv.v (ivPoint 65536)) → E 10 = (Iv.v (ivSqr wave)) → Φ 3 [true, true, true, true, false, false, false] E [⟨b1_3, [.int .i64 0, .int .i64 0, .bool false], 32, false⟩, ⟨g2, [.int .i64 0, .int .i64 0, .bool false], 32, false⟩, ⟨g1, [.int .i64 wave.lo, .int .i64 wave.hi, .bool wave.no], 32, false⟩, (gIndex_b0 x wave g0)] := by
   intro E b1_3 q2 q4 q5 q8 q10
   obtain ⟨E0, rfl⟩ : ∃ E0 : Env, E = (((((E0.put (some 2) (.pointer (some ⟨g0, 0, none⟩))).put (some 4) (.pointer (some ⟨g2, 0, none⟩))).put (some 5) (.pointer (some ⟨b1_3, 0, none⟩))).put (some 8) ((Iv.v (ivPoint 65536)))).put (some 10) ((Iv.v (ivSqr wave)))) := ⟨E, by rw [put_self q2, put_self q4, put_self q5, put_self q8, put_self q10]⟩
   refine stepR 2 _ _ _ [4] (by kernel_rfl) rfl ⟨?_, trivial⟩
   ·refine opR_op (d := (some 6)) rfl rfl rfl (st_new zero32 rfl fun b1_4 => ?_)
    exact s1_19 _ _ _ rfl rfl rfl rfl rfl rfl
  have s1_17 : ∀ (E : Env) (b1_4 : Nat), E 2 = .pointer (some ⟨g0, 0, none⟩) → E 4 = .pointer (some ⟨g2, 0, none⟩) → E 6 = .pointer (some ⟨b1_4, 0, none⟩) → E 8 = (Iv.v (ivPoint 65536)) → E 10 = (Iv.v (ivSqr wave)) → Φ 3 [true, true, true, false, true, false, false] E [⟨b1_4, [.int .i64 0, .int .i64 0, .bool false], 32, false⟩, ⟨g2, [.int .i64 0, .int .i64 0, .bool false], 32, false⟩, ⟨g1, [.int .i64 wave.lo, .int .i64 wave.hi, .bool wave.no], 32, false⟩, (gIndex_b0 x wave g0)] := by
   intro E b1_4 q2 q4 q6 q8 q10
   obtain ⟨E0, rfl⟩ : ∃ E0 : Env, E = (((((E0.put (some 2) (.pointer (some ⟨g0, 0, none⟩))).put (some 4) (.pointer (some ⟨g2, 0, none⟩))).put (some 6) (.pointer (some ⟨b1_4, 0, none⟩))).put (some 8) ((Iv.v (ivPoint 65536)))).put (some 10) ((Iv.v (ivSqr wave)))) := ⟨E, by rw [put_self q2, put_self q4, put_self q6, put_self q8, put_self q10]⟩
   refine stepR 2 _ _ _ [3] (by kernel_rfl) rfl ⟨?_, trivial⟩
   ·refine opR_op (d := (some 5)) rfl rfl rfl (st_new zero32 rfl fun b1_3 => ?_)
    exact permR _ _ _ _ _ (List.Perm.trans (List.Perm.swap _ _ _) (List.Perm.cons _ (List.Perm.refl _))).symm (s1_19 _ _ _ rfl rfl rfl rfl rfl rfl)
  have s1_16 : ∀ (E : Env) (b1_4 : Nat) (b1_3 : Nat), E 2 = .pointer (some ⟨g0, 0, none⟩) → E 4 = .pointer (some ⟨g2, 0, none⟩) → E 5 = .pointer (some ⟨b1_3, 0, none⟩) → E 6 = .pointer (some ⟨b1_4, 0, none⟩) → E 8 = (Iv.v (ivPoint 65536)) → E 9 = (Iv.v wave) → Φ 3 [true, true, false, true, true, false, false] E [⟨b1_4, [.int .i64 0, .int .i64 0, .bool false], 32, false⟩, ⟨b1_3, [.int .i64 0, .int .i64 0, .bool false], 32, false⟩, ⟨g2, [.int .i64 0, .int .i64 0, .bool false], 32, false⟩, ⟨g1, [.int .i64 wave.lo, .int .i64 wave.hi, .bool wave.no], 32, false⟩, (gIndex_b0 x wave g0)] := by
   intro E b1_4 b1_3 q2 q4 q5 q6 q8 q9
   obtain ⟨E0, rfl⟩ : ∃ E0 : Env, E = ((((((E0.put (some 2) (.pointer (some ⟨g0, 0, none⟩))).put (some 4) (.pointer (some ⟨g2, 0, none⟩))).put (some 5) (.pointer (some ⟨b1_3, 0, none⟩))).put (some 6) (.pointer (some ⟨b1_4, 0, none⟩))).put (some 8) ((Iv.v (ivPoint 65536)))).put (some 9) (Iv.v wave)) := ⟨E, by rw [put_self q2, put_self q4, put_self q5, put_self q6, put_self q8, put_self q9]⟩
   refine stepR 2 _ _ _ [2] (by kernel_rfl) rfl ⟨?_, trivial⟩
   ·refine opR_op (d := (some 10)) rfl rfl rfl (st_cf (c_ivSqr wave) Tryz.func43 rfl (by decide) rfl rfl rfl ?_)
    exact s1_19 _ _ _ rfl rfl rfl rfl rfl rfl
  have s1_15 : ∀ (E : Env), E 2 = .pointer (some ⟨g0, 0, none⟩) → E 4 = .pointer (some ⟨g2, 0, none⟩) → E 8 = (Iv.v (ivPoint 65536)) → E 10 = (Iv.v (ivSqr wave)) → Φ 4 [true, true, true, false, false, false, false] E [⟨g2, [.int .i64 0, .int .i64 0, .bool false], 32, false⟩, ⟨g1, [.int .i64 wave.lo, .int .i64 wave.hi, .bool wave.no], 32, false⟩, (gIndex_b0 x wave g0)] := by
   intro E q2 q4 q8 q10
   obtain ⟨E0, rfl⟩ : ∃ E0 : Env, E = ((((E0.put (some 2) (.pointer (some ⟨g0, 0, none⟩))).put (some 4) (.pointer (some ⟨g2, 0, none⟩))).put (some 8) ((Iv.v (ivPoint 65536)))).put (some 10) ((Iv.v (ivSqr wave)))) := ⟨E, by rw [put_self q2, put_self q4, put_self q8, put_self q10]⟩
   refine stepR 3 _ _ _ [3, 4] (by kernel_rfl) rfl ⟨?_, ?_, trivial⟩
   ·refine opR_op (d := (some 5)) rfl rfl rfl (st_new zero32 rfl fun b1_3 => ?_)
    exact s1_18 _ _ rfl rfl rfl rfl rfl
   ·refine opR_op (d := (some 6)) rfl rfl rfl (st_new zero32 rfl fun b1_4 => ?_)
    exact s1_17 _ _ rfl rfl rfl rfl rfl
  have s1_14 : ∀ (E : Env) (b1_3 : Nat), E 2 = .pointer (some ⟨g0, 0, none⟩) → E 4 = .pointer (some ⟨g2, 0, none⟩) → E 5 = .pointer (some ⟨b1_3, 0, none⟩) → E 8 = (Iv.v (ivPoint 65536)) → E 9 = (Iv.v wave) → Φ 4 [true, true, false, true, false, false, false] E [⟨b1_3, [.int .i64 0, .int .i64 0, .bool false], 32, false⟩, ⟨g2, [.int .i64 0, .int .i64 0, .bool false], 32, false⟩, ⟨g1, [.int .i64 wave.lo, .int .i64 wave.hi, .bool wave.no], 32, false⟩, (gIndex_b0 x wave g0)] := by
   intro E b1_3 q2 q4 q5 q8 q9
   obtain ⟨E0, rfl⟩ : ∃ E0 : Env, E = (((((E0.put (some 2) (.pointer (some ⟨g0, 0, none⟩))).put (some 4) (.pointer (some ⟨g2, 0, none⟩))).put (some 5) (.pointer (some ⟨b1_3, 0, none⟩))).put (some 8) ((Iv.v (ivPoint 65536)))).put (some 9) (Iv.v wave)) := ⟨E, by rw [put_self q2, put_self q4, put_self q5, put_self q8, put_self q9]⟩
   refine stepR 3 _ _ _ [2, 4] (by kernel_rfl) rfl ⟨?_, ?_, trivial⟩
   ·refine opR_op (d := (some 10)) rfl rfl rfl (st_cf (c_ivSqr wave) Tryz.func43 rfl (by decide) rfl rfl rfl ?_)
    exact s1_18 _ _ rfl rfl rfl rfl rfl
   ·refine opR_op (d := (some 6)) rfl rfl rfl (st_new zero32 rfl fun b1_4 => ?_)
    exact s1_16 _ _ _ rfl rfl rfl rfl rfl rfl
  have s1_13 : ∀ (E : Env) (b1_4 : Nat), E 2 = .pointer (some ⟨g0, 0, none⟩) → E 4 = .pointer (some ⟨g2, 0, none⟩) → E 6 = .pointer (some ⟨b1_4, 0, none⟩) → E 8 = (Iv.v (ivPoint 65536)) → E 9 = (Iv.v wave) → Φ 4 [true, true, false, false, true, false, false] E [⟨b1_4, [.int .i64 0, .int .i64 0, .bool false], 32, false⟩, ⟨g2, [.int .i64 0, .int .i64 0, .bool false], 32, false⟩, ⟨g1, [.int .i64 wave.lo, .int .i64 wave.hi, .bool wave.no], 32, false⟩, (gIndex_b0 x wave g0)] := by
   intro E b1_4 q2 q4 q6 q8 q9
   obtain ⟨E0, rfl⟩ : ∃ E0 : Env, E = (((((E0.put (some 2) (.pointer (some ⟨g0, 0, none⟩))).put (some 4) (.pointer (some ⟨g2, 0, none⟩))).put (some 6) (.pointer (some ⟨b1_4, 0, none⟩))).put (some 8) ((Iv.v (ivPoint 65536)))).put (some 9) (Iv.v wave)) := ⟨E, by rw [put_self q2, put_self q4, put_self q6, put_self q8, put_self q9]⟩
   refine stepR 3 _ _ _ [2, 3] (by kernel_rfl) rfl ⟨?_, ?_, trivial⟩
   ·refine opR_op (d := (some 10)) rfl rfl rfl (st_cf (c_ivSqr wave) Tryz.func43 rfl (by decide) rfl rfl rfl ?_)
    exact s1_17 _ _ rfl rfl rfl rfl rfl
   ·refine opR_op (d := (some 5)) rfl rfl rfl (st_new zero32 rfl fun b1_3 => ?_)
    exact permR _ _ _ _ _ (List.Perm.trans (List.Perm.swap _ _ _) (List.Perm.cons _ (List.Perm.refl _))).symm (s1_16 _ _ _ rfl rfl rfl rfl rfl rfl)
  have s1_12 : ∀ (E : Env) (b1_4 : Nat) (b1_3 : Nat), E 2 = .pointer (some ⟨g0, 0, none⟩) → E 3 = .pointer (some ⟨g1, 0, none⟩) → E 4 = .pointer (some ⟨g2, 0, none⟩) → E 5 = .pointer (some ⟨b1_3, 0, none⟩) → E 6 = .pointer (some ⟨b1_4, 0, none⟩) → E 8 = (Iv.v (ivPoint 65536)) → Φ 4 [true, false, false, true, true, false, false] E [⟨b1_4, [.int .i64 0, .int .i64 0, .bool false], 32, false⟩, ⟨b1_3, [.int .i64 0, .int .i64 0, .bool false], 32, false⟩, ⟨g2, [.int .i64 0, .int .i64 0, .bool false], 32, false⟩, ⟨g1, [.int .i64 wave.lo, .int .i64 wave.hi, .bool wave.no], 32, false⟩, (gIndex_b0 x wave g0)] := by
   intro E b1_4 b1_3 q2 q3 q4 q5 q6 q8
   obtain ⟨E0, rfl⟩ : ∃ E0 : Env, E = ((((((E0.put (some 2) (.pointer (some ⟨g0, 0, none⟩))).put (some 3) (.pointer (some ⟨g1, 0, none⟩))).put (some 4) (.pointer (some ⟨g2, 0, none⟩))).put (some 5) (.pointer (some ⟨b1_3, 0, none⟩))).put (some 6) (.pointer (some ⟨b1_4, 0, none⟩))).put (some 8) ((Iv.v (ivPoint 65536)))) := ⟨E, by rw [put_self q2, put_self q3, put_self q4, put_self q5, put_self q6, put_self q8]⟩
   refine stepR 3 _ _ _ [1] (by kernel_rfl) rfl ⟨?_, trivial⟩
   ·refine opR_op (d := (some 9)) rfl rfl rfl (st_lda (vs := [.int .i64 wave.lo, .int .i64 wave.hi, .bool wave.no]) agg32 3 rfl rfl rfl rfl rfl rfl ?_)
    exact s1_16 _ _ _ rfl rfl rfl rfl rfl rfl
  have s1_11 : ∀ (E : Env) (b1_4 : Nat) (b1_3 : Nat), E 2 = .pointer (some ⟨g0, 0, none⟩) → E 4 = .pointer (some ⟨g2, 0, none⟩) → E 5 = .pointer (some ⟨b1_3, 0, none⟩) → E 6 = .pointer (some ⟨b1_4, 0, none⟩) → E 9 = (Iv.v wave) → Φ 4 [false, true, false, true, true, false, false] E [⟨b1_4, [.int .i64 0, .int .i64 0, .bool false], 32, false⟩, ⟨b1_3, [.int .i64 0, .int .i64 0, .bool false], 32, false⟩, ⟨g2, [.int .i64 0, .int .i64 0, .bool false], 32, false⟩, ⟨g1, [.int .i64 wave.lo, .int .i64 wave.hi, .bool wave.no], 32, false⟩, (gIndex_b0 x wave g0)] := by
   intro E b1_4 b1_3 q2 q4 q5 q6 q9
   obtain ⟨E0, rfl⟩ : ∃ E0 : Env, E = (((((E0.put (some 2) (.pointer (some ⟨g0, 0, none⟩))).put (some 4) (.pointer (some ⟨g2, 0, none⟩))).put (some 5) (.pointer (some ⟨b1_3, 0, none⟩))).put (some 6) (.pointer (some ⟨b1_4, 0, none⟩))).put (some 9) (Iv.v wave)) := ⟨E, by rw [put_self q2, put_self q4, put_self q5, put_self q6, put_self q9]⟩
   refine stepR 3 _ _ _ [0] (by kernel_rfl) rfl ⟨?_, trivial⟩
   ·refine opR_op (d := (some 8)) rfl rfl rfl (st_cf (c_ivPoint 65536) Tryz.func49 rfl (by decide) rfl rfl rfl ?_)
    exact s1_16 _ _ _ rfl rfl rfl rfl rfl rfl
  have s1_10 : ∀ (E : Env), E 2 = .pointer (some ⟨g0, 0, none⟩) → E 4 = .pointer (some ⟨g2, 0, none⟩) → E 8 = (Iv.v (ivPoint 65536)) → E 9 = (Iv.v wave) → Φ 5 [true, true, false, false, false, false, false] E [⟨g2, [.int .i64 0, .int .i64 0, .bool false], 32, false⟩, ⟨g1, [.int .i64 wave.lo, .int .i64 wave.hi, .bool wave.no], 32, false⟩, (gIndex_b0 x wave g0)] := by
   intro E q2 q4 q8 q9
   obtain ⟨E0, rfl⟩ : ∃ E0 : Env, E = ((((E0.put (some 2) (.pointer (some ⟨g0, 0, none⟩))).put (some 4) (.pointer (some ⟨g2, 0, none⟩))).put (some 8) ((Iv.v (ivPoint 65536)))).put (some 9) (Iv.v wave)) := ⟨E, by rw [put_self q2, put_self q4, put_self q8, put_self q9]⟩
   refine stepR 4 _ _ _ [2, 3, 4] (by kernel_rfl) rfl ⟨?_, ?_, ?_, trivial⟩
   ·refine opR_op (d := (some 10)) rfl rfl rfl (st_cf (c_ivSqr wave) Tryz.func43 rfl (by decide) rfl rfl rfl ?_)
    exact s1_15 _ rfl rfl rfl rfl
   ·refine opR_op (d := (some 5)) rfl rfl rfl (st_new zero32 rfl fun b1_3 => ?_)
    exact s1_14 _ _ rfl rfl rfl rfl rfl
   ·refine opR_op (d := (some 6)) rfl rfl rfl (st_new zero32 rfl fun b1_4 => ?_)
    exact s1_13 _ _ rfl rfl rfl rfl rfl
  have s1_9 : ∀ (E : Env) (b1_3 : Nat), E 2 = .pointer (some ⟨g0, 0, none⟩) → E 3 = .pointer (some ⟨g1, 0, none⟩) → E 4 = .pointer (some ⟨g2, 0, none⟩) → E 5 = .pointer (some ⟨b1_3, 0, none⟩) → E 8 = (Iv.v (ivPoint 65536)) → Φ 5 [true, false, false, true, false, false, false] E [⟨b1_3, [.int .i64 0, .int .i64 0, .bool false], 32, false⟩, ⟨g2, [.int .i64 0, .int .i64 0, .bool false], 32, false⟩, ⟨g1, [.int .i64 wave.lo, .int .i64 wave.hi, .bool wave.no], 32, false⟩, (gIndex_b0 x wave g0)] := by
   intro E b1_3 q2 q3 q4 q5 q8
   obtain ⟨E0, rfl⟩ : ∃ E0 : Env, E = (((((E0.put (some 2) (.pointer (some ⟨g0, 0, none⟩))).put (some 3) (.pointer (some ⟨g1, 0, none⟩))).put (some 4) (.pointer (some ⟨g2, 0, none⟩))).put (some 5) (.pointer (some ⟨b1_3, 0, none⟩))).put (some 8) ((Iv.v (ivPoint 65536)))) := ⟨E, by rw [put_self q2, put_self q3, put_self q4, put_self q5, put_self q8]⟩
   refine stepR 4 _ _ _ [1, 4] (by kernel_rfl) rfl ⟨?_, ?_, trivial⟩
   ·refine opR_op (d := (some 9)) rfl rfl rfl (st_lda (vs := [.int .i64 wave.lo, .int .i64 wave.hi, .bool wave.no]) agg32 2 rfl rfl rfl rfl rfl rfl ?_)
    exact s1_14 _ _ rfl rfl rfl rfl rfl
   ·refine opR_op (d := (some 6)) rfl rfl rfl (st_new zero32 rfl fun b1_4 => ?_)
    exact s1_12 _ _ _ rfl rfl rfl rfl rfl rfl
  have s1_8 : ∀ (E : Env) (b1_4 : Nat), E 2 = .pointer (some ⟨g0, 0, none⟩) → E 3 = .pointer (some ⟨g1, 0, none⟩) → E 4 = .pointer (some ⟨g2, 0, none⟩) → E 6 = .pointer (some ⟨b1_4, 0, none⟩) → E 8 = (Iv.v (ivPoint 65536)) → Φ 5 [true, false, false, false, true, false, false] E [⟨b1_4, [.int .i64 0, .int .i64 0, .bool false], 32, false⟩, ⟨g2, [.int .i64 0, .int .i64 0, .bool false], 32, false⟩, ⟨g1, [.int .i64 wave.lo, .int .i64 wave.hi, .bool wave.no], 32, false⟩, (gIndex_b0 x wave g0)] := by
   intro E b1_4 q2 q3 q4 q6 q8
   obtain ⟨E0, rfl⟩ : ∃ E0 : Env, E = (((((E0.put (some 2) (.pointer (some ⟨g0, 0, none⟩))).put (some 3) (.pointer (some ⟨g1, 0, none⟩))).put (some 4) (.pointer (some ⟨g2, 0, none⟩))).put (some 6) (.pointer (some ⟨b1_4, 0, none⟩))).put (some 8) ((Iv.v (ivPoint 65536)))) := ⟨E, by rw [put_self q2, put_self q3, put_self q4, put_self q6, put_self q8]⟩
   refine stepR 4 _ _ _ [1, 3] (by kernel_rfl) rfl ⟨?_, ?_, trivial⟩
   ·refine opR_op (d := (some 9)) rfl rfl rfl (st_lda (vs := [.int .i64 wave.lo, .int .i64 wave.hi, .bool wave.no]) agg32 2 rfl rfl rfl rfl rfl rfl ?_)
    exact s1_13 _ _ rfl rfl rfl rfl rfl
   ·refine opR_op (d := (some 5)) rfl rfl rfl (st_new zero32 rfl fun b1_3 => ?_)
    exact permR _ _ _ _ _ (List.Perm.trans (List.Perm.swap _ _ _) (List.Perm.cons _ (List.Perm.refl _))).symm (s1_12 _ _ _ rfl rfl rfl rfl rfl rfl)
  have s1_7 : ∀ (E : Env) (b1_3 : Nat), E 2 = .pointer (some ⟨g0, 0, none⟩) → E 4 = .pointer (some ⟨g2, 0, none⟩) → E 5 = .pointer (some ⟨b1_3, 0, none⟩) → E 9 = (Iv.v wave) → Φ 5 [false, true, false, true, false, false, false] E [⟨b1_3, [.int .i64 0, .int .i64 0, .bool false], 32, false⟩, ⟨g2, [.int .i64 0, .int .i64 0, .bool false], 32, false⟩, ⟨g1, [.int .i64 wave.lo, .int .i64 wave.hi, .bool wave.no], 32, false⟩, (gIndex_b0 x wave g0)] := by
   intro E b1_3 q2 q4 q5 q9
   obtain ⟨E0, rfl⟩ : ∃ E0 : Env, E = ((((E0.put (some 2) (.pointer (some ⟨g0, 0, none⟩))).put (some 4) (.pointer (some ⟨g2, 0, none⟩))).put (some 5) (.pointer (some ⟨b1_3, 0, none⟩))).put (some 9) (Iv.v wave)) := ⟨E, by rw [put_self q2, put_self q4, put_self q5, put_self q9]⟩
   refine stepR 4 _ _ _ [0, 4] (by kernel_rfl) rfl ⟨?_, ?_, trivial⟩
   ·refine opR_op (d := (some 8)) rfl rfl rfl (st_cf (c_ivPoint 65536) Tryz.func49 rfl (by decide) rfl rfl rfl ?_)
    exact s1_14 _ _ rfl rfl rfl rfl rfl
   ·refine opR_op (d := (some 6)) rfl rfl rfl (st_new zero32 rfl fun b1_4 => ?_)
    exact s1_11 _ _ _ rfl rfl rfl rfl rfl
  have s1_6 : ∀ (E : Env) (b1_4 : Nat), E 2 = .pointer (some ⟨g0, 0, none⟩) → E 4 = .pointer (some ⟨g2, 0, none⟩) → E 6 = .pointer (some ⟨b1_4, 0, none⟩) → E 9 = (Iv.v wave) → Φ 5 [false, true, false, false, true, false, false] E [⟨b1_4, [.int .i64 0, .int .i64 0, .bool false], 32, false⟩, ⟨g2, [.int .i64 0, .int .i64 0, .bool false], 32, false⟩, ⟨g1, [.int .i64 wave.lo, .int .i64 wave.hi, .bool wave.no], 32, false⟩, (gIndex_b0 x wave g0)] := by
   intro E b1_4 q2 q4 q6 q9
   obtain ⟨E0, rfl⟩ : ∃ E0 : Env, E = ((((E0.put (some 2) (.pointer (some ⟨g0, 0, none⟩))).put (some 4) (.pointer (some ⟨g2, 0, none⟩))).put (some 6) (.pointer (some ⟨b1_4, 0, none⟩))).put (some 9) (Iv.v wave)) := ⟨E, by rw [put_self q2, put_self q4, put_self q6, put_self q9]⟩
   refine stepR 4 _ _ _ [0, 3] (by kernel_rfl) rfl ⟨?_, ?_, trivial⟩
   ·refine opR_op (d := (some 8)) rfl rfl rfl (st_cf (c_ivPoint 65536) Tryz.func49 rfl (by decide) rfl rfl rfl ?_)
    exact s1_13 _ _ rfl rfl rfl rfl rfl
   ·refine opR_op (d := (some 5)) rfl rfl rfl (st_new zero32 rfl fun b1_3 => ?_)
    exact permR _ _ _ _ _ (List.Perm.trans (List.Perm.swap _ _ _) (List.Perm.cons _ (List.Perm.refl _))).symm (s1_11 _ _ _ rfl rfl rfl rfl rfl)
  have s1_5 : ∀ (E : Env) (b1_4 : Nat) (b1_3 : Nat), E 2 = .pointer (some ⟨g0, 0, none⟩) → E 3 = .pointer (some ⟨g1, 0, none⟩) → E 4 = .pointer (some ⟨g2, 0, none⟩) → E 5 = .pointer (some ⟨b1_3, 0, none⟩) → E 6 = .pointer (some ⟨b1_4, 0, none⟩) → Φ 5 [false, false, false, true, true, false, false] E [⟨b1_4, [.int .i64 0, .int .i64 0, .bool false], 32, false⟩, ⟨b1_3, [.int .i64 0, .int .i64 0, .bool false], 32, false⟩, ⟨g2, [.int .i64 0, .int .i64 0, .bool false], 32, false⟩, ⟨g1, [.int .i64 wave.lo, .int .i64 wave.hi, .bool wave.no], 32, false⟩, (gIndex_b0 x wave g0)] := by
   intro E b1_4 b1_3 q2 q3 q4 q5 q6
   obtain ⟨E0, rfl⟩ : ∃ E0 : Env, E = (((((E0.put (some 2) (.pointer (some ⟨g0, 0, none⟩))).put (some 3) (.pointer (some ⟨g1, 0, none⟩))).put (some 4) (.pointer (some ⟨g2, 0, none⟩))).put (some 5) (.pointer (some ⟨b1_3, 0, none⟩))).put (some 6) (.pointer (some ⟨b1_4, 0, none⟩))) := ⟨E, by rw [put_self q2, put_self q3, put_self q4, put_self q5, put_self q6]⟩
   refine stepR 4 _ _ _ [0, 1] (by kernel_rfl) rfl ⟨?_, ?_, trivial⟩
   ·refine opR_op (d := (some 8)) rfl rfl rfl (st_cf (c_ivPoint 65536) Tryz.func49 rfl (by decide) rfl rfl rfl ?_)
    exact s1_12 _ _ _ rfl rfl rfl rfl rfl rfl
   ·refine opR_op (d := (some 9)) rfl rfl rfl (st_lda (vs := [.int .i64 wave.lo, .int .i64 wave.hi, .bool wave.no]) agg32 3 rfl rfl rfl rfl rfl rfl ?_)
    exact s1_11 _ _ _ rfl rfl rfl rfl rfl
  have s1_4 : ∀ (E : Env), E 2 = .pointer (some ⟨g0, 0, none⟩) → E 3 = .pointer (some ⟨g1, 0, none⟩) → E 4 = .pointer (some ⟨g2, 0, none⟩) → E 8 = (Iv.v (ivPoint 65536)) → Φ 6 [true, false, false, false, false, false, false] E [⟨g2, [.int .i64 0, .int .i64 0, .bool false], 32, false⟩, ⟨g1, [.int .i64 wave.lo, .int .i64 wave.hi, .bool wave.no], 32, false⟩, (gIndex_b0 x wave g0)] := by
   intro E q2 q3 q4 q8
   obtain ⟨E0, rfl⟩ : ∃ E0 : Env, E = ((((E0.put (some 2) (.pointer (some ⟨g0, 0, none⟩))).put (some 3) (.pointer (some ⟨g1, 0, none⟩))).put (some 4) (.pointer (some ⟨g2, 0, none⟩))).put (some 8) ((Iv.v (ivPoint 65536)))) := ⟨E, by rw [put_self q2, put_self q3, put_self q4, put_self q8]⟩
   refine stepR 5 _ _ _ [1, 3, 4] (by kernel_rfl) rfl ⟨?_, ?_, ?_, trivial⟩
   ·refine opR_op (d := (some 9)) rfl rfl rfl (st_lda (vs := [.int .i64 wave.lo, .int .i64 wave.hi, .bool wave.no]) agg32 1 rfl rfl rfl rfl rfl rfl ?_)
    exact s1_10 _ rfl rfl rfl rfl
   ·refine opR_op (d := (some 5)) rfl rfl rfl (st_new zero32 rfl fun b1_3 => ?_)
    exact s1_9 _ _ rfl rfl rfl rfl rfl
   ·refine opR_op (d := (some 6)) rfl rfl rfl (st_new zero32 rfl fun b1_4 => ?_)
    exact s1_8 _ _ rfl rfl rfl rfl rfl
  have s1_3 : ∀ (E : Env), E 2 = .pointer (some ⟨g0, 0, none⟩) → E 4 = .pointer (some ⟨g2, 0, none⟩) → E 9 = (Iv.v wave) → Φ 6 [false, true, false, false, false, false, false] E [⟨g2, [.int .i64 0, .int .i64 0, .bool false], 32, false⟩, ⟨g1, [.int .i64 wave.lo, .int .i64 wave.hi, .bool wave.no], 32, false⟩, (gIndex_b0 x wave g0)] := by
   intro E q2 q4 q9
   obtain ⟨E0, rfl⟩ : ∃ E0 : Env, E = (((E0.put (some 2) (.pointer (some ⟨g0, 0, none⟩))).put (some 4) (.pointer (some ⟨g2, 0, none⟩))).put (some 9) (Iv.v wave)) := ⟨E, by rw [put_self q2, put_self q4, put_self q9]⟩
   refine stepR 5 _ _ _ [0, 3, 4] (by kernel_rfl) rfl ⟨?_, ?_, ?_, trivial⟩
   ·refine opR_op (d := (some 8)) rfl rfl rfl (st_cf (c_ivPoint 65536) Tryz.func49 rfl (by decide) rfl rfl rfl ?_)
    exact s1_10 _ rfl rfl rfl rfl
   ·refine opR_op (d := (some 5)) rfl rfl rfl (st_new zero32 rfl fun b1_3 => ?_)
    exact s1_7 _ _ rfl rfl rfl rfl
   ·refine opR_op (d := (some 6)) rfl rfl rfl (st_new zero32 rfl fun b1_4 => ?_)
    exact s1_6 _ _ rfl rfl rfl rfl
  have s1_2 : ∀ (E : Env) (b1_3 : Nat), E 2 = .pointer (some ⟨g0, 0, none⟩) → E 3 = .pointer (some ⟨g1, 0, none⟩) → E 4 = .pointer (some ⟨g2, 0, none⟩) → E 5 = .pointer (some ⟨b1_3, 0, none⟩) → Φ 6 [false, false, false, true, false, false, false] E [⟨b1_3, [.int .i64 0, .int .i64 0, .bool false], 32, false⟩, ⟨g2, [.int .i64 0, .int .i64 0, .bool false], 32, false⟩, ⟨g1, [.int .i64 wave.lo, .int .i64 wave.hi, .bool wave.no], 32, false⟩, (gIndex_b0 x wave g0)] := by
   intro E b1_3 q2 q3 q4 q5
   obtain ⟨E0, rfl⟩ : ∃ E0 : Env, E = ((((E0.put (some 2) (.pointer (some ⟨g0, 0, none⟩))).put (some 3) (.pointer (some ⟨g1, 0, none⟩))).put (some 4) (.pointer (some ⟨g2, 0, none⟩))).put (some 5) (.pointer (some ⟨b1_3, 0, none⟩))) := ⟨E, by rw [put_self q2, put_self q3, put_self q4, put_self q5]⟩
   refine stepR 5 _ _ _ [0, 1, 4] (by kernel_rfl) rfl ⟨?_, ?_, ?_, trivial⟩
   ·refine opR_op (d := (some 8)) rfl rfl rfl (st_cf (c_ivPoint 65536) Tryz.func49 rfl (by decide) rfl rfl rfl ?_)
    exact s1_9 _ _ rfl rfl rfl rfl rfl
   ·refine opR_op (d := (some 9)) rfl rfl rfl (st_lda (vs := [.int .i64 wave.lo, .int .i64 wave.hi, .bool wave.no]) agg32 2 rfl rfl rfl rfl rfl rfl ?_)
    exact s1_7 _ _ rfl rfl rfl rfl
   ·refine opR_op (d := (some 6)) rfl rfl rfl (st_new zero32 rfl fun b1_4 => ?_)
    exact s1_5 _ _ _ rfl rfl rfl rfl rfl
  have s1_1 : ∀ (E : Env) (b1_4 : Nat), E 2 = .pointer (some ⟨g0, 0, none⟩) → E 3 = .pointer (some ⟨g1, 0, none⟩) → E 4 = .pointer (some ⟨g2, 0, none⟩) → E 6 = .pointer (some ⟨b1_4, 0, none⟩) → Φ 6 [false, false, false, false, true, false, false] E [⟨b1_4, [.int .i64 0, .int .i64 0, .bool false], 32, false⟩, ⟨g2, [.int .i64 0, .int .i64 0, .bool false], 32, false⟩, ⟨g1, [.int .i64 wave.lo, .int .i64 wave.hi, .bool wave.no], 32, false⟩, (gIndex_b0 x wave g0)] := by
   intro E b1_4 q2 q3 q4 q6
   obtain ⟨E0, rfl⟩ : ∃ E0 : Env, E = ((((E0.put (some 2) (.pointer (some ⟨g0, 0, none⟩))).put (some 3) (.pointer (some ⟨g1, 0, none⟩))).put (some 4) (.pointer (some ⟨g2, 0, none⟩))).put (some 6) (.pointer (some ⟨b1_4, 0, none⟩))) := ⟨E, by rw [put_self q2, put_self q3, put_self q4, put_self q6]⟩
   refine stepR 5 _ _ _ [0, 1, 3] (by kernel_rfl) rfl ⟨?_, ?_, ?_, trivial⟩
   ·refine opR_op (d := (some 8)) rfl rfl rfl (st_cf (c_ivPoint 65536) Tryz.func49 rfl (by decide) rfl rfl rfl ?_)
    exact s1_8 _ _ rfl rfl rfl rfl rfl
   ·refine opR_op (d := (some 9)) rfl rfl rfl (st_lda (vs := [.int .i64 wave.lo, .int .i64 wave.hi, .bool wave.no]) agg32 2 rfl rfl rfl rfl rfl rfl ?_)
    exact s1_6 _ _ rfl rfl rfl rfl
   ·refine opR_op (d := (some 5)) rfl rfl rfl (st_new zero32 rfl fun b1_3 => ?_)
    exact permR _ _ _ _ _ (List.Perm.trans (List.Perm.swap _ _ _) (List.Perm.cons _ (List.Perm.refl _))).symm (s1_5 _ _ _ rfl rfl rfl rfl rfl)
  refine stepR 6 _ _ _ [0, 1, 3, 4] (by kernel_rfl) rfl ⟨?_, ?_, ?_, ?_, trivial⟩
  ·refine opR_op (d := (some 8)) rfl rfl rfl (st_cf (c_ivPoint 65536) Tryz.func49 rfl (by decide) rfl rfl rfl ?_)
   exact s1_4 _ rfl rfl rfl rfl
  ·refine opR_op (d := (some 9)) rfl rfl rfl (st_lda (vs := [.int .i64 wave.lo, .int .i64 wave.hi, .bool wave.no]) agg32 1 rfl rfl rfl rfl rfl rfl ?_)
   exact s1_3 _ rfl rfl rfl
  ·refine opR_op (d := (some 5)) rfl rfl rfl (st_new zero32 rfl fun b1_3 => ?_)
   exact s1_2 _ _ rfl rfl rfl rfl
  ·refine opR_op (d := (some 6)) rfl rfl rfl (st_new zero32 rfl fun b1_4 => ?_)
   exact s1_1 _ _ rfl rfl rfl rfl
 intro E b1_4 b1_3 q2 q4 q5 q6
 obtain ⟨E0, rfl⟩ : ∃ E0 : Env, E = ((((E0.put (some 2) (.pointer (some ⟨g0, 0, none⟩))).put (some 4) (.pointer (some ⟨g2, 0, none⟩))).put (some 5) (.pointer (some ⟨b1_3, 0, none⟩))).put (some 6) (.pointer (some ⟨b1_4, 0, none⟩))) := ⟨E, by rw [put_self q2, put_self q4, put_self q5, put_self q6]⟩
 refine doneR _ _ _ (by kernel_rfl) (aQ (aQ (aL (aF 11 fa29_0 rfl rfl (aD 12 (.string x.name) cell9 4 rfl rfl rfl rfl (aB 13 (.bool (sEq x.name (⟨#[97, 105, 114]⟩ : ByteArray))) rfl rfl rfl (bi_seql rfl) (aN ?_)))))))
 refine bool_split (sEq x.name (⟨#[97, 105, 114]⟩ : ByteArray)) (fun h1 => ?_) (fun h1 => ?_)
 ·refine ac_then' (b := sEq x.name (⟨#[97, 105, 114]⟩ : ByteArray)) h1 rfl (aQ (aL (aG 14 [.int .i64 ((ivPoint 65536).lo), .int .i64 ((ivPoint 65536).hi), .bool ((ivPoint 65536).no)] agg32 1 rfl rfl rfl rfl rfl (aS [.int .i64 ((ivPoint 65536).lo), .int .i64 ((ivPoint 65536).hi), .bool ((ivPoint 65536).no)] agg32 2 rfl rfl rfl rfl rfl rfl (aN (ac_ret (fin_eq (v := (Iv.v (ivPoint 65536))) (by show _ = Iv.v (gIndex x wave); rw [gIndex, h1] <;> rfl) (fin_ret (res_c (vs := [.int .i64 ((ivPoint 65536).lo), .int .i64 ((ivPoint 65536).hi), .bool ((ivPoint 65536).no)]) agg32 2 rfl rfl rfl rfl rfl rfl)))))))))
 ·refine ac_else' (b := sEq x.name (⟨#[97, 105, 114]⟩ : ByteArray)) h1 rfl (ac_skip (aQ (aQ (aL (aM 15 (.int .i64 0) rfl rfl (aN (ac_block ?_)))))))
  refine ac_rounds 61 (ar_round (aQ (aL (aB 16 (.bool true) rfl rfl rfl (bi_lss (by decide)) (aN (aQ (ac_then rfl (ac_skip (aQ (ac_block (aQ (aL (aM 17 (.int .i64 0) rfl rfl (aA 7 (.int .i64 0) rfl rfl (aN ?_)))))))))))))))
  refine ac_draw0 (id := 7) [0, 1, 2, 3, 4, 5, 6, 7, 8, 9, 10, 11, 12, 13, 14, 15, 16] [17] _ (by kernel_rfl) follows rfl  (dw_op (d := some 18) _ rfl rfl rfl (st_lda (vs := [.int .i64 ((ivPoint 65536).lo), .int .i64 ((ivPoint 65536).hi), .bool ((ivPoint 65536).no)]) agg32 1 rfl rfl rfl rfl rfl rfl ⟨rfl, rfl⟩) (dw_op (d := some 19) _ rfl rfl rfl (st_move (v := .int .i64 0) rfl rfl ⟨rfl, rfl⟩) (dw_op (d := some 20) _ rfl rfl rfl (st_fa rfl fa29_1 rfl ⟨rfl, rfl⟩) (dw_op (d := some 21) _ rfl rfl rfl (st_ia (v := .pointer (some ⟨g0, 1, none⟩)) rfl rfl rfl (ia27_0 _ _) ⟨rfl, rfl⟩) ?_))))
  refine dw_op (d := some 22) _ rfl rfl rfl (st_lda (vs := [.int .i64 x.b.d0.c, .int .i64 x.b.d0.scale]) agg26 4 rfl rfl rfl rfl rfl rfl ⟨rfl, rfl⟩) (dw_op (d := some 23) _ rfl rfl rfl (st_cf (c_decOf x.b.d0) Tryz.func35 rfl (by decide) rfl rfl rfl ⟨rfl, rfl⟩) (dw_op (d := some 24) _ rfl rfl rfl (st_lda (vs := [.int .i64 ((ivSqr wave).lo), .int .i64 ((ivSqr wave).hi), .bool ((ivSqr wave).no)]) agg32 0 rfl rfl rfl rfl rfl rfl ⟨rfl, rfl⟩) (dw_op (d := some 25) _ rfl rfl rfl (st_cf (c_ivMul (decOf x.b.d0) (ivSqr wave)) Tryz.func52 rfl (by decide) rfl rfl rfl ⟨rfl, rfl⟩) ?_)))
  refine dw_op (d := some 26) _ rfl rfl rfl (st_lda (vs := [.int .i64 ((ivSqr wave).lo), .int .i64 ((ivSqr wave).hi), .bool ((ivSqr wave).no)]) agg32 0 rfl rfl rfl rfl rfl rfl ⟨rfl, rfl⟩) (dw_op (d := some 27) _ rfl rfl rfl (st_move (v := .int .i64 0) rfl rfl ⟨rfl, rfl⟩) (dw_op (d := some 28) _ rfl rfl rfl (st_fa rfl fa29_2 rfl ⟨rfl, rfl⟩) (dw_op (d := some 29) _ rfl rfl rfl (st_ia (v := .pointer (some ⟨g0, 7, none⟩)) rfl rfl rfl (ia27_0 _ _) ⟨rfl, rfl⟩) (dw_op (d := some 30) _ rfl rfl rfl (st_lda (vs := [.int .i64 x.c.d0.c, .int .i64 x.c.d0.scale]) agg26 4 rfl rfl rfl rfl rfl rfl ⟨rfl, rfl⟩) ?_))))
  refine dw_op (d := some 31) _ rfl rfl rfl (st_cf (c_decOf x.c.d0) Tryz.func35 rfl (by decide) rfl rfl rfl ⟨rfl, rfl⟩) (dw_op (d := some 32) _ rfl rfl rfl (st_cf (c_ivSub (ivSqr wave) (decOf x.c.d0)) Tryz.func53 rfl (by decide) rfl rfl rfl ⟨rfl, rfl⟩) (dw_op (d := some 33) _ rfl rfl rfl (st_cf (c_ivDiv (ivMul (decOf x.b.d0) (ivSqr wave)) (ivSub (ivSqr wave) (decOf x.c.d0))) Tryz.func51 rfl (by decide) rfl rfl rfl ⟨rfl, rfl⟩) (dw_op (d := some 34) _ rfl rfl rfl (st_cf (c_ivAdd (ivPoint 65536) (gIndex_e0 x wave)) Tryz.func50 rfl (by decide) rfl rfl rfl ⟨rfl, rfl⟩) (dw_nil ?_))))
  refine aS [.int .i64 ((ivAdd (ivPoint 65536) (gIndex_e0 x wave)).lo), .int .i64 ((ivAdd (ivPoint 65536) (gIndex_e0 x wave)).hi), .bool ((ivAdd (ivPoint 65536) (gIndex_e0 x wave)).no)] agg32 1 rfl rfl rfl rfl rfl rfl (aN (aL (aB 35 (.int .i64 1) rfl rfl rfl (bi_add (by decide)) (aM 15 (.int .i64 1) rfl rfl (aN (ar_round (aQ (aL (aB 16 (.bool true) rfl rfl rfl (bi_lss (by decide)) (aN (aQ (ac_then rfl (ac_skip (aQ (ac_block (aQ (aL (aM 17 (.int .i64 1) rfl rfl (aA 7 (.int .i64 1) rfl rfl (aN ?_))))))))))))))))))))
  refine ac_draw0 (id := 7) [0, 1, 2, 3, 4, 5, 6, 7, 8, 9, 10, 11, 12, 13, 14, 15, 16] [17] _ (by kernel_rfl) follows rfl  (dw_op (d := some 18) _ rfl rfl rfl (st_lda (vs := [.int .i64 ((ivAdd (ivPoint 65536) (gIndex_e0 x wave)).lo), .int .i64 ((ivAdd (ivPoint 65536) (gIndex_e0 x wave)).hi), .bool ((ivAdd (ivPoint 65536) (gIndex_e0 x wave)).no)]) agg32 1 rfl rfl rfl rfl rfl rfl ⟨rfl, rfl⟩) (dw_op (d := some 19) _ rfl rfl rfl (st_move (v := .int .i64 1) rfl rfl ⟨rfl, rfl⟩) (dw_op (d := some 20) _ rfl rfl rfl (st_fa rfl fa29_1 rfl ⟨rfl, rfl⟩) (dw_op (d := some 21) _ rfl rfl rfl (st_ia (v := .pointer (some ⟨g0, 3, none⟩)) rfl rfl rfl (ia27_1 _ _) ⟨rfl, rfl⟩) ?_))))
  refine dw_op (d := some 22) _ rfl rfl rfl (st_lda (vs := [.int .i64 x.b.d1.c, .int .i64 x.b.d1.scale]) agg26 4 rfl rfl rfl rfl rfl rfl ⟨rfl, rfl⟩) (dw_op (d := some 23) _ rfl rfl rfl (st_cf (c_decOf x.b.d1) Tryz.func35 rfl (by decide) rfl rfl rfl ⟨rfl, rfl⟩) (dw_op (d := some 24) _ rfl rfl rfl (st_lda (vs := [.int .i64 ((ivSqr wave).lo), .int .i64 ((ivSqr wave).hi), .bool ((ivSqr wave).no)]) agg32 0 rfl rfl rfl rfl rfl rfl ⟨rfl, rfl⟩) (dw_op (d := some 25) _ rfl rfl rfl (st_cf (c_ivMul (decOf x.b.d1) (ivSqr wave)) Tryz.func52 rfl (by decide) rfl rfl rfl ⟨rfl, rfl⟩) ?_)))
  refine dw_op (d := some 26) _ rfl rfl rfl (st_lda (vs := [.int .i64 ((ivSqr wave).lo), .int .i64 ((ivSqr wave).hi), .bool ((ivSqr wave).no)]) agg32 0 rfl rfl rfl rfl rfl rfl ⟨rfl, rfl⟩) (dw_op (d := some 27) _ rfl rfl rfl (st_move (v := .int .i64 1) rfl rfl ⟨rfl, rfl⟩) (dw_op (d := some 28) _ rfl rfl rfl (st_fa rfl fa29_2 rfl ⟨rfl, rfl⟩) (dw_op (d := some 29) _ rfl rfl rfl (st_ia (v := .pointer (some ⟨g0, 9, none⟩)) rfl rfl rfl (ia27_1 _ _) ⟨rfl, rfl⟩) (dw_op (d := some 30) _ rfl rfl rfl (st_lda (vs := [.int .i64 x.c.d1.c, .int .i64 x.c.d1.scale]) agg26 4 rfl rfl rfl rfl rfl rfl ⟨rfl, rfl⟩) ?_))))
  refine dw_op (d := some 31) _ rfl rfl rfl (st_cf (c_decOf x.c.d1) Tryz.func35 rfl (by decide) rfl rfl rfl ⟨rfl, rfl⟩) (dw_op (d := some 32) _ rfl rfl rfl (st_cf (c_ivSub (ivSqr wave) (decOf x.c.d1)) Tryz.func53 rfl (by decide) rfl rfl rfl ⟨rfl, rfl⟩) (dw_op (d := some 33) _ rfl rfl rfl (st_cf (c_ivDiv (ivMul (decOf x.b.d1) (ivSqr wave)) (ivSub (ivSqr wave) (decOf x.c.d1))) Tryz.func51 rfl (by decide) rfl rfl rfl ⟨rfl, rfl⟩) (dw_op (d := some 34) _ rfl rfl rfl (st_cf (c_ivAdd (ivAdd (ivPoint 65536) (gIndex_e0 x wave)) (gIndex_e1 x wave)) Tryz.func50 rfl (by decide) rfl rfl rfl ⟨rfl, rfl⟩) (dw_nil ?_))))
  refine aS [.int .i64 ((gIndex_e2 x wave).lo), .int .i64 ((gIndex_e2 x wave).hi), .bool ((gIndex_e2 x wave).no)] agg32 1 rfl rfl rfl rfl rfl rfl (aN (aL (aB 35 (.int .i64 2) rfl rfl rfl (bi_add (by decide)) (aM 15 (.int .i64 2) rfl rfl (aN (ar_round (aQ (aL (aB 16 (.bool true) rfl rfl rfl (bi_lss (by decide)) (aN (aQ (ac_then rfl (ac_skip (aQ (ac_block (aQ (aL (aM 17 (.int .i64 2) rfl rfl (aA 7 (.int .i64 2) rfl rfl (aN ?_))))))))))))))))))))
  refine ac_draw0 (id := 7) [0, 1, 2, 3, 4, 5, 6, 7, 8, 9, 10, 11, 12, 13, 14, 15, 16] [17] _ (by kernel_rfl) follows rfl  (dw_op (d := some 18) _ rfl rfl rfl (st_lda (vs := [.int .i64 ((gIndex_e2 x wave).lo), .int .i64 ((gIndex_e2 x wave).hi), .bool ((gIndex_e2 x wave).no)]) agg32 1 rfl rfl rfl rfl rfl rfl ⟨rfl, rfl⟩) (dw_op (d := some 19) _ rfl rfl rfl (st_move (v := .int .i64 2) rfl rfl ⟨rfl, rfl⟩) (dw_op (d := some 20) _ rfl rfl rfl (st_fa rfl fa29_1 rfl ⟨rfl, rfl⟩) (dw_op (d := some 21) _ rfl rfl rfl (st_ia (v := .pointer (some ⟨g0, 5, none⟩)) rfl rfl rfl (ia27_2 _ _) ⟨rfl, rfl⟩) ?_))))
  refine dw_op (d := some 22) _ rfl rfl rfl (st_lda (vs := [.int .i64 x.b.d2.c, .int .i64 x.b.d2.scale]) agg26 4 rfl rfl rfl rfl rfl rfl ⟨rfl, rfl⟩) (dw_op (d := some 23) _ rfl rfl rfl (st_cf (c_decOf x.b.d2) Tryz.func35 rfl (by decide) rfl rfl rfl ⟨rfl, rfl⟩) (dw_op (d := some 24) _ rfl rfl rfl (st_lda (vs := [.int .i64 ((ivSqr wave).lo), .int .i64 ((ivSqr wave).hi), .bool ((ivSqr wave).no)]) agg32 0 rfl rfl rfl rfl rfl rfl ⟨rfl, rfl⟩) (dw_op (d := some 25) _ rfl rfl rfl (st_cf (c_ivMul (decOf x.b.d2) (ivSqr wave)) Tryz.func52 rfl (by decide) rfl rfl rfl ⟨rfl, rfl⟩) ?_)))
  refine dw_op (d := some 26) _ rfl rfl rfl (st_lda (vs := [.int .i64 ((ivSqr wave).lo), .int .i64 ((ivSqr wave).hi), .bool ((ivSqr wave).no)]) agg32 0 rfl rfl rfl rfl rfl rfl ⟨rfl, rfl⟩) (dw_op (d := some 27) _ rfl rfl rfl (st_move (v := .int .i64 2) rfl rfl ⟨rfl, rfl⟩) (dw_op (d := some 28) _ rfl rfl rfl (st_fa rfl fa29_2 rfl ⟨rfl, rfl⟩) (dw_op (d := some 29) _ rfl rfl rfl (st_ia (v := .pointer (some ⟨g0, 11, none⟩)) rfl rfl rfl (ia27_2 _ _) ⟨rfl, rfl⟩) (dw_op (d := some 30) _ rfl rfl rfl (st_lda (vs := [.int .i64 x.c.d2.c, .int .i64 x.c.d2.scale]) agg26 4 rfl rfl rfl rfl rfl rfl ⟨rfl, rfl⟩) ?_))))
  refine dw_op (d := some 31) _ rfl rfl rfl (st_cf (c_decOf x.c.d2) Tryz.func35 rfl (by decide) rfl rfl rfl ⟨rfl, rfl⟩) (dw_op (d := some 32) _ rfl rfl rfl (st_cf (c_ivSub (ivSqr wave) (decOf x.c.d2)) Tryz.func53 rfl (by decide) rfl rfl rfl ⟨rfl, rfl⟩) (dw_op (d := some 33) _ rfl rfl rfl (st_cf (c_ivDiv (ivMul (decOf x.b.d2) (ivSqr wave)) (ivSub (ivSqr wave) (decOf x.c.d2))) Tryz.func51 rfl (by decide) rfl rfl rfl ⟨rfl, rfl⟩) (dw_op (d := some 34) _ rfl rfl rfl (st_cf (c_ivAdd (gIndex_e2 x wave) (gIndex_e3 x wave)) Tryz.func50 rfl (by decide) rfl rfl rfl ⟨rfl, rfl⟩) (dw_nil ?_))))
  refine aS [.int .i64 ((ivAdd (gIndex_e2 x wave) (gIndex_e3 x wave)).lo), .int .i64 ((ivAdd (gIndex_e2 x wave) (gIndex_e3 x wave)).hi), .bool ((ivAdd (gIndex_e2 x wave) (gIndex_e3 x wave)).no)] agg32 1 rfl rfl rfl rfl rfl rfl (aN (aL (aB 35 (.int .i64 3) rfl rfl rfl (bi_add (by decide)) (aM 15 (.int .i64 3) rfl rfl (aN (ar_round (aQ (aL (aB 16 (.bool false) rfl rfl rfl (bi_lss (by decide)) (aN (aQ (ac_else rfl (ac_exit (aQ (aL (aG 36 [.int .i64 ((ivAdd (gIndex_e2 x wave) (gIndex_e3 x wave)).lo), .int .i64 ((ivAdd (gIndex_e2 x wave) (gIndex_e3 x wave)).hi), .bool ((ivAdd (gIndex_e2 x wave) (gIndex_e3 x wave)).no)] agg32 1 rfl rfl rfl rfl rfl ?_))))))))))))))))
  refine aC 37 (c_ivRoot (ivAdd (gIndex_e2 x wave) (gIndex_e3 x wave))) Tryz.func54 ⟨rfl, by decide⟩ rfl rfl (aS [.int .i64 ((ivRoot (ivAdd (gIndex_e2 x wave) (gIndex_e3 x wave))).lo), .int .i64 ((ivRoot (ivAdd (gIndex_e2 x wave) (gIndex_e3 x wave))).hi), .bool ((ivRoot (ivAdd (gIndex_e2 x wave) (gIndex_e3 x wave))).no)] agg32 2 rfl rfl rfl rfl rfl rfl (aN (ac_ret ?_)))
  exact fin_eq (v := (Iv.v (ivRoot (ivAdd (gIndex_e2 x wave) (gIndex_e3 x wave))))) (by show _ = Iv.v (gIndex x wave); rw [gIndex, h1] <;> rfl) (fin_ret (res_c (vs := [.int .i64 ((ivRoot (ivAdd (gIndex_e2 x wave) (gIndex_e3 x wave))).lo), .int .i64 ((ivRoot (ivAdd (gIndex_e2 x wave) (gIndex_e3 x wave))).hi), .bool ((ivRoot (ivAdd (gIndex_e2 x wave) (gIndex_e3 x wave))).no)]) agg32 2 rfl rfl rfl rfl rfl rfl))
end Go.Proofs.YtalffjplbhelcaaGreatDoor
namespace Go.Proofs.YtalffjplbhelcaaGreatDoor
open Go.RowKit
end Go.Proofs.YtalffjplbhelcaaGreatDoor
namespace Go.Proofs.YtalffjplbhelcaaGreatDoor
open Go.RowKit
attribute [local irreducible] AC AR DWalk
def gLn0  : Iv := (decOf (⟨5876, 4⟩ : Dec))
set_option maxRecDepth 100000 in
theorem c_gLn0  : Gets Tryz.prog 18 #[.int .i64 0] (Iv.v gLn0) := by
 refine gets_fin Tryz.func18 rfl rfl rfl (aQ (aL (ao 2 rfl rfl (st_new zero32 rfl fun g0 => (aN (aQ (aL (ao 4 rfl rfl (st_bs (us := [(0, .int .i64 5876), (1, .int .i64 4861), (2, .int .i64 6563)]) (cs := [.int .i64 5876, .int .i64 4861, .int .i64 6563]) rfl rfl (bs22_3_0_1_2 _ _ _) fun g1 => (aA 3 (.slice (some ⟨g1, 0, none⟩) 3 3) rfl rfl (aN (aQ (aQ (aL (aM 5 (.int .i64 0) rfl rfl (aB 6 (.bool false) rfl rfl rfl (bi_lss (by decide)) (aM 7 (.bool false) rfl rfl (ar_gd (d := (some 8)) rfl rfl (st_move (v := .int .i64 0) rfl rfl (ar_gd (d := (some 9)) rfl rfl (st_move (v := .slice (some ⟨g1, 0, none⟩) 3 3) rfl rfl ?_)))))))))))))))))))))
 refine ar_gd (d := (some 10)) rfl rfl (st_ln (a := some ⟨g1, 0, none⟩) (m := 3) (c := 3) rfl Tryz.underlying22 rfl (ar_gd (d := (some 11)) rfl rfl (st_bi (r := .bool false) rfl rfl rfl (bi_geq (by decide)) (ao 12 rfl rfl (st_pkf (v := .bool false) rfl rfl rfl (aN (ac_else rfl (ac_skip (aQ (aL (aM 14 (.slice (some ⟨g1, 0, none⟩) 3 3) rfl rfl (aM 15 (.int .i64 0) rfl rfl (ao 16 rfl rfl (st_sa (g := g1) (off := 0) (m := 3) (c := 3) (s := 1) (i := 0) rfl Tryz.underlying22 (by kernel_rfl) rfl rfl (by decide) (aD 17 (.int .i64 5876) cell3 0 rfl rfl rfl rfl ?_)))))))))))))))
 refine ao 18 rfl rfl (st_bd (us := [(0, .int .i64 5876), (1, .int .i64 4)]) (v := .agg #[.int .i64 5876, .int .i64 4]) rfl rfl (bd26_0_1 _ _) (aC 19 (c_decOf (⟨5876, 4⟩ : Dec)) Tryz.func35 ⟨rfl, by decide⟩ rfl rfl (aS [.int .i64 ((decOf (⟨5876, 4⟩ : Dec)).lo), .int .i64 ((decOf (⟨5876, 4⟩ : Dec)).hi), .bool ((decOf (⟨5876, 4⟩ : Dec)).no)] agg32 1 rfl rfl rfl rfl rfl rfl (aN (ac_ret ?_)))))
 exact fin_eq (v := .agg #[.int .i64 ((decOf (⟨5876, 4⟩ : Dec)).lo), .int .i64 ((decOf (⟨5876, 4⟩ : Dec)).hi), .bool ((decOf (⟨5876, 4⟩ : Dec)).no)]) rfl (fin_ret (res_c (vs := [.int .i64 ((decOf (⟨5876, 4⟩ : Dec)).lo), .int .i64 ((decOf (⟨5876, 4⟩ : Dec)).hi), .bool ((decOf (⟨5876, 4⟩ : Dec)).no)]) agg32 1 rfl rfl rfl rfl rfl rfl))
def gLn1  : Iv := (decOf (⟨4861, 4⟩ : Dec))
set_option maxRecDepth 100000 in
theorem c_gLn1  : Gets Tryz.prog 18 #[.int .i64 1] (Iv.v gLn1) := by
 refine gets_fin Tryz.func18 rfl rfl rfl (aQ (aL (ao 2 rfl rfl (st_new zero32 rfl fun g0 => (aN (aQ (aL (ao 4 rfl rfl (st_bs (us := [(0, .int .i64 5876), (1, .int .i64 4861), (2, .int .i64 6563)]) (cs := [.int .i64 5876, .int .i64 4861, .int .i64 6563]) rfl rfl (bs22_3_0_1_2 _ _ _) fun g1 => (aA 3 (.slice (some ⟨g1, 0, none⟩) 3 3) rfl rfl (aN (aQ (aQ (aL (aM 5 (.int .i64 1) rfl rfl (aB 6 (.bool false) rfl rfl rfl (bi_lss (by decide)) (aM 7 (.bool false) rfl rfl (ar_gd (d := (some 8)) rfl rfl (st_move (v := .int .i64 1) rfl rfl (ar_gd (d := (some 9)) rfl rfl (st_move (v := .slice (some ⟨g1, 0, none⟩) 3 3) rfl rfl ?_)))))))))))))))))))))
 refine ar_gd (d := (some 10)) rfl rfl (st_ln (a := some ⟨g1, 0, none⟩) (m := 3) (c := 3) rfl Tryz.underlying22 rfl (ar_gd (d := (some 11)) rfl rfl (st_bi (r := .bool false) rfl rfl rfl (bi_geq (by decide)) (ao 12 rfl rfl (st_pkf (v := .bool false) rfl rfl rfl (aN (ac_else rfl (ac_skip (aQ (aL (aM 14 (.slice (some ⟨g1, 0, none⟩) 3 3) rfl rfl (aM 15 (.int .i64 1) rfl rfl (ao 16 rfl rfl (st_sa (g := g1) (off := 0) (m := 3) (c := 3) (s := 1) (i := 1) rfl Tryz.underlying22 (by kernel_rfl) rfl rfl (by decide) (aD 17 (.int .i64 4861) cell3 0 rfl rfl rfl rfl ?_)))))))))))))))
 refine ao 18 rfl rfl (st_bd (us := [(0, .int .i64 4861), (1, .int .i64 4)]) (v := .agg #[.int .i64 4861, .int .i64 4]) rfl rfl (bd26_0_1 _ _) (aC 19 (c_decOf (⟨4861, 4⟩ : Dec)) Tryz.func35 ⟨rfl, by decide⟩ rfl rfl (aS [.int .i64 ((decOf (⟨4861, 4⟩ : Dec)).lo), .int .i64 ((decOf (⟨4861, 4⟩ : Dec)).hi), .bool ((decOf (⟨4861, 4⟩ : Dec)).no)] agg32 1 rfl rfl rfl rfl rfl rfl (aN (ac_ret ?_)))))
 exact fin_eq (v := .agg #[.int .i64 ((decOf (⟨4861, 4⟩ : Dec)).lo), .int .i64 ((decOf (⟨4861, 4⟩ : Dec)).hi), .bool ((decOf (⟨4861, 4⟩ : Dec)).no)]) rfl (fin_ret (res_c (vs := [.int .i64 ((decOf (⟨4861, 4⟩ : Dec)).lo), .int .i64 ((decOf (⟨4861, 4⟩ : Dec)).hi), .bool ((decOf (⟨4861, 4⟩ : Dec)).no)]) agg32 1 rfl rfl rfl rfl rfl rfl))
def gLn2  : Iv := (decOf (⟨6563, 4⟩ : Dec))
set_option maxRecDepth 100000 in
theorem c_gLn2  : Gets Tryz.prog 18 #[.int .i64 2] (Iv.v gLn2) := by
 refine gets_fin Tryz.func18 rfl rfl rfl (aQ (aL (ao 2 rfl rfl (st_new zero32 rfl fun g0 => (aN (aQ (aL (ao 4 rfl rfl (st_bs (us := [(0, .int .i64 5876), (1, .int .i64 4861), (2, .int .i64 6563)]) (cs := [.int .i64 5876, .int .i64 4861, .int .i64 6563]) rfl rfl (bs22_3_0_1_2 _ _ _) fun g1 => (aA 3 (.slice (some ⟨g1, 0, none⟩) 3 3) rfl rfl (aN (aQ (aQ (aL (aM 5 (.int .i64 2) rfl rfl (aB 6 (.bool false) rfl rfl rfl (bi_lss (by decide)) (aM 7 (.bool false) rfl rfl (ar_gd (d := (some 8)) rfl rfl (st_move (v := .int .i64 2) rfl rfl (ar_gd (d := (some 9)) rfl rfl (st_move (v := .slice (some ⟨g1, 0, none⟩) 3 3) rfl rfl ?_)))))))))))))))))))))
 refine ar_gd (d := (some 10)) rfl rfl (st_ln (a := some ⟨g1, 0, none⟩) (m := 3) (c := 3) rfl Tryz.underlying22 rfl (ar_gd (d := (some 11)) rfl rfl (st_bi (r := .bool false) rfl rfl rfl (bi_geq (by decide)) (ao 12 rfl rfl (st_pkf (v := .bool false) rfl rfl rfl (aN (ac_else rfl (ac_skip (aQ (aL (aM 14 (.slice (some ⟨g1, 0, none⟩) 3 3) rfl rfl (aM 15 (.int .i64 2) rfl rfl (ao 16 rfl rfl (st_sa (g := g1) (off := 0) (m := 3) (c := 3) (s := 1) (i := 2) rfl Tryz.underlying22 (by kernel_rfl) rfl rfl (by decide) (aD 17 (.int .i64 6563) cell3 0 rfl rfl rfl rfl ?_)))))))))))))))
 refine ao 18 rfl rfl (st_bd (us := [(0, .int .i64 6563), (1, .int .i64 4)]) (v := .agg #[.int .i64 6563, .int .i64 4]) rfl rfl (bd26_0_1 _ _) (aC 19 (c_decOf (⟨6563, 4⟩ : Dec)) Tryz.func35 ⟨rfl, by decide⟩ rfl rfl (aS [.int .i64 ((decOf (⟨6563, 4⟩ : Dec)).lo), .int .i64 ((decOf (⟨6563, 4⟩ : Dec)).hi), .bool ((decOf (⟨6563, 4⟩ : Dec)).no)] agg32 1 rfl rfl rfl rfl rfl rfl (aN (ac_ret ?_)))))
 exact fin_eq (v := .agg #[.int .i64 ((decOf (⟨6563, 4⟩ : Dec)).lo), .int .i64 ((decOf (⟨6563, 4⟩ : Dec)).hi), .bool ((decOf (⟨6563, 4⟩ : Dec)).no)]) rfl (fin_ret (res_c (vs := [.int .i64 ((decOf (⟨6563, 4⟩ : Dec)).lo), .int .i64 ((decOf (⟨6563, 4⟩ : Dec)).hi), .bool ((decOf (⟨6563, 4⟩ : Dec)).no)]) agg32 1 rfl rfl rfl rfl rfl rfl))
end Go.Proofs.YtalffjplbhelcaaGreatDoor
namespace Go.Proofs.YtalffjplbhelcaaGreatDoor
open Go.RowKit
attribute [local irreducible] AC AR DWalk
def gLnN (k : Int) : Iv := (bif decide (k < 0) then ivNone else ivNone)
set_option maxRecDepth 100000 in
theorem c_gLnN (k : Int) (hk : ¬ (0 ≤ k ∧ k < 3)) : Gets Tryz.prog 18 #[.int .i64 k] (Iv.v (gLnN k)) := by
 refine gets_fin Tryz.func18 rfl rfl rfl (aQ (aL (ao 2 rfl rfl (st_new zero32 rfl fun g0 => (aN (aQ (aL (ao 4 rfl rfl (st_bs (us := [(0, .int .i64 5876), (1, .int .i64 4861), (2, .int .i64 6563)]) (cs := [.int .i64 5876, .int .i64 4861, .int .i64 6563]) rfl rfl (bs22_3_0_1_2 _ _ _) fun g1 => (aA 3 (.slice (some ⟨g1, 0, none⟩) 3 3) rfl rfl (aN (aQ (aQ (aL (aM 5 (.int .i64 k) rfl rfl (aB 6 (.bool (decide (k < 0))) rfl rfl rfl (bi_lss rfl) (aM 7 (.bool (decide (k < 0))) rfl rfl ?_)))))))))))))))))
 refine bool_split (decide (k < 0)) (fun h1 => ?_) (fun h1 => ?_)
 ·refine aK 8 (by show ((decide (k < 0)) == false) = false; rw [h1]; rfl) rfl (aK 9 (by show ((decide (k < 0)) == false) = false; rw [h1]; rfl) rfl (aK 10 (by show ((decide (k < 0)) == false) = false; rw [h1]; rfl) rfl (aK 11 (by show ((decide (k < 0)) == false) = false; rw [h1]; rfl) rfl (ao 12 rfl rfl (st_pkt' (b := decide (k < 0)) (v := .bool true) h1 rfl rfl rfl (aN (ac_then rfl (aQ (aL (aC 13 c_ivNone Tryz.func25 ⟨rfl, by decide⟩ rfl rfl (aS [.int .i64 ivNone.lo, .int .i64 ivNone.hi, .bool ivNone.no] agg32 1 rfl rfl rfl rfl rfl rfl (aN (ac_ret ?_)))))))))))))
  exact fin_eq (v := .agg #[.int .i64 ivNone.lo, .int .i64 ivNone.hi, .bool ivNone.no]) (by show _ = Iv.v (gLnN k); rw [gLnN, h1] <;> rfl) (fin_ret (res_c (vs := [.int .i64 ivNone.lo, .int .i64 ivNone.hi, .bool ivNone.no]) agg32 1 rfl rfl rfl rfl rfl rfl))
 ·refine ar_gd (d := (some 8)) (by show ((decide (k < 0)) == false) = true; rw [h1]; rfl) rfl (st_move (v := .int .i64 k) rfl rfl (ar_gd (d := (some 9)) (by show ((decide (k < 0)) == false) = true; rw [h1]; rfl) rfl (st_move (v := .slice (some ⟨g1, 0, none⟩) 3 3) rfl rfl (ar_gd (d := (some 10)) (by show ((decide (k < 0)) == false) = true; rw [h1]; rfl) rfl (st_ln (a := some ⟨g1, 0, none⟩) (m := 3) (c := 3) rfl Tryz.underlying22 rfl (ar_gd (d := (some 11)) (by show ((decide (k < 0)) == false) = true; rw [h1]; rfl) rfl (st_bi (r := .bool (decide (k ≥ 3))) rfl rfl rfl (bi_geq rfl) (ao 12 rfl rfl (st_pkf' (b := decide (k < 0)) (v := .bool (decide (k ≥ 3))) h1 rfl rfl rfl ?_)))))))))
  refine aN (ac_then' (b := decide (k ≥ 3)) (show (decide (k ≥ 3)) = true from decide_eq_true (by have := of_decide_eq_false h1; omega)) rfl (aQ (aL (aC 13 c_ivNone Tryz.func25 ⟨rfl, by decide⟩ rfl rfl (aS [.int .i64 ivNone.lo, .int .i64 ivNone.hi, .bool ivNone.no] agg32 1 rfl rfl rfl rfl rfl rfl (aN (ac_ret (fin_eq (v := .agg #[.int .i64 ivNone.lo, .int .i64 ivNone.hi, .bool ivNone.no]) (by show _ = Iv.v (gLnN k); rw [gLnN, h1] <;> rfl) (fin_ret (res_c (vs := [.int .i64 ivNone.lo, .int .i64 ivNone.hi, .bool ivNone.no]) agg32 1 rfl rfl rfl rfl rfl rfl))))))))))
end Go.Proofs.YtalffjplbhelcaaGreatDoor
