import Derived.Test.YtalffjplbhelcaaDoorMLexTells7
import Derived.Test.YtalffjplbhelcaaDoorMLexTells1
import Derived.WalkKit
import Derived.ProofKit
import Derived.OpenShut
import Derived.ShutString
import Derived.ChangeOld
import Derived.Below
import Derived.SizedLaws
import Derived.ChangeSlices
import Derived.Test.YtalffjplbhelcaaDoorMLexTells3
set_option linter.unusedVariables false
set_option linter.unusedSimpArgs false
namespace Go.Proofs.YtalffjplbhelcaaDoor
open Go.RowKit
structure RPair where
  x : Int
  y : Int
deriving DecidableEq
section
variable {p : Program} {n : Nat} {o : Oper} {H : List Box} {ρ : Operand → Value} {K : Post}
theorem st_ldam {t t0 m : TypeId} {x : Operand} {g off : Nat} {cs vs : List Value} {ro : Bool} (ha : IsAgg p t m) (ho : o.op = .load t x) (hx : ρ x = .pointer (some ⟨g, off, none⟩)) (hm : (⟨g, cs, t0, ro⟩ : Box) ∈ H) (hn : vs.length = m) (hc : (cs.drop off).take m = vs) (k : K (.agg vs.toArray) H) : Step p ρ o H K := by
  obtain ⟨i, hi⟩ := List.getElem?_of_mem hm
  exact st_lda (g := g) (off := off) (vs := vs) ha i ho hx hi rfl hn hc k
theorem has_self (R : List Box) : Has R R := fun b hb => ⟨b, hb, rfl, rfl, rfl⟩
theorem st_ownT {K : Post} (h : (H.map Box.g).Nodup → Step p ρ o H K) : Step p ρ o H K := fun F β w hO hB => h (by
  have := hO.apart
  rw [List.map_append, List.nodup_append] at this
  exact this.1) F β w hO hB
end
theorem flatT_drop (T : List Tok) (r : List Value) (i : Nat) (t : Tok) (h : T[i]? = some t) : ((flatT T ++ r).drop (0 + i * 3)).take 3 = t.cells := by
  rw [Nat.zero_add]
  apply List.ext_getElem?
  intro j
  rw [List.getElem?_take]
  by_cases hj : j < 3
  · rw [if_pos hj, List.getElem?_drop]
    exact flatT_at T r i t h j hj
  · rw [if_neg hj, List.getElem?_eq_none]
    show 3 ≤ j
    omega
theorem flatR_at (T : List RTok) (r : List Value) (i : Nat) (t : RTok) (h : T[i]? = some t) (j : Nat) (hj : j < 4) : (flatR T ++ r)[i * 4 + j]? = t.cells[j]? := by
  induction T generalizing i with
  | nil => simp at h
  | cons a T ih =>
    have e : flatR (a :: T) = a.cells ++ flatR T := by simp [flatR]
    cases i with
    | zero =>
      simp only [List.getElem?_cons_zero, Option.some.injEq] at h
      subst h
      rw [e, List.append_assoc, List.getElem?_append_left (by simp [RTok.cells]; omega)]
      simp
    | succ i =>
      simp only [List.getElem?_cons_succ] at h
      rw [e, List.append_assoc, List.getElem?_append_right (by simp [RTok.cells]; omega)]
      have e2 : (i + 1) * 4 + j - a.cells.length = i * 4 + j := by simp [RTok.cells]; omega
      rw [e2]
      exact ih i h
theorem flatR_kind (T : List RTok) (r : List Value) (i : Nat) (t : RTok) (h : T[i]? = some t) : (flatR T ++ r)[0 + i * 4 + 0]? = some (.int .i64 t.kind) := by
  rw [Nat.zero_add]; exact flatR_at T r i t h 0 (by omega)
theorem flatR_text (T : List RTok) (r : List Value) (i : Nat) (t : RTok) (h : T[i]? = some t) : (flatR T ++ r)[0 + i * 4 + 1]? = some (.string t.text) := by
  rw [Nat.zero_add]; exact flatR_at T r i t h 1 (by omega)
theorem flatR_pair (T : List RTok) (r : List Value) (i : Nat) (t : RTok) (h : T[i]? = some t) : ((flatR T ++ r).drop (0 + i * 4 + 2)).take 2 = [.int .i64 t.x, .int .i64 t.y] := by
  rw [Nat.zero_add]
  apply List.ext_getElem?
  intro j
  rw [List.getElem?_take]
  by_cases hj : j < 2
  · rw [if_pos hj, List.getElem?_drop, Nat.add_assoc, flatR_at T r i t h (2 + j) (by omega)]
    have : j = 0 ∨ j = 1 := by omega
    rcases this with rfl | rfl <;> rfl
  · rw [if_neg hj, List.getElem?_eq_none]
    show 2 ≤ j
    omega
def PlOk (c : Cx) : Prop := cxEq c c = true
theorem fl_refl : ∀ n : Nat, n ≤ 4002 → feq (fl (n : Int)) (fl (n : Int)) = true := by
  have h : ((List.range 4003).all fun n => feq (fl (n : Int)) (fl (n : Int))) = true := by decide +kernel
  intro n hn
  exact (List.all_eq_true.1 h) n (List.mem_range.2 (by omega))
theorem place_ok {a b : Int} (ha : 0 ≤ a ∧ a ≤ 4002) (hb : 0 ≤ b ∧ b ≤ 4002) : PlOk (place a b) := by
  obtain ⟨a, rfl⟩ := Int.eq_ofNat_of_zero_le ha.1
  obtain ⟨b, rfl⟩ := Int.eq_ofNat_of_zero_le hb.1
  unfold PlOk cxEq place
  rw [fl_refl a (by omega), fl_refl b (by omega)]
  rfl
theorem zero_ok : PlOk ⟨0, 0⟩ := by unfold PlOk; decide +kernel
def AllOk (R : LRes) : Prop := PlOk R.2.1 ∧ ∀ t ∈ R.1, PlOk t.at_
theorem all_ok : ∀ (n i : Nat) (s : ByteArray) (line start : Int) (any_ : Bool) (out : List Tok), s.size ≤ 4000 → i ≤ s.size → 1 ≤ line → line ≤ (i : Int) + 1 → 0 ≤ start → start ≤ i → (∀ t ∈ out, PlOk t.at_) → AllOk (lexRun s n i line start any_ out)
  | 0, i, s, line, start, any_, out, _, _, _, _, _, _, _ => ⟨zero_ok, by intro t ht; cases ht⟩
  | n + 1, i, s, line, start, any_, out, hs, hi, h1, h2, h3, h4, ho => by
    have hh : PlOk (lexHere i line start) := place_ok (by omega) (by rw [w64_in (n := (i : Int) - start) (by omega), w64_in (by omega)]; omega)
    have hmore : ∀ (k : Int) (x : ByteArray), ∀ t ∈ out ++ [(⟨k, x, lexHere i line start⟩ : Tok)], PlOk t.at_ := by
      intro k x t ht
      rcases List.mem_append.1 ht with ht | ht
      · exact ho t ht
      · obtain rfl := List.mem_singleton.1 ht
        exact hh
    have ge := fun P : Int → Bool => runTo_ge P s (s.size - (i + 1)) (i + 1)
    have feed : AllOk (lexFeed (lexRun s n) s i line any_ out (lexHere i line start)) := by
      unfold lexFeed
      by_cases he : (i : Int) = ((s).size : Int)
      · rw [show ((i : Int) == ((s).size : Int)) = true from beq_iff_eq.2 he]
        cases any_
        · exact ⟨zero_ok, ho⟩
        · exact ⟨zero_ok, hmore _ _⟩
      · have hl : i < s.size := by omega
        rw [i_ne hl]
        have ew : w64 (line + 1) = line + 1 := w64_in (by omega)
        cases any_
        · exact all_ok n (i + 1) s _ _ _ _ hs hl (by rw [ew]; omega) (by rw [ew]; omega) (by omega) (Int.le_refl _) ho
        · exact all_ok n (i + 1) s _ _ _ _ hs hl (by rw [ew]; omega) (by rw [ew]; omega) (by omega) (Int.le_refl _) (hmore _ _)
    rw [lexRun, lexStep]
    by_cases he : (i : Int) = ((s).size : Int)
    · rw [show ((i : Int) == ((s).size : Int)) = true from beq_iff_eq.2 he]
      exact feed
    · have hl : i < s.size := by omega
      have le := fun P : Int → Bool => runTo_le P s (s.size - (i + 1)) (i + 1) hl
      rw [i_ne hl, cond_false]
      have nx : ∀ (k : Nat) (a : Bool) (o : List Tok), i ≤ k → k ≤ s.size → (∀ t ∈ o, PlOk t.at_) → AllOk (lexRun s n k line start a o) := fun k a o h5 h6 h7 => all_ok n k s line start a o hs h6 h1 (by omega) h3 (by omega) h7
      have hnum : AllOk (lexNum (lexRun s n) s i line start out (lexHere i line start)) := by
        unfold lexNum
        cases (decRead (subS s (i : Int) ((runTo lexInNum s (s.size - (i + 1)) (i + 1) : Nat) : Int))).2
        · exact ⟨hh, by intro t ht; cases ht⟩
        · exact nx _ _ _ (by have := ge lexInNum; omega) (le lexInNum) (hmore _ _)
      cases (sAt s i) == 10
      · cases (sAt s i) == 32
        · cases (sAt s i) == 9
          · cases (sAt s i) == 35
            · cases lexLetter (sAt s i)
              · cases lexDigit (sAt s i)
                · cases (sAt s i) == 45
                  · exact ⟨hh, by intro t ht; cases ht⟩
                  · exact hnum
                · exact hnum
              · show AllOk (lexWord (lexRun s n) s i line start out (lexHere i line start))
                unfold lexWord
                cases decide ((w64 (((runTo lexInWord s (s.size - (i + 1)) (i + 1) : Nat) : Int) - (i : Int))) > 20)
                · exact nx _ _ _ (by have := ge lexInWord; omega) (le lexInWord) (hmore _ _)
                · exact ⟨hh, by intro t ht; cases ht⟩
            · exact nx _ _ _ (by have := ge lexNoLine; omega) (le lexNoLine) ho
          · exact nx _ _ _ (by omega) hl ho
        · exact nx _ _ _ (by omega) hl ho
      · exact feed
theorem lexAll_ok (s : ByteArray) : AllOk (lexAll s) := by
  unfold lexAll
  by_cases h : ((s.size : Int) > 4000)
  · rw [decide_eq_true h]
    exact ⟨zero_ok, by intro t ht; cases ht⟩
  · rw [decide_eq_false h]
    exact all_ok _ 0 s 1 0 false [] (by omega) (Nat.zero_le _) (by omega) (by omega) (by omega) (by omega) (by intro t ht; cases ht)
theorem tok_refl {t : Tok} (h : PlOk t.at_) : tokEq t t = true := by
  unfold tokEq
  rw [show cxEq t.at_ t.at_ = true from h]
  simp [beq_toListBytes]
end Go.Proofs.YtalffjplbhelcaaDoor
namespace Go.Proofs.YtalffjplbhelcaaDoor
open Go.RowKit
theorem fa37_0 (a : Addr) : Runs Tryd.prog (Instr.fieldAt 37 (.pointer (some a)) 0) (.pointer (some (a.add 0))) := run_fa (f := 0) (off := 0) (m := 1) Tryd.underlying37 rfl rfl (by kernel_rfl) (by decide) a
theorem fa37_1 (a : Addr) : Runs Tryd.prog (Instr.fieldAt 37 (.pointer (some a)) 1) (.pointer (some (a.add 1))) := run_fa (f := 1) (off := 1) (m := 1) Tryd.underlying37 rfl rfl (by kernel_rfl) (by decide) a
theorem fa42_2 (a : Addr) : Runs Tryd.prog (Instr.fieldAt 42 (.pointer (some a)) 2) (.pointer (some (a.add 2))) := run_fa (f := 2) (off := 2) (m := 2) Tryd.underlying42 rfl rfl (by kernel_rfl) (by decide) a
end Go.Proofs.YtalffjplbhelcaaDoor
namespace Go.Proofs.YtalffjplbhelcaaDoor
open Go.RowKit
attribute [local irreducible] AC AR DWalk
def rPlace (p : RPair) : Cx := (⟨fl p.x, fl p.y⟩ : Cx)
set_option maxRecDepth 100000 in
theorem c_rPlace (p : RPair) : Gets Tryd.prog 14 #[.agg #[.int .i64 p.x, .int .i64 p.y]] ((fun (r : Cx) => (.complex .f64 (r).re (r).im : Value)) (rPlace p)) := by
 refine gets_fin Tryd.func14 rfl rfl rfl (aQ (aL (ao 1 rfl rfl (st_box (v := .agg #[.int .i64 p.x, .int .i64 p.y]) (cs := [.int .i64 p.x, .int .i64 p.y]) rfl rfl rfl fun g0 => (aA 2 (.complex .f64 ((⟨0, 0⟩ : Cx)).re ((⟨0, 0⟩ : Cx)).im) rfl rfl (aN (aQ (aL (aF 3 fa37_0 rfl rfl (aD 4 (.int .i64 p.x) cell3 0 rfl rfl rfl rfl (ao 5 rfl rfl (st_cvf (a := p.x) rfl rfl Tryd.underlying45 Tryd.underlying3 (aF 6 fa37_1 rfl rfl (aD 7 (.int .i64 p.y) cell3 0 rfl rfl rfl rfl (ao 8 rfl rfl (st_cvf (a := p.y) rfl rfl Tryd.underlying45 Tryd.underlying3 (ao 9 rfl rfl (st_cpx (a := (fl p.x)) (b := (fl p.y)) rfl rfl ?_))))))))))))))))))
 refine aA 2 (.complex .f64 ((⟨fl p.x, fl p.y⟩ : Cx)).re ((⟨fl p.x, fl p.y⟩ : Cx)).im) rfl rfl (aN (ac_ret (fin_eq (v := .complex .f64 ((⟨fl p.x, fl p.y⟩ : Cx)).re ((⟨fl p.x, fl p.y⟩ : Cx)).im) rfl (fin_ret (res_tmp rfl rfl)))))
end Go.Proofs.YtalffjplbhelcaaDoor
namespace Go.Proofs.YtalffjplbhelcaaDoor
open Go.RowKit
attribute [local irreducible] AC AR DWalk
set_option maxRecDepth 100000 in
theorem te_go (g1 g2 M c1 c2 k t1 t2 : Nat) (ta : Tok) (tb : RTok) (tx ty : Int) (cs1 cs2 : List Value) (r1 r2 : Bool) {H : List Box} (hk : k < M) (hm1 : (⟨g1, cs1, t1, r1⟩ : Box) ∈ H) (hm2 : (⟨g2, cs2, t2, r2⟩ : Box) ∈ H) (ha : (cs1.drop (0 + k * 3)).take 3 = ta.cells) (hb0 : cs2[0 + k * 4 + 0]? = some (.int .i64 tb.kind)) (hb1 : cs2[0 + k * 4 + 1]? = some (.string tb.text)) (hb2 : (cs2.drop (0 + k * 4 + 2)).take 2 = [.int .i64 tx, .int .i64 ty]) (et : tokEq ta (⟨tb.kind, tb.text, (rPlace (⟨tx, ty⟩ : RPair))⟩ : Tok) = true) {Q : Exit → Env → List Box → Prop} {E : Env} {c : Code} {j : Nat} (hc : Tryd.f4.body.bind loopOf = some c) (q8 : E 8 = .slice (some ⟨g1, 0, none⟩) M c1) (q11 : E 11 = .slice (some ⟨g2, 0, none⟩) M c2) (q53 : E 53 = .int .i64 (M : Int)) (q54 : E 54 = .int .i64 (k : Int)) (K : ∀ E' : Env, E' 8 = .slice (some ⟨g1, 0, none⟩) M c1 → E' 11 = .slice (some ⟨g2, 0, none⟩) M c2 → E' 53 = .int .i64 (M : Int) → E' 54 = .int .i64 (w64 ((k : Int) + 1)) → ARounds Tryd.prog 80 c Q j E' H) : ARounds Tryd.prog 80 c Q (j + 1) E H := by
 rw [show Tryd.f4.body.bind loopOf = some _ from rfl] at hc
 cases hc
 obtain ⟨E0, rfl⟩ : ∃ E0 : Env, E = ((((E0.put (some 8) (.slice (some ⟨g1, 0, none⟩) M c1)).put (some 11) (.slice (some ⟨g2, 0, none⟩) M c2)).put (some 53) (.int .i64 (M : Int))).put (some 54) (.int .i64 (k : Int))) := ⟨E, by rw [put_self q8, put_self q11, put_self q53, put_self q54]⟩
 refine ar_round (aQ (aL (aB 55 (.bool (decide ((k : Int) < (M : Int)))) rfl rfl rfl (bi_lss rfl) (aN (aQ (ac_then' (b := decide ((k : Int) < (M : Int))) (decide_eq_true (by omega)) rfl (ac_skip (aQ (ac_block (aQ (aL (aM 56 (.int .i64 (k : Int)) rfl rfl (aA 14 (.int .i64 (k : Int)) rfl rfl (aN (aQ ?_)))))))))))))))
 refine ac_draw0 (id := 11) [0, 1, 2, 3, 4, 5, 6, 7, 8, 9, 10, 11, 12, 13, 14, 15, 16, 17, 18, 19, 20, 21] [] _ (by kernel_rfl) follows rfl  (dw_op (d := some 57) _ rfl rfl rfl (st_move (v := .slice (some ⟨g1, 0, none⟩) M c1) rfl rfl ⟨rfl, rfl⟩) (dw_op (d := some 58) _ rfl rfl rfl (st_move (v := .int .i64 (k : Int)) rfl rfl ⟨rfl, rfl⟩) (dw_op (d := some 59) _ rfl rfl rfl (st_sa (g := g1) (off := 0) (m := M) (c := c1) (s := 3) (i := k) rfl Tryd.underlying22 (by kernel_rfl) rfl rfl hk ⟨rfl, rfl⟩) ?_)))
 refine dw_op (d := some 60) _ rfl rfl rfl (st_ldam (g := g1) (off := 0 + k * 3) (vs := [.int .i64 ta.kind, .string ta.text, .complex .f64 (ta.at_).re (ta.at_).im]) agg32 rfl rfl hm1 rfl ha ⟨rfl, rfl⟩) (dw_op (d := some 61) _ rfl rfl rfl (st_move (v := .slice (some ⟨g2, 0, none⟩) M c2) rfl rfl ⟨rfl, rfl⟩) (dw_op (d := some 62) _ rfl rfl rfl (st_move (v := .int .i64 (k : Int)) rfl rfl ⟨rfl, rfl⟩) (dw_op (d := some 63) _ rfl rfl rfl (st_sa (g := g2) (off := 0) (m := M) (c := c2) (s := 4) (i := k) rfl Tryd.underlying35 (by kernel_rfl) rfl rfl hk ⟨rfl, rfl⟩) (dw_op (d := some 64) _ rfl rfl rfl (st_fa rfl fa42_0 rfl ⟨rfl, rfl⟩) ?_))))
 refine dw_op (d := some 65) _ rfl rfl rfl (st_ldm (g := g2) (off := 0 + k * 4 + 0) (v := .int .i64 tb.kind) cell3 rfl rfl hm2 hb0 ⟨rfl, rfl⟩) (dw_op (d := some 66) _ rfl rfl rfl (st_move (v := .slice (some ⟨g2, 0, none⟩) M c2) rfl rfl ⟨rfl, rfl⟩) (dw_op (d := some 67) _ rfl rfl rfl (st_move (v := .int .i64 (k : Int)) rfl rfl ⟨rfl, rfl⟩) (dw_op (d := some 68) _ rfl rfl rfl (st_sa (g := g2) (off := 0) (m := M) (c := c2) (s := 4) (i := k) rfl Tryd.underlying35 (by kernel_rfl) rfl rfl hk ⟨rfl, rfl⟩) (dw_op (d := some 69) _ rfl rfl rfl (st_fa rfl fa42_1 rfl ⟨rfl, rfl⟩) ?_))))
 refine dw_op (d := some 70) _ rfl rfl rfl (st_ldm (g := g2) (off := 0 + k * 4 + 1) (v := .string tb.text) cell9 rfl rfl hm2 hb1 ⟨rfl, rfl⟩) (dw_op (d := some 71) _ rfl rfl rfl (st_move (v := .slice (some ⟨g2, 0, none⟩) M c2) rfl rfl ⟨rfl, rfl⟩) (dw_op (d := some 72) _ rfl rfl rfl (st_move (v := .int .i64 (k : Int)) rfl rfl ⟨rfl, rfl⟩) (dw_op (d := some 73) _ rfl rfl rfl (st_sa (g := g2) (off := 0) (m := M) (c := c2) (s := 4) (i := k) rfl Tryd.underlying35 (by kernel_rfl) rfl rfl hk ⟨rfl, rfl⟩) (dw_op (d := some 74) _ rfl rfl rfl (st_fa rfl fa42_2 rfl ⟨rfl, rfl⟩) ?_))))
 refine dw_op (d := some 75) _ rfl rfl rfl (st_ldam (g := g2) (off := 0 + k * 4 + 2) (vs := [.int .i64 tx, .int .i64 ty]) agg37 rfl rfl hm2 rfl hb2 ⟨rfl, rfl⟩) (dw_op (d := some 76) _ rfl rfl rfl (st_cf (c_rPlace (⟨tx, ty⟩ : RPair)) Tryd.func14 rfl (by decide) rfl rfl rfl ⟨rfl, rfl⟩) (dw_op (d := some 77) _ rfl rfl rfl (st_bd (us := [(0, .int .i64 tb.kind), (1, .string tb.text), (2, .complex .f64 ((rPlace (⟨tx, ty⟩ : RPair))).re ((rPlace (⟨tx, ty⟩ : RPair))).im)]) (v := .agg #[.int .i64 tb.kind, .string tb.text, .complex .f64 ((rPlace (⟨tx, ty⟩ : RPair))).re ((rPlace (⟨tx, ty⟩ : RPair))).im]) rfl rfl (bd32_0_1_2 _ _ _) ⟨rfl, rfl⟩) ?_))
 refine dw_op (d := some 78) _ rfl rfl rfl (st_bi (r := .bool (!tokEq ta (⟨tb.kind, tb.text, (rPlace (⟨tx, ty⟩ : RPair))⟩ : Tok))) rfl rfl rfl (bneq_32 ta (⟨tb.kind, tb.text, (rPlace (⟨tx, ty⟩ : RPair))⟩ : Tok) rfl) ⟨rfl, rfl⟩) (dw_nil (aN (ac_else' (b := !tokEq ta (⟨tb.kind, tb.text, (rPlace (⟨tx, ty⟩ : RPair))⟩ : Tok)) (by rw [et]; rfl) rfl (ac_skip (aL (aB 79 (.int .i64 (w64 ((k : Int) + 1))) rfl rfl rfl (bi_add rfl) (aM 54 (.int .i64 (w64 ((k : Int) + 1))) rfl rfl (aN ?_))))))))
 exact K _ rfl rfl rfl rfl
set_option maxRecDepth 100000 in
theorem te_end (M : Nat) {H : List Box} {Q : Exit → Env → List Box → Prop} {E : Env} {c : Code} {j : Nat} (hc : Tryd.f4.body.bind loopOf = some c) (q53 : E 53 = .int .i64 (M : Int)) (q54 : E 54 = .int .i64 (M : Int)) (K : ∀ E' : Env, Q (.exit 0) E' H) : ARounds Tryd.prog 80 c Q (j + 1) E H := by
 rw [show Tryd.f4.body.bind loopOf = some _ from rfl] at hc
 cases hc
 obtain ⟨E0, rfl⟩ : ∃ E0 : Env, E = ((E0.put (some 53) (.int .i64 (M : Int))).put (some 54) (.int .i64 (M : Int))) := ⟨E, by rw [put_self q53, put_self q54]⟩
 refine ar_round (aQ (aL (aB 55 (.bool (decide ((M : Int) < (M : Int)))) rfl rfl rfl (bi_lss rfl) (aN (aQ (ac_else' (b := decide ((M : Int) < (M : Int))) (decide_eq_false (by omega)) rfl (ac_exit ?_)))))))
 exact K _
def RowT (a : Option Addr) (T : List Tok) (H : List Box) : Prop := ∀ i, i < T.length → ∃ (g : Nat) (r : List Value), a = some ⟨g, 0, none⟩ ∧ (⟨g, flatT T ++ r, 32, false⟩ : Box) ∈ H
def RowR (a : Option Addr) (T : List RTok) (H : List Box) : Prop := ∀ i, i < T.length → ∃ (g : Nat) (r : List Value), a = some ⟨g, 0, none⟩ ∧ (⟨g, flatR T ++ r, 42, false⟩ : Box) ∈ H
theorem te_loop (M c1 c2 : Nat) (a1 a2 : Option Addr) (T : List RTok) {H : List Box} (hM : M ≤ 4001) (h1 : T.length = M) (hr1 : RowT a1 (T.map RTok.toTok) H) (hr2 : RowR a2 T H) (hp : ∀ t ∈ T.map RTok.toTok, PlOk t.at_) {Q : Exit → Env → List Box → Prop} {c : Code} (hc : Tryd.f4.body.bind loopOf = some c) :
  ∀ (j k : Nat) (E : Env), k + j = M → E 8 = .slice a1 M c1 → E 11 = .slice a2 M c2 → E 53 = .int .i64 (M : Int) → E 54 = .int .i64 (k : Int) → (∀ E' : Env, Q (.exit 0) E' H) → ARounds Tryd.prog 80 c Q (j + 1) E H := by
 intro j
 induction j with
 | zero =>
  intro k E hk q1 q2 q3 q4 K
  obtain rfl : k = M := by omega
  exact te_end k hc q3 q4 K
 | succ j ih =>
  intro k E hk q1 q2 q3 q4 K
  obtain ⟨g1, r1, ha1, hm1⟩ := hr1 k (by simp; omega)
  obtain ⟨g2, r2, ha2, hm2⟩ := hr2 k (by omega)
  subst ha1 ha2
  have e2 : T[k]? = some (T[k]'(by omega)) := List.getElem?_eq_getElem _
  have e1 : (T.map RTok.toTok)[k]? = some (T[k]'(by omega)).toTok := by rw [List.getElem?_map, e2]; rfl
  exact te_go g1 g2 M c1 c2 k _ _ _ (T[k]'(by omega)) _ _ _ _ _ _ (by omega) hm1 hm2 (flatT_drop _ _ _ _ e1) (flatR_kind _ _ _ _ e2) (flatR_text _ _ _ _ e2) (flatR_pair _ _ _ _ e2) (tok_refl (hp _ (List.mem_of_getElem? e1))) hc q1 q2 q3 q4 (fun E' f1 f2 f3 f4 => ih (k + 1) E' (by omega) f1 f2 f3 (by rw [f4, w64_in (by omega)]; rfl) K)
theorem te_at {s : ByteArray} {T : List RTok} {x y e : Int} (hq : lexAll s = (T.map RTok.toTok, place x y, e)) : cxEq (lexAll s).2.1 (rPlace (⟨x, y⟩ : RPair)) = true := by
 have h := (lexAll_ok s).1
 rw [hq] at h ⊢
 exact h
theorem te_no {s : ByteArray} {T : List RTok} {x y e : Int} (hq : lexAll s = (T.map RTok.toTok, place x y, e)) : ((lexAll s).2.2 != e) = false := by
 rw [hq]
 simp
theorem te_len {s : ByteArray} {T : List RTok} {x y e : Int} {M : Nat} (hq : lexAll s = (T.map RTok.toTok, place x y, e)) (hM : M = T.length) : (((lexAll s).1.length : Int) != (M : Int)) = false := by
 rw [hq, hM]
 simp
set_option maxRecDepth 100000 in
set_option maxHeartbeats 4000000 in
theorem c_tellsF (m1 c1 : Nat) (a1 : Option Addr) (x1 : Nat → Int) (raw : ByteArray) (NA : List Box) (hraw : raw.size ≤ 140737488351232) (hl1 : SlI a1 m1 x1 NA) (hro : (NA.all fun b => b.ro) = true) (hkn : known10 = true) : Gives Tryd.prog 4 #[.slice a1 m1 c1, .string raw, .bool false] NA (fun v N => v = .bool true ∧ N = []) := by
 refine gives_fin Tryd.func4 rfl rfl rfl hro (aQ (aL (aA 6 (.bool false) rfl rfl (aN (aQ (aL (aM 15 (.slice a1 m1 c1) rfl rfl (aM 16 (.string raw) rfl rfl (ao 17 rfl rfl (st_ownT fun hnd => st_gv (vs := [.slice a1 m1 c1, .string raw]) (R := NA) (c_text m1 c1 a1 x1 raw NA hraw hl1 hro) Tryd.func12 rfl (by decide) rfl rfl rfl (has_self _) hnd fun v9 N9 R9 => ?_))))))))))
 obtain ⟨rfl, rfl⟩ := R9
 refine aA 7 (.string (txRun m1 x1 raw 40 0 (⟨#[]⟩ : ByteArray))) rfl rfl (aN (aQ (aQ (aL (aM 18 (.bool false) rfl rfl (aN (ac_else rfl (ac_skip (aQ (aL (aM 21 (.string (txRun m1 x1 raw 40 0 (⟨#[]⟩ : ByteArray))) rfl rfl (ao 22 rfl rfl (st_gv (R := []) (c_tokens (txRun m1 x1 raw 40 0 (⟨#[]⟩ : ByteArray))) Tryd.func9 rfl (by decide) rfl rfl rfl has_nil (by simp) fun v9 NT1 R9 => ?_)))))))))))))
 obtain ⟨aT1, cT1, rfl, h4T1, hT1⟩ := tok_cases R9
 refine aM 20 (.tuple #[.slice aT1 ((lexAll (txRun m1 x1 raw 40 0 (⟨#[]⟩ : ByteArray))).1.length) cT1, .complex .f64 ((lexAll (txRun m1 x1 raw 40 0 (⟨#[]⟩ : ByteArray))).2.1).re ((lexAll (txRun m1 x1 raw 40 0 (⟨#[]⟩ : ByteArray))).2.1).im, .int .i64 ((lexAll (txRun m1 x1 raw 40 0 (⟨#[]⟩ : ByteArray))).2.2)]) rfl rfl (aX 23 (.slice aT1 ((lexAll (txRun m1 x1 raw 40 0 (⟨#[]⟩ : ByteArray))).1.length) cT1) rfl rfl rfl (aX 24 (.complex .f64 ((lexAll (txRun m1 x1 raw 40 0 (⟨#[]⟩ : ByteArray))).2.1).re ((lexAll (txRun m1 x1 raw 40 0 (⟨#[]⟩ : ByteArray))).2.1).im) rfl rfl rfl (aX 25 (.int .i64 ((lexAll (txRun m1 x1 raw 40 0 (⟨#[]⟩ : ByteArray))).2.2)) rfl rfl rfl ?_)))
 refine aA 8 (.slice aT1 ((lexAll (txRun m1 x1 raw 40 0 (⟨#[]⟩ : ByteArray))).1.length) cT1) rfl rfl (aA 9 (.complex .f64 ((lexAll (txRun m1 x1 raw 40 0 (⟨#[]⟩ : ByteArray))).2.1).re ((lexAll (txRun m1 x1 raw 40 0 (⟨#[]⟩ : ByteArray))).2.1).im) rfl rfl (aA 10 (.int .i64 ((lexAll (txRun m1 x1 raw 40 0 (⟨#[]⟩ : ByteArray))).2.2)) rfl rfl (aN (aQ (aL (aM 27 (.string (txRun m1 x1 raw 40 0 (⟨#[]⟩ : ByteArray))) rfl rfl (ao 28 rfl rfl (st_gv (R := []) (c_rTokens (txRun m1 x1 raw 40 0 (⟨#[]⟩ : ByteArray))) Tryd.func13 rfl (by decide) rfl rfl rfl has_nil (by simp) fun v9 NT2 R9 => ?_))))))))
 obtain ⟨T, rx, ry, re, M, cT2, aT2, xs2, rfl, hq, hM, hM4, rfl, hRR⟩ := R9
 refine aM 26 (.tuple #[.slice aT2 M cT2, .agg #[.int .i64 rx, .int .i64 ry], .int .i64 re]) rfl rfl (aX 29 (.slice aT2 M cT2) rfl rfl rfl (aX 30 (.agg #[.int .i64 rx, .int .i64 ry]) rfl rfl rfl (aX 31 (.int .i64 re) rfl rfl rfl (ao 12 rfl rfl (st_new zero37 rfl fun g0 => (aA 11 (.slice aT2 M cT2) rfl rfl (aS [.int .i64 rx, .int .i64 ry] agg37 0 rfl rfl rfl rfl rfl rfl (aA 13 (.int .i64 re) rfl rfl (aN (aQ (aQ (aL (aC 32 c_known10 Tryd.func10 ⟨rfl, by decide⟩ rfl rfl (ao 33 rfl rfl (st_un (v := .bool (!known10)) rfl rfl (un_not rfl) (aM 34 (.bool (!known10)) rfl rfl ?_))))))))))))))))
 refine ar_gd (d := (some 35)) (by show ((!known10) == false) = true; rw [hkn]; rfl) rfl (st_move (v := .int .i64 ((lexAll (txRun m1 x1 raw 40 0 (⟨#[]⟩ : ByteArray))).2.2)) rfl rfl (ar_gd (d := (some 36)) (by show ((!known10) == false) = true; rw [hkn]; rfl) rfl (st_move (v := .int .i64 re) rfl rfl (ar_gd (d := (some 37)) (by show ((!known10) == false) = true; rw [hkn]; rfl) rfl (st_bi (r := .bool (((lexAll (txRun m1 x1 raw 40 0 (⟨#[]⟩ : ByteArray))).2.2) != re)) rfl rfl rfl (bi_neq rfl) (ao 38 rfl rfl (st_pkf' (b := !known10) (v := .bool (((lexAll (txRun m1 x1 raw 40 0 (⟨#[]⟩ : ByteArray))).2.2) != re)) (by rw [hkn]; rfl) rfl rfl rfl ?_)))))))
 refine aM 39 (.bool (((lexAll (txRun m1 x1 raw 40 0 (⟨#[]⟩ : ByteArray))).2.2) != re)) rfl rfl (ar_gd (d := (some 40)) (by show ((((lexAll (txRun m1 x1 raw 40 0 (⟨#[]⟩ : ByteArray))).2.2) != re) == false) = true; rw [(te_no hq)]; rfl) rfl (st_move (v := .complex .f64 ((lexAll (txRun m1 x1 raw 40 0 (⟨#[]⟩ : ByteArray))).2.1).re ((lexAll (txRun m1 x1 raw 40 0 (⟨#[]⟩ : ByteArray))).2.1).im) rfl rfl (ar_gd (d := (some 41)) (by show ((((lexAll (txRun m1 x1 raw 40 0 (⟨#[]⟩ : ByteArray))).2.2) != re) == false) = true; rw [(te_no hq)]; rfl) rfl (st_lda (vs := [.int .i64 rx, .int .i64 ry]) agg37 0 rfl rfl rfl rfl rfl rfl ?_))))
 refine ar_gd (d := (some 42)) (by show ((((lexAll (txRun m1 x1 raw 40 0 (⟨#[]⟩ : ByteArray))).2.2) != re) == false) = true; rw [(te_no hq)]; rfl) rfl (st_cf (c_rPlace (⟨rx, ry⟩ : RPair)) Tryd.func14 rfl (by decide) rfl rfl rfl (ar_gd (d := (some 43)) (by show ((((lexAll (txRun m1 x1 raw 40 0 (⟨#[]⟩ : ByteArray))).2.2) != re) == false) = true; rw [(te_no hq)]; rfl) rfl (st_bi (r := .bool (!(cxEq ((lexAll (txRun m1 x1 raw 40 0 (⟨#[]⟩ : ByteArray))).2.1) (rPlace (⟨rx, ry⟩ : RPair))))) rfl rfl rfl (bi_cneq (a := ((lexAll (txRun m1 x1 raw 40 0 (⟨#[]⟩ : ByteArray))).2.1)) (b := (rPlace (⟨rx, ry⟩ : RPair))) rfl) ?_)))
 refine ao 44 rfl rfl (st_pkf' (b := ((lexAll (txRun m1 x1 raw 40 0 (⟨#[]⟩ : ByteArray))).2.2) != re) (v := .bool (!(cxEq ((lexAll (txRun m1 x1 raw 40 0 (⟨#[]⟩ : ByteArray))).2.1) (rPlace (⟨rx, ry⟩ : RPair))))) (te_no hq) rfl rfl rfl (aM 45 (.bool (!(cxEq ((lexAll (txRun m1 x1 raw 40 0 (⟨#[]⟩ : ByteArray))).2.1) (rPlace (⟨rx, ry⟩ : RPair))))) rfl rfl (ar_gd (d := (some 46)) (by show ((!(cxEq ((lexAll (txRun m1 x1 raw 40 0 (⟨#[]⟩ : ByteArray))).2.1) (rPlace (⟨rx, ry⟩ : RPair)))) == false) = true; rw [(te_at hq)]; rfl) rfl (st_move (v := .slice aT1 ((lexAll (txRun m1 x1 raw 40 0 (⟨#[]⟩ : ByteArray))).1.length) cT1) rfl rfl ?_))))
 refine ar_gd (d := (some 47)) (by show ((!(cxEq ((lexAll (txRun m1 x1 raw 40 0 (⟨#[]⟩ : ByteArray))).2.1) (rPlace (⟨rx, ry⟩ : RPair)))) == false) = true; rw [(te_at hq)]; rfl) rfl (st_ln (a := aT1) (m := (lexAll (txRun m1 x1 raw 40 0 (⟨#[]⟩ : ByteArray))).1.length) (c := cT1) rfl Tryd.underlying22 rfl (ar_gd (d := (some 48)) (by show ((!(cxEq ((lexAll (txRun m1 x1 raw 40 0 (⟨#[]⟩ : ByteArray))).2.1) (rPlace (⟨rx, ry⟩ : RPair)))) == false) = true; rw [(te_at hq)]; rfl) rfl (st_move (v := .slice aT2 M cT2) rfl rfl ?_)))
 refine ar_gd (d := (some 49)) (by show ((!(cxEq ((lexAll (txRun m1 x1 raw 40 0 (⟨#[]⟩ : ByteArray))).2.1) (rPlace (⟨rx, ry⟩ : RPair)))) == false) = true; rw [(te_at hq)]; rfl) rfl (st_ln (a := aT2) (m := M) (c := cT2) rfl Tryd.underlying35 rfl (ar_gd (d := (some 50)) (by show ((!(cxEq ((lexAll (txRun m1 x1 raw 40 0 (⟨#[]⟩ : ByteArray))).2.1) (rPlace (⟨rx, ry⟩ : RPair)))) == false) = true; rw [(te_at hq)]; rfl) rfl (st_bi (r := .bool (((lexAll (txRun m1 x1 raw 40 0 (⟨#[]⟩ : ByteArray))).1.length : Int) != (M : Int))) rfl rfl rfl (bi_neq rfl) ?_)))
 refine ao 51 rfl rfl (st_pkf' (b := !(cxEq ((lexAll (txRun m1 x1 raw 40 0 (⟨#[]⟩ : ByteArray))).2.1) (rPlace (⟨rx, ry⟩ : RPair)))) (v := .bool (((lexAll (txRun m1 x1 raw 40 0 (⟨#[]⟩ : ByteArray))).1.length : Int) != (M : Int))) (by rw [(te_at hq)]; rfl) rfl rfl rfl (aN (ac_else' (b := ((lexAll (txRun m1 x1 raw 40 0 (⟨#[]⟩ : ByteArray))).1.length : Int) != (M : Int)) (te_len hq hM) rfl (ac_skip (aQ (aQ (aL (aM 52 (.slice aT2 M cT2) rfl rfl (ao 53 rfl rfl (st_ln (a := aT2) (m := M) (c := cT2) rfl Tryd.underlying35 rfl (aM 54 (.int .i64 0) rfl rfl (aN (ac_block ?_)))))))))))))
 have hlT : (lexAll (txRun m1 x1 raw 40 0 (⟨#[]⟩ : ByteArray))).1 = T.map RTok.toTok := by rw [hq]
 refine ac_rounds (M + 1) ?_
 refine te_loop M cT1 cT2 aT1 aT2 T hM4 hM.symm (fun i hi => ?_) (fun i hi => ?_) (by rw [← hlT]; exact (lexAll_ok (txRun m1 x1 raw 40 0 (⟨#[]⟩ : ByteArray))).2) rfl M 0 _ (Nat.zero_add _) (by show Value.slice _ _ _ = _; rw [hlT, List.length_map, hM]) rfl rfl (by rfl) (fun E9 => ?_)
 ·obtain ⟨g, r, e, h⟩ := hT1 i (by rw [hlT]; exact hi); exact ⟨g, r, e, by rw [hlT] at h; simp [h, upd]⟩
 ·rcases hRR with ⟨h0, _⟩ | ⟨g, cap, rest, hv, hN, _⟩
  ·omega
  ·cases hv; subst hN; exact ⟨g, rest, rfl, by simp [upd]⟩
 refine aQ (aL (aA 6 (.bool true) rfl rfl (aN (ac_ret ?_))))
 exact fing_ret (N := []) ⟨rfl, rfl⟩ (List.nil_sublist _) rfl (res_tmp rfl rfl)
set_option maxRecDepth 100000 in
set_option maxHeartbeats 4000000 in
theorem c_tellsT (m1 c1 : Nat) (a1 : Option Addr) (x1 : Nat → Int) (raw : ByteArray) (NA : List Box) (hraw : raw.size ≤ 140737488351232) (hl1 : SlI a1 m1 x1 NA) (hro : (NA.all fun b => b.ro) = true) (hkn : known10 = true) : Gives Tryd.prog 4 #[.slice a1 m1 c1, .string raw, .bool true] NA (fun v N => v = .bool true ∧ N = []) := by
 refine gives_fin Tryd.func4 rfl rfl rfl hro (aQ (aL (aA 6 (.bool false) rfl rfl (aN (aQ (aL (aM 15 (.slice a1 m1 c1) rfl rfl (aM 16 (.string raw) rfl rfl (ao 17 rfl rfl (st_ownT fun hnd => st_gv (vs := [.slice a1 m1 c1, .string raw]) (R := NA) (c_text m1 c1 a1 x1 raw NA hraw hl1 hro) Tryd.func12 rfl (by decide) rfl rfl rfl (has_self _) hnd fun v9 N9 R9 => ?_))))))))))
 obtain ⟨rfl, rfl⟩ := R9
 refine aA 7 (.string (txRun m1 x1 raw 40 0 (⟨#[]⟩ : ByteArray))) rfl rfl (aN (aQ (aQ (aL (aM 18 (.bool true) rfl rfl (aN (ac_then rfl (aL (aM 19 (.string raw) rfl rfl (aA 7 (.string raw) rfl rfl (aN (aQ (aL (aM 21 (.string raw) rfl rfl (ao 22 rfl rfl (st_gv (R := []) (c_tokens raw) Tryd.func9 rfl (by decide) rfl rfl rfl has_nil (by simp) fun v9 NT1 R9 => ?_))))))))))))))))
 obtain ⟨aT1, cT1, rfl, h4T1, hT1⟩ := tok_cases R9
 refine aM 20 (.tuple #[.slice aT1 ((lexAll raw).1.length) cT1, .complex .f64 ((lexAll raw).2.1).re ((lexAll raw).2.1).im, .int .i64 ((lexAll raw).2.2)]) rfl rfl (aX 23 (.slice aT1 ((lexAll raw).1.length) cT1) rfl rfl rfl (aX 24 (.complex .f64 ((lexAll raw).2.1).re ((lexAll raw).2.1).im) rfl rfl rfl (aX 25 (.int .i64 ((lexAll raw).2.2)) rfl rfl rfl (aA 8 (.slice aT1 ((lexAll raw).1.length) cT1) rfl rfl (aA 9 (.complex .f64 ((lexAll raw).2.1).re ((lexAll raw).2.1).im) rfl rfl (aA 10 (.int .i64 ((lexAll raw).2.2)) rfl rfl (aN (aQ (aL (aM 27 (.string raw) rfl rfl ?_))))))))))
 refine ao 28 rfl rfl (st_gv (R := []) (c_rTokens raw) Tryd.func13 rfl (by decide) rfl rfl rfl has_nil (by simp) fun v9 NT2 R9 => ?_)
 obtain ⟨T, rx, ry, re, M, cT2, aT2, xs2, rfl, hq, hM, hM4, rfl, hRR⟩ := R9
 refine aM 26 (.tuple #[.slice aT2 M cT2, .agg #[.int .i64 rx, .int .i64 ry], .int .i64 re]) rfl rfl (aX 29 (.slice aT2 M cT2) rfl rfl rfl (aX 30 (.agg #[.int .i64 rx, .int .i64 ry]) rfl rfl rfl (aX 31 (.int .i64 re) rfl rfl rfl (ao 12 rfl rfl (st_new zero37 rfl fun g0 => (aA 11 (.slice aT2 M cT2) rfl rfl (aS [.int .i64 rx, .int .i64 ry] agg37 0 rfl rfl rfl rfl rfl rfl (aA 13 (.int .i64 re) rfl rfl (aN (aQ (aQ (aL (aC 32 c_known10 Tryd.func10 ⟨rfl, by decide⟩ rfl rfl (ao 33 rfl rfl (st_un (v := .bool (!known10)) rfl rfl (un_not rfl) (aM 34 (.bool (!known10)) rfl rfl ?_))))))))))))))))
 refine ar_gd (d := (some 35)) (by show ((!known10) == false) = true; rw [hkn]; rfl) rfl (st_move (v := .int .i64 ((lexAll raw).2.2)) rfl rfl (ar_gd (d := (some 36)) (by show ((!known10) == false) = true; rw [hkn]; rfl) rfl (st_move (v := .int .i64 re) rfl rfl (ar_gd (d := (some 37)) (by show ((!known10) == false) = true; rw [hkn]; rfl) rfl (st_bi (r := .bool (((lexAll raw).2.2) != re)) rfl rfl rfl (bi_neq rfl) (ao 38 rfl rfl (st_pkf' (b := !known10) (v := .bool (((lexAll raw).2.2) != re)) (by rw [hkn]; rfl) rfl rfl rfl (aM 39 (.bool (((lexAll raw).2.2) != re)) rfl rfl ?_))))))))
 refine ar_gd (d := (some 40)) (by show ((((lexAll raw).2.2) != re) == false) = true; rw [(te_no hq)]; rfl) rfl (st_move (v := .complex .f64 ((lexAll raw).2.1).re ((lexAll raw).2.1).im) rfl rfl (ar_gd (d := (some 41)) (by show ((((lexAll raw).2.2) != re) == false) = true; rw [(te_no hq)]; rfl) rfl (st_lda (vs := [.int .i64 rx, .int .i64 ry]) agg37 0 rfl rfl rfl rfl rfl rfl (ar_gd (d := (some 42)) (by show ((((lexAll raw).2.2) != re) == false) = true; rw [(te_no hq)]; rfl) rfl (st_cf (c_rPlace (⟨rx, ry⟩ : RPair)) Tryd.func14 rfl (by decide) rfl rfl rfl ?_)))))
 refine ar_gd (d := (some 43)) (by show ((((lexAll raw).2.2) != re) == false) = true; rw [(te_no hq)]; rfl) rfl (st_bi (r := .bool (!(cxEq ((lexAll raw).2.1) (rPlace (⟨rx, ry⟩ : RPair))))) rfl rfl rfl (bi_cneq (a := ((lexAll raw).2.1)) (b := (rPlace (⟨rx, ry⟩ : RPair))) rfl) (ao 44 rfl rfl (st_pkf' (b := ((lexAll raw).2.2) != re) (v := .bool (!(cxEq ((lexAll raw).2.1) (rPlace (⟨rx, ry⟩ : RPair))))) (te_no hq) rfl rfl rfl (aM 45 (.bool (!(cxEq ((lexAll raw).2.1) (rPlace (⟨rx, ry⟩ : RPair))))) rfl rfl ?_))))
 refine ar_gd (d := (some 46)) (by show ((!(cxEq ((lexAll raw).2.1) (rPlace (⟨rx, ry⟩ : RPair)))) == false) = true; rw [(te_at hq)]; rfl) rfl (st_move (v := .slice aT1 ((lexAll raw).1.length) cT1) rfl rfl (ar_gd (d := (some 47)) (by show ((!(cxEq ((lexAll raw).2.1) (rPlace (⟨rx, ry⟩ : RPair)))) == false) = true; rw [(te_at hq)]; rfl) rfl (st_ln (a := aT1) (m := (lexAll raw).1.length) (c := cT1) rfl Tryd.underlying22 rfl (ar_gd (d := (some 48)) (by show ((!(cxEq ((lexAll raw).2.1) (rPlace (⟨rx, ry⟩ : RPair)))) == false) = true; rw [(te_at hq)]; rfl) rfl (st_move (v := .slice aT2 M cT2) rfl rfl ?_)))))
 refine ar_gd (d := (some 49)) (by show ((!(cxEq ((lexAll raw).2.1) (rPlace (⟨rx, ry⟩ : RPair)))) == false) = true; rw [(te_at hq)]; rfl) rfl (st_ln (a := aT2) (m := M) (c := cT2) rfl Tryd.underlying35 rfl (ar_gd (d := (some 50)) (by show ((!(cxEq ((lexAll raw).2.1) (rPlace (⟨rx, ry⟩ : RPair)))) == false) = true; rw [(te_at hq)]; rfl) rfl (st_bi (r := .bool (((lexAll raw).1.length : Int) != (M : Int))) rfl rfl rfl (bi_neq rfl) (ao 51 rfl rfl (st_pkf' (b := !(cxEq ((lexAll raw).2.1) (rPlace (⟨rx, ry⟩ : RPair)))) (v := .bool (((lexAll raw).1.length : Int) != (M : Int))) (by rw [(te_at hq)]; rfl) rfl rfl rfl (aN ?_))))))
 refine ac_else' (b := ((lexAll raw).1.length : Int) != (M : Int)) (te_len hq hM) rfl (ac_skip (aQ (aQ (aL (aM 52 (.slice aT2 M cT2) rfl rfl (ao 53 rfl rfl (st_ln (a := aT2) (m := M) (c := cT2) rfl Tryd.underlying35 rfl (aM 54 (.int .i64 0) rfl rfl (aN (ac_block ?_))))))))))
 have hlT : (lexAll raw).1 = T.map RTok.toTok := by rw [hq]
 refine ac_rounds (M + 1) ?_
 refine te_loop M cT1 cT2 aT1 aT2 T hM4 hM.symm (fun i hi => ?_) (fun i hi => ?_) (by rw [← hlT]; exact (lexAll_ok raw).2) rfl M 0 _ (Nat.zero_add _) (by show Value.slice _ _ _ = _; rw [hlT, List.length_map, hM]) rfl rfl (by rfl) (fun E9 => ?_)
 ·obtain ⟨g, r, e, h⟩ := hT1 i (by rw [hlT]; exact hi); exact ⟨g, r, e, by rw [hlT] at h; simp [h, upd]⟩
 ·rcases hRR with ⟨h0, _⟩ | ⟨g, cap, rest, hv, hN, _⟩
  ·omega
  ·cases hv; subst hN; exact ⟨g, rest, rfl, by simp [upd]⟩
 refine aQ (aL (aA 6 (.bool true) rfl rfl (aN (ac_ret ?_))))
 exact fing_ret (N := []) ⟨rfl, rfl⟩ (List.nil_sublist _) rfl (res_tmp rfl rfl)
end Go.Proofs.YtalffjplbhelcaaDoor
namespace Go.Proofs.YtalffjplbhelcaaDoor
open Go.ChangeShapes Go.WideShapes Go.ChangeAt Go.RowKit
theorem heap_of_cell {w : World} {b o : Nat} {v : Value} (h : w.cell? ⟨b, o, none⟩ = some v) : ∃ (cs : List Value) (ty : TypeId) (fr : Nat × Nat), w.heap[b]? = some (.cells cs.toArray ty fr) ∧ cs[o]? = some v := by
  unfold World.cell? at h
  cases hb : w.heap[b]? with
  | none => simp [hb] at h
  | some x =>
    cases x <;> simp [hb] at h
    case cells c t fr => exact ⟨c.toList, t, fr, by simp, by simpa using h⟩
def Ints (W : World) (a : Option Addr) (len : Nat) : Prop := len = 0 ∨ ∃ b off, a = some ⟨b, off, none⟩ ∧ ∃ (cs : List Value) (ty : TypeId) (fr : Nat × Nat), W.heap[b]? = some (.cells cs.toArray ty fr) ∧ ∃ zs : Nat → Int, ∀ j, j < len → cs[off + j]? = some (.int .i64 (zs j))
theorem open_il {H : Type} {enc : TypeId × Value → H} {P : Program} {W : World} {base b0 : Nat} {held : Bool} {r : Reach} {t e : TypeId} {v : Value} {d : DataW H} {ps : List MemPlace} (ht : P.underlying t = some (.slice e)) (he : P.underlying e = some (.int .i64)) (hc : P.cellsOf e = 1)
    (hval : Value.okWide P W r b0 t v) (h : DataW.Trod enc P W base (fun _ => true) held t v d ps) :
    ∃ a len cap, v = .slice a len cap ∧ Ints W a len ∧ ∀ W', Below W.heap.size W W' → DataW.Trod enc P W' base (fun b => decide (b < W.heap.size)) held t v d ps := by
  obtain ⟨a0, len, cap, rfl⟩ := okWide_slice ht hval
  obtain ⟨fuel, hf⟩ := h
  refine ⟨a0, len, cap, rfl, ?_⟩
  rcases open_ints ht he hc hf with ⟨hcs, hx⟩ | ⟨a, len', cap', zs, hcs, hb, hl, hm, hz, hx, hcell, hw⟩
  · simp [Value.cells] at hcs
    obtain ⟨rfl, rfl, rfl⟩ := hcs
    simp only [Prod.mk.injEq] at hx
    obtain ⟨rfl, rfl⟩ := hx
    exact ⟨.inl rfl, fun W' _ => shut_slice_nil ht⟩
  · simp [Value.cells] at hcs
    obtain ⟨rfl, rfl, rfl⟩ := hcs
    simp only [Prod.mk.injEq] at hx
    obtain ⟨rfl, rfl⟩ := hx
    have hz0 : zs.length = cap := by simpa using hz
    have hlz : len ≤ zs.length := by omega
    have hz' : zs.length = if decide (a.block < W.heap.size) = true then cap else len := by
      by_cases h0 : 0 < zs.length
      · have := World.block_lt_of_cell? W _ (hcell 0 h0)
        have hlt : a.block < W.heap.size := by simpa [Addr.add] using this
        rw [if_pos (decide_eq_true hlt)]
        exact hz0
      · split <;> omega
    refine ⟨?_, fun W' bel => ?_⟩
    · by_cases h0 : len = 0
      · exact .inl h0
      · right
        obtain ⟨b, off, rfl, hc2⟩ := ints_at hcell (by omega)
        obtain ⟨cs, ty, fr, hh, _⟩ := heap_of_cell (hc2 0 (by omega))
        refine ⟨b, off, rfl, cs, ty, fr, hh, fun j => zs.getD j 0, fun j hj => ?_⟩
        obtain ⟨cs', ty', fr', hh', hv⟩ := heap_of_cell (hc2 j (by omega))
        rw [hh] at hh'
        simp only [Option.some.injEq, Obj.cells.injEq] at hh'
        have : cs = cs' := by
          have := congrArg Array.toList hh'.1
          simpa using this
        rw [this]
        exact hv
    · have := shut_ints (P := P) (w := W') (enc := enc) (base := base) (spare := fun b => decide (b < W.heap.size)) (held := held) (a := a) (cap := cap) (zs := zs) 0 ht he hc hb hl hm hz' (fun i hi => by
        have h1 := hcell i hi
        rw [← h1]
        exact World.cell?_of_block (bel.block _ (World.block_lt_of_cell? W _ h1))) hw
      exact ⟨_, this⟩
end Go.Proofs.YtalffjplbhelcaaDoor
namespace Go.Proofs.YtalffjplbhelcaaDoor
open Go.RowKit
theorem slI_nil (a : Option Addr) (x : Nat → Int) (NA : List Box) : SlI a 0 x NA := fun i hi => absurd hi (Nat.not_lt_zero i)
theorem slI_box {g off m t : Nat} {cs : List Value} {x : Nat → Int} {NA : List Box} (h : ∀ j, j < m → cs[off + j]? = some (.int .i64 (x j))) (hm : (⟨g, cs, t, true⟩ : Box) ∈ NA) : SlI (some ⟨g, off, none⟩) m x NA :=
  fun i hi => ⟨g, off, cs, t, rfl, hm, by rw [Nat.mul_one]; exact h i hi⟩
theorem at_one {W : World} {g t : Nat} {cs : List Value} {fr : Nat × Nat} (h : W.heap[g]? = some (.cells cs.toArray t fr)) : At [⟨g, cs, t, true⟩] W := by
  intro c hc
  obtain rfl := List.mem_singleton.1 hc
  exact ⟨fr, h⟩
end Go.Proofs.YtalffjplbhelcaaDoor
namespace Go.Proofs.YtalffjplbhelcaaDoor
open Go.RowKit
theorem k10_true : known10 = true := by decide +kernel
theorem ints_one {W : World} {a1 : Option Addr} {m1 : Nat} (h1 : Ints W a1 m1) : ∃ (NA : List Box) (x1 : Nat → Int), SlI a1 m1 x1 NA ∧ (NA.all fun b => b.ro) = true ∧ At NA W ∧ (NA.map Box.g).Nodup := by
  rcases h1 with rfl | ⟨b1, o1, rfl, cs1, t1, fr1, hh1, z1, hz1⟩
  · exact ⟨[], fun _ => 0, slI_nil _ _ _, rfl, by simp [At], by simp⟩
  · exact ⟨[⟨b1, cs1, t1, true⟩], z1, slI_box hz1 List.mem_cons_self, rfl, at_one hh1, by simp⟩
theorem str_weight {H : Type} {P : Program} {bytes : List UInt8} : ∀ (ts : List TypeId) (ds : List (DataW H)) (k : Nat), (DataW.weightsEach P ts ds).all (fun x => decide (x ≤ reachBytes)) = true → ds[k]? = some (.lit (.string bytes)) → (ts[k]?).isSome = true → bytes.length ≤ 140737488351232
  | [], _, k, _, _, h => by simp at h
  | _ :: _, [], k, _, h, _ => by simp at h
  | t :: ts, d :: ds, 0, h, hd, _ => by
    simp only [List.getElem?_cons_zero, Option.some.injEq] at hd
    subst hd
    rw [DataW.weightsEach, List.all_append, Bool.and_eq_true] at h
    have h1 := h.1
    have e : DataW.weights P t (.lit (.string bytes) : DataW H) = [bytes.length] := by rw [DataW.weights]
    rw [e] at h1
    have h2 : decide (bytes.length ≤ reachBytes) = true := by simpa only [List.all_cons, List.all_nil, Bool.and_true] using h1
    exact of_decide_eq_true h2
  | t :: ts, d :: ds, k + 1, h, hd, ht => by
    rw [DataW.weightsEach, List.all_append, Bool.and_eq_true] at h
    exact str_weight ts ds k h.2 (by simpa using hd) (by simpa using ht)
theorem lexTells_calls {W : World} (a1 : Option Addr) (m1 c1 : Nat) (h1 : Ints W a1 m1) (raw : ByteArray) (hraw : raw.size ≤ 140737488351232) (any_ : Bool) : Calls Tryd.prog 4 #[.slice a1 m1 c1, .string raw, .bool any_] W fun e W' => e = .returned (.bool true) ∧ Below W.heap.size W W' := by
  obtain ⟨NA, x1, hl1, hro, hA, hnd⟩ := ints_one h1
  cases any_
  · refine (c_tellsF m1 c1 a1 x1 raw NA hraw hl1 hro k10_true W hA hnd).mono ?_
    rintro e w' ⟨v', N, he, ⟨rfl, _⟩, _, _, hb⟩
    exact ⟨he, hb⟩
  · refine (c_tellsT m1 c1 a1 x1 raw NA hraw hl1 hro k10_true W hA hnd).mono ?_
    rintro e w' ⟨v', N, he, ⟨rfl, _⟩, _, _, hb⟩
    exact ⟨he, hb⟩
end Go.Proofs.YtalffjplbhelcaaDoor
