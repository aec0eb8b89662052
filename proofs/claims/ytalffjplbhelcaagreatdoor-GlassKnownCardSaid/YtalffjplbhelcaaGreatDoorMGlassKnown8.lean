import Derived.Test.YtalffjplbhelcaaGreatDoorMGlassKnown5
import Derived.Test.YtalffjplbhelcaaGreatDoorMGlassKnown6
import Derived.Test.YtalffjplbhelcaaGreatDoorMGlassKnown7
import Derived.Test.YtalffjplbhelcaaGreatDoorMGlassKnown0
import Derived.Test.YtalffjplbhelcaaGreatDoorMGlassKnown3
import Derived.Test.YtalffjplbhelcaaGreatDoorMGlassKnown2
import Derived.Lib.ItoaLen
set_option linter.unusedVariables false
set_option linter.unusedSimpArgs false
namespace Go.Proofs.YtalffjplbhelcaaGreatDoor
def restL (s : ByteArray) (i : Nat) : List UInt8 := s.data.toList.drop i
theorem rest_len (s : ByteArray) (i : Nat) : (restL s i).length = s.size - i := by
  unfold restL
  rw [List.length_drop]
  rfl
theorem rest_add {s : ByteArray} {i : Nat} {w r : List UInt8} (h : restL s i = w ++ r) : restL s (i + w.length) = r := by
  unfold restL at *
  rw [← List.drop_drop, h, List.drop_left]
theorem rest_cons {s : ByteArray} {i : Nat} {b : UInt8} {r : List UInt8} (h : restL s i = b :: r) : i < s.size ∧ sAt s i = (b.toNat : Int) ∧ restL s (i + 1) = r := by
  have hl := rest_len s i
  rw [h] at hl
  simp only [List.length_cons] at hl
  have hi : i < s.size := by omega
  refine ⟨hi, ?_, rest_add (w := [b]) h⟩
  have e : s.data.toList[i]? = some b := by
    have h0 : (s.data.toList.drop i)[0]? = some b := by
      rw [show s.data.toList.drop i = b :: r from h]; rfl
    rw [List.getElem?_drop] at h0
    exact h0
  unfold sAt
  have e2 : s[i]? = some b := by
    rw [getElem?_pos s i hi]
    rw [Array.getElem?_toList] at e
    obtain ⟨_, hb⟩ := Array.getElem?_eq_some_iff.1 e
    rw [← hb]
    rfl
  rw [e2]
  rfl
theorem run_rest {P : Int → Bool} {s : ByteArray} : ∀ (n i : Nat) (w post : List UInt8), s.size ≤ i + n → restL s i = w ++ post → (∀ b ∈ w, P (b.toNat : Int) = true) → (post = [] ∨ ∃ b r, post = b :: r ∧ P (b.toNat : Int) = false) → runTo P s n i = i + w.length
  | 0, i, w, post, hn, h, hw, hp => by
    have hl := rest_len s i
    rw [h, List.length_append] at hl
    have : w.length = 0 := by omega
    rw [runTo, this]; rfl
  | n + 1, i, w, post, hn, h, hw, hp => by
    rw [runTo]
    cases w with
    | nil =>
      rw [List.nil_append] at h
      rcases hp with rfl | ⟨b, r, rfl, hb⟩
      · have hl := rest_len s i
        rw [h] at hl
        have hl : 0 = s.size - i := hl
        rw [decide_eq_false (by omega)]; rfl
      · obtain ⟨h1, h2, _⟩ := rest_cons h
        rw [h2, hb, Bool.and_false]; rfl
    | cons b w =>
      obtain ⟨h1, h2, h3⟩ := rest_cons h
      rw [decide_eq_true h1, h2, hw b List.mem_cons_self, Bool.and_true, cond_true, run_rest n (i + 1) w post (by omega) h3 (fun c hc => hw c (List.mem_cons_of_mem _ hc)) hp, List.length_cons]
      omega
theorem sub_rest {s : ByteArray} {i : Nat} {w post : List UInt8} (h : restL s i = w ++ post) : subS s (i : Int) ((i + w.length : Nat) : Int) = byA w := by
  unfold subS byA
  apply ByteArray.ext
  apply Array.ext'
  simp only [Int.toNat_natCast, ByteArray.data_extract, Array.toList_extract]
  rw [List.extract_eq_take_drop, show (s.data.toList.drop i) = w ++ post from h]
  simp
section
variable {s : ByteArray} {n i : Nat} {line start : Int} {any_ : Bool} {out : List Tok}
theorem i_ne {s : ByteArray} {i : Nat} (h : i < s.size) : ((i : Int) == ((s).size : Int)) = false := by
  rw [beq_eq_false_iff_ne]; omega
theorem lex_blank {b : UInt8} {r : List UInt8} (h : restL s i = b :: r) (hb : b = 32 ∨ b = 9) : lexRun s (n + 1) i line start any_ out = lexRun s n (i + 1) line start any_ out := by
  obtain ⟨h1, h2, h3⟩ := rest_cons h
  rw [lexRun, lexStep, i_ne h1, h2]
  rcases hb with rfl | rfl <;> rfl
theorem lex_feed {r : List UInt8} (h : restL s i = 10 :: r) : lexRun s (n + 1) i line start any_ out = lexRun s n (i + 1) (w64 (line + 1)) ((i + 1 : Nat) : Int) false (bif any_ then out ++ [⟨3, ⟨#[]⟩, lexHere i line start⟩] else out) := by
  obtain ⟨h1, h2, h3⟩ := rest_cons h
  rw [lexRun, lexStep, i_ne h1, h2]
  show lexFeed _ _ _ _ _ _ _ = _
  rw [lexFeed, i_ne h1]
  cases any_ <;> rfl
theorem lex_end (h : restL s i = []) (hi : i ≤ s.size) : lexRun s (n + 1) i line start any_ out = (bif any_ then out ++ [⟨3, ⟨#[]⟩, lexHere i line start⟩] else out, ⟨0, 0⟩, 0) := by
  have hl := rest_len s i
  rw [h] at hl
  have hl : 0 = s.size - i := hl
  have e : ((i : Int) == ((s).size : Int)) = true := by rw [beq_iff_eq]; omega
  rw [lexRun, lexStep, e, cond_true, lexFeed, e]
  cases any_ <;> rfl
theorem let_ne {c : Int} (h : lexLetter c = true) {k : Int} (hk : lexLetter k = false) : (c == k) = false := by
  rw [beq_eq_false_iff_ne]
  rintro rfl
  rw [h] at hk
  cases hk
theorem dig_ne {c : Int} (h : lexDigit c = true) {k : Int} (hk : lexDigit k = false) : (c == k) = false := by
  rw [beq_eq_false_iff_ne]
  rintro rfl
  rw [h] at hk
  cases hk
theorem lex_word {b : UInt8} {w post : List UInt8} (h : restL s i = (b :: w) ++ post) (hb : lexLetter (b.toNat : Int) = true) (hw : ∀ x ∈ w, lexInWord (x.toNat : Int) = true) (hp : post = [] ∨ ∃ c r, post = c :: r ∧ lexInWord (c.toNat : Int) = false) (h20 : w.length + 1 ≤ 20) (hs : s.size ≤ 4000) :
    lexRun s (n + 1) i line start any_ out = lexRun s n (i + (b :: w).length) line start true (out ++ [⟨1, byA (b :: w), lexHere i line start⟩]) := by
  obtain ⟨h1, h2, h3⟩ := rest_cons h
  rw [lexRun, lexStep, i_ne h1, h2, let_ne hb (k := 10) rfl, let_ne hb (k := 32) rfl, let_ne hb (k := 9) rfl, let_ne hb (k := 35) rfl, hb]
  simp only [cond_true, cond_false]
  have hr := run_rest (P := lexInWord) (s.size - (i + 1)) (i + 1) w post (by omega) h3 hw hp
  have hl : (b :: w).length = w.length + 1 := rfl
  rw [lexWord, hr, decide_eq_false (by rw [w64_in (by omega)]; omega), cond_false, show i + 1 + w.length = i + (b :: w).length by omega, sub_rest h]
theorem lex_num {b : UInt8} {w post : List UInt8} (h : restL s i = (b :: w) ++ post) (hb : lexDigit (b.toNat : Int) = true ∨ b = 45) (hw : ∀ x ∈ w, lexInNum (x.toNat : Int) = true) (hp : post = [] ∨ ∃ c r, post = c :: r ∧ lexInNum (c.toNat : Int) = false) (hd : (decRead (byA (b :: w))).2 = true) :
    lexRun s (n + 1) i line start any_ out = lexRun s n (i + (b :: w).length) line start true (out ++ [⟨2, byA (b :: w), lexHere i line start⟩]) := by
  obtain ⟨h1, h2, h3⟩ := rest_cons h
  have hr := run_rest (P := lexInNum) (s.size - (i + 1)) (i + 1) w post (by omega) h3 hw hp
  have hl : (b :: w).length = w.length + 1 := rfl
  have hn : lexNum (lexRun s n) s i line start out (lexHere i line start) = lexRun s n (i + (b :: w).length) line start true (out ++ [⟨2, byA (b :: w), lexHere i line start⟩]) := by
    rw [lexNum, hr, show i + 1 + w.length = i + (b :: w).length by omega, sub_rest h, hd, cond_true]
  rw [lexRun, lexStep, i_ne h1, h2]
  rcases hb with hb | rfl
  · have hle : lexLetter (b.toNat : Int) = false := by
      unfold lexDigit at hb
      unfold lexLetter
      cases h48 : decide ((b.toNat : Int) ≥ 48)
      · rw [h48] at hb; cases hb
      · rw [h48] at hb
        have h57 := of_decide_eq_true (show decide ((b.toNat : Int) ≤ 57) = true from hb)
        rw [decide_eq_false (show ¬ ((b.toNat : Int) ≥ 97) by omega), decide_eq_false (show ¬ ((b.toNat : Int) ≥ 65) by omega)]
        rfl
    rw [dig_ne hb (k := 10) rfl, dig_ne hb (k := 32) rfl, dig_ne hb (k := 9) rfl, dig_ne hb (k := 35) rfl, hle, hb]
    simp only [cond_true, cond_false]
    exact hn
  · exact hn
end
def kt (t : Tok) : Int × ByteArray := (t.kind, t.text)
def wOk : List UInt8 → Bool
  | [] => false
  | b :: w => lexLetter (b.toNat : Int) && (w.all (fun x => lexInWord (x.toNat : Int)) && decide (w.length < 20))
def nOk : List UInt8 → Bool
  | [] => false
  | b :: w => (lexDigit (b.toNat : Int) || b == 45) && (w.all (fun x => lexInNum (x.toNat : Int)) && (decRead (byA (b :: w))).2)
end Go.Proofs.YtalffjplbhelcaaGreatDoor
namespace Go.Proofs.YtalffjplbhelcaaGreatDoor
def rowsF (s : ByteArray) : Nat → Nat → Nat → List (Nat × Nat)
  | 0, _, _ => []
  | n + 1, i, f => bif (i : Int) == ((s).size : Int) then [(f, i)] else bif (sAt s i) == 10 then (f, i) :: rowsF s n (i + 1) (i + 1) else rowsF s n (i + 1) f
def rowsA (s : ByteArray) : List (Nat × Nat) := rowsF s (s.size + 1) 0 0
theorem rows_hd {s : ByteArray} : ∀ (n k f : Nat), k ≤ s.size → n = s.size + 1 - k → ∃ e l, rowsF s n k f = (f, e) :: l ∧ k ≤ e ∧ e ≤ s.size
  | 0, k, f, hk, hn => by omega
  | n + 1, k, f, hk, hn => by
    rw [rowsF]
    by_cases he : k = s.size
    · rw [show ((k : Int) == ((s).size : Int)) = true from beq_iff_eq.2 (by omega)]
      exact ⟨k, [], rfl, Nat.le_refl _, hk⟩
    · rw [show ((k : Int) == ((s).size : Int)) = false from beq_eq_false_iff_ne.2 (by omega), cond_false]
      cases (sAt s k) == 10
      · obtain ⟨e, l, h1, h2, h3⟩ := rows_hd (s := s) n (k + 1) f (by omega) (by omega)
        exact ⟨e, l, h1, by omega, h3⟩
      · exact ⟨k, _, rfl, Nat.le_refl _, hk⟩
theorem rows_on {s : ByteArray} : ∀ (k i n f : Nat), i + k ≤ s.size → n = s.size + 1 - i → (∀ j, i ≤ j → j < i + k → ¬ sAt s j = 10) → rowsF s n i f = rowsF s (s.size + 1 - (i + k)) (i + k) f
  | 0, i, n, f, _, hn, _ => by rw [hn]; rfl
  | k + 1, i, n, f, hk, hn, hj => by
    obtain ⟨m, rfl⟩ : ∃ m, n = m + 1 := ⟨n - 1, by omega⟩
    rw [rowsF, show ((i : Int) == ((s).size : Int)) = false from beq_eq_false_iff_ne.2 (by omega), show ((sAt s i) == 10) = false from beq_eq_false_iff_ne.2 (hj i (Nat.le_refl _) (by omega)), cond_false, cond_false, rows_on k (i + 1) m f (by omega) (by omega) (fun j h1 h2 => hj j (by omega) (by omega))]
    rw [show i + 1 + k = i + (k + 1) by omega]
structure Stp (s : ByteArray) (t : Tok) (L C : Nat) (e : Bool) (l c : Nat) : Prop where
  at_ : t.at_ = place ((l + 1 : Nat) : Int) ((c + 1 : Nat) : Int)
  big : l ≤ 4000 ∧ c ≤ 4000
  ord : (L < l + 1 ∧ e = true) ∨ (L = l + 1 ∧ C < c + 1 ∧ e = false)
  row : ∃ f g, (rowsA s)[l]? = some (f, g) ∧ f ≤ g ∧ g ≤ s.size ∧
    ((t.kind = 3 ∧ c = g - f ∧ t.text = (⟨#[]⟩ : ByteArray)) ∨ (t.kind ≠ 3 ∧ ∃ k, f + c < k ∧ k ≤ g ∧ t.text = subS s ((f + c : Nat) : Int) (k : Int)))
inductive Chn (s : ByteArray) : List Tok → Nat → Nat → Bool → Prop
  | nil : Chn s [] 0 0 true
  | more {T : List Tok} {L C : Nat} {e : Bool} {t : Tok} {l c : Nat} : Chn s T L C e → Stp s t L C e l c → Chn s (T ++ [t]) (l + 1) (c + 1) (t.kind == 3)
structure LexS (s : ByteArray) (i : Nat) (line start : Int) (any_ : Bool) (out : List Tok) (l f L C : Nat) (e : Bool) : Prop where
  line : line = ((l + 1 : Nat) : Int)
  start : start = (f : Int)
  fi : f ≤ i
  li : l ≤ f
  rows : (rowsA s).drop l = rowsF s (s.size + 1 - i) i f
  chn : Chn s out L C e
  ok : (any_ = true ∧ L = l + 1 ∧ C ≤ i - f ∧ e = false) ∨ (any_ = false ∧ L < l + 1 ∧ e = true)
theorem LexS.at {s : ByteArray} {i l f L C : Nat} {line start : Int} {any_ : Bool} {out : List Tok} {e : Bool} (h : LexS s i line start any_ out l f L C e) (hi : i ≤ s.size) : ∃ g, (rowsA s)[l]? = some (f, g) ∧ i ≤ g ∧ g ≤ s.size := by
  obtain ⟨g, m, h1, h2, h3⟩ := rows_hd (s := s) (s.size + 1 - i) i f hi rfl
  have h0 : ((rowsA s).drop l)[0]? = some (f, g) := by rw [h.rows, h1]; rfl
  rw [List.getElem?_drop] at h0
  exact ⟨g, h0, h2, h3⟩
theorem LexS.here {s : ByteArray} {i l f L C : Nat} {line start : Int} {any_ : Bool} {out : List Tok} {e : Bool} (h : LexS s i line start any_ out l f L C e) (hs : s.size ≤ 4000) (hi : i ≤ s.size) : lexHere i line start = place ((l + 1 : Nat) : Int) ((i - f + 1 : Nat) : Int) := by
  have := h.fi
  unfold lexHere
  rw [h.line, h.start, w64_in (n := (i : Int) - (f : Int)) (by omega), w64_in (by omega)]
  congr 1
  omega
theorem LexS.go {s : ByteArray} {i l f L C : Nat} {line start : Int} {any_ : Bool} {out : List Tok} {e : Bool} (h : LexS s i line start any_ out l f L C e) {k : Nat} (hik : i ≤ k) (hk : k ≤ s.size) (hn : ∀ j, i ≤ j → j < k → ¬ sAt s j = 10) : LexS s k line start any_ out l f L C e :=
  ⟨h.line, h.start, Nat.le_trans h.fi hik, h.li, by rw [h.rows, rows_on (k - i) i _ f (by omega) rfl (fun j h1 h2 => hn j h1 (by omega)), show i + (k - i) = k by omega], h.chn, h.ok.imp (fun ⟨a, b, c, d⟩ => ⟨a, b, by omega, d⟩) id⟩
theorem LexS.tok {s : ByteArray} {i l f L C : Nat} {line start : Int} {any_ : Bool} {out : List Tok} {e : Bool} (h : LexS s i line start any_ out l f L C e) (hs : s.size ≤ 4000) {k : Nat} (hik : i < k) (hk : k ≤ s.size) (hn : ∀ j, i ≤ j → j < k → ¬ sAt s j = 10) {q : Int} (hq : q ≠ 3) :
    LexS s k line start true (out ++ [(⟨q, subS s (i : Int) (k : Int), lexHere i line start⟩ : Tok)]) l f (l + 1) (i - f + 1) false := by
  have h' := h.go (Nat.le_of_lt hik) hk hn
  have hfi := h.fi
  have hli := h.li
  obtain ⟨g, hg, h2, h3⟩ := h'.at hk
  have st : Stp s (⟨q, subS s (i : Int) (k : Int), lexHere i line start⟩ : Tok) L C e l (i - f) := by
    refine ⟨h.here hs (by omega), by omega, ?_, f, g, hg, by omega, h3, .inr ⟨hq, k, by omega, h2, ?_⟩⟩
    · rcases h.ok with ⟨_, a, b, c⟩ | ⟨_, a, b⟩
      · exact .inr ⟨a, by omega, c⟩
      · exact .inl ⟨a, b⟩
    · rw [show f + (i - f) = i by omega]
  have hc := Chn.more h.chn st
  rw [show ((⟨q, subS s (i : Int) (k : Int), lexHere i line start⟩ : Tok).kind == 3) = false from beq_eq_false_iff_ne.2 hq] at hc
  exact ⟨h'.line, h'.start, h'.fi, h'.li, h'.rows, hc, .inl ⟨rfl, rfl, by omega, rfl⟩⟩
theorem LexS.fin {s : ByteArray} {i l f L C : Nat} {line start : Int} {out : List Tok} {e : Bool} (h : LexS s i line start true out l f L C e) (hs : s.size ≤ 4000) (hi : i ≤ s.size) (he : i = s.size ∨ sAt s i = 10) : Chn s (out ++ [(⟨3, ⟨#[]⟩, lexHere i line start⟩ : Tok)]) (l + 1) (i - f + 1) true := by
  have hfi := h.fi
  have hli := h.li
  have hr : rowsF s (s.size + 1 - i) i f = (f, i) :: (rowsF s (s.size + 1 - i) i f).tail := by
    obtain ⟨m, hm⟩ : ∃ m, s.size + 1 - i = m + 1 := ⟨s.size - i, by omega⟩
    rw [hm, rowsF]
    rcases he with rfl | he
    · rw [show (((s.size : Nat) : Int) == ((s).size : Int)) = true from beq_iff_eq.2 rfl]; rfl
    · rw [he]
      cases (i : Int) == ((s).size : Int) <;> rfl
  have hg : (rowsA s)[l]? = some (f, i) := by
    have h0 : ((rowsA s).drop l)[0]? = some (f, i) := by rw [h.rows, hr]; rfl
    rw [List.getElem?_drop] at h0
    exact h0
  refine Chn.more (t := (⟨3, ⟨#[]⟩, lexHere i line start⟩ : Tok)) (c := i - f) h.chn ⟨h.here hs hi, by omega, ?_, f, i, hg, hfi, hi, .inl ⟨rfl, rfl, rfl⟩⟩
  rcases h.ok with ⟨_, a, b, c⟩ | ⟨a, _⟩
  · exact .inr ⟨a, by omega, c⟩
  · cases a
theorem LexS.line' {s : ByteArray} {i l f L C L' C' : Nat} {line start : Int} {any_ : Bool} {out out' : List Tok} {e : Bool} (h : LexS s i line start any_ out l f L C e) (hs : s.size ≤ 4000) (hi : i < s.size) (he : sAt s i = 10) (hc : Chn s out' L' C' true) (hL : L' < l + 2) :
    LexS s (i + 1) (w64 (line + 1)) ((i + 1 : Nat) : Int) false out' (l + 1) (i + 1) L' C' true := by
  have hfi := h.fi
  have hli := h.li
  refine ⟨?_, rfl, Nat.le_refl _, by omega, ?_, hc, .inr ⟨rfl, hL, rfl⟩⟩
  · rw [h.line, w64_in (by omega)]; omega
  · obtain ⟨m, hm⟩ : ∃ m, s.size + 1 - i = m + 1 := ⟨s.size - i, by omega⟩
    have hr := h.rows
    rw [hm, rowsF, show ((i : Int) == ((s).size : Int)) = false from beq_eq_false_iff_ne.2 (by omega), he] at hr
    have e2 : (rowsA s).drop (l + 1) = ((rowsA s).drop l).drop 1 := by rw [List.drop_drop]
    rw [e2, hr, show s.size + 1 - (i + 1) = m by omega]
    rfl
def LexG (s : ByteArray) (R : LRes) : Prop := ∃ L C, Chn s R.1 L C true
theorem lexG_nil (s : ByteArray) (a : Cx) (e : Int) : LexG s ([], a, e) := ⟨0, 0, .nil⟩
theorem run_all (P : Int → Bool) (s : ByteArray) : ∀ n i j, i ≤ j → j < runTo P s n i → P (sAt s j) = true
  | 0, i, j, h1, h2 => by rw [runTo] at h2; omega
  | n + 1, i, j, h1, h2 => by
    rw [runTo] at h2
    cases hd : decide (i < s.size)
    · rw [hd, Bool.false_and, cond_false] at h2; omega
    · rw [hd, Bool.true_and] at h2
      cases hp : P (sAt s i)
      · rw [hp, cond_false] at h2; omega
      · rw [hp, cond_true] at h2
        by_cases hij : i = j
        · subst hij; exact hp
        · exact run_all P s n (i + 1) j (by omega) h2
theorem run_no10 {P : Int → Bool} (hP : P 10 = false) {s : ByteArray} {i : Nat} (h0 : ¬ sAt s i = 10) : ∀ j, i ≤ j → j < runTo P s (s.size - (i + 1)) (i + 1) → ¬ sAt s j = 10 := by
  intro j h1 h2 h3
  by_cases hij : i = j
  · subst hij; exact h0 h3
  · have := run_all P s _ (i + 1) j (by omega) h2
    rw [h3, hP] at this
    cases this
theorem lexG_all : ∀ (n i : Nat) (s : ByteArray) (line start : Int) (any_ : Bool) (out : List Tok) (l f L C : Nat) (e : Bool), s.size ≤ 4000 → i ≤ s.size → LexS s i line start any_ out l f L C e → LexG s (lexRun s n i line start any_ out)
  | 0, i, s, line, start, any_, out, l, f, L, C, e, _, _, _ => lexG_nil s _ _
  | n + 1, i, s, line, start, any_, out, l, f, L, C, e, hs, hi, h => by
    have feed : (i = s.size ∨ sAt s i = 10) → LexG s (lexFeed (lexRun s n) s i line any_ out (lexHere i line start)) := by
      intro he
      unfold lexFeed
      by_cases hz : (i : Int) = ((s).size : Int)
      · rw [show ((i : Int) == ((s).size : Int)) = true from beq_iff_eq.2 hz]
        cases any_
        · rcases h.ok with ⟨a, _⟩ | ⟨_, _, rfl⟩
          · cases a
          · exact ⟨L, C, h.chn⟩
        · exact ⟨_, _, h.fin hs hi he⟩
      · have hl : i < s.size := by omega
        have h10 : sAt s i = 10 := he.resolve_left (by omega)
        rw [i_ne hl]
        cases any_
        · rcases h.ok with ⟨a, _⟩ | ⟨_, a, rfl⟩
          · cases a
          · exact lexG_all n (i + 1) s _ _ _ _ _ _ _ _ _ hs hl (h.line' hs hl h10 h.chn (by omega))
        · exact lexG_all n (i + 1) s _ _ _ _ _ _ _ _ _ hs hl (h.line' hs hl h10 (h.fin hs hi he) (by omega))
    rw [lexRun, lexStep]
    by_cases he : (i : Int) = ((s).size : Int)
    · rw [show ((i : Int) == ((s).size : Int)) = true from beq_iff_eq.2 he]
      exact feed (.inl (by omega))
    · have hl : i < s.size := by omega
      have ge := fun P : Int → Bool => runTo_ge P s (s.size - (i + 1)) (i + 1)
      have le := fun P : Int → Bool => runTo_le P s (s.size - (i + 1)) (i + 1) hl
      rw [i_ne hl, cond_false]
      cases h10 : (sAt s i) == 10
      · have n10 : ¬ sAt s i = 10 := beq_eq_false_iff_ne.1 h10
        have one : LexS s (i + 1) line start any_ out l f L C e := h.go (by omega) hl (fun j h1 h2 => by rw [show j = i by omega]; exact n10)
        have hnum : LexG s (lexNum (lexRun s n) s i line start out (lexHere i line start)) := by
          unfold lexNum
          cases (decRead (subS s (i : Int) ((runTo lexInNum s (s.size - (i + 1)) (i + 1) : Nat) : Int))).2
          · exact lexG_nil s _ _
          · exact lexG_all n _ s _ _ _ _ _ _ _ _ _ hs (le lexInNum) (h.tok hs (by have := ge lexInNum; omega) (le lexInNum) (run_no10 (by decide) n10) (by decide))
        cases (sAt s i) == 32
        · cases (sAt s i) == 9
          · cases (sAt s i) == 35
            · cases lexLetter (sAt s i)
              · cases lexDigit (sAt s i)
                · cases (sAt s i) == 45
                  · exact lexG_nil s _ _
                  · exact hnum
                · exact hnum
              · show LexG s (lexWord (lexRun s n) s i line start out (lexHere i line start))
                unfold lexWord
                cases decide ((w64 (((runTo lexInWord s (s.size - (i + 1)) (i + 1) : Nat) : Int) - (i : Int))) > 20)
                · exact lexG_all n _ s _ _ _ _ _ _ _ _ _ hs (le lexInWord) (h.tok hs (by have := ge lexInWord; omega) (le lexInWord) (run_no10 (by decide) n10) (by decide))
                · exact lexG_nil s _ _
            · exact lexG_all n _ s _ _ _ _ _ _ _ _ _ hs (le lexNoLine) (h.go (by have := ge lexNoLine; omega) (le lexNoLine) (run_no10 (by decide) n10))
          · exact lexG_all n _ s _ _ _ _ _ _ _ _ _ hs hl one
        · exact lexG_all n _ s _ _ _ _ _ _ _ _ _ hs hl one
      · exact feed (.inr (beq_iff_eq.1 h10))
theorem lexAll_G (s : ByteArray) : LexG s (lexAll s) := by
  unfold lexAll
  by_cases h : ((s.size : Int) > 4000)
  · rw [decide_eq_true h]
    exact lexG_nil s _ _
  · rw [decide_eq_false h]
    exact lexG_all _ 0 s 1 0 false [] 0 0 0 0 true (by omega) (Nat.zero_le _) ⟨rfl, rfl, Nat.le_refl _, Nat.le_refl _, rfl, .nil, .inr ⟨rfl, by decide, rfl⟩⟩
end Go.Proofs.YtalffjplbhelcaaGreatDoor
namespace Go.Proofs.YtalffjplbhelcaaGreatDoor
theorem subS_sz2 {s : ByteArray} {f g : Nat} (h : f ≤ g) (h' : g ≤ s.size) : (subS s (f : Int) (g : Int)).size = g - f := by
  unfold subS
  simp only [Int.toNat_natCast, ByteArray.size_extract]
  omega
theorem pl_sz {s : ByteArray} (h : ((lexAll s).2.2 != 0) = false) : s.size ≤ 4000 := by
  by_cases h4 : ((s.size : Int) > 4000)
  · unfold lexAll at h
    rw [decide_eq_true h4] at h
    cases h
  · omega
theorem chn_last {s : ByteArray} {T : List Tok} {L C : Nat} (h : Chn s T L C true) : ∀ i, i < T.length → (T.getD i ⟨0, ⟨#[]⟩, ⟨0, 0⟩⟩).kind ≠ 3 → i + 1 < T.length := by
  generalize he : true = e at h
  cases h with
  | nil => intro i hi; exact absurd hi (Nat.not_lt_zero _)
  | @more T L C e t l c h hs =>
    intro i hi hk
    rw [List.length_append, List.length_singleton] at hi ⊢
    by_cases hl : i = T.length
    · subst hl
      exfalso
      apply hk
      have e0 : (T ++ [t]).getD T.length ⟨0, ⟨#[]⟩, ⟨0, 0⟩⟩ = t := by
        rw [List.getD_eq_getElem?_getD, List.getElem?_append_right (Nat.le_refl _)]; simp
      rw [e0]
      exact beq_iff_eq.1 he.symm
    · omega
theorem chn_text {s : ByteArray} (hs : s.size ≤ 4000) {T : List Tok} {L C : Nat} {e : Bool} (h : Chn s T L C e) : ∀ t ∈ T, t.text.size ≤ 4000 := by
  induction h with
  | nil => intro t ht; cases ht
  | more h st ih =>
    intro t ht
    rcases List.mem_append.1 ht with ht | ht
    · exact ih t ht
    · obtain rfl := List.mem_singleton.1 ht
      obtain ⟨f, g, _, _, hg, hk⟩ := st.row
      rcases hk with ⟨_, _, e⟩ | ⟨_, k, h1, h2, e⟩
      · rw [e]; exact Nat.zero_le _
      · rw [e, subS_sz2 (by omega) (by omega)]; omega
end Go.Proofs.YtalffjplbhelcaaGreatDoor
namespace Go.Proofs.YtalffjplbhelcaaGreatDoor
open Go.RowKit
attribute [local irreducible] AC AR DWalk
def Tok.nil : Tok := ⟨0, ⟨#[]⟩, ⟨0, 0⟩⟩
theorem getD_some {α : Type} {l : List α} {d : α} {i : Nat} (h : i < l.length) : l[i]? = some (l.getD i d) := by
 rw [List.getD_eq_getElem?_getD, List.getElem?_eq_getElem h]; rfl
def gNamed (s : ByteArray) : Bool := (bif ((lexAll s).2.2) == 0 then (bif ((lexAll s).1.length : Int) == 2 then (bif (((lexAll s).1.getD 0 Tok.nil).kind) == 1 then sEq (((lexAll s).1.getD 0 Tok.nil).text) s else false) else false) else false)
set_option maxRecDepth 100000 in
set_option maxHeartbeats 1000000 in
theorem c_gNamed (s : ByteArray) : Gives Tryz.prog 84 #[.string s] [] (fun v N => v = (fun (r : Bool) => (.bool r : Value)) (gNamed s) ∧ N = []) := by
 refine gives_fin Tryz.func84 rfl rfl rfl rfl (aQ (aL (aA 2 (.bool false) rfl rfl (aN (aQ (aL (aM 7 (.string s) rfl rfl (ao 8 rfl rfl (st_gv (R := []) (c_tokens s) Tryz.func63 rfl (by decide) rfl rfl rfl has_nil (by simp) fun v9 NT1 R9 => ?_)))))))))
 obtain ⟨aT1, cT1, rfl, h4T1, hT1⟩ := tok_cases R9
 refine aM 6 (.tuple #[.slice aT1 ((lexAll s).1.length) cT1, .complex .f64 ((lexAll s).2.1).re ((lexAll s).2.1).im, .int .i64 ((lexAll s).2.2)]) rfl rfl (aX 9 (.slice aT1 ((lexAll s).1.length) cT1) rfl rfl rfl (aX 10 (.complex .f64 ((lexAll s).2.1).re ((lexAll s).2.1).im) rfl rfl rfl (aX 11 (.int .i64 ((lexAll s).2.2)) rfl rfl rfl (aA 3 (.slice aT1 ((lexAll s).1.length) cT1) rfl rfl (aA 4 (.complex .f64 ((lexAll s).2.1).re ((lexAll s).2.1).im) rfl rfl (aA 5 (.int .i64 ((lexAll s).2.2)) rfl rfl (aN (aQ (aL (aM 12 (.int .i64 ((lexAll s).2.2)) rfl rfl (aB 13 (.bool (((lexAll s).2.2) == 0)) rfl rfl rfl (bi_eql rfl) (aM 14 (.bool (((lexAll s).2.2) == 0)) rfl rfl ?_))))))))))))
 refine bool_split (((lexAll s).2.2) == 0) (fun h1 => ?_) (fun h1 => ?_)
 ·refine ar_gd (d := (some 15)) (by show ((((lexAll s).2.2) == 0) == true) = true; rw [h1]; rfl) rfl (st_move (v := .slice aT1 ((lexAll s).1.length) cT1) rfl rfl (ar_gd (d := (some 16)) (by show ((((lexAll s).2.2) == 0) == true) = true; rw [h1]; rfl) rfl (st_ln (a := aT1) (m := (lexAll s).1.length) (c := cT1) rfl Tryz.underlying71 rfl (ar_gd (d := (some 17)) (by show ((((lexAll s).2.2) == 0) == true) = true; rw [h1]; rfl) rfl (st_bi (r := .bool (((lexAll s).1.length : Int) == 2)) rfl rfl rfl (bi_eql rfl) (ao 18 rfl rfl (st_pkt' (b := ((lexAll s).2.2) == 0) (v := .bool (((lexAll s).1.length : Int) == 2)) h1 rfl rfl rfl ?_)))))))
  refine aM 19 (.bool (((lexAll s).1.length : Int) == 2)) rfl rfl ?_
  refine bool_split (((lexAll s).1.length : Int) == 2) (fun h2 => ?_) (fun h2 => ?_)
  ·refine ar_gd (d := (some 20)) (by show ((((lexAll s).1.length : Int) == 2) == true) = true; rw [h2]; rfl) rfl (st_move (v := .slice aT1 ((lexAll s).1.length) cT1) rfl rfl ?_)
   have hl2 : (lexAll s).1.length = 2 := by have := beq_iff_eq.1 h2; omega
   obtain ⟨gT, rT, rfl, hmT⟩ := hT1 0 (by omega)
   have e0 := getD_some (l := (lexAll s).1) (d := Tok.nil) (i := 0) (by omega)
   refine ar_gd (d := (some 21)) (by show ((((lexAll s).1.length : Int) == 2) == true) = true; rw [h2]; rfl) rfl (st_sa (g := gT) (off := 0) (m := (lexAll s).1.length) (c := cT1) (s := 3) (i := 0) rfl Tryz.underlying71 (by kernel_rfl) rfl rfl (by omega) (ar_gd (d := (some 22)) (by show ((((lexAll s).1.length : Int) == 2) == true) = true; rw [h2]; rfl) rfl (st_fa rfl fa108_0 rfl (ar_gd (d := (some 23)) (by show ((((lexAll s).1.length : Int) == 2) == true) = true; rw [h2]; rfl) rfl (st_ldm (g := gT) (off := 0 + 0 * 3 + 0) (v := .int .i64 (((lexAll s).1.getD 0 Tok.nil).kind)) cell3 rfl rfl (List.mem_append_left _ hmT) (flatT_kind _ _ 0 _ e0) ?_)))))
   refine ar_gd (d := (some 24)) (by show ((((lexAll s).1.length : Int) == 2) == true) = true; rw [h2]; rfl) rfl (st_bi (r := .bool ((((lexAll s).1.getD 0 Tok.nil).kind) == 1)) rfl rfl rfl (bi_eql rfl) (ao 25 rfl rfl (st_pkt' (b := ((lexAll s).1.length : Int) == 2) (v := .bool ((((lexAll s).1.getD 0 Tok.nil).kind) == 1)) h2 rfl rfl rfl (aM 26 (.bool ((((lexAll s).1.getD 0 Tok.nil).kind) == 1)) rfl rfl ?_))))
   refine bool_split ((((lexAll s).1.getD 0 Tok.nil).kind) == 1) (fun h3 => ?_) (fun h3 => ?_)
   ·refine ar_gd (d := (some 27)) (by show (((((lexAll s).1.getD 0 Tok.nil).kind) == 1) == true) = true; rw [h3]; rfl) rfl (st_move (v := .slice (some ⟨gT, 0, none⟩) ((lexAll s).1.length) cT1) rfl rfl (ar_gd (d := (some 28)) (by show (((((lexAll s).1.getD 0 Tok.nil).kind) == 1) == true) = true; rw [h3]; rfl) rfl (st_sa (g := gT) (off := 0) (m := (lexAll s).1.length) (c := cT1) (s := 3) (i := 0) rfl Tryz.underlying71 (by kernel_rfl) rfl rfl (by omega) (ar_gd (d := (some 29)) (by show (((((lexAll s).1.getD 0 Tok.nil).kind) == 1) == true) = true; rw [h3]; rfl) rfl (st_fa rfl fa108_1 rfl ?_)))))
    refine ar_gd (d := (some 30)) (by show (((((lexAll s).1.getD 0 Tok.nil).kind) == 1) == true) = true; rw [h3]; rfl) rfl (st_ldm (g := gT) (off := 0 + 0 * 3 + 1) (v := .string (((lexAll s).1.getD 0 Tok.nil).text)) cell9 rfl rfl (List.mem_append_left _ hmT) (flatT_text _ _ 0 _ e0) (ar_gd (d := (some 31)) (by show (((((lexAll s).1.getD 0 Tok.nil).kind) == 1) == true) = true; rw [h3]; rfl) rfl (st_move (v := .string s) rfl rfl (ar_gd (d := (some 32)) (by show (((((lexAll s).1.getD 0 Tok.nil).kind) == 1) == true) = true; rw [h3]; rfl) rfl (st_bi (r := .bool (sEq (((lexAll s).1.getD 0 Tok.nil).text) s)) rfl rfl rfl (bi_seql rfl) ?_)))))
    refine ao 33 rfl rfl (st_pkt' (b := (((lexAll s).1.getD 0 Tok.nil).kind) == 1) (v := .bool (sEq (((lexAll s).1.getD 0 Tok.nil).text) s)) h3 rfl rfl rfl (aA 2 (.bool (sEq (((lexAll s).1.getD 0 Tok.nil).text) s)) rfl rfl (aN (ac_ret ?_))))
    exact fing_ret (N := []) ⟨(show (.bool (sEq (((lexAll s).1.getD 0 Tok.nil).text) s) : Value) = (fun (r : Bool) => (.bool r : Value)) (gNamed s) from by rw [gNamed, h3, h2, h1] <;> rfl), rfl⟩ (List.nil_sublist _) rfl (res_tmp rfl rfl)
   ·refine aK 27 (by show (((((lexAll s).1.getD 0 Tok.nil).kind) == 1) == true) = false; rw [h3]; rfl) rfl (aK 28 (by show (((((lexAll s).1.getD 0 Tok.nil).kind) == 1) == true) = false; rw [h3]; rfl) rfl (aK 29 (by show (((((lexAll s).1.getD 0 Tok.nil).kind) == 1) == true) = false; rw [h3]; rfl) rfl (aK 30 (by show (((((lexAll s).1.getD 0 Tok.nil).kind) == 1) == true) = false; rw [h3]; rfl) rfl (aK 31 (by show (((((lexAll s).1.getD 0 Tok.nil).kind) == 1) == true) = false; rw [h3]; rfl) rfl (aK 32 (by show (((((lexAll s).1.getD 0 Tok.nil).kind) == 1) == true) = false; rw [h3]; rfl) rfl ?_)))))
    refine ao 33 rfl rfl (st_pkf' (b := (((lexAll s).1.getD 0 Tok.nil).kind) == 1) (v := .bool false) h3 rfl rfl rfl (aA 2 (.bool false) rfl rfl (aN (ac_ret ?_))))
    exact fing_ret (N := []) ⟨(show (.bool false : Value) = (fun (r : Bool) => (.bool r : Value)) (gNamed s) from by rw [gNamed, h3, h2, h1] <;> rfl), rfl⟩ (List.nil_sublist _) rfl (res_tmp rfl rfl)
  ·refine aK 20 (by show ((((lexAll s).1.length : Int) == 2) == true) = false; rw [h2]; rfl) rfl (aK 21 (by show ((((lexAll s).1.length : Int) == 2) == true) = false; rw [h2]; rfl) rfl (aK 22 (by show ((((lexAll s).1.length : Int) == 2) == true) = false; rw [h2]; rfl) rfl (aK 23 (by show ((((lexAll s).1.length : Int) == 2) == true) = false; rw [h2]; rfl) rfl (aK 24 (by show ((((lexAll s).1.length : Int) == 2) == true) = false; rw [h2]; rfl) rfl (ao 25 rfl rfl (st_pkf' (b := ((lexAll s).1.length : Int) == 2) (v := .bool false) h2 rfl rfl rfl (aM 26 (.bool false) rfl rfl (aK 27 rfl rfl (aK 28 rfl rfl (aK 29 rfl rfl (aK 30 rfl rfl (aK 31 rfl rfl (aK 32 rfl rfl ?_)))))))))))))
   refine ao 33 rfl rfl (st_pkf (v := .bool false) rfl rfl rfl (aA 2 (.bool false) rfl rfl (aN (ac_ret ?_))))
   exact fing_ret (N := []) ⟨(show (.bool false : Value) = (fun (r : Bool) => (.bool r : Value)) (gNamed s) from by rw [gNamed, h2, h1] <;> rfl), rfl⟩ (List.nil_sublist _) rfl (res_tmp rfl rfl)
 ·refine aK 15 (by show ((((lexAll s).2.2) == 0) == true) = false; rw [h1]; rfl) rfl (aK 16 (by show ((((lexAll s).2.2) == 0) == true) = false; rw [h1]; rfl) rfl (aK 17 (by show ((((lexAll s).2.2) == 0) == true) = false; rw [h1]; rfl) rfl (ao 18 rfl rfl (st_pkf' (b := ((lexAll s).2.2) == 0) (v := .bool false) h1 rfl rfl rfl (aM 19 (.bool false) rfl rfl (aK 20 rfl rfl (aK 21 rfl rfl (aK 22 rfl rfl (aK 23 rfl rfl (aK 24 rfl rfl (ao 25 rfl rfl (st_pkf (v := .bool false) rfl rfl rfl (aM 26 (.bool false) rfl rfl (aK 27 rfl rfl (aK 28 rfl rfl (aK 29 rfl rfl (aK 30 rfl rfl (aK 31 rfl rfl (aK 32 rfl rfl (ao 33 rfl rfl (st_pkf (v := .bool false) rfl rfl rfl ?_)))))))))))))))))))))
  refine aA 2 (.bool false) rfl rfl (aN (ac_ret ?_))
  exact fing_ret (N := []) ⟨(show (.bool false : Value) = (fun (r : Bool) => (.bool r : Value)) (gNamed s) from by rw [gNamed, h1] <;> rfl), rfl⟩ (List.nil_sublist _) rfl (res_tmp rfl rfl)
end Go.Proofs.YtalffjplbhelcaaGreatDoor
namespace Go.Proofs.YtalffjplbhelcaaGreatDoor
def roB (l : List Box) : List Box := l.map fun b => { b with ro := true }
theorem ro_all (l : List Box) : ((roB l).all fun b => b.ro) = true := by
  unfold roB
  rw [List.all_map]
  exact List.all_eq_true.2 fun _ _ => rfl
theorem ro_mem {l : List Box} {g : Nat} {cs : List Value} {t : TypeId} {r : Bool} (h : (⟨g, cs, t, r⟩ : Box) ∈ l) : (⟨g, cs, t, true⟩ : Box) ∈ roB l := List.mem_map.2 ⟨_, h, rfl⟩
theorem has_ro (l : List Box) : Has l (roB l) := fun b hb => by
  obtain ⟨c, hc, rfl⟩ := List.mem_map.1 hb
  exact ⟨c, hc, rfl, rfl, rfl⟩
theorem nd_ro {l : List Box} (h : (l.map Box.g).Nodup) : ((roB l).map Box.g).Nodup := by
  unfold roB
  rw [List.map_map]
  exact h
theorem gl_ro {a : Option Addr} {m : Nat} {x : Nat → Glass} {H : List Box} (h : GlI a m x H) : GlI a m x (roB H) := fun i hi => by
  obtain ⟨g, off, cs, t, r, h1, h2, h3⟩ := h i hi
  exact ⟨g, off, cs, t, true, h1, ro_mem h2, h3⟩
theorem tk_ro {a : Option Addr} {m : Nat} {x : Nat → Tok} {H : List Box} (h : TkI a m x H) : TkI a m x (roB H) := fun i hi => by
  obtain ⟨g, off, cs, t, r, h1, h2, h3⟩ := h i hi
  exact ⟨g, off, cs, t, true, h1, ro_mem h2, h3⟩
theorem tk_sub {a : Option Addr} {m : Nat} {x : Nat → Tok} {H H' : List Box} (h : TkI a m x H) (hs : ∀ b ∈ H, b ∈ H') : TkI a m x H' := fun i hi => by
  obtain ⟨g, off, cs, t, r, h1, h2, h3⟩ := h i hi
  exact ⟨g, off, cs, t, r, h1, hs _ h2, h3⟩
def flatG (l : List Glass) : List Value := l.flatMap Glass.cells
def gAt (l : List Glass) (i : Nat) : Glass := l.getD i Glass.zero
theorem flatG_drop (l : List Glass) (r : List Value) (i : Nat) (hi : i < l.length) : ((flatG l ++ r).drop (0 + i * 13)).take 13 = (gAt l i).cells := by
  rw [Nat.zero_add]
  induction l generalizing i with
  | nil => exact absurd hi (Nat.not_lt_zero _)
  | cons a l ih =>
    have e : flatG (a :: l) = a.cells ++ flatG l := by simp [flatG]
    have ha : a.cells.length = 13 := rfl
    cases i with
    | zero =>
      rw [e, Nat.zero_mul, List.drop_zero, List.append_assoc, List.take_append_of_le_length (by omega), List.take_of_length_le (by omega)]; rfl
    | succ i =>
      rw [e, List.append_assoc, show (i + 1) * 13 = a.cells.length + i * 13 by omega, List.drop_append]
      rw [List.drop_of_length_le (by omega), List.nil_append, show a.cells.length + i * 13 - a.cells.length = i * 13 by omega]
      exact ih i (by simpa using hi)
theorem row_gl {m ca : Nat} {aa : Option Addr} {l : List Glass} {NL : List Box} (h : Row 29 13 m (flatG l) (.slice aa m ca) NL) (hm : m = l.length) (H0 : List Box) : GlI aa m (gAt l) (NL ++ H0) := by
  intro i hi
  rcases h with ⟨h0, _⟩ | ⟨g, cap, rest, hv, hN, _⟩
  · omega
  · cases hv
    exact ⟨g, 0, _, _, _, rfl, by rw [hN]; exact List.mem_append_left _ (List.mem_singleton.2 rfl), flatG_drop l rest i (by omega)⟩
theorem gNums_lt {y : Nat → Tok} {n : Nat} (hend : ∀ i, i < n → (y i).kind ≠ 3 → i + 1 < n) : ∀ (j k : Nat) (z z' : Glass), 2 + k < n → gNums y j k z = (z', none) → 2 + (k + j) < n
  | 0, k, z, z', h, _ => h
  | j + 1, k, z, z', h, e => by
    rw [gNums] at e
    cases hk : (y (2 + k)).kind != 2
    · rw [hk, cond_false] at e
      have h2 : (y (2 + k)).kind = 2 := bne_eq_false_iff_eq.1 hk
      have := gNums_lt hend j (k + 1) _ z' (by have := hend (2 + k) h (by omega); omega) e
      omega
    · rw [hk, cond_true] at e
      cases e
theorem gOne_ok {m n : Nat} {x : Nat → Glass} {y : Nat → Tok} (hn : 0 < n) (hend : ∀ i, i < n → (y i).kind ≠ 3 → i + 1 < n) (h : (gOne m x y).2.2.2 = 0) : (gOne m x y).2.1 = true ∧ 9 ≤ n := by
  unfold gOne at h ⊢
  cases h0 : (y 0).kind != 1
  · have k0 : (y 0).kind = 1 := bne_eq_false_iff_eq.1 h0
    have n1 := hend 0 hn (by omega)
    rw [h0, cond_false] at h
    rw [cond_false]
    cases ht : sEq (y 0).text (⟨#[103, 108, 97, 115, 115]⟩ : ByteArray)
    · rw [ht, cond_false] at h
      cases h
    · rw [ht, cond_true] at h
      rw [cond_true]
      cases hg : gName m x (y 1) != 0
      · have k1 := gName_word hg
        have n2 := hend 1 n1 (by omega)
        rw [hg, cond_false] at h
        rw [cond_false]
        generalize hz : (⟨(y 1).text, _, _⟩ : Glass) = z at *
        cases hN : gNums y 6 0 z with
        | mk z1 q =>
          rw [hN] at h
          cases q with
          | none =>
            have n8 := gNums_lt hend 6 0 z z1 (by omega) hN
            cases hk : (y 8).kind != 3
            · exact ⟨rfl, by omega⟩
            · have h : (bif (y 8).kind != 3 then (z1, false, (y 8).at_, 2) else (z1, true, (⟨0, 0⟩ : Cx), 0) : Glass × Bool × Cx × Int).2.2.2 = 0 := h
              rw [hk] at h
              cases h
          | some c => cases h
      · rw [hg, cond_true] at h
        have h : gName m x (y 1) = 0 := h
        rw [h] at hg
        cases hg
  · rw [h0, cond_true] at h
    cases h
def gReadF : Nat → List Glass → (Nat → Tok) → Nat → List Glass × Cx × Int
  | 0, l, _, _ => (l, ⟨0, 0⟩, 0)
  | j + 1, l, y, n => bif decide ((n : Int) > 0) then (bif (gOne l.length (gAt l) y).2.2.2 != 0 then ([], (gOne l.length (gAt l) y).2.2.1, (gOne l.length (gAt l) y).2.2.2) else gReadF j (l ++ [(gOne l.length (gAt l) y).1]) (fun i => y (i + 9)) (n - 9)) else (l, ⟨0, 0⟩, 0)
def gRead (s : ByteArray) : List Glass × Cx × Int := bif (lexAll s).2.2 != 0 then ([], (lexAll s).2.1, (lexAll s).2.2) else gReadF ((lexAll s).1.length + 1) [] (fun i => (lexAll s).1.getD i Tok.nil) (lexAll s).1.length
def ReadPost (R : List Glass × Cx × Int) (v : Value) (N : List Box) : Prop :=
  ∃ (m ca : Nat) (aa : Option Addr), v = .tuple #[.slice aa m ca, .complex .f64 R.2.1.re R.2.1.im, .int .i64 R.2.2] ∧ m = R.1.length ∧ m ≤ 4001 ∧ m ≤ ca ∧ Row 29 13 m (flatG R.1) (.slice aa m ca) N
theorem row_cap {e s m ca : Nat} {aa : Option Addr} {xs : List Value} {N : List Box} (h : Row e s m xs (.slice aa m ca) N) : m ≤ ca := by
  rcases h with ⟨rfl, _⟩ | ⟨g, cap, rest, hv, _, _, _, hc, _⟩
  · exact Nat.zero_le _
  · cases hv; exact hc
theorem rowFreeG {e s n : Nat} {xs : List Value} {v : Value} {N : List Box} (h : Row e s n xs v N) : (N.all fun b => !b.ro) = true := by
  rcases h with ⟨_, _, _, rfl⟩ | ⟨_, _, _, _, rfl, _⟩ <;> rfl
end Go.Proofs.YtalffjplbhelcaaGreatDoor
namespace Go.Proofs.YtalffjplbhelcaaGreatDoor
open Go.RowKit
attribute [local irreducible] AC AR DWalk
set_option maxRecDepth 100000 in
theorem cc_F (b : Nat) (v : Value) : Does Tryz.prog 122 #[.pointer (some ⟨b, 0, none⟩)] [⟨b, [.pointer none, v], 93, false⟩] (fun u H' => u = .tuple #[] ∧ H' = [⟨b, [.pointer (some ⟨b, 0, none⟩), v], 93, false⟩]) := by
 refine does_fin Tryz.func122 rfl rfl (aQ (aL (aM 2 (.pointer (some ⟨b, 0, none⟩)) rfl rfl (ao 3 rfl rfl (st_nck (a := ⟨b, 0, none⟩) rfl rfl (aF 4 fa93_0 rfl rfl (aD 5 (.pointer none) cell91 0 rfl rfl rfl rfl (aB 6 (.bool true) rfl rfl rfl (bp_nil Tryz.underlying91) (aN (ac_then rfl (aL (aM 7 (.pointer (some ⟨b, 0, none⟩)) rfl rfl (aM 8 (.pointer (some ⟨b, 0, none⟩)) rfl rfl (ao 9 rfl rfl (st_cvU (c := 2) 0 rfl rfl Tryz.underlying91 Tryz.underlying147 (by kernel_rfl) (by decide) rfl rfl (by show (0 : Nat) < 2; decide) (ao 10 rfl rfl (st_noesc Tryz.func144 (by kernel_rfl) (by kernel_rfl) (by kernel_rfl) (by kernel_rfl) rfl rfl rfl ?_)))))))))))))))))
 refine ao 11 rfl rfl (st_cvP (c := 2) 0 rfl rfl Tryz.underlying147 Tryz.underlying91 (by kernel_rfl) rfl rfl (by show liesAt Tryz.prog Tryz.prog.depth 93 (2 / Tryz.prog.cellsOf 93) 0 93 1 = true; kernel_rfl) (ao 12 rfl rfl (st_nck (a := ⟨b, 0, none⟩) rfl rfl (aF 13 fa93_0 rfl rfl (ar_op (d := none) rfl rfl (st_stc (cs := [.pointer (some ⟨b, 0, none⟩), v]) cell91 0 rfl rfl rfl rfl rfl rfl rfl rfl rfl (aN ?_)))))))
 exact ⟨.inr rfl, .tuple #[], _, ⟨rfl, rfl⟩, List.Sublist.refl _, rfl, (res_0 rfl)⟩
set_option maxRecDepth 100000 in
theorem cc_U (b : Nat) (v : Value) : Does Tryz.prog 122 #[.pointer (some ⟨b, 0, none⟩)] [⟨b, [.pointer (some ⟨b, 0, none⟩), v], 93, false⟩] (fun u H' => u = .tuple #[] ∧ H' = [⟨b, [.pointer (some ⟨b, 0, none⟩), v], 93, false⟩]) := by
 refine does_fin Tryz.func122 rfl rfl (aQ (aL (aM 2 (.pointer (some ⟨b, 0, none⟩)) rfl rfl (ao 3 rfl rfl (st_nck (a := ⟨b, 0, none⟩) rfl rfl (aF 4 fa93_0 rfl rfl (aD 5 (.pointer (some ⟨b, 0, none⟩)) cell91 0 rfl rfl rfl rfl (aB 6 (.bool false) rfl rfl rfl (bp_some Tryz.underlying91) (aN (ac_else rfl (aQ (aL (aM 14 (.pointer (some ⟨b, 0, none⟩)) rfl rfl (ao 15 rfl rfl (st_nck (a := ⟨b, 0, none⟩) rfl rfl (aF 16 fa93_0 rfl rfl (aD 17 (.pointer (some ⟨b, 0, none⟩)) cell91 0 rfl rfl rfl rfl (aM 18 (.pointer (some ⟨b, 0, none⟩)) rfl rfl (aB 19 (.bool false) rfl rfl rfl (bp_ne (c := 2) Tryz.underlying91 (by kernel_rfl)) (aN (ac_else rfl (ac_skip ?_))))))))))))))))))))))
 exact ⟨.inr rfl, .tuple #[], _, ⟨rfl, rfl⟩, List.Sublist.refl _, rfl, (res_0 rfl)⟩
theorem c_cc (b : Nat) (v p : Value) (hp : p = .pointer none ∨ p = .pointer (some ⟨b, 0, none⟩)) : Does Tryz.prog 122 #[.pointer (some ⟨b, 0, none⟩)] [⟨b, [p, v], 93, false⟩] (fun u H' => u = .tuple #[] ∧ H' = [⟨b, [.pointer (some ⟨b, 0, none⟩), v], 93, false⟩]) := by
 rcases hp with rfl | rfl
 ·exact cc_F b v
 ·exact cc_U b v
def byC (l : List UInt8) : List Value := l.map fun x => Value.int .u8 x.toNat
def Bld (b : Nat) (l : List UInt8) (H : List Box) : Prop := ∃ (p : Value) (aa : Option Addr) (k ca : Nat) (N : List Box), (p = .pointer none ∨ p = .pointer (some ⟨b, 0, none⟩)) ∧ H = ⟨b, [p, .slice aa k ca], 93, false⟩ :: N ∧ k = l.length ∧ Row 5 1 k (byC l) (.slice aa k ca) N
theorem bld_new (b : Nat) : Bld b [] [⟨b, [.pointer none, .slice none 0 0], 93, false⟩] := ⟨_, none, 0, 0, [], .inl rfl, rfl, rfl, Row.nil _ _⟩
set_option maxRecDepth 100000 in
set_option maxHeartbeats 1000000 in
theorem c_write0 (b k ca : Nat) (p : Value) (aa : Option Addr) (l : List UInt8) (s : ByteArray) (N : List Box) (hp : p = .pointer none ∨ p = .pointer (some ⟨b, 0, none⟩)) (hk : k = l.length) (hR : Row 5 1 k (byC l) (.slice aa k ca) N) (hsz : k + s.size ≤ 140737488355328) : Does Tryz.prog 81 #[.pointer (some ⟨b, 0, none⟩), .string s] ([⟨b, [p, .slice aa k ca], 93, false⟩] ++ N) (fun u H' => u = .tuple #[.int .i64 ((s).size : Int), .nilIface] ∧ Bld b (l ++ s.data.toList) H') := by
 refine does_fin Tryz.func81 rfl rfl (aQ (aL (aA 4 (.int .i64 0) rfl rfl (aA 5 (.nilIface) rfl rfl (aN (aQ (aL (aM 6 (.pointer (some ⟨b, 0, none⟩)) rfl rfl (ao 7 rfl rfl (st_does (Hb := [⟨b, [p, .slice aa k ca], 93, false⟩]) (A := N) (vs := [.pointer (some ⟨b, 0, none⟩)]) (c_cc b (.slice aa k ca) p hp) Tryz.func122 rfl rfl rfl rfl rfl rfl fun u9 H9 R9 => ?_))))))))))
 obtain ⟨rfl, rfl⟩ := R9
 refine aN (aQ (aL (aM 8 (.pointer (some ⟨b, 0, none⟩)) rfl rfl (aM 9 (.pointer (some ⟨b, 0, none⟩)) rfl rfl (ao 10 rfl rfl (st_nck (a := ⟨b, 0, none⟩) rfl rfl (aF 11 fa93_1 rfl rfl (aD 12 (.slice aa k ca) cell76 0 rfl rfl rfl rfl (aM 13 (.string s) rfl rfl (ao 14 rfl rfl (st_appSZ (A := [⟨b, [.pointer (some ⟨b, 0, none⟩), .slice aa k ca], 93, false⟩]) (N := N) (xs := (byC l)) Tryz.underlying76 Tryz.underlying9 (by kernel_rfl) rfl rfl rfl hR rfl (by simp only [maxLen]; omega) (by omega) (fun v H H' hp h => ar_perm hp h) fun v9 N9 R9 => ?_)))))))))))
 obtain ⟨a9, c9, rfl⟩ := R9.form
 refine ao 15 rfl rfl (st_nck (a := ⟨b, 0, none⟩) rfl rfl (aF 16 fa93_1 rfl rfl (ar_op (d := none) rfl rfl (st_stc (cs := [.pointer (some ⟨b, 0, none⟩), .slice a9 (k + (s).size) c9]) cell76 0 rfl rfl rfl rfl rfl rfl rfl rfl rfl (aN (aQ (aL (aM 17 (.string s) rfl rfl (ao 18 rfl rfl (st_slen (s := s) rfl Tryz.underlying9 rfl (aA 4 (.int .i64 ((s).size : Int)) rfl rfl (aA 5 (.nilIface) rfl rfl (aN (ac_ret ?_))))))))))))))
 exact ⟨.inl rfl, _, _, ⟨rfl, _, a9, k + s.size, c9, N9, .inr rfl, rfl, by rw [List.length_append, Array.length_toList, hk]; rfl, by rw [byC, List.map_append]; exact R9⟩, List.Sublist.refl _, by rw [List.all_cons, rowFreeG R9]; rfl, (res_tt rfl rfl rfl)⟩
theorem c_write (b : Nat) (l : List UInt8) (s : ByteArray) (H : List Box) (h : Bld b l H) (hsz : l.length + s.size ≤ 140737488355328) : Does Tryz.prog 81 #[.pointer (some ⟨b, 0, none⟩), .string s] H (fun u H' => u = .tuple #[.int .i64 ((s).size : Int), .nilIface] ∧ Bld b (l ++ s.data.toList) H') := by
 obtain ⟨p, aa, k, ca, N, hp, rfl, hk, hR⟩ := h
 exact c_write0 b k ca p aa l s N hp hk hR (by omega)
end Go.Proofs.YtalffjplbhelcaaGreatDoor
namespace Go.Proofs.YtalffjplbhelcaaGreatDoor
open Go.RowKit Go.Shelf
set_option maxHeartbeats 1000000 in
set_option maxRecDepth 100000 in
theorem str_exact (b g cap : Nat) (p : Value) (cur : Array Value) (l : List UInt8) (w : World) (h0 : l ≠ []) (hbk : w.heap[b]? = some (.cells #[p, .slice (some ⟨g, 0, none⟩) l.length cap] 93 (0, 0))) (hg : w.heap[g]? = some (.cells cur 5 (0, 0))) (hnc : l.length ≤ cap) (hcm : cap ≤ maxLen) (hcs : cur.size = cap) (htake : cur.toList.take l.length = Lib.byteCells l) :
    Calls Tryz.prog 83 #[.pointer (some ⟨b, 0, none⟩)] w fun e w' => e = .returned (.string ⟨l.toArray⟩) ∧ w' = w.drew.freeze ⟨g, 0, none⟩ l.length := by
  have L := Tryz.lays169
  have X := Tryz.Builder_Extra_169
  have hl0 : l.length ≠ 0 := by simpa using h0
  have c1 : w.drew.cell? ⟨b, 1, none⟩ = some (.slice (some ⟨g, 0, none⟩) l.length cap) := by
    have : w.drew.heap[b]? = some (.cells #[p, .slice (some ⟨g, 0, none⟩) l.length cap] 93 (0, 0)) := hbk
    rw [Lib.cell_of_heap this]; rfl
  have hSD : (Builtin.unsafeSliceData_ #[(Tryz.lays169_ren.t 37)] (Tryz.lays169_ren.t 127) #[.slice (some ⟨g, 0, none⟩) l.length cap]).run Tryz.prog w.drew = .ok (.pointer (some ⟨g, 0, none⟩)) w.drew :=
    Lib.run_unsafeSliceData_row _ _ _ _ _ _ (by omega)
  have hUS : (Builtin.unsafeString_ #[(Tryz.lays169_ren.t 127), (Tryz.lays169_ren.t 3)] (Tryz.lays169_ren.t 9) #[.pointer (some ⟨g, 0, none⟩), .int .i64 l.length]).run Tryz.prog w.drew = .ok (.string ⟨l.toArray⟩) (w.drew.freeze ⟨g, 0, none⟩ l.length) := by
    refine Lib.run_unsafeString_row w.drew 124 3 9 5 L.t127 X.cellsByte g cur.size (by have hg' : w.drew.heap[g]? = some (.cells cur 5 (0, 0)) := hg; simp [World.shape?, hg']) l h0 (by omega) (by unfold maxLen at hcm; omega) ?_
    intro j x hx
    have hlt : j < l.length := (List.getElem?_eq_some_iff.1 hx).1
    have hg' : w.drew.heap[g]? = some (.cells cur 5 (0, 0)) := hg
    rw [add_at, Nat.zero_add, cell_of_row w.drew g j cur 5 (0, 0) hg']
    have h1 : (cur.toList.take l.length)[j]? = some (.int .u8 x.toNat) := by rw [htake]; simp [Lib.byteCells, hx]
    rw [List.getElem?_take, if_pos hlt, Array.getElem?_toList] at h1
    exact h1
  have mixed := L.mixed
  have t72 := L.t72; have a72 := L.a72; have z72 := L.z72; have v72 := L.v72; have u72 := run_underlying L.t72
  have t70 := L.t70; have a70 := L.a70; have z70 := L.z70; have v70 := L.v70; have u70 := run_underlying L.t70
  have t37 := L.t37; have a37 := L.a37; have z37 := L.z37; have v37 := L.v37; have u37 := run_underlying L.t37
  have t127 := L.t127; have a127 := L.a127; have z127 := L.z127; have v127 := L.v127; have u127 := run_underlying L.t127
  have t3 := L.t3; have a3 := L.a3; have z3 := L.z3; have v3 := L.v3; have u3 := run_underlying L.t3
  have t9 := L.t9; have a9 := L.a9; have z9 := L.z9; have v9 := L.v9; have u9 := run_underlying L.t9
  have t5 := X.t5; have a5 := X.a5; have z5 := X.z5; have v5 := X.v5; have u5 := run_underlying X.t5
  go_enter L.f169, Body.n169_ntmps Tryz.lays169_ren
  go_wp2
  go_region_o
  all_goals (go_wp2; go_ret; exact ⟨rfl, rfl⟩)
theorem c_string (b : Nat) (l : List UInt8) (H : List Box) (h : Bld b l H) (h0 : l ≠ []) : Does Tryz.prog 83 #[.pointer (some ⟨b, 0, none⟩)] H (fun u H' => u = .string (byA l) ∧ H' = []) := by
  intro w hO
  obtain ⟨p, aa, k, ca, N, hp, rfl, hk, hR⟩ := h
  have hl0 : l.length ≠ 0 := by simpa using h0
  rcases hR with ⟨hz, _⟩ | ⟨g, cap, rest, hv, hN, hxl, hcl, hkc, hcm⟩
  · omega
  · cases hv
    subst hN
    obtain ⟨frb, hfb, hbk⟩ := (hO.at_ _ List.mem_cons_self).2
    obtain rfl := hfb rfl
    obtain ⟨frg, hfg, hgk⟩ := (hO.at_ _ (List.mem_cons_of_mem _ (List.mem_singleton.2 rfl))).2
    obtain rfl := hfg rfl
    simp only at hbk hgk
    rw [hk] at hbk
    have hbl : (byC l).length = l.length := by rw [byC, List.length_map]
    rw [Nat.mul_one] at hcl
    refine (str_exact b g ca p (byC l ++ rest).toArray l w h0 hbk hgk (by omega) hcm (by rw [List.size_toArray, hcl]) (by rw [List.toList_toArray, ← hbl, List.take_left]; rfl)).mono ?_
    rintro e w' ⟨he, rfl⟩
    refine ⟨_, [], he, ⟨rfl, rfl⟩, rfl, ⟨?_, by simp, by simp⟩, ⟨?_, ?_⟩⟩
    · show w.heap.size ≤ _
      unfold World.freeze
      rw [if_neg hl0]
      exact Nat.le_of_eq (Array.size_modify ..).symm
    · exact Lib.below_freeze (Below.drew (Below.refl 0 w)) (Nat.zero_le _) _
    · intro q hq
      have hne : q ≠ g := by
        rintro rfl
        exact hq (.inr ⟨_, List.mem_cons_of_mem _ (List.mem_singleton.2 rfl), rfl, rfl⟩)
      show (w.drew.freeze ⟨g, 0, none⟩ l.length).heap[q]? = w.heap[q]?
      unfold World.freeze
      rw [if_neg hl0]
      simp only [Array.getElem?_modify]
      rw [if_neg (fun h => hne h.symm)]
      rfl
end Go.Proofs.YtalffjplbhelcaaGreatDoor
namespace Go.Proofs.YtalffjplbhelcaaGreatDoor
open Go.RowKit
attribute [local irreducible] AC AR DWalk
def numC (x : Glass) : List Value := [.int .i64 x.b.d0.c, .int .i64 x.b.d0.scale, .int .i64 x.c.d0.c, .int .i64 x.c.d0.scale, .int .i64 x.b.d1.c, .int .i64 x.b.d1.scale, .int .i64 x.c.d1.c, .int .i64 x.c.d1.scale, .int .i64 x.b.d2.c, .int .i64 x.b.d2.scale, .int .i64 x.c.d2.c, .int .i64 x.c.d2.scale]
set_option maxRecDepth 100000 in
theorem c_numbers (x : Glass) : Gives Tryz.prog 82 #[.agg #[.string x.name, .int .i64 x.b.d0.c, .int .i64 x.b.d0.scale, .int .i64 x.b.d1.c, .int .i64 x.b.d1.scale, .int .i64 x.b.d2.c, .int .i64 x.b.d2.scale, .int .i64 x.c.d0.c, .int .i64 x.c.d0.scale, .int .i64 x.c.d1.c, .int .i64 x.c.d1.scale, .int .i64 x.c.d2.c, .int .i64 x.c.d2.scale]] [] (fun v N => ∃ g : Nat, v = .slice (some ⟨g, 0, none⟩) 6 6 ∧ N = [⟨g, numC x, 26, false⟩]) := by
 refine gives_fin Tryz.func82 rfl rfl rfl rfl (aQ (aL (ao 1 rfl rfl (st_box (v := .agg #[.string x.name, .int .i64 x.b.d0.c, .int .i64 x.b.d0.scale, .int .i64 x.b.d1.c, .int .i64 x.b.d1.scale, .int .i64 x.b.d2.c, .int .i64 x.b.d2.scale, .int .i64 x.c.d0.c, .int .i64 x.c.d0.scale, .int .i64 x.c.d1.c, .int .i64 x.c.d1.scale, .int .i64 x.c.d2.c, .int .i64 x.c.d2.scale]) (cs := [.string x.name, .int .i64 x.b.d0.c, .int .i64 x.b.d0.scale, .int .i64 x.b.d1.c, .int .i64 x.b.d1.scale, .int .i64 x.b.d2.c, .int .i64 x.b.d2.scale, .int .i64 x.c.d0.c, .int .i64 x.c.d0.scale, .int .i64 x.c.d1.c, .int .i64 x.c.d1.scale, .int .i64 x.c.d2.c, .int .i64 x.c.d2.scale]) rfl rfl rfl fun g0 => ?_))))
 refine aA 2 (.slice none 0 0) rfl rfl (aN (aQ (aL (aF 3 fa29_1 rfl rfl (ao 4 rfl rfl (st_ia (v := .pointer (some ⟨g0, 1, none⟩)) rfl rfl rfl (ia27_0 _ _) (aG 5 [.int .i64 x.b.d0.c, .int .i64 x.b.d0.scale] agg26 0 rfl rfl rfl rfl rfl (aF 6 fa29_2 rfl rfl (ao 7 rfl rfl (st_ia (v := .pointer (some ⟨g0, 7, none⟩)) rfl rfl rfl (ia27_0 _ _) (aG 8 [.int .i64 x.c.d0.c, .int .i64 x.c.d0.scale] agg26 0 rfl rfl rfl rfl rfl (aF 9 fa29_1 rfl rfl (ao 10 rfl rfl (st_ia (v := .pointer (some ⟨g0, 3, none⟩)) rfl rfl rfl (ia27_1 _ _) (aG 11 [.int .i64 x.b.d1.c, .int .i64 x.b.d1.scale] agg26 0 rfl rfl rfl rfl rfl (aF 12 fa29_2 rfl rfl ?_))))))))))))))))
 refine ao 13 rfl rfl (st_ia (v := .pointer (some ⟨g0, 9, none⟩)) rfl rfl rfl (ia27_1 _ _) (aG 14 [.int .i64 x.c.d1.c, .int .i64 x.c.d1.scale] agg26 0 rfl rfl rfl rfl rfl (aF 15 fa29_1 rfl rfl (ao 16 rfl rfl (st_ia (v := .pointer (some ⟨g0, 5, none⟩)) rfl rfl rfl (ia27_2 _ _) (aG 17 [.int .i64 x.b.d2.c, .int .i64 x.b.d2.scale] agg26 0 rfl rfl rfl rfl rfl (aF 18 fa29_2 rfl rfl (ao 19 rfl rfl (st_ia (v := .pointer (some ⟨g0, 11, none⟩)) rfl rfl rfl (ia27_2 _ _) (aG 20 [.int .i64 x.c.d2.c, .int .i64 x.c.d2.scale] agg26 0 rfl rfl rfl rfl rfl ?_))))))))))
 refine ao 21 rfl rfl (st_bs (us := [(0, .agg #[.int .i64 x.b.d0.c, .int .i64 x.b.d0.scale]), (1, .agg #[.int .i64 x.c.d0.c, .int .i64 x.c.d0.scale]), (2, .agg #[.int .i64 x.b.d1.c, .int .i64 x.b.d1.scale]), (3, .agg #[.int .i64 x.c.d1.c, .int .i64 x.c.d1.scale]), (4, .agg #[.int .i64 x.b.d2.c, .int .i64 x.b.d2.scale]), (5, .agg #[.int .i64 x.c.d2.c, .int .i64 x.c.d2.scale])]) (cs := [.int .i64 x.b.d0.c, .int .i64 x.b.d0.scale, .int .i64 x.c.d0.c, .int .i64 x.c.d0.scale, .int .i64 x.b.d1.c, .int .i64 x.b.d1.scale, .int .i64 x.c.d1.c, .int .i64 x.c.d1.scale, .int .i64 x.b.d2.c, .int .i64 x.b.d2.scale, .int .i64 x.c.d2.c, .int .i64 x.c.d2.scale]) rfl rfl (bs94_6_0a_1a_2a_3a_4a_5a _ _ _ _ _ _ _ _ _ _ _ _) fun g1 => ?_)
 refine aA 2 (.slice (some ⟨g1, 0, none⟩) 6 6) rfl rfl (aN (ac_ret ?_))
 exact fing_ret (N := [⟨g1, [.int .i64 x.b.d0.c, .int .i64 x.b.d0.scale, .int .i64 x.c.d0.c, .int .i64 x.c.d0.scale, .int .i64 x.b.d1.c, .int .i64 x.b.d1.scale, .int .i64 x.c.d1.c, .int .i64 x.c.d1.scale, .int .i64 x.b.d2.c, .int .i64 x.b.d2.scale, .int .i64 x.c.d2.c, .int .i64 x.c.d2.scale], 26, false⟩]) ⟨g1, rfl, rfl⟩ (List.Sublist.cons_cons _ (List.nil_sublist _)) rfl (res_tmp rfl rfl)
end Go.Proofs.YtalffjplbhelcaaGreatDoor
namespace Go.Proofs.YtalffjplbhelcaaGreatDoor
open Go.RowKit
attribute [local irreducible] AC AR DWalk
def numIn (n : Int) : Bool := (bif decide (n ≥ (-1073741824)) then decide (n ≤ 1073741824) else false)
set_option maxRecDepth 100000 in
theorem c_numIn (n : Int) : Gets Tryz.prog 65 #[.int .i64 n] ((fun (r : Bool) => (.bool r : Value)) (numIn n)) := by
 refine gets_fin Tryz.func65 rfl rfl rfl (aQ (aL (aA 2 (.bool false) rfl rfl (aN (aQ (aL (aM 3 (.int .i64 n) rfl rfl (aB 4 (.bool (decide (n ≥ (-1073741824)))) rfl rfl rfl (bi_geq rfl) (aM 5 (.bool (decide (n ≥ (-1073741824)))) rfl rfl ?_)))))))))
 refine bool_split (decide (n ≥ (-1073741824))) (fun h1 => ?_) (fun h1 => ?_)
 ·refine ar_gd (d := (some 6)) (by show ((decide (n ≥ (-1073741824))) == true) = true; rw [h1]; rfl) rfl (st_move (v := .int .i64 n) rfl rfl (ar_gd (d := (some 7)) (by show ((decide (n ≥ (-1073741824))) == true) = true; rw [h1]; rfl) rfl (st_bi (r := .bool (decide (n ≤ 1073741824))) rfl rfl rfl (bi_leq rfl) (ao 8 rfl rfl (st_pkt' (b := decide (n ≥ (-1073741824))) (v := .bool (decide (n ≤ 1073741824))) h1 rfl rfl rfl (aA 2 (.bool (decide (n ≤ 1073741824))) rfl rfl (aN (ac_ret (fin_eq (v := .bool (decide (n ≤ 1073741824))) (by show _ = (fun (r : Bool) => (.bool r : Value)) (numIn n); rw [numIn, h1] <;> rfl) (fin_ret (res_tmp rfl rfl)))))))))))
 ·refine aK 6 (by show ((decide (n ≥ (-1073741824))) == true) = false; rw [h1]; rfl) rfl (aK 7 (by show ((decide (n ≥ (-1073741824))) == true) = false; rw [h1]; rfl) rfl (ao 8 rfl rfl (st_pkf' (b := decide (n ≥ (-1073741824))) (v := .bool false) h1 rfl rfl rfl (aA 2 (.bool false) rfl rfl (aN (ac_ret (fin_eq (v := .bool false) (by show _ = (fun (r : Bool) => (.bool r : Value)) (numIn n); rw [numIn, h1] <;> rfl) (fin_ret (res_tmp rfl rfl)))))))))
def numFloor_e0 (a : Int) (b : Int) : Int := (bif (decide (a < 0)) != (decide (b < 0)) then (w64 ((w64 (Int.tdiv a b)) - 1)) else (w64 (Int.tdiv a b)))
def numFloor (a : Int) (b : Int) : Int := (bif b == 0 then 0 else (bif (Int.tmod a b) != 0 then (numFloor_e0 a b) else w64 (Int.tdiv a b)))
set_option maxRecDepth 100000 in
theorem c_numFloor (a : Int) (b : Int) : Gets Tryz.prog 77 #[.int .i64 a, .int .i64 b] ((fun (r : Int) => (.int .i64 r : Value)) (numFloor a b)) := by
 refine gets_fin Tryz.func77 rfl rfl rfl (aQ (aL (aA 4 (.int .i64 0) rfl rfl (aN (aQ (aQ (aL (aM 6 (.int .i64 b) rfl rfl (aB 7 (.bool (b == 0)) rfl rfl rfl (bi_eql rfl) (aN ?_))))))))))
 refine bool_split (b == 0) (fun h1 => ?_) (fun h1 => ?_)
 ·refine ac_then' (b := b == 0) h1 rfl (aQ (aL (aA 4 (.int .i64 0) rfl rfl (aN (ac_ret (fin_eq (v := .int .i64 0) (by show _ = (fun (r : Int) => (.int .i64 r : Value)) (numFloor a b); rw [numFloor, h1] <;> rfl) (fin_ret (res_tmp rfl rfl))))))))
 ·refine ac_else' (b := b == 0) h1 rfl (ac_skip (aQ (aL (aM 8 (.int .i64 a) rfl rfl (aM 9 (.int .i64 b) rfl rfl (aB 10 (.int .i64 (w64 (Int.tdiv a b))) rfl rfl rfl (bi_quo (ne_of_beq0 h1) rfl) (aA 5 (.int .i64 (w64 (Int.tdiv a b))) rfl rfl (aN (aQ (aQ (aL (aM 11 (.int .i64 a) rfl rfl (aM 12 (.int .i64 b) rfl rfl (aB 13 (.int .i64 (Int.tmod a b)) rfl rfl rfl (bi_rem (ne_of_beq0 h1) rfl) (aB 14 (.bool ((Int.tmod a b) != 0)) rfl rfl rfl (bi_neq rfl) (aM 15 (.bool ((Int.tmod a b) != 0)) rfl rfl ?_))))))))))))))))
  refine bool_split ((Int.tmod a b) != 0) (fun h2 => ?_) (fun h2 => ?_)
  ·refine ar_gd (d := (some 16)) (by show (((Int.tmod a b) != 0) == true) = true; rw [h2]; rfl) rfl (st_move (v := .int .i64 a) rfl rfl (ar_gd (d := (some 17)) (by show (((Int.tmod a b) != 0) == true) = true; rw [h2]; rfl) rfl (st_bi (r := .bool (decide (a < 0))) rfl rfl rfl (bi_lss rfl) (ar_gd (d := (some 18)) (by show (((Int.tmod a b) != 0) == true) = true; rw [h2]; rfl) rfl (st_move (v := .int .i64 b) rfl rfl (ar_gd (d := (some 19)) (by show (((Int.tmod a b) != 0) == true) = true; rw [h2]; rfl) rfl (st_bi (r := .bool (decide (b < 0))) rfl rfl rfl (bi_lss rfl) ?_)))))))
   refine ar_gd (d := (some 20)) (by show (((Int.tmod a b) != 0) == true) = true; rw [h2]; rfl) rfl (st_bi (r := .bool ((decide (a < 0)) != (decide (b < 0)))) rfl rfl rfl (bb_neq Tryz.underlying4 rfl) (ao 21 rfl rfl (st_pkt' (b := (Int.tmod a b) != 0) (v := .bool ((decide (a < 0)) != (decide (b < 0)))) h2 rfl rfl rfl (aN ?_))))
   refine ac_mergeE (fun E9 => (((Env.put E9 (some 22) (.int .i64 (w64 (Int.tdiv a b)))).put (some 23) (.int .i64 (w64 ((w64 (Int.tdiv a b)) - 1)))).put (some 5) (.int .i64 (w64 ((w64 (Int.tdiv a b)) - 1))))) (fun E9 => (((Env.put E9 (some 22) (bif (decide (a < 0)) != (decide (b < 0)) then (.int .i64 (w64 (Int.tdiv a b)) : Value) else E9 22)).put (some 23) (bif (decide (a < 0)) != (decide (b < 0)) then (.int .i64 (w64 ((w64 (Int.tdiv a b)) - 1)) : Value) else E9 23)).put (some 5) (.int .i64 (numFloor_e0 a b)))) (b := (decide (a < 0)) != (decide (b < 0))) rfl (fun hm => ?_) (fun hm => ?_) (fun hm => ?_) ?_
   ·refine aL (aM 22 (.int .i64 (w64 (Int.tdiv a b))) rfl rfl (aB 23 (.int .i64 (w64 ((w64 (Int.tdiv a b)) - 1))) rfl rfl rfl (bi_sub rfl) (aA 5 (.int .i64 (w64 ((w64 (Int.tdiv a b)) - 1))) rfl rfl (aN ?_))))
    exact ⟨rfl, rfl, rfl⟩
   ·unfold numFloor_e0; rw [hm]; rfl
   ·unfold numFloor_e0; rw [hm]; exact ((put_self rfl).trans ((put_self rfl).trans (put_self rfl)))
   refine aQ (aL (aM 24 (.int .i64 (numFloor_e0 a b)) rfl rfl (aA 4 (.int .i64 (numFloor_e0 a b)) rfl rfl (aN (ac_ret (fin_eq (v := .int .i64 (numFloor_e0 a b)) (by show _ = (fun (r : Int) => (.int .i64 r : Value)) (numFloor a b); rw [numFloor, h2, h1] <;> rfl) (fin_ret (res_tmp rfl rfl))))))))
  ·refine aK 16 (by show (((Int.tmod a b) != 0) == true) = false; rw [h2]; rfl) rfl (aK 17 (by show (((Int.tmod a b) != 0) == true) = false; rw [h2]; rfl) rfl (aK 18 (by show (((Int.tmod a b) != 0) == true) = false; rw [h2]; rfl) rfl (aK 19 (by show (((Int.tmod a b) != 0) == true) = false; rw [h2]; rfl) rfl (aK 20 (by show (((Int.tmod a b) != 0) == true) = false; rw [h2]; rfl) rfl (ao 21 rfl rfl (st_pkf' (b := (Int.tmod a b) != 0) (v := .bool false) h2 rfl rfl rfl (aN (ac_else rfl (ac_skip (aQ (aL (aM 24 (.int .i64 (w64 (Int.tdiv a b))) rfl rfl (aA 4 (.int .i64 (w64 (Int.tdiv a b))) rfl rfl (aN (ac_ret ?_)))))))))))))))
   exact fin_eq (v := .int .i64 (w64 (Int.tdiv a b))) (by show _ = (fun (r : Int) => (.int .i64 r : Value)) (numFloor a b); rw [numFloor, h2, h1] <;> rfl) (fin_ret (res_tmp rfl rfl))
end Go.Proofs.YtalffjplbhelcaaGreatDoor
namespace Go.Proofs.YtalffjplbhelcaaGreatDoor
open Go.RowKit
attribute [local irreducible] AC AR DWalk
def decRight (d : Dec) : Bool := (bif decide (d.c ≥ (-100000000000)) then (bif decide (d.c ≤ 100000000000) then (bif decide (d.scale ≥ 0) then (bif decide (d.scale ≤ 6) then (bif d.scale == 0 then true else (Int.tmod d.c 10) != 0) else false) else false) else false) else false)
set_option maxRecDepth 100000 in
theorem c_decRight (d : Dec) : Gets Tryz.prog 31 #[.agg #[.int .i64 d.c, .int .i64 d.scale]] ((fun (r : Bool) => (.bool r : Value)) (decRight d)) := by
 refine gets_fin Tryz.func31 rfl rfl rfl (aQ (aL (ao 1 rfl rfl (st_box (v := .agg #[.int .i64 d.c, .int .i64 d.scale]) (cs := [.int .i64 d.c, .int .i64 d.scale]) rfl rfl rfl fun g0 => (aA 2 (.bool false) rfl rfl (aN (aQ (aL (aF 3 fa26_0 rfl rfl (aD 4 (.int .i64 d.c) cell3 0 rfl rfl rfl rfl (aB 5 (.bool (decide (d.c ≥ (-100000000000)))) rfl rfl rfl (bi_geq rfl) (aM 6 (.bool (decide (d.c ≥ (-100000000000)))) rfl rfl ?_))))))))))))
 refine bool_split (decide (d.c ≥ (-100000000000))) (fun h1 => ?_) (fun h1 => ?_)
 ·refine ar_gd (d := (some 7)) (by show ((decide (d.c ≥ (-100000000000))) == true) = true; rw [h1]; rfl) rfl (st_fa rfl fa26_0 rfl (ar_gd (d := (some 8)) (by show ((decide (d.c ≥ (-100000000000))) == true) = true; rw [h1]; rfl) rfl (st_ldc (v := .int .i64 d.c) cell3 0 rfl rfl rfl rfl rfl (ar_gd (d := (some 9)) (by show ((decide (d.c ≥ (-100000000000))) == true) = true; rw [h1]; rfl) rfl (st_bi (r := .bool (decide (d.c ≤ 100000000000))) rfl rfl rfl (bi_leq rfl) (ao 10 rfl rfl (st_pkt' (b := decide (d.c ≥ (-100000000000))) (v := .bool (decide (d.c ≤ 100000000000))) h1 rfl rfl rfl (aM 11 (.bool (decide (d.c ≤ 100000000000))) rfl rfl ?_))))))))
  refine bool_split (decide (d.c ≤ 100000000000)) (fun h2 => ?_) (fun h2 => ?_)
  ·refine ar_gd (d := (some 12)) (by show ((decide (d.c ≤ 100000000000)) == true) = true; rw [h2]; rfl) rfl (st_fa rfl fa26_1 rfl (ar_gd (d := (some 13)) (by show ((decide (d.c ≤ 100000000000)) == true) = true; rw [h2]; rfl) rfl (st_ldc (v := .int .i64 d.scale) cell3 0 rfl rfl rfl rfl rfl (ar_gd (d := (some 14)) (by show ((decide (d.c ≤ 100000000000)) == true) = true; rw [h2]; rfl) rfl (st_bi (r := .bool (decide (d.scale ≥ 0))) rfl rfl rfl (bi_geq rfl) (ao 15 rfl rfl (st_pkt' (b := decide (d.c ≤ 100000000000)) (v := .bool (decide (d.scale ≥ 0))) h2 rfl rfl rfl (aM 16 (.bool (decide (d.scale ≥ 0))) rfl rfl ?_))))))))
   refine bool_split (decide (d.scale ≥ 0)) (fun h3 => ?_) (fun h3 => ?_)
   ·refine ar_gd (d := (some 17)) (by show ((decide (d.scale ≥ 0)) == true) = true; rw [h3]; rfl) rfl (st_fa rfl fa26_1 rfl (ar_gd (d := (some 18)) (by show ((decide (d.scale ≥ 0)) == true) = true; rw [h3]; rfl) rfl (st_ldc (v := .int .i64 d.scale) cell3 0 rfl rfl rfl rfl rfl (ar_gd (d := (some 19)) (by show ((decide (d.scale ≥ 0)) == true) = true; rw [h3]; rfl) rfl (st_bi (r := .bool (decide (d.scale ≤ 6))) rfl rfl rfl (bi_leq rfl) (ao 20 rfl rfl (st_pkt' (b := decide (d.scale ≥ 0)) (v := .bool (decide (d.scale ≤ 6))) h3 rfl rfl rfl (aM 21 (.bool (decide (d.scale ≤ 6))) rfl rfl ?_))))))))
    refine bool_split (decide (d.scale ≤ 6)) (fun h4 => ?_) (fun h4 => ?_)
    ·refine ar_gd (d := (some 22)) (by show ((decide (d.scale ≤ 6)) == true) = true; rw [h4]; rfl) rfl (st_fa rfl fa26_1 rfl (ar_gd (d := (some 23)) (by show ((decide (d.scale ≤ 6)) == true) = true; rw [h4]; rfl) rfl (st_ldc (v := .int .i64 d.scale) cell3 0 rfl rfl rfl rfl rfl (ar_gd (d := (some 24)) (by show ((decide (d.scale ≤ 6)) == true) = true; rw [h4]; rfl) rfl (st_bi (r := .bool (d.scale == 0)) rfl rfl rfl (bi_eql rfl) (ar_gd (d := (some 25)) (by show ((decide (d.scale ≤ 6)) == true) = true; rw [h4]; rfl) rfl (st_move (v := .bool (d.scale == 0)) rfl rfl ?_)))))))
     refine bool_split (d.scale == 0) (fun h5 => ?_) (fun h5 => ?_)
     ·refine aK 26 (by show ((d.scale == 0) == false) = false; rw [h5]; rfl) rfl (aK 27 (by show ((d.scale == 0) == false) = false; rw [h5]; rfl) rfl (aK 28 (by show ((d.scale == 0) == false) = false; rw [h5]; rfl) rfl (aK 29 (by show ((d.scale == 0) == false) = false; rw [h5]; rfl) rfl (ar_gd (d := (some 30)) (by show ((decide (d.scale ≤ 6)) == true) = true; rw [h4]; rfl) rfl (st_pkt' (b := d.scale == 0) (v := .bool true) h5 rfl rfl rfl (ao 31 rfl rfl (st_pkt' (b := decide (d.scale ≤ 6)) (v := .bool true) h4 rfl rfl rfl (aA 2 (.bool true) rfl rfl (aN (ac_ret ?_))))))))))
      exact fin_eq (v := .bool true) (by show _ = (fun (r : Bool) => (.bool r : Value)) (decRight d); rw [decRight, h5, h4, h3, h2, h1] <;> rfl) (fin_ret (res_tmp rfl rfl))
     ·refine ar_gd (d := (some 26)) (by show ((d.scale == 0) == false) = true; rw [h5]; rfl) rfl (st_fa rfl fa26_0 rfl (ar_gd (d := (some 27)) (by show ((d.scale == 0) == false) = true; rw [h5]; rfl) rfl (st_ldc (v := .int .i64 d.c) cell3 0 rfl rfl rfl rfl rfl (ar_gd (d := (some 28)) (by show ((d.scale == 0) == false) = true; rw [h5]; rfl) rfl (st_bi (r := .int .i64 (Int.tmod d.c 10)) rfl rfl rfl (bi_rem (by decide) rfl) (ar_gd (d := (some 29)) (by show ((d.scale == 0) == false) = true; rw [h5]; rfl) rfl (st_bi (r := .bool ((Int.tmod d.c 10) != 0)) rfl rfl rfl (bi_neq rfl) ?_)))))))
      refine ar_gd (d := (some 30)) (by show ((decide (d.scale ≤ 6)) == true) = true; rw [h4]; rfl) rfl (st_pkf' (b := d.scale == 0) (v := .bool ((Int.tmod d.c 10) != 0)) h5 rfl rfl rfl (ao 31 rfl rfl (st_pkt' (b := decide (d.scale ≤ 6)) (v := .bool ((Int.tmod d.c 10) != 0)) h4 rfl rfl rfl (aA 2 (.bool ((Int.tmod d.c 10) != 0)) rfl rfl (aN (ac_ret (fin_eq (v := .bool ((Int.tmod d.c 10) != 0)) (by show _ = (fun (r : Bool) => (.bool r : Value)) (decRight d); rw [decRight, h5, h4, h3, h2, h1] <;> rfl) (fin_ret (res_tmp rfl rfl)))))))))
    ·refine aK 22 (by show ((decide (d.scale ≤ 6)) == true) = false; rw [h4]; rfl) rfl (aK 23 (by show ((decide (d.scale ≤ 6)) == true) = false; rw [h4]; rfl) rfl (aK 24 (by show ((decide (d.scale ≤ 6)) == true) = false; rw [h4]; rfl) rfl (aK 25 (by show ((decide (d.scale ≤ 6)) == true) = false; rw [h4]; rfl) rfl (aK 26 rfl rfl (aK 27 rfl rfl (aK 28 rfl rfl (aK 29 rfl rfl (aK 30 (by show ((decide (d.scale ≤ 6)) == true) = false; rw [h4]; rfl) rfl (ao 31 rfl rfl (st_pkf' (b := decide (d.scale ≤ 6)) (v := .bool false) h4 rfl rfl rfl (aA 2 (.bool false) rfl rfl (aN (ac_ret ?_)))))))))))))
     exact fin_eq (v := .bool false) (by show _ = (fun (r : Bool) => (.bool r : Value)) (decRight d); rw [decRight, h4, h3, h2, h1] <;> rfl) (fin_ret (res_tmp rfl rfl))
   ·refine aK 17 (by show ((decide (d.scale ≥ 0)) == true) = false; rw [h3]; rfl) rfl (aK 18 (by show ((decide (d.scale ≥ 0)) == true) = false; rw [h3]; rfl) rfl (aK 19 (by show ((decide (d.scale ≥ 0)) == true) = false; rw [h3]; rfl) rfl (ao 20 rfl rfl (st_pkf' (b := decide (d.scale ≥ 0)) (v := .bool false) h3 rfl rfl rfl (aM 21 (.bool false) rfl rfl (aK 22 rfl rfl (aK 23 rfl rfl (aK 24 rfl rfl (aK 25 rfl rfl (aK 26 rfl rfl (aK 27 rfl rfl (aK 28 rfl rfl (aK 29 rfl rfl (aK 30 rfl rfl (ao 31 rfl rfl (st_pkf (v := .bool false) rfl rfl rfl (aA 2 (.bool false) rfl rfl (aN (ac_ret ?_)))))))))))))))))))
    exact fin_eq (v := .bool false) (by show _ = (fun (r : Bool) => (.bool r : Value)) (decRight d); rw [decRight, h3, h2, h1] <;> rfl) (fin_ret (res_tmp rfl rfl))
  ·refine aK 12 (by show ((decide (d.c ≤ 100000000000)) == true) = false; rw [h2]; rfl) rfl (aK 13 (by show ((decide (d.c ≤ 100000000000)) == true) = false; rw [h2]; rfl) rfl (aK 14 (by show ((decide (d.c ≤ 100000000000)) == true) = false; rw [h2]; rfl) rfl (ao 15 rfl rfl (st_pkf' (b := decide (d.c ≤ 100000000000)) (v := .bool false) h2 rfl rfl rfl (aM 16 (.bool false) rfl rfl (aK 17 rfl rfl (aK 18 rfl rfl (aK 19 rfl rfl (ao 20 rfl rfl (st_pkf (v := .bool false) rfl rfl rfl (aM 21 (.bool false) rfl rfl (aK 22 rfl rfl (aK 23 rfl rfl (aK 24 rfl rfl (aK 25 rfl rfl (aK 26 rfl rfl (aK 27 rfl rfl (aK 28 rfl rfl (aK 29 rfl rfl (aK 30 rfl rfl ?_))))))))))))))))))))
   refine ao 31 rfl rfl (st_pkf (v := .bool false) rfl rfl rfl (aA 2 (.bool false) rfl rfl (aN (ac_ret (fin_eq (v := .bool false) (by show _ = (fun (r : Bool) => (.bool r : Value)) (decRight d); rw [decRight, h2, h1] <;> rfl) (fin_ret (res_tmp rfl rfl)))))))
 ·refine aK 7 (by show ((decide (d.c ≥ (-100000000000))) == true) = false; rw [h1]; rfl) rfl (aK 8 (by show ((decide (d.c ≥ (-100000000000))) == true) = false; rw [h1]; rfl) rfl (aK 9 (by show ((decide (d.c ≥ (-100000000000))) == true) = false; rw [h1]; rfl) rfl (ao 10 rfl rfl (st_pkf' (b := decide (d.c ≥ (-100000000000))) (v := .bool false) h1 rfl rfl rfl (aM 11 (.bool false) rfl rfl (aK 12 rfl rfl (aK 13 rfl rfl (aK 14 rfl rfl (ao 15 rfl rfl (st_pkf (v := .bool false) rfl rfl rfl (aM 16 (.bool false) rfl rfl (aK 17 rfl rfl (aK 18 rfl rfl (aK 19 rfl rfl (ao 20 rfl rfl (st_pkf (v := .bool false) rfl rfl rfl (aM 21 (.bool false) rfl rfl (aK 22 rfl rfl ?_))))))))))))))))))
  refine aK 23 rfl rfl (aK 24 rfl rfl (aK 25 rfl rfl (aK 26 rfl rfl (aK 27 rfl rfl (aK 28 rfl rfl (aK 29 rfl rfl (aK 30 rfl rfl (ao 31 rfl rfl (st_pkf (v := .bool false) rfl rfl rfl (aA 2 (.bool false) rfl rfl (aN (ac_ret (fin_eq (v := .bool false) (by show _ = (fun (r : Bool) => (.bool r : Value)) (decRight d); rw [decRight, h1] <;> rfl) (fin_ret (res_tmp rfl rfl)))))))))))))))
def decPow0  : Int := 1
set_option maxRecDepth 100000 in
theorem c_decPow0  : Gets Tryz.prog 76 #[.int .i64 0] ((fun (r : Int) => (.int .i64 r : Value)) decPow0) := by
 refine gets_fin Tryz.func76 rfl rfl rfl (aQ (aL (aA 2 (.int .i64 0) rfl rfl (aN (aQ (aL (aA 3 (.int .i64 1) rfl rfl (aN (aQ (aQ (aL (aM 4 (.int .i64 0) rfl rfl (aM 5 (.int .i64 0) rfl rfl (aN (ac_block ?_)))))))))))))))
 refine ac_rounds 61 (ar_round (aQ (aL (aB 6 (.bool false) rfl rfl rfl (bi_lss (by decide)) (aN (aQ (ac_else rfl (ac_exit (aQ (aL (aM 10 (.int .i64 1) rfl rfl (aA 2 (.int .i64 1) rfl rfl (aN (ac_ret (fin_eq (v := .int .i64 1) rfl (fin_ret (res_tmp rfl rfl)))))))))))))))))
def decPow1  : Int := 10
set_option maxRecDepth 100000 in
theorem c_decPow1  : Gets Tryz.prog 76 #[.int .i64 1] ((fun (r : Int) => (.int .i64 r : Value)) decPow1) := by
 refine gets_fin Tryz.func76 rfl rfl rfl (aQ (aL (aA 2 (.int .i64 0) rfl rfl (aN (aQ (aL (aA 3 (.int .i64 1) rfl rfl (aN (aQ (aQ (aL (aM 4 (.int .i64 1) rfl rfl (aM 5 (.int .i64 0) rfl rfl (aN (ac_block ?_)))))))))))))))
 refine ac_rounds 61 (ar_round (aQ (aL (aB 6 (.bool true) rfl rfl rfl (bi_lss (by decide)) (aN (aQ (ac_then rfl (ac_skip (aQ (ac_block (aL (aM 7 (.int .i64 1) rfl rfl (aB 8 (.int .i64 10) rfl rfl rfl (bi_mul (by decide)) (aA 3 (.int .i64 10) rfl rfl (aN (aL (aB 9 (.int .i64 1) rfl rfl rfl (bi_add (by decide)) (aM 5 (.int .i64 1) rfl rfl (aN (ar_round (aQ (aL (aB 6 (.bool false) rfl rfl rfl (bi_lss (by decide)) (aN (aQ (ac_else rfl (ac_exit (aQ (aL (aM 10 (.int .i64 10) rfl rfl (aA 2 (.int .i64 10) rfl rfl (aN (ac_ret (fin_eq (v := .int .i64 10) rfl (fin_ret (res_tmp rfl rfl))))))))))))))))))))))))))))))))))))
def decPow2  : Int := 100
set_option maxRecDepth 100000 in
theorem c_decPow2  : Gets Tryz.prog 76 #[.int .i64 2] ((fun (r : Int) => (.int .i64 r : Value)) decPow2) := by
 refine gets_fin Tryz.func76 rfl rfl rfl (aQ (aL (aA 2 (.int .i64 0) rfl rfl (aN (aQ (aL (aA 3 (.int .i64 1) rfl rfl (aN (aQ (aQ (aL (aM 4 (.int .i64 2) rfl rfl (aM 5 (.int .i64 0) rfl rfl (aN (ac_block ?_)))))))))))))))
 refine ac_rounds 61 (ar_round (aQ (aL (aB 6 (.bool true) rfl rfl rfl (bi_lss (by decide)) (aN (aQ (ac_then rfl (ac_skip (aQ (ac_block (aL (aM 7 (.int .i64 1) rfl rfl (aB 8 (.int .i64 10) rfl rfl rfl (bi_mul (by decide)) (aA 3 (.int .i64 10) rfl rfl (aN (aL (aB 9 (.int .i64 1) rfl rfl rfl (bi_add (by decide)) (aM 5 (.int .i64 1) rfl rfl (aN (ar_round (aQ (aL (aB 6 (.bool true) rfl rfl rfl (bi_lss (by decide)) (aN (aQ (ac_then rfl (ac_skip (aQ (ac_block (aL (aM 7 (.int .i64 10) rfl rfl (aB 8 (.int .i64 100) rfl rfl rfl (bi_mul (by decide)) (aA 3 (.int .i64 100) rfl rfl (aN (aL (aB 9 (.int .i64 2) rfl rfl rfl (bi_add (by decide)) ?_))))))))))))))))))))))))))))))))))))
 refine aM 5 (.int .i64 2) rfl rfl (aN (ar_round (aQ (aL (aB 6 (.bool false) rfl rfl rfl (bi_lss (by decide)) (aN (aQ (ac_else rfl (ac_exit (aQ (aL (aM 10 (.int .i64 100) rfl rfl (aA 2 (.int .i64 100) rfl rfl (aN (ac_ret (fin_eq (v := .int .i64 100) rfl (fin_ret (res_tmp rfl rfl))))))))))))))))))
def decPow3  : Int := 1000
set_option maxRecDepth 100000 in
theorem c_decPow3  : Gets Tryz.prog 76 #[.int .i64 3] ((fun (r : Int) => (.int .i64 r : Value)) decPow3) := by
 refine gets_fin Tryz.func76 rfl rfl rfl (aQ (aL (aA 2 (.int .i64 0) rfl rfl (aN (aQ (aL (aA 3 (.int .i64 1) rfl rfl (aN (aQ (aQ (aL (aM 4 (.int .i64 3) rfl rfl (aM 5 (.int .i64 0) rfl rfl (aN (ac_block ?_)))))))))))))))
 refine ac_rounds 61 (ar_round (aQ (aL (aB 6 (.bool true) rfl rfl rfl (bi_lss (by decide)) (aN (aQ (ac_then rfl (ac_skip (aQ (ac_block (aL (aM 7 (.int .i64 1) rfl rfl (aB 8 (.int .i64 10) rfl rfl rfl (bi_mul (by decide)) (aA 3 (.int .i64 10) rfl rfl (aN (aL (aB 9 (.int .i64 1) rfl rfl rfl (bi_add (by decide)) (aM 5 (.int .i64 1) rfl rfl (aN (ar_round (aQ (aL (aB 6 (.bool true) rfl rfl rfl (bi_lss (by decide)) (aN (aQ (ac_then rfl (ac_skip (aQ (ac_block (aL (aM 7 (.int .i64 10) rfl rfl (aB 8 (.int .i64 100) rfl rfl rfl (bi_mul (by decide)) (aA 3 (.int .i64 100) rfl rfl (aN (aL (aB 9 (.int .i64 2) rfl rfl rfl (bi_add (by decide)) ?_))))))))))))))))))))))))))))))))))))
 refine aM 5 (.int .i64 2) rfl rfl (aN (ar_round (aQ (aL (aB 6 (.bool true) rfl rfl rfl (bi_lss (by decide)) (aN (aQ (ac_then rfl (ac_skip (aQ (ac_block (aL (aM 7 (.int .i64 100) rfl rfl (aB 8 (.int .i64 1000) rfl rfl rfl (bi_mul (by decide)) (aA 3 (.int .i64 1000) rfl rfl (aN (aL (aB 9 (.int .i64 3) rfl rfl rfl (bi_add (by decide)) (aM 5 (.int .i64 3) rfl rfl (aN (ar_round (aQ (aL (aB 6 (.bool false) rfl rfl rfl (bi_lss (by decide)) (aN (aQ (ac_else rfl (ac_exit (aQ (aL (aM 10 (.int .i64 1000) rfl rfl (aA 2 (.int .i64 1000) rfl rfl (aN (ac_ret (fin_eq (v := .int .i64 1000) rfl (fin_ret (res_tmp rfl rfl)))))))))))))))))))))))))))))))))))))
def decPow4  : Int := 10000
set_option maxRecDepth 100000 in
theorem c_decPow4  : Gets Tryz.prog 76 #[.int .i64 4] ((fun (r : Int) => (.int .i64 r : Value)) decPow4) := by
 refine gets_fin Tryz.func76 rfl rfl rfl (aQ (aL (aA 2 (.int .i64 0) rfl rfl (aN (aQ (aL (aA 3 (.int .i64 1) rfl rfl (aN (aQ (aQ (aL (aM 4 (.int .i64 4) rfl rfl (aM 5 (.int .i64 0) rfl rfl (aN (ac_block ?_)))))))))))))))
 refine ac_rounds 61 (ar_round (aQ (aL (aB 6 (.bool true) rfl rfl rfl (bi_lss (by decide)) (aN (aQ (ac_then rfl (ac_skip (aQ (ac_block (aL (aM 7 (.int .i64 1) rfl rfl (aB 8 (.int .i64 10) rfl rfl rfl (bi_mul (by decide)) (aA 3 (.int .i64 10) rfl rfl (aN (aL (aB 9 (.int .i64 1) rfl rfl rfl (bi_add (by decide)) (aM 5 (.int .i64 1) rfl rfl (aN (ar_round (aQ (aL (aB 6 (.bool true) rfl rfl rfl (bi_lss (by decide)) (aN (aQ (ac_then rfl (ac_skip (aQ (ac_block (aL (aM 7 (.int .i64 10) rfl rfl (aB 8 (.int .i64 100) rfl rfl rfl (bi_mul (by decide)) (aA 3 (.int .i64 100) rfl rfl (aN (aL (aB 9 (.int .i64 2) rfl rfl rfl (bi_add (by decide)) ?_))))))))))))))))))))))))))))))))))))
 refine aM 5 (.int .i64 2) rfl rfl (aN (ar_round (aQ (aL (aB 6 (.bool true) rfl rfl rfl (bi_lss (by decide)) (aN (aQ (ac_then rfl (ac_skip (aQ (ac_block (aL (aM 7 (.int .i64 100) rfl rfl (aB 8 (.int .i64 1000) rfl rfl rfl (bi_mul (by decide)) (aA 3 (.int .i64 1000) rfl rfl (aN (aL (aB 9 (.int .i64 3) rfl rfl rfl (bi_add (by decide)) (aM 5 (.int .i64 3) rfl rfl (aN (ar_round (aQ (aL (aB 6 (.bool true) rfl rfl rfl (bi_lss (by decide)) (aN (aQ (ac_then rfl (ac_skip (aQ (ac_block (aL (aM 7 (.int .i64 1000) rfl rfl (aB 8 (.int .i64 10000) rfl rfl rfl (bi_mul (by decide)) (aA 3 (.int .i64 10000) rfl rfl (aN (aL ?_))))))))))))))))))))))))))))))))))))
 refine aB 9 (.int .i64 4) rfl rfl rfl (bi_add (by decide)) (aM 5 (.int .i64 4) rfl rfl (aN (ar_round (aQ (aL (aB 6 (.bool false) rfl rfl rfl (bi_lss (by decide)) (aN (aQ (ac_else rfl (ac_exit (aQ (aL (aM 10 (.int .i64 10000) rfl rfl (aA 2 (.int .i64 10000) rfl rfl (aN (ac_ret (fin_eq (v := .int .i64 10000) rfl (fin_ret (res_tmp rfl rfl)))))))))))))))))))
def decPow5  : Int := 100000
set_option maxRecDepth 100000 in
theorem c_decPow5  : Gets Tryz.prog 76 #[.int .i64 5] ((fun (r : Int) => (.int .i64 r : Value)) decPow5) := by
 refine gets_fin Tryz.func76 rfl rfl rfl (aQ (aL (aA 2 (.int .i64 0) rfl rfl (aN (aQ (aL (aA 3 (.int .i64 1) rfl rfl (aN (aQ (aQ (aL (aM 4 (.int .i64 5) rfl rfl (aM 5 (.int .i64 0) rfl rfl (aN (ac_block ?_)))))))))))))))
 refine ac_rounds 61 (ar_round (aQ (aL (aB 6 (.bool true) rfl rfl rfl (bi_lss (by decide)) (aN (aQ (ac_then rfl (ac_skip (aQ (ac_block (aL (aM 7 (.int .i64 1) rfl rfl (aB 8 (.int .i64 10) rfl rfl rfl (bi_mul (by decide)) (aA 3 (.int .i64 10) rfl rfl (aN (aL (aB 9 (.int .i64 1) rfl rfl rfl (bi_add (by decide)) (aM 5 (.int .i64 1) rfl rfl (aN (ar_round (aQ (aL (aB 6 (.bool true) rfl rfl rfl (bi_lss (by decide)) (aN (aQ (ac_then rfl (ac_skip (aQ (ac_block (aL (aM 7 (.int .i64 10) rfl rfl (aB 8 (.int .i64 100) rfl rfl rfl (bi_mul (by decide)) (aA 3 (.int .i64 100) rfl rfl (aN (aL (aB 9 (.int .i64 2) rfl rfl rfl (bi_add (by decide)) ?_))))))))))))))))))))))))))))))))))))
 refine aM 5 (.int .i64 2) rfl rfl (aN (ar_round (aQ (aL (aB 6 (.bool true) rfl rfl rfl (bi_lss (by decide)) (aN (aQ (ac_then rfl (ac_skip (aQ (ac_block (aL (aM 7 (.int .i64 100) rfl rfl (aB 8 (.int .i64 1000) rfl rfl rfl (bi_mul (by decide)) (aA 3 (.int .i64 1000) rfl rfl (aN (aL (aB 9 (.int .i64 3) rfl rfl rfl (bi_add (by decide)) (aM 5 (.int .i64 3) rfl rfl (aN (ar_round (aQ (aL (aB 6 (.bool true) rfl rfl rfl (bi_lss (by decide)) (aN (aQ (ac_then rfl (ac_skip (aQ (ac_block (aL (aM 7 (.int .i64 1000) rfl rfl (aB 8 (.int .i64 10000) rfl rfl rfl (bi_mul (by decide)) (aA 3 (.int .i64 10000) rfl rfl (aN (aL ?_))))))))))))))))))))))))))))))))))))
 refine aB 9 (.int .i64 4) rfl rfl rfl (bi_add (by decide)) (aM 5 (.int .i64 4) rfl rfl (aN (ar_round (aQ (aL (aB 6 (.bool true) rfl rfl rfl (bi_lss (by decide)) (aN (aQ (ac_then rfl (ac_skip (aQ (ac_block (aL (aM 7 (.int .i64 10000) rfl rfl (aB 8 (.int .i64 100000) rfl rfl rfl (bi_mul (by decide)) (aA 3 (.int .i64 100000) rfl rfl (aN (aL (aB 9 (.int .i64 5) rfl rfl rfl (bi_add (by decide)) (aM 5 (.int .i64 5) rfl rfl (aN (ar_round (aQ (aL (aB 6 (.bool false) rfl rfl rfl (bi_lss (by decide)) (aN (aQ (ac_else rfl (ac_exit (aQ (aL (aM 10 (.int .i64 100000) rfl rfl (aA 2 (.int .i64 100000) rfl rfl (aN (ac_ret ?_)))))))))))))))))))))))))))))))))))
 exact fin_eq (v := .int .i64 100000) rfl (fin_ret (res_tmp rfl rfl))
def decPow6  : Int := 1000000
set_option maxRecDepth 100000 in
theorem c_decPow6  : Gets Tryz.prog 76 #[.int .i64 6] ((fun (r : Int) => (.int .i64 r : Value)) decPow6) := by
 refine gets_fin Tryz.func76 rfl rfl rfl (aQ (aL (aA 2 (.int .i64 0) rfl rfl (aN (aQ (aL (aA 3 (.int .i64 1) rfl rfl (aN (aQ (aQ (aL (aM 4 (.int .i64 6) rfl rfl (aM 5 (.int .i64 0) rfl rfl (aN (ac_block ?_)))))))))))))))
 refine ac_rounds 61 (ar_round (aQ (aL (aB 6 (.bool true) rfl rfl rfl (bi_lss (by decide)) (aN (aQ (ac_then rfl (ac_skip (aQ (ac_block (aL (aM 7 (.int .i64 1) rfl rfl (aB 8 (.int .i64 10) rfl rfl rfl (bi_mul (by decide)) (aA 3 (.int .i64 10) rfl rfl (aN (aL (aB 9 (.int .i64 1) rfl rfl rfl (bi_add (by decide)) (aM 5 (.int .i64 1) rfl rfl (aN (ar_round (aQ (aL (aB 6 (.bool true) rfl rfl rfl (bi_lss (by decide)) (aN (aQ (ac_then rfl (ac_skip (aQ (ac_block (aL (aM 7 (.int .i64 10) rfl rfl (aB 8 (.int .i64 100) rfl rfl rfl (bi_mul (by decide)) (aA 3 (.int .i64 100) rfl rfl (aN (aL (aB 9 (.int .i64 2) rfl rfl rfl (bi_add (by decide)) ?_))))))))))))))))))))))))))))))))))))
 refine aM 5 (.int .i64 2) rfl rfl (aN (ar_round (aQ (aL (aB 6 (.bool true) rfl rfl rfl (bi_lss (by decide)) (aN (aQ (ac_then rfl (ac_skip (aQ (ac_block (aL (aM 7 (.int .i64 100) rfl rfl (aB 8 (.int .i64 1000) rfl rfl rfl (bi_mul (by decide)) (aA 3 (.int .i64 1000) rfl rfl (aN (aL (aB 9 (.int .i64 3) rfl rfl rfl (bi_add (by decide)) (aM 5 (.int .i64 3) rfl rfl (aN (ar_round (aQ (aL (aB 6 (.bool true) rfl rfl rfl (bi_lss (by decide)) (aN (aQ (ac_then rfl (ac_skip (aQ (ac_block (aL (aM 7 (.int .i64 1000) rfl rfl (aB 8 (.int .i64 10000) rfl rfl rfl (bi_mul (by decide)) (aA 3 (.int .i64 10000) rfl rfl (aN (aL ?_))))))))))))))))))))))))))))))))))))
 refine aB 9 (.int .i64 4) rfl rfl rfl (bi_add (by decide)) (aM 5 (.int .i64 4) rfl rfl (aN (ar_round (aQ (aL (aB 6 (.bool true) rfl rfl rfl (bi_lss (by decide)) (aN (aQ (ac_then rfl (ac_skip (aQ (ac_block (aL (aM 7 (.int .i64 10000) rfl rfl (aB 8 (.int .i64 100000) rfl rfl rfl (bi_mul (by decide)) (aA 3 (.int .i64 100000) rfl rfl (aN (aL (aB 9 (.int .i64 5) rfl rfl rfl (bi_add (by decide)) (aM 5 (.int .i64 5) rfl rfl (aN (ar_round (aQ (aL (aB 6 (.bool true) rfl rfl rfl (bi_lss (by decide)) (aN (aQ (ac_then rfl (ac_skip (aQ (ac_block (aL (aM 7 (.int .i64 100000) rfl rfl (aB 8 (.int .i64 1000000) rfl rfl rfl (bi_mul (by decide)) ?_))))))))))))))))))))))))))))))))))
 refine aA 3 (.int .i64 1000000) rfl rfl (aN (aL (aB 9 (.int .i64 6) rfl rfl rfl (bi_add (by decide)) (aM 5 (.int .i64 6) rfl rfl (aN (ar_round (aQ (aL (aB 6 (.bool false) rfl rfl rfl (bi_lss (by decide)) (aN (aQ (ac_else rfl (ac_exit (aQ (aL (aM 10 (.int .i64 1000000) rfl rfl (aA 2 (.int .i64 1000000) rfl rfl (aN (ac_ret (fin_eq (v := .int .i64 1000000) rfl (fin_ret (res_tmp rfl rfl))))))))))))))))))))))
end Go.Proofs.YtalffjplbhelcaaGreatDoor
namespace Go.Proofs.YtalffjplbhelcaaGreatDoor
def decPower (n : Int) : Int := 10 ^ n.toNat
theorem c_decPower (n : Int) (h : 0 ≤ n ∧ n ≤ 6) : Gets Tryz.prog 76 #[.int .i64 n] ((fun (r : Int) => (.int .i64 r : Value)) (decPower n)) := by
  rcases (by omega : n = 0 ∨ n = 1 ∨ n = 2 ∨ n = 3 ∨ n = 4 ∨ n = 5 ∨ n = 6) with rfl | rfl | rfl | rfl | rfl | rfl | rfl
  · exact c_decPow0
  · exact c_decPow1
  · exact c_decPow2
  · exact c_decPow3
  · exact c_decPow4
  · exact c_decPow5
  · exact c_decPow6
theorem pow_ok (d : Dec) (h : decRight d = true) : 0 ≤ d.scale ∧ d.scale ≤ 6 := by
  unfold decRight at h
  simp only [Bool.cond_eq_ite, Bool.ite_eq_true_distrib] at h
  simp at h
  omega
end Go.Proofs.YtalffjplbhelcaaGreatDoor
namespace Go.Proofs.YtalffjplbhelcaaGreatDoor
theorem dr_bounds {d : Dec} (h : decRight d = true) : -100000000000 ≤ d.c ∧ d.c ≤ 100000000000 ∧ 0 ≤ d.scale ∧ d.scale ≤ 6 := by
  unfold decRight at h
  simp only [Bool.cond_eq_ite, Bool.ite_eq_true_distrib] at h
  simp at h
  omega
end Go.Proofs.YtalffjplbhelcaaGreatDoor
namespace Go.Proofs.YtalffjplbhelcaaGreatDoor
def ito (d : Dec) : ByteArray := lItoa (max d.c (w64 (0 - d.c)))
theorem ito_lo {d : Dec} (h : decRight d = true) : -9223372036854775808 ≤ max d.c (w64 (0 - d.c)) := by
  have := dr_bounds h
  rw [w64_in (by omega)]
  omega
theorem ito_hi {d : Dec} (h : decRight d = true) : max d.c (w64 (0 - d.c)) ≤ 9223372036854775807 := by
  have := dr_bounds h
  rw [w64_in (by omega)]
  omega
theorem ito_sz {d : Dec} (h : decRight d = true) : (ito d).size ≤ 21 := by
  unfold ito lItoa
  rw [byA_size]
  exact Lib.itoa_length_le _ (ito_lo h) (ito_hi h)
def padN (d : Dec) : Int := max 0 (w64 (w64 (d.scale + 1) - ((ito d).size : Int)))
theorem padN_eq {d : Dec} (h : decRight d = true) : padN d = max 0 (d.scale + 1 - ((ito d).size : Int)) := by
  have := dr_bounds h
  have := ito_sz h
  unfold padN
  rw [w64_in (n := d.scale + 1) (by omega), w64_in (by omega)]
theorem pad_lo (d : Dec) : 0 ≤ padN d := by unfold padN; omega
theorem pad_le {d : Dec} (h : decRight d = true) : padN d ≤ 1000 := by
  have := dr_bounds h
  rw [padN_eq h]
  omega
def zer (d : Dec) : ByteArray := lRepeat (⟨#[48]⟩ : ByteArray) (padN d)
theorem rep_len : ∀ (k : Nat) (l : List UInt8), (Lib.repeatL l k).length = k * l.length
  | 0, l => by simp [Lib.repeatL]
  | k + 1, l => by
    have := rep_len k l
    simp only [Lib.repeatL, List.replicate_succ, List.flatten_cons, List.length_append] at this ⊢
    rw [this, Nat.succ_mul, Nat.add_comm]
theorem zer_size (d : Dec) : ((zer d).size : Int) = padN d := by
  unfold zer lRepeat
  rw [byA_size, rep_len]
  have := pad_lo d
  simp
  omega
theorem zer_sz {d : Dec} (h : decRight d = true) : (zer d).size ≤ 1000 := by
  have := zer_size d
  have := pad_le h
  omega
theorem pad_all {d : Dec} (h : decRight d = true) : w64 (((zer d ++ ito d).size : Int) - d.scale) = ((zer d ++ ito d).size : Int) - d.scale ∧ d.scale + 1 ≤ ((zer d ++ ito d).size : Int) := by
  have h1 := dr_bounds h
  have h2 := zer_size d
  have h3 := padN_eq h
  have h4 := ito_sz h
  have h5 := zer_sz h
  rw [ByteArray.size_append', w64_in (by omega)]
  omega
theorem pad_hi {d : Dec} (h : decRight d = true) : 0 ≤ w64 (((zer d ++ ito d).size : Int) - d.scale) ∧ w64 (((zer d ++ ito d).size : Int) - d.scale) ≤ ((zer d ++ ito d).size : Int) := by
  have h1 := dr_bounds h
  have h2 := pad_all h
  rw [h2.1]
  omega
end Go.Proofs.YtalffjplbhelcaaGreatDoor
