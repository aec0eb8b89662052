import Derived.Test.YtalffjplbhelcaaDoorMDecBack2
import Derived.Test.YtalffjplbhelcaaDoorMDecBack1
import Derived.Lib.ItoaLen
set_option linter.unusedVariables false
set_option linter.unusedSimpArgs false
namespace Go.Proofs.YtalffjplbhelcaaDoor
def dval : Nat → List UInt8 → Nat
  | a, [] => a
  | a, b :: l => dval (a * 10 + (b.toNat - 48)) l
theorem dval_app : ∀ (l m : List UInt8) (a : Nat), dval a (l ++ m) = dval (dval a l) m
  | [], m, a => rfl
  | b :: l, m, a => dval_app l m _
theorem dval_lt : ∀ (l : List UInt8) (a w : Nat), (∀ b ∈ l, IsDig b) → a < 10 ^ w → dval a l < 10 ^ (w + l.length)
  | [], a, w, _, h => h
  | b :: l, a, w, hd, h => by
    have hb := hd b List.mem_cons_self
    have h1 : a * 10 + (b.toNat - 48) < 10 ^ (w + 1) := by
      rw [Nat.pow_succ]
      have := hb.1
      have := hb.2
      omega
    have := dval_lt l _ (w + 1) (fun c hc => hd c (List.mem_cons_of_mem _ hc)) h1
    rw [List.length_cons, show w + (l.length + 1) = w + 1 + l.length by omega]
    exact this
theorem decFrom_dval : ∀ (l : List UInt8) (a : Nat), (∀ b ∈ l, IsDig b) → Lib.decFrom a l = some (dval a l)
  | [], a, _ => rfl
  | b :: l, a, hd => by
    have hb := hd b List.mem_cons_self
    have e : Lib.digitVal b = some (b.toNat - 48) := by unfold Lib.digitVal; exact if_pos hb
    rw [Lib.decFrom, e]
    exact decFrom_dval l _ (fun c hc => hd c (List.mem_cons_of_mem _ hc))
theorem rDigit_iff (b : UInt8) : rDigit (b.toNat : Int) = true ↔ IsDig b := by
  unfold rDigit IsDig
  by_cases h : 48 ≤ b.toNat
  · rw [decide_eq_true (show (b.toNat : Int) ≥ 48 by omega), cond_true, decide_eq_true_eq]
    omega
  · rw [decide_eq_false (show ¬ ((b.toNat : Int) ≥ 48) by omega)]
    constructor
    · intro h; cases h
    · intro h2; exact absurd h2.1 h
theorem rDigit_no {b : UInt8} (h : ¬ IsDig b) : rDigit (b.toNat : Int) = false := by
  cases hd : rDigit (b.toNat : Int)
  · rfl
  · exact absurd ((rDigit_iff b).1 hd) h
theorem pow_le11 {w : Nat} (h : w ≤ 11) : 10 ^ w ≤ 100000000000 := Nat.pow_le_pow_right (by decide) h
theorem rdN_val {a w : Nat} {b : UInt8} (hb : IsDig b) (hw : w ≤ 11) (ha : a < 10 ^ w) : rdN (a : Int) (b.toNat : Int) = ((a * 10 + (b.toNat - 48) : Nat) : Int) := by
  have h1 := hb.1
  have h2 := hb.2
  have h3 := pow_le11 hw
  have e8 : IntKind.u8.wrap ((b.toNat : Int) - 48) = (b.toNat : Int) - 48 := by
    rw [IntKind.wrap_u8]
    omega
  unfold rdN
  rw [e8, w64_in (n := (b.toNat : Int) - 48) (by omega), w64_in (n := 10 * (a : Int)) (by omega), w64_in (by omega)]
  omega
theorem rL1_val : ∀ (D R : List UInt8) (a w : Nat), (∀ b ∈ D, IsDig b) → (R = [] ∨ ∃ b r, R = b :: r ∧ ¬ IsDig b) → w ≤ 5 → a < 10 ^ w → rL1 (D ++ R) (a : Int) w = if w + D.length ≤ 5 then some (R, (dval a D : Int), w + D.length) else none
  | [], R, a, w, _, hR, hw, ha => by
    rw [List.nil_append, if_pos (show w + ([] : List UInt8).length ≤ 5 from hw)]
    rcases hR with rfl | ⟨b, r, rfl, hb⟩
    · rfl
    · rw [rL1, rDigit_no hb]; rfl
  | b :: D, R, a, w, hd, hR, hw, ha => by
    have hb := hd b List.mem_cons_self
    rw [List.cons_append, rL1, (rDigit_iff b).2 hb, cond_true]
    by_cases h5 : w + 1 > 5
    · rw [decide_eq_true h5, cond_true, if_neg (by rw [List.length_cons]; omega)]
    · have h1 : a * 10 + (b.toNat - 48) < 10 ^ (w + 1) := dval_lt [b] a w (fun c hc => by obtain rfl := List.mem_singleton.1 hc; exact hb) ha
      rw [decide_eq_false h5, cond_false, rdN_val hb (by omega) ha, rL1_val D R _ (w + 1) (fun c hc => hd c (List.mem_cons_of_mem _ hc)) hR (by omega) h1, List.length_cons, show w + 1 + D.length = w + (D.length + 1) by omega]
      rfl
theorem rL2_val : ∀ (F : List UInt8) (a sc w : Nat), (∀ b ∈ F, IsDig b) → w + F.length ≤ 11 → sc + F.length ≤ 6 → a < 10 ^ w → rL2 F (a : Int) (sc : Int) = some ((dval a F : Int), ((sc + F.length : Nat) : Int))
  | [], a, sc, w, _, _, _, _ => rfl
  | b :: F, a, sc, w, hd, hw, h6, ha => by
    have hb := hd b List.mem_cons_self
    rw [List.length_cons] at hw h6
    have h1 : a * 10 + (b.toNat - 48) < 10 ^ (w + 1) := dval_lt [b] a w (fun c hc => by obtain rfl := List.mem_singleton.1 hc; exact hb) ha
    have ew : w64 ((sc : Int) + 1) = ((sc + 1 : Nat) : Int) := by rw [w64_in (by omega)]; rfl
    rw [rL2, (rDigit_iff b).2 hb, cond_true, rdN_val hb (by omega) ha, ew, rL2_val F _ (sc + 1) (w + 1) (fun c hc => hd c (List.mem_cons_of_mem _ hc)) (by omega) (by omega) h1, List.length_cons, show sc + 1 + F.length = sc + (F.length + 1) by omega]
    rfl
theorem rL2_none : ∀ (F : List UInt8) (a sc : Int), ¬ (∀ b ∈ F, IsDig b) → rL2 F a sc = none
  | [], a, sc, h => absurd (by simp) h
  | b :: F, a, sc, h => by
    rw [rL2]
    by_cases hb : IsDig b
    · rw [(rDigit_iff b).2 hb, cond_true]
      exact rL2_none F _ _ (fun hF => h (fun c hc => by
        rcases List.mem_cons.1 hc with rfl | hc
        · exact hb
        · exact hF c hc))
    · rw [rDigit_no hb]; rfl
theorem trim_snoc (G : List UInt8) (b : UInt8) : Lib.trimRightB (G ++ [b]) 48 = if b == 48 then Lib.trimRightB G 48 else G ++ [b] := by
  unfold Lib.trimRightB
  rw [List.reverse_append, List.reverse_singleton, List.singleton_append, List.dropWhile_cons]
  cases b == 48 <;> simp
theorem snoc_cases (F : List UInt8) : F = [] ∨ ∃ G b, F = G ++ [b] := by
  cases h : F.reverse with
  | nil => left; simpa using h
  | cons b G => right; exact ⟨G.reverse, b, by rw [← List.reverse_reverse F, h, List.reverse_cons]⟩
theorem dval_snoc (G : List UInt8) (b : UInt8) (a : Nat) : dval a (G ++ [b]) = dval a G * 10 + (b.toNat - 48) := dval_app G [b] a
theorem rL3_val : ∀ (k : Nat) (F : List UInt8) (a : Nat), F.length ≤ k → k ≤ 6 → (∀ b ∈ F, IsDig b) → dval a F < 100000000000 → rL3 k (dval a F : Int) (F.length : Int) = ((dval a (Lib.trimRightB F 48) : Int), ((Lib.trimRightB F 48).length : Int))
  | 0, F, a, hk, _, _, _ => by
    obtain rfl : F = [] := List.length_eq_zero_iff.1 (by omega)
    rfl
  | k + 1, F, a, hk, h6, hd, hb => by
    rcases snoc_cases F with rfl | ⟨G, b, rfl⟩
    · rw [rL3]; rfl
    · have hbd := hd b (by simp)
      have h1 := hbd.1
      have h2 := hbd.2
      rw [dval_snoc] at hb
      rw [rL3, dval_snoc, trim_snoc, List.length_append, List.length_singleton, decide_eq_true (by omega), cond_true]
      rw [List.length_append, List.length_singleton] at hk
      have em : Int.tmod ((dval a G * 10 + (b.toNat - 48) : Nat) : Int) 10 = ((b.toNat - 48 : Nat) : Int) := by
        rw [Int.tmod_eq_emod_of_nonneg (by omega)]
        omega
      rw [em]
      by_cases h0 : b = 48
      · subst h0
        have ed : Int.tdiv ((dval a G * 10 + ((48 : UInt8).toNat - 48) : Nat) : Int) 10 = (dval a G : Int) := by
          rw [Int.tdiv_eq_ediv_of_nonneg (by omega), show (48 : UInt8).toNat = 48 from rfl]
          omega
        have hz : ((((48 : UInt8).toNat - 48 : Nat) : Int) == 0) = true := rfl
        rw [hz, cond_true, ed, w64_in (n := (dval a G : Int)) (by omega), w64_in (by omega), show ((G.length + 1 : Nat) : Int) - 1 = (G.length : Int) by omega]
        rw [rL3_val k G a (by omega) (by omega) (fun c hc => hd c (by simp [hc])) (by omega)]
        rfl
      · have hn : b.toNat ≠ 48 := fun h => h0 (UInt8.toNat_inj.1 h)
        have hz : (((b.toNat - 48 : Nat) : Int) == 0) = false := by rw [beq_eq_false_iff_ne]; omega
        have hz2 : (b == 48) = false := by rw [beq_eq_false_iff_ne]; exact h0
        rw [hz, cond_false, if_neg (by rw [hz2]; decide), dval_snoc, List.length_append, List.length_singleton]
theorem trim_last (F : List UInt8) : Lib.trimRightB F 48 = [] ∨ ∃ G b, Lib.trimRightB F 48 = G ++ [b] ∧ b ≠ 48 := by
  rcases snoc_cases (Lib.trimRightB F 48) with h | ⟨G, b, h⟩
  · exact .inl h
  · right
    refine ⟨G, b, h, ?_⟩
    rintro rfl
    unfold Lib.trimRightB at h
    have h2 := congrArg List.reverse h
    rw [List.reverse_reverse, List.reverse_append, List.reverse_singleton, List.singleton_append] at h2
    have h3 := List.head?_dropWhile_not (p := (· == (48 : UInt8))) (l := F.reverse)
    rw [h2] at h3
    simp at h3
theorem right_val {F : List UInt8} {a : Nat} {c : Int} (hd : ∀ b ∈ F, IsDig b) (h6 : F.length ≤ 6) (hb : dval a (Lib.trimRightB F 48) < 100000000000) (hc : c = (dval a (Lib.trimRightB F 48) : Int) ∨ c = -(dval a (Lib.trimRightB F 48) : Int)) : rRightDec ⟨c, ((Lib.trimRightB F 48).length : Int)⟩ = true := by
  have hl := (trimB_sub F 48).2
  have hs := (trimB_sub F 48).1
  unfold rRightDec
  rw [decide_eq_true (show c ≥ -100000000000 by omega), decide_eq_true (show c ≤ 100000000000 by omega), decide_eq_true (show ((Lib.trimRightB F 48).length : Int) ≥ 0 by omega), decide_eq_true (show ((Lib.trimRightB F 48).length : Int) ≤ 6 by omega)]
  simp only [cond_true]
  rcases trim_last F with h | ⟨G, b, h, h0⟩
  · rw [h]; rfl
  · have hbd := hd b (hs b (by rw [h]; simp))
    have h1 := hbd.1
    have h2 := hbd.2
    have hn : b.toNat ≠ 48 := fun e => h0 (UInt8.toNat_inj.1 e)
    rw [h] at hc ⊢
    rw [dval_snoc] at hc
    have hz : ((((G ++ [b]).length : Nat) : Int) == 0) = false := by rw [beq_eq_false_iff_ne]; simp; omega
    rw [hz, cond_false, bne_iff_ne]
    intro e
    rcases hc with rfl | rfl
    · rw [Int.tmod_eq_emod_of_nonneg (by omega)] at e; omega
    · rw [Int.neg_tmod, Int.tmod_eq_emod_of_nonneg (by omega)] at e; omega
theorem rEnd_val {F : List UInt8} {a : Nat} (mn : Bool) (hd : ∀ b ∈ F, IsDig b) (h6 : F.length ≤ 6) (hb : dval a F < 100000000000) (hb2 : dval a (Lib.trimRightB F 48) < 100000000000) :
    rEnd mn (dval a F : Int) (F.length : Int) = (bif mn then (bif (dval a (Lib.trimRightB F 48) : Int) == 0 then none0 else ((⟨w64 (0 - (dval a (Lib.trimRightB F 48) : Int)), ((Lib.trimRightB F 48).length : Int)⟩ : Dec), true)) else ((⟨(dval a (Lib.trimRightB F 48) : Int), ((Lib.trimRightB F 48).length : Int)⟩ : Dec), true)) := by
  have e := rL3_val 6 F a h6 (by decide) hd hb
  have ew : w64 (0 - (dval a (Lib.trimRightB F 48) : Int)) = -(dval a (Lib.trimRightB F 48) : Int) := by rw [w64_in (by omega)]; omega
  unfold rEnd
  rw [e]
  simp only
  rw [ew, right_val hd h6 hb2 (.inl rfl), right_val hd h6 hb2 (.inr rfl)]
  rfl
theorem idx_cases : ∀ l : List UInt8, (Lib.indexByte l 46 = -1 ∧ ∀ b ∈ l, b ≠ 46) ∨ ∃ W F, l = W ++ 46 :: F ∧ (∀ b ∈ W, b ≠ 46) ∧ Lib.indexByte l 46 = (W.length : Int)
  | [] => .inl ⟨rfl, by simp⟩
  | b :: l => by
    rw [Lib.indexByte]
    by_cases h : b = 46
    · subst h
      exact .inr ⟨[], l, rfl, by simp, rfl⟩
    · have hb : (b == 46) = false := by rw [beq_eq_false_iff_ne]; exact h
      rw [if_neg (by rw [hb]; decide)]
      rcases idx_cases l with ⟨h1, h2⟩ | ⟨W, F, rfl, h2, h3⟩
      · left
        rw [h1]
        refine ⟨rfl, fun c hc => ?_⟩
        rcases List.mem_cons.1 hc with rfl | hc
        · exact h
        · exact h2 c hc
      · right
        refine ⟨b :: W, F, rfl, fun c hc => ?_, ?_⟩
        · rcases List.mem_cons.1 hc with rfl | hc
          · exact h
          · exact h2 c hc
        · rw [h3, if_neg (by rw [beq_iff_eq]; omega), List.length_cons]; rfl
theorem span_dig (l : List UInt8) : ∃ D R, l = D ++ R ∧ (∀ b ∈ D, IsDig b) ∧ (R = [] ∨ ∃ b r, R = b :: r ∧ ¬ IsDig b) := by
  induction l with
  | nil => exact ⟨[], [], rfl, by simp, .inl rfl⟩
  | cons b l ih =>
    by_cases hb : IsDig b
    · obtain ⟨D, R, rfl, h1, h2⟩ := ih
      refine ⟨b :: D, R, rfl, fun c hc => ?_, h2⟩
      rcases List.mem_cons.1 hc with rfl | hc
      · exact hb
      · exact h1 c hc
    · exact ⟨[], b :: l, rfl, by simp, .inr ⟨b, l, rfl, hb⟩⟩
theorem rOne_bad {mn : Bool} {W R : List UInt8} (hR : R = [] ∨ ∃ F, R = 46 :: F) (hW : ∀ b ∈ W, b ≠ 46) (h : ¬ (W ≠ [] ∧ W.length ≤ 5 ∧ ∀ b ∈ W, IsDig b)) : rOne mn (rL1 (W ++ R) 0 0) = none0 := by
  by_cases hd : ∀ b ∈ W, IsDig b
  · have hR' : R = [] ∨ ∃ b r, R = b :: r ∧ ¬ IsDig b := by
      rcases hR with rfl | ⟨F, rfl⟩
      · exact .inl rfl
      · exact .inr ⟨46, F, rfl, by unfold IsDig; decide⟩
    have e := rL1_val W R 0 0 hd hR' (by decide) (by decide)
    rw [show ((0 : Nat) : Int) = 0 from rfl] at e
    rw [e]
    by_cases h5 : 0 + W.length ≤ 5
    · rw [if_pos h5]
      have h0 : W = [] := by
        cases W with
        | nil => rfl
        | cons b W => exact absurd ⟨by simp, by omega, hd⟩ h
      subst h0
      rfl
    · rw [if_neg h5]; rfl
  · obtain ⟨D, X, e0, h1, h2⟩ := span_dig W
    subst e0
    rcases h2 with rfl | ⟨x, r, rfl, hx⟩
    · exact absurd (by simpa using h1) hd
    · have hx46 : x ≠ 46 := hW x (by simp)
      have e := rL1_val D ((x :: r) ++ R) 0 0 h1 (.inr ⟨x, r ++ R, rfl, hx⟩) (by decide) (by decide)
      rw [show ((0 : Nat) : Int) = 0 from rfl] at e
      rw [List.append_assoc, e]
      by_cases h5 : 0 + D.length ≤ 5
      · rw [if_pos h5]
        have hb : ((x.toNat : Int) != 46) = true := by
          rw [bne_iff_ne]
          intro e
          exact hx46 (UInt8.toNat_inj.1 (by show x.toNat = 46; omega))
        show (bif (0 + D.length) == 0 then none0 else rFrac mn (x :: (r ++ R)) _) = none0
        cases (0 + D.length) == 0
        · rw [cond_false, rFrac, hb]; rfl
        · rfl
      · rw [if_neg h5]; rfl
theorem atoi_val {l : List UInt8} (h0 : l ≠ []) (hd : ∀ b ∈ l, IsDig b) : lAtoi (byA l) = (dval 0 l : Int) := by
  obtain ⟨n, h1, h2⟩ := atoi_digs h0 hd
  rw [decFrom_dval l 0 hd] at h1
  unfold lAtoi
  rw [show (byA l).data.toList = l from rfl, h2, Option.getD_some, Option.some.inj h1]
theorem byA_app (a b : List UInt8) : byA a ++ byA b = byA (a ++ b) := by
  apply ByteArray.ext
  apply Array.ext'
  simp [byA]
theorem fig_byA (l : List UInt8) (n : Nat) : decFig (byA l) (n : Int) = true ↔ l ≠ [] ∧ l.length ≤ n ∧ ∀ b ∈ l, IsDig b := by
  rw [decFig_iff]
  show l ≠ [] ∧ ((l.length : Nat) : Int) ≤ n ∧ _ ↔ _
  rw [Int.ofNat_le]
  rfl
theorem fig_no {l : List UInt8} {n : Nat} (h : ¬ (l ≠ [] ∧ l.length ≤ n ∧ ∀ b ∈ l, IsDig b)) : decFig (byA l) (n : Int) = false := by
  cases hd : decFig (byA l) (n : Int)
  · rfl
  · exact absurd ((fig_byA l n).1 hd) h
theorem f5y {l : List UInt8} (h : l ≠ [] ∧ l.length ≤ 5 ∧ ∀ b ∈ l, IsDig b) : decFig (byA l) 5 = true := (fig_byA l 5).2 h
theorem f6y {l : List UInt8} (h : l ≠ [] ∧ l.length ≤ 6 ∧ ∀ b ∈ l, IsDig b) : decFig (byA l) 6 = true := (fig_byA l 6).2 h
theorem f5n {l : List UInt8} (h : ¬ (l ≠ [] ∧ l.length ≤ 5 ∧ ∀ b ∈ l, IsDig b)) : decFig (byA l) 5 = false := fig_no (n := 5) h
theorem f6n {l : List UInt8} (h : ¬ (l ≠ [] ∧ l.length ≤ 6 ∧ ∀ b ∈ l, IsDig b)) : decFig (byA l) 6 = false := fig_no (n := 6) h
theorem body_eq (s : ByteArray) : rdBody s = byA (rBody s) ∧ rdMinus s = rMin s := by
  obtain ⟨l, rfl⟩ : ∃ l, s = byA l := ⟨s.data.toList, rfl⟩
  unfold rdBody rdMinus lCutPrefix rBody rMin
  show byA (Lib.trimPrefix l [45]) = _ ∧ Lib.hasPrefix l [45] = _
  cases l with
  | nil => exact ⟨rfl, rfl⟩
  | cons b r =>
    have hp : decide (((byA (b :: r)).size : Int) > 0) = true := decide_eq_true (by have := byA_pos b r; omega)
    have hq : ((b.toNat : Int) == 45) = (45 == b) := by
      rw [Bool.eq_iff_iff, beq_iff_eq, beq_iff_eq]
      constructor
      · intro h; exact (UInt8.toNat_inj.1 (show b.toNat = 45 by omega)).symm
      · rintro rfl; rfl
    have hh : Lib.hasPrefix (b :: r) [45] = (45 == b) := by
      show (45 == b && true) = _
      rw [Bool.and_true]
    rw [hp, sAt_hd, hq, hh, Lib.trimPrefix, hh, cond_true, cond_true]
    cases 45 == b
    · exact ⟨rfl, rfl⟩
    · exact ⟨rfl, rfl⟩
theorem parts_none {s : ByteArray} (h : Lib.indexByte (rBody s) 46 = -1) : rdWhole s = byA (rBody s) ∧ rdRest s = byA [] ∧ rdPoint s = false := by
  have hb := (body_eq s).1
  unfold rdWhole rdRest rdPoint cutDot cutDot0
  rw [hb]
  have e : lIndex (byA (rBody s)) 46 = -1 := h
  rw [e]
  exact ⟨rfl, rfl, rfl⟩
theorem parts_some {s : ByteArray} {W F : List UInt8} (hl : (rBody s).length ≤ 9223372036854775807) (h : rBody s = W ++ 46 :: F) (hi : Lib.indexByte (rBody s) 46 = (W.length : Int)) : rdWhole s = byA W ∧ rdRest s = byA F ∧ rdPoint s = true := by
  have hb := (body_eq s).1
  have hl' : W.length + (F.length + 1) ≤ 9223372036854775807 := by rw [h, List.length_append, List.length_cons] at hl; exact hl
  unfold rdWhole rdRest rdPoint cutDot cutDot0
  rw [hb]
  have e : lIndex (byA (rBody s)) 46 = (W.length : Int) := hi
  have r0 : restL (byA (rBody s)) 0 = W ++ (46 :: F) := h
  have e1 := sub_rest r0
  have r1 : restL (byA (rBody s)) (W.length + 1) = F ++ [] := by
    have := rest_add (s := byA (rBody s)) (i := 0) (w := W ++ [46]) (r := F) (by rw [List.append_assoc]; exact r0)
    rw [List.append_nil]
    rw [← this]
    congr 1
    simp
  have e2 := sub_rest r1
  have es : ((byA (rBody s)).size : Int) = ((W.length + 1 + F.length : Nat) : Int) := by
    show (((rBody s).length : Nat) : Int) = _
    rw [h, List.length_append, List.length_cons]
    omega
  rw [e, decide_eq_true (by omega), cond_true, w64_in (by omega), es]
  refine ⟨?_, ?_, rfl⟩
  · rw [Nat.zero_add] at e1; exact e1
  · exact e2
theorem body_len (s : ByteArray) : (rBody s).length ≤ s.size := by
  have h : s.data.toList.length = s.size := by rw [Array.length_toList]; rfl
  unfold rBody
  cases decide ((s.size : Int) > 0)
  · exact Nat.le_of_eq h
  · cases (sAt s 0) == 45
    · exact Nat.le_of_eq h
    · show (s.data.toList.drop 1).length ≤ _
      rw [List.length_drop]; omega
theorem read_eqA {s : ByteArray} (hs : s.size ≤ 9223372036854775807) : decRead s = rRead s := by
  have hl : (rBody s).length ≤ 9223372036854775807 := Nat.le_trans (body_len s) hs
  have hm := (body_eq s).2
  unfold rRead
  rcases idx_cases (rBody s) with ⟨hi, h46⟩ | ⟨W, F, hWF, h46, hi⟩
  · obtain ⟨pW, pF, pp⟩ := parts_none hi
    unfold decRead
    rw [pW, pF, pp, hm]
    by_cases hg : rBody s ≠ [] ∧ (rBody s).length ≤ 5 ∧ ∀ b ∈ rBody s, IsDig b
    · have e := rL1_val (rBody s) [] 0 0 hg.2.2 (.inl rfl) (by decide) (by decide)
      rw [List.append_nil, if_pos (show 0 + (rBody s).length ≤ 5 by omega), show ((0 : Nat) : Int) = 0 from rfl] at e
      rw [e, f5y hg]
      have hw : ((0 + (rBody s).length) == 0) = false := by
        rw [beq_eq_false_iff_ne]
        have := List.length_pos_iff.2 hg.1
        omega
      have hlt : dval 0 (rBody s) < 100000000000 := Nat.lt_of_lt_of_le (dval_lt (rBody s) 0 0 hg.2.2 (by decide)) (pow_le11 (by omega))
      have et : lTrimRight (byA []) 48 = byA [] := rfl
      have ea : lAtoi (byA (rBody s) ++ byA []) = (dval 0 (rBody s) : Int) := by rw [byA_app, List.append_nil]; exact atoi_val hg.1 hg.2.2
      have er := rEnd_val (F := []) (a := dval 0 (rBody s)) (rMin s) (by simp) (by decide) hlt hlt
      rw [et, ea]
      show _ = (bif (0 + (rBody s).length) == 0 then none0 else rFrac (rMin s) [] (dval 0 (rBody s) : Int))
      rw [hw, cond_false, rFrac]
      exact er.symm
    · have e := rOne_bad (mn := rMin s) (W := rBody s) (R := []) (.inl rfl) h46 hg
      rw [List.append_nil] at e
      rw [e, f5n hg]; rfl
  · obtain ⟨pW, pF, pp⟩ := parts_some hl hWF hi
    unfold decRead
    rw [pW, pF, pp, hm, hWF]
    by_cases hg : W ≠ [] ∧ W.length ≤ 5 ∧ ∀ b ∈ W, IsDig b
    · have e := rL1_val W (46 :: F) 0 0 hg.2.2 (.inr ⟨46, F, rfl, by unfold IsDig; decide⟩) (by decide) (by decide)
      rw [if_pos (show 0 + W.length ≤ 5 by omega), show ((0 : Nat) : Int) = 0 from rfl] at e
      rw [e, f5y hg, cond_true, cond_true]
      have hw : ((0 + W.length) == 0) = false := by
        rw [beq_eq_false_iff_ne]
        have := List.length_pos_iff.2 hg.1
        omega
      have hlW : dval 0 W < 10 ^ W.length := by have := dval_lt W 0 0 hg.2.2 (by decide); rw [Nat.zero_add] at this; exact this
      show _ = (bif (0 + W.length) == 0 then none0 else rFrac (rMin s) (46 :: F) (dval 0 W : Int))
      rw [hw, cond_false, rFrac]
      show _ = (bif F.length == 0 then none0 else (bif decide (F.length > 6) then none0 else rTwo (rMin s) (rL2 F (dval 0 W : Int) 0)))
      by_cases hf : F ≠ [] ∧ F.length ≤ 6 ∧ ∀ b ∈ F, IsDig b
      · have h0 : (F.length == 0) = false := by
          rw [beq_eq_false_iff_ne]
          have := List.length_pos_iff.2 hf.1
          omega
        have hT := trimB_sub F 48
        have hTd : ∀ b ∈ Lib.trimRightB F 48, IsDig b := fun b hb => hf.2.2 b (hT.1 b hb)
        have hlt : ∀ X : List UInt8, (∀ b ∈ X, IsDig b) → X.length ≤ 6 → dval (dval 0 W) X < 100000000000 := fun X hX h6 => Nat.lt_of_lt_of_le (dval_lt X _ _ hX hlW) (pow_le11 (by omega))
        have e2 := rL2_val F (dval 0 W) 0 W.length hf.2.2 (by omega) (by omega) hlW
        rw [Nat.zero_add, show ((0 : Nat) : Int) = 0 from rfl] at e2
        have et : lTrimRight (byA F) 48 = byA (Lib.trimRightB F 48) := rfl
        have ea : lAtoi (byA W ++ byA (Lib.trimRightB F 48)) = (dval (dval 0 W) (Lib.trimRightB F 48) : Int) := by
          rw [byA_app, atoi_val (by simp [hg.1]) (fun b hb => by
            rcases List.mem_append.1 hb with hb | hb
            · exact hg.2.2 b hb
            · exact hTd b hb), dval_app]
        have er := rEnd_val (F := F) (a := dval 0 W) (rMin s) hf.2.2 hf.2.1 (hlt F hf.2.2 hf.2.1) (hlt _ hTd (by omega))
        rw [h0, decide_eq_false (show ¬ F.length > 6 by omega), e2, et, ea, f6y hf]
        exact er.symm
      · rw [f6n hf]
        show none0 = _
        by_cases h0 : F = []
        · subst h0; rfl
        · have h0' : (F.length == 0) = false := by
            rw [beq_eq_false_iff_ne]
            have := List.length_pos_iff.2 h0
            omega
          rw [h0', cond_false]
          by_cases h6 : F.length > 6
          · rw [decide_eq_true h6]; rfl
          · rw [decide_eq_false h6, rL2_none F _ _ (fun hd => hf ⟨h0, by omega, hd⟩)]; rfl
    · rw [rOne_bad (mn := rMin s) (W := W) (R := 46 :: F) (.inr ⟨F, rfl⟩) h46 hg, f5n hg]; rfl
theorem read_eq {s : ByteArray} (hs : s.size ≤ 4000) : decRead s = rRead s := read_eqA (Nat.le_trans hs (by decide))
end Go.Proofs.YtalffjplbhelcaaDoor
namespace Go.Proofs.YtalffjplbhelcaaDoor
open Go.RowKit
attribute [local irreducible] AC AR DWalk
def numIn (n : Int) : Bool := (bif decide (n ≥ (-1073741824)) then decide (n ≤ 1073741824) else false)
set_option maxRecDepth 100000 in
theorem c_numIn (n : Int) : Gets Tryd.prog 46 #[.int .i64 n] ((fun (r : Bool) => (.bool r : Value)) (numIn n)) := by
 refine gets_fin Tryd.func46 rfl rfl rfl (aQ (aL (aA 2 (.bool false) rfl rfl (aN (aQ (aL (aM 3 (.int .i64 n) rfl rfl (aB 4 (.bool (decide (n ≥ (-1073741824)))) rfl rfl rfl (bi_geq rfl) (aM 5 (.bool (decide (n ≥ (-1073741824)))) rfl rfl ?_)))))))))
 refine bool_split (decide (n ≥ (-1073741824))) (fun h1 => ?_) (fun h1 => ?_)
 ·refine ar_gd (d := (some 6)) (by show ((decide (n ≥ (-1073741824))) == true) = true; rw [h1]; rfl) rfl (st_move (v := .int .i64 n) rfl rfl (ar_gd (d := (some 7)) (by show ((decide (n ≥ (-1073741824))) == true) = true; rw [h1]; rfl) rfl (st_bi (r := .bool (decide (n ≤ 1073741824))) rfl rfl rfl (bi_leq rfl) (ao 8 rfl rfl (st_pkt' (b := decide (n ≥ (-1073741824))) (v := .bool (decide (n ≤ 1073741824))) h1 rfl rfl rfl (aA 2 (.bool (decide (n ≤ 1073741824))) rfl rfl (aN (ac_ret (fin_eq (v := .bool (decide (n ≤ 1073741824))) (by show _ = (fun (r : Bool) => (.bool r : Value)) (numIn n); rw [numIn, h1] <;> rfl) (fin_ret (res_tmp rfl rfl)))))))))))
 ·refine aK 6 (by show ((decide (n ≥ (-1073741824))) == true) = false; rw [h1]; rfl) rfl (aK 7 (by show ((decide (n ≥ (-1073741824))) == true) = false; rw [h1]; rfl) rfl (ao 8 rfl rfl (st_pkf' (b := decide (n ≥ (-1073741824))) (v := .bool false) h1 rfl rfl rfl (aA 2 (.bool false) rfl rfl (aN (ac_ret (fin_eq (v := .bool false) (by show _ = (fun (r : Bool) => (.bool r : Value)) (numIn n); rw [numIn, h1] <;> rfl) (fin_ret (res_tmp rfl rfl)))))))))
def numFloor_e0 (a : Int) (b : Int) : Int := (bif (decide (a < 0)) != (decide (b < 0)) then (w64 ((w64 (Int.tdiv a b)) - 1)) else (w64 (Int.tdiv a b)))
def numFloor (a : Int) (b : Int) : Int := (bif b == 0 then 0 else (bif (Int.tmod a b) != 0 then (numFloor_e0 a b) else w64 (Int.tdiv a b)))
set_option maxRecDepth 100000 in
theorem c_numFloor (a : Int) (b : Int) : Gets Tryd.prog 45 #[.int .i64 a, .int .i64 b] ((fun (r : Int) => (.int .i64 r : Value)) (numFloor a b)) := by
 refine gets_fin Tryd.func45 rfl rfl rfl (aQ (aL (aA 4 (.int .i64 0) rfl rfl (aN (aQ (aQ (aL (aM 6 (.int .i64 b) rfl rfl (aB 7 (.bool (b == 0)) rfl rfl rfl (bi_eql rfl) (aN ?_))))))))))
 refine bool_split (b == 0) (fun h1 => ?_) (fun h1 => ?_)
 ·refine ac_then' (b := b == 0) h1 rfl (aQ (aL (aA 4 (.int .i64 0) rfl rfl (aN (ac_ret (fin_eq (v := .int .i64 0) (by show _ = (fun (r : Int) => (.int .i64 r : Value)) (numFloor a b); rw [numFloor, h1] <;> rfl) (fin_ret (res_tmp rfl rfl))))))))
 ·refine ac_else' (b := b == 0) h1 rfl (ac_skip (aQ (aL (aM 8 (.int .i64 a) rfl rfl (aM 9 (.int .i64 b) rfl rfl (aB 10 (.int .i64 (w64 (Int.tdiv a b))) rfl rfl rfl (bi_quo (ne_of_beq0 h1) rfl) (aA 5 (.int .i64 (w64 (Int.tdiv a b))) rfl rfl (aN (aQ (aQ (aL (aM 11 (.int .i64 a) rfl rfl (aM 12 (.int .i64 b) rfl rfl (aB 13 (.int .i64 (Int.tmod a b)) rfl rfl rfl (bi_rem (ne_of_beq0 h1) rfl) (aB 14 (.bool ((Int.tmod a b) != 0)) rfl rfl rfl (bi_neq rfl) (aM 15 (.bool ((Int.tmod a b) != 0)) rfl rfl ?_))))))))))))))))
  refine bool_split ((Int.tmod a b) != 0) (fun h2 => ?_) (fun h2 => ?_)
  ·refine ar_gd (d := (some 16)) (by show (((Int.tmod a b) != 0) == true) = true; rw [h2]; rfl) rfl (st_move (v := .int .i64 a) rfl rfl (ar_gd (d := (some 17)) (by show (((Int.tmod a b) != 0) == true) = true; rw [h2]; rfl) rfl (st_bi (r := .bool (decide (a < 0))) rfl rfl rfl (bi_lss rfl) (ar_gd (d := (some 18)) (by show (((Int.tmod a b) != 0) == true) = true; rw [h2]; rfl) rfl (st_move (v := .int .i64 b) rfl rfl (ar_gd (d := (some 19)) (by show (((Int.tmod a b) != 0) == true) = true; rw [h2]; rfl) rfl (st_bi (r := .bool (decide (b < 0))) rfl rfl rfl (bi_lss rfl) ?_)))))))
   refine ar_gd (d := (some 20)) (by show (((Int.tmod a b) != 0) == true) = true; rw [h2]; rfl) rfl (st_bi (r := .bool ((decide (a < 0)) != (decide (b < 0)))) rfl rfl rfl (bb_neq Tryd.underlying4 rfl) (ao 21 rfl rfl (st_pkt' (b := (Int.tmod a b) != 0) (v := .bool ((decide (a < 0)) != (decide (b < 0)))) h2 rfl rfl rfl (aN ?_))))
   refine ac_mergeE (fun E9 => (((Env.put E9 (some 22) (.int .i64 (w64 (Int.tdiv a b)))).put (some 23) (.int .i64 (w64 ((w64 (Int.tdiv a b)) - 1)))).put (some 5) (.int .i64 (w64 ((w64 (Int.tdiv a b)) - 1))))) (fun E9 => (((Env.put E9 (some 22) (bif (decide (a < 0)) != (decide (b < 0)) then (.int .i64 (w64 (Int.tdiv a b)) : Value) else E9 22)).put (some 23) (bif (decide (a < 0)) != (decide (b < 0)) then (.int .i64 (w64 ((w64 (Int.tdiv a b)) - 1)) : Value) else E9 23)).put (some 5) (.int .i64 (numFloor_e0 a b)))) (b := (decide (a < 0)) != (decide (b < 0))) rfl (fun hm => ?_) (fun hm => ?_) (fun hm => ?_) ?_
   ·refine aL (aM 22 (.int .i64 (w64 (Int.tdiv a b))) rfl rfl (aB 23 (.int .i64 (w64 ((w64 (Int.tdiv a b)) - 1))) rfl rfl rfl (bi_sub rfl) (aA 5 (.int .i64 (w64 ((w64 (Int.tdiv a b)) - 1))) rfl rfl (aN ?_))))
    exact ⟨rfl, rfl, rfl⟩
   ·unfold numFloor_e0; rw [hm]; rfl
   ·unfold numFloor_e0; rw [hm]; exact ((put_self rfl).trans ((put_self rfl).trans (put_self rfl)))
   refine aQ (aL (aM 24 (.int .i64 (numFloor_e0 a b)) rfl rfl (aA 4 (.int .i64 (numFloor_e0 a b)) rfl rfl (aN (ac_ret (fin_eq (v := .int .i64 (numFloor_e0 a b)) (by show _ = (fun (r : Int) => (.int .i64 r : Value)) (numFloor a b); rw [numFloor, h2, h1] <;> rfl) (fin_ret (res_tmp rfl rfl))))))))
  ·refine aK 16 (by show (((Int.tmod a b) != 0) == true) = false; rw [h2]; rfl) rfl (aK 17 (by show (((Int.tmod a b) != 0) == true) = false; rw [h2]; rfl) rfl (aK 18 (by show (((Int.tmod a b) != 0) == true) = false; rw [h2]; rfl) rfl (aK 19 (by show (((Int.tmod a b) != 0) == true) = false; rw [h2]; rfl) rfl (aK 20 (by show (((Int.tmod a b) != 0) == true) = false; rw [h2]; rfl) rfl (ao 21 rfl rfl (st_pkf' (b := (Int.tmod a b) != 0) (v := .bool false) h2 rfl rfl rfl (aN (ac_else rfl (ac_skip (aQ (aL (aM 24 (.int .i64 (w64 (Int.tdiv a b))) rfl rfl (aA 4 (.int .i64 (w64 (Int.tdiv a b))) rfl rfl (aN (ac_ret ?_)))))))))))))))
   exact fin_eq (v := .int .i64 (w64 (Int.tdiv a b))) (by show _ = (fun (r : Int) => (.int .i64 r : Value)) (numFloor a b); rw [numFloor, h2, h1] <;> rfl) (fin_ret (res_tmp rfl rfl))
end Go.Proofs.YtalffjplbhelcaaDoor
namespace Go.Proofs.YtalffjplbhelcaaDoor
open Go.RowKit
attribute [local irreducible] AC AR DWalk
def decRight (d : Dec) : Bool := (bif decide (d.c ≥ (-100000000000)) then (bif decide (d.c ≤ 100000000000) then (bif decide (d.scale ≥ 0) then (bif decide (d.scale ≤ 6) then (bif d.scale == 0 then true else (Int.tmod d.c 10) != 0) else false) else false) else false) else false)
set_option maxRecDepth 100000 in
theorem c_decRight (d : Dec) : Gets Tryd.prog 21 #[.agg #[.int .i64 d.c, .int .i64 d.scale]] ((fun (r : Bool) => (.bool r : Value)) (decRight d)) := by
 refine gets_fin Tryd.func21 rfl rfl rfl (aQ (aL (ao 1 rfl rfl (st_box (v := .agg #[.int .i64 d.c, .int .i64 d.scale]) (cs := [.int .i64 d.c, .int .i64 d.scale]) rfl rfl rfl fun g0 => (aA 2 (.bool false) rfl rfl (aN (aQ (aL (aF 3 fa52_0 rfl rfl (aD 4 (.int .i64 d.c) cell3 0 rfl rfl rfl rfl (aB 5 (.bool (decide (d.c ≥ (-100000000000)))) rfl rfl rfl (bi_geq rfl) (aM 6 (.bool (decide (d.c ≥ (-100000000000)))) rfl rfl ?_))))))))))))
 refine bool_split (decide (d.c ≥ (-100000000000))) (fun h1 => ?_) (fun h1 => ?_)
 ·refine ar_gd (d := (some 7)) (by show ((decide (d.c ≥ (-100000000000))) == true) = true; rw [h1]; rfl) rfl (st_fa rfl fa52_0 rfl (ar_gd (d := (some 8)) (by show ((decide (d.c ≥ (-100000000000))) == true) = true; rw [h1]; rfl) rfl (st_ldc (v := .int .i64 d.c) cell3 0 rfl rfl rfl rfl rfl (ar_gd (d := (some 9)) (by show ((decide (d.c ≥ (-100000000000))) == true) = true; rw [h1]; rfl) rfl (st_bi (r := .bool (decide (d.c ≤ 100000000000))) rfl rfl rfl (bi_leq rfl) (ao 10 rfl rfl (st_pkt' (b := decide (d.c ≥ (-100000000000))) (v := .bool (decide (d.c ≤ 100000000000))) h1 rfl rfl rfl (aM 11 (.bool (decide (d.c ≤ 100000000000))) rfl rfl ?_))))))))
  refine bool_split (decide (d.c ≤ 100000000000)) (fun h2 => ?_) (fun h2 => ?_)
  ·refine ar_gd (d := (some 12)) (by show ((decide (d.c ≤ 100000000000)) == true) = true; rw [h2]; rfl) rfl (st_fa rfl fa52_1 rfl (ar_gd (d := (some 13)) (by show ((decide (d.c ≤ 100000000000)) == true) = true; rw [h2]; rfl) rfl (st_ldc (v := .int .i64 d.scale) cell3 0 rfl rfl rfl rfl rfl (ar_gd (d := (some 14)) (by show ((decide (d.c ≤ 100000000000)) == true) = true; rw [h2]; rfl) rfl (st_bi (r := .bool (decide (d.scale ≥ 0))) rfl rfl rfl (bi_geq rfl) (ao 15 rfl rfl (st_pkt' (b := decide (d.c ≤ 100000000000)) (v := .bool (decide (d.scale ≥ 0))) h2 rfl rfl rfl (aM 16 (.bool (decide (d.scale ≥ 0))) rfl rfl ?_))))))))
   refine bool_split (decide (d.scale ≥ 0)) (fun h3 => ?_) (fun h3 => ?_)
   ·refine ar_gd (d := (some 17)) (by show ((decide (d.scale ≥ 0)) == true) = true; rw [h3]; rfl) rfl (st_fa rfl fa52_1 rfl (ar_gd (d := (some 18)) (by show ((decide (d.scale ≥ 0)) == true) = true; rw [h3]; rfl) rfl (st_ldc (v := .int .i64 d.scale) cell3 0 rfl rfl rfl rfl rfl (ar_gd (d := (some 19)) (by show ((decide (d.scale ≥ 0)) == true) = true; rw [h3]; rfl) rfl (st_bi (r := .bool (decide (d.scale ≤ 6))) rfl rfl rfl (bi_leq rfl) (ao 20 rfl rfl (st_pkt' (b := decide (d.scale ≥ 0)) (v := .bool (decide (d.scale ≤ 6))) h3 rfl rfl rfl (aM 21 (.bool (decide (d.scale ≤ 6))) rfl rfl ?_))))))))
    refine bool_split (decide (d.scale ≤ 6)) (fun h4 => ?_) (fun h4 => ?_)
    ·refine ar_gd (d := (some 22)) (by show ((decide (d.scale ≤ 6)) == true) = true; rw [h4]; rfl) rfl (st_fa rfl fa52_1 rfl (ar_gd (d := (some 23)) (by show ((decide (d.scale ≤ 6)) == true) = true; rw [h4]; rfl) rfl (st_ldc (v := .int .i64 d.scale) cell3 0 rfl rfl rfl rfl rfl (ar_gd (d := (some 24)) (by show ((decide (d.scale ≤ 6)) == true) = true; rw [h4]; rfl) rfl (st_bi (r := .bool (d.scale == 0)) rfl rfl rfl (bi_eql rfl) (ar_gd (d := (some 25)) (by show ((decide (d.scale ≤ 6)) == true) = true; rw [h4]; rfl) rfl (st_move (v := .bool (d.scale == 0)) rfl rfl ?_)))))))
     refine bool_split (d.scale == 0) (fun h5 => ?_) (fun h5 => ?_)
     ·refine aK 26 (by show ((d.scale == 0) == false) = false; rw [h5]; rfl) rfl (aK 27 (by show ((d.scale == 0) == false) = false; rw [h5]; rfl) rfl (aK 28 (by show ((d.scale == 0) == false) = false; rw [h5]; rfl) rfl (aK 29 (by show ((d.scale == 0) == false) = false; rw [h5]; rfl) rfl (ar_gd (d := (some 30)) (by show ((decide (d.scale ≤ 6)) == true) = true; rw [h4]; rfl) rfl (st_pkt' (b := d.scale == 0) (v := .bool true) h5 rfl rfl rfl (ao 31 rfl rfl (st_pkt' (b := decide (d.scale ≤ 6)) (v := .bool true) h4 rfl rfl rfl (aA 2 (.bool true) rfl rfl (aN (ac_ret ?_))))))))))
      exact fin_eq (v := .bool true) (by show _ = (fun (r : Bool) => (.bool r : Value)) (decRight d); rw [decRight, h5, h4, h3, h2, h1] <;> rfl) (fin_ret (res_tmp rfl rfl))
     ·refine ar_gd (d := (some 26)) (by show ((d.scale == 0) == false) = true; rw [h5]; rfl) rfl (st_fa rfl fa52_0 rfl (ar_gd (d := (some 27)) (by show ((d.scale == 0) == false) = true; rw [h5]; rfl) rfl (st_ldc (v := .int .i64 d.c) cell3 0 rfl rfl rfl rfl rfl (ar_gd (d := (some 28)) (by show ((d.scale == 0) == false) = true; rw [h5]; rfl) rfl (st_bi (r := .int .i64 (Int.tmod d.c 10)) rfl rfl rfl (bi_rem (by decide) rfl) (ar_gd (d := (some 29)) (by show ((d.scale == 0) == false) = true; rw [h5]; rfl) rfl (st_bi (r := .bool ((Int.tmod d.c 10) != 0)) rfl rfl rfl (bi_neq rfl) ?_)))))))
      refine ar_gd (d := (some 30)) (by show ((decide (d.scale ≤ 6)) == true) = true; rw [h4]; rfl) rfl (st_pkf' (b := d.scale == 0) (v := .bool ((Int.tmod d.c 10) != 0)) h5 rfl rfl rfl (ao 31 rfl rfl (st_pkt' (b := decide (d.scale ≤ 6)) (v := .bool ((Int.tmod d.c 10) != 0)) h4 rfl rfl rfl (aA 2 (.bool ((Int.tmod d.c 10) != 0)) rfl rfl (aN (ac_ret (fin_eq (v := .bool ((Int.tmod d.c 10) != 0)) (by show _ = (fun (r : Bool) => (.bool r : Value)) (decRight d); rw [decRight, h5, h4, h3, h2, h1] <;> rfl) (fin_ret (res_tmp rfl rfl)))))))))
    ·refine aK 22 (by show ((decide (d.scale ≤ 6)) == true) = false; rw [h4]; rfl) rfl (aK 23 (by show ((decide (d.scale ≤ 6)) == true) = false; rw [h4]; rfl) rfl (aK 24 (by show ((decide (d.scale ≤ 6)) == true) = false; rw [h4]; rfl) rfl (aK 25 (by show ((decide (d.scale ≤ 6)) == true) = false; rw [h4]; rfl) rfl (aK 26 rfl rfl (aK 27 rfl rfl (aK 28 rfl rfl (aK 29 rfl rfl (aK 30 (by show ((decide (d.scale ≤ 6)) == true) = false; rw [h4]; rfl) rfl (ao 31 rfl rfl (st_pkf' (b := decide (d.scale ≤ 6)) (v := .bool false) h4 rfl rfl rfl (aA 2 (.bool false) rfl rfl (aN (ac_ret ?_)))))))))))))
     exact fin_eq (v := .bool false) (by show _ = (fun (r : Bool) => (.bool r : Value)) (decRight d); rw [decRight, h4, h3, h2, h1] <;> rfl) (fin_ret (res_tmp rfl rfl))
   ·refine aK 17 (by show ((decide (d.scale ≥ 0)) == true) = false; rw [h3]; rfl) rfl (aK 18 (by show ((decide (d.scale ≥ 0)) == true) = false; rw [h3]; rfl) rfl (aK 19 (by show ((decide (d.scale ≥ 0)) == true) = false; rw [h3]; rfl) rfl (ao 20 rfl rfl (st_pkf' (b := decide (d.scale ≥ 0)) (v := .bool false) h3 rfl rfl rfl (aM 21 (.bool false) rfl rfl (aK 22 rfl rfl (aK 23 rfl rfl (aK 24 rfl rfl (aK 25 rfl rfl (aK 26 rfl rfl (aK 27 rfl rfl (aK 28 rfl rfl (aK 29 rfl rfl (aK 30 rfl rfl (ao 31 rfl rfl (st_pkf (v := .bool false) rfl rfl rfl (aA 2 (.bool false) rfl rfl (aN (ac_ret ?_)))))))))))))))))))
    exact fin_eq (v := .bool false) (by show _ = (fun (r : Bool) => (.bool r : Value)) (decRight d); rw [decRight, h3, h2, h1] <;> rfl) (fin_ret (res_tmp rfl rfl))
  ·refine aK 12 (by show ((decide (d.c ≤ 100000000000)) == true) = false; rw [h2]; rfl) rfl (aK 13 (by show ((decide (d.c ≤ 100000000000)) == true) = false; rw [h2]; rfl) rfl (aK 14 (by show ((decide (d.c ≤ 100000000000)) == true) = false; rw [h2]; rfl) rfl (ao 15 rfl rfl (st_pkf' (b := decide (d.c ≤ 100000000000)) (v := .bool false) h2 rfl rfl rfl (aM 16 (.bool false) rfl rfl (aK 17 rfl rfl (aK 18 rfl rfl (aK 19 rfl rfl (ao 20 rfl rfl (st_pkf (v := .bool false) rfl rfl rfl (aM 21 (.bool false) rfl rfl (aK 22 rfl rfl (aK 23 rfl rfl (aK 24 rfl rfl (aK 25 rfl rfl (aK 26 rfl rfl (aK 27 rfl rfl (aK 28 rfl rfl (aK 29 rfl rfl (aK 30 rfl rfl ?_))))))))))))))))))))
   refine ao 31 rfl rfl (st_pkf (v := .bool false) rfl rfl rfl (aA 2 (.bool false) rfl rfl (aN (ac_ret (fin_eq (v := .bool false) (by show _ = (fun (r : Bool) => (.bool r : Value)) (decRight d); rw [decRight, h2, h1] <;> rfl) (fin_ret (res_tmp rfl rfl)))))))
 ·refine aK 7 (by show ((decide (d.c ≥ (-100000000000))) == true) = false; rw [h1]; rfl) rfl (aK 8 (by show ((decide (d.c ≥ (-100000000000))) == true) = false; rw [h1]; rfl) rfl (aK 9 (by show ((decide (d.c ≥ (-100000000000))) == true) = false; rw [h1]; rfl) rfl (ao 10 rfl rfl (st_pkf' (b := decide (d.c ≥ (-100000000000))) (v := .bool false) h1 rfl rfl rfl (aM 11 (.bool false) rfl rfl (aK 12 rfl rfl (aK 13 rfl rfl (aK 14 rfl rfl (ao 15 rfl rfl (st_pkf (v := .bool false) rfl rfl rfl (aM 16 (.bool false) rfl rfl (aK 17 rfl rfl (aK 18 rfl rfl (aK 19 rfl rfl (ao 20 rfl rfl (st_pkf (v := .bool false) rfl rfl rfl (aM 21 (.bool false) rfl rfl (aK 22 rfl rfl ?_))))))))))))))))))
  refine aK 23 rfl rfl (aK 24 rfl rfl (aK 25 rfl rfl (aK 26 rfl rfl (aK 27 rfl rfl (aK 28 rfl rfl (aK 29 rfl rfl (aK 30 rfl rfl (ao 31 rfl rfl (st_pkf (v := .bool false) rfl rfl rfl (aA 2 (.bool false) rfl rfl (aN (ac_ret (fin_eq (v := .bool false) (by show _ = (fun (r : Bool) => (.bool r : Value)) (decRight d); rw [decRight, h1] <;> rfl) (fin_ret (res_tmp rfl rfl)))))))))))))))
def decPow0  : Int := 1
set_option maxRecDepth 100000 in
theorem c_decPow0  : Gets Tryd.prog 44 #[.int .i64 0] ((fun (r : Int) => (.int .i64 r : Value)) decPow0) := by
 refine gets_fin Tryd.func44 rfl rfl rfl (aQ (aL (aA 2 (.int .i64 0) rfl rfl (aN (aQ (aL (aA 3 (.int .i64 1) rfl rfl (aN (aQ (aQ (aL (aM 4 (.int .i64 0) rfl rfl (aM 5 (.int .i64 0) rfl rfl (aN (ac_block ?_)))))))))))))))
 refine ac_rounds 61 (ar_round (aQ (aL (aB 6 (.bool false) rfl rfl rfl (bi_lss (by decide)) (aN (aQ (ac_else rfl (ac_exit (aQ (aL (aM 10 (.int .i64 1) rfl rfl (aA 2 (.int .i64 1) rfl rfl (aN (ac_ret (fin_eq (v := .int .i64 1) rfl (fin_ret (res_tmp rfl rfl)))))))))))))))))
def decPow1  : Int := 10
set_option maxRecDepth 100000 in
theorem c_decPow1  : Gets Tryd.prog 44 #[.int .i64 1] ((fun (r : Int) => (.int .i64 r : Value)) decPow1) := by
 refine gets_fin Tryd.func44 rfl rfl rfl (aQ (aL (aA 2 (.int .i64 0) rfl rfl (aN (aQ (aL (aA 3 (.int .i64 1) rfl rfl (aN (aQ (aQ (aL (aM 4 (.int .i64 1) rfl rfl (aM 5 (.int .i64 0) rfl rfl (aN (ac_block ?_)))))))))))))))
 refine ac_rounds 61 (ar_round (aQ (aL (aB 6 (.bool true) rfl rfl rfl (bi_lss (by decide)) (aN (aQ (ac_then rfl (ac_skip (aQ (ac_block (aL (aM 7 (.int .i64 1) rfl rfl (aB 8 (.int .i64 10) rfl rfl rfl (bi_mul (by decide)) (aA 3 (.int .i64 10) rfl rfl (aN (aL (aB 9 (.int .i64 1) rfl rfl rfl (bi_add (by decide)) (aM 5 (.int .i64 1) rfl rfl (aN (ar_round (aQ (aL (aB 6 (.bool false) rfl rfl rfl (bi_lss (by decide)) (aN (aQ (ac_else rfl (ac_exit (aQ (aL (aM 10 (.int .i64 10) rfl rfl (aA 2 (.int .i64 10) rfl rfl (aN (ac_ret (fin_eq (v := .int .i64 10) rfl (fin_ret (res_tmp rfl rfl))))))))))))))))))))))))))))))))))))
def decPow2  : Int := 100
set_option maxRecDepth 100000 in
theorem c_decPow2  : Gets Tryd.prog 44 #[.int .i64 2] ((fun (r : Int) => (.int .i64 r : Value)) decPow2) := by
 refine gets_fin Tryd.func44 rfl rfl rfl (aQ (aL (aA 2 (.int .i64 0) rfl rfl (aN (aQ (aL (aA 3 (.int .i64 1) rfl rfl (aN (aQ (aQ (aL (aM 4 (.int .i64 2) rfl rfl (aM 5 (.int .i64 0) rfl rfl (aN (ac_block ?_)))))))))))))))
 refine ac_rounds 61 (ar_round (aQ (aL (aB 6 (.bool true) rfl rfl rfl (bi_lss (by decide)) (aN (aQ (ac_then rfl (ac_skip (aQ (ac_block (aL (aM 7 (.int .i64 1) rfl rfl (aB 8 (.int .i64 10) rfl rfl rfl (bi_mul (by decide)) (aA 3 (.int .i64 10) rfl rfl (aN (aL (aB 9 (.int .i64 1) rfl rfl rfl (bi_add (by decide)) (aM 5 (.int .i64 1) rfl rfl (aN (ar_round (aQ (aL (aB 6 (.bool true) rfl rfl rfl (bi_lss (by decide)) (aN (aQ (ac_then rfl (ac_skip (aQ (ac_block (aL (aM 7 (.int .i64 10) rfl rfl (aB 8 (.int .i64 100) rfl rfl rfl (bi_mul (by decide)) (aA 3 (.int .i64 100) rfl rfl (aN (aL (aB 9 (.int .i64 2) rfl rfl rfl (bi_add (by decide)) ?_))))))))))))))))))))))))))))))))))))
 refine aM 5 (.int .i64 2) rfl rfl (aN (ar_round (aQ (aL (aB 6 (.bool false) rfl rfl rfl (bi_lss (by decide)) (aN (aQ (ac_else rfl (ac_exit (aQ (aL (aM 10 (.int .i64 100) rfl rfl (aA 2 (.int .i64 100) rfl rfl (aN (ac_ret (fin_eq (v := .int .i64 100) rfl (fin_ret (res_tmp rfl rfl))))))))))))))))))
def decPow3  : Int := 1000
set_option maxRecDepth 100000 in
theorem c_decPow3  : Gets Tryd.prog 44 #[.int .i64 3] ((fun (r : Int) => (.int .i64 r : Value)) decPow3) := by
 refine gets_fin Tryd.func44 rfl rfl rfl (aQ (aL (aA 2 (.int .i64 0) rfl rfl (aN (aQ (aL (aA 3 (.int .i64 1) rfl rfl (aN (aQ (aQ (aL (aM 4 (.int .i64 3) rfl rfl (aM 5 (.int .i64 0) rfl rfl (aN (ac_block ?_)))))))))))))))
 refine ac_rounds 61 (ar_round (aQ (aL (aB 6 (.bool true) rfl rfl rfl (bi_lss (by decide)) (aN (aQ (ac_then rfl (ac_skip (aQ (ac_block (aL (aM 7 (.int .i64 1) rfl rfl (aB 8 (.int .i64 10) rfl rfl rfl (bi_mul (by decide)) (aA 3 (.int .i64 10) rfl rfl (aN (aL (aB 9 (.int .i64 1) rfl rfl rfl (bi_add (by decide)) (aM 5 (.int .i64 1) rfl rfl (aN (ar_round (aQ (aL (aB 6 (.bool true) rfl rfl rfl (bi_lss (by decide)) (aN (aQ (ac_then rfl (ac_skip (aQ (ac_block (aL (aM 7 (.int .i64 10) rfl rfl (aB 8 (.int .i64 100) rfl rfl rfl (bi_mul (by decide)) (aA 3 (.int .i64 100) rfl rfl (aN (aL (aB 9 (.int .i64 2) rfl rfl rfl (bi_add (by decide)) ?_))))))))))))))))))))))))))))))))))))
 refine aM 5 (.int .i64 2) rfl rfl (aN (ar_round (aQ (aL (aB 6 (.bool true) rfl rfl rfl (bi_lss (by decide)) (aN (aQ (ac_then rfl (ac_skip (aQ (ac_block (aL (aM 7 (.int .i64 100) rfl rfl (aB 8 (.int .i64 1000) rfl rfl rfl (bi_mul (by decide)) (aA 3 (.int .i64 1000) rfl rfl (aN (aL (aB 9 (.int .i64 3) rfl rfl rfl (bi_add (by decide)) (aM 5 (.int .i64 3) rfl rfl (aN (ar_round (aQ (aL (aB 6 (.bool false) rfl rfl rfl (bi_lss (by decide)) (aN (aQ (ac_else rfl (ac_exit (aQ (aL (aM 10 (.int .i64 1000) rfl rfl (aA 2 (.int .i64 1000) rfl rfl (aN (ac_ret (fin_eq (v := .int .i64 1000) rfl (fin_ret (res_tmp rfl rfl)))))))))))))))))))))))))))))))))))))
def decPow4  : Int := 10000
set_option maxRecDepth 100000 in
theorem c_decPow4  : Gets Tryd.prog 44 #[.int .i64 4] ((fun (r : Int) => (.int .i64 r : Value)) decPow4) := by
 refine gets_fin Tryd.func44 rfl rfl rfl (aQ (aL (aA 2 (.int .i64 0) rfl rfl (aN (aQ (aL (aA 3 (.int .i64 1) rfl rfl (aN (aQ (aQ (aL (aM 4 (.int .i64 4) rfl rfl (aM 5 (.int .i64 0) rfl rfl (aN (ac_block ?_)))))))))))))))
 refine ac_rounds 61 (ar_round (aQ (aL (aB 6 (.bool true) rfl rfl rfl (bi_lss (by decide)) (aN (aQ (ac_then rfl (ac_skip (aQ (ac_block (aL (aM 7 (.int .i64 1) rfl rfl (aB 8 (.int .i64 10) rfl rfl rfl (bi_mul (by decide)) (aA 3 (.int .i64 10) rfl rfl (aN (aL (aB 9 (.int .i64 1) rfl rfl rfl (bi_add (by decide)) (aM 5 (.int .i64 1) rfl rfl (aN (ar_round (aQ (aL (aB 6 (.bool true) rfl rfl rfl (bi_lss (by decide)) (aN (aQ (ac_then rfl (ac_skip (aQ (ac_block (aL (aM 7 (.int .i64 10) rfl rfl (aB 8 (.int .i64 100) rfl rfl rfl (bi_mul (by decide)) (aA 3 (.int .i64 100) rfl rfl (aN (aL (aB 9 (.int .i64 2) rfl rfl rfl (bi_add (by decide)) ?_))))))))))))))))))))))))))))))))))))
 refine aM 5 (.int .i64 2) rfl rfl (aN (ar_round (aQ (aL (aB 6 (.bool true) rfl rfl rfl (bi_lss (by decide)) (aN (aQ (ac_then rfl (ac_skip (aQ (ac_block (aL (aM 7 (.int .i64 100) rfl rfl (aB 8 (.int .i64 1000) rfl rfl rfl (bi_mul (by decide)) (aA 3 (.int .i64 1000) rfl rfl (aN (aL (aB 9 (.int .i64 3) rfl rfl rfl (bi_add (by decide)) (aM 5 (.int .i64 3) rfl rfl (aN (ar_round (aQ (aL (aB 6 (.bool true) rfl rfl rfl (bi_lss (by decide)) (aN (aQ (ac_then rfl (ac_skip (aQ (ac_block (aL (aM 7 (.int .i64 1000) rfl rfl (aB 8 (.int .i64 10000) rfl rfl rfl (bi_mul (by decide)) (aA 3 (.int .i64 10000) rfl rfl (aN (aL ?_))))))))))))))))))))))))))))))))))))
 refine aB 9 (.int .i64 4) rfl rfl rfl (bi_add (by decide)) (aM 5 (.int .i64 4) rfl rfl (aN (ar_round (aQ (aL (aB 6 (.bool false) rfl rfl rfl (bi_lss (by decide)) (aN (aQ (ac_else rfl (ac_exit (aQ (aL (aM 10 (.int .i64 10000) rfl rfl (aA 2 (.int .i64 10000) rfl rfl (aN (ac_ret (fin_eq (v := .int .i64 10000) rfl (fin_ret (res_tmp rfl rfl)))))))))))))))))))
def decPow5  : Int := 100000
set_option maxRecDepth 100000 in
theorem c_decPow5  : Gets Tryd.prog 44 #[.int .i64 5] ((fun (r : Int) => (.int .i64 r : Value)) decPow5) := by
 refine gets_fin Tryd.func44 rfl rfl rfl (aQ (aL (aA 2 (.int .i64 0) rfl rfl (aN (aQ (aL (aA 3 (.int .i64 1) rfl rfl (aN (aQ (aQ (aL (aM 4 (.int .i64 5) rfl rfl (aM 5 (.int .i64 0) rfl rfl (aN (ac_block ?_)))))))))))))))
 refine ac_rounds 61 (ar_round (aQ (aL (aB 6 (.bool true) rfl rfl rfl (bi_lss (by decide)) (aN (aQ (ac_then rfl (ac_skip (aQ (ac_block (aL (aM 7 (.int .i64 1) rfl rfl (aB 8 (.int .i64 10) rfl rfl rfl (bi_mul (by decide)) (aA 3 (.int .i64 10) rfl rfl (aN (aL (aB 9 (.int .i64 1) rfl rfl rfl (bi_add (by decide)) (aM 5 (.int .i64 1) rfl rfl (aN (ar_round (aQ (aL (aB 6 (.bool true) rfl rfl rfl (bi_lss (by decide)) (aN (aQ (ac_then rfl (ac_skip (aQ (ac_block (aL (aM 7 (.int .i64 10) rfl rfl (aB 8 (.int .i64 100) rfl rfl rfl (bi_mul (by decide)) (aA 3 (.int .i64 100) rfl rfl (aN (aL (aB 9 (.int .i64 2) rfl rfl rfl (bi_add (by decide)) ?_))))))))))))))))))))))))))))))))))))
 refine aM 5 (.int .i64 2) rfl rfl (aN (ar_round (aQ (aL (aB 6 (.bool true) rfl rfl rfl (bi_lss (by decide)) (aN (aQ (ac_then rfl (ac_skip (aQ (ac_block (aL (aM 7 (.int .i64 100) rfl rfl (aB 8 (.int .i64 1000) rfl rfl rfl (bi_mul (by decide)) (aA 3 (.int .i64 1000) rfl rfl (aN (aL (aB 9 (.int .i64 3) rfl rfl rfl (bi_add (by decide)) (aM 5 (.int .i64 3) rfl rfl (aN (ar_round (aQ (aL (aB 6 (.bool true) rfl rfl rfl (bi_lss (by decide)) (aN (aQ (ac_then rfl (ac_skip (aQ (ac_block (aL (aM 7 (.int .i64 1000) rfl rfl (aB 8 (.int .i64 10000) rfl rfl rfl (bi_mul (by decide)) (aA 3 (.int .i64 10000) rfl rfl (aN (aL ?_))))))))))))))))))))))))))))))))))))
 refine aB 9 (.int .i64 4) rfl rfl rfl (bi_add (by decide)) (aM 5 (.int .i64 4) rfl rfl (aN (ar_round (aQ (aL (aB 6 (.bool true) rfl rfl rfl (bi_lss (by decide)) (aN (aQ (ac_then rfl (ac_skip (aQ (ac_block (aL (aM 7 (.int .i64 10000) rfl rfl (aB 8 (.int .i64 100000) rfl rfl rfl (bi_mul (by decide)) (aA 3 (.int .i64 100000) rfl rfl (aN (aL (aB 9 (.int .i64 5) rfl rfl rfl (bi_add (by decide)) (aM 5 (.int .i64 5) rfl rfl (aN (ar_round (aQ (aL (aB 6 (.bool false) rfl rfl rfl (bi_lss (by decide)) (aN (aQ (ac_else rfl (ac_exit (aQ (aL (aM 10 (.int .i64 100000) rfl rfl (aA 2 (.int .i64 100000) rfl rfl (aN (ac_ret ?_)))))))))))))))))))))))))))))))))))
 exact fin_eq (v := .int .i64 100000) rfl (fin_ret (res_tmp rfl rfl))
def decPow6  : Int := 1000000
set_option maxRecDepth 100000 in
theorem c_decPow6  : Gets Tryd.prog 44 #[.int .i64 6] ((fun (r : Int) => (.int .i64 r : Value)) decPow6) := by
 refine gets_fin Tryd.func44 rfl rfl rfl (aQ (aL (aA 2 (.int .i64 0) rfl rfl (aN (aQ (aL (aA 3 (.int .i64 1) rfl rfl (aN (aQ (aQ (aL (aM 4 (.int .i64 6) rfl rfl (aM 5 (.int .i64 0) rfl rfl (aN (ac_block ?_)))))))))))))))
 refine ac_rounds 61 (ar_round (aQ (aL (aB 6 (.bool true) rfl rfl rfl (bi_lss (by decide)) (aN (aQ (ac_then rfl (ac_skip (aQ (ac_block (aL (aM 7 (.int .i64 1) rfl rfl (aB 8 (.int .i64 10) rfl rfl rfl (bi_mul (by decide)) (aA 3 (.int .i64 10) rfl rfl (aN (aL (aB 9 (.int .i64 1) rfl rfl rfl (bi_add (by decide)) (aM 5 (.int .i64 1) rfl rfl (aN (ar_round (aQ (aL (aB 6 (.bool true) rfl rfl rfl (bi_lss (by decide)) (aN (aQ (ac_then rfl (ac_skip (aQ (ac_block (aL (aM 7 (.int .i64 10) rfl rfl (aB 8 (.int .i64 100) rfl rfl rfl (bi_mul (by decide)) (aA 3 (.int .i64 100) rfl rfl (aN (aL (aB 9 (.int .i64 2) rfl rfl rfl (bi_add (by decide)) ?_))))))))))))))))))))))))))))))))))))
 refine aM 5 (.int .i64 2) rfl rfl (aN (ar_round (aQ (aL (aB 6 (.bool true) rfl rfl rfl (bi_lss (by decide)) (aN (aQ (ac_then rfl (ac_skip (aQ (ac_block (aL (aM 7 (.int .i64 100) rfl rfl (aB 8 (.int .i64 1000) rfl rfl rfl (bi_mul (by decide)) (aA 3 (.int .i64 1000) rfl rfl (aN (aL (aB 9 (.int .i64 3) rfl rfl rfl (bi_add (by decide)) (aM 5 (.int .i64 3) rfl rfl (aN (ar_round (aQ (aL (aB 6 (.bool true) rfl rfl rfl (bi_lss (by decide)) (aN (aQ (ac_then rfl (ac_skip (aQ (ac_block (aL (aM 7 (.int .i64 1000) rfl rfl (aB 8 (.int .i64 10000) rfl rfl rfl (bi_mul (by decide)) (aA 3 (.int .i64 10000) rfl rfl (aN (aL ?_))))))))))))))))))))))))))))))))))))
 refine aB 9 (.int .i64 4) rfl rfl rfl (bi_add (by decide)) (aM 5 (.int .i64 4) rfl rfl (aN (ar_round (aQ (aL (aB 6 (.bool true) rfl rfl rfl (bi_lss (by decide)) (aN (aQ (ac_then rfl (ac_skip (aQ (ac_block (aL (aM 7 (.int .i64 10000) rfl rfl (aB 8 (.int .i64 100000) rfl rfl rfl (bi_mul (by decide)) (aA 3 (.int .i64 100000) rfl rfl (aN (aL (aB 9 (.int .i64 5) rfl rfl rfl (bi_add (by decide)) (aM 5 (.int .i64 5) rfl rfl (aN (ar_round (aQ (aL (aB 6 (.bool true) rfl rfl rfl (bi_lss (by decide)) (aN (aQ (ac_then rfl (ac_skip (aQ (ac_block (aL (aM 7 (.int .i64 100000) rfl rfl (aB 8 (.int .i64 1000000) rfl rfl rfl (bi_mul (by decide)) ?_))))))))))))))))))))))))))))))))))
 refine aA 3 (.int .i64 1000000) rfl rfl (aN (aL (aB 9 (.int .i64 6) rfl rfl rfl (bi_add (by decide)) (aM 5 (.int .i64 6) rfl rfl (aN (ar_round (aQ (aL (aB 6 (.bool false) rfl rfl rfl (bi_lss (by decide)) (aN (aQ (ac_else rfl (ac_exit (aQ (aL (aM 10 (.int .i64 1000000) rfl rfl (aA 2 (.int .i64 1000000) rfl rfl (aN (ac_ret (fin_eq (v := .int .i64 1000000) rfl (fin_ret (res_tmp rfl rfl))))))))))))))))))))))
end Go.Proofs.YtalffjplbhelcaaDoor
namespace Go.Proofs.YtalffjplbhelcaaDoor
def decPower (n : Int) : Int := 10 ^ n.toNat
theorem c_decPower (n : Int) (h : 0 ≤ n ∧ n ≤ 6) : Gets Tryd.prog 44 #[.int .i64 n] ((fun (r : Int) => (.int .i64 r : Value)) (decPower n)) := by
  rcases (by omega : n = 0 ∨ n = 1 ∨ n = 2 ∨ n = 3 ∨ n = 4 ∨ n = 5 ∨ n = 6) with rfl | rfl | rfl | rfl | rfl | rfl | rfl
  · exact c_decPow0
  · exact c_decPow1
  · exact c_decPow2
  · exact c_decPow3
  · exact c_decPow4
  · exact c_decPow5
  · exact c_decPow6
theorem pow_ok (d : Dec) (h : decRight d = true) : 0 ≤ d.scale ∧ d.scale ≤ 6 := by
  unfold decRight at h
  simp only [Bool.cond_eq_ite, Bool.ite_eq_true_distrib] at h
  simp at h
  omega
end Go.Proofs.YtalffjplbhelcaaDoor
namespace Go.Proofs.YtalffjplbhelcaaDoor
theorem dr_bounds {d : Dec} (h : decRight d = true) : -100000000000 ≤ d.c ∧ d.c ≤ 100000000000 ∧ 0 ≤ d.scale ∧ d.scale ≤ 6 := by
  unfold decRight at h
  simp only [Bool.cond_eq_ite, Bool.ite_eq_true_distrib] at h
  simp at h
  omega
end Go.Proofs.YtalffjplbhelcaaDoor
namespace Go.Proofs.YtalffjplbhelcaaDoor
def ito (d : Dec) : ByteArray := lItoa (max d.c (w64 (0 - d.c)))
theorem ito_lo {d : Dec} (h : decRight d = true) : -9223372036854775808 ≤ max d.c (w64 (0 - d.c)) := by
  have := dr_bounds h
  rw [w64_in (by omega)]
  omega
theorem ito_hi {d : Dec} (h : decRight d = true) : max d.c (w64 (0 - d.c)) ≤ 9223372036854775807 := by
  have := dr_bounds h
  rw [w64_in (by omega)]
  omega
theorem ito_sz {d : Dec} (h : decRight d = true) : (ito d).size ≤ 21 := by
  unfold ito lItoa
  rw [byA_size]
  exact Lib.itoa_length_le _ (ito_lo h) (ito_hi h)
def padN (d : Dec) : Int := max 0 (w64 (w64 (d.scale + 1) - ((ito d).size : Int)))
theorem padN_eq {d : Dec} (h : decRight d = true) : padN d = max 0 (d.scale + 1 - ((ito d).size : Int)) := by
  have := dr_bounds h
  have := ito_sz h
  unfold padN
  rw [w64_in (n := d.scale + 1) (by omega), w64_in (by omega)]
theorem pad_lo (d : Dec) : 0 ≤ padN d := by unfold padN; omega
theorem pad_le {d : Dec} (h : decRight d = true) : padN d ≤ 1000 := by
  have := dr_bounds h
  rw [padN_eq h]
  omega
def zer (d : Dec) : ByteArray := lRepeat (⟨#[48]⟩ : ByteArray) (padN d)
theorem rep_len : ∀ (k : Nat) (l : List UInt8), (Lib.repeatL l k).length = k * l.length
  | 0, l => by simp [Lib.repeatL]
  | k + 1, l => by
    have := rep_len k l
    simp only [Lib.repeatL, List.replicate_succ, List.flatten_cons, List.length_append] at this ⊢
    rw [this, Nat.succ_mul, Nat.add_comm]
theorem zer_size (d : Dec) : ((zer d).size : Int) = padN d := by
  unfold zer lRepeat
  rw [byA_size, rep_len]
  have := pad_lo d
  simp
  omega
theorem zer_sz {d : Dec} (h : decRight d = true) : (zer d).size ≤ 1000 := by
  have := zer_size d
  have := pad_le h
  omega
theorem pad_all {d : Dec} (h : decRight d = true) : w64 (((zer d ++ ito d).size : Int) - d.scale) = ((zer d ++ ito d).size : Int) - d.scale ∧ d.scale + 1 ≤ ((zer d ++ ito d).size : Int) := by
  have h1 := dr_bounds h
  have h2 := zer_size d
  have h3 := padN_eq h
  have h4 := ito_sz h
  have h5 := zer_sz h
  rw [ByteArray.size_append', w64_in (by omega)]
  omega
theorem pad_hi {d : Dec} (h : decRight d = true) : 0 ≤ w64 (((zer d ++ ito d).size : Int) - d.scale) ∧ w64 (((zer d ++ ito d).size : Int) - d.scale) ≤ ((zer d ++ ito d).size : Int) := by
  have h1 := dr_bounds h
  have h2 := pad_all h
  rw [h2.1]
  omega
end Go.Proofs.YtalffjplbhelcaaDoor
namespace Go.Proofs.YtalffjplbhelcaaDoor
open Go.RowKit
attribute [local irreducible] AC AR DWalk
def decPrint (d : Dec) : ByteArray := (bif decRight d then (bif decide ((((subS ((zer d) ++ (ito d)) 0 (w64 (((((zer d) ++ (ito d))).size : Int) - d.scale)))).size : Int) > 5) then (⟨#[]⟩ : ByteArray) else (bif decide (d.c < 0) then (bif sEq (subS ((zer d) ++ (ito d)) (w64 (((((zer d) ++ (ito d))).size : Int) - d.scale)) ((((zer d) ++ (ito d))).size : Int)) (⟨#[]⟩ : ByteArray) then ((⟨#[45]⟩ : ByteArray) ++ (subS ((zer d) ++ (ito d)) 0 (w64 (((((zer d) ++ (ito d))).size : Int) - d.scale)))) else ((((⟨#[45]⟩ : ByteArray) ++ (subS ((zer d) ++ (ito d)) 0 (w64 (((((zer d) ++ (ito d))).size : Int) - d.scale)))) ++ (⟨#[46]⟩ : ByteArray)) ++ (subS ((zer d) ++ (ito d)) (w64 (((((zer d) ++ (ito d))).size : Int) - d.scale)) ((((zer d) ++ (ito d))).size : Int)))) else (bif sEq (subS ((zer d) ++ (ito d)) (w64 (((((zer d) ++ (ito d))).size : Int) - d.scale)) ((((zer d) ++ (ito d))).size : Int)) (⟨#[]⟩ : ByteArray) then (subS ((zer d) ++ (ito d)) 0 (w64 (((((zer d) ++ (ito d))).size : Int) - d.scale))) else (((subS ((zer d) ++ (ito d)) 0 (w64 (((((zer d) ++ (ito d))).size : Int) - d.scale))) ++ (⟨#[46]⟩ : ByteArray)) ++ (subS ((zer d) ++ (ito d)) (w64 (((((zer d) ++ (ito d))).size : Int) - d.scale)) ((((zer d) ++ (ito d))).size : Int)))))) else (⟨#[]⟩ : ByteArray))
set_option maxRecDepth 100000 in
theorem c_decPrint (d : Dec) (tP : Nat) : Gives Tryd.prog 18 #[.agg #[.int .i64 d.c, .int .i64 d.scale]] [powBox tP] (fun u N => u = ((fun (r : ByteArray) => (.string r : Value)) (decPrint d)) ∧ N = []) := by
 refine gives_fin Tryd.func18 rfl rfl rfl rfl (AC.mono ?_ (fun e E H h => fing_v h rfl))
 refine aQ (aL (ao 1 rfl rfl (st_box (v := .agg #[.int .i64 d.c, .int .i64 d.scale]) (cs := [.int .i64 d.c, .int .i64 d.scale]) rfl rfl rfl fun g0 => (aA 2 (.string (⟨#[]⟩ : ByteArray)) rfl rfl (aN (aQ (aQ (aL (aG 6 [.int .i64 d.c, .int .i64 d.scale] agg52 0 rfl rfl rfl rfl rfl (aC 7 (c_decRight d) Tryd.func21 ⟨rfl, by decide⟩ rfl rfl (ao 8 rfl rfl (st_un (v := .bool (!(decRight d))) rfl rfl (un_not rfl) (aN ?_)))))))))))))
 refine bool_split (decRight d) (fun h1 => ?_) (fun h1 => ?_)
 ·refine ac_else' (b := !(decRight d)) (by rw [h1]; rfl) rfl (ac_skip (aQ (aL (aF 9 fa52_0 rfl rfl (aD 10 (.int .i64 d.c) cell3 0 rfl rfl rfl rfl (aF 11 fa52_0 rfl rfl (aD 12 (.int .i64 d.c) cell3 0 rfl rfl rfl rfl (ao 13 rfl rfl (st_un (v := .int .i64 (w64 (0 - d.c))) rfl rfl (un_neg rfl) (ao 14 rfl rfl (st_mx (x := d.c) (y := (w64 (0 - d.c))) (c := (max d.c (w64 (0 - d.c)))) rfl rfl rfl (ao 15 rfl rfl (st_gr (R := [powBox tP]) (r := .string (ito d)) (c_lItoa tP _ (ito_lo h1) (ito_hi h1)) Tryd.func42 rfl (by decide) rfl rfl rfl (has_cons 1 _ rfl rfl rfl rfl has_nil) (by simp) (aA 3 (.string (ito d)) rfl rfl (aN (aQ (aL (aF 16 fa52_1 rfl rfl ?_))))))))))))))))))
  refine aD 17 (.int .i64 d.scale) cell3 0 rfl rfl rfl rfl (aB 18 (.int .i64 (w64 (d.scale + 1))) rfl rfl rfl (bi_add rfl) (aM 19 (.string (ito d)) rfl rfl (ao 20 rfl rfl (st_slen (s := (ito d)) rfl Tryd.underlying9 rfl (aB 21 (.int .i64 (w64 ((w64 (d.scale + 1)) - (((ito d)).size : Int)))) rfl rfl rfl (bi_sub rfl) (ao 22 rfl rfl (st_mx (x := 0) (y := (w64 ((w64 (d.scale + 1)) - (((ito d)).size : Int)))) (c := (max 0 (w64 ((w64 (d.scale + 1)) - (((ito d)).size : Int))))) rfl rfl rfl (aC 23 (c_lRepeat (⟨#[48]⟩ : ByteArray) (padN d) (pad_lo d) (pad_le h1) (by decide)) Tryd.func43 ⟨rfl, by decide⟩ rfl rfl (aM 24 (.string (ito d)) rfl rfl ?_)))))))))
  refine aB 25 (.string ((zer d) ++ (ito d))) rfl rfl rfl (bi_sadd (sz_two (zer_sz h1) (ito_sz h1) (by decide))) (aA 3 (.string ((zer d) ++ (ito d))) rfl rfl (aN (aQ ?_)))
  refine ac_draw0 (id := 5) [0, 1, 2, 3, 4, 5, 6, 7, 8, 9, 10, 11, 12, 13, 14, 15] [] _ (by kernel_rfl) follows rfl  (dw_op (d := some 26) _ rfl rfl rfl (st_move (v := .string ((zer d) ++ (ito d))) rfl rfl ⟨rfl, rfl⟩) (dw_op (d := some 27) _ rfl rfl rfl (st_move (v := .string ((zer d) ++ (ito d))) rfl rfl ⟨rfl, rfl⟩) (dw_op (d := some 28) _ rfl rfl rfl (st_slen (s := ((zer d) ++ (ito d))) rfl Tryd.underlying9 rfl ⟨rfl, rfl⟩) (dw_op (d := some 29) _ rfl rfl rfl (st_fa rfl fa52_1 rfl ⟨rfl, rfl⟩) (dw_op (d := some 30) _ rfl rfl rfl (st_ldc (v := .int .i64 d.scale) cell3 0 rfl rfl rfl rfl rfl ⟨rfl, rfl⟩) ?_)))))
  refine dw_op (d := some 31) _ rfl rfl rfl (st_bi (r := .int .i64 (w64 (((((zer d) ++ (ito d))).size : Int) - d.scale))) rfl rfl rfl (bi_sub rfl) ⟨rfl, rfl⟩) (dw_op (d := some 32) _ rfl rfl rfl (st_ssh (pad_hi h1) rfl Tryd.underlying9 rfl rfl ⟨rfl, rfl⟩) (dw_op (d := some 33) _ rfl rfl rfl (st_move (v := .string ((zer d) ++ (ito d))) rfl rfl ⟨rfl, rfl⟩) (dw_op (d := some 34) _ rfl rfl rfl (st_move (v := .string ((zer d) ++ (ito d))) rfl rfl ⟨rfl, rfl⟩) (dw_op (d := some 35) _ rfl rfl rfl (st_slen (s := ((zer d) ++ (ito d))) rfl Tryd.underlying9 rfl ⟨rfl, rfl⟩) (dw_op (d := some 36) _ rfl rfl rfl (st_fa rfl fa52_1 rfl ⟨rfl, rfl⟩) ?_)))))
  refine dw_op (d := some 37) _ rfl rfl rfl (st_ldc (v := .int .i64 d.scale) cell3 0 rfl rfl rfl rfl rfl ⟨rfl, rfl⟩) (dw_op (d := some 38) _ rfl rfl rfl (st_bi (r := .int .i64 (w64 (((((zer d) ++ (ito d))).size : Int) - d.scale))) rfl rfl rfl (bi_sub rfl) ⟨rfl, rfl⟩) (dw_op (d := some 39) _ rfl rfl rfl (st_ssb (pad_hi h1) rfl Tryd.underlying9 rfl rfl ⟨rfl, rfl⟩) (dw_op (d := some 4) _ rfl rfl rfl (st_assign (v := .string (subS ((zer d) ++ (ito d)) 0 (w64 (((((zer d) ++ (ito d))).size : Int) - d.scale)))) rfl rfl ⟨rfl, rfl⟩) ?_)))
  refine dw_op (d := some 5) _ rfl rfl rfl (st_assign (v := .string (subS ((zer d) ++ (ito d)) (w64 (((((zer d) ++ (ito d))).size : Int) - d.scale)) ((((zer d) ++ (ito d))).size : Int))) rfl rfl ⟨rfl, rfl⟩) (dw_nil (aN (aQ (aQ (aL (aM 40 (.string (subS ((zer d) ++ (ito d)) 0 (w64 (((((zer d) ++ (ito d))).size : Int) - d.scale)))) rfl rfl (ao 41 rfl rfl (st_slen (s := (subS ((zer d) ++ (ito d)) 0 (w64 (((((zer d) ++ (ito d))).size : Int) - d.scale)))) rfl Tryd.underlying9 rfl (aB 42 (.bool (decide ((((subS ((zer d) ++ (ito d)) 0 (w64 (((((zer d) ++ (ito d))).size : Int) - d.scale)))).size : Int) > 5))) rfl rfl rfl (bi_gtr rfl) (aN ?_))))))))))
  refine bool_split (decide ((((subS ((zer d) ++ (ito d)) 0 (w64 (((((zer d) ++ (ito d))).size : Int) - d.scale)))).size : Int) > 5)) (fun h2 => ?_) (fun h2 => ?_)
  ·refine ac_then' (b := decide ((((subS ((zer d) ++ (ito d)) 0 (w64 (((((zer d) ++ (ito d))).size : Int) - d.scale)))).size : Int) > 5)) h2 rfl (aQ (aL (aA 2 (.string (⟨#[]⟩ : ByteArray)) rfl rfl (aN (ac_ret (fin_eq (v := .string (⟨#[]⟩ : ByteArray)) (by show _ = (fun (r : ByteArray) => (.string r : Value)) (decPrint d); rw [decPrint, h2, h1] <;> rfl) (fin_ret (res_tmp rfl rfl))))))))
  ·refine ac_else' (b := decide ((((subS ((zer d) ++ (ito d)) 0 (w64 (((((zer d) ++ (ito d))).size : Int) - d.scale)))).size : Int) > 5)) h2 rfl (ac_skip (aQ (aQ (aL (aF 43 fa52_0 rfl rfl (aD 44 (.int .i64 d.c) cell3 0 rfl rfl rfl rfl (aB 45 (.bool (decide (d.c < 0))) rfl rfl rfl (bi_lss rfl) (aN ?_))))))))
   refine bool_split (decide (d.c < 0)) (fun h3 => ?_) (fun h3 => ?_)
   ·refine ac_then' (b := decide (d.c < 0)) h3 rfl (aL (aM 46 (.string (subS ((zer d) ++ (ito d)) 0 (w64 (((((zer d) ++ (ito d))).size : Int) - d.scale)))) rfl rfl (aB 47 (.string ((⟨#[45]⟩ : ByteArray) ++ (subS ((zer d) ++ (ito d)) 0 (w64 (((((zer d) ++ (ito d))).size : Int) - d.scale))))) rfl rfl rfl (bi_sadd (sz_two (show ((⟨#[45]⟩ : ByteArray)).size ≤ 1 from Nat.le_refl _) (subS_le _ _ _ (sz_add (zer_sz h1) (ito_sz h1))) (by decide))) (aA 4 (.string ((⟨#[45]⟩ : ByteArray) ++ (subS ((zer d) ++ (ito d)) 0 (w64 (((((zer d) ++ (ito d))).size : Int) - d.scale))))) rfl rfl (aN (aQ (aQ (aL ?_))))))))
    refine aM 48 (.string (subS ((zer d) ++ (ito d)) (w64 (((((zer d) ++ (ito d))).size : Int) - d.scale)) ((((zer d) ++ (ito d))).size : Int))) rfl rfl (aB 49 (.bool (!(sEq (subS ((zer d) ++ (ito d)) (w64 (((((zer d) ++ (ito d))).size : Int) - d.scale)) ((((zer d) ++ (ito d))).size : Int)) (⟨#[]⟩ : ByteArray)))) rfl rfl rfl (bi_sneq rfl) (aN ?_))
    refine bool_split (sEq (subS ((zer d) ++ (ito d)) (w64 (((((zer d) ++ (ito d))).size : Int) - d.scale)) ((((zer d) ++ (ito d))).size : Int)) (⟨#[]⟩ : ByteArray)) (fun h4 => ?_) (fun h4 => ?_)
    ·refine ac_else' (b := !(sEq (subS ((zer d) ++ (ito d)) (w64 (((((zer d) ++ (ito d))).size : Int) - d.scale)) ((((zer d) ++ (ito d))).size : Int)) (⟨#[]⟩ : ByteArray))) (by rw [h4]; rfl) rfl (ac_skip (aQ (aL (aM 54 (.string ((⟨#[45]⟩ : ByteArray) ++ (subS ((zer d) ++ (ito d)) 0 (w64 (((((zer d) ++ (ito d))).size : Int) - d.scale))))) rfl rfl (aA 2 (.string ((⟨#[45]⟩ : ByteArray) ++ (subS ((zer d) ++ (ito d)) 0 (w64 (((((zer d) ++ (ito d))).size : Int) - d.scale))))) rfl rfl (aN (ac_ret ?_)))))))
     exact fin_eq (v := .string ((⟨#[45]⟩ : ByteArray) ++ (subS ((zer d) ++ (ito d)) 0 (w64 (((((zer d) ++ (ito d))).size : Int) - d.scale))))) (by show _ = (fun (r : ByteArray) => (.string r : Value)) (decPrint d); rw [decPrint, h4, h3, h2, h1] <;> rfl) (fin_ret (res_tmp rfl rfl))
    ·refine ac_then' (b := !(sEq (subS ((zer d) ++ (ito d)) (w64 (((((zer d) ++ (ito d))).size : Int) - d.scale)) ((((zer d) ++ (ito d))).size : Int)) (⟨#[]⟩ : ByteArray))) (by rw [h4]; rfl) rfl (aQ (aL (aM 50 (.string ((⟨#[45]⟩ : ByteArray) ++ (subS ((zer d) ++ (ito d)) 0 (w64 (((((zer d) ++ (ito d))).size : Int) - d.scale))))) rfl rfl ?_)))
     refine aB 51 (.string (((⟨#[45]⟩ : ByteArray) ++ (subS ((zer d) ++ (ito d)) 0 (w64 (((((zer d) ++ (ito d))).size : Int) - d.scale)))) ++ (⟨#[46]⟩ : ByteArray))) rfl rfl rfl (bi_sadd (sz_two (sz_add (show ((⟨#[45]⟩ : ByteArray)).size ≤ 1 from Nat.le_refl _) (subS_le _ _ _ (sz_add (zer_sz h1) (ito_sz h1)))) (show ((⟨#[46]⟩ : ByteArray)).size ≤ 1 from Nat.le_refl _) (by decide))) (aM 52 (.string (subS ((zer d) ++ (ito d)) (w64 (((((zer d) ++ (ito d))).size : Int) - d.scale)) ((((zer d) ++ (ito d))).size : Int))) rfl rfl ?_)
     refine aB 53 (.string ((((⟨#[45]⟩ : ByteArray) ++ (subS ((zer d) ++ (ito d)) 0 (w64 (((((zer d) ++ (ito d))).size : Int) - d.scale)))) ++ (⟨#[46]⟩ : ByteArray)) ++ (subS ((zer d) ++ (ito d)) (w64 (((((zer d) ++ (ito d))).size : Int) - d.scale)) ((((zer d) ++ (ito d))).size : Int)))) rfl rfl rfl (bi_sadd (sz_two (sz_add (sz_add (show ((⟨#[45]⟩ : ByteArray)).size ≤ 1 from Nat.le_refl _) (subS_le _ _ _ (sz_add (zer_sz h1) (ito_sz h1)))) (show ((⟨#[46]⟩ : ByteArray)).size ≤ 1 from Nat.le_refl _)) (subS_le _ _ _ (sz_add (zer_sz h1) (ito_sz h1))) (by decide))) ?_
     refine aA 2 (.string ((((⟨#[45]⟩ : ByteArray) ++ (subS ((zer d) ++ (ito d)) 0 (w64 (((((zer d) ++ (ito d))).size : Int) - d.scale)))) ++ (⟨#[46]⟩ : ByteArray)) ++ (subS ((zer d) ++ (ito d)) (w64 (((((zer d) ++ (ito d))).size : Int) - d.scale)) ((((zer d) ++ (ito d))).size : Int)))) rfl rfl (aN (ac_ret ?_))
     exact fin_eq (v := .string ((((⟨#[45]⟩ : ByteArray) ++ (subS ((zer d) ++ (ito d)) 0 (w64 (((((zer d) ++ (ito d))).size : Int) - d.scale)))) ++ (⟨#[46]⟩ : ByteArray)) ++ (subS ((zer d) ++ (ito d)) (w64 (((((zer d) ++ (ito d))).size : Int) - d.scale)) ((((zer d) ++ (ito d))).size : Int)))) (by show _ = (fun (r : ByteArray) => (.string r : Value)) (decPrint d); rw [decPrint, h4, h3, h2, h1] <;> rfl) (fin_ret (res_tmp rfl rfl))
   ·refine ac_else' (b := decide (d.c < 0)) h3 rfl (ac_skip (aQ (aQ (aL (aM 48 (.string (subS ((zer d) ++ (ito d)) (w64 (((((zer d) ++ (ito d))).size : Int) - d.scale)) ((((zer d) ++ (ito d))).size : Int))) rfl rfl (aB 49 (.bool (!(sEq (subS ((zer d) ++ (ito d)) (w64 (((((zer d) ++ (ito d))).size : Int) - d.scale)) ((((zer d) ++ (ito d))).size : Int)) (⟨#[]⟩ : ByteArray)))) rfl rfl rfl (bi_sneq rfl) (aN ?_)))))))
    refine bool_split (sEq (subS ((zer d) ++ (ito d)) (w64 (((((zer d) ++ (ito d))).size : Int) - d.scale)) ((((zer d) ++ (ito d))).size : Int)) (⟨#[]⟩ : ByteArray)) (fun h4 => ?_) (fun h4 => ?_)
    ·refine ac_else' (b := !(sEq (subS ((zer d) ++ (ito d)) (w64 (((((zer d) ++ (ito d))).size : Int) - d.scale)) ((((zer d) ++ (ito d))).size : Int)) (⟨#[]⟩ : ByteArray))) (by rw [h4]; rfl) rfl (ac_skip (aQ (aL (aM 54 (.string (subS ((zer d) ++ (ito d)) 0 (w64 (((((zer d) ++ (ito d))).size : Int) - d.scale)))) rfl rfl (aA 2 (.string (subS ((zer d) ++ (ito d)) 0 (w64 (((((zer d) ++ (ito d))).size : Int) - d.scale)))) rfl rfl (aN (ac_ret ?_)))))))
     exact fin_eq (v := .string (subS ((zer d) ++ (ito d)) 0 (w64 (((((zer d) ++ (ito d))).size : Int) - d.scale)))) (by show _ = (fun (r : ByteArray) => (.string r : Value)) (decPrint d); rw [decPrint, h4, h3, h2, h1] <;> rfl) (fin_ret (res_tmp rfl rfl))
    ·refine ac_then' (b := !(sEq (subS ((zer d) ++ (ito d)) (w64 (((((zer d) ++ (ito d))).size : Int) - d.scale)) ((((zer d) ++ (ito d))).size : Int)) (⟨#[]⟩ : ByteArray))) (by rw [h4]; rfl) rfl (aQ (aL (aM 50 (.string (subS ((zer d) ++ (ito d)) 0 (w64 (((((zer d) ++ (ito d))).size : Int) - d.scale)))) rfl rfl (aB 51 (.string ((subS ((zer d) ++ (ito d)) 0 (w64 (((((zer d) ++ (ito d))).size : Int) - d.scale))) ++ (⟨#[46]⟩ : ByteArray))) rfl rfl rfl (bi_sadd (sz_two (subS_le _ _ _ (sz_add (zer_sz h1) (ito_sz h1))) (show ((⟨#[46]⟩ : ByteArray)).size ≤ 1 from Nat.le_refl _) (by decide))) ?_))))
     refine aM 52 (.string (subS ((zer d) ++ (ito d)) (w64 (((((zer d) ++ (ito d))).size : Int) - d.scale)) ((((zer d) ++ (ito d))).size : Int))) rfl rfl (aB 53 (.string (((subS ((zer d) ++ (ito d)) 0 (w64 (((((zer d) ++ (ito d))).size : Int) - d.scale))) ++ (⟨#[46]⟩ : ByteArray)) ++ (subS ((zer d) ++ (ito d)) (w64 (((((zer d) ++ (ito d))).size : Int) - d.scale)) ((((zer d) ++ (ito d))).size : Int)))) rfl rfl rfl (bi_sadd (sz_two (sz_add (subS_le _ _ _ (sz_add (zer_sz h1) (ito_sz h1))) (show ((⟨#[46]⟩ : ByteArray)).size ≤ 1 from Nat.le_refl _)) (subS_le _ _ _ (sz_add (zer_sz h1) (ito_sz h1))) (by decide))) ?_)
     refine aA 2 (.string (((subS ((zer d) ++ (ito d)) 0 (w64 (((((zer d) ++ (ito d))).size : Int) - d.scale))) ++ (⟨#[46]⟩ : ByteArray)) ++ (subS ((zer d) ++ (ito d)) (w64 (((((zer d) ++ (ito d))).size : Int) - d.scale)) ((((zer d) ++ (ito d))).size : Int)))) rfl rfl (aN (ac_ret (fin_eq (v := .string (((subS ((zer d) ++ (ito d)) 0 (w64 (((((zer d) ++ (ito d))).size : Int) - d.scale))) ++ (⟨#[46]⟩ : ByteArray)) ++ (subS ((zer d) ++ (ito d)) (w64 (((((zer d) ++ (ito d))).size : Int) - d.scale)) ((((zer d) ++ (ito d))).size : Int)))) (by show _ = (fun (r : ByteArray) => (.string r : Value)) (decPrint d); rw [decPrint, h4, h3, h2, h1] <;> rfl) (fin_ret (res_tmp rfl rfl)))))
 ·refine ac_then' (b := !(decRight d)) (by rw [h1]; rfl) rfl (aQ (aL (aA 2 (.string (⟨#[]⟩ : ByteArray)) rfl rfl (aN (ac_ret (fin_eq (v := .string (⟨#[]⟩ : ByteArray)) (by show _ = (fun (r : ByteArray) => (.string r : Value)) (decPrint d); rw [decPrint, h1] <;> rfl) (fin_ret (res_tmp rfl rfl))))))))
end Go.Proofs.YtalffjplbhelcaaDoor
namespace Go.Proofs.YtalffjplbhelcaaDoor
def prForm (q1 q2 q3 : Bool) (a b : ByteArray) : ByteArray := bif q1 then (⟨#[]⟩ : ByteArray) else (bif q2 then (bif q3 then ((⟨#[45]⟩ : ByteArray) ++ a) else ((((⟨#[45]⟩ : ByteArray) ++ a) ++ (⟨#[46]⟩ : ByteArray)) ++ b)) else (bif q3 then a else ((a ++ (⟨#[46]⟩ : ByteArray)) ++ b)))
theorem prForm_sz (q1 q2 q3 : Bool) {a b : ByteArray} (ha : a.size ≤ 1021) (hb : b.size ≤ 1021) : (prForm q1 q2 q3 a b).size ≤ 3000 := by
  have h1 : (⟨#[45]⟩ : ByteArray).size = 1 := rfl
  have h2 : (⟨#[46]⟩ : ByteArray).size = 1 := rfl
  have h0 : (⟨#[]⟩ : ByteArray).size = 0 := rfl
  unfold prForm
  cases q1 <;> cases q2 <;> cases q3 <;> simp only [cond_false, cond_true, ByteArray.size_append', h0, h1, h2] <;> omega
theorem decPrint_form (d : Dec) : decPrint d = bif decRight d then prForm (decide (((subS (zer d ++ ito d) 0 (w64 (((zer d ++ ito d).size : Int) - d.scale))).size : Int) > 5)) (decide (d.c < 0)) (sEq (subS (zer d ++ ito d) (w64 (((zer d ++ ito d).size : Int) - d.scale)) ((zer d ++ ito d).size : Int)) (⟨#[]⟩ : ByteArray)) (subS (zer d ++ ito d) 0 (w64 (((zer d ++ ito d).size : Int) - d.scale))) (subS (zer d ++ ito d) (w64 (((zer d ++ ito d).size : Int) - d.scale)) ((zer d ++ ito d).size : Int)) else (⟨#[]⟩ : ByteArray) := by
  unfold decPrint prForm
  rfl
theorem print_sz (d : Dec) : (decPrint d).size ≤ 3000 := by
  rw [decPrint_form]
  cases h : decRight d
  · exact Nat.zero_le _
  · have h1 := zer_sz h
    have h2 := ito_sz h
    have h3 : (zer d ++ ito d).size ≤ 1021 := by rw [ByteArray.size_append']; omega
    exact prForm_sz _ _ _ (subS_le _ _ _ h3) (subS_le _ _ _ h3)
end Go.Proofs.YtalffjplbhelcaaDoor
namespace Go.Proofs.YtalffjplbhelcaaDoor
theorem dig_of {k : Nat} (h : k < 10) : (UInt8.ofNat (48 + k)).toNat = 48 + k := by
  rw [UInt8.toNat_ofNat']
  exact Nat.mod_eq_of_lt (by omega)
theorem isDig_of {k : Nat} (h : k < 10) : IsDig (UInt8.ofNat (48 + k)) := by
  unfold IsDig
  rw [dig_of h]
  omega
theorem decDig_all : ∀ (u : Nat), (∀ b ∈ Lib.decDigits u, IsDig b) ∧ dval 0 (Lib.decDigits u) = u ∧ Lib.decDigits u ≠ [] := by
  intro u
  induction u using Nat.strongRecOn with
  | _ u ih =>
    rw [Lib.decDigits]
    by_cases h : u < 10
    · rw [dif_pos h]
      refine ⟨fun b hb => ?_, ?_, by simp⟩
      · obtain rfl := List.mem_singleton.1 hb
        exact isDig_of h
      · show 0 * 10 + ((UInt8.ofNat (48 + u)).toNat - 48) = u
        rw [dig_of h]; omega
    · rw [dif_neg h]
      obtain ⟨h1, h2, h3⟩ := ih (u / 10) (by omega)
      have hm : u % 10 < 10 := by omega
      refine ⟨fun b hb => ?_, ?_, by simp⟩
      · rcases List.mem_append.1 hb with hb | hb
        · exact h1 b hb
        · obtain rfl := List.mem_singleton.1 hb
          exact isDig_of hm
      · rw [dval_snoc, h2, dig_of hm]; omega
theorem dval_zeros : ∀ (k : Nat) (l : List UInt8), dval 0 (List.replicate k 48 ++ l) = dval 0 l
  | 0, l => rfl
  | k + 1, l => by
    rw [List.replicate_succ, List.cons_append]
    show dval (0 * 10 + ((48 : UInt8).toNat - 48)) _ = _
    exact dval_zeros k l
theorem rep_zeros : ∀ k : Nat, Lib.repeatL [48] k = List.replicate k 48
  | 0 => rfl
  | k + 1 => by rw [Lib.repeatL, rep_zeros k, List.replicate_succ]; rfl
def sgnL (mn : Bool) : List UInt8 := bif mn then [45] else []
def ptL (F : List UInt8) : List UInt8 := bif F.isEmpty then [] else 46 :: F
theorem read_form (mn : Bool) (W F : List UInt8) (h0 : W ≠ []) (h5 : W.length ≤ 5) (hW : ∀ b ∈ W, IsDig b) (h6 : F.length ≤ 6) (hF : ∀ b ∈ F, IsDig b) : rRead (byA (sgnL mn ++ (W ++ ptL F))) = rEnd mn (dval (dval 0 W) F : Int) (F.length : Int) := by
  obtain ⟨b, r, rfl⟩ : ∃ b r, W = b :: r := by cases W with | nil => exact absurd rfl h0 | cons b r => exact ⟨b, r, rfl⟩
  have hb := hW b List.mem_cons_self
  have hb45 : ((b.toNat : Int) == 45) = false := by
    rw [beq_eq_false_iff_ne]
    have := hb.1
    omega
  have hbody : rBody (byA (sgnL mn ++ ((b :: r) ++ ptL F))) = (b :: r) ++ ptL F ∧ rMin (byA (sgnL mn ++ ((b :: r) ++ ptL F))) = mn := by
    unfold rBody rMin
    cases mn
    · have e : sgnL false ++ ((b :: r) ++ ptL F) = b :: (r ++ ptL F) := rfl
      rw [e, decide_eq_true (by have := byA_pos b (r ++ ptL F); omega), sAt_hd, hb45]
      exact ⟨rfl, rfl⟩
    · have e : sgnL true ++ ((b :: r) ++ ptL F) = 45 :: ((b :: r) ++ ptL F) := rfl
      rw [e, decide_eq_true (by have := byA_pos 45 ((b :: r) ++ ptL F); omega), sAt_hd]
      exact ⟨rfl, rfl⟩
  have hR : ptL F = [] ∨ ∃ c q, ptL F = c :: q ∧ ¬ IsDig c := by
    unfold ptL
    cases F with
    | nil => exact .inl rfl
    | cons c q => exact .inr ⟨46, c :: q, rfl, by unfold IsDig; decide⟩
  have e := rL1_val (b :: r) (ptL F) 0 0 hW hR (by decide) (by decide)
  rw [if_pos (show 0 + (b :: r).length ≤ 5 by omega), show ((0 : Nat) : Int) = 0 from rfl] at e
  have hw : ((0 + (b :: r).length) == 0) = false := by rw [beq_eq_false_iff_ne]; simp
  have hlW : dval 0 (b :: r) < 10 ^ (b :: r).length := by have := dval_lt (b :: r) 0 0 hW (by decide); rw [Nat.zero_add] at this; exact this
  rw [rRead, hbody.1, hbody.2, e]
  show (bif (0 + (b :: r).length) == 0 then none0 else rFrac mn (ptL F) (dval 0 (b :: r) : Int)) = _
  rw [hw, cond_false]
  cases F with
  | nil => rfl
  | cons c q =>
    show rFrac mn (46 :: (c :: q)) _ = _
    have e2 := rL2_val (c :: q) (dval 0 (b :: r)) 0 (b :: r).length hF (by omega) (by omega) hlW
    rw [Nat.zero_add, show ((0 : Nat) : Int) = 0 from rfl] at e2
    have hl : ((c :: q).length == 0) = false := by rw [beq_eq_false_iff_ne]; simp
    rw [rFrac]
    show (bif (c :: q).length == 0 then none0 else (bif decide ((c :: q).length > 6) then none0 else rTwo mn (rL2 (c :: q) (dval 0 (b :: r) : Int) 0))) = _
    rw [hl, decide_eq_false (by omega), e2]
    rfl
theorem read_form2 (mn : Bool) (W F : List UInt8) (h0 : W ≠ []) (h5 : W.length ≤ 5) (hW : ∀ b ∈ W, IsDig b) (h6 : F.length ≤ 6) (hF : ∀ b ∈ F, IsDig b) (ht : Lib.trimRightB F 48 = F) (hz : mn = true → dval 0 (W ++ F) ≠ 0) :
    rRead (byA (sgnL mn ++ (W ++ ptL F))) = (⟨bif mn then -(dval 0 (W ++ F) : Int) else (dval 0 (W ++ F) : Int), (F.length : Int)⟩, true) := by
  have hlW : dval 0 W < 10 ^ W.length := by have := dval_lt W 0 0 hW (by decide); rw [Nat.zero_add] at this; exact this
  have hlt : dval (dval 0 W) F < 100000000000 := Nat.lt_of_lt_of_le (dval_lt F _ _ hF hlW) (pow_le11 (by omega))
  rw [read_form mn W F h0 h5 hW h6 hF, rEnd_val mn hF h6 hlt (by rw [ht]; exact hlt), ht, dval_app]
  cases mn
  · rfl
  · have hn := hz rfl
    rw [dval_app] at hn
    have hb : ((dval (dval 0 W) F : Int) == 0) = false := by rw [beq_eq_false_iff_ne]; omega
    have ew : w64 (0 - (dval (dval 0 W) F : Int)) = -(dval (dval 0 W) F : Int) := by rw [w64_in (by omega)]; omega
    rw [hb, ew]
    rfl
theorem max_abs {d : Dec} (h : decRight d = true) : max d.c (w64 (0 - d.c)) = (d.c.natAbs : Int) := by
  have := dr_bounds h
  rw [w64_in (by omega)]
  omega
theorem ito_L {d : Dec} (h : decRight d = true) : ito d = byA (Lib.decDigits d.c.natAbs) := by
  unfold ito lItoa
  rw [max_abs h, Lib.itoa_nonneg]
theorem zer_L (d : Dec) : zer d = byA (List.replicate (padN d).toNat 48) := by
  unfold zer lRepeat
  rw [show (⟨#[48]⟩ : ByteArray).data.toList = [48] from rfl, rep_zeros]
theorem sEq_nil (F : List UInt8) : sEq (byA F) (⟨#[]⟩ : ByteArray) = F.isEmpty := by
  rw [Bool.eq_iff_iff, sEq_iff]
  cases F with
  | nil => exact ⟨fun _ => rfl, fun _ => rfl⟩
  | cons b l =>
    constructor
    · intro h
      have h9 : l.length + 1 = 0 := congrArg ByteArray.size h
      omega
    · intro h; cases h
theorem print_form {d : Dec} (h : decRight d = true) : ∃ W F : List UInt8, W ≠ [] ∧ (∀ b ∈ W, IsDig b) ∧ (∀ b ∈ F, IsDig b) ∧ (F.length : Int) = d.scale ∧ dval 0 (W ++ F) = d.c.natAbs ∧
    decPrint d = bif decide ((W.length : Int) > 5) then (⟨#[]⟩ : ByteArray) else byA (sgnL (decide (d.c < 0)) ++ (W ++ ptL F)) := by
  have hb := dr_bounds h
  obtain ⟨d1, d2, d3⟩ := decDig_all d.c.natAbs
  have hL : zer d ++ ito d = byA (List.replicate (padN d).toNat 48 ++ Lib.decDigits d.c.natAbs) := by rw [zer_L, ito_L h, byA_app]
  obtain ⟨p1, p2⟩ := pad_all h
  have hform := decPrint_form d
  rw [h, cond_true, p1, hL] at hform
  rw [hL] at p2
  generalize hLd : List.replicate (padN d).toNat 48 ++ Lib.decDigits d.c.natAbs = L at *
  have hsz : (byA L).size = L.length := rfl
  rw [hsz] at p2 hform
  obtain ⟨k, hk⟩ : ∃ k : Nat, (L.length : Int) - d.scale = (k : Int) := ⟨((L.length : Int) - d.scale).toNat, by omega⟩
  rw [hk] at hform
  have hkl : k ≤ L.length := by omega
  have tl : (L.take k).length = k := by rw [List.length_take]; omega
  have r0 : restL (byA L) 0 = L.take k ++ L.drop k := (List.take_append_drop k L).symm
  have e1 := sub_rest r0
  rw [tl, Nat.zero_add] at e1
  have r1 : restL (byA L) k = L.drop k ++ [] := by rw [List.append_nil]; rfl
  have e2 := sub_rest r1
  have dl : (L.drop k).length = L.length - k := List.length_drop
  rw [dl, show k + (L.length - k) = L.length by omega] at e2
  have hdig : ∀ b ∈ L, IsDig b := by
    intro b hb
    rw [← hLd] at hb
    rcases List.mem_append.1 hb with hb | hb
    · rw [List.eq_of_mem_replicate hb]; unfold IsDig; decide
    · exact d1 b hb
  refine ⟨L.take k, L.drop k, ?_, fun b hb => hdig b (List.mem_of_mem_take hb), fun b hb => hdig b (List.mem_of_mem_drop hb), by rw [dl]; omega, ?_, ?_⟩
  · intro e
    rw [e] at tl
    have tl : 0 = k := tl
    omega
  · rw [List.take_append_drop, ← hLd, dval_zeros, d2]
  · rw [hform, show subS (byA L) 0 (k : Int) = byA (L.take k) from e1, e2, sEq_nil, show (byA (L.take k)).size = (L.take k).length from rfl]
    unfold prForm
    cases decide (((L.take k).length : Int) > 5)
    · simp only [cond_false]
      cases decide (d.c < 0) <;> cases hF : (L.drop k) <;> simp only [List.isEmpty_nil, List.isEmpty_cons, cond_true, cond_false, sgnL, ptL, List.nil_append, List.append_nil, List.cons_append]
      · rw [show (⟨#[46]⟩ : ByteArray) = byA [46] from rfl, byA_app, byA_app, List.append_assoc]; rfl
      · rw [show (⟨#[45]⟩ : ByteArray) = byA [45] from rfl, byA_app]; rfl
      · rw [show (⟨#[46]⟩ : ByteArray) = byA [46] from rfl, show (⟨#[45]⟩ : ByteArray) = byA [45] from rfl, byA_app, byA_app, byA_app]
        simp
    · rfl
theorem print_back {d : Dec} (h : decRight d = true) (hp : decPrint d ≠ (⟨#[]⟩ : ByteArray)) : decRead (decPrint d) = (d, true) := by
  obtain ⟨W, F, h0, hW, hF, hl, hv, he⟩ := print_form h
  have hb := dr_bounds h
  have h5 : W.length ≤ 5 := by
    by_cases h5 : ((W.length : Int) > 5)
    · rw [decide_eq_true h5] at he; exact absurd he hp
    · omega
  rw [decide_eq_false (by omega), cond_false] at he
  have ht : Lib.trimRightB F 48 = F := by
    rcases snoc_cases F with rfl | ⟨G, b, rfl⟩
    · rfl
    · rw [trim_snoc]
      have hs : d.scale ≠ 0 := by rw [← hl, List.length_append, List.length_singleton]; omega
      have hm : Int.tmod d.c 10 ≠ 0 := by
        unfold decRight at h
        rw [decide_eq_true hb.1, decide_eq_true hb.2.1, decide_eq_true hb.2.2.1, decide_eq_true hb.2.2.2, show (d.scale == 0) = false from beq_eq_false_iff_ne.2 hs] at h
        simpa using h
      have hbd := hF b (by simp)
      rw [← List.append_assoc, dval_snoc] at hv
      have hn : b ≠ 48 := by
        rintro rfl
        rw [show (48 : UInt8).toNat - 48 = 0 from rfl] at hv
        apply hm
        rcases Int.natAbs_eq d.c with e | e
        · rw [e, Int.tmod_eq_emod_of_nonneg (by omega)]; omega
        · rw [e, Int.neg_tmod, Int.tmod_eq_emod_of_nonneg (by omega)]; omega
      rw [if_neg (by rw [beq_iff_eq]; exact hn)]
  have hr := read_form2 (decide (d.c < 0)) W F h0 h5 hW (by omega) hF ht (fun hn => by have := of_decide_eq_true hn; omega)
  rw [← he, hv] at hr
  have hsz : (decPrint d).size ≤ 4000 := Nat.le_trans (print_sz d) (by decide)
  rw [read_eq hsz, hr]
  obtain ⟨c, sc⟩ := d
  simp only [Prod.mk.injEq, and_true, Dec.mk.injEq] at *
  refine ⟨?_, hl⟩
  by_cases hc : c < 0
  · rw [decide_eq_true hc]; simp only [cond_true]; omega
  · rw [decide_eq_false hc]; simp only [cond_false]; omega
end Go.Proofs.YtalffjplbhelcaaDoor
namespace Go.Proofs.YtalffjplbhelcaaDoor
theorem dg_arg {n : Nat} (hn : n < 1000000000000000000) : w64 (Int.tdiv (n : Int) 10) = ((n / 10 : Nat) : Int) := by
  rw [Int.tdiv_eq_ediv_of_nonneg (by omega), w64_in (by omega)]
  omega
theorem dg_in {p : Program} {f : FuncId} {a b : Int} {v : Value} (h : Gets p f #[.int .i64 b] v) (e : a = b) : Gets p f #[.int .i64 a] v := e ▸ h
theorem dg_byte {k : Int} (h : 0 ≤ k ∧ k < 10) : byteS (IntKind.u8.wrap (w64 (48 + k))) = byA [UInt8.ofNat (48 + k.toNat)] := by
  rw [w64_in (by omega), IntKind.wrap_u8]
  unfold byteS byA
  rw [show ((48 + k) % 256).toNat = 48 + k.toNat by omega]
theorem dg_one {n : Nat} (h : decide ((n : Int) < 10) = true) : byteS (IntKind.u8.wrap (w64 (48 + (n : Int)))) = byA (Lib.decDigits n) := by
  have h := of_decide_eq_true h
  rw [dg_byte (by omega), Lib.decDigits, dif_pos (by omega), Int.toNat_natCast]
theorem dg_more {n : Nat} (h : decide ((n : Int) < 10) = false) : byA (Lib.decDigits (n / 10)) ++ byteS (IntKind.u8.wrap (w64 (48 + (Int.tmod (n : Int) 10)))) = byA (Lib.decDigits n) := by
  have h := of_decide_eq_false h
  have e : Int.tmod (n : Int) 10 = ((n % 10 : Nat) : Int) := by rw [Int.tmod_eq_emod_of_nonneg (by omega)]; omega
  rw [e, dg_byte (by omega), Int.toNat_natCast, byA_app]
  conv => rhs; rw [Lib.decDigits, dif_neg (by omega)]
theorem dg_len : ∀ (k n : Nat), n < 10 ^ (k + 1) → (Lib.decDigits n).length ≤ k + 1
  | 0, n, h => by rw [Lib.decDigits, dif_pos (by omega)]; simp
  | k + 1, n, h => by
    rw [Lib.decDigits]
    by_cases h10 : n < 10
    · rw [dif_pos h10]; simp
    · rw [dif_neg h10, List.length_append]
      have := dg_len k (n / 10) (by rw [Nat.pow_succ] at h; omega)
      simp only [List.length_singleton]
      omega
theorem dg_size {n : Nat} (h : n < 1000000000000000000) : (byA (Lib.decDigits (n / 10))).size ≤ 18 := dg_len 17 (n / 10) (by have : (10 : Nat) ^ (17 + 1) = 1000000000000000000 := by decide
                                                                                                                             omega)
end Go.Proofs.YtalffjplbhelcaaDoor
namespace Go.Proofs.YtalffjplbhelcaaDoor
open Go.RowKit
end Go.Proofs.YtalffjplbhelcaaDoor
namespace Go.Proofs.YtalffjplbhelcaaDoor
open Go.RowKit
end Go.Proofs.YtalffjplbhelcaaDoor
namespace Go.Proofs.YtalffjplbhelcaaDoor
open Go.RowKit
end Go.Proofs.YtalffjplbhelcaaDoor
namespace Go.Proofs.YtalffjplbhelcaaDoor
open Go.RowKit
theorem bs29_1_0 (x0_0 : Int) : Makes Tryd.prog (Instr.buildSlice 29 1 #[(0, .int .u8 x0_0)]) 1 [.int .u8 x0_0] 5 := ⟨fun w => by go_simp⟩
end Go.Proofs.YtalffjplbhelcaaDoor
