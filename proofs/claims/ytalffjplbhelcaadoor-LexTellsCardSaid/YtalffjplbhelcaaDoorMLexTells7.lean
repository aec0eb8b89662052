import Derived.Test.YtalffjplbhelcaaDoorMLexTells4
import Derived.Test.YtalffjplbhelcaaDoorMLexTells2
import Derived.Test.YtalffjplbhelcaaDoorMLexTells6
import Derived.Test.YtalffjplbhelcaaDoorMLexTells5
import Derived.Test.YtalffjplbhelcaaDoorMLexTells1
import Derived.Test.YtalffjplbhelcaaDoorMLexTells3
set_option linter.unusedVariables false
set_option linter.unusedSimpArgs false
namespace Go.Proofs.YtalffjplbhelcaaDoor
def dval : Nat → List UInt8 → Nat
  | a, [] => a
  | a, b :: l => dval (a * 10 + (b.toNat - 48)) l
theorem dval_app : ∀ (l m : List UInt8) (a : Nat), dval a (l ++ m) = dval (dval a l) m
  | [], m, a => rfl
  | b :: l, m, a => dval_app l m _
theorem dval_lt : ∀ (l : List UInt8) (a w : Nat), (∀ b ∈ l, IsDig b) → a < 10 ^ w → dval a l < 10 ^ (w + l.length)
  | [], a, w, _, h => h
  | b :: l, a, w, hd, h => by
    have hb := hd b List.mem_cons_self
    have h1 : a * 10 + (b.toNat - 48) < 10 ^ (w + 1) := by
      rw [Nat.pow_succ]
      have := hb.1
      have := hb.2
      omega
    have := dval_lt l _ (w + 1) (fun c hc => hd c (List.mem_cons_of_mem _ hc)) h1
    rw [List.length_cons, show w + (l.length + 1) = w + 1 + l.length by omega]
    exact this
theorem decFrom_dval : ∀ (l : List UInt8) (a : Nat), (∀ b ∈ l, IsDig b) → Lib.decFrom a l = some (dval a l)
  | [], a, _ => rfl
  | b :: l, a, hd => by
    have hb := hd b List.mem_cons_self
    have e : Lib.digitVal b = some (b.toNat - 48) := by unfold Lib.digitVal; exact if_pos hb
    rw [Lib.decFrom, e]
    exact decFrom_dval l _ (fun c hc => hd c (List.mem_cons_of_mem _ hc))
theorem rDigit_iff (b : UInt8) : rDigit (b.toNat : Int) = true ↔ IsDig b := by
  unfold rDigit IsDig
  by_cases h : 48 ≤ b.toNat
  · rw [decide_eq_true (show (b.toNat : Int) ≥ 48 by omega), cond_true, decide_eq_true_eq]
    omega
  · rw [decide_eq_false (show ¬ ((b.toNat : Int) ≥ 48) by omega)]
    constructor
    · intro h; cases h
    · intro h2; exact absurd h2.1 h
theorem rDigit_no {b : UInt8} (h : ¬ IsDig b) : rDigit (b.toNat : Int) = false := by
  cases hd : rDigit (b.toNat : Int)
  · rfl
  · exact absurd ((rDigit_iff b).1 hd) h
theorem pow_le11 {w : Nat} (h : w ≤ 11) : 10 ^ w ≤ 100000000000 := Nat.pow_le_pow_right (by decide) h
theorem rdN_val {a w : Nat} {b : UInt8} (hb : IsDig b) (hw : w ≤ 11) (ha : a < 10 ^ w) : rdN (a : Int) (b.toNat : Int) = ((a * 10 + (b.toNat - 48) : Nat) : Int) := by
  have h1 := hb.1
  have h2 := hb.2
  have h3 := pow_le11 hw
  have e8 : IntKind.u8.wrap ((b.toNat : Int) - 48) = (b.toNat : Int) - 48 := by
    rw [IntKind.wrap_u8]
    omega
  unfold rdN
  rw [e8, w64_in (n := (b.toNat : Int) - 48) (by omega), w64_in (n := 10 * (a : Int)) (by omega), w64_in (by omega)]
  omega
theorem rL1_val : ∀ (D R : List UInt8) (a w : Nat), (∀ b ∈ D, IsDig b) → (R = [] ∨ ∃ b r, R = b :: r ∧ ¬ IsDig b) → w ≤ 5 → a < 10 ^ w → rL1 (D ++ R) (a : Int) w = if w + D.length ≤ 5 then some (R, (dval a D : Int), w + D.length) else none
  | [], R, a, w, _, hR, hw, ha => by
    rw [List.nil_append, if_pos (show w + ([] : List UInt8).length ≤ 5 from hw)]
    rcases hR with rfl | ⟨b, r, rfl, hb⟩
    · rfl
    · rw [rL1, rDigit_no hb]; rfl
  | b :: D, R, a, w, hd, hR, hw, ha => by
    have hb := hd b List.mem_cons_self
    rw [List.cons_append, rL1, (rDigit_iff b).2 hb, cond_true]
    by_cases h5 : w + 1 > 5
    · rw [decide_eq_true h5, cond_true, if_neg (by rw [List.length_cons]; omega)]
    · have h1 : a * 10 + (b.toNat - 48) < 10 ^ (w + 1) := dval_lt [b] a w (fun c hc => by obtain rfl := List.mem_singleton.1 hc; exact hb) ha
      rw [decide_eq_false h5, cond_false, rdN_val hb (by omega) ha, rL1_val D R _ (w + 1) (fun c hc => hd c (List.mem_cons_of_mem _ hc)) hR (by omega) h1, List.length_cons, show w + 1 + D.length = w + (D.length + 1) by omega]
      rfl
theorem rL2_val : ∀ (F : List UInt8) (a sc w : Nat), (∀ b ∈ F, IsDig b) → w + F.length ≤ 11 → sc + F.length ≤ 6 → a < 10 ^ w → rL2 F (a : Int) (sc : Int) = some ((dval a F : Int), ((sc + F.length : Nat) : Int))
  | [], a, sc, w, _, _, _, _ => rfl
  | b :: F, a, sc, w, hd, hw, h6, ha => by
    have hb := hd b List.mem_cons_self
    rw [List.length_cons] at hw h6
    have h1 : a * 10 + (b.toNat - 48) < 10 ^ (w + 1) := dval_lt [b] a w (fun c hc => by obtain rfl := List.mem_singleton.1 hc; exact hb) ha
    have ew : w64 ((sc : Int) + 1) = ((sc + 1 : Nat) : Int) := by rw [w64_in (by omega)]; rfl
    rw [rL2, (rDigit_iff b).2 hb, cond_true, rdN_val hb (by omega) ha, ew, rL2_val F _ (sc + 1) (w + 1) (fun c hc => hd c (List.mem_cons_of_mem _ hc)) (by omega) (by omega) h1, List.length_cons, show sc + 1 + F.length = sc + (F.length + 1) by omega]
    rfl
theorem rL2_none : ∀ (F : List UInt8) (a sc : Int), ¬ (∀ b ∈ F, IsDig b) → rL2 F a sc = none
  | [], a, sc, h => absurd (by simp) h
  | b :: F, a, sc, h => by
    rw [rL2]
    by_cases hb : IsDig b
    · rw [(rDigit_iff b).2 hb, cond_true]
      exact rL2_none F _ _ (fun hF => h (fun c hc => by
        rcases List.mem_cons.1 hc with rfl | hc
        · exact hb
        · exact hF c hc))
    · rw [rDigit_no hb]; rfl
theorem trim_snoc (G : List UInt8) (b : UInt8) : Lib.trimRightB (G ++ [b]) 48 = if b == 48 then Lib.trimRightB G 48 else G ++ [b] := by
  unfold Lib.trimRightB
  rw [List.reverse_append, List.reverse_singleton, List.singleton_append, List.dropWhile_cons]
  cases b == 48 <;> simp
theorem snoc_cases (F : List UInt8) : F = [] ∨ ∃ G b, F = G ++ [b] := by
  cases h : F.reverse with
  | nil => left; simpa using h
  | cons b G => right; exact ⟨G.reverse, b, by rw [← List.reverse_reverse F, h, List.reverse_cons]⟩
theorem dval_snoc (G : List UInt8) (b : UInt8) (a : Nat) : dval a (G ++ [b]) = dval a G * 10 + (b.toNat - 48) := dval_app G [b] a
theorem rL3_val : ∀ (k : Nat) (F : List UInt8) (a : Nat), F.length ≤ k → k ≤ 6 → (∀ b ∈ F, IsDig b) → dval a F < 100000000000 → rL3 k (dval a F : Int) (F.length : Int) = ((dval a (Lib.trimRightB F 48) : Int), ((Lib.trimRightB F 48).length : Int))
  | 0, F, a, hk, _, _, _ => by
    obtain rfl : F = [] := List.length_eq_zero_iff.1 (by omega)
    rfl
  | k + 1, F, a, hk, h6, hd, hb => by
    rcases snoc_cases F with rfl | ⟨G, b, rfl⟩
    · rw [rL3]; rfl
    · have hbd := hd b (by simp)
      have h1 := hbd.1
      have h2 := hbd.2
      rw [dval_snoc] at hb
      rw [rL3, dval_snoc, trim_snoc, List.length_append, List.length_singleton, decide_eq_true (by omega), cond_true]
      rw [List.length_append, List.length_singleton] at hk
      have em : Int.tmod ((dval a G * 10 + (b.toNat - 48) : Nat) : Int) 10 = ((b.toNat - 48 : Nat) : Int) := by
        rw [Int.tmod_eq_emod_of_nonneg (by omega)]
        omega
      rw [em]
      by_cases h0 : b = 48
      · subst h0
        have ed : Int.tdiv ((dval a G * 10 + ((48 : UInt8).toNat - 48) : Nat) : Int) 10 = (dval a G : Int) := by
          rw [Int.tdiv_eq_ediv_of_nonneg (by omega), show (48 : UInt8).toNat = 48 from rfl]
          omega
        have hz : ((((48 : UInt8).toNat - 48 : Nat) : Int) == 0) = true := rfl
        rw [hz, cond_true, ed, w64_in (n := (dval a G : Int)) (by omega), w64_in (by omega), show ((G.length + 1 : Nat) : Int) - 1 = (G.length : Int) by omega]
        rw [rL3_val k G a (by omega) (by omega) (fun c hc => hd c (by simp [hc])) (by omega)]
        rfl
      · have hn : b.toNat ≠ 48 := fun h => h0 (UInt8.toNat_inj.1 h)
        have hz : (((b.toNat - 48 : Nat) : Int) == 0) = false := by rw [beq_eq_false_iff_ne]; omega
        have hz2 : (b == 48) = false := by rw [beq_eq_false_iff_ne]; exact h0
        rw [hz, cond_false, if_neg (by rw [hz2]; decide), dval_snoc, List.length_append, List.length_singleton]
theorem trim_last (F : List UInt8) : Lib.trimRightB F 48 = [] ∨ ∃ G b, Lib.trimRightB F 48 = G ++ [b] ∧ b ≠ 48 := by
  rcases snoc_cases (Lib.trimRightB F 48) with h | ⟨G, b, h⟩
  · exact .inl h
  · right
    refine ⟨G, b, h, ?_⟩
    rintro rfl
    unfold Lib.trimRightB at h
    have h2 := congrArg List.reverse h
    rw [List.reverse_reverse, List.reverse_append, List.reverse_singleton, List.singleton_append] at h2
    have h3 := List.head?_dropWhile_not (p := (· == (48 : UInt8))) (l := F.reverse)
    rw [h2] at h3
    simp at h3
theorem right_val {F : List UInt8} {a : Nat} {c : Int} (hd : ∀ b ∈ F, IsDig b) (h6 : F.length ≤ 6) (hb : dval a (Lib.trimRightB F 48) < 100000000000) (hc : c = (dval a (Lib.trimRightB F 48) : Int) ∨ c = -(dval a (Lib.trimRightB F 48) : Int)) : rRightDec ⟨c, ((Lib.trimRightB F 48).length : Int)⟩ = true := by
  have hl := (trimB_sub F 48).2
  have hs := (trimB_sub F 48).1
  unfold rRightDec
  rw [decide_eq_true (show c ≥ -100000000000 by omega), decide_eq_true (show c ≤ 100000000000 by omega), decide_eq_true (show ((Lib.trimRightB F 48).length : Int) ≥ 0 by omega), decide_eq_true (show ((Lib.trimRightB F 48).length : Int) ≤ 6 by omega)]
  simp only [cond_true]
  rcases trim_last F with h | ⟨G, b, h, h0⟩
  · rw [h]; rfl
  · have hbd := hd b (hs b (by rw [h]; simp))
    have h1 := hbd.1
    have h2 := hbd.2
    have hn : b.toNat ≠ 48 := fun e => h0 (UInt8.toNat_inj.1 e)
    rw [h] at hc ⊢
    rw [dval_snoc] at hc
    have hz : ((((G ++ [b]).length : Nat) : Int) == 0) = false := by rw [beq_eq_false_iff_ne]; simp; omega
    rw [hz, cond_false, bne_iff_ne]
    intro e
    rcases hc with rfl | rfl
    · rw [Int.tmod_eq_emod_of_nonneg (by omega)] at e; omega
    · rw [Int.neg_tmod, Int.tmod_eq_emod_of_nonneg (by omega)] at e; omega
theorem rEnd_val {F : List UInt8} {a : Nat} (mn : Bool) (hd : ∀ b ∈ F, IsDig b) (h6 : F.length ≤ 6) (hb : dval a F < 100000000000) (hb2 : dval a (Lib.trimRightB F 48) < 100000000000) :
    rEnd mn (dval a F : Int) (F.length : Int) = (bif mn then (bif (dval a (Lib.trimRightB F 48) : Int) == 0 then none0 else ((⟨w64 (0 - (dval a (Lib.trimRightB F 48) : Int)), ((Lib.trimRightB F 48).length : Int)⟩ : Dec), true)) else ((⟨(dval a (Lib.trimRightB F 48) : Int), ((Lib.trimRightB F 48).length : Int)⟩ : Dec), true)) := by
  have e := rL3_val 6 F a h6 (by decide) hd hb
  have ew : w64 (0 - (dval a (Lib.trimRightB F 48) : Int)) = -(dval a (Lib.trimRightB F 48) : Int) := by rw [w64_in (by omega)]; omega
  unfold rEnd
  rw [e]
  simp only
  rw [ew, right_val hd h6 hb2 (.inl rfl), right_val hd h6 hb2 (.inr rfl)]
  rfl
theorem idx_cases : ∀ l : List UInt8, (Lib.indexByte l 46 = -1 ∧ ∀ b ∈ l, b ≠ 46) ∨ ∃ W F, l = W ++ 46 :: F ∧ (∀ b ∈ W, b ≠ 46) ∧ Lib.indexByte l 46 = (W.length : Int)
  | [] => .inl ⟨rfl, by simp⟩
  | b :: l => by
    rw [Lib.indexByte]
    by_cases h : b = 46
    · subst h
      exact .inr ⟨[], l, rfl, by simp, rfl⟩
    · have hb : (b == 46) = false := by rw [beq_eq_false_iff_ne]; exact h
      rw [if_neg (by rw [hb]; decide)]
      rcases idx_cases l with ⟨h1, h2⟩ | ⟨W, F, rfl, h2, h3⟩
      · left
        rw [h1]
        refine ⟨rfl, fun c hc => ?_⟩
        rcases List.mem_cons.1 hc with rfl | hc
        · exact h
        · exact h2 c hc
      · right
        refine ⟨b :: W, F, rfl, fun c hc => ?_, ?_⟩
        · rcases List.mem_cons.1 hc with rfl | hc
          · exact h
          · exact h2 c hc
        · rw [h3, if_neg (by rw [beq_iff_eq]; omega), List.length_cons]; rfl
theorem span_dig (l : List UInt8) : ∃ D R, l = D ++ R ∧ (∀ b ∈ D, IsDig b) ∧ (R = [] ∨ ∃ b r, R = b :: r ∧ ¬ IsDig b) := by
  induction l with
  | nil => exact ⟨[], [], rfl, by simp, .inl rfl⟩
  | cons b l ih =>
    by_cases hb : IsDig b
    · obtain ⟨D, R, rfl, h1, h2⟩ := ih
      refine ⟨b :: D, R, rfl, fun c hc => ?_, h2⟩
      rcases List.mem_cons.1 hc with rfl | hc
      · exact hb
      · exact h1 c hc
    · exact ⟨[], b :: l, rfl, by simp, .inr ⟨b, l, rfl, hb⟩⟩
theorem rOne_bad {mn : Bool} {W R : List UInt8} (hR : R = [] ∨ ∃ F, R = 46 :: F) (hW : ∀ b ∈ W, b ≠ 46) (h : ¬ (W ≠ [] ∧ W.length ≤ 5 ∧ ∀ b ∈ W, IsDig b)) : rOne mn (rL1 (W ++ R) 0 0) = none0 := by
  by_cases hd : ∀ b ∈ W, IsDig b
  · have hR' : R = [] ∨ ∃ b r, R = b :: r ∧ ¬ IsDig b := by
      rcases hR with rfl | ⟨F, rfl⟩
      · exact .inl rfl
      · exact .inr ⟨46, F, rfl, by unfold IsDig; decide⟩
    have e := rL1_val W R 0 0 hd hR' (by decide) (by decide)
    rw [show ((0 : Nat) : Int) = 0 from rfl] at e
    rw [e]
    by_cases h5 : 0 + W.length ≤ 5
    · rw [if_pos h5]
      have h0 : W = [] := by
        cases W with
        | nil => rfl
        | cons b W => exact absurd ⟨by simp, by omega, hd⟩ h
      subst h0
      rfl
    · rw [if_neg h5]; rfl
  · obtain ⟨D, X, e0, h1, h2⟩ := span_dig W
    subst e0
    rcases h2 with rfl | ⟨x, r, rfl, hx⟩
    · exact absurd (by simpa using h1) hd
    · have hx46 : x ≠ 46 := hW x (by simp)
      have e := rL1_val D ((x :: r) ++ R) 0 0 h1 (.inr ⟨x, r ++ R, rfl, hx⟩) (by decide) (by decide)
      rw [show ((0 : Nat) : Int) = 0 from rfl] at e
      rw [List.append_assoc, e]
      by_cases h5 : 0 + D.length ≤ 5
      · rw [if_pos h5]
        have hb : ((x.toNat : Int) != 46) = true := by
          rw [bne_iff_ne]
          intro e
          exact hx46 (UInt8.toNat_inj.1 (by show x.toNat = 46; omega))
        show (bif (0 + D.length) == 0 then none0 else rFrac mn (x :: (r ++ R)) _) = none0
        cases (0 + D.length) == 0
        · rw [cond_false, rFrac, hb]; rfl
        · rfl
      · rw [if_neg h5]; rfl
theorem atoi_val {l : List UInt8} (h0 : l ≠ []) (hd : ∀ b ∈ l, IsDig b) : lAtoi (byA l) = (dval 0 l : Int) := by
  obtain ⟨n, h1, h2⟩ := atoi_digs h0 hd
  rw [decFrom_dval l 0 hd] at h1
  unfold lAtoi
  rw [show (byA l).data.toList = l from rfl, h2, Option.getD_some, Option.some.inj h1]
theorem byA_app (a b : List UInt8) : byA a ++ byA b = byA (a ++ b) := by
  apply ByteArray.ext
  apply Array.ext'
  simp [byA]
theorem fig_byA (l : List UInt8) (n : Nat) : decFig (byA l) (n : Int) = true ↔ l ≠ [] ∧ l.length ≤ n ∧ ∀ b ∈ l, IsDig b := by
  rw [decFig_iff]
  show l ≠ [] ∧ ((l.length : Nat) : Int) ≤ n ∧ _ ↔ _
  rw [Int.ofNat_le]
  rfl
theorem fig_no {l : List UInt8} {n : Nat} (h : ¬ (l ≠ [] ∧ l.length ≤ n ∧ ∀ b ∈ l, IsDig b)) : decFig (byA l) (n : Int) = false := by
  cases hd : decFig (byA l) (n : Int)
  · rfl
  · exact absurd ((fig_byA l n).1 hd) h
theorem f5y {l : List UInt8} (h : l ≠ [] ∧ l.length ≤ 5 ∧ ∀ b ∈ l, IsDig b) : decFig (byA l) 5 = true := (fig_byA l 5).2 h
theorem f6y {l : List UInt8} (h : l ≠ [] ∧ l.length ≤ 6 ∧ ∀ b ∈ l, IsDig b) : decFig (byA l) 6 = true := (fig_byA l 6).2 h
theorem f5n {l : List UInt8} (h : ¬ (l ≠ [] ∧ l.length ≤ 5 ∧ ∀ b ∈ l, IsDig b)) : decFig (byA l) 5 = false := fig_no (n := 5) h
theorem f6n {l : List UInt8} (h : ¬ (l ≠ [] ∧ l.length ≤ 6 ∧ ∀ b ∈ l, IsDig b)) : decFig (byA l) 6 = false := fig_no (n := 6) h
theorem body_eq (s : ByteArray) : rdBody s = byA (rBody s) ∧ rdMinus s = rMin s := by
  obtain ⟨l, rfl⟩ : ∃ l, s = byA l := ⟨s.data.toList, rfl⟩
  unfold rdBody rdMinus lCutPrefix rBody rMin
  show byA (Lib.trimPrefix l [45]) = _ ∧ Lib.hasPrefix l [45] = _
  cases l with
  | nil => exact ⟨rfl, rfl⟩
  | cons b r =>
    have hp : decide (((byA (b :: r)).size : Int) > 0) = true := decide_eq_true (by have := byA_pos b r; omega)
    have hq : ((b.toNat : Int) == 45) = (45 == b) := by
      rw [Bool.eq_iff_iff, beq_iff_eq, beq_iff_eq]
      constructor
      · intro h; exact (UInt8.toNat_inj.1 (show b.toNat = 45 by omega)).symm
      · rintro rfl; rfl
    have hh : Lib.hasPrefix (b :: r) [45] = (45 == b) := by
      show (45 == b && true) = _
      rw [Bool.and_true]
    rw [hp, sAt_hd, hq, hh, Lib.trimPrefix, hh, cond_true, cond_true]
    cases 45 == b
    · exact ⟨rfl, rfl⟩
    · exact ⟨rfl, rfl⟩
theorem parts_none {s : ByteArray} (h : Lib.indexByte (rBody s) 46 = -1) : rdWhole s = byA (rBody s) ∧ rdRest s = byA [] ∧ rdPoint s = false := by
  have hb := (body_eq s).1
  unfold rdWhole rdRest rdPoint cutDot cutDot0
  rw [hb]
  have e : lIndex (byA (rBody s)) 46 = -1 := h
  rw [e]
  exact ⟨rfl, rfl, rfl⟩
theorem parts_some {s : ByteArray} {W F : List UInt8} (hl : (rBody s).length ≤ 4000) (h : rBody s = W ++ 46 :: F) (hi : Lib.indexByte (rBody s) 46 = (W.length : Int)) : rdWhole s = byA W ∧ rdRest s = byA F ∧ rdPoint s = true := by
  have hb := (body_eq s).1
  have hl' : W.length + (F.length + 1) ≤ 4000 := by rw [h, List.length_append, List.length_cons] at hl; exact hl
  unfold rdWhole rdRest rdPoint cutDot cutDot0
  rw [hb]
  have e : lIndex (byA (rBody s)) 46 = (W.length : Int) := hi
  have r0 : restL (byA (rBody s)) 0 = W ++ (46 :: F) := h
  have e1 := sub_rest r0
  have r1 : restL (byA (rBody s)) (W.length + 1) = F ++ [] := by
    have := rest_add (s := byA (rBody s)) (i := 0) (w := W ++ [46]) (r := F) (by rw [List.append_assoc]; exact r0)
    rw [List.append_nil]
    rw [← this]
    congr 1
    simp
  have e2 := sub_rest r1
  have es : ((byA (rBody s)).size : Int) = ((W.length + 1 + F.length : Nat) : Int) := by
    show (((rBody s).length : Nat) : Int) = _
    rw [h, List.length_append, List.length_cons]
    omega
  rw [e, decide_eq_true (by omega), cond_true, w64_in (by omega), es]
  refine ⟨?_, ?_, rfl⟩
  · rw [Nat.zero_add] at e1; exact e1
  · exact e2
theorem body_len (s : ByteArray) : (rBody s).length ≤ s.size := by
  have h : s.data.toList.length = s.size := by rw [Array.length_toList]; rfl
  unfold rBody
  cases decide ((s.size : Int) > 0)
  · exact Nat.le_of_eq h
  · cases (sAt s 0) == 45
    · exact Nat.le_of_eq h
    · show (s.data.toList.drop 1).length ≤ _
      rw [List.length_drop]; omega
theorem read_eq {s : ByteArray} (hs : s.size ≤ 4000) : decRead s = rRead s := by
  have hl : (rBody s).length ≤ 4000 := Nat.le_trans (body_len s) hs
  have hm := (body_eq s).2
  unfold rRead
  rcases idx_cases (rBody s) with ⟨hi, h46⟩ | ⟨W, F, hWF, h46, hi⟩
  · obtain ⟨pW, pF, pp⟩ := parts_none hi
    unfold decRead
    rw [pW, pF, pp, hm]
    by_cases hg : rBody s ≠ [] ∧ (rBody s).length ≤ 5 ∧ ∀ b ∈ rBody s, IsDig b
    · have e := rL1_val (rBody s) [] 0 0 hg.2.2 (.inl rfl) (by decide) (by decide)
      rw [List.append_nil, if_pos (show 0 + (rBody s).length ≤ 5 by omega), show ((0 : Nat) : Int) = 0 from rfl] at e
      rw [e, f5y hg]
      have hw : ((0 + (rBody s).length) == 0) = false := by
        rw [beq_eq_false_iff_ne]
        have := List.length_pos_iff.2 hg.1
        omega
      have hlt : dval 0 (rBody s) < 100000000000 := Nat.lt_of_lt_of_le (dval_lt (rBody s) 0 0 hg.2.2 (by decide)) (pow_le11 (by omega))
      have et : lTrimRight (byA []) 48 = byA [] := rfl
      have ea : lAtoi (byA (rBody s) ++ byA []) = (dval 0 (rBody s) : Int) := by rw [byA_app, List.append_nil]; exact atoi_val hg.1 hg.2.2
      have er := rEnd_val (F := []) (a := dval 0 (rBody s)) (rMin s) (by simp) (by decide) hlt hlt
      rw [et, ea]
      show _ = (bif (0 + (rBody s).length) == 0 then none0 else rFrac (rMin s) [] (dval 0 (rBody s) : Int))
      rw [hw, cond_false, rFrac]
      exact er.symm
    · have e := rOne_bad (mn := rMin s) (W := rBody s) (R := []) (.inl rfl) h46 hg
      rw [List.append_nil] at e
      rw [e, f5n hg]; rfl
  · obtain ⟨pW, pF, pp⟩ := parts_some hl hWF hi
    unfold decRead
    rw [pW, pF, pp, hm, hWF]
    by_cases hg : W ≠ [] ∧ W.length ≤ 5 ∧ ∀ b ∈ W, IsDig b
    · have e := rL1_val W (46 :: F) 0 0 hg.2.2 (.inr ⟨46, F, rfl, by unfold IsDig; decide⟩) (by decide) (by decide)
      rw [if_pos (show 0 + W.length ≤ 5 by omega), show ((0 : Nat) : Int) = 0 from rfl] at e
      rw [e, f5y hg, cond_true, cond_true]
      have hw : ((0 + W.length) == 0) = false := by
        rw [beq_eq_false_iff_ne]
        have := List.length_pos_iff.2 hg.1
        omega
      have hlW : dval 0 W < 10 ^ W.length := by have := dval_lt W 0 0 hg.2.2 (by decide); rw [Nat.zero_add] at this; exact this
      show _ = (bif (0 + W.length) == 0 then none0 else rFrac (rMin s) (46 :: F) (dval 0 W : Int))
      rw [hw, cond_false, rFrac]
      show _ = (bif F.length == 0 then none0 else (bif decide (F.length > 6) then none0 else rTwo (rMin s) (rL2 F (dval 0 W : Int) 0)))
      by_cases hf : F ≠ [] ∧ F.length ≤ 6 ∧ ∀ b ∈ F, IsDig b
      · have h0 : (F.length == 0) = false := by
          rw [beq_eq_false_iff_ne]
          have := List.length_pos_iff.2 hf.1
          omega
        have hT := trimB_sub F 48
        have hTd : ∀ b ∈ Lib.trimRightB F 48, IsDig b := fun b hb => hf.2.2 b (hT.1 b hb)
        have hlt : ∀ X : List UInt8, (∀ b ∈ X, IsDig b) → X.length ≤ 6 → dval (dval 0 W) X < 100000000000 := fun X hX h6 => Nat.lt_of_lt_of_le (dval_lt X _ _ hX hlW) (pow_le11 (by omega))
        have e2 := rL2_val F (dval 0 W) 0 W.length hf.2.2 (by omega) (by omega) hlW
        rw [Nat.zero_add, show ((0 : Nat) : Int) = 0 from rfl] at e2
        have et : lTrimRight (byA F) 48 = byA (Lib.trimRightB F 48) := rfl
        have ea : lAtoi (byA W ++ byA (Lib.trimRightB F 48)) = (dval (dval 0 W) (Lib.trimRightB F 48) : Int) := by
          rw [byA_app, atoi_val (by simp [hg.1]) (fun b hb => by
            rcases List.mem_append.1 hb with hb | hb
            · exact hg.2.2 b hb
            · exact hTd b hb), dval_app]
        have er := rEnd_val (F := F) (a := dval 0 W) (rMin s) hf.2.2 hf.2.1 (hlt F hf.2.2 hf.2.1) (hlt _ hTd (by omega))
        rw [h0, decide_eq_false (show ¬ F.length > 6 by omega), e2, et, ea, f6y hf]
        exact er.symm
      · rw [f6n hf]
        show none0 = _
        by_cases h0 : F = []
        · subst h0; rfl
        · have h0' : (F.length == 0) = false := by
            rw [beq_eq_false_iff_ne]
            have := List.length_pos_iff.2 h0
            omega
          rw [h0', cond_false]
          by_cases h6 : F.length > 6
          · rw [decide_eq_true h6]; rfl
          · rw [decide_eq_false h6, rL2_none F _ _ (fun hd => hf ⟨h0, by omega, hd⟩)]; rfl
    · rw [rOne_bad (mn := rMin s) (W := W) (R := 46 :: F) (.inr ⟨F, rfl⟩) h46 hg, f5n hg]; rfl
end Go.Proofs.YtalffjplbhelcaaDoor
namespace Go.Proofs.YtalffjplbhelcaaDoor
structure RTok where
  kind : Int
  text : ByteArray
  x : Int
  y : Int
def RTok.cells (t : RTok) : List Value := [.int .i64 t.kind, .string t.text, .int .i64 t.x, .int .i64 t.y]
def RTok.toTok (t : RTok) : Tok := ⟨t.kind, t.text, place t.x t.y⟩
def flatR (l : List RTok) : List Value := l.flatMap RTok.cells
theorem flatR_snoc (l : List RTok) (t : RTok) : flatR (l ++ [t]) = flatR l ++ t.cells := by
  unfold flatR
  rw [List.flatMap_append]
  simp
theorem map_snoc (l : List RTok) (t : RTok) : (l ++ [t]).map RTok.toTok = l.map RTok.toTok ++ [t.toTok] := by simp
def colOf (i : Nat) (start : Int) : Int := w64 ((w64 ((i : Int) - start)) + 1)
theorem run_word (s : ByteArray) (n i : Nat) : runTo rInWord s n i = runTo lexInWord s n i := rfl
theorem run_num (s : ByteArray) (n i : Nat) : runTo rInNum s n i = runTo lexInNum s n i := rfl
theorem run_rem {s : ByteArray} {i : Nat} (hi : i < s.size) (h : ((sAt s i) == 35) = true) : runTo lexNoLine s (s.size - i) i = runTo lexNoLine s (s.size - (i + 1)) (i + 1) := by
  rw [show s.size - i = (s.size - (i + 1)) + 1 by omega, runTo, decide_eq_true hi, Bool.true_and, eq_of_beq h]
  rfl
theorem sub_size {s : ByteArray} {i k : Nat} (h1 : i ≤ k) (h2 : k ≤ s.size) : (subS s (i : Int) (k : Int)).size = k - i := by
  unfold subS
  rw [Int.toNat_natCast, Int.toNat_natCast, ByteArray.size_extract]
  omega
theorem big_eq {s : ByteArray} {i : Nat} (hs4 : s.size ≤ 4000) (hi : i < s.size) : decide ((w64 (((runTo lexInWord s (s.size - (i + 1)) (i + 1) : Nat) : Int) - (i : Int))) > 20) = decide (((subS s (i : Int) ((runTo rInWord s (s.size - (i + 1)) (i + 1) : Nat) : Int)).size : Int) > 20) := by
  have h1 := runTo_ge lexInWord s (s.size - (i + 1)) (i + 1)
  have h2 := runTo_le lexInWord s (s.size - (i + 1)) (i + 1) hi
  rw [run_word, sub_size (by omega) h2, w64_in (by omega), show ((runTo lexInWord s (s.size - (i + 1)) (i + 1) : Nat) : Int) - (i : Int) = ((runTo lexInWord s (s.size - (i + 1)) (i + 1) - i : Nat) : Int) by omega]
theorem rd_eq {s : ByteArray} {i : Nat} (hs4 : s.size ≤ 4000) : (decRead (subS s (i : Int) ((runTo lexInNum s (s.size - (i + 1)) (i + 1) : Nat) : Int))).2 = (rRead (subS s (i : Int) ((runTo rInNum s (s.size - (i + 1)) (i + 1) : Nat) : Int))).2 := by
  rw [run_num, read_eq (subS_le s _ _ hs4)]
section
variable {s : ByteArray} {n i : Nat} {line start : Int} {any_ : Bool} {out : List Tok} {R : LRes}
theorem ls_end (he : ((i : Int) == ((s).size : Int)) = true) (hq : lexRun s (n + 1) i line start any_ out = R) : R = (bif any_ then out ++ [⟨3, ⟨#[]⟩, place line (colOf i start)⟩] else out, ⟨0, 0⟩, 0) := by
  rw [← hq, lexRun, lexStep, he, cond_true, lexFeed, he]
  cases any_ <;> rfl
theorem ls_feed (hi : i < s.size) (h10 : ((sAt s i) == 10) = true) (hq : lexRun s (n + 1) i line start any_ out = R) : lexRun s n (i + 1) (w64 (line + 1)) ((i + 1 : Nat) : Int) false (bif any_ then out ++ [⟨3, ⟨#[]⟩, place line (colOf i start)⟩] else out) = R := by
  rw [← hq, lexRun, lexStep, i_ne hi, h10, cond_false, cond_true, lexFeed, i_ne hi]
  cases any_ <;> rfl
theorem ls_32 (hi : i < s.size) (h10 : ((sAt s i) == 10) = false) (h32 : ((sAt s i) == 32) = true) (hq : lexRun s (n + 1) i line start any_ out = R) : lexRun s n (i + 1) line start any_ out = R := by
  rw [← hq, lexRun, lexStep, i_ne hi, h10, h32]; rfl
theorem ls_9 (hi : i < s.size) (h10 : ((sAt s i) == 10) = false) (h32 : ((sAt s i) == 32) = false) (h9 : ((sAt s i) == 9) = true) (hq : lexRun s (n + 1) i line start any_ out = R) : lexRun s n (i + 1) line start any_ out = R := by
  rw [← hq, lexRun, lexStep, i_ne hi, h10, h32, h9]; rfl
theorem ls_rem (hi : i < s.size) (h10 : ((sAt s i) == 10) = false) (h32 : ((sAt s i) == 32) = false) (h9 : ((sAt s i) == 9) = false) (h35 : ((sAt s i) == 35) = true) (hq : lexRun s (n + 1) i line start any_ out = R) : lexRun s n (runTo lexNoLine s (s.size - i) i) line start any_ out = R := by
  rw [← hq, lexRun, lexStep, i_ne hi, h10, h32, h9, h35, run_rem hi h35]; rfl
theorem ls_word (hs4 : s.size ≤ 4000) (hi : i < s.size) (h10 : ((sAt s i) == 10) = false) (h32 : ((sAt s i) == 32) = false) (h9 : ((sAt s i) == 9) = false) (h35 : ((sAt s i) == 35) = false) (hl : rLetter (sAt s i) = true) (hq : lexRun s (n + 1) i line start any_ out = R) :
    (bif decide (((subS s (i : Int) ((runTo rInWord s (s.size - (i + 1)) (i + 1) : Nat) : Int)).size : Int) > 20) then (([], place line (colOf i start), 3) : LRes) else lexRun s n (runTo rInWord s (s.size - (i + 1)) (i + 1)) line start true (out ++ [⟨1, subS s (i : Int) ((runTo rInWord s (s.size - (i + 1)) (i + 1) : Nat) : Int), place line (colOf i start)⟩])) = R := by
  rw [← hq, lexRun, lexStep, i_ne hi, h10, h32, h9, h35, show lexLetter (sAt s i) = true from hl]
  simp only [cond_true, cond_false]
  rw [lexWord, big_eq hs4 hi]
  rfl
theorem ls_num (hs4 : s.size ≤ 4000) (hi : i < s.size) (h10 : ((sAt s i) == 10) = false) (h32 : ((sAt s i) == 32) = false) (h9 : ((sAt s i) == 9) = false) (h35 : ((sAt s i) == 35) = false) (hl : rLetter (sAt s i) = false) (hd : rDigit (sAt s i) = true ∨ (rDigit (sAt s i) = false ∧ ((sAt s i) == 45) = true)) (hq : lexRun s (n + 1) i line start any_ out = R) :
    (bif (rRead (subS s (i : Int) ((runTo rInNum s (s.size - (i + 1)) (i + 1) : Nat) : Int))).2 then lexRun s n (runTo rInNum s (s.size - (i + 1)) (i + 1)) line start true (out ++ [⟨2, subS s (i : Int) ((runTo rInNum s (s.size - (i + 1)) (i + 1) : Nat) : Int), place line (colOf i start)⟩]) else (([], place line (colOf i start), 2) : LRes)) = R := by
  have hN : lexNum (lexRun s n) s i line start out (lexHere i line start) = R := by
    rw [← hq, lexRun, lexStep, i_ne hi, h10, h32, h9, h35, show lexLetter (sAt s i) = false from hl]
    rcases hd with hd | ⟨hd, h45⟩
    · rw [show lexDigit (sAt s i) = true from hd]; rfl
    · rw [show lexDigit (sAt s i) = false from hd, h45]; rfl
  rw [lexNum, rd_eq hs4] at hN
  exact hN
theorem ls_form (hi : i < s.size) (h10 : ((sAt s i) == 10) = false) (h32 : ((sAt s i) == 32) = false) (h9 : ((sAt s i) == 9) = false) (h35 : ((sAt s i) == 35) = false) (hl : rLetter (sAt s i) = false) (hd : rDigit (sAt s i) = false) (h45 : ((sAt s i) == 45) = false) (hq : lexRun s (n + 1) i line start any_ out = R) : R = ([], place line (colOf i start), 2) := by
  rw [← hq, lexRun, lexStep, i_ne hi, h10, h32, h9, h35, show lexLetter (sAt s i) = false from hl, show lexDigit (sAt s i) = false from hd, h45]; rfl
end
theorem rt_loop (s : ByteArray) (hs4 : s.size ≤ 4000) (gr : Nat) {Q : Exit → Env → List Box → Prop} {code : Code} (hc : Tryd.f13.body.bind (loopN 0) = some code) (R : LRes)
    (Kx : ∀ (out : List RTok) (m ca : Nat) (aa : Option Addr) (NA : List Box) (xs : List Value) (E' : Env), m = out.length → m ≤ 4001 → xs = flatR out → Row 42 4 m xs (.slice aa m ca) NA → R = (out.map RTok.toTok, ⟨0, 0⟩, 0) → E' 5 = .slice aa m ca → E' 3 = .pointer (some ⟨gr, 0, none⟩) → Q (.exit 0) E' ([⟨gr, [.int .i64 0, .int .i64 0], 37, false⟩] ++ NA))
    (Kr : ∀ (line col e : Int) (NA B : List Box) (E' : Env), R = ([], place line col, e) → E' 2 = .slice none 0 0 → E' 3 = .pointer (some ⟨gr, 0, none⟩) → E' 4 = .int .i64 e → Q .ret E' (B ++ ([⟨gr, [.int .i64 line, .int .i64 col], 37, false⟩] ++ NA))) :
    ∀ (k i n m ca : Nat) (line start : Int) (any_ : Bool) (out : List RTok) (aa : Option Addr) (NA : List Box) (xs : List Value) (E : Env), m = out.length → m ≤ i → i ≤ s.size → xs = flatR out → Row 42 4 m xs (.slice aa m ca) NA → s.size - i < n → lexRun s n i line start any_ (out.map RTok.toTok) = R → s.size + 1 ≤ i + k →
      E 0 = .string s → E 3 = .pointer (some ⟨gr, 0, none⟩) → E 5 = .slice aa m ca → E 6 = .int .i64 line → E 7 = .int .i64 start → E 8 = .bool any_ → E 9 = .int .i64 (i : Int) → ARounds Tryd.prog 159 code Q (k + 1) E ([⟨gr, [.int .i64 0, .int .i64 0], 37, false⟩] ++ NA) := by
  intro k
  induction k with
  | zero => intro i n m ca line start any_ out aa NA xs E _ _ hi _ _ _ _ hk; omega
  | succ k ih =>
    intro i n m ca line start any_ out aa NA xs E hm hmi hil hxs hR hn hq hk q0 q3 q5 q6 q7 q8 q9
    obtain ⟨n, rfl⟩ : ∃ n', n = n' + 1 := ⟨n - 1, by omega⟩
    have ge := fun P : Int → Bool => runTo_ge P s (s.size - (i + 1)) (i + 1)
    by_cases hi : i < s.size
    · have le := fun P : Int → Bool => runTo_le P s (s.size - (i + 1)) (i + 1) hi
      cases h10 : (sAt s i) == 10
      · cases h32 : (sAt s i) == 32
        · cases h9 : (sAt s i) == 9
          · cases h35 : (sAt s i) == 35
            · cases hl : rLetter (sAt s i)
              · have num : (rDigit (sAt s i) = true ∨ (rDigit (sAt s i) = false ∧ ((sAt s i) == 45) = true)) → ARounds Tryd.prog 159 code Q (k + 1 + 1) E ([⟨gr, [.int .i64 0, .int .i64 0], 37, false⟩] ++ NA) := by
                  intro hd
                  have hs := ls_num hs4 hi h10 h32 h9 h35 hl hd hq
                  cases hr : (rRead (subS s (i : Int) ((runTo rInNum s (s.size - (i + 1)) (i + 1) : Nat) : Int))).2
                  · rw [hr] at hs
                    rcases hd with hd | ⟨hd, h45⟩
                    · exact rt_badd s hs4 gr m ca i line start any_ aa NA xs (by omega) hR hi h10 h32 h9 h35 hl hd hr hc q0 q3 q5 q6 q7 q8 q9 (fun E' B f2 f3 f4 => Kr line (colOf i start) 2 NA B E' hs.symm f2 f3 f4)
                    · exact rt_badm s hs4 gr m ca i line start any_ aa NA xs (by omega) hR hi h10 h32 h9 h35 hl hd h45 hr hc q0 q3 q5 q6 q7 q8 q9 (fun E' B f2 f3 f4 => Kr line (colOf i start) 2 NA B E' hs.symm f2 f3 f4)
                  · rw [hr] at hs
                    have nx : ∀ (aa' : Option Addr) (ca' : Nat) (NA' : List Box) (E' : Env), Row 42 4 (m + 1) (xs ++ [.int .i64 2, .string (subS s (i : Int) ((runTo rInNum s (s.size - (i + 1)) (i + 1) : Nat) : Int)), .int .i64 line, .int .i64 (w64 ((w64 ((i : Int) - start)) + 1))]) (.slice aa' (m + 1) ca') NA' → E' 0 = .string s → E' 3 = .pointer (some ⟨gr, 0, none⟩) → E' 5 = .slice aa' (m + 1) ca' → E' 6 = .int .i64 line → E' 7 = .int .i64 start → E' 8 = .bool true → E' 9 = .int .i64 ((runTo rInNum s (s.size - (i + 1)) (i + 1) : Nat) : Int) → ARounds Tryd.prog 159 code Q (k + 1) E' ([⟨gr, [.int .i64 0, .int .i64 0], 37, false⟩] ++ NA') :=
                      fun aa' ca' NA' E' hR' f0 f3 f5 f6 f7 f8 f9 => ih _ n (m + 1) ca' line start true (out ++ [⟨2, subS s (i : Int) ((runTo rInNum s (s.size - (i + 1)) (i + 1) : Nat) : Int), line, colOf i start⟩]) aa' NA' _ E' (by simp [hm]) (by have := ge rInNum; omega) (le rInNum) (by rw [flatR_snoc, hxs]; rfl) hR' (by have := ge rInNum; omega) (by rw [map_snoc]; exact hs) (by have := ge rInNum; omega) f0 f3 f5 f6 f7 f8 f9
                    rcases hd with hd | ⟨hd, h45⟩
                    · exact rt_numd s hs4 gr m ca i line start any_ aa NA xs (by omega) hR hi h10 h32 h9 h35 hl hd hr hc q0 q3 q5 q6 q7 q8 q9 nx
                    · exact rt_numm s hs4 gr m ca i line start any_ aa NA xs (by omega) hR hi h10 h32 h9 h35 hl hd h45 hr hc q0 q3 q5 q6 q7 q8 q9 nx
                cases hd : rDigit (sAt s i)
                · cases h45 : (sAt s i) == 45
                  · exact rt_form s hs4 gr m ca i line start any_ aa NA xs (by omega) hR hi h10 h32 h9 h35 hl hd h45 hc q0 q3 q5 q6 q7 q8 q9 (fun E' B f2 f3 f4 => Kr line (colOf i start) 2 NA B E' (ls_form hi h10 h32 h9 h35 hl hd h45 hq) f2 f3 f4)
                  · exact num (.inr ⟨hd, h45⟩)
                · exact num (.inl hd)
              · have hs := ls_word hs4 hi h10 h32 h9 h35 hl hq
                cases h20 : decide (((subS s (i : Int) ((runTo rInWord s (s.size - (i + 1)) (i + 1) : Nat) : Int)).size : Int) > 20)
                · rw [h20] at hs
                  exact rt_word s hs4 gr m ca i line start any_ aa NA xs (by omega) hR hi h10 h32 h9 h35 hl h20 hc q0 q3 q5 q6 q7 q8 q9 (fun aa' ca' NA' E' hR' f0 f3 f5 f6 f7 f8 f9 => ih _ n (m + 1) ca' line start true (out ++ [⟨1, subS s (i : Int) ((runTo rInWord s (s.size - (i + 1)) (i + 1) : Nat) : Int), line, colOf i start⟩]) aa' NA' _ E' (by simp [hm]) (by have := ge rInWord; omega) (le rInWord) (by rw [flatR_snoc, hxs]; rfl) hR' (by have := ge rInWord; omega) (by rw [map_snoc]; exact hs) (by have := ge rInWord; omega) f0 f3 f5 f6 f7 f8 f9)
                · rw [h20] at hs
                  exact rt_big s hs4 gr m ca i line start any_ aa NA xs (by omega) hR hi h10 h32 h9 h35 hl h20 hc q0 q3 q5 q6 q7 q8 q9 (fun E' B f2 f3 f4 => Kr line (colOf i start) 3 NA B E' hs.symm f2 f3 f4)
            · have hs := ls_rem hi h10 h32 h9 h35 hq
              have hrun := run_rem hi h35
              refine rt_rem s hs4 gr m ca i line start any_ aa NA xs (by omega) hR hi h10 h32 h9 h35 hc q0 q3 q5 q6 q7 q8 q9 (fun E' f0 f3 f5 f6 f7 f8 f9 => ?_)
              have h1 := ge lexNoLine
              have h2 := le lexNoLine
              exact ih _ n m ca line start any_ out aa NA xs E' hm (by rw [hrun]; omega) (by rw [hrun]; exact h2) hxs hR (by rw [hrun]; omega) hs (by rw [hrun]; omega) f0 f3 f5 f6 f7 f8 f9
          · exact rt_b9 s hs4 gr m ca i line start any_ aa NA xs (by omega) hR hi h10 h32 h9 hc q0 q3 q5 q6 q7 q8 q9 (fun E' f0 f3 f5 f6 f7 f8 f9 => ih (i + 1) n m ca line start any_ out aa NA xs E' hm (by omega) (by omega) hxs hR (by omega) (ls_9 hi h10 h32 h9 hq) (by omega) f0 f3 f5 f6 f7 f8 f9)
        · exact rt_b32 s hs4 gr m ca i line start any_ aa NA xs (by omega) hR hi h10 h32 hc q0 q3 q5 q6 q7 q8 q9 (fun E' f0 f3 f5 f6 f7 f8 f9 => ih (i + 1) n m ca line start any_ out aa NA xs E' hm (by omega) (by omega) hxs hR (by omega) (ls_32 hi h10 h32 hq) (by omega) f0 f3 f5 f6 f7 f8 f9)
      · have hs := ls_feed hi h10 hq
        cases ha : any_
        · rw [ha] at hs
          exact rt_feed0n s hs4 gr m ca i line start any_ aa NA xs (by omega) hR hi h10 ha hc q0 q3 q5 q6 q7 q8 q9 (fun E' f0 f3 f5 f6 f7 f8 f9 => ih (i + 1) n m ca _ _ false out aa NA xs E' hm (by omega) (by omega) hxs hR (by omega) hs (by omega) f0 f3 f5 f6 f7 f8 f9)
        · rw [ha] at hs
          exact rt_feed1n s hs4 gr m ca i line start any_ aa NA xs (by omega) hR hi h10 ha hc q0 q3 q5 q6 q7 q8 q9 (fun aa' ca' NA' E' hR' f0 f3 f5 f6 f7 f8 f9 => ih (i + 1) n (m + 1) ca' _ _ false (out ++ [⟨3, ⟨#[]⟩, line, colOf i start⟩]) aa' NA' _ E' (by simp [hm]) (by omega) (by omega) (by rw [flatR_snoc, hxs]; rfl) hR' (by omega) (by rw [map_snoc]; exact hs) (by omega) f0 f3 f5 f6 f7 f8 f9)
    · have he : ((i : Int) == ((s).size : Int)) = true := by rw [beq_iff_eq]; omega
      have hs := ls_end he hq
      cases ha : any_
      · rw [ha] at hs
        exact rt_feed0e s hs4 gr m ca i line start any_ aa NA xs (by omega) hR hil he ha hc q0 q3 q5 q6 q7 q8 q9 (fun E' f0 f3 f5 f6 f7 f8 f9 => rt_exit s hs4 gr m ca (i + 1) _ _ false aa NA xs (by omega) hR (by omega) hc f0 f3 f5 f6 f7 f8 f9 (fun E'' g5 g3 => Kx out m ca aa NA xs E'' hm (by omega) hxs hR hs g5 g3))
      · rw [ha] at hs
        exact rt_feed1e s hs4 gr m ca i line start any_ aa NA xs (by omega) hR hil he ha hc q0 q3 q5 q6 q7 q8 q9 (fun aa' ca' NA' E' hR' f0 f3 f5 f6 f7 f8 f9 => rt_exit s hs4 gr (m + 1) ca' (i + 1) _ _ false aa' NA' _ (by omega) hR' (by omega) hc f0 f3 f5 f6 f7 f8 f9 (fun E'' g5 g3 => Kx (out ++ [⟨3, ⟨#[]⟩, line, colOf i start⟩]) (m + 1) ca' aa' NA' _ E'' (by simp [hm]) (by omega) (by rw [flatR_snoc, hxs]; rfl) hR' (by rw [map_snoc]; exact hs) g5 g3))
end Go.Proofs.YtalffjplbhelcaaDoor
namespace Go.Proofs.YtalffjplbhelcaaDoor
open Go.RowKit
theorem bd37_  : Runs Tryd.prog (Instr.build 37 #[]) (.agg #[.int .i64 0, .int .i64 0]) := ⟨fun w => by go_simp⟩
end Go.Proofs.YtalffjplbhelcaaDoor
namespace Go.Proofs.YtalffjplbhelcaaDoor
open Go.RowKit
attribute [local irreducible] AC AR DWalk
def RTokPost (R : LRes) (v : Value) (N : List Box) : Prop :=
 ∃ (out : List RTok) (x y e : Int) (m ca : Nat) (aa : Option Addr) (xs : List Value), v = .tuple #[.slice aa m ca, .agg #[.int .i64 x, .int .i64 y], .int .i64 e] ∧ R = (out.map RTok.toTok, place x y, e) ∧ m = out.length ∧ m ≤ 4001 ∧ xs = flatR out ∧ Row 42 4 m xs (.slice aa m ca) N
theorem at_len (B : List Box) (b : Box) (NA : List Box) : (B ++ ([b] ++ NA))[B.length]? = some b := by simp
theorem place0 : (⟨0, 0⟩ : Cx) = place 0 0 := by decide +kernel
theorem rTokPost_err {R : LRes} {line col e : Int} (h : R = ([], place line col, e)) : RTokPost R (.tuple #[.slice none 0 0, .agg #[.int .i64 line, .int .i64 col], .int .i64 e]) [] :=
 ⟨[], line, col, e, 0, 0, none, [], rfl, h, rfl, by decide, rfl, Row.nil _ _⟩
theorem rTokPost_row {R : LRes} {out : List RTok} {m ca : Nat} {aa : Option Addr} {xs : List Value} {N : List Box} (h : R = (out.map RTok.toTok, ⟨0, 0⟩, 0)) (hm : m = out.length) (h4 : m ≤ 4001) (hx : xs = flatR out) (hR : Row 42 4 m xs (.slice aa m ca) N) : RTokPost R (.tuple #[.slice aa m ca, .agg #[.int .i64 0, .int .i64 0], .int .i64 0]) N :=
 ⟨out, 0, 0, 0, m, ca, aa, xs, rfl, by rw [h, place0], hm, h4, hx, hR⟩
set_option maxRecDepth 100000 in
theorem c_rTokBig (s : ByteArray) (hs : 4000 < s.size) : Gives Tryd.prog 13 #[.string s] [] (RTokPost (lexAll s)) := by
 refine gives_fin Tryd.func13 rfl rfl rfl rfl (aQ (aL (aA 2 (.slice none 0 0) rfl rfl (ao 3 rfl rfl (st_new zero37 rfl fun g0 => (aA 4 (.int .i64 0) rfl rfl (aN (aQ (aQ (aL (aM 16 (.string s) rfl rfl (ao 17 rfl rfl (st_slen (s := s) rfl Tryd.underlying9 rfl (aB 18 (.bool (decide (((s).size : Int) > 4000))) rfl rfl rfl (bi_gtr rfl) (aN (ac_then' (b := decide (((s).size : Int) > 4000)) (decide_eq_true (by omega)) rfl (aQ (aL (ao 19 rfl rfl (st_bd (us := []) (v := .agg #[.int .i64 0, .int .i64 0]) rfl rfl (bd37_ ) (aA 2 (.slice none 0 0) rfl rfl (aS [.int .i64 0, .int .i64 0] agg37 0 rfl rfl rfl rfl rfl rfl (aA 4 (.int .i64 3) rfl rfl (aN (ac_ret ?_)))))))))))))))))))))))))
 exact fing_ret (N := []) (rTokPost_err (line := 0) (col := 0) (e := 3) (by rw [lexAll, decide_eq_true (by omega), place0]; rfl)) (List.nil_sublist _) rfl (res_tct (vs := [.int .i64 0, .int .i64 0]) agg37 0 rfl rfl rfl rfl rfl rfl rfl rfl)
set_option maxRecDepth 100000 in
theorem c_rTokFit (s : ByteArray) (hs : s.size ≤ 4000) : Gives Tryd.prog 13 #[.string s] [] (RTokPost (lexAll s)) := by
 refine gives_fin Tryd.func13 rfl rfl rfl rfl (aQ (aL (aA 2 (.slice none 0 0) rfl rfl (ao 3 rfl rfl (st_new zero37 rfl fun g0 => (aA 4 (.int .i64 0) rfl rfl (aN (aQ (aQ (aL (aM 16 (.string s) rfl rfl (ao 17 rfl rfl (st_slen (s := s) rfl Tryd.underlying9 rfl (aB 18 (.bool (decide (((s).size : Int) > 4000))) rfl rfl rfl (bi_gtr rfl) (aN (ac_else' (b := decide (((s).size : Int) > 4000)) (decide_eq_false (by omega)) rfl (ac_skip (aQ (aL (aA 5 (.slice none 0 0) rfl rfl (aN (aQ (aL (aA 6 (.int .i64 1) rfl rfl (aN (aQ (aL (aA 7 (.int .i64 0) rfl rfl (aN (aQ (aL (aA 8 (.bool false) rfl rfl (aN (aQ (aL (aA 9 (.int .i64 0) rfl rfl (aN (aQ (ac_block ?_)))))))))))))))))))))))))))))))))))))))
 refine ac_rounds (s.size + 2) ?_
 refine rt_loop s hs g0 rfl (lexAll s) (fun out m ca aa NA xs E9 hm h4 hx hR hq f5 f3 => ?_) (fun line col e NA B E9 hq f2 f3 f4 => ?_) (s.size + 1) 0 (s.size + 1) 0 0 1 0 false [] none [] [] _ rfl (Nat.le_refl _) (Nat.zero_le _) rfl (Row.nil _ _) (by omega) (by rw [lexAll, decide_eq_false (by omega)]; rfl) (by omega) rfl rfl rfl rfl rfl rfl (by rfl)
 rotate_left
 ·obtain ⟨E0, rfl⟩ : ∃ E0 : Env, E9 = (((E0.put (some 2) (.slice none 0 0)).put (some 3) (.pointer (some ⟨g0, 0, none⟩))).put (some 4) (.int .i64 e)) := ⟨E9, by rw [put_self f2, put_self f3, put_self f4]⟩
  exact fing_ret (N := []) (rTokPost_err hq) (List.nil_sublist _) rfl (res_tct (vs := [.int .i64 line, .int .i64 col]) agg37 B.length rfl rfl rfl (at_len B _ NA) rfl rfl rfl rfl)
 obtain ⟨E0, rfl⟩ : ∃ E0 : Env, E9 = ((E0.put (some 3) (.pointer (some ⟨g0, 0, none⟩))).put (some 5) (.slice aa m ca)) := ⟨E9, by rw [put_self f3, put_self f5]⟩
 refine aQ (aL (aM 157 (.slice aa m ca) rfl rfl (ao 158 rfl rfl (st_bd (us := []) (v := .agg #[.int .i64 0, .int .i64 0]) rfl rfl (bd37_ ) (aA 2 (.slice aa m ca) rfl rfl (aS [.int .i64 0, .int .i64 0] agg37 0 rfl rfl rfl rfl rfl rfl (aA 4 (.int .i64 0) rfl rfl (aN (ac_ret ?_)))))))))
 exact fing_ret (N := NA) (rTokPost_row hq hm h4 hx hR) (List.Sublist.cons _ (List.Sublist.refl _)) (rowFree hR) (res_tct (vs := [.int .i64 0, .int .i64 0]) agg37 0 rfl rfl rfl rfl rfl rfl rfl rfl)
theorem c_rTokens (s : ByteArray) : Gives Tryd.prog 13 #[.string s] [] (RTokPost (lexAll s)) := by
 by_cases h : s.size ≤ 4000
 ·exact c_rTokFit s h
 ·exact c_rTokBig s (by omega)
end Go.Proofs.YtalffjplbhelcaaDoor
namespace Go.Proofs.YtalffjplbhelcaaDoor
open Go.RowKit
attribute [local irreducible] AC AR DWalk
def txWords : List ByteArray := [(⟨#[97]⟩ : ByteArray), (⟨#[108, 101, 110, 115]⟩ : ByteArray), (⟨#[102, 97, 99, 101]⟩ : ByteArray), (⟨#[49]⟩ : ByteArray), (⟨#[45, 50, 46, 53, 48]⟩ : ByteArray), (⟨#[48, 46, 48, 48, 49]⟩ : ByteArray), (⟨#[32]⟩ : ByteArray), (⟨#[32, 32]⟩ : ByteArray), (⟨#[9]⟩ : ByteArray), (⟨#[10]⟩ : ByteArray), (⟨#[10]⟩ : ByteArray), (⟨#[35, 32, 120, 32, 121, 10]⟩ : ByteArray), (⟨#[120, 45, 49]⟩ : ByteArray), (⟨#[66, 95, 57]⟩ : ByteArray), (⟨#[49, 50, 51, 52, 53, 46, 54, 55, 56, 57, 48, 49]⟩ : ByteArray), (⟨#[45]⟩ : ByteArray), (⟨#[46]⟩ : ByteArray), (⟨#[33]⟩ : ByteArray)]
def txW (k : Int) : ByteArray := txWords.getD k.toNat ⟨#[]⟩
theorem tx_at (k : Int) (h : 0 ≤ k ∧ k < 18) : ([.string (⟨#[97]⟩ : ByteArray), .string (⟨#[108, 101, 110, 115]⟩ : ByteArray), .string (⟨#[102, 97, 99, 101]⟩ : ByteArray), .string (⟨#[49]⟩ : ByteArray), .string (⟨#[45, 50, 46, 53, 48]⟩ : ByteArray), .string (⟨#[48, 46, 48, 48, 49]⟩ : ByteArray), .string (⟨#[32]⟩ : ByteArray), .string (⟨#[32, 32]⟩ : ByteArray), .string (⟨#[9]⟩ : ByteArray), .string (⟨#[10]⟩ : ByteArray), .string (⟨#[10]⟩ : ByteArray), .string (⟨#[35, 32, 120, 32, 121, 10]⟩ : ByteArray), .string (⟨#[120, 45, 49]⟩ : ByteArray), .string (⟨#[66, 95, 57]⟩ : ByteArray), .string (⟨#[49, 50, 51, 52, 53, 46, 54, 55, 56, 57, 48, 49]⟩ : ByteArray), .string (⟨#[45]⟩ : ByteArray), .string (⟨#[46]⟩ : ByteArray), .string (⟨#[33]⟩ : ByteArray)] : List Value)[0 + k.toNat * 1]? = some (.string (txW k)) := by
 have h8 : k = 0 ∨ k = 1 ∨ k = 2 ∨ k = 3 ∨ k = 4 ∨ k = 5 ∨ k = 6 ∨ k = 7 ∨ k = 8 ∨ k = 9 ∨ k = 10 ∨ k = 11 ∨ k = 12 ∨ k = 13 ∨ k = 14 ∨ k = 15 ∨ k = 16 ∨ k = 17 := by omega
 rcases h8 with rfl | rfl | rfl | rfl | rfl | rfl | rfl | rfl | rfl | rfl | rfl | rfl | rfl | rfl | rfl | rfl | rfl | rfl <;> rfl
theorem tx_size (k : Int) : (txW k).size ≤ 12 := by
 unfold txW
 by_cases h : k.toNat < 18
 ·have h8 : k.toNat = 0 ∨ k.toNat = 1 ∨ k.toNat = 2 ∨ k.toNat = 3 ∨ k.toNat = 4 ∨ k.toNat = 5 ∨ k.toNat = 6 ∨ k.toNat = 7 ∨ k.toNat = 8 ∨ k.toNat = 9 ∨ k.toNat = 10 ∨ k.toNat = 11 ∨ k.toNat = 12 ∨ k.toNat = 13 ∨ k.toNat = 14 ∨ k.toNat = 15 ∨ k.toNat = 16 ∨ k.toNat = 17 := by omega
  rcases h8 with e | e | e | e | e | e | e | e | e | e | e | e | e | e | e | e | e | e <;> rw [e] <;> decide
 ·rw [List.getD_eq_getElem?_getD, List.getElem?_eq_none (by simp [txWords]; omega)]
  decide
theorem tx_k18 {x : Int} (h : decide (hPick x 60 < 18) = true) : 0 ≤ hPick x 60 ∧ hPick x 60 < 18 := ⟨(hPick_lt x (m := 60) (by omega) (by omega)).1, of_decide_eq_true h⟩
theorem tx_k14 (x : Int) : 0 ≤ Int.tmod (hPick x 60) 14 ∧ Int.tmod (hPick x 60) 14 < 18 := by
 have h := hPick_lt x (m := 60) (by omega) (by omega)
 rw [Int.tmod_eq_emod_of_nonneg h.1]
 omega
theorem abc_in (y : Int) : 0 ≤ w64 (15 + hPick y 11) ∧ w64 (15 + hPick y 11) ≤ (((⟨#[97, 98, 99, 100, 101, 102, 103, 104, 105, 106, 107, 108, 109, 110, 111, 112, 113, 114, 115, 116, 117, 118, 119, 120, 121, 122]⟩ : ByteArray)).size : Int) := by
 have h := hPick_lt y (m := 11) (by omega) (by omega)
 rw [w64_in (by omega)]
 exact ⟨by omega, by show 15 + hPick y 11 ≤ ((26 : Nat) : Int); omega⟩
def txStep (x : Int) (raw t : ByteArray) : ByteArray := (bif decide ((hPick x 60) < 18) then (t ++ (txW (hPick x 60))) else (bif (hPick x 60) == 18 then (t ++ raw) else (bif (hPick x 60) == 19 then (t ++ (subS (⟨#[97, 98, 99, 100, 101, 102, 103, 104, 105, 106, 107, 108, 109, 110, 111, 112, 113, 114, 115, 116, 117, 118, 119, 120, 121, 122]⟩ : ByteArray) 0 (w64 (15 + (hPick (w64 (Int.tdiv x 60)) 11))))) else ((t ++ (txW (Int.tmod (hPick x 60) 14))) ++ (⟨#[32]⟩ : ByteArray)))))
set_option maxRecDepth 100000 in
set_option maxHeartbeats 4000000 in
theorem tx_go (gw m1 c1 i g1 o1 t1 : Nat) (cs1 : List Value) (x1 : Nat → Int) (NA : List Box) (raw t : ByteArray) (hi : i < m1) (h40 : i < 40) (hraw : raw.size ≤ 140737488351232) (ht : t.size ≤ 5629499534050480) (hm1 : (⟨g1, cs1, t1, true⟩ : Box) ∈ NA) (hc1 : cs1[o1 + i * 1]? = some (.int .i64 (x1 i))) {Q : Exit → Env → List Box → Prop} {E : Env} {c : Code} {j : Nat} (hc : Tryd.f12.body.bind loopOf = some c) (q0 : E 0 = .slice (some ⟨g1, o1, none⟩) m1 c1) (q1 : E 1 = .string raw) (q5 : E 5 = .pointer (some ⟨gw, 0, none⟩)) (q6 : E 6 = .string t) (q7 : E 7 = .int .i64 (i : Int)) (K : ∀ E' : Env, E' 0 = .slice (some ⟨g1, o1, none⟩) m1 c1 → E' 1 = .string raw → E' 5 = .pointer (some ⟨gw, 0, none⟩) → E' 6 = .string (txStep (x1 i) raw t) → E' 7 = .int .i64 ((i + 1 : Nat) : Int) → ARounds Tryd.prog 60 c Q j E' ([⟨gw, [.string (⟨#[97]⟩ : ByteArray), .string (⟨#[108, 101, 110, 115]⟩ : ByteArray), .string (⟨#[102, 97, 99, 101]⟩ : ByteArray), .string (⟨#[49]⟩ : ByteArray), .string (⟨#[45, 50, 46, 53, 48]⟩ : ByteArray), .string (⟨#[48, 46, 48, 48, 49]⟩ : ByteArray), .string (⟨#[32]⟩ : ByteArray), .string (⟨#[32, 32]⟩ : ByteArray), .string (⟨#[9]⟩ : ByteArray), .string (⟨#[10]⟩ : ByteArray), .string (⟨#[10]⟩ : ByteArray), .string (⟨#[35, 32, 120, 32, 121, 10]⟩ : ByteArray), .string (⟨#[120, 45, 49]⟩ : ByteArray), .string (⟨#[66, 95, 57]⟩ : ByteArray), .string (⟨#[49, 50, 51, 52, 53, 46, 54, 55, 56, 57, 48, 49]⟩ : ByteArray), .string (⟨#[45]⟩ : ByteArray), .string (⟨#[46]⟩ : ByteArray), .string (⟨#[33]⟩ : ByteArray)], 69, false⟩] ++ NA)) : ARounds Tryd.prog 60 c Q (j + 1) E ([⟨gw, [.string (⟨#[97]⟩ : ByteArray), .string (⟨#[108, 101, 110, 115]⟩ : ByteArray), .string (⟨#[102, 97, 99, 101]⟩ : ByteArray), .string (⟨#[49]⟩ : ByteArray), .string (⟨#[45, 50, 46, 53, 48]⟩ : ByteArray), .string (⟨#[48, 46, 48, 48, 49]⟩ : ByteArray), .string (⟨#[32]⟩ : ByteArray), .string (⟨#[32, 32]⟩ : ByteArray), .string (⟨#[9]⟩ : ByteArray), .string (⟨#[10]⟩ : ByteArray), .string (⟨#[10]⟩ : ByteArray), .string (⟨#[35, 32, 120, 32, 121, 10]⟩ : ByteArray), .string (⟨#[120, 45, 49]⟩ : ByteArray), .string (⟨#[66, 95, 57]⟩ : ByteArray), .string (⟨#[49, 50, 51, 52, 53, 46, 54, 55, 56, 57, 48, 49]⟩ : ByteArray), .string (⟨#[45]⟩ : ByteArray), .string (⟨#[46]⟩ : ByteArray), .string (⟨#[33]⟩ : ByteArray)], 69, false⟩] ++ NA) := by
 rw [show Tryd.f12.body.bind loopOf = some _ from rfl] at hc
 cases hc
 obtain ⟨E0, rfl⟩ : ∃ E0 : Env, E = (((((E0.put (some 0) (.slice (some ⟨g1, o1, none⟩) m1 c1)).put (some 1) (.string raw)).put (some 5) (.pointer (some ⟨gw, 0, none⟩))).put (some 6) (.string t)).put (some 7) (.int .i64 (i : Int))) := ⟨E, by rw [put_self q0, put_self q1, put_self q5, put_self q6, put_self q7]⟩
 refine ar_round (aQ (aQ (aL (aM 10 (.int .i64 (i : Int)) rfl rfl (aM 11 (.slice (some ⟨g1, o1, none⟩) m1 c1) rfl rfl (ao 12 rfl rfl (st_ln (a := some ⟨g1, o1, none⟩) (m := m1) (c := c1) rfl Tryd.underlying33 rfl (aB 13 (.bool (decide ((i : Int) < (m1 : Int)))) rfl rfl rfl (bi_lss rfl) (aM 14 (.bool (decide ((i : Int) < (m1 : Int)))) rfl rfl (ar_gd (d := (some 15)) (by show ((decide ((i : Int) < (m1 : Int))) == true) = true; rw [(decide_eq_true (by omega))]; rfl) rfl (st_move (v := .int .i64 (i : Int)) rfl rfl ?_)))))))))))
 refine ar_gd (d := (some 16)) (by show ((decide ((i : Int) < (m1 : Int))) == true) = true; rw [(decide_eq_true (by omega))]; rfl) rfl (st_bi (r := .bool (decide ((i : Int) < 40))) rfl rfl rfl (bi_lss rfl) (ao 17 rfl rfl (st_pkt' (b := decide ((i : Int) < (m1 : Int))) (v := .bool (decide ((i : Int) < 40))) (decide_eq_true (by omega)) rfl rfl rfl (aN (ac_then' (b := decide ((i : Int) < 40)) (decide_eq_true (by omega)) rfl (ac_skip (aQ (ac_block (aQ (aL (aM 20 (.slice (some ⟨g1, o1, none⟩) m1 c1) rfl rfl (aM 21 (.int .i64 (i : Int)) rfl rfl ?_))))))))))))
 refine ao 22 rfl rfl (st_sa (g := g1) (off := o1) (m := m1) (c := c1) (s := 1) (i := i) rfl Tryd.underlying33 (by kernel_rfl) rfl rfl (by assumption) (ao 23 rfl rfl (st_ldm (g := g1) (off := o1 + i * 1) (v := .int .i64 (x1 i)) cell3 rfl rfl (List.mem_append_right _ hm1) hc1 (aC 24 (c_hPick (x1 i) 60 (by decide)) Tryd.func15 ⟨rfl, by decide⟩ rfl rfl (aA 8 (.int .i64 (hPick (x1 i) 60)) rfl rfl (aN (ac_block (aQ (aL (aM 33 (.int .i64 (hPick (x1 i) 60)) rfl rfl (aB 34 (.bool (decide ((hPick (x1 i) 60) < 18))) rfl rfl rfl (bi_lss rfl) (aA 32 (.bool (decide ((hPick (x1 i) 60) < 18))) rfl rfl (aN ?_)))))))))))))
 refine bool_split (decide ((hPick (x1 i) 60) < 18)) (fun h1 => ?_) (fun h1 => ?_)
 ·refine ac_then' (b := decide ((hPick (x1 i) 60) < 18)) h1 rfl (aL (aM 35 (.string t) rfl rfl (aM 36 (.int .i64 (hPick (x1 i) 60)) rfl rfl (ao 37 rfl rfl (st_iaA (g := gw) (off := 0) (m := 18) (s := 1) (i := (hPick (x1 i) 60)) rfl Tryd.underlying69 (by kernel_rfl) rfl rfl (tx_k18 h1) (aD 38 (.string (txW (hPick (x1 i) 60))) cell9 0 rfl rfl rfl (tx_at _ (tx_k18 h1)) (aB 39 (.string (t ++ (txW (hPick (x1 i) 60)))) rfl rfl rfl (bi_sadd (sz_two ht (tx_size _) (by decide))) (aA 6 (.string (t ++ (txW (hPick (x1 i) 60)))) rfl rfl (aN (aL (aM 18 (.int .i64 (i : Int)) rfl rfl (aB 19 (.int .i64 (w64 ((i : Int) + 1))) rfl rfl rfl (bi_add rfl) ?_))))))))))))
  refine aA 7 (.int .i64 (w64 ((i : Int) + 1))) rfl rfl (aN ?_)
  exact K _ rfl rfl rfl (congrArg Value.string (by rw [txStep, h1]; rfl)) (by show Value.int _ _ = _; rw [w64_in (by omega)]; rfl)
 ·refine ac_else' (b := decide ((hPick (x1 i) 60) < 18)) h1 rfl (aQ (aL (aM 41 (.int .i64 (hPick (x1 i) 60)) rfl rfl (aB 42 (.bool ((hPick (x1 i) 60) == 18)) rfl rfl rfl (bi_eql rfl) (aA 40 (.bool ((hPick (x1 i) 60) == 18)) rfl rfl (aN ?_))))))
  refine bool_split ((hPick (x1 i) 60) == 18) (fun h2 => ?_) (fun h2 => ?_)
  ·refine ac_then' (b := (hPick (x1 i) 60) == 18) h2 rfl (aL (aM 43 (.string t) rfl rfl (aM 44 (.string raw) rfl rfl (aB 45 (.string (t ++ raw)) rfl rfl rfl (bi_sadd (sz_two ht hraw (by decide))) (aA 6 (.string (t ++ raw)) rfl rfl (aN (aL (aM 18 (.int .i64 (i : Int)) rfl rfl (aB 19 (.int .i64 (w64 ((i : Int) + 1))) rfl rfl rfl (bi_add rfl) (aA 7 (.int .i64 (w64 ((i : Int) + 1))) rfl rfl (aN ?_)))))))))))
   exact K _ rfl rfl rfl (congrArg Value.string (by rw [txStep, h1, h2]; rfl)) (by show Value.int _ _ = _; rw [w64_in (by omega)]; rfl)
  ·refine ac_else' (b := (hPick (x1 i) 60) == 18) h2 rfl (aQ (aL (aM 47 (.int .i64 (hPick (x1 i) 60)) rfl rfl (aB 48 (.bool ((hPick (x1 i) 60) == 19)) rfl rfl rfl (bi_eql rfl) (aA 46 (.bool ((hPick (x1 i) 60) == 19)) rfl rfl (aN ?_))))))
   refine bool_split ((hPick (x1 i) 60) == 19) (fun h3 => ?_) (fun h3 => ?_)
   ·refine ac_then' (b := (hPick (x1 i) 60) == 19) h3 rfl (aL (aM 49 (.string t) rfl rfl (aM 50 (.slice (some ⟨g1, o1, none⟩) m1 c1) rfl rfl (aM 51 (.int .i64 (i : Int)) rfl rfl (ao 52 rfl rfl (st_sa (g := g1) (off := o1) (m := m1) (c := c1) (s := 1) (i := i) rfl Tryd.underlying33 (by kernel_rfl) rfl rfl (by assumption) (ao 53 rfl rfl (st_ldm (g := g1) (off := o1 + i * 1) (v := .int .i64 (x1 i)) cell3 rfl rfl (List.mem_append_right _ hm1) hc1 (aB 54 (.int .i64 (w64 (Int.tdiv (x1 i) 60))) rfl rfl rfl (bi_quo (by decide) rfl) (aC 55 (c_hPick (w64 (Int.tdiv (x1 i) 60)) 11 (by decide)) Tryd.func15 ⟨rfl, by decide⟩ rfl rfl ?_))))))))))
    refine aB 56 (.int .i64 (w64 (15 + (hPick (w64 (Int.tdiv (x1 i) 60)) 11)))) rfl rfl rfl (bi_add rfl) (ao 57 rfl rfl (st_ssh (abc_in _) rfl Tryd.underlying9 rfl rfl (aB 58 (.string (t ++ (subS (⟨#[97, 98, 99, 100, 101, 102, 103, 104, 105, 106, 107, 108, 109, 110, 111, 112, 113, 114, 115, 116, 117, 118, 119, 120, 121, 122]⟩ : ByteArray) 0 (w64 (15 + (hPick (w64 (Int.tdiv (x1 i) 60)) 11)))))) rfl rfl rfl (bi_sadd (sz_two ht (subS_le _ _ _ (show ((⟨#[97, 98, 99, 100, 101, 102, 103, 104, 105, 106, 107, 108, 109, 110, 111, 112, 113, 114, 115, 116, 117, 118, 119, 120, 121, 122]⟩ : ByteArray)).size ≤ 26 from Nat.le_refl _)) (by decide))) ?_)))
    refine aA 6 (.string (t ++ (subS (⟨#[97, 98, 99, 100, 101, 102, 103, 104, 105, 106, 107, 108, 109, 110, 111, 112, 113, 114, 115, 116, 117, 118, 119, 120, 121, 122]⟩ : ByteArray) 0 (w64 (15 + (hPick (w64 (Int.tdiv (x1 i) 60)) 11)))))) rfl rfl (aN (aL (aM 18 (.int .i64 (i : Int)) rfl rfl (aB 19 (.int .i64 (w64 ((i : Int) + 1))) rfl rfl rfl (bi_add rfl) (aA 7 (.int .i64 (w64 ((i : Int) + 1))) rfl rfl (aN ?_))))))
    exact K _ rfl rfl rfl (congrArg Value.string (by rw [txStep, h1, h2, h3]; rfl)) (by show Value.int _ _ = _; rw [w64_in (by omega)]; rfl)
   ·refine ac_else' (b := (hPick (x1 i) 60) == 19) h3 rfl (aL (aM 25 (.string t) rfl rfl (aM 26 (.int .i64 (hPick (x1 i) 60)) rfl rfl (aB 27 (.int .i64 (Int.tmod (hPick (x1 i) 60) 14)) rfl rfl rfl (bi_rem (by decide) rfl) (ao 28 rfl rfl (st_iaA (g := gw) (off := 0) (m := 18) (s := 1) (i := (Int.tmod (hPick (x1 i) 60) 14)) rfl Tryd.underlying69 (by kernel_rfl) rfl rfl (tx_k14 _) (aD 29 (.string (txW (Int.tmod (hPick (x1 i) 60) 14))) cell9 0 rfl rfl rfl (tx_at _ (tx_k14 _)) (aB 30 (.string (t ++ (txW (Int.tmod (hPick (x1 i) 60) 14)))) rfl rfl rfl (bi_sadd (sz_two ht (tx_size _) (by decide))) ?_))))))))
    refine aB 31 (.string ((t ++ (txW (Int.tmod (hPick (x1 i) 60) 14))) ++ (⟨#[32]⟩ : ByteArray))) rfl rfl rfl (bi_sadd (sz_two (sz_add ht (tx_size _)) (show ((⟨#[32]⟩ : ByteArray)).size ≤ 1 from Nat.le_refl _) (by decide))) (aA 6 (.string ((t ++ (txW (Int.tmod (hPick (x1 i) 60) 14))) ++ (⟨#[32]⟩ : ByteArray))) rfl rfl (aN (aL (aM 18 (.int .i64 (i : Int)) rfl rfl (aB 19 (.int .i64 (w64 ((i : Int) + 1))) rfl rfl rfl (bi_add rfl) (aA 7 (.int .i64 (w64 ((i : Int) + 1))) rfl rfl (aN ?_)))))))
    exact K _ rfl rfl rfl (congrArg Value.string (by rw [txStep, h1, h2, h3]; rfl)) (by show Value.int _ _ = _; rw [w64_in (by omega)]; rfl)
set_option maxRecDepth 100000 in
theorem tx_end1 (m1 c1 i : Nat) (a1 : Option Addr) (t : ByteArray) (hi : m1 ≤ i) {H : List Box} {Q : Exit → Env → List Box → Prop} {E : Env} {c : Code} {j : Nat} (hc : Tryd.f12.body.bind loopOf = some c) (q0 : E 0 = .slice a1 m1 c1) (q6 : E 6 = .string t) (q7 : E 7 = .int .i64 (i : Int)) (K : ∀ E' : Env, E' 6 = .string t → Q (.exit 0) E' H) : ARounds Tryd.prog 60 c Q (j + 1) E H := by
 rw [show Tryd.f12.body.bind loopOf = some _ from rfl] at hc
 cases hc
 obtain ⟨E0, rfl⟩ : ∃ E0 : Env, E = (((E0.put (some 0) (.slice a1 m1 c1)).put (some 6) (.string t)).put (some 7) (.int .i64 (i : Int))) := ⟨E, by rw [put_self q0, put_self q6, put_self q7]⟩
 refine ar_round (aQ (aQ (aL (aM 10 (.int .i64 (i : Int)) rfl rfl (aM 11 (.slice a1 m1 c1) rfl rfl (ao 12 rfl rfl (st_ln (a := a1) (m := m1) (c := c1) rfl Tryd.underlying33 rfl (aB 13 (.bool (decide ((i : Int) < (m1 : Int)))) rfl rfl rfl (bi_lss rfl) (aM 14 (.bool (decide ((i : Int) < (m1 : Int)))) rfl rfl (aK 15 (by show ((decide ((i : Int) < (m1 : Int))) == true) = false; rw [(decide_eq_false (by omega))]; rfl) rfl (aK 16 (by show ((decide ((i : Int) < (m1 : Int))) == true) = false; rw [(decide_eq_false (by omega))]; rfl) rfl (ao 17 rfl rfl (st_pkf' (b := decide ((i : Int) < (m1 : Int))) (v := .bool false) (decide_eq_false (by omega)) rfl rfl rfl (aN ?_))))))))))))))
 refine ac_else rfl (ac_exit ?_)
 exact K _ rfl
set_option maxRecDepth 100000 in
theorem tx_end2 (m1 c1 i : Nat) (a1 : Option Addr) (t : ByteArray) (hi : i < m1) (h40 : 40 ≤ i) {H : List Box} {Q : Exit → Env → List Box → Prop} {E : Env} {c : Code} {j : Nat} (hc : Tryd.f12.body.bind loopOf = some c) (q0 : E 0 = .slice a1 m1 c1) (q6 : E 6 = .string t) (q7 : E 7 = .int .i64 (i : Int)) (K : ∀ E' : Env, E' 6 = .string t → Q (.exit 0) E' H) : ARounds Tryd.prog 60 c Q (j + 1) E H := by
 rw [show Tryd.f12.body.bind loopOf = some _ from rfl] at hc
 cases hc
 obtain ⟨E0, rfl⟩ : ∃ E0 : Env, E = (((E0.put (some 0) (.slice a1 m1 c1)).put (some 6) (.string t)).put (some 7) (.int .i64 (i : Int))) := ⟨E, by rw [put_self q0, put_self q6, put_self q7]⟩
 refine ar_round (aQ (aQ (aL (aM 10 (.int .i64 (i : Int)) rfl rfl (aM 11 (.slice a1 m1 c1) rfl rfl (ao 12 rfl rfl (st_ln (a := a1) (m := m1) (c := c1) rfl Tryd.underlying33 rfl (aB 13 (.bool (decide ((i : Int) < (m1 : Int)))) rfl rfl rfl (bi_lss rfl) (aM 14 (.bool (decide ((i : Int) < (m1 : Int)))) rfl rfl (ar_gd (d := (some 15)) (by show ((decide ((i : Int) < (m1 : Int))) == true) = true; rw [(decide_eq_true (by omega))]; rfl) rfl (st_move (v := .int .i64 (i : Int)) rfl rfl ?_)))))))))))
 refine ar_gd (d := (some 16)) (by show ((decide ((i : Int) < (m1 : Int))) == true) = true; rw [(decide_eq_true (by omega))]; rfl) rfl (st_bi (r := .bool (decide ((i : Int) < 40))) rfl rfl rfl (bi_lss rfl) (ao 17 rfl rfl (st_pkt' (b := decide ((i : Int) < (m1 : Int))) (v := .bool (decide ((i : Int) < 40))) (decide_eq_true (by omega)) rfl rfl rfl (aN (ac_else' (b := decide ((i : Int) < 40)) (decide_eq_false (by omega)) rfl (ac_exit ?_))))))
 exact K _ rfl
theorem txStep_size (x : Int) (raw t : ByteArray) : (txStep x raw t).size ≤ t.size + raw.size + 30 := by
 have h1 := tx_size (hPick x 60)
 have h2 := tx_size (Int.tmod (hPick x 60) 14)
 have h3 := subS_le (⟨#[97, 98, 99, 100, 101, 102, 103, 104, 105, 106, 107, 108, 109, 110, 111, 112, 113, 114, 115, 116, 117, 118, 119, 120, 121, 122]⟩ : ByteArray) 0 (w64 (15 + hPick (w64 (Int.tdiv x 60)) 11)) (m := 26) (by decide)
 unfold txStep
 cases decide ((hPick x 60) < 18) <;> cases (hPick x 60) == 18 <;> cases (hPick x 60) == 19 <;> simp only [cond_true, cond_false, ByteArray.size_append'] <;> first | omega | (show t.size + _ + 1 ≤ _; omega)
def txRun (m1 : Nat) (x1 : Nat → Int) (raw : ByteArray) : Nat → Nat → ByteArray → ByteArray
 | 0, _, t => t
 | k + 1, i, t => bif decide (i < m1) then txRun m1 x1 raw k (i + 1) (txStep (x1 i) raw t) else t
theorem tx_loop (gw m1 c1 : Nat) (a1 : Option Addr) (x1 : Nat → Int) (raw : ByteArray) (NA : List Box) (hraw : raw.size ≤ 140737488351232) (hl1 : SlI a1 m1 x1 NA) {Q : Exit → Env → List Box → Prop} {c : Code} (hc : Tryd.f12.body.bind loopOf = some c) :
  ∀ (k i : Nat) (t : ByteArray) (E : Env), i + k = 40 → t.size ≤ (140737488351232 + 30) * i → E 0 = .slice a1 m1 c1 → E 1 = .string raw → E 5 = .pointer (some ⟨gw, 0, none⟩) → E 6 = .string t → E 7 = .int .i64 (i : Int) →
   (∀ E' : Env, E' 6 = .string (txRun m1 x1 raw k i t) → Q (.exit 0) E' ([⟨gw, [.string (⟨#[97]⟩ : ByteArray), .string (⟨#[108, 101, 110, 115]⟩ : ByteArray), .string (⟨#[102, 97, 99, 101]⟩ : ByteArray), .string (⟨#[49]⟩ : ByteArray), .string (⟨#[45, 50, 46, 53, 48]⟩ : ByteArray), .string (⟨#[48, 46, 48, 48, 49]⟩ : ByteArray), .string (⟨#[32]⟩ : ByteArray), .string (⟨#[32, 32]⟩ : ByteArray), .string (⟨#[9]⟩ : ByteArray), .string (⟨#[10]⟩ : ByteArray), .string (⟨#[10]⟩ : ByteArray), .string (⟨#[35, 32, 120, 32, 121, 10]⟩ : ByteArray), .string (⟨#[120, 45, 49]⟩ : ByteArray), .string (⟨#[66, 95, 57]⟩ : ByteArray), .string (⟨#[49, 50, 51, 52, 53, 46, 54, 55, 56, 57, 48, 49]⟩ : ByteArray), .string (⟨#[45]⟩ : ByteArray), .string (⟨#[46]⟩ : ByteArray), .string (⟨#[33]⟩ : ByteArray)], 69, false⟩] ++ NA)) → ARounds Tryd.prog 60 c Q (k + 1) E ([⟨gw, [.string (⟨#[97]⟩ : ByteArray), .string (⟨#[108, 101, 110, 115]⟩ : ByteArray), .string (⟨#[102, 97, 99, 101]⟩ : ByteArray), .string (⟨#[49]⟩ : ByteArray), .string (⟨#[45, 50, 46, 53, 48]⟩ : ByteArray), .string (⟨#[48, 46, 48, 48, 49]⟩ : ByteArray), .string (⟨#[32]⟩ : ByteArray), .string (⟨#[32, 32]⟩ : ByteArray), .string (⟨#[9]⟩ : ByteArray), .string (⟨#[10]⟩ : ByteArray), .string (⟨#[10]⟩ : ByteArray), .string (⟨#[35, 32, 120, 32, 121, 10]⟩ : ByteArray), .string (⟨#[120, 45, 49]⟩ : ByteArray), .string (⟨#[66, 95, 57]⟩ : ByteArray), .string (⟨#[49, 50, 51, 52, 53, 46, 54, 55, 56, 57, 48, 49]⟩ : ByteArray), .string (⟨#[45]⟩ : ByteArray), .string (⟨#[46]⟩ : ByteArray), .string (⟨#[33]⟩ : ByteArray)], 69, false⟩] ++ NA) := by
 intro k
 induction k with
 | zero =>
  intro i t E hk ht q0 q1 q5 q6 q7 K
  by_cases hi : i < m1
  ·exact tx_end2 m1 c1 i a1 t hi (by omega) hc q0 q6 q7 K
  ·exact tx_end1 m1 c1 i a1 t (by omega) hc q0 q6 q7 K
 | succ k ih =>
  intro i t E hk ht q0 q1 q5 q6 q7 K
  by_cases hi : i < m1
  ·obtain ⟨g1, o1, cs1, t1, rfl, hm1, hc1⟩ := hl1 i hi
   rw [txRun, decide_eq_true hi, cond_true] at K
   have hp' := txStep_size (x1 i) raw t
   exact tx_go gw m1 c1 i g1 o1 t1 cs1 x1 NA raw t hi (by omega) hraw (by omega) hm1 hc1 hc q0 q1 q5 q6 q7 (fun E' f0 f1 f5 f6 f7 => ih (i + 1) _ E' (by omega) (by omega) f0 f1 f5 f6 f7 K)
  ·rw [txRun, decide_eq_false hi, cond_false] at K
   exact tx_end1 m1 c1 i a1 t (by omega) hc q0 q6 q7 K
set_option maxRecDepth 100000 in
theorem c_text (m1 c1 : Nat) (a1 : Option Addr) (x1 : Nat → Int) (raw : ByteArray) (NA : List Box) (hraw : raw.size ≤ 140737488351232) (hl1 : SlI a1 m1 x1 NA) (hro : (NA.all fun b => b.ro) = true) : Gives Tryd.prog 12 #[.slice a1 m1 c1, .string raw] NA (fun v N => v = .string (txRun m1 x1 raw 40 0 (⟨#[]⟩ : ByteArray)) ∧ N = []) := by
 refine gives_fin Tryd.func12 rfl rfl rfl hro (aQ (aL (aA 4 (.string (⟨#[]⟩ : ByteArray)) rfl rfl (aN (aQ (aL ?_))))))
 refine ao 9 rfl rfl (st_bd (us := [(0, .string (⟨#[97]⟩ : ByteArray)), (1, .string (⟨#[108, 101, 110, 115]⟩ : ByteArray)), (2, .string (⟨#[102, 97, 99, 101]⟩ : ByteArray)), (3, .string (⟨#[49]⟩ : ByteArray)), (4, .string (⟨#[45, 50, 46, 53, 48]⟩ : ByteArray)), (5, .string (⟨#[48, 46, 48, 48, 49]⟩ : ByteArray)), (6, .string (⟨#[32]⟩ : ByteArray)), (7, .string (⟨#[32, 32]⟩ : ByteArray)), (8, .string (⟨#[9]⟩ : ByteArray)), (9, .string (⟨#[10]⟩ : ByteArray)), (10, .string (⟨#[10]⟩ : ByteArray)), (11, .string (⟨#[35, 32, 120, 32, 121, 10]⟩ : ByteArray)), (12, .string (⟨#[120, 45, 49]⟩ : ByteArray)), (13, .string (⟨#[66, 95, 57]⟩ : ByteArray)), (14, .string (⟨#[49, 50, 51, 52, 53, 46, 54, 55, 56, 57, 48, 49]⟩ : ByteArray)), (15, .string (⟨#[45]⟩ : ByteArray)), (16, .string (⟨#[46]⟩ : ByteArray)), (17, .string (⟨#[33]⟩ : ByteArray))]) (v := .agg #[.string (⟨#[97]⟩ : ByteArray), .string (⟨#[108, 101, 110, 115]⟩ : ByteArray), .string (⟨#[102, 97, 99, 101]⟩ : ByteArray), .string (⟨#[49]⟩ : ByteArray), .string (⟨#[45, 50, 46, 53, 48]⟩ : ByteArray), .string (⟨#[48, 46, 48, 48, 49]⟩ : ByteArray), .string (⟨#[32]⟩ : ByteArray), .string (⟨#[32, 32]⟩ : ByteArray), .string (⟨#[9]⟩ : ByteArray), .string (⟨#[10]⟩ : ByteArray), .string (⟨#[10]⟩ : ByteArray), .string (⟨#[35, 32, 120, 32, 121, 10]⟩ : ByteArray), .string (⟨#[120, 45, 49]⟩ : ByteArray), .string (⟨#[66, 95, 57]⟩ : ByteArray), .string (⟨#[49, 50, 51, 52, 53, 46, 54, 55, 56, 57, 48, 49]⟩ : ByteArray), .string (⟨#[45]⟩ : ByteArray), .string (⟨#[46]⟩ : ByteArray), .string (⟨#[33]⟩ : ByteArray)]) rfl rfl (bd69_0_1_2_3_4_5_6_7_8_9_10_11_12_13_14_15_16_17 _ _ _ _ _ _ _ _ _ _ _ _ _ _ _ _ _ _) ?_)
 refine ao 5 rfl rfl (st_new zero69 rfl fun g0 => ?_)
 refine aS [.string (⟨#[97]⟩ : ByteArray), .string (⟨#[108, 101, 110, 115]⟩ : ByteArray), .string (⟨#[102, 97, 99, 101]⟩ : ByteArray), .string (⟨#[49]⟩ : ByteArray), .string (⟨#[45, 50, 46, 53, 48]⟩ : ByteArray), .string (⟨#[48, 46, 48, 48, 49]⟩ : ByteArray), .string (⟨#[32]⟩ : ByteArray), .string (⟨#[32, 32]⟩ : ByteArray), .string (⟨#[9]⟩ : ByteArray), .string (⟨#[10]⟩ : ByteArray), .string (⟨#[10]⟩ : ByteArray), .string (⟨#[35, 32, 120, 32, 121, 10]⟩ : ByteArray), .string (⟨#[120, 45, 49]⟩ : ByteArray), .string (⟨#[66, 95, 57]⟩ : ByteArray), .string (⟨#[49, 50, 51, 52, 53, 46, 54, 55, 56, 57, 48, 49]⟩ : ByteArray), .string (⟨#[45]⟩ : ByteArray), .string (⟨#[46]⟩ : ByteArray), .string (⟨#[33]⟩ : ByteArray)] agg69 0 rfl rfl rfl rfl rfl rfl ?_
 refine aN (aQ (aL (aA 6 (.string (⟨#[]⟩ : ByteArray)) rfl rfl (aN (aQ (aQ (aL (aA 7 (.int .i64 0) rfl rfl (aN (ac_block ?_))))))))))
 refine ac_rounds 41 ?_
 refine tx_loop g0 m1 c1 a1 x1 raw NA hraw hl1 rfl 40 0 _ _ rfl (Nat.zero_le _) rfl rfl rfl rfl (by rfl) (fun E9 f6 => ?_)
 obtain ⟨E0, rfl⟩ : ∃ E0 : Env, E9 = (E0.put (some 6) (.string (txRun m1 x1 raw 40 0 (⟨#[]⟩ : ByteArray)))) := ⟨E9, by rw [put_self f6]⟩
 refine aQ (aL (aM 59 (.string (txRun m1 x1 raw 40 0 (⟨#[]⟩ : ByteArray))) rfl rfl (aA 4 (.string (txRun m1 x1 raw 40 0 (⟨#[]⟩ : ByteArray))) rfl rfl (aN (ac_ret ?_)))))
 exact fing_ret (N := []) ⟨rfl, rfl⟩ (List.nil_sublist _) rfl (res_tmp rfl rfl)
end Go.Proofs.YtalffjplbhelcaaDoor
namespace Go.Proofs.YtalffjplbhelcaaDoor
open Go.RowKit
attribute [local irreducible] AC AR DWalk
def known10  : Bool := (bif cxEq (⟨0, 0⟩ : Cx) (⟨0, 0⟩ : Cx) then (bif tokEq (⟨1, (⟨#[97]⟩ : ByteArray), (⟨4607182418800017408, 4607182418800017408⟩ : Cx)⟩ : Tok) (⟨1, (⟨#[97]⟩ : ByteArray), (⟨4607182418800017408, 4607182418800017408⟩ : Cx)⟩ : Tok) then (bif tokEq (⟨2, (⟨#[49, 46, 53]⟩ : ByteArray), (⟨4607182418800017408, 4613937818241073152⟩ : Cx)⟩ : Tok) (⟨2, (⟨#[49, 46, 53]⟩ : ByteArray), (⟨4607182418800017408, 4613937818241073152⟩ : Cx)⟩ : Tok) then tokEq (⟨3, (⟨#[]⟩ : ByteArray), (⟨4607182418800017408, 4618441417868443648⟩ : Cx)⟩ : Tok) (⟨3, (⟨#[]⟩ : ByteArray), (⟨4607182418800017408, 4618441417868443648⟩ : Cx)⟩ : Tok) else false) else false) else false)
set_option maxRecDepth 100000 in
theorem c_known10  : Gets Tryd.prog 10 #[] ((fun (r : Bool) => (.bool r : Value)) known10) := by
 refine gets_fin Tryd.func10 rfl rfl rfl (aQ (aL (aA 0 (.bool false) rfl rfl (aN (aQ (aL (ao 5 rfl rfl (st_gv (R := []) (c_tokens (⟨#[97, 32, 49, 46, 53]⟩ : ByteArray)) Tryd.func9 rfl (by decide) rfl rfl rfl has_nil (by simp) fun v9 N9 R9 => ?_))))))))
 obtain ⟨gT1, cgT1, rgT1, rfl, rfl⟩ := tok_closed [⟨1, (⟨#[97]⟩ : ByteArray), (⟨4607182418800017408, 4607182418800017408⟩ : Cx)⟩, ⟨2, (⟨#[49, 46, 53]⟩ : ByteArray), (⟨4607182418800017408, 4613937818241073152⟩ : Cx)⟩, ⟨3, (⟨#[]⟩ : ByteArray), (⟨4607182418800017408, 4618441417868443648⟩ : Cx)⟩] (⟨0, 0⟩ : Cx) 0 3 [.int .i64 1, .string (⟨#[97]⟩ : ByteArray), .complex .f64 ((⟨4607182418800017408, 4607182418800017408⟩ : Cx)).re ((⟨4607182418800017408, 4607182418800017408⟩ : Cx)).im, .int .i64 2, .string (⟨#[49, 46, 53]⟩ : ByteArray), .complex .f64 ((⟨4607182418800017408, 4613937818241073152⟩ : Cx)).re ((⟨4607182418800017408, 4613937818241073152⟩ : Cx)).im, .int .i64 3, .string (⟨#[]⟩ : ByteArray), .complex .f64 ((⟨4607182418800017408, 4618441417868443648⟩ : Cx)).re ((⟨4607182418800017408, 4618441417868443648⟩ : Cx)).im] R9 (by decide +kernel) rfl rfl rfl
 refine aM 4 (.tuple #[.slice (some ⟨gT1, 0, none⟩) 3 cgT1, .complex .f64 ((⟨0, 0⟩ : Cx)).re ((⟨0, 0⟩ : Cx)).im, .int .i64 0]) rfl rfl (aX 6 (.slice (some ⟨gT1, 0, none⟩) 3 cgT1) rfl rfl rfl (aX 7 (.complex .f64 ((⟨0, 0⟩ : Cx)).re ((⟨0, 0⟩ : Cx)).im) rfl rfl rfl (aX 8 (.int .i64 0) rfl rfl rfl (aA 1 (.slice (some ⟨gT1, 0, none⟩) 3 cgT1) rfl rfl (aA 2 (.complex .f64 ((⟨0, 0⟩ : Cx)).re ((⟨0, 0⟩ : Cx)).im) rfl rfl (aA 3 (.int .i64 0) rfl rfl (aN (aQ (aL (aM 9 (.int .i64 0) rfl rfl (aB 10 (.bool true) rfl rfl rfl (bi_eql (by decide)) (aM 11 (.bool true) rfl rfl (ar_gd (d := (some 12)) rfl rfl (st_move (v := .complex .f64 ((⟨0, 0⟩ : Cx)).re ((⟨0, 0⟩ : Cx)).im) rfl rfl ?_))))))))))))))
 refine ar_gd (d := (some 13)) rfl rfl (st_bi (r := .bool (cxEq (⟨0, 0⟩ : Cx) (⟨0, 0⟩ : Cx))) rfl rfl rfl (bi_ceql (a := (⟨0, 0⟩ : Cx)) (b := (⟨0, 0⟩ : Cx)) rfl) (ao 14 rfl rfl (st_pkt (v := .bool (cxEq (⟨0, 0⟩ : Cx) (⟨0, 0⟩ : Cx))) rfl rfl rfl (aM 15 (.bool (cxEq (⟨0, 0⟩ : Cx) (⟨0, 0⟩ : Cx))) rfl rfl ?_))))
 refine bool_split (cxEq (⟨0, 0⟩ : Cx) (⟨0, 0⟩ : Cx)) (fun h1 => ?_) (fun h1 => ?_)
 ·refine ar_gd (d := (some 16)) (by show ((cxEq (⟨0, 0⟩ : Cx) (⟨0, 0⟩ : Cx)) == true) = true; rw [h1]; rfl) rfl (st_move (v := .slice (some ⟨gT1, 0, none⟩) 3 cgT1) rfl rfl (ar_gd (d := (some 17)) (by show ((cxEq (⟨0, 0⟩ : Cx) (⟨0, 0⟩ : Cx)) == true) = true; rw [h1]; rfl) rfl (st_ln (a := some ⟨gT1, 0, none⟩) (m := 3) (c := cgT1) rfl Tryd.underlying22 rfl (ar_gd (d := (some 18)) (by show ((cxEq (⟨0, 0⟩ : Cx) (⟨0, 0⟩ : Cx)) == true) = true; rw [h1]; rfl) rfl (st_bi (r := .bool true) rfl rfl rfl (bi_eql (by decide)) (ao 19 rfl rfl (st_pkt' (b := cxEq (⟨0, 0⟩ : Cx) (⟨0, 0⟩ : Cx)) (v := .bool true) h1 rfl rfl rfl (aM 20 (.bool true) rfl rfl ?_))))))))
  refine ar_gd (d := (some 21)) rfl rfl (st_move (v := .slice (some ⟨gT1, 0, none⟩) 3 cgT1) rfl rfl (ar_gd (d := (some 22)) rfl rfl (st_sa (g := gT1) (off := 0) (m := 3) (c := cgT1) (s := 3) (i := 0) rfl Tryd.underlying22 (by kernel_rfl) rfl rfl (by decide) (ar_gd (d := (some 23)) rfl rfl (st_lda (vs := [.int .i64 1, .string (⟨#[97]⟩ : ByteArray), .complex .f64 ((⟨4607182418800017408, 4607182418800017408⟩ : Cx)).re ((⟨4607182418800017408, 4607182418800017408⟩ : Cx)).im]) agg32 0 rfl rfl rfl rfl rfl rfl ?_)))))
  refine ar_gd (d := (some 24)) rfl rfl (st_bd (us := [(0, .int .i64 1), (1, .string (⟨#[97]⟩ : ByteArray)), (2, .complex .f64 ((⟨4607182418800017408, 4607182418800017408⟩ : Cx)).re ((⟨4607182418800017408, 4607182418800017408⟩ : Cx)).im)]) (v := .agg #[.int .i64 1, .string (⟨#[97]⟩ : ByteArray), .complex .f64 ((⟨4607182418800017408, 4607182418800017408⟩ : Cx)).re ((⟨4607182418800017408, 4607182418800017408⟩ : Cx)).im]) rfl rfl (bd32_0_1_2 _ _ _) ?_)
  refine ar_gd (d := (some 25)) rfl rfl (st_bi (r := .bool (tokEq (⟨1, (⟨#[97]⟩ : ByteArray), (⟨4607182418800017408, 4607182418800017408⟩ : Cx)⟩ : Tok) (⟨1, (⟨#[97]⟩ : ByteArray), (⟨4607182418800017408, 4607182418800017408⟩ : Cx)⟩ : Tok))) rfl rfl rfl (beql_32 (⟨1, (⟨#[97]⟩ : ByteArray), (⟨4607182418800017408, 4607182418800017408⟩ : Cx)⟩ : Tok) (⟨1, (⟨#[97]⟩ : ByteArray), (⟨4607182418800017408, 4607182418800017408⟩ : Cx)⟩ : Tok) rfl) (ao 26 rfl rfl (st_pkt (v := .bool (tokEq (⟨1, (⟨#[97]⟩ : ByteArray), (⟨4607182418800017408, 4607182418800017408⟩ : Cx)⟩ : Tok) (⟨1, (⟨#[97]⟩ : ByteArray), (⟨4607182418800017408, 4607182418800017408⟩ : Cx)⟩ : Tok))) rfl rfl rfl ?_)))
  refine aM 27 (.bool (tokEq (⟨1, (⟨#[97]⟩ : ByteArray), (⟨4607182418800017408, 4607182418800017408⟩ : Cx)⟩ : Tok) (⟨1, (⟨#[97]⟩ : ByteArray), (⟨4607182418800017408, 4607182418800017408⟩ : Cx)⟩ : Tok))) rfl rfl ?_
  refine bool_split (tokEq (⟨1, (⟨#[97]⟩ : ByteArray), (⟨4607182418800017408, 4607182418800017408⟩ : Cx)⟩ : Tok) (⟨1, (⟨#[97]⟩ : ByteArray), (⟨4607182418800017408, 4607182418800017408⟩ : Cx)⟩ : Tok)) (fun h2 => ?_) (fun h2 => ?_)
  ·refine ar_gd (d := (some 28)) (by show ((tokEq (⟨1, (⟨#[97]⟩ : ByteArray), (⟨4607182418800017408, 4607182418800017408⟩ : Cx)⟩ : Tok) (⟨1, (⟨#[97]⟩ : ByteArray), (⟨4607182418800017408, 4607182418800017408⟩ : Cx)⟩ : Tok)) == true) = true; rw [h2]; rfl) rfl (st_move (v := .slice (some ⟨gT1, 0, none⟩) 3 cgT1) rfl rfl ?_)
   refine ar_gd (d := (some 29)) (by show ((tokEq (⟨1, (⟨#[97]⟩ : ByteArray), (⟨4607182418800017408, 4607182418800017408⟩ : Cx)⟩ : Tok) (⟨1, (⟨#[97]⟩ : ByteArray), (⟨4607182418800017408, 4607182418800017408⟩ : Cx)⟩ : Tok)) == true) = true; rw [h2]; rfl) rfl (st_sa (g := gT1) (off := 0) (m := 3) (c := cgT1) (s := 3) (i := 1) rfl Tryd.underlying22 (by kernel_rfl) rfl rfl (by decide) ?_)
   refine ar_gd (d := (some 30)) (by show ((tokEq (⟨1, (⟨#[97]⟩ : ByteArray), (⟨4607182418800017408, 4607182418800017408⟩ : Cx)⟩ : Tok) (⟨1, (⟨#[97]⟩ : ByteArray), (⟨4607182418800017408, 4607182418800017408⟩ : Cx)⟩ : Tok)) == true) = true; rw [h2]; rfl) rfl (st_lda (vs := [.int .i64 2, .string (⟨#[49, 46, 53]⟩ : ByteArray), .complex .f64 ((⟨4607182418800017408, 4613937818241073152⟩ : Cx)).re ((⟨4607182418800017408, 4613937818241073152⟩ : Cx)).im]) agg32 0 rfl rfl rfl rfl rfl rfl ?_)
   refine ar_gd (d := (some 31)) (by show ((tokEq (⟨1, (⟨#[97]⟩ : ByteArray), (⟨4607182418800017408, 4607182418800017408⟩ : Cx)⟩ : Tok) (⟨1, (⟨#[97]⟩ : ByteArray), (⟨4607182418800017408, 4607182418800017408⟩ : Cx)⟩ : Tok)) == true) = true; rw [h2]; rfl) rfl (st_bd (us := [(0, .int .i64 2), (1, .string (⟨#[49, 46, 53]⟩ : ByteArray)), (2, .complex .f64 ((⟨4607182418800017408, 4613937818241073152⟩ : Cx)).re ((⟨4607182418800017408, 4613937818241073152⟩ : Cx)).im)]) (v := .agg #[.int .i64 2, .string (⟨#[49, 46, 53]⟩ : ByteArray), .complex .f64 ((⟨4607182418800017408, 4613937818241073152⟩ : Cx)).re ((⟨4607182418800017408, 4613937818241073152⟩ : Cx)).im]) rfl rfl (bd32_0_1_2 _ _ _) ?_)
   refine ar_gd (d := (some 32)) (by show ((tokEq (⟨1, (⟨#[97]⟩ : ByteArray), (⟨4607182418800017408, 4607182418800017408⟩ : Cx)⟩ : Tok) (⟨1, (⟨#[97]⟩ : ByteArray), (⟨4607182418800017408, 4607182418800017408⟩ : Cx)⟩ : Tok)) == true) = true; rw [h2]; rfl) rfl (st_bi (r := .bool (tokEq (⟨2, (⟨#[49, 46, 53]⟩ : ByteArray), (⟨4607182418800017408, 4613937818241073152⟩ : Cx)⟩ : Tok) (⟨2, (⟨#[49, 46, 53]⟩ : ByteArray), (⟨4607182418800017408, 4613937818241073152⟩ : Cx)⟩ : Tok))) rfl rfl rfl (beql_32 (⟨2, (⟨#[49, 46, 53]⟩ : ByteArray), (⟨4607182418800017408, 4613937818241073152⟩ : Cx)⟩ : Tok) (⟨2, (⟨#[49, 46, 53]⟩ : ByteArray), (⟨4607182418800017408, 4613937818241073152⟩ : Cx)⟩ : Tok) rfl) ?_)
   refine ao 33 rfl rfl (st_pkt' (b := tokEq (⟨1, (⟨#[97]⟩ : ByteArray), (⟨4607182418800017408, 4607182418800017408⟩ : Cx)⟩ : Tok) (⟨1, (⟨#[97]⟩ : ByteArray), (⟨4607182418800017408, 4607182418800017408⟩ : Cx)⟩ : Tok)) (v := .bool (tokEq (⟨2, (⟨#[49, 46, 53]⟩ : ByteArray), (⟨4607182418800017408, 4613937818241073152⟩ : Cx)⟩ : Tok) (⟨2, (⟨#[49, 46, 53]⟩ : ByteArray), (⟨4607182418800017408, 4613937818241073152⟩ : Cx)⟩ : Tok))) h2 rfl rfl rfl (aM 34 (.bool (tokEq (⟨2, (⟨#[49, 46, 53]⟩ : ByteArray), (⟨4607182418800017408, 4613937818241073152⟩ : Cx)⟩ : Tok) (⟨2, (⟨#[49, 46, 53]⟩ : ByteArray), (⟨4607182418800017408, 4613937818241073152⟩ : Cx)⟩ : Tok))) rfl rfl ?_))
   refine bool_split (tokEq (⟨2, (⟨#[49, 46, 53]⟩ : ByteArray), (⟨4607182418800017408, 4613937818241073152⟩ : Cx)⟩ : Tok) (⟨2, (⟨#[49, 46, 53]⟩ : ByteArray), (⟨4607182418800017408, 4613937818241073152⟩ : Cx)⟩ : Tok)) (fun h3 => ?_) (fun h3 => ?_)
   ·refine ar_gd (d := (some 35)) (by show ((tokEq (⟨2, (⟨#[49, 46, 53]⟩ : ByteArray), (⟨4607182418800017408, 4613937818241073152⟩ : Cx)⟩ : Tok) (⟨2, (⟨#[49, 46, 53]⟩ : ByteArray), (⟨4607182418800017408, 4613937818241073152⟩ : Cx)⟩ : Tok)) == true) = true; rw [h3]; rfl) rfl (st_move (v := .slice (some ⟨gT1, 0, none⟩) 3 cgT1) rfl rfl ?_)
    refine ar_gd (d := (some 36)) (by show ((tokEq (⟨2, (⟨#[49, 46, 53]⟩ : ByteArray), (⟨4607182418800017408, 4613937818241073152⟩ : Cx)⟩ : Tok) (⟨2, (⟨#[49, 46, 53]⟩ : ByteArray), (⟨4607182418800017408, 4613937818241073152⟩ : Cx)⟩ : Tok)) == true) = true; rw [h3]; rfl) rfl (st_sa (g := gT1) (off := 0) (m := 3) (c := cgT1) (s := 3) (i := 2) rfl Tryd.underlying22 (by kernel_rfl) rfl rfl (by decide) ?_)
    refine ar_gd (d := (some 37)) (by show ((tokEq (⟨2, (⟨#[49, 46, 53]⟩ : ByteArray), (⟨4607182418800017408, 4613937818241073152⟩ : Cx)⟩ : Tok) (⟨2, (⟨#[49, 46, 53]⟩ : ByteArray), (⟨4607182418800017408, 4613937818241073152⟩ : Cx)⟩ : Tok)) == true) = true; rw [h3]; rfl) rfl (st_lda (vs := [.int .i64 3, .string (⟨#[]⟩ : ByteArray), .complex .f64 ((⟨4607182418800017408, 4618441417868443648⟩ : Cx)).re ((⟨4607182418800017408, 4618441417868443648⟩ : Cx)).im]) agg32 0 rfl rfl rfl rfl rfl rfl ?_)
    refine ar_gd (d := (some 38)) (by show ((tokEq (⟨2, (⟨#[49, 46, 53]⟩ : ByteArray), (⟨4607182418800017408, 4613937818241073152⟩ : Cx)⟩ : Tok) (⟨2, (⟨#[49, 46, 53]⟩ : ByteArray), (⟨4607182418800017408, 4613937818241073152⟩ : Cx)⟩ : Tok)) == true) = true; rw [h3]; rfl) rfl (st_bd (us := [(0, .int .i64 3), (2, .complex .f64 ((⟨4607182418800017408, 4618441417868443648⟩ : Cx)).re ((⟨4607182418800017408, 4618441417868443648⟩ : Cx)).im)]) (v := .agg #[.int .i64 3, .string (⟨#[]⟩ : ByteArray), .complex .f64 ((⟨4607182418800017408, 4618441417868443648⟩ : Cx)).re ((⟨4607182418800017408, 4618441417868443648⟩ : Cx)).im]) rfl rfl (bd32_0_2 _ _) ?_)
    refine ar_gd (d := (some 39)) (by show ((tokEq (⟨2, (⟨#[49, 46, 53]⟩ : ByteArray), (⟨4607182418800017408, 4613937818241073152⟩ : Cx)⟩ : Tok) (⟨2, (⟨#[49, 46, 53]⟩ : ByteArray), (⟨4607182418800017408, 4613937818241073152⟩ : Cx)⟩ : Tok)) == true) = true; rw [h3]; rfl) rfl (st_bi (r := .bool (tokEq (⟨3, (⟨#[]⟩ : ByteArray), (⟨4607182418800017408, 4618441417868443648⟩ : Cx)⟩ : Tok) (⟨3, (⟨#[]⟩ : ByteArray), (⟨4607182418800017408, 4618441417868443648⟩ : Cx)⟩ : Tok))) rfl rfl rfl (beql_32 (⟨3, (⟨#[]⟩ : ByteArray), (⟨4607182418800017408, 4618441417868443648⟩ : Cx)⟩ : Tok) (⟨3, (⟨#[]⟩ : ByteArray), (⟨4607182418800017408, 4618441417868443648⟩ : Cx)⟩ : Tok) rfl) ?_)
    refine ao 40 rfl rfl (st_pkt' (b := tokEq (⟨2, (⟨#[49, 46, 53]⟩ : ByteArray), (⟨4607182418800017408, 4613937818241073152⟩ : Cx)⟩ : Tok) (⟨2, (⟨#[49, 46, 53]⟩ : ByteArray), (⟨4607182418800017408, 4613937818241073152⟩ : Cx)⟩ : Tok)) (v := .bool (tokEq (⟨3, (⟨#[]⟩ : ByteArray), (⟨4607182418800017408, 4618441417868443648⟩ : Cx)⟩ : Tok) (⟨3, (⟨#[]⟩ : ByteArray), (⟨4607182418800017408, 4618441417868443648⟩ : Cx)⟩ : Tok))) h3 rfl rfl rfl (aA 0 (.bool (tokEq (⟨3, (⟨#[]⟩ : ByteArray), (⟨4607182418800017408, 4618441417868443648⟩ : Cx)⟩ : Tok) (⟨3, (⟨#[]⟩ : ByteArray), (⟨4607182418800017408, 4618441417868443648⟩ : Cx)⟩ : Tok))) rfl rfl (aN (ac_ret ?_))))
    exact fin_eq (v := .bool (tokEq (⟨3, (⟨#[]⟩ : ByteArray), (⟨4607182418800017408, 4618441417868443648⟩ : Cx)⟩ : Tok) (⟨3, (⟨#[]⟩ : ByteArray), (⟨4607182418800017408, 4618441417868443648⟩ : Cx)⟩ : Tok))) (by show _ = (fun (r : Bool) => (.bool r : Value)) known10; rw [known10, h3, h2, h1] <;> rfl) (fin_ret (res_tmp rfl rfl))
   ·refine aK 35 (by show ((tokEq (⟨2, (⟨#[49, 46, 53]⟩ : ByteArray), (⟨4607182418800017408, 4613937818241073152⟩ : Cx)⟩ : Tok) (⟨2, (⟨#[49, 46, 53]⟩ : ByteArray), (⟨4607182418800017408, 4613937818241073152⟩ : Cx)⟩ : Tok)) == true) = false; rw [h3]; rfl) rfl (aK 36 (by show ((tokEq (⟨2, (⟨#[49, 46, 53]⟩ : ByteArray), (⟨4607182418800017408, 4613937818241073152⟩ : Cx)⟩ : Tok) (⟨2, (⟨#[49, 46, 53]⟩ : ByteArray), (⟨4607182418800017408, 4613937818241073152⟩ : Cx)⟩ : Tok)) == true) = false; rw [h3]; rfl) rfl ?_)
    refine aK 37 (by show ((tokEq (⟨2, (⟨#[49, 46, 53]⟩ : ByteArray), (⟨4607182418800017408, 4613937818241073152⟩ : Cx)⟩ : Tok) (⟨2, (⟨#[49, 46, 53]⟩ : ByteArray), (⟨4607182418800017408, 4613937818241073152⟩ : Cx)⟩ : Tok)) == true) = false; rw [h3]; rfl) rfl (aK 38 (by show ((tokEq (⟨2, (⟨#[49, 46, 53]⟩ : ByteArray), (⟨4607182418800017408, 4613937818241073152⟩ : Cx)⟩ : Tok) (⟨2, (⟨#[49, 46, 53]⟩ : ByteArray), (⟨4607182418800017408, 4613937818241073152⟩ : Cx)⟩ : Tok)) == true) = false; rw [h3]; rfl) rfl ?_)
    refine aK 39 (by show ((tokEq (⟨2, (⟨#[49, 46, 53]⟩ : ByteArray), (⟨4607182418800017408, 4613937818241073152⟩ : Cx)⟩ : Tok) (⟨2, (⟨#[49, 46, 53]⟩ : ByteArray), (⟨4607182418800017408, 4613937818241073152⟩ : Cx)⟩ : Tok)) == true) = false; rw [h3]; rfl) rfl (ao 40 rfl rfl (st_pkf' (b := tokEq (⟨2, (⟨#[49, 46, 53]⟩ : ByteArray), (⟨4607182418800017408, 4613937818241073152⟩ : Cx)⟩ : Tok) (⟨2, (⟨#[49, 46, 53]⟩ : ByteArray), (⟨4607182418800017408, 4613937818241073152⟩ : Cx)⟩ : Tok)) (v := .bool false) h3 rfl rfl rfl (aA 0 (.bool false) rfl rfl (aN (ac_ret ?_)))))
    exact fin_eq (v := .bool false) (by show _ = (fun (r : Bool) => (.bool r : Value)) known10; rw [known10, h3, h2, h1] <;> rfl) (fin_ret (res_tmp rfl rfl))
  ·refine aK 28 (by show ((tokEq (⟨1, (⟨#[97]⟩ : ByteArray), (⟨4607182418800017408, 4607182418800017408⟩ : Cx)⟩ : Tok) (⟨1, (⟨#[97]⟩ : ByteArray), (⟨4607182418800017408, 4607182418800017408⟩ : Cx)⟩ : Tok)) == true) = false; rw [h2]; rfl) rfl (aK 29 (by show ((tokEq (⟨1, (⟨#[97]⟩ : ByteArray), (⟨4607182418800017408, 4607182418800017408⟩ : Cx)⟩ : Tok) (⟨1, (⟨#[97]⟩ : ByteArray), (⟨4607182418800017408, 4607182418800017408⟩ : Cx)⟩ : Tok)) == true) = false; rw [h2]; rfl) rfl ?_)
   refine aK 30 (by show ((tokEq (⟨1, (⟨#[97]⟩ : ByteArray), (⟨4607182418800017408, 4607182418800017408⟩ : Cx)⟩ : Tok) (⟨1, (⟨#[97]⟩ : ByteArray), (⟨4607182418800017408, 4607182418800017408⟩ : Cx)⟩ : Tok)) == true) = false; rw [h2]; rfl) rfl (aK 31 (by show ((tokEq (⟨1, (⟨#[97]⟩ : ByteArray), (⟨4607182418800017408, 4607182418800017408⟩ : Cx)⟩ : Tok) (⟨1, (⟨#[97]⟩ : ByteArray), (⟨4607182418800017408, 4607182418800017408⟩ : Cx)⟩ : Tok)) == true) = false; rw [h2]; rfl) rfl ?_)
   refine aK 32 (by show ((tokEq (⟨1, (⟨#[97]⟩ : ByteArray), (⟨4607182418800017408, 4607182418800017408⟩ : Cx)⟩ : Tok) (⟨1, (⟨#[97]⟩ : ByteArray), (⟨4607182418800017408, 4607182418800017408⟩ : Cx)⟩ : Tok)) == true) = false; rw [h2]; rfl) rfl (ao 33 rfl rfl (st_pkf' (b := tokEq (⟨1, (⟨#[97]⟩ : ByteArray), (⟨4607182418800017408, 4607182418800017408⟩ : Cx)⟩ : Tok) (⟨1, (⟨#[97]⟩ : ByteArray), (⟨4607182418800017408, 4607182418800017408⟩ : Cx)⟩ : Tok)) (v := .bool false) h2 rfl rfl rfl (aM 34 (.bool false) rfl rfl (aK 35 rfl rfl (aK 36 rfl rfl (aK 37 rfl rfl (aK 38 rfl rfl (aK 39 rfl rfl (ao 40 rfl rfl (st_pkf (v := .bool false) rfl rfl rfl (aA 0 (.bool false) rfl rfl ?_)))))))))))
   refine aN (ac_ret (fin_eq (v := .bool false) (by show _ = (fun (r : Bool) => (.bool r : Value)) known10; rw [known10, h2, h1] <;> rfl) (fin_ret (res_tmp rfl rfl))))
 ·refine aK 16 (by show ((cxEq (⟨0, 0⟩ : Cx) (⟨0, 0⟩ : Cx)) == true) = false; rw [h1]; rfl) rfl (aK 17 (by show ((cxEq (⟨0, 0⟩ : Cx) (⟨0, 0⟩ : Cx)) == true) = false; rw [h1]; rfl) rfl (aK 18 (by show ((cxEq (⟨0, 0⟩ : Cx) (⟨0, 0⟩ : Cx)) == true) = false; rw [h1]; rfl) rfl (ao 19 rfl rfl (st_pkf' (b := cxEq (⟨0, 0⟩ : Cx) (⟨0, 0⟩ : Cx)) (v := .bool false) h1 rfl rfl rfl (aM 20 (.bool false) rfl rfl (aK 21 rfl rfl (aK 22 rfl rfl (aK 23 rfl rfl (aK 24 rfl rfl (aK 25 rfl rfl (ao 26 rfl rfl (st_pkf (v := .bool false) rfl rfl rfl (aM 27 (.bool false) rfl rfl (aK 28 rfl rfl (aK 29 rfl rfl (aK 30 rfl rfl (aK 31 rfl rfl (aK 32 rfl rfl ?_))))))))))))))))))
  refine ao 33 rfl rfl (st_pkf (v := .bool false) rfl rfl rfl (aM 34 (.bool false) rfl rfl (aK 35 rfl rfl (aK 36 rfl rfl (aK 37 rfl rfl (aK 38 rfl rfl (aK 39 rfl rfl (ao 40 rfl rfl (st_pkf (v := .bool false) rfl rfl rfl (aA 0 (.bool false) rfl rfl (aN (ac_ret (fin_eq (v := .bool false) (by show _ = (fun (r : Bool) => (.bool r : Value)) known10; rw [known10, h1] <;> rfl) (fin_ret (res_tmp rfl rfl)))))))))))))))
end Go.Proofs.YtalffjplbhelcaaDoor
