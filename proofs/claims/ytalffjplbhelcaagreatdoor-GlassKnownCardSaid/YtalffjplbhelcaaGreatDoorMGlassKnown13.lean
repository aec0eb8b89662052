import Derived.Test.YtalffjplbhelcaaGreatDoorMGlassKnown12
import Derived.Test.YtalffjplbhelcaaGreatDoorMGlassKnown3
import Derived.Test.YtalffjplbhelcaaGreatDoorMGlassKnown9
import Derived.Test.YtalffjplbhelcaaGreatDoorMGlassKnown5
import Derived.Test.YtalffjplbhelcaaGreatDoorMGlassKnown8
import Derived.Test.YtalffjplbhelcaaGreatDoorMGlassKnown10
import Derived.Test.YtalffjplbhelcaaGreatDoorMGlassKnown2
import Derived.Test.YtalffjplbhelcaaGreatDoorMGlassKnown1
import Derived.WalkKit
import Derived.ProofKit
import Derived.OpenShut
import Derived.ShutString
import Derived.ChangeOld
import Derived.Below
import Derived.SizedLaws
import Derived.ChangeSlices
set_option linter.unusedVariables false
set_option linter.unusedSimpArgs false
namespace Go.Proofs.YtalffjplbhelcaaGreatDoor
def dval : Nat → List UInt8 → Nat
  | a, [] => a
  | a, b :: l => dval (a * 10 + (b.toNat - 48)) l
theorem dval_app : ∀ (l m : List UInt8) (a : Nat), dval a (l ++ m) = dval (dval a l) m
  | [], m, a => rfl
  | b :: l, m, a => dval_app l m _
theorem dval_lt : ∀ (l : List UInt8) (a w : Nat), (∀ b ∈ l, IsDig b) → a < 10 ^ w → dval a l < 10 ^ (w + l.length)
  | [], a, w, _, h => h
  | b :: l, a, w, hd, h => by
    have hb := hd b List.mem_cons_self
    have h1 : a * 10 + (b.toNat - 48) < 10 ^ (w + 1) := by
      rw [Nat.pow_succ]
      have := hb.1
      have := hb.2
      omega
    have := dval_lt l _ (w + 1) (fun c hc => hd c (List.mem_cons_of_mem _ hc)) h1
    rw [List.length_cons, show w + (l.length + 1) = w + 1 + l.length by omega]
    exact this
theorem decFrom_dval : ∀ (l : List UInt8) (a : Nat), (∀ b ∈ l, IsDig b) → Lib.decFrom a l = some (dval a l)
  | [], a, _ => rfl
  | b :: l, a, hd => by
    have hb := hd b List.mem_cons_self
    have e : Lib.digitVal b = some (b.toNat - 48) := by unfold Lib.digitVal; exact if_pos hb
    rw [Lib.decFrom, e]
    exact decFrom_dval l _ (fun c hc => hd c (List.mem_cons_of_mem _ hc))
theorem rDigit_iff (b : UInt8) : rDigit (b.toNat : Int) = true ↔ IsDig b := by
  unfold rDigit IsDig
  by_cases h : 48 ≤ b.toNat
  · rw [decide_eq_true (show (b.toNat : Int) ≥ 48 by omega), cond_true, decide_eq_true_eq]
    omega
  · rw [decide_eq_false (show ¬ ((b.toNat : Int) ≥ 48) by omega)]
    constructor
    · intro h; cases h
    · intro h2; exact absurd h2.1 h
theorem rDigit_no {b : UInt8} (h : ¬ IsDig b) : rDigit (b.toNat : Int) = false := by
  cases hd : rDigit (b.toNat : Int)
  · rfl
  · exact absurd ((rDigit_iff b).1 hd) h
theorem pow_le11 {w : Nat} (h : w ≤ 11) : 10 ^ w ≤ 100000000000 := Nat.pow_le_pow_right (by decide) h
theorem rdN_val {a w : Nat} {b : UInt8} (hb : IsDig b) (hw : w ≤ 11) (ha : a < 10 ^ w) : rdN (a : Int) (b.toNat : Int) = ((a * 10 + (b.toNat - 48) : Nat) : Int) := by
  have h1 := hb.1
  have h2 := hb.2
  have h3 := pow_le11 hw
  have e8 : IntKind.u8.wrap ((b.toNat : Int) - 48) = (b.toNat : Int) - 48 := by
    rw [IntKind.wrap_u8]
    omega
  unfold rdN
  rw [e8, w64_in (n := (b.toNat : Int) - 48) (by omega), w64_in (n := 10 * (a : Int)) (by omega), w64_in (by omega)]
  omega
theorem rL1_val : ∀ (D R : List UInt8) (a w : Nat), (∀ b ∈ D, IsDig b) → (R = [] ∨ ∃ b r, R = b :: r ∧ ¬ IsDig b) → w ≤ 5 → a < 10 ^ w → rL1 (D ++ R) (a : Int) w = if w + D.length ≤ 5 then some (R, (dval a D : Int), w + D.length) else none
  | [], R, a, w, _, hR, hw, ha => by
    rw [List.nil_append, if_pos (show w + ([] : List UInt8).length ≤ 5 from hw)]
    rcases hR with rfl | ⟨b, r, rfl, hb⟩
    · rfl
    · rw [rL1, rDigit_no hb]; rfl
  | b :: D, R, a, w, hd, hR, hw, ha => by
    have hb := hd b List.mem_cons_self
    rw [List.cons_append, rL1, (rDigit_iff b).2 hb, cond_true]
    by_cases h5 : w + 1 > 5
    · rw [decide_eq_true h5, cond_true, if_neg (by rw [List.length_cons]; omega)]
    · have h1 : a * 10 + (b.toNat - 48) < 10 ^ (w + 1) := dval_lt [b] a w (fun c hc => by obtain rfl := List.mem_singleton.1 hc; exact hb) ha
      rw [decide_eq_false h5, cond_false, rdN_val hb (by omega) ha, rL1_val D R _ (w + 1) (fun c hc => hd c (List.mem_cons_of_mem _ hc)) hR (by omega) h1, List.length_cons, show w + 1 + D.length = w + (D.length + 1) by omega]
      rfl
theorem rL2_val : ∀ (F : List UInt8) (a sc w : Nat), (∀ b ∈ F, IsDig b) → w + F.length ≤ 11 → sc + F.length ≤ 6 → a < 10 ^ w → rL2 F (a : Int) (sc : Int) = some ((dval a F : Int), ((sc + F.length : Nat) : Int))
  | [], a, sc, w, _, _, _, _ => rfl
  | b :: F, a, sc, w, hd, hw, h6, ha => by
    have hb := hd b List.mem_cons_self
    rw [List.length_cons] at hw h6
    have h1 : a * 10 + (b.toNat - 48) < 10 ^ (w + 1) := dval_lt [b] a w (fun c hc => by obtain rfl := List.mem_singleton.1 hc; exact hb) ha
    have ew : w64 ((sc : Int) + 1) = ((sc + 1 : Nat) : Int) := by rw [w64_in (by omega)]; rfl
    rw [rL2, (rDigit_iff b).2 hb, cond_true, rdN_val hb (by omega) ha, ew, rL2_val F _ (sc + 1) (w + 1) (fun c hc => hd c (List.mem_cons_of_mem _ hc)) (by omega) (by omega) h1, List.length_cons, show sc + 1 + F.length = sc + (F.length + 1) by omega]
    rfl
theorem rL2_none : ∀ (F : List UInt8) (a sc : Int), ¬ (∀ b ∈ F, IsDig b) → rL2 F a sc = none
  | [], a, sc, h => absurd (by simp) h
  | b :: F, a, sc, h => by
    rw [rL2]
    by_cases hb : IsDig b
    · rw [(rDigit_iff b).2 hb, cond_true]
      exact rL2_none F _ _ (fun hF => h (fun c hc => by
        rcases List.mem_cons.1 hc with rfl | hc
        · exact hb
        · exact hF c hc))
    · rw [rDigit_no hb]; rfl
theorem trim_snoc (G : List UInt8) (b : UInt8) : Lib.trimRightB (G ++ [b]) 48 = if b == 48 then Lib.trimRightB G 48 else G ++ [b] := by
  unfold Lib.trimRightB
  rw [List.reverse_append, List.reverse_singleton, List.singleton_append, List.dropWhile_cons]
  cases b == 48 <;> simp
theorem snoc_cases (F : List UInt8) : F = [] ∨ ∃ G b, F = G ++ [b] := by
  cases h : F.reverse with
  | nil => left; simpa using h
  | cons b G => right; exact ⟨G.reverse, b, by rw [← List.reverse_reverse F, h, List.reverse_cons]⟩
theorem dval_snoc (G : List UInt8) (b : UInt8) (a : Nat) : dval a (G ++ [b]) = dval a G * 10 + (b.toNat - 48) := dval_app G [b] a
theorem rL3_val : ∀ (k : Nat) (F : List UInt8) (a : Nat), F.length ≤ k → k ≤ 6 → (∀ b ∈ F, IsDig b) → dval a F < 100000000000 → rL3 k (dval a F : Int) (F.length : Int) = ((dval a (Lib.trimRightB F 48) : Int), ((Lib.trimRightB F 48).length : Int))
  | 0, F, a, hk, _, _, _ => by
    obtain rfl : F = [] := List.length_eq_zero_iff.1 (by omega)
    rfl
  | k + 1, F, a, hk, h6, hd, hb => by
    rcases snoc_cases F with rfl | ⟨G, b, rfl⟩
    · rw [rL3]; rfl
    · have hbd := hd b (by simp)
      have h1 := hbd.1
      have h2 := hbd.2
      rw [dval_snoc] at hb
      rw [rL3, dval_snoc, trim_snoc, List.length_append, List.length_singleton, decide_eq_true (by omega), cond_true]
      rw [List.length_append, List.length_singleton] at hk
      have em : Int.tmod ((dval a G * 10 + (b.toNat - 48) : Nat) : Int) 10 = ((b.toNat - 48 : Nat) : Int) := by
        rw [Int.tmod_eq_emod_of_nonneg (by omega)]
        omega
      rw [em]
      by_cases h0 : b = 48
      · subst h0
        have ed : Int.tdiv ((dval a G * 10 + ((48 : UInt8).toNat - 48) : Nat) : Int) 10 = (dval a G : Int) := by
          rw [Int.tdiv_eq_ediv_of_nonneg (by omega), show (48 : UInt8).toNat = 48 from rfl]
          omega
        have hz : ((((48 : UInt8).toNat - 48 : Nat) : Int) == 0) = true := rfl
        rw [hz, cond_true, ed, w64_in (n := (dval a G : Int)) (by omega), w64_in (by omega), show ((G.length + 1 : Nat) : Int) - 1 = (G.length : Int) by omega]
        rw [rL3_val k G a (by omega) (by omega) (fun c hc => hd c (by simp [hc])) (by omega)]
        rfl
      · have hn : b.toNat ≠ 48 := fun h => h0 (UInt8.toNat_inj.1 h)
        have hz : (((b.toNat - 48 : Nat) : Int) == 0) = false := by rw [beq_eq_false_iff_ne]; omega
        have hz2 : (b == 48) = false := by rw [beq_eq_false_iff_ne]; exact h0
        rw [hz, cond_false, if_neg (by rw [hz2]; decide), dval_snoc, List.length_append, List.length_singleton]
theorem trim_last (F : List UInt8) : Lib.trimRightB F 48 = [] ∨ ∃ G b, Lib.trimRightB F 48 = G ++ [b] ∧ b ≠ 48 := by
  rcases snoc_cases (Lib.trimRightB F 48) with h | ⟨G, b, h⟩
  · exact .inl h
  · right
    refine ⟨G, b, h, ?_⟩
    rintro rfl
    unfold Lib.trimRightB at h
    have h2 := congrArg List.reverse h
    rw [List.reverse_reverse, List.reverse_append, List.reverse_singleton, List.singleton_append] at h2
    have h3 := List.head?_dropWhile_not (p := (· == (48 : UInt8))) (l := F.reverse)
    rw [h2] at h3
    simp at h3
theorem right_val {F : List UInt8} {a : Nat} {c : Int} (hd : ∀ b ∈ F, IsDig b) (h6 : F.length ≤ 6) (hb : dval a (Lib.trimRightB F 48) < 100000000000) (hc : c = (dval a (Lib.trimRightB F 48) : Int) ∨ c = -(dval a (Lib.trimRightB F 48) : Int)) : rRightDec ⟨c, ((Lib.trimRightB F 48).length : Int)⟩ = true := by
  have hl := (trimB_sub F 48).2
  have hs := (trimB_sub F 48).1
  unfold rRightDec
  rw [decide_eq_true (show c ≥ -100000000000 by omega), decide_eq_true (show c ≤ 100000000000 by omega), decide_eq_true (show ((Lib.trimRightB F 48).length : Int) ≥ 0 by omega), decide_eq_true (show ((Lib.trimRightB F 48).length : Int) ≤ 6 by omega)]
  simp only [cond_true]
  rcases trim_last F with h | ⟨G, b, h, h0⟩
  · rw [h]; rfl
  · have hbd := hd b (hs b (by rw [h]; simp))
    have h1 := hbd.1
    have h2 := hbd.2
    have hn : b.toNat ≠ 48 := fun e => h0 (UInt8.toNat_inj.1 e)
    rw [h] at hc ⊢
    rw [dval_snoc] at hc
    have hz : ((((G ++ [b]).length : Nat) : Int) == 0) = false := by rw [beq_eq_false_iff_ne]; simp; omega
    rw [hz, cond_false, bne_iff_ne]
    intro e
    rcases hc with rfl | rfl
    · rw [Int.tmod_eq_emod_of_nonneg (by omega)] at e; omega
    · rw [Int.neg_tmod, Int.tmod_eq_emod_of_nonneg (by omega)] at e; omega
theorem rEnd_val {F : List UInt8} {a : Nat} (mn : Bool) (hd : ∀ b ∈ F, IsDig b) (h6 : F.length ≤ 6) (hb : dval a F < 100000000000) (hb2 : dval a (Lib.trimRightB F 48) < 100000000000) :
    rEnd mn (dval a F : Int) (F.length : Int) = (bif mn then (bif (dval a (Lib.trimRightB F 48) : Int) == 0 then none0 else ((⟨w64 (0 - (dval a (Lib.trimRightB F 48) : Int)), ((Lib.trimRightB F 48).length : Int)⟩ : Dec), true)) else ((⟨(dval a (Lib.trimRightB F 48) : Int), ((Lib.trimRightB F 48).length : Int)⟩ : Dec), true)) := by
  have e := rL3_val 6 F a h6 (by decide) hd hb
  have ew : w64 (0 - (dval a (Lib.trimRightB F 48) : Int)) = -(dval a (Lib.trimRightB F 48) : Int) := by rw [w64_in (by omega)]; omega
  unfold rEnd
  rw [e]
  simp only
  rw [ew, right_val hd h6 hb2 (.inl rfl), right_val hd h6 hb2 (.inr rfl)]
  rfl
theorem idx_cases : ∀ l : List UInt8, (Lib.indexByte l 46 = -1 ∧ ∀ b ∈ l, b ≠ 46) ∨ ∃ W F, l = W ++ 46 :: F ∧ (∀ b ∈ W, b ≠ 46) ∧ Lib.indexByte l 46 = (W.length : Int)
  | [] => .inl ⟨rfl, by simp⟩
  | b :: l => by
    rw [Lib.indexByte]
    by_cases h : b = 46
    · subst h
      exact .inr ⟨[], l, rfl, by simp, rfl⟩
    · have hb : (b == 46) = false := by rw [beq_eq_false_iff_ne]; exact h
      rw [if_neg (by rw [hb]; decide)]
      rcases idx_cases l with ⟨h1, h2⟩ | ⟨W, F, rfl, h2, h3⟩
      · left
        rw [h1]
        refine ⟨rfl, fun c hc => ?_⟩
        rcases List.mem_cons.1 hc with rfl | hc
        · exact h
        · exact h2 c hc
      · right
        refine ⟨b :: W, F, rfl, fun c hc => ?_, ?_⟩
        · rcases List.mem_cons.1 hc with rfl | hc
          · exact h
          · exact h2 c hc
        · rw [h3, if_neg (by rw [beq_iff_eq]; omega), List.length_cons]; rfl
theorem span_dig (l : List UInt8) : ∃ D R, l = D ++ R ∧ (∀ b ∈ D, IsDig b) ∧ (R = [] ∨ ∃ b r, R = b :: r ∧ ¬ IsDig b) := by
  induction l with
  | nil => exact ⟨[], [], rfl, by simp, .inl rfl⟩
  | cons b l ih =>
    by_cases hb : IsDig b
    · obtain ⟨D, R, rfl, h1, h2⟩ := ih
      refine ⟨b :: D, R, rfl, fun c hc => ?_, h2⟩
      rcases List.mem_cons.1 hc with rfl | hc
      · exact hb
      · exact h1 c hc
    · exact ⟨[], b :: l, rfl, by simp, .inr ⟨b, l, rfl, hb⟩⟩
theorem rOne_bad {mn : Bool} {W R : List UInt8} (hR : R = [] ∨ ∃ F, R = 46 :: F) (hW : ∀ b ∈ W, b ≠ 46) (h : ¬ (W ≠ [] ∧ W.length ≤ 5 ∧ ∀ b ∈ W, IsDig b)) : rOne mn (rL1 (W ++ R) 0 0) = none0 := by
  by_cases hd : ∀ b ∈ W, IsDig b
  · have hR' : R = [] ∨ ∃ b r, R = b :: r ∧ ¬ IsDig b := by
      rcases hR with rfl | ⟨F, rfl⟩
      · exact .inl rfl
      · exact .inr ⟨46, F, rfl, by unfold IsDig; decide⟩
    have e := rL1_val W R 0 0 hd hR' (by decide) (by decide)
    rw [show ((0 : Nat) : Int) = 0 from rfl] at e
    rw [e]
    by_cases h5 : 0 + W.length ≤ 5
    · rw [if_pos h5]
      have h0 : W = [] := by
        cases W with
        | nil => rfl
        | cons b W => exact absurd ⟨by simp, by omega, hd⟩ h
      subst h0
      rfl
    · rw [if_neg h5]; rfl
  · obtain ⟨D, X, e0, h1, h2⟩ := span_dig W
    subst e0
    rcases h2 with rfl | ⟨x, r, rfl, hx⟩
    · exact absurd (by simpa using h1) hd
    · have hx46 : x ≠ 46 := hW x (by simp)
      have e := rL1_val D ((x :: r) ++ R) 0 0 h1 (.inr ⟨x, r ++ R, rfl, hx⟩) (by decide) (by decide)
      rw [show ((0 : Nat) : Int) = 0 from rfl] at e
      rw [List.append_assoc, e]
      by_cases h5 : 0 + D.length ≤ 5
      · rw [if_pos h5]
        have hb : ((x.toNat : Int) != 46) = true := by
          rw [bne_iff_ne]
          intro e
          exact hx46 (UInt8.toNat_inj.1 (by show x.toNat = 46; omega))
        show (bif (0 + D.length) == 0 then none0 else rFrac mn (x :: (r ++ R)) _) = none0
        cases (0 + D.length) == 0
        · rw [cond_false, rFrac, hb]; rfl
        · rfl
      · rw [if_neg h5]; rfl
theorem atoi_val {l : List UInt8} (h0 : l ≠ []) (hd : ∀ b ∈ l, IsDig b) : lAtoi (byA l) = (dval 0 l : Int) := by
  obtain ⟨n, h1, h2⟩ := atoi_digs h0 hd
  rw [decFrom_dval l 0 hd] at h1
  unfold lAtoi
  rw [show (byA l).data.toList = l from rfl, h2, Option.getD_some, Option.some.inj h1]
theorem byA_app (a b : List UInt8) : byA a ++ byA b = byA (a ++ b) := by
  apply ByteArray.ext
  apply Array.ext'
  simp [byA]
theorem fig_byA (l : List UInt8) (n : Nat) : decFig (byA l) (n : Int) = true ↔ l ≠ [] ∧ l.length ≤ n ∧ ∀ b ∈ l, IsDig b := by
  rw [decFig_iff]
  show l ≠ [] ∧ ((l.length : Nat) : Int) ≤ n ∧ _ ↔ _
  rw [Int.ofNat_le]
  rfl
theorem fig_no {l : List UInt8} {n : Nat} (h : ¬ (l ≠ [] ∧ l.length ≤ n ∧ ∀ b ∈ l, IsDig b)) : decFig (byA l) (n : Int) = false := by
  cases hd : decFig (byA l) (n : Int)
  · rfl
  · exact absurd ((fig_byA l n).1 hd) h
theorem f5y {l : List UInt8} (h : l ≠ [] ∧ l.length ≤ 5 ∧ ∀ b ∈ l, IsDig b) : decFig (byA l) 5 = true := (fig_byA l 5).2 h
theorem f6y {l : List UInt8} (h : l ≠ [] ∧ l.length ≤ 6 ∧ ∀ b ∈ l, IsDig b) : decFig (byA l) 6 = true := (fig_byA l 6).2 h
theorem f5n {l : List UInt8} (h : ¬ (l ≠ [] ∧ l.length ≤ 5 ∧ ∀ b ∈ l, IsDig b)) : decFig (byA l) 5 = false := fig_no (n := 5) h
theorem f6n {l : List UInt8} (h : ¬ (l ≠ [] ∧ l.length ≤ 6 ∧ ∀ b ∈ l, IsDig b)) : decFig (byA l) 6 = false := fig_no (n := 6) h
theorem body_eq (s : ByteArray) : rdBody s = byA (rBody s) ∧ rdMinus s = rMin s := by
  obtain ⟨l, rfl⟩ : ∃ l, s = byA l := ⟨s.data.toList, rfl⟩
  unfold rdBody rdMinus lCutPrefix rBody rMin
  show byA (Lib.trimPrefix l [45]) = _ ∧ Lib.hasPrefix l [45] = _
  cases l with
  | nil => exact ⟨rfl, rfl⟩
  | cons b r =>
    have hp : decide (((byA (b :: r)).size : Int) > 0) = true := decide_eq_true (by have := byA_pos b r; omega)
    have hq : ((b.toNat : Int) == 45) = (45 == b) := by
      rw [Bool.eq_iff_iff, beq_iff_eq, beq_iff_eq]
      constructor
      · intro h; exact (UInt8.toNat_inj.1 (show b.toNat = 45 by omega)).symm
      · rintro rfl; rfl
    have hh : Lib.hasPrefix (b :: r) [45] = (45 == b) := by
      show (45 == b && true) = _
      rw [Bool.and_true]
    rw [hp, sAt_hd, hq, hh, Lib.trimPrefix, hh, cond_true, cond_true]
    cases 45 == b
    · exact ⟨rfl, rfl⟩
    · exact ⟨rfl, rfl⟩
theorem parts_none {s : ByteArray} (h : Lib.indexByte (rBody s) 46 = -1) : rdWhole s = byA (rBody s) ∧ rdRest s = byA [] ∧ rdPoint s = false := by
  have hb := (body_eq s).1
  unfold rdWhole rdRest rdPoint cutDot cutDot0
  rw [hb]
  have e : lIndex (byA (rBody s)) 46 = -1 := h
  rw [e]
  exact ⟨rfl, rfl, rfl⟩
theorem parts_some {s : ByteArray} {W F : List UInt8} (hl : (rBody s).length ≤ 9223372036854775807) (h : rBody s = W ++ 46 :: F) (hi : Lib.indexByte (rBody s) 46 = (W.length : Int)) : rdWhole s = byA W ∧ rdRest s = byA F ∧ rdPoint s = true := by
  have hb := (body_eq s).1
  have hl' : W.length + (F.length + 1) ≤ 9223372036854775807 := by rw [h, List.length_append, List.length_cons] at hl; exact hl
  unfold rdWhole rdRest rdPoint cutDot cutDot0
  rw [hb]
  have e : lIndex (byA (rBody s)) 46 = (W.length : Int) := hi
  have r0 : restL (byA (rBody s)) 0 = W ++ (46 :: F) := h
  have e1 := sub_rest r0
  have r1 : restL (byA (rBody s)) (W.length + 1) = F ++ [] := by
    have := rest_add (s := byA (rBody s)) (i := 0) (w := W ++ [46]) (r := F) (by rw [List.append_assoc]; exact r0)
    rw [List.append_nil]
    rw [← this]
    congr 1
    simp
  have e2 := sub_rest r1
  have es : ((byA (rBody s)).size : Int) = ((W.length + 1 + F.length : Nat) : Int) := by
    show (((rBody s).length : Nat) : Int) = _
    rw [h, List.length_append, List.length_cons]
    omega
  rw [e, decide_eq_true (by omega), cond_true, w64_in (by omega), es]
  refine ⟨?_, ?_, rfl⟩
  · rw [Nat.zero_add] at e1; exact e1
  · exact e2
theorem body_len (s : ByteArray) : (rBody s).length ≤ s.size := by
  have h : s.data.toList.length = s.size := by rw [Array.length_toList]; rfl
  unfold rBody
  cases decide ((s.size : Int) > 0)
  · exact Nat.le_of_eq h
  · cases (sAt s 0) == 45
    · exact Nat.le_of_eq h
    · show (s.data.toList.drop 1).length ≤ _
      rw [List.length_drop]; omega
theorem read_eqA {s : ByteArray} (hs : s.size ≤ 9223372036854775807) : decRead s = rRead s := by
  have hl : (rBody s).length ≤ 9223372036854775807 := Nat.le_trans (body_len s) hs
  have hm := (body_eq s).2
  unfold rRead
  rcases idx_cases (rBody s) with ⟨hi, h46⟩ | ⟨W, F, hWF, h46, hi⟩
  · obtain ⟨pW, pF, pp⟩ := parts_none hi
    unfold decRead
    rw [pW, pF, pp, hm]
    by_cases hg : rBody s ≠ [] ∧ (rBody s).length ≤ 5 ∧ ∀ b ∈ rBody s, IsDig b
    · have e := rL1_val (rBody s) [] 0 0 hg.2.2 (.inl rfl) (by decide) (by decide)
      rw [List.append_nil, if_pos (show 0 + (rBody s).length ≤ 5 by omega), show ((0 : Nat) : Int) = 0 from rfl] at e
      rw [e, f5y hg]
      have hw : ((0 + (rBody s).length) == 0) = false := by
        rw [beq_eq_false_iff_ne]
        have := List.length_pos_iff.2 hg.1
        omega
      have hlt : dval 0 (rBody s) < 100000000000 := Nat.lt_of_lt_of_le (dval_lt (rBody s) 0 0 hg.2.2 (by decide)) (pow_le11 (by omega))
      have et : lTrimRight (byA []) 48 = byA [] := rfl
      have ea : lAtoi (byA (rBody s) ++ byA []) = (dval 0 (rBody s) : Int) := by rw [byA_app, List.append_nil]; exact atoi_val hg.1 hg.2.2
      have er := rEnd_val (F := []) (a := dval 0 (rBody s)) (rMin s) (by simp) (by decide) hlt hlt
      rw [et, ea]
      show _ = (bif (0 + (rBody s).length) == 0 then none0 else rFrac (rMin s) [] (dval 0 (rBody s) : Int))
      rw [hw, cond_false, rFrac]
      exact er.symm
    · have e := rOne_bad (mn := rMin s) (W := rBody s) (R := []) (.inl rfl) h46 hg
      rw [List.append_nil] at e
      rw [e, f5n hg]; rfl
  · obtain ⟨pW, pF, pp⟩ := parts_some hl hWF hi
    unfold decRead
    rw [pW, pF, pp, hm, hWF]
    by_cases hg : W ≠ [] ∧ W.length ≤ 5 ∧ ∀ b ∈ W, IsDig b
    · have e := rL1_val W (46 :: F) 0 0 hg.2.2 (.inr ⟨46, F, rfl, by unfold IsDig; decide⟩) (by decide) (by decide)
      rw [if_pos (show 0 + W.length ≤ 5 by omega), show ((0 : Nat) : Int) = 0 from rfl] at e
      rw [e, f5y hg, cond_true, cond_true]
      have hw : ((0 + W.length) == 0) = false := by
        rw [beq_eq_false_iff_ne]
        have := List.length_pos_iff.2 hg.1
        omega
      have hlW : dval 0 W < 10 ^ W.length := by have := dval_lt W 0 0 hg.2.2 (by decide); rw [Nat.zero_add] at this; exact this
      show _ = (bif (0 + W.length) == 0 then none0 else rFrac (rMin s) (46 :: F) (dval 0 W : Int))
      rw [hw, cond_false, rFrac]
      show _ = (bif F.length == 0 then none0 else (bif decide (F.length > 6) then none0 else rTwo (rMin s) (rL2 F (dval 0 W : Int) 0)))
      by_cases hf : F ≠ [] ∧ F.length ≤ 6 ∧ ∀ b ∈ F, IsDig b
      · have h0 : (F.length == 0) = false := by
          rw [beq_eq_false_iff_ne]
          have := List.length_pos_iff.2 hf.1
          omega
        have hT := trimB_sub F 48
        have hTd : ∀ b ∈ Lib.trimRightB F 48, IsDig b := fun b hb => hf.2.2 b (hT.1 b hb)
        have hlt : ∀ X : List UInt8, (∀ b ∈ X, IsDig b) → X.length ≤ 6 → dval (dval 0 W) X < 100000000000 := fun X hX h6 => Nat.lt_of_lt_of_le (dval_lt X _ _ hX hlW) (pow_le11 (by omega))
        have e2 := rL2_val F (dval 0 W) 0 W.length hf.2.2 (by omega) (by omega) hlW
        rw [Nat.zero_add, show ((0 : Nat) : Int) = 0 from rfl] at e2
        have et : lTrimRight (byA F) 48 = byA (Lib.trimRightB F 48) := rfl
        have ea : lAtoi (byA W ++ byA (Lib.trimRightB F 48)) = (dval (dval 0 W) (Lib.trimRightB F 48) : Int) := by
          rw [byA_app, atoi_val (by simp [hg.1]) (fun b hb => by
            rcases List.mem_append.1 hb with hb | hb
            · exact hg.2.2 b hb
            · exact hTd b hb), dval_app]
        have er := rEnd_val (F := F) (a := dval 0 W) (rMin s) hf.2.2 hf.2.1 (hlt F hf.2.2 hf.2.1) (hlt _ hTd (by omega))
        rw [h0, decide_eq_false (show ¬ F.length > 6 by omega), e2, et, ea, f6y hf]
        exact er.symm
      · rw [f6n hf]
        show none0 = _
        by_cases h0 : F = []
        · subst h0; rfl
        · have h0' : (F.length == 0) = false := by
            rw [beq_eq_false_iff_ne]
            have := List.length_pos_iff.2 h0
            omega
          rw [h0', cond_false]
          by_cases h6 : F.length > 6
          · rw [decide_eq_true h6]; rfl
          · rw [decide_eq_false h6, rL2_none F _ _ (fun hd => hf ⟨h0, by omega, hd⟩)]; rfl
    · rw [rOne_bad (mn := rMin s) (W := W) (R := 46 :: F) (.inr ⟨F, rfl⟩) h46 hg, f5n hg]; rfl
theorem read_eq {s : ByteArray} (hs : s.size ≤ 4000) : decRead s = rRead s := read_eqA (Nat.le_trans hs (by decide))
end Go.Proofs.YtalffjplbhelcaaGreatDoor
namespace Go.Proofs.YtalffjplbhelcaaGreatDoor
theorem dig_of {k : Nat} (h : k < 10) : (UInt8.ofNat (48 + k)).toNat = 48 + k := by
  rw [UInt8.toNat_ofNat']
  exact Nat.mod_eq_of_lt (by omega)
theorem isDig_of {k : Nat} (h : k < 10) : IsDig (UInt8.ofNat (48 + k)) := by
  unfold IsDig
  rw [dig_of h]
  omega
theorem decDig_all : ∀ (u : Nat), (∀ b ∈ Lib.decDigits u, IsDig b) ∧ dval 0 (Lib.decDigits u) = u ∧ Lib.decDigits u ≠ [] := by
  intro u
  induction u using Nat.strongRecOn with
  | _ u ih =>
    rw [Lib.decDigits]
    by_cases h : u < 10
    · rw [dif_pos h]
      refine ⟨fun b hb => ?_, ?_, by simp⟩
      · obtain rfl := List.mem_singleton.1 hb
        exact isDig_of h
      · show 0 * 10 + ((UInt8.ofNat (48 + u)).toNat - 48) = u
        rw [dig_of h]; omega
    · rw [dif_neg h]
      obtain ⟨h1, h2, h3⟩ := ih (u / 10) (by omega)
      have hm : u % 10 < 10 := by omega
      refine ⟨fun b hb => ?_, ?_, by simp⟩
      · rcases List.mem_append.1 hb with hb | hb
        · exact h1 b hb
        · obtain rfl := List.mem_singleton.1 hb
          exact isDig_of hm
      · rw [dval_snoc, h2, dig_of hm]; omega
theorem dval_zeros : ∀ (k : Nat) (l : List UInt8), dval 0 (List.replicate k 48 ++ l) = dval 0 l
  | 0, l => rfl
  | k + 1, l => by
    rw [List.replicate_succ, List.cons_append]
    show dval (0 * 10 + ((48 : UInt8).toNat - 48)) _ = _
    exact dval_zeros k l
theorem rep_zeros : ∀ k : Nat, Lib.repeatL [48] k = List.replicate k 48
  | 0 => rfl
  | k + 1 => by rw [Lib.repeatL, rep_zeros k, List.replicate_succ]; rfl
def sgnL (mn : Bool) : List UInt8 := bif mn then [45] else []
def ptL (F : List UInt8) : List UInt8 := bif F.isEmpty then [] else 46 :: F
theorem read_form (mn : Bool) (W F : List UInt8) (h0 : W ≠ []) (h5 : W.length ≤ 5) (hW : ∀ b ∈ W, IsDig b) (h6 : F.length ≤ 6) (hF : ∀ b ∈ F, IsDig b) : rRead (byA (sgnL mn ++ (W ++ ptL F))) = rEnd mn (dval (dval 0 W) F : Int) (F.length : Int) := by
  obtain ⟨b, r, rfl⟩ : ∃ b r, W = b :: r := by cases W with | nil => exact absurd rfl h0 | cons b r => exact ⟨b, r, rfl⟩
  have hb := hW b List.mem_cons_self
  have hb45 : ((b.toNat : Int) == 45) = false := by
    rw [beq_eq_false_iff_ne]
    have := hb.1
    omega
  have hbody : rBody (byA (sgnL mn ++ ((b :: r) ++ ptL F))) = (b :: r) ++ ptL F ∧ rMin (byA (sgnL mn ++ ((b :: r) ++ ptL F))) = mn := by
    unfold rBody rMin
    cases mn
    · have e : sgnL false ++ ((b :: r) ++ ptL F) = b :: (r ++ ptL F) := rfl
      rw [e, decide_eq_true (by have := byA_pos b (r ++ ptL F); omega), sAt_hd, hb45]
      exact ⟨rfl, rfl⟩
    · have e : sgnL true ++ ((b :: r) ++ ptL F) = 45 :: ((b :: r) ++ ptL F) := rfl
      rw [e, decide_eq_true (by have := byA_pos 45 ((b :: r) ++ ptL F); omega), sAt_hd]
      exact ⟨rfl, rfl⟩
  have hR : ptL F = [] ∨ ∃ c q, ptL F = c :: q ∧ ¬ IsDig c := by
    unfold ptL
    cases F with
    | nil => exact .inl rfl
    | cons c q => exact .inr ⟨46, c :: q, rfl, by unfold IsDig; decide⟩
  have e := rL1_val (b :: r) (ptL F) 0 0 hW hR (by decide) (by decide)
  rw [if_pos (show 0 + (b :: r).length ≤ 5 by omega), show ((0 : Nat) : Int) = 0 from rfl] at e
  have hw : ((0 + (b :: r).length) == 0) = false := by rw [beq_eq_false_iff_ne]; simp
  have hlW : dval 0 (b :: r) < 10 ^ (b :: r).length := by have := dval_lt (b :: r) 0 0 hW (by decide); rw [Nat.zero_add] at this; exact this
  rw [rRead, hbody.1, hbody.2, e]
  show (bif (0 + (b :: r).length) == 0 then none0 else rFrac mn (ptL F) (dval 0 (b :: r) : Int)) = _
  rw [hw, cond_false]
  cases F with
  | nil => rfl
  | cons c q =>
    show rFrac mn (46 :: (c :: q)) _ = _
    have e2 := rL2_val (c :: q) (dval 0 (b :: r)) 0 (b :: r).length hF (by omega) (by omega) hlW
    rw [Nat.zero_add, show ((0 : Nat) : Int) = 0 from rfl] at e2
    have hl : ((c :: q).length == 0) = false := by rw [beq_eq_false_iff_ne]; simp
    rw [rFrac]
    show (bif (c :: q).length == 0 then none0 else (bif decide ((c :: q).length > 6) then none0 else rTwo mn (rL2 (c :: q) (dval 0 (b :: r) : Int) 0))) = _
    rw [hl, decide_eq_false (by omega), e2]
    rfl
theorem read_form2 (mn : Bool) (W F : List UInt8) (h0 : W ≠ []) (h5 : W.length ≤ 5) (hW : ∀ b ∈ W, IsDig b) (h6 : F.length ≤ 6) (hF : ∀ b ∈ F, IsDig b) (ht : Lib.trimRightB F 48 = F) (hz : mn = true → dval 0 (W ++ F) ≠ 0) :
    rRead (byA (sgnL mn ++ (W ++ ptL F))) = (⟨bif mn then -(dval 0 (W ++ F) : Int) else (dval 0 (W ++ F) : Int), (F.length : Int)⟩, true) := by
  have hlW : dval 0 W < 10 ^ W.length := by have := dval_lt W 0 0 hW (by decide); rw [Nat.zero_add] at this; exact this
  have hlt : dval (dval 0 W) F < 100000000000 := Nat.lt_of_lt_of_le (dval_lt F _ _ hF hlW) (pow_le11 (by omega))
  rw [read_form mn W F h0 h5 hW h6 hF, rEnd_val mn hF h6 hlt (by rw [ht]; exact hlt), ht, dval_app]
  cases mn
  · rfl
  · have hn := hz rfl
    rw [dval_app] at hn
    have hb : ((dval (dval 0 W) F : Int) == 0) = false := by rw [beq_eq_false_iff_ne]; omega
    have ew : w64 (0 - (dval (dval 0 W) F : Int)) = -(dval (dval 0 W) F : Int) := by rw [w64_in (by omega)]; omega
    rw [hb, ew]
    rfl
theorem max_abs {d : Dec} (h : decRight d = true) : max d.c (w64 (0 - d.c)) = (d.c.natAbs : Int) := by
  have := dr_bounds h
  rw [w64_in (by omega)]
  omega
theorem ito_L {d : Dec} (h : decRight d = true) : ito d = byA (Lib.decDigits d.c.natAbs) := by
  unfold ito lItoa
  rw [max_abs h, Lib.itoa_nonneg]
theorem zer_L (d : Dec) : zer d = byA (List.replicate (padN d).toNat 48) := by
  unfold zer lRepeat
  rw [show (⟨#[48]⟩ : ByteArray).data.toList = [48] from rfl, rep_zeros]
theorem sEq_nil (F : List UInt8) : sEq (byA F) (⟨#[]⟩ : ByteArray) = F.isEmpty := by
  rw [Bool.eq_iff_iff, sEq_iff]
  cases F with
  | nil => exact ⟨fun _ => rfl, fun _ => rfl⟩
  | cons b l =>
    constructor
    · intro h
      have h9 : l.length + 1 = 0 := congrArg ByteArray.size h
      omega
    · intro h; cases h
theorem print_form {d : Dec} (h : decRight d = true) : ∃ W F : List UInt8, W ≠ [] ∧ (∀ b ∈ W, IsDig b) ∧ (∀ b ∈ F, IsDig b) ∧ (F.length : Int) = d.scale ∧ dval 0 (W ++ F) = d.c.natAbs ∧
    decPrint d = bif decide ((W.length : Int) > 5) then (⟨#[]⟩ : ByteArray) else byA (sgnL (decide (d.c < 0)) ++ (W ++ ptL F)) := by
  have hb := dr_bounds h
  obtain ⟨d1, d2, d3⟩ := decDig_all d.c.natAbs
  have hL : zer d ++ ito d = byA (List.replicate (padN d).toNat 48 ++ Lib.decDigits d.c.natAbs) := by rw [zer_L, ito_L h, byA_app]
  obtain ⟨p1, p2⟩ := pad_all h
  have hform := decPrint_form d
  rw [h, cond_true, p1, hL] at hform
  rw [hL] at p2
  generalize hLd : List.replicate (padN d).toNat 48 ++ Lib.decDigits d.c.natAbs = L at *
  have hsz : (byA L).size = L.length := rfl
  rw [hsz] at p2 hform
  obtain ⟨k, hk⟩ : ∃ k : Nat, (L.length : Int) - d.scale = (k : Int) := ⟨((L.length : Int) - d.scale).toNat, by omega⟩
  rw [hk] at hform
  have hkl : k ≤ L.length := by omega
  have tl : (L.take k).length = k := by rw [List.length_take]; omega
  have r0 : restL (byA L) 0 = L.take k ++ L.drop k := (List.take_append_drop k L).symm
  have e1 := sub_rest r0
  rw [tl, Nat.zero_add] at e1
  have r1 : restL (byA L) k = L.drop k ++ [] := by rw [List.append_nil]; rfl
  have e2 := sub_rest r1
  have dl : (L.drop k).length = L.length - k := List.length_drop
  rw [dl, show k + (L.length - k) = L.length by omega] at e2
  have hdig : ∀ b ∈ L, IsDig b := by
    intro b hb
    rw [← hLd] at hb
    rcases List.mem_append.1 hb with hb | hb
    · rw [List.eq_of_mem_replicate hb]; unfold IsDig; decide
    · exact d1 b hb
  refine ⟨L.take k, L.drop k, ?_, fun b hb => hdig b (List.mem_of_mem_take hb), fun b hb => hdig b (List.mem_of_mem_drop hb), by rw [dl]; omega, ?_, ?_⟩
  · intro e
    rw [e] at tl
    have tl : 0 = k := tl
    omega
  · rw [List.take_append_drop, ← hLd, dval_zeros, d2]
  · rw [hform, show subS (byA L) 0 (k : Int) = byA (L.take k) from e1, e2, sEq_nil, show (byA (L.take k)).size = (L.take k).length from rfl]
    unfold prForm
    cases decide (((L.take k).length : Int) > 5)
    · simp only [cond_false]
      cases decide (d.c < 0) <;> cases hF : (L.drop k) <;> simp only [List.isEmpty_nil, List.isEmpty_cons, cond_true, cond_false, sgnL, ptL, List.nil_append, List.append_nil, List.cons_append]
      · rw [show (⟨#[46]⟩ : ByteArray) = byA [46] from rfl, byA_app, byA_app, List.append_assoc]; rfl
      · rw [show (⟨#[45]⟩ : ByteArray) = byA [45] from rfl, byA_app]; rfl
      · rw [show (⟨#[46]⟩ : ByteArray) = byA [46] from rfl, show (⟨#[45]⟩ : ByteArray) = byA [45] from rfl, byA_app, byA_app, byA_app]
        simp
    · rfl
theorem print_back {d : Dec} (h : decRight d = true) (hp : decPrint d ≠ (⟨#[]⟩ : ByteArray)) : decRead (decPrint d) = (d, true) := by
  obtain ⟨W, F, h0, hW, hF, hl, hv, he⟩ := print_form h
  have hb := dr_bounds h
  have h5 : W.length ≤ 5 := by
    by_cases h5 : ((W.length : Int) > 5)
    · rw [decide_eq_true h5] at he; exact absurd he hp
    · omega
  rw [decide_eq_false (by omega), cond_false] at he
  have ht : Lib.trimRightB F 48 = F := by
    rcases snoc_cases F with rfl | ⟨G, b, rfl⟩
    · rfl
    · rw [trim_snoc]
      have hs : d.scale ≠ 0 := by rw [← hl, List.length_append, List.length_singleton]; omega
      have hm : Int.tmod d.c 10 ≠ 0 := by
        unfold decRight at h
        rw [decide_eq_true hb.1, decide_eq_true hb.2.1, decide_eq_true hb.2.2.1, decide_eq_true hb.2.2.2, show (d.scale == 0) = false from beq_eq_false_iff_ne.2 hs] at h
        simpa using h
      have hbd := hF b (by simp)
      rw [← List.append_assoc, dval_snoc] at hv
      have hn : b ≠ 48 := by
        rintro rfl
        rw [show (48 : UInt8).toNat - 48 = 0 from rfl] at hv
        apply hm
        rcases Int.natAbs_eq d.c with e | e
        · rw [e, Int.tmod_eq_emod_of_nonneg (by omega)]; omega
        · rw [e, Int.neg_tmod, Int.tmod_eq_emod_of_nonneg (by omega)]; omega
      rw [if_neg (by rw [beq_iff_eq]; exact hn)]
  have hr := read_form2 (decide (d.c < 0)) W F h0 h5 hW (by omega) hF ht (fun hn => by have := of_decide_eq_true hn; omega)
  rw [← he, hv] at hr
  have hsz : (decPrint d).size ≤ 4000 := Nat.le_trans (print_sz d) (by decide)
  rw [read_eq hsz, hr]
  obtain ⟨c, sc⟩ := d
  simp only [Prod.mk.injEq, and_true, Dec.mk.injEq] at *
  refine ⟨?_, hl⟩
  by_cases hc : c < 0
  · rw [decide_eq_true hc]; simp only [cond_true]; omega
  · rw [decide_eq_false hc]; simp only [cond_false]; omega
end Go.Proofs.YtalffjplbhelcaaGreatDoor
namespace Go.Proofs.YtalffjplbhelcaaGreatDoor
theorem dg_arg {n : Nat} (hn : n < 1000000000000000000) : w64 (Int.tdiv (n : Int) 10) = ((n / 10 : Nat) : Int) := by
  rw [Int.tdiv_eq_ediv_of_nonneg (by omega), w64_in (by omega)]
  omega
theorem dg_in {p : Program} {f : FuncId} {a b : Int} {v : Value} (h : Gets p f #[.int .i64 b] v) (e : a = b) : Gets p f #[.int .i64 a] v := e ▸ h
theorem dg_byte {k : Int} (h : 0 ≤ k ∧ k < 10) : byteS (IntKind.u8.wrap (w64 (48 + k))) = byA [UInt8.ofNat (48 + k.toNat)] := by
  rw [w64_in (by omega), IntKind.wrap_u8]
  unfold byteS byA
  rw [show ((48 + k) % 256).toNat = 48 + k.toNat by omega]
theorem dg_one {n : Nat} (h : decide ((n : Int) < 10) = true) : byteS (IntKind.u8.wrap (w64 (48 + (n : Int)))) = byA (Lib.decDigits n) := by
  have h := of_decide_eq_true h
  rw [dg_byte (by omega), Lib.decDigits, dif_pos (by omega), Int.toNat_natCast]
theorem dg_more {n : Nat} (h : decide ((n : Int) < 10) = false) : byA (Lib.decDigits (n / 10)) ++ byteS (IntKind.u8.wrap (w64 (48 + (Int.tmod (n : Int) 10)))) = byA (Lib.decDigits n) := by
  have h := of_decide_eq_false h
  have e : Int.tmod (n : Int) 10 = ((n % 10 : Nat) : Int) := by rw [Int.tmod_eq_emod_of_nonneg (by omega)]; omega
  rw [e, dg_byte (by omega), Int.toNat_natCast, byA_app]
  conv => rhs; rw [Lib.decDigits, dif_neg (by omega)]
theorem dg_len : ∀ (k n : Nat), n < 10 ^ (k + 1) → (Lib.decDigits n).length ≤ k + 1
  | 0, n, h => by rw [Lib.decDigits, dif_pos (by omega)]; simp
  | k + 1, n, h => by
    rw [Lib.decDigits]
    by_cases h10 : n < 10
    · rw [dif_pos h10]; simp
    · rw [dif_neg h10, List.length_append]
      have := dg_len k (n / 10) (by rw [Nat.pow_succ] at h; omega)
      simp only [List.length_singleton]
      omega
theorem dg_size {n : Nat} (h : n < 1000000000000000000) : (byA (Lib.decDigits (n / 10))).size ≤ 18 := dg_len 17 (n / 10) (by have : (10 : Nat) ^ (17 + 1) = 1000000000000000000 := by decide
                                                                                                                             omega)
end Go.Proofs.YtalffjplbhelcaaGreatDoor
namespace Go.Proofs.YtalffjplbhelcaaGreatDoor
open Go.RowKit
attribute [local irreducible] AC AR DWalk
set_option maxRecDepth 100000 in
theorem c_rDigits (n : Nat) : n < 1000000000000000000 → Gets Tryz.prog 22 #[.int .i64 (n : Int)] (.string (byA (Lib.decDigits n))) := by
 induction n using Nat.strongRecOn with
 | _ n ih =>
  intro hn
  refine gets_fin Tryz.func22 rfl rfl rfl (aQ (aL (aA 2 (.string (⟨#[]⟩ : ByteArray)) rfl rfl (aN (aQ (aQ (aL (aM 3 (.int .i64 (n : Int)) rfl rfl (aB 4 (.bool (decide ((n : Int) < 0))) rfl rfl rfl (bi_lss rfl) (aN (ac_else' (b := decide ((n : Int) < 0)) (decide_eq_false (by omega)) rfl (ac_skip (aQ (aQ (aL (aM 9 (.int .i64 (n : Int)) rfl rfl (aB 10 (.bool (decide ((n : Int) < 10))) rfl rfl rfl (bi_lss rfl) (aN ?_))))))))))))))))))
  refine bool_split (decide ((n : Int) < 10)) (fun h1 => ?_) (fun h1 => ?_)
  ·refine ac_then' (b := decide ((n : Int) < 10)) h1 rfl (aQ (aL (aM 11 (.int .i64 (n : Int)) rfl rfl (aB 12 (.int .i64 (w64 (48 + (n : Int)))) rfl rfl rfl (bi_add rfl) (ao 13 rfl rfl (st_cv_int (k := .u8) (a := (w64 (48 + (n : Int)))) (c := (IntKind.u8.wrap (w64 (48 + (n : Int))))) Tryz.underlying5 Tryz.underlying3 rfl rfl rfl (ao 14 rfl rfl (st_bs (us := [(0, .int .u8 (IntKind.u8.wrap (w64 (48 + (n : Int)))))]) (cs := [.int .u8 (IntKind.u8.wrap (w64 (48 + (n : Int))))]) rfl rfl (bs76_1_0 _) fun g0 => (ao 15 rfl rfl (st_cvs (g := g0) (n := (IntKind.u8.wrap (w64 (48 + (n : Int))))) 0 rfl Tryz.underlying76 Tryz.underlying5 Tryz.underlying9 rfl rfl rfl rfl ?_))))))))))
   refine aA 2 (.string (byteS (IntKind.u8.wrap (w64 (48 + (n : Int)))))) rfl rfl (aN (ac_ret (fin_eq (v := .string (byteS (IntKind.u8.wrap (w64 (48 + (n : Int)))))) (congrArg Value.string (dg_one h1)) (fin_ret (res_tmp rfl rfl)))))
  ·refine ac_else' (b := decide ((n : Int) < 10)) h1 rfl (ac_skip (aQ ?_))
   refine ac_any follows 11 rfl (fun Φ stepR doneR permR => ?_)
   refine ((fun s5_29 => ?_) : (∀ (E : Env) (b5_7 : Nat), E 2 = .string ((byA (Lib.decDigits (n / 10))) ++ (byteS (IntKind.u8.wrap (w64 (48 + (Int.tmod (n : Int) 10)))))) → Φ 0 [true, true, true, true, true, true, true, true, true, true, true] E [⟨b5_7, [.int .u8 (IntKind.u8.wrap (w64 (48 + (Int.tmod (n : Int) 10))))], 5, false⟩]) → _) ?_
   ·have s5_28 : ∀ (E : Env) (b5_7 : Nat), E 2 = .string (⟨#[]⟩ : ByteArray) → E 25 = .string ((byA (Lib.decDigits (n / 10))) ++ (byteS (IntKind.u8.wrap (w64 (48 + (Int.tmod (n : Int) 10)))))) → Φ 1 [true, true, true, true, true, true, true, true, true, true, false] E [⟨b5_7, [.int .u8 (IntKind.u8.wrap (w64 (48 + (Int.tmod (n : Int) 10))))], 5, false⟩] := by
     intro E b5_7 q2 q25
     obtain ⟨E0, rfl⟩ : ∃ E0 : Env, E = ((E0.put (some 2) (.string (⟨#[]⟩ : ByteArray))).put (some 25) (.string ((byA (Lib.decDigits (n / 10))) ++ (byteS (IntKind.u8.wrap (w64 (48 + (Int.tmod (n : Int) 10)))))))) := ⟨E, by rw [put_self q2, put_self q25]⟩
     refine stepR 0 _ _ _ [10] (by kernel_rfl) rfl ⟨?_, trivial⟩
     ·refine opR_op (d := (some 2)) rfl rfl rfl (st_assign (v := .string ((byA (Lib.decDigits (n / 10))) ++ (byteS (IntKind.u8.wrap (w64 (48 + (Int.tmod (n : Int) 10))))))) rfl rfl ?_)
      exact s5_29 _ _ rfl
    have s5_27 : ∀ (E : Env) (b5_7 : Nat), E 2 = .string (⟨#[]⟩ : ByteArray) → E 18 = .string (byA (Lib.decDigits (n / 10))) → E 24 = .string (byteS (IntKind.u8.wrap (w64 (48 + (Int.tmod (n : Int) 10))))) → Φ 2 [true, true, true, true, true, true, true, true, true, false, false] E [⟨b5_7, [.int .u8 (IntKind.u8.wrap (w64 (48 + (Int.tmod (n : Int) 10))))], 5, false⟩] := by
     intro E b5_7 q2 q18 q24
     obtain ⟨E0, rfl⟩ : ∃ E0 : Env, E = (((E0.put (some 2) (.string (⟨#[]⟩ : ByteArray))).put (some 18) (.string (byA (Lib.decDigits (n / 10))))).put (some 24) (.string (byteS (IntKind.u8.wrap (w64 (48 + (Int.tmod (n : Int) 10))))))) := ⟨E, by rw [put_self q2, put_self q18, put_self q24]⟩
     refine stepR 1 _ _ _ [9] (by kernel_rfl) rfl ⟨?_, trivial⟩
     ·refine opR_op (d := (some 25)) rfl rfl rfl (st_bi (r := .string ((byA (Lib.decDigits (n / 10))) ++ (byteS (IntKind.u8.wrap (w64 (48 + (Int.tmod (n : Int) 10))))))) rfl rfl rfl (bi_sadd (sz_two (dg_size hn) (byteS_size _) (by decide))) ?_)
      exact s5_28 _ _ rfl rfl
    have s5_26 : ∀ (E : Env) (b5_7 : Nat), E 2 = .string (⟨#[]⟩ : ByteArray) → E 18 = .string (byA (Lib.decDigits (n / 10))) → E 23 = .slice (some ⟨b5_7, 0, none⟩) 1 1 → Φ 3 [true, true, true, true, true, true, true, true, false, false, false] E [⟨b5_7, [.int .u8 (IntKind.u8.wrap (w64 (48 + (Int.tmod (n : Int) 10))))], 5, false⟩] := by
     intro E b5_7 q2 q18 q23
     obtain ⟨E0, rfl⟩ : ∃ E0 : Env, E = (((E0.put (some 2) (.string (⟨#[]⟩ : ByteArray))).put (some 18) (.string (byA (Lib.decDigits (n / 10))))).put (some 23) (.slice (some ⟨b5_7, 0, none⟩) 1 1)) := ⟨E, by rw [put_self q2, put_self q18, put_self q23]⟩
     refine stepR 2 _ _ _ [8] (by kernel_rfl) rfl ⟨?_, trivial⟩
     ·refine opR_op (d := (some 24)) rfl rfl rfl (st_cvs (g := b5_7) (n := (IntKind.u8.wrap (w64 (48 + (Int.tmod (n : Int) 10))))) 0 rfl Tryz.underlying76 Tryz.underlying5 Tryz.underlying9 rfl rfl rfl rfl ?_)
      exact s5_27 _ _ rfl rfl rfl
    have s5_25 : ∀ (E : Env) (b5_7 : Nat), E 2 = .string (⟨#[]⟩ : ByteArray) → E 17 = .int .i64 (w64 (Int.tdiv (n : Int) 10)) → E 24 = .string (byteS (IntKind.u8.wrap (w64 (48 + (Int.tmod (n : Int) 10))))) → Φ 3 [true, true, false, true, true, true, true, true, true, false, false] E [⟨b5_7, [.int .u8 (IntKind.u8.wrap (w64 (48 + (Int.tmod (n : Int) 10))))], 5, false⟩] := by
     intro E b5_7 q2 q17 q24
     obtain ⟨E0, rfl⟩ : ∃ E0 : Env, E = (((E0.put (some 2) (.string (⟨#[]⟩ : ByteArray))).put (some 17) (.int .i64 (w64 (Int.tdiv (n : Int) 10)))).put (some 24) (.string (byteS (IntKind.u8.wrap (w64 (48 + (Int.tmod (n : Int) 10))))))) := ⟨E, by rw [put_self q2, put_self q17, put_self q24]⟩
     refine stepR 2 _ _ _ [2] (by kernel_rfl) rfl ⟨?_, trivial⟩
     ·refine opR_op (d := (some 18)) rfl rfl rfl (st_cf (dg_in (ih (n / 10) (by have := of_decide_eq_false h1; omega) (by omega)) (dg_arg hn)) Tryz.func22 rfl (by decide) rfl rfl rfl ?_)
      exact s5_27 _ _ rfl rfl rfl
    have s5_24 : ∀ (E : Env), E 2 = .string (⟨#[]⟩ : ByteArray) → E 18 = .string (byA (Lib.decDigits (n / 10))) → E 22 = .int .u8 (IntKind.u8.wrap (w64 (48 + (Int.tmod (n : Int) 10)))) → Φ 4 [true, true, true, true, true, true, true, false, false, false, false] E [] := by
     intro E q2 q18 q22
     obtain ⟨E0, rfl⟩ : ∃ E0 : Env, E = (((E0.put (some 2) (.string (⟨#[]⟩ : ByteArray))).put (some 18) (.string (byA (Lib.decDigits (n / 10))))).put (some 22) (.int .u8 (IntKind.u8.wrap (w64 (48 + (Int.tmod (n : Int) 10)))))) := ⟨E, by rw [put_self q2, put_self q18, put_self q22]⟩
     refine stepR 3 _ _ _ [7] (by kernel_rfl) rfl ⟨?_, trivial⟩
     ·refine opR_op (d := (some 23)) rfl rfl rfl (st_bs (us := [(0, .int .u8 (IntKind.u8.wrap (w64 (48 + (Int.tmod (n : Int) 10)))))]) (cs := [.int .u8 (IntKind.u8.wrap (w64 (48 + (Int.tmod (n : Int) 10))))]) rfl rfl (bs76_1_0 _) fun b5_7 => ?_)
      exact s5_26 _ _ rfl rfl rfl
    have s5_23 : ∀ (E : Env) (b5_7 : Nat), E 2 = .string (⟨#[]⟩ : ByteArray) → E 17 = .int .i64 (w64 (Int.tdiv (n : Int) 10)) → E 23 = .slice (some ⟨b5_7, 0, none⟩) 1 1 → Φ 4 [true, true, false, true, true, true, true, true, false, false, false] E [⟨b5_7, [.int .u8 (IntKind.u8.wrap (w64 (48 + (Int.tmod (n : Int) 10))))], 5, false⟩] := by
     intro E b5_7 q2 q17 q23
     obtain ⟨E0, rfl⟩ : ∃ E0 : Env, E = (((E0.put (some 2) (.string (⟨#[]⟩ : ByteArray))).put (some 17) (.int .i64 (w64 (Int.tdiv (n : Int) 10)))).put (some 23) (.slice (some ⟨b5_7, 0, none⟩) 1 1)) := ⟨E, by rw [put_self q2, put_self q17, put_self q23]⟩
     refine stepR 3 _ _ _ [2, 8] (by kernel_rfl) rfl ⟨?_, ?_, trivial⟩
     ·refine opR_op (d := (some 18)) rfl rfl rfl (st_cf (dg_in (ih (n / 10) (by have := of_decide_eq_false h1; omega) (by omega)) (dg_arg hn)) Tryz.func22 rfl (by decide) rfl rfl rfl ?_)
      exact s5_26 _ _ rfl rfl rfl
     ·refine opR_op (d := (some 24)) rfl rfl rfl (st_cvs (g := b5_7) (n := (IntKind.u8.wrap (w64 (48 + (Int.tmod (n : Int) 10))))) 0 rfl Tryz.underlying76 Tryz.underlying5 Tryz.underlying9 rfl rfl rfl rfl ?_)
      exact s5_25 _ _ rfl rfl rfl
    have s5_22 : ∀ (E : Env) (b5_7 : Nat), E 2 = .string (⟨#[]⟩ : ByteArray) → E 16 = .int .i64 (n : Int) → E 24 = .string (byteS (IntKind.u8.wrap (w64 (48 + (Int.tmod (n : Int) 10))))) → Φ 4 [true, false, false, true, true, true, true, true, true, false, false] E [⟨b5_7, [.int .u8 (IntKind.u8.wrap (w64 (48 + (Int.tmod (n : Int) 10))))], 5, false⟩] := by
     intro E b5_7 q2 q16 q24
     obtain ⟨E0, rfl⟩ : ∃ E0 : Env, E = (((E0.put (some 2) (.string (⟨#[]⟩ : ByteArray))).put (some 16) (.int .i64 (n : Int))).put (some 24) (.string (byteS (IntKind.u8.wrap (w64 (48 + (Int.tmod (n : Int) 10))))))) := ⟨E, by rw [put_self q2, put_self q16, put_self q24]⟩
     refine stepR 3 _ _ _ [1] (by kernel_rfl) rfl ⟨?_, trivial⟩
     ·refine opR_op (d := (some 17)) rfl rfl rfl (st_bi (r := .int .i64 (w64 (Int.tdiv (n : Int) 10))) rfl rfl rfl (bi_quo (by decide) rfl) ?_)
      exact s5_25 _ _ rfl rfl rfl
    have s5_21 : ∀ (E : Env), E 2 = .string (⟨#[]⟩ : ByteArray) → E 18 = .string (byA (Lib.decDigits (n / 10))) → E 21 = .int .i64 (w64 (48 + (Int.tmod (n : Int) 10))) → Φ 5 [true, true, true, true, true, true, false, false, false, false, false] E [] := by
     intro E q2 q18 q21
     obtain ⟨E0, rfl⟩ : ∃ E0 : Env, E = (((E0.put (some 2) (.string (⟨#[]⟩ : ByteArray))).put (some 18) (.string (byA (Lib.decDigits (n / 10))))).put (some 21) (.int .i64 (w64 (48 + (Int.tmod (n : Int) 10))))) := ⟨E, by rw [put_self q2, put_self q18, put_self q21]⟩
     refine stepR 4 _ _ _ [6] (by kernel_rfl) rfl ⟨?_, trivial⟩
     ·refine opR_op (d := (some 22)) rfl rfl rfl (st_cv_int (k := .u8) (a := (w64 (48 + (Int.tmod (n : Int) 10)))) (c := (IntKind.u8.wrap (w64 (48 + (Int.tmod (n : Int) 10))))) Tryz.underlying5 Tryz.underlying3 rfl rfl rfl ?_)
      exact s5_24 _ rfl rfl rfl
    have s5_20 : ∀ (E : Env), E 2 = .string (⟨#[]⟩ : ByteArray) → E 17 = .int .i64 (w64 (Int.tdiv (n : Int) 10)) → E 22 = .int .u8 (IntKind.u8.wrap (w64 (48 + (Int.tmod (n : Int) 10)))) → Φ 5 [true, true, false, true, true, true, true, false, false, false, false] E [] := by
     intro E q2 q17 q22
     obtain ⟨E0, rfl⟩ : ∃ E0 : Env, E = (((E0.put (some 2) (.string (⟨#[]⟩ : ByteArray))).put (some 17) (.int .i64 (w64 (Int.tdiv (n : Int) 10)))).put (some 22) (.int .u8 (IntKind.u8.wrap (w64 (48 + (Int.tmod (n : Int) 10)))))) := ⟨E, by rw [put_self q2, put_self q17, put_self q22]⟩
     refine stepR 4 _ _ _ [2, 7] (by kernel_rfl) rfl ⟨?_, ?_, trivial⟩
     ·refine opR_op (d := (some 18)) rfl rfl rfl (st_cf (dg_in (ih (n / 10) (by have := of_decide_eq_false h1; omega) (by omega)) (dg_arg hn)) Tryz.func22 rfl (by decide) rfl rfl rfl ?_)
      exact s5_24 _ rfl rfl rfl
     ·refine opR_op (d := (some 23)) rfl rfl rfl (st_bs (us := [(0, .int .u8 (IntKind.u8.wrap (w64 (48 + (Int.tmod (n : Int) 10)))))]) (cs := [.int .u8 (IntKind.u8.wrap (w64 (48 + (Int.tmod (n : Int) 10))))]) rfl rfl (bs76_1_0 _) fun b5_7 => ?_)
      exact s5_23 _ _ rfl rfl rfl
    have s5_19 : ∀ (E : Env) (b5_7 : Nat), E 2 = .string (⟨#[]⟩ : ByteArray) → E 16 = .int .i64 (n : Int) → E 23 = .slice (some ⟨b5_7, 0, none⟩) 1 1 → Φ 5 [true, false, false, true, true, true, true, true, false, false, false] E [⟨b5_7, [.int .u8 (IntKind.u8.wrap (w64 (48 + (Int.tmod (n : Int) 10))))], 5, false⟩] := by
     intro E b5_7 q2 q16 q23
     obtain ⟨E0, rfl⟩ : ∃ E0 : Env, E = (((E0.put (some 2) (.string (⟨#[]⟩ : ByteArray))).put (some 16) (.int .i64 (n : Int))).put (some 23) (.slice (some ⟨b5_7, 0, none⟩) 1 1)) := ⟨E, by rw [put_self q2, put_self q16, put_self q23]⟩
     refine stepR 4 _ _ _ [1, 8] (by kernel_rfl) rfl ⟨?_, ?_, trivial⟩
     ·refine opR_op (d := (some 17)) rfl rfl rfl (st_bi (r := .int .i64 (w64 (Int.tdiv (n : Int) 10))) rfl rfl rfl (bi_quo (by decide) rfl) ?_)
      exact s5_23 _ _ rfl rfl rfl
     ·refine opR_op (d := (some 24)) rfl rfl rfl (st_cvs (g := b5_7) (n := (IntKind.u8.wrap (w64 (48 + (Int.tmod (n : Int) 10))))) 0 rfl Tryz.underlying76 Tryz.underlying5 Tryz.underlying9 rfl rfl rfl rfl ?_)
      exact s5_22 _ _ rfl rfl rfl
    have s5_18 : ∀ (E : Env) (b5_7 : Nat), E 0 = .int .i64 (n : Int) → E 2 = .string (⟨#[]⟩ : ByteArray) → E 24 = .string (byteS (IntKind.u8.wrap (w64 (48 + (Int.tmod (n : Int) 10))))) → Φ 5 [false, false, false, true, true, true, true, true, true, false, false] E [⟨b5_7, [.int .u8 (IntKind.u8.wrap (w64 (48 + (Int.tmod (n : Int) 10))))], 5, false⟩] := by
     intro E b5_7 q0 q2 q24
     obtain ⟨E0, rfl⟩ : ∃ E0 : Env, E = (((E0.put (some 0) (.int .i64 (n : Int))).put (some 2) (.string (⟨#[]⟩ : ByteArray))).put (some 24) (.string (byteS (IntKind.u8.wrap (w64 (48 + (Int.tmod (n : Int) 10))))))) := ⟨E, by rw [put_self q0, put_self q2, put_self q24]⟩
     refine stepR 4 _ _ _ [0] (by kernel_rfl) rfl ⟨?_, trivial⟩
     ·refine opR_op (d := (some 16)) rfl rfl rfl (st_move (v := .int .i64 (n : Int)) rfl rfl ?_)
      exact s5_22 _ _ rfl rfl rfl
    have s5_17 : ∀ (E : Env), E 2 = .string (⟨#[]⟩ : ByteArray) → E 18 = .string (byA (Lib.decDigits (n / 10))) → E 20 = .int .i64 (Int.tmod (n : Int) 10) → Φ 6 [true, true, true, true, true, false, false, false, false, false, false] E [] := by
     intro E q2 q18 q20
     obtain ⟨E0, rfl⟩ : ∃ E0 : Env, E = (((E0.put (some 2) (.string (⟨#[]⟩ : ByteArray))).put (some 18) (.string (byA (Lib.decDigits (n / 10))))).put (some 20) (.int .i64 (Int.tmod (n : Int) 10))) := ⟨E, by rw [put_self q2, put_self q18, put_self q20]⟩
     refine stepR 5 _ _ _ [5] (by kernel_rfl) rfl ⟨?_, trivial⟩
     ·refine opR_op (d := (some 21)) rfl rfl rfl (st_bi (r := .int .i64 (w64 (48 + (Int.tmod (n : Int) 10)))) rfl rfl rfl (bi_add rfl) ?_)
      exact s5_21 _ rfl rfl rfl
    have s5_16 : ∀ (E : Env), E 2 = .string (⟨#[]⟩ : ByteArray) → E 17 = .int .i64 (w64 (Int.tdiv (n : Int) 10)) → E 21 = .int .i64 (w64 (48 + (Int.tmod (n : Int) 10))) → Φ 6 [true, true, false, true, true, true, false, false, false, false, false] E [] := by
     intro E q2 q17 q21
     obtain ⟨E0, rfl⟩ : ∃ E0 : Env, E = (((E0.put (some 2) (.string (⟨#[]⟩ : ByteArray))).put (some 17) (.int .i64 (w64 (Int.tdiv (n : Int) 10)))).put (some 21) (.int .i64 (w64 (48 + (Int.tmod (n : Int) 10))))) := ⟨E, by rw [put_self q2, put_self q17, put_self q21]⟩
     refine stepR 5 _ _ _ [2, 6] (by kernel_rfl) rfl ⟨?_, ?_, trivial⟩
     ·refine opR_op (d := (some 18)) rfl rfl rfl (st_cf (dg_in (ih (n / 10) (by have := of_decide_eq_false h1; omega) (by omega)) (dg_arg hn)) Tryz.func22 rfl (by decide) rfl rfl rfl ?_)
      exact s5_21 _ rfl rfl rfl
     ·refine opR_op (d := (some 22)) rfl rfl rfl (st_cv_int (k := .u8) (a := (w64 (48 + (Int.tmod (n : Int) 10)))) (c := (IntKind.u8.wrap (w64 (48 + (Int.tmod (n : Int) 10))))) Tryz.underlying5 Tryz.underlying3 rfl rfl rfl ?_)
      exact s5_20 _ rfl rfl rfl
    have s5_15 : ∀ (E : Env), E 2 = .string (⟨#[]⟩ : ByteArray) → E 16 = .int .i64 (n : Int) → E 22 = .int .u8 (IntKind.u8.wrap (w64 (48 + (Int.tmod (n : Int) 10)))) → Φ 6 [true, false, false, true, true, true, true, false, false, false, false] E [] := by
     intro E q2 q16 q22
     obtain ⟨E0, rfl⟩ : ∃ E0 : Env, E = (((E0.put (some 2) (.string (⟨#[]⟩ : ByteArray))).put (some 16) (.int .i64 (n : Int))).put (some 22) (.int .u8 (IntKind.u8.wrap (w64 (48 + (Int.tmod (n : Int) 10)))))) := ⟨E, by rw [put_self q2, put_self q16, put_self q22]⟩
     refine stepR 5 _ _ _ [1, 7] (by kernel_rfl) rfl ⟨?_, ?_, trivial⟩
     ·refine opR_op (d := (some 17)) rfl rfl rfl (st_bi (r := .int .i64 (w64 (Int.tdiv (n : Int) 10))) rfl rfl rfl (bi_quo (by decide) rfl) ?_)
      exact s5_20 _ rfl rfl rfl
     ·refine opR_op (d := (some 23)) rfl rfl rfl (st_bs (us := [(0, .int .u8 (IntKind.u8.wrap (w64 (48 + (Int.tmod (n : Int) 10)))))]) (cs := [.int .u8 (IntKind.u8.wrap (w64 (48 + (Int.tmod (n : Int) 10))))]) rfl rfl (bs76_1_0 _) fun b5_7 => ?_)
      exact s5_19 _ _ rfl rfl rfl
    have s5_14 : ∀ (E : Env) (b5_7 : Nat), E 0 = .int .i64 (n : Int) → E 2 = .string (⟨#[]⟩ : ByteArray) → E 23 = .slice (some ⟨b5_7, 0, none⟩) 1 1 → Φ 6 [false, false, false, true, true, true, true, true, false, false, false] E [⟨b5_7, [.int .u8 (IntKind.u8.wrap (w64 (48 + (Int.tmod (n : Int) 10))))], 5, false⟩] := by
     intro E b5_7 q0 q2 q23
     obtain ⟨E0, rfl⟩ : ∃ E0 : Env, E = (((E0.put (some 0) (.int .i64 (n : Int))).put (some 2) (.string (⟨#[]⟩ : ByteArray))).put (some 23) (.slice (some ⟨b5_7, 0, none⟩) 1 1)) := ⟨E, by rw [put_self q0, put_self q2, put_self q23]⟩
     refine stepR 5 _ _ _ [0, 8] (by kernel_rfl) rfl ⟨?_, ?_, trivial⟩
     ·refine opR_op (d := (some 16)) rfl rfl rfl (st_move (v := .int .i64 (n : Int)) rfl rfl ?_)
      exact s5_19 _ _ rfl rfl rfl
     ·refine opR_op (d := (some 24)) rfl rfl rfl (st_cvs (g := b5_7) (n := (IntKind.u8.wrap (w64 (48 + (Int.tmod (n : Int) 10))))) 0 rfl Tryz.underlying76 Tryz.underlying5 Tryz.underlying9 rfl rfl rfl rfl ?_)
      exact s5_18 _ _ rfl rfl rfl
    have s5_13 : ∀ (E : Env), E 2 = .string (⟨#[]⟩ : ByteArray) → E 18 = .string (byA (Lib.decDigits (n / 10))) → E 19 = .int .i64 (n : Int) → Φ 7 [true, true, true, true, false, false, false, false, false, false, false] E [] := by
     intro E q2 q18 q19
     obtain ⟨E0, rfl⟩ : ∃ E0 : Env, E = (((E0.put (some 2) (.string (⟨#[]⟩ : ByteArray))).put (some 18) (.string (byA (Lib.decDigits (n / 10))))).put (some 19) (.int .i64 (n : Int))) := ⟨E, by rw [put_self q2, put_self q18, put_self q19]⟩
     refine stepR 6 _ _ _ [4] (by kernel_rfl) rfl ⟨?_, trivial⟩
     ·refine opR_op (d := (some 20)) rfl rfl rfl (st_bi (r := .int .i64 (Int.tmod (n : Int) 10)) rfl rfl rfl (bi_rem (by decide) rfl) ?_)
      exact s5_17 _ rfl rfl rfl
    have s5_12 : ∀ (E : Env), E 2 = .string (⟨#[]⟩ : ByteArray) → E 17 = .int .i64 (w64 (Int.tdiv (n : Int) 10)) → E 20 = .int .i64 (Int.tmod (n : Int) 10) → Φ 7 [true, true, false, true, true, false, false, false, false, false, false] E [] := by
     intro E q2 q17 q20
     obtain ⟨E0, rfl⟩ : ∃ E0 : Env, E = (((E0.put (some 2) (.string (⟨#[]⟩ : ByteArray))).put (some 17) (.int .i64 (w64 (Int.tdiv (n : Int) 10)))).put (some 20) (.int .i64 (Int.tmod (n : Int) 10))) := ⟨E, by rw [put_self q2, put_self q17, put_self q20]⟩
     refine stepR 6 _ _ _ [2, 5] (by kernel_rfl) rfl ⟨?_, ?_, trivial⟩
     ·refine opR_op (d := (some 18)) rfl rfl rfl (st_cf (dg_in (ih (n / 10) (by have := of_decide_eq_false h1; omega) (by omega)) (dg_arg hn)) Tryz.func22 rfl (by decide) rfl rfl rfl ?_)
      exact s5_17 _ rfl rfl rfl
     ·refine opR_op (d := (some 21)) rfl rfl rfl (st_bi (r := .int .i64 (w64 (48 + (Int.tmod (n : Int) 10)))) rfl rfl rfl (bi_add rfl) ?_)
      exact s5_16 _ rfl rfl rfl
    have s5_11 : ∀ (E : Env), E 2 = .string (⟨#[]⟩ : ByteArray) → E 16 = .int .i64 (n : Int) → E 21 = .int .i64 (w64 (48 + (Int.tmod (n : Int) 10))) → Φ 7 [true, false, false, true, true, true, false, false, false, false, false] E [] := by
     intro E q2 q16 q21
     obtain ⟨E0, rfl⟩ : ∃ E0 : Env, E = (((E0.put (some 2) (.string (⟨#[]⟩ : ByteArray))).put (some 16) (.int .i64 (n : Int))).put (some 21) (.int .i64 (w64 (48 + (Int.tmod (n : Int) 10))))) := ⟨E, by rw [put_self q2, put_self q16, put_self q21]⟩
     refine stepR 6 _ _ _ [1, 6] (by kernel_rfl) rfl ⟨?_, ?_, trivial⟩
     ·refine opR_op (d := (some 17)) rfl rfl rfl (st_bi (r := .int .i64 (w64 (Int.tdiv (n : Int) 10))) rfl rfl rfl (bi_quo (by decide) rfl) ?_)
      exact s5_16 _ rfl rfl rfl
     ·refine opR_op (d := (some 22)) rfl rfl rfl (st_cv_int (k := .u8) (a := (w64 (48 + (Int.tmod (n : Int) 10)))) (c := (IntKind.u8.wrap (w64 (48 + (Int.tmod (n : Int) 10))))) Tryz.underlying5 Tryz.underlying3 rfl rfl rfl ?_)
      exact s5_15 _ rfl rfl rfl
    have s5_10 : ∀ (E : Env), E 0 = .int .i64 (n : Int) → E 2 = .string (⟨#[]⟩ : ByteArray) → E 22 = .int .u8 (IntKind.u8.wrap (w64 (48 + (Int.tmod (n : Int) 10)))) → Φ 7 [false, false, false, true, true, true, true, false, false, false, false] E [] := by
     intro E q0 q2 q22
     obtain ⟨E0, rfl⟩ : ∃ E0 : Env, E = (((E0.put (some 0) (.int .i64 (n : Int))).put (some 2) (.string (⟨#[]⟩ : ByteArray))).put (some 22) (.int .u8 (IntKind.u8.wrap (w64 (48 + (Int.tmod (n : Int) 10)))))) := ⟨E, by rw [put_self q0, put_self q2, put_self q22]⟩
     refine stepR 6 _ _ _ [0, 7] (by kernel_rfl) rfl ⟨?_, ?_, trivial⟩
     ·refine opR_op (d := (some 16)) rfl rfl rfl (st_move (v := .int .i64 (n : Int)) rfl rfl ?_)
      exact s5_15 _ rfl rfl rfl
     ·refine opR_op (d := (some 23)) rfl rfl rfl (st_bs (us := [(0, .int .u8 (IntKind.u8.wrap (w64 (48 + (Int.tmod (n : Int) 10)))))]) (cs := [.int .u8 (IntKind.u8.wrap (w64 (48 + (Int.tmod (n : Int) 10))))]) rfl rfl (bs76_1_0 _) fun b5_7 => ?_)
      exact s5_14 _ _ rfl rfl rfl
    have s5_9 : ∀ (E : Env), E 0 = .int .i64 (n : Int) → E 2 = .string (⟨#[]⟩ : ByteArray) → E 18 = .string (byA (Lib.decDigits (n / 10))) → Φ 8 [true, true, true, false, false, false, false, false, false, false, false] E [] := by
     intro E q0 q2 q18
     obtain ⟨E0, rfl⟩ : ∃ E0 : Env, E = (((E0.put (some 0) (.int .i64 (n : Int))).put (some 2) (.string (⟨#[]⟩ : ByteArray))).put (some 18) (.string (byA (Lib.decDigits (n / 10))))) := ⟨E, by rw [put_self q0, put_self q2, put_self q18]⟩
     refine stepR 7 _ _ _ [3] (by kernel_rfl) rfl ⟨?_, trivial⟩
     ·refine opR_op (d := (some 19)) rfl rfl rfl (st_move (v := .int .i64 (n : Int)) rfl rfl ?_)
      exact s5_13 _ rfl rfl rfl
    have s5_8 : ∀ (E : Env), E 2 = .string (⟨#[]⟩ : ByteArray) → E 17 = .int .i64 (w64 (Int.tdiv (n : Int) 10)) → E 19 = .int .i64 (n : Int) → Φ 8 [true, true, false, true, false, false, false, false, false, false, false] E [] := by
     intro E q2 q17 q19
     obtain ⟨E0, rfl⟩ : ∃ E0 : Env, E = (((E0.put (some 2) (.string (⟨#[]⟩ : ByteArray))).put (some 17) (.int .i64 (w64 (Int.tdiv (n : Int) 10)))).put (some 19) (.int .i64 (n : Int))) := ⟨E, by rw [put_self q2, put_self q17, put_self q19]⟩
     refine stepR 7 _ _ _ [2, 4] (by kernel_rfl) rfl ⟨?_, ?_, trivial⟩
     ·refine opR_op (d := (some 18)) rfl rfl rfl (st_cf (dg_in (ih (n / 10) (by have := of_decide_eq_false h1; omega) (by omega)) (dg_arg hn)) Tryz.func22 rfl (by decide) rfl rfl rfl ?_)
      exact s5_13 _ rfl rfl rfl
     ·refine opR_op (d := (some 20)) rfl rfl rfl (st_bi (r := .int .i64 (Int.tmod (n : Int) 10)) rfl rfl rfl (bi_rem (by decide) rfl) ?_)
      exact s5_12 _ rfl rfl rfl
    have s5_7 : ∀ (E : Env), E 2 = .string (⟨#[]⟩ : ByteArray) → E 16 = .int .i64 (n : Int) → E 20 = .int .i64 (Int.tmod (n : Int) 10) → Φ 8 [true, false, false, true, true, false, false, false, false, false, false] E [] := by
     intro E q2 q16 q20
     obtain ⟨E0, rfl⟩ : ∃ E0 : Env, E = (((E0.put (some 2) (.string (⟨#[]⟩ : ByteArray))).put (some 16) (.int .i64 (n : Int))).put (some 20) (.int .i64 (Int.tmod (n : Int) 10))) := ⟨E, by rw [put_self q2, put_self q16, put_self q20]⟩
     refine stepR 7 _ _ _ [1, 5] (by kernel_rfl) rfl ⟨?_, ?_, trivial⟩
     ·refine opR_op (d := (some 17)) rfl rfl rfl (st_bi (r := .int .i64 (w64 (Int.tdiv (n : Int) 10))) rfl rfl rfl (bi_quo (by decide) rfl) ?_)
      exact s5_12 _ rfl rfl rfl
     ·refine opR_op (d := (some 21)) rfl rfl rfl (st_bi (r := .int .i64 (w64 (48 + (Int.tmod (n : Int) 10)))) rfl rfl rfl (bi_add rfl) ?_)
      exact s5_11 _ rfl rfl rfl
    have s5_6 : ∀ (E : Env), E 0 = .int .i64 (n : Int) → E 2 = .string (⟨#[]⟩ : ByteArray) → E 21 = .int .i64 (w64 (48 + (Int.tmod (n : Int) 10))) → Φ 8 [false, false, false, true, true, true, false, false, false, false, false] E [] := by
     intro E q0 q2 q21
     obtain ⟨E0, rfl⟩ : ∃ E0 : Env, E = (((E0.put (some 0) (.int .i64 (n : Int))).put (some 2) (.string (⟨#[]⟩ : ByteArray))).put (some 21) (.int .i64 (w64 (48 + (Int.tmod (n : Int) 10))))) := ⟨E, by rw [put_self q0, put_self q2, put_self q21]⟩
     refine stepR 7 _ _ _ [0, 6] (by kernel_rfl) rfl ⟨?_, ?_, trivial⟩
     ·refine opR_op (d := (some 16)) rfl rfl rfl (st_move (v := .int .i64 (n : Int)) rfl rfl ?_)
      exact s5_11 _ rfl rfl rfl
     ·refine opR_op (d := (some 22)) rfl rfl rfl (st_cv_int (k := .u8) (a := (w64 (48 + (Int.tmod (n : Int) 10)))) (c := (IntKind.u8.wrap (w64 (48 + (Int.tmod (n : Int) 10))))) Tryz.underlying5 Tryz.underlying3 rfl rfl rfl ?_)
      exact s5_10 _ rfl rfl rfl
    have s5_5 : ∀ (E : Env), E 0 = .int .i64 (n : Int) → E 2 = .string (⟨#[]⟩ : ByteArray) → E 17 = .int .i64 (w64 (Int.tdiv (n : Int) 10)) → Φ 9 [true, true, false, false, false, false, false, false, false, false, false] E [] := by
     intro E q0 q2 q17
     obtain ⟨E0, rfl⟩ : ∃ E0 : Env, E = (((E0.put (some 0) (.int .i64 (n : Int))).put (some 2) (.string (⟨#[]⟩ : ByteArray))).put (some 17) (.int .i64 (w64 (Int.tdiv (n : Int) 10)))) := ⟨E, by rw [put_self q0, put_self q2, put_self q17]⟩
     refine stepR 8 _ _ _ [2, 3] (by kernel_rfl) rfl ⟨?_, ?_, trivial⟩
     ·refine opR_op (d := (some 18)) rfl rfl rfl (st_cf (dg_in (ih (n / 10) (by have := of_decide_eq_false h1; omega) (by omega)) (dg_arg hn)) Tryz.func22 rfl (by decide) rfl rfl rfl ?_)
      exact s5_9 _ rfl rfl rfl
     ·refine opR_op (d := (some 19)) rfl rfl rfl (st_move (v := .int .i64 (n : Int)) rfl rfl ?_)
      exact s5_8 _ rfl rfl rfl
    have s5_4 : ∀ (E : Env), E 2 = .string (⟨#[]⟩ : ByteArray) → E 16 = .int .i64 (n : Int) → E 19 = .int .i64 (n : Int) → Φ 9 [true, false, false, true, false, false, false, false, false, false, false] E [] := by
     intro E q2 q16 q19
     obtain ⟨E0, rfl⟩ : ∃ E0 : Env, E = (((E0.put (some 2) (.string (⟨#[]⟩ : ByteArray))).put (some 16) (.int .i64 (n : Int))).put (some 19) (.int .i64 (n : Int))) := ⟨E, by rw [put_self q2, put_self q16, put_self q19]⟩
     refine stepR 8 _ _ _ [1, 4] (by kernel_rfl) rfl ⟨?_, ?_, trivial⟩
     ·refine opR_op (d := (some 17)) rfl rfl rfl (st_bi (r := .int .i64 (w64 (Int.tdiv (n : Int) 10))) rfl rfl rfl (bi_quo (by decide) rfl) ?_)
      exact s5_8 _ rfl rfl rfl
     ·refine opR_op (d := (some 20)) rfl rfl rfl (st_bi (r := .int .i64 (Int.tmod (n : Int) 10)) rfl rfl rfl (bi_rem (by decide) rfl) ?_)
      exact s5_7 _ rfl rfl rfl
    have s5_3 : ∀ (E : Env), E 0 = .int .i64 (n : Int) → E 2 = .string (⟨#[]⟩ : ByteArray) → E 20 = .int .i64 (Int.tmod (n : Int) 10) → Φ 9 [false, false, false, true, true, false, false, false, false, false, false] E [] := by
     intro E q0 q2 q20
     obtain ⟨E0, rfl⟩ : ∃ E0 : Env, E = (((E0.put (some 0) (.int .i64 (n : Int))).put (some 2) (.string (⟨#[]⟩ : ByteArray))).put (some 20) (.int .i64 (Int.tmod (n : Int) 10))) := ⟨E, by rw [put_self q0, put_self q2, put_self q20]⟩
     refine stepR 8 _ _ _ [0, 5] (by kernel_rfl) rfl ⟨?_, ?_, trivial⟩
     ·refine opR_op (d := (some 16)) rfl rfl rfl (st_move (v := .int .i64 (n : Int)) rfl rfl ?_)
      exact s5_7 _ rfl rfl rfl
     ·refine opR_op (d := (some 21)) rfl rfl rfl (st_bi (r := .int .i64 (w64 (48 + (Int.tmod (n : Int) 10)))) rfl rfl rfl (bi_add rfl) ?_)
      exact s5_6 _ rfl rfl rfl
    have s5_2 : ∀ (E : Env), E 0 = .int .i64 (n : Int) → E 2 = .string (⟨#[]⟩ : ByteArray) → E 16 = .int .i64 (n : Int) → Φ 10 [true, false, false, false, false, false, false, false, false, false, false] E [] := by
     intro E q0 q2 q16
     obtain ⟨E0, rfl⟩ : ∃ E0 : Env, E = (((E0.put (some 0) (.int .i64 (n : Int))).put (some 2) (.string (⟨#[]⟩ : ByteArray))).put (some 16) (.int .i64 (n : Int))) := ⟨E, by rw [put_self q0, put_self q2, put_self q16]⟩
     refine stepR 9 _ _ _ [1, 3] (by kernel_rfl) rfl ⟨?_, ?_, trivial⟩
     ·refine opR_op (d := (some 17)) rfl rfl rfl (st_bi (r := .int .i64 (w64 (Int.tdiv (n : Int) 10))) rfl rfl rfl (bi_quo (by decide) rfl) ?_)
      exact s5_5 _ rfl rfl rfl
     ·refine opR_op (d := (some 19)) rfl rfl rfl (st_move (v := .int .i64 (n : Int)) rfl rfl ?_)
      exact s5_4 _ rfl rfl rfl
    have s5_1 : ∀ (E : Env), E 0 = .int .i64 (n : Int) → E 2 = .string (⟨#[]⟩ : ByteArray) → E 19 = .int .i64 (n : Int) → Φ 10 [false, false, false, true, false, false, false, false, false, false, false] E [] := by
     intro E q0 q2 q19
     obtain ⟨E0, rfl⟩ : ∃ E0 : Env, E = (((E0.put (some 0) (.int .i64 (n : Int))).put (some 2) (.string (⟨#[]⟩ : ByteArray))).put (some 19) (.int .i64 (n : Int))) := ⟨E, by rw [put_self q0, put_self q2, put_self q19]⟩
     refine stepR 9 _ _ _ [0, 4] (by kernel_rfl) rfl ⟨?_, ?_, trivial⟩
     ·refine opR_op (d := (some 16)) rfl rfl rfl (st_move (v := .int .i64 (n : Int)) rfl rfl ?_)
      exact s5_4 _ rfl rfl rfl
     ·refine opR_op (d := (some 20)) rfl rfl rfl (st_bi (r := .int .i64 (Int.tmod (n : Int) 10)) rfl rfl rfl (bi_rem (by decide) rfl) ?_)
      exact s5_3 _ rfl rfl rfl
    refine stepR 10 _ _ _ [0, 3] (by kernel_rfl) rfl ⟨?_, ?_, trivial⟩
    ·refine opR_op (d := (some 16)) rfl rfl rfl (st_move (v := .int .i64 (n : Int)) rfl rfl ?_)
     exact s5_2 _ rfl rfl rfl
    ·refine opR_op (d := (some 19)) rfl rfl rfl (st_move (v := .int .i64 (n : Int)) rfl rfl ?_)
     exact s5_1 _ rfl rfl rfl
   intro E b5_7 q2
   obtain ⟨E0, rfl⟩ : ∃ E0 : Env, E = (E0.put (some 2) (.string ((byA (Lib.decDigits (n / 10))) ++ (byteS (IntKind.u8.wrap (w64 (48 + (Int.tmod (n : Int) 10)))))))) := ⟨E, by rw [put_self q2]⟩
   refine doneR _ _ _ (by kernel_rfl) (ac_ret (fin_eq (v := .string ((byA (Lib.decDigits (n / 10))) ++ (byteS (IntKind.u8.wrap (w64 (48 + (Int.tmod (n : Int) 10))))))) (congrArg Value.string (dg_more h1)) (fin_ret (res_tmp rfl rfl))))
end Go.Proofs.YtalffjplbhelcaaGreatDoor
namespace Go.Proofs.YtalffjplbhelcaaGreatDoor
def rDigs (x : Int) : ByteArray := byA (Lib.decDigits x.toNat)
theorem c_rDigI (x : Int) (h : 0 ≤ x ∧ x < 1000000000000000000) : Gets Tryz.prog 22 #[.int .i64 x] (.string (rDigs x)) := by
  obtain ⟨n, rfl⟩ : ∃ n : Nat, x = (n : Int) := ⟨x.toNat, by omega⟩
  exact c_rDigits n (by omega)
theorem rDigs_sz {x : Int} (h : 0 ≤ x ∧ x < 1000000000000000000) : (rDigs x).size ≤ 18 := dg_len 17 x.toNat (Nat.lt_of_lt_of_le (show x.toNat < 1000000000000000000 by omega) (by decide))
end Go.Proofs.YtalffjplbhelcaaGreatDoor
namespace Go.Proofs.YtalffjplbhelcaaGreatDoor
open Go.RowKit
attribute [local irreducible] AC AR DWalk
end Go.Proofs.YtalffjplbhelcaaGreatDoor
namespace Go.Proofs.YtalffjplbhelcaaGreatDoor
end Go.Proofs.YtalffjplbhelcaaGreatDoor
namespace Go.Proofs.YtalffjplbhelcaaGreatDoor
open Go.RowKit
attribute [local irreducible] AC AR DWalk
end Go.Proofs.YtalffjplbhelcaaGreatDoor
namespace Go.Proofs.YtalffjplbhelcaaGreatDoor
open Go.RowKit
attribute [local irreducible] AC AR DWalk
end Go.Proofs.YtalffjplbhelcaaGreatDoor
namespace Go.Proofs.YtalffjplbhelcaaGreatDoor
open Go.RowKit
attribute [local irreducible] AC AR DWalk
end Go.Proofs.YtalffjplbhelcaaGreatDoor
namespace Go.Proofs.YtalffjplbhelcaaGreatDoor
open Go.RowKit
attribute [local irreducible] AC AR DWalk
end Go.Proofs.YtalffjplbhelcaaGreatDoor
namespace Go.Proofs.YtalffjplbhelcaaGreatDoor
open Go.RowKit
attribute [local irreducible] AC AR DWalk
end Go.Proofs.YtalffjplbhelcaaGreatDoor
namespace Go.Proofs.YtalffjplbhelcaaGreatDoor
open Go.RowKit
attribute [local irreducible] AC AR DWalk Step hDec5 hDec4 hDec3 hPick rDigs
def hGlE (i : Nat) (z : Int) : Glass := (⟨((⟨#[103]⟩ : ByteArray) ++ (rDigs (i : Int))), (⟨(hDec5 (hPick z 200000)), (hDec5 (hPick (w64 (Int.tdiv z 7)) 50000)), (⟨0, 0⟩ : Dec)⟩ : D3), (⟨(hDec5 (hPick (w64 (Int.tdiv z 11)) 3000)), (hDec5 (hPick (w64 (Int.tdiv z 13)) 9000)), (hDec3 (w64 ((hPick (w64 (Int.tdiv z 17)) 200000) - 1000)))⟩ : D3)⟩ : Glass)
set_option maxRecDepth 100000 in
theorem hg_end (N cap m ca i : Nat) (a aa : Option Addr) (H : List Box) (hi : i < 4) (hx : ¬ (i < N ∧ i < 3)) {Q : Exit → Env → List Box → Prop} {E : Env} {code : Code} {j : Nat} (hc0 : Tryz.f9.body.bind loopOf = some code) (q0 : E 0 = .slice a N cap) (q3 : E 3 = .slice aa m ca) (q4 : E 4 = .int .i64 (i : Int)) (K : ∀ E' : Env, E' 3 = .slice aa m ca → Q (.exit 0) E' H) : ARounds Tryz.prog 80 code Q (j + 1) E H := by
 rw [show Tryz.f9.body.bind loopOf = some _ from rfl] at hc0
 cases hc0
 obtain ⟨E0, rfl⟩ : ∃ E0 : Env, E = (((E0.put (some 0) (.slice a N cap)).put (some 3) (.slice aa m ca)).put (some 4) (.int .i64 (i : Int))) := ⟨E, by rw [put_self q0, put_self q3, put_self q4]⟩
 refine ar_round (aQ (aQ (aL (aM 24 (.int .i64 (i : Int)) rfl rfl (aM 25 (.slice a N cap) rfl rfl (ao 26 rfl rfl (st_ln (a := a) (m := N) (c := cap) rfl Tryz.underlying22 rfl (aB 27 (.bool (decide ((i : Int) < (N : Int)))) rfl rfl rfl (bi_lss rfl) (aM 28 (.bool (decide ((i : Int) < (N : Int)))) rfl rfl ?_)))))))))
 refine bool_split (decide ((i : Int) < (N : Int))) (fun h1 => ?_) (fun h1 => ?_)
 ·refine ar_gd (d := (some 29)) (by show ((decide ((i : Int) < (N : Int))) == true) = true; rw [h1]; rfl) rfl (st_move (v := .int .i64 (i : Int)) rfl rfl (ar_gd (d := (some 30)) (by show ((decide ((i : Int) < (N : Int))) == true) = true; rw [h1]; rfl) rfl (st_bi (r := .bool (decide ((i : Int) < 3))) rfl rfl rfl (bi_lss rfl) (ao 31 rfl rfl (st_pkt' (b := decide ((i : Int) < (N : Int))) (v := .bool (decide ((i : Int) < 3))) h1 rfl rfl rfl (aN ?_))))))
  refine bool_split (decide ((i : Int) < 3)) (fun h2 => ?_) (fun h2 => ?_)
  ·exact absurd ⟨Int.ofNat_lt.1 (of_decide_eq_true h1), by have := of_decide_eq_true h2; omega⟩ hx
  ·refine ac_else' (b := decide ((i : Int) < 3)) h2 rfl (ac_exit ?_)
   exact K _ rfl
 ·refine aK 29 (by show ((decide ((i : Int) < (N : Int))) == true) = false; rw [h1]; rfl) rfl (aK 30 (by show ((decide ((i : Int) < (N : Int))) == true) = false; rw [h1]; rfl) rfl (ao 31 rfl rfl (st_pkf' (b := decide ((i : Int) < (N : Int))) (v := .bool false) h1 rfl rfl rfl (aN (ac_else rfl (ac_exit ?_))))))
  exact K _ rfl
def hGlF (x : Nat → Int) (N : Nat) : Nat → Nat → List Glass
 | 0, _ => []
 | r + 1, i => bif decide (i < N) then hGlE i (x i) :: hGlF x N r (i + 1) else []
def hGl0 : List Glass := [(⟨(⟨#[99, 114, 111, 119, 110]⟩ : ByteArray), (⟨(hDec5 103961), (hDec5 23179), (hDec5 101047)⟩ : D3), (⟨(hDec5 600), (hDec5 2002), (hDec4 1035607)⟩ : D3)⟩ : Glass), (⟨(⟨#[102, 108, 105, 110, 116]⟩ : ByteArray), (⟨(hDec5 173760), (hDec5 31375), (hDec5 189878)⟩ : D3), (⟨(hDec5 1319), (hDec5 6231), (hDec4 1552363)⟩ : D3)⟩ : Glass)]
def hGl (N : Nat) (x : Nat → Int) : List Glass := hGl0 ++ hGlF x N 3 0
def GlP (l : List Glass) : Post := fun u N => ∃ (m ca : Nat) (aa : Option Addr), u = .slice aa m ca ∧ m = l.length ∧ Row 29 13 m (flatG l) u N
set_option maxRecDepth 100000 in
set_option maxHeartbeats 2000000 in
theorem c_glasses0 (a : Option Addr) (cap : Nat) (x : Nat → Int) : Gives Tryz.prog 9 #[.slice a 0 cap] [] (GlP (hGl 0 x)) := by
 refine gives_fin Tryz.func9 rfl rfl rfl rfl (aQ (aL (aA 2 (.slice none 0 0) rfl rfl (aN (aQ (aL (aC 5 (c_hDec5 103961) Tryz.func42 ⟨rfl, by decide⟩ rfl rfl (aC 6 (c_hDec5 23179) Tryz.func42 ⟨rfl, by decide⟩ rfl rfl (aC 7 (c_hDec5 101047) Tryz.func42 ⟨rfl, by decide⟩ rfl rfl ?_)))))))))
 refine ao 8 rfl rfl (st_bd (us := [(0, .agg #[.int .i64 ((hDec5 103961).c), .int .i64 ((hDec5 103961).scale)]), (1, .agg #[.int .i64 ((hDec5 23179).c), .int .i64 ((hDec5 23179).scale)]), (2, .agg #[.int .i64 ((hDec5 101047).c), .int .i64 ((hDec5 101047).scale)])]) (v := .agg #[.int .i64 ((hDec5 103961).c), .int .i64 ((hDec5 103961).scale), .int .i64 ((hDec5 23179).c), .int .i64 ((hDec5 23179).scale), .int .i64 ((hDec5 101047).c), .int .i64 ((hDec5 101047).scale)]) rfl rfl (bd27_0a_1a_2a _ _ _ _ _ _) (aC 9 (c_hDec5 600) Tryz.func42 ⟨rfl, by decide⟩ rfl rfl (aC 10 (c_hDec5 2002) Tryz.func42 ⟨rfl, by decide⟩ rfl rfl (aC 11 (c_hDec4 1035607) Tryz.func42 ⟨rfl, by decide⟩ rfl rfl ?_))))
 refine ao 12 rfl rfl (st_bd (us := [(0, .agg #[.int .i64 ((hDec5 600).c), .int .i64 ((hDec5 600).scale)]), (1, .agg #[.int .i64 ((hDec5 2002).c), .int .i64 ((hDec5 2002).scale)]), (2, .agg #[.int .i64 ((hDec4 1035607).c), .int .i64 ((hDec4 1035607).scale)])]) (v := .agg #[.int .i64 ((hDec5 600).c), .int .i64 ((hDec5 600).scale), .int .i64 ((hDec5 2002).c), .int .i64 ((hDec5 2002).scale), .int .i64 ((hDec4 1035607).c), .int .i64 ((hDec4 1035607).scale)]) rfl rfl (bd27_0a_1a_2a _ _ _ _ _ _) ?_)
 refine ao 13 rfl rfl (st_bd (us := [(0, .string (⟨#[99, 114, 111, 119, 110]⟩ : ByteArray)), (1, .agg #[.int .i64 ((hDec5 103961).c), .int .i64 ((hDec5 103961).scale), .int .i64 ((hDec5 23179).c), .int .i64 ((hDec5 23179).scale), .int .i64 ((hDec5 101047).c), .int .i64 ((hDec5 101047).scale)]), (2, .agg #[.int .i64 ((hDec5 600).c), .int .i64 ((hDec5 600).scale), .int .i64 ((hDec5 2002).c), .int .i64 ((hDec5 2002).scale), .int .i64 ((hDec4 1035607).c), .int .i64 ((hDec4 1035607).scale)])]) (v := .agg #[.string (⟨#[99, 114, 111, 119, 110]⟩ : ByteArray), .int .i64 ((hDec5 103961).c), .int .i64 ((hDec5 103961).scale), .int .i64 ((hDec5 23179).c), .int .i64 ((hDec5 23179).scale), .int .i64 ((hDec5 101047).c), .int .i64 ((hDec5 101047).scale), .int .i64 ((hDec5 600).c), .int .i64 ((hDec5 600).scale), .int .i64 ((hDec5 2002).c), .int .i64 ((hDec5 2002).scale), .int .i64 ((hDec4 1035607).c), .int .i64 ((hDec4 1035607).scale)]) rfl rfl (bd29_0_1a_2a _ _ _ _ _ _ _ _ _ _ _ _ _) ?_)
 refine aC 14 (c_hDec5 173760) Tryz.func42 ⟨rfl, by decide⟩ rfl rfl (aC 15 (c_hDec5 31375) Tryz.func42 ⟨rfl, by decide⟩ rfl rfl (aC 16 (c_hDec5 189878) Tryz.func42 ⟨rfl, by decide⟩ rfl rfl ?_))
 refine ao 17 rfl rfl (st_bd (us := [(0, .agg #[.int .i64 ((hDec5 173760).c), .int .i64 ((hDec5 173760).scale)]), (1, .agg #[.int .i64 ((hDec5 31375).c), .int .i64 ((hDec5 31375).scale)]), (2, .agg #[.int .i64 ((hDec5 189878).c), .int .i64 ((hDec5 189878).scale)])]) (v := .agg #[.int .i64 ((hDec5 173760).c), .int .i64 ((hDec5 173760).scale), .int .i64 ((hDec5 31375).c), .int .i64 ((hDec5 31375).scale), .int .i64 ((hDec5 189878).c), .int .i64 ((hDec5 189878).scale)]) rfl rfl (bd27_0a_1a_2a _ _ _ _ _ _) (aC 18 (c_hDec5 1319) Tryz.func42 ⟨rfl, by decide⟩ rfl rfl (aC 19 (c_hDec5 6231) Tryz.func42 ⟨rfl, by decide⟩ rfl rfl ?_)))
 refine aC 20 (c_hDec4 1552363) Tryz.func42 ⟨rfl, by decide⟩ rfl rfl (ao 21 rfl rfl (st_bd (us := [(0, .agg #[.int .i64 ((hDec5 1319).c), .int .i64 ((hDec5 1319).scale)]), (1, .agg #[.int .i64 ((hDec5 6231).c), .int .i64 ((hDec5 6231).scale)]), (2, .agg #[.int .i64 ((hDec4 1552363).c), .int .i64 ((hDec4 1552363).scale)])]) (v := .agg #[.int .i64 ((hDec5 1319).c), .int .i64 ((hDec5 1319).scale), .int .i64 ((hDec5 6231).c), .int .i64 ((hDec5 6231).scale), .int .i64 ((hDec4 1552363).c), .int .i64 ((hDec4 1552363).scale)]) rfl rfl (bd27_0a_1a_2a _ _ _ _ _ _) ?_))
 refine ao 22 rfl rfl (st_bd (us := [(0, .string (⟨#[102, 108, 105, 110, 116]⟩ : ByteArray)), (1, .agg #[.int .i64 ((hDec5 173760).c), .int .i64 ((hDec5 173760).scale), .int .i64 ((hDec5 31375).c), .int .i64 ((hDec5 31375).scale), .int .i64 ((hDec5 189878).c), .int .i64 ((hDec5 189878).scale)]), (2, .agg #[.int .i64 ((hDec5 1319).c), .int .i64 ((hDec5 1319).scale), .int .i64 ((hDec5 6231).c), .int .i64 ((hDec5 6231).scale), .int .i64 ((hDec4 1552363).c), .int .i64 ((hDec4 1552363).scale)])]) (v := .agg #[.string (⟨#[102, 108, 105, 110, 116]⟩ : ByteArray), .int .i64 ((hDec5 173760).c), .int .i64 ((hDec5 173760).scale), .int .i64 ((hDec5 31375).c), .int .i64 ((hDec5 31375).scale), .int .i64 ((hDec5 189878).c), .int .i64 ((hDec5 189878).scale), .int .i64 ((hDec5 1319).c), .int .i64 ((hDec5 1319).scale), .int .i64 ((hDec5 6231).c), .int .i64 ((hDec5 6231).scale), .int .i64 ((hDec4 1552363).c), .int .i64 ((hDec4 1552363).scale)]) rfl rfl (bd29_0_1a_2a _ _ _ _ _ _ _ _ _ _ _ _ _) ?_)
 refine ao 23 rfl rfl (st_bs (us := [(0, .agg #[.string (⟨#[99, 114, 111, 119, 110]⟩ : ByteArray), .int .i64 ((hDec5 103961).c), .int .i64 ((hDec5 103961).scale), .int .i64 ((hDec5 23179).c), .int .i64 ((hDec5 23179).scale), .int .i64 ((hDec5 101047).c), .int .i64 ((hDec5 101047).scale), .int .i64 ((hDec5 600).c), .int .i64 ((hDec5 600).scale), .int .i64 ((hDec5 2002).c), .int .i64 ((hDec5 2002).scale), .int .i64 ((hDec4 1035607).c), .int .i64 ((hDec4 1035607).scale)]), (1, .agg #[.string (⟨#[102, 108, 105, 110, 116]⟩ : ByteArray), .int .i64 ((hDec5 173760).c), .int .i64 ((hDec5 173760).scale), .int .i64 ((hDec5 31375).c), .int .i64 ((hDec5 31375).scale), .int .i64 ((hDec5 189878).c), .int .i64 ((hDec5 189878).scale), .int .i64 ((hDec5 1319).c), .int .i64 ((hDec5 1319).scale), .int .i64 ((hDec5 6231).c), .int .i64 ((hDec5 6231).scale), .int .i64 ((hDec4 1552363).c), .int .i64 ((hDec4 1552363).scale)])]) (cs := [.string (⟨#[99, 114, 111, 119, 110]⟩ : ByteArray), .int .i64 ((hDec5 103961).c), .int .i64 ((hDec5 103961).scale), .int .i64 ((hDec5 23179).c), .int .i64 ((hDec5 23179).scale), .int .i64 ((hDec5 101047).c), .int .i64 ((hDec5 101047).scale), .int .i64 ((hDec5 600).c), .int .i64 ((hDec5 600).scale), .int .i64 ((hDec5 2002).c), .int .i64 ((hDec5 2002).scale), .int .i64 ((hDec4 1035607).c), .int .i64 ((hDec4 1035607).scale), .string (⟨#[102, 108, 105, 110, 116]⟩ : ByteArray), .int .i64 ((hDec5 173760).c), .int .i64 ((hDec5 173760).scale), .int .i64 ((hDec5 31375).c), .int .i64 ((hDec5 31375).scale), .int .i64 ((hDec5 189878).c), .int .i64 ((hDec5 189878).scale), .int .i64 ((hDec5 1319).c), .int .i64 ((hDec5 1319).scale), .int .i64 ((hDec5 6231).c), .int .i64 ((hDec5 6231).scale), .int .i64 ((hDec4 1552363).c), .int .i64 ((hDec4 1552363).scale)]) rfl rfl (bs23_2_0a_1a _ _ _ _ _ _ _ _ _ _ _ _ _ _ _ _ _ _ _ _ _ _ _ _ _ _) fun g0 => ?_)
 refine aA 3 (.slice (some ⟨g0, 0, none⟩) 2 2) rfl rfl (aN (aQ (aQ (aL (aA 4 (.int .i64 0) rfl rfl (aN (ac_block ?_)))))))
 have hR0 : Row 29 13 2 (flatG hGl0) (.slice (some ⟨g0, 0, none⟩) 2 2) [⟨g0, [.string (⟨#[99, 114, 111, 119, 110]⟩ : ByteArray), .int .i64 ((hDec5 103961).c), .int .i64 ((hDec5 103961).scale), .int .i64 ((hDec5 23179).c), .int .i64 ((hDec5 23179).scale), .int .i64 ((hDec5 101047).c), .int .i64 ((hDec5 101047).scale), .int .i64 ((hDec5 600).c), .int .i64 ((hDec5 600).scale), .int .i64 ((hDec5 2002).c), .int .i64 ((hDec5 2002).scale), .int .i64 ((hDec4 1035607).c), .int .i64 ((hDec4 1035607).scale), .string (⟨#[102, 108, 105, 110, 116]⟩ : ByteArray), .int .i64 ((hDec5 173760).c), .int .i64 ((hDec5 173760).scale), .int .i64 ((hDec5 31375).c), .int .i64 ((hDec5 31375).scale), .int .i64 ((hDec5 189878).c), .int .i64 ((hDec5 189878).scale), .int .i64 ((hDec5 1319).c), .int .i64 ((hDec5 1319).scale), .int .i64 ((hDec5 6231).c), .int .i64 ((hDec5 6231).scale), .int .i64 ((hDec4 1552363).c), .int .i64 ((hDec4 1552363).scale)], 29, false⟩] := .inr ⟨g0, 2, [], rfl, rfl, rfl, rfl, by decide, by decide⟩
 refine ac_rounds 4 ?_
 refine hg_end 0 cap 2 2 0 a _ _ (by omega) (by omega) rfl rfl rfl rfl (fun E9 f3 => ?_)
 obtain ⟨m9, ca9, aa9, NL9, hN9, f3, hm9, hR9⟩ : ∃ (m9 ca9 : Nat) (aa9 : Option Addr) (NL9 : List Box), [⟨g0, [.string (⟨#[99, 114, 111, 119, 110]⟩ : ByteArray), .int .i64 ((hDec5 103961).c), .int .i64 ((hDec5 103961).scale), .int .i64 ((hDec5 23179).c), .int .i64 ((hDec5 23179).scale), .int .i64 ((hDec5 101047).c), .int .i64 ((hDec5 101047).scale), .int .i64 ((hDec5 600).c), .int .i64 ((hDec5 600).scale), .int .i64 ((hDec5 2002).c), .int .i64 ((hDec5 2002).scale), .int .i64 ((hDec4 1035607).c), .int .i64 ((hDec4 1035607).scale), .string (⟨#[102, 108, 105, 110, 116]⟩ : ByteArray), .int .i64 ((hDec5 173760).c), .int .i64 ((hDec5 173760).scale), .int .i64 ((hDec5 31375).c), .int .i64 ((hDec5 31375).scale), .int .i64 ((hDec5 189878).c), .int .i64 ((hDec5 189878).scale), .int .i64 ((hDec5 1319).c), .int .i64 ((hDec5 1319).scale), .int .i64 ((hDec5 6231).c), .int .i64 ((hDec5 6231).scale), .int .i64 ((hDec4 1552363).c), .int .i64 ((hDec4 1552363).scale)], 29, false⟩] = NL9 ∧ E9 3 = .slice aa9 m9 ca9 ∧ m9 = (hGl 0 x).length ∧ Row 29 13 m9 (flatG (hGl 0 x)) (.slice aa9 m9 ca9) NL9 := ⟨2, 2, _, _, rfl, f3, rfl, hR0⟩
 rw [hN9]
 obtain ⟨E0, rfl⟩ : ∃ E0 : Env, E9 = (E0.put (some 3) (.slice aa9 m9 ca9)) := ⟨E9, by rw [put_self f3]⟩
 refine aQ (aL (aM 79 (.slice aa9 m9 ca9) rfl rfl (aA 2 (.slice aa9 m9 ca9) rfl rfl (aN (ac_ret ?_)))))
 exact fing_ret (N := NL9) ⟨m9, ca9, aa9, rfl, hm9, hR9⟩ (List.Sublist.refl _) (rowFreeG hR9) (res_tmp rfl rfl)
end Go.Proofs.YtalffjplbhelcaaGreatDoor
namespace Go.Proofs.YtalffjplbhelcaaGreatDoor
open Go.ChangeShapes Go.WideShapes Go.ChangeAt Go.RowKit
end Go.Proofs.YtalffjplbhelcaaGreatDoor
namespace Go.Proofs.YtalffjplbhelcaaGreatDoor
open Go.RowKit
end Go.Proofs.YtalffjplbhelcaaGreatDoor
namespace Go.Proofs.YtalffjplbhelcaaGreatDoor
open Go.RowKit
end Go.Proofs.YtalffjplbhelcaaGreatDoor
namespace Go.Proofs.YtalffjplbhelcaaGreatDoor
open Go.RowKit
theorem gl_open {L : List Glass} (h2 : 2 ≤ L.length) {v : Value} {N : List Box} (h : GlP L v N) : ∃ (g ca : Nat) (rest : List Value), v = .slice (some ⟨g, 0, none⟩) L.length ca ∧ N = [⟨g, flatG L ++ rest, 29, false⟩] ∧ L.length ≤ ca := by
  obtain ⟨m, ca, aa, rfl, rfl, hr⟩ := h
  rcases hr with ⟨h0, _⟩ | ⟨g, cap, rest, hv, hN, _, _, hc, _⟩
  · omega
  · cases hv
    exact ⟨g, ca, rest, rfl, hN, hc⟩
end Go.Proofs.YtalffjplbhelcaaGreatDoor
namespace Go.Proofs.YtalffjplbhelcaaGreatDoor
def low : Nat → Nat → List UInt8
  | _, 0 => []
  | u, s + 1 => low (u / 10) s ++ [UInt8.ofNat (48 + u % 10)]
theorem low_len : ∀ (s u : Nat), (low u s).length = s
  | 0, _ => rfl
  | s + 1, u => by rw [low, List.length_append, low_len s]; rfl
theorem pad_split : ∀ (s u : Nat), List.replicate (s + 1 - (Lib.decDigits u).length) 48 ++ Lib.decDigits u = Lib.decDigits (u / 10 ^ s) ++ low u s
  | 0, u => by
    have h := List.length_pos_iff.2 (decDig_all u).2.2
    rw [show 0 + 1 - (Lib.decDigits u).length = 0 by omega, Nat.pow_zero, Nat.div_one, low, List.append_nil]; rfl
  | s + 1, u => by
    have ih := pad_split s (u / 10)
    have e1 : u / 10 ^ (s + 1) = u / 10 / 10 ^ s := by rw [Nat.pow_succ, Nat.mul_comm, Nat.div_div_eq_div_mul]
    rw [low, e1, ← List.append_assoc, ← ih]
    by_cases h : u < 10
    · have e0 : u / 10 = 0 := Nat.div_eq_of_lt h
      have d0 : Lib.decDigits 0 = [48] := by rw [Lib.decDigits, dif_pos (by decide)]; rfl
      have du : Lib.decDigits u = [UInt8.ofNat (48 + u % 10)] := by rw [Lib.decDigits, dif_pos h, Nat.mod_eq_of_lt h]
      rw [e0, d0, du]
      show List.replicate (s + 1) 48 ++ _ = (List.replicate s 48 ++ [48]) ++ _
      rw [← List.replicate_succ']
    · have du : Lib.decDigits u = Lib.decDigits (u / 10) ++ [UInt8.ofNat (48 + u % 10)] := by conv => lhs; rw [Lib.decDigits, dif_neg h]
      rw [du, List.length_append, List.length_singleton, show s + 1 + 1 - ((Lib.decDigits (u / 10)).length + 1) = s + 1 - (Lib.decDigits (u / 10)).length by omega, List.append_assoc]
theorem dig_gt (h : Nat) : decide (((Lib.decDigits h).length : Int) > 5) = decide ((h : Int) > 99999) := by
  obtain ⟨d1, d2, d3⟩ := decDig_all h
  by_cases hh : h < 100000
  · have := dg_len 4 h hh
    rw [decide_eq_false (by omega), decide_eq_false (by omega)]
  · rw [decide_eq_true (show (h : Int) > 99999 by omega), decide_eq_true]
    have hl := dval_lt (Lib.decDigits h) 0 0 d1 (by decide)
    rw [d2, Nat.zero_add] at hl
    by_cases h5 : (Lib.decDigits h).length ≤ 5
    · have : 10 ^ (Lib.decDigits h).length ≤ 10 ^ 5 := Nat.pow_le_pow_right (by decide) h5
      omega
    · omega
theorem print_parts {d : Dec} (h : decRight d = true) : decPrint d = bif decide (((d.c.natAbs / 10 ^ d.scale.toNat : Nat) : Int) > 99999) then (⟨#[]⟩ : ByteArray) else byA (sgnL (decide (d.c < 0)) ++ (Lib.decDigits (d.c.natAbs / 10 ^ d.scale.toNat) ++ ptL (low d.c.natAbs d.scale.toNat))) := by
  have hb := dr_bounds h
  have hL : zer d ++ ito d = byA (List.replicate (padN d).toNat 48 ++ Lib.decDigits d.c.natAbs) := by rw [zer_L, ito_L h, byA_app]
  have hp : (padN d).toNat = d.scale.toNat + 1 - (Lib.decDigits d.c.natAbs).length := by
    have := padN_eq h
    have e : (ito d).size = (Lib.decDigits d.c.natAbs).length := by rw [ito_L h]; rfl
    rw [this, e]
    omega
  rw [hp, pad_split] at hL
  obtain ⟨p1, p2⟩ := pad_all h
  have hform := decPrint_form d
  rw [h, cond_true, p1, hL] at hform
  generalize hW : Lib.decDigits (d.c.natAbs / 10 ^ d.scale.toNat) = W at *
  have hF : (low d.c.natAbs d.scale.toNat).length = d.scale.toNat := low_len _ _
  generalize low d.c.natAbs d.scale.toNat = F at *
  have hsz : ((byA (W ++ F)).size : Int) - d.scale = (W.length : Int) := by
    show (((W ++ F).length : Nat) : Int) - d.scale = _
    rw [List.length_append]
    omega
  have e3 : ((byA (W ++ F)).size : Int) = ((W.length + F.length : Nat) : Int) := by show (((W ++ F).length : Nat) : Int) = _; rw [List.length_append]
  rw [hsz, e3] at hform
  have e1 := sub_rest (s := byA (W ++ F)) (i := 0) (w := W) (post := F) rfl
  have e2 := sub_rest (s := byA (W ++ F)) (i := W.length) (w := F) (post := []) (by rw [List.append_nil]; show (W ++ F).drop W.length = F; rw [List.drop_left])
  rw [Nat.zero_add] at e1
  rw [hform, show subS (byA (W ++ F)) 0 (W.length : Int) = byA W from e1, e2, sEq_nil, show (byA W).size = W.length from rfl, ← hW, dig_gt]
  unfold prForm
  cases decide (((d.c.natAbs / 10 ^ d.scale.toNat : Nat) : Int) > 99999)
  · simp only [cond_false]
    cases decide (d.c < 0) <;> cases hF' : F <;> simp only [List.isEmpty_nil, List.isEmpty_cons, cond_true, cond_false, sgnL, ptL, List.nil_append, List.append_nil, List.cons_append]
    · rw [show (⟨#[46]⟩ : ByteArray) = byA [46] from rfl, byA_app, byA_app, List.append_assoc]; rfl
    · rw [show (⟨#[45]⟩ : ByteArray) = byA [45] from rfl, byA_app]; rfl
    · rw [show (⟨#[46]⟩ : ByteArray) = byA [46] from rfl, show (⟨#[45]⟩ : ByteArray) = byA [45] from rfl, byA_app, byA_app, byA_app]
      simp
  · rfl
end Go.Proofs.YtalffjplbhelcaaGreatDoor
