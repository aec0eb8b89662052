import Derived.Test.YtbaihncnbejjbaaPNum2
import Derived.Test.YtbaihncnbejjbaaPPick
import Derived.Test.YtbaihncnbejjbaaLNumSigns
import Derived.Test.YtbaihncnbejjbaaLNumKnown
import Derived.Test.YtbaihncnbejjbaaLNumTells
import Derived.Test.YtbaihncnbejjbaaLNumEncloses
set_option linter.unusedVariables false
set_option linter.unusedSimpArgs false
namespace Go.Proofs.Ytbaihncnbejjbaa

theorem lT {c x : Bool} (h : c = true) (k : x = true) : (bif c then x else false) = true := by rw [h, k]; rfl
theorem lF {c x : Bool} (h : c = false) (k : x = true) : (bif c then false else x) = true := by rw [h, k]; rfl
theorem lC {c x y : Bool} (h : c = true → x = true) (k : c = false → y = true) : (bif c then x else y) = true := by
  cases c
  · exact k rfl
  · exact h rfl
theorem dT {p : Prop} [Decidable p] (h : p) : decide p = true := decide_eq_true h
theorem dF {p : Prop} [Decidable p] (h : ¬ p) : decide p = false := decide_eq_false h
theorem known1_true : known1 = true := by decide
theorem lawNumKnown_true : lawNumKnown = true := by decide +kernel
theorem lawNumTells_true (a b : Int) (up raw : Bool) : lawNumTells a b up raw = true := by
  unfold lawNumTells
  simp only [rMul_eq, rDiv_eq, rRoot_eq, rFloor_eq, rIn_eq, known1_true, beq_self_eq_true, cond_true]
  cases raw <;> simp only [cond_true, cond_false, Bool.cond_eq_ite, ite_self]
theorem tm_bound (n : Int) : -8388608 < n.tmod 8388608 ∧ n.tmod 8388608 < 8388608 :=
  ⟨Int.lt_tmod_of_pos n (by omega), Int.tmod_lt_of_pos n (by omega)⟩
theorem div_bound {n c : Int} (hc : 0 < c) {M : Int} (h1 : -(M * c) ≤ n) (h2 : n ≤ M * c) : -M ≤ dn n c ∧ dn n c ≤ M ∧ -M ≤ upq n c ∧ upq n c ≤ M := by
  have k : ∀ m : Int, -(M * c) ≤ m → m ≤ M * c → -M ≤ m / c ∧ m / c ≤ M := fun m h1 h2 =>
    ⟨Int.le_ediv_of_mul_le hc (by rw [Int.neg_mul]; omega), Int.ediv_le_of_le_mul hc h2⟩
  have k1 := k n h1 h2
  have k2 := k (-n) (by omega) (by omega)
  unfold dn upq
  omega
theorem up_dn {n c : Int} (hc : 0 < c) : upq n c = if n.tmod c = 0 then dn n c else dn n c + 1 := by
  rw [upq_eq hc]
  simp only [tmod_zero_iff]
  rfl
theorem up_dn_eq {n c : Int} (hc : 0 < c) : (upq n c == dn n c) = (n.tmod c == 0) := by
  rw [up_dn hc]
  by_cases h : n.tmod c = 0
  · simp [h]
  · have : (n.tmod c == 0) = false := by simpa using h
    rw [this, if_neg h]
    simpa using (by omega : ¬ dn n c + 1 = dn n c)
theorem rq_f (a b : Int) : rq a b false = dn a b := rfl
theorem rq_t (a b : Int) : rq a b true = upq a b := rfl
theorem rootc_is {a : Int} (h0 : 0 ≤ a) (h1 : a ≤ 1073741824) : a * 65536 ≤ rootc a * rootc a ∧ rootc a - rootf a ≤ 1 ∧ (rootc a == rootf a) = (rootf a * rootf a == a * 65536) := by
  obtain ⟨k1, k2, k3⟩ := rootf_is h0 h1
  unfold rootc
  split
  · rename_i h
    have e : (rootf a * rootf a == a * 65536) = false := by simpa using (by omega : ¬ rootf a * rootf a = a * 65536)
    rw [e]
    refine ⟨by omega, by omega, ?_⟩
    simpa using (by omega : ¬ rootf a + 1 = rootf a)
  · rename_i h
    have e : (rootf a * rootf a == a * 65536) = true := by simpa using (by omega : rootf a * rootf a = a * 65536)
    rw [e]
    exact ⟨by omega, by omega, by simp⟩
theorem lawNumEncloses_true (a b : Int) : lawNumEncloses a b = true := by
  have hA := tm_bound (hNum a)
  have hB := tm_bound (hNum b)
  unfold lawNumEncloses lawNumEncloses_e0 lawNumEncloses_e1 lawNumEncloses_e2 lawNumEncloses_e3 lawNumEncloses_e4 lawNumEncloses_e5
  generalize (hNum a).tmod 8388608 = A at hA ⊢
  generalize (hNum b).tmod 8388608 = B at hB ⊢
  have hm := mul_bound (a := A) (b := B) (A := 8388608) (B := 8388608) (by omega) (by omega)
  have hd := div_bound (n := A * B) (c := 65536) (M := 1073741824) (by omega) (by omega) (by omega)
  rw [numMul_spec (a := A) (b := B) (by omega) (by omega), numMul_spec (a := A) (b := B) (by omega) (by omega), rq_f, rq_t, told_in (by omega), told_in (by omega)]
  have h1 := dn_le (a := A * B) (b := 65536) (by omega)
  have h2 := upq_ge (a := A * B) (b := 65536) (by omega)
  have h3 := up_dn_eq (n := A * B) (c := 65536) (by omega)
  have h4 := up_dn (n := A * B) (c := 65536) (by omega)
  generalize dn (A * B) 65536 = lo at *
  generalize upq (A * B) 65536 = hi at *
  have h5 : lo ≤ hi ∧ hi ≤ lo + 1 := by split at h4 <;> omega
  -- the roots' part
  have hroot : ∀ m : Int, m = max A (-A) → (bif (numRoot m false).snd then bif (numRoot m true).snd then bif decide (w64 ((numRoot m false).fst * (numRoot m false).fst) ≤ w64 (m * 65536)) then
      bif decide (w64 ((numRoot m true).fst * (numRoot m true).fst) ≥ w64 (m * 65536)) then bif decide (w64 ((numRoot m true).fst - (numRoot m false).fst) ≤ 1) then
      ((numRoot m true).fst == (numRoot m false).fst) == (w64 ((numRoot m false).fst * (numRoot m false).fst) == w64 (m * 65536)) else false else false else false else false else false) = true := by
    intro m hm
    have h0 : 0 ≤ m := by omega
    have h1 : m ≤ 8388608 := by omega
    rw [numRoot_spec h0 (by omega), numRoot_spec h0 (by omega)]
    simp only [cond_true, cond_false]
    have k1 := rootf_is h0 (by omega)
    have k2 := rootc_is h0 (by omega)
    have k3 := rootf_le h0 (by omega)
    have k4 : rootc m ≤ rootf m + 1 ∧ rootf m ≤ rootc m := by
      unfold rootc
      split <;> omega
    have k5 := mul_bound (a := rootf m) (b := rootf m) (A := 8388608) (B := 8388608) (by omega) (by omega)
    have k6 := mul_bound (a := rootc m) (b := rootc m) (A := 8388609) (B := 8388609) (by omega) (by omega)
    have e1 := w64_of (n := rootf m * rootf m) (by omega) (by omega)
    have e2 := w64_of (n := rootc m * rootc m) (by omega) (by omega)
    have e3 := w64_of (n := m * 65536) (by omega) (by omega)
    have e4 := w64_of (n := rootc m - rootf m) (by omega) (by omega)
    simp only [e1, e2, e3, e4]
    refine lT (dT k1.2.1) (lT (dT k2.1) (lT (dT k2.2.1) ?_))
    rw [k2.2.2]
    simp
  have hdiv : ∀ (n c : Int), 0 < c → (c = max B (-B)) → 512 < c → (n = bif decide (B < 0) then -(A * 65536) else A * 65536) → ∀ K : Bool, K = true →
      (bif (numDiv A B false).snd then bif (numDiv A B true).snd then bif decide (w64 ((numDiv A B false).fst * c) > n) then false else bif decide (w64 ((numDiv A B true).fst * c) < n) then false else
        bif decide (w64 ((numDiv A B true).fst - (numDiv A B false).fst) > 1) then false else bif ((numDiv A B true).fst == (numDiv A B false).fst) != (n.tmod c == 0) then false else K else false else false) = true := by
    intro n c hc hcB h512 hn K hK
    have hn' : -549755813888 ≤ n ∧ n ≤ 549755813888 := by
      rw [hn]
      cases decide (B < 0) <;> simp only [cond_true, cond_false] <;> omega
    have hd := div_bound (n := n) (c := c) (M := 1073741824) hc (by omega) (by omega)
    have e : ∀ up, dq A B up = rq n c up := by
      intro up
      unfold dq
      have hcB' : c = bif decide (B < 0) then -B else B := by
        rw [hcB]
        by_cases h : B < 0
        · rw [dT h]; simp only [cond_true]; omega
        · rw [dF h]; simp only [cond_false]; omega
      rw [← hn, ← hcB']
    rw [numDiv_spec (a := A) (b := B) (by omega) (by omega) (by omega), numDiv_spec (a := A) (b := B) (by omega) (by omega) (by omega), e, e, rq_f, rq_t, told_in (by omega), told_in (by omega)]
    have g1 := dn_le (a := n) (b := c) hc
    have g2 := upq_ge (a := n) (b := c) hc
    have g3 := up_dn_eq (n := n) (c := c) hc
    have g4 := up_dn (n := n) (c := c) hc
    have g5 := mul_bound (a := dn n c) (b := c) (A := 1073741824) (B := 8388608) (by omega) (by omega)
    have g6 := mul_bound (a := upq n c) (b := c) (A := 1073741824) (B := 8388608) (by omega) (by omega)
    have g7 : dn n c ≤ upq n c ∧ upq n c ≤ dn n c + 1 := by split at g4 <;> omega
    refine lT rfl (lT rfl (lF (dF ?_) (lF (dF ?_) (lF (dF ?_) (lF ?_ hK)))))
    · show ¬ w64 (dn n c * c) > n
      rw [w64_of (by omega) (by omega)]; omega
    · show ¬ w64 (upq n c * c) < n
      rw [w64_of (by omega) (by omega)]; omega
    · show ¬ w64 (upq n c - dn n c) > 1
      rw [w64_of (by omega) (by omega)]; omega
    · show ((upq n c == dn n c) != (n.tmod c == 0)) = false
      rw [g3]; simp
  refine lT known1_true (lT rfl (lT rfl (lF (dF ?_) (lF (dF ?_) (lF (dF ?_) (lF (dF ?_) (lF ?_ (lC (fun hc => lC (fun hb => ?_) (fun hb => ?_)) (fun hc => ?_)))))))))
  · show ¬ w64 (lo * 65536) > w64 (A * B)
    rw [w64_of (by omega) (by omega), w64_of (by omega) (by omega)]; omega
  · show ¬ w64 (hi * 65536) < w64 (A * B)
    rw [w64_of (by omega) (by omega), w64_of (by omega) (by omega)]; omega
  · show ¬ w64 (hi - lo) > 1
    rw [w64_of (by omega) (by omega)]; omega
  · show ¬ w64 (hi - lo) < 0
    rw [w64_of (by omega) (by omega)]; omega
  · show ((hi == lo) != ((w64 (A * B)).tmod 65536 == 0)) = false
    rw [w64_of (by omega) (by omega), h3]; simp
  · have hb' := of_decide_eq_true hb
    have eB : w64 (0 - B) = -B := by rw [w64_of (by omega) (by omega)]; omega
    have eA : w64 (0 - A) = -A := by rw [w64_of (by omega) (by omega)]; omega
    have eN : w64 (0 - w64 (A * 65536)) = -(A * 65536) := by rw [w64_of (n := A * 65536) (by omega) (by omega), w64_of (by omega) (by omega)]; omega
    simp only [eB] at hc
    simp only [eB, eA, eN]
    have hc' := of_decide_eq_true hc
    exact hdiv _ _ (by omega) rfl (by omega) (by rw [hb]; rfl) _ (hroot _ rfl)
  · have hb' := of_decide_eq_false hb
    have eB : w64 (0 - B) = -B := by rw [w64_of (by omega) (by omega)]; omega
    have eA : w64 (0 - A) = -A := by rw [w64_of (by omega) (by omega)]; omega
    have eN : w64 (A * 65536) = A * 65536 := by rw [w64_of (n := A * 65536) (by omega) (by omega)]
    simp only [eB] at hc
    simp only [eB, eA, eN]
    have hc' := of_decide_eq_true hc
    exact hdiv _ _ (by omega) rfl (by omega) (by rw [hb]; rfl) _ (hroot _ rfl)
  · have eA : w64 (0 - A) = -A := by rw [w64_of (by omega) (by omega)]; omega
    simp only [eA]
    exact hroot _ rfl
theorem rq_neg (n c : Int) (up : Bool) : rq (-n) c (!up) = -(rq n c up) := by
  unfold rq upq dn
  cases up
  · simp
  · simp
theorem told_neg (q : Int) : told (-q) = (-(told q).1, (told q).2) := by
  have e : numIn (-q) = numIn q := by
    rw [Bool.eq_iff_iff, numIn_iff, numIn_iff]
    omega
  unfold told
  rw [e]
  cases numIn q <;> rfl
theorem dq_neg (a : Int) {b : Int} (hb : b ≠ 0) (up : Bool) : dq a (-b) (!up) = -(dq a b up) := by
  unfold dq
  by_cases h : b < 0
  · rw [dT h, dF (by omega : ¬ -b < 0)]
    simp only [cond_true, cond_false]
    rw [← rq_neg, Int.neg_neg]
  · rw [dF h, dT (by omega : -b < 0)]
    simp only [cond_true, cond_false]
    rw [← rq_neg, Int.neg_neg]
theorem rq_one (a : Int) (up : Bool) : rq (a * 65536) 65536 up = a := by
  have h1 := dn_le (a := a * 65536) (b := 65536) (by omega)
  have h2 := upq_ge (a := a * 65536) (b := 65536) (by omega)
  cases up
  · rw [rq_f]; omega
  · rw [rq_t]; omega
theorem told_bound (q : Int) : -1073741824 ≤ (told q).1 ∧ (told q).1 ≤ 1073741824 := by
  unfold told
  cases h : numIn q
  · simp only [cond_false]; omega
  · exact (numIn_iff q).1 h
theorem lawNumSigns_true (a b : Int) (up : Bool) : lawNumSigns a b up = true := by
  have hA := tm_bound (hNum a)
  have hB := tm_bound (hNum b)
  unfold lawNumSigns lawNumSigns_e0 lawNumSigns_e1 lawNumSigns_e2 lawNumSigns_e3 lawNumSigns_e4
  generalize (hNum a).tmod 8388608 = A at hA ⊢
  generalize (hNum b).tmod 8388608 = B at hB ⊢
  have hm := mul_bound (a := A) (b := B) (A := 8388608) (B := 8388608) (by omega) (by omega)
  have hd := div_bound (n := A * B) (c := 65536) (M := 1073741824) (by omega) (by omega) (by omega)
  have eA : w64 (0 - A) = -A := by rw [w64_of (by omega) (by omega)]; omega
  have eB : w64 (0 - B) = -B := by rw [w64_of (by omega) (by omega)]; omega
  rw [eA, eB]
  rw [numMul_spec (a := A) (b := B) (by omega) (by omega), numMul_spec (a := -A) (b := B) (by omega) (by omega), numMul_spec (a := B) (b := A) (by omega) (by omega), numMul_spec (a := A) (b := 65536) (by omega) (by omega), numDiv_spec (a := A) (b := 65536) (by omega) (by omega) (by omega), Int.neg_mul, rq_neg, Int.mul_comm B A]
  have eD : dq A 65536 up = A := rq_one A up
  rw [eD, rq_one, told_in (q := A) (by omega)]
  have hq : -1073741824 ≤ rq (A * B) 65536 up ∧ rq (A * B) 65536 up ≤ 1073741824 := by
    cases up
    · rw [rq_f]; omega
    · rw [rq_t]; omega
  generalize rq (A * B) 65536 up = q at hq ⊢
  rw [told_in (q := q) (by omega), told_in (q := -q) (by omega)]
  have e1 : w64 (0 - -q) = q := by rw [w64_of (by omega) (by omega)]; omega
  refine lT known1_true (lT rfl (lT rfl (lT rfl (lF ?_ (lF ?_ (lT ?_ (lC (fun h => lT ?_ ?_) (fun h => ?_))))))))
  · show (q != w64 (0 - -q)) = false
    rw [e1]; simp
  · show (q != q) = false
    simp
  · by_cases h0 : B = 0
    · rw [numDiv_out (a := A) (b := B) (by omega), numDiv_out (a := A) (b := -B) (by omega)]
      rfl
    · rw [numDiv_spec (a := A) (b := B) (by omega) (by omega) h0, numDiv_spec (a := A) (b := -B) (by omega) (by omega) (by omega), dq_neg A h0, told_neg]
      simp
  · by_cases h0 : B = 0
    · rw [numDiv_out (a := A) (b := B) (by omega)] at h
      exact absurd h (by simp)
    · rw [numDiv_spec (a := A) (b := B) (by omega) (by omega) h0, numDiv_spec (a := A) (b := -B) (by omega) (by omega) (by omega), dq_neg A h0, told_neg]
      have := told_bound (dq A B up)
      show ((told (dq A B up)).1 == w64 (0 - -(told (dq A B up)).1)) = true
      rw [w64_of (by omega) (by omega)]
      simp
  · simp
  · simp
end Go.Proofs.Ytbaihncnbejjbaa
