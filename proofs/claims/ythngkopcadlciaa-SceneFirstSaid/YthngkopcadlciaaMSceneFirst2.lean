import Derived.Test.YthngkopcadlciaaMSceneFirst1
set_option linter.unusedVariables false
set_option linter.unusedSimpArgs false
namespace Go.Proofs.Ythngkopcadlciaa
theorem w64_of {n : Int} (h : -9223372036854775808 ≤ n) (h' : n ≤ 9223372036854775807) : w64 n = n := w64_id ⟨h, h'⟩
theorem numIn_iff (n : Int) : numIn n = true ↔ -1073741824 ≤ n ∧ n ≤ 1073741824 := by
  unfold numIn
  by_cases h : n ≥ -1073741824 <;> simp [h] <;> omega
theorem rIn_eq (n : Int) : rIn n = numIn n := rfl
theorem tmod_lt_neg (a : Int) {b : Int} (hb : b < 0) : a.tmod b < -b ∧ b < a.tmod b := by
  have h1 := Int.tmod_lt_of_pos a (b := -b) (by omega)
  have h2 := Int.lt_tmod_of_pos a (b := -b) (by omega)
  rw [Int.tmod_neg] at h1 h2
  omega
theorem tmod_sign (a b : Int) : (0 ≤ a → 0 ≤ a.tmod b) ∧ (a ≤ 0 → a.tmod b ≤ 0) := by
  refine ⟨fun h => Int.tmod_nonneg b h, fun h => ?_⟩
  have := Int.tmod_nonneg b (a := -a) (by omega)
  rw [Int.neg_tmod] at this
  omega
theorem tdiv_abs (a : Int) {b : Int} (hb : b ≠ 0) (h : -9223372036854775808 < a ∧ a ≤ 9223372036854775807) : -9223372036854775807 ≤ a.tdiv b ∧ a.tdiv b ≤ 9223372036854775807 := by
  have h1 : (a.tdiv b).natAbs ≤ a.natAbs := by
    rw [Int.natAbs_tdiv]
    exact Nat.div_le_self _ _
  omega
theorem numFloor_spec (a : Int) {b : Int} (hb : b ≠ 0) (h : -9223372036854775808 < a ∧ a ≤ 9223372036854775807) :
    (0 < b → numFloor a b = a / b) ∧ (b < 0 → numFloor a b = (-a) / (-b)) := by
  have ht := tdiv_abs a hb h
  have he := Int.mul_tdiv_add_tmod a b
  have hs := tmod_sign a b
  have hne : (b == 0) = false := by simpa using hb
  have h0 : ∀ b' : Int, 0 < b' → ∀ a' q r : Int, b' * q + r = a' → 0 ≤ r → r < b' → a' / b' = q := fun b' hb' a' q r h1 h2 h3 =>
    ((Int.ediv_emod_unique (r := r) (q := q) hb').2 ⟨by omega, h2, h3⟩).1
  have hw1 : w64 (a.tdiv b) = a.tdiv b := w64_of (by omega) (by omega)
  have hw2 : w64 (a.tdiv b - 1) = a.tdiv b - 1 := w64_of (by omega) (by omega)
  unfold numFloor numFloor_e0
  rw [hne, hw1, hw2]
  simp only [cond_false]
  refine ⟨fun hp => ?_, fun hn => ?_⟩
  · have hl := Int.tmod_lt_of_pos a hp
    have hl' := Int.lt_tmod_of_pos a hp
    by_cases hr : a.tmod b = 0
    · simp only [hr, bne_self_eq_false, cond_false]
      exact (h0 b hp a _ _ he (by omega) (by omega)).symm
    · have hr' : (a.tmod b != 0) = true := by simpa using hr
      have hbn : decide (b < 0) = false := decide_eq_false (by omega)
      rw [hr', hbn]
      simp only [cond_true]
      by_cases ha : a < 0
      · simp only [ha, decide_true, Bool.bne_false, cond_true]
        refine (h0 b hp a (a.tdiv b - 1) (a.tmod b + b) ?_ (by omega) (by omega)).symm
        rw [Int.mul_sub, Int.mul_one]
        omega
      · simp only [ha, decide_false, bne_self_eq_false, cond_false]
        exact (h0 b hp a _ _ he (hs.1 (by omega)) hl).symm
  · obtain ⟨hl, hl'⟩ := tmod_lt_neg a hn
    have hpn : 0 < -b := by omega
    by_cases hr : a.tmod b = 0
    · simp only [hr, bne_self_eq_false, cond_false]
      refine (h0 (-b) hpn (-a) _ (-(a.tmod b)) ?_ (by omega) (by omega)).symm
      rw [Int.neg_mul]
      omega
    · have hr' : (a.tmod b != 0) = true := by simpa using hr
      have hbn : decide (b < 0) = true := decide_eq_true hn
      rw [hr', hbn]
      simp only [cond_true]
      by_cases ha : a < 0
      · simp only [ha, decide_true, bne_self_eq_false, cond_false]
        refine (h0 (-b) hpn (-a) _ (-(a.tmod b)) ?_ (by have := hs.2 (by omega); omega) (by omega)).symm
        rw [Int.neg_mul]
        omega
      · simp only [ha, decide_false, Bool.bne_true, Bool.not_false, cond_true]
        refine (h0 (-b) hpn (-a) (a.tdiv b - 1) (-(a.tmod b) - b) ?_ (by have := hs.1 (by omega); omega) (by have := hs.1 (by omega); omega)).symm
        rw [Int.mul_sub, Int.neg_mul, Int.mul_one]
        omega
theorem sign_of_tmod {a b : Int} (hr : ¬ a.tmod b = 0) : decide (a.tmod b < 0) = decide (a < 0) := by
  have hs := tmod_sign a b
  by_cases h : a < 0
  · have := hs.2 (by omega)
    rw [decide_eq_true h, decide_eq_true (by omega)]
  · have := hs.1 (by omega)
    rw [decide_eq_false h, decide_eq_false (by omega)]
theorem rFloor_eq (a b : Int) : rFloor a b = numFloor a b := by
  unfold rFloor rFloor_e0 numFloor numFloor_e0
  cases hb : b == 0
  · simp only [cond_false]
    by_cases hr : a.tmod b = 0
    · simp only [hr, bne_self_eq_false, cond_false]
    · rw [sign_of_tmod hr]
  · simp only [cond_true]
def dn (a b : Int) : Int := a / b
def upq (a b : Int) : Int := -((-a) / b)
def rq (a b : Int) (up : Bool) : Int := bif up then upq a b else dn a b
theorem dn_le {a b : Int} (hb : 0 < b) : dn a b * b ≤ a ∧ a < (dn a b + 1) * b := by
  unfold dn
  have h1 := Int.mul_ediv_add_emod a b
  have h2 := Int.emod_nonneg a (Int.ne_of_gt hb)
  have h3 := Int.emod_lt_of_pos a hb
  rw [Int.add_mul, Int.one_mul, Int.mul_comm]
  omega
theorem upq_ge {a b : Int} (hb : 0 < b) : a ≤ upq a b * b ∧ (upq a b - 1) * b < a := by
  have := dn_le (a := -a) hb
  unfold dn at this
  unfold upq
  rw [Int.sub_mul, Int.neg_mul, Int.one_mul]
  rw [Int.add_mul, Int.one_mul] at this
  omega
theorem upq_eq {a b : Int} (hb : 0 < b) : upq a b = if a % b = 0 then a / b else a / b + 1 := by
  have h1 := Int.mul_ediv_add_emod a b
  have h2 := Int.emod_nonneg a (Int.ne_of_gt hb)
  have h3 := Int.emod_lt_of_pos a hb
  unfold upq
  split
  · rename_i h
    have : (-a) / b = -(a / b) := ((Int.ediv_emod_unique (r := 0) hb).2 ⟨by rw [Int.mul_neg]; omega, by omega, hb⟩).1
    omega
  · rename_i h
    have : (-a) / b = -(a / b) - 1 := ((Int.ediv_emod_unique (r := b - a % b) hb).2 ⟨by rw [Int.mul_sub, Int.mul_neg, Int.mul_one]; omega, by omega, by omega⟩).1
    omega
def told (q : Int) : Int × Bool := bif numIn q then (q, true) else (0, false)
theorem tmod_zero_iff (a : Int) (b : Int) : a.tmod b = 0 ↔ a % b = 0 := by
  rw [← Int.dvd_iff_tmod_eq_zero, Int.dvd_iff_emod_eq_zero]
theorem numRounded_pos (a : Int) {b : Int} (hb : 0 < b) (h : -9223372036854775808 < a ∧ a < 9223372036854775807) (up : Bool) : numRounded a b up = told (rq a b up) := by
  have hf := (numFloor_spec a (Int.ne_of_gt hb) (by omega)).1 hb
  have hq : -9223372036854775808 ≤ a / b ∧ a / b < 9223372036854775807 := by
    have h1 := tdiv_abs a (Int.ne_of_gt hb) (by omega)
    have h2 := dn_le (a := a) hb
    unfold dn at h2
    constructor
    · have : -9223372036854775808 * b ≤ a := by
        have : -9223372036854775808 * b ≤ -9223372036854775808 * 1 := Int.mul_le_mul_of_nonpos_left (by omega) (by omega)
        omega
      refine Decidable.byContradiction fun hc => ?_
      have : (a / b + 1) * b ≤ -9223372036854775808 * b := Int.mul_le_mul_of_nonneg_right (by omega) (by omega)
      omega
    · refine Decidable.byContradiction fun hc => ?_
      have : 9223372036854775807 * 1 ≤ a / b * b := Int.mul_le_mul (by omega) (by omega) (by omega) (by omega)
      omega
  unfold numRounded numRounded_e0 rq
  rw [hf]
  have hw : w64 (a / b + 1) = a / b + 1 := w64_of (by omega) (by omega)
  rw [hw]
  cases up
  · rfl
  · simp only [cond_true]
    rw [upq_eq hb]
    by_cases hz : a % b = 0
    · have h1 := (tmod_zero_iff a b).2 hz
      simp only [h1, bne_self_eq_false, cond_false, hz, if_true]
      rfl
    · have h1 : ¬ a.tmod b = 0 := fun e => hz ((tmod_zero_iff a b).1 e)
      have h2 : (a.tmod b != 0) = true := by simpa using h1
      simp only [h2, cond_true, hz, if_false]
      rfl
end Go.Proofs.Ythngkopcadlciaa
namespace Go.Proofs.Ythngkopcadlciaa
theorem mul_bound {a b A B : Int} (ha : -A ≤ a ∧ a ≤ A) (hb : -B ≤ b ∧ b ≤ B) : -(A * B) ≤ a * b ∧ a * b ≤ A * B := by
  have h : (a * b).natAbs ≤ (A * B).natAbs := by
    rw [Int.natAbs_mul, Int.natAbs_mul]
    exact Nat.mul_le_mul (by omega) (by omega)
  have h2 : 0 ≤ A * B := Int.mul_nonneg (by omega) (by omega)
  omega
theorem told_in {q : Int} (h : -1073741824 ≤ q ∧ q ≤ 1073741824) : told q = (q, true) := by
  unfold told
  rw [(numIn_iff q).2 h]; rfl
theorem told_true {q x : Int} (h : told q = (x, true)) : q = x ∧ -1073741824 ≤ q ∧ q ≤ 1073741824 := by
  unfold told at h
  cases hq : numIn q <;> rw [hq] at h <;> simp at h
  exact ⟨h, (numIn_iff q).1 hq⟩
theorem told_snd (q : Int) : (told q).2 = numIn q := by
  unfold told
  cases numIn q <;> rfl
theorem told_fst {q : Int} (h : (told q).2 = true) : (told q).1 = q := by
  rw [told_snd] at h
  unfold told
  rw [h]; rfl
theorem numRounded_neg (a : Int) {b : Int} (hb : b < 0) (hb' : -9223372036854775808 < b) (h : -9223372036854775808 < a ∧ a ≤ 9223372036854775807) (up : Bool) : numRounded a b up = numRounded (-a) (-b) up := by
  have h1 := (numFloor_spec a (Int.ne_of_lt hb) h).2 hb
  have h2 := (numFloor_spec (-a) (b := -b) (by omega) (by omega)).1 (by omega)
  have h3 : numFloor a b = numFloor (-a) (-b) := by rw [h1, h2]
  have h4 : (a.tmod b != 0) = ((-a).tmod (-b) != 0) := by
    rw [Int.tmod_neg, Int.neg_tmod]
    by_cases hz : a.tmod b = 0
    · rw [hz]; rfl
    · have e1 : (a.tmod b != 0) = true := by simpa using hz
      have e2 : (-(a.tmod b) != 0) = true := by simpa using hz
      rw [e1, e2]
  unfold numRounded numRounded_e0
  rw [h3, h4]
theorem numMul_spec {a b : Int} (ha : -1073741824 ≤ a ∧ a ≤ 1073741824) (hb : -1073741824 ≤ b ∧ b ≤ 1073741824) (up : Bool) : numMul a b up = told (rq (a * b) 65536 up) := by
  have h := mul_bound ha hb
  unfold numMul
  rw [(numIn_iff a).2 ha, (numIn_iff b).2 hb, w64_of (by omega) (by omega), numRounded_pos (a * b) (b := 65536) (by omega) (by omega)]
  rfl
theorem numMul_out {a b : Int} (h : ¬ ((-1073741824 ≤ a ∧ a ≤ 1073741824) ∧ (-1073741824 ≤ b ∧ b ≤ 1073741824))) (up : Bool) : numMul a b up = (0, false) := by
  unfold numMul
  cases ha : numIn a
  · rfl
  · cases hb : numIn b
    · rfl
    · exact absurd ⟨(numIn_iff a).1 ha, (numIn_iff b).1 hb⟩ h
def dq (a b : Int) (up : Bool) : Int := rq (bif decide (b < 0) then -(a * 65536) else a * 65536) (bif decide (b < 0) then -b else b) up
theorem numDiv_spec {a b : Int} (ha : -1073741824 ≤ a ∧ a ≤ 1073741824) (hb : -1073741824 ≤ b ∧ b ≤ 1073741824) (h0 : b ≠ 0) (up : Bool) : numDiv a b up = told (dq a b up) := by
  have h0' : (b == 0) = false := by simpa using h0
  unfold numDiv dq
  rw [(numIn_iff a).2 ha, (numIn_iff b).2 hb, w64_of (by omega) (by omega), h0']
  simp only [cond_true, cond_false]
  by_cases hn : b < 0
  · rw [numRounded_neg _ hn (by omega) (by omega), numRounded_pos (-(a * 65536)) (b := -b) (by omega) (by omega), decide_eq_true hn]
    rfl
  · rw [numRounded_pos (a * 65536) (b := b) (by omega) (by omega), decide_eq_false hn]
    rfl
theorem numDiv_out {a b : Int} (h : ¬ ((-1073741824 ≤ a ∧ a ≤ 1073741824) ∧ (-1073741824 ≤ b ∧ b ≤ 1073741824) ∧ b ≠ 0)) (up : Bool) : numDiv a b up = (0, false) := by
  unfold numDiv
  cases ha : numIn a
  · rfl
  · cases hb : numIn b
    · rfl
    · cases h0 : b == 0
      · exact absurd ⟨(numIn_iff a).1 ha, (numIn_iff b).1 hb, by simpa using h0⟩ h
      · rfl
theorem floor_mul (a : Int) {b : Int} (hb : b ≠ 0) (h : -4611686018427387904 ≤ a ∧ a ≤ 4611686018427387904) (hb' : -4611686018427387904 ≤ b ∧ b ≤ 4611686018427387904) :
    (w64 (numFloor a b * b) != a) = (a.tmod b != 0) := by
  have hs := numFloor_spec a hb (by omega)
  have key : ∀ q r : Int, q * b + r = a → (r = 0 ↔ a.tmod b = 0) → r.natAbs < b.natAbs → numFloor a b = q → (w64 (numFloor a b * b) != a) = (a.tmod b != 0) := by
    intro q r h1 h2 h3 h4
    have e : numFloor a b * b = a - r := by rw [h4]; omega
    rw [e, w64_of (by omega) (by omega)]
    by_cases hr : r = 0
    · rw [h2.1 hr, hr]; simp
    · have h5 : ¬ a.tmod b = 0 := fun e => hr (h2.2 e)
      have e1 : (a.tmod b != 0) = true := by simpa using h5
      rw [e1]
      simp only [bne_iff_ne, ne_eq]
      omega
  by_cases hp : 0 < b
  · have h1 := Int.mul_ediv_add_emod a b
    have h2 := Int.emod_nonneg a (Int.ne_of_gt hp)
    have h3 := Int.emod_lt_of_pos a hp
    exact key (a / b) (a % b) (by rw [Int.mul_comm]; omega) (tmod_zero_iff a b).symm (by omega) (hs.1 hp)
  · have hn : b < 0 := by omega
    have h1 := Int.mul_ediv_add_emod (-a) (-b)
    have h2 := Int.emod_nonneg (-a) (b := -b) (by omega)
    have h3 := Int.emod_lt_of_pos (-a) (b := -b) (by omega)
    refine key ((-a) / (-b)) (-((-a) % (-b))) (by rw [Int.neg_mul] at h1; rw [Int.mul_comm]; omega) ?_ (by omega) (hs.2 hn)
    have h4 := tmod_zero_iff (-a) (-b)
    rw [Int.tmod_neg, Int.neg_tmod] at h4
    omega
theorem rTold_eq (n : Int) : rTold n = told n := rfl
theorem rCeil_eq (a : Int) {b : Int} (hb : b ≠ 0) (h : -4611686018427387904 ≤ a ∧ a ≤ 4611686018427387904) (hb' : -4611686018427387904 ≤ b ∧ b ≤ 4611686018427387904) (up : Bool) : rCeil a b = numRounded_e0 a b up := by
  unfold rCeil rCeil_e0 numRounded_e0
  rw [rFloor_eq, floor_mul a hb h hb']
theorem rounded_told (a b : Int) (up : Bool) : numRounded a b up = told (bif up then numRounded_e0 a b up else numFloor a b) := by
  unfold numRounded told
  cases up <;> rfl
theorem rMul_eq (a b : Int) (up : Bool) : rMul a b up = numMul a b up := by
  unfold rMul numMul
  simp only [rIn_eq]
  cases ha : numIn a
  · rfl
  · cases hb : numIn b
    · rfl
    · have h := mul_bound ((numIn_iff a).1 ha) ((numIn_iff b).1 hb)
      simp only [cond_true, rTold_eq, rFloor_eq, w64_of (n := a * b) (by omega) (by omega), rounded_told]
      rw [rCeil_eq (a * b) (b := 65536) (by omega) (by omega) (by omega) up]
      cases up <;> rfl
theorem rDiv_eq (a b : Int) (up : Bool) : rDiv a b up = numDiv a b up := by
  unfold rDiv numDiv
  simp only [rIn_eq]
  cases ha : numIn a
  · rfl
  · cases hb : numIn b
    · rfl
    · cases h0 : b == 0
      · have ha := (numIn_iff a).1 ha
        have hb := (numIn_iff b).1 hb
        have h0' : b ≠ 0 := by simpa using h0
        simp only [cond_true, cond_false, rTold_eq, rFloor_eq, w64_of (n := a * 65536) (by omega) (by omega), rounded_told]
        rw [rCeil_eq (a * 65536) h0' (by omega) (by omega) up]
        cases up <;> rfl
      · rfl
def IsRoot (n s : Int) : Prop := 0 ≤ s ∧ s * s ≤ n ∧ n < (s + 1) * (s + 1)
theorem isRoot_unique {n s t : Int} (h : IsRoot n s) (k : IsRoot n t) : s = t := by
  obtain ⟨h1, h2, h3⟩ := h
  obtain ⟨k1, k2, k3⟩ := k
  refine Decidable.byContradiction fun hne => ?_
  rcases (by omega : s + 1 ≤ t ∨ t + 1 ≤ s) with h | h
  · have := Int.mul_le_mul h h (by omega) (by omega)
    omega
  · have := Int.mul_le_mul h h (by omega) (by omega)
    omega
theorem orI_add {r : Int} {j : Nat} (h0 : 0 ≤ r) (h1 : r < 4611686018427387904) (hj : j < 62) (hd : (2 : Int) ^ (j + 1) ∣ r) : orI r (2 ^ j) = r + 2 ^ j := by
  obtain ⟨q, rfl⟩ := hd
  have hp : (0 : Int) < 2 ^ (j + 1) := Int.pow_pos (by omega)
  have hq : 0 ≤ q := by
    refine Decidable.byContradiction fun hc => ?_
    have : (2 : Int) ^ (j + 1) * q ≤ 2 ^ (j + 1) * (-1) := Int.mul_le_mul_of_nonneg_left (by omega) (by omega)
    omega
  obtain ⟨k, rfl⟩ := Int.eq_ofNat_of_zero_le hq
  have e1 : ((2 : Int) ^ (j + 1) * (k : Int)) = ((2 ^ (j + 1) * k : Nat) : Int) := by push_cast; rfl
  have e2 : ((2 : Int) ^ j) = ((2 ^ j : Nat) : Int) := by push_cast; rfl
  have hj2 : (2 : Nat) ^ j < 2 ^ 62 := Nat.pow_lt_pow_right (by omega) hj
  have hlt : (2 : Nat) ^ j < 2 ^ (j + 1) := Nat.pow_lt_pow_right (by omega) (by omega)
  rw [e1] at h1
  have h1' : 2 ^ (j + 1) * k < 4611686018427387904 := by omega
  unfold orI
  rw [e1, e2, BitVec.ofInt_natCast, BitVec.ofInt_natCast, BitVec.toNat_or, BitVec.toNat_ofNat, BitVec.toNat_ofNat, Nat.mod_eq_of_lt (by omega), Nat.mod_eq_of_lt (by omega), ← Nat.two_pow_add_eq_or_of_lt hlt]
  rw [w64_of (by omega) (by omega)]
  push_cast
  rfl
theorem pow_min (j : Nat) (hj : j < 64) : w64 (1 * 2 ^ (min (Int.toNat (j : Int)) 64)) = w64 (2 ^ j) := by
  rw [Int.one_mul, Int.toNat_natCast, Nat.min_eq_left (by omega)]
theorem pow_le_of {j m : Nat} (h : j ≤ m) : (2 : Int) ^ j ≤ 2 ^ m := by
  have := Nat.pow_le_pow_right (n := 2) (by omega) h
  have e1 : ((2 : Int) ^ j) = ((2 ^ j : Nat) : Int) := by push_cast; rfl
  have e2 : ((2 : Int) ^ m) = ((2 ^ m : Nat) : Int) := by push_cast; rfl
  omega
theorem root_step {n r p : Int} (h0 : 0 ≤ r) (hp : 0 < p) (h2 : r * r ≤ n) (h3 : n < (r + (p + p)) * (r + (p + p))) :
    ((r + p) * (r + p) ≤ n → n < ((r + p) + p) * ((r + p) + p)) := by
  intro _
  rw [Int.add_assoc]; exact h3
theorem numRootLoop_spec (n : Int) : ∀ (j : Nat) (r : Int), j ≤ 30 → 0 ≤ r → r + 2 ^ j ≤ 2 ^ 30 → (2 : Int) ^ j ∣ r → r * r ≤ n → n < (r + 2 ^ j) * (r + 2 ^ j) → IsRoot n (numRootLoop n j r) := by
  intro j
  induction j with
  | zero =>
    intro r hj h0 h1 hd h2 h3
    show IsRoot n r
    exact ⟨h0, h2, by simpa using h3⟩
  | succ j ih =>
    intro r hj h0 h1 hd h2 h3
    have hp : (0 : Int) < 2 ^ j := Int.pow_pos (by omega)
    have hs : (2 : Int) ^ (j + 1) = 2 ^ j + 2 ^ j := by rw [Int.pow_succ]; omega
    have hd' : (2 : Int) ^ j ∣ r := Int.dvd_trans ⟨2, Int.pow_succ ..⟩ hd
    have hk : (2 : Int) ^ 30 = 1073741824 := by decide
    have e : orI r (w64 (1 * 2 ^ (min (Int.toNat (j : Int)) 64))) = r + 2 ^ j := by
      rw [pow_min j (by omega), w64_of (by omega) (by omega)]
      exact orI_add h0 (by omega) (by omega) hd
    have hm := mul_bound (a := r + 2 ^ j) (b := r + 2 ^ j) (A := 1073741824) (B := 1073741824) (by omega) (by omega)
    rw [numRootLoop, e, w64_of (by omega) (by omega)]
    by_cases hc : (r + 2 ^ j) * (r + 2 ^ j) ≤ n
    · rw [decide_eq_true hc]
      refine ih (r + 2 ^ j) (by omega) (by omega) (by omega) (Int.dvd_add hd' (Int.dvd_refl _)) hc ?_
      rw [Int.add_assoc, ← hs]; exact h3
    · rw [decide_eq_false hc]
      exact ih r (by omega) h0 (by omega) hd' h2 (by omega)
theorem rRootLoop_spec (n : Int) : ∀ (j : Nat) (r : Int), j ≤ 30 → 0 ≤ r → r + 2 ^ j ≤ 2 ^ 30 → r * r ≤ n → n < (r + 2 ^ j) * (r + 2 ^ j) → IsRoot n (rRootLoop n j r) := by
  intro j
  induction j with
  | zero =>
    intro r hj h0 h1 h2 h3
    show IsRoot n r
    exact ⟨h0, h2, by simpa using h3⟩
  | succ j ih =>
    intro r hj h0 h1 h2 h3
    have hp : (0 : Int) < 2 ^ j := Int.pow_pos (by omega)
    have hs : (2 : Int) ^ (j + 1) = 2 ^ j + 2 ^ j := by rw [Int.pow_succ]; omega
    have hk : (2 : Int) ^ 30 = 1073741824 := by decide
    have e0 : IntKind.u64.wrap (j : Int) = (j : Int) := by rw [IntKind.wrap_u64]; omega
    have e : w64 (r + w64 (1 * 2 ^ (min (Int.toNat (IntKind.u64.wrap (j : Int))) 64))) = r + 2 ^ j := by
      rw [e0, pow_min j (by omega), w64_of (n := 2 ^ j) (by omega) (by omega), w64_of (by omega) (by omega)]
    have hm := mul_bound (a := r + 2 ^ j) (b := r + 2 ^ j) (A := 1073741824) (B := 1073741824) (by omega) (by omega)
    rw [rRootLoop, e, w64_of (n := (r + 2 ^ j) * _) (by omega) (by omega)]
    by_cases hc : (r + 2 ^ j) * (r + 2 ^ j) ≤ n
    · rw [decide_eq_true hc]
      refine ih (r + 2 ^ j) (by omega) (by omega) (by omega) hc ?_
      rw [Int.add_assoc, ← hs]; exact h3
    · rw [decide_eq_false hc]
      exact ih r (by omega) h0 (by omega) h2 (by omega)
def rootf (a : Int) : Int := numRootLoop (a * 65536) 25 0
def rootc (a : Int) : Int := if rootf a * rootf a < a * 65536 then rootf a + 1 else rootf a
theorem rootf_is {a : Int} (h0 : 0 ≤ a) (h1 : a ≤ 1073741824) : IsRoot (a * 65536) (rootf a) :=
  numRootLoop_spec _ 25 0 (by omega) (by omega) (by decide) ⟨0, rfl⟩ (by omega) (by
    have : ((0 : Int) + 2 ^ 25) * (0 + 2 ^ 25) = 1125899906842624 := by decide
    omega)
theorem root_lt {n s B : Int} (h : s * s ≤ n) (hn : n < B * B) (hs : 0 ≤ s) (hB : 0 ≤ B) : s < B := by
  refine Decidable.byContradiction fun hc => ?_
  have := Int.mul_le_mul (show B ≤ s by omega) (show B ≤ s by omega) hB hs
  omega
theorem rootf_le {a : Int} (h0 : 0 ≤ a) (h1 : a ≤ 1073741824) : 0 ≤ rootf a ∧ rootf a ≤ 8388608 := by
  obtain ⟨k1, k2, k3⟩ := rootf_is h0 h1
  have := root_lt (B := 8388609) k2 (by omega) k1 (by omega)
  omega
theorem numRoot_spec {a : Int} (h0 : 0 ≤ a) (h1 : a ≤ 1073741824) (up : Bool) : numRoot a up = (bif up then rootc a else rootf a, true) := by
  have hr := rootf_le h0 h1
  have hm := mul_bound (a := rootf a) (b := rootf a) (A := 8388608) (B := 8388608) (by omega) (by omega)
  have e : numRootLoop (a * 65536) 25 0 = rootf a := rfl
  unfold numRoot numRoot_e0
  rw [decide_eq_false (by omega), (numIn_iff a).2 (by omega), w64_of (n := a * 65536) (by omega) (by omega), e, w64_of (n := rootf a * rootf a) (by omega) (by omega), w64_of (n := rootf a + 1) (by omega) (by omega)]
  unfold rootc
  cases up
  · rfl
  · simp only [cond_false, cond_true, Bool.cond_decide]
theorem numRoot_out {a : Int} (h : ¬ (0 ≤ a ∧ a ≤ 1073741824)) (up : Bool) : numRoot a up = (0, false) := by
  unfold numRoot
  by_cases h0 : a < 0
  · rw [decide_eq_true h0]; rfl
  · rw [decide_eq_false h0]
    cases hi : numIn a
    · rfl
    · have := (numIn_iff a).1 hi
      omega
theorem rRoot_eq (a : Int) (up : Bool) : rRoot a up = numRoot a up := by
  by_cases h : 0 ≤ a ∧ a ≤ 1073741824
  · rw [numRoot_spec h.1 h.2]
    have hs : IsRoot (a * 65536) (rRootLoop (a * 65536) 24 0) := rRootLoop_spec _ 24 0 (by omega) (by omega) (by decide) (by omega) (by
      have : ((0 : Int) + 2 ^ 24) * (0 + 2 ^ 24) = 281474976710656 := by decide
      omega)
    have e := isRoot_unique hs (rootf_is h.1 h.2)
    have hr := rootf_le h.1 h.2
    have hm := mul_bound (a := rootf a) (b := rootf a) (A := 8388608) (B := 8388608) (by omega) (by omega)
    unfold rRoot rRoot_e0
    rw [decide_eq_false (by omega), rIn_eq, (numIn_iff a).2 (by omega), w64_of (n := a * 65536) (by omega) (by omega), e, w64_of (n := rootf a * rootf a) (by omega) (by omega), w64_of (n := rootf a + 1) (by omega) (by omega)]
    unfold rootc
    cases up
    · simp only [cond_false, cond_true, rTold_eq]
      rw [told_in (by omega)]
    · simp only [cond_false, cond_true, rTold_eq]
      have h4 := (rootf_is h.1 h.2).2.1
      by_cases hc : rootf a * rootf a = a * 65536
      · rw [hc]
        simp only [bne_self_eq_false, cond_false]
        rw [told_in (by omega), if_neg (by omega)]
      · have : (rootf a * rootf a != a * 65536) = true := by simpa using hc
        rw [this, if_pos (by omega)]
        simp only [cond_true]
        rw [told_in (by omega)]
  · rw [numRoot_out h]
    unfold rRoot
    rw [rIn_eq]
    cases hi : numIn a
    · rfl
    · have := (numIn_iff a).1 hi
      rw [decide_eq_true (by omega)]
      rfl
end Go.Proofs.Ythngkopcadlciaa