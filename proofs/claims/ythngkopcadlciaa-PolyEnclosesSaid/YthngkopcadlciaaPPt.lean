import Derived.Test.YthngkopcadlciaaPIv3
set_option linter.unusedVariables false
set_option linter.unusedSimpArgs false
namespace Go.Proofs.Ythngkopcadlciaa

/-! ## Points -/
def pt (n : Int) : Iv := ⟨n, n, false⟩
theorem R_pt {n : Int} (h : -1073741824 ≤ n ∧ n ≤ 1073741824) : R (pt n) := R_mk h.1 (by omega) h.2
theorem point_eq {n : Int} (h : -1073741824 ≤ n ∧ n ≤ 1073741824) : ivPoint n = pt n := ivOf_in ⟨h.1, by omega, h.2⟩
theorem whole_eq {k : Int} (h : -16384 ≤ k ∧ k ≤ 16384) : ivWhole k = pt (k * 65536) := by
  unfold ivWhole
  rw [(numIn_iff k).2 (by omega), w64_of (by omega) (by omega)]
  exact point_eq (by omega)
theorem add_pt {a b : Int} (ha : -1073741824 ≤ a ∧ a ≤ 1073741824) (hb : -1073741824 ≤ b ∧ b ≤ 1073741824) (h : -1073741824 ≤ a + b ∧ a + b ≤ 1073741824) : ivAdd (pt a) (pt b) = pt (a + b) := by
  rw [ivAdd_spec (R_pt ha) (R_pt hb)]
  exact ivOf_in ⟨h.1, by simp [pt], h.2⟩
theorem sub_pt {a b : Int} (ha : -1073741824 ≤ a ∧ a ≤ 1073741824) (hb : -1073741824 ≤ b ∧ b ≤ 1073741824) (h : -1073741824 ≤ a - b ∧ a - b ≤ 1073741824) : ivSub (pt a) (pt b) = pt (a - b) := by
  rw [ivSub_spec (R_pt ha) (R_pt hb)]
  exact ivOf_in ⟨h.1, by simp [pt], h.2⟩
theorem neg_pt {a : Int} (ha : -1073741824 ≤ a ∧ a ≤ 1073741824) : ivNeg (pt a) = pt (-a) := by
  rw [ivNeg_spec (R_pt ha)]; rfl
theorem times_pt {a k : Int} (ha : -1073741824 ≤ a ∧ a ≤ 1073741824) (hk : -1073741824 ≤ k ∧ k ≤ 1073741824) (h : -1073741824 ≤ k * a ∧ k * a ≤ 1073741824) : ivTimes (pt a) k = pt (k * a) := by
  rw [ivTimes_spec (R_pt ha) hk]
  show ivOf (min (k * a) (k * a)) (max (k * a) (k * a)) = _
  rw [Int.min_self, Int.max_self]
  exact ivOf_in ⟨h.1, by omega, h.2⟩
/-- A product of points that is a whole number of steps. -/
theorem mul_pt {a b c : Int} (ha : -1073741824 ≤ a ∧ a ≤ 1073741824) (hb : -1073741824 ≤ b ∧ b ≤ 1073741824) (hc : a * b = c * 65536) (h : -1073741824 ≤ c ∧ c ≤ 1073741824) : ivMul (pt a) (pt b) = pt c := by
  rw [ivMul_spec (R_pt ha) (R_pt hb)]
  have e1 : mn (pt a) (pt b) = c * 65536 := by
    show min4 (a * b) (a * b) (a * b) (a * b) = _
    simp [min4, hc]
  have e2 : mx (pt a) (pt b) = c * 65536 := by
    show max4 (a * b) (a * b) (a * b) (a * b) = _
    simp [max4, hc]
  rw [e1, e2]
  have d1 : dn (c * 65536) 65536 = c := Int.mul_ediv_cancel c (by decide)
  have d2 : upq (c * 65536) 65536 = c := by
    have h1 := (upq_le_iff (u := c) (n := c * 65536) (c := 65536) (by decide)).2 (Int.le_refl _)
    have h2 := dn_le_upq (a := c * 65536) (b := 65536) (by decide)
    omega
  rw [d1, d2]
  exact ivOf_in ⟨h.1, Int.le_refl _, h.2⟩
theorem mul_wh {a b : Int} (ha : -16384 ≤ a ∧ a ≤ 16384) (hb : -16384 ≤ b ∧ b ≤ 16384) (h : -16384 ≤ a * b ∧ a * b ≤ 16384) : ivMul (pt (a * 65536)) (pt (b * 65536)) = pt (a * b * 65536) := by
  refine mul_pt (by omega) (by omega) ?_ (by omega)
  rw [Int.mul_assoc a 65536, Int.mul_comm 65536 (b * 65536), ← Int.mul_assoc a, ← Int.mul_assoc a]
theorem add_wh {a b : Int} (ha : -16384 ≤ a ∧ a ≤ 16384) (hb : -16384 ≤ b ∧ b ≤ 16384) (h : -16384 ≤ a + b ∧ a + b ≤ 16384) : ivAdd (pt (a * 65536)) (pt (b * 65536)) = pt ((a + b) * 65536) := by
  rw [add_pt (by omega) (by omega) (by omega), Int.add_mul]
theorem sub_wh {a b : Int} (ha : -16384 ≤ a ∧ a ≤ 16384) (hb : -16384 ≤ b ∧ b ≤ 16384) (h : -16384 ≤ a - b ∧ a - b ≤ 16384) : ivSub (pt (a * 65536)) (pt (b * 65536)) = pt ((a - b) * 65536) := by
  rw [sub_pt (by omega) (by omega) (by omega), Int.sub_mul]
theorem times_wh {a k : Int} (ha : -16384 ≤ a ∧ a ≤ 16384) (hk : -16384 ≤ k ∧ k ≤ 16384) (h : -16384 ≤ k * a ∧ k * a ≤ 16384) : ivTimes (pt (a * 65536)) k = pt (k * a * 65536) := by
  rw [times_pt (by omega) (by omega) (by rw [← Int.mul_assoc]; omega), ← Int.mul_assoc]
end Go.Proofs.Ythngkopcadlciaa
