import Derived.Test.YtbaihncnbejjbaaPIv3
import Derived.Test.YtbaihncnbejjbaaPQuad
import Derived.Test.YtbaihncnbejjbaaLIvBounds
set_option linter.unusedVariables false
set_option linter.unusedSimpArgs false
namespace Go.Proofs.Ytbaihncnbejjbaa

/-- What a call hands back: none, or one within the bounds. -/
def Good (z : Iv) : Prop := z = ivNone ∨ R z
theorem good_of (l h : Int) : Good (ivOf l h) := by
  by_cases k : -1073741824 ≤ l ∧ l ≤ h ∧ h ≤ 1073741824
  · right; exact R_of.2 k
  · left; exact ivOf_out k
theorem good_add (a b : Iv) : Good (ivAdd a b) := by
  by_cases h : R a ∧ R b
  · rw [ivAdd_spec h.1 h.2]; exact good_of _ _
  · left; exact ivAdd_out h
theorem good_neg (a : Iv) : Good (ivNeg a) := by
  by_cases h : R a
  · right; exact R_neg.2 h
  · left; exact ivNeg_out h
theorem good_mul (a b : Iv) : Good (ivMul a b) := by
  by_cases h : R a ∧ R b
  · rw [ivMul_spec h.1 h.2]; exact good_of _ _
  · left; exact ivMul_out h
theorem good_times (a : Iv) (k : Int) : Good (ivTimes a k) := by
  by_cases h : R a ∧ (-1073741824 ≤ k ∧ k ≤ 1073741824)
  · rw [ivTimes_spec h.1 h.2]; exact good_of _ _
  · left; exact ivTimes_out h
theorem good_sqr (a : Iv) : Good (ivSqr a) := by
  by_cases h : R a
  · rw [ivSqr_spec h]; exact good_of _ _
  · left; exact ivSqr_out h
theorem good_div (a b : Iv) : Good (ivDiv a b) := by
  by_cases h : R a ∧ R b ∧ ¬ (b.lo ≤ 0 ∧ 0 ≤ b.hi)
  · rw [ivDiv_val h.1 h.2.1 h.2.2]; exact good_of _ _
  · left; exact ivDiv_out h
theorem good_root (a : Iv) : Good (ivRoot a) := by
  by_cases h : R a ∧ 0 ≤ a.lo
  · right; exact R_root.2 h
  · left; exact ivRoot_out h
theorem good_hull (a b : Iv) : Good (ivHull a b) := by
  by_cases h : R a ∧ R b
  · have h1 := h.1.2
    have h2 := h.2.2
    right; rw [ivHull_spec h.1 h.2]; exact R_mk (by omega) (by omega) (by omega)
  · left; exact ivHull_out h
theorem round_good {z : Iv} (h : Good z) : (bif z.no then (bif z.lo != 0 then false else (bif z.hi != 0 then false else (bif z.no == (rRight z) then false else true))) else (bif decide (z.lo > z.hi) then false else (bif decide (z.lo < (-1073741824)) then false else (bif decide (z.hi > 1073741824) then false else (bif z.no == (rRight z) then false else true))))) = true := by
  rcases h with rfl | h
  · rfl
  · have hr : rRight z = true := ivRight_t h
    obtain ⟨h0, h1, h2, h3⟩ := h
    rw [h0, hr, decide_eq_false (by omega), decide_eq_false (by omega), decide_eq_false (by omega)]; rfl
theorem lawIvBounds_true (a b c d k : Int) : lawIvBounds a b c d k = true := by
  unfold lawIvBounds
  generalize hIv a b = x
  generalize hIv c d = y
  refine lT (round_good (good_add x y)) (lT (round_good (good_add x (ivNeg y))) (lT (round_good (good_neg x)) (lT (round_good (good_mul x y)) (lT (round_good (good_times x k)) (lT (round_good (good_sqr x)) (lT (round_good (good_div x y)) (lT (round_good (good_root x)) (lT (round_good (good_hull x y)) ?_))))))))
  refine lT known2_true ?_
  by_cases h : R x ∧ R y
  · rw [ivRight_t h.1, ivRight_t h.2]; rfl
  · rw [ivAdd_out h, ivMul_out h, ivHull_out h]
    cases ivRight x <;> cases ivRight y <;> rfl
end Go.Proofs.Ytbaihncnbejjbaa
