import Derived.Test.YtbaihncnbejjbaaPVec2
import Derived.Test.YtbaihncnbejjbaaLVecAlong
set_option linter.unusedVariables false
set_option linter.unusedSimpArgs false
namespace Go.Proofs.Ytbaihncnbejjbaa

theorem lawVecAlong_true (l m : A6) (a b p q : Int) : lawVecAlong l m a b p q = true := by
  unfold lawVecAlong lawVecAlong_e1 lawVecAlong_e0
  have rx := tame5_R l
  have ry := tame5_R m
  have u := hInV_Le (tame5 l) p q
  have v := hInV_Le (tame5 m) q p
  have t := hIn_Le (hTame a b) p q
  have hull : ∀ {a b : Iv}, R a → R b → ivInside a (ivHull a b) = true ∧ ivInside b (ivHull a b) = true := by
    intro a b ra rb
    have h1 := ra.2
    have h2 := rb.2
    rw [ivInside_iff, ivInside_iff, ivHull_spec ra rb]
    exact ⟨⟨ra, R_mk (by omega) (by omega) (by omega), by simp only; omega, by simp only; omega⟩, ⟨rb, R_mk (by omega) (by omega) (by omega), by simp only; omega, by simp only; omega⟩⟩
  refine lT known5_true (lT (dT ?_) (lT (dT ?_) (lT ((in5_iff _ _).2 (leV_along u v t)) (lT ?_ (lT ?_ (dT ?_))))))
  · unfold vecAlong vecAdd vecScale vecOf
    simp only
    rw [mul_zero_iv ry.1, mul_zero_iv ry.2.1, mul_zero_iv ry.2.2, add_zero_iv rx.1, add_zero_iv rx.2.1, add_zero_iv rx.2.2]
  · unfold vecAlong vecAdd vecScale vecOf
    simp only
    rw [mul_one_iv ry.1, mul_one_iv ry.2.1, mul_one_iv ry.2.2]
  · unfold vecInside vecHull vecOf
    exact lT (hull rx.1 ry.1).1 (lT (hull rx.2.1 ry.2.1).1 (hull rx.2.2 ry.2.2).1)
  · unfold vecInside vecHull vecOf
    exact lT (hull rx.1 ry.1).2 (lT (hull rx.2.1 ry.2.1).2 (hull rx.2.2 ry.2.2).2)
  · unfold vecSub vecAdd vecScale vecOf
    simp only
    rw [whole_n1, ivMul_negr, ivMul_negr, ivMul_negr, mul_one_iv ry.1, mul_one_iv ry.2.1, mul_one_iv ry.2.2]
    rfl
end Go.Proofs.Ytbaihncnbejjbaa
