import Derived.Test.YtbaihncnbejjbaaPIv3
import Derived.Test.YtbaihncnbejjbaaLIvParts
set_option linter.unusedVariables false
set_option linter.unusedSimpArgs false
namespace Go.Proofs.Ytbaihncnbejjbaa

theorem lawIvParts_true (a b c d : Int) : lawIvParts a b c d = true := by
  unfold lawIvParts lawIvParts_e0 lawIvParts_e1
  generalize hIv a b = x
  generalize hIv c d = y
  refine lC (fun h1 => lC (fun h2 => ?_) (fun _ => known2_true)) (fun _ => known2_true)
  have rx : R x := (ivRight_iff x).1 h1
  have ry : R y := (ivRight_iff y).1 h2
  have x1 := rx.2
  have y1 := ry.2
  have hs := ivSplit_spec rx
  have rp : R ⟨x.lo, (x.lo + x.hi) / 2, false⟩ := R_mk (by omega) (by omega) (by omega)
  have rq : R ⟨(x.lo + x.hi) / 2, x.hi, false⟩ := R_mk (by omega) (by omega) (by omega)
  have lp : Le ⟨x.lo, (x.lo + x.hi) / 2, false⟩ x := fun _ => ⟨rp, by simp only; omega, by simp only; omega⟩
  have lq : Le ⟨(x.lo + x.hi) / 2, x.hi, false⟩ x := fun _ => ⟨rq, by simp only; omega, by simp only; omega⟩
  have k1 : ivHull ⟨x.lo, (x.lo + x.hi) / 2, false⟩ ⟨(x.lo + x.hi) / 2, x.hi, false⟩ = x := by
    rw [ivHull_spec rp rq, show x = ⟨x.lo, x.hi, false⟩ from R_eq rx]
    congr 1 <;> simp only <;> omega
  have k2 : ivInside x (ivHull x y) = true := by
    rw [ivInside_iff, ivHull_spec rx ry]
    exact ⟨rx, R_mk (by omega) (by omega) (by omega), by simp only; omega, by simp only; omega⟩
  have k3 : ivInside y (ivHull x y) = true := by
    rw [ivInside_iff, ivHull_spec rx ry]
    exact ⟨ry, R_mk (by omega) (by omega) (by omega), by simp only; omega, by simp only; omega⟩
  have k5 : (ivRight (ivMeet x y) != decide (max x.lo y.lo ≤ min x.hi y.hi)) = false := by
    rw [ivMeet_spec rx ry]
    by_cases hm : max x.lo y.lo ≤ min x.hi y.hi
    · rw [dT hm, ivRight_t (R_of.2 (by omega))]; rfl
    · rw [dF hm, ivRight_f (fun k => hm (R_of.1 k).2.1)]; rfl
  have k6 : in2 (ivHull (ivSqr ⟨x.lo, (x.lo + x.hi) / 2, false⟩) (ivSqr ⟨(x.lo + x.hi) / 2, x.hi, false⟩)) (ivSqr x) = true := (in2_iff _ _).2 (le_hull2 (le_sqr lp) (le_sqr lq))
  have k7 : in2 (ivHull (ivMul ⟨x.lo, (x.lo + x.hi) / 2, false⟩ y) (ivMul ⟨(x.lo + x.hi) / 2, x.hi, false⟩ y)) (ivMul x y) = true := (in2_iff _ _).2 (le_hull2 (le_mul lp (Le.rfl' y)) (le_mul lq (Le.rfl' y)))
  have k8 : ((ivInside (ivSqr x) (ivMul x x)) == (ivRight (ivMul x x))) = true := by
    by_cases hr : R (ivMul x x)
    · have := sqr_le_mul x hr
      rw [ivRight_t hr, (ivInside_iff _ _).2 ⟨this.1, hr, this.2⟩]; rfl
    · have : ivInside (ivSqr x) (ivMul x x) = false := by
        cases e : ivInside (ivSqr x) (ivMul x x)
        · rfl
        · exact absurd ((ivInside_iff _ _).1 e).2.1 hr
      rw [ivRight_f hr, this]; rfl
  have k9 : ((x.lo + x.hi) / 2 != (x.lo + x.hi) / 2) = false := bne_self_eq_false _
  rw [hs, k1]
  refine lT known2_true (lT (dT rfl) (lF k9 (lT k2 (lT k3 (lT (dT (ivHull_comm x y)) (lT (dT (ivMeet_comm x y)) (lC (fun hm => ?_) (fun hm => ?_))))))))
  · have rm := (ivRight_iff _).1 hm
    have rm' := rm
    rw [ivMeet_spec rx ry] at rm'
    have rm2 := R_of.1 rm'
    have e := ivOf_in rm2
    have i1 : ivInside (ivMeet x y) x = true := by
      rw [ivInside_iff]
      refine ⟨rm, rx, ?_⟩
      rw [ivMeet_spec rx ry, e]
      simp only
      omega
    have i2 : ivInside (ivMeet x y) y = true := by
      rw [ivInside_iff]
      refine ⟨rm, ry, ?_⟩
      rw [ivMeet_spec rx ry, e]
      simp only
      omega
    exact lT i1 (lT i2 (lF k5 (lT k6 (lT k7 (lT (dT (ivMul_comm x y)) (lT (dT (ivAdd_comm x y)) (lT (dT rfl) (lT (dT (ivMul_negl x y)) k8))))))))
  · exact lF k5 (lT k6 (lT k7 (lT (dT (ivMul_comm x y)) (lT (dT (ivAdd_comm x y)) (lT (dT rfl) (lT (dT (ivMul_negl x y)) k8))))))
end Go.Proofs.Ytbaihncnbejjbaa
