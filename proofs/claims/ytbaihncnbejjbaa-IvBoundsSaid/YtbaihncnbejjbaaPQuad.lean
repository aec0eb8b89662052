import Derived.Test.YtbaihncnbejjbaaPIv3
import Derived.Test.YtbaihncnbejjbaaQuad
import Derived.Test.YtbaihncnbejjbaaK6
set_option linter.unusedVariables false
set_option linter.unusedSimpArgs false
namespace Go.Proofs.Ytbaihncnbejjbaa

/-! ## Where a square sum is nothing -/
theorem known6_true : known6 = true := by decide +kernel
theorem of_no (l h : Int) : (ivOf l h).no = !ivRight (ivOf l h) := by
  by_cases k : -1073741824 ≤ l ∧ l ≤ h ∧ h ≤ 1073741824
  · rw [ivOf_in k, ivRight_t (R_mk k.1 k.2.1 k.2.2)]; rfl
  · rw [ivOf_out k]; rfl
theorem add_no (a b : Iv) : (ivAdd a b).no = !ivRight (ivAdd a b) := by
  by_cases h : R a ∧ R b
  · rw [ivAdd_spec h.1 h.2]; exact of_no _ _
  · rw [ivAdd_out h]; rfl
theorem sub_no (a b : Iv) : (ivSub a b).no = !ivRight (ivSub a b) := add_no _ _
theorem div_no (a b : Iv) : (ivDiv a b).no = !ivRight (ivDiv a b) := by
  by_cases h : R a ∧ R b ∧ ¬ (b.lo ≤ 0 ∧ 0 ≤ b.hi)
  · rw [ivDiv_val h.1 h.2.1 h.2.2]; exact of_no _ _
  · rw [ivDiv_out h]; rfl
def nearD (a b c : Iv) : Iv := ivSub (ivSqr b) (ivMul a c)
def nearT (a b c : Iv) : Iv := ivDiv c (ivSub (ivRoot (nearD a b c)) b)
theorem near_cases (a b c : Iv) : (R (nearD a b c) ∧ (nearD a b c).hi < 0 ∧ quadNear a b c = (ivNone, 2)) ∨
    (R (nearD a b c) ∧ 0 ≤ (nearD a b c).lo ∧ R (nearT a b c) ∧ quadNear a b c = (nearT a b c, 1)) ∨
    (¬ (R (nearD a b c) ∧ (nearD a b c).hi < 0) ∧ ¬ (R (nearD a b c) ∧ 0 ≤ (nearD a b c).lo ∧ R (nearT a b c)) ∧ quadNear a b c = (ivNone, 0)) := by
  have e : quadNear a b c = (bif (nearD a b c).no then (ivNone, 0) else bif decide ((nearD a b c).hi < 0) then (ivNone, 2) else bif decide ((nearD a b c).lo < 0) then (ivNone, 0) else
      bif (nearT a b c).no then (ivNone, 0) else ((⟨(nearT a b c).lo, (nearT a b c).hi, false⟩ : Iv), 1)) := rfl
  have hn : (nearD a b c).no = !ivRight (nearD a b c) := sub_no _ _
  have ht : (nearT a b c).no = !ivRight (nearT a b c) := div_no _ _
  rw [e, hn, ht]
  generalize nearD a b c = D
  generalize nearT a b c = T
  by_cases hD : R D
  · have hb := hD.2
    rw [ivRight_t hD]
    by_cases h1 : D.hi < 0
    · left; rw [decide_eq_true h1]; exact ⟨hD, h1, rfl⟩
    · rw [decide_eq_false h1]
      by_cases h2 : D.lo < 0
      · right; right; rw [decide_eq_true h2]; exact ⟨fun k => h1 k.2, fun k => by omega, rfl⟩
      · rw [decide_eq_false h2]
        by_cases hT : R T
        · right; left
          rw [ivRight_t hT]
          exact ⟨hD, by omega, hT, by rw [← R_eq hT]; rfl⟩
        · right; right; rw [ivRight_f hT]; exact ⟨fun k => h1 k.2, fun k => hT k.2.2, rfl⟩
  · right; right
    rw [ivRight_f hD]
    exact ⟨fun k => hD k.1, fun k => hD k.1, rfl⟩
theorem near_yes_right (a b c : Iv) : ((quadNear a b c).2 == 1) = ivRight (quadNear a b c).1 := by
  rcases near_cases a b c with ⟨_, _, e⟩ | ⟨_, _, h, e⟩ | ⟨_, _, e⟩ <;> rw [e]
  · rfl
  · rw [ivRight_t h]; rfl
  · rfl
theorem le_nearD {a b c a' b' c' : Iv} (h1 : Le a' a) (h2 : Le b' b) (h3 : Le c' c) : Le (nearD a' b' c') (nearD a b c) := le_sub (le_sqr h2) (le_mul h1 h3)
theorem le_nearT {a b c a' b' c' : Iv} (h1 : Le a' a) (h2 : Le b' b) (h3 : Le c' c) : Le (nearT a' b' c') (nearT a b c) := le_div h3 (le_sub (le_root (le_nearD h1 h2 h3)) h2)
/-- Of less: what is Yes stays Yes, and lies within; what is No stays No. -/
theorem near_less {a b c a' b' c' : Iv} (h1 : Le a' a) (h2 : Le b' b) (h3 : Le c' c) :
    ((quadNear a b c).2 = 1 → (quadNear a' b' c').2 = 1 ∧ ivInside (quadNear a' b' c').1 (quadNear a b c).1 = true) ∧ ((quadNear a b c).2 = 2 → (quadNear a' b' c').2 = 2) := by
  have lD := le_nearD h1 h2 h3
  have lT := le_nearT h1 h2 h3
  rcases near_cases a b c with ⟨rD, hD, e⟩ | ⟨rD, hD, rT, e⟩ | ⟨_, _, e⟩ <;> rw [e]
  · refine ⟨fun k => absurd k (by decide), fun _ => ?_⟩
    have k := lD rD
    have kb := k.1.2
    rcases near_cases a' b' c' with ⟨_, _, e'⟩ | ⟨_, hD', _, e'⟩ | ⟨hn, _, e'⟩
    · rw [e']
    · omega
    · exact absurd ⟨k.1, by omega⟩ hn
  · refine ⟨fun _ => ?_, fun k => absurd (show (1 : Int) = 2 from k) (by decide)⟩
    have k := lD rD
    have kb := k.1.2
    have kT := lT rT
    rcases near_cases a' b' c' with ⟨_, hD', e'⟩ | ⟨_, _, _, e'⟩ | ⟨_, hn, e'⟩
    · omega
    · rw [e']
      exact ⟨rfl, (ivInside_iff _ _).2 ⟨kT.1, rT, kT.2⟩⟩
    · exact absurd ⟨k.1, by omega, kT.1⟩ hn
  · exact ⟨fun k => absurd k (by decide), fun k => absurd k (by decide)⟩
theorem near_012 (a b c : Iv) : (quadNear a b c).2 = 0 ∨ (quadNear a b c).2 = 1 ∨ (quadNear a b c).2 = 2 := by
  rcases near_cases a b c with ⟨_, _, e⟩ | ⟨_, _, h, e⟩ | ⟨_, _, e⟩ <;> rw [e] <;> simp
end Go.Proofs.Ytbaihncnbejjbaa
