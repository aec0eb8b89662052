import Derived.Test.YtbaihncnbejjbaaPQuad
import Derived.Test.YtbaihncnbejjbaaLQuadTells
set_option linter.unusedVariables false
set_option linter.unusedSimpArgs false
namespace Go.Proofs.Ytbaihncnbejjbaa

theorem rNear_eq (a b c : Iv) : rNear a b c = quadNear a b c := by
  have e : rNear a b c = (bif ivRight (nearD a b c) then (bif decide ((nearD a b c).hi < 0) then (ivNone, 2) else bif decide ((nearD a b c).lo < 0) then (ivNone, 0) else
      bif ivRight (nearT a b c) then (nearT a b c, 1) else (ivNone, 0)) else (ivNone, 0)) := by
    unfold rNear rNear_e0 nearT nearD
    simp only [rSub_eq, rSqr_eq, rMulIv_eq, rRootIv_eq, rDivIv_eq, rRight_eq, rNone_eq]
  rcases near_cases a b c with ⟨rD, hD, e'⟩ | ⟨rD, hD, rT, e'⟩ | ⟨h1, h2, e'⟩ <;> rw [e, e']
  · rw [ivRight_t rD, decide_eq_true hD]; rfl
  · have hb := rD.2
    rw [ivRight_t rD, decide_eq_false (by omega), decide_eq_false (by omega), ivRight_t rT]; rfl
  · by_cases rD : R (nearD a b c)
    · rw [ivRight_t rD, decide_eq_false (fun k => h1 ⟨rD, k⟩)]
      by_cases h0 : (nearD a b c).lo < 0
      · rw [decide_eq_true h0]; rfl
      · rw [decide_eq_false h0, ivRight_f (fun k => h2 ⟨rD, by omega, k⟩)]; rfl
    · rw [ivRight_f rD]; rfl
theorem lawQuadTells_true (a b c d e f : Int) (tame : Bool) : lawQuadTells a b c d e f tame = true := by
  unfold lawQuadTells
  simp only [rNear_eq, known6_true, decide_true, beq_self_eq_true, cond_true]
  cases tame <;> rfl
end Go.Proofs.Ytbaihncnbejjbaa
