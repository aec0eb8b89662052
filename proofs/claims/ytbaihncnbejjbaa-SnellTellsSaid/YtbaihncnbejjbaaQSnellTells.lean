import Derived.Test.YtbaihncnbejjbaaPSnell
import Derived.Test.YtbaihncnbejjbaaLSnellTells
set_option linter.unusedVariables false
set_option linter.unusedSimpArgs false
namespace Go.Proofs.Ytbaihncnbejjbaa

theorem r14NoV_eq : r14NoV = snellNones := rfl
theorem rBend_eq (d n : V) (r : Iv) : rBend d n r = snellBend d n r := by
  have e : rBend d n r = (bif ivRight (bG d n) then (bif decide ((bG d n).lo ≤ 0) then (snellNones, 0) else (bif ivRight (bK d n r) then (bif decide ((bK d n r).hi < 0) then (snellNones, 2) else (bif decide ((bK d n r).lo < 0) then (snellNones, 0) else
      (bif vecRight (bO d n r) then (bO d n r, 1) else (snellNones, 0)))) else (snellNones, 0))) else (snellNones, 0)) := by
    unfold rBend rBend_e2 rBend_e1 rBend_e0 bO bK bG
    simp only [rVecDot_eq, rMulIv_eq, rSqr_eq, rSub_eq, rPoint_eq, rRootIv_eq, rVecAdd_eq, rVecScale_eq, rRight_eq, rVecRight_eq, r14NoV_eq]
  rcases bend_cases d n r with ⟨k, e'⟩ | ⟨k, e'⟩ | ⟨k1, k2, e'⟩ <;> rw [e, e']
  · obtain ⟨rG, hG, rK, hK⟩ := k
    rw [ivRight_t rG, decide_eq_false (by omega), ivRight_t rK, decide_eq_true hK]; rfl
  · obtain ⟨rG, hG, rK, hK, rO⟩ := k
    have kb := rK.2
    rw [ivRight_t rG, decide_eq_false (by omega), ivRight_t rK, decide_eq_false (by omega), decide_eq_false (by omega), (vecRight_iff _).2 rO]; rfl
  · by_cases rG : R (bG d n)
    · rw [ivRight_t rG]
      by_cases h0 : (bG d n).lo ≤ 0
      · rw [decide_eq_true h0]; rfl
      · rw [decide_eq_false h0]
        by_cases rK : R (bK d n r)
        · rw [ivRight_t rK, decide_eq_false (fun q => k1 ⟨rG, by omega, rK, q⟩)]
          by_cases h2 : (bK d n r).lo < 0
          · rw [decide_eq_true h2]; rfl
          · have : vecRight (bO d n r) = false := by
              cases q : vecRight (bO d n r)
              · rfl
              · exact absurd ⟨rG, by omega, rK, by omega, (vecRight_iff _).1 q⟩ k2
            rw [decide_eq_false h2, this]; rfl
        · rw [ivRight_f rK]; rfl
    · rw [ivRight_f rG]; rfl
theorem lawSnellTells_true (x y w u v z a b : Int) (raw : A6) (odd : Bool) : lawSnellTells x y w u v z a b raw odd = true := by
  unfold lawSnellTells lawSnellTells_e0 lawSnellTells_e1 lawSnellTells_e2 lawSnellTells_e3
  simp only [rBend_eq, known17_true, decide_true, beq_self_eq_true, cond_true]
  cases odd <;> rfl
end Go.Proofs.Ytbaihncnbejjbaa
