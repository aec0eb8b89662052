import Derived.Test.YthngkopcadlciaaPIv2
import Derived.Test.YthngkopcadlciaaPLaw
import Derived.Test.YthngkopcadlciaaK2
import Derived.Test.YthngkopcadlciaaHand
set_option linter.unusedVariables false
set_option linter.unusedSimpArgs false
namespace Go.Proofs.Ythngkopcadlciaa

theorem known2_true : known2 = true := by decide +kernel
theorem in2_iff (a b : Iv) : in2 a b = true ↔ Le a b := by
  unfold in2 Le
  by_cases h : R b
  · rw [ivRight_t h]
    simp only [cond_true, ivInside_iff]
    exact ⟨fun k _ => ⟨k.1, k.2.2⟩, fun k => ⟨(k h).1, h, (k h).2⟩⟩
  · rw [ivRight_f h]
    exact ⟨fun _ k => absurd k h, fun _ => rfl⟩
theorem hIn_le (a : Iv) (x y : Int) : R a → R (hIn a x y) ∧ a.lo ≤ (hIn a x y).lo ∧ (hIn a x y).hi ≤ a.hi := fun ha => by
  have h := ha.2
  have h1 : w64 (w64 (a.hi - a.lo) + 1) = a.hi - a.lo + 1 := by
    rw [w64_of (n := a.hi - a.lo) (by omega) (by omega), w64_of (by omega) (by omega)]
  have h2 := hPick_lt x (m := a.hi - a.lo + 1) (by omega) (by omega)
  unfold hIn hIn_e0
  rw [rRight_eq, ivRight_t ha, h1, w64_of (n := a.lo + hPick x (a.hi - a.lo + 1)) (by omega) (by omega)]
  generalize hPick x (a.hi - a.lo + 1) = k at h2 ⊢
  have h3 : w64 (w64 (a.hi - (a.lo + k)) + 1) = a.hi - (a.lo + k) + 1 := by
    rw [w64_of (n := a.hi - (a.lo + k)) (by omega) (by omega), w64_of (by omega) (by omega)]
  have h4 := hPick_lt y (m := a.hi - (a.lo + k) + 1) (by omega) (by omega)
  rw [h3, w64_of (n := a.lo + k + hPick y (a.hi - (a.lo + k) + 1)) (by omega) (by omega)]
  generalize hPick y (a.hi - (a.lo + k) + 1) = j at h4 ⊢
  simp only [cond_true]
  exact ⟨R_mk (by omega) (by omega) (by omega), by omega, by omega⟩
theorem hIn_Le (a : Iv) (x y : Int) : Le (hIn a x y) a := fun h => hIn_le a x y h
theorem le_hull2 {a b c : Iv} (h1 : Le a c) (h2 : Le b c) : Le (ivHull a b) c := fun k => by
  obtain ⟨ra, a1, a2⟩ := h1 k
  obtain ⟨rb, b1, b2⟩ := h2 k
  have r1 := ra.2
  have r2 := rb.2
  rw [ivHull_spec ra rb]
  exact ⟨R_mk (by omega) (by omega) (by omega), by simp only; omega, by simp only; omega⟩
end Go.Proofs.Ythngkopcadlciaa
