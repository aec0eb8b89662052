import Derived.Test.YthngkopcadlciaaTypes
set_option linter.unusedVariables false
set_option linter.unusedSimpArgs false
namespace Go.Proofs.Ythngkopcadlciaa

theorem lT {c x : Bool} (h : c = true) (k : x = true) : (bif c then x else false) = true := by rw [h, k]; rfl
theorem lF {c x : Bool} (h : c = false) (k : x = true) : (bif c then false else x) = true := by rw [h, k]; rfl
theorem lC {c x y : Bool} (h : c = true → x = true) (k : c = false → y = true) : (bif c then x else y) = true := by
  cases c
  · exact k rfl
  · exact h rfl
theorem dT {p : Prop} [Decidable p] (h : p) : decide p = true := decide_eq_true h
theorem dF {p : Prop} [Decidable p] (h : ¬ p) : decide p = false := decide_eq_false h
end Go.Proofs.Ythngkopcadlciaa
