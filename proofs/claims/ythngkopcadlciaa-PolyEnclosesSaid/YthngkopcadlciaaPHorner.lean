import Derived.Test.YthngkopcadlciaaPPt
import Derived.Test.YthngkopcadlciaaK4
set_option linter.unusedVariables false
set_option linter.unusedSimpArgs false
namespace Go.Proofs.Ythngkopcadlciaa
theorem known4_true : known4 = true := by decide +kernel
theorem htop_R {o : Iv} (h : R o) : htop o = o := by unfold htop; rw [ivRight_t h]; rfl
theorem htop_out {o : Iv} (h : ¬ R o) : htop o = ivNone := by unfold htop; rw [ivRight_f h]; rfl
theorem htop_le {a c : Iv} (h : Le a c) : Le (htop a) (htop c) := fun k => by
  by_cases hc : R c
  · have := h hc
    rw [htop_R hc, htop_R this.1]
    exact this
  · rw [htop_out hc] at k
    exact absurd k R_none
/-- Less in less: the sums of powers. -/
def LeAll : List Iv → List Iv → Prop
  | [], [] => True
  | a :: l, b :: m => Le a b ∧ LeAll l m
  | _, _ => False
theorem le_hornerN {x y : Iv} (hx : Le x y) : ∀ (l m : List Iv) (a b : Iv), Le a b → LeAll l m → Le (hornerN a l x) (hornerN b m y)
  | [], [], a, b, h, _ => htop_le h
  | a' :: l, b' :: m, a, b, h, hl => le_add (le_mul (le_hornerN hx l m a' b' hl.1 hl.2) hx) h
  | [], _ :: _, _, _, _, hl => hl.elim
  | _ :: _, [], _, _, _, hl => hl.elim
theorem le_horner {x y : Iv} (hx : Le x y) : ∀ (l m : List Iv), LeAll l m → Le (horner l x) (horner m y)
  | [], [], _ => Le.rfl' _
  | a :: l, b :: m, h => le_hornerN hx l m a b h.1 h.2
  | [], _ :: _, h => h.elim
  | _ :: _, [], h => h.elim
end Go.Proofs.Ythngkopcadlciaa
