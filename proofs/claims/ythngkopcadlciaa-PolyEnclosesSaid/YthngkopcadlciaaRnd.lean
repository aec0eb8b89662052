import Derived.Test.YthngkopcadlciaaRound
import Derived.Test.YthngkopcadlciaaMem
import Derived.RangeFuncCalls
import Derived.RangeFuncBox
import Derived.RangeFuncWrites
import Derived.OwnWalkIn
import Derived.TacticsIn
import Derived.OrdersIn
set_option linter.unusedVariables false
set_option linter.unusedSimpArgs false
namespace Go.Proofs.Ythngkopcadlciaa
open Go.RowKit

/-! ## Own walks within a round of a range over a function -/
section
variable {p : Program} {ops : Array Oper} {Q : Exit → Act → World → Prop}
def noDefer (ops : Array Oper) : Bool := ops.all fun o => match o.op with | .defer _ => false | _ => true
theorem noDefer_spec (h : noDefer ops = true) {i : Nat} {o : Oper} (ho : ops[i]? = some o) : ∀ c, o.op ≠ .defer c := by
  intro c hc
  have := Array.all_eq_true_iff_forall_mem.1 h o (Array.mem_of_getElem? ho)
  rw [hc] at this
  cases this
theorem upon_in {o : Oper} {a : Act} {w : World} {K K' : Act → World → Prop} (l m : Nat) (hd : ∀ c, o.op ≠ .defer c) (hQ : ¬ LetsOut Q) (hK : ∀ a w, K a w → K' a w)
    (h : o.wp p a w K Q) : o.wpIn (Fence.wide.inRound l) m p a w K' Q := by
  refine ⟨fun _ _ => trivial, ?_⟩
  rw [Oper.semAt_eq _ _ _ hd]
  unfold Oper.wp at h
  revert h
  cases hr : (execOp a.eval o).run p w with
  | ok x w' =>
    cases x with
    | value v => exact hK _ _
    | skip => exact hK _ _
    | defer d => exact hK _ _
    | enter f args =>
      intro h
      refine ⟨fun hn => absurd (show false = true from hn) (by decide), CallsIn.inRound l (callsIn_wide.2 (h.mono fun e w'' h => ?_))⟩
      cases e with
      | returned v => exact hK _ _ h
      | panicked c => exact h
      | outgrown => exact h
    | row row args =>
      intro h
      refine ⟨fun hn => absurd (show false = true from hn) (by decide), fun c cs _ => ?_⟩
      obtain ⟨v, w'', r, s⟩ := h c cs
      exact ⟨v, w'', hK _ _ r, stepsIn_wide.2 s⟩
    | _ => exact fun h => h.elim
  | halt x w' =>
    cases x <;> exact fun h => h
theorem wpOp_in {i : Nat} {a : Act} {w : World} {K K' : Act → World → Prop} (l m : Nat) (hd : noDefer ops = true) (hQ : ¬ LetsOut Q) (hK : ∀ a w, K a w → K' a w) (h : wpOp p ops Q i K a w) : wpOpIn (Fence.wide.inRound l) m p ops Q i K' a w := by
  unfold wpOp at h
  unfold wpOpIn
  cases ho : ops[i]? with
  | none => rw [ho] at h; exact hK _ _ h
  | some o =>
    rw [ho] at h
    simp only at h ⊢
    split
    · rename_i hw
      rw [if_pos hw] at h
      rcases h with h | h
      · exact upon_in l m (noDefer_spec hd ho) hQ hK h
      · exact absurd h.2 hQ
    · rename_i hw
      rw [if_neg hw] at h
      exact ⟨fun _ _ => trivial, hK _ _ h⟩
theorem wpAny_in (l m : Nat) (hd : noDefer ops = true) (hQ : ¬ LetsOut Q) : ∀ (fuel : Nat) (L : Array Bool) (a : Act) (w : World), wpAny p .any ops Q fuel L a w → wpAnyIn (Fence.wide.inRound l) m p .any ops Q fuel L a w := by
  intro fuel
  induction fuel with
  | zero => intro L a w h; exact h
  | succ fuel ih => intro L a w h; exact ⟨h.1, fun i hi => wpOp_in l m hd hQ (fun a w h => ih _ a w h) (h.2 i hi)⟩
theorem wpList_in (l m : Nat) (hQ : ¬ LetsOut Q) : ∀ (os : List Oper) (a : Act) (w : World), (∀ o ∈ os, ∀ c, o.op ≠ .defer c) → wpList p ops Q os a w → wpListIn (Fence.wide.inRound l) m p ops Q os a w := by
  intro os
  induction os with
  | nil => intro a w _ h; exact h
  | cons o os ih =>
    intro a w hd h
    unfold wpList at h
    unfold wpListIn
    have hi : ∀ a w, wpList p ops Q os a w → wpListIn (Fence.wide.inRound l) m p ops Q os a w := fun a w h => ih a w (fun x hx => hd x (List.mem_cons_of_mem _ hx)) h
    split
    · rename_i hw
      rw [if_pos hw] at h
      rcases h with h | h
      · exact upon_in l m (hd o List.mem_cons_self) hQ hi h
      · exact absurd h.2 hQ
    · rename_i hw
      rw [if_neg hw] at h
      exact ⟨fun _ _ => trivial, hi _ _ h⟩
theorem aq_out {n : Nat} {β : Base} {Q : Exit → Env → List Box → Prop} (hQ : ∀ E H, ¬ Q .outgrown E H) : ¬ LetsOut (AQ n β Q) := by
  rintro ⟨a, w, E, H, h, _⟩
  exact hQ _ _ h
theorem region_in {n id : Nat} {β : Base} {Q : Exit → Env → List Box → Prop} {E : Env} {H : List Box} {a : Act} {w : World} (l m : Nat) (hd : noDefer ops = true) (hQ : ∀ E H, ¬ Q .outgrown E H) (h : AR p n ops Q ops.toList E H) (hO : Own β H w) (hB : Keeps β w) (hs : Sees n E a) :
    (Code.region id ops false).wpIn (Fence.wide.inRound l) m p (AQ n β Q) a w :=
  wpIn_region_list (wpList_in l m (aq_out hQ) _ _ _ (fun o ho => by
    obtain ⟨i, hi⟩ := List.mem_iff_getElem?.1 ho
    exact noDefer_spec hd (by simpa using hi)) (h β w a hO hB hs))
theorem draw_in {n id : Nat} {β : Base} {Q : Exit → Env → List Box → Prop} {E : Env} {H : List Box} {a : Act} {w : World} (l m : Nat) (fx ta : List Nat) (tl : List Oper) (hd : noDefer ops = true) (hQ : ∀ E H, ¬ Q .outgrown E H) (hok : drawOk ops fx [] ta = true) (hm : p.follows .mixedOrders = true) (htl : (ta.map fun i => (ops[i]?).getD default) = tl)
    (h : DWalk p n ops H fx E fun E => AR p n ops Q tl E H) (hO : Own β H w) (hB : Keeps β w) (hs : Sees n E a) :
    (Code.region id ops true).wpIn (Fence.wide.inRound l) m p (AQ n β Q) a w := by
  subst htl
  exact wpIn_region_any hm (wpAny_in l m hd (aq_out hQ) _ _ _ _ (any_draw fx ta [] hok (by simp) (by simpa [putAll] using h) β w a hO hB hs))
end
end Go.Proofs.Ythngkopcadlciaa
