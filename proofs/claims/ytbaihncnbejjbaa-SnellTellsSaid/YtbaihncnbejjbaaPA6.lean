import Derived.Test.YtbaihncnbejjbaaTypes
import Derived.WalkKit
import Derived.ProofKit
import Derived.OpenShut
import Derived.ShutString
import Derived.ChangeOld
import Derived.Below
import Derived.SizedLaws
set_option linter.unusedVariables false
namespace Go.Proofs.Ytbaihncnbejjbaa
open Go.ChangeShapes Go.WideShapes Go.ChangeAt Go.RowKit
@[reducible] def A6.v (l : A6) : Value := .agg #[.int .i64 l.a0, .int .i64 l.a1, .int .i64 l.a2, .int .i64 l.a3, .int .i64 l.a4, .int .i64 l.a5]
section
variable {H : Type} {enc : TypeId × Value → H} {P : Program} {w : World} {base : Nat} {spare : Nat → Bool} {held : Bool}
/-- An array of six numbers, opened and shut. -/
theorem open_a6 {r : Reach} {b0 : Nat} {t e : TypeId} {v : Value} {d : DataW H} {p : List MemPlace} (ht : P.underlying t = some (.array 6 e)) (he : P.underlying e = some (.int .i64)) (hc : P.cellsOf e = 1) (hC : P.cellsOf t = 6)
    (hv : Value.okWide P w r b0 t v) (h : DataW.Trod enc P w base spare held t v d p) :
    ∃ l : A6, v = l.v ∧ d = .agg [.lit (.int .i64 l.a0), .lit (.int .i64 l.a1), .lit (.int .i64 l.a2), .lit (.int .i64 l.a3), .lit (.int .i64 l.a4), .lit (.int .i64 l.a5)] ∧ p = [] ∧
      (Lit.int .i64 l.a0).wf = true ∧ (Lit.int .i64 l.a1).wf = true ∧ (Lit.int .i64 l.a2).wf = true ∧ (Lit.int .i64 l.a3).wf = true ∧ (Lit.int .i64 l.a4).wf = true ∧ (Lit.int .i64 l.a5).wf = true := by
  simp only [Value.okWide, ht] at hv
  obtain ⟨cs, rfl, hsz, _⟩ := hv
  obtain ⟨l⟩ := cs
  match l, hsz.trans hC with
  | [c0, c1, c2, c3, c4, c5], _ =>
    obtain ⟨fuel, hf⟩ := h
    obtain ⟨xs, m, _, hx, _, hlen, hg⟩ := DataW.trod_array ht hf
    match xs, hlen with
    | [y0, y1, y2, y3, y4, y5], _ =>
      have k : ∀ (i : Nat) (c : Value) (y : DataW H × List MemPlace), DataW.trod enc P w base spare held m e [c] = some y → ∃ n, c = .int .i64 n ∧ y = (.lit (.int .i64 n), []) ∧ (Lit.int .i64 n).wf = true := by
        intro i c y hy
        obtain ⟨n, h1, h2, h3⟩ := DataW.trod_int he hy
        simp at h1
        exact ⟨n, h1, h2, h3⟩
      obtain ⟨n0, rfl, rfl, w0⟩ := k 0 c0 y0 (by simpa [Value.cells, hc] using hg 0 (by omega))
      obtain ⟨n1, rfl, rfl, w1⟩ := k 1 c1 y1 (by simpa [Value.cells, hc] using hg 1 (by omega))
      obtain ⟨n2, rfl, rfl, w2⟩ := k 2 c2 y2 (by simpa [Value.cells, hc] using hg 2 (by omega))
      obtain ⟨n3, rfl, rfl, w3⟩ := k 3 c3 y3 (by simpa [Value.cells, hc] using hg 3 (by omega))
      obtain ⟨n4, rfl, rfl, w4⟩ := k 4 c4 y4 (by simpa [Value.cells, hc] using hg 4 (by omega))
      obtain ⟨n5, rfl, rfl, w5⟩ := k 5 c5 y5 (by simpa [Value.cells, hc] using hg 5 (by omega))
      simp only [Prod.mk.injEq] at hx
      exact ⟨⟨n0, n1, n2, n3, n4, n5⟩, rfl, by simpa using hx.1, by simpa using hx.2, w0, w1, w2, w3, w4, w5⟩
theorem shut_a6 {t e : TypeId} (ht : P.underlying t = some (.array 6 e)) (he : P.underlying e = some (.int .i64)) (hc : P.cellsOf e = 1) (hC : P.cellsOf t = 6) (l : A6)
    (w0 : (Lit.int .i64 l.a0).wf = true) (w1 : (Lit.int .i64 l.a1).wf = true) (w2 : (Lit.int .i64 l.a2).wf = true) (w3 : (Lit.int .i64 l.a3).wf = true) (w4 : (Lit.int .i64 l.a4).wf = true) (w5 : (Lit.int .i64 l.a5).wf = true) :
    DataW.Trod enc P w base spare held t l.v (.agg [.lit (.int .i64 l.a0), .lit (.int .i64 l.a1), .lit (.int .i64 l.a2), .lit (.int .i64 l.a3), .lit (.int .i64 l.a4), .lit (.int .i64 l.a5)]) [] :=
  ⟨2, by simp [DataW.trod, Value.cells, ht, he, hc, hC, w0, w1, w2, w3, w4, w5, List.range, List.range.loop]⟩
end
end Go.Proofs.Ytbaihncnbejjbaa
