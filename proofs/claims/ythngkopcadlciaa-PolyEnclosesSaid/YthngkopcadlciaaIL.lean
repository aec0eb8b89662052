import Derived.Test.YthngkopcadlciaaMem
import Derived.WalkKit
import Derived.ProofKit
import Derived.OpenShut
import Derived.ShutString
import Derived.ChangeOld
import Derived.Below
import Derived.SizedLaws
import Derived.ChangeSlices
set_option linter.unusedVariables false
set_option linter.unusedSimpArgs false
namespace Go.Proofs.Ythngkopcadlciaa
open Go.ChangeShapes Go.WideShapes Go.ChangeAt Go.RowKit

/-! ## An argument that is a slice of integers -/
theorem heap_of_cell {w : World} {b o : Nat} {v : Value} (h : w.cell? ⟨b, o, none⟩ = some v) : ∃ (cs : List Value) (ty : TypeId) (fr : Nat × Nat), w.heap[b]? = some (.cells cs.toArray ty fr) ∧ cs[o]? = some v := by
  unfold World.cell? at h
  cases hb : w.heap[b]? with
  | none => simp [hb] at h
  | some x =>
    cases x <;> simp [hb] at h
    case cells c t fr => exact ⟨c.toList, t, fr, by simp, by simpa using h⟩
/-- The numbers of a slice lie in the world. -/
def Ints (W : World) (a : Option Addr) (len : Nat) : Prop := len = 0 ∨ ∃ b off, a = some ⟨b, off, none⟩ ∧ ∃ (cs : List Value) (ty : TypeId) (fr : Nat × Nat), W.heap[b]? = some (.cells cs.toArray ty fr) ∧ ∃ zs : Nat → Int, ∀ j, j < len → cs[off + j]? = some (.int .i64 (zs j))
theorem open_il {H : Type} {enc : TypeId × Value → H} {P : Program} {W : World} {base b0 : Nat} {held : Bool} {r : Reach} {t e : TypeId} {v : Value} {d : DataW H} {ps : List MemPlace} (ht : P.underlying t = some (.slice e)) (he : P.underlying e = some (.int .i64)) (hc : P.cellsOf e = 1)
    (hval : Value.okWide P W r b0 t v) (h : DataW.Trod enc P W base (fun _ => true) held t v d ps) :
    ∃ a len cap, v = .slice a len cap ∧ Ints W a len ∧ ∀ W', Below W.heap.size W W' → DataW.Trod enc P W' base (fun b => decide (b < W.heap.size)) held t v d ps := by
  obtain ⟨a0, len, cap, rfl⟩ := okWide_slice ht hval
  obtain ⟨fuel, hf⟩ := h
  refine ⟨a0, len, cap, rfl, ?_⟩
  rcases open_ints ht he hc hf with ⟨hcs, hx⟩ | ⟨a, len', cap', zs, hcs, hb, hl, hm, hz, hx, hcell, hw⟩
  · simp [Value.cells] at hcs
    obtain ⟨rfl, rfl, rfl⟩ := hcs
    simp only [Prod.mk.injEq] at hx
    obtain ⟨rfl, rfl⟩ := hx
    exact ⟨.inl rfl, fun W' _ => shut_slice_nil ht⟩
  · simp [Value.cells] at hcs
    obtain ⟨rfl, rfl, rfl⟩ := hcs
    simp only [Prod.mk.injEq] at hx
    obtain ⟨rfl, rfl⟩ := hx
    have hz0 : zs.length = cap := by simpa using hz
    have hlz : len ≤ zs.length := by omega
    have hz' : zs.length = if decide (a.block < W.heap.size) = true then cap else len := by
      by_cases h0 : 0 < zs.length
      · have := World.block_lt_of_cell? W _ (hcell 0 h0)
        have hlt : a.block < W.heap.size := by simpa [Addr.add] using this
        rw [if_pos (decide_eq_true hlt)]
        exact hz0
      · split <;> omega
    refine ⟨?_, fun W' bel => ?_⟩
    · by_cases h0 : len = 0
      · exact .inl h0
      · right
        obtain ⟨b, off, rfl, hc2⟩ := ints_at hcell (by omega)
        obtain ⟨cs, ty, fr, hh, _⟩ := heap_of_cell (hc2 0 (by omega))
        refine ⟨b, off, rfl, cs, ty, fr, hh, fun j => zs.getD j 0, fun j hj => ?_⟩
        obtain ⟨cs', ty', fr', hh', hv⟩ := heap_of_cell (hc2 j (by omega))
        rw [hh] at hh'
        simp only [Option.some.injEq, Obj.cells.injEq] at hh'
        have : cs = cs' := by
          have := congrArg Array.toList hh'.1
          simpa using this
        rw [this]
        exact hv
    · have := shut_ints (P := P) (w := W') (enc := enc) (base := base) (spare := fun b => decide (b < W.heap.size)) (held := held) (a := a) (cap := cap) (zs := zs) 0 ht he hc hb hl hm hz' (fun i hi => by
        have h1 := hcell i hi
        rw [← h1]
        exact World.cell?_of_block (bel.block _ (World.block_lt_of_cell? W _ h1))) hw
      exact ⟨_, this⟩
end Go.Proofs.Ythngkopcadlciaa
