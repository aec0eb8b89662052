import Derived.Test.YtalffjplbhelcaaDoorMLexPlaces1
import Derived.WalkKit
import Derived.ProofKit
import Derived.OpenShut
import Derived.ShutString
import Derived.ChangeOld
import Derived.Below
import Derived.SizedLaws
import Derived.ChangeSlices
import Derived.Test.YtalffjplbhelcaaDoorMLexPlaces3
import Derived.Test.YtalffjplbhelcaaDoorMLexPlaces5
set_option linter.unusedVariables false
set_option linter.unusedSimpArgs false
namespace Go.Proofs.YtalffjplbhelcaaDoor
open Go.ChangeShapes Go.WideShapes Go.ChangeAt Go.RowKit
theorem heap_of_cell {w : World} {b o : Nat} {v : Value} (h : w.cell? ⟨b, o, none⟩ = some v) : ∃ (cs : List Value) (ty : TypeId) (fr : Nat × Nat), w.heap[b]? = some (.cells cs.toArray ty fr) ∧ cs[o]? = some v := by
  unfold World.cell? at h
  cases hb : w.heap[b]? with
  | none => simp [hb] at h
  | some x =>
    cases x <;> simp [hb] at h
    case cells c t fr => exact ⟨c.toList, t, fr, by simp, by simpa using h⟩
def Ints (W : World) (a : Option Addr) (len : Nat) : Prop := len = 0 ∨ ∃ b off, a = some ⟨b, off, none⟩ ∧ ∃ (cs : List Value) (ty : TypeId) (fr : Nat × Nat), W.heap[b]? = some (.cells cs.toArray ty fr) ∧ ∃ zs : Nat → Int, ∀ j, j < len → cs[off + j]? = some (.int .i64 (zs j))
theorem open_il {H : Type} {enc : TypeId × Value → H} {P : Program} {W : World} {base b0 : Nat} {held : Bool} {r : Reach} {t e : TypeId} {v : Value} {d : DataW H} {ps : List MemPlace} (ht : P.underlying t = some (.slice e)) (he : P.underlying e = some (.int .i64)) (hc : P.cellsOf e = 1)
    (hval : Value.okWide P W r b0 t v) (h : DataW.Trod enc P W base (fun _ => true) held t v d ps) :
    ∃ a len cap, v = .slice a len cap ∧ Ints W a len ∧ ∀ W', Below W.heap.size W W' → DataW.Trod enc P W' base (fun b => decide (b < W.heap.size)) held t v d ps := by
  obtain ⟨a0, len, cap, rfl⟩ := okWide_slice ht hval
  obtain ⟨fuel, hf⟩ := h
  refine ⟨a0, len, cap, rfl, ?_⟩
  rcases open_ints ht he hc hf with ⟨hcs, hx⟩ | ⟨a, len', cap', zs, hcs, hb, hl, hm, hz, hx, hcell, hw⟩
  · simp [Value.cells] at hcs
    obtain ⟨rfl, rfl, rfl⟩ := hcs
    simp only [Prod.mk.injEq] at hx
    obtain ⟨rfl, rfl⟩ := hx
    exact ⟨.inl rfl, fun W' _ => shut_slice_nil ht⟩
  · simp [Value.cells] at hcs
    obtain ⟨rfl, rfl, rfl⟩ := hcs
    simp only [Prod.mk.injEq] at hx
    obtain ⟨rfl, rfl⟩ := hx
    have hz0 : zs.length = cap := by simpa using hz
    have hlz : len ≤ zs.length := by omega
    have hz' : zs.length = if decide (a.block < W.heap.size) = true then cap else len := by
      by_cases h0 : 0 < zs.length
      · have := World.block_lt_of_cell? W _ (hcell 0 h0)
        have hlt : a.block < W.heap.size := by simpa [Addr.add] using this
        rw [if_pos (decide_eq_true hlt)]
        exact hz0
      · split <;> omega
    refine ⟨?_, fun W' bel => ?_⟩
    · by_cases h0 : len = 0
      · exact .inl h0
      · right
        obtain ⟨b, off, rfl, hc2⟩ := ints_at hcell (by omega)
        obtain ⟨cs, ty, fr, hh, _⟩ := heap_of_cell (hc2 0 (by omega))
        refine ⟨b, off, rfl, cs, ty, fr, hh, fun j => zs.getD j 0, fun j hj => ?_⟩
        obtain ⟨cs', ty', fr', hh', hv⟩ := heap_of_cell (hc2 j (by omega))
        rw [hh] at hh'
        simp only [Option.some.injEq, Obj.cells.injEq] at hh'
        have : cs = cs' := by
          have := congrArg Array.toList hh'.1
          simpa using this
        rw [this]
        exact hv
    · have := shut_ints (P := P) (w := W') (enc := enc) (base := base) (spare := fun b => decide (b < W.heap.size)) (held := held) (a := a) (cap := cap) (zs := zs) 0 ht he hc hb hl hm hz' (fun i hi => by
        have h1 := hcell i hi
        rw [← h1]
        exact World.cell?_of_block (bel.block _ (World.block_lt_of_cell? W _ h1))) hw
      exact ⟨_, this⟩
end Go.Proofs.YtalffjplbhelcaaDoor
namespace Go.Proofs.YtalffjplbhelcaaDoor
open Go.RowKit
theorem slI_nil (a : Option Addr) (x : Nat → Int) (NA : List Box) : SlI a 0 x NA := fun i hi => absurd hi (Nat.not_lt_zero i)
theorem slI_box {g off m t : Nat} {cs : List Value} {x : Nat → Int} {NA : List Box} (h : ∀ j, j < m → cs[off + j]? = some (.int .i64 (x j))) (hm : (⟨g, cs, t, true⟩ : Box) ∈ NA) : SlI (some ⟨g, off, none⟩) m x NA :=
  fun i hi => ⟨g, off, cs, t, rfl, hm, by rw [Nat.mul_one]; exact h i hi⟩
theorem at_one {W : World} {g t : Nat} {cs : List Value} {fr : Nat × Nat} (h : W.heap[g]? = some (.cells cs.toArray t fr)) : At [⟨g, cs, t, true⟩] W := by
  intro c hc
  obtain rfl := List.mem_singleton.1 hc
  exact ⟨fr, h⟩
end Go.Proofs.YtalffjplbhelcaaDoor
namespace Go.Proofs.YtalffjplbhelcaaDoor
open Go.RowKit
theorem ints_one {W : World} {a1 : Option Addr} {m1 : Nat} (h1 : Ints W a1 m1) : ∃ (NA : List Box) (x1 : Nat → Int), SlI a1 m1 x1 NA ∧ (NA.all fun b => b.ro) = true ∧ At NA W ∧ (NA.map Box.g).Nodup := by
  rcases h1 with rfl | ⟨b1, o1, rfl, cs1, t1, fr1, hh1, z1, hz1⟩
  · exact ⟨[], fun _ => 0, slI_nil _ _ _, rfl, by simp [At], by simp⟩
  · exact ⟨[⟨b1, cs1, t1, true⟩], z1, slI_box hz1 List.mem_cons_self, rfl, at_one hh1, by simp⟩
end Go.Proofs.YtalffjplbhelcaaDoor
namespace Go.Proofs.YtalffjplbhelcaaDoor
open Go.RowKit
theorem k10_true : known10 = true := by decide +kernel
theorem lexPlaces_calls {W : World} (a1 : Option Addr) (m1 c1 : Nat) (h1 : Ints W a1 m1) : Calls Tryd.prog 5 #[.slice a1 m1 c1] W fun e W' => e = .returned (.bool true) ∧ Below W.heap.size W W' := by
  obtain ⟨NA, x1, hl1, hro, hA, hnd⟩ := ints_one h1
  refine (c_places m1 c1 a1 x1 NA hl1 hro k10_true W hA hnd).mono ?_
  rintro e w' ⟨v', N, he, ⟨rfl, _⟩, _, _, hb⟩
  exact ⟨he, hb⟩
end Go.Proofs.YtalffjplbhelcaaDoor
