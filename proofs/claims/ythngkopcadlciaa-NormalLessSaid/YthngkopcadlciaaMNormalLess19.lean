import Derived.Test.YthngkopcadlciaaMNormalLess18
import Derived.Test.YthngkopcadlciaaMNormalLess9
import Derived.Deep.Slices
import Derived.DataShut
set_option linter.unusedVariables false
set_option linter.unusedSimpArgs false
namespace Go.Proofs.Ythngkopcadlciaa
open Go.ChangeShapes Go.WideShapes Go.ChangeAt Go.RowKit Go.Deep
def Raws (W : World) (a : Option Addr) (len : Nat) : Prop := len = 0 ∨ ∃ b off, a = some ⟨b, off, none⟩ ∧ ∃ (cs : List Value) (ty : TypeId) (fr : Nat × Nat), W.heap[b]? = some (.cells cs.toArray ty fr) ∧ ∃ zs : Nat → RawFace, ∀ j, j < len → (cs.drop (off + j * 6)).take 6 = (zs j).cells
section
variable {H : Type} {enc : TypeId × Value → H} {base : Nat} {held : Bool}
theorem rf_cells : Try.prog.cellsOf 125 = 6 := by kernel_rfl
theorem rf_int : Try.prog.cellsOf 3 = 1 := by kernel_rfl
set_option maxRecDepth 100000 in
theorem rf_down {w : World} {spare : Nat → Bool} {n : Nat} {cs : List Value} {x : DataW H × List MemPlace} (hf : DataW.trod enc Try.prog w base spare held n 125 cs = some x) :
    ∃ l : RawFace, cs = l.cells ∧ x = (.agg [.lit (.int .i64 l.kind), .lit (.int .i64 l.r), .lit (.int .i64 l.a), .lit (.int .i64 l.t), .lit (.int .i64 l.g), .lit (.int .i64 l.k)], []) ∧
      (Lit.int .i64 l.kind).wf = true ∧ (Lit.int .i64 l.r).wf = true ∧ (Lit.int .i64 l.a).wf = true ∧ (Lit.int .i64 l.t).wf = true ∧ (Lit.int .i64 l.g).wf = true ∧ (Lit.int .i64 l.k).wf = true := by
  obtain ⟨xs, m, _, hx, hcl, hlen, hg⟩ := DataW.trod_struct Try.underlying125 hf
  match cs, hcl.trans rf_cells with
  | [c0, c1, c2, c3, c4, c5], _ =>
    match xs, hlen with
    | [y0, y1, y2, y3, y4, y5], _ =>
      have k : ∀ (c : Value) (y : DataW H × List MemPlace), DataW.trod enc Try.prog w base spare held m 3 [c] = some y → ∃ n, c = .int .i64 n ∧ y = (.lit (.int .i64 n), []) ∧ (Lit.int .i64 n).wf = true := by
        intro c y hy
        obtain ⟨n, h1, h2, h3⟩ := DataW.trod_int Try.underlying3 hy
        simp at h1
        exact ⟨n, h1, h2, h3⟩
      obtain ⟨n0, rfl, rfl, w0⟩ := k c0 y0 (by simpa [Value.cells, rf_int] using hg 0 _ rfl)
      obtain ⟨n1, rfl, rfl, w1⟩ := k c1 y1 (by simpa [Value.cells, rf_int] using hg 1 _ rfl)
      obtain ⟨n2, rfl, rfl, w2⟩ := k c2 y2 (by simpa [Value.cells, rf_int] using hg 2 _ rfl)
      obtain ⟨n3, rfl, rfl, w3⟩ := k c3 y3 (by simpa [Value.cells, rf_int] using hg 3 _ rfl)
      obtain ⟨n4, rfl, rfl, w4⟩ := k c4 y4 (by simpa [Value.cells, rf_int] using hg 4 _ rfl)
      obtain ⟨n5, rfl, rfl, w5⟩ := k c5 y5 (by simpa [Value.cells, rf_int] using hg 5 _ rfl)
      exact ⟨⟨n0, n1, n2, n3, n4, n5⟩, rfl, by rw [hx]; rfl, w0, w1, w2, w3, w4, w5⟩
set_option maxRecDepth 100000 in
theorem rf_up {w : World} {spare : Nat → Bool} (l : RawFace) (w0 : (Lit.int .i64 l.kind).wf = true) (w1 : (Lit.int .i64 l.r).wf = true) (w2 : (Lit.int .i64 l.a).wf = true) (w3 : (Lit.int .i64 l.t).wf = true) (w4 : (Lit.int .i64 l.g).wf = true) (w5 : (Lit.int .i64 l.k).wf = true) :
    DataW.trod enc Try.prog w base spare held 2 125 l.cells = some (.agg [.lit (.int .i64 l.kind), .lit (.int .i64 l.r), .lit (.int .i64 l.a), .lit (.int .i64 l.t), .lit (.int .i64 l.g), .lit (.int .i64 l.k)], []) := by
  simp [DataW.trod, RawFace.cells, Try.underlying125, Try.underlying3, rf_int, rf_cells, w0, w1, w2, w3, w4, w5]
set_option maxRecDepth 100000 in
theorem open_rf {W : World} {b0 : Nat} {r : Reach} {v : Value} {d : DataW H} {ps : List MemPlace}
    (hval : Value.okWide Try.prog W r b0 45 v) (h : DataW.Trod enc Try.prog W base (fun _ => true) held 45 v d ps) :
    ∃ a len cap, v = .slice a len cap ∧ Raws W a len ∧ ∀ W', Below W.heap.size W W' → DataW.Trod enc Try.prog W' base (fun b => decide (b < W.heap.size)) held 45 v d ps := by
  obtain ⟨a0, len, cap, rfl⟩ := okWide_slice Try.underlying45 hval
  obtain ⟨fuel, hf⟩ := h
  refine ⟨a0, len, cap, rfl, ?_⟩
  rcases open_slice Try.underlying45 hf with ⟨hcs, hx⟩ | ⟨a, len', cap', m, n, D, Pl, hcs, hb, hl, hm, hmm, hx, hel⟩
  · simp [Value.cells] at hcs
    obtain ⟨rfl, rfl, rfl⟩ := hcs
    simp only [Prod.mk.injEq] at hx
    obtain ⟨rfl, rfl⟩ := hx
    exact ⟨.inl rfl, fun W' _ => shut_slice_nil Try.underlying45⟩
  · simp [Value.cells] at hcs
    obtain ⟨rfl, rfl, rfl⟩ := hcs
    simp only [Prod.mk.injEq] at hx
    obtain ⟨rfl, rfl⟩ := hx
    simp only [if_true] at hmm
    replace hmm := hmm.symm
    subst hmm
    rw [rf_cells] at hel
    refine ⟨?_, fun W' bel => ?_⟩
    · by_cases h0 : len = 0
      · exact .inl h0
      · right
        obtain ⟨b, off, spot⟩ := a
        have hspot : spot = none := by
          obtain ⟨cs', hc, ht⟩ := hel 0 (by omega)
          obtain ⟨l, rfl, _⟩ := rf_down ht
          have := (World.cells?_some hc).2.2 0 (by decide)
          have h2 : W.cell? (((⟨b, off, spot⟩ : Addr).add (0 * 6)).add 0) = some (.int .i64 l.kind) := this
          simpa [Addr.add] using World.cell?_spot h2
        subst hspot
        have key : ∀ j, j < len → ∃ l : RawFace, ∀ (i : Nat) (u : Value), l.cells[i]? = some u → W.cell? ⟨b, off + j * 6 + i, none⟩ = some u := by
          intro j hj
          obtain ⟨cs', hc, ht⟩ := hel j (by omega)
          obtain ⟨l, rfl, _⟩ := rf_down ht
          refine ⟨l, fun i u hi => ?_⟩
          have hlt : i < 6 := (List.getElem?_eq_some_iff.1 hi).1
          have := (World.cells?_some hc).2.2 i hlt
          rw [← hi, ← this, Go.WideShapes.add_plain, Go.WideShapes.add_plain]
        obtain ⟨zs, hzs⟩ : ∃ zs : Nat → RawFace, ∀ j, j < len → ∀ (i : Nat) (u : Value), (zs j).cells[i]? = some u → W.cell? ⟨b, off + j * 6 + i, none⟩ = some u := by
          classical
          exact ⟨fun j => if hj : j < len then Classical.choose (key j hj) else ⟨0, 0, 0, 0, 0, 0⟩, fun j hj => by
            simp only [dif_pos hj]
            exact Classical.choose_spec (key j hj)⟩
        obtain ⟨cs, ty, fr, hh, _⟩ := heap_of_cell (hzs 0 (by omega) 0 _ rfl)
        refine ⟨b, off, rfl, cs, ty, fr, hh, zs, fun j hj => ?_⟩
        have hc : ∀ (i : Nat) (u : Value), (zs j).cells[i]? = some u → cs[off + j * 6 + i]? = some u := by
          intro i u hi
          obtain ⟨cs', ty', fr', hh', hv⟩ := heap_of_cell (hzs j hj i u hi)
          rw [hh] at hh'
          simp only [Option.some.injEq, Obj.cells.injEq] at hh'
          have : cs = cs' := by
            have := congrArg Array.toList hh'.1
            simpa using this
          rw [this]
          exact hv
        apply List.ext_getElem?
        intro i
        by_cases hi : i < 6
        · rw [List.getElem?_take, if_pos hi, List.getElem?_drop]
          have h6 : ∃ u, (zs j).cells[i]? = some u := ⟨_, List.getElem?_eq_getElem (show i < (zs j).cells.length from hi)⟩
          obtain ⟨u, hu⟩ := h6
          rw [hu, hc i u hu]
        · rw [List.getElem?_take, if_neg hi, List.getElem?_eq_none (show (zs j).cells.length ≤ i by show 6 ≤ i; omega)]
    · have each : ∀ i, i < cap → ∃ cs n, W'.cells? base (a.add (i * Try.prog.cellsOf 125)) (Try.prog.cellsOf 125) = some cs ∧ DataW.trod enc Try.prog W' base (fun b => decide (b < W.heap.size)) held n 125 cs = some (D i, Pl i) := by
        intro i hi
        rw [rf_cells]
        obtain ⟨cs', hc, ht⟩ := hel i hi
        obtain ⟨l, rfl, hx, w0, w1, w2, w3, w4, w5⟩ := rf_down ht
        refine ⟨_, 2, ?_, by rw [hx]; exact rf_up l w0 w1 w2 w3 w4 w5⟩
        have hlt := World.cells?_block hc (by decide)
        obtain ⟨h1, h2, h3⟩ := World.cells?_some hc
        refine World.cells?_of_each h1 h2 fun j hj => ?_
        rw [← h3 j hj]
        have hbl : ((a.add (i * 6)).add j).block = (a.add (i * 6)).block := by
          simp only [Addr.add]
          split <;> rfl
        exact bel.cell (by rw [hbl]; exact hlt)
      have hsz : 0 < cap → a.block < W.heap.size := by
        intro h0
        obtain ⟨cs', hc, _⟩ := hel 0 h0
        have := World.cells?_block hc (by decide)
        simpa [Addr.add] using this
      by_cases h0 : 0 < cap
      · exact shut_slice_whole Try.underlying45 hb hl hm (decide_eq_true (hsz h0)) D Pl each
      · obtain rfl : cap = 0 := by omega
        by_cases hs : a.block < W.heap.size
        · exact shut_slice_whole Try.underlying45 hb hl hm (decide_eq_true hs) D Pl each
        · obtain rfl : len = 0 := by omega
          have := shut_slice (enc := enc) (P := Try.prog) (w := W') (base := base) (spare := fun b => decide (b < W.heap.size)) (held := held) (a := a) (len := 0) (cap := 0) Try.underlying45 hb hl hm (decide_eq_false hs) D Pl (fun i hi => absurd hi (Nat.not_lt_zero _))
          simpa using this
end
end Go.Proofs.Ythngkopcadlciaa
namespace Go.Proofs.Ythngkopcadlciaa
open Go.RowKit
theorem normalLess_calls (W : World) (back : Int) (a : Option Addr) (len cap : Nat) (x_ y_ z_ w_ m_ n_ kt : Int) (h : Raws W a len) : Calls Try.prog 14 #[.int .i64 back, .slice a len cap, .int .i64 x_, .int .i64 y_, .int .i64 z_, .int .i64 w_, .int .i64 m_, .int .i64 n_, .int .i64 kt] W fun e W' => e = .returned (.bool true) ∧ Below W.heap.size W W' := by
  rcases h with rfl | ⟨b, off, rfl, cs, ty, fr, hh, zs, hz⟩
  · refine (c_lawNormalLess0 back x_ y_ z_ w_ m_ n_ kt a cap known16_true (fun S hS => List.all_eq_true.2 fun s hs => norLessR_true _ _ _ (hInV_Le _ _ _) s (hS s hs)) W (by simp [At]) (by simp)).mono ?_
    rintro e w' ⟨v', N, he, ⟨rfl, _⟩, _, _, hb⟩
    exact ⟨he, hb⟩
  · have hl : ((List.range len).map zs).length = len := by simp
    have hA : At [⟨b, cs, ty, true⟩] W := by
      intro c hc
      obtain rfl := List.mem_singleton.1 hc
      exact ⟨fr, hh⟩
    have hg := c_lawNormalLess back x_ y_ z_ w_ m_ n_ kt ((List.range len).map zs) b off ty cap cs (fun j z hj => by
      have hlt : j < len := by
        have := (List.getElem?_eq_some_iff.1 hj).1
        rw [hl] at this
        exact this
      have := hz j hlt
      rw [this]
      simp only [List.getElem?_map, List.getElem?_range hlt, Option.map_some, Option.some.injEq] at hj
      rw [hj]) known16_true (fun S hS => List.all_eq_true.2 fun s hs => norLessR_true _ _ _ (hInV_Le _ _ _) s (hS s hs))
    rw [hl] at hg
    refine (hg W hA (by simp)).mono ?_
    rintro e w' ⟨v', N, he, ⟨rfl, _⟩, _, _, hb⟩
    exact ⟨he, hb⟩
end Go.Proofs.Ythngkopcadlciaa
