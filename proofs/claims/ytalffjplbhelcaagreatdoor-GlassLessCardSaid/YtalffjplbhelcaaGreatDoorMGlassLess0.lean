import Derived.WalkKit
import Derived.WalkSpells
import Derived.WalkLawsBesides
import Derived.LoopN
import Derived.Orders
set_option linter.unusedVariables false
set_option linter.unusedSimpArgs false
namespace Go.Proofs.YtalffjplbhelcaaGreatDoor
open Go.RowKit
structure Box where
  g : Nat
  cs : List Value
  t : TypeId
  ro : Bool
structure Base where
  W : Nat → Prop
  w0 : World
def Base.may (β : Base) (k : Nat) : Prop := β.w0.heap.size ≤ k ∨ β.W k
structure Keeps (β : Base) (w : World) : Prop where
  base : Below 0 β.w0 w
  block : ∀ k, ¬ β.may k → w.heap[k]? = β.w0.heap[k]?
theorem Keeps.refl (W : Nat → Prop) (w : World) : Keeps ⟨W, w⟩ w := ⟨Below.refl _ _, fun _ _ => rfl⟩
theorem Keeps.size {β : Base} {w : World} (h : Keeps β w) : β.w0.heap.size ≤ w.heap.size := h.base.size
theorem Keeps.trans {β : Base} {w w' : World} (h : Keeps β w) (k : Below w.heap.size w w') : Keeps β w' :=
  ⟨h.base.trans (k.mono (Nat.zero_le _)), fun i hi => by
    have h1 : i < w.heap.size := by
      refine Nat.lt_of_lt_of_le (Nat.lt_of_not_le fun hle => hi (.inl hle)) h.size
    rw [k.block i h1, h.block i hi]⟩
theorem Keeps.alloc {β : Base} {w : World} (h : Keeps β w) (o : Obj) : Keeps β (w.alloc o) := h.trans ((Below.refl _ w).alloc (Nat.le_refl _) o)
theorem Keeps.drew {β : Base} {w : World} (h : Keeps β w) : Keeps β w.drew := ⟨h.base.drew, h.block⟩
theorem Keeps.below {w0 w : World} (h : Keeps ⟨fun _ => False, w0⟩ w) : Below w0.heap.size w0 w :=
  ⟨h.base.os, h.base.tape, h.base.output, h.base.size, fun k hk => h.block k (fun hm => hm.elim (fun h => absurd hk (Nat.not_lt.2 h)) id)⟩
theorem Keeps.setRow {β : Base} {w : World} (h : Keeps β w) (g : Nat) (cs : Array Value) (hg : β.may g) : Keeps β (w.setRow g cs) :=
  ⟨h.base.trans ⟨rfl, rfl, rfl, by simp, fun k hk => absurd hk (Nat.not_lt_zero _)⟩, fun k hk => by
    have hne : k ≠ g := fun e => hk (e ▸ hg)
    rw [setRow_other w g k cs hne]
    exact h.block k hk⟩
structure Own (β : Base) (H : List Box) (w : World) : Prop where
  size : β.w0.heap.size ≤ w.heap.size
  at_ : ∀ b ∈ H, (b.ro = true ∨ β.may b.g) ∧ ∃ fr, (b.ro = false → fr = (0, 0)) ∧ w.heap[b.g]? = some (.cells b.cs.toArray b.t fr)
  apart : (H.map Box.g).Nodup
theorem Own.nil (W : Nat → Prop) (w : World) : Own ⟨W, w⟩ [] w := ⟨Nat.le_refl _, by simp, by simp⟩
theorem Own.below {β : Base} {H : List Box} {w w' : World} (h : Own β H w) (hb : Below w.heap.size w w') : Own β H w' :=
  ⟨Nat.le_trans h.size hb.size, fun b hb' => ⟨(h.at_ b hb').1, by
    obtain ⟨fr, hf, this⟩ := (h.at_ b hb').2
    exact ⟨fr, hf, by rw [hb.block _ (Array.getElem?_eq_some_iff.1 this).1]; exact this⟩⟩, h.apart⟩
theorem Own.drew {β : Base} {H : List Box} {w : World} (h : Own β H w) : Own β H w.drew := ⟨h.size, h.at_, h.apart⟩
theorem Own.lt {β : Base} {H : List Box} {w : World} (h : Own β H w) {b : Box} (hb : b ∈ H) : b.g < w.heap.size := by
  obtain ⟨_, fr, _, hh⟩ := h.at_ b hb
  exact (Array.getElem?_eq_some_iff.1 hh).1
theorem Own.alloc {β : Base} {H : List Box} {w : World} (h : Own β H w) (cs : List Value) (t : TypeId) : Own β (⟨w.heap.size, cs, t, false⟩ :: H) (w.alloc (.cells cs.toArray t (0, 0))) := by
  refine ⟨Nat.le_trans h.size (by simp), ?_, ?_⟩
  · intro b hb
    rcases List.mem_cons.1 hb with rfl | hb
    · exact ⟨.inr (.inl h.size), (0, 0), fun _ => rfl, heap_alloc_new w _⟩
    · obtain ⟨h1, fr, hf, hh⟩ := h.at_ b hb
      exact ⟨h1, fr, hf, (Below.heap_alloc w _ _ (h.lt hb)).trans hh⟩
  · simp only [List.map_cons, List.nodup_cons]
    refine ⟨?_, h.apart⟩
    intro hm
    obtain ⟨b, hb, e⟩ := List.mem_map.1 hm
    have := h.lt hb
    omega
theorem Own.perm {β : Base} {H H' : List Box} {w : World} (h : Own β H w) (hp : H.Perm H') : Own β H' w :=
  ⟨h.size, fun b hb => h.at_ b (hp.mem_iff.2 hb), (hp.map Box.g).nodup_iff.1 h.apart⟩
def upd (H : List Box) (i : Nat) (cs : List Value) : List Box := H.modify i (fun b => { b with cs := cs })
theorem upd_g (H : List Box) (i : Nat) (cs : List Value) : (upd H i cs).map Box.g = H.map Box.g := by
  unfold upd
  apply List.ext_getElem?
  intro j
  simp only [List.getElem?_map, List.getElem?_modify]
  cases hj : H[j]? with
  | none => simp
  | some x => by_cases h : i = j <;> simp [h]
theorem upd_append (H F : List Box) (i : Nat) (b : Box) (hi : H[i]? = some b) (cs : List Value) : upd (H ++ F) i cs = upd H i cs ++ F := by
  have hlt : i < H.length := (List.getElem?_eq_some_iff.1 hi).1
  unfold upd
  apply List.ext_getElem?
  intro j
  rw [List.getElem?_modify]
  by_cases hj : j < H.length
  · rw [List.getElem?_append_left hj, List.getElem?_append_left (by simpa using hj), List.getElem?_modify]
  · rw [List.getElem?_append_right (by omega), List.getElem?_append_right (by simpa using Nat.le_of_not_lt hj)]
    have : ¬ i = j := by omega
    simp [this]
theorem Own.set {β : Base} {H : List Box} {w : World} (h : Own β H w) (i : Nat) (b : Box) (hi : H[i]? = some b) (hro : b.ro = false) (cs : List Value) : Own β (upd H i cs) (w.setRow b.g cs.toArray) := by
  have hb : b ∈ H := List.mem_of_getElem? hi
  refine ⟨by simpa using h.size, ?_, by rw [upd_g]; exact h.apart⟩
  intro x hx
  obtain ⟨j, hj⟩ := List.mem_iff_getElem?.1 hx
  unfold upd at hj
  rw [List.getElem?_modify] at hj
  cases hy : H[j]? with
  | none => simp [hy] at hj
  | some y =>
    have hym : y ∈ H := List.mem_of_getElem? hy
    simp only [hy, Option.map_some, Option.some.injEq] at hj
    by_cases hij : i = j
    · subst hij
      rw [hi] at hy
      cases hy
      simp at hj
      subst hj
      obtain ⟨h1, fr, hf, hh⟩ := h.at_ b hb
      obtain rfl := hf hro
      exact ⟨h1, (0, 0), fun _ => rfl, setRow_heap w b.g b.cs.toArray cs.toArray b.t (0, 0) hh⟩
    · simp [hij] at hj
      subst hj
      have hne : y.g ≠ b.g := by
        intro e
        have hn := h.apart
        rw [List.nodup_iff_pairwise_ne, List.pairwise_iff_getElem] at hn
        have h1 : i < (H.map Box.g).length := by simpa using (List.getElem?_eq_some_iff.1 hi).1
        have h2 : j < (H.map Box.g).length := by simpa using (List.getElem?_eq_some_iff.1 hy).1
        have e1 : (H.map Box.g)[i] = b.g := by simp [(List.getElem?_eq_some_iff.1 hi).2]
        have e2 : (H.map Box.g)[j] = y.g := by simp [(List.getElem?_eq_some_iff.1 hy).2]
        rcases Nat.lt_or_ge i j with hlt | hge
        · exact hn i j h1 h2 hlt (by rw [e1, e2, e])
        · exact hn j i h2 h1 (by omega) (by rw [e1, e2, e])
      obtain ⟨h1, fr, hf, hh⟩ := h.at_ y hym
      exact ⟨h1, fr, hf, (setRow_other w b.g y.g cs.toArray hne).trans hh⟩
abbrev Env := Nat → Value
def Env.put (E : Env) (d : Option Nat) (v : Value) : Env :=
  match d with
  | some d => fun t => bif Nat.beq t d then v else E t
  | none => E
def ev (n : Nat) (E : Env) : Operand → Value
  | .tmp t => bif Nat.blt t n then E t else undef
  | .const v => v
  | .global g => .pointer (some ⟨g, 0, none⟩)
  | .func f => .func (.func f) #[] #[]
structure Sees (n : Nat) (E : Env) (a : Act) : Prop where
  defers : a.defers = []
  size : a.tmps.size = n
  at_ : ∀ t, t < n → a.tmps[t]? = some (E t)
theorem Sees.eval {n : Nat} {E : Env} {a : Act} (h : Sees n E a) : a.eval = ev n E := by
  funext x
  cases x with
  | tmp t =>
    simp only [Act.eval, ev]
    by_cases ht : t < n
    · have hb : Nat.blt t n = true := by simpa [Nat.blt_eq] using ht
      rw [hb]
      simp [h.at_ t ht]
    · have hb : Nat.blt t n = false := by
        rw [Bool.eq_false_iff]; intro hc; exact ht (by simpa [Nat.blt_eq] using hc)
      rw [hb]
      have : a.tmps[t]? = none := by
        rw [Array.getElem?_eq_none_iff]
        exact Nat.le_trans (Nat.le_of_eq h.size) (Nat.le_of_not_lt ht)
      simp [this]
  | const v => rfl
  | global g => rfl
  | func f => rfl
theorem Sees.put {n : Nat} {E : Env} {a : Act} (h : Sees n E a) (d : Option Nat) (v : Value) : Sees n (E.put d v) (a.put d v) := by
  cases d with
  | none => exact h
  | some d =>
    refine ⟨h.defers, by simp [Act.put, h.size], fun t ht => ?_⟩
    simp only [Act.put, Env.put]
    by_cases htd : t = d
    · subst htd
      have : Nat.beq t t = true := by simp
      rw [this]
      simp [h.size, ht]
    · have : Nat.beq t d = false := by
        rw [Bool.eq_false_iff]; intro hc; exact htd (Nat.eq_of_beq_eq_true hc)
      rw [this]
      simp [Array.getElem?_setIfInBounds_ne (Ne.symm htd), h.at_ t ht]
def yld (n : Nat) (ops : Array Oper) (E : Env) (o : Oper) : Bool :=
  match o.guard with
  | none => true
  | some (j, want) => match (ops[j]?).bind (·.dst) with
    | some t => (match ev n E (.tmp t) with | .bool b => b == want | _ => false)
    | none => false
theorem Sees.yld {n : Nat} {E : Env} {a : Act} (h : Sees n E a) (ops : Array Oper) (o : Oper) : Region.wanted o (yielded ops a.tmps) = yld n ops E o := by
  unfold Region.wanted YtalffjplbhelcaaGreatDoor.yld
  cases o.guard with
  | none => rfl
  | some gw =>
    obtain ⟨j, want⟩ := gw
    simp only [yielded]
    cases (ops[j]?).bind (·.dst) with
    | none => rfl
    | some t =>
      have e : a.eval (.tmp t) = ev n E (.tmp t) := by rw [h.eval]
      simp only [Option.bind_some]
      simp only [Act.eval] at e
      have e2 : a.tmps.getD t undef = (a.tmps[t]?).getD undef := by simp
      rw [e2] at e
      cases hq : a.tmps[t]? with
      | none =>
        rw [hq] at e
        rw [← e]
        rfl
      | some v =>
        rw [hq] at e
        simp only [Option.getD_some] at e
        rw [← e]
        cases v <;> rfl
def aggD (d : TypeDesc) : Bool := match d with | .struct _ | .array _ _ => true | _ => false
abbrev Post := Value → List Box → Prop
def Step (p : Program) (ρ : Operand → Value) (o : Oper) (H : List Box) (K : Post) : Prop :=
  ∀ F β w, Own β (H ++ F) w → Keeps β w →
    match (execOp ρ o).run p w with
    | .ok (.value v) w' => ∃ H', K v H' ∧ Own β (H' ++ F) w' ∧ Keeps β w'
    | .ok .skip w' => ∃ H', K undef H' ∧ Own β (H' ++ F) w' ∧ Keeps β w'
    | .ok (.enter f args) w' => Calls p f args w' fun e w'' => ∃ v H', e = .returned v ∧ K v H' ∧ Own β (H' ++ F) w'' ∧ Keeps β w''
    | _ => False
theorem Step.mono {p : Program} {ρ : Operand → Value} {o : Oper} {H : List Box} {K K' : Post} (h : Step p ρ o H K) (hk : ∀ v H', K v H' → K' v H') : Step p ρ o H K' := by
  intro F β w hO hB
  have := h F β w hO hB
  revert this
  cases (execOp ρ o).run p w with
  | ok x w' =>
    cases x <;> intro this <;> first | exact this | skip
    case value v => obtain ⟨H', a, b⟩ := this; exact ⟨H', hk _ _ a, b⟩
    case skip => obtain ⟨H', a, b⟩ := this; exact ⟨H', hk _ _ a, b⟩
    case enter f args => exact this.mono fun e w'' ⟨v, H', a, b, c⟩ => ⟨v, H', a, hk _ _ b, c⟩
  | halt x w' => exact id
theorem Step.wpF {p : Program} {n : Nat} {E : Env} {a : Act} {o : Oper} {H F : List Box} {K : Post} {β : Base} {w : World} {next : Act → World → Prop} {Q : Exit → Act → World → Prop}
    (h : Step p (ev n E) o H K) (hs : Sees n E a) (hO : Own β (H ++ F) w) (hB : Keeps β w)
    (hn : ∀ v H' w', K v H' → Own β (H' ++ F) w' → Keeps β w' → next (a.put o.dst v) w') : o.wp p a w next Q := by
  have := h F β w hO hB
  unfold Oper.wp
  rw [hs.eval]
  revert this
  cases (execOp (ev n E) o).run p w with
  | ok x w' =>
    cases x <;> intro this <;> first | exact this.elim | skip
    case value v => obtain ⟨H', a, b, c⟩ := this; exact hn _ _ _ a b c
    case skip => obtain ⟨H', a, b, c⟩ := this; exact hn _ _ _ a b c
    case enter f args =>
      refine Calls.mono this fun e w'' ⟨v, H', a, b, c, d⟩ => ?_
      subst a
      exact hn _ _ _ b c d
  | halt x w' => exact fun h => h.elim
theorem Step.wp {p : Program} {n : Nat} {E : Env} {a : Act} {o : Oper} {H : List Box} {K : Post} {β : Base} {w : World} {next : Act → World → Prop} {Q : Exit → Act → World → Prop}
    (h : Step p (ev n E) o H K) (hs : Sees n E a) (hO : Own β H w) (hB : Keeps β w)
    (hn : ∀ v H' w', K v H' → Own β H' w' → Keeps β w' → next (a.put o.dst v) w') : o.wp p a w next Q :=
  h.wpF (F := []) hs (by simpa using hO) hB (fun v H' w' k hO' hB' => hn v H' w' k (by simpa using hO') hB')
def Gets (p : Program) (f : FuncId) (args : Array Value) (v : Value) : Prop :=
  ∀ w, Calls p f args w fun e w' => e = .returned v ∧ Below w.heap.size w w'
section
variable {p : Program} {ρ : Operand → Value} {o : Oper} {H : List Box} {K : Post}
theorem st_val {v : Value} (h : ∀ w, (execOp ρ o).run p w = .ok (.value v) w) (k : K v H) : Step p ρ o H K := by
  intro F β w hO hB
  rw [h w]
  exact ⟨H, k, hO, hB⟩
theorem st_move {x : Operand} {v : Value} (ho : o.op = .move x) (hx : ρ x = v) (k : K v H) : Step p ρ o H K := st_val (fun w => by rw [execOp, ho, ← hx]; rfl) k
theorem st_assign {x : Operand} {v : Value} (ho : o.op = .assign x) (hx : ρ x = v) (k : K v H) : Step p ρ o H K := st_val (fun w => by rw [execOp, ho, ← hx]; rfl) k
theorem st_pick {c x y : Operand} {b : Bool} {v u r : Value} (ho : o.op = .pick c x y) (hc : ρ c = .bool b) (hx : ρ x = v) (hy : ρ y = u) (hr : (if b then v else u) = r) (k : K r H) : Step p ρ o H K :=
  st_val (fun w => by rw [execOp, ho, ← hr, ← hx, ← hy]; simp only [hc]; rfl) k
theorem st_call {f : FuncId} {args : List Operand} {ts : Array TypeId} {vs : List Value} {r : Value} {fn : Func} {c : Code} (ho : o.op = .call { callee := .value (.func f), args := args.toArray, argTypes := ts })
    (hf : ρ (.func f) = .func (.func f) #[] #[]) (hv : args.map ρ = vs) (hfn : p.funcs[f]? = some fn) (hb : fn.body = some c) (hnm : (fn.name == "runtime.NumGoroutine") = false) (h : Gets p f vs.toArray r) (k : K r H) : Step p ρ o H K := by
  intro F β w hO hB
  have e : (execOp ρ o).run p w = .ok (.enter f vs.toArray) w := by
    rw [execOp, ho]
    simp only [resolve, hf, Deferred.ofValue, List.map_toArray, hv]
    have hnm' : ¬ fn.name = "runtime.NumGoroutine" := by simpa using hnm
    simp [Sem.run_bind, invoke, callFunc, hfn, hnm', hb]
  rw [e]
  exact (h w).mono fun e w' ⟨he, hb'⟩ => ⟨r, H, he, k, hO.below hb', hB.trans hb'⟩
theorem st_alloc {t : TypeId} {z : Value} (ho : o.op = .alloc t) (hi : (p.info? t).map (·.zero) = some (some z)) {cs : List Value} (hc : z.cells = cs.toArray) (k : ∀ g, K (.pointer (some ⟨g, 0, none⟩)) (⟨g, cs, t, false⟩ :: H)) : Step p ρ o H K := by
  intro F β w hO hB
  have e : (execOp ρ o).run p w = .ok (.value (.pointer (some ⟨w.heap.size, 0, none⟩))) (w.alloc (.cells cs.toArray t (0, 0))) := by
    rw [← hc]
    rw [execOp, ho]
    cases hq : p.info? t with
    | none => simp [hq] at hi
    | some i =>
      have hz : i.zero = some z := by simpa [hq] using hi
      simp [Instr.alloc, zeroValue, typeInfo, hq, hz, newVar, newRow, Sem.run_bind]
  rw [e]
  exact ⟨_, k _, hO.alloc _ _, hB.alloc _⟩
theorem st_box {t : TypeId} {x : Operand} {v : Value} {cs : List Value} (ho : o.op = .box t x) (hx : ρ x = v) (hc : v.cells = cs.toArray) (k : ∀ g, K (.pointer (some ⟨g, 0, none⟩)) (⟨g, cs, t, false⟩ :: H)) : Step p ρ o H K := by
  intro F β w hO hB
  have e : (execOp ρ o).run p w = .ok (.value (.pointer (some ⟨w.heap.size, 0, none⟩))) (w.alloc (.cells cs.toArray t (0, 0))) := by
    rw [execOp, ho]
    simp [Instr.box, newVar, newRow, Sem.run_bind, hx, hc]
  rw [e]
  exact ⟨_, k _, hO.alloc _ _, hB.alloc _⟩
theorem add_at (g off j : Nat) : (⟨g, off, none⟩ : Addr).add j = ⟨g, off + j, none⟩ := by unfold Addr.add; split <;> simp_all
theorem st_load_agg {t : TypeId} {x : Operand} {g off : Nat} {b : Box} {d : TypeDesc} {vs : List Value} (i : Nat) (ho : o.op = .load t x) (hx : ρ x = .pointer (some ⟨g, off, none⟩)) (hm : H[i]? = some b) (hg : b.g = g)
    (hu : p.underlying t = some d) (hd : aggD d = true) (hi : (p.info? t).map (·.size) = some vs.length) (hv : (b.cs.drop off).take vs.length = vs) (k : K (.agg vs.toArray) H) : Step p ρ o H K := by
  intro F β w hO hB
  obtain ⟨fr, _, hb⟩ := (hO.at_ b (List.mem_append_left _ (List.mem_of_getElem? hm))).2
  have e : (execOp ρ o).run p w = .ok (.value (.agg vs.toArray)) w := by
    rw [execOp, ho]
    simp only [hx]
    have hl : (loadCells ⟨g, off, none⟩ vs.length).run p w = .ok vs.toArray w :=
      run_loadCells_list (P := p) w ⟨g, off, none⟩ vs (fun j v hv' => by
        rw [add_at, ← hg, cell_of_row w b.g (off + j) b.cs.toArray b.t fr hb]
        rw [← hv, List.getElem?_take] at hv'
        split at hv'
        · rw [List.getElem?_drop] at hv'
          simpa using hv'
        · cases hv')
    cases hq : p.info? t with
    | none => simp [hq] at hi
    | some inf =>
      have hs : inf.size = vs.length := by simpa [hq] using hi
      have hagg : (isAgg t).run p w = .ok true w := by
        unfold isAgg
        rw [Sem.run_bind, run_underlying hu w]
        cases d <;> simp_all [aggD]
      simp [Instr.loadAt, Instr.sureAddr, loadVar, Sem.run_bind, hagg, sizeOf, typeInfo, hq, hs, hl]
  rw [e]
  exact ⟨H, k, hO, hB⟩
theorem st_load {t : TypeId} {x : Operand} {g off : Nat} {b : Box} {d : TypeDesc} {v : Value} (i : Nat) (ho : o.op = .load t x) (hx : ρ x = .pointer (some ⟨g, off, none⟩)) (hm : H[i]? = some b) (hg : b.g = g)
    (hu : p.underlying t = some d) (hd : aggD d = false) (hv : b.cs[off]? = some v) (k : K v H) : Step p ρ o H K := by
  intro F β w hO hB
  obtain ⟨fr, _, hb⟩ := (hO.at_ b (List.mem_append_left _ (List.mem_of_getElem? hm))).2
  have e : (execOp ρ o).run p w = .ok (.value v) w := by
    rw [execOp, ho]
    simp only [hx]
    have hc : w.cell? ⟨g, off, none⟩ = some v := by rw [← hg, cell_of_row w b.g off b.cs.toArray b.t fr hb]; simpa using hv
    have hagg : (isAgg t).run p w = .ok false w := by
      unfold isAgg
      rw [Sem.run_bind, run_underlying hu w]
      cases d <;> simp_all [aggD]
    simp [Instr.loadAt, Instr.sureAddr, loadVar, Sem.run_bind, hagg, hc]
  rw [e]
  exact ⟨H, k, hO, hB⟩
theorem st_store {t : TypeId} {x y : Operand} {g off : Nat} {b : Box} {u : Value} {us cs : List Value} (i : Nat) (ho : o.op = .store t x y) (hx : ρ x = .pointer (some ⟨g, off, none⟩)) (hy : ρ y = u) (hu : u.cells = us.toArray) (hm : H[i]? = some b) (hg : b.g = g)
    (hi : (p.info? t).map (·.size) = some us.length) (hle : Nat.ble (off + us.length) b.cs.length = true) (h1 : us.all (·.oneCell') = true)
    (hcs : b.cs.take off ++ us ++ b.cs.drop (off + us.length) = cs) (k : K undef (upd H i cs)) (hro : b.ro = false := by rfl) : Step p ρ o H K := by
  intro F β w hO hB
  have hbm := List.mem_append_left F (List.mem_of_getElem? hm)
  have hmF : (H ++ F)[i]? = some b := by rw [List.getElem?_append_left (List.getElem?_eq_some_iff.1 hm).1]; exact hm
  obtain ⟨fr, hf, hb⟩ := (hO.at_ b hbm).2
  obtain rfl := hf hro
  have e : (execOp ρ o).run p w = .ok .skip (w.setRow b.g cs.toArray) := by
    rw [execOp, ho]
    simp only [hx, hy]
    have hs := run_storeCells_at (P := p) b.g off b.t us 0 b.cs.toArray w hb (by have := Nat.le_of_ble_eq_true hle; simpa using this) (fun v hv => (List.all_eq_true.1 h1) v hv)
    simp only [Nat.add_zero] at hs
    rw [hcs] at hs
    cases hq : p.info? t with
    | none => simp [hq] at hi
    | some inf =>
      have hsz : inf.size = us.length := by simpa [hq] using hi
      subst hg
      simp [Instr.storeAt, Instr.sureAddr, storeVar, Sem.run_bind, sizeOf, typeInfo, hq, hsz, hs, hu]
  rw [e]
  exact ⟨_, k, by rw [← upd_append H F i b hm]; exact hO.set i b hmF hro cs, hB.setRow _ _ ((hO.at_ b hbm).1.resolve_left (by rw [hro]; exact Bool.false_ne_true))⟩
end
def AQ (n : Nat) (β : Base) (Q : Exit → Env → List Box → Prop) : Exit → Act → World → Prop := fun e a w => ∃ E H, Q e E H ∧ Sees n E a ∧ Own β H w ∧ Keeps β w
def AR (p : Program) (n : Nat) (ops : Array Oper) (Q : Exit → Env → List Box → Prop) (l : List Oper) (E : Env) (H : List Box) : Prop :=
  ∀ β w a, Own β H w → Keeps β w → Sees n E a → wpList p ops (AQ n β Q) l a w
def AC (p : Program) (n : Nat) (c : Code) (Q : Exit → Env → List Box → Prop) (E : Env) (H : List Box) : Prop :=
  ∀ β w a, Own β H w → Keeps β w → Sees n E a → c.wp p (AQ n β Q) a w
section
variable {p : Program} {n : Nat} {ops : Array Oper} {Q : Exit → Env → List Box → Prop} {l : List Oper} {E : Env} {H : List Box} {o : Oper}
theorem ar_nil (h : Q .normal E H) : AR p n ops Q [] E H := fun β w a hO hB hs => ⟨E, H, h, hs, hO, hB⟩
theorem ar_step (hg : yld n ops E o = true) (h : Step p (ev n E) o H fun v H' => AR p n ops Q l (E.put o.dst v) H') : AR p n ops Q (o :: l) E H := by
  intro β w a hO hB hs
  unfold wpList
  rw [hs.yld, hg, if_pos rfl]
  exact .inl (h.wp hs hO hB fun v H' w' k hO' hB' => k β w' _ hO' hB' (hs.put _ _))
theorem ar_plain (hg : o.guard = none) (h : Step p (ev n E) o H fun v H' => AR p n ops Q l (E.put o.dst v) H') : AR p n ops Q (o :: l) E H := ar_step (by unfold yld; rw [hg]) h
theorem ar_skip (hg : yld n ops E o = false) (h : AR p n ops Q l (E.put o.dst undef) H) : AR p n ops Q (o :: l) E H := by
  intro β w a hO hB hs
  unfold wpList
  rw [hs.yld, hg, if_neg (by simp)]
  exact h β w _ hO hB (hs.put _ _)
theorem ac_region {id : Nat} (h : AR p n ops Q ops.toList E H) : AC p n (.region id ops false) Q E H :=
  fun β w a hO hB hs => wp_region_list (h β w a hO hB hs)
theorem ac_region_lit {id : Nat} {l : List Oper} (h : AR p n l.toArray Q l E H) : AC p n (.region id l.toArray false) Q E H := ac_region h
def AThen (next : Env → List Box → Prop) (Q : Exit → Env → List Box → Prop) : Exit → Env → List Box → Prop
  | .normal, E, H => next E H
  | e, E, H => Q e E H
def ABlock (id : Nat) (Q : Exit → Env → List Box → Prop) : Exit → Env → List Box → Prop
  | .exit id', E, H => if id' = id then Q .normal E H else Q (.exit id') E H
  | e, E, H => Q e E H
theorem AC.mono {c : Code} {Q' : Exit → Env → List Box → Prop} (h : AC p n c Q E H) (hq : ∀ e E H, Q e E H → Q' e E H) : AC p n c Q' E H :=
  fun β w a hO hB hs => Code.wp_mono (fun e a w ⟨E, H, q, r⟩ => ⟨E, H, hq _ _ _ q, r⟩) (h β w a hO hB hs)
theorem ac_seq {x y : Code} (h : AC p n x (AThen (AC p n y Q) Q) E H) : AC p n (.seq x y) Q E H := by
  intro β w a hO hB hs
  refine wp_seq (Code.wp_mono ?_ (h β w a hO hB hs))
  rintro e a w ⟨E', H', q, hs', hO', hB'⟩
  cases e <;> first | exact ⟨E', H', q, hs', hO', hB'⟩ | exact q β w a hO' hB' hs'
theorem ac_cond {c : Operand} {x y : Code} {t : Bool} (hc : ev n E c = .bool t) (ht : t = true → AC p n x Q E H) (hf : t = false → AC p n y Q E H) : AC p n (.cond c x y) Q E H := by
  intro β w a hO hB hs
  refine wp_cond_split (t := t) (by rw [hs.eval]; exact hc) (fun h => ht h β w a hO hB hs) (fun h => hf h β w a hO hB hs)
theorem ac_then {c : Operand} {x y : Code} (hc : ev n E c = .bool true) (ht : AC p n x Q E H) : AC p n (.cond c x y) Q E H := ac_cond hc (fun _ => ht) (fun h => by cases h)
theorem ac_else {c : Operand} {x y : Code} (hc : ev n E c = .bool false) (ht : AC p n y Q E H) : AC p n (.cond c x y) Q E H := ac_cond hc (fun h => by cases h) (fun _ => ht)
theorem ac_skip (h : Q .normal E H) : AC p n .skip Q E H := fun β w a hO hB hs => wp_skip ⟨E, H, h, hs, hO, hB⟩
theorem ac_ret (h : Q .ret E H) : AC p n .ret Q E H := fun β w a hO hB hs => wp_ret ⟨E, H, h, hs, hO, hB⟩
theorem ac_exit {id : Nat} (h : Q (.exit id) E H) : AC p n (.exit id) Q E H := fun β w a hO hB hs => wp_exit ⟨E, H, h, hs, hO, hB⟩
theorem ac_block {id : Nat} {c : Code} (h : AC p n c (ABlock id Q) E H) : AC p n (.block id c) Q E H := by
  intro β w a hO hB hs
  refine wp_block (Code.wp_mono ?_ (h β w a hO hB hs))
  rintro e a w ⟨E', H', q, hs', hO', hB'⟩
  cases e <;> first | exact ⟨E', H', q, hs', hO', hB'⟩ | skip
  case exit id' =>
    simp only [ABlock] at q
    simp only [Exit.inBlock]
    split
    · rename_i hi; rw [if_pos hi] at q; exact ⟨E', H', q, hs', hO', hB'⟩
    · rename_i hi; rw [if_neg hi] at q; exact ⟨E', H', q, hs', hO', hB'⟩
def ARounds (p : Program) (n : Nat) (c : Code) (Q : Exit → Env → List Box → Prop) : Nat → Env → List Box → Prop
  | 0, _, _ => False
  | k + 1, E, H => AC p n c (AThen (ARounds p n c Q k) Q) E H
theorem ac_rounds {c : Code} (k : Nat) (h : ARounds p n c Q k E H) : AC p n (.loop c) Q E H := by
  intro β w a hO hB hs
  refine wp_loop_rounds k ?_
  revert h hO hB hs
  induction k generalizing E H a w with
  | zero => intro h; exact h.elim
  | succ k ih =>
    intro h hO hB hs
    rw [rounds_succ]
    refine Code.wp_mono ?_ (h β w a hO hB hs)
    rintro e a w ⟨E', H', q, hs', hO', hB'⟩
    cases e <;> first | exact ⟨E', H', q, hs', hO', hB'⟩ | exact ih w a q hO' hB' hs'
end
def envOf (args : Array Value) : Env := fun t => args.toList.getD t undef
def Res (p : Program) (fn : Func) (n : Nat) (E : Env) (H : List Box) (v : Value) : Prop :=
  ∀ β w a, Own β H w → Sees n E a → (results fn a.tmps).run p w = .ok v w
theorem gets_of {p : Program} {f : FuncId} {fn : Func} {c : Code} {args : Array Value} {v : Value} {n : Nat} (hf : p.funcs[f]? = some fn) (hb : fn.body = some c) (hn : fn.ntmps = n) (ha : Nat.ble args.size n = true)
    (h : AC p n c (fun e E H => (e = .ret ∨ e = .normal) ∧ Res p fn n E H v) (envOf args) []) : Gets p f args v := by
  intro w
  replace ha := Nat.le_of_ble_eq_true ha
  refine calls_of_wp hf hb ?_
  refine Code.wp_mono ?_ (h ⟨fun _ => False, w⟩ w _ (Own.nil _ w) (Keeps.refl _ _) ⟨rfl, by simp; omega, ?_⟩)
  · rintro e a w' ⟨E, H, ⟨he, hr⟩, hs, hO, hB⟩
    rcases he with rfl | rfl
    · exact ⟨hs.defers, v, hr _ _ _ hO hs, rfl, hB.below⟩
    · exact ⟨hs.defers, v, hr _ _ _ hO hs, rfl, hB.below⟩
  · intro t ht
    have ht' : (t : Nat) < n := ht
    subst hn
    simp only [envOf, List.getD_eq_getElem?_getD, Array.getElem?_toList]
    by_cases h1 : (t : Nat) < args.size
    · rw [Array.getElem?_append_left h1, Array.getElem?_eq_getElem h1]
      rfl
    · have h3 : args.size ≤ (t : Nat) := Nat.le_of_not_lt h1
      have h2 : (t : Nat) - args.size < fn.ntmps - args.size := by omega
      rw [Array.getElem?_append_right h3, Array.getElem?_eq_none h3, Array.getElem?_replicate, if_pos h2]
      rfl
theorem res_tmp {p : Program} {fn : Func} {n : Nat} {E : Env} {H : List Box} {v : Value} {t : Nat} (h : fn.results = #[.tmp t]) (hv : ev n E (.tmp t) = v) : Res p fn n E H v := by
  intro β w a hO hs
  rw [results_tmp h, ← hv, ← hs.eval]
  rfl
theorem res_cell {p : Program} {fn : Func} {n : Nat} {E : Env} {H : List Box} {t ty : Nat} {b : Box} {g : Nat} {d : TypeDesc} {v : Value} (i : Nat) (h : fn.results = #[.cell t ty]) (hv : ev n E (.tmp t) = .pointer (some ⟨g, 0, none⟩)) (hm : H[i]? = some b) (hg : b.g = g)
    (hu : p.underlying ty = some d) (hd : aggD d = true) (hi : (p.info? ty).map (·.size) = some b.cs.length) (hvv : v = .agg b.cs.toArray) : Res p fn n E H v := by
  intro β w a hO hs
  subst hg hvv
  obtain ⟨fr, _, hh⟩ := (hO.at_ b (List.mem_of_getElem? hm)).2
  refine results_cell_row h _ w b.g b.t b.cs.toArray fr d ?_ hh hu (by cases d <;> first | rfl | cases hd) (by simpa using hi)
  rw [← hv, ← hs.eval]
  rfl
end Go.Proofs.YtalffjplbhelcaaGreatDoor
namespace Go.Proofs.YtalffjplbhelcaaGreatDoor
open Go.RowKit
def dstOf (ops : Array Oper) (i : Nat) : Option Nat := (ops[i]?).bind (·.dst)
def putAll (ops : Array Oper) (E : Env) : List (Nat × Value) → Env
  | [] => E
  | (i, v) :: r => putAll ops (E.put (dstOf ops i) v) r
def bindsOn (o : Oper) (j : Nat) : Bool := o.after.any fun e => Region.binds .any e && e.on == j
def before_ (ops : Array Oper) (i j : Nat) : Bool := match ops[i]? with | some o => bindsOn o j | none => false
def nodupB : List Nat → Bool
  | [] => true
  | x :: r => !(r.contains x) && nodupB r
theorem nodupB_spec : ∀ l, nodupB l = true → l.Nodup
  | [], _ => by simp
  | x :: r, h => by
    simp only [nodupB, Bool.and_eq_true, Bool.not_eq_true', List.contains_eq_mem, decide_eq_false_iff_not] at h
    exact List.nodup_cons.2 ⟨h.1, nodupB_spec r h.2⟩
def drawOk (ops : Array Oper) (fx al ta : List Nat) : Bool :=
  let body := fx ++ al
  let all := body ++ ta
  (all.length == ops.size) && nodupB all && ((List.range ops.size).all fun i => all.contains i) && (all.all fun i => Nat.blt i ops.size)
  && ((List.range ops.size).all fun i => match ops[i]? with | some o => (o.after.all fun e => !(Region.binds .any e) || Nat.blt e.on i) | none => false)
  && (Region.noSelect ops)
  && (body.all fun i => body.all fun j => i == j || (match dstOf ops i, dstOf ops j with | some x, some y => !(Nat.beq x y) | _, _ => true))
  && ((List.range fx.length).all fun k => match fx[k]? with
      | some i => (match ops[i]? with
        | some o => (Oper.looksAt ops o).all fun t => body.all fun j => (match dstOf ops j with | some d => !(Nat.beq d t) | none => true) || (bindsOn o j && (fx.take k).contains j)
        | none => false)
      | none => false)
  && ((List.range ta.length).all fun k => match ta[k]? with
      | some i => (body ++ ta.take k).all fun j => before_ ops i j || (body ++ ta.take k).any fun m => before_ ops m j
      | none => false)
section
variable {p : Program} {n : Nat} {ops : Array Oper}
theorem put_apply (E : Env) (d : Option Nat) (v : Value) (t : Nat) : (E.put d v) t = if d = some t then v else E t := by
  cases d with
  | none => simp [Env.put]
  | some d =>
    simp only [Env.put, Option.some.injEq]
    by_cases h : t = d
    · subst h
      have : Nat.beq t t = true := by simp
      simp [this]
    · have : Nat.beq t d = false := by
        rw [Bool.eq_false_iff]; intro hc; exact h (Nat.eq_of_beq_eq_true hc)
      simp [this, Ne.symm h]
theorem putAll_append (E : Env) (xs ys : List (Nat × Value)) : putAll ops E (xs ++ ys) = putAll ops (putAll ops E xs) ys := by
  induction xs generalizing E with
  | nil => rfl
  | cons x xs ih => obtain ⟨i, v⟩ := x; exact ih _
theorem putAll_not (E : Env) (t : Nat) : ∀ (xs : List (Nat × Value)), (∀ x ∈ xs, dstOf ops x.1 ≠ some t) → putAll ops E xs t = E t := by
  intro xs
  induction xs generalizing E with
  | nil => intro _; rfl
  | cons x xs ih =>
    obtain ⟨i, v⟩ := x
    intro h
    rw [putAll, ih _ (fun y hy => h y (by simp [hy])), put_apply, if_neg (h (i, v) (by simp))]
theorem putAll_at (E : Env) (t : Nat) : ∀ (xs : List (Nat × Value)) (x : Nat × Value), x ∈ xs → dstOf ops x.1 = some t → (∀ y ∈ xs, dstOf ops y.1 = some t → y = x) → putAll ops E xs t = x.2 := by
  intro xs
  induction xs generalizing E with
  | nil => intro x h; cases h
  | cons y xs ih =>
    intro x hx hd hu
    obtain ⟨i, v⟩ := y
    rw [putAll]
    by_cases hin : x ∈ xs
    · exact ih _ x hin hd (fun z hz => hu z (by simp [hz]))
    · have : x = (i, v) := by
        rcases List.mem_cons.1 hx with h | h
        · exact h
        · exact absurd h hin
      subst this
      rw [putAll_not _ _ xs (fun z hz he => hin ((hu z (by simp [hz]) he) ▸ hz)), put_apply, if_pos hd]
def DWalk (p : Program) (n : Nat) (ops : Array Oper) (H : List Box) : List Nat → Env → (Env → Prop) → Prop
  | [], E, K => K E
  | i :: is, E, K => ∃ o v, ops[i]? = some o ∧ ((yld n ops E o = true ∧ Step p (ev n E) o H fun v' H' => v' = v ∧ H' = H) ∨ (yld n ops E o = false ∧ v = undef)) ∧ DWalk p n ops H is (E.put o.dst v) K
def Tells (p : Program) (n : Nat) (ops : Array Oper) (H : List Box) (E : Env) (i : Nat) (v : Value) : Prop :=
  ∃ o, ops[i]? = some o ∧ ((yld n ops E o = true ∧ Step p (ev n E) o H fun v' H' => v' = v ∧ H' = H) ∨ (yld n ops E o = false ∧ v = undef))
theorem dwalk_vals {H : List Box} {K : Env → Prop} : ∀ (is : List Nat) (E : Env), DWalk p n ops H is E K →
    ∃ vs : List (Nat × Value), vs.map (·.1) = is ∧ (∀ k x, vs[k]? = some x → Tells p n ops H (putAll ops E (vs.take k)) x.1 x.2) ∧ K (putAll ops E vs) := by
  intro is
  induction is with
  | nil => intro E h; exact ⟨[], rfl, by simp, h⟩
  | cons i is ih =>
    rintro E ⟨o, v, ho, hs, hr⟩
    obtain ⟨vs, h1, h2, h3⟩ := ih _ hr
    have hd : dstOf ops i = o.dst := by simp [dstOf, ho]
    refine ⟨(i, v) :: vs, by simp [h1], ?_, by rw [putAll, hd]; exact h3⟩
    intro k x hk
    cases k with
    | zero => simp at hk; subst hk; exact ⟨o, ho, hs⟩
    | succ k =>
      simp only [List.getElem?_cons_succ] at hk
      rw [List.take_succ_cons, putAll, hd]
      exact h2 k x hk
theorem tells_congr {H : List Box} {E E' : Env} {i : Nat} {v : Value} (hsel : Region.noSelect ops = true) (h : Tells p n ops H E i v)
    (hl : ∀ o, ops[i]? = some o → ∀ t ∈ Oper.looksAt ops o, E' t = E t) : Tells p n ops H E' i v := by
  obtain ⟨o, ho, h⟩ := h
  have hl := hl o ho
  have he : ∀ t, t ∈ Oper.looksAt ops o → ev n E' (.tmp t) = ev n E (.tmp t) := fun t ht => by simp only [ev, hl t ht]
  have hx : execOp (ev n E') o = execOp (ev n E) o := by
    refine execOp_congr o (fun cs b => Region.noSelect_spec hsel i o cs b ho) (fun x hx => ?_)
    cases x with
    | tmp t => exact he t (List.mem_append_left _ (List.mem_filterMap.2 ⟨.tmp t, by simpa using hx, rfl⟩))
    | _ => rfl
  have hy : yld n ops E' o = yld n ops E o := by
    unfold yld
    cases hg : o.guard with
    | none => rfl
    | some gw =>
      obtain ⟨j, want⟩ := gw
      cases hd : (ops[j]?).bind (·.dst) with
      | none => simp [hd]
      | some t =>
        simp only [hd]
        rw [he t (by simp [Oper.looksAt, hg, hd])]
  refine ⟨o, ho, ?_⟩
  rw [hy]
  unfold Step at *
  rw [hx]
  exact h
theorem uniq_fst : ∀ (l : List (Nat × Value)), (l.map (·.1)).Nodup → ∀ x ∈ l, ∀ y ∈ l, x.1 = y.1 → x = y := by
  intro l
  induction l with
  | nil => intro _ x hx; cases hx
  | cons z l ih =>
    intro hn x hx y hy e
    simp only [List.map_cons, List.nodup_cons] at hn
    rcases List.mem_cons.1 hx with hx | hx <;> rcases List.mem_cons.1 hy with hy | hy
    · rw [hx, hy]
    · rw [hx] at e
      exact absurd (List.mem_map.2 ⟨y, hy, e.symm⟩) hn.1
    · rw [hy] at e
      exact absurd (List.mem_map.2 ⟨x, hx, e⟩) hn.1
    · exact ih hn.2 x hx y hy e
structure DrawOk (ops : Array Oper) (fx al ta : List Nat) : Prop where
  len : (fx ++ al ++ ta).length = ops.size
  nodup : (fx ++ al ++ ta).Nodup
  all : ∀ i, i < ops.size → i ∈ fx ++ al ++ ta
  lt : ∀ i ∈ fx ++ al ++ ta, i < ops.size
  back : ∀ i o, ops[i]? = some o → ∀ e ∈ o.after, Region.binds .any e = true → e.on < i
  sel : Region.noSelect ops = true
  dsts : ∀ i ∈ fx ++ al, ∀ j ∈ fx ++ al, ∀ t, dstOf ops i = some t → dstOf ops j = some t → i = j
  looks : ∀ k i o, fx[k]? = some i → ops[i]? = some o → ∀ t ∈ Oper.looksAt ops o, ∀ j ∈ fx ++ al, dstOf ops j = some t → bindsOn o j = true ∧ j ∈ fx.take k
  tails : ∀ k i, ta[k]? = some i → ∀ j ∈ fx ++ al ++ ta.take k, before_ ops i j = true ∨ ∃ m ∈ fx ++ al ++ ta.take k, before_ ops m j = true
theorem drawOk_spec {fx al ta : List Nat} (h : drawOk ops fx al ta = true) : DrawOk ops fx al ta := by
  simp only [drawOk, Bool.and_eq_true, List.all_eq_true, List.mem_range, beq_iff_eq, Nat.blt_eq] at h
  obtain ⟨⟨⟨⟨⟨⟨⟨⟨h1, h2⟩, h3⟩, h4⟩, h5⟩, h6⟩, h7⟩, h8⟩, h9⟩ := h
  refine ⟨h1, nodupB_spec _ h2, fun i hi => by simpa using h3 i hi, fun i hi => h4 i hi, ?_, h6, ?_, ?_, ?_⟩
  · intro i o ho e he hb
    have := h5 i (Array.getElem?_eq_some_iff.1 ho).1
    rw [ho] at this
    have h := Array.all_eq_true_iff_forall_mem.1 this e he
    simp only [hb, Bool.not_true, Bool.false_or, Nat.blt_eq] at h
    exact h
  · intro i hi j hj t hti htj
    have := h7 i hi j hj
    rw [hti, htj] at this
    simpa using this
  · intro k i o hk ho t ht j hj hd
    have hlt : k < fx.length := (List.getElem?_eq_some_iff.1 hk).1
    have := h8 k hlt
    rw [hk] at this
    simp only [ho] at this
    have := List.all_eq_true.1 (List.all_eq_true.1 this t ht) j hj
    rw [hd] at this
    simpa using this
  · intro k i hk j hj
    have hlt : k < ta.length := (List.getElem?_eq_some_iff.1 hk).1
    have := h9 k hlt
    rw [hk] at this
    have := List.all_eq_true.1 this j hj
    rw [Bool.or_eq_true, List.any_eq_true] at this
    exact this
theorem before_spec {i j : Nat} (h : before_ ops i j = true) : ∃ o, ops[i]? = some o ∧ ∃ e ∈ o.after, Region.binds .any e = true ∧ e.on = j := by
  unfold before_ at h
  cases ho : ops[i]? with
  | none => simp [ho] at h
  | some o =>
    simp only [ho, bindsOn] at h
    obtain ⟨e, he, hb⟩ := Array.any_eq_true'.1 h
    simp only [Bool.and_eq_true, beq_iff_eq] at hb
    exact ⟨o, rfl, e, he, hb.1, hb.2⟩
def Down (ops : Array Oper) (L : Array Bool) : Prop := ∀ i o, ops[i]? = some o → L.getD i false = true → ∀ e ∈ o.after, Region.binds .any e = true → L.getD e.on false = true
theorem Down.set {L : Array Bool} (h : Down ops L) {i : Nat} (hr : i ∈ Region.ready .any ops L) : Down ops (L.setIfInBounds i true) := by
  intro j o ho hl e he hb
  obtain ⟨h0, o', ho', hall⟩ := mem_ready.1 hr
  by_cases hji : i = j
  · subst hji
    rw [ho] at ho'
    cases ho'
    exact getD_set_true (hall e he hb)
  · rw [getD_set_ne false hji] at hl
    exact getD_set_true (h j o ho hl e he hb)
theorem tail_waits {fx al ta : List Nat} (hok : DrawOk ops fx al ta) {L : Array Bool} (hd : Down ops L) {k i : Nat} (hk : ta[k]? = some i) (hr : i ∈ Region.ready .any ops L) :
    ∀ j ∈ fx ++ al ++ ta.take k, L.getD j false = true := by
  obtain ⟨h0, o, ho, hall⟩ := mem_ready.1 hr
  have key : ∀ m j, j ∈ fx ++ al ++ ta.take k → ops.size - j ≤ m → L.getD j false = true := by
    intro m
    induction m with
    | zero =>
      intro j hj hm
      have : j ∈ fx ++ al ++ ta := by
        rcases List.mem_append.1 hj with h | h
        · exact List.mem_append_left _ h
        · exact List.mem_append_right _ (List.mem_of_mem_take h)
      have := hok.lt j this
      omega
    | succ m ih =>
      intro j hj hm
      rcases hok.tails k i hk j hj with h | ⟨q, hq, h⟩
      · obtain ⟨o', ho', e, he, hb, hon⟩ := before_spec h
        rw [ho] at ho'
        cases ho'
        rw [← hon]
        exact hall e he hb
      · obtain ⟨o', ho', e, he, hb, hon⟩ := before_spec h
        have hlt : j < q := by rw [← hon]; exact hok.back q o' ho' e he hb
        have hq' : L.getD q false = true := ih q hq (by omega)
        rw [← hon]
        exact hd q o' ho' hq' e he hb
  intro j hj
  exact key (ops.size - j) j hj (Nat.le_refl _)
theorem ready_some {fx al ta : List Nat} (hok : DrawOk ops fx al ta) {L : Array Bool} (hs : L.size = ops.size) {i : Nat} (hi : i < ops.size) (hl : L.getD i false = false) : Region.ready .any ops L ≠ [] := by
  have key : ∀ m i, i < m → i < ops.size → L.getD i false = false → ∃ j, j ∈ Region.ready .any ops L := by
    intro m
    induction m with
    | zero => intro i h; omega
    | succ m ih =>
      intro i him hi hl
      obtain ⟨o, ho⟩ : ∃ o, ops[i]? = some o := ⟨_, Array.getElem?_eq_getElem hi⟩
      by_cases hall : ∀ e ∈ o.after, Region.binds .any e = true → L.getD e.on false = true
      · refine ⟨i, mem_ready.2 ⟨?_, o, ho, hall⟩⟩
        have hi' : i < L.size := by omega
        simpa [hi'] using hl
      · obtain ⟨e, he, hb, hne⟩ : ∃ e, e ∈ o.after ∧ Region.binds .any e = true ∧ ¬ L.getD e.on false = true := by
          refine Classical.byContradiction fun hc => hall fun e he hb => ?_
          exact Classical.byContradiction fun hn => hc ⟨e, he, hb, hn⟩
        have hlt := hok.back i o ho e he hb
        exact ih e.on (by omega) (by omega) (by simpa using hne)
  obtain ⟨j, hj⟩ := key (i + 1) i (by omega) hi hl
  intro h
  rw [h] at hj
  cases hj
structure Al where
  i : Nat
  t : TypeId
  cs : List Value
def ptr (g : Nat) : Value := .pointer (some ⟨g, 0, none⟩)
def allp (vs : List (Nat × Value)) (al : List Al) (gs : Nat → Nat) : List (Nat × Value) := vs ++ al.map fun x => (x.i, ptr (gs x.i))
theorem allp_fst (vs : List (Nat × Value)) (al : List Al) (gs : Nat → Nat) : (allp vs al gs).map (·.1) = vs.map (·.1) ++ al.map (·.i) := by
  simp [allp, List.map_map, Function.comp_def]
theorem put_filter (E0 : Env) (xs xs' : List (Nat × Value)) (L : Array Bool) (i : Nat) (v : Value) (hx : (i, v) ∈ xs') (hsame : ∀ y : Nat × Value, y.1 ≠ i → (y ∈ xs ↔ y ∈ xs'))
    (hu : ∀ y ∈ xs, ∀ z ∈ xs, ∀ t, dstOf ops y.1 = some t → dstOf ops z.1 = some t → y = z) (hu' : ∀ y ∈ xs', ∀ z ∈ xs', ∀ t, dstOf ops y.1 = some t → dstOf ops z.1 = some t → y = z)
    (hl : L.getD i false = false) (hi : i < L.size) :
    putAll ops E0 (xs'.filter fun x => (L.setIfInBounds i true).getD x.1 false) = (putAll ops E0 (xs.filter fun x => L.getD x.1 false)).put (dstOf ops i) v := by
  have hLi : (L.setIfInBounds i true).getD i false = true := by simp [hi]
  have hLj : ∀ j, j ≠ i → (L.setIfInBounds i true).getD j false = L.getD j false := fun j hj => getD_set_ne false (Ne.symm hj)
  funext t
  rw [put_apply]
  by_cases h : ∃ y ∈ xs', (L.setIfInBounds i true).getD y.1 false = true ∧ dstOf ops y.1 = some t
  · obtain ⟨y, hy, hyl, hyd⟩ := h
    rw [putAll_at E0 t _ y (List.mem_filter.2 ⟨hy, hyl⟩) hyd (fun z hz hzd => hu' z (List.mem_filter.1 hz).1 y hy t hzd hyd)]
    by_cases hd : dstOf ops i = some t
    · rw [if_pos hd]
      have := hu' y hy _ hx t hyd hd
      rw [this]
    · rw [if_neg hd]
      have hyi : y.1 ≠ i := fun e => hd (e ▸ hyd)
      rw [hLj _ hyi] at hyl
      have hyx := (hsame y hyi).2 hy
      rw [putAll_at E0 t _ y (List.mem_filter.2 ⟨hyx, hyl⟩) hyd (fun z hz hzd => hu z (List.mem_filter.1 hz).1 y hyx t hzd hyd)]
  · have hd : ¬ dstOf ops i = some t := fun hd => h ⟨(i, v), hx, hLi, hd⟩
    rw [if_neg hd, putAll_not E0 t _ (fun z hz hzd => h ⟨z, (List.mem_filter.1 hz).1, (List.mem_filter.1 hz).2, hzd⟩)]
    rw [putAll_not E0 t _ (fun z hz hzd => ?_)]
    have hz1 := List.mem_filter.1 hz
    have hzi : z.1 ≠ i := by
      intro e
      have h2 : L.getD z.1 false = true := hz1.2
      rw [e, hl] at h2
      cases h2
    exact h ⟨z, (hsame z hzi).1 hz1.1, by rw [hLj _ hzi]; exact hz1.2, hzd⟩
theorem filter_less : ∀ (l : List Nat) (P P' : Nat → Bool) (i : Nat), l.Nodup → i ∈ l → P i = true → P' i = false → (∀ j, j ≠ i → P' j = P j) → (l.filter P').length + 1 = (l.filter P).length := by
  intro l
  induction l with
  | nil => intro P P' i _ h; cases h
  | cons x l ih =>
    intro P P' i hn hi hp hp' hs
    have hn' := List.nodup_cons.1 hn
    by_cases hxi : x = i
    · subst hxi
      have : l.filter P' = l.filter P := List.filter_congr fun y hy => hs y (fun e => hn'.1 (e ▸ hy))
      rw [List.filter_cons, List.filter_cons, hp, hp', this]
      simp
    · have hil : i ∈ l := by
        rcases List.mem_cons.1 hi with h | h
        · exact absurd h.symm hxi
        · exact h
      have := ih P P' i hn'.2 hil hp hp' hs
      rw [List.filter_cons, List.filter_cons, hs x hxi]
      split
      · simp only [List.length_cons]; omega
      · exact this
theorem tail_phase {fx al ta : List Nat} (hok : DrawOk ops fx al ta) {Q : Exit → Act → World → Prop} : ∀ (r : List Nat) (k : Nat) (L : Array Bool) (a : Act) (w : World), ta.drop k = r → Down ops L → L.size = ops.size →
    (∀ i ∈ fx ++ al ++ ta.take k, L.getD i false = true) → (∀ i ∈ r, L.getD i false = false) → wpList p ops Q (r.map fun i => (ops[i]?).getD default) a w → wpAny p .any ops Q r.length L a w := by
  intro r
  induction r with
  | nil =>
    intro k L a w hr hd hs hl hn h
    refine ⟨?_, h⟩
    cases hq : Region.ready .any ops L with
    | nil => rfl
    | cons i is =>
      have hi : i ∈ Region.ready .any ops L := by rw [hq]; simp
      obtain ⟨h0, o, ho, hall⟩ := mem_ready.1 hi
      have hlt := (Array.getElem?_eq_some_iff.1 ho).1
      have hk : ta.take k = ta := by
        have := List.take_append_drop k ta
        rw [hr, List.append_nil] at this
        exact this
      have := hl i (by rw [hk]; exact hok.all i hlt)
      have hi' : i < L.size := by omega
      simp [hi'] at h0 this
      rw [h0] at this
      cases this
  | cons i r ih =>
    intro k L a w hr hd hs hl hn h
    have hk : ta[k]? = some i := by
      have : (ta.drop k)[0]? = some i := by rw [hr]; rfl
      simpa using this
    have hr' : ta.drop (k + 1) = r := by
      have : (ta.drop k).drop 1 = r := by rw [hr]; rfl
      rw [List.drop_drop] at this
      exact this
    have hita : i ∈ ta := List.mem_of_getElem? hk
    have hlt : i < ops.size := hok.lt i (List.mem_append_right _ hita)
    have hrun := hn i (by simp)
    refine ⟨fun h0 => absurd h0 (ready_some hok hs hlt hrun), fun j hj => ?_⟩
    have hjr := mem_ready.1 hj
    obtain ⟨h0, oj, hoj, hall⟩ := hjr
    have hjlt := (Array.getElem?_eq_some_iff.1 hoj).1
    have hji : j = i := by
      have hjn : L.getD j false = false := by
        have hj' : j < L.size := by omega
        simpa [hj'] using h0
      have hjall := hok.all j hjlt
      have hjt : j ∈ ta.drop k := by
        rcases List.mem_append.1 hjall with h | h
        · rw [hl j (List.mem_append_left _ h)] at hjn; cases hjn
        · rw [← List.take_append_drop k ta] at h
          rcases List.mem_append.1 h with h | h
          · rw [hl j (List.mem_append_right _ h)] at hjn; cases hjn
          · exact h
      rw [hr] at hjt
      rcases List.mem_cons.1 hjt with h | h
      · exact h
      · rw [← hr'] at h
        obtain ⟨q, hq⟩ := List.mem_iff_getElem?.1 h
        rw [List.getElem?_drop] at hq
        have := tail_waits hok hd hq hj i (List.mem_append_right _ (List.mem_of_getElem? (i := k) (by rw [List.getElem?_take, if_pos (by omega)]; exact hk)))
        rw [hrun] at this
        cases this
    subst hji
    have hnd := hok.nodup
    have hnext : ∀ a' w', wpList p ops Q (r.map fun i => (ops[i]?).getD default) a' w' → wpAny p .any ops Q r.length (L.setIfInBounds j true) a' w' := fun a' w' h' => by
      refine ih (k + 1) _ a' w' hr' (hd.set hj) (by simp [hs]) ?_ ?_ h'
      · intro q hq
        by_cases hqj : j = q
        · subst hqj; have : j < L.size := by omega
          simp [this]
        · rw [getD_set_ne false hqj]
          refine hl q ?_
          rw [List.take_add_one, hk] at hq
          simp only [List.mem_append, Option.toList_some, List.mem_singleton] at hq ⊢
          rcases hq with h | h | h
          · exact .inl h
          · exact .inr h
          · exact absurd h.symm hqj
      · intro q hq
        have hqj : j ≠ q := by
          rintro rfl
          have h2 : (fx ++ al ++ (ta.take k ++ (j :: r))).Nodup := by rw [← hr, List.take_append_drop]; exact hnd
          have h3 := (List.nodup_append.1 (List.nodup_append.1 h2).2.1).2.1
          exact (List.nodup_cons.1 h3).1 hq
        rw [getD_set_ne false hqj]
        exact hn q (by simp [hq])
    simp only [List.map_cons, hoj, Option.getD_some] at h
    unfold wpList at h
    unfold wpOp
    simp only [hoj]
    split
    · rename_i hw
      rw [if_pos hw] at h
      exact h.imp (Oper.wp_mono hnext) id
    · rename_i hw
      rw [if_neg hw] at h
      exact hnext _ _ h
section
variable {fx ta : List Nat} {al : List Al} {vs : List (Nat × Value)} {E0 : Env} {H0 : List Box} {Q : Exit → Env → List Box → Prop}
def EL (ops : Array Oper) (E0 : Env) (vs : List (Nat × Value)) (al : List Al) (gs : Nat → Nat) (L : Array Bool) : Env := putAll ops E0 ((allp vs al gs).filter fun x => L.getD x.1 false)
structure Inv (p : Program) (n : Nat) (ops : Array Oper) (E0 : Env) (H0 : List Box) (vs : List (Nat × Value)) (al : List Al) (β : Base) (L : Array Bool) (a : Act) (w : World) (gs : Nat → Nat) (F : List Box) : Prop where
  sees : Sees n (EL ops E0 vs al gs L) a
  own : Own β (H0 ++ F) w
  below : Keeps β w
  made : ∀ x ∈ al, L.getD x.i false = true → (⟨gs x.i, x.cs, x.t, false⟩ : Box) ∈ F
  other : ∀ x ∈ al, ∀ y ∈ al, L.getD x.i false = true → L.getD y.i false = true → x.i ≠ y.i → gs x.i ≠ gs y.i
theorem allp_uniq (hok : DrawOk ops fx (al.map (·.i)) ta) (hvs : vs.map (·.1) = fx) (gs : Nat → Nat) : ∀ y ∈ allp vs al gs, ∀ z ∈ allp vs al gs, ∀ t, dstOf ops y.1 = some t → dstOf ops z.1 = some t → y = z := by
  intro y hy z hz t hyt hzt
  have hf := allp_fst vs al gs
  rw [hvs] at hf
  have hnd : ((allp vs al gs).map (·.1)).Nodup := by rw [hf]; exact (List.nodup_append.1 hok.nodup).1
  refine uniq_fst _ hnd y hy z hz (hok.dsts y.1 ?_ z.1 ?_ t hyt hzt)
  · rw [← hf]; exact List.mem_map.2 ⟨y, hy, rfl⟩
  · rw [← hf]; exact List.mem_map.2 ⟨z, hz, rfl⟩
theorem body_phase (hok : DrawOk ops fx (al.map (·.i)) ta) (hvs : vs.map (·.1) = fx) (ht : ∀ k x, vs[k]? = some x → Tells p n ops H0 (putAll ops E0 (vs.take k)) x.1 x.2)
    (hal : ∀ x ∈ al, ∃ o z, ops[x.i]? = some o ∧ o.op = .alloc x.t ∧ o.guard = none ∧ (p.info? x.t).map (·.zero) = some (some z) ∧ z.cells = x.cs.toArray)
    (hK : ∀ gs : Nat → Nat, AR p n ops Q (ta.map fun i => (ops[i]?).getD default) (putAll ops E0 (allp vs al gs)) (al.map (fun x => (⟨gs x.i, x.cs, x.t, false⟩ : Box)) ++ H0)) {β : Base} :
    ∀ (m : Nat) (L : Array Bool) (a : Act) (w : World) (gs : Nat → Nat) (F : List Box), L.size = ops.size → Down ops L → (∀ i ∈ ta, L.getD i false = false) →
      ((fx ++ al.map (·.i)).filter fun i => !(L.getD i false)).length = m → Inv p n ops E0 H0 vs al β L a w gs F → wpAny p .any ops (AQ n β Q) (m + ta.length) L a w := by
  intro m
  induction m with
  | zero =>
    intro L a w gs F hs hd hta hm hI
    rw [Nat.zero_add]
    have hall : ∀ i ∈ fx ++ al.map (·.i), L.getD i false = true := by
      intro i hi
      have h0 := List.eq_nil_of_length_eq_zero hm
      cases hq : L.getD i false with
      | true => rfl
      | false =>
        have : i ∈ (fx ++ al.map (·.i)).filter fun i => !(L.getD i false) := List.mem_filter.2 ⟨hi, by simp only [hq, Bool.not_false]⟩
        rw [h0] at this
        cases this
    have hE : EL ops E0 vs al gs L = putAll ops E0 (allp vs al gs) := by
      unfold EL
      congr 1
      refine List.filter_eq_self.2 fun x hx => hall x.1 ?_
      rw [← hvs, ← allp_fst vs al gs]
      exact List.mem_map.2 ⟨x, hx, rfl⟩
    refine tail_phase hok ta 0 L a w rfl hd hs (by simpa using hall) hta ?_
    refine hK gs β w a ?_ hI.below (hE ▸ hI.sees)
    have hnd := hok.nodup
    have hnal : (al.map (·.i)).Nodup := (List.nodup_append.1 (List.nodup_append.1 hnd).1).2.1
    have hmem : ∀ x ∈ al, (⟨gs x.i, x.cs, x.t, false⟩ : Box) ∈ F := fun x hx => hI.made x hx (hall x.i (List.mem_append_right _ (List.mem_map.2 ⟨x, hx, rfl⟩)))
    have hHF := hI.own.apart
    rw [List.map_append, List.nodup_append] at hHF
    refine ⟨hI.own.size, ?_, ?_⟩
    · intro b hb
      rcases List.mem_append.1 hb with h | h
      · obtain ⟨x, hx, rfl⟩ := List.mem_map.1 h
        exact hI.own.at_ _ (List.mem_append_right _ (hmem x hx))
      · exact hI.own.at_ _ (List.mem_append_left _ h)
    · rw [List.map_append, List.nodup_append]
      refine ⟨?_, hHF.1, ?_⟩
      · rw [List.map_map]
        have : ∀ (l : List Al), (l.map (·.i)).Nodup → (∀ x ∈ l, x ∈ al) → (l.map (Box.g ∘ fun x => (⟨gs x.i, x.cs, x.t, false⟩ : Box))).Nodup := by
          intro l
          induction l with
          | nil => intro _ _; simp
          | cons x l ih =>
            intro hn hsub
            simp only [List.map_cons, List.nodup_cons, Function.comp_apply] at hn ⊢
            refine ⟨?_, ih hn.2 fun y hy => hsub y (by simp [hy])⟩
            intro hc
            obtain ⟨y, hy, e⟩ := List.mem_map.1 hc
            have hxi : x.i ≠ y.i := fun e => hn.1 (List.mem_map.2 ⟨y, hy, e.symm⟩)
            exact hI.other x (hsub x (by simp)) y (hsub y (by simp [hy])) (hall _ (List.mem_append_right _ (List.mem_map.2 ⟨x, hsub x (by simp), rfl⟩))) (hall _ (List.mem_append_right _ (List.mem_map.2 ⟨y, hsub y (by simp [hy]), rfl⟩))) hxi e.symm
        exact this al hnal fun x hx => hx
      · intro x hx y hy e
        obtain ⟨b, hb, rfl⟩ := List.mem_map.1 hx
        obtain ⟨x', hx', rfl⟩ := List.mem_map.1 hb
        exact hHF.2.2 y hy _ (List.mem_map.2 ⟨_, hmem x' hx', rfl⟩) e.symm
  | succ m ih =>
    intro L a w gs F hs hd hta hm hI
    have hnd := hok.nodup
    have hndb := (List.nodup_append.1 hnd).1
    obtain ⟨i0, hi0⟩ : ∃ i, i ∈ (fx ++ al.map (·.i)).filter fun i => !(L.getD i false) := by
      cases hq : (fx ++ al.map (·.i)).filter fun i => !(L.getD i false) with
      | nil => rw [hq] at hm; cases hm
      | cons i is => exact ⟨i, by simp⟩
    obtain ⟨hi0b, hi0n⟩ := List.mem_filter.1 hi0
    have hi0n' : L.getD i0 false = false := by simpa using hi0n
    have hi0lt : i0 < ops.size := hok.lt i0 (List.mem_append_left _ hi0b)
    rw [show m + 1 + ta.length = (m + ta.length) + 1 by omega]
    refine ⟨fun h0 => absurd h0 (ready_some hok hs hi0lt hi0n'), fun i hi => ?_⟩
    obtain ⟨h0, o, ho, hall⟩ := mem_ready.1 hi
    have hilt := (Array.getElem?_eq_some_iff.1 ho).1
    have hiL : i < L.size := by omega
    have hin : L.getD i false = false := by simpa [hiL] using h0
    have hib : i ∈ fx ++ al.map (·.i) := by
      rcases List.mem_append.1 (hok.all i hilt) with h | h
      · exact h
      · obtain ⟨k, hk⟩ := List.mem_iff_getElem?.1 h
        have := tail_waits hok hd hk hi i0 (List.mem_append_left _ hi0b)
        rw [hi0n'] at this
        cases this
    have hnta : i ∉ ta := fun h => (List.nodup_append.1 hnd).2.2 i hib i h rfl
    have hta' : ∀ j ∈ ta, (L.setIfInBounds i true).getD j false = false := fun j hj => by
      rw [getD_set_ne false (fun (e : i = j) => hnta (by rw [e]; exact hj))]
      exact hta j hj
    have hm' : ((fx ++ al.map (·.i)).filter fun j => !((L.setIfInBounds i true).getD j false)).length = m := by
      have := filter_less (fx ++ al.map (·.i)) (fun j => !(L.getD j false)) (fun j => !((L.setIfInBounds i true).getD j false)) i hndb hib (by simp only [hin, Bool.not_false]) (by simp [hiL]) (fun j hj => by simp only [getD_set_ne false (Ne.symm hj)])
      omega
    have hLi : (L.setIfInBounds i true).getD i false = true := by simp [hiL]
    have hLj : ∀ j, j ≠ i → (L.setIfInBounds i true).getD j false = L.getD j false := fun j hj => getD_set_ne false (Ne.symm hj)
    have hu := allp_uniq (vs := vs) hok hvs
    rcases List.mem_append.1 hib with hif | hia
    · -- it tells the same in whatever order
      rw [← hvs] at hif
      obtain ⟨x, hx, rfl⟩ := List.mem_map.1 hif
      obtain ⟨k, hk⟩ := List.mem_iff_getElem?.1 hx
      have hxa : x ∈ allp vs al gs := List.mem_append_left _ hx
      have hfk : fx[k]? = some x.1 := by rw [← hvs, List.getElem?_map, hk]; rfl
      have hT := tells_congr (E' := EL ops E0 vs al gs L) hok.sel (ht k x hk) (fun o' ho' t htl => by
        rw [ho] at ho'
        cases ho'
        have hfst := allp_fst vs al gs
        rw [hvs] at hfst
        by_cases hex : ∃ y ∈ allp vs al gs, dstOf ops y.1 = some t
        · obtain ⟨y, hy, hyd⟩ := hex
          have hyb : y.1 ∈ fx ++ al.map (·.i) := by rw [← hfst]; exact List.mem_map.2 ⟨y, hy, rfl⟩
          obtain ⟨hb, htk⟩ := hok.looks k x.1 o hfk ho t htl y.1 hyb hyd
          have hyv : y ∈ vs.take k := by
            rw [← hvs, ← List.map_take] at htk
            obtain ⟨z, hz, e⟩ := List.mem_map.1 htk
            have hza : z ∈ allp vs al gs := List.mem_append_left _ (List.mem_of_mem_take hz)
            have : z = y := hu gs z hza y hy t (by rw [e]; exact hyd) hyd
            exact this ▸ hz
          have hyl : L.getD y.1 false = true := by
            unfold bindsOn at hb
            obtain ⟨e, he, hbb⟩ := Array.any_eq_true'.1 hb
            simp only [Bool.and_eq_true, beq_iff_eq] at hbb
            rw [← hbb.2]
            exact hall e he hbb.1
          unfold EL
          rw [putAll_at E0 t _ y (List.mem_filter.2 ⟨hy, hyl⟩) hyd (fun z hz hzd => hu gs z (List.mem_filter.1 hz).1 y hy t hzd hyd)]
          rw [putAll_at E0 t _ y hyv hyd (fun z hz hzd => hu gs z (List.mem_append_left _ (List.mem_of_mem_take hz)) y hy t hzd hyd)]
        · unfold EL
          rw [putAll_not E0 t _ (fun z hz hzd => hex ⟨z, (List.mem_filter.1 hz).1, hzd⟩)]
          rw [putAll_not E0 t _ (fun z hz hzd => hex ⟨z, List.mem_append_left _ (List.mem_of_mem_take hz), hzd⟩)])
      obtain ⟨o', ho', hT⟩ := hT
      rw [ho] at ho'
      cases ho'
      have hEL : EL ops E0 vs al gs (L.setIfInBounds x.1 true) = (EL ops E0 vs al gs L).put o.dst x.2 := by
        have := put_filter (ops := ops) E0 (allp vs al gs) (allp vs al gs) L x.1 x.2 hxa (fun _ _ => Iff.rfl) (hu gs) (hu gs) hin hiL
        unfold EL
        rw [this]
        simp [dstOf, ho]
      have hmade : ∀ y ∈ al, (L.setIfInBounds x.1 true).getD y.i false = true → L.getD y.i false = true := by
        intro y hy hl
        have hne : y.i ≠ x.1 := by
          intro e
          have h3 := (List.nodup_append.1 hndb).2.2 x.1 (hvs ▸ hif) y.i (List.mem_map.2 ⟨y, hy, rfl⟩)
          exact h3 e.symm
        rw [hLj _ hne] at hl
        exact hl
      unfold wpOp
      simp only [ho]
      rw [hI.sees.yld]
      rcases hT with ⟨hw, hstep⟩ | ⟨hw, hv⟩
      · rw [hw, if_pos rfl]
        refine .inl (hstep.wpF hI.sees hI.own hI.below ?_)
        rintro v H' w' ⟨rfl, rfl⟩ hO' hB'
        exact ih _ _ w' gs F (by simp [hs]) (hd.set hi) hta' hm' ⟨hEL ▸ hI.sees.put _ _, hO', hB', fun y hy hl => hI.made y hy (hmade y hy hl), fun y hy z hz hl hl' hne => hI.other y hy z hz (hmade y hy hl) (hmade z hz hl') hne⟩
      · rw [hw, if_neg (by simp)]
        rw [hv] at hEL
        exact ih _ _ w gs F (by simp [hs]) (hd.set hi) hta' hm' ⟨hEL ▸ hI.sees.put _ _, hI.own, hI.below, fun y hy hl => hI.made y hy (hmade y hy hl), fun y hy z hz hl hl' hne => hI.other y hy z hz (hmade y hy hl) (hmade z hz hl') hne⟩
    · -- a box is made
      obtain ⟨x, hx, rfl⟩ := List.mem_map.1 hia
      obtain ⟨o', z, ho', hop, hgd, hz, hcs⟩ := hal x hx
      rw [ho] at ho'
      cases ho'
      have hnal : (al.map (·.i)).Nodup := (List.nodup_append.1 hndb).2.1
      have hsame : ∀ y ∈ al, y.i = x.i → y = x := by
        have : ∀ (l : List Al), (l.map (·.i)).Nodup → ∀ y ∈ l, ∀ z ∈ l, y.i = z.i → y = z := by
          intro l
          induction l with
          | nil => intro _ y hy; cases hy
          | cons u l ih =>
            intro hn y hy z hz e
            simp only [List.map_cons, List.nodup_cons] at hn
            rcases List.mem_cons.1 hy with hy | hy <;> rcases List.mem_cons.1 hz with hz | hz
            · rw [hy, hz]
            · rw [hy] at e; exact absurd (List.mem_map.2 ⟨z, hz, e.symm⟩) hn.1
            · rw [hz] at e; exact absurd (List.mem_map.2 ⟨y, hy, e⟩) hn.1
            · exact ih hn.2 y hy z hz e
        exact fun y hy e => this al hnal y hy x hx e
      let gs' : Nat → Nat := fun j => if j = x.i then w.heap.size else gs j
      have hgx : gs' x.i = w.heap.size := by simp [gs']
      have hgy : ∀ j, j ≠ x.i → gs' j = gs j := fun j hj => by simp [gs', hj]
      have hEL : EL ops E0 vs al gs' (L.setIfInBounds x.i true) = (EL ops E0 vs al gs L).put o.dst (ptr w.heap.size) := by
        have hxa : (x.i, ptr w.heap.size) ∈ allp vs al gs' := List.mem_append_right _ (List.mem_map.2 ⟨x, hx, by rw [hgx]⟩)
        have := put_filter (ops := ops) E0 (allp vs al gs) (allp vs al gs') L x.i (ptr w.heap.size) hxa (fun y hy => by
          simp only [allp, List.mem_append, List.mem_map]
          constructor
          · rintro (h | ⟨q, hq, rfl⟩)
            · exact .inl h
            · exact .inr ⟨q, hq, by rw [hgy q.i hy]⟩
          · rintro (h | ⟨q, hq, rfl⟩)
            · exact .inl h
            · exact .inr ⟨q, hq, by rw [hgy q.i hy]⟩) (hu gs) (hu gs') hin hiL
        unfold EL
        rw [this]
        simp [dstOf, ho]
      have hst : Step p (ev n (EL ops E0 vs al gs L)) o H0 (fun v H' => ∃ g, v = ptr g ∧ H' = ⟨g, x.cs, x.t, false⟩ :: H0) := st_alloc hop hz hcs (fun g => ⟨g, rfl, rfl⟩)
      have hrun : (execOp (ev n (EL ops E0 vs al gs L)) o).run p w = .ok (.value (.pointer (some ⟨w.heap.size, 0, none⟩))) (w.alloc (.cells x.cs.toArray x.t (0, 0))) := by
        rw [← hcs]
        rw [execOp, hop]
        cases hq : p.info? x.t with
        | none => simp [hq] at hz
        | some inf =>
          have hz' : inf.zero = some z := by simpa [hq] using hz
          simp [Instr.alloc, zeroValue, typeInfo, hq, hz', newVar, newRow, Sem.run_bind]
      unfold wpOp
      simp only [ho]
      have hwant : Region.wanted o (yielded ops a.tmps) = true := by simp [Region.wanted, hgd]
      rw [hwant, if_pos rfl]
      refine .inl ?_
      unfold Oper.wp
      rw [hI.sees.eval, hrun]
      have hO1 : Own β (H0 ++ (⟨w.heap.size, x.cs, x.t, false⟩ :: F)) (w.alloc (.cells x.cs.toArray x.t (0, 0))) := (hI.own.alloc x.cs x.t).perm (List.perm_middle.symm)
      have hmade : ∀ y ∈ al, (L.setIfInBounds x.i true).getD y.i false = true → y ≠ x → L.getD y.i false = true ∧ y.i ≠ x.i := by
        intro y hy hl hne
        have hyi : y.i ≠ x.i := fun e => hne (hsame y hy e)
        rw [hLj _ hyi] at hl
        exact ⟨hl, hyi⟩
      have hfresh : ∀ y ∈ al, L.getD y.i false = true → gs y.i < w.heap.size := fun y hy hl => hI.own.lt (List.mem_append_right _ (hI.made y hy hl))
      refine ih _ _ _ gs' (⟨w.heap.size, x.cs, x.t, false⟩ :: F) (by simp [hs]) (hd.set hi) hta' hm' ⟨hEL ▸ hI.sees.put _ _, hO1, hI.below.alloc _, ?_, ?_⟩
      · intro y hy hl
        by_cases hyx : y = x
        · subst hyx
          rw [hgx]
          exact List.mem_cons_self
        · obtain ⟨hl', hyi⟩ := hmade y hy hl hyx
          rw [hgy _ hyi]
          exact List.mem_cons_of_mem _ (hI.made y hy hl')
      · intro y hy u hu' hl hl' hne
        by_cases hyx : y = x
        · subst hyx
          have hux : u ≠ y := fun e => hne (by rw [e])
          obtain ⟨hl2, hui⟩ := hmade u hu' hl' hux
          rw [hgx, hgy _ hui]
          exact Ne.symm (Nat.ne_of_lt (hfresh u hu' hl2))
        · obtain ⟨hl1, hyi⟩ := hmade y hy hl hyx
          by_cases hux : u = x
          · subst hux
            rw [hgx, hgy _ hyi]
            exact Nat.ne_of_lt (hfresh y hy hl1)
          · obtain ⟨hl2, hui⟩ := hmade u hu' hl' hux
            rw [hgy _ hyi, hgy _ hui]
            exact hI.other y hy u hu' hl1 hl2 hne
theorem any_draw (fx ta : List Nat) (al : List Al) (hok : drawOk ops fx (al.map (·.i)) ta = true)
    (hal : ∀ x ∈ al, ∃ o z, ops[x.i]? = some o ∧ o.op = .alloc x.t ∧ o.guard = none ∧ (p.info? x.t).map (·.zero) = some (some z) ∧ z.cells = x.cs.toArray)
    (h : DWalk p n ops H0 fx E0 fun E => ∀ gs : Nat → Nat, AR p n ops Q (ta.map fun i => (ops[i]?).getD default) (putAll ops E (al.map fun x => (x.i, ptr (gs x.i)))) (al.map (fun x => (⟨gs x.i, x.cs, x.t, false⟩ : Box)) ++ H0)) :
    ∀ β w a, Own β H0 w → Keeps β w → Sees n E0 a → wpAny p .any ops (AQ n β Q) ops.size (Array.replicate ops.size false) a { w with drawn := w.drawn + 1 } := by
  intro β w a hO hB hs
  have hok' := drawOk_spec hok
  obtain ⟨vs, hvs, ht, hK⟩ := dwalk_vals _ _ h
  have hlen := hok'.len
  have hnone : ∀ i, (Array.replicate ops.size false).getD i false = false := by
    intro i
    simp only [Array.getD_eq_getD_getElem?, Array.getElem?_replicate]
    split <;> rfl
  have hcount : ((fx ++ al.map (·.i)).filter fun i => !((Array.replicate ops.size false).getD i false)).length = (fx ++ al.map (·.i)).length := by
    rw [List.filter_eq_self.2 fun i _ => by rw [hnone]; rfl]
  have := body_phase (E0 := E0) (H0 := H0) (Q := Q) hok' hvs ht hal (fun gs => by have := hK gs; rw [← putAll_append] at this; exact this) (β := β) _ (Array.replicate ops.size false) a { w with drawn := w.drawn + 1 } (fun _ => 0) [] (by simp) (fun i o ho hl => by rw [hnone] at hl; cases hl) (fun i _ => hnone i) hcount
    ⟨by
      have : EL ops E0 vs al (fun _ => 0) (Array.replicate ops.size false) = E0 := by
        unfold EL
        rw [List.filter_eq_nil_iff.2 fun x _ => by rw [hnone]; simp]
        rfl
      rw [this]; exact hs, by rw [List.append_nil]; exact hO.drew, hB.drew, fun x _ hl => (by rw [hnone] at hl; cases hl), fun x _ y _ hl => (by rw [hnone] at hl; cases hl)⟩
  have e : (fx ++ al.map (·.i)).length + ta.length = ops.size := by rw [← hlen, ← List.length_append]
  rw [e] at this
  exact this
theorem ac_draw {id : Nat} (fx ta : List Nat) (al : List Al) (hok : drawOk ops fx (al.map (·.i)) ta = true) (hm : p.follows .mixedOrders = true)
    (hal : ∀ x ∈ al, ∃ o z, ops[x.i]? = some o ∧ o.op = .alloc x.t ∧ o.guard = none ∧ (p.info? x.t).map (·.zero) = some (some z) ∧ z.cells = x.cs.toArray)
    (h : DWalk p n ops H0 fx E0 fun E => ∀ gs : Nat → Nat, AR p n ops Q (ta.map fun i => (ops[i]?).getD default) (putAll ops E (al.map fun x => (x.i, ptr (gs x.i)))) (al.map (fun x => (⟨gs x.i, x.cs, x.t, false⟩ : Box)) ++ H0)) :
    AC p n (.region id ops true) Q E0 H0 :=
  fun β w a hO hB hs => wp_region_any hm (any_draw fx ta al hok hal h β w a hO hB hs)
end
end
end Go.Proofs.YtalffjplbhelcaaGreatDoor
