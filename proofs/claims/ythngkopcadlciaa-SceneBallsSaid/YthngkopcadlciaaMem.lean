import Derived.Test.YthngkopcadlciaaFv
import Derived.Laws.AppendOwn
set_option linter.unusedVariables false
set_option linter.unusedSimpArgs false
namespace Go.Proofs.Ythngkopcadlciaa
open Go.RowKit

/-! ## Calls that read the caller's memory, and hand back memory -/
def At (R : List Box) (w : World) : Prop := ∀ b ∈ R, ∃ fr, w.heap[b.g]? = some (.cells b.cs.toArray b.t fr)
/-- A function that reads the boxes R; it writes no block that lay; it hands back v, which may speak of new boxes N. -/
def Gives (p : Program) (f : FuncId) (args : Array Value) (R : List Box) (K : Post) : Prop :=
  ∀ w, At R w → (R.map Box.g).Nodup → Calls p f args w fun e w' => ∃ v N, e = .returned v ∧ K v N ∧ Own ⟨fun _ => False, w⟩ N w' ∧ (∀ b ∈ N, b.ro = false) ∧ Below w.heap.size w w'
theorem Gives.mono {p : Program} {f : FuncId} {args : Array Value} {R : List Box} {K K' : Post} (h : Gives p f args R K) (hk : ∀ v N, K v N → K' v N) : Gives p f args R K' :=
  fun w h1 h2 => (h w h1 h2).mono fun e w' ⟨v, N, a, b, c⟩ => ⟨v, N, a, hk _ _ b, c⟩
theorem gives_gets {p : Program} {f : FuncId} {args : Array Value} {v : Value} {R : List Box} (h : Gets p f args v) : Gives p f args R (fun u N => u = v ∧ N = []) :=
  fun w h1 h2 => (h w).mono fun e w' ⟨he, hb⟩ => ⟨v, [], he, ⟨rfl, rfl⟩, ⟨hb.size, by simp, by simp⟩, by simp, hb⟩
theorem gets_gives {p : Program} {f : FuncId} {args : Array Value} {v : Value} (h : Gives p f args [] (fun u N => u = v)) : Gets p f args v :=
  fun w => (h w (by simp [At]) (by simp)).mono fun e w' ⟨u, N, he, hu, _, _, hb⟩ => by subst hu; exact ⟨he, hb⟩
theorem Own.join {β : Base} {H N : List Box} {w w' : World} (h : Own β H w) (hb : Below w.heap.size w w') (hN : Own ⟨fun _ => False, w⟩ N w') (hr : ∀ b ∈ N, b.ro = false) : Own β (N ++ H) w' := by
  have hg : ∀ b ∈ N, w.heap.size ≤ b.g := by
    intro b hb
    have h1 := (hN.at_ b hb).1
    rcases h1 with h1 | h1
    · rw [hr b hb] at h1; cases h1
    · exact h1.elim id False.elim
  refine ⟨Nat.le_trans h.size hb.size, ?_, ?_⟩
  · intro b hm
    rcases List.mem_append.1 hm with hm | hm
    · exact ⟨.inr (.inl (Nat.le_trans h.size (hg b hm))), (hN.at_ b hm).2⟩
    · exact (h.below hb).at_ b hm
  · rw [List.map_append, List.nodup_append]
    refine ⟨hN.apart, h.apart, ?_⟩
    intro x hx y hy e
    obtain ⟨b, hb1, rfl⟩ := List.mem_map.1 hx
    obtain ⟨c, hc1, rfl⟩ := List.mem_map.1 hy
    have h1 := hg b hb1
    have h2 := h.lt hc1
    omega
section
variable {p : Program} {n : Nat} {ops : Array Oper} {Q : Exit → Env → List Box → Prop} {l : List Oper} {E : Env} {H : List Box} {o : Oper} {ρ : Operand → Value} {K : Post}
/-- the boxes that a call reads are among the caller's. -/
def Has (H R : List Box) : Prop := ∀ b ∈ R, ∃ c ∈ H, c.g = b.g ∧ c.cs = b.cs ∧ c.t = b.t
theorem has_nil : Has H [] := by simp [Has]
theorem has_cons {b : Box} {R : List Box} (i : Nat) (c : Box) (hi : H[i]? = some c) (h1 : c.g = b.g) (h2 : c.cs = b.cs) (h3 : c.t = b.t) (h : Has H R) : Has H (b :: R) := by
  intro x hx
  rcases List.mem_cons.1 hx with rfl | hx
  · exact ⟨c, List.mem_of_getElem? hi, h1, h2, h3⟩
  · exact h x hx
theorem st_gv {f : FuncId} {x : Operand} {args : List Operand} {ts : Array TypeId} {vs : List Value} {R : List Box} {K' : Post} {fn : Func} {c : Code} (h : Gives p f vs.toArray R K') (hfn : p.funcs[f]? = some fn) (hb : fn.body = some c) (hnm : (fn.name == "runtime.NumGoroutine") = false)
    (ho : o.op = .call { callee := .value x, args := args.toArray, argTypes := ts }) (hf : ρ x = .func (.func f) #[] #[]) (hv : args.map ρ = vs) (hR : Has H R) (hnd : (R.map Box.g).Nodup) (k : ∀ v N, K' v N → K v (N ++ H)) : Step p ρ o H K := by
  intro F β w hO hB
  have e : (execOp ρ o).run p w = .ok (.enter f vs.toArray) w := by
    rw [execOp, ho]
    simp only [resolve, hf, Deferred.ofValue, List.map_toArray, hv]
    have hnm' : ¬ fn.name = "runtime.NumGoroutine" := by simpa using hnm
    simp [Sem.run_bind, invoke, callFunc, hfn, hnm', hb]
  rw [e]
  have hat : At R w := by
    intro b hb
    obtain ⟨c, hc, h1, h2, h3⟩ := hR b hb
    obtain ⟨fr, _, this⟩ := (hO.at_ c (List.mem_append_left _ hc)).2
    rw [h1, h2, h3] at this
    exact ⟨fr, this⟩
  exact (h w hat hnd).mono fun e w' ⟨v, N, he, hk, hN, hr, hb'⟩ => ⟨v, N ++ H, he, k _ _ hk, by rw [List.append_assoc]; exact hO.join hb' hN hr, hB.trans hb'⟩
/-- .. that hands back a plain value. -/
theorem st_gr {f : FuncId} {x : Operand} {args : List Operand} {ts : Array TypeId} {vs : List Value} {R : List Box} {r : Value} {fn : Func} {c : Code} (h : Gives p f vs.toArray R (fun u N => u = r ∧ N = [])) (hfn : p.funcs[f]? = some fn) (hb : fn.body = some c) (hnm : (fn.name == "runtime.NumGoroutine") = false)
    (ho : o.op = .call { callee := .value x, args := args.toArray, argTypes := ts }) (hf : ρ x = .func (.func f) #[] #[]) (hv : args.map ρ = vs) (hR : Has H R) (hnd : (R.map Box.g).Nodup) (k : K r H) : Step p ρ o H K :=
  st_gv h hfn hb hnm ho hf hv hR hnd fun v N ⟨h1, h2⟩ => by subst h1 h2; exact k

/-! ## Slices -/
/-- an operation that lays one new row. -/
structure Makes (p : Program) (s : Sem Value) (n : Nat) (cs : List Value) (e : TypeId) : Prop where
  out : ∀ w, s.run p w = .ok (.slice (some ⟨w.heap.size, 0, none⟩) n n) (w.alloc (.cells cs.toArray e (0, 0)))
theorem st_bs {t m : Nat} {ps : List (Nat × Operand)} {us : List (Nat × Value)} {cs : List Value} {e : TypeId} (ho : o.op = .buildSlice t m ps.toArray) (hx : (ps.map fun x => (x.1, ρ x.2)) = us) (hr : Makes p (Instr.buildSlice t m us.toArray) m cs e)
    (k : ∀ g, K (.slice (some ⟨g, 0, none⟩) m m) (⟨g, cs, e, false⟩ :: H)) : Step p ρ o H K := by
  intro F β w hO hB
  have e1 : (execOp ρ o).run p w = .ok (.value (.slice (some ⟨w.heap.size, 0, none⟩) m m)) (w.alloc (.cells cs.toArray e (0, 0))) := by
    rw [execOp, ho]
    simp only [List.map_toArray]
    rw [hx]
    simp [Sem.run_bind, hr.out w]
  rw [e1]
  exact ⟨_, k _, hO.alloc _ _, hB.alloc _⟩
theorem st_ln {t : TypeId} {d : TypeId} {args : List Operand} {a : Option Addr} {m c : Nat} (ho : o.op = .call { callee := .builtin .len, args := args.toArray, argTypes := #[t] }) (hu : p.underlying t = some (.slice d)) (hv : args.map ρ = [.slice a m c]) (k : K (.int .i64 m) H) : Step p ρ o H K := by
  refine st_val (fun w => ?_) k
  rw [execOp, ho]
  simp only [resolve, List.map_toArray, hv]
  simp [invoke, builtin, Builtin.len_, Sem.run_bind, run_underlying hu w, goInt]
/-- the place of a slice's element. -/
theorem st_sa {t e : Nat} {x y : Operand} {g off m c s : Nat} {i : Nat} (ho : o.op = .indexAddr t x y) (hu : p.underlying t = some (.slice e)) (hs : (p.info? e).map (·.size) = some s) (hx : ρ x = .slice (some ⟨g, off, none⟩) m c) (hy : ρ y = .int .i64 i) (hi : i < m)
    (k : K (.pointer (some ⟨g, off + i * s, none⟩)) H) : Step p ρ o H K := by
  refine st_run (s := Instr.indexAt t (.slice (some ⟨g, off, none⟩) m c) (.int .i64 i)) (by rw [execOp, ho]; simp only [hx, hy]) ⟨fun w => ?_⟩ k
  cases hq : p.info? e with
  | none => simp [hq] at hs
  | some inf =>
    have hs' : inf.size = s := by simpa [hq] using hs
    have h0 : (0 : Int) ≤ i := by omega
    simp [Instr.indexAt, asIntOf, Sem.run_bind, run_underlying hu w, h0, hi, sizeOf, typeInfo, hq, hs', Addr.add]
theorem st_slh {t e : Nat} {x y : Operand} {g off m c s h : Nat} (ho : o.op = .slice t x none (some y) none) (hu : p.underlying t = some (.slice e)) (hs : (p.info? e).map (·.size) = some s) (hx : ρ x = .slice (some ⟨g, off, none⟩) m c) (hy : ρ y = .int .i64 h) (hh : h ≤ c)
    (k : K (.slice (some ⟨g, off, none⟩) h c) H) : Step p ρ o H K := by
  refine st_run (s := Instr.sliceAt t (.slice (some ⟨g, off, none⟩) m c) none (some (.int .i64 h)) none) (by rw [execOp, ho]; simp only [hx, hy, Option.map_none, Option.map_some]) ⟨fun w => ?_⟩ k
  have h0 : (0 : Int) ≤ h := by omega
  have hh' : (h : Int) ≤ c := by omega
  cases hq : p.info? e with
  | none => simp [hq] at hs
  | some inf =>
    have hs' : inf.size = s := by simpa [hq] using hs
    simp [Instr.sliceAt, Instr.slice, Instr.sliceBounds, Sem.run_bind, run_underlying hu w, run_sliceBound, h0, hh', hh, sizeOf, typeInfo, hq, hs', Addr.add]
/-- A step taken by an activation, whatever it has put off. -/
theorem Step.wpA {a : Act} {β : Base} {w : World} {next : Act → World → Prop} {Q : Exit → Act → World → Prop} (h : Step p (ev n E) o H K) (he : a.eval = ev n E) (hO : Own β H w) (hB : Keeps β w)
    (hn : ∀ v H' w', K v H' → Own β H' w' → Keeps β w' → next (a.put o.dst v) w') : o.wp p a w next Q := by
  rw [← he] at h
  have := h [] β w (by simpa using hO) hB
  unfold Oper.wp
  revert this
  cases (execOp a.eval o).run p w with
  | ok x w' =>
    cases x <;> intro this <;> first | exact this.elim | skip
    case value v => obtain ⟨H', a, b, c⟩ := this; exact hn _ _ _ a (by simpa using b) c
    case skip => obtain ⟨H', a, b, c⟩ := this; exact hn _ _ _ a (by simpa using b) c
    case enter f args =>
      refine Calls.mono this fun e w'' ⟨v, H', a, b, c, d⟩ => ?_
      subst a
      exact hn _ _ _ b (by simpa using c) d
  | halt x w' => exact fun h => h.elim
theorem wpList_go {a : Act} {w : World} {Q : Exit → Act → World → Prop} (hg : o.guard = none) (h : o.wp p a w (wpList p ops Q l) Q) : wpList p ops Q (o :: l) a w := by
  unfold wpList
  have hw : Region.wanted o (yielded ops a.tmps) = true := by simp [Region.wanted, hg]
  rw [if_pos hw]
  exact .inl h

/-! ## Walks that end in a plain one -/
def ACr (p : Program) (n : Nat) (β : Base) (c : Code) (P : Exit → Act → World → Prop) (E : Env) (H : List Box) : Prop :=
  ∀ w a, Own β H w → Keeps β w → Sees n E a → c.wp p P a w
theorem acr_run {β : Base} {c : Code} {P : Exit → Act → World → Prop} {w : World} {a : Act} (h : ACr p n β c P E H) (hO : Own β H w) (hB : Keeps β w) (hs : Sees n E a) : c.wp p P a w := h w a hO hB hs
theorem acr_env {β : Base} {c : Code} {P : Exit → Act → World → Prop} (h : ∀ E1, E1 = E → ACr p n β c P E1 H) : ACr p n β c P E H := h E rfl
theorem acr_intro {β : Base} {c : Code} {P : Exit → Act → World → Prop} (h : ∀ w a, Own β H w → Keeps β w → Sees n E a → c.wp p P a w) : ACr p n β c P E H := h
theorem acr_seq {β : Base} {x y : Code} {P : Exit → Act → World → Prop} (h : AC p n x (fun e E' H' => e = .normal ∧ ACr p n β y P E' H') E H) : ACr p n β (.seq x y) P E H := by
  intro w a hO hB hs
  refine wp_seq (Code.wp_mono ?_ (h β w a hO hB hs))
  rintro e a w ⟨E', H', ⟨rfl, hr⟩, hs', hO', hB'⟩
  exact hr w a hO' hB' hs'
theorem acr_seq' {β : Base} {x y : Code} {P : Exit → Act → World → Prop} (h : ACr p n β x (Exit.then (fun a w => y.wp p P a w) P) E H) : ACr p n β (.seq x y) P E H :=
  fun w a hO hB hs => wp_seq (h w a hO hB hs)
theorem sees_start {fn : Func} {args : Array Value} (hn : fn.ntmps = n) (ha : Nat.ble args.size n = true) : Sees n (envOf args) { tmps := args ++ Array.replicate (fn.ntmps - args.size) undef, defers := [] } := by
  replace ha := Nat.le_of_ble_eq_true ha
  refine ⟨rfl, by simp; omega, ?_⟩
  intro t ht
  have ht' : (t : Nat) < n := ht
  subst hn
  simp only [envOf, List.getD_eq_getElem?_getD, Array.getElem?_toList]
  by_cases h1 : (t : Nat) < args.size
  · rw [Array.getElem?_append_left h1, Array.getElem?_eq_getElem h1]
    rfl
  · have h3 : args.size ≤ (t : Nat) := Nat.le_of_not_lt h1
    have h2 : (t : Nat) - args.size < fn.ntmps - args.size := by omega
    rw [Array.getElem?_append_right h3, Array.getElem?_eq_none h3, Array.getElem?_replicate, if_pos h2]
    rfl
theorem own_start {R : List Box} {w : World} (hA : At R w) (hn : (R.map Box.g).Nodup) (hr : ∀ b ∈ R, b.ro = true) : Own ⟨fun _ => False, w⟩ R w :=
  ⟨Nat.le_refl _, fun b hb => ⟨.inl (hr b hb), by
    obtain ⟨fr, h⟩ := hA b hb
    exact ⟨fr, (fun h => by rw [hr b hb] at h; cases h), h⟩⟩, hn⟩
end
end Go.Proofs.Ythngkopcadlciaa
