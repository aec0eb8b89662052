import Derived.Test.YtalffjplbhelcaaGreatDoorMDecTells0
import Derived.Laws.AppendOwn
import Derived.Laws.Append
import Derived.Shelf.Strings.Builder1
import Derived.Shelf.Strings.Builder2
import Derived.Shelf.Strings.Trim
import Derived.Shelf.Small.Utf8
import Derived.Shelf.Small.Strs
import Derived.Shelf.Small.Wraps
import Derived.Shelf.Strings.BuilderF
import Derived.Shelf.Strings.BuilderK
import Derived.Shelf.Strconv.Atoi
import Derived.Shelf.Strconv.Itoa0
import Derived.Shelf.Strconv.Itoa1
import Derived.Shelf.LaysM
import Derived.Shelf.Strconv.Itoa2
import Derived.Shelf.Strconv.Itoa3
import Derived.Shelf.Strings.Search1
import Derived.Shelf.Strings.Search2
import Derived.Shelf.Strings.Cut
import Derived.Shelf.Strings.Shaped
import Derived.Shelf.Strings.Prefix
import Derived.Shelf.Strings.Runes
import Derived.Shelf.Strings.AsciiSet
import Derived.Shelf.Bits.Mul64
import Derived.Shelf.Strings.Repeat
import Derived.Shelf.Unicode.DecodeSlow
import Derived.Test.YtalffjplbhelcaaGreatDoorProg
import Derived.Laws.Strings3
import Derived.Laws.Concat
import Derived.Laws.BytesString
import Derived.Shelf.Strings.SlTrimAscii
import Derived.Lib.AtoiErrMem
import Derived.Lib.AppendIntMem
import Derived.ScopeJumps
import Derived.Control
set_option linter.unusedVariables false
set_option linter.unusedSimpArgs false
namespace Go.Proofs.YtalffjplbhelcaaGreatDoor
open Go.RowKit
section
variable {p : Program} {n : Nat} {ops : Array Oper} {Q : Exit → Env → List Box → Prop} {l : List Oper} {E : Env} {H : List Box} {o : Oper} {ρ : Operand → Value} {K : Post}
theorem aQ {x y : Code} (h : AC p n x (AThen (AC p n y Q) Q) E H) : AC p n (.seq x y) Q E H := ac_seq h
theorem aL {id : Nat} {l : List Oper} (h : AR p n l.toArray Q l E H) : AC p n (.region id l.toArray false) Q E H := ac_region_lit h
theorem aN (h : Q .normal E H) : AR p n ops Q [] E H := ar_nil h
theorem aM {x : Operand} {ty : TypeId} {ps : String} {af : Array Edge} (d : Nat) (v : Value) (ho : o = ⟨some d, .move x, ty, ps, af, none⟩) (hx : ev n E x = v) (h : AR p n ops Q l (E.put (some d) v) H) : AR p n ops Q (o :: l) E H := by
  subst ho
  exact ao d rfl rfl (st_move rfl hx h)
theorem aA {x : Operand} {ty : TypeId} {ps : String} {af : Array Edge} (d : Nat) (v : Value) (ho : o = ⟨some d, .assign x, ty, ps, af, none⟩) (hx : ev n E x = v) (h : AR p n ops Q l (E.put (some d) v) H) : AR p n ops Q (o :: l) E H := by
  subst ho
  exact ao d rfl rfl (st_assign rfl hx h)
theorem aB {op : BinOp} {t y' : Nat} {x y : Operand} {u v : Value} {ty : TypeId} {ps : String} {af : Array Edge} (d : Nat) (r : Value) (ho : o = ⟨some d, .binOp op t x y y', ty, ps, af, none⟩) (hx : ev n E x = u) (hy : ev n E y = v)
    (hr : ∀ x y : Operand, Runs p (do eqGuard op t x y u v; binOp op t u v) r) (h : AR p n ops Q l (E.put (some d) r) H) : AR p n ops Q (o :: l) E H := by
  subst ho
  exact ao d rfl rfl (st_bi rfl hx hy hr h)
theorem aC {f : FuncId} {args : List Operand} {ts : Array TypeId} {vs : List Value} {r : Value} {fn : Func} {c : Code} {ty : TypeId} {ps : String} {af : Array Edge} (d : Nat) (g : Gets p f vs.toArray r) (hfn : p.funcs[f]? = some fn) (hb : (fn.body = some c) ∧ (fn.name == "runtime.NumGoroutine") = false)
    (ho : o = ⟨some d, .call { callee := .value (.func f), args := args.toArray, argTypes := ts }, ty, ps, af, none⟩) (hv : args.map (ev n E) = vs) (h : AR p n ops Q l (E.put (some d) r) H) : AR p n ops Q (o :: l) E H := by
  subst ho
  exact ao d rfl rfl (st_cf g hfn hb.1 hb.2 rfl rfl hv h)
theorem aS {t : TypeId} {x y : Operand} {g off : Nat} {cs0 us : List Value} {t0 : Nat} {m : Nat} {ty : TypeId} {ps : String} {af : Array Edge} (cs : List Value) (ha : IsAgg p t m) (i : Nat) (ho : o = ⟨none, .store t x y, ty, ps, af, none⟩) (hx : ev n E x = .pointer (some ⟨g, off, none⟩)) (hy : ev n E y = .agg us.toArray)
    (hm : H[i]? = some ⟨g, cs0, t0, false⟩) (hk : (Nat.beq us.length m && Nat.ble (off + m) cs0.length && us.all (·.oneCell')) = true) (hcs : cs0.take off ++ us ++ cs0.drop (off + m) = cs) (h : AR p n ops Q l E (upd H i cs)) : AR p n ops Q (o :: l) E H := by
  subst ho
  simp only [Bool.and_eq_true] at hk
  exact ar_op (d := none) rfl rfl (st_sta ha i rfl hx hy hm rfl (Nat.eq_of_beq_eq_true hk.1.1) hk.1.2 hk.2 hcs h)
theorem aF {t f : Nat} {x : Operand} {g off j : Nat} {ty : TypeId} {ps : String} {af : Array Edge} (d : Nat) (hr : ∀ a, Runs p (Instr.fieldAt t (.pointer (some a)) f) (.pointer (some (a.add j)))) (ho : o = ⟨some d, .fieldAddr t x f, ty, ps, af, none⟩) (hx : ev n E x = .pointer (some ⟨g, off, none⟩))
    (h : AR p n ops Q l (E.put (some d) (.pointer (some ⟨g, off + j, none⟩))) H) : AR p n ops Q (o :: l) E H := by
  subst ho
  exact ao d rfl rfl (st_fa rfl hr hx h)
theorem aG {t : TypeId} {x : Operand} {g off : Nat} {cs0 : List Value} {t0 : Nat} {ro : Bool} {m : Nat} {ty : TypeId} {ps : String} {af : Array Edge} (d : Nat) (vs : List Value) (ha : IsAgg p t m) (i : Nat) (ho : o = ⟨some d, .load t x, ty, ps, af, none⟩) (hx : ev n E x = .pointer (some ⟨g, off, none⟩)) (hm : H[i]? = some ⟨g, cs0, t0, ro⟩)
    (hn : Nat.beq vs.length m = true) (hv : (cs0.drop off).take m = vs) (h : AR p n ops Q l (E.put (some d) (.agg vs.toArray)) H) : AR p n ops Q (o :: l) E H := by
  subst ho
  exact ao d rfl rfl (st_lda ha i rfl hx hm rfl (Nat.eq_of_beq_eq_true hn) hv h)
theorem aD {t : TypeId} {x : Operand} {g off : Nat} {cs0 : List Value} {t0 : Nat} {ro : Bool} {ty : TypeId} {ps : String} {af : Array Edge} (d : Nat) (v : Value) (ha : IsCell p t) (i : Nat) (ho : o = ⟨some d, .load t x, ty, ps, af, none⟩) (hx : ev n E x = .pointer (some ⟨g, off, none⟩)) (hm : H[i]? = some ⟨g, cs0, t0, ro⟩)
    (hv : cs0[off]? = some v) (h : AR p n ops Q l (E.put (some d) v) H) : AR p n ops Q (o :: l) E H := by
  subst ho
  exact ao d rfl rfl (st_ldc ha i rfl hx hm rfl hv h)
theorem aX {x : Operand} {i : Nat} {vs : List Value} {ty : TypeId} {ps : String} {af : Array Edge} (d : Nat) (v : Value) (ho : o = ⟨some d, .extract x i, ty, ps, af, none⟩) (hx : ev n E x = .tuple vs.toArray) (hi : vs[i]? = some v) (h : AR p n ops Q l (E.put (some d) v) H) : AR p n ops Q (o :: l) E H := by
  subst ho
  exact ao d rfl rfl (st_ex rfl hx hi h)
theorem aK {o : Oper} (d : Nat) (hg : yld n ops E o = false) (hd : o.dst = some d) (h : AR p n ops Q l (E.put (some d) undef) H) : AR p n ops Q (o :: l) E H := ar_sk hg hd h
end
end Go.Proofs.YtalffjplbhelcaaGreatDoor
namespace Go.Proofs.YtalffjplbhelcaaGreatDoor
theorem Own.sub {β : Base} {H H' : List Box} {w : World} (hs : List.Sublist H H') (h : Own β H' w) : Own β H w :=
  ⟨h.size, fun b hb => h.at_ b (hs.subset hb), h.apart.sublist (hs.map Box.g)⟩
section
variable {p : Program} {xs : List Value} {m : Nat}
end
end Go.Proofs.YtalffjplbhelcaaGreatDoor
namespace Go.Proofs.YtalffjplbhelcaaGreatDoor
open Go.RowKit
end Go.Proofs.YtalffjplbhelcaaGreatDoor
namespace Go.Proofs.YtalffjplbhelcaaGreatDoor
open Go.RowKit
def At (R : List Box) (w : World) : Prop := ∀ b ∈ R, ∃ fr, w.heap[b.g]? = some (.cells b.cs.toArray b.t fr)
def Gives (p : Program) (f : FuncId) (args : Array Value) (R : List Box) (K : Post) : Prop :=
  ∀ w, At R w → (R.map Box.g).Nodup → Calls p f args w fun e w' => ∃ v N, e = .returned v ∧ K v N ∧ Own ⟨fun _ => False, w⟩ N w' ∧ (∀ b ∈ N, b.ro = false) ∧ Below w.heap.size w w'
theorem Own.join {β : Base} {H N : List Box} {w w' : World} (h : Own β H w) (hb : Below w.heap.size w w') (hN : Own ⟨fun _ => False, w⟩ N w') (hr : ∀ b ∈ N, b.ro = false) : Own β (N ++ H) w' := by
  have hg : ∀ b ∈ N, w.heap.size ≤ b.g := by
    intro b hb
    have h1 := (hN.at_ b hb).1
    rcases h1 with h1 | h1
    · rw [hr b hb] at h1; cases h1
    · exact h1.elim id False.elim
  refine ⟨Nat.le_trans h.size hb.size, ?_, ?_⟩
  · intro b hm
    rcases List.mem_append.1 hm with hm | hm
    · exact ⟨.inr (.inl (Nat.le_trans h.size (hg b hm))), (hN.at_ b hm).2⟩
    · exact (h.below hb).at_ b hm
  · rw [List.map_append, List.nodup_append]
    refine ⟨hN.apart, h.apart, ?_⟩
    intro x hx y hy e
    obtain ⟨b, hb1, rfl⟩ := List.mem_map.1 hx
    obtain ⟨c, hc1, rfl⟩ := List.mem_map.1 hy
    have h1 := hg b hb1
    have h2 := h.lt hc1
    omega
section
variable {p : Program} {n : Nat} {ops : Array Oper} {Q : Exit → Env → List Box → Prop} {l : List Oper} {E : Env} {H : List Box} {o : Oper} {ρ : Operand → Value} {K : Post}
def Has (H R : List Box) : Prop := ∀ b ∈ R, ∃ c ∈ H, c.g = b.g ∧ c.cs = b.cs ∧ c.t = b.t
theorem has_nil : Has H [] := by simp [Has]
theorem has_cons {b : Box} {R : List Box} (i : Nat) (c : Box) (hi : H[i]? = some c) (h1 : c.g = b.g) (h2 : c.cs = b.cs) (h3 : c.t = b.t) (h : Has H R) : Has H (b :: R) := by
  intro x hx
  rcases List.mem_cons.1 hx with rfl | hx
  · exact ⟨c, List.mem_of_getElem? hi, h1, h2, h3⟩
  · exact h x hx
theorem st_gv {f : FuncId} {x : Operand} {args : List Operand} {ts : Array TypeId} {vs : List Value} {R : List Box} {K' : Post} {fn : Func} {c : Code} (h : Gives p f vs.toArray R K') (hfn : p.funcs[f]? = some fn) (hb : fn.body = some c) (hnm : (fn.name == "runtime.NumGoroutine") = false)
    (ho : o.op = .call { callee := .value x, args := args.toArray, argTypes := ts }) (hf : ρ x = .func (.func f) #[] #[]) (hv : args.map ρ = vs) (hR : Has H R) (hnd : (R.map Box.g).Nodup) (k : ∀ v N, K' v N → K v (N ++ H)) : Step p ρ o H K := by
  intro F β w hO hB
  have e : (execOp ρ o).run p w = .ok (.enter f vs.toArray) w := by
    rw [execOp, ho]
    simp only [resolve, hf, Deferred.ofValue, List.map_toArray, hv]
    have hnm' : ¬ fn.name = "runtime.NumGoroutine" := by simpa using hnm
    simp [Sem.run_bind, invoke, callFunc, hfn, hnm', hb]
  rw [e]
  have hat : At R w := by
    intro b hb
    obtain ⟨c, hc, h1, h2, h3⟩ := hR b hb
    obtain ⟨fr, _, this⟩ := (hO.at_ c (List.mem_append_left _ hc)).2
    rw [h1, h2, h3] at this
    exact ⟨fr, this⟩
  exact (h w hat hnd).mono fun e w' ⟨v, N, he, hk, hN, hr, hb'⟩ => ⟨v, N ++ H, he, k _ _ hk, by rw [List.append_assoc]; exact hO.join hb' hN hr, hB.trans hb'⟩
theorem st_gr {f : FuncId} {x : Operand} {args : List Operand} {ts : Array TypeId} {vs : List Value} {R : List Box} {r : Value} {fn : Func} {c : Code} (h : Gives p f vs.toArray R (fun u N => u = r ∧ N = [])) (hfn : p.funcs[f]? = some fn) (hb : fn.body = some c) (hnm : (fn.name == "runtime.NumGoroutine") = false)
    (ho : o.op = .call { callee := .value x, args := args.toArray, argTypes := ts }) (hf : ρ x = .func (.func f) #[] #[]) (hv : args.map ρ = vs) (hR : Has H R) (hnd : (R.map Box.g).Nodup) (k : K r H) : Step p ρ o H K :=
  st_gv h hfn hb hnm ho hf hv hR hnd fun v N ⟨h1, h2⟩ => by subst h1 h2; exact k
structure Makes (p : Program) (s : Sem Value) (n : Nat) (cs : List Value) (e : TypeId) : Prop where
  out : ∀ w, s.run p w = .ok (.slice (some ⟨w.heap.size, 0, none⟩) n n) (w.alloc (.cells cs.toArray e (0, 0)))
theorem st_bs {t m : Nat} {ps : List (Nat × Operand)} {us : List (Nat × Value)} {cs : List Value} {e : TypeId} (ho : o.op = .buildSlice t m ps.toArray) (hx : (ps.map fun x => (x.1, ρ x.2)) = us) (hr : Makes p (Instr.buildSlice t m us.toArray) m cs e)
    (k : ∀ g, K (.slice (some ⟨g, 0, none⟩) m m) (⟨g, cs, e, false⟩ :: H)) : Step p ρ o H K := by
  intro F β w hO hB
  have e1 : (execOp ρ o).run p w = .ok (.value (.slice (some ⟨w.heap.size, 0, none⟩) m m)) (w.alloc (.cells cs.toArray e (0, 0))) := by
    rw [execOp, ho]
    simp only [List.map_toArray]
    rw [hx]
    simp [Sem.run_bind, hr.out w]
  rw [e1]
  exact ⟨_, k _, hO.alloc _ _, hB.alloc _⟩
theorem sees_start {fn : Func} {args : Array Value} (hn : fn.ntmps = n) (ha : Nat.ble args.size n = true) : Sees n (envOf args) { tmps := args ++ Array.replicate (fn.ntmps - args.size) undef, defers := [] } := by
  replace ha := Nat.le_of_ble_eq_true ha
  refine ⟨rfl, by simp; omega, ?_⟩
  intro t ht
  have ht' : (t : Nat) < n := ht
  subst hn
  simp only [envOf, List.getD_eq_getElem?_getD, Array.getElem?_toList]
  by_cases h1 : (t : Nat) < args.size
  · rw [Array.getElem?_append_left h1, Array.getElem?_eq_getElem h1]
    rfl
  · have h3 : args.size ≤ (t : Nat) := Nat.le_of_not_lt h1
    have h2 : (t : Nat) - args.size < fn.ntmps - args.size := by omega
    rw [Array.getElem?_append_right h3, Array.getElem?_eq_none h3, Array.getElem?_replicate, if_pos h2]
    rfl
theorem own_start {R : List Box} {w : World} (hA : At R w) (hn : (R.map Box.g).Nodup) (hr : ∀ b ∈ R, b.ro = true) : Own ⟨fun _ => False, w⟩ R w :=
  ⟨Nat.le_refl _, fun b hb => ⟨.inl (hr b hb), by
    obtain ⟨fr, h⟩ := hA b hb
    exact ⟨fr, (fun h => by rw [hr b hb] at h; cases h), h⟩⟩, hn⟩
end
end Go.Proofs.YtalffjplbhelcaaGreatDoor
namespace Go.Proofs.YtalffjplbhelcaaGreatDoor
open Go.RowKit
section
variable {p : Program} {n : Nat} {ops : Array Oper}
section
variable {fx ta : List Nat} {al : List Al} {vs : List (Nat × Value)} {E0 : Env} {H0 : List Box} {Q : Exit → Env → List Box → Prop}
end
end
end Go.Proofs.YtalffjplbhelcaaGreatDoor
namespace Go.Proofs.YtalffjplbhelcaaGreatDoor
end Go.Proofs.YtalffjplbhelcaaGreatDoor
namespace Go.Proofs.YtalffjplbhelcaaGreatDoor
open Go.RowKit
theorem agg26 : IsAgg Tryz.prog 26 2 := ⟨⟨_, Tryz.underlying26, rfl, by kernel_rfl⟩⟩
theorem agg32 : IsAgg Tryz.prog 32 3 := ⟨⟨_, Tryz.underlying32, rfl, by kernel_rfl⟩⟩
theorem bd26_0_1 (x0_0 : Int) (x1_0 : Int) : Runs Tryz.prog (Instr.build 26 #[(0, .int .i64 x0_0), (1, .int .i64 x1_0)]) (.agg #[.int .i64 x0_0, .int .i64 x1_0]) := ⟨fun w => by go_simp⟩
theorem bd26_  : Runs Tryz.prog (Instr.build 26 #[]) (.agg #[.int .i64 0, .int .i64 0]) := ⟨fun w => by go_simp⟩
theorem bd32_0_1 (x0_0 : Int) (x1_0 : Int) : Runs Tryz.prog (Instr.build 32 #[(0, .int .i64 x0_0), (1, .int .i64 x1_0)]) (.agg #[.int .i64 x0_0, .int .i64 x1_0, .bool false]) := ⟨fun w => by go_simp⟩
theorem bd32_2 (x0_0 : Bool) : Runs Tryz.prog (Instr.build 32 #[(2, .bool x0_0)]) (.agg #[.int .i64 0, .int .i64 0, .bool x0_0]) := ⟨fun w => by go_simp⟩
theorem cell3 : IsCell Tryz.prog 3 := ⟨⟨_, Tryz.underlying3, rfl, by kernel_rfl⟩⟩
theorem cell4 : IsCell Tryz.prog 4 := ⟨⟨_, Tryz.underlying4, rfl, by kernel_rfl⟩⟩
theorem fa26_0 (a : Addr) : Runs Tryz.prog (Instr.fieldAt 26 (.pointer (some a)) 0) (.pointer (some (a.add 0))) := run_fa (f := 0) (off := 0) (m := 1) Tryz.underlying26 rfl rfl (by kernel_rfl) (by decide) a
theorem fa26_1 (a : Addr) : Runs Tryz.prog (Instr.fieldAt 26 (.pointer (some a)) 1) (.pointer (some (a.add 1))) := run_fa (f := 1) (off := 1) (m := 1) Tryz.underlying26 rfl rfl (by kernel_rfl) (by decide) a
theorem fa32_0 (a : Addr) : Runs Tryz.prog (Instr.fieldAt 32 (.pointer (some a)) 0) (.pointer (some (a.add 0))) := run_fa (f := 0) (off := 0) (m := 1) Tryz.underlying32 rfl rfl (by kernel_rfl) (by decide) a
theorem fa32_1 (a : Addr) : Runs Tryz.prog (Instr.fieldAt 32 (.pointer (some a)) 1) (.pointer (some (a.add 1))) := run_fa (f := 1) (off := 1) (m := 1) Tryz.underlying32 rfl rfl (by kernel_rfl) (by decide) a
theorem fa32_2 (a : Addr) : Runs Tryz.prog (Instr.fieldAt 32 (.pointer (some a)) 2) (.pointer (some (a.add 2))) := run_fa (f := 2) (off := 2) (m := 1) Tryz.underlying32 rfl rfl (by kernel_rfl) (by decide) a
theorem zero26 : Zero Tryz.prog 26 [.int .i64 0, .int .i64 0] := ⟨⟨.agg #[.int .i64 0, .int .i64 0], by kernel_rfl, rfl⟩⟩
theorem zero32 : Zero Tryz.prog 32 [.int .i64 0, .int .i64 0, .bool false] := ⟨⟨.agg #[.int .i64 0, .int .i64 0, .bool false], by kernel_rfl, rfl⟩⟩
end Go.Proofs.YtalffjplbhelcaaGreatDoor
namespace Go.Proofs.YtalffjplbhelcaaGreatDoor
open Go.RowKit
section
variable {p : Program} {n : Nat} {ops : Array Oper} {Q : Exit → Env → List Box → Prop} {l : List Oper} {E : Env} {H : List Box} {o : Oper} {ρ : Operand → Value} {K : Post}
end
end Go.Proofs.YtalffjplbhelcaaGreatDoor
namespace Go.Proofs.YtalffjplbhelcaaGreatDoor
open Go.RowKit
section
variable {p : Program} {n : Nat} {ops : Array Oper} {Q : Exit → Env → List Box → Prop}
def AAny (p : Program) (n : Nat) (ops : Array Oper) (Q : Exit → Env → List Box → Prop) (fuel : Nat) (L : List Bool) (E : Env) (H : List Box) : Prop :=
  ∀ β w a, Own β H w → Keeps β w → Sees n E a → wpAny p .any ops (AQ n β Q) fuel L.toArray a w
def OpR (p : Program) (n : Nat) (ops : Array Oper) (E : Env) (H : List Box) (i : Nat) (K : Env → List Box → Prop) : Prop :=
  ∃ o, ops[i]? = some o ∧ ((yld n ops E o = true ∧ Step p (ev n E) o H fun v H' => K (E.put o.dst v) H') ∨ (yld n ops E o = false ∧ K (E.put o.dst undef) H))
def Each (P : Nat → Prop) : List Nat → Prop
  | [] => True
  | i :: is => P i ∧ Each P is
theorem each_mem {P : Nat → Prop} : ∀ {is : List Nat}, Each P is → ∀ i ∈ is, P i
  | [], _, _, h => by cases h
  | j :: is, h, i, hi => by
    rcases List.mem_cons.1 hi with rfl | hi
    · exact h.1
    · exact each_mem h.2 i hi
theorem opR_op {E : Env} {H : List Box} {i : Nat} {d : Option Nat} {K : Env → List Box → Prop} {o : Oper} (ho : ops[i]? = some o) (hg : o.guard = none) (hd : o.dst = d) (h : Step p (ev n E) o H fun v H' => K (E.put d v) H') : OpR p n ops E H i K := by
  subst hd
  exact ⟨o, ho, .inl ⟨by unfold yld; rw [hg], h⟩⟩
def StepRule (p : Program) (n : Nat) (ops : Array Oper) (Φ : Nat → List Bool → Env → List Box → Prop) : Prop :=
  ∀ fuel L E H is, Region.ready .any ops L.toArray = is → is.isEmpty = false → Each (fun i => OpR p n ops E H i (Φ fuel (L.set i true))) is → Φ (fuel + 1) L E H
def PermRule (Φ : Nat → List Bool → Env → List Box → Prop) : Prop := ∀ fuel L E H H', H.Perm H' → Φ fuel L E H → Φ fuel L E H'
theorem ac_any {id : Nat} {E : Env} {H : List Box} (hm : p.follows .mixedOrders = true) (k : Nat) (hk : ops.size = k)
    (h : ∀ Φ : Nat → List Bool → Env → List Box → Prop, StepRule p n ops Φ → (∀ L E H, Region.ready .any ops L.toArray = [] → Q .normal E H → Φ 0 L E H) → PermRule Φ → Φ k (List.replicate k false) E H) : AC p n (.region id ops true) Q E H := by
  have key := h (AAny p n ops Q) (by
    intro fuel L E H is hr hne he β w a hO hB hs
    refine ⟨fun h => ?_, fun i hi => ?_⟩
    · rw [hr] at h
      rw [h] at hne
      cases hne
    · rw [hr] at hi
      obtain ⟨o, ho, hop⟩ := each_mem he i hi
      unfold wpOp
      simp only [ho]
      rw [hs.yld]
      rcases hop with ⟨hw, hst⟩ | ⟨hw, hk⟩
      · rw [hw, if_pos rfl]
        refine .inl (hst.wp hs hO hB fun v H' w' k hO' hB' => ?_)
        have := k β w' _ hO' hB' (hs.put _ _)
        rwa [← List.setIfInBounds_toArray] at this
      · rw [hw, if_neg (by simp)]
        have := hk β w _ hO hB (hs.put _ _)
        rwa [← List.setIfInBounds_toArray] at this) (by
    intro L E H hr hq β w a hO hB hs
    exact ⟨hr, E, H, hq, hs, hO, hB⟩) (fun fuel L E H H' hp h β w a hO hB hs => h β w a (hO.perm hp.symm) hB hs)
  intro β w a hO hB hs
  refine wp_region_any hm ?_
  have := key β { w with drawn := w.drawn + 1 } a hO.drew hB.drew hs
  rw [← hk] at this
  rwa [List.toArray_replicate] at this
end
def FinG (p : Program) (fn : Func) (n : Nat) (K : Post) : Exit → Env → List Box → Prop := fun e E H => (e = .ret ∨ e = .normal) ∧ ∃ v N, K v N ∧ List.Sublist N H ∧ (N.all fun b => !b.ro) = true ∧ Res p fn n E H v
theorem gives_fin {p : Program} {f : FuncId} {fn : Func} {c : Code} {args : Array Value} {K : Post} {R : List Box} {n : Nat} (hf : p.funcs[f]? = some fn) (hb : fn.body = some c) (hn : fn.ntmps = n) (ha : Nat.ble args.size n = true) (hr : (R.all fun b => b.ro) = true)
    (h : AC p n c (FinG p fn n K) (envOf args) R) : Gives p f args R K := by
  intro w hA hnd
  refine calls_of_wp hf hb ?_
  refine Code.wp_mono ?_ (h ⟨fun _ => False, w⟩ w _ (own_start hA hnd (fun b hb => List.all_eq_true.1 hr b hb)) (Keeps.refl _ _) (sees_start hn ha))
  rintro e a w' ⟨E, H, ⟨he, v, N, hk, hsub, hN, hres⟩, hs, hO, hB⟩
  have hall : ∀ b ∈ N, b.ro = false := fun b hb => by simpa using List.all_eq_true.1 hN b hb
  rcases he with rfl | rfl
  · exact ⟨hs.defers, v, hres _ _ _ hO hs, v, N, rfl, hk, Own.sub hsub hO, hall, hB.below⟩
  · exact ⟨hs.defers, v, hres _ _ _ hO hs, v, N, rfl, hk, Own.sub hsub hO, hall, hB.below⟩
theorem fing_v {p : Program} {fn : Func} {n : Nat} {u v : Value} {e : Exit} {E : Env} {H : List Box} (h : Fin p fn n v e E H) (hv : v = u) : FinG p fn n (fun w N => w = u ∧ N = []) e E H := ⟨h.1, v, [], ⟨hv, rfl⟩, List.nil_sublist _, rfl, h.2⟩
end Go.Proofs.YtalffjplbhelcaaGreatDoor
namespace Go.Proofs.YtalffjplbhelcaaGreatDoor
open Go.RowKit
end Go.Proofs.YtalffjplbhelcaaGreatDoor
/-
 DERIVED: THE SHELF's CONTRACTS AT THIS DUMP, IN PLAIN WORDS (tools/lay-plain.mjs out of 'TryzShelf.lean', which tools/lay-shelf.mjs wrote): THE SAME DECLARATIONS UNDER THE SAME NAMES: 'import', 'namespace', 'open', 'def', 'theorem' AND NOTHING ELSE: no command of the shelf's: FOR A HAND-IN. Each laying: the table of numbers ('.._ren') and one theorem, a field a fact of the dump's own or the kernel's comparison; each contract: ONE APPLICATION.
-/
namespace Go.Proofs.YtalffjplbhelcaaGreatDoor
open Go.Shelf
def Tryz.lays162_ren : Go.Shelf.Ren := ⟨fun | 162 => 69 | 232 => 111 | 227 => 112 | 234 => 113 | 236 => 114 | 228 => 132 | 271 => 133 | 151 => 134 | 120 => 150 | 197 => 149 | 152 => 151 | 260 => 162 | 137 => 163 | 119 => 164 | 224 => 147 | 225 => 146 | 217 => 145 | 266 => 160 | n => n, fun | 9 => 9 | 4 => 4 | 3 => 3 | 5 => 5 | 117 => 113 | 116 => 112 | 0 => 0 | 124 => 116 | 21 => 21 | 105 => 131 | 46 => 118 | 119 => 173 | 139 => 176 | 138 => 175 | n => n, fun | 3 => 4 | 4 => 5 | n => n⟩
theorem Tryz.lays162 : Go.Proofs.Lays.n162 Tryz.prog Tryz.lays162_ren := {
 mixed := by kernel_rfl
 f119 := Tryz.func164.trans (congrArg some (by kernel_rfl))
 f120 := Tryz.func150.trans (congrArg some (by kernel_rfl))
 f137 := Tryz.func163.trans (congrArg some (by kernel_rfl))
 f151 := Tryz.func134.trans (congrArg some (by kernel_rfl))
 f152 := Tryz.func151.trans (congrArg some (by kernel_rfl))
 f162 := Tryz.func69.trans (congrArg some (by kernel_rfl))
 f197 := Tryz.func149.trans (congrArg some (by kernel_rfl))
 f217 := Tryz.func145.trans (congrArg some (by kernel_rfl))
 f224 := Tryz.func147.trans (congrArg some (by kernel_rfl))
 f225 := Tryz.func146.trans (congrArg some (by kernel_rfl))
 f227 := Tryz.func112.trans (congrArg some (by kernel_rfl))
 f228 := Tryz.func132.trans (congrArg some (by kernel_rfl))
 f232 := Tryz.func111.trans (congrArg some (by kernel_rfl))
 f234 := Tryz.func113.trans (congrArg some (by kernel_rfl))
 f236 := Tryz.func114.trans (congrArg some (by kernel_rfl))
 f260 := Tryz.func162.trans (congrArg some (by kernel_rfl))
 f266 := Tryz.func160.trans (congrArg some (by kernel_rfl))
 f271 := Tryz.func133.trans (congrArg some (by kernel_rfl))
 t0 := Tryz.underlying0
 a0 := Tryz.isAgg0
 z0 := Tryz.sizeOf0
 v0 := Tryz.zeroValue0
 t3 := Tryz.underlying3
 a3 := Tryz.isAgg3
 z3 := Tryz.sizeOf3
 v3 := Tryz.zeroValue3
 t4 := Tryz.underlying4
 a4 := Tryz.isAgg4
 z4 := Tryz.sizeOf4
 v4 := Tryz.zeroValue4
 t5 := Tryz.underlying5
 a5 := Tryz.isAgg5
 z5 := Tryz.sizeOf5
 v5 := Tryz.zeroValue5
 t9 := Tryz.underlying9
 a9 := Tryz.isAgg9
 z9 := Tryz.sizeOf9
 v9 := Tryz.zeroValue9
 t21 := Tryz.underlying21
 a21 := Tryz.isAgg21
 z21 := Tryz.sizeOf21
 v21 := Tryz.zeroValue21
 t46 := Tryz.underlying118
 a46 := Tryz.isAgg118
 z46 := Tryz.sizeOf118
 v46 := Tryz.zeroValue118
 t105 := Tryz.underlying131
 a105 := Tryz.isAgg131
 z105 := Tryz.sizeOf131
 v105 := Tryz.zeroValue131
 t116 := Tryz.underlying112
 a116 := Tryz.isAgg112
 z116 := Tryz.sizeOf112
 t117 := Tryz.underlying113
 a117 := Tryz.isAgg113
 z117 := Tryz.sizeOf113
 v117 := Tryz.zeroValue113
 t119 := Tryz.underlying173
 a119 := Tryz.isAgg173
 z119 := Tryz.sizeOf173
 t124 := Tryz.underlying116
 a124 := Tryz.isAgg116
 z124 := Tryz.sizeOf116
 v124 := Tryz.zeroValue116
 t138 := Tryz.underlying175
 a138 := Tryz.isAgg175
 z138 := Tryz.sizeOf175
 v138 := Tryz.zeroValue175
 t139 := Tryz.underlying176
 a139 := Tryz.isAgg176
 z139 := Tryz.sizeOf176
 v139 := Tryz.zeroValue176
 g3 := by kernel_rfl
 g4 := by kernel_rfl }
open Go.RowKit in
theorem Tryz.strings_TrimRight_one (s : ByteArray) (c : UInt8) (hc : c.toNat < 128) (w : World) (hs : s.size ≤ 9223372036854775807) :
  Calls Tryz.prog 69 #[.string s, .string ⟨#[c]⟩] w fun e w' => e = .returned (.string ⟨(Lib.trimRightB s.data.toList c).toArray⟩) ∧ w' = w := Any.strings_TrimRight_one Tryz.lays162 s c hc w hs
def Tryz.lays160_ren : Go.Shelf.Ren := ⟨fun | 160 => 110 | 232 => 111 | 231 => 129 | 227 => 112 | 234 => 113 | 233 => 130 | 236 => 114 | 235 => 131 | 228 => 132 | 271 => 133 | 151 => 134 | 197 => 149 | 120 => 150 | 152 => 151 | 260 => 162 | 137 => 163 | 119 => 164 | 224 => 147 | 225 => 146 | 217 => 145 | 266 => 160 | n => n, fun | 9 => 9 | 4 => 4 | 3 => 3 | 5 => 5 | 117 => 113 | 116 => 112 | 0 => 0 | 124 => 116 | 21 => 21 | 105 => 131 | 46 => 118 | 119 => 173 | 139 => 176 | 138 => 175 | n => n, fun | 3 => 4 | 4 => 5 | n => n⟩
theorem Tryz.lays160 : Go.Proofs.Lays.n160 Tryz.prog Tryz.lays160_ren := {
 mixed := by kernel_rfl
 f119 := Tryz.func164.trans (congrArg some (by kernel_rfl))
 f120 := Tryz.func150.trans (congrArg some (by kernel_rfl))
 f137 := Tryz.func163.trans (congrArg some (by kernel_rfl))
 f151 := Tryz.func134.trans (congrArg some (by kernel_rfl))
 f152 := Tryz.func151.trans (congrArg some (by kernel_rfl))
 f160 := Tryz.func110.trans (congrArg some (by kernel_rfl))
 f197 := Tryz.func149.trans (congrArg some (by kernel_rfl))
 f217 := Tryz.func145.trans (congrArg some (by kernel_rfl))
 f224 := Tryz.func147.trans (congrArg some (by kernel_rfl))
 f225 := Tryz.func146.trans (congrArg some (by kernel_rfl))
 f227 := Tryz.func112.trans (congrArg some (by kernel_rfl))
 f228 := Tryz.func132.trans (congrArg some (by kernel_rfl))
 f231 := Tryz.func129.trans (congrArg some (by kernel_rfl))
 f232 := Tryz.func111.trans (congrArg some (by kernel_rfl))
 f233 := Tryz.func130.trans (congrArg some (by kernel_rfl))
 f234 := Tryz.func113.trans (congrArg some (by kernel_rfl))
 f235 := Tryz.func131.trans (congrArg some (by kernel_rfl))
 f236 := Tryz.func114.trans (congrArg some (by kernel_rfl))
 f260 := Tryz.func162.trans (congrArg some (by kernel_rfl))
 f266 := Tryz.func160.trans (congrArg some (by kernel_rfl))
 f271 := Tryz.func133.trans (congrArg some (by kernel_rfl))
 t0 := Tryz.underlying0
 a0 := Tryz.isAgg0
 z0 := Tryz.sizeOf0
 v0 := Tryz.zeroValue0
 t3 := Tryz.underlying3
 a3 := Tryz.isAgg3
 z3 := Tryz.sizeOf3
 v3 := Tryz.zeroValue3
 t4 := Tryz.underlying4
 a4 := Tryz.isAgg4
 z4 := Tryz.sizeOf4
 v4 := Tryz.zeroValue4
 t5 := Tryz.underlying5
 a5 := Tryz.isAgg5
 z5 := Tryz.sizeOf5
 v5 := Tryz.zeroValue5
 t9 := Tryz.underlying9
 a9 := Tryz.isAgg9
 z9 := Tryz.sizeOf9
 v9 := Tryz.zeroValue9
 t21 := Tryz.underlying21
 a21 := Tryz.isAgg21
 z21 := Tryz.sizeOf21
 v21 := Tryz.zeroValue21
 t46 := Tryz.underlying118
 a46 := Tryz.isAgg118
 z46 := Tryz.sizeOf118
 v46 := Tryz.zeroValue118
 t105 := Tryz.underlying131
 a105 := Tryz.isAgg131
 z105 := Tryz.sizeOf131
 v105 := Tryz.zeroValue131
 t116 := Tryz.underlying112
 a116 := Tryz.isAgg112
 z116 := Tryz.sizeOf112
 t117 := Tryz.underlying113
 a117 := Tryz.isAgg113
 z117 := Tryz.sizeOf113
 v117 := Tryz.zeroValue113
 t119 := Tryz.underlying173
 a119 := Tryz.isAgg173
 z119 := Tryz.sizeOf173
 t124 := Tryz.underlying116
 a124 := Tryz.isAgg116
 z124 := Tryz.sizeOf116
 v124 := Tryz.zeroValue116
 t138 := Tryz.underlying175
 a138 := Tryz.isAgg175
 z138 := Tryz.sizeOf175
 v138 := Tryz.zeroValue175
 t139 := Tryz.underlying176
 a139 := Tryz.isAgg176
 z139 := Tryz.sizeOf176
 v139 := Tryz.zeroValue176
 g3 := by kernel_rfl
 g4 := by kernel_rfl }
def Tryz.lays103_ren : Go.Shelf.Ren := ⟨fun | 103 => 66 | 210 => 108 | 206 => 127 | n => n, fun | 9 => 9 | 4 => 4 | 24 => 79 | 3 => 3 | n => n, fun | n => n⟩
theorem Tryz.lays103 : Go.Proofs.Lays.n103 Tryz.prog Tryz.lays103_ren := {
 mixed := by kernel_rfl
 f103 := Tryz.func66.trans (congrArg some (by kernel_rfl))
 f206 := Tryz.func127.trans (congrArg some (by kernel_rfl))
 f210 := Tryz.func108.trans (congrArg some (by kernel_rfl))
 t3 := Tryz.underlying3
 a3 := Tryz.isAgg3
 z3 := Tryz.sizeOf3
 v3 := Tryz.zeroValue3
 t4 := Tryz.underlying4
 a4 := Tryz.isAgg4
 z4 := Tryz.sizeOf4
 v4 := Tryz.zeroValue4
 t9 := Tryz.underlying9
 a9 := Tryz.isAgg9
 z9 := Tryz.sizeOf9
 v9 := Tryz.zeroValue9
 t24 := Tryz.underlying79
 a24 := Tryz.isAgg79
 z24 := Tryz.sizeOf79
 v24 := Tryz.zeroValue79 }
open Go.RowKit in
theorem Tryz.strings_CutPrefix (s p : ByteArray) (w : World) :
  Calls Tryz.prog 66 #[.string s, .string p] w fun e w' => e = .returned (.tuple #[.string ⟨(Lib.trimPrefix s.data.toList p.data.toList).toArray⟩, .bool (Lib.hasPrefix s.data.toList p.data.toList)]) ∧ w' = w := Any.strings_CutPrefix Tryz.lays103 s p w
def Tryz.lays172_ren : Go.Shelf.Ren := ⟨fun | 172 => 70 | 244 => 115 | 245 => 116 | 247 => 135 | 279 => 136 | 280 => 137 | 281 => 138 | 282 => 139 | 287 => 152 | 316 => 153 | 171 => 73 | 205 => 154 | 321 => 165 | 322 => 166 | 243 => 117 | 246 => 140 | 283 => 155 | 284 => 156 | 285 => 157 | 286 => 158 | 129 => 168 | 317 => 167 | 318 => 169 | 319 => 170 | 320 => 171 | 337 => 172 | 338 => 173 | n => n, fun | 9 => 9 | 3 => 3 | 75 => 86 | 76 => 87 | 4 => 4 | 5 => 5 | 167 => 134 | 37 => 76 | 0 => 0 | 85 => 135 | 2 => 2 | 168 => 137 | 53 => 144 | 175 => 151 | 46 => 118 | 210 => 155 | 127 => 124 | 145 => 168 | 143 => 166 | 21 => 21 | 171 => 157 | 173 => 160 | 212 => 170 | 51 => 141 | 20 => 20 | 213 => 171 | 232 => 178 | 233 => 179 | 80 => 96 | n => n, fun | 15 => 1 | 16 => 2 | 17 => 3 | 18 => 6 | 19 => 7 | n => n⟩
theorem Tryz.lays172 : Go.Proofs.Lays.n172 Tryz.prog Tryz.lays172_ren := {
 mixed := by kernel_rfl
 f129 := Tryz.func168.trans (congrArg some (by kernel_rfl))
 f171 := Tryz.func73.trans (congrArg some (by kernel_rfl))
 f172 := Tryz.func70.trans (congrArg some (by kernel_rfl))
 f205 := Tryz.func154.trans (congrArg some (by kernel_rfl))
 f243 := Tryz.func117.trans (congrArg some (by kernel_rfl))
 f244 := Tryz.func115.trans (congrArg some (by kernel_rfl))
 f245 := Tryz.func116.trans (congrArg some (by kernel_rfl))
 f246 := Tryz.func140.trans (congrArg some (by kernel_rfl))
 f247 := Tryz.func135.trans (congrArg some (by kernel_rfl))
 f279 := Tryz.func136.trans (congrArg some (by kernel_rfl))
 f280 := Tryz.func137.trans (congrArg some (by kernel_rfl))
 f281 := Tryz.func138.trans (congrArg some (by kernel_rfl))
 f282 := Tryz.func139.trans (congrArg some (by kernel_rfl))
 f283 := Tryz.func155.trans (congrArg some (by kernel_rfl))
 f284 := Tryz.func156.trans (congrArg some (by kernel_rfl))
 f285 := Tryz.func157.trans (congrArg some (by kernel_rfl))
 f286 := Tryz.func158.trans (congrArg some (by kernel_rfl))
 f287 := Tryz.func152.trans (congrArg some (by kernel_rfl))
 f316 := Tryz.func153.trans (congrArg some (by kernel_rfl))
 f317 := Tryz.func167.trans (congrArg some (by kernel_rfl))
 f318 := Tryz.func169.trans (congrArg some (by kernel_rfl))
 f319 := Tryz.func170.trans (congrArg some (by kernel_rfl))
 f320 := Tryz.func171.trans (congrArg some (by kernel_rfl))
 f321 := Tryz.func165.trans (congrArg some (by kernel_rfl))
 f322 := Tryz.func166.trans (congrArg some (by kernel_rfl))
 f337 := Tryz.func172.trans (congrArg some (by kernel_rfl))
 f338 := Tryz.func173.trans (congrArg some (by kernel_rfl))
 t0 := Tryz.underlying0
 a0 := Tryz.isAgg0
 z0 := Tryz.sizeOf0
 v0 := Tryz.zeroValue0
 t2 := Tryz.underlying2
 a2 := Tryz.isAgg2
 z2 := Tryz.sizeOf2
 v2 := Tryz.zeroValue2
 t3 := Tryz.underlying3
 a3 := Tryz.isAgg3
 z3 := Tryz.sizeOf3
 v3 := Tryz.zeroValue3
 t4 := Tryz.underlying4
 a4 := Tryz.isAgg4
 z4 := Tryz.sizeOf4
 v4 := Tryz.zeroValue4
 t5 := Tryz.underlying5
 a5 := Tryz.isAgg5
 z5 := Tryz.sizeOf5
 v5 := Tryz.zeroValue5
 t9 := Tryz.underlying9
 a9 := Tryz.isAgg9
 z9 := Tryz.sizeOf9
 v9 := Tryz.zeroValue9
 t20 := Tryz.underlying20
 a20 := Tryz.isAgg20
 z20 := Tryz.sizeOf20
 v20 := Tryz.zeroValue20
 t21 := Tryz.underlying21
 a21 := Tryz.isAgg21
 z21 := Tryz.sizeOf21
 v21 := Tryz.zeroValue21
 t37 := Tryz.underlying76
 a37 := Tryz.isAgg76
 z37 := Tryz.sizeOf76
 v37 := Tryz.zeroValue76
 t46 := Tryz.underlying118
 a46 := Tryz.isAgg118
 z46 := Tryz.sizeOf118
 v46 := Tryz.zeroValue118
 t51 := Tryz.underlying141
 a51 := Tryz.isAgg141
 z51 := Tryz.sizeOf141
 v51 := Tryz.zeroValue141
 t53 := Tryz.underlying144
 a53 := Tryz.isAgg144
 z53 := Tryz.sizeOf144
 v53 := Tryz.zeroValue144
 t75 := Tryz.underlying86
 a75 := Tryz.isAgg86
 z75 := Tryz.sizeOf86
 v75 := Tryz.zeroValue86
 t76 := Tryz.underlying87
 a76 := Tryz.isAgg87
 z76 := Tryz.sizeOf87
 v76 := Tryz.zeroValue87
 t85 := Tryz.underlying135
 a85 := Tryz.isAgg135
 z85 := Tryz.sizeOf135
 v85 := Tryz.zeroValue135
 t127 := Tryz.underlying124
 a127 := Tryz.isAgg124
 z127 := Tryz.sizeOf124
 v127 := Tryz.zeroValue124
 t143 := Tryz.underlying166
 a143 := Tryz.isAgg166
 z143 := Tryz.sizeOf166
 v143 := Tryz.zeroValue166
 t145 := Tryz.underlying168
 a145 := Tryz.isAgg168
 z145 := Tryz.sizeOf168
 v145 := Tryz.zeroValue168
 t167 := Tryz.underlying134
 a167 := Tryz.isAgg134
 z167 := Tryz.sizeOf134
 v167 := Tryz.zeroValue134
 t168 := Tryz.underlying137
 a168 := Tryz.isAgg137
 z168 := Tryz.sizeOf137
 v168 := Tryz.zeroValue137
 t171 := Tryz.underlying157
 a171 := Tryz.isAgg157
 z171 := Tryz.sizeOf157
 v171 := Tryz.zeroValue157
 t173 := Tryz.underlying160
 a173 := Tryz.isAgg160
 z173 := Tryz.sizeOf160
 v173 := Tryz.zeroValue160
 t175 := Tryz.underlying151
 a175 := Tryz.isAgg151
 z175 := Tryz.sizeOf151
 v175 := Tryz.zeroValue151
 t210 := Tryz.underlying155
 a210 := Tryz.isAgg155
 z210 := Tryz.sizeOf155
 v210 := Tryz.zeroValue155
 t212 := Tryz.underlying170
 a212 := Tryz.isAgg170
 z212 := Tryz.sizeOf170
 v212 := Tryz.zeroValue170
 t213 := Tryz.underlying171
 a213 := Tryz.isAgg171
 z213 := Tryz.sizeOf171
 t232 := Tryz.underlying178
 a232 := Tryz.isAgg178
 z232 := Tryz.sizeOf178
 v232 := Tryz.zeroValue178
 t233 := Tryz.underlying179
 a233 := Tryz.isAgg179
 z233 := Tryz.sizeOf179
 v233 := Tryz.zeroValue179
 g15 := by kernel_rfl
 g16 := by kernel_rfl
 g17 := by kernel_rfl
 g18 := by kernel_rfl
 g19 := by kernel_rfl }
open Go.RowKit in
theorem Tryz.strconv_Atoi (s : ByteArray) (n : Int) (hl : s.size ≤ 18) (h : Lib.atoi s.data.toList = some n) (w : World) :
  Calls Tryz.prog 70 #[.string s] w fun e w' => e = .returned (.tuple #[.int .i64 n, .nilIface]) ∧ ∃ t, w' = Lib.bytesWorld w 5 t := Any.strconv_Atoi Tryz.lays172 s n hl h w
def Tryz.laysM246_ren : Go.Shelf.Ren := ⟨fun | 246 => 140 | 283 => 155 | 284 => 156 | 285 => 157 | 286 => 158 | 129 => 168 | 317 => 167 | 318 => 169 | 319 => 170 | 320 => 171 | 337 => 172 | 338 => 173 | n => n, fun | 2 => 2 | 3 => 3 | 9 => 9 | 4 => 4 | 171 => 157 | 0 => 0 | 53 => 144 | 37 => 76 | 5 => 5 | 173 => 160 | 212 => 170 | 51 => 141 | 20 => 20 | 213 => 171 | 46 => 118 | 232 => 178 | 233 => 179 | n => n, fun | 17 => 3 | 18 => 6 | 19 => 7 | n => n⟩
def Tryz.laysM243_ren : Go.Shelf.Ren := ⟨fun | 243 => 117 | 246 => 140 | 283 => 155 | 284 => 156 | 285 => 157 | 286 => 158 | 129 => 168 | 317 => 167 | 318 => 169 | 319 => 170 | 320 => 171 | 337 => 172 | 338 => 173 | n => n, fun | 3 => 3 | 9 => 9 | 2 => 2 | 4 => 4 | 171 => 157 | 0 => 0 | 53 => 144 | 37 => 76 | 5 => 5 | 173 => 160 | 212 => 170 | 51 => 141 | 20 => 20 | 213 => 171 | 46 => 118 | 232 => 178 | 233 => 179 | n => n, fun | 17 => 3 | 18 => 6 | 19 => 7 | n => n⟩
def Tryz.laysM171_ren : Go.Shelf.Ren := ⟨fun | 171 => 73 | 243 => 117 | 246 => 140 | 283 => 155 | 284 => 156 | 285 => 157 | 286 => 158 | 129 => 168 | 317 => 167 | 318 => 169 | 319 => 170 | 320 => 171 | 337 => 172 | 338 => 173 | n => n, fun | 3 => 3 | 9 => 9 | 2 => 2 | 4 => 4 | 171 => 157 | 0 => 0 | 53 => 144 | 37 => 76 | 5 => 5 | 173 => 160 | 212 => 170 | 51 => 141 | 20 => 20 | 213 => 171 | 46 => 118 | 232 => 178 | 233 => 179 | n => n, fun | 17 => 3 | 18 => 6 | 19 => 7 | n => n⟩
theorem Tryz.laysM171 : Go.Proofs.LaysM.n171 Tryz.prog Tryz.laysM171_ren := {
 mixed := by kernel_rfl
 f129 := Tryz.func168.trans (congrArg some (by kernel_rfl))
 f171 := Tryz.func73.trans (congrArg some (by kernel_rfl))
 f243 := Tryz.func117.trans (congrArg some (by kernel_rfl))
 f246 := Tryz.func140.trans (congrArg some (by kernel_rfl))
 f283 := Tryz.func155.trans (congrArg some (by kernel_rfl))
 f284 := Tryz.func156.trans (congrArg some (by kernel_rfl))
 f285 := Tryz.func157.trans (congrArg some (by kernel_rfl))
 f286 := Tryz.func158.trans (congrArg some (by kernel_rfl))
 f317 := Tryz.func167.trans (congrArg some (by kernel_rfl))
 f318 := Tryz.func169.trans (congrArg some (by kernel_rfl))
 f319 := Tryz.func170.trans (congrArg some (by kernel_rfl))
 f320 := Tryz.func171.trans (congrArg some (by kernel_rfl))
 f337 := Tryz.func172.trans (congrArg some (by kernel_rfl))
 f338 := Tryz.func173.trans (congrArg some (by kernel_rfl))
 t0 := Tryz.underlying0
 a0 := Tryz.isAgg0
 z0 := Tryz.sizeOf0
 v0 := Tryz.zeroValue0
 t2 := Tryz.underlying2
 a2 := Tryz.isAgg2
 z2 := Tryz.sizeOf2
 v2 := Tryz.zeroValue2
 t3 := Tryz.underlying3
 a3 := Tryz.isAgg3
 z3 := Tryz.sizeOf3
 v3 := Tryz.zeroValue3
 t4 := Tryz.underlying4
 a4 := Tryz.isAgg4
 z4 := Tryz.sizeOf4
 v4 := Tryz.zeroValue4
 t5 := Tryz.underlying5
 a5 := Tryz.isAgg5
 z5 := Tryz.sizeOf5
 v5 := Tryz.zeroValue5
 t9 := Tryz.underlying9
 a9 := Tryz.isAgg9
 z9 := Tryz.sizeOf9
 v9 := Tryz.zeroValue9
 t20 := Tryz.underlying20
 a20 := Tryz.isAgg20
 z20 := Tryz.sizeOf20
 v20 := Tryz.zeroValue20
 t37 := Tryz.underlying76
 a37 := Tryz.isAgg76
 z37 := Tryz.sizeOf76
 v37 := Tryz.zeroValue76
 t46 := Tryz.underlying118
 a46 := Tryz.isAgg118
 z46 := Tryz.sizeOf118
 v46 := Tryz.zeroValue118
 t51 := Tryz.underlying141
 a51 := Tryz.isAgg141
 z51 := Tryz.sizeOf141
 v51 := Tryz.zeroValue141
 t53 := Tryz.underlying144
 a53 := Tryz.isAgg144
 z53 := Tryz.sizeOf144
 v53 := Tryz.zeroValue144
 t171 := Tryz.underlying157
 a171 := Tryz.isAgg157
 z171 := Tryz.sizeOf157
 v171 := Tryz.zeroValue157
 t173 := Tryz.underlying160
 a173 := Tryz.isAgg160
 z173 := Tryz.sizeOf160
 v173 := Tryz.zeroValue160
 t212 := Tryz.underlying170
 a212 := Tryz.isAgg170
 z212 := Tryz.sizeOf170
 v212 := Tryz.zeroValue170
 t213 := Tryz.underlying171
 a213 := Tryz.isAgg171
 z213 := Tryz.sizeOf171
 t232 := Tryz.underlying178
 a232 := Tryz.isAgg178
 z232 := Tryz.sizeOf178
 v232 := Tryz.zeroValue178
 t233 := Tryz.underlying179
 a233 := Tryz.isAgg179
 z233 := Tryz.sizeOf179
 v233 := Tryz.zeroValue179
 g17 := by kernel_rfl
 g18 := by kernel_rfl
 g19 := by kernel_rfl
 i0 := by kernel_rfl
 i2 := by kernel_rfl
 i3 := by kernel_rfl
 i4 := by kernel_rfl
 i5 := by kernel_rfl
 i9 := by kernel_rfl
 i20 := by kernel_rfl
 i37 := by kernel_rfl
 i46 := by kernel_rfl
 i51 := by kernel_rfl
 i53 := by kernel_rfl
 i171 := by kernel_rfl
 i173 := by kernel_rfl
 i212 := by kernel_rfl
 i232 := by kernel_rfl
 i233 := by kernel_rfl
 m17 := by kernel_rfl
 m18 := by kernel_rfl
 m19 := by kernel_rfl }
open Go.RowKit Go.Sort Go.Lib in
theorem Tryz.strconv_Itoa (n : Int) (h0 : -9223372036854775808 ≤ n) (h1 : n ≤ 9223372036854775807) (w : World) (htab : Lib.TabIs Tryz.prog w "internal/strconv.uint64pow10" .u64 Lib.pow10Tab) :
  Calls Tryz.prog 73 #[.int .i64 n] w fun e w' => e = .returned (.string ⟨(Lib.itoa n).toArray⟩) ∧ ∃ k os, w' = grow (w.drewN k) os := Any.strconv_Itoa Tryz.laysM171 n h0 h1 w htab
def Tryz.lays219_ren : Go.Shelf.Ren := ⟨fun | 219 => 128 | 217 => 145 | 225 => 146 | 224 => 147 | 267 => 148 | 266 => 160 | 314 => 161 | n => n, fun | 9 => 9 | 3 => 3 | 4 => 4 | 5 => 5 | 46 => 118 | 146 => 142 | 51 => 141 | n => n, fun | 1 => 0 | n => n⟩
theorem Tryz.lays219 : Go.Proofs.Lays.n219 Tryz.prog Tryz.lays219_ren := {
 mixed := by kernel_rfl
 f217 := Tryz.func145.trans (congrArg some (by kernel_rfl))
 f219 := Tryz.func128.trans (congrArg some (by kernel_rfl))
 f224 := Tryz.func147.trans (congrArg some (by kernel_rfl))
 f225 := Tryz.func146.trans (congrArg some (by kernel_rfl))
 f266 := Tryz.func160.trans (congrArg some (by kernel_rfl))
 f267 := Tryz.func148.trans (congrArg some (by kernel_rfl))
 f314 := Tryz.func161.trans (congrArg some (by kernel_rfl))
 t3 := Tryz.underlying3
 a3 := Tryz.isAgg3
 z3 := Tryz.sizeOf3
 v3 := Tryz.zeroValue3
 t4 := Tryz.underlying4
 a4 := Tryz.isAgg4
 z4 := Tryz.sizeOf4
 v4 := Tryz.zeroValue4
 t5 := Tryz.underlying5
 a5 := Tryz.isAgg5
 z5 := Tryz.sizeOf5
 v5 := Tryz.zeroValue5
 t9 := Tryz.underlying9
 a9 := Tryz.isAgg9
 z9 := Tryz.sizeOf9
 v9 := Tryz.zeroValue9
 t46 := Tryz.underlying118
 a46 := Tryz.isAgg118
 z46 := Tryz.sizeOf118
 v46 := Tryz.zeroValue118
 t51 := Tryz.underlying141
 a51 := Tryz.isAgg141
 z51 := Tryz.sizeOf141
 v51 := Tryz.zeroValue141
 t146 := Tryz.underlying142
 a146 := Tryz.isAgg142
 z146 := Tryz.sizeOf142
 v146 := Tryz.zeroValue142
 g1 := by kernel_rfl }
open Go.RowKit Go.Lib in
theorem Tryz.stringslite_Index_one (s : ByteArray) (c : UInt8) (w : World) :
  Calls Tryz.prog 128 #[.string s, .string ⟨#[c]⟩] w fun e w' => e = .returned (.int .i64 (Lib.indexByte s.data.toList c)) ∧ w' = w := Any.stringslite_Index_one Tryz.lays219 s c w
def Tryz.lays105_ren : Go.Shelf.Ren := ⟨fun | 105 => 74 | 212 => 118 | 99 => 119 | 165 => 120 | 166 => 81 | 170 => 121 | 169 => 83 | 263 => 141 | 264 => 142 | 206 => 127 | 240 => 122 | 241 => 143 | 276 => 144 | 277 => 159 | n => n, fun | 9 => 9 | 3 => 3 | 4 => 4 | 20 => 20 | 0 => 0 | 46 => 118 | 109 => 119 | 5 => 5 | 72 => 93 | 76 => 87 | 51 => 141 | 146 => 142 | 53 => 144 | 148 => 145 | 70 => 91 | 37 => 76 | 75 => 86 | 127 => 124 | 164 => 147 | 80 => 96 | n => n, fun | n => n⟩
theorem Tryz.lays105 : Go.Proofs.Lays.n105 Tryz.prog Tryz.lays105_ren := {
 mixed := by kernel_rfl
 f99 := Tryz.func119.trans (congrArg some (by kernel_rfl))
 f105 := Tryz.func74.trans (congrArg some (by kernel_rfl))
 f165 := Tryz.func120.trans (congrArg some (by kernel_rfl))
 f166 := Tryz.func81.trans (congrArg some (by kernel_rfl))
 f169 := Tryz.func83.trans (congrArg some (by kernel_rfl))
 f170 := Tryz.func121.trans (congrArg some (by kernel_rfl))
 f206 := Tryz.func127.trans (congrArg some (by kernel_rfl))
 f212 := Tryz.func118.trans (congrArg some (by kernel_rfl))
 f240 := Tryz.func122.trans (congrArg some (by kernel_rfl))
 f241 := Tryz.func143.trans (congrArg some (by kernel_rfl))
 f263 := Tryz.func141.trans (congrArg some (by kernel_rfl))
 f264 := Tryz.func142.trans (congrArg some (by kernel_rfl))
 f276 := Tryz.func144.trans (congrArg some (by kernel_rfl))
 f277 := Tryz.func159.trans (congrArg some (by kernel_rfl))
 t0 := Tryz.underlying0
 a0 := Tryz.isAgg0
 z0 := Tryz.sizeOf0
 v0 := Tryz.zeroValue0
 t3 := Tryz.underlying3
 a3 := Tryz.isAgg3
 z3 := Tryz.sizeOf3
 v3 := Tryz.zeroValue3
 t4 := Tryz.underlying4
 a4 := Tryz.isAgg4
 z4 := Tryz.sizeOf4
 v4 := Tryz.zeroValue4
 t5 := Tryz.underlying5
 a5 := Tryz.isAgg5
 z5 := Tryz.sizeOf5
 v5 := Tryz.zeroValue5
 t9 := Tryz.underlying9
 a9 := Tryz.isAgg9
 z9 := Tryz.sizeOf9
 v9 := Tryz.zeroValue9
 t20 := Tryz.underlying20
 a20 := Tryz.isAgg20
 z20 := Tryz.sizeOf20
 v20 := Tryz.zeroValue20
 t37 := Tryz.underlying76
 a37 := Tryz.isAgg76
 z37 := Tryz.sizeOf76
 v37 := Tryz.zeroValue76
 t46 := Tryz.underlying118
 a46 := Tryz.isAgg118
 z46 := Tryz.sizeOf118
 v46 := Tryz.zeroValue118
 t51 := Tryz.underlying141
 a51 := Tryz.isAgg141
 z51 := Tryz.sizeOf141
 v51 := Tryz.zeroValue141
 t53 := Tryz.underlying144
 a53 := Tryz.isAgg144
 z53 := Tryz.sizeOf144
 v53 := Tryz.zeroValue144
 t70 := Tryz.underlying91
 a70 := Tryz.isAgg91
 z70 := Tryz.sizeOf91
 v70 := Tryz.zeroValue91
 t72 := Tryz.underlying93
 a72 := Tryz.isAgg93
 z72 := Tryz.sizeOf93
 v72 := Tryz.zeroValue93
 t75 := Tryz.underlying86
 a75 := Tryz.isAgg86
 z75 := Tryz.sizeOf86
 v75 := Tryz.zeroValue86
 t76 := Tryz.underlying87
 a76 := Tryz.isAgg87
 z76 := Tryz.sizeOf87
 v76 := Tryz.zeroValue87
 t109 := Tryz.underlying119
 a109 := Tryz.isAgg119
 z109 := Tryz.sizeOf119
 v109 := Tryz.zeroValue119
 t127 := Tryz.underlying124
 a127 := Tryz.isAgg124
 z127 := Tryz.sizeOf124
 v127 := Tryz.zeroValue124
 t146 := Tryz.underlying142
 a146 := Tryz.isAgg142
 z146 := Tryz.sizeOf142
 v146 := Tryz.zeroValue142
 t148 := Tryz.underlying145
 a148 := Tryz.isAgg145
 z148 := Tryz.sizeOf145
 v148 := Tryz.zeroValue145
 t164 := Tryz.underlying147
 a164 := Tryz.isAgg147
 z164 := Tryz.sizeOf147
 v164 := Tryz.zeroValue147 }
theorem Tryz.Builder_Extra_105 : Builder.Extra Tryz.prog Tryz.lays105_ren := {
 sizeBuilder := by kernel_rfl
 liesBuilder := by kernel_rfl
 t5 := Tryz.underlying5
 a5 := Tryz.isAgg5
 z5 := Tryz.sizeOf5
 v5 := Tryz.zeroValue5
 infoByte := by kernel_rfl
 cellsByte := by kernel_rfl
 sizeByte := by kernel_rfl
 neB5 := by decide }
open Go.RowKit Go.Lib in
theorem Tryz.strings_Repeat (s : ByteArray) (c : Nat) (w : World) (hc : c ≤ 9223372036854775807) (hlen : s.size * c ≤ 140737488355328) :
  Calls Tryz.prog 74 #[.string s, .int .i64 c] w fun e w' => e = .returned (.string ⟨(Lib.repeatL s.data.toList c).toArray⟩) ∧ Below w.heap.size w w' := Any.strings_Repeat Tryz.lays105 Tryz.Builder_Extra_105 s c w hc hlen
end Go.Proofs.YtalffjplbhelcaaGreatDoor
namespace Go.Proofs.YtalffjplbhelcaaGreatDoor
open Go.RowKit
section
variable {p : Program} {n : Nat} {ops : Array Oper} {Q : Exit → Env → List Box → Prop}
end
end Go.Proofs.YtalffjplbhelcaaGreatDoor
namespace Go.Proofs.YtalffjplbhelcaaGreatDoor
open Go.RowKit
def sEq (a b : ByteArray) : Bool := a.toList == b.toList
def byteS (n : Int) : ByteArray := ⟨#[UInt8.ofNat n.toNat]⟩
theorem byteS_size (n : Int) : (byteS n).size ≤ 1 := Nat.le_refl _
theorem sz_add {a b : ByteArray} {m n : Nat} (h : a.size ≤ m) (k : b.size ≤ n) : (a ++ b).size ≤ m + n := by
  rw [ByteArray.size_append']; omega
theorem sz_two {a b : ByteArray} {m n : Nat} (h : a.size ≤ m) (k : b.size ≤ n) (hm : m + n ≤ 9223372036854775807) : a.size + b.size ≤ 9223372036854775807 := by omega
section
variable {p : Program} {n : Nat} {ops : Array Oper} {Q : Exit → Env → List Box → Prop} {l : List Oper} {E : Env} {H : List Box} {o : Oper} {ρ : Operand → Value} {K : Post}
theorem st_slen {t : TypeId} {args : List Operand} {s : ByteArray} (ho : o.op = .call { callee := .builtin .len, args := args.toArray, argTypes := #[t] }) (hu : p.underlying t = some .string) (hv : args.map ρ = [.string s]) (k : K (.int .i64 (s.size : Int)) H) : Step p ρ o H K := by
  refine st_val (fun w => ?_) k
  rw [execOp, ho]
  simp only [resolve, List.map_toArray, hv]
  simp [invoke, builtin, Builtin.len_, Sem.run_bind, run_underlying hu w, goInt]
theorem bi_sadd {t : Nat} {a b : ByteArray} (h : a.size + b.size ≤ 9223372036854775807) (x y : Operand) : Runs p (do eqGuard .add t x y (.string a) (.string b); binOp .add t (.string a) (.string b)) (.string (a ++ b)) := ⟨fun w => by
  have := run_string_add_sum (P := p) (w := w) a b h
  simpa [eqGuard, binOp] using this⟩
theorem bi_seql {t : Nat} {a b : ByteArray} {d : Bool} (h : sEq a b = d) (x y : Operand) : Runs p (do eqGuard .eql t x y (.string a) (.string b); binOp .eql t (.string a) (.string b)) (.bool d) := ⟨fun w => by
  subst h
  simp [eqGuard, binOp, Op.stringOp, sEq]⟩
theorem bi_sneq {t : Nat} {a b : ByteArray} {d : Bool} (h : (!sEq a b) = d) (x y : Operand) : Runs p (do eqGuard .neq t x y (.string a) (.string b); binOp .neq t (.string a) (.string b)) (.bool d) := ⟨fun w => by
  subst h
  simp [eqGuard, binOp, Op.stringOp, sEq]⟩
def sAt (s : ByteArray) (i : Nat) : Int := (((s[i]?).getD 0).toNat : Int)
theorem st_six {t : TypeId} {x y : Operand} {s : ByteArray} {i : Nat} (ho : o.op = .index t x y) (hu : p.underlying t = some .string) (hx : ρ x = .string s) (hy : ρ y = .int .i64 i) (hi : i < s.size) (k : K (.int .u8 (sAt s i)) H) : Step p ρ o H K := by
  refine st_run (s := Instr.index t (.string s) (.int .i64 i)) (by rw [execOp, ho]; simp only [hx, hy]) ⟨fun w => ?_⟩ k
  have h0 : (0 : Int) ≤ i := by omega
  have hb := ByteArray.getElem?_lt' s i hi
  simp [Instr.index, asIntOf, Sem.run_bind, run_underlying hu w, h0, hb, sAt]
theorem st_cvs {t u e : Nat} {x : Operand} {g : Nat} {b : Box} {n : Int} (i : Nat) (ho : o.op = .convert t u x) (ht : p.underlying t = some (.slice e)) (he : p.underlying e = some (.int .u8)) (hu : p.underlying u = some .string) (hx : ρ x = .slice (some ⟨g, 0, none⟩) 1 1) (hm : H[i]? = some b) (hg : b.g = g) (hc : b.cs = [.int .u8 n])
    (k : K (.string (byteS n)) H) : Step p ρ o H K := by
  intro F β w hO hB
  obtain ⟨fr, _, hb⟩ := (hO.at_ b (List.mem_append_left _ (List.mem_of_getElem? hm))).2
  subst hg
  have hl := run_loadCells_list (P := p) (w := w) ⟨b.g, 0, none⟩ [.int .u8 n] fun j v hj => by
    rw [add_at, Nat.zero_add, cell_of_row w b.g j _ _ _ hb, hc]
    simpa using hj
  have h1 := run_bytesToString (P := p) (w := w) ⟨b.g, 0, none⟩ 1 1 [n] hl
  have e1 : (execOp ρ o).run p w = .ok (.value (.string (byteS n))) w := by
    rw [execOp, ho]
    simp only [hx]
    simp only [Sem.run_bind]
    rw [run_convert_bytes_string w t u e _ _ _ ht he hu, h1]
    rfl
  rw [e1]
  exact ⟨H, k, hO, hB⟩
end
section
variable {p : Program} {t : Nat} {a b : Int} {d : Bool} {k : IntKind}
theorem bk_leq (h : decide (a ≤ b) = d) (x y : Operand) : Runs p (do eqGuard .leq t x y (.int k a) (.int k b); binOp .leq t (.int k a) (.int k b)) (.bool d) := ⟨fun w => by rw [← h]; cases k <;> rfl⟩
theorem bk_geq (h : decide (a ≥ b) = d) (x y : Operand) : Runs p (do eqGuard .geq t x y (.int k a) (.int k b); binOp .geq t (.int k a) (.int k b)) (.bool d) := ⟨fun w => by rw [← h]; cases k <;> rfl⟩
theorem bk_eql (h : (a == b) = d) (x y : Operand) : Runs p (do eqGuard .eql t x y (.int k a) (.int k b); binOp .eql t (.int k a) (.int k b)) (.bool d) := ⟨fun w => by rw [← h]; cases k <;> rfl⟩
theorem bk_neq (h : (a != b) = d) (x y : Operand) : Runs p (do eqGuard .neq t x y (.int k a) (.int k b); binOp .neq t (.int k a) (.int k b)) (.bool d) := ⟨fun w => by rw [← h]; cases k <;> rfl⟩
end
end Go.Proofs.YtalffjplbhelcaaGreatDoor
namespace Go.Proofs.YtalffjplbhelcaaGreatDoor
open Go.RowKit
def subS (s : ByteArray) (lo hi : Int) : ByteArray := s.extract lo.toNat hi.toNat
theorem subS_le (s : ByteArray) (lo hi : Int) {m : Nat} (h : s.size ≤ m) : (subS s lo hi).size ≤ m := by
  unfold subS
  rw [ByteArray.size_extract]; omega
section
variable {p : Program} {n : Nat} {ops : Array Oper} {Q : Exit → Env → List Box → Prop} {l : List Oper} {E : Env} {H : List Box} {o : Oper} {ρ : Operand → Value} {K : Post}
theorem st_ssb {t : TypeId} {x y : Operand} {s : ByteArray} {lo : Int} (h : 0 ≤ lo ∧ lo ≤ s.size) (ho : o.op = .slice t x (some y) none none) (hu : p.underlying t = some .string) (hx : ρ x = .string s) (hy : ρ y = .int .i64 lo) (k : K (.string (subS s lo s.size)) H) : Step p ρ o H K := by
  refine st_run (s := Instr.sliceAt t (.string s) (some (.int .i64 lo)) none none) (by rw [execOp, ho]; simp only [hx, hy, Option.map_none, Option.map_some]) ⟨fun w => ?_⟩ k
  obtain ⟨h0, h1⟩ := h
  have h3 : lo.toNat ≤ s.size := by omega
  simp [Instr.sliceAt, Instr.slice, Instr.sliceBounds, Sem.run_bind, run_underlying hu w, run_sliceBound, h0, h1, h3, subS]
theorem st_ssh {t : TypeId} {x z : Operand} {s : ByteArray} {hi : Int} (h : 0 ≤ hi ∧ hi ≤ s.size) (ho : o.op = .slice t x none (some z) none) (hu : p.underlying t = some .string) (hx : ρ x = .string s) (hz : ρ z = .int .i64 hi) (k : K (.string (subS s 0 hi)) H) : Step p ρ o H K := by
  refine st_run (s := Instr.sliceAt t (.string s) none (some (.int .i64 hi)) none) (by rw [execOp, ho]; simp only [hx, hz, Option.map_none, Option.map_some]) ⟨fun w => ?_⟩ k
  obtain ⟨h0, h1⟩ := h
  simp [Instr.sliceAt, Instr.slice, Instr.sliceBounds, Sem.run_bind, run_underlying hu w, run_sliceBound, h0, h1, subS]
end
theorem res_ttt {p : Program} {n : Nat} {E : Env} {H : List Box} {fn : Func} {s t u : Nat} {x y z : Value} (h : fn.results = #[.tmp s, .tmp t, .tmp u]) (hx : ev n E (.tmp s) = x) (hy : ev n E (.tmp t) = y) (hz : ev n E (.tmp u) = z) : Res p fn n E H (.tuple #[x, y, z]) := by
  intro β w a hO hs
  simp [results, h, see_tmp hs hx, see_tmp hs hy, see_tmp hs hz, Sem.run_bind]
def byA (l : List UInt8) : ByteArray := ⟨l.toArray⟩
theorem byA_size (l : List UInt8) : (byA l).size = l.length := rfl
def lCutPrefix (s p : ByteArray) : ByteArray × Bool := (byA (Lib.trimPrefix s.data.toList p.data.toList), Lib.hasPrefix s.data.toList p.data.toList)
theorem c_lCutPrefix (s p : ByteArray) : Gets Tryz.prog 66 #[.string s, .string p] (.tuple #[.string (lCutPrefix s p).1, .bool (lCutPrefix s p).2]) :=
  fun w => (Tryz.strings_CutPrefix s p w).mono fun e w' ⟨he, hw⟩ => ⟨he, hw ▸ Below.refl _ _⟩
def lIndex (s : ByteArray) (c : UInt8) : Int := Lib.indexByte s.data.toList c
theorem c_lIndex (s : ByteArray) (c : UInt8) : Gets Tryz.prog 128 #[.string s, .string ⟨#[c]⟩] (.int .i64 (lIndex s c)) :=
  fun w => (Tryz.stringslite_Index_one s c w).mono fun e w' ⟨he, hw⟩ => ⟨he, hw ▸ Below.refl _ _⟩
theorem index_lt : ∀ (l : List UInt8) (c : UInt8), -1 ≤ Lib.indexByte l c ∧ Lib.indexByte l c < l.length ∨ Lib.indexByte l c = -1
  | [], c => .inr rfl
  | b :: l, c => by
    rw [Lib.indexByte]
    split
    · left; constructor <;> simp
    · split
      · right; rfl
      · rename_i h1 h2
        rcases index_lt l c with h | h
        · left; simp only [List.length_cons]; omega
        · rw [h] at h2; exact absurd rfl h2
theorem lIndex_lt (s : ByteArray) (c : UInt8) : lIndex s c < s.size ∧ -1 ≤ lIndex s c := by
  have e : s.size = s.data.toList.length := Lib.size_eq s
  unfold lIndex
  rcases index_lt s.data.toList c with h | h <;> omega
def lTrimRight (s : ByteArray) (c : UInt8) : ByteArray := byA (Lib.trimRightB s.data.toList c)
theorem c_lTrimRight (s : ByteArray) (c : UInt8) (hc : c.toNat < 128) (hs : s.size ≤ 9223372036854775807) : Gets Tryz.prog 69 #[.string s, .string ⟨#[c]⟩] (.string (lTrimRight s c)) :=
  fun w => (Tryz.strings_TrimRight_one s c hc w hs).mono fun e w' ⟨he, hw⟩ => ⟨he, hw ▸ Below.refl _ _⟩
def figs : ByteArray := ⟨#[48, 49, 50, 51, 52, 53, 54, 55, 56, 57]⟩
def lTrimFig (s : ByteArray) : ByteArray := byA (Lib.trimS s.data.toList figs.data.toList)
theorem c_lTrimFig (s : ByteArray) (hs : s.size ≤ 9223372036854775807) : Gets Tryz.prog 110 #[.string s, .string ⟨#[48, 49, 50, 51, 52, 53, 54, 55, 56, 57]⟩] (.string (lTrimFig s)) :=
  fun w => (Any.strings_Trim_laid Tryz.lays160 (by kernel_rfl) s ⟨#[48, 49, 50, 51, 52, 53, 54, 55, 56, 57]⟩ w hs (by decide) (ascii_of_all (by decide))).mono fun e w' ⟨he, hw⟩ => ⟨he, hw⟩
def lAtoi (s : ByteArray) : Int := (Lib.atoi s.data.toList).getD 0
theorem c_lAtoi (s : ByteArray) (hl : s.size ≤ 18) (h : (Lib.atoi s.data.toList).isSome = true) : Gets Tryz.prog 70 #[.string s] (.tuple #[.int .i64 (lAtoi s), .nilIface]) := fun w => by
  obtain ⟨n, hn⟩ := Option.isSome_iff_exists.1 h
  refine (Tryz.strconv_Atoi s n hl hn w).mono fun e w' ⟨he, t, hw⟩ => ⟨?_, hw ▸ Lib.bytesWorld_below _ _ _⟩
  rw [he, lAtoi, hn]; rfl
def lRepeat (s : ByteArray) (c : Int) : ByteArray := byA (Lib.repeatL s.data.toList c.toNat)
theorem c_lRepeat (s : ByteArray) (c : Int) (h0 : 0 ≤ c) (h1 : c ≤ 1000) (hs : s.size ≤ 1000) : Gets Tryz.prog 74 #[.string s, .int .i64 c] (.string (lRepeat s c)) := fun w => by
  have e : ((c.toNat : Nat) : Int) = c := by omega
  have h := Tryz.strings_Repeat s c.toNat w (by omega) (by
    have : s.size * c.toNat ≤ 1000 * 1000 := Nat.mul_le_mul hs (by omega)
    omega)
  rw [e] at h
  exact h.mono fun e w' ⟨he, hw⟩ => ⟨he, hw⟩
def powBox (t : Nat) : Box := ⟨3, Lib.pow10Tab.map fun z => Value.int .u64 z, t, true⟩
def lItoa (n : Int) : ByteArray := byA (Lib.itoa n)
theorem tab_of {w : World} {t : Nat} (h : At [powBox t] w) : Lib.TabIs Tryz.prog w "internal/strconv.uint64pow10" .u64 Lib.pow10Tab := by
  obtain ⟨fr, hh⟩ := h (powBox t) List.mem_cons_self
  have hg : Tryz.prog.globalNamed "internal/strconv.uint64pow10" = some 3 := by kernel_rfl
  unfold Lib.TabIs
  simp only [World.var?, hg, Option.bind_some, Option.bind_eq_bind]
  rw [show w.heap[3]? = _ from hh]
  rfl
theorem at_tab {w : World} (h : Lib.TabIs Tryz.prog w "internal/strconv.uint64pow10" .u64 Lib.pow10Tab) : ∃ t, At [powBox t] w := by
  have hg : Tryz.prog.globalNamed "internal/strconv.uint64pow10" = some 3 := by kernel_rfl
  unfold Lib.TabIs at h
  simp only [World.var?, hg, Option.bind_some, Option.bind_eq_bind] at h
  split at h
  · rename_i cs t fr hh
    refine ⟨t, fun b hb => ?_⟩
    obtain rfl := List.mem_singleton.1 hb
    refine ⟨fr, ?_⟩
    show w.heap[3]? = some (.cells (Lib.pow10Tab.map fun z => Value.int .u64 z).toArray t fr)
    rw [hh, Option.some.inj h]
  · cases h
theorem c_lItoa (tP : Nat) (n : Int) (h0 : -9223372036854775808 ≤ n) (h1 : n ≤ 9223372036854775807) : Gives Tryz.prog 73 #[.int .i64 n] [powBox tP] (fun u N => u = .string (lItoa n) ∧ N = []) := fun w hA _ =>
  (Tryz.strconv_Itoa n h0 h1 w (tab_of hA)).mono fun e w' ⟨he, k, os, hw⟩ => ⟨_, [], he, ⟨rfl, rfl⟩, ⟨by rw [hw]; simp, by simp, by simp⟩, by simp, by rw [hw]; exact Lib.below_grow _ _ (Nat.le_refl _) _ _⟩
end Go.Proofs.YtalffjplbhelcaaGreatDoor
namespace Go.Proofs.YtalffjplbhelcaaGreatDoor
open Go.RowKit
section
variable {p : Program} {n : Nat} {ops : Array Oper} {Q : Exit → Env → List Box → Prop} {l : List Oper} {E : Env} {H : List Box} {o : Oper} {ρ : Operand → Value} {K : Post}
end
structure Cx where
  re : Nat
  im : Nat
deriving DecidableEq
section
variable {p : Program} {t : Nat} {a b : Cx} {d : Bool}
end
end Go.Proofs.YtalffjplbhelcaaGreatDoor
namespace Go.Proofs.YtalffjplbhelcaaGreatDoor
open Go.RowKit
end Go.Proofs.YtalffjplbhelcaaGreatDoor
namespace Go.Proofs.YtalffjplbhelcaaGreatDoor
open Go.RowKit
end Go.Proofs.YtalffjplbhelcaaGreatDoor
namespace Go.Proofs.YtalffjplbhelcaaGreatDoor
open Go.RowKit
end Go.Proofs.YtalffjplbhelcaaGreatDoor
namespace Go.Proofs.YtalffjplbhelcaaGreatDoor
open Go.RowKit
end Go.Proofs.YtalffjplbhelcaaGreatDoor
namespace Go.Proofs.YtalffjplbhelcaaGreatDoor
open Go.RowKit
end Go.Proofs.YtalffjplbhelcaaGreatDoor
namespace Go.Proofs.YtalffjplbhelcaaGreatDoor
open Go.RowKit
attribute [local irreducible] AC AR DWalk
structure Dec where
 c : Int
 scale : Int
deriving DecidableEq
@[reducible] def Dec.v (s : Dec) : Value := .agg #[.int .i64 s.c, .int .i64 s.scale]
theorem dec_eq (a b : Dec) : decide (a = b) = ((a.c == b.c) && (a.scale == b.scale)) := by
 obtain ⟨x, y⟩ := a
 obtain ⟨u, v⟩ := b
 rw [Bool.eq_iff_iff]
 simp [Dec.mk.injEq]
theorem stood_dec : Tryz.prog.stoodInHeld 26 = false := by kernel_rfl
theorem eqr_dec (a b : Dec) (d : Nat) (w : World) : (Op.equalIn (d + 2) 26 a.v b.v).run Tryz.prog w = .ok (decide (a = b)) w := by
 rw [dec_eq]
 refine eqf_s (xs := [.int .i64 a.c, .int .i64 a.scale]) (ys := [.int .i64 b.c, .int .i64 b.scale]) Tryz.underlying26 stood_dec ?_
 refine eqf_c (by decide) (part_c cell_int rfl) (part_c cell_int rfl) (run_equalIn_int _ _ _ _ _ _ _ Tryz.underlying3) ?_
 have := eqf_c (p := Tryz.prog) (d := d + 1) (xs := [.int .i64 a.c, .int .i64 a.scale]) (ys := [.int .i64 b.c, .int .i64 b.scale]) (w := w) (f := { name := "Scale", type := 3, offset := 1, embedded := false, tag := "", pkgPath := "", byteOffset := 8 }) (fs := []) (by decide) (part_c cell_int rfl) (part_c cell_int rfl) (run_equalIn_int _ _ _ _ _ _ _ Tryz.underlying3) eqf_n
 rw [Bool.and_true] at this
 exact this
theorem guard_dec : Tryz.prog.eqGuardType Tryz.prog.depth 26 = false := by kernel_rfl
theorem beql_26 (a b : Dec) {d : Bool} (h : decide (a = b) = d) (x y : Operand) : Runs Tryz.prog (do eqGuard .eql 26 x y a.v b.v; binOp .eql 26 a.v b.v) (.bool d) := bs_eql guard_dec (fun w => eqr_dec a b 9998 w) h x y
end Go.Proofs.YtalffjplbhelcaaGreatDoor
namespace Go.Proofs.YtalffjplbhelcaaGreatDoor
open Go.RowKit
attribute [local irreducible] AC AR DWalk
def rDigit (c : Int) : Bool := (bif decide (c ≥ 48) then decide (c ≤ 57) else false)
set_option maxRecDepth 100000 in
theorem c_rDigit (c : Int) : Gets Tryz.prog 71 #[.int .u8 c] ((fun (r : Bool) => (.bool r : Value)) (rDigit c)) := by
 refine gets_fin Tryz.func71 rfl rfl rfl (aQ (aL (aA 2 (.bool false) rfl rfl (aN (aQ (aL (aM 3 (.int .u8 c) rfl rfl (aB 4 (.bool (decide (c ≥ 48))) rfl rfl rfl (bk_geq rfl) (aM 5 (.bool (decide (c ≥ 48))) rfl rfl ?_)))))))))
 refine bool_split (decide (c ≥ 48)) (fun h1 => ?_) (fun h1 => ?_)
 ·refine ar_gd (d := (some 6)) (by show ((decide (c ≥ 48)) == true) = true; rw [h1]; rfl) rfl (st_move (v := .int .u8 c) rfl rfl (ar_gd (d := (some 7)) (by show ((decide (c ≥ 48)) == true) = true; rw [h1]; rfl) rfl (st_bi (r := .bool (decide (c ≤ 57))) rfl rfl rfl (bk_leq rfl) (ao 8 rfl rfl (st_pkt' (b := decide (c ≥ 48)) (v := .bool (decide (c ≤ 57))) h1 rfl rfl rfl (aA 2 (.bool (decide (c ≤ 57))) rfl rfl (aN (ac_ret (fin_eq (v := .bool (decide (c ≤ 57))) (by show _ = (fun (r : Bool) => (.bool r : Value)) (rDigit c); rw [rDigit, h1] <;> rfl) (fin_ret (res_tmp rfl rfl)))))))))))
 ·refine aK 6 (by show ((decide (c ≥ 48)) == true) = false; rw [h1]; rfl) rfl (aK 7 (by show ((decide (c ≥ 48)) == true) = false; rw [h1]; rfl) rfl (ao 8 rfl rfl (st_pkf' (b := decide (c ≥ 48)) (v := .bool false) h1 rfl rfl rfl (aA 2 (.bool false) rfl rfl (aN (ac_ret (fin_eq (v := .bool false) (by show _ = (fun (r : Bool) => (.bool r : Value)) (rDigit c); rw [rDigit, h1] <;> rfl) (fin_ret (res_tmp rfl rfl)))))))))
def rRightDec (d : Dec) : Bool := (bif decide (d.c ≥ (-100000000000)) then (bif decide (d.c ≤ 100000000000) then (bif decide (d.scale ≥ 0) then (bif decide (d.scale ≤ 6) then (bif d.scale == 0 then true else (Int.tmod d.c 10) != 0) else false) else false) else false) else false)
set_option maxRecDepth 100000 in
theorem c_rRightDec (d : Dec) : Gets Tryz.prog 32 #[.agg #[.int .i64 d.c, .int .i64 d.scale]] ((fun (r : Bool) => (.bool r : Value)) (rRightDec d)) := by
 refine gets_fin Tryz.func32 rfl rfl rfl (aQ (aL (ao 1 rfl rfl (st_box (v := .agg #[.int .i64 d.c, .int .i64 d.scale]) (cs := [.int .i64 d.c, .int .i64 d.scale]) rfl rfl rfl fun g0 => (aA 2 (.bool false) rfl rfl (aN (aQ (aL (aF 3 fa26_0 rfl rfl (aD 4 (.int .i64 d.c) cell3 0 rfl rfl rfl rfl (aB 5 (.bool (decide (d.c ≥ (-100000000000)))) rfl rfl rfl (bi_geq rfl) (aM 6 (.bool (decide (d.c ≥ (-100000000000)))) rfl rfl ?_))))))))))))
 refine bool_split (decide (d.c ≥ (-100000000000))) (fun h1 => ?_) (fun h1 => ?_)
 ·refine ar_gd (d := (some 7)) (by show ((decide (d.c ≥ (-100000000000))) == true) = true; rw [h1]; rfl) rfl (st_fa rfl fa26_0 rfl (ar_gd (d := (some 8)) (by show ((decide (d.c ≥ (-100000000000))) == true) = true; rw [h1]; rfl) rfl (st_ldc (v := .int .i64 d.c) cell3 0 rfl rfl rfl rfl rfl (ar_gd (d := (some 9)) (by show ((decide (d.c ≥ (-100000000000))) == true) = true; rw [h1]; rfl) rfl (st_bi (r := .bool (decide (d.c ≤ 100000000000))) rfl rfl rfl (bi_leq rfl) (ao 10 rfl rfl (st_pkt' (b := decide (d.c ≥ (-100000000000))) (v := .bool (decide (d.c ≤ 100000000000))) h1 rfl rfl rfl (aM 11 (.bool (decide (d.c ≤ 100000000000))) rfl rfl ?_))))))))
  refine bool_split (decide (d.c ≤ 100000000000)) (fun h2 => ?_) (fun h2 => ?_)
  ·refine ar_gd (d := (some 12)) (by show ((decide (d.c ≤ 100000000000)) == true) = true; rw [h2]; rfl) rfl (st_fa rfl fa26_1 rfl (ar_gd (d := (some 13)) (by show ((decide (d.c ≤ 100000000000)) == true) = true; rw [h2]; rfl) rfl (st_ldc (v := .int .i64 d.scale) cell3 0 rfl rfl rfl rfl rfl (ar_gd (d := (some 14)) (by show ((decide (d.c ≤ 100000000000)) == true) = true; rw [h2]; rfl) rfl (st_bi (r := .bool (decide (d.scale ≥ 0))) rfl rfl rfl (bi_geq rfl) (ao 15 rfl rfl (st_pkt' (b := decide (d.c ≤ 100000000000)) (v := .bool (decide (d.scale ≥ 0))) h2 rfl rfl rfl (aM 16 (.bool (decide (d.scale ≥ 0))) rfl rfl ?_))))))))
   refine bool_split (decide (d.scale ≥ 0)) (fun h3 => ?_) (fun h3 => ?_)
   ·refine ar_gd (d := (some 17)) (by show ((decide (d.scale ≥ 0)) == true) = true; rw [h3]; rfl) rfl (st_fa rfl fa26_1 rfl (ar_gd (d := (some 18)) (by show ((decide (d.scale ≥ 0)) == true) = true; rw [h3]; rfl) rfl (st_ldc (v := .int .i64 d.scale) cell3 0 rfl rfl rfl rfl rfl (ar_gd (d := (some 19)) (by show ((decide (d.scale ≥ 0)) == true) = true; rw [h3]; rfl) rfl (st_bi (r := .bool (decide (d.scale ≤ 6))) rfl rfl rfl (bi_leq rfl) (ao 20 rfl rfl (st_pkt' (b := decide (d.scale ≥ 0)) (v := .bool (decide (d.scale ≤ 6))) h3 rfl rfl rfl (aM 21 (.bool (decide (d.scale ≤ 6))) rfl rfl ?_))))))))
    refine bool_split (decide (d.scale ≤ 6)) (fun h4 => ?_) (fun h4 => ?_)
    ·refine ar_gd (d := (some 22)) (by show ((decide (d.scale ≤ 6)) == true) = true; rw [h4]; rfl) rfl (st_fa rfl fa26_1 rfl (ar_gd (d := (some 23)) (by show ((decide (d.scale ≤ 6)) == true) = true; rw [h4]; rfl) rfl (st_ldc (v := .int .i64 d.scale) cell3 0 rfl rfl rfl rfl rfl (ar_gd (d := (some 24)) (by show ((decide (d.scale ≤ 6)) == true) = true; rw [h4]; rfl) rfl (st_bi (r := .bool (d.scale == 0)) rfl rfl rfl (bi_eql rfl) (ar_gd (d := (some 25)) (by show ((decide (d.scale ≤ 6)) == true) = true; rw [h4]; rfl) rfl (st_move (v := .bool (d.scale == 0)) rfl rfl ?_)))))))
     refine bool_split (d.scale == 0) (fun h5 => ?_) (fun h5 => ?_)
     ·refine aK 26 (by show ((d.scale == 0) == false) = false; rw [h5]; rfl) rfl (aK 27 (by show ((d.scale == 0) == false) = false; rw [h5]; rfl) rfl (aK 28 (by show ((d.scale == 0) == false) = false; rw [h5]; rfl) rfl (aK 29 (by show ((d.scale == 0) == false) = false; rw [h5]; rfl) rfl (ar_gd (d := (some 30)) (by show ((decide (d.scale ≤ 6)) == true) = true; rw [h4]; rfl) rfl (st_pkt' (b := d.scale == 0) (v := .bool true) h5 rfl rfl rfl (ao 31 rfl rfl (st_pkt' (b := decide (d.scale ≤ 6)) (v := .bool true) h4 rfl rfl rfl (aA 2 (.bool true) rfl rfl (aN (ac_ret ?_))))))))))
      exact fin_eq (v := .bool true) (by show _ = (fun (r : Bool) => (.bool r : Value)) (rRightDec d); rw [rRightDec, h5, h4, h3, h2, h1] <;> rfl) (fin_ret (res_tmp rfl rfl))
     ·refine ar_gd (d := (some 26)) (by show ((d.scale == 0) == false) = true; rw [h5]; rfl) rfl (st_fa rfl fa26_0 rfl (ar_gd (d := (some 27)) (by show ((d.scale == 0) == false) = true; rw [h5]; rfl) rfl (st_ldc (v := .int .i64 d.c) cell3 0 rfl rfl rfl rfl rfl (ar_gd (d := (some 28)) (by show ((d.scale == 0) == false) = true; rw [h5]; rfl) rfl (st_bi (r := .int .i64 (Int.tmod d.c 10)) rfl rfl rfl (bi_rem (by decide) rfl) (ar_gd (d := (some 29)) (by show ((d.scale == 0) == false) = true; rw [h5]; rfl) rfl (st_bi (r := .bool ((Int.tmod d.c 10) != 0)) rfl rfl rfl (bi_neq rfl) ?_)))))))
      refine ar_gd (d := (some 30)) (by show ((decide (d.scale ≤ 6)) == true) = true; rw [h4]; rfl) rfl (st_pkf' (b := d.scale == 0) (v := .bool ((Int.tmod d.c 10) != 0)) h5 rfl rfl rfl (ao 31 rfl rfl (st_pkt' (b := decide (d.scale ≤ 6)) (v := .bool ((Int.tmod d.c 10) != 0)) h4 rfl rfl rfl (aA 2 (.bool ((Int.tmod d.c 10) != 0)) rfl rfl (aN (ac_ret (fin_eq (v := .bool ((Int.tmod d.c 10) != 0)) (by show _ = (fun (r : Bool) => (.bool r : Value)) (rRightDec d); rw [rRightDec, h5, h4, h3, h2, h1] <;> rfl) (fin_ret (res_tmp rfl rfl)))))))))
    ·refine aK 22 (by show ((decide (d.scale ≤ 6)) == true) = false; rw [h4]; rfl) rfl (aK 23 (by show ((decide (d.scale ≤ 6)) == true) = false; rw [h4]; rfl) rfl (aK 24 (by show ((decide (d.scale ≤ 6)) == true) = false; rw [h4]; rfl) rfl (aK 25 (by show ((decide (d.scale ≤ 6)) == true) = false; rw [h4]; rfl) rfl (aK 26 rfl rfl (aK 27 rfl rfl (aK 28 rfl rfl (aK 29 rfl rfl (aK 30 (by show ((decide (d.scale ≤ 6)) == true) = false; rw [h4]; rfl) rfl (ao 31 rfl rfl (st_pkf' (b := decide (d.scale ≤ 6)) (v := .bool false) h4 rfl rfl rfl (aA 2 (.bool false) rfl rfl (aN (ac_ret ?_)))))))))))))
     exact fin_eq (v := .bool false) (by show _ = (fun (r : Bool) => (.bool r : Value)) (rRightDec d); rw [rRightDec, h4, h3, h2, h1] <;> rfl) (fin_ret (res_tmp rfl rfl))
   ·refine aK 17 (by show ((decide (d.scale ≥ 0)) == true) = false; rw [h3]; rfl) rfl (aK 18 (by show ((decide (d.scale ≥ 0)) == true) = false; rw [h3]; rfl) rfl (aK 19 (by show ((decide (d.scale ≥ 0)) == true) = false; rw [h3]; rfl) rfl (ao 20 rfl rfl (st_pkf' (b := decide (d.scale ≥ 0)) (v := .bool false) h3 rfl rfl rfl (aM 21 (.bool false) rfl rfl (aK 22 rfl rfl (aK 23 rfl rfl (aK 24 rfl rfl (aK 25 rfl rfl (aK 26 rfl rfl (aK 27 rfl rfl (aK 28 rfl rfl (aK 29 rfl rfl (aK 30 rfl rfl (ao 31 rfl rfl (st_pkf (v := .bool false) rfl rfl rfl (aA 2 (.bool false) rfl rfl (aN (ac_ret ?_)))))))))))))))))))
    exact fin_eq (v := .bool false) (by show _ = (fun (r : Bool) => (.bool r : Value)) (rRightDec d); rw [rRightDec, h3, h2, h1] <;> rfl) (fin_ret (res_tmp rfl rfl))
  ·refine aK 12 (by show ((decide (d.c ≤ 100000000000)) == true) = false; rw [h2]; rfl) rfl (aK 13 (by show ((decide (d.c ≤ 100000000000)) == true) = false; rw [h2]; rfl) rfl (aK 14 (by show ((decide (d.c ≤ 100000000000)) == true) = false; rw [h2]; rfl) rfl (ao 15 rfl rfl (st_pkf' (b := decide (d.c ≤ 100000000000)) (v := .bool false) h2 rfl rfl rfl (aM 16 (.bool false) rfl rfl (aK 17 rfl rfl (aK 18 rfl rfl (aK 19 rfl rfl (ao 20 rfl rfl (st_pkf (v := .bool false) rfl rfl rfl (aM 21 (.bool false) rfl rfl (aK 22 rfl rfl (aK 23 rfl rfl (aK 24 rfl rfl (aK 25 rfl rfl (aK 26 rfl rfl (aK 27 rfl rfl (aK 28 rfl rfl (aK 29 rfl rfl (aK 30 rfl rfl ?_))))))))))))))))))))
   refine ao 31 rfl rfl (st_pkf (v := .bool false) rfl rfl rfl (aA 2 (.bool false) rfl rfl (aN (ac_ret (fin_eq (v := .bool false) (by show _ = (fun (r : Bool) => (.bool r : Value)) (rRightDec d); rw [rRightDec, h2, h1] <;> rfl) (fin_ret (res_tmp rfl rfl)))))))
 ·refine aK 7 (by show ((decide (d.c ≥ (-100000000000))) == true) = false; rw [h1]; rfl) rfl (aK 8 (by show ((decide (d.c ≥ (-100000000000))) == true) = false; rw [h1]; rfl) rfl (aK 9 (by show ((decide (d.c ≥ (-100000000000))) == true) = false; rw [h1]; rfl) rfl (ao 10 rfl rfl (st_pkf' (b := decide (d.c ≥ (-100000000000))) (v := .bool false) h1 rfl rfl rfl (aM 11 (.bool false) rfl rfl (aK 12 rfl rfl (aK 13 rfl rfl (aK 14 rfl rfl (ao 15 rfl rfl (st_pkf (v := .bool false) rfl rfl rfl (aM 16 (.bool false) rfl rfl (aK 17 rfl rfl (aK 18 rfl rfl (aK 19 rfl rfl (ao 20 rfl rfl (st_pkf (v := .bool false) rfl rfl rfl (aM 21 (.bool false) rfl rfl (aK 22 rfl rfl ?_))))))))))))))))))
  refine aK 23 rfl rfl (aK 24 rfl rfl (aK 25 rfl rfl (aK 26 rfl rfl (aK 27 rfl rfl (aK 28 rfl rfl (aK 29 rfl rfl (aK 30 rfl rfl (ao 31 rfl rfl (st_pkf (v := .bool false) rfl rfl rfl (aA 2 (.bool false) rfl rfl (aN (ac_ret (fin_eq (v := .bool false) (by show _ = (fun (r : Bool) => (.bool r : Value)) (rRightDec d); rw [rRightDec, h1] <;> rfl) (fin_ret (res_tmp rfl rfl)))))))))))))))
end Go.Proofs.YtalffjplbhelcaaGreatDoor
namespace Go.Proofs.YtalffjplbhelcaaGreatDoor
theorem w64_in {n : Int} (h : -9223372036854775808 ≤ n ∧ n ≤ 9223372036854775807) : w64 n = n := by
  show IntKind.i64.wrap n = n
  rw [IntKind.wrap_i64]
  omega
theorem cut_hi {s : ByteArray} (h : decide (lIndex s 46 ≥ 0) = true) : 0 ≤ lIndex s 46 ∧ lIndex s 46 ≤ s.size := by
  have := of_decide_eq_true h
  have := lIndex_lt s 46
  omega
theorem cut_lo {s : ByteArray} (hs : s.size ≤ 9223372036854775807) (h : decide (lIndex s 46 ≥ 0) = true) : 0 ≤ w64 (lIndex s 46 + 1) ∧ w64 (lIndex s 46 + 1) ≤ s.size := by
  have := of_decide_eq_true h
  have := lIndex_lt s 46
  rw [w64_in (by omega)]
  omega
theorem fig_sz {s : ByteArray} {n : Int} (hn : n ≤ 1000) (h : decide ((s.size : Int) ≤ n) = true) : s.size ≤ 9223372036854775807 := by
  have := of_decide_eq_true h
  omega
end Go.Proofs.YtalffjplbhelcaaGreatDoor
namespace Go.Proofs.YtalffjplbhelcaaGreatDoor
open Go.RowKit
attribute [local irreducible] AC AR DWalk
def cutDot0 (s : ByteArray) : ByteArray × ByteArray × Bool := (bif decide ((lIndex s 46) ≥ 0) then ((subS s 0 (lIndex s 46)), (subS s (w64 ((lIndex s 46) + 1)) ((s).size : Int)), true) else (s, (⟨#[]⟩ : ByteArray), false))
set_option maxRecDepth 100000 in
theorem c_cutDot0 (s : ByteArray) (hs : s.size ≤ 9223372036854775807) : Gets Tryz.prog 109 #[.string s, .string (⟨#[46]⟩ : ByteArray)] ((fun (r : ByteArray × ByteArray × Bool) => (.tuple #[.string r.1, .string r.2.1, .bool r.2.2] : Value)) (cutDot0 s)) := by
 refine gets_fin Tryz.func109 rfl rfl rfl (aQ (aL (aA 4 (.string (⟨#[]⟩ : ByteArray)) rfl rfl (aA 5 (.string (⟨#[]⟩ : ByteArray)) rfl rfl (aA 6 (.bool false) rfl rfl (aN (aQ (aQ (aL (aM 8 (.string s) rfl rfl (aM 9 (.string (⟨#[46]⟩ : ByteArray)) rfl rfl (aC 10 (c_lIndex s 46) Tryz.func128 ⟨rfl, by decide⟩ rfl rfl (aA 7 (.int .i64 (lIndex s 46)) rfl rfl (aN (aQ (aL (aM 11 (.int .i64 (lIndex s 46)) rfl rfl (aB 12 (.bool (decide ((lIndex s 46) ≥ 0))) rfl rfl rfl (bi_geq rfl) (aN ?_)))))))))))))))))))
 refine bool_split (decide ((lIndex s 46) ≥ 0)) (fun h1 => ?_) (fun h1 => ?_)
 ·refine ac_then' (b := decide ((lIndex s 46) ≥ 0)) h1 rfl (aQ ?_)
  refine ac_draw0 (id := 3) [0, 1, 2, 3, 4, 5, 6, 7, 8, 9, 10, 11] [] _ (by kernel_rfl) follows rfl  (dw_op (d := some 13) _ rfl rfl rfl (st_move (v := .string s) rfl rfl ⟨rfl, rfl⟩) (dw_op (d := some 14) _ rfl rfl rfl (st_move (v := .int .i64 (lIndex s 46)) rfl rfl ⟨rfl, rfl⟩) (dw_op (d := some 15) _ rfl rfl rfl (st_ssh (cut_hi h1) rfl Tryz.underlying9 rfl rfl ⟨rfl, rfl⟩) (dw_op (d := some 16) _ rfl rfl rfl (st_move (v := .string s) rfl rfl ⟨rfl, rfl⟩) (dw_op (d := some 17) _ rfl rfl rfl (st_move (v := .int .i64 (lIndex s 46)) rfl rfl ⟨rfl, rfl⟩) (dw_op (d := some 18) _ rfl rfl rfl (st_move (v := .string (⟨#[46]⟩ : ByteArray)) rfl rfl ⟨rfl, rfl⟩) ?_))))))
  refine dw_op (d := some 19) _ rfl rfl rfl (st_slen (s := (⟨#[46]⟩ : ByteArray)) rfl Tryz.underlying9 rfl ⟨rfl, rfl⟩) (dw_op (d := some 20) _ rfl rfl rfl (st_bi (r := .int .i64 (w64 ((lIndex s 46) + 1))) rfl rfl rfl (bi_add rfl) ⟨rfl, rfl⟩) (dw_op (d := some 21) _ rfl rfl rfl (st_ssb (cut_lo hs h1) rfl Tryz.underlying9 rfl rfl ⟨rfl, rfl⟩) (dw_op (d := some 4) _ rfl rfl rfl (st_assign (v := .string (subS s 0 (lIndex s 46))) rfl rfl ⟨rfl, rfl⟩) (dw_op (d := some 5) _ rfl rfl rfl (st_assign (v := .string (subS s (w64 ((lIndex s 46) + 1)) ((s).size : Int))) rfl rfl ⟨rfl, rfl⟩) (dw_op (d := some 6) _ rfl rfl rfl (st_assign (v := .bool true) rfl rfl ⟨rfl, rfl⟩) (dw_nil (aN ?_)))))))
  refine ac_ret (fin_eq (v := .tuple #[.string (subS s 0 (lIndex s 46)), .string (subS s (w64 ((lIndex s 46) + 1)) ((s).size : Int)), .bool true]) (by show _ = (fun (r : ByteArray × ByteArray × Bool) => (.tuple #[.string r.1, .string r.2.1, .bool r.2.2] : Value)) (cutDot0 s); rw [cutDot0, h1] <;> rfl) (fin_ret (res_ttt rfl rfl rfl rfl)))
 ·refine ac_else' (b := decide ((lIndex s 46) ≥ 0)) h1 rfl (ac_skip (aQ (aL (aM 22 (.string s) rfl rfl (aA 4 (.string s) rfl rfl (aA 5 (.string (⟨#[]⟩ : ByteArray)) rfl rfl (aA 6 (.bool false) rfl rfl (aN (ac_ret (fin_eq (v := .tuple #[.string s, .string (⟨#[]⟩ : ByteArray), .bool false]) (by show _ = (fun (r : ByteArray × ByteArray × Bool) => (.tuple #[.string r.1, .string r.2.1, .bool r.2.2] : Value)) (cutDot0 s); rw [cutDot0, h1] <;> rfl) (fin_ret (res_ttt rfl rfl rfl rfl))))))))))))
end Go.Proofs.YtalffjplbhelcaaGreatDoor
namespace Go.Proofs.YtalffjplbhelcaaGreatDoor
open Go.RowKit
attribute [local irreducible] AC AR DWalk
def cutDot (s : ByteArray) : ByteArray × ByteArray × Bool := ((cutDot0 s).1, (cutDot0 s).2.1, (cutDot0 s).2.2)
set_option maxRecDepth 100000 in
theorem c_cutDot (s : ByteArray) (hs : s.size ≤ 9223372036854775807) : Gets Tryz.prog 67 #[.string s, .string (⟨#[46]⟩ : ByteArray)] ((fun (r : ByteArray × ByteArray × Bool) => (.tuple #[.string r.1, .string r.2.1, .bool r.2.2] : Value)) (cutDot s)) := by
 refine gets_fin Tryz.func67 rfl rfl rfl (aQ (aL (aA 4 (.string (⟨#[]⟩ : ByteArray)) rfl rfl (aA 5 (.string (⟨#[]⟩ : ByteArray)) rfl rfl (aA 6 (.bool false) rfl rfl (aN (aQ (aL (aM 7 (.string s) rfl rfl (aM 8 (.string (⟨#[46]⟩ : ByteArray)) rfl rfl (aC 9 (c_cutDot0 s hs) Tryz.func109 ⟨rfl, by decide⟩ rfl rfl (aX 10 (.string ((cutDot0 s).1)) rfl rfl rfl (aX 11 (.string ((cutDot0 s).2.1)) rfl rfl rfl (aX 12 (.bool ((cutDot0 s).2.2)) rfl rfl rfl (aA 4 (.string ((cutDot0 s).1)) rfl rfl (aA 5 (.string ((cutDot0 s).2.1)) rfl rfl (aA 6 (.bool ((cutDot0 s).2.2)) rfl rfl (aN (ac_ret ?_)))))))))))))))))))
 exact fin_eq (v := .tuple #[.string ((cutDot0 s).1), .string ((cutDot0 s).2.1), .bool ((cutDot0 s).2.2)]) rfl (fin_ret (res_ttt rfl rfl rfl rfl))
end Go.Proofs.YtalffjplbhelcaaGreatDoor
namespace Go.Proofs.YtalffjplbhelcaaGreatDoor
open Go.RowKit
attribute [local irreducible] AC AR DWalk
def decFig (s : ByteArray) (n : Int) : Bool := (bif sEq s (⟨#[]⟩ : ByteArray) then false else (bif decide (((s).size : Int) ≤ n) then sEq (lTrimFig s) (⟨#[]⟩ : ByteArray) else false))
set_option maxRecDepth 100000 in
theorem c_decFig (s : ByteArray) (n : Int) (hn : n ≤ 1000) : Gets Tryz.prog 68 #[.string s, .int .i64 n] ((fun (r : Bool) => (.bool r : Value)) (decFig s n)) := by
 refine gets_fin Tryz.func68 rfl rfl rfl (aQ (aL (aA 4 (.bool false) rfl rfl (aN (aQ (aL (aM 5 (.string s) rfl rfl (aB 6 (.bool (!(sEq s (⟨#[]⟩ : ByteArray)))) rfl rfl rfl (bi_sneq rfl) (aM 7 (.bool (!(sEq s (⟨#[]⟩ : ByteArray)))) rfl rfl ?_)))))))))
 refine bool_split (sEq s (⟨#[]⟩ : ByteArray)) (fun h1 => ?_) (fun h1 => ?_)
 ·refine aK 8 (by show ((!(sEq s (⟨#[]⟩ : ByteArray))) == true) = false; rw [h1]; rfl) rfl (aK 9 (by show ((!(sEq s (⟨#[]⟩ : ByteArray))) == true) = false; rw [h1]; rfl) rfl (aK 10 (by show ((!(sEq s (⟨#[]⟩ : ByteArray))) == true) = false; rw [h1]; rfl) rfl (aK 11 (by show ((!(sEq s (⟨#[]⟩ : ByteArray))) == true) = false; rw [h1]; rfl) rfl (ao 12 rfl rfl (st_pkf' (b := !(sEq s (⟨#[]⟩ : ByteArray))) (v := .bool false) (by rw [h1]; rfl) rfl rfl rfl (aM 13 (.bool false) rfl rfl (aK 14 rfl rfl (aK 15 rfl rfl (aK 16 rfl rfl (ao 17 rfl rfl (st_pkf (v := .bool false) rfl rfl rfl (aA 4 (.bool false) rfl rfl (aN (ac_ret ?_))))))))))))))
  exact fin_eq (v := .bool false) (by show _ = (fun (r : Bool) => (.bool r : Value)) (decFig s n); rw [decFig, h1] <;> rfl) (fin_ret (res_tmp rfl rfl))
 ·refine ar_gd (d := (some 8)) (by show ((!(sEq s (⟨#[]⟩ : ByteArray))) == true) = true; rw [h1]; rfl) rfl (st_move (v := .string s) rfl rfl (ar_gd (d := (some 9)) (by show ((!(sEq s (⟨#[]⟩ : ByteArray))) == true) = true; rw [h1]; rfl) rfl (st_slen (s := s) rfl Tryz.underlying9 rfl (ar_gd (d := (some 10)) (by show ((!(sEq s (⟨#[]⟩ : ByteArray))) == true) = true; rw [h1]; rfl) rfl (st_move (v := .int .i64 n) rfl rfl (ar_gd (d := (some 11)) (by show ((!(sEq s (⟨#[]⟩ : ByteArray))) == true) = true; rw [h1]; rfl) rfl (st_bi (r := .bool (decide (((s).size : Int) ≤ n))) rfl rfl rfl (bi_leq rfl) ?_)))))))
  refine ao 12 rfl rfl (st_pkt' (b := !(sEq s (⟨#[]⟩ : ByteArray))) (v := .bool (decide (((s).size : Int) ≤ n))) (by rw [h1]; rfl) rfl rfl rfl (aM 13 (.bool (decide (((s).size : Int) ≤ n))) rfl rfl ?_))
  refine bool_split (decide (((s).size : Int) ≤ n)) (fun h2 => ?_) (fun h2 => ?_)
  ·refine ar_gd (d := (some 14)) (by show ((decide (((s).size : Int) ≤ n)) == true) = true; rw [h2]; rfl) rfl (st_move (v := .string s) rfl rfl (ar_gd (d := (some 15)) (by show ((decide (((s).size : Int) ≤ n)) == true) = true; rw [h2]; rfl) rfl (st_cf (c_lTrimFig s (fig_sz hn h2)) Tryz.func110 rfl (by decide) rfl rfl rfl (ar_gd (d := (some 16)) (by show ((decide (((s).size : Int) ≤ n)) == true) = true; rw [h2]; rfl) rfl (st_bi (r := .bool (sEq (lTrimFig s) (⟨#[]⟩ : ByteArray))) rfl rfl rfl (bi_seql rfl) (ao 17 rfl rfl (st_pkt' (b := decide (((s).size : Int) ≤ n)) (v := .bool (sEq (lTrimFig s) (⟨#[]⟩ : ByteArray))) h2 rfl rfl rfl ?_)))))))
   refine aA 4 (.bool (sEq (lTrimFig s) (⟨#[]⟩ : ByteArray))) rfl rfl (aN (ac_ret (fin_eq (v := .bool (sEq (lTrimFig s) (⟨#[]⟩ : ByteArray))) (by show _ = (fun (r : Bool) => (.bool r : Value)) (decFig s n); rw [decFig, h2, h1] <;> rfl) (fin_ret (res_tmp rfl rfl)))))
  ·refine aK 14 (by show ((decide (((s).size : Int) ≤ n)) == true) = false; rw [h2]; rfl) rfl (aK 15 (by show ((decide (((s).size : Int) ≤ n)) == true) = false; rw [h2]; rfl) rfl (aK 16 (by show ((decide (((s).size : Int) ≤ n)) == true) = false; rw [h2]; rfl) rfl (ao 17 rfl rfl (st_pkf' (b := decide (((s).size : Int) ≤ n)) (v := .bool false) h2 rfl rfl rfl (aA 4 (.bool false) rfl rfl (aN (ac_ret (fin_eq (v := .bool false) (by show _ = (fun (r : Bool) => (.bool r : Value)) (decFig s n); rw [decFig, h2, h1] <;> rfl) (fin_ret (res_tmp rfl rfl))))))))))
end Go.Proofs.YtalffjplbhelcaaGreatDoor
