import Derived.Test.YtalffjplbhelcaaGreatDoorMGlassLess0
import Derived.IntWalk
import Derived.Test.YtalffjplbhelcaaGreatDoorProg
import Derived.Laws.AppendOwn
set_option linter.unusedVariables false
set_option linter.unusedSimpArgs false
namespace Go.Proofs.YtalffjplbhelcaaGreatDoor
open Go.RowKit
abbrev w64 (n : Int) : Int := IntKind.i64.wrap n
section
variable {p : Program} {n : Nat} {ops : Array Oper} {Q : Exit → Env → List Box → Prop} {l : List Oper} {E : Env} {H : List Box} {o : Oper} {ρ : Operand → Value} {K : Post}
theorem ar_op {d : Option Nat} (hg : o.guard = none) (hd : o.dst = d) (h : Step p (ev n E) o H fun v H' => AR p n ops Q l (E.put d v) H') : AR p n ops Q (o :: l) E H := by
  subst hd
  exact ar_plain hg h
theorem ao (d : Nat) (hg : o.guard = none) (hd : o.dst = some d) (h : Step p (ev n E) o H fun v H' => AR p n ops Q l (E.put (some d) v) H') : AR p n ops Q (o :: l) E H := ar_op hg hd h
theorem ar_gd {d : Option Nat} (hg : yld n ops E o = true) (hd : o.dst = d) (h : Step p (ev n E) o H fun v H' => AR p n ops Q l (E.put d v) H') : AR p n ops Q (o :: l) E H := by
  subst hd
  exact ar_step hg h
theorem ar_sk {d : Option Nat} (hg : yld n ops E o = false) (hd : o.dst = d) (h : AR p n ops Q l (E.put d undef) H) : AR p n ops Q (o :: l) E H := by
  subst hd
  exact ar_skip hg h
theorem ar_round {c : Code} {k : Nat} (h : AC p n c (AThen (ARounds p n c Q k) Q) E H) : ARounds p n c Q (k + 1) E H := h
theorem dw_op {is : List Nat} {i : Nat} {d : Option Nat} {K : Env → Prop} (v : Value) (ho : ops[i]? = some o) (hg : o.guard = none) (hd : o.dst = d) (hs : Step p (ev n E) o H fun v' H' => v' = v ∧ H' = H)
    (h : DWalk p n ops H is (E.put d v) K) : DWalk p n ops H (i :: is) E K := by
  subst hd
  exact ⟨o, v, ho, .inl ⟨by unfold yld; rw [hg], hs⟩, h⟩
theorem dw_gd {is : List Nat} {i : Nat} {d : Option Nat} {K : Env → Prop} (v : Value) (ho : ops[i]? = some o) (hg : yld n ops E o = true) (hd : o.dst = d) (hs : Step p (ev n E) o H fun v' H' => v' = v ∧ H' = H)
    (h : DWalk p n ops H is (E.put d v) K) : DWalk p n ops H (i :: is) E K := by
  subst hd
  exact ⟨o, v, ho, .inl ⟨hg, hs⟩, h⟩
theorem dw_sk {is : List Nat} {i : Nat} {d : Option Nat} {K : Env → Prop} (ho : ops[i]? = some o) (hg : yld n ops E o = false) (hd : o.dst = d)
    (h : DWalk p n ops H is (E.put d undef) K) : DWalk p n ops H (i :: is) E K := by
  subst hd
  exact ⟨o, undef, ho, .inr ⟨hg, rfl⟩, h⟩
theorem dw_nil {K : Env → Prop} (h : K E) : DWalk p n ops H [] E K := h
structure Zero (p : Program) (t : TypeId) (cs : List Value) : Prop where
  out : ∃ z, (p.info? t).map (·.zero) = some (some z) ∧ z.cells = cs.toArray
theorem ac_draw0 {id : Nat} (fx ta : List Nat) (tl : List Oper) (hok : drawOk ops fx [] ta = true) (hm : p.follows .mixedOrders = true) (htl : (ta.map fun i => (ops[i]?).getD default) = tl)
    (h : DWalk p n ops H fx E fun E => AR p n ops Q tl E H) : AC p n (.region id ops true) Q E H := by
  subst htl
  exact ac_draw fx ta [] hok hm (by simp) (by simpa [putAll] using h)
theorem dwalk_mono {K K' : Env → Prop} (hk : ∀ E, K E → K' E) : ∀ (is : List Nat) (E : Env), DWalk p n ops H is E K → DWalk p n ops H is E K' := by
  intro is
  induction is with
  | nil => intro E h; exact hk _ h
  | cons i is ih => rintro E ⟨o, v, ho, hs, h⟩; exact ⟨o, v, ho, hs, ih _ h⟩
theorem ac_draw1 {id : Nat} (fx ta : List Nat) (i d t : Nat) (cs : List Value) (tl : List Oper) (hok : drawOk ops fx [i] ta = true) (hm : p.follows .mixedOrders = true) (htl : (ta.map fun i => (ops[i]?).getD default) = tl)
    (hz : Zero p t cs) (hi : ∃ o, ops[i]? = some o ∧ o.op = .alloc t ∧ o.guard = none ∧ o.dst = some d)
    (h : DWalk p n ops H fx E fun E => ∀ g, AR p n ops Q tl (E.put (some d) (.pointer (some ⟨g, 0, none⟩))) (⟨g, cs, t, false⟩ :: H)) : AC p n (.region id ops true) Q E H := by
  subst htl
  obtain ⟨o, ho, h1, h2, h3⟩ := hi
  obtain ⟨z, hz1, hz2⟩ := hz.out
  refine ac_draw fx ta [⟨i, t, cs⟩] hok hm (fun x hx => by obtain rfl := List.mem_singleton.1 hx; exact ⟨o, z, ho, h1, h2, hz1, hz2⟩) ?_
  refine dwalk_mono ?_ _ _ h
  intro E hE gs
  have := hE (gs i)
  simpa [putAll, dstOf, ho, h3, ptr] using this
theorem st_new {t : TypeId} {cs : List Value} (hz : Zero p t cs) (ho : o.op = .alloc t) (k : ∀ g, K (.pointer (some ⟨g, 0, none⟩)) (⟨g, cs, t, false⟩ :: H)) : Step p ρ o H K := by
  obtain ⟨z, h1, h2⟩ := hz.out
  exact st_alloc ho h1 h2 k
structure IsAgg (p : Program) (t : TypeId) (n : Nat) : Prop where
  out : ∃ d, p.underlying t = some d ∧ aggD d = true ∧ (p.info? t).map (·.size) = some n
structure IsCell (p : Program) (t : TypeId) : Prop where
  out : ∃ d, p.underlying t = some d ∧ aggD d = false ∧ (p.info? t).map (·.size) = some 1
theorem st_lda {t : TypeId} {x : Operand} {g off : Nat} {b : Box} {vs : List Value} {m : Nat} (ha : IsAgg p t m) (i : Nat) (ho : o.op = .load t x) (hx : ρ x = .pointer (some ⟨g, off, none⟩)) (hm : H[i]? = some b) (hg : b.g = g)
    (hn : vs.length = m) (hv : (b.cs.drop off).take m = vs) (k : K (.agg vs.toArray) H) : Step p ρ o H K := by
  obtain ⟨d, h1, h2, h3⟩ := ha.out
  exact st_load_agg i ho hx hm hg h1 h2 (by rw [h3, hn]) (by rw [hn, hv]) k
theorem st_ldc {t : TypeId} {x : Operand} {g off : Nat} {b : Box} {v : Value} (ha : IsCell p t) (i : Nat) (ho : o.op = .load t x) (hx : ρ x = .pointer (some ⟨g, off, none⟩)) (hm : H[i]? = some b) (hg : b.g = g)
    (hv : b.cs[off]? = some v) (k : K v H) : Step p ρ o H K := by
  obtain ⟨d, h1, h2, _⟩ := ha.out
  exact st_load i ho hx hm hg h1 h2 hv k
theorem st_sta {t : TypeId} {x y : Operand} {g off : Nat} {b : Box} {us cs : List Value} {m : Nat} (ha : IsAgg p t m) (i : Nat) (ho : o.op = .store t x y) (hx : ρ x = .pointer (some ⟨g, off, none⟩)) (hy : ρ y = .agg us.toArray) (hm : H[i]? = some b) (hg : b.g = g)
    (hn : us.length = m) (hle : Nat.ble (off + m) b.cs.length = true) (h1 : us.all (·.oneCell') = true) (hcs : b.cs.take off ++ us ++ b.cs.drop (off + m) = cs) (k : K undef (upd H i cs)) (hro : b.ro = false := by rfl) : Step p ρ o H K := by
  obtain ⟨d, _, _, h3⟩ := ha.out
  subst hn
  exact st_store i ho hx hy rfl hm hg h3 hle h1 hcs k hro
theorem st_stc {t : TypeId} {x y : Operand} {g off : Nat} {b : Box} {u : Value} {cs : List Value} (ha : IsCell p t) (i : Nat) (ho : o.op = .store t x y) (hx : ρ x = .pointer (some ⟨g, off, none⟩)) (hy : ρ y = u) (hu : u.cells = #[u]) (hm : H[i]? = some b) (hg : b.g = g)
    (hle : Nat.ble (off + 1) b.cs.length = true) (h1 : u.oneCell' = true) (hcs : b.cs.take off ++ [u] ++ b.cs.drop (off + 1) = cs) (k : K undef (upd H i cs)) (hro : b.ro = false := by rfl) : Step p ρ o H K := by
  obtain ⟨d, _, _, h3⟩ := ha.out
  exact st_store (us := [u]) i ho hx hy (by rw [hu]) hm hg h3 hle (by simp [h1]) hcs k hro
structure Runs (p : Program) (s : Sem Value) (v : Value) : Prop where
  out : ∀ w, s.run p w = .ok v w
theorem st_run {s : Sem Value} {v : Value} (he : execOp ρ o = (do pure (.value (← s)))) (hr : Runs p s v) (k : K v H) : Step p ρ o H K :=
  st_val (fun w => by rw [he]; simp [Sem.run_bind, hr.out w]) k
theorem st_fa {t f : Nat} {x : Operand} {g off j : Nat} (ho : o.op = .fieldAddr t x f) (hr : ∀ a, Runs p (Instr.fieldAt t (.pointer (some a)) f) (.pointer (some (a.add j)))) (hx : ρ x = .pointer (some ⟨g, off, none⟩)) (k : K (.pointer (some ⟨g, off + j, none⟩)) H) : Step p ρ o H K :=
  st_run (s := Instr.fieldAt t (.pointer (some ⟨g, off, none⟩)) f) (by rw [execOp, ho]; simp only [hx]) (by have := hr ⟨g, off, none⟩; rw [add_at] at this; exact this) k
theorem st_ix {t : Nat} {x y : Operand} {u i v : Value} (ho : o.op = .index t x y) (hx : ρ x = u) (hy : ρ y = i) (hr : Runs p (Instr.index t u i) v) (k : K v H) : Step p ρ o H K :=
  st_run (s := Instr.index t u i) (by rw [execOp, ho]; simp only [hx, hy]) hr k
theorem st_ia {t : Nat} {x y : Operand} {u i v : Value} (ho : o.op = .indexAddr t x y) (hx : ρ x = u) (hy : ρ y = i) (hr : Runs p (Instr.indexAt t u i) v) (k : K v H) : Step p ρ o H K :=
  st_run (s := Instr.indexAt t u i) (by rw [execOp, ho]; simp only [hx, hy]) hr k
theorem st_bd {t : Nat} {ps : List (Nat × Operand)} {us : List (Nat × Value)} {v : Value} (ho : o.op = .build t ps.toArray) (hx : (ps.map fun x => (x.1, ρ x.2)) = us) (hr : Runs p (Instr.build t us.toArray) v) (k : K v H) : Step p ρ o H K :=
  st_run (s := Instr.build t us.toArray) (by rw [execOp, ho]; simp only [List.map_toArray]; rw [← hx]) hr k
theorem st_ex {x : Operand} {i : Nat} {vs : List Value} {v : Value} (ho : o.op = .extract x i) (hx : ρ x = .tuple vs.toArray) (hi : vs[i]? = some v) (k : K v H) : Step p ρ o H K :=
  st_run (s := Instr.extract (.tuple vs.toArray) i) (by rw [execOp, ho]; simp only [hx]) ⟨fun w => by simp [Instr.extract, hi]⟩ k
theorem st_cv_int {t u : Nat} {x : Operand} {k : IntKind} {a c : Int} (hu : p.underlying u = some (.int k)) (ht : p.underlying t = some (.int .i64)) (ho : o.op = .convert t u x) (hx : ρ x = .int .i64 a) (h : k.wrap a = c) (kk : K (.int k c) H) : Step p ρ o H K :=
  st_run (s := convert t u (.int .i64 a)) (by rw [execOp, ho]; simp only [hx]) ⟨fun w => by simp [convert, Sem.run_bind, run_underlying hu w, run_underlying ht w, Conv.intToInt, h]⟩ kk
theorem st_un {op : UnOp} {t : Nat} {x : Operand} {u v : Value} (ho : o.op = .unOp op t x) (hx : ρ x = u) (hr : Runs p (Op.unary op u) v) (k : K v H) : Step p ρ o H K :=
  st_run (s := Op.unary op u) (by rw [execOp, ho]; simp only [hx]) hr k
theorem st_pkt {c x y : Operand} {v : Value} (ho : o.op = .pick c x y) (hc : ρ c = .bool true) (hx : ρ x = v) (k : K v H) : Step p ρ o H K := st_pick ho hc hx rfl rfl k
theorem st_pkf {c x y : Operand} {v : Value} (ho : o.op = .pick c x y) (hc : ρ c = .bool false) (hx : ρ y = v) (k : K v H) : Step p ρ o H K := st_pick ho hc rfl hx rfl k
theorem st_pkt' {c x y : Operand} {b : Bool} {v : Value} (hb : b = true) (ho : o.op = .pick c x y) (hc : ρ c = .bool b) (hx : ρ x = v) (k : K v H) : Step p ρ o H K := st_pkt ho (hb ▸ hc) hx k
theorem st_pkf' {c x y : Operand} {b : Bool} {v : Value} (hb : b = false) (ho : o.op = .pick c x y) (hc : ρ c = .bool b) (hx : ρ y = v) (k : K v H) : Step p ρ o H K := st_pkf ho (hb ▸ hc) hx k
theorem ac_then' {c : Operand} {x y : Code} {b : Bool} (hb : b = true) (hc : ev n E c = .bool b) (h : AC p n x Q E H) : AC p n (.cond c x y) Q E H := ac_then (hb ▸ hc) h
theorem ac_else' {c : Operand} {x y : Code} {b : Bool} (hb : b = false) (hc : ev n E c = .bool b) (h : AC p n y Q E H) : AC p n (.cond c x y) Q E H := ac_else (hb ▸ hc) h
theorem st_bi {op : BinOp} {t y' : Nat} {x y : Operand} {u v r : Value} (ho : o.op = .binOp op t x y y') (hx : ρ x = u) (hy : ρ y = v) (hr : ∀ x y : Operand, Runs p (do eqGuard op t x y u v; binOp op t u v) r) (k : K r H) : Step p ρ o H K :=
  st_run (s := do eqGuard op t x y u v; binOp op t u v) (by rw [execOp, ho]; simp only [hx, hy]) (hr x y) k
theorem un_not {b c : Bool} (h : (!b) = c) : Runs p (Op.unary .not (.bool b)) (.bool c) := ⟨fun w => by rw [← h]; rfl⟩
theorem un_neg {a c : Int} (h : w64 (0 - a) = c) : Runs p (Op.unary .neg (.int .i64 a)) (.int .i64 c) := ⟨fun w => by rw [← h]; rfl⟩
section
variable {t : Nat} {a b c : Int} {d : Bool}
theorem bi_add (h : w64 (a + b) = c) (x y : Operand) : Runs p (do eqGuard .add t x y (.int .i64 a) (.int .i64 b); binOp .add t (.int .i64 a) (.int .i64 b)) (.int .i64 c) := ⟨fun w => by rw [← h]; rfl⟩
theorem bi_sub (h : w64 (a - b) = c) (x y : Operand) : Runs p (do eqGuard .sub t x y (.int .i64 a) (.int .i64 b); binOp .sub t (.int .i64 a) (.int .i64 b)) (.int .i64 c) := ⟨fun w => by rw [← h]; rfl⟩
theorem bi_mul (h : w64 (a * b) = c) (x y : Operand) : Runs p (do eqGuard .mul t x y (.int .i64 a) (.int .i64 b); binOp .mul t (.int .i64 a) (.int .i64 b)) (.int .i64 c) := ⟨fun w => by rw [← h]; rfl⟩
theorem bi_quo (hb : b ≠ 0) (h : w64 (a.tdiv b) = c) (x y : Operand) : Runs p (do eqGuard .quo t x y (.int .i64 a) (.int .i64 b); binOp .quo t (.int .i64 a) (.int .i64 b)) (.int .i64 c) := ⟨fun w => by rw [← h]; simp [eqGuard, binOp, Op.intDiv, hb]⟩
theorem bi_rem (hb : b ≠ 0) (h : a.tmod b = c) (x y : Operand) : Runs p (do eqGuard .rem t x y (.int .i64 a) (.int .i64 b); binOp .rem t (.int .i64 a) (.int .i64 b)) (.int .i64 c) := ⟨fun w => by rw [← h]; simp [eqGuard, binOp, Op.intDiv, hb]⟩
theorem bi_lss (h : decide (a < b) = d) (x y : Operand) : Runs p (do eqGuard .lss t x y (.int .i64 a) (.int .i64 b); binOp .lss t (.int .i64 a) (.int .i64 b)) (.bool d) := ⟨fun w => by rw [← h]; rfl⟩
theorem bi_leq (h : decide (a ≤ b) = d) (x y : Operand) : Runs p (do eqGuard .leq t x y (.int .i64 a) (.int .i64 b); binOp .leq t (.int .i64 a) (.int .i64 b)) (.bool d) := ⟨fun w => by rw [← h]; rfl⟩
theorem bi_gtr (h : decide (a > b) = d) (x y : Operand) : Runs p (do eqGuard .gtr t x y (.int .i64 a) (.int .i64 b); binOp .gtr t (.int .i64 a) (.int .i64 b)) (.bool d) := ⟨fun w => by rw [← h]; rfl⟩
theorem bi_geq (h : decide (a ≥ b) = d) (x y : Operand) : Runs p (do eqGuard .geq t x y (.int .i64 a) (.int .i64 b); binOp .geq t (.int .i64 a) (.int .i64 b)) (.bool d) := ⟨fun w => by rw [← h]; rfl⟩
theorem bi_shl {k : IntKind} {m : Int} (hm : IntKind.i64.wrap (a * 2 ^ (min (Int.toNat b) 64)) = m) (hb : ¬ b < 0) (x y : Operand) : Runs p (do eqGuard .shl t x y (.int .i64 a) (.int k b); binOp .shl t (.int .i64 a) (.int k b)) (.int .i64 m) := ⟨fun w => by rw [← hm]; simp [eqGuard, binOp, Op.shift, hb, IntKind.bits]⟩
theorem bi_or (h : w64 ((BitVec.ofInt 64 a ||| BitVec.ofInt 64 b).toNat : Int) = c) (x y : Operand) : Runs p (do eqGuard .or t x y (.int .i64 a) (.int .i64 b); binOp .or t (.int .i64 a) (.int .i64 b)) (.int .i64 c) := ⟨fun w => by rw [← h]; rfl⟩
theorem bi_eql (h : (a == b) = d) (x y : Operand) : Runs p (do eqGuard .eql t x y (.int .i64 a) (.int .i64 b); binOp .eql t (.int .i64 a) (.int .i64 b)) (.bool d) := ⟨fun w => by rw [← h]; rfl⟩
theorem bi_neq (h : (a != b) = d) (x y : Operand) : Runs p (do eqGuard .neq t x y (.int .i64 a) (.int .i64 b); binOp .neq t (.int .i64 a) (.int .i64 b)) (.bool d) := ⟨fun w => by rw [← h]; rfl⟩
end
theorem run_fa {t f : Nat} {fs : Array Field} {fd : Field} {m off : Nat} (hu : p.underlying t = some (.struct fs)) (hf : fs[f]? = some fd) (ho : fd.offset = off) (hi : (p.info? fd.type).map (·.size) = some m) (hm : m ≠ 0) (a : Addr) : Runs p (Instr.fieldAt t (.pointer (some a)) f) (.pointer (some (a.add off))) := ⟨fun w => by
  subst ho
  cases hq : p.info? fd.type with
  | none => simp [hq] at hi
  | some inf =>
    have hs : inf.size = m := by simpa [hq] using hi
    simp [Instr.fieldAt, Sem.run_bind, run_underlying hu w, hf, Instr.sureAddr, fieldPlace, sizeOf, typeInfo, hq, hs, hm]⟩
theorem run_ia {t n e i m : Nat} (hu : p.underlying t = some (.array n e)) (hi : (p.info? e).map (·.size) = some m) {j : Nat} (hj : i * m = j) (g off : Nat) (hlt : i < n) (h0 : (0 : Int) ≤ i) : Runs p (Instr.indexAt t (.pointer (some ⟨g, off, none⟩)) (.int .i64 i)) (.pointer (some ⟨g, off + j, none⟩)) := ⟨fun w => by
  cases hq : p.info? e with
  | none => simp [hq] at hi
  | some inf =>
    have hs : inf.size = m := by simpa [hq] using hi
    have hadd := add_at g off j
    simp [Instr.indexAt, Sem.run_bind, run_underlying hu w, Instr.sureAddr, asIntOf, sizeOf, typeInfo, hq, hs, hlt, hj, hadd]⟩
section
variable {d off m : Nat} {xs ys : List Value} {f : Field} {fs : List Field} {a b : Value} {r s : Bool} {w : World}
theorem part_c {t : Nat} {v : Value} (h : IsCell p t) (hv : xs[off]? = some v) : (part t xs.toArray off).run p w = .ok v w := by
  obtain ⟨d, h1, h2, _⟩ := h.out
  have hagg : (isAgg t).run p w = .ok false w := by
    unfold isAgg
    rw [Sem.run_bind, run_underlying h1 w]
    cases d <;> simp_all [aggD]
  simp [part, Sem.run_bind, hagg, hv]
theorem run_ixc {t n e i : Nat} {v : Value} (hu : p.underlying t = some (.array n e)) (hc : IsCell p e) (hlt : i < n) (h0 : (0 : Int) ≤ i) (hv : xs[i]? = some v) : Runs p (Instr.index t (.agg xs.toArray) (.int .i64 i)) v := ⟨fun w => by
  have hp := part_c (w := w) (off := i) hc hv
  obtain ⟨d, h1, h2, h3⟩ := hc.out
  cases hq : p.info? e with
  | none => simp [hq] at h3
  | some inf =>
    have hs : inf.size = 1 := by simpa [hq] using h3
    simp [Instr.index, asIntOf, Sem.run_bind, run_underlying hu w, hlt, sizeOf, typeInfo, hq, hs, hp]⟩
theorem eqf_c (hn : (f.name == "_") = false) (ha : (part f.type xs.toArray f.offset).run p w = .ok a w) (hb : (part f.type ys.toArray f.offset).run p w = .ok b w) (he : (Op.equalIn d f.type a b).run p w = .ok r w) (hr : (Op.eqFields d xs.toArray ys.toArray fs).run p w = .ok s w) : (Op.eqFields d xs.toArray ys.toArray (f :: fs)).run p w = .ok (r && s) w := by
  have hn' : f.name ≠ "_" := by simpa using hn
  rw [Op.eqFields]
  simp only [if_pos hn', Sem.run_bind, ha, hb, he, Result.andThen_ok]
  cases r
  · simp
  · simpa using hr
theorem eqf_n : (Op.eqFields d xs.toArray ys.toArray []).run p w = .ok true w := by simp [Op.eqFields]
theorem eqf_s {t : TypeId} {fs : List Field} (hu : p.underlying t = some (.struct fs.toArray)) (hp : p.stoodInHeld t = false) (h : (Op.eqFields d xs.toArray ys.toArray fs).run p w = .ok r w) : (Op.equalIn (d + 1) t (.agg xs.toArray) (.agg ys.toArray)).run p w = .ok r w := by
  have hf : p.fieldsOf t = fs.toArray := by simp [Program.fieldsOf, hu]
  rw [run_equalIn_struct (P := p) w d t xs.toArray ys.toArray (by rw [hf]; exact hu) hp, hf]
  exact h
theorem bs_eql {t : Nat} {xs ys : Array Value} {c d : Bool} (hg : p.eqGuardType p.depth t = false) (he : ∀ w, (Op.equalIn 10000 t (.agg xs) (.agg ys)).run p w = .ok c w) (h : c = d) (x y : Operand) : Runs p (do eqGuard .eql t x y (.agg xs) (.agg ys); binOp .eql t (.agg xs) (.agg ys)) (.bool d) := ⟨fun w => by
  rw [← h, Sem.run_bind, run_eqGuard_agg w .eql t x y xs ys hg]
  simp only [Result.andThen_ok]
  rw [run_eql_struct, he w]
  rfl⟩
end
theorem st_cf {f : FuncId} {args : List Operand} {ts : Array TypeId} {vs : List Value} {r : Value} {fn : Func} {c : Code} (h : Gets p f vs.toArray r) (hfn : p.funcs[f]? = some fn) (hb : fn.body = some c) (hnm : (fn.name == "runtime.NumGoroutine") = false)
    (ho : o.op = .call { callee := .value (.func f), args := args.toArray, argTypes := ts }) (hf : ρ (.func f) = .func (.func f) #[] #[]) (hv : args.map ρ = vs) (k : K r H) : Step p ρ o H K := st_call ho hf hv hfn hb hnm h k
theorem eT.{u} {α : Sort u} {c : Bool} {a b x : α} (h : c = true) (k : a = x) : cond c a b = x := by rw [h]; exact k
theorem eF.{u} {α : Sort u} {c : Bool} {a b x : α} (h : c = false) (k : b = x) : cond c a b = x := by rw [h]; exact k
theorem ne_of_beq0 {a : Int} (h : (a == 0) = false) : a ≠ 0 := by
  intro e
  rw [e] at h
  cases h
theorem st_cv {f : FuncId} {x : Operand} {args : List Operand} {ts : Array TypeId} {vs : List Value} {r : Value} {fn : Func} {c : Code} (h : Gets p f vs.toArray r) (hfn : p.funcs[f]? = some fn) (hb : fn.body = some c) (hnm : (fn.name == "runtime.NumGoroutine") = false)
    (ho : o.op = .call { callee := .value x, args := args.toArray, argTypes := ts }) (hf : ρ x = .func (.func f) #[] #[]) (hv : args.map ρ = vs) (k : K r H) : Step p ρ o H K := by
  intro F β w hO hB
  have e : (execOp ρ o).run p w = .ok (.enter f vs.toArray) w := by
    rw [execOp, ho]
    simp only [resolve, hf, Deferred.ofValue, List.map_toArray, hv]
    have hnm' : ¬ fn.name = "runtime.NumGoroutine" := by simpa using hnm
    simp [Sem.run_bind, invoke, callFunc, hfn, hnm', hb]
  rw [e]
  exact (h w).mono fun e w' ⟨he, hb'⟩ => ⟨r, H, he, k, hO.below hb', hB.trans hb'⟩
theorem st_mn {ts : Array TypeId} {args : List Operand} {x y c : Int} (ho : o.op = .call { callee := .builtin .min, args := args.toArray, argTypes := ts }) (hv : args.map ρ = [.int .i64 x, .int .i64 y]) (h : min x y = c) (k : K (.int .i64 c) H) : Step p ρ o H K := by
  refine st_val (fun w => ?_) k
  rw [execOp, ho, ← h]
  simp only [resolve, List.map_toArray, hv]
  have e : (if y < x then y else x) = min x y := by rw [Int.min_def]; split <;> split <;> omega
  simp [invoke, builtin, Builtin.min_, Builtin.min2, Sem.run_bind, e]
theorem st_mx {ts : Array TypeId} {args : List Operand} {x y c : Int} (ho : o.op = .call { callee := .builtin .max, args := args.toArray, argTypes := ts }) (hv : args.map ρ = [.int .i64 x, .int .i64 y]) (h : max x y = c) (k : K (.int .i64 c) H) : Step p ρ o H K := by
  refine st_val (fun w => ?_) k
  rw [execOp, ho, ← h]
  simp only [resolve, List.map_toArray, hv]
  have e : (if x < y then y else x) = max x y := by rw [Int.max_def]; split <;> split <;> omega
  simp [invoke, builtin, Builtin.max_, Builtin.max2, Sem.run_bind, e]
theorem st_mx3 {ts : Array TypeId} {args : List Operand} {x y z c : Int} (ho : o.op = .call { callee := .builtin .max, args := args.toArray, argTypes := ts }) (hv : args.map ρ = [.int .i64 x, .int .i64 y, .int .i64 z]) (h : max (max x y) z = c) (k : K (.int .i64 c) H) : Step p ρ o H K := by
  refine st_val (fun w => ?_) k
  rw [execOp, ho, ← h]
  simp only [resolve, List.map_toArray, hv]
  have e : ∀ x y : Int, (if x < y then y else x) = max x y := fun x y => by rw [Int.max_def]; split <;> split <;> omega
  simp [invoke, builtin, Builtin.max_, Builtin.max2, Sem.run_bind, e]
def Fin (p : Program) (fn : Func) (n : Nat) (v : Value) : Exit → Env → List Box → Prop := fun e E H => (e = .ret ∨ e = .normal) ∧ Res p fn n E H v
theorem gets_fin {f : FuncId} {fn : Func} {c : Code} {args : Array Value} {v : Value} {n : Nat} (hf : p.funcs[f]? = some fn) (hb : fn.body = some c) (hn : fn.ntmps = n) (ha : Nat.ble args.size n = true)
    (h : AC p n c (Fin p fn n v) (envOf args) []) : Gets p f args v := gets_of hf hb hn ha h
theorem bool_split {G : Prop} (c : Bool) (ht : c = true → G) (hf : c = false → G) : G := by
  cases hc : c
  · exact hf hc
  · exact ht hc
theorem fin_eq {fn : Func} {v v' : Value} {e : Exit} (hv : v = v') (h : Fin p fn n v e E H) : Fin p fn n v' e E H := hv ▸ h
theorem fin_ret {fn : Func} {v : Value} (h : Res p fn n E H v) : Fin p fn n v .ret E H := ⟨.inl rfl, h⟩
theorem res_c {fn : Func} {t ty : Nat} {b : Box} {g : Nat} {vs : List Value} {m : Nat} (ha : IsAgg p ty m) (i : Nat) (h : fn.results = #[.cell t ty]) (hv : ev n E (.tmp t) = .pointer (some ⟨g, 0, none⟩)) (hm : H[i]? = some b) (hg : b.g = g) (hn : b.cs.length = m) (hb : b.cs = vs) : Res p fn n E H (.agg vs.toArray) := by
  obtain ⟨d, h1, h2, h3⟩ := ha.out
  subst hb
  exact res_cell i h hv hm hg h1 h2 (by rw [h3, hn]) rfl
theorem res_tt {fn : Func} {t u : Nat} {x y : Value} (h : fn.results = #[.tmp t, .tmp u]) (hx : ev n E (.tmp t) = x) (hy : ev n E (.tmp u) = y) : Res p fn n E H (.tuple #[x, y]) := by
  intro β w a hO hs
  rw [results_tmp2 h, ← hx, ← hy, ← hs.eval]
  rfl
theorem own_load {β : Base} {w : World} (hO : Own β H w) {ty : Nat} {b : Box} {m : Nat} (ha : IsAgg p ty m) (i : Nat) (hm : H[i]? = some b) (hn : b.cs.length = m) : (loadVar ty ⟨b.g, 0, none⟩).run p w = .ok (.agg b.cs.toArray) w := by
  obtain ⟨d, h1, h2, h3⟩ := ha.out
  obtain ⟨fr, _, hh⟩ := (hO.at_ b (List.mem_of_getElem? hm)).2
  exact run_loadVar_row w b.g b.t ty b.cs.toArray fr d hh h1 (by cases d <;> first | rfl | cases h2) (by rw [h3]; simp [hn])
theorem see_ptr {a : Act} (hs : Sees n E a) {t g : Nat} (hv : ev n E (.tmp t) = .pointer (some ⟨g, 0, none⟩)) : (a.tmps[t]?).getD undef = .pointer (some ⟨g, 0, none⟩) := by
  rw [← hv, ← hs.eval]
  simp [Act.eval]
theorem see_tmp {a : Act} (hs : Sees n E a) {t : Nat} {v : Value} (hv : ev n E (.tmp t) = v) : (a.tmps[t]?).getD undef = v := by
  rw [← hv, ← hs.eval]
  simp [Act.eval]
theorem res_ct {fn : Func} {t ty u : Nat} {b : Box} {g : Nat} {vs : List Value} {m : Nat} {y : Value} (ha : IsAgg p ty m) (i : Nat) (h : fn.results = #[.cell t ty, .tmp u]) (hv : ev n E (.tmp t) = .pointer (some ⟨g, 0, none⟩)) (hm : H[i]? = some b) (hg : b.g = g) (hn : b.cs.length = m) (hb : b.cs = vs)
    (hy : ev n E (.tmp u) = y) : Res p fn n E H (.tuple #[.agg vs.toArray, y]) := by
  intro β w a hO hs
  subst hb hg
  simp [results, h, see_ptr hs hv, see_tmp hs hy, asAddr, own_load hO ha i hm hn, Sem.run_bind]
end
theorem bb_neq {p : Program} {t : Nat} {a b d : Bool} (hu : p.underlying t = some .bool) (h : (a != b) = d) (x y : Operand) : Runs p (do eqGuard .neq t x y (.bool a) (.bool b); binOp .neq t (.bool a) (.bool b)) (.bool d) := ⟨fun w => by
  rw [← h]
  have e : (Op.equal t (.bool a) (.bool b)).run p w = .ok (a == b) w := run_equalIn_bool w 9999 t a b hu
  simp [eqGuard, binOp, Sem.run_bind, e, bne]⟩
theorem put_self {E : Env} {d : Nat} {v : Value} (h : E d = v) : E.put (some d) v = E := by
  funext t
  rw [put_apply]
  by_cases e : d = t
  · rw [if_pos (by rw [e]), ← h, e]
  · rw [if_neg (by simpa using e)]
theorem env3 {E : Env} {a b c : Nat} {va vb vc : Value} (ha : E a = va) (hb : E b = vb) (hc : E c = vc) : ∃ E0 : Env, E = ((E0.put (some a) va).put (some b) vb).put (some c) vc := ⟨E, by rw [put_self ha, put_self hb, put_self hc]⟩
theorem env4 {E : Env} {a b c d : Nat} {va vb vc vd : Value} (ha : E a = va) (hb : E b = vb) (hc : E c = vc) (hd : E d = vd) : ∃ E0 : Env, E = (((E0.put (some a) va).put (some b) vb).put (some c) vc).put (some d) vd := ⟨E, by rw [put_self ha, put_self hb, put_self hc, put_self hd]⟩
theorem ac_mergeE {p : Program} {n : Nat} {c : Operand} {x : Code} {b : Bool} {Q : Exit → Env → List Box → Prop} {E : Env} {H : List Box} (E1 Em : Env → Env) (hc : ev n E c = .bool b)
    (h1 : b = true → AC p n x (fun e E' H' => e = .normal ∧ E' = E1 E ∧ H' = H) E H) (e1 : b = true → Em E = E1 E) (e2 : b = false → Em E = E) (h : Q .normal (Em E) H) : AC p n (.cond c x .skip) Q E H := by
  refine ac_cond hc (fun hb => ?_) (fun hb => ?_)
  · refine AC.mono (h1 hb) ?_
    rintro e E' H' ⟨rfl, rfl, rfl⟩
    rw [← e1 hb]
    exact h
  · refine ac_skip ?_
    rw [← e2 hb]
    exact h
def loopOf : Code → Option Code
  | .loop c => some c
  | .seq a b => match loopOf a with | some c => some c | none => loopOf b
  | .cond _ a b => match loopOf a with | some c => some c | none => loopOf b
  | .block _ a => loopOf a
  | .scope a => loopOf a
  | _ => none
def orI (a b : Int) : Int := w64 ((BitVec.ofInt 64 a ||| BitVec.ofInt 64 b).toNat : Int)
theorem w64_id {n : Int} (h : -9223372036854775808 ≤ n ∧ n ≤ 9223372036854775807) : w64 n = n := IntWalk.i64_in n h
end Go.Proofs.YtalffjplbhelcaaGreatDoor
namespace Go.Proofs.YtalffjplbhelcaaGreatDoor
open Go.RowKit
structure Iv where
  lo : Int
  hi : Int
  no : Bool
deriving DecidableEq
@[reducible] def Iv.v (a : Iv) : Value := .agg #[.int .i64 a.lo, .int .i64 a.hi, .bool a.no]
theorem follows : Tryz.prog.follows .mixedOrders = true := by kernel_rfl
theorem iv_eq (a b : Iv) : decide (a = b) = ((a.lo == b.lo) && ((a.hi == b.hi) && (a.no == b.no))) := by
  obtain ⟨x, y, z⟩ := a
  obtain ⟨u, v, q⟩ := b
  rw [Bool.eq_iff_iff]
  simp [Iv.mk.injEq]
theorem cell_int : IsCell Tryz.prog 3 := ⟨⟨_, Tryz.underlying3, rfl, by kernel_rfl⟩⟩
theorem cell_bool : IsCell Tryz.prog 4 := ⟨⟨_, Tryz.underlying4, rfl, by kernel_rfl⟩⟩
theorem stood_iv : Tryz.prog.stoodInHeld 32 = false := by kernel_rfl
theorem eqr_iv (a b : Iv) (d : Nat) (w : World) : (Op.equalIn (d + 2) 32 a.v b.v).run Tryz.prog w = .ok (decide (a = b)) w := by
  rw [iv_eq]
  refine eqf_s (xs := [.int .i64 a.lo, .int .i64 a.hi, .bool a.no]) (ys := [.int .i64 b.lo, .int .i64 b.hi, .bool b.no]) Tryz.underlying32 stood_iv ?_
  refine eqf_c (by decide) (part_c cell_int rfl) (part_c cell_int rfl) (run_equalIn_int _ _ _ _ _ _ _ Tryz.underlying3) ?_
  refine eqf_c (by decide) (part_c cell_int rfl) (part_c cell_int rfl) (run_equalIn_int _ _ _ _ _ _ _ Tryz.underlying3) ?_
  have := eqf_c (p := Tryz.prog) (d := d + 1) (xs := [.int .i64 a.lo, .int .i64 a.hi, .bool a.no]) (ys := [.int .i64 b.lo, .int .i64 b.hi, .bool b.no]) (w := w) (f := { name := "No", type := 4, offset := 2, embedded := false, tag := "", pkgPath := "", byteOffset := 16 }) (fs := []) (by decide) (part_c cell_bool rfl) (part_c cell_bool rfl) (run_equalIn_bool _ _ _ _ _ Tryz.underlying4) eqf_n
  rw [Bool.and_true] at this
  exact this
theorem guard_iv : Tryz.prog.eqGuardType Tryz.prog.depth 32 = false := by kernel_rfl
theorem beql_32 (a b : Iv) {d : Bool} (h : decide (a = b) = d) (x y : Operand) : Runs Tryz.prog (do eqGuard .eql 32 x y a.v b.v; binOp .eql 32 a.v b.v) (.bool d) := bs_eql guard_iv (fun w => eqr_iv a b 9998 w) h x y
end Go.Proofs.YtalffjplbhelcaaGreatDoor
namespace Go.Proofs.YtalffjplbhelcaaGreatDoor
open Go.RowKit
section
variable {p : Program} {n : Nat} {ops : Array Oper} {Q : Exit → Env → List Box → Prop} {l : List Oper} {E : Env} {H : List Box} {o : Oper} {ρ : Operand → Value} {K : Post}
theorem aQ {x y : Code} (h : AC p n x (AThen (AC p n y Q) Q) E H) : AC p n (.seq x y) Q E H := ac_seq h
theorem aL {id : Nat} {l : List Oper} (h : AR p n l.toArray Q l E H) : AC p n (.region id l.toArray false) Q E H := ac_region_lit h
theorem aN (h : Q .normal E H) : AR p n ops Q [] E H := ar_nil h
theorem aM {x : Operand} {ty : TypeId} {ps : String} {af : Array Edge} (d : Nat) (v : Value) (ho : o = ⟨some d, .move x, ty, ps, af, none⟩) (hx : ev n E x = v) (h : AR p n ops Q l (E.put (some d) v) H) : AR p n ops Q (o :: l) E H := by
  subst ho
  exact ao d rfl rfl (st_move rfl hx h)
theorem aA {x : Operand} {ty : TypeId} {ps : String} {af : Array Edge} (d : Nat) (v : Value) (ho : o = ⟨some d, .assign x, ty, ps, af, none⟩) (hx : ev n E x = v) (h : AR p n ops Q l (E.put (some d) v) H) : AR p n ops Q (o :: l) E H := by
  subst ho
  exact ao d rfl rfl (st_assign rfl hx h)
theorem aB {op : BinOp} {t y' : Nat} {x y : Operand} {u v : Value} {ty : TypeId} {ps : String} {af : Array Edge} (d : Nat) (r : Value) (ho : o = ⟨some d, .binOp op t x y y', ty, ps, af, none⟩) (hx : ev n E x = u) (hy : ev n E y = v)
    (hr : ∀ x y : Operand, Runs p (do eqGuard op t x y u v; binOp op t u v) r) (h : AR p n ops Q l (E.put (some d) r) H) : AR p n ops Q (o :: l) E H := by
  subst ho
  exact ao d rfl rfl (st_bi rfl hx hy hr h)
theorem aC {f : FuncId} {args : List Operand} {ts : Array TypeId} {vs : List Value} {r : Value} {fn : Func} {c : Code} {ty : TypeId} {ps : String} {af : Array Edge} (d : Nat) (g : Gets p f vs.toArray r) (hfn : p.funcs[f]? = some fn) (hb : (fn.body = some c) ∧ (fn.name == "runtime.NumGoroutine") = false)
    (ho : o = ⟨some d, .call { callee := .value (.func f), args := args.toArray, argTypes := ts }, ty, ps, af, none⟩) (hv : args.map (ev n E) = vs) (h : AR p n ops Q l (E.put (some d) r) H) : AR p n ops Q (o :: l) E H := by
  subst ho
  exact ao d rfl rfl (st_cf g hfn hb.1 hb.2 rfl rfl hv h)
theorem aS {t : TypeId} {x y : Operand} {g off : Nat} {cs0 us : List Value} {t0 : Nat} {m : Nat} {ty : TypeId} {ps : String} {af : Array Edge} (cs : List Value) (ha : IsAgg p t m) (i : Nat) (ho : o = ⟨none, .store t x y, ty, ps, af, none⟩) (hx : ev n E x = .pointer (some ⟨g, off, none⟩)) (hy : ev n E y = .agg us.toArray)
    (hm : H[i]? = some ⟨g, cs0, t0, false⟩) (hk : (Nat.beq us.length m && Nat.ble (off + m) cs0.length && us.all (·.oneCell')) = true) (hcs : cs0.take off ++ us ++ cs0.drop (off + m) = cs) (h : AR p n ops Q l E (upd H i cs)) : AR p n ops Q (o :: l) E H := by
  subst ho
  simp only [Bool.and_eq_true] at hk
  exact ar_op (d := none) rfl rfl (st_sta ha i rfl hx hy hm rfl (Nat.eq_of_beq_eq_true hk.1.1) hk.1.2 hk.2 hcs h)
theorem aF {t f : Nat} {x : Operand} {g off j : Nat} {ty : TypeId} {ps : String} {af : Array Edge} (d : Nat) (hr : ∀ a, Runs p (Instr.fieldAt t (.pointer (some a)) f) (.pointer (some (a.add j)))) (ho : o = ⟨some d, .fieldAddr t x f, ty, ps, af, none⟩) (hx : ev n E x = .pointer (some ⟨g, off, none⟩))
    (h : AR p n ops Q l (E.put (some d) (.pointer (some ⟨g, off + j, none⟩))) H) : AR p n ops Q (o :: l) E H := by
  subst ho
  exact ao d rfl rfl (st_fa rfl hr hx h)
theorem aG {t : TypeId} {x : Operand} {g off : Nat} {cs0 : List Value} {t0 : Nat} {ro : Bool} {m : Nat} {ty : TypeId} {ps : String} {af : Array Edge} (d : Nat) (vs : List Value) (ha : IsAgg p t m) (i : Nat) (ho : o = ⟨some d, .load t x, ty, ps, af, none⟩) (hx : ev n E x = .pointer (some ⟨g, off, none⟩)) (hm : H[i]? = some ⟨g, cs0, t0, ro⟩)
    (hn : Nat.beq vs.length m = true) (hv : (cs0.drop off).take m = vs) (h : AR p n ops Q l (E.put (some d) (.agg vs.toArray)) H) : AR p n ops Q (o :: l) E H := by
  subst ho
  exact ao d rfl rfl (st_lda ha i rfl hx hm rfl (Nat.eq_of_beq_eq_true hn) hv h)
theorem aD {t : TypeId} {x : Operand} {g off : Nat} {cs0 : List Value} {t0 : Nat} {ro : Bool} {ty : TypeId} {ps : String} {af : Array Edge} (d : Nat) (v : Value) (ha : IsCell p t) (i : Nat) (ho : o = ⟨some d, .load t x, ty, ps, af, none⟩) (hx : ev n E x = .pointer (some ⟨g, off, none⟩)) (hm : H[i]? = some ⟨g, cs0, t0, ro⟩)
    (hv : cs0[off]? = some v) (h : AR p n ops Q l (E.put (some d) v) H) : AR p n ops Q (o :: l) E H := by
  subst ho
  exact ao d rfl rfl (st_ldc ha i rfl hx hm rfl hv h)
theorem aX {x : Operand} {i : Nat} {vs : List Value} {ty : TypeId} {ps : String} {af : Array Edge} (d : Nat) (v : Value) (ho : o = ⟨some d, .extract x i, ty, ps, af, none⟩) (hx : ev n E x = .tuple vs.toArray) (hi : vs[i]? = some v) (h : AR p n ops Q l (E.put (some d) v) H) : AR p n ops Q (o :: l) E H := by
  subst ho
  exact ao d rfl rfl (st_ex rfl hx hi h)
theorem aK {o : Oper} (d : Nat) (hg : yld n ops E o = false) (hd : o.dst = some d) (h : AR p n ops Q l (E.put (some d) undef) H) : AR p n ops Q (o :: l) E H := ar_sk hg hd h
end
end Go.Proofs.YtalffjplbhelcaaGreatDoor
namespace Go.Proofs.YtalffjplbhelcaaGreatDoor
def tailOf : Nat → Code → Option Code
  | 0, c => some c
  | n + 1, .seq _ b => tailOf n b
  | _, _ => none
theorem Own.sub {β : Base} {H H' : List Box} {w : World} (hs : List.Sublist H H') (h : Own β H' w) : Own β H w :=
  ⟨h.size, fun b hb => h.at_ b (hs.subset hb), h.apart.sublist (hs.map Box.g)⟩
theorem ac_drop {p : Program} {n : Nat} {c : Code} {Q : Exit → Env → List Box → Prop} {E : Env} {H H' : List Box} (hs : List.Sublist H H') (h : AC p n c Q E H) : AC p n c Q E H' := by
  intro β w a hO hB hse
  exact h β w a (hO.sub hs) hB hse
section
variable {p : Program} {xs : List Value} {m : Nat}
end
end Go.Proofs.YtalffjplbhelcaaGreatDoor
namespace Go.Proofs.YtalffjplbhelcaaGreatDoor
open Go.RowKit
end Go.Proofs.YtalffjplbhelcaaGreatDoor
namespace Go.Proofs.YtalffjplbhelcaaGreatDoor
open Go.RowKit
def At (R : List Box) (w : World) : Prop := ∀ b ∈ R, ∃ fr, w.heap[b.g]? = some (.cells b.cs.toArray b.t fr)
def Gives (p : Program) (f : FuncId) (args : Array Value) (R : List Box) (K : Post) : Prop :=
  ∀ w, At R w → (R.map Box.g).Nodup → Calls p f args w fun e w' => ∃ v N, e = .returned v ∧ K v N ∧ Own ⟨fun _ => False, w⟩ N w' ∧ (∀ b ∈ N, b.ro = false) ∧ Below w.heap.size w w'
theorem Own.join {β : Base} {H N : List Box} {w w' : World} (h : Own β H w) (hb : Below w.heap.size w w') (hN : Own ⟨fun _ => False, w⟩ N w') (hr : ∀ b ∈ N, b.ro = false) : Own β (N ++ H) w' := by
  have hg : ∀ b ∈ N, w.heap.size ≤ b.g := by
    intro b hb
    have h1 := (hN.at_ b hb).1
    rcases h1 with h1 | h1
    · rw [hr b hb] at h1; cases h1
    · exact h1.elim id False.elim
  refine ⟨Nat.le_trans h.size hb.size, ?_, ?_⟩
  · intro b hm
    rcases List.mem_append.1 hm with hm | hm
    · exact ⟨.inr (.inl (Nat.le_trans h.size (hg b hm))), (hN.at_ b hm).2⟩
    · exact (h.below hb).at_ b hm
  · rw [List.map_append, List.nodup_append]
    refine ⟨hN.apart, h.apart, ?_⟩
    intro x hx y hy e
    obtain ⟨b, hb1, rfl⟩ := List.mem_map.1 hx
    obtain ⟨c, hc1, rfl⟩ := List.mem_map.1 hy
    have h1 := hg b hb1
    have h2 := h.lt hc1
    omega
section
variable {p : Program} {n : Nat} {ops : Array Oper} {Q : Exit → Env → List Box → Prop} {l : List Oper} {E : Env} {H : List Box} {o : Oper} {ρ : Operand → Value} {K : Post}
def Has (H R : List Box) : Prop := ∀ b ∈ R, ∃ c ∈ H, c.g = b.g ∧ c.cs = b.cs ∧ c.t = b.t
theorem has_nil : Has H [] := by simp [Has]
theorem has_cons {b : Box} {R : List Box} (i : Nat) (c : Box) (hi : H[i]? = some c) (h1 : c.g = b.g) (h2 : c.cs = b.cs) (h3 : c.t = b.t) (h : Has H R) : Has H (b :: R) := by
  intro x hx
  rcases List.mem_cons.1 hx with rfl | hx
  · exact ⟨c, List.mem_of_getElem? hi, h1, h2, h3⟩
  · exact h x hx
theorem st_gv {f : FuncId} {x : Operand} {args : List Operand} {ts : Array TypeId} {vs : List Value} {R : List Box} {K' : Post} {fn : Func} {c : Code} (h : Gives p f vs.toArray R K') (hfn : p.funcs[f]? = some fn) (hb : fn.body = some c) (hnm : (fn.name == "runtime.NumGoroutine") = false)
    (ho : o.op = .call { callee := .value x, args := args.toArray, argTypes := ts }) (hf : ρ x = .func (.func f) #[] #[]) (hv : args.map ρ = vs) (hR : Has H R) (hnd : (R.map Box.g).Nodup) (k : ∀ v N, K' v N → K v (N ++ H)) : Step p ρ o H K := by
  intro F β w hO hB
  have e : (execOp ρ o).run p w = .ok (.enter f vs.toArray) w := by
    rw [execOp, ho]
    simp only [resolve, hf, Deferred.ofValue, List.map_toArray, hv]
    have hnm' : ¬ fn.name = "runtime.NumGoroutine" := by simpa using hnm
    simp [Sem.run_bind, invoke, callFunc, hfn, hnm', hb]
  rw [e]
  have hat : At R w := by
    intro b hb
    obtain ⟨c, hc, h1, h2, h3⟩ := hR b hb
    obtain ⟨fr, _, this⟩ := (hO.at_ c (List.mem_append_left _ hc)).2
    rw [h1, h2, h3] at this
    exact ⟨fr, this⟩
  exact (h w hat hnd).mono fun e w' ⟨v, N, he, hk, hN, hr, hb'⟩ => ⟨v, N ++ H, he, k _ _ hk, by rw [List.append_assoc]; exact hO.join hb' hN hr, hB.trans hb'⟩
theorem st_gr {f : FuncId} {x : Operand} {args : List Operand} {ts : Array TypeId} {vs : List Value} {R : List Box} {r : Value} {fn : Func} {c : Code} (h : Gives p f vs.toArray R (fun u N => u = r ∧ N = [])) (hfn : p.funcs[f]? = some fn) (hb : fn.body = some c) (hnm : (fn.name == "runtime.NumGoroutine") = false)
    (ho : o.op = .call { callee := .value x, args := args.toArray, argTypes := ts }) (hf : ρ x = .func (.func f) #[] #[]) (hv : args.map ρ = vs) (hR : Has H R) (hnd : (R.map Box.g).Nodup) (k : K r H) : Step p ρ o H K :=
  st_gv h hfn hb hnm ho hf hv hR hnd fun v N ⟨h1, h2⟩ => by subst h1 h2; exact k
structure Makes (p : Program) (s : Sem Value) (n : Nat) (cs : List Value) (e : TypeId) : Prop where
  out : ∀ w, s.run p w = .ok (.slice (some ⟨w.heap.size, 0, none⟩) n n) (w.alloc (.cells cs.toArray e (0, 0)))
theorem st_bs {t m : Nat} {ps : List (Nat × Operand)} {us : List (Nat × Value)} {cs : List Value} {e : TypeId} (ho : o.op = .buildSlice t m ps.toArray) (hx : (ps.map fun x => (x.1, ρ x.2)) = us) (hr : Makes p (Instr.buildSlice t m us.toArray) m cs e)
    (k : ∀ g, K (.slice (some ⟨g, 0, none⟩) m m) (⟨g, cs, e, false⟩ :: H)) : Step p ρ o H K := by
  intro F β w hO hB
  have e1 : (execOp ρ o).run p w = .ok (.value (.slice (some ⟨w.heap.size, 0, none⟩) m m)) (w.alloc (.cells cs.toArray e (0, 0))) := by
    rw [execOp, ho]
    simp only [List.map_toArray]
    rw [hx]
    simp [Sem.run_bind, hr.out w]
  rw [e1]
  exact ⟨_, k _, hO.alloc _ _, hB.alloc _⟩
theorem st_ln {t : TypeId} {d : TypeId} {args : List Operand} {a : Option Addr} {m c : Nat} (ho : o.op = .call { callee := .builtin .len, args := args.toArray, argTypes := #[t] }) (hu : p.underlying t = some (.slice d)) (hv : args.map ρ = [.slice a m c]) (k : K (.int .i64 m) H) : Step p ρ o H K := by
  refine st_val (fun w => ?_) k
  rw [execOp, ho]
  simp only [resolve, List.map_toArray, hv]
  simp [invoke, builtin, Builtin.len_, Sem.run_bind, run_underlying hu w, goInt]
theorem st_sa {t e : Nat} {x y : Operand} {g off m c s : Nat} {i : Nat} (ho : o.op = .indexAddr t x y) (hu : p.underlying t = some (.slice e)) (hs : (p.info? e).map (·.size) = some s) (hx : ρ x = .slice (some ⟨g, off, none⟩) m c) (hy : ρ y = .int .i64 i) (hi : i < m)
    (k : K (.pointer (some ⟨g, off + i * s, none⟩)) H) : Step p ρ o H K := by
  refine st_run (s := Instr.indexAt t (.slice (some ⟨g, off, none⟩) m c) (.int .i64 i)) (by rw [execOp, ho]; simp only [hx, hy]) ⟨fun w => ?_⟩ k
  cases hq : p.info? e with
  | none => simp [hq] at hs
  | some inf =>
    have hs' : inf.size = s := by simpa [hq] using hs
    have h0 : (0 : Int) ≤ i := by omega
    simp [Instr.indexAt, asIntOf, Sem.run_bind, run_underlying hu w, h0, hi, sizeOf, typeInfo, hq, hs', Addr.add]
theorem st_slh {t e : Nat} {x y : Operand} {g off m c s h : Nat} (ho : o.op = .slice t x none (some y) none) (hu : p.underlying t = some (.slice e)) (hs : (p.info? e).map (·.size) = some s) (hx : ρ x = .slice (some ⟨g, off, none⟩) m c) (hy : ρ y = .int .i64 h) (hh : h ≤ c)
    (k : K (.slice (some ⟨g, off, none⟩) h c) H) : Step p ρ o H K := by
  refine st_run (s := Instr.sliceAt t (.slice (some ⟨g, off, none⟩) m c) none (some (.int .i64 h)) none) (by rw [execOp, ho]; simp only [hx, hy, Option.map_none, Option.map_some]) ⟨fun w => ?_⟩ k
  have h0 : (0 : Int) ≤ h := by omega
  have hh' : (h : Int) ≤ c := by omega
  cases hq : p.info? e with
  | none => simp [hq] at hs
  | some inf =>
    have hs' : inf.size = s := by simpa [hq] using hs
    simp [Instr.sliceAt, Instr.slice, Instr.sliceBounds, Sem.run_bind, run_underlying hu w, run_sliceBound, h0, hh', hh, sizeOf, typeInfo, hq, hs', Addr.add]
theorem sees_start {fn : Func} {args : Array Value} (hn : fn.ntmps = n) (ha : Nat.ble args.size n = true) : Sees n (envOf args) { tmps := args ++ Array.replicate (fn.ntmps - args.size) undef, defers := [] } := by
  replace ha := Nat.le_of_ble_eq_true ha
  refine ⟨rfl, by simp; omega, ?_⟩
  intro t ht
  have ht' : (t : Nat) < n := ht
  subst hn
  simp only [envOf, List.getD_eq_getElem?_getD, Array.getElem?_toList]
  by_cases h1 : (t : Nat) < args.size
  · rw [Array.getElem?_append_left h1, Array.getElem?_eq_getElem h1]
    rfl
  · have h3 : args.size ≤ (t : Nat) := Nat.le_of_not_lt h1
    have h2 : (t : Nat) - args.size < fn.ntmps - args.size := by omega
    rw [Array.getElem?_append_right h3, Array.getElem?_eq_none h3, Array.getElem?_replicate, if_pos h2]
    rfl
theorem own_start {R : List Box} {w : World} (hA : At R w) (hn : (R.map Box.g).Nodup) (hr : ∀ b ∈ R, b.ro = true) : Own ⟨fun _ => False, w⟩ R w :=
  ⟨Nat.le_refl _, fun b hb => ⟨.inl (hr b hb), by
    obtain ⟨fr, h⟩ := hA b hb
    exact ⟨fr, (fun h => by rw [hr b hb] at h; cases h), h⟩⟩, hn⟩
end
end Go.Proofs.YtalffjplbhelcaaGreatDoor
namespace Go.Proofs.YtalffjplbhelcaaGreatDoor
open Go.RowKit
def drawOkL (ops : Array Oper) (fx al ta : List Nat) (q : Nat) : Bool :=
  let body := fx ++ al
  let all := body ++ ta
  (all.length == ops.size) && nodupB all && ((List.range ops.size).all fun i => all.contains i) && (all.all fun i => Nat.blt i ops.size)
  && ((List.range ops.size).all fun i => match ops[i]? with | some o => (o.after.all fun e => !(Region.binds .any e) || Nat.blt e.on i) | none => false)
  && (Region.noSelect ops)
  && (body.all fun i => body.all fun j => i == j || (match dstOf ops i, dstOf ops j with | some x, some y => !(Nat.beq x y) | _, _ => true))
  && ((List.range fx.length).all fun k => match fx[k]? with
      | some i => (match ops[i]? with
        | some o => (Oper.looksAt ops o).all fun t => body.all fun j => (match dstOf ops j with | some d => !(Nat.beq d t) | none => true) || (bindsOn o j && (fx.take k).contains j)
        | none => false)
      | none => false)
  && ((List.range ta.length).all fun k => match ta[k]? with
      | some i => k == 0 || ((body ++ ta.take k).all fun j => before_ ops i j || (body ++ ta.take k).any fun m => before_ ops m j)
      | none => false)
  && (match ta[0]? with | some i => (body.all fun j => j == q || before_ ops i j || body.any fun m => !(m == q) && before_ ops m j) | none => true)
  && fx.contains q
  && (match ops[q]? with | some oq => (oq.after.all fun e => !(Region.binds .any e) || body.contains e.on) && (ta.all fun j => match ops[j]? with | some oj => bindsOn oj q || oq.apart ops oj | none => false) | none => false)
section
variable {p : Program} {n : Nat} {ops : Array Oper}
structure DrawOkL (ops : Array Oper) (fx al ta : List Nat) (q : Nat) : Prop where
  len : (fx ++ al ++ ta).length = ops.size
  nodup : (fx ++ al ++ ta).Nodup
  all : ∀ i, i < ops.size → i ∈ fx ++ al ++ ta
  lt : ∀ i ∈ fx ++ al ++ ta, i < ops.size
  back : ∀ i o, ops[i]? = some o → ∀ e ∈ o.after, Region.binds .any e = true → e.on < i
  sel : Region.noSelect ops = true
  dsts : ∀ i ∈ fx ++ al, ∀ j ∈ fx ++ al, ∀ t, dstOf ops i = some t → dstOf ops j = some t → i = j
  looks : ∀ k i o, fx[k]? = some i → ops[i]? = some o → ∀ t ∈ Oper.looksAt ops o, ∀ j ∈ fx ++ al, dstOf ops j = some t → bindsOn o j = true ∧ j ∈ fx.take k
  tails : ∀ k i, ta[k]? = some i → k ≠ 0 → ∀ j ∈ fx ++ al ++ ta.take k, before_ ops i j = true ∨ ∃ m ∈ fx ++ al ++ ta.take k, before_ ops m j = true
  tails0 : ∀ i, ta[0]? = some i → ∀ j ∈ fx ++ al, j ≠ q → before_ ops i j = true ∨ ∃ m ∈ fx ++ al, m ≠ q ∧ before_ ops m j = true
  late : q ∈ fx
  deps : ∀ oq, ops[q]? = some oq → ∀ e ∈ oq.after, Region.binds .any e = true → e.on ∈ fx ++ al
  far : ∀ oq, ops[q]? = some oq → ∀ j ∈ ta, ∀ oj, ops[j]? = some oj → bindsOn oj q = true ∨ oq.apart ops oj = true
theorem drawOkL_spec {fx al ta : List Nat} {q : Nat} (h : drawOkL ops fx al ta q = true) : DrawOkL ops fx al ta q := by
  simp only [drawOkL, Bool.and_eq_true, List.all_eq_true, List.mem_range, beq_iff_eq, Nat.blt_eq] at h
  obtain ⟨⟨⟨⟨⟨⟨⟨⟨⟨⟨⟨h1, h2⟩, h3⟩, h4⟩, h5⟩, h6⟩, h7⟩, h8⟩, h9⟩, h10⟩, h11⟩, h12⟩ := h
  refine ⟨h1, nodupB_spec _ h2, fun i hi => by simpa using h3 i hi, fun i hi => h4 i hi, ?_, h6, ?_, ?_, ?_, ?_, by simpa using h11, ?_, ?_⟩
  · intro i o ho e he hb
    have := h5 i (Array.getElem?_eq_some_iff.1 ho).1
    rw [ho] at this
    have h := Array.all_eq_true_iff_forall_mem.1 this e he
    simp only [hb, Bool.not_true, Bool.false_or, Nat.blt_eq] at h
    exact h
  · intro i hi j hj t hti htj
    have := h7 i hi j hj
    rw [hti, htj] at this
    simpa using this
  · intro k i o hk ho t ht j hj hd
    have hlt : k < fx.length := (List.getElem?_eq_some_iff.1 hk).1
    have := h8 k hlt
    rw [hk] at this
    simp only [ho] at this
    have := List.all_eq_true.1 (List.all_eq_true.1 this t ht) j hj
    rw [hd] at this
    simpa using this
  · intro k i hk hk0 j hj
    have hlt : k < ta.length := (List.getElem?_eq_some_iff.1 hk).1
    have := h9 k hlt
    rw [hk] at this
    simp only [Bool.or_eq_true, beq_iff_eq, hk0, false_or] at this
    have := List.all_eq_true.1 this j hj
    rw [Bool.or_eq_true, List.any_eq_true] at this
    exact this
  · intro i hi j hj hjq
    rw [hi] at h10
    have := List.all_eq_true.1 h10 j hj
    simp only [Bool.or_eq_true, beq_iff_eq, List.any_eq_true, Bool.and_eq_true, Bool.not_eq_true', beq_eq_false_iff_ne, ne_eq] at this
    rcases this with (h | h) | h
    · exact absurd h hjq
    · exact .inl h
    · exact .inr h
  · intro oq hoq e he hb
    rw [hoq] at h12
    simp only [Bool.and_eq_true] at h12
    have h := Array.all_eq_true_iff_forall_mem.1 h12.1 e he
    simp only [hb, Bool.not_true, Bool.false_or] at h
    simpa using h
  · intro oq hoq j hj oj hoj
    rw [hoq] at h12
    simp only [Bool.and_eq_true] at h12
    have := List.all_eq_true.1 h12.2 j hj
    rw [hoj] at this
    simpa using this
theorem tail_waitsL {fx al ta : List Nat} {q : Nat} (hok : DrawOkL ops fx al ta q) {L : Array Bool} (hd : Down ops L) {k i : Nat} (hk : ta[k]? = some i) (hk0 : k ≠ 0) (hr : i ∈ Region.ready .any ops L) :
    ∀ j ∈ fx ++ al ++ ta.take k, L.getD j false = true := by
  obtain ⟨h0, o, ho, hall⟩ := mem_ready.1 hr
  have key : ∀ m j, j ∈ fx ++ al ++ ta.take k → ops.size - j ≤ m → L.getD j false = true := by
    intro m
    induction m with
    | zero =>
      intro j hj hm
      have : j ∈ fx ++ al ++ ta := by
        rcases List.mem_append.1 hj with h | h
        · exact List.mem_append_left _ h
        · exact List.mem_append_right _ (List.mem_of_mem_take h)
      have := hok.lt j this
      omega
    | succ m ih =>
      intro j hj hm
      rcases hok.tails k i hk hk0 j hj with h | ⟨r, hq, h⟩
      · obtain ⟨o', ho', e, he, hb, hon⟩ := before_spec h
        rw [ho] at ho'
        cases ho'
        rw [← hon]
        exact hall e he hb
      · obtain ⟨o', ho', e, he, hb, hon⟩ := before_spec h
        have hlt : j < r := by rw [← hon]; exact hok.back r o' ho' e he hb
        have hq' : L.getD r false = true := ih r hq (by omega)
        rw [← hon]
        exact hd r o' ho' hq' e he hb
  intro j hj
  exact key (ops.size - j) j hj (Nat.le_refl _)
theorem tail_waits0 {fx al ta : List Nat} {q : Nat} (hok : DrawOkL ops fx al ta q) {L : Array Bool} (hd : Down ops L) {i : Nat} (hk : ta[0]? = some i) (hr : i ∈ Region.ready .any ops L) :
    ∀ j ∈ fx ++ al, j ≠ q → L.getD j false = true := by
  obtain ⟨h0, o, ho, hall⟩ := mem_ready.1 hr
  have key : ∀ m j, j ∈ fx ++ al → j ≠ q → ops.size - j ≤ m → L.getD j false = true := by
    intro m
    induction m with
    | zero =>
      intro j hj hjq hm
      have := hok.lt j (List.mem_append_left _ hj)
      omega
    | succ m ih =>
      intro j hj hjq hm
      rcases hok.tails0 i hk j hj hjq with h | ⟨r, hq, hrq, h⟩
      · obtain ⟨o', ho', e, he, hb, hon⟩ := before_spec h
        rw [ho] at ho'
        cases ho'
        rw [← hon]
        exact hall e he hb
      · obtain ⟨o', ho', e, he, hb, hon⟩ := before_spec h
        have hlt : j < r := by rw [← hon]; exact hok.back r o' ho' e he hb
        have hq' : L.getD r false = true := ih r hq hrq (by omega)
        rw [← hon]
        exact hd r o' ho' hq' e he hb
  intro j hj hjq
  exact key (ops.size - j) j hj hjq (Nat.le_refl _)
theorem ready_someL {fx al ta : List Nat} {q : Nat} (hok : DrawOkL ops fx al ta q) {L : Array Bool} (hs : L.size = ops.size) {i : Nat} (hi : i < ops.size) (hl : L.getD i false = false) : Region.ready .any ops L ≠ [] := by
  have key : ∀ m i, i < m → i < ops.size → L.getD i false = false → ∃ j, j ∈ Region.ready .any ops L := by
    intro m
    induction m with
    | zero => intro i h; omega
    | succ m ih =>
      intro i him hi hl
      obtain ⟨o, ho⟩ : ∃ o, ops[i]? = some o := ⟨_, Array.getElem?_eq_getElem hi⟩
      by_cases hall : ∀ e ∈ o.after, Region.binds .any e = true → L.getD e.on false = true
      · refine ⟨i, mem_ready.2 ⟨?_, o, ho, hall⟩⟩
        have hi' : i < L.size := by omega
        simpa [hi'] using hl
      · obtain ⟨e, he, hb, hne⟩ : ∃ e, e ∈ o.after ∧ Region.binds .any e = true ∧ ¬ L.getD e.on false = true := by
          refine Classical.byContradiction fun hc => hall fun e he hb => ?_
          exact Classical.byContradiction fun hn => hc ⟨e, he, hb, hn⟩
        have hlt := hok.back i o ho e he hb
        exact ih e.on (by omega) (by omega) (by simpa using hne)
  obtain ⟨j, hj⟩ := key (i + 1) i (by omega) hi hl
  intro h
  rw [h] at hj
  cases hj
theorem tail_phaseL {fx al ta : List Nat} {q : Nat} (hok : DrawOkL ops fx al ta q) {Q : Exit → Act → World → Prop} : ∀ (r : List Nat) (k : Nat) (L : Array Bool) (a : Act) (w : World), ta.drop k = r → Down ops L → L.size = ops.size →
    (∀ i ∈ fx ++ al ++ ta.take k, L.getD i false = true) → (∀ i ∈ r, L.getD i false = false) → wpList p ops Q (r.map fun i => (ops[i]?).getD default) a w → wpAny p .any ops Q r.length L a w := by
  intro r
  induction r with
  | nil =>
    intro k L a w hr hd hs hl hn h
    refine ⟨?_, h⟩
    cases hq : Region.ready .any ops L with
    | nil => rfl
    | cons i is =>
      have hi : i ∈ Region.ready .any ops L := by rw [hq]; simp
      obtain ⟨h0, o, ho, hall⟩ := mem_ready.1 hi
      have hlt := (Array.getElem?_eq_some_iff.1 ho).1
      have hk : ta.take k = ta := by
        have := List.take_append_drop k ta
        rw [hr, List.append_nil] at this
        exact this
      have := hl i (by rw [hk]; exact hok.all i hlt)
      have hi' : i < L.size := by omega
      simp [hi'] at h0 this
      rw [h0] at this
      cases this
  | cons i r ih =>
    intro k L a w hr hd hs hl hn h
    have hk : ta[k]? = some i := by
      have : (ta.drop k)[0]? = some i := by rw [hr]; rfl
      simpa using this
    have hr' : ta.drop (k + 1) = r := by
      have : (ta.drop k).drop 1 = r := by rw [hr]; rfl
      rw [List.drop_drop] at this
      exact this
    have hita : i ∈ ta := List.mem_of_getElem? hk
    have hlt : i < ops.size := hok.lt i (List.mem_append_right _ hita)
    have hrun := hn i (by simp)
    refine ⟨fun h0 => absurd h0 (ready_someL hok hs hlt hrun), fun j hj => ?_⟩
    have hjr := mem_ready.1 hj
    obtain ⟨h0, oj, hoj, hall⟩ := hjr
    have hjlt := (Array.getElem?_eq_some_iff.1 hoj).1
    have hji : j = i := by
      have hjn : L.getD j false = false := by
        have hj' : j < L.size := by omega
        simpa [hj'] using h0
      have hjall := hok.all j hjlt
      have hjt : j ∈ ta.drop k := by
        rcases List.mem_append.1 hjall with h | h
        · rw [hl j (List.mem_append_left _ h)] at hjn; cases hjn
        · rw [← List.take_append_drop k ta] at h
          rcases List.mem_append.1 h with h | h
          · rw [hl j (List.mem_append_right _ h)] at hjn; cases hjn
          · exact h
      rw [hr] at hjt
      rcases List.mem_cons.1 hjt with h | h
      · exact h
      · rw [← hr'] at h
        obtain ⟨r', hq⟩ := List.mem_iff_getElem?.1 h
        rw [List.getElem?_drop] at hq
        have := tail_waitsL hok hd hq (by omega) hj i (List.mem_append_right _ (List.mem_of_getElem? (i := k) (by rw [List.getElem?_take, if_pos (by omega)]; exact hk)))
        rw [hrun] at this
        cases this
    subst hji
    have hnd := hok.nodup
    have hnext : ∀ a' w', wpList p ops Q (r.map fun i => (ops[i]?).getD default) a' w' → wpAny p .any ops Q r.length (L.setIfInBounds j true) a' w' := fun a' w' h' => by
      refine ih (k + 1) _ a' w' hr' (hd.set hj) (by simp [hs]) ?_ ?_ h'
      · intro q hq
        by_cases hqj : j = q
        · subst hqj; have : j < L.size := by omega
          simp [this]
        · rw [getD_set_ne false hqj]
          refine hl q ?_
          rw [List.take_add_one, hk] at hq
          simp only [List.mem_append, Option.toList_some, List.mem_singleton] at hq ⊢
          rcases hq with h | h | h
          · exact .inl h
          · exact .inr h
          · exact absurd h.symm hqj
      · intro q hq
        have hqj : j ≠ q := by
          rintro rfl
          have h2 : (fx ++ al ++ (ta.take k ++ (j :: r))).Nodup := by rw [← hr, List.take_append_drop]; exact hnd
          have h3 := (List.nodup_append.1 (List.nodup_append.1 h2).2.1).2.1
          exact (List.nodup_cons.1 h3).1 hq
        rw [getD_set_ne false hqj]
        exact hn q (by simp [hq])
    simp only [List.map_cons, hoj, Option.getD_some] at h
    unfold wpList at h
    unfold wpOp
    simp only [hoj]
    split
    · rename_i hw
      rw [if_pos hw] at h
      exact h.imp (Oper.wp_mono hnext) id
    · rename_i hw
      rw [if_neg hw] at h
      exact hnext _ _ h
section
variable {fx ta : List Nat} {al : List Al} {vs : List (Nat × Value)} {E0 : Env} {H0 : List Box} {Q : Exit → Env → List Box → Prop}
theorem allp_uniqL {q : Nat} (hok : DrawOkL ops fx (al.map (·.i)) ta q) (hvs : vs.map (·.1) = fx) (gs : Nat → Nat) : ∀ y ∈ allp vs al gs, ∀ z ∈ allp vs al gs, ∀ t, dstOf ops y.1 = some t → dstOf ops z.1 = some t → y = z := by
  intro y hy z hz t hyt hzt
  have hf := allp_fst vs al gs
  rw [hvs] at hf
  have hnd : ((allp vs al gs).map (·.1)).Nodup := by rw [hf]; exact (List.nodup_append.1 hok.nodup).1
  refine uniq_fst _ hnd y hy z hz (hok.dsts y.1 ?_ z.1 ?_ t hyt hzt)
  · rw [← hf]; exact List.mem_map.2 ⟨y, hy, rfl⟩
  · rw [← hf]; exact List.mem_map.2 ⟨z, hz, rfl⟩
theorem body_phaseL {q : Nat} (hok : DrawOkL ops fx (al.map (·.i)) ta q) (hqop : ∃ oq x c, ops[q]? = some oq ∧ oq.op = .extract x c ∧ oq.guard = none) (hnp : ∀ c E H, ¬ Q (.panic c) E H) (hvs : vs.map (·.1) = fx) (ht : ∀ k x, vs[k]? = some x → Tells p n ops H0 (putAll ops E0 (vs.take k)) x.1 x.2)
    (hal : ∀ x ∈ al, ∃ o z, ops[x.i]? = some o ∧ o.op = .alloc x.t ∧ o.guard = none ∧ (p.info? x.t).map (·.zero) = some (some z) ∧ z.cells = x.cs.toArray)
    (hK : ∀ gs : Nat → Nat, AR p n ops Q (ta.map fun i => (ops[i]?).getD default) (putAll ops E0 (allp vs al gs)) (al.map (fun x => (⟨gs x.i, x.cs, x.t, false⟩ : Box)) ++ H0)) {β : Base} :
    ∀ (m : Nat) (L : Array Bool) (a : Act) (w : World) (gs : Nat → Nat) (F : List Box), L.size = ops.size → Down ops L → (∀ i ∈ ta, L.getD i false = false) →
      ((fx ++ al.map (·.i)).filter fun i => !(L.getD i false)).length = m → Inv p n ops E0 H0 vs al β L a w gs F → wpAny p .any ops (AQ n β Q) (m + ta.length) L a w := by
  intro m
  induction m with
  | zero =>
    intro L a w gs F hs hd hta hm hI
    rw [Nat.zero_add]
    have hall : ∀ i ∈ fx ++ al.map (·.i), L.getD i false = true := by
      intro i hi
      have h0 := List.eq_nil_of_length_eq_zero hm
      cases hq : L.getD i false with
      | true => rfl
      | false =>
        have : i ∈ (fx ++ al.map (·.i)).filter fun i => !(L.getD i false) := List.mem_filter.2 ⟨hi, by simp only [hq, Bool.not_false]⟩
        rw [h0] at this
        cases this
    have hE : EL ops E0 vs al gs L = putAll ops E0 (allp vs al gs) := by
      unfold EL
      congr 1
      refine List.filter_eq_self.2 fun x hx => hall x.1 ?_
      rw [← hvs, ← allp_fst vs al gs]
      exact List.mem_map.2 ⟨x, hx, rfl⟩
    refine tail_phaseL hok ta 0 L a w rfl hd hs (by simpa using hall) hta ?_
    refine hK gs β w a ?_ hI.below (hE ▸ hI.sees)
    have hnd := hok.nodup
    have hnal : (al.map (·.i)).Nodup := (List.nodup_append.1 (List.nodup_append.1 hnd).1).2.1
    have hmem : ∀ x ∈ al, (⟨gs x.i, x.cs, x.t, false⟩ : Box) ∈ F := fun x hx => hI.made x hx (hall x.i (List.mem_append_right _ (List.mem_map.2 ⟨x, hx, rfl⟩)))
    have hHF := hI.own.apart
    rw [List.map_append, List.nodup_append] at hHF
    refine ⟨hI.own.size, ?_, ?_⟩
    · intro b hb
      rcases List.mem_append.1 hb with h | h
      · obtain ⟨x, hx, rfl⟩ := List.mem_map.1 h
        exact hI.own.at_ _ (List.mem_append_right _ (hmem x hx))
      · exact hI.own.at_ _ (List.mem_append_left _ h)
    · rw [List.map_append, List.nodup_append]
      refine ⟨?_, hHF.1, ?_⟩
      · rw [List.map_map]
        have : ∀ (l : List Al), (l.map (·.i)).Nodup → (∀ x ∈ l, x ∈ al) → (l.map (Box.g ∘ fun x => (⟨gs x.i, x.cs, x.t, false⟩ : Box))).Nodup := by
          intro l
          induction l with
          | nil => intro _ _; simp
          | cons x l ih =>
            intro hn hsub
            simp only [List.map_cons, List.nodup_cons, Function.comp_apply] at hn ⊢
            refine ⟨?_, ih hn.2 fun y hy => hsub y (by simp [hy])⟩
            intro hc
            obtain ⟨y, hy, e⟩ := List.mem_map.1 hc
            have hxi : x.i ≠ y.i := fun e => hn.1 (List.mem_map.2 ⟨y, hy, e.symm⟩)
            exact hI.other x (hsub x (by simp)) y (hsub y (by simp [hy])) (hall _ (List.mem_append_right _ (List.mem_map.2 ⟨x, hsub x (by simp), rfl⟩))) (hall _ (List.mem_append_right _ (List.mem_map.2 ⟨y, hsub y (by simp [hy]), rfl⟩))) hxi e.symm
        exact this al hnal fun x hx => hx
      · intro x hx y hy e
        obtain ⟨b, hb, rfl⟩ := List.mem_map.1 hx
        obtain ⟨x', hx', rfl⟩ := List.mem_map.1 hb
        exact hHF.2.2 y hy _ (List.mem_map.2 ⟨_, hmem x' hx', rfl⟩) e.symm
  | succ m ih =>
    intro L a w gs F hs hd hta hm hI
    have hnd := hok.nodup
    have hndb := (List.nodup_append.1 hnd).1
    obtain ⟨i0, hi0⟩ : ∃ i, i ∈ (fx ++ al.map (·.i)).filter fun i => !(L.getD i false) := by
      cases hq : (fx ++ al.map (·.i)).filter fun i => !(L.getD i false) with
      | nil => rw [hq] at hm; cases hm
      | cons i is => exact ⟨i, by simp⟩
    obtain ⟨hi0b, hi0n⟩ := List.mem_filter.1 hi0
    have hi0n' : L.getD i0 false = false := by simpa using hi0n
    have hi0lt : i0 < ops.size := hok.lt i0 (List.mem_append_left _ hi0b)
    rw [show m + 1 + ta.length = (m + ta.length) + 1 by omega]
    by_cases hlate : ∀ j ∈ fx ++ al.map (·.i), j ≠ q → L.getD j false = true
    · have hq0 : i0 = q := Classical.byContradiction fun hne => by
        have := hlate i0 hi0b hne
        rw [hi0n'] at this
        cases this
      subst hq0
      obtain ⟨o, xq, cq, ho, hop, hgd⟩ := hqop
      have hall : ∀ e ∈ o.after, Region.binds .any e = true → L.getD e.on false = true := fun e he hb => hlate e.on (hok.deps o ho e he hb) (Nat.ne_of_lt (hok.back i0 o ho e he hb))
      have hiL : i0 < L.size := by omega
      have h0 : L.getD i0 true = false := by simpa [hiL] using hi0n'
      have hready : i0 ∈ Region.ready .any ops L := mem_ready.2 ⟨h0, o, ho, hall⟩
      have hif : i0 ∈ fx := hok.late
      have hin := hi0n'
      have hib := hi0b
      have hu := allp_uniqL (vs := vs) hok hvs
      have hLj : ∀ j, j ≠ i0 → (L.setIfInBounds i0 true).getD j false = L.getD j false := fun j hj => getD_set_ne false (Ne.symm hj)
      have hnta : i0 ∉ ta := fun h => (List.nodup_append.1 hnd).2.2 i0 hib i0 h rfl
      have hta' : ∀ j ∈ ta, (L.setIfInBounds i0 true).getD j false = false := fun j hj => by
        rw [getD_set_ne false (fun (e : i0 = j) => hnta (by rw [e]; exact hj))]
        exact hta j hj
      have hm' : ((fx ++ al.map (·.i)).filter fun j => !((L.setIfInBounds i0 true).getD j false)).length = m := by
        have := filter_less (fx ++ al.map (·.i)) (fun j => !(L.getD j false)) (fun j => !((L.setIfInBounds i0 true).getD j false)) i0 hndb hib (by simp only [hin, Bool.not_false]) (by simp [hiL]) (fun j hj => by simp only [getD_set_ne false (Ne.symm hj)])
        omega
      rw [← hvs] at hif
      obtain ⟨x, hx, hxi⟩ := List.mem_map.1 hif
      subst hxi
      obtain ⟨k, hk⟩ := List.mem_iff_getElem?.1 hx
      have hxa : x ∈ allp vs al gs := List.mem_append_left _ hx
      have hfk : fx[k]? = some x.1 := by rw [← hvs, List.getElem?_map, hk]; rfl
      have hT := tells_congr (E' := EL ops E0 vs al gs L) hok.sel (ht k x hk) (fun o' ho' t htl => by
        rw [ho] at ho'
        cases ho'
        have hfst := allp_fst vs al gs
        rw [hvs] at hfst
        by_cases hex : ∃ y ∈ allp vs al gs, dstOf ops y.1 = some t
        · obtain ⟨y, hy, hyd⟩ := hex
          have hyb : y.1 ∈ fx ++ al.map (·.i) := by rw [← hfst]; exact List.mem_map.2 ⟨y, hy, rfl⟩
          obtain ⟨hb, htk⟩ := hok.looks k x.1 o hfk ho t htl y.1 hyb hyd
          have hyv : y ∈ vs.take k := by
            rw [← hvs, ← List.map_take] at htk
            obtain ⟨z, hz, e⟩ := List.mem_map.1 htk
            have hza : z ∈ allp vs al gs := List.mem_append_left _ (List.mem_of_mem_take hz)
            have : z = y := hu gs z hza y hy t (by rw [e]; exact hyd) hyd
            exact this ▸ hz
          have hyl : L.getD y.1 false = true := by
            unfold bindsOn at hb
            obtain ⟨e, he, hbb⟩ := Array.any_eq_true'.1 hb
            simp only [Bool.and_eq_true, beq_iff_eq] at hbb
            rw [← hbb.2]
            exact hall e he hbb.1
          unfold EL
          rw [putAll_at E0 t _ y (List.mem_filter.2 ⟨hy, hyl⟩) hyd (fun z hz hzd => hu gs z (List.mem_filter.1 hz).1 y hy t hzd hyd)]
          rw [putAll_at E0 t _ y hyv hyd (fun z hz hzd => hu gs z (List.mem_append_left _ (List.mem_of_mem_take hz)) y hy t hzd hyd)]
        · unfold EL
          rw [putAll_not E0 t _ (fun z hz hzd => hex ⟨z, (List.mem_filter.1 hz).1, hzd⟩)]
          rw [putAll_not E0 t _ (fun z hz hzd => hex ⟨z, List.mem_append_left _ (List.mem_of_mem_take hz), hzd⟩)])
      obtain ⟨o', ho', hT⟩ := hT
      rw [ho] at ho'
      cases ho'
      have hEL : EL ops E0 vs al gs (L.setIfInBounds x.1 true) = (EL ops E0 vs al gs L).put o.dst x.2 := by
        have := put_filter (ops := ops) E0 (allp vs al gs) (allp vs al gs) L x.1 x.2 hxa (fun _ _ => Iff.rfl) (hu gs) (hu gs) hin hiL
        unfold EL
        rw [this]
        simp [dstOf, ho]
      have hmade : ∀ y ∈ al, (L.setIfInBounds x.1 true).getD y.i false = true → L.getD y.i false = true := by
        intro y hy hl
        have hne : y.i ≠ x.1 := by
          intro e
          have h3 := (List.nodup_append.1 hndb).2.2 x.1 (hvs ▸ hif) y.i (List.mem_map.2 ⟨y, hy, rfl⟩)
          exact h3 e.symm
        rw [hLj _ hne] at hl
        exact hl
      have hyl : yld n ops (EL ops E0 vs al gs L) o = true := by unfold yld; rw [hgd]
      have hY : Yields p ops o x.2 a := by
        rcases hT with ⟨hw, hstep⟩ | ⟨hw, hv⟩
        · refine .inl ⟨by rw [hI.sees.yld]; exact hw, ?_⟩
          have hone := hstep F β w hI.own hI.below
          rw [hI.sees.eval]
          revert hone
          rw [execOp, hop]
          simp only
          cases ev n (EL ops E0 vs al gs L) xq with
          | tuple ts =>
            simp only [Instr.extract]
            cases ts[cq]? with
            | some u =>
              intro hone
              simp at hone
              obtain ⟨_, ⟨hu1, _⟩, _⟩ := hone
              intro w2
              simp [hu1]
            | none => intro hone; simp [stuck] at hone
          | _ => intro hone; simp [Instr.extract, stuck] at hone
        · rw [hyl] at hw; cases hw
      refine wpAny_first (P := p) (md := .any) (Q := AQ n β Q) ho (fun j oj cs b hj => Region.noSelect_spec hok.sel j oj cs b hj) (fun c a' w' hp => by
        obtain ⟨E', H', hq', _⟩ := hp
        exact absurd hq' (hnp c E' H')) _ _ a w ?_ hready hY ?_
      · intro j oj hoj hji hjl hnw
        have hjlt := (Array.getElem?_eq_some_iff.1 hoj).1
        have hjl' : L.getD j false = false := by
          have hj' : j < L.size := by omega
          simpa [hj'] using hjl
        rcases List.mem_append.1 (hok.all j hjlt) with h | h
        · have := hlate j h hji
          rw [hjl'] at this
          cases this
        · rcases hok.far o ho j h oj hoj with hb | hb
          · unfold bindsOn at hb
            obtain ⟨e, he, hbb⟩ := Array.any_eq_true'.1 hb
            simp only [Bool.and_eq_true, beq_iff_eq] at hbb
            exact absurd hbb.2 (hnw e he hbb.1)
          · exact hb
      · exact ih _ _ w gs F (by simp [hs]) (hd.set hready) hta' hm' ⟨hEL ▸ hI.sees.put _ _, hI.own, hI.below, fun y hy hl => hI.made y hy (hmade y hy hl), fun y hy z hz hl hl' hne => hI.other y hy z hz (hmade y hy hl) (hmade z hz hl') hne⟩
    obtain ⟨j0, hj0b, hj0q, hj0n⟩ : ∃ j, j ∈ fx ++ al.map (·.i) ∧ j ≠ q ∧ L.getD j false = false := by
      refine Classical.byContradiction fun hc => hlate fun j hj hjq => ?_
      cases hq : L.getD j false with
      | true => rfl
      | false => exact absurd ⟨j, hj, hjq, hq⟩ hc
    refine ⟨fun h0 => absurd h0 (ready_someL hok hs hi0lt hi0n'), fun i hi => ?_⟩
    obtain ⟨h0, o, ho, hall⟩ := mem_ready.1 hi
    have hilt := (Array.getElem?_eq_some_iff.1 ho).1
    have hiL : i < L.size := by omega
    have hin : L.getD i false = false := by simpa [hiL] using h0
    have hib : i ∈ fx ++ al.map (·.i) := by
      rcases List.mem_append.1 (hok.all i hilt) with h | h
      · exact h
      · obtain ⟨k, hk⟩ := List.mem_iff_getElem?.1 h
        by_cases hk0 : k = 0
        · subst hk0
          have := tail_waits0 hok hd hk hi j0 hj0b hj0q
          rw [hj0n] at this
          cases this
        · have := tail_waitsL hok hd hk hk0 hi i0 (List.mem_append_left _ hi0b)
          rw [hi0n'] at this
          cases this
    have hnta : i ∉ ta := fun h => (List.nodup_append.1 hnd).2.2 i hib i h rfl
    have hta' : ∀ j ∈ ta, (L.setIfInBounds i true).getD j false = false := fun j hj => by
      rw [getD_set_ne false (fun (e : i = j) => hnta (by rw [e]; exact hj))]
      exact hta j hj
    have hm' : ((fx ++ al.map (·.i)).filter fun j => !((L.setIfInBounds i true).getD j false)).length = m := by
      have := filter_less (fx ++ al.map (·.i)) (fun j => !(L.getD j false)) (fun j => !((L.setIfInBounds i true).getD j false)) i hndb hib (by simp only [hin, Bool.not_false]) (by simp [hiL]) (fun j hj => by simp only [getD_set_ne false (Ne.symm hj)])
      omega
    have hLi : (L.setIfInBounds i true).getD i false = true := by simp [hiL]
    have hLj : ∀ j, j ≠ i → (L.setIfInBounds i true).getD j false = L.getD j false := fun j hj => getD_set_ne false (Ne.symm hj)
    have hu := allp_uniqL (vs := vs) hok hvs
    rcases List.mem_append.1 hib with hif | hia
    · -- it tells the same in whatever order
      rw [← hvs] at hif
      obtain ⟨x, hx, rfl⟩ := List.mem_map.1 hif
      obtain ⟨k, hk⟩ := List.mem_iff_getElem?.1 hx
      have hxa : x ∈ allp vs al gs := List.mem_append_left _ hx
      have hfk : fx[k]? = some x.1 := by rw [← hvs, List.getElem?_map, hk]; rfl
      have hT := tells_congr (E' := EL ops E0 vs al gs L) hok.sel (ht k x hk) (fun o' ho' t htl => by
        rw [ho] at ho'
        cases ho'
        have hfst := allp_fst vs al gs
        rw [hvs] at hfst
        by_cases hex : ∃ y ∈ allp vs al gs, dstOf ops y.1 = some t
        · obtain ⟨y, hy, hyd⟩ := hex
          have hyb : y.1 ∈ fx ++ al.map (·.i) := by rw [← hfst]; exact List.mem_map.2 ⟨y, hy, rfl⟩
          obtain ⟨hb, htk⟩ := hok.looks k x.1 o hfk ho t htl y.1 hyb hyd
          have hyv : y ∈ vs.take k := by
            rw [← hvs, ← List.map_take] at htk
            obtain ⟨z, hz, e⟩ := List.mem_map.1 htk
            have hza : z ∈ allp vs al gs := List.mem_append_left _ (List.mem_of_mem_take hz)
            have : z = y := hu gs z hza y hy t (by rw [e]; exact hyd) hyd
            exact this ▸ hz
          have hyl : L.getD y.1 false = true := by
            unfold bindsOn at hb
            obtain ⟨e, he, hbb⟩ := Array.any_eq_true'.1 hb
            simp only [Bool.and_eq_true, beq_iff_eq] at hbb
            rw [← hbb.2]
            exact hall e he hbb.1
          unfold EL
          rw [putAll_at E0 t _ y (List.mem_filter.2 ⟨hy, hyl⟩) hyd (fun z hz hzd => hu gs z (List.mem_filter.1 hz).1 y hy t hzd hyd)]
          rw [putAll_at E0 t _ y hyv hyd (fun z hz hzd => hu gs z (List.mem_append_left _ (List.mem_of_mem_take hz)) y hy t hzd hyd)]
        · unfold EL
          rw [putAll_not E0 t _ (fun z hz hzd => hex ⟨z, (List.mem_filter.1 hz).1, hzd⟩)]
          rw [putAll_not E0 t _ (fun z hz hzd => hex ⟨z, List.mem_append_left _ (List.mem_of_mem_take hz), hzd⟩)])
      obtain ⟨o', ho', hT⟩ := hT
      rw [ho] at ho'
      cases ho'
      have hEL : EL ops E0 vs al gs (L.setIfInBounds x.1 true) = (EL ops E0 vs al gs L).put o.dst x.2 := by
        have := put_filter (ops := ops) E0 (allp vs al gs) (allp vs al gs) L x.1 x.2 hxa (fun _ _ => Iff.rfl) (hu gs) (hu gs) hin hiL
        unfold EL
        rw [this]
        simp [dstOf, ho]
      have hmade : ∀ y ∈ al, (L.setIfInBounds x.1 true).getD y.i false = true → L.getD y.i false = true := by
        intro y hy hl
        have hne : y.i ≠ x.1 := by
          intro e
          have h3 := (List.nodup_append.1 hndb).2.2 x.1 (hvs ▸ hif) y.i (List.mem_map.2 ⟨y, hy, rfl⟩)
          exact h3 e.symm
        rw [hLj _ hne] at hl
        exact hl
      unfold wpOp
      simp only [ho]
      rw [hI.sees.yld]
      rcases hT with ⟨hw, hstep⟩ | ⟨hw, hv⟩
      · rw [hw, if_pos rfl]
        refine .inl (hstep.wpF hI.sees hI.own hI.below ?_)
        rintro v H' w' ⟨rfl, rfl⟩ hO' hB'
        exact ih _ _ w' gs F (by simp [hs]) (hd.set hi) hta' hm' ⟨hEL ▸ hI.sees.put _ _, hO', hB', fun y hy hl => hI.made y hy (hmade y hy hl), fun y hy z hz hl hl' hne => hI.other y hy z hz (hmade y hy hl) (hmade z hz hl') hne⟩
      · rw [hw, if_neg (by simp)]
        rw [hv] at hEL
        exact ih _ _ w gs F (by simp [hs]) (hd.set hi) hta' hm' ⟨hEL ▸ hI.sees.put _ _, hI.own, hI.below, fun y hy hl => hI.made y hy (hmade y hy hl), fun y hy z hz hl hl' hne => hI.other y hy z hz (hmade y hy hl) (hmade z hz hl') hne⟩
    · -- a box is made
      obtain ⟨x, hx, rfl⟩ := List.mem_map.1 hia
      obtain ⟨o', z, ho', hop, hgd, hz, hcs⟩ := hal x hx
      rw [ho] at ho'
      cases ho'
      have hnal : (al.map (·.i)).Nodup := (List.nodup_append.1 hndb).2.1
      have hsame : ∀ y ∈ al, y.i = x.i → y = x := by
        have : ∀ (l : List Al), (l.map (·.i)).Nodup → ∀ y ∈ l, ∀ z ∈ l, y.i = z.i → y = z := by
          intro l
          induction l with
          | nil => intro _ y hy; cases hy
          | cons u l ih =>
            intro hn y hy z hz e
            simp only [List.map_cons, List.nodup_cons] at hn
            rcases List.mem_cons.1 hy with hy | hy <;> rcases List.mem_cons.1 hz with hz | hz
            · rw [hy, hz]
            · rw [hy] at e; exact absurd (List.mem_map.2 ⟨z, hz, e.symm⟩) hn.1
            · rw [hz] at e; exact absurd (List.mem_map.2 ⟨y, hy, e⟩) hn.1
            · exact ih hn.2 y hy z hz e
        exact fun y hy e => this al hnal y hy x hx e
      let gs' : Nat → Nat := fun j => if j = x.i then w.heap.size else gs j
      have hgx : gs' x.i = w.heap.size := by simp [gs']
      have hgy : ∀ j, j ≠ x.i → gs' j = gs j := fun j hj => by simp [gs', hj]
      have hEL : EL ops E0 vs al gs' (L.setIfInBounds x.i true) = (EL ops E0 vs al gs L).put o.dst (ptr w.heap.size) := by
        have hxa : (x.i, ptr w.heap.size) ∈ allp vs al gs' := List.mem_append_right _ (List.mem_map.2 ⟨x, hx, by rw [hgx]⟩)
        have := put_filter (ops := ops) E0 (allp vs al gs) (allp vs al gs') L x.i (ptr w.heap.size) hxa (fun y hy => by
          simp only [allp, List.mem_append, List.mem_map]
          constructor
          · rintro (h | ⟨q, hq, rfl⟩)
            · exact .inl h
            · exact .inr ⟨q, hq, by rw [hgy q.i hy]⟩
          · rintro (h | ⟨q, hq, rfl⟩)
            · exact .inl h
            · exact .inr ⟨q, hq, by rw [hgy q.i hy]⟩) (hu gs) (hu gs') hin hiL
        unfold EL
        rw [this]
        simp [dstOf, ho]
      have hst : Step p (ev n (EL ops E0 vs al gs L)) o H0 (fun v H' => ∃ g, v = ptr g ∧ H' = ⟨g, x.cs, x.t, false⟩ :: H0) := st_alloc hop hz hcs (fun g => ⟨g, rfl, rfl⟩)
      have hrun : (execOp (ev n (EL ops E0 vs al gs L)) o).run p w = .ok (.value (.pointer (some ⟨w.heap.size, 0, none⟩))) (w.alloc (.cells x.cs.toArray x.t (0, 0))) := by
        rw [← hcs]
        rw [execOp, hop]
        cases hq : p.info? x.t with
        | none => simp [hq] at hz
        | some inf =>
          have hz' : inf.zero = some z := by simpa [hq] using hz
          simp [Instr.alloc, zeroValue, typeInfo, hq, hz', newVar, newRow, Sem.run_bind]
      unfold wpOp
      simp only [ho]
      have hwant : Region.wanted o (yielded ops a.tmps) = true := by simp [Region.wanted, hgd]
      rw [hwant, if_pos rfl]
      refine .inl ?_
      unfold Oper.wp
      rw [hI.sees.eval, hrun]
      have hO1 : Own β (H0 ++ (⟨w.heap.size, x.cs, x.t, false⟩ :: F)) (w.alloc (.cells x.cs.toArray x.t (0, 0))) := (hI.own.alloc x.cs x.t).perm (List.perm_middle.symm)
      have hmade : ∀ y ∈ al, (L.setIfInBounds x.i true).getD y.i false = true → y ≠ x → L.getD y.i false = true ∧ y.i ≠ x.i := by
        intro y hy hl hne
        have hyi : y.i ≠ x.i := fun e => hne (hsame y hy e)
        rw [hLj _ hyi] at hl
        exact ⟨hl, hyi⟩
      have hfresh : ∀ y ∈ al, L.getD y.i false = true → gs y.i < w.heap.size := fun y hy hl => hI.own.lt (List.mem_append_right _ (hI.made y hy hl))
      refine ih _ _ _ gs' (⟨w.heap.size, x.cs, x.t, false⟩ :: F) (by simp [hs]) (hd.set hi) hta' hm' ⟨hEL ▸ hI.sees.put _ _, hO1, hI.below.alloc _, ?_, ?_⟩
      · intro y hy hl
        by_cases hyx : y = x
        · subst hyx
          rw [hgx]
          exact List.mem_cons_self
        · obtain ⟨hl', hyi⟩ := hmade y hy hl hyx
          rw [hgy _ hyi]
          exact List.mem_cons_of_mem _ (hI.made y hy hl')
      · intro y hy u hu' hl hl' hne
        by_cases hyx : y = x
        · subst hyx
          have hux : u ≠ y := fun e => hne (by rw [e])
          obtain ⟨hl2, hui⟩ := hmade u hu' hl' hux
          rw [hgx, hgy _ hui]
          exact Ne.symm (Nat.ne_of_lt (hfresh u hu' hl2))
        · obtain ⟨hl1, hyi⟩ := hmade y hy hl hyx
          by_cases hux : u = x
          · subst hux
            rw [hgx, hgy _ hyi]
            exact Nat.ne_of_lt (hfresh y hy hl1)
          · obtain ⟨hl2, hui⟩ := hmade u hu' hl' hux
            rw [hgy _ hyi, hgy _ hui]
            exact hI.other y hy u hu' hl1 hl2 hne
theorem ac_drawL {id : Nat} (fx ta : List Nat) (al : List Al) (q : Nat) (hok : drawOkL ops fx (al.map (·.i)) ta q = true) (hqop : ∃ oq x c, ops[q]? = some oq ∧ oq.op = .extract x c ∧ oq.guard = none) (hnp : ∀ c E H, ¬ Q (.panic c) E H) (hm : p.follows .mixedOrders = true)
    (hal : ∀ x ∈ al, ∃ o z, ops[x.i]? = some o ∧ o.op = .alloc x.t ∧ o.guard = none ∧ (p.info? x.t).map (·.zero) = some (some z) ∧ z.cells = x.cs.toArray)
    (h : DWalk p n ops H0 fx E0 fun E => ∀ gs : Nat → Nat, AR p n ops Q (ta.map fun i => (ops[i]?).getD default) (putAll ops E (al.map fun x => (x.i, ptr (gs x.i)))) (al.map (fun x => (⟨gs x.i, x.cs, x.t, false⟩ : Box)) ++ H0)) :
    AC p n (.region id ops true) Q E0 H0 := by
  intro β w a hO hB hs
  have hok' := drawOkL_spec hok
  obtain ⟨vs, hvs, ht, hK⟩ := dwalk_vals _ _ h
  refine wp_region_any hm ?_
  have hlen := hok'.len
  have hnone : ∀ i, (Array.replicate ops.size false).getD i false = false := by
    intro i
    simp only [Array.getD_eq_getD_getElem?, Array.getElem?_replicate]
    split <;> rfl
  have hcount : ((fx ++ al.map (·.i)).filter fun i => !((Array.replicate ops.size false).getD i false)).length = (fx ++ al.map (·.i)).length := by
    rw [List.filter_eq_self.2 fun i _ => by rw [hnone]; rfl]
  have := body_phaseL (E0 := E0) (H0 := H0) (Q := Q) hok' hqop hnp hvs ht hal (fun gs => by have := hK gs; rw [← putAll_append] at this; exact this) (β := β) _ (Array.replicate ops.size false) a { w with drawn := w.drawn + 1 } (fun _ => 0) [] (by simp) (fun i o ho hl => by rw [hnone] at hl; cases hl) (fun i _ => hnone i) hcount
    ⟨by
      have : EL ops E0 vs al (fun _ => 0) (Array.replicate ops.size false) = E0 := by
        unfold EL
        rw [List.filter_eq_nil_iff.2 fun x _ => by rw [hnone]; simp]
        rfl
      rw [this]; exact hs, by rw [List.append_nil]; exact hO.drew, hB.drew, fun x _ hl => (by rw [hnone] at hl; cases hl), fun x _ y _ hl => (by rw [hnone] at hl; cases hl)⟩
  have e : (fx ++ al.map (·.i)).length + ta.length = ops.size := by rw [← hlen, ← List.length_append]
  rw [e] at this
  exact this
end
theorem ac_drawL1 {H : List Box} {E : Env} {Q : Exit → Env → List Box → Prop} {id : Nat} (fx ta : List Nat) (q i d t : Nat) (cs : List Value) (tl : List Oper) (hok : drawOkL ops fx [i] ta q = true) (hqop : ∃ oq x c, ops[q]? = some oq ∧ oq.op = .extract x c ∧ oq.guard = none) (hnp : ∀ c E H, ¬ Q (.panic c) E H)
    (hm : p.follows .mixedOrders = true) (htl : (ta.map fun i => (ops[i]?).getD default) = tl) (hz : Zero p t cs) (hi : ∃ o, ops[i]? = some o ∧ o.op = .alloc t ∧ o.guard = none ∧ o.dst = some d)
    (h : DWalk p n ops H fx E fun E => ∀ g, AR p n ops Q tl (E.put (some d) (.pointer (some ⟨g, 0, none⟩))) (⟨g, cs, t, false⟩ :: H)) : AC p n (.region id ops true) Q E H := by
  subst htl
  obtain ⟨o, ho, h1, h2, h3⟩ := hi
  obtain ⟨z, hz1, hz2⟩ := hz.out
  refine ac_drawL fx ta [⟨i, t, cs⟩] q hok hqop hnp hm (fun x hx => by obtain rfl := List.mem_singleton.1 hx; exact ⟨o, z, ho, h1, h2, hz1, hz2⟩) ?_
  refine dwalk_mono ?_ _ _ h
  intro E hE gs
  have := hE (gs i)
  simpa [putAll, dstOf, ho, h3, ptr] using this
theorem np_then {next : Env → List Box → Prop} {Q : Exit → Env → List Box → Prop} (h : ∀ c E H, ¬ Q (.panic c) E H) : ∀ c E H, ¬ AThen next Q (.panic c) E H := h
theorem np_block {id : Nat} {Q : Exit → Env → List Box → Prop} (h : ∀ c E H, ¬ Q (.panic c) E H) : ∀ c E H, ¬ ABlock id Q (.panic c) E H := h
theorem np_fin {fn : Func} {v : Value} : ∀ c E H, ¬ Fin p fn n v (.panic c) E H := fun c E H h => by
  rcases h.1 with h | h <;> cases h
end
end Go.Proofs.YtalffjplbhelcaaGreatDoor
namespace Go.Proofs.YtalffjplbhelcaaGreatDoor
end Go.Proofs.YtalffjplbhelcaaGreatDoor
namespace Go.Proofs.YtalffjplbhelcaaGreatDoor
open Go.RowKit
theorem agg26 : IsAgg Tryz.prog 26 2 := ⟨⟨_, Tryz.underlying26, rfl, by kernel_rfl⟩⟩
theorem agg32 : IsAgg Tryz.prog 32 3 := ⟨⟨_, Tryz.underlying32, rfl, by kernel_rfl⟩⟩
theorem bd26_0_1 (x0_0 : Int) (x1_0 : Int) : Runs Tryz.prog (Instr.build 26 #[(0, .int .i64 x0_0), (1, .int .i64 x1_0)]) (.agg #[.int .i64 x0_0, .int .i64 x1_0]) := ⟨fun w => by go_simp⟩
theorem bd26_  : Runs Tryz.prog (Instr.build 26 #[]) (.agg #[.int .i64 0, .int .i64 0]) := ⟨fun w => by go_simp⟩
theorem bd32_0_1 (x0_0 : Int) (x1_0 : Int) : Runs Tryz.prog (Instr.build 32 #[(0, .int .i64 x0_0), (1, .int .i64 x1_0)]) (.agg #[.int .i64 x0_0, .int .i64 x1_0, .bool false]) := ⟨fun w => by go_simp⟩
theorem bd32_2 (x0_0 : Bool) : Runs Tryz.prog (Instr.build 32 #[(2, .bool x0_0)]) (.agg #[.int .i64 0, .int .i64 0, .bool x0_0]) := ⟨fun w => by go_simp⟩
theorem cell3 : IsCell Tryz.prog 3 := ⟨⟨_, Tryz.underlying3, rfl, by kernel_rfl⟩⟩
theorem cell4 : IsCell Tryz.prog 4 := ⟨⟨_, Tryz.underlying4, rfl, by kernel_rfl⟩⟩
theorem fa26_0 (a : Addr) : Runs Tryz.prog (Instr.fieldAt 26 (.pointer (some a)) 0) (.pointer (some (a.add 0))) := run_fa (f := 0) (off := 0) (m := 1) Tryz.underlying26 rfl rfl (by kernel_rfl) (by decide) a
theorem fa26_1 (a : Addr) : Runs Tryz.prog (Instr.fieldAt 26 (.pointer (some a)) 1) (.pointer (some (a.add 1))) := run_fa (f := 1) (off := 1) (m := 1) Tryz.underlying26 rfl rfl (by kernel_rfl) (by decide) a
theorem fa32_0 (a : Addr) : Runs Tryz.prog (Instr.fieldAt 32 (.pointer (some a)) 0) (.pointer (some (a.add 0))) := run_fa (f := 0) (off := 0) (m := 1) Tryz.underlying32 rfl rfl (by kernel_rfl) (by decide) a
theorem fa32_1 (a : Addr) : Runs Tryz.prog (Instr.fieldAt 32 (.pointer (some a)) 1) (.pointer (some (a.add 1))) := run_fa (f := 1) (off := 1) (m := 1) Tryz.underlying32 rfl rfl (by kernel_rfl) (by decide) a
theorem fa32_2 (a : Addr) : Runs Tryz.prog (Instr.fieldAt 32 (.pointer (some a)) 2) (.pointer (some (a.add 2))) := run_fa (f := 2) (off := 2) (m := 1) Tryz.underlying32 rfl rfl (by kernel_rfl) (by decide) a
theorem zero26 : Zero Tryz.prog 26 [.int .i64 0, .int .i64 0] := ⟨⟨.agg #[.int .i64 0, .int .i64 0], by kernel_rfl, rfl⟩⟩
theorem zero32 : Zero Tryz.prog 32 [.int .i64 0, .int .i64 0, .bool false] := ⟨⟨.agg #[.int .i64 0, .int .i64 0, .bool false], by kernel_rfl, rfl⟩⟩
end Go.Proofs.YtalffjplbhelcaaGreatDoor
