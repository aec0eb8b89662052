import Derived.Test.YthngkopcadlciaaMSagMirrors0
import Derived.IntWalk
import Derived.Test.YthngkopcadlciaaProg
import Derived.Laws.AppendOwn
set_option linter.unusedVariables false
set_option linter.unusedSimpArgs false
namespace Go.Proofs.Ythngkopcadlciaa
open Go.RowKit
abbrev w64 (n : Int) : Int := IntKind.i64.wrap n
section
variable {p : Program} {n : Nat} {ops : Array Oper} {Q : Exit → Env → List Box → Prop} {l : List Oper} {E : Env} {H : List Box} {o : Oper} {ρ : Operand → Value} {K : Post}
theorem ar_op {d : Option Nat} (hg : o.guard = none) (hd : o.dst = d) (h : Step p (ev n E) o H fun v H' => AR p n ops Q l (E.put d v) H') : AR p n ops Q (o :: l) E H := by
  subst hd
  exact ar_plain hg h
theorem ao (d : Nat) (hg : o.guard = none) (hd : o.dst = some d) (h : Step p (ev n E) o H fun v H' => AR p n ops Q l (E.put (some d) v) H') : AR p n ops Q (o :: l) E H := ar_op hg hd h
theorem ar_gd {d : Option Nat} (hg : yld n ops E o = true) (hd : o.dst = d) (h : Step p (ev n E) o H fun v H' => AR p n ops Q l (E.put d v) H') : AR p n ops Q (o :: l) E H := by
  subst hd
  exact ar_step hg h
theorem ar_sk {d : Option Nat} (hg : yld n ops E o = false) (hd : o.dst = d) (h : AR p n ops Q l (E.put d undef) H) : AR p n ops Q (o :: l) E H := by
  subst hd
  exact ar_skip hg h
theorem ar_round {c : Code} {k : Nat} (h : AC p n c (AThen (ARounds p n c Q k) Q) E H) : ARounds p n c Q (k + 1) E H := h
theorem dw_op {is : List Nat} {i : Nat} {d : Option Nat} {K : Env → Prop} (v : Value) (ho : ops[i]? = some o) (hg : o.guard = none) (hd : o.dst = d) (hs : Step p (ev n E) o H fun v' H' => v' = v ∧ H' = H)
    (h : DWalk p n ops H is (E.put d v) K) : DWalk p n ops H (i :: is) E K := by
  subst hd
  exact ⟨o, v, ho, .inl ⟨by unfold yld; rw [hg], hs⟩, h⟩
theorem dw_gd {is : List Nat} {i : Nat} {d : Option Nat} {K : Env → Prop} (v : Value) (ho : ops[i]? = some o) (hg : yld n ops E o = true) (hd : o.dst = d) (hs : Step p (ev n E) o H fun v' H' => v' = v ∧ H' = H)
    (h : DWalk p n ops H is (E.put d v) K) : DWalk p n ops H (i :: is) E K := by
  subst hd
  exact ⟨o, v, ho, .inl ⟨hg, hs⟩, h⟩
theorem dw_sk {is : List Nat} {i : Nat} {d : Option Nat} {K : Env → Prop} (ho : ops[i]? = some o) (hg : yld n ops E o = false) (hd : o.dst = d)
    (h : DWalk p n ops H is (E.put d undef) K) : DWalk p n ops H (i :: is) E K := by
  subst hd
  exact ⟨o, undef, ho, .inr ⟨hg, rfl⟩, h⟩
theorem dw_nil {K : Env → Prop} (h : K E) : DWalk p n ops H [] E K := h
structure Zero (p : Program) (t : TypeId) (cs : List Value) : Prop where
  out : ∃ z, (p.info? t).map (·.zero) = some (some z) ∧ z.cells = cs.toArray
theorem ac_draw0 {id : Nat} (fx ta : List Nat) (tl : List Oper) (hok : drawOk ops fx [] ta = true) (hm : p.follows .mixedOrders = true) (htl : (ta.map fun i => (ops[i]?).getD default) = tl)
    (h : DWalk p n ops H fx E fun E => AR p n ops Q tl E H) : AC p n (.region id ops true) Q E H := by
  subst htl
  exact ac_draw fx ta [] hok hm (by simp) (by simpa [putAll] using h)
theorem dwalk_mono {K K' : Env → Prop} (hk : ∀ E, K E → K' E) : ∀ (is : List Nat) (E : Env), DWalk p n ops H is E K → DWalk p n ops H is E K' := by
  intro is
  induction is with
  | nil => intro E h; exact hk _ h
  | cons i is ih => rintro E ⟨o, v, ho, hs, h⟩; exact ⟨o, v, ho, hs, ih _ h⟩
theorem ac_draw1 {id : Nat} (fx ta : List Nat) (i d t : Nat) (cs : List Value) (tl : List Oper) (hok : drawOk ops fx [i] ta = true) (hm : p.follows .mixedOrders = true) (htl : (ta.map fun i => (ops[i]?).getD default) = tl)
    (hz : Zero p t cs) (hi : ∃ o, ops[i]? = some o ∧ o.op = .alloc t ∧ o.guard = none ∧ o.dst = some d)
    (h : DWalk p n ops H fx E fun E => ∀ g, AR p n ops Q tl (E.put (some d) (.pointer (some ⟨g, 0, none⟩))) (⟨g, cs, t, false⟩ :: H)) : AC p n (.region id ops true) Q E H := by
  subst htl
  obtain ⟨o, ho, h1, h2, h3⟩ := hi
  obtain ⟨z, hz1, hz2⟩ := hz.out
  refine ac_draw fx ta [⟨i, t, cs⟩] hok hm (fun x hx => by obtain rfl := List.mem_singleton.1 hx; exact ⟨o, z, ho, h1, h2, hz1, hz2⟩) ?_
  refine dwalk_mono ?_ _ _ h
  intro E hE gs
  have := hE (gs i)
  simpa [putAll, dstOf, ho, h3, ptr] using this
theorem st_new {t : TypeId} {cs : List Value} (hz : Zero p t cs) (ho : o.op = .alloc t) (k : ∀ g, K (.pointer (some ⟨g, 0, none⟩)) (⟨g, cs, t, false⟩ :: H)) : Step p ρ o H K := by
  obtain ⟨z, h1, h2⟩ := hz.out
  exact st_alloc ho h1 h2 k
structure IsAgg (p : Program) (t : TypeId) (n : Nat) : Prop where
  out : ∃ d, p.underlying t = some d ∧ aggD d = true ∧ (p.info? t).map (·.size) = some n
structure IsCell (p : Program) (t : TypeId) : Prop where
  out : ∃ d, p.underlying t = some d ∧ aggD d = false ∧ (p.info? t).map (·.size) = some 1
theorem st_lda {t : TypeId} {x : Operand} {g off : Nat} {b : Box} {vs : List Value} {m : Nat} (ha : IsAgg p t m) (i : Nat) (ho : o.op = .load t x) (hx : ρ x = .pointer (some ⟨g, off, none⟩)) (hm : H[i]? = some b) (hg : b.g = g)
    (hn : vs.length = m) (hv : (b.cs.drop off).take m = vs) (k : K (.agg vs.toArray) H) : Step p ρ o H K := by
  obtain ⟨d, h1, h2, h3⟩ := ha.out
  exact st_load_agg i ho hx hm hg h1 h2 (by rw [h3, hn]) (by rw [hn, hv]) k
theorem st_ldc {t : TypeId} {x : Operand} {g off : Nat} {b : Box} {v : Value} (ha : IsCell p t) (i : Nat) (ho : o.op = .load t x) (hx : ρ x = .pointer (some ⟨g, off, none⟩)) (hm : H[i]? = some b) (hg : b.g = g)
    (hv : b.cs[off]? = some v) (k : K v H) : Step p ρ o H K := by
  obtain ⟨d, h1, h2, _⟩ := ha.out
  exact st_load i ho hx hm hg h1 h2 hv k
theorem st_sta {t : TypeId} {x y : Operand} {g off : Nat} {b : Box} {us cs : List Value} {m : Nat} (ha : IsAgg p t m) (i : Nat) (ho : o.op = .store t x y) (hx : ρ x = .pointer (some ⟨g, off, none⟩)) (hy : ρ y = .agg us.toArray) (hm : H[i]? = some b) (hg : b.g = g)
    (hn : us.length = m) (hle : Nat.ble (off + m) b.cs.length = true) (h1 : us.all (·.oneCell') = true) (hcs : b.cs.take off ++ us ++ b.cs.drop (off + m) = cs) (k : K undef (upd H i cs)) (hro : b.ro = false := by rfl) : Step p ρ o H K := by
  obtain ⟨d, _, _, h3⟩ := ha.out
  subst hn
  exact st_store i ho hx hy rfl hm hg h3 hle h1 hcs k hro
theorem st_stc {t : TypeId} {x y : Operand} {g off : Nat} {b : Box} {u : Value} {cs : List Value} (ha : IsCell p t) (i : Nat) (ho : o.op = .store t x y) (hx : ρ x = .pointer (some ⟨g, off, none⟩)) (hy : ρ y = u) (hu : u.cells = #[u]) (hm : H[i]? = some b) (hg : b.g = g)
    (hle : Nat.ble (off + 1) b.cs.length = true) (h1 : u.oneCell' = true) (hcs : b.cs.take off ++ [u] ++ b.cs.drop (off + 1) = cs) (k : K undef (upd H i cs)) (hro : b.ro = false := by rfl) : Step p ρ o H K := by
  obtain ⟨d, _, _, h3⟩ := ha.out
  exact st_store (us := [u]) i ho hx hy (by rw [hu]) hm hg h3 hle (by simp [h1]) hcs k hro
structure Runs (p : Program) (s : Sem Value) (v : Value) : Prop where
  out : ∀ w, s.run p w = .ok v w
theorem st_run {s : Sem Value} {v : Value} (he : execOp ρ o = (do pure (.value (← s)))) (hr : Runs p s v) (k : K v H) : Step p ρ o H K :=
  st_val (fun w => by rw [he]; simp [Sem.run_bind, hr.out w]) k
theorem st_fa {t f : Nat} {x : Operand} {g off j : Nat} (ho : o.op = .fieldAddr t x f) (hr : ∀ a, Runs p (Instr.fieldAt t (.pointer (some a)) f) (.pointer (some (a.add j)))) (hx : ρ x = .pointer (some ⟨g, off, none⟩)) (k : K (.pointer (some ⟨g, off + j, none⟩)) H) : Step p ρ o H K :=
  st_run (s := Instr.fieldAt t (.pointer (some ⟨g, off, none⟩)) f) (by rw [execOp, ho]; simp only [hx]) (by have := hr ⟨g, off, none⟩; rw [add_at] at this; exact this) k
theorem st_ix {t : Nat} {x y : Operand} {u i v : Value} (ho : o.op = .index t x y) (hx : ρ x = u) (hy : ρ y = i) (hr : Runs p (Instr.index t u i) v) (k : K v H) : Step p ρ o H K :=
  st_run (s := Instr.index t u i) (by rw [execOp, ho]; simp only [hx, hy]) hr k
theorem st_ia {t : Nat} {x y : Operand} {u i v : Value} (ho : o.op = .indexAddr t x y) (hx : ρ x = u) (hy : ρ y = i) (hr : Runs p (Instr.indexAt t u i) v) (k : K v H) : Step p ρ o H K :=
  st_run (s := Instr.indexAt t u i) (by rw [execOp, ho]; simp only [hx, hy]) hr k
theorem st_bd {t : Nat} {ps : List (Nat × Operand)} {us : List (Nat × Value)} {v : Value} (ho : o.op = .build t ps.toArray) (hx : (ps.map fun x => (x.1, ρ x.2)) = us) (hr : Runs p (Instr.build t us.toArray) v) (k : K v H) : Step p ρ o H K :=
  st_run (s := Instr.build t us.toArray) (by rw [execOp, ho]; simp only [List.map_toArray]; rw [← hx]) hr k
theorem st_ex {x : Operand} {i : Nat} {vs : List Value} {v : Value} (ho : o.op = .extract x i) (hx : ρ x = .tuple vs.toArray) (hi : vs[i]? = some v) (k : K v H) : Step p ρ o H K :=
  st_run (s := Instr.extract (.tuple vs.toArray) i) (by rw [execOp, ho]; simp only [hx]) ⟨fun w => by simp [Instr.extract, hi]⟩ k
theorem st_cv_int {t u : Nat} {x : Operand} {k : IntKind} {a c : Int} (hu : p.underlying u = some (.int k)) (ht : p.underlying t = some (.int .i64)) (ho : o.op = .convert t u x) (hx : ρ x = .int .i64 a) (h : k.wrap a = c) (kk : K (.int k c) H) : Step p ρ o H K :=
  st_run (s := convert t u (.int .i64 a)) (by rw [execOp, ho]; simp only [hx]) ⟨fun w => by simp [convert, Sem.run_bind, run_underlying hu w, run_underlying ht w, Conv.intToInt, h]⟩ kk
theorem st_un {op : UnOp} {t : Nat} {x : Operand} {u v : Value} (ho : o.op = .unOp op t x) (hx : ρ x = u) (hr : Runs p (Op.unary op u) v) (k : K v H) : Step p ρ o H K :=
  st_run (s := Op.unary op u) (by rw [execOp, ho]; simp only [hx]) hr k
theorem st_pkt {c x y : Operand} {v : Value} (ho : o.op = .pick c x y) (hc : ρ c = .bool true) (hx : ρ x = v) (k : K v H) : Step p ρ o H K := st_pick ho hc hx rfl rfl k
theorem st_pkf {c x y : Operand} {v : Value} (ho : o.op = .pick c x y) (hc : ρ c = .bool false) (hx : ρ y = v) (k : K v H) : Step p ρ o H K := st_pick ho hc rfl hx rfl k
theorem st_pkt' {c x y : Operand} {b : Bool} {v : Value} (hb : b = true) (ho : o.op = .pick c x y) (hc : ρ c = .bool b) (hx : ρ x = v) (k : K v H) : Step p ρ o H K := st_pkt ho (hb ▸ hc) hx k
theorem st_pkf' {c x y : Operand} {b : Bool} {v : Value} (hb : b = false) (ho : o.op = .pick c x y) (hc : ρ c = .bool b) (hx : ρ y = v) (k : K v H) : Step p ρ o H K := st_pkf ho (hb ▸ hc) hx k
theorem ac_then' {c : Operand} {x y : Code} {b : Bool} (hb : b = true) (hc : ev n E c = .bool b) (h : AC p n x Q E H) : AC p n (.cond c x y) Q E H := ac_then (hb ▸ hc) h
theorem ac_else' {c : Operand} {x y : Code} {b : Bool} (hb : b = false) (hc : ev n E c = .bool b) (h : AC p n y Q E H) : AC p n (.cond c x y) Q E H := ac_else (hb ▸ hc) h
theorem st_bi {op : BinOp} {t y' : Nat} {x y : Operand} {u v r : Value} (ho : o.op = .binOp op t x y y') (hx : ρ x = u) (hy : ρ y = v) (hr : ∀ x y : Operand, Runs p (do eqGuard op t x y u v; binOp op t u v) r) (k : K r H) : Step p ρ o H K :=
  st_run (s := do eqGuard op t x y u v; binOp op t u v) (by rw [execOp, ho]; simp only [hx, hy]) (hr x y) k
theorem un_not {b c : Bool} (h : (!b) = c) : Runs p (Op.unary .not (.bool b)) (.bool c) := ⟨fun w => by rw [← h]; rfl⟩
theorem un_neg {a c : Int} (h : w64 (0 - a) = c) : Runs p (Op.unary .neg (.int .i64 a)) (.int .i64 c) := ⟨fun w => by rw [← h]; rfl⟩
section
variable {t : Nat} {a b c : Int} {d : Bool}
theorem bi_add (h : w64 (a + b) = c) (x y : Operand) : Runs p (do eqGuard .add t x y (.int .i64 a) (.int .i64 b); binOp .add t (.int .i64 a) (.int .i64 b)) (.int .i64 c) := ⟨fun w => by rw [← h]; rfl⟩
theorem bi_sub (h : w64 (a - b) = c) (x y : Operand) : Runs p (do eqGuard .sub t x y (.int .i64 a) (.int .i64 b); binOp .sub t (.int .i64 a) (.int .i64 b)) (.int .i64 c) := ⟨fun w => by rw [← h]; rfl⟩
theorem bi_mul (h : w64 (a * b) = c) (x y : Operand) : Runs p (do eqGuard .mul t x y (.int .i64 a) (.int .i64 b); binOp .mul t (.int .i64 a) (.int .i64 b)) (.int .i64 c) := ⟨fun w => by rw [← h]; rfl⟩
theorem bi_quo (hb : b ≠ 0) (h : w64 (a.tdiv b) = c) (x y : Operand) : Runs p (do eqGuard .quo t x y (.int .i64 a) (.int .i64 b); binOp .quo t (.int .i64 a) (.int .i64 b)) (.int .i64 c) := ⟨fun w => by rw [← h]; simp [eqGuard, binOp, Op.intDiv, hb]⟩
theorem bi_rem (hb : b ≠ 0) (h : a.tmod b = c) (x y : Operand) : Runs p (do eqGuard .rem t x y (.int .i64 a) (.int .i64 b); binOp .rem t (.int .i64 a) (.int .i64 b)) (.int .i64 c) := ⟨fun w => by rw [← h]; simp [eqGuard, binOp, Op.intDiv, hb]⟩
theorem bi_lss (h : decide (a < b) = d) (x y : Operand) : Runs p (do eqGuard .lss t x y (.int .i64 a) (.int .i64 b); binOp .lss t (.int .i64 a) (.int .i64 b)) (.bool d) := ⟨fun w => by rw [← h]; rfl⟩
theorem bi_leq (h : decide (a ≤ b) = d) (x y : Operand) : Runs p (do eqGuard .leq t x y (.int .i64 a) (.int .i64 b); binOp .leq t (.int .i64 a) (.int .i64 b)) (.bool d) := ⟨fun w => by rw [← h]; rfl⟩
theorem bi_gtr (h : decide (a > b) = d) (x y : Operand) : Runs p (do eqGuard .gtr t x y (.int .i64 a) (.int .i64 b); binOp .gtr t (.int .i64 a) (.int .i64 b)) (.bool d) := ⟨fun w => by rw [← h]; rfl⟩
theorem bi_geq (h : decide (a ≥ b) = d) (x y : Operand) : Runs p (do eqGuard .geq t x y (.int .i64 a) (.int .i64 b); binOp .geq t (.int .i64 a) (.int .i64 b)) (.bool d) := ⟨fun w => by rw [← h]; rfl⟩
theorem bi_shl {k : IntKind} {m : Int} (hm : IntKind.i64.wrap (a * 2 ^ (min (Int.toNat b) 64)) = m) (hb : ¬ b < 0) (x y : Operand) : Runs p (do eqGuard .shl t x y (.int .i64 a) (.int k b); binOp .shl t (.int .i64 a) (.int k b)) (.int .i64 m) := ⟨fun w => by rw [← hm]; simp [eqGuard, binOp, Op.shift, hb, IntKind.bits]⟩
theorem bi_or (h : w64 ((BitVec.ofInt 64 a ||| BitVec.ofInt 64 b).toNat : Int) = c) (x y : Operand) : Runs p (do eqGuard .or t x y (.int .i64 a) (.int .i64 b); binOp .or t (.int .i64 a) (.int .i64 b)) (.int .i64 c) := ⟨fun w => by rw [← h]; rfl⟩
theorem bi_eql (h : (a == b) = d) (x y : Operand) : Runs p (do eqGuard .eql t x y (.int .i64 a) (.int .i64 b); binOp .eql t (.int .i64 a) (.int .i64 b)) (.bool d) := ⟨fun w => by rw [← h]; rfl⟩
theorem bi_neq (h : (a != b) = d) (x y : Operand) : Runs p (do eqGuard .neq t x y (.int .i64 a) (.int .i64 b); binOp .neq t (.int .i64 a) (.int .i64 b)) (.bool d) := ⟨fun w => by rw [← h]; rfl⟩
end
theorem run_fa {t f : Nat} {fs : Array Field} {fd : Field} {m off : Nat} (hu : p.underlying t = some (.struct fs)) (hf : fs[f]? = some fd) (ho : fd.offset = off) (hi : (p.info? fd.type).map (·.size) = some m) (hm : m ≠ 0) (a : Addr) : Runs p (Instr.fieldAt t (.pointer (some a)) f) (.pointer (some (a.add off))) := ⟨fun w => by
  subst ho
  cases hq : p.info? fd.type with
  | none => simp [hq] at hi
  | some inf =>
    have hs : inf.size = m := by simpa [hq] using hi
    simp [Instr.fieldAt, Sem.run_bind, run_underlying hu w, hf, Instr.sureAddr, fieldPlace, sizeOf, typeInfo, hq, hs, hm]⟩
theorem run_ia {t n e i m : Nat} (hu : p.underlying t = some (.array n e)) (hi : (p.info? e).map (·.size) = some m) {j : Nat} (hj : i * m = j) (g off : Nat) (hlt : i < n) (h0 : (0 : Int) ≤ i) : Runs p (Instr.indexAt t (.pointer (some ⟨g, off, none⟩)) (.int .i64 i)) (.pointer (some ⟨g, off + j, none⟩)) := ⟨fun w => by
  cases hq : p.info? e with
  | none => simp [hq] at hi
  | some inf =>
    have hs : inf.size = m := by simpa [hq] using hi
    have hadd := add_at g off j
    simp [Instr.indexAt, Sem.run_bind, run_underlying hu w, Instr.sureAddr, asIntOf, sizeOf, typeInfo, hq, hs, hlt, hj, hadd]⟩
section
variable {d off m : Nat} {xs ys : List Value} {f : Field} {fs : List Field} {a b : Value} {r s : Bool} {w : World}
theorem part_c {t : Nat} {v : Value} (h : IsCell p t) (hv : xs[off]? = some v) : (part t xs.toArray off).run p w = .ok v w := by
  obtain ⟨d, h1, h2, _⟩ := h.out
  have hagg : (isAgg t).run p w = .ok false w := by
    unfold isAgg
    rw [Sem.run_bind, run_underlying h1 w]
    cases d <;> simp_all [aggD]
  simp [part, Sem.run_bind, hagg, hv]
theorem run_ixc {t n e i : Nat} {v : Value} (hu : p.underlying t = some (.array n e)) (hc : IsCell p e) (hlt : i < n) (h0 : (0 : Int) ≤ i) (hv : xs[i]? = some v) : Runs p (Instr.index t (.agg xs.toArray) (.int .i64 i)) v := ⟨fun w => by
  have hp := part_c (w := w) (off := i) hc hv
  obtain ⟨d, h1, h2, h3⟩ := hc.out
  cases hq : p.info? e with
  | none => simp [hq] at h3
  | some inf =>
    have hs : inf.size = 1 := by simpa [hq] using h3
    simp [Instr.index, asIntOf, Sem.run_bind, run_underlying hu w, hlt, sizeOf, typeInfo, hq, hs, hp]⟩
theorem eqf_c (hn : (f.name == "_") = false) (ha : (part f.type xs.toArray f.offset).run p w = .ok a w) (hb : (part f.type ys.toArray f.offset).run p w = .ok b w) (he : (Op.equalIn d f.type a b).run p w = .ok r w) (hr : (Op.eqFields d xs.toArray ys.toArray fs).run p w = .ok s w) : (Op.eqFields d xs.toArray ys.toArray (f :: fs)).run p w = .ok (r && s) w := by
  have hn' : f.name ≠ "_" := by simpa using hn
  rw [Op.eqFields]
  simp only [if_pos hn', Sem.run_bind, ha, hb, he, Result.andThen_ok]
  cases r
  · simp
  · simpa using hr
theorem eqf_n : (Op.eqFields d xs.toArray ys.toArray []).run p w = .ok true w := by simp [Op.eqFields]
theorem eqf_s {t : TypeId} {fs : List Field} (hu : p.underlying t = some (.struct fs.toArray)) (hp : p.stoodInHeld t = false) (h : (Op.eqFields d xs.toArray ys.toArray fs).run p w = .ok r w) : (Op.equalIn (d + 1) t (.agg xs.toArray) (.agg ys.toArray)).run p w = .ok r w := by
  have hf : p.fieldsOf t = fs.toArray := by simp [Program.fieldsOf, hu]
  rw [run_equalIn_struct (P := p) w d t xs.toArray ys.toArray (by rw [hf]; exact hu) hp, hf]
  exact h
theorem bs_eql {t : Nat} {xs ys : Array Value} {c d : Bool} (hg : p.eqGuardType p.depth t = false) (he : ∀ w, (Op.equalIn 10000 t (.agg xs) (.agg ys)).run p w = .ok c w) (h : c = d) (x y : Operand) : Runs p (do eqGuard .eql t x y (.agg xs) (.agg ys); binOp .eql t (.agg xs) (.agg ys)) (.bool d) := ⟨fun w => by
  rw [← h, Sem.run_bind, run_eqGuard_agg w .eql t x y xs ys hg]
  simp only [Result.andThen_ok]
  rw [run_eql_struct, he w]
  rfl⟩
theorem bs_neq {t : Nat} {xs ys : Array Value} {c d : Bool} (hg : p.eqGuardType p.depth t = false) (he : ∀ w, (Op.equalIn 10000 t (.agg xs) (.agg ys)).run p w = .ok c w) (h : (!c) = d) (x y : Operand) : Runs p (do eqGuard .neq t x y (.agg xs) (.agg ys); binOp .neq t (.agg xs) (.agg ys)) (.bool d) := ⟨fun w => by
  rw [← h, Sem.run_bind, run_eqGuard_agg w .neq t x y xs ys hg]
  simp only [Result.andThen_ok]
  rw [run_neq_struct, he w]
  rfl⟩
end
theorem st_cf {f : FuncId} {args : List Operand} {ts : Array TypeId} {vs : List Value} {r : Value} {fn : Func} {c : Code} (h : Gets p f vs.toArray r) (hfn : p.funcs[f]? = some fn) (hb : fn.body = some c) (hnm : (fn.name == "runtime.NumGoroutine") = false)
    (ho : o.op = .call { callee := .value (.func f), args := args.toArray, argTypes := ts }) (hf : ρ (.func f) = .func (.func f) #[] #[]) (hv : args.map ρ = vs) (k : K r H) : Step p ρ o H K := st_call ho hf hv hfn hb hnm h k
theorem eT.{u} {α : Sort u} {c : Bool} {a b x : α} (h : c = true) (k : a = x) : cond c a b = x := by rw [h]; exact k
theorem eF.{u} {α : Sort u} {c : Bool} {a b x : α} (h : c = false) (k : b = x) : cond c a b = x := by rw [h]; exact k
theorem ne_of_beq0 {a : Int} (h : (a == 0) = false) : a ≠ 0 := by
  intro e
  rw [e] at h
  cases h
theorem st_cv {f : FuncId} {x : Operand} {args : List Operand} {ts : Array TypeId} {vs : List Value} {r : Value} {fn : Func} {c : Code} (h : Gets p f vs.toArray r) (hfn : p.funcs[f]? = some fn) (hb : fn.body = some c) (hnm : (fn.name == "runtime.NumGoroutine") = false)
    (ho : o.op = .call { callee := .value x, args := args.toArray, argTypes := ts }) (hf : ρ x = .func (.func f) #[] #[]) (hv : args.map ρ = vs) (k : K r H) : Step p ρ o H K := by
  intro F β w hO hB
  have e : (execOp ρ o).run p w = .ok (.enter f vs.toArray) w := by
    rw [execOp, ho]
    simp only [resolve, hf, Deferred.ofValue, List.map_toArray, hv]
    have hnm' : ¬ fn.name = "runtime.NumGoroutine" := by simpa using hnm
    simp [Sem.run_bind, invoke, callFunc, hfn, hnm', hb]
  rw [e]
  exact (h w).mono fun e w' ⟨he, hb'⟩ => ⟨r, H, he, k, hO.below hb', hB.trans hb'⟩
theorem st_mn {ts : Array TypeId} {args : List Operand} {x y c : Int} (ho : o.op = .call { callee := .builtin .min, args := args.toArray, argTypes := ts }) (hv : args.map ρ = [.int .i64 x, .int .i64 y]) (h : min x y = c) (k : K (.int .i64 c) H) : Step p ρ o H K := by
  refine st_val (fun w => ?_) k
  rw [execOp, ho, ← h]
  simp only [resolve, List.map_toArray, hv]
  have e : (if y < x then y else x) = min x y := by rw [Int.min_def]; split <;> split <;> omega
  simp [invoke, builtin, Builtin.min_, Builtin.min2, Sem.run_bind, e]
theorem st_mx {ts : Array TypeId} {args : List Operand} {x y c : Int} (ho : o.op = .call { callee := .builtin .max, args := args.toArray, argTypes := ts }) (hv : args.map ρ = [.int .i64 x, .int .i64 y]) (h : max x y = c) (k : K (.int .i64 c) H) : Step p ρ o H K := by
  refine st_val (fun w => ?_) k
  rw [execOp, ho, ← h]
  simp only [resolve, List.map_toArray, hv]
  have e : (if x < y then y else x) = max x y := by rw [Int.max_def]; split <;> split <;> omega
  simp [invoke, builtin, Builtin.max_, Builtin.max2, Sem.run_bind, e]
theorem st_mx3 {ts : Array TypeId} {args : List Operand} {x y z c : Int} (ho : o.op = .call { callee := .builtin .max, args := args.toArray, argTypes := ts }) (hv : args.map ρ = [.int .i64 x, .int .i64 y, .int .i64 z]) (h : max (max x y) z = c) (k : K (.int .i64 c) H) : Step p ρ o H K := by
  refine st_val (fun w => ?_) k
  rw [execOp, ho, ← h]
  simp only [resolve, List.map_toArray, hv]
  have e : ∀ x y : Int, (if x < y then y else x) = max x y := fun x y => by rw [Int.max_def]; split <;> split <;> omega
  simp [invoke, builtin, Builtin.max_, Builtin.max2, Sem.run_bind, e]
theorem st_mx4 {ts : Array TypeId} {args : List Operand} {x y z u c : Int} (ho : o.op = .call { callee := .builtin .max, args := args.toArray, argTypes := ts }) (hv : args.map ρ = [.int .i64 x, .int .i64 y, .int .i64 z, .int .i64 u]) (h : max (max (max x y) z) u = c) (k : K (.int .i64 c) H) : Step p ρ o H K := by
  refine st_val (fun w => ?_) k
  rw [execOp, ho, ← h]
  simp only [resolve, List.map_toArray, hv]
  have e : ∀ x y : Int, (if x < y then y else x) = max x y := fun x y => by rw [Int.max_def]; split <;> split <;> omega
  simp [invoke, builtin, Builtin.max_, Builtin.max2, Sem.run_bind, e]
def Fin (p : Program) (fn : Func) (n : Nat) (v : Value) : Exit → Env → List Box → Prop := fun e E H => (e = .ret ∨ e = .normal) ∧ Res p fn n E H v
theorem gets_fin {f : FuncId} {fn : Func} {c : Code} {args : Array Value} {v : Value} {n : Nat} (hf : p.funcs[f]? = some fn) (hb : fn.body = some c) (hn : fn.ntmps = n) (ha : Nat.ble args.size n = true)
    (h : AC p n c (Fin p fn n v) (envOf args) []) : Gets p f args v := gets_of hf hb hn ha h
theorem bool_split {G : Prop} (c : Bool) (ht : c = true → G) (hf : c = false → G) : G := by
  cases hc : c
  · exact hf hc
  · exact ht hc
theorem fin_eq {fn : Func} {v v' : Value} {e : Exit} (hv : v = v') (h : Fin p fn n v e E H) : Fin p fn n v' e E H := hv ▸ h
theorem fin_ret {fn : Func} {v : Value} (h : Res p fn n E H v) : Fin p fn n v .ret E H := ⟨.inl rfl, h⟩
theorem res_c {fn : Func} {t ty : Nat} {b : Box} {g : Nat} {vs : List Value} {m : Nat} (ha : IsAgg p ty m) (i : Nat) (h : fn.results = #[.cell t ty]) (hv : ev n E (.tmp t) = .pointer (some ⟨g, 0, none⟩)) (hm : H[i]? = some b) (hg : b.g = g) (hn : b.cs.length = m) (hb : b.cs = vs) : Res p fn n E H (.agg vs.toArray) := by
  obtain ⟨d, h1, h2, h3⟩ := ha.out
  subst hb
  exact res_cell i h hv hm hg h1 h2 (by rw [h3, hn]) rfl
theorem res_tt {fn : Func} {t u : Nat} {x y : Value} (h : fn.results = #[.tmp t, .tmp u]) (hx : ev n E (.tmp t) = x) (hy : ev n E (.tmp u) = y) : Res p fn n E H (.tuple #[x, y]) := by
  intro β w a hO hs
  rw [results_tmp2 h, ← hx, ← hy, ← hs.eval]
  rfl
theorem own_load {β : Base} {w : World} (hO : Own β H w) {ty : Nat} {b : Box} {m : Nat} (ha : IsAgg p ty m) (i : Nat) (hm : H[i]? = some b) (hn : b.cs.length = m) : (loadVar ty ⟨b.g, 0, none⟩).run p w = .ok (.agg b.cs.toArray) w := by
  obtain ⟨d, h1, h2, h3⟩ := ha.out
  obtain ⟨fr, _, hh⟩ := (hO.at_ b (List.mem_of_getElem? hm)).2
  exact run_loadVar_row w b.g b.t ty b.cs.toArray fr d hh h1 (by cases d <;> first | rfl | cases h2) (by rw [h3]; simp [hn])
theorem see_ptr {a : Act} (hs : Sees n E a) {t g : Nat} (hv : ev n E (.tmp t) = .pointer (some ⟨g, 0, none⟩)) : (a.tmps[t]?).getD undef = .pointer (some ⟨g, 0, none⟩) := by
  rw [← hv, ← hs.eval]
  simp [Act.eval]
theorem see_tmp {a : Act} (hs : Sees n E a) {t : Nat} {v : Value} (hv : ev n E (.tmp t) = v) : (a.tmps[t]?).getD undef = v := by
  rw [← hv, ← hs.eval]
  simp [Act.eval]
theorem res_ct {fn : Func} {t ty u : Nat} {b : Box} {g : Nat} {vs : List Value} {m : Nat} {y : Value} (ha : IsAgg p ty m) (i : Nat) (h : fn.results = #[.cell t ty, .tmp u]) (hv : ev n E (.tmp t) = .pointer (some ⟨g, 0, none⟩)) (hm : H[i]? = some b) (hg : b.g = g) (hn : b.cs.length = m) (hb : b.cs = vs)
    (hy : ev n E (.tmp u) = y) : Res p fn n E H (.tuple #[.agg vs.toArray, y]) := by
  intro β w a hO hs
  subst hb hg
  simp [results, h, see_ptr hs hv, see_tmp hs hy, asAddr, own_load hO ha i hm hn, Sem.run_bind]
theorem res_cc {fn : Func} {t ty u uy : Nat} {b b' : Box} {g g' : Nat} {vs us : List Value} {m m' : Nat} (ha : IsAgg p ty m) (ha' : IsAgg p uy m') (i j : Nat) (h : fn.results = #[.cell t ty, .cell u uy]) (hv : ev n E (.tmp t) = .pointer (some ⟨g, 0, none⟩)) (hm : H[i]? = some b) (hg : b.g = g) (hn : b.cs.length = m) (hb : b.cs = vs)
    (hv' : ev n E (.tmp u) = .pointer (some ⟨g', 0, none⟩)) (hm' : H[j]? = some b') (hg' : b'.g = g') (hn' : b'.cs.length = m') (hb' : b'.cs = us) : Res p fn n E H (.tuple #[.agg vs.toArray, .agg us.toArray]) := by
  intro β w a hO hs
  subst hb hg hb' hg'
  simp [results, h, see_ptr hs hv, see_ptr hs hv', asAddr, own_load hO ha i hm hn, own_load hO ha' j hm' hn', Sem.run_bind]
end
theorem bb_neq {p : Program} {t : Nat} {a b d : Bool} (hu : p.underlying t = some .bool) (h : (a != b) = d) (x y : Operand) : Runs p (do eqGuard .neq t x y (.bool a) (.bool b); binOp .neq t (.bool a) (.bool b)) (.bool d) := ⟨fun w => by
  rw [← h]
  have e : (Op.equal t (.bool a) (.bool b)).run p w = .ok (a == b) w := run_equalIn_bool w 9999 t a b hu
  simp [eqGuard, binOp, Sem.run_bind, e, bne]⟩
theorem put_self {E : Env} {d : Nat} {v : Value} (h : E d = v) : E.put (some d) v = E := by
  funext t
  rw [put_apply]
  by_cases e : d = t
  · rw [if_pos (by rw [e]), ← h, e]
  · rw [if_neg (by simpa using e)]
theorem env3 {E : Env} {a b c : Nat} {va vb vc : Value} (ha : E a = va) (hb : E b = vb) (hc : E c = vc) : ∃ E0 : Env, E = ((E0.put (some a) va).put (some b) vb).put (some c) vc := ⟨E, by rw [put_self ha, put_self hb, put_self hc]⟩
theorem env4 {E : Env} {a b c d : Nat} {va vb vc vd : Value} (ha : E a = va) (hb : E b = vb) (hc : E c = vc) (hd : E d = vd) : ∃ E0 : Env, E = (((E0.put (some a) va).put (some b) vb).put (some c) vc).put (some d) vd := ⟨E, by rw [put_self ha, put_self hb, put_self hc, put_self hd]⟩
theorem ac_mergeE {p : Program} {n : Nat} {c : Operand} {x : Code} {b : Bool} {Q : Exit → Env → List Box → Prop} {E : Env} {H : List Box} (E1 Em : Env → Env) (hc : ev n E c = .bool b)
    (h1 : b = true → AC p n x (fun e E' H' => e = .normal ∧ E' = E1 E ∧ H' = H) E H) (e1 : b = true → Em E = E1 E) (e2 : b = false → Em E = E) (h : Q .normal (Em E) H) : AC p n (.cond c x .skip) Q E H := by
  refine ac_cond hc (fun hb => ?_) (fun hb => ?_)
  · refine AC.mono (h1 hb) ?_
    rintro e E' H' ⟨rfl, rfl, rfl⟩
    rw [← e1 hb]
    exact h
  · refine ac_skip ?_
    rw [← e2 hb]
    exact h
def loopOf : Code → Option Code
  | .loop c => some c
  | .seq a b => match loopOf a with | some c => some c | none => loopOf b
  | .cond _ a b => match loopOf a with | some c => some c | none => loopOf b
  | .block _ a => loopOf a
  | .scope a => loopOf a
  | _ => none
def orI (a b : Int) : Int := w64 ((BitVec.ofInt 64 a ||| BitVec.ofInt 64 b).toNat : Int)
theorem w64_id {n : Int} (h : -9223372036854775808 ≤ n ∧ n ≤ 9223372036854775807) : w64 n = n := IntWalk.i64_in n h
end Go.Proofs.Ythngkopcadlciaa
namespace Go.Proofs.Ythngkopcadlciaa
open Go.RowKit
structure Iv where
  lo : Int
  hi : Int
  no : Bool
deriving DecidableEq
@[reducible] def Iv.v (a : Iv) : Value := .agg #[.int .i64 a.lo, .int .i64 a.hi, .bool a.no]
structure V where
  x : Iv
  y : Iv
  z : Iv
deriving DecidableEq
structure Surf where
  stop : Bool
  bent : Bool
  curve : Iv
  conic : Iv
  a4 : Iv
  a6 : Iv
  at_ : Iv
  open2 : Iv
  ratio : Iv
@[reducible] def Surf.v (s : Surf) : Value := .agg #[.bool s.stop, .bool s.bent, .int .i64 s.curve.lo, .int .i64 s.curve.hi, .bool s.curve.no, .int .i64 s.conic.lo, .int .i64 s.conic.hi, .bool s.conic.no, .int .i64 s.a4.lo, .int .i64 s.a4.hi, .bool s.a4.no, .int .i64 s.a6.lo, .int .i64 s.a6.hi, .bool s.a6.no, .int .i64 s.at_.lo, .int .i64 s.at_.hi, .bool s.at_.no, .int .i64 s.open2.lo, .int .i64 s.open2.hi, .bool s.open2.no, .int .i64 s.ratio.lo, .int .i64 s.ratio.hi, .bool s.ratio.no]
structure A6 where
  a0 : Int
  a1 : Int
  a2 : Int
  a3 : Int
  a4 : Int
  a5 : Int
theorem follows : Try.prog.follows .mixedOrders = true := by kernel_rfl
theorem iv_eq (a b : Iv) : decide (a = b) = ((a.lo == b.lo) && ((a.hi == b.hi) && (a.no == b.no))) := by
  obtain ⟨x, y, z⟩ := a
  obtain ⟨u, v, q⟩ := b
  rw [Bool.eq_iff_iff]
  simp [Iv.mk.injEq]
theorem cell_int : IsCell Try.prog 3 := ⟨⟨_, Try.underlying3, rfl, by kernel_rfl⟩⟩
theorem cell_bool : IsCell Try.prog 4 := ⟨⟨_, Try.underlying4, rfl, by kernel_rfl⟩⟩
theorem stood_iv : Try.prog.stoodInHeld 26 = false := by kernel_rfl
theorem eqr_iv (a b : Iv) (d : Nat) (w : World) : (Op.equalIn (d + 2) 26 a.v b.v).run Try.prog w = .ok (decide (a = b)) w := by
  rw [iv_eq]
  refine eqf_s (xs := [.int .i64 a.lo, .int .i64 a.hi, .bool a.no]) (ys := [.int .i64 b.lo, .int .i64 b.hi, .bool b.no]) Try.underlying26 stood_iv ?_
  refine eqf_c (by decide) (part_c cell_int rfl) (part_c cell_int rfl) (run_equalIn_int _ _ _ _ _ _ _ Try.underlying3) ?_
  refine eqf_c (by decide) (part_c cell_int rfl) (part_c cell_int rfl) (run_equalIn_int _ _ _ _ _ _ _ Try.underlying3) ?_
  have := eqf_c (p := Try.prog) (d := d + 1) (xs := [.int .i64 a.lo, .int .i64 a.hi, .bool a.no]) (ys := [.int .i64 b.lo, .int .i64 b.hi, .bool b.no]) (w := w) (f := { name := "No", type := 4, offset := 2, embedded := false, tag := "", pkgPath := "", byteOffset := 16 }) (fs := []) (by decide) (part_c cell_bool rfl) (part_c cell_bool rfl) (run_equalIn_bool _ _ _ _ _ Try.underlying4) eqf_n
  rw [Bool.and_true] at this
  exact this
theorem guard_iv : Try.prog.eqGuardType Try.prog.depth 26 = false := by kernel_rfl
theorem beql_26 (a b : Iv) {d : Bool} (h : decide (a = b) = d) (x y : Operand) : Runs Try.prog (do eqGuard .eql 26 x y a.v b.v; binOp .eql 26 a.v b.v) (.bool d) := bs_eql guard_iv (fun w => eqr_iv a b 9998 w) h x y
theorem bneq_26 (a b : Iv) {d : Bool} (h : (!(decide (a = b))) = d) (x y : Operand) : Runs Try.prog (do eqGuard .neq 26 x y a.v b.v; binOp .neq 26 a.v b.v) (.bool d) := bs_neq guard_iv (fun w => eqr_iv a b 9998 w) h x y
end Go.Proofs.Ythngkopcadlciaa
namespace Go.Proofs.Ythngkopcadlciaa
open Go.RowKit
section
variable {p : Program} {n : Nat} {ops : Array Oper} {Q : Exit → Env → List Box → Prop} {l : List Oper} {E : Env} {H : List Box} {o : Oper} {ρ : Operand → Value} {K : Post}
theorem aQ {x y : Code} (h : AC p n x (AThen (AC p n y Q) Q) E H) : AC p n (.seq x y) Q E H := ac_seq h
theorem aL {id : Nat} {l : List Oper} (h : AR p n l.toArray Q l E H) : AC p n (.region id l.toArray false) Q E H := ac_region_lit h
theorem aN (h : Q .normal E H) : AR p n ops Q [] E H := ar_nil h
theorem aM {x : Operand} {ty : TypeId} {ps : String} {af : Array Edge} (d : Nat) (v : Value) (ho : o = ⟨some d, .move x, ty, ps, af, none⟩) (hx : ev n E x = v) (h : AR p n ops Q l (E.put (some d) v) H) : AR p n ops Q (o :: l) E H := by
  subst ho
  exact ao d rfl rfl (st_move rfl hx h)
theorem aA {x : Operand} {ty : TypeId} {ps : String} {af : Array Edge} (d : Nat) (v : Value) (ho : o = ⟨some d, .assign x, ty, ps, af, none⟩) (hx : ev n E x = v) (h : AR p n ops Q l (E.put (some d) v) H) : AR p n ops Q (o :: l) E H := by
  subst ho
  exact ao d rfl rfl (st_assign rfl hx h)
theorem aB {op : BinOp} {t y' : Nat} {x y : Operand} {u v : Value} {ty : TypeId} {ps : String} {af : Array Edge} (d : Nat) (r : Value) (ho : o = ⟨some d, .binOp op t x y y', ty, ps, af, none⟩) (hx : ev n E x = u) (hy : ev n E y = v)
    (hr : ∀ x y : Operand, Runs p (do eqGuard op t x y u v; binOp op t u v) r) (h : AR p n ops Q l (E.put (some d) r) H) : AR p n ops Q (o :: l) E H := by
  subst ho
  exact ao d rfl rfl (st_bi rfl hx hy hr h)
theorem aC {f : FuncId} {args : List Operand} {ts : Array TypeId} {vs : List Value} {r : Value} {fn : Func} {c : Code} {ty : TypeId} {ps : String} {af : Array Edge} (d : Nat) (g : Gets p f vs.toArray r) (hfn : p.funcs[f]? = some fn) (hb : (fn.body = some c) ∧ (fn.name == "runtime.NumGoroutine") = false)
    (ho : o = ⟨some d, .call { callee := .value (.func f), args := args.toArray, argTypes := ts }, ty, ps, af, none⟩) (hv : args.map (ev n E) = vs) (h : AR p n ops Q l (E.put (some d) r) H) : AR p n ops Q (o :: l) E H := by
  subst ho
  exact ao d rfl rfl (st_cf g hfn hb.1 hb.2 rfl rfl hv h)
theorem aS {t : TypeId} {x y : Operand} {g off : Nat} {cs0 us : List Value} {t0 : Nat} {m : Nat} {ty : TypeId} {ps : String} {af : Array Edge} (cs : List Value) (ha : IsAgg p t m) (i : Nat) (ho : o = ⟨none, .store t x y, ty, ps, af, none⟩) (hx : ev n E x = .pointer (some ⟨g, off, none⟩)) (hy : ev n E y = .agg us.toArray)
    (hm : H[i]? = some ⟨g, cs0, t0, false⟩) (hk : (Nat.beq us.length m && Nat.ble (off + m) cs0.length && us.all (·.oneCell')) = true) (hcs : cs0.take off ++ us ++ cs0.drop (off + m) = cs) (h : AR p n ops Q l E (upd H i cs)) : AR p n ops Q (o :: l) E H := by
  subst ho
  simp only [Bool.and_eq_true] at hk
  exact ar_op (d := none) rfl rfl (st_sta ha i rfl hx hy hm rfl (Nat.eq_of_beq_eq_true hk.1.1) hk.1.2 hk.2 hcs h)
theorem aF {t f : Nat} {x : Operand} {g off j : Nat} {ty : TypeId} {ps : String} {af : Array Edge} (d : Nat) (hr : ∀ a, Runs p (Instr.fieldAt t (.pointer (some a)) f) (.pointer (some (a.add j)))) (ho : o = ⟨some d, .fieldAddr t x f, ty, ps, af, none⟩) (hx : ev n E x = .pointer (some ⟨g, off, none⟩))
    (h : AR p n ops Q l (E.put (some d) (.pointer (some ⟨g, off + j, none⟩))) H) : AR p n ops Q (o :: l) E H := by
  subst ho
  exact ao d rfl rfl (st_fa rfl hr hx h)
theorem aG {t : TypeId} {x : Operand} {g off : Nat} {cs0 : List Value} {t0 : Nat} {ro : Bool} {m : Nat} {ty : TypeId} {ps : String} {af : Array Edge} (d : Nat) (vs : List Value) (ha : IsAgg p t m) (i : Nat) (ho : o = ⟨some d, .load t x, ty, ps, af, none⟩) (hx : ev n E x = .pointer (some ⟨g, off, none⟩)) (hm : H[i]? = some ⟨g, cs0, t0, ro⟩)
    (hn : Nat.beq vs.length m = true) (hv : (cs0.drop off).take m = vs) (h : AR p n ops Q l (E.put (some d) (.agg vs.toArray)) H) : AR p n ops Q (o :: l) E H := by
  subst ho
  exact ao d rfl rfl (st_lda ha i rfl hx hm rfl (Nat.eq_of_beq_eq_true hn) hv h)
theorem aD {t : TypeId} {x : Operand} {g off : Nat} {cs0 : List Value} {t0 : Nat} {ro : Bool} {ty : TypeId} {ps : String} {af : Array Edge} (d : Nat) (v : Value) (ha : IsCell p t) (i : Nat) (ho : o = ⟨some d, .load t x, ty, ps, af, none⟩) (hx : ev n E x = .pointer (some ⟨g, off, none⟩)) (hm : H[i]? = some ⟨g, cs0, t0, ro⟩)
    (hv : cs0[off]? = some v) (h : AR p n ops Q l (E.put (some d) v) H) : AR p n ops Q (o :: l) E H := by
  subst ho
  exact ao d rfl rfl (st_ldc ha i rfl hx hm rfl hv h)
theorem aX {x : Operand} {i : Nat} {vs : List Value} {ty : TypeId} {ps : String} {af : Array Edge} (d : Nat) (v : Value) (ho : o = ⟨some d, .extract x i, ty, ps, af, none⟩) (hx : ev n E x = .tuple vs.toArray) (hi : vs[i]? = some v) (h : AR p n ops Q l (E.put (some d) v) H) : AR p n ops Q (o :: l) E H := by
  subst ho
  exact ao d rfl rfl (st_ex rfl hx hi h)
theorem aK {o : Oper} (d : Nat) (hg : yld n ops E o = false) (hd : o.dst = some d) (h : AR p n ops Q l (E.put (some d) undef) H) : AR p n ops Q (o :: l) E H := ar_sk hg hd h
end
end Go.Proofs.Ythngkopcadlciaa
namespace Go.Proofs.Ythngkopcadlciaa
theorem Own.sub {β : Base} {H H' : List Box} {w : World} (hs : List.Sublist H H') (h : Own β H' w) : Own β H w :=
  ⟨h.size, fun b hb => h.at_ b (hs.subset hb), h.apart.sublist (hs.map Box.g)⟩
theorem ac_drop {p : Program} {n : Nat} {c : Code} {Q : Exit → Env → List Box → Prop} {E : Env} {H H' : List Box} (hs : List.Sublist H H') (h : AC p n c Q E H) : AC p n c Q E H' := by
  intro β w a hO hB hse
  exact h β w a (hO.sub hs) hB hse
section
variable {p : Program} {xs : List Value} {m : Nat}
end
end Go.Proofs.Ythngkopcadlciaa
namespace Go.Proofs.Ythngkopcadlciaa
open Go.RowKit
end Go.Proofs.Ythngkopcadlciaa
namespace Go.Proofs.Ythngkopcadlciaa
open Go.RowKit
def At (R : List Box) (w : World) : Prop := ∀ b ∈ R, ∃ fr, w.heap[b.g]? = some (.cells b.cs.toArray b.t fr)
def Gives (p : Program) (f : FuncId) (args : Array Value) (R : List Box) (K : Post) : Prop :=
  ∀ w, At R w → (R.map Box.g).Nodup → Calls p f args w fun e w' => ∃ v N, e = .returned v ∧ K v N ∧ Own ⟨fun _ => False, w⟩ N w' ∧ (∀ b ∈ N, b.ro = false) ∧ Below w.heap.size w w'
theorem Own.join {β : Base} {H N : List Box} {w w' : World} (h : Own β H w) (hb : Below w.heap.size w w') (hN : Own ⟨fun _ => False, w⟩ N w') (hr : ∀ b ∈ N, b.ro = false) : Own β (N ++ H) w' := by
  have hg : ∀ b ∈ N, w.heap.size ≤ b.g := by
    intro b hb
    have h1 := (hN.at_ b hb).1
    rcases h1 with h1 | h1
    · rw [hr b hb] at h1; cases h1
    · exact h1.elim id False.elim
  refine ⟨Nat.le_trans h.size hb.size, ?_, ?_⟩
  · intro b hm
    rcases List.mem_append.1 hm with hm | hm
    · exact ⟨.inr (.inl (Nat.le_trans h.size (hg b hm))), (hN.at_ b hm).2⟩
    · exact (h.below hb).at_ b hm
  · rw [List.map_append, List.nodup_append]
    refine ⟨hN.apart, h.apart, ?_⟩
    intro x hx y hy e
    obtain ⟨b, hb1, rfl⟩ := List.mem_map.1 hx
    obtain ⟨c, hc1, rfl⟩ := List.mem_map.1 hy
    have h1 := hg b hb1
    have h2 := h.lt hc1
    omega
section
variable {p : Program} {n : Nat} {ops : Array Oper} {Q : Exit → Env → List Box → Prop} {l : List Oper} {E : Env} {H : List Box} {o : Oper} {ρ : Operand → Value} {K : Post}
def Has (H R : List Box) : Prop := ∀ b ∈ R, ∃ c ∈ H, c.g = b.g ∧ c.cs = b.cs ∧ c.t = b.t
theorem has_nil : Has H [] := by simp [Has]
theorem has_cons {b : Box} {R : List Box} (i : Nat) (c : Box) (hi : H[i]? = some c) (h1 : c.g = b.g) (h2 : c.cs = b.cs) (h3 : c.t = b.t) (h : Has H R) : Has H (b :: R) := by
  intro x hx
  rcases List.mem_cons.1 hx with rfl | hx
  · exact ⟨c, List.mem_of_getElem? hi, h1, h2, h3⟩
  · exact h x hx
theorem st_gv {f : FuncId} {x : Operand} {args : List Operand} {ts : Array TypeId} {vs : List Value} {R : List Box} {K' : Post} {fn : Func} {c : Code} (h : Gives p f vs.toArray R K') (hfn : p.funcs[f]? = some fn) (hb : fn.body = some c) (hnm : (fn.name == "runtime.NumGoroutine") = false)
    (ho : o.op = .call { callee := .value x, args := args.toArray, argTypes := ts }) (hf : ρ x = .func (.func f) #[] #[]) (hv : args.map ρ = vs) (hR : Has H R) (hnd : (R.map Box.g).Nodup) (k : ∀ v N, K' v N → K v (N ++ H)) : Step p ρ o H K := by
  intro F β w hO hB
  have e : (execOp ρ o).run p w = .ok (.enter f vs.toArray) w := by
    rw [execOp, ho]
    simp only [resolve, hf, Deferred.ofValue, List.map_toArray, hv]
    have hnm' : ¬ fn.name = "runtime.NumGoroutine" := by simpa using hnm
    simp [Sem.run_bind, invoke, callFunc, hfn, hnm', hb]
  rw [e]
  have hat : At R w := by
    intro b hb
    obtain ⟨c, hc, h1, h2, h3⟩ := hR b hb
    obtain ⟨fr, _, this⟩ := (hO.at_ c (List.mem_append_left _ hc)).2
    rw [h1, h2, h3] at this
    exact ⟨fr, this⟩
  exact (h w hat hnd).mono fun e w' ⟨v, N, he, hk, hN, hr, hb'⟩ => ⟨v, N ++ H, he, k _ _ hk, by rw [List.append_assoc]; exact hO.join hb' hN hr, hB.trans hb'⟩
theorem st_gr {f : FuncId} {x : Operand} {args : List Operand} {ts : Array TypeId} {vs : List Value} {R : List Box} {r : Value} {fn : Func} {c : Code} (h : Gives p f vs.toArray R (fun u N => u = r ∧ N = [])) (hfn : p.funcs[f]? = some fn) (hb : fn.body = some c) (hnm : (fn.name == "runtime.NumGoroutine") = false)
    (ho : o.op = .call { callee := .value x, args := args.toArray, argTypes := ts }) (hf : ρ x = .func (.func f) #[] #[]) (hv : args.map ρ = vs) (hR : Has H R) (hnd : (R.map Box.g).Nodup) (k : K r H) : Step p ρ o H K :=
  st_gv h hfn hb hnm ho hf hv hR hnd fun v N ⟨h1, h2⟩ => by subst h1 h2; exact k
structure Makes (p : Program) (s : Sem Value) (n : Nat) (cs : List Value) (e : TypeId) : Prop where
  out : ∀ w, s.run p w = .ok (.slice (some ⟨w.heap.size, 0, none⟩) n n) (w.alloc (.cells cs.toArray e (0, 0)))
theorem st_bs {t m : Nat} {ps : List (Nat × Operand)} {us : List (Nat × Value)} {cs : List Value} {e : TypeId} (ho : o.op = .buildSlice t m ps.toArray) (hx : (ps.map fun x => (x.1, ρ x.2)) = us) (hr : Makes p (Instr.buildSlice t m us.toArray) m cs e)
    (k : ∀ g, K (.slice (some ⟨g, 0, none⟩) m m) (⟨g, cs, e, false⟩ :: H)) : Step p ρ o H K := by
  intro F β w hO hB
  have e1 : (execOp ρ o).run p w = .ok (.value (.slice (some ⟨w.heap.size, 0, none⟩) m m)) (w.alloc (.cells cs.toArray e (0, 0))) := by
    rw [execOp, ho]
    simp only [List.map_toArray]
    rw [hx]
    simp [Sem.run_bind, hr.out w]
  rw [e1]
  exact ⟨_, k _, hO.alloc _ _, hB.alloc _⟩
theorem st_ln {t : TypeId} {d : TypeId} {args : List Operand} {a : Option Addr} {m c : Nat} (ho : o.op = .call { callee := .builtin .len, args := args.toArray, argTypes := #[t] }) (hu : p.underlying t = some (.slice d)) (hv : args.map ρ = [.slice a m c]) (k : K (.int .i64 m) H) : Step p ρ o H K := by
  refine st_val (fun w => ?_) k
  rw [execOp, ho]
  simp only [resolve, List.map_toArray, hv]
  simp [invoke, builtin, Builtin.len_, Sem.run_bind, run_underlying hu w, goInt]
theorem st_sa {t e : Nat} {x y : Operand} {g off m c s : Nat} {i : Nat} (ho : o.op = .indexAddr t x y) (hu : p.underlying t = some (.slice e)) (hs : (p.info? e).map (·.size) = some s) (hx : ρ x = .slice (some ⟨g, off, none⟩) m c) (hy : ρ y = .int .i64 i) (hi : i < m)
    (k : K (.pointer (some ⟨g, off + i * s, none⟩)) H) : Step p ρ o H K := by
  refine st_run (s := Instr.indexAt t (.slice (some ⟨g, off, none⟩) m c) (.int .i64 i)) (by rw [execOp, ho]; simp only [hx, hy]) ⟨fun w => ?_⟩ k
  cases hq : p.info? e with
  | none => simp [hq] at hs
  | some inf =>
    have hs' : inf.size = s := by simpa [hq] using hs
    have h0 : (0 : Int) ≤ i := by omega
    simp [Instr.indexAt, asIntOf, Sem.run_bind, run_underlying hu w, h0, hi, sizeOf, typeInfo, hq, hs', Addr.add]
theorem st_slh {t e : Nat} {x y : Operand} {g off m c s h : Nat} (ho : o.op = .slice t x none (some y) none) (hu : p.underlying t = some (.slice e)) (hs : (p.info? e).map (·.size) = some s) (hx : ρ x = .slice (some ⟨g, off, none⟩) m c) (hy : ρ y = .int .i64 h) (hh : h ≤ c)
    (k : K (.slice (some ⟨g, off, none⟩) h c) H) : Step p ρ o H K := by
  refine st_run (s := Instr.sliceAt t (.slice (some ⟨g, off, none⟩) m c) none (some (.int .i64 h)) none) (by rw [execOp, ho]; simp only [hx, hy, Option.map_none, Option.map_some]) ⟨fun w => ?_⟩ k
  have h0 : (0 : Int) ≤ h := by omega
  have hh' : (h : Int) ≤ c := by omega
  cases hq : p.info? e with
  | none => simp [hq] at hs
  | some inf =>
    have hs' : inf.size = s := by simpa [hq] using hs
    simp [Instr.sliceAt, Instr.slice, Instr.sliceBounds, Sem.run_bind, run_underlying hu w, run_sliceBound, h0, hh', hh, sizeOf, typeInfo, hq, hs', Addr.add]
theorem Step.wpA {a : Act} {β : Base} {w : World} {next : Act → World → Prop} {Q : Exit → Act → World → Prop} (h : Step p (ev n E) o H K) (he : a.eval = ev n E) (hO : Own β H w) (hB : Keeps β w)
    (hn : ∀ v H' w', K v H' → Own β H' w' → Keeps β w' → next (a.put o.dst v) w') : o.wp p a w next Q := by
  rw [← he] at h
  have := h [] β w (by simpa using hO) hB
  unfold Oper.wp
  revert this
  cases (execOp a.eval o).run p w with
  | ok x w' =>
    cases x <;> intro this <;> first | exact this.elim | skip
    case value v => obtain ⟨H', a, b, c⟩ := this; exact hn _ _ _ a (by simpa using b) c
    case skip => obtain ⟨H', a, b, c⟩ := this; exact hn _ _ _ a (by simpa using b) c
    case enter f args =>
      refine Calls.mono this fun e w'' ⟨v, H', a, b, c, d⟩ => ?_
      subst a
      exact hn _ _ _ b (by simpa using c) d
  | halt x w' => exact fun h => h.elim
theorem wpList_go {a : Act} {w : World} {Q : Exit → Act → World → Prop} (hg : o.guard = none) (h : o.wp p a w (wpList p ops Q l) Q) : wpList p ops Q (o :: l) a w := by
  unfold wpList
  have hw : Region.wanted o (yielded ops a.tmps) = true := by simp [Region.wanted, hg]
  rw [if_pos hw]
  exact .inl h
def ACr (p : Program) (n : Nat) (β : Base) (c : Code) (P : Exit → Act → World → Prop) (E : Env) (H : List Box) : Prop :=
  ∀ w a, Own β H w → Keeps β w → Sees n E a → c.wp p P a w
theorem acr_run {β : Base} {c : Code} {P : Exit → Act → World → Prop} {w : World} {a : Act} (h : ACr p n β c P E H) (hO : Own β H w) (hB : Keeps β w) (hs : Sees n E a) : c.wp p P a w := h w a hO hB hs
theorem acr_env {β : Base} {c : Code} {P : Exit → Act → World → Prop} (h : ∀ E1, E1 = E → ACr p n β c P E1 H) : ACr p n β c P E H := h E rfl
theorem acr_intro {β : Base} {c : Code} {P : Exit → Act → World → Prop} (h : ∀ w a, Own β H w → Keeps β w → Sees n E a → c.wp p P a w) : ACr p n β c P E H := h
theorem acr_seq {β : Base} {x y : Code} {P : Exit → Act → World → Prop} (h : AC p n x (fun e E' H' => e = .normal ∧ ACr p n β y P E' H') E H) : ACr p n β (.seq x y) P E H := by
  intro w a hO hB hs
  refine wp_seq (Code.wp_mono ?_ (h β w a hO hB hs))
  rintro e a w ⟨E', H', ⟨rfl, hr⟩, hs', hO', hB'⟩
  exact hr w a hO' hB' hs'
theorem acr_seq' {β : Base} {x y : Code} {P : Exit → Act → World → Prop} (h : ACr p n β x (Exit.then (fun a w => y.wp p P a w) P) E H) : ACr p n β (.seq x y) P E H :=
  fun w a hO hB hs => wp_seq (h w a hO hB hs)
theorem sees_start {fn : Func} {args : Array Value} (hn : fn.ntmps = n) (ha : Nat.ble args.size n = true) : Sees n (envOf args) { tmps := args ++ Array.replicate (fn.ntmps - args.size) undef, defers := [] } := by
  replace ha := Nat.le_of_ble_eq_true ha
  refine ⟨rfl, by simp; omega, ?_⟩
  intro t ht
  have ht' : (t : Nat) < n := ht
  subst hn
  simp only [envOf, List.getD_eq_getElem?_getD, Array.getElem?_toList]
  by_cases h1 : (t : Nat) < args.size
  · rw [Array.getElem?_append_left h1, Array.getElem?_eq_getElem h1]
    rfl
  · have h3 : args.size ≤ (t : Nat) := Nat.le_of_not_lt h1
    have h2 : (t : Nat) - args.size < fn.ntmps - args.size := by omega
    rw [Array.getElem?_append_right h3, Array.getElem?_eq_none h3, Array.getElem?_replicate, if_pos h2]
    rfl
theorem own_start {R : List Box} {w : World} (hA : At R w) (hn : (R.map Box.g).Nodup) (hr : ∀ b ∈ R, b.ro = true) : Own ⟨fun _ => False, w⟩ R w :=
  ⟨Nat.le_refl _, fun b hb => ⟨.inl (hr b hb), by
    obtain ⟨fr, h⟩ := hA b hb
    exact ⟨fr, (fun h => by rw [hr b hb] at h; cases h), h⟩⟩, hn⟩
end
end Go.Proofs.Ythngkopcadlciaa
namespace Go.Proofs.Ythngkopcadlciaa
open Go.RowKit
section
variable {p : Program} {n : Nat} {ops : Array Oper}
section
variable {fx ta : List Nat} {al : List Al} {vs : List (Nat × Value)} {E0 : Env} {H0 : List Box} {Q : Exit → Env → List Box → Prop}
end
end
end Go.Proofs.Ythngkopcadlciaa
namespace Go.Proofs.Ythngkopcadlciaa
theorem ar_dropR {p : Program} {n k : Nat} {c : Code} {Q : Exit → Env → List Box → Prop} {E : Env} {H H' : List Box} (hs : List.Sublist H H') (h : ARounds p n c Q k E H) : ARounds p n c Q k E H' := by
  cases k with
  | zero => exact h
  | succ k => exact ac_drop hs h
end Go.Proofs.Ythngkopcadlciaa
namespace Go.Proofs.Ythngkopcadlciaa
open Go.RowKit
theorem agg26 : IsAgg Try.prog 26 3 := ⟨⟨_, Try.underlying26, rfl, by kernel_rfl⟩⟩
theorem bd118_0_1 (x0_0 : Int) (x1_0 : Int) : Runs Try.prog (Instr.build 118 #[(0, .int .i64 x0_0), (1, .int .i64 x1_0)]) (.agg #[.int .i64 x0_0, .int .i64 x1_0]) := ⟨fun w => by go_simp⟩
theorem bd26_0_1 (x0_0 : Int) (x1_0 : Int) : Runs Try.prog (Instr.build 26 #[(0, .int .i64 x0_0), (1, .int .i64 x1_0)]) (.agg #[.int .i64 x0_0, .int .i64 x1_0, .bool false]) := ⟨fun w => by go_simp⟩
theorem bd26_2 (x0_0 : Bool) : Runs Try.prog (Instr.build 26 #[(2, .bool x0_0)]) (.agg #[.int .i64 0, .int .i64 0, .bool x0_0]) := ⟨fun w => by go_simp⟩
theorem cell3 : IsCell Try.prog 3 := ⟨⟨_, Try.underlying3, rfl, by kernel_rfl⟩⟩
theorem cell4 : IsCell Try.prog 4 := ⟨⟨_, Try.underlying4, rfl, by kernel_rfl⟩⟩
theorem fa26_0 (a : Addr) : Runs Try.prog (Instr.fieldAt 26 (.pointer (some a)) 0) (.pointer (some (a.add 0))) := run_fa (f := 0) (off := 0) (m := 1) Try.underlying26 rfl rfl (by kernel_rfl) (by decide) a
theorem fa26_1 (a : Addr) : Runs Try.prog (Instr.fieldAt 26 (.pointer (some a)) 1) (.pointer (some (a.add 1))) := run_fa (f := 1) (off := 1) (m := 1) Try.underlying26 rfl rfl (by kernel_rfl) (by decide) a
theorem fa26_2 (a : Addr) : Runs Try.prog (Instr.fieldAt 26 (.pointer (some a)) 2) (.pointer (some (a.add 2))) := run_fa (f := 2) (off := 2) (m := 1) Try.underlying26 rfl rfl (by kernel_rfl) (by decide) a
theorem ix118_0 (x0 : Int) (x1 : Int) : Runs Try.prog (Instr.index 118 (.agg #[.int .i64 x0, .int .i64 x1]) (.int .i64 0)) (.int .i64 x0) := run_ixc (xs := [.int .i64 x0, .int .i64 x1]) Try.underlying118 cell3 (by decide) (by decide) rfl
theorem ix118_1 (x0 : Int) (x1 : Int) : Runs Try.prog (Instr.index 118 (.agg #[.int .i64 x0, .int .i64 x1]) (.int .i64 1)) (.int .i64 x1) := run_ixc (xs := [.int .i64 x0, .int .i64 x1]) Try.underlying118 cell3 (by decide) (by decide) rfl
theorem zero26 : Zero Try.prog 26 [.int .i64 0, .int .i64 0, .bool false] := ⟨⟨.agg #[.int .i64 0, .int .i64 0, .bool false], by kernel_rfl, rfl⟩⟩
end Go.Proofs.Ythngkopcadlciaa
namespace Go.Proofs.Ythngkopcadlciaa
open Go.RowKit
attribute [local irreducible] AC AR DWalk
def rIn (n : Int) : Bool := (bif decide (n ≥ (-1073741824)) then decide (n ≤ 1073741824) else false)
set_option maxRecDepth 100000 in
theorem c_rIn (n : Int) : Gets Try.prog 92 #[.int .i64 n] ((fun (r : Bool) => (.bool r : Value)) (rIn n)) := by
 refine gets_fin Try.func92 rfl rfl rfl (aQ (aL (aA 2 (.bool false) rfl rfl (aN (aQ (aL (aM 3 (.int .i64 n) rfl rfl (aB 4 (.bool (decide (n ≥ (-1073741824)))) rfl rfl rfl (bi_geq rfl) (aM 5 (.bool (decide (n ≥ (-1073741824)))) rfl rfl ?_)))))))))
 refine bool_split (decide (n ≥ (-1073741824))) (fun h1 => ?_) (fun h1 => ?_)
 ·refine ar_gd (d := (some 6)) (by show ((decide (n ≥ (-1073741824))) == true) = true; rw [h1]; rfl) rfl (st_move (v := .int .i64 n) rfl rfl (ar_gd (d := (some 7)) (by show ((decide (n ≥ (-1073741824))) == true) = true; rw [h1]; rfl) rfl (st_bi (r := .bool (decide (n ≤ 1073741824))) rfl rfl rfl (bi_leq rfl) (ao 8 rfl rfl (st_pkt' (b := decide (n ≥ (-1073741824))) (v := .bool (decide (n ≤ 1073741824))) h1 rfl rfl rfl (aA 2 (.bool (decide (n ≤ 1073741824))) rfl rfl (aN (ac_ret (fin_eq (v := .bool (decide (n ≤ 1073741824))) (by show _ = (fun (r : Bool) => (.bool r : Value)) (rIn n); rw [rIn, h1] <;> rfl) (fin_ret (res_tmp rfl rfl)))))))))))
 ·refine aK 6 (by show ((decide (n ≥ (-1073741824))) == true) = false; rw [h1]; rfl) rfl (aK 7 (by show ((decide (n ≥ (-1073741824))) == true) = false; rw [h1]; rfl) rfl (ao 8 rfl rfl (st_pkf' (b := decide (n ≥ (-1073741824))) (v := .bool false) h1 rfl rfl rfl (aA 2 (.bool false) rfl rfl (aN (ac_ret (fin_eq (v := .bool false) (by show _ = (fun (r : Bool) => (.bool r : Value)) (rIn n); rw [rIn, h1] <;> rfl) (fin_ret (res_tmp rfl rfl)))))))))
def rFloor_e0 (a : Int) (b : Int) : Int := (bif (decide ((Int.tmod a b) < 0)) != (decide (b < 0)) then (w64 ((w64 (Int.tdiv a b)) - 1)) else (w64 (Int.tdiv a b)))
def rFloor (a : Int) (b : Int) : Int := (bif b == 0 then 0 else (bif (Int.tmod a b) != 0 then (rFloor_e0 a b) else w64 (Int.tdiv a b)))
set_option maxRecDepth 100000 in
theorem c_rFloor (a : Int) (b : Int) : Gets Try.prog 128 #[.int .i64 a, .int .i64 b] ((fun (r : Int) => (.int .i64 r : Value)) (rFloor a b)) := by
 refine gets_fin Try.func128 rfl rfl rfl (aQ (aL (aA 4 (.int .i64 0) rfl rfl (aN (aQ (aQ (aL (aM 7 (.int .i64 b) rfl rfl (aB 8 (.bool (b == 0)) rfl rfl rfl (bi_eql rfl) (aN ?_))))))))))
 refine bool_split (b == 0) (fun h1 => ?_) (fun h1 => ?_)
 ·refine ac_then' (b := b == 0) h1 rfl (aQ (aL (aA 4 (.int .i64 0) rfl rfl (aN (ac_ret (fin_eq (v := .int .i64 0) (by show _ = (fun (r : Int) => (.int .i64 r : Value)) (rFloor a b); rw [rFloor, h1] <;> rfl) (fin_ret (res_tmp rfl rfl))))))))
 ·refine ac_else' (b := b == 0) h1 rfl (ac_skip (aQ (aL (aM 9 (.int .i64 a) rfl rfl (aM 10 (.int .i64 b) rfl rfl (aB 11 (.int .i64 (w64 (Int.tdiv a b))) rfl rfl rfl (bi_quo (ne_of_beq0 h1) rfl) (aA 5 (.int .i64 (w64 (Int.tdiv a b))) rfl rfl (aN (aQ (aQ (aL (aM 12 (.int .i64 a) rfl rfl (aM 13 (.int .i64 b) rfl rfl (aB 14 (.int .i64 (Int.tmod a b)) rfl rfl rfl (bi_rem (ne_of_beq0 h1) rfl) (aA 6 (.int .i64 (Int.tmod a b)) rfl rfl (aN (aQ (aL (aM 15 (.int .i64 (Int.tmod a b)) rfl rfl (aB 16 (.bool ((Int.tmod a b) != 0)) rfl rfl rfl (bi_neq rfl) (aM 17 (.bool ((Int.tmod a b) != 0)) rfl rfl ?_)))))))))))))))))))))
  refine bool_split ((Int.tmod a b) != 0) (fun h2 => ?_) (fun h2 => ?_)
  ·refine ar_gd (d := (some 18)) (by show (((Int.tmod a b) != 0) == true) = true; rw [h2]; rfl) rfl (st_move (v := .int .i64 (Int.tmod a b)) rfl rfl (ar_gd (d := (some 19)) (by show (((Int.tmod a b) != 0) == true) = true; rw [h2]; rfl) rfl (st_bi (r := .bool (decide ((Int.tmod a b) < 0))) rfl rfl rfl (bi_lss rfl) (ar_gd (d := (some 20)) (by show (((Int.tmod a b) != 0) == true) = true; rw [h2]; rfl) rfl (st_move (v := .int .i64 b) rfl rfl (ar_gd (d := (some 21)) (by show (((Int.tmod a b) != 0) == true) = true; rw [h2]; rfl) rfl (st_bi (r := .bool (decide (b < 0))) rfl rfl rfl (bi_lss rfl) ?_)))))))
   refine ar_gd (d := (some 22)) (by show (((Int.tmod a b) != 0) == true) = true; rw [h2]; rfl) rfl (st_bi (r := .bool ((decide ((Int.tmod a b) < 0)) != (decide (b < 0)))) rfl rfl rfl (bb_neq Try.underlying4 rfl) (ao 23 rfl rfl (st_pkt' (b := (Int.tmod a b) != 0) (v := .bool ((decide ((Int.tmod a b) < 0)) != (decide (b < 0)))) h2 rfl rfl rfl (aN ?_))))
   refine ac_mergeE (fun E9 => (((Env.put E9 (some 24) (.int .i64 (w64 (Int.tdiv a b)))).put (some 25) (.int .i64 (w64 ((w64 (Int.tdiv a b)) - 1)))).put (some 5) (.int .i64 (w64 ((w64 (Int.tdiv a b)) - 1))))) (fun E9 => (((Env.put E9 (some 24) (bif (decide ((Int.tmod a b) < 0)) != (decide (b < 0)) then (.int .i64 (w64 (Int.tdiv a b)) : Value) else E9 24)).put (some 25) (bif (decide ((Int.tmod a b) < 0)) != (decide (b < 0)) then (.int .i64 (w64 ((w64 (Int.tdiv a b)) - 1)) : Value) else E9 25)).put (some 5) (.int .i64 (rFloor_e0 a b)))) (b := (decide ((Int.tmod a b) < 0)) != (decide (b < 0))) rfl (fun hm => ?_) (fun hm => ?_) (fun hm => ?_) ?_
   ·refine aL (aM 24 (.int .i64 (w64 (Int.tdiv a b))) rfl rfl (aB 25 (.int .i64 (w64 ((w64 (Int.tdiv a b)) - 1))) rfl rfl rfl (bi_sub rfl) (aA 5 (.int .i64 (w64 ((w64 (Int.tdiv a b)) - 1))) rfl rfl (aN ?_))))
    exact ⟨rfl, rfl, rfl⟩
   ·unfold rFloor_e0; rw [hm]; rfl
   ·unfold rFloor_e0; rw [hm]; exact ((put_self rfl).trans ((put_self rfl).trans (put_self rfl)))
   refine aQ (aL (aM 26 (.int .i64 (rFloor_e0 a b)) rfl rfl (aA 4 (.int .i64 (rFloor_e0 a b)) rfl rfl (aN (ac_ret (fin_eq (v := .int .i64 (rFloor_e0 a b)) (by show _ = (fun (r : Int) => (.int .i64 r : Value)) (rFloor a b); rw [rFloor, h2, h1] <;> rfl) (fin_ret (res_tmp rfl rfl))))))))
  ·refine aK 18 (by show (((Int.tmod a b) != 0) == true) = false; rw [h2]; rfl) rfl (aK 19 (by show (((Int.tmod a b) != 0) == true) = false; rw [h2]; rfl) rfl (aK 20 (by show (((Int.tmod a b) != 0) == true) = false; rw [h2]; rfl) rfl (aK 21 (by show (((Int.tmod a b) != 0) == true) = false; rw [h2]; rfl) rfl (aK 22 (by show (((Int.tmod a b) != 0) == true) = false; rw [h2]; rfl) rfl (ao 23 rfl rfl (st_pkf' (b := (Int.tmod a b) != 0) (v := .bool false) h2 rfl rfl rfl (aN (ac_else rfl (ac_skip (aQ (aL (aM 26 (.int .i64 (w64 (Int.tdiv a b))) rfl rfl (aA 4 (.int .i64 (w64 (Int.tdiv a b))) rfl rfl (aN (ac_ret ?_)))))))))))))))
   exact fin_eq (v := .int .i64 (w64 (Int.tdiv a b))) (by show _ = (fun (r : Int) => (.int .i64 r : Value)) (rFloor a b); rw [rFloor, h2, h1] <;> rfl) (fin_ret (res_tmp rfl rfl))
def rCeil_e0 (a : Int) (b : Int) : Int := (bif (w64 ((rFloor a b) * b)) != a then (w64 ((rFloor a b) + 1)) else (rFloor a b))
def rCeil (a : Int) (b : Int) : Int := (rCeil_e0 a b)
set_option maxRecDepth 100000 in
theorem c_rCeil (a : Int) (b : Int) : Gets Try.prog 130 #[.int .i64 a, .int .i64 b] ((fun (r : Int) => (.int .i64 r : Value)) (rCeil a b)) := by
 refine gets_fin Try.func130 rfl rfl rfl (aQ (aL (aA 4 (.int .i64 0) rfl rfl (aN (aQ (aL (aM 6 (.int .i64 a) rfl rfl (aM 7 (.int .i64 b) rfl rfl (aC 8 (c_rFloor a b) Try.func128 ⟨rfl, by decide⟩ rfl rfl (aA 5 (.int .i64 (rFloor a b)) rfl rfl (aN (aQ (aQ (aL (aM 9 (.int .i64 (rFloor a b)) rfl rfl (aM 10 (.int .i64 b) rfl rfl (aB 11 (.int .i64 (w64 ((rFloor a b) * b))) rfl rfl rfl (bi_mul rfl) (aM 12 (.int .i64 a) rfl rfl (aB 13 (.bool ((w64 ((rFloor a b) * b)) != a)) rfl rfl rfl (bi_neq rfl) (aN ?_))))))))))))))))))))
 refine ac_mergeE (fun E9 => (((Env.put E9 (some 14) (.int .i64 (rFloor a b))).put (some 15) (.int .i64 (w64 ((rFloor a b) + 1)))).put (some 5) (.int .i64 (w64 ((rFloor a b) + 1))))) (fun E9 => (((Env.put E9 (some 14) (bif (w64 ((rFloor a b) * b)) != a then (.int .i64 (rFloor a b) : Value) else E9 14)).put (some 15) (bif (w64 ((rFloor a b) * b)) != a then (.int .i64 (w64 ((rFloor a b) + 1)) : Value) else E9 15)).put (some 5) (.int .i64 (rCeil_e0 a b)))) (b := (w64 ((rFloor a b) * b)) != a) rfl (fun hm => ?_) (fun hm => ?_) (fun hm => ?_) ?_
 ·refine aL (aM 14 (.int .i64 (rFloor a b)) rfl rfl (aB 15 (.int .i64 (w64 ((rFloor a b) + 1))) rfl rfl rfl (bi_add rfl) (aA 5 (.int .i64 (w64 ((rFloor a b) + 1))) rfl rfl (aN ?_))))
  exact ⟨rfl, rfl, rfl⟩
 ·unfold rCeil_e0; rw [hm]; rfl
 ·unfold rCeil_e0; rw [hm]; exact ((put_self rfl).trans ((put_self rfl).trans (put_self rfl)))
 refine aQ (aL (aM 16 (.int .i64 (rCeil_e0 a b)) rfl rfl (aA 4 (.int .i64 (rCeil_e0 a b)) rfl rfl (aN (ac_ret (fin_eq (v := .int .i64 (rCeil_e0 a b)) rfl (fin_ret (res_tmp rfl rfl))))))))
def rTold (n : Int) : Int × Bool := (bif rIn n then (n, true) else (0, false))
set_option maxRecDepth 100000 in
theorem c_rTold (n : Int) : Gets Try.prog 131 #[.int .i64 n] ((fun (r : Int × Bool) => (.tuple #[.int .i64 r.1, .bool r.2] : Value)) (rTold n)) := by
 refine gets_fin Try.func131 rfl rfl rfl (aQ (aL (aA 2 (.int .i64 0) rfl rfl (aA 3 (.bool false) rfl rfl (aN (aQ (aQ (aL (aM 4 (.int .i64 n) rfl rfl (aC 5 (c_rIn n) Try.func92 ⟨rfl, by decide⟩ rfl rfl (ao 6 rfl rfl (st_un (v := .bool (!(rIn n))) rfl rfl (un_not rfl) (aN ?_)))))))))))))
 refine bool_split (rIn n) (fun h1 => ?_) (fun h1 => ?_)
 ·refine ac_else' (b := !(rIn n)) (by rw [h1]; rfl) rfl (ac_skip (aQ (aL (aM 7 (.int .i64 n) rfl rfl (aA 2 (.int .i64 n) rfl rfl (aA 3 (.bool true) rfl rfl (aN (ac_ret (fin_eq (v := .tuple #[.int .i64 n, .bool true]) (by show _ = (fun (r : Int × Bool) => (.tuple #[.int .i64 r.1, .bool r.2] : Value)) (rTold n); rw [rTold, h1] <;> rfl) (fin_ret (res_tt rfl rfl rfl)))))))))))
 ·refine ac_then' (b := !(rIn n)) (by rw [h1]; rfl) rfl (aQ (aL (aA 2 (.int .i64 0) rfl rfl (aA 3 (.bool false) rfl rfl (aN (ac_ret (fin_eq (v := .tuple #[.int .i64 0, .bool false]) (by show _ = (fun (r : Int × Bool) => (.tuple #[.int .i64 r.1, .bool r.2] : Value)) (rTold n); rw [rTold, h1] <;> rfl) (fin_ret (res_tt rfl rfl rfl)))))))))
def rMul (a : Int) (b : Int) (up : Bool) : Int × Bool := (bif rIn a then (bif rIn b then (bif up then ((rTold (rCeil (w64 (a * b)) 65536)).1, (rTold (rCeil (w64 (a * b)) 65536)).2) else ((rTold (rFloor (w64 (a * b)) 65536)).1, (rTold (rFloor (w64 (a * b)) 65536)).2)) else (0, false)) else (0, false))
set_option maxRecDepth 100000 in
theorem c_rMul (a : Int) (b : Int) (up : Bool) : Gets Try.prog 115 #[.int .i64 a, .int .i64 b, .bool up] ((fun (r : Int × Bool) => (.tuple #[.int .i64 r.1, .bool r.2] : Value)) (rMul a b up)) := by
 refine gets_fin Try.func115 rfl rfl rfl (aQ (aL (aA 6 (.int .i64 0) rfl rfl (aA 7 (.bool false) rfl rfl (aN (aQ (aQ (aL (aM 8 (.int .i64 a) rfl rfl (aC 9 (c_rIn a) Try.func92 ⟨rfl, by decide⟩ rfl rfl (ao 10 rfl rfl (st_un (v := .bool (!(rIn a))) rfl rfl (un_not rfl) (aM 11 (.bool (!(rIn a))) rfl rfl ?_)))))))))))))
 refine bool_split (rIn a) (fun h1 => ?_) (fun h1 => ?_)
 ·refine ar_gd (d := (some 12)) (by show ((!(rIn a)) == false) = true; rw [h1]; rfl) rfl (st_move (v := .int .i64 b) rfl rfl (ar_gd (d := (some 13)) (by show ((!(rIn a)) == false) = true; rw [h1]; rfl) rfl (st_cf (c_rIn b) Try.func92 rfl (by decide) rfl rfl rfl (ar_gd (d := (some 14)) (by show ((!(rIn a)) == false) = true; rw [h1]; rfl) rfl (st_un (v := .bool (!(rIn b))) rfl rfl (un_not rfl) (ao 15 rfl rfl (st_pkf' (b := !(rIn a)) (v := .bool (!(rIn b))) (by rw [h1]; rfl) rfl rfl rfl (aN ?_))))))))
  refine bool_split (rIn b) (fun h2 => ?_) (fun h2 => ?_)
  ·refine ac_else' (b := !(rIn b)) (by rw [h2]; rfl) rfl (ac_skip (aQ (aQ (aL (aM 16 (.bool up) rfl rfl (aN ?_))))))
   refine bool_split (up) (fun h3 => ?_) (fun h3 => ?_)
   ·refine ac_then' (b := up) h3 rfl (aQ (aL (aM 17 (.int .i64 a) rfl rfl (aM 18 (.int .i64 b) rfl rfl (aB 19 (.int .i64 (w64 (a * b))) rfl rfl rfl (bi_mul rfl) (aC 20 (c_rCeil (w64 (a * b)) 65536) Try.func130 ⟨rfl, by decide⟩ rfl rfl (aC 21 (c_rTold (rCeil (w64 (a * b)) 65536)) Try.func131 ⟨rfl, by decide⟩ rfl rfl (aX 22 (.int .i64 ((rTold (rCeil (w64 (a * b)) 65536)).1)) rfl rfl rfl (aX 23 (.bool ((rTold (rCeil (w64 (a * b)) 65536)).2)) rfl rfl rfl (aA 6 (.int .i64 ((rTold (rCeil (w64 (a * b)) 65536)).1)) rfl rfl (aA 7 (.bool ((rTold (rCeil (w64 (a * b)) 65536)).2)) rfl rfl (aN (ac_ret ?_)))))))))))))
    exact fin_eq (v := .tuple #[.int .i64 ((rTold (rCeil (w64 (a * b)) 65536)).1), .bool ((rTold (rCeil (w64 (a * b)) 65536)).2)]) (by show _ = (fun (r : Int × Bool) => (.tuple #[.int .i64 r.1, .bool r.2] : Value)) (rMul a b up); rw [rMul, h3, h2, h1] <;> rfl) (fin_ret (res_tt rfl rfl rfl))
   ·refine ac_else' (b := up) h3 rfl (ac_skip (aQ (aL (aM 24 (.int .i64 a) rfl rfl (aM 25 (.int .i64 b) rfl rfl (aB 26 (.int .i64 (w64 (a * b))) rfl rfl rfl (bi_mul rfl) (aC 27 (c_rFloor (w64 (a * b)) 65536) Try.func128 ⟨rfl, by decide⟩ rfl rfl (aC 28 (c_rTold (rFloor (w64 (a * b)) 65536)) Try.func131 ⟨rfl, by decide⟩ rfl rfl (aX 29 (.int .i64 ((rTold (rFloor (w64 (a * b)) 65536)).1)) rfl rfl rfl (aX 30 (.bool ((rTold (rFloor (w64 (a * b)) 65536)).2)) rfl rfl rfl (aA 6 (.int .i64 ((rTold (rFloor (w64 (a * b)) 65536)).1)) rfl rfl (aA 7 (.bool ((rTold (rFloor (w64 (a * b)) 65536)).2)) rfl rfl (aN (ac_ret ?_))))))))))))))
    exact fin_eq (v := .tuple #[.int .i64 ((rTold (rFloor (w64 (a * b)) 65536)).1), .bool ((rTold (rFloor (w64 (a * b)) 65536)).2)]) (by show _ = (fun (r : Int × Bool) => (.tuple #[.int .i64 r.1, .bool r.2] : Value)) (rMul a b up); rw [rMul, h3, h2, h1] <;> rfl) (fin_ret (res_tt rfl rfl rfl))
  ·refine ac_then' (b := !(rIn b)) (by rw [h2]; rfl) rfl (aQ (aL (aA 6 (.int .i64 0) rfl rfl (aA 7 (.bool false) rfl rfl (aN (ac_ret (fin_eq (v := .tuple #[.int .i64 0, .bool false]) (by show _ = (fun (r : Int × Bool) => (.tuple #[.int .i64 r.1, .bool r.2] : Value)) (rMul a b up); rw [rMul, h2, h1] <;> rfl) (fin_ret (res_tt rfl rfl rfl)))))))))
 ·refine aK 12 (by show ((!(rIn a)) == false) = false; rw [h1]; rfl) rfl (aK 13 (by show ((!(rIn a)) == false) = false; rw [h1]; rfl) rfl (aK 14 (by show ((!(rIn a)) == false) = false; rw [h1]; rfl) rfl (ao 15 rfl rfl (st_pkt' (b := !(rIn a)) (v := .bool true) (by rw [h1]; rfl) rfl rfl rfl (aN (ac_then rfl (aQ (aL (aA 6 (.int .i64 0) rfl rfl (aA 7 (.bool false) rfl rfl (aN (ac_ret (fin_eq (v := .tuple #[.int .i64 0, .bool false]) (by show _ = (fun (r : Int × Bool) => (.tuple #[.int .i64 r.1, .bool r.2] : Value)) (rMul a b up); rw [rMul, h1] <;> rfl) (fin_ret (res_tt rfl rfl rfl)))))))))))))))
def rDiv (a : Int) (b : Int) (up : Bool) : Int × Bool := (bif rIn a then (bif rIn b then (bif b == 0 then (0, false) else (bif up then ((rTold (rCeil (w64 (a * 65536)) b)).1, (rTold (rCeil (w64 (a * 65536)) b)).2) else ((rTold (rFloor (w64 (a * 65536)) b)).1, (rTold (rFloor (w64 (a * 65536)) b)).2))) else (0, false)) else (0, false))
set_option maxRecDepth 100000 in
theorem c_rDiv (a : Int) (b : Int) (up : Bool) : Gets Try.prog 132 #[.int .i64 a, .int .i64 b, .bool up] ((fun (r : Int × Bool) => (.tuple #[.int .i64 r.1, .bool r.2] : Value)) (rDiv a b up)) := by
 refine gets_fin Try.func132 rfl rfl rfl (aQ (aL (aA 6 (.int .i64 0) rfl rfl (aA 7 (.bool false) rfl rfl (aN (aQ (aQ (aL (aM 8 (.int .i64 a) rfl rfl (aC 9 (c_rIn a) Try.func92 ⟨rfl, by decide⟩ rfl rfl (ao 10 rfl rfl (st_un (v := .bool (!(rIn a))) rfl rfl (un_not rfl) (aM 11 (.bool (!(rIn a))) rfl rfl ?_)))))))))))))
 refine bool_split (rIn a) (fun h1 => ?_) (fun h1 => ?_)
 ·refine ar_gd (d := (some 12)) (by show ((!(rIn a)) == false) = true; rw [h1]; rfl) rfl (st_move (v := .int .i64 b) rfl rfl (ar_gd (d := (some 13)) (by show ((!(rIn a)) == false) = true; rw [h1]; rfl) rfl (st_cf (c_rIn b) Try.func92 rfl (by decide) rfl rfl rfl (ar_gd (d := (some 14)) (by show ((!(rIn a)) == false) = true; rw [h1]; rfl) rfl (st_un (v := .bool (!(rIn b))) rfl rfl (un_not rfl) (ao 15 rfl rfl (st_pkf' (b := !(rIn a)) (v := .bool (!(rIn b))) (by rw [h1]; rfl) rfl rfl rfl (aM 16 (.bool (!(rIn b))) rfl rfl ?_))))))))
  refine bool_split (rIn b) (fun h2 => ?_) (fun h2 => ?_)
  ·refine ar_gd (d := (some 17)) (by show ((!(rIn b)) == false) = true; rw [h2]; rfl) rfl (st_move (v := .int .i64 b) rfl rfl (ar_gd (d := (some 18)) (by show ((!(rIn b)) == false) = true; rw [h2]; rfl) rfl (st_bi (r := .bool (b == 0)) rfl rfl rfl (bi_eql rfl) (ao 19 rfl rfl (st_pkf' (b := !(rIn b)) (v := .bool (b == 0)) (by rw [h2]; rfl) rfl rfl rfl (aN ?_))))))
   refine bool_split (b == 0) (fun h3 => ?_) (fun h3 => ?_)
   ·refine ac_then' (b := b == 0) h3 rfl (aQ (aL (aA 6 (.int .i64 0) rfl rfl (aA 7 (.bool false) rfl rfl (aN (ac_ret (fin_eq (v := .tuple #[.int .i64 0, .bool false]) (by show _ = (fun (r : Int × Bool) => (.tuple #[.int .i64 r.1, .bool r.2] : Value)) (rDiv a b up); rw [rDiv, h3, h2, h1] <;> rfl) (fin_ret (res_tt rfl rfl rfl)))))))))
   ·refine ac_else' (b := b == 0) h3 rfl (ac_skip (aQ (aQ (aL (aM 20 (.bool up) rfl rfl (aN ?_))))))
    refine bool_split (up) (fun h4 => ?_) (fun h4 => ?_)
    ·refine ac_then' (b := up) h4 rfl (aQ (aL (aM 21 (.int .i64 a) rfl rfl (aB 22 (.int .i64 (w64 (a * 65536))) rfl rfl rfl (bi_mul rfl) (aM 23 (.int .i64 b) rfl rfl (aC 24 (c_rCeil (w64 (a * 65536)) b) Try.func130 ⟨rfl, by decide⟩ rfl rfl (aC 25 (c_rTold (rCeil (w64 (a * 65536)) b)) Try.func131 ⟨rfl, by decide⟩ rfl rfl (aX 26 (.int .i64 ((rTold (rCeil (w64 (a * 65536)) b)).1)) rfl rfl rfl (aX 27 (.bool ((rTold (rCeil (w64 (a * 65536)) b)).2)) rfl rfl rfl (aA 6 (.int .i64 ((rTold (rCeil (w64 (a * 65536)) b)).1)) rfl rfl (aA 7 (.bool ((rTold (rCeil (w64 (a * 65536)) b)).2)) rfl rfl (aN (ac_ret ?_)))))))))))))
     exact fin_eq (v := .tuple #[.int .i64 ((rTold (rCeil (w64 (a * 65536)) b)).1), .bool ((rTold (rCeil (w64 (a * 65536)) b)).2)]) (by show _ = (fun (r : Int × Bool) => (.tuple #[.int .i64 r.1, .bool r.2] : Value)) (rDiv a b up); rw [rDiv, h4, h3, h2, h1] <;> rfl) (fin_ret (res_tt rfl rfl rfl))
    ·refine ac_else' (b := up) h4 rfl (ac_skip (aQ (aL (aM 28 (.int .i64 a) rfl rfl (aB 29 (.int .i64 (w64 (a * 65536))) rfl rfl rfl (bi_mul rfl) (aM 30 (.int .i64 b) rfl rfl (aC 31 (c_rFloor (w64 (a * 65536)) b) Try.func128 ⟨rfl, by decide⟩ rfl rfl (aC 32 (c_rTold (rFloor (w64 (a * 65536)) b)) Try.func131 ⟨rfl, by decide⟩ rfl rfl (aX 33 (.int .i64 ((rTold (rFloor (w64 (a * 65536)) b)).1)) rfl rfl rfl (aX 34 (.bool ((rTold (rFloor (w64 (a * 65536)) b)).2)) rfl rfl rfl (aA 6 (.int .i64 ((rTold (rFloor (w64 (a * 65536)) b)).1)) rfl rfl (aA 7 (.bool ((rTold (rFloor (w64 (a * 65536)) b)).2)) rfl rfl (aN (ac_ret ?_))))))))))))))
     exact fin_eq (v := .tuple #[.int .i64 ((rTold (rFloor (w64 (a * 65536)) b)).1), .bool ((rTold (rFloor (w64 (a * 65536)) b)).2)]) (by show _ = (fun (r : Int × Bool) => (.tuple #[.int .i64 r.1, .bool r.2] : Value)) (rDiv a b up); rw [rDiv, h4, h3, h2, h1] <;> rfl) (fin_ret (res_tt rfl rfl rfl))
  ·refine aK 17 (by show ((!(rIn b)) == false) = false; rw [h2]; rfl) rfl (aK 18 (by show ((!(rIn b)) == false) = false; rw [h2]; rfl) rfl (ao 19 rfl rfl (st_pkt' (b := !(rIn b)) (v := .bool true) (by rw [h2]; rfl) rfl rfl rfl (aN (ac_then rfl (aQ (aL (aA 6 (.int .i64 0) rfl rfl (aA 7 (.bool false) rfl rfl (aN (ac_ret (fin_eq (v := .tuple #[.int .i64 0, .bool false]) (by show _ = (fun (r : Int × Bool) => (.tuple #[.int .i64 r.1, .bool r.2] : Value)) (rDiv a b up); rw [rDiv, h2, h1] <;> rfl) (fin_ret (res_tt rfl rfl rfl))))))))))))))
 ·refine aK 12 (by show ((!(rIn a)) == false) = false; rw [h1]; rfl) rfl (aK 13 (by show ((!(rIn a)) == false) = false; rw [h1]; rfl) rfl (aK 14 (by show ((!(rIn a)) == false) = false; rw [h1]; rfl) rfl (ao 15 rfl rfl (st_pkt' (b := !(rIn a)) (v := .bool true) (by rw [h1]; rfl) rfl rfl rfl (aM 16 (.bool true) rfl rfl (aK 17 rfl rfl (aK 18 rfl rfl (ao 19 rfl rfl (st_pkt (v := .bool true) rfl rfl rfl (aN (ac_then rfl (aQ (aL (aA 6 (.int .i64 0) rfl rfl (aA 7 (.bool false) rfl rfl (aN (ac_ret ?_)))))))))))))))))
  exact fin_eq (v := .tuple #[.int .i64 0, .bool false]) (by show _ = (fun (r : Int × Bool) => (.tuple #[.int .i64 r.1, .bool r.2] : Value)) (rDiv a b up); rw [rDiv, h1] <;> rfl) (fin_ret (res_tt rfl rfl rfl))
end Go.Proofs.Ythngkopcadlciaa
namespace Go.Proofs.Ythngkopcadlciaa
open Go.RowKit
attribute [local irreducible] AC AR DWalk
def rRootLoop (n : Int) : Nat → Int → Int
 | 0, r => r
 | j + 1, r => bif decide ((w64 ((w64 (r + (w64 (1 * 2 ^ (min (Int.toNat (IntKind.u64.wrap (j : Int))) 64))))) * (w64 (r + (w64 (1 * 2 ^ (min (Int.toNat (IntKind.u64.wrap (j : Int))) 64))))))) ≤ n) then rRootLoop n j (w64 (r + (w64 (1 * 2 ^ (min (Int.toNat (IntKind.u64.wrap (j : Int))) 64))))) else rRootLoop n j r
set_option maxRecDepth 100000 in
theorem c_rRoot_loop (n : Int) (up : Bool) {Q : Exit → Env → List Box → Prop} {H : List Box} {c : Code} (hc : Try.f113.body.bind loopOf = some c) : ∀ (j : Nat) (r k : Int) (E : Env), j ≤ 64 → k = (j : Int) - 1 → E 1 = .bool up → E 6 = .int .i64 n → E 7 = .int .i64 r → E 8 = .int .i64 k →
  (∀ E' : Env, E' 1 = .bool up → E' 6 = .int .i64 n → E' 7 = .int .i64 (rRootLoop n j r) → Q (.exit 0) E' H) → ARounds Try.prog 48 c Q (j + 1) E H := by
 rw [show Try.f113.body.bind loopOf = some _ from rfl] at hc
 cases hc
 intro j
 induction j with
 | zero =>
  intro r k E hj hk h1 h6 h7 h8 hn
  obtain rfl : k = -1 := by omega
  obtain ⟨E0, rfl⟩ := env4 h1 h6 h7 h8
  refine ar_round (aQ (aQ (aL (aM 19 (.int .i64 (-1)) rfl rfl (aB 20 (.bool false) rfl rfl rfl (bi_geq (by decide)) (aN (ac_else rfl (ac_exit ?_))))))))
  exact hn _ rfl rfl rfl
 | succ j ih =>
  intro r k E hj hk h1 h6 h7 h8 hn
  obtain rfl : k = (j : Int) := by omega
  obtain ⟨E0, rfl⟩ := env4 h1 h6 h7 h8
  have h0 : decide ((j : Int) ≥ 0) = true := decide_eq_true (by omega)
  refine ar_round ?_
  cases h9 : decide ((w64 ((w64 (r + (w64 (1 * 2 ^ (min (Int.toNat (IntKind.u64.wrap (j : Int))) 64))))) * (w64 (r + (w64 (1 * 2 ^ (min (Int.toNat (IntKind.u64.wrap (j : Int))) 64))))))) ≤ n) with
  | false =>
   refine aQ (aQ (aL (aM 19 (.int .i64 (j : Int)) rfl rfl (aB 20 (.bool (decide ((j : Int) ≥ 0))) rfl rfl rfl (bi_geq rfl) (aN (ac_then' (b := decide ((j : Int) ≥ 0)) h0 rfl (ac_skip (aQ (ac_block (aQ (aL (aM 23 (.int .i64 r) rfl rfl (aM 24 (.int .i64 (j : Int)) rfl rfl (ao 25 rfl rfl (st_cv_int (k := .u64) (a := (j : Int)) (c := (IntKind.u64.wrap (j : Int))) Try.underlying144 Try.underlying3 rfl rfl rfl (aB 26 (.int .i64 (w64 (1 * 2 ^ (min (Int.toNat (IntKind.u64.wrap (j : Int))) 64)))) rfl rfl rfl (bi_shl rfl (by rw [IntKind.wrap_u64]; omega)) ?_))))))))))))))))
   refine aB 27 (.int .i64 (w64 (r + (w64 (1 * 2 ^ (min (Int.toNat (IntKind.u64.wrap (j : Int))) 64)))))) rfl rfl rfl (bi_add rfl) (aA 9 (.int .i64 (w64 (r + (w64 (1 * 2 ^ (min (Int.toNat (IntKind.u64.wrap (j : Int))) 64)))))) rfl rfl (aN (aQ (aL (aM 28 (.int .i64 (w64 (r + (w64 (1 * 2 ^ (min (Int.toNat (IntKind.u64.wrap (j : Int))) 64)))))) rfl rfl (aM 29 (.int .i64 (w64 (r + (w64 (1 * 2 ^ (min (Int.toNat (IntKind.u64.wrap (j : Int))) 64)))))) rfl rfl (aB 30 (.int .i64 (w64 ((w64 (r + (w64 (1 * 2 ^ (min (Int.toNat (IntKind.u64.wrap (j : Int))) 64))))) * (w64 (r + (w64 (1 * 2 ^ (min (Int.toNat (IntKind.u64.wrap (j : Int))) 64)))))))) rfl rfl rfl (bi_mul rfl) ?_)))))))
   refine aM 31 (.int .i64 n) rfl rfl (aB 32 (.bool (decide ((w64 ((w64 (r + (w64 (1 * 2 ^ (min (Int.toNat (IntKind.u64.wrap (j : Int))) 64))))) * (w64 (r + (w64 (1 * 2 ^ (min (Int.toNat (IntKind.u64.wrap (j : Int))) 64))))))) ≤ n))) rfl rfl rfl (bi_leq rfl) (aN (ac_else' (b := decide ((w64 ((w64 (r + (w64 (1 * 2 ^ (min (Int.toNat (IntKind.u64.wrap (j : Int))) 64))))) * (w64 (r + (w64 (1 * 2 ^ (min (Int.toNat (IntKind.u64.wrap (j : Int))) 64))))))) ≤ n)) h9 rfl (ac_skip (aL (aM 21 (.int .i64 (j : Int)) rfl rfl (aB 22 (.int .i64 (w64 ((j : Int) - 1))) rfl rfl rfl (bi_sub rfl) (aA 8 (.int .i64 (w64 ((j : Int) - 1))) rfl rfl (aN ?_)))))))))
   refine ih _ _ _ (by omega) (w64_id (by omega)) rfl rfl rfl rfl (fun E' a b c => hn E' a b ?_)
   rw [c, rRootLoop, h9]; rfl
  | true =>
   refine aQ (aQ (aL (aM 19 (.int .i64 (j : Int)) rfl rfl (aB 20 (.bool (decide ((j : Int) ≥ 0))) rfl rfl rfl (bi_geq rfl) (aN (ac_then' (b := decide ((j : Int) ≥ 0)) h0 rfl (ac_skip (aQ (ac_block (aQ (aL (aM 23 (.int .i64 r) rfl rfl (aM 24 (.int .i64 (j : Int)) rfl rfl (ao 25 rfl rfl (st_cv_int (k := .u64) (a := (j : Int)) (c := (IntKind.u64.wrap (j : Int))) Try.underlying144 Try.underlying3 rfl rfl rfl (aB 26 (.int .i64 (w64 (1 * 2 ^ (min (Int.toNat (IntKind.u64.wrap (j : Int))) 64)))) rfl rfl rfl (bi_shl rfl (by rw [IntKind.wrap_u64]; omega)) ?_))))))))))))))))
   refine aB 27 (.int .i64 (w64 (r + (w64 (1 * 2 ^ (min (Int.toNat (IntKind.u64.wrap (j : Int))) 64)))))) rfl rfl rfl (bi_add rfl) (aA 9 (.int .i64 (w64 (r + (w64 (1 * 2 ^ (min (Int.toNat (IntKind.u64.wrap (j : Int))) 64)))))) rfl rfl (aN (aQ (aL (aM 28 (.int .i64 (w64 (r + (w64 (1 * 2 ^ (min (Int.toNat (IntKind.u64.wrap (j : Int))) 64)))))) rfl rfl (aM 29 (.int .i64 (w64 (r + (w64 (1 * 2 ^ (min (Int.toNat (IntKind.u64.wrap (j : Int))) 64)))))) rfl rfl (aB 30 (.int .i64 (w64 ((w64 (r + (w64 (1 * 2 ^ (min (Int.toNat (IntKind.u64.wrap (j : Int))) 64))))) * (w64 (r + (w64 (1 * 2 ^ (min (Int.toNat (IntKind.u64.wrap (j : Int))) 64)))))))) rfl rfl rfl (bi_mul rfl) ?_)))))))
   refine aM 31 (.int .i64 n) rfl rfl (aB 32 (.bool (decide ((w64 ((w64 (r + (w64 (1 * 2 ^ (min (Int.toNat (IntKind.u64.wrap (j : Int))) 64))))) * (w64 (r + (w64 (1 * 2 ^ (min (Int.toNat (IntKind.u64.wrap (j : Int))) 64))))))) ≤ n))) rfl rfl rfl (bi_leq rfl) (aN (ac_then' (b := decide ((w64 ((w64 (r + (w64 (1 * 2 ^ (min (Int.toNat (IntKind.u64.wrap (j : Int))) 64))))) * (w64 (r + (w64 (1 * 2 ^ (min (Int.toNat (IntKind.u64.wrap (j : Int))) 64))))))) ≤ n)) h9 rfl (aL (aM 33 (.int .i64 (w64 (r + (w64 (1 * 2 ^ (min (Int.toNat (IntKind.u64.wrap (j : Int))) 64)))))) rfl rfl ?_)))))
   refine aA 7 (.int .i64 (w64 (r + (w64 (1 * 2 ^ (min (Int.toNat (IntKind.u64.wrap (j : Int))) 64)))))) rfl rfl (aN (aL (aM 21 (.int .i64 (j : Int)) rfl rfl (aB 22 (.int .i64 (w64 ((j : Int) - 1))) rfl rfl rfl (bi_sub rfl) (aA 8 (.int .i64 (w64 ((j : Int) - 1))) rfl rfl (aN ?_))))))
   refine ih _ _ _ (by omega) (w64_id (by omega)) rfl rfl rfl rfl (fun E' a b c => hn E' a b ?_)
   rw [c, rRootLoop, h9]; rfl
def rRoot_e0 (a : Int) (up : Bool) : Int := (bif (w64 ((rRootLoop (w64 (a * 65536)) 24 0) * (rRootLoop (w64 (a * 65536)) 24 0))) != (w64 (a * 65536)) then (w64 ((rRootLoop (w64 (a * 65536)) 24 0) + 1)) else (rRootLoop (w64 (a * 65536)) 24 0))
def rRoot (a : Int) (up : Bool) : Int × Bool := (bif rIn a then (bif decide (a < 0) then (0, false) else (bif up then ((rTold (rRoot_e0 a up)).1, (rTold (rRoot_e0 a up)).2) else ((rTold (rRootLoop (w64 (a * 65536)) 24 0)).1, (rTold (rRootLoop (w64 (a * 65536)) 24 0)).2))) else (0, false))
set_option maxRecDepth 100000 in
theorem c_rRoot (a : Int) (up : Bool) : Gets Try.prog 113 #[.int .i64 a, .bool up] ((fun (r : Int × Bool) => (.tuple #[.int .i64 r.1, .bool r.2] : Value)) (rRoot a up)) := by
 refine gets_fin Try.func113 rfl rfl rfl (aQ (aL (aA 4 (.int .i64 0) rfl rfl (aA 5 (.bool false) rfl rfl (aN (aQ (aQ (aL (aM 10 (.int .i64 a) rfl rfl (aC 11 (c_rIn a) Try.func92 ⟨rfl, by decide⟩ rfl rfl (ao 12 rfl rfl (st_un (v := .bool (!(rIn a))) rfl rfl (un_not rfl) (aM 13 (.bool (!(rIn a))) rfl rfl ?_)))))))))))))
 refine bool_split (rIn a) (fun h1 => ?_) (fun h1 => ?_)
 ·refine ar_gd (d := (some 14)) (by show ((!(rIn a)) == false) = true; rw [h1]; rfl) rfl (st_move (v := .int .i64 a) rfl rfl (ar_gd (d := (some 15)) (by show ((!(rIn a)) == false) = true; rw [h1]; rfl) rfl (st_bi (r := .bool (decide (a < 0))) rfl rfl rfl (bi_lss rfl) (ao 16 rfl rfl (st_pkf' (b := !(rIn a)) (v := .bool (decide (a < 0))) (by rw [h1]; rfl) rfl rfl rfl (aN ?_))))))
  refine bool_split (decide (a < 0)) (fun h2 => ?_) (fun h2 => ?_)
  ·refine ac_then' (b := decide (a < 0)) h2 rfl (aQ (aL (aA 4 (.int .i64 0) rfl rfl (aA 5 (.bool false) rfl rfl (aN (ac_ret (fin_eq (v := .tuple #[.int .i64 0, .bool false]) (by show _ = (fun (r : Int × Bool) => (.tuple #[.int .i64 r.1, .bool r.2] : Value)) (rRoot a up); rw [rRoot, h2, h1] <;> rfl) (fin_ret (res_tt rfl rfl rfl)))))))))
  ·refine ac_else' (b := decide (a < 0)) h2 rfl (ac_skip (aQ (aL (aM 17 (.int .i64 a) rfl rfl (aB 18 (.int .i64 (w64 (a * 65536))) rfl rfl rfl (bi_mul rfl) (aA 6 (.int .i64 (w64 (a * 65536))) rfl rfl (aN (aQ (aL (aA 7 (.int .i64 0) rfl rfl (aN (aQ (aQ (aL (aA 8 (.int .i64 23) rfl rfl (aN (ac_block ?_)))))))))))))))))
   refine ac_rounds 25 ?_
   refine c_rRoot_loop (n := (w64 (a * 65536))) (up := up) rfl 24 0 _ _ (by decide) rfl rfl rfl rfl rfl (fun E1 q1 q6 q7 => ?_)
   obtain ⟨E0, rfl⟩ := env3 q1 q6 q7
   refine aQ (aQ (aL (aM 34 (.bool up) rfl rfl (aM 35 (.bool up) rfl rfl ?_))))
   refine bool_split (up) (fun h3 => ?_) (fun h3 => ?_)
   ·refine ar_gd (d := (some 36)) (by show (up == true) = true; rw [h3]; rfl) rfl (st_move (v := .int .i64 (rRootLoop (w64 (a * 65536)) 24 0)) rfl rfl (ar_gd (d := (some 37)) (by show (up == true) = true; rw [h3]; rfl) rfl (st_move (v := .int .i64 (rRootLoop (w64 (a * 65536)) 24 0)) rfl rfl (ar_gd (d := (some 38)) (by show (up == true) = true; rw [h3]; rfl) rfl (st_bi (r := .int .i64 (w64 ((rRootLoop (w64 (a * 65536)) 24 0) * (rRootLoop (w64 (a * 65536)) 24 0)))) rfl rfl rfl (bi_mul rfl) (ar_gd (d := (some 39)) (by show (up == true) = true; rw [h3]; rfl) rfl (st_move (v := .int .i64 (w64 (a * 65536))) rfl rfl ?_)))))))
    refine ar_gd (d := (some 40)) (by show (up == true) = true; rw [h3]; rfl) rfl (st_bi (r := .bool ((w64 ((rRootLoop (w64 (a * 65536)) 24 0) * (rRootLoop (w64 (a * 65536)) 24 0))) != (w64 (a * 65536)))) rfl rfl rfl (bi_neq rfl) (ao 41 rfl rfl (st_pkt' (b := up) (v := .bool ((w64 ((rRootLoop (w64 (a * 65536)) 24 0) * (rRootLoop (w64 (a * 65536)) 24 0))) != (w64 (a * 65536)))) h3 rfl rfl rfl (aN ?_))))
    refine ac_mergeE (fun E9 => (((Env.put E9 (some 42) (.int .i64 (rRootLoop (w64 (a * 65536)) 24 0))).put (some 43) (.int .i64 (w64 ((rRootLoop (w64 (a * 65536)) 24 0) + 1)))).put (some 7) (.int .i64 (w64 ((rRootLoop (w64 (a * 65536)) 24 0) + 1))))) (fun E9 => (((Env.put E9 (some 42) (bif (w64 ((rRootLoop (w64 (a * 65536)) 24 0) * (rRootLoop (w64 (a * 65536)) 24 0))) != (w64 (a * 65536)) then (.int .i64 (rRootLoop (w64 (a * 65536)) 24 0) : Value) else E9 42)).put (some 43) (bif (w64 ((rRootLoop (w64 (a * 65536)) 24 0) * (rRootLoop (w64 (a * 65536)) 24 0))) != (w64 (a * 65536)) then (.int .i64 (w64 ((rRootLoop (w64 (a * 65536)) 24 0) + 1)) : Value) else E9 43)).put (some 7) (.int .i64 (rRoot_e0 a up)))) (b := (w64 ((rRootLoop (w64 (a * 65536)) 24 0) * (rRootLoop (w64 (a * 65536)) 24 0))) != (w64 (a * 65536))) rfl (fun hm => ?_) (fun hm => ?_) (fun hm => ?_) ?_
    ·refine aL (aM 42 (.int .i64 (rRootLoop (w64 (a * 65536)) 24 0)) rfl rfl (aB 43 (.int .i64 (w64 ((rRootLoop (w64 (a * 65536)) 24 0) + 1))) rfl rfl rfl (bi_add rfl) (aA 7 (.int .i64 (w64 ((rRootLoop (w64 (a * 65536)) 24 0) + 1))) rfl rfl (aN ?_))))
     exact ⟨rfl, rfl, rfl⟩
    ·unfold rRoot_e0; rw [hm]; rfl
    ·unfold rRoot_e0; rw [hm]; exact ((put_self rfl).trans ((put_self rfl).trans (put_self rfl)))
    refine aQ (aL (aM 44 (.int .i64 (rRoot_e0 a up)) rfl rfl (aC 45 (c_rTold (rRoot_e0 a up)) Try.func131 ⟨rfl, by decide⟩ rfl rfl (aX 46 (.int .i64 ((rTold (rRoot_e0 a up)).1)) rfl rfl rfl (aX 47 (.bool ((rTold (rRoot_e0 a up)).2)) rfl rfl rfl (aA 4 (.int .i64 ((rTold (rRoot_e0 a up)).1)) rfl rfl (aA 5 (.bool ((rTold (rRoot_e0 a up)).2)) rfl rfl (aN (ac_ret (fin_eq (v := .tuple #[.int .i64 ((rTold (rRoot_e0 a up)).1), .bool ((rTold (rRoot_e0 a up)).2)]) (by show _ = (fun (r : Int × Bool) => (.tuple #[.int .i64 r.1, .bool r.2] : Value)) (rRoot a up); rw [rRoot, h3, h2, h1] <;> rfl) (fin_ret (res_tt rfl rfl rfl))))))))))))
   ·refine aK 36 (by show (up == true) = false; rw [h3]; rfl) rfl (aK 37 (by show (up == true) = false; rw [h3]; rfl) rfl (aK 38 (by show (up == true) = false; rw [h3]; rfl) rfl (aK 39 (by show (up == true) = false; rw [h3]; rfl) rfl (aK 40 (by show (up == true) = false; rw [h3]; rfl) rfl (ao 41 rfl rfl (st_pkf' (b := up) (v := .bool false) h3 rfl rfl rfl (aN (ac_else rfl (ac_skip (aQ (aL (aM 44 (.int .i64 (rRootLoop (w64 (a * 65536)) 24 0)) rfl rfl (aC 45 (c_rTold (rRootLoop (w64 (a * 65536)) 24 0)) Try.func131 ⟨rfl, by decide⟩ rfl rfl (aX 46 (.int .i64 ((rTold (rRootLoop (w64 (a * 65536)) 24 0)).1)) rfl rfl rfl ?_))))))))))))))
    refine aX 47 (.bool ((rTold (rRootLoop (w64 (a * 65536)) 24 0)).2)) rfl rfl rfl (aA 4 (.int .i64 ((rTold (rRootLoop (w64 (a * 65536)) 24 0)).1)) rfl rfl (aA 5 (.bool ((rTold (rRootLoop (w64 (a * 65536)) 24 0)).2)) rfl rfl (aN (ac_ret (fin_eq (v := .tuple #[.int .i64 ((rTold (rRootLoop (w64 (a * 65536)) 24 0)).1), .bool ((rTold (rRootLoop (w64 (a * 65536)) 24 0)).2)]) (by show _ = (fun (r : Int × Bool) => (.tuple #[.int .i64 r.1, .bool r.2] : Value)) (rRoot a up); rw [rRoot, h3, h2, h1] <;> rfl) (fin_ret (res_tt rfl rfl rfl)))))))
 ·refine aK 14 (by show ((!(rIn a)) == false) = false; rw [h1]; rfl) rfl (aK 15 (by show ((!(rIn a)) == false) = false; rw [h1]; rfl) rfl (ao 16 rfl rfl (st_pkt' (b := !(rIn a)) (v := .bool true) (by rw [h1]; rfl) rfl rfl rfl (aN (ac_then rfl (aQ (aL (aA 4 (.int .i64 0) rfl rfl (aA 5 (.bool false) rfl rfl (aN (ac_ret (fin_eq (v := .tuple #[.int .i64 0, .bool false]) (by show _ = (fun (r : Int × Bool) => (.tuple #[.int .i64 r.1, .bool r.2] : Value)) (rRoot a up); rw [rRoot, h1] <;> rfl) (fin_ret (res_tt rfl rfl rfl))))))))))))))
end Go.Proofs.Ythngkopcadlciaa
