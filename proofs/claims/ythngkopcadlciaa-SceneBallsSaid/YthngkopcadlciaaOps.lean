import Derived.Test.YthngkopcadlciaaDraw
import Derived.IntWalk
set_option linter.unusedVariables false
set_option linter.unusedSimpArgs false
namespace Go.Proofs.Ythngkopcadlciaa
open Go.RowKit

abbrev w64 (n : Int) : Int := IntKind.i64.wrap n
section
variable {p : Program} {n : Nat} {ops : Array Oper} {Q : Exit → Env → List Box → Prop} {l : List Oper} {E : Env} {H : List Box} {o : Oper} {ρ : Operand → Value} {K : Post}

/-! ## Steps by name -/
theorem ar_op {d : Option Nat} (hg : o.guard = none) (hd : o.dst = d) (h : Step p (ev n E) o H fun v H' => AR p n ops Q l (E.put d v) H') : AR p n ops Q (o :: l) E H := by
  subst hd
  exact ar_plain hg h
theorem ao (d : Nat) (hg : o.guard = none) (hd : o.dst = some d) (h : Step p (ev n E) o H fun v H' => AR p n ops Q l (E.put (some d) v) H') : AR p n ops Q (o :: l) E H := ar_op hg hd h
theorem ar_gd {d : Option Nat} (hg : yld n ops E o = true) (hd : o.dst = d) (h : Step p (ev n E) o H fun v H' => AR p n ops Q l (E.put d v) H') : AR p n ops Q (o :: l) E H := by
  subst hd
  exact ar_step hg h
theorem ar_sk {d : Option Nat} (hg : yld n ops E o = false) (hd : o.dst = d) (h : AR p n ops Q l (E.put d undef) H) : AR p n ops Q (o :: l) E H := by
  subst hd
  exact ar_skip hg h
theorem ar_round {c : Code} {k : Nat} (h : AC p n c (AThen (ARounds p n c Q k) Q) E H) : ARounds p n c Q (k + 1) E H := h
theorem dw_op {is : List Nat} {i : Nat} {d : Option Nat} {K : Env → Prop} (v : Value) (ho : ops[i]? = some o) (hg : o.guard = none) (hd : o.dst = d) (hs : Step p (ev n E) o H fun v' H' => v' = v ∧ H' = H)
    (h : DWalk p n ops H is (E.put d v) K) : DWalk p n ops H (i :: is) E K := by
  subst hd
  exact ⟨o, v, ho, .inl ⟨by unfold yld; rw [hg], hs⟩, h⟩
theorem dw_gd {is : List Nat} {i : Nat} {d : Option Nat} {K : Env → Prop} (v : Value) (ho : ops[i]? = some o) (hg : yld n ops E o = true) (hd : o.dst = d) (hs : Step p (ev n E) o H fun v' H' => v' = v ∧ H' = H)
    (h : DWalk p n ops H is (E.put d v) K) : DWalk p n ops H (i :: is) E K := by
  subst hd
  exact ⟨o, v, ho, .inl ⟨hg, hs⟩, h⟩
theorem dw_sk {is : List Nat} {i : Nat} {d : Option Nat} {K : Env → Prop} (ho : ops[i]? = some o) (hg : yld n ops E o = false) (hd : o.dst = d)
    (h : DWalk p n ops H is (E.put d undef) K) : DWalk p n ops H (i :: is) E K := by
  subst hd
  exact ⟨o, undef, ho, .inr ⟨hg, rfl⟩, h⟩
theorem dw_nil {K : Env → Prop} (h : K E) : DWalk p n ops H [] E K := h

/-- A box's type, as the program has it. -/
structure Zero (p : Program) (t : TypeId) (cs : List Value) : Prop where
  out : ∃ z, (p.info? t).map (·.zero) = some (some z) ∧ z.cells = cs.toArray
theorem ac_draw0 {id : Nat} (fx ta : List Nat) (tl : List Oper) (hok : drawOk ops fx [] ta = true) (hm : p.follows .mixedOrders = true) (htl : (ta.map fun i => (ops[i]?).getD default) = tl)
    (h : DWalk p n ops H fx E fun E => AR p n ops Q tl E H) : AC p n (.region id ops true) Q E H := by
  subst htl
  exact ac_draw fx ta [] hok hm (by simp) (by simpa [putAll] using h)
theorem dwalk_mono {K K' : Env → Prop} (hk : ∀ E, K E → K' E) : ∀ (is : List Nat) (E : Env), DWalk p n ops H is E K → DWalk p n ops H is E K' := by
  intro is
  induction is with
  | nil => intro E h; exact hk _ h
  | cons i is ih => rintro E ⟨o, v, ho, hs, h⟩; exact ⟨o, v, ho, hs, ih _ h⟩
theorem ac_draw1 {id : Nat} (fx ta : List Nat) (i d t : Nat) (cs : List Value) (tl : List Oper) (hok : drawOk ops fx [i] ta = true) (hm : p.follows .mixedOrders = true) (htl : (ta.map fun i => (ops[i]?).getD default) = tl)
    (hz : Zero p t cs) (hi : ∃ o, ops[i]? = some o ∧ o.op = .alloc t ∧ o.guard = none ∧ o.dst = some d)
    (h : DWalk p n ops H fx E fun E => ∀ g, AR p n ops Q tl (E.put (some d) (.pointer (some ⟨g, 0, none⟩))) (⟨g, cs, t, false⟩ :: H)) : AC p n (.region id ops true) Q E H := by
  subst htl
  obtain ⟨o, ho, h1, h2, h3⟩ := hi
  obtain ⟨z, hz1, hz2⟩ := hz.out
  refine ac_draw fx ta [⟨i, t, cs⟩] hok hm (fun x hx => by obtain rfl := List.mem_singleton.1 hx; exact ⟨o, z, ho, h1, h2, hz1, hz2⟩) ?_
  refine dwalk_mono ?_ _ _ h
  intro E hE gs
  have := hE (gs i)
  simpa [putAll, dstOf, ho, h3, ptr] using this
theorem ac_draw2 {id : Nat} (fx ta : List Nat) (i d t j e u : Nat) (cs ds : List Value) (tl : List Oper) (hok : drawOk ops fx [i, j] ta = true) (hm : p.follows .mixedOrders = true) (htl : (ta.map fun i => (ops[i]?).getD default) = tl)
    (hz : Zero p t cs) (hi : ∃ o, ops[i]? = some o ∧ o.op = .alloc t ∧ o.guard = none ∧ o.dst = some d) (hy : Zero p u ds) (hj : ∃ o, ops[j]? = some o ∧ o.op = .alloc u ∧ o.guard = none ∧ o.dst = some e)
    (h : DWalk p n ops H fx E fun E => ∀ g g', AR p n ops Q tl ((E.put (some d) (.pointer (some ⟨g, 0, none⟩))).put (some e) (.pointer (some ⟨g', 0, none⟩))) (⟨g, cs, t, false⟩ :: ⟨g', ds, u, false⟩ :: H)) : AC p n (.region id ops true) Q E H := by
  subst htl
  obtain ⟨o, ho, h1, h2, h3⟩ := hi
  obtain ⟨o', ho', h1', h2', h3'⟩ := hj
  obtain ⟨z, hz1, hz2⟩ := hz.out
  obtain ⟨z', hz1', hz2'⟩ := hy.out
  refine ac_draw fx ta [⟨i, t, cs⟩, ⟨j, u, ds⟩] hok hm (fun x hx => by
    rcases List.mem_cons.1 hx with rfl | hx
    · exact ⟨o, z, ho, h1, h2, hz1, hz2⟩
    · obtain rfl := List.mem_singleton.1 hx
      exact ⟨o', z', ho', h1', h2', hz1', hz2'⟩) ?_
  refine dwalk_mono ?_ _ _ h
  intro E hE gs
  have := hE (gs i) (gs j)
  simpa [putAll, dstOf, ho, h3, ho', h3', ptr] using this
theorem st_new {t : TypeId} {cs : List Value} (hz : Zero p t cs) (ho : o.op = .alloc t) (k : ∀ g, K (.pointer (some ⟨g, 0, none⟩)) (⟨g, cs, t, false⟩ :: H)) : Step p ρ o H K := by
  obtain ⟨z, h1, h2⟩ := hz.out
  exact st_alloc ho h1 h2 k

/-- Types: structs and arrays of n cells. -/
structure IsAgg (p : Program) (t : TypeId) (n : Nat) : Prop where
  out : ∃ d, p.underlying t = some d ∧ aggD d = true ∧ (p.info? t).map (·.size) = some n
structure IsCell (p : Program) (t : TypeId) : Prop where
  out : ∃ d, p.underlying t = some d ∧ aggD d = false ∧ (p.info? t).map (·.size) = some 1
theorem st_lda {t : TypeId} {x : Operand} {g off : Nat} {b : Box} {vs : List Value} {m : Nat} (ha : IsAgg p t m) (i : Nat) (ho : o.op = .load t x) (hx : ρ x = .pointer (some ⟨g, off, none⟩)) (hm : H[i]? = some b) (hg : b.g = g)
    (hn : vs.length = m) (hv : (b.cs.drop off).take m = vs) (k : K (.agg vs.toArray) H) : Step p ρ o H K := by
  obtain ⟨d, h1, h2, h3⟩ := ha.out
  exact st_load_agg i ho hx hm hg h1 h2 (by rw [h3, hn]) (by rw [hn, hv]) k
theorem st_ldc {t : TypeId} {x : Operand} {g off : Nat} {b : Box} {v : Value} (ha : IsCell p t) (i : Nat) (ho : o.op = .load t x) (hx : ρ x = .pointer (some ⟨g, off, none⟩)) (hm : H[i]? = some b) (hg : b.g = g)
    (hv : b.cs[off]? = some v) (k : K v H) : Step p ρ o H K := by
  obtain ⟨d, h1, h2, _⟩ := ha.out
  exact st_load i ho hx hm hg h1 h2 hv k
theorem st_sta {t : TypeId} {x y : Operand} {g off : Nat} {b : Box} {us cs : List Value} {m : Nat} (ha : IsAgg p t m) (i : Nat) (ho : o.op = .store t x y) (hx : ρ x = .pointer (some ⟨g, off, none⟩)) (hy : ρ y = .agg us.toArray) (hm : H[i]? = some b) (hg : b.g = g)
    (hn : us.length = m) (hle : Nat.ble (off + m) b.cs.length = true) (h1 : us.all (·.oneCell') = true) (hcs : b.cs.take off ++ us ++ b.cs.drop (off + m) = cs) (k : K undef (upd H i cs)) (hro : b.ro = false := by rfl) : Step p ρ o H K := by
  obtain ⟨d, _, _, h3⟩ := ha.out
  subst hn
  exact st_store i ho hx hy rfl hm hg h3 hle h1 hcs k hro
theorem st_stc {t : TypeId} {x y : Operand} {g off : Nat} {b : Box} {u : Value} {cs : List Value} (ha : IsCell p t) (i : Nat) (ho : o.op = .store t x y) (hx : ρ x = .pointer (some ⟨g, off, none⟩)) (hy : ρ y = u) (hu : u.cells = #[u]) (hm : H[i]? = some b) (hg : b.g = g)
    (hle : Nat.ble (off + 1) b.cs.length = true) (h1 : u.oneCell' = true) (hcs : b.cs.take off ++ [u] ++ b.cs.drop (off + 1) = cs) (k : K undef (upd H i cs)) (hro : b.ro = false := by rfl) : Step p ρ o H K := by
  obtain ⟨d, _, _, h3⟩ := ha.out
  exact st_store (us := [u]) i ho hx hy (by rw [hu]) hm hg h3 hle (by simp [h1]) hcs k hro
theorem st_upd {i : Nat} {cs : List Value} {H' : List Box} {v : Value} (h : upd H i cs = H') (k : K v H') : K v (upd H i cs) := h ▸ k

/-! ## Facts on single operations -/
structure Runs (p : Program) (s : Sem Value) (v : Value) : Prop where
  out : ∀ w, s.run p w = .ok v w
theorem st_run {s : Sem Value} {v : Value} (he : execOp ρ o = (do pure (.value (← s)))) (hr : Runs p s v) (k : K v H) : Step p ρ o H K :=
  st_val (fun w => by rw [he]; simp [Sem.run_bind, hr.out w]) k
theorem st_fa {t f : Nat} {x : Operand} {g off j : Nat} (ho : o.op = .fieldAddr t x f) (hr : ∀ a, Runs p (Instr.fieldAt t (.pointer (some a)) f) (.pointer (some (a.add j)))) (hx : ρ x = .pointer (some ⟨g, off, none⟩)) (k : K (.pointer (some ⟨g, off + j, none⟩)) H) : Step p ρ o H K :=
  st_run (s := Instr.fieldAt t (.pointer (some ⟨g, off, none⟩)) f) (by rw [execOp, ho]; simp only [hx]) (by have := hr ⟨g, off, none⟩; rw [add_at] at this; exact this) k
theorem st_fv {t f : Nat} {x : Operand} {u v : Value} (ho : o.op = .field t x f) (hx : ρ x = u) (hr : Runs p (Instr.field t u f) v) (k : K v H) : Step p ρ o H K :=
  st_run (s := Instr.field t u f) (by rw [execOp, ho]; simp only [hx]) hr k
theorem st_ix {t : Nat} {x y : Operand} {u i v : Value} (ho : o.op = .index t x y) (hx : ρ x = u) (hy : ρ y = i) (hr : Runs p (Instr.index t u i) v) (k : K v H) : Step p ρ o H K :=
  st_run (s := Instr.index t u i) (by rw [execOp, ho]; simp only [hx, hy]) hr k
theorem st_ia {t : Nat} {x y : Operand} {u i v : Value} (ho : o.op = .indexAddr t x y) (hx : ρ x = u) (hy : ρ y = i) (hr : Runs p (Instr.indexAt t u i) v) (k : K v H) : Step p ρ o H K :=
  st_run (s := Instr.indexAt t u i) (by rw [execOp, ho]; simp only [hx, hy]) hr k
theorem st_bd {t : Nat} {ps : List (Nat × Operand)} {us : List (Nat × Value)} {v : Value} (ho : o.op = .build t ps.toArray) (hx : (ps.map fun x => (x.1, ρ x.2)) = us) (hr : Runs p (Instr.build t us.toArray) v) (k : K v H) : Step p ρ o H K :=
  st_run (s := Instr.build t us.toArray) (by rw [execOp, ho]; simp only [List.map_toArray]; rw [← hx]) hr k
theorem st_ex {x : Operand} {i : Nat} {vs : List Value} {v : Value} (ho : o.op = .extract x i) (hx : ρ x = .tuple vs.toArray) (hi : vs[i]? = some v) (k : K v H) : Step p ρ o H K :=
  st_run (s := Instr.extract (.tuple vs.toArray) i) (by rw [execOp, ho]; simp only [hx]) ⟨fun w => by simp [Instr.extract, hi]⟩ k
theorem st_cv_int {t u : Nat} {x : Operand} {k : IntKind} {a c : Int} (hu : p.underlying u = some (.int k)) (ht : p.underlying t = some (.int .i64)) (ho : o.op = .convert t u x) (hx : ρ x = .int .i64 a) (h : k.wrap a = c) (kk : K (.int k c) H) : Step p ρ o H K :=
  st_run (s := convert t u (.int .i64 a)) (by rw [execOp, ho]; simp only [hx]) ⟨fun w => by simp [convert, Sem.run_bind, run_underlying hu w, run_underlying ht w, Conv.intToInt, h]⟩ kk
theorem st_un {op : UnOp} {t : Nat} {x : Operand} {u v : Value} (ho : o.op = .unOp op t x) (hx : ρ x = u) (hr : Runs p (Op.unary op u) v) (k : K v H) : Step p ρ o H K :=
  st_run (s := Op.unary op u) (by rw [execOp, ho]; simp only [hx]) hr k
theorem st_pkt {c x y : Operand} {v : Value} (ho : o.op = .pick c x y) (hc : ρ c = .bool true) (hx : ρ x = v) (k : K v H) : Step p ρ o H K := st_pick ho hc hx rfl rfl k
theorem st_pkf {c x y : Operand} {v : Value} (ho : o.op = .pick c x y) (hc : ρ c = .bool false) (hx : ρ y = v) (k : K v H) : Step p ρ o H K := st_pick ho hc rfl hx rfl k
theorem st_pkt' {c x y : Operand} {b : Bool} {v : Value} (hb : b = true) (ho : o.op = .pick c x y) (hc : ρ c = .bool b) (hx : ρ x = v) (k : K v H) : Step p ρ o H K := st_pkt ho (hb ▸ hc) hx k
theorem st_pkf' {c x y : Operand} {b : Bool} {v : Value} (hb : b = false) (ho : o.op = .pick c x y) (hc : ρ c = .bool b) (hx : ρ y = v) (k : K v H) : Step p ρ o H K := st_pkf ho (hb ▸ hc) hx k
theorem ac_then' {c : Operand} {x y : Code} {b : Bool} (hb : b = true) (hc : ev n E c = .bool b) (h : AC p n x Q E H) : AC p n (.cond c x y) Q E H := ac_then (hb ▸ hc) h
theorem ac_else' {c : Operand} {x y : Code} {b : Bool} (hb : b = false) (hc : ev n E c = .bool b) (h : AC p n y Q E H) : AC p n (.cond c x y) Q E H := ac_else (hb ▸ hc) h
theorem st_bi {op : BinOp} {t y' : Nat} {x y : Operand} {u v r : Value} (ho : o.op = .binOp op t x y y') (hx : ρ x = u) (hy : ρ y = v) (hr : ∀ x y : Operand, Runs p (do eqGuard op t x y u v; binOp op t u v) r) (k : K r H) : Step p ρ o H K :=
  st_run (s := do eqGuard op t x y u v; binOp op t u v) (by rw [execOp, ho]; simp only [hx, hy]) (hr x y) k
theorem un_not {b c : Bool} (h : (!b) = c) : Runs p (Op.unary .not (.bool b)) (.bool c) := ⟨fun w => by rw [← h]; rfl⟩
theorem un_neg {a c : Int} (h : w64 (0 - a) = c) : Runs p (Op.unary .neg (.int .i64 a)) (.int .i64 c) := ⟨fun w => by rw [← h]; rfl⟩
section
variable {t : Nat} {a b c : Int} {d : Bool}
theorem bi_add (h : w64 (a + b) = c) (x y : Operand) : Runs p (do eqGuard .add t x y (.int .i64 a) (.int .i64 b); binOp .add t (.int .i64 a) (.int .i64 b)) (.int .i64 c) := ⟨fun w => by rw [← h]; rfl⟩
theorem bi_sub (h : w64 (a - b) = c) (x y : Operand) : Runs p (do eqGuard .sub t x y (.int .i64 a) (.int .i64 b); binOp .sub t (.int .i64 a) (.int .i64 b)) (.int .i64 c) := ⟨fun w => by rw [← h]; rfl⟩
theorem bi_mul (h : w64 (a * b) = c) (x y : Operand) : Runs p (do eqGuard .mul t x y (.int .i64 a) (.int .i64 b); binOp .mul t (.int .i64 a) (.int .i64 b)) (.int .i64 c) := ⟨fun w => by rw [← h]; rfl⟩
theorem bi_quo (hb : b ≠ 0) (h : w64 (a.tdiv b) = c) (x y : Operand) : Runs p (do eqGuard .quo t x y (.int .i64 a) (.int .i64 b); binOp .quo t (.int .i64 a) (.int .i64 b)) (.int .i64 c) := ⟨fun w => by rw [← h]; simp [eqGuard, binOp, Op.intDiv, hb]⟩
theorem bi_rem (hb : b ≠ 0) (h : a.tmod b = c) (x y : Operand) : Runs p (do eqGuard .rem t x y (.int .i64 a) (.int .i64 b); binOp .rem t (.int .i64 a) (.int .i64 b)) (.int .i64 c) := ⟨fun w => by rw [← h]; simp [eqGuard, binOp, Op.intDiv, hb]⟩
theorem bi_lss (h : decide (a < b) = d) (x y : Operand) : Runs p (do eqGuard .lss t x y (.int .i64 a) (.int .i64 b); binOp .lss t (.int .i64 a) (.int .i64 b)) (.bool d) := ⟨fun w => by rw [← h]; rfl⟩
theorem bi_leq (h : decide (a ≤ b) = d) (x y : Operand) : Runs p (do eqGuard .leq t x y (.int .i64 a) (.int .i64 b); binOp .leq t (.int .i64 a) (.int .i64 b)) (.bool d) := ⟨fun w => by rw [← h]; rfl⟩
theorem bi_gtr (h : decide (a > b) = d) (x y : Operand) : Runs p (do eqGuard .gtr t x y (.int .i64 a) (.int .i64 b); binOp .gtr t (.int .i64 a) (.int .i64 b)) (.bool d) := ⟨fun w => by rw [← h]; rfl⟩
theorem bi_geq (h : decide (a ≥ b) = d) (x y : Operand) : Runs p (do eqGuard .geq t x y (.int .i64 a) (.int .i64 b); binOp .geq t (.int .i64 a) (.int .i64 b)) (.bool d) := ⟨fun w => by rw [← h]; rfl⟩
theorem bi_shr {m : Nat} (h : Int.fdiv a m = c) (hm : (2 : Int) ^ (min (Int.toNat b) 64) = m) (hb : ¬ b < 0) (x y : Operand) : Runs p (do eqGuard .shr t x y (.int .i64 a) (.int .i64 b); binOp .shr t (.int .i64 a) (.int .i64 b)) (.int .i64 c) := ⟨fun w => by rw [← h, ← hm]; simp [eqGuard, binOp, Op.shift, hb, IntKind.bits]⟩
theorem bi_shl {k : IntKind} {m : Int} (hm : IntKind.i64.wrap (a * 2 ^ (min (Int.toNat b) 64)) = m) (hb : ¬ b < 0) (x y : Operand) : Runs p (do eqGuard .shl t x y (.int .i64 a) (.int k b); binOp .shl t (.int .i64 a) (.int k b)) (.int .i64 m) := ⟨fun w => by rw [← hm]; simp [eqGuard, binOp, Op.shift, hb, IntKind.bits]⟩
theorem bi_or (h : w64 ((BitVec.ofInt 64 a ||| BitVec.ofInt 64 b).toNat : Int) = c) (x y : Operand) : Runs p (do eqGuard .or t x y (.int .i64 a) (.int .i64 b); binOp .or t (.int .i64 a) (.int .i64 b)) (.int .i64 c) := ⟨fun w => by rw [← h]; rfl⟩
theorem bi_eql (h : (a == b) = d) (x y : Operand) : Runs p (do eqGuard .eql t x y (.int .i64 a) (.int .i64 b); binOp .eql t (.int .i64 a) (.int .i64 b)) (.bool d) := ⟨fun w => by rw [← h]; rfl⟩
theorem bi_neq (h : (a != b) = d) (x y : Operand) : Runs p (do eqGuard .neq t x y (.int .i64 a) (.int .i64 b); binOp .neq t (.int .i64 a) (.int .i64 b)) (.bool d) := ⟨fun w => by rw [← h]; rfl⟩
end

theorem run_fa {t f : Nat} {fs : Array Field} {fd : Field} {m off : Nat} (hu : p.underlying t = some (.struct fs)) (hf : fs[f]? = some fd) (ho : fd.offset = off) (hi : (p.info? fd.type).map (·.size) = some m) (hm : m ≠ 0) (a : Addr) : Runs p (Instr.fieldAt t (.pointer (some a)) f) (.pointer (some (a.add off))) := ⟨fun w => by
  subst ho
  cases hq : p.info? fd.type with
  | none => simp [hq] at hi
  | some inf =>
    have hs : inf.size = m := by simpa [hq] using hi
    simp [Instr.fieldAt, Sem.run_bind, run_underlying hu w, hf, Instr.sureAddr, fieldPlace, sizeOf, typeInfo, hq, hs, hm]⟩
theorem run_ia {t n e i m : Nat} (hu : p.underlying t = some (.array n e)) (hi : (p.info? e).map (·.size) = some m) {j : Nat} (hj : i * m = j) (g off : Nat) (hlt : i < n) (h0 : (0 : Int) ≤ i) : Runs p (Instr.indexAt t (.pointer (some ⟨g, off, none⟩)) (.int .i64 i)) (.pointer (some ⟨g, off + j, none⟩)) := ⟨fun w => by
  cases hq : p.info? e with
  | none => simp [hq] at hi
  | some inf =>
    have hs : inf.size = m := by simpa [hq] using hi
    have hadd := add_at g off j
    simp [Instr.indexAt, Sem.run_bind, run_underlying hu w, Instr.sureAddr, asIntOf, sizeOf, typeInfo, hq, hs, hlt, hj, hadd]⟩
/-! ## '==' of structs -/
section
variable {d off m : Nat} {xs ys : List Value} {f : Field} {fs : List Field} {a b : Value} {r s : Bool} {w : World}
theorem part_c {t : Nat} {v : Value} (h : IsCell p t) (hv : xs[off]? = some v) : (part t xs.toArray off).run p w = .ok v w := by
  obtain ⟨d, h1, h2, _⟩ := h.out
  have hagg : (isAgg t).run p w = .ok false w := by
    unfold isAgg
    rw [Sem.run_bind, run_underlying h1 w]
    cases d <;> simp_all [aggD]
  simp [part, Sem.run_bind, hagg, hv]
theorem part_a {t : Nat} {vs : List Value} (h : IsAgg p t m) (hv : (xs.drop off).take m = vs) : (part t xs.toArray off).run p w = .ok (.agg vs.toArray) w := by
  obtain ⟨d, h1, h2, h3⟩ := h.out
  have hagg : (isAgg t).run p w = .ok true w := by
    unfold isAgg
    rw [Sem.run_bind, run_underlying h1 w]
    cases d <;> simp_all [aggD]
  cases hq : p.info? t with
  | none => simp [hq] at h3
  | some inf =>
    have hs : inf.size = m := by simpa [hq] using h3
    have he : off + m - off = m := by omega
    simp [part, Sem.run_bind, hagg, sizeOf, typeInfo, hq, hs, he, hv]
theorem run_ixc {t n e i : Nat} {v : Value} (hu : p.underlying t = some (.array n e)) (hc : IsCell p e) (hlt : i < n) (h0 : (0 : Int) ≤ i) (hv : xs[i]? = some v) : Runs p (Instr.index t (.agg xs.toArray) (.int .i64 i)) v := ⟨fun w => by
  have hp := part_c (w := w) (off := i) hc hv
  obtain ⟨d, h1, h2, h3⟩ := hc.out
  cases hq : p.info? e with
  | none => simp [hq] at h3
  | some inf =>
    have hs : inf.size = 1 := by simpa [hq] using h3
    simp [Instr.index, asIntOf, Sem.run_bind, run_underlying hu w, hlt, sizeOf, typeInfo, hq, hs, hp]⟩
theorem run_ixa {t n e i j : Nat} {vs : List Value} (hu : p.underlying t = some (.array n e)) (hc : IsAgg p e m) (hlt : i < n) (h0 : (0 : Int) ≤ i) (hj : i * m = j) (hv : (xs.drop j).take m = vs) : Runs p (Instr.index t (.agg xs.toArray) (.int .i64 i)) (.agg vs.toArray) := ⟨fun w => by
  have hp := part_a (w := w) (off := j) hc hv
  obtain ⟨d, h1, h2, h3⟩ := hc.out
  cases hq : p.info? e with
  | none => simp [hq] at h3
  | some inf =>
    have hs : inf.size = m := by simpa [hq] using h3
    simp [Instr.index, asIntOf, Sem.run_bind, run_underlying hu w, hlt, sizeOf, typeInfo, hq, hs, hj, hp]⟩
theorem eqf_c (hn : (f.name == "_") = false) (ha : (part f.type xs.toArray f.offset).run p w = .ok a w) (hb : (part f.type ys.toArray f.offset).run p w = .ok b w) (he : (Op.equalIn d f.type a b).run p w = .ok r w) (hr : (Op.eqFields d xs.toArray ys.toArray fs).run p w = .ok s w) : (Op.eqFields d xs.toArray ys.toArray (f :: fs)).run p w = .ok (r && s) w := by
  have hn' : f.name ≠ "_" := by simpa using hn
  rw [Op.eqFields]
  simp only [if_pos hn', Sem.run_bind, ha, hb, he, Result.andThen_ok]
  cases r
  · simp
  · simpa using hr
theorem eqf_n : (Op.eqFields d xs.toArray ys.toArray []).run p w = .ok true w := by simp [Op.eqFields]
theorem eqf_s {t : TypeId} {fs : List Field} (hu : p.underlying t = some (.struct fs.toArray)) (hp : p.stoodInHeld t = false) (h : (Op.eqFields d xs.toArray ys.toArray fs).run p w = .ok r w) : (Op.equalIn (d + 1) t (.agg xs.toArray) (.agg ys.toArray)).run p w = .ok r w := by
  have hf : p.fieldsOf t = fs.toArray := by simp [Program.fieldsOf, hu]
  rw [run_equalIn_struct (P := p) w d t xs.toArray ys.toArray (by rw [hf]; exact hu) hp, hf]
  exact h
theorem bs_eql {t : Nat} {xs ys : Array Value} {c d : Bool} (hg : p.eqGuardType p.depth t = false) (he : ∀ w, (Op.equalIn 10000 t (.agg xs) (.agg ys)).run p w = .ok c w) (h : c = d) (x y : Operand) : Runs p (do eqGuard .eql t x y (.agg xs) (.agg ys); binOp .eql t (.agg xs) (.agg ys)) (.bool d) := ⟨fun w => by
  rw [← h, Sem.run_bind, run_eqGuard_agg w .eql t x y xs ys hg]
  simp only [Result.andThen_ok]
  rw [run_eql_struct, he w]
  rfl⟩
theorem bs_neq {t : Nat} {xs ys : Array Value} {c d : Bool} (hg : p.eqGuardType p.depth t = false) (he : ∀ w, (Op.equalIn 10000 t (.agg xs) (.agg ys)).run p w = .ok c w) (h : (!c) = d) (x y : Operand) : Runs p (do eqGuard .neq t x y (.agg xs) (.agg ys); binOp .neq t (.agg xs) (.agg ys)) (.bool d) := ⟨fun w => by
  rw [← h, Sem.run_bind, run_eqGuard_agg w .neq t x y xs ys hg]
  simp only [Result.andThen_ok]
  rw [run_neq_struct, he w]
  rfl⟩
end
/-! ## Calls -/
theorem gets_eq {f : FuncId} {args : Array Value} {v v' : Value} (h : Gets p f args v) (e : v = v') : Gets p f args v' := e ▸ h
theorem st_cf {f : FuncId} {args : List Operand} {ts : Array TypeId} {vs : List Value} {r : Value} {fn : Func} {c : Code} (h : Gets p f vs.toArray r) (hfn : p.funcs[f]? = some fn) (hb : fn.body = some c) (hnm : (fn.name == "runtime.NumGoroutine") = false)
    (ho : o.op = .call { callee := .value (.func f), args := args.toArray, argTypes := ts }) (hf : ρ (.func f) = .func (.func f) #[] #[]) (hv : args.map ρ = vs) (k : K r H) : Step p ρ o H K := st_call ho hf hv hfn hb hnm h k
theorem gets_args {f : FuncId} {args args' : Array Value} {v : Value} (h : Gets p f args' v) (e : args = args') : Gets p f args v := e ▸ h
theorem gets_bif {α : Type} {enc : α → Value} {f : FuncId} {args : Array Value} {c : Bool} {x y : α} (ht : c = true → Gets p f args (enc x)) (hf : c = false → Gets p f args (enc y)) : Gets p f args (enc (bif c then x else y)) := by
  cases c
  · exact hf rfl
  · exact ht rfl
theorem eT.{u} {α : Sort u} {c : Bool} {a b x : α} (h : c = true) (k : a = x) : cond c a b = x := by rw [h]; exact k
theorem eF.{u} {α : Sort u} {c : Bool} {a b x : α} (h : c = false) (k : b = x) : cond c a b = x := by rw [h]; exact k
theorem ne_of_dgt {a k : Int} (h : decide (a > k) = true) (hk : 0 ≤ k) : a ≠ 0 := by
  have := of_decide_eq_true h
  omega
theorem ne_of_beq0 {a : Int} (h : (a == 0) = false) : a ≠ 0 := by
  intro e
  rw [e] at h
  cases h
/-- a call of a function's value. -/
theorem st_cv {f : FuncId} {x : Operand} {args : List Operand} {ts : Array TypeId} {vs : List Value} {r : Value} {fn : Func} {c : Code} (h : Gets p f vs.toArray r) (hfn : p.funcs[f]? = some fn) (hb : fn.body = some c) (hnm : (fn.name == "runtime.NumGoroutine") = false)
    (ho : o.op = .call { callee := .value x, args := args.toArray, argTypes := ts }) (hf : ρ x = .func (.func f) #[] #[]) (hv : args.map ρ = vs) (k : K r H) : Step p ρ o H K := by
  intro F β w hO hB
  have e : (execOp ρ o).run p w = .ok (.enter f vs.toArray) w := by
    rw [execOp, ho]
    simp only [resolve, hf, Deferred.ofValue, List.map_toArray, hv]
    have hnm' : ¬ fn.name = "runtime.NumGoroutine" := by simpa using hnm
    simp [Sem.run_bind, invoke, callFunc, hfn, hnm', hb]
  rw [e]
  exact (h w).mono fun e w' ⟨he, hb'⟩ => ⟨r, H, he, k, hO.below hb', hB.trans hb'⟩
theorem st_mn {ts : Array TypeId} {args : List Operand} {x y c : Int} (ho : o.op = .call { callee := .builtin .min, args := args.toArray, argTypes := ts }) (hv : args.map ρ = [.int .i64 x, .int .i64 y]) (h : min x y = c) (k : K (.int .i64 c) H) : Step p ρ o H K := by
  refine st_val (fun w => ?_) k
  rw [execOp, ho, ← h]
  simp only [resolve, List.map_toArray, hv]
  have e : (if y < x then y else x) = min x y := by rw [Int.min_def]; split <;> split <;> omega
  simp [invoke, builtin, Builtin.min_, Builtin.min2, Sem.run_bind, e]
theorem st_mx {ts : Array TypeId} {args : List Operand} {x y c : Int} (ho : o.op = .call { callee := .builtin .max, args := args.toArray, argTypes := ts }) (hv : args.map ρ = [.int .i64 x, .int .i64 y]) (h : max x y = c) (k : K (.int .i64 c) H) : Step p ρ o H K := by
  refine st_val (fun w => ?_) k
  rw [execOp, ho, ← h]
  simp only [resolve, List.map_toArray, hv]
  have e : (if x < y then y else x) = max x y := by rw [Int.max_def]; split <;> split <;> omega
  simp [invoke, builtin, Builtin.max_, Builtin.max2, Sem.run_bind, e]

theorem st_mn3 {ts : Array TypeId} {args : List Operand} {x y z c : Int} (ho : o.op = .call { callee := .builtin .min, args := args.toArray, argTypes := ts }) (hv : args.map ρ = [.int .i64 x, .int .i64 y, .int .i64 z]) (h : min (min x y) z = c) (k : K (.int .i64 c) H) : Step p ρ o H K := by
  refine st_val (fun w => ?_) k
  rw [execOp, ho, ← h]
  simp only [resolve, List.map_toArray, hv]
  have e : ∀ x y : Int, (if y < x then y else x) = min x y := fun x y => by rw [Int.min_def]; split <;> split <;> omega
  simp [invoke, builtin, Builtin.min_, Builtin.min2, Sem.run_bind, e]
theorem st_mx3 {ts : Array TypeId} {args : List Operand} {x y z c : Int} (ho : o.op = .call { callee := .builtin .max, args := args.toArray, argTypes := ts }) (hv : args.map ρ = [.int .i64 x, .int .i64 y, .int .i64 z]) (h : max (max x y) z = c) (k : K (.int .i64 c) H) : Step p ρ o H K := by
  refine st_val (fun w => ?_) k
  rw [execOp, ho, ← h]
  simp only [resolve, List.map_toArray, hv]
  have e : ∀ x y : Int, (if x < y then y else x) = max x y := fun x y => by rw [Int.max_def]; split <;> split <;> omega
  simp [invoke, builtin, Builtin.max_, Builtin.max2, Sem.run_bind, e]

theorem st_mx4 {ts : Array TypeId} {args : List Operand} {x y z u c : Int} (ho : o.op = .call { callee := .builtin .max, args := args.toArray, argTypes := ts }) (hv : args.map ρ = [.int .i64 x, .int .i64 y, .int .i64 z, .int .i64 u]) (h : max (max (max x y) z) u = c) (k : K (.int .i64 c) H) : Step p ρ o H K := by
  refine st_val (fun w => ?_) k
  rw [execOp, ho, ← h]
  simp only [resolve, List.map_toArray, hv]
  have e : ∀ x y : Int, (if x < y then y else x) = max x y := fun x y => by rw [Int.max_def]; split <;> split <;> omega
  simp [invoke, builtin, Builtin.max_, Builtin.max2, Sem.run_bind, e]

/-! ## The end -/
def Fin (p : Program) (fn : Func) (n : Nat) (v : Value) : Exit → Env → List Box → Prop := fun e E H => (e = .ret ∨ e = .normal) ∧ Res p fn n E H v
theorem gets_fin {f : FuncId} {fn : Func} {c : Code} {args : Array Value} {v : Value} {n : Nat} (hf : p.funcs[f]? = some fn) (hb : fn.body = some c) (hn : fn.ntmps = n) (ha : Nat.ble args.size n = true)
    (h : AC p n c (Fin p fn n v) (envOf args) []) : Gets p f args v := gets_of hf hb hn ha h
theorem bool_split {G : Prop} (c : Bool) (ht : c = true → G) (hf : c = false → G) : G := by
  cases hc : c
  · exact hf hc
  · exact ht hc
theorem fin_eq {fn : Func} {v v' : Value} {e : Exit} (hv : v = v') (h : Fin p fn n v e E H) : Fin p fn n v' e E H := hv ▸ h
theorem fin_ret {fn : Func} {v : Value} (h : Res p fn n E H v) : Fin p fn n v .ret E H := ⟨.inl rfl, h⟩
theorem fin_end {fn : Func} {v : Value} (h : Res p fn n E H v) : Fin p fn n v .normal E H := ⟨.inr rfl, h⟩
theorem res_c {fn : Func} {t ty : Nat} {b : Box} {g : Nat} {vs : List Value} {m : Nat} (ha : IsAgg p ty m) (i : Nat) (h : fn.results = #[.cell t ty]) (hv : ev n E (.tmp t) = .pointer (some ⟨g, 0, none⟩)) (hm : H[i]? = some b) (hg : b.g = g) (hn : b.cs.length = m) (hb : b.cs = vs) : Res p fn n E H (.agg vs.toArray) := by
  obtain ⟨d, h1, h2, h3⟩ := ha.out
  subst hb
  exact res_cell i h hv hm hg h1 h2 (by rw [h3, hn]) rfl
theorem res_tt {fn : Func} {t u : Nat} {x y : Value} (h : fn.results = #[.tmp t, .tmp u]) (hx : ev n E (.tmp t) = x) (hy : ev n E (.tmp u) = y) : Res p fn n E H (.tuple #[x, y]) := by
  intro β w a hO hs
  rw [results_tmp2 h, ← hx, ← hy, ← hs.eval]
  rfl
theorem own_load {β : Base} {w : World} (hO : Own β H w) {ty : Nat} {b : Box} {m : Nat} (ha : IsAgg p ty m) (i : Nat) (hm : H[i]? = some b) (hn : b.cs.length = m) : (loadVar ty ⟨b.g, 0, none⟩).run p w = .ok (.agg b.cs.toArray) w := by
  obtain ⟨d, h1, h2, h3⟩ := ha.out
  obtain ⟨fr, _, hh⟩ := (hO.at_ b (List.mem_of_getElem? hm)).2
  exact run_loadVar_row w b.g b.t ty b.cs.toArray fr d hh h1 (by cases d <;> first | rfl | cases h2) (by rw [h3]; simp [hn])
theorem see_ptr {a : Act} (hs : Sees n E a) {t g : Nat} (hv : ev n E (.tmp t) = .pointer (some ⟨g, 0, none⟩)) : (a.tmps[t]?).getD undef = .pointer (some ⟨g, 0, none⟩) := by
  rw [← hv, ← hs.eval]
  simp [Act.eval]
theorem see_tmp {a : Act} (hs : Sees n E a) {t : Nat} {v : Value} (hv : ev n E (.tmp t) = v) : (a.tmps[t]?).getD undef = v := by
  rw [← hv, ← hs.eval]
  simp [Act.eval]
theorem res_ct {fn : Func} {t ty u : Nat} {b : Box} {g : Nat} {vs : List Value} {m : Nat} {y : Value} (ha : IsAgg p ty m) (i : Nat) (h : fn.results = #[.cell t ty, .tmp u]) (hv : ev n E (.tmp t) = .pointer (some ⟨g, 0, none⟩)) (hm : H[i]? = some b) (hg : b.g = g) (hn : b.cs.length = m) (hb : b.cs = vs)
    (hy : ev n E (.tmp u) = y) : Res p fn n E H (.tuple #[.agg vs.toArray, y]) := by
  intro β w a hO hs
  subst hb hg
  simp [results, h, see_ptr hs hv, see_tmp hs hy, asAddr, own_load hO ha i hm hn, Sem.run_bind]
theorem res_tct {fn : Func} {s t ty u : Nat} {b : Box} {g : Nat} {vs : List Value} {m : Nat} {x y : Value} (ha : IsAgg p ty m) (i : Nat) (h : fn.results = #[.tmp s, .cell t ty, .tmp u]) (hx : ev n E (.tmp s) = x) (hv : ev n E (.tmp t) = .pointer (some ⟨g, 0, none⟩)) (hm : H[i]? = some b) (hg : b.g = g) (hn : b.cs.length = m) (hb : b.cs = vs)
    (hy : ev n E (.tmp u) = y) : Res p fn n E H (.tuple #[x, .agg vs.toArray, y]) := by
  intro β w a hO hs
  subst hb hg
  simp [results, h, see_ptr hs hv, see_tmp hs hx, see_tmp hs hy, asAddr, own_load hO ha i hm hn, Sem.run_bind]
theorem res_cc {fn : Func} {t ty u uy : Nat} {b b' : Box} {g g' : Nat} {vs us : List Value} {m m' : Nat} (ha : IsAgg p ty m) (ha' : IsAgg p uy m') (i j : Nat) (h : fn.results = #[.cell t ty, .cell u uy]) (hv : ev n E (.tmp t) = .pointer (some ⟨g, 0, none⟩)) (hm : H[i]? = some b) (hg : b.g = g) (hn : b.cs.length = m) (hb : b.cs = vs)
    (hv' : ev n E (.tmp u) = .pointer (some ⟨g', 0, none⟩)) (hm' : H[j]? = some b') (hg' : b'.g = g') (hn' : b'.cs.length = m') (hb' : b'.cs = us) : Res p fn n E H (.tuple #[.agg vs.toArray, .agg us.toArray]) := by
  intro β w a hO hs
  subst hb hg hb' hg'
  simp [results, h, see_ptr hs hv, see_ptr hs hv', asAddr, own_load hO ha i hm hn, own_load hO ha' j hm' hn', Sem.run_bind]
end
theorem bb_eql {p : Program} {t : Nat} {a b d : Bool} (hu : p.underlying t = some .bool) (h : (a == b) = d) (x y : Operand) : Runs p (do eqGuard .eql t x y (.bool a) (.bool b); binOp .eql t (.bool a) (.bool b)) (.bool d) := ⟨fun w => by
  rw [← h]
  have e : (Op.equal t (.bool a) (.bool b)).run p w = .ok (a == b) w := run_equalIn_bool w 9999 t a b hu
  simp [eqGuard, binOp, Sem.run_bind, e]⟩
theorem bb_neq {p : Program} {t : Nat} {a b d : Bool} (hu : p.underlying t = some .bool) (h : (a != b) = d) (x y : Operand) : Runs p (do eqGuard .neq t x y (.bool a) (.bool b); binOp .neq t (.bool a) (.bool b)) (.bool d) := ⟨fun w => by
  rw [← h]
  have e : (Op.equal t (.bool a) (.bool b)).run p w = .ok (a == b) w := run_equalIn_bool w 9999 t a b hu
  simp [eqGuard, binOp, Sem.run_bind, e, bne]⟩
theorem put_self {E : Env} {d : Nat} {v : Value} (h : E d = v) : E.put (some d) v = E := by
  funext t
  rw [put_apply]
  by_cases e : d = t
  · rw [if_pos (by rw [e]), ← h, e]
  · rw [if_neg (by simpa using e)]
theorem env3 {E : Env} {a b c : Nat} {va vb vc : Value} (ha : E a = va) (hb : E b = vb) (hc : E c = vc) : ∃ E0 : Env, E = ((E0.put (some a) va).put (some b) vb).put (some c) vc := ⟨E, by rw [put_self ha, put_self hb, put_self hc]⟩
theorem env4 {E : Env} {a b c d : Nat} {va vb vc vd : Value} (ha : E a = va) (hb : E b = vb) (hc : E c = vc) (hd : E d = vd) : ∃ E0 : Env, E = (((E0.put (some a) va).put (some b) vb).put (some c) vc).put (some d) vd := ⟨E, by rw [put_self ha, put_self hb, put_self hc, put_self hd]⟩
theorem ac_mergeE {p : Program} {n : Nat} {c : Operand} {x : Code} {b : Bool} {Q : Exit → Env → List Box → Prop} {E : Env} {H : List Box} (E1 Em : Env → Env) (hc : ev n E c = .bool b)
    (h1 : b = true → AC p n x (fun e E' H' => e = .normal ∧ E' = E1 E ∧ H' = H) E H) (e1 : b = true → Em E = E1 E) (e2 : b = false → Em E = E) (h : Q .normal (Em E) H) : AC p n (.cond c x .skip) Q E H := by
  refine ac_cond hc (fun hb => ?_) (fun hb => ?_)
  · refine AC.mono (h1 hb) ?_
    rintro e E' H' ⟨rfl, rfl, rfl⟩
    rw [← e1 hb]
    exact h
  · refine ac_skip ?_
    rw [← e2 hb]
    exact h
/-- The first loop's body of a function. -/
def loopOf : Code → Option Code
  | .loop c => some c
  | .seq a b => match loopOf a with | some c => some c | none => loopOf b
  | .cond _ a b => match loopOf a with | some c => some c | none => loopOf b
  | .block _ a => loopOf a
  | .scope a => loopOf a
  | _ => none
def orI (a b : Int) : Int := w64 ((BitVec.ofInt 64 a ||| BitVec.ofInt 64 b).toNat : Int)
theorem w64_id {n : Int} (h : -9223372036854775808 ≤ n ∧ n ≤ 9223372036854775807) : w64 n = n := IntWalk.i64_in n h

end Go.Proofs.Ythngkopcadlciaa
