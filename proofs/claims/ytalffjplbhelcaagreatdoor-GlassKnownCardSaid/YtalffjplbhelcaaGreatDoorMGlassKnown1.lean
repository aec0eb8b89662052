import Derived.Test.YtalffjplbhelcaaGreatDoorMGlassKnown0
import Derived.IntWalk
import Derived.Laws.AppendOwn
import Derived.Laws.Append
set_option linter.unusedVariables false
set_option linter.unusedSimpArgs false
namespace Go.Proofs.YtalffjplbhelcaaGreatDoor
open Go.RowKit
def dstOf (ops : Array Oper) (i : Nat) : Option Nat := (ops[i]?).bind (·.dst)
def putAll (ops : Array Oper) (E : Env) : List (Nat × Value) → Env
  | [] => E
  | (i, v) :: r => putAll ops (E.put (dstOf ops i) v) r
def bindsOn (o : Oper) (j : Nat) : Bool := o.after.any fun e => Region.binds .any e && e.on == j
def before_ (ops : Array Oper) (i j : Nat) : Bool := match ops[i]? with | some o => bindsOn o j | none => false
def nodupB : List Nat → Bool
  | [] => true
  | x :: r => !(r.contains x) && nodupB r
theorem nodupB_spec : ∀ l, nodupB l = true → l.Nodup
  | [], _ => by simp
  | x :: r, h => by
    simp only [nodupB, Bool.and_eq_true, Bool.not_eq_true', List.contains_eq_mem, decide_eq_false_iff_not] at h
    exact List.nodup_cons.2 ⟨h.1, nodupB_spec r h.2⟩
def drawOk (ops : Array Oper) (fx al ta : List Nat) : Bool :=
  let body := fx ++ al
  let all := body ++ ta
  (all.length == ops.size) && nodupB all && ((List.range ops.size).all fun i => all.contains i) && (all.all fun i => Nat.blt i ops.size)
  && ((List.range ops.size).all fun i => match ops[i]? with | some o => (o.after.all fun e => !(Region.binds .any e) || Nat.blt e.on i) | none => false)
  && (Region.noSelect ops)
  && (body.all fun i => body.all fun j => i == j || (match dstOf ops i, dstOf ops j with | some x, some y => !(Nat.beq x y) | _, _ => true))
  && ((List.range fx.length).all fun k => match fx[k]? with
      | some i => (match ops[i]? with
        | some o => (Oper.looksAt ops o).all fun t => body.all fun j => (match dstOf ops j with | some d => !(Nat.beq d t) | none => true) || (bindsOn o j && (fx.take k).contains j)
        | none => false)
      | none => false)
  && ((List.range ta.length).all fun k => match ta[k]? with
      | some i => (body ++ ta.take k).all fun j => before_ ops i j || (body ++ ta.take k).any fun m => before_ ops m j
      | none => false)
section
variable {p : Program} {n : Nat} {ops : Array Oper}
theorem put_apply (E : Env) (d : Option Nat) (v : Value) (t : Nat) : (E.put d v) t = if d = some t then v else E t := by
  cases d with
  | none => simp [Env.put]
  | some d =>
    simp only [Env.put, Option.some.injEq]
    by_cases h : t = d
    · subst h
      have : Nat.beq t t = true := by simp
      simp [this]
    · have : Nat.beq t d = false := by
        rw [Bool.eq_false_iff]; intro hc; exact h (Nat.eq_of_beq_eq_true hc)
      simp [this, Ne.symm h]
theorem putAll_append (E : Env) (xs ys : List (Nat × Value)) : putAll ops E (xs ++ ys) = putAll ops (putAll ops E xs) ys := by
  induction xs generalizing E with
  | nil => rfl
  | cons x xs ih => obtain ⟨i, v⟩ := x; exact ih _
theorem putAll_not (E : Env) (t : Nat) : ∀ (xs : List (Nat × Value)), (∀ x ∈ xs, dstOf ops x.1 ≠ some t) → putAll ops E xs t = E t := by
  intro xs
  induction xs generalizing E with
  | nil => intro _; rfl
  | cons x xs ih =>
    obtain ⟨i, v⟩ := x
    intro h
    rw [putAll, ih _ (fun y hy => h y (by simp [hy])), put_apply, if_neg (h (i, v) (by simp))]
theorem putAll_at (E : Env) (t : Nat) : ∀ (xs : List (Nat × Value)) (x : Nat × Value), x ∈ xs → dstOf ops x.1 = some t → (∀ y ∈ xs, dstOf ops y.1 = some t → y = x) → putAll ops E xs t = x.2 := by
  intro xs
  induction xs generalizing E with
  | nil => intro x h; cases h
  | cons y xs ih =>
    intro x hx hd hu
    obtain ⟨i, v⟩ := y
    rw [putAll]
    by_cases hin : x ∈ xs
    · exact ih _ x hin hd (fun z hz => hu z (by simp [hz]))
    · have : x = (i, v) := by
        rcases List.mem_cons.1 hx with h | h
        · exact h
        · exact absurd h hin
      subst this
      rw [putAll_not _ _ xs (fun z hz he => hin ((hu z (by simp [hz]) he) ▸ hz)), put_apply, if_pos hd]
def DWalk (p : Program) (n : Nat) (ops : Array Oper) (H : List Box) : List Nat → Env → (Env → Prop) → Prop
  | [], E, K => K E
  | i :: is, E, K => ∃ o v, ops[i]? = some o ∧ ((yld n ops E o = true ∧ Step p (ev n E) o H fun v' H' => v' = v ∧ H' = H) ∨ (yld n ops E o = false ∧ v = undef)) ∧ DWalk p n ops H is (E.put o.dst v) K
def Tells (p : Program) (n : Nat) (ops : Array Oper) (H : List Box) (E : Env) (i : Nat) (v : Value) : Prop :=
  ∃ o, ops[i]? = some o ∧ ((yld n ops E o = true ∧ Step p (ev n E) o H fun v' H' => v' = v ∧ H' = H) ∨ (yld n ops E o = false ∧ v = undef))
theorem dwalk_vals {H : List Box} {K : Env → Prop} : ∀ (is : List Nat) (E : Env), DWalk p n ops H is E K →
    ∃ vs : List (Nat × Value), vs.map (·.1) = is ∧ (∀ k x, vs[k]? = some x → Tells p n ops H (putAll ops E (vs.take k)) x.1 x.2) ∧ K (putAll ops E vs) := by
  intro is
  induction is with
  | nil => intro E h; exact ⟨[], rfl, by simp, h⟩
  | cons i is ih =>
    rintro E ⟨o, v, ho, hs, hr⟩
    obtain ⟨vs, h1, h2, h3⟩ := ih _ hr
    have hd : dstOf ops i = o.dst := by simp [dstOf, ho]
    refine ⟨(i, v) :: vs, by simp [h1], ?_, by rw [putAll, hd]; exact h3⟩
    intro k x hk
    cases k with
    | zero => simp at hk; subst hk; exact ⟨o, ho, hs⟩
    | succ k =>
      simp only [List.getElem?_cons_succ] at hk
      rw [List.take_succ_cons, putAll, hd]
      exact h2 k x hk
theorem tells_congr {H : List Box} {E E' : Env} {i : Nat} {v : Value} (hsel : Region.noSelect ops = true) (h : Tells p n ops H E i v)
    (hl : ∀ o, ops[i]? = some o → ∀ t ∈ Oper.looksAt ops o, E' t = E t) : Tells p n ops H E' i v := by
  obtain ⟨o, ho, h⟩ := h
  have hl := hl o ho
  have he : ∀ t, t ∈ Oper.looksAt ops o → ev n E' (.tmp t) = ev n E (.tmp t) := fun t ht => by simp only [ev, hl t ht]
  have hx : execOp (ev n E') o = execOp (ev n E) o := by
    refine execOp_congr o (fun cs b => Region.noSelect_spec hsel i o cs b ho) (fun x hx => ?_)
    cases x with
    | tmp t => exact he t (List.mem_append_left _ (List.mem_filterMap.2 ⟨.tmp t, by simpa using hx, rfl⟩))
    | _ => rfl
  have hy : yld n ops E' o = yld n ops E o := by
    unfold yld
    cases hg : o.guard with
    | none => rfl
    | some gw =>
      obtain ⟨j, want⟩ := gw
      cases hd : (ops[j]?).bind (·.dst) with
      | none => simp [hd]
      | some t =>
        simp only [hd]
        rw [he t (by simp [Oper.looksAt, hg, hd])]
  refine ⟨o, ho, ?_⟩
  rw [hy]
  unfold Step at *
  rw [hx]
  exact h
theorem uniq_fst : ∀ (l : List (Nat × Value)), (l.map (·.1)).Nodup → ∀ x ∈ l, ∀ y ∈ l, x.1 = y.1 → x = y := by
  intro l
  induction l with
  | nil => intro _ x hx; cases hx
  | cons z l ih =>
    intro hn x hx y hy e
    simp only [List.map_cons, List.nodup_cons] at hn
    rcases List.mem_cons.1 hx with hx | hx <;> rcases List.mem_cons.1 hy with hy | hy
    · rw [hx, hy]
    · rw [hx] at e
      exact absurd (List.mem_map.2 ⟨y, hy, e.symm⟩) hn.1
    · rw [hy] at e
      exact absurd (List.mem_map.2 ⟨x, hx, e⟩) hn.1
    · exact ih hn.2 x hx y hy e
structure DrawOk (ops : Array Oper) (fx al ta : List Nat) : Prop where
  len : (fx ++ al ++ ta).length = ops.size
  nodup : (fx ++ al ++ ta).Nodup
  all : ∀ i, i < ops.size → i ∈ fx ++ al ++ ta
  lt : ∀ i ∈ fx ++ al ++ ta, i < ops.size
  back : ∀ i o, ops[i]? = some o → ∀ e ∈ o.after, Region.binds .any e = true → e.on < i
  sel : Region.noSelect ops = true
  dsts : ∀ i ∈ fx ++ al, ∀ j ∈ fx ++ al, ∀ t, dstOf ops i = some t → dstOf ops j = some t → i = j
  looks : ∀ k i o, fx[k]? = some i → ops[i]? = some o → ∀ t ∈ Oper.looksAt ops o, ∀ j ∈ fx ++ al, dstOf ops j = some t → bindsOn o j = true ∧ j ∈ fx.take k
  tails : ∀ k i, ta[k]? = some i → ∀ j ∈ fx ++ al ++ ta.take k, before_ ops i j = true ∨ ∃ m ∈ fx ++ al ++ ta.take k, before_ ops m j = true
theorem drawOk_spec {fx al ta : List Nat} (h : drawOk ops fx al ta = true) : DrawOk ops fx al ta := by
  simp only [drawOk, Bool.and_eq_true, List.all_eq_true, List.mem_range, beq_iff_eq, Nat.blt_eq] at h
  obtain ⟨⟨⟨⟨⟨⟨⟨⟨h1, h2⟩, h3⟩, h4⟩, h5⟩, h6⟩, h7⟩, h8⟩, h9⟩ := h
  refine ⟨h1, nodupB_spec _ h2, fun i hi => by simpa using h3 i hi, fun i hi => h4 i hi, ?_, h6, ?_, ?_, ?_⟩
  · intro i o ho e he hb
    have := h5 i (Array.getElem?_eq_some_iff.1 ho).1
    rw [ho] at this
    have h := Array.all_eq_true_iff_forall_mem.1 this e he
    simp only [hb, Bool.not_true, Bool.false_or, Nat.blt_eq] at h
    exact h
  · intro i hi j hj t hti htj
    have := h7 i hi j hj
    rw [hti, htj] at this
    simpa using this
  · intro k i o hk ho t ht j hj hd
    have hlt : k < fx.length := (List.getElem?_eq_some_iff.1 hk).1
    have := h8 k hlt
    rw [hk] at this
    simp only [ho] at this
    have := List.all_eq_true.1 (List.all_eq_true.1 this t ht) j hj
    rw [hd] at this
    simpa using this
  · intro k i hk j hj
    have hlt : k < ta.length := (List.getElem?_eq_some_iff.1 hk).1
    have := h9 k hlt
    rw [hk] at this
    have := List.all_eq_true.1 this j hj
    rw [Bool.or_eq_true, List.any_eq_true] at this
    exact this
theorem before_spec {i j : Nat} (h : before_ ops i j = true) : ∃ o, ops[i]? = some o ∧ ∃ e ∈ o.after, Region.binds .any e = true ∧ e.on = j := by
  unfold before_ at h
  cases ho : ops[i]? with
  | none => simp [ho] at h
  | some o =>
    simp only [ho, bindsOn] at h
    obtain ⟨e, he, hb⟩ := Array.any_eq_true'.1 h
    simp only [Bool.and_eq_true, beq_iff_eq] at hb
    exact ⟨o, rfl, e, he, hb.1, hb.2⟩
def Down (ops : Array Oper) (L : Array Bool) : Prop := ∀ i o, ops[i]? = some o → L.getD i false = true → ∀ e ∈ o.after, Region.binds .any e = true → L.getD e.on false = true
theorem Down.set {L : Array Bool} (h : Down ops L) {i : Nat} (hr : i ∈ Region.ready .any ops L) : Down ops (L.setIfInBounds i true) := by
  intro j o ho hl e he hb
  obtain ⟨h0, o', ho', hall⟩ := mem_ready.1 hr
  by_cases hji : i = j
  · subst hji
    rw [ho] at ho'
    cases ho'
    exact getD_set_true (hall e he hb)
  · rw [getD_set_ne false hji] at hl
    exact getD_set_true (h j o ho hl e he hb)
theorem tail_waits {fx al ta : List Nat} (hok : DrawOk ops fx al ta) {L : Array Bool} (hd : Down ops L) {k i : Nat} (hk : ta[k]? = some i) (hr : i ∈ Region.ready .any ops L) :
    ∀ j ∈ fx ++ al ++ ta.take k, L.getD j false = true := by
  obtain ⟨h0, o, ho, hall⟩ := mem_ready.1 hr
  have key : ∀ m j, j ∈ fx ++ al ++ ta.take k → ops.size - j ≤ m → L.getD j false = true := by
    intro m
    induction m with
    | zero =>
      intro j hj hm
      have : j ∈ fx ++ al ++ ta := by
        rcases List.mem_append.1 hj with h | h
        · exact List.mem_append_left _ h
        · exact List.mem_append_right _ (List.mem_of_mem_take h)
      have := hok.lt j this
      omega
    | succ m ih =>
      intro j hj hm
      rcases hok.tails k i hk j hj with h | ⟨q, hq, h⟩
      · obtain ⟨o', ho', e, he, hb, hon⟩ := before_spec h
        rw [ho] at ho'
        cases ho'
        rw [← hon]
        exact hall e he hb
      · obtain ⟨o', ho', e, he, hb, hon⟩ := before_spec h
        have hlt : j < q := by rw [← hon]; exact hok.back q o' ho' e he hb
        have hq' : L.getD q false = true := ih q hq (by omega)
        rw [← hon]
        exact hd q o' ho' hq' e he hb
  intro j hj
  exact key (ops.size - j) j hj (Nat.le_refl _)
theorem ready_some {fx al ta : List Nat} (hok : DrawOk ops fx al ta) {L : Array Bool} (hs : L.size = ops.size) {i : Nat} (hi : i < ops.size) (hl : L.getD i false = false) : Region.ready .any ops L ≠ [] := by
  have key : ∀ m i, i < m → i < ops.size → L.getD i false = false → ∃ j, j ∈ Region.ready .any ops L := by
    intro m
    induction m with
    | zero => intro i h; omega
    | succ m ih =>
      intro i him hi hl
      obtain ⟨o, ho⟩ : ∃ o, ops[i]? = some o := ⟨_, Array.getElem?_eq_getElem hi⟩
      by_cases hall : ∀ e ∈ o.after, Region.binds .any e = true → L.getD e.on false = true
      · refine ⟨i, mem_ready.2 ⟨?_, o, ho, hall⟩⟩
        have hi' : i < L.size := by omega
        simpa [hi'] using hl
      · obtain ⟨e, he, hb, hne⟩ : ∃ e, e ∈ o.after ∧ Region.binds .any e = true ∧ ¬ L.getD e.on false = true := by
          refine Classical.byContradiction fun hc => hall fun e he hb => ?_
          exact Classical.byContradiction fun hn => hc ⟨e, he, hb, hn⟩
        have hlt := hok.back i o ho e he hb
        exact ih e.on (by omega) (by omega) (by simpa using hne)
  obtain ⟨j, hj⟩ := key (i + 1) i (by omega) hi hl
  intro h
  rw [h] at hj
  cases hj
structure Al where
  i : Nat
  t : TypeId
  cs : List Value
def ptr (g : Nat) : Value := .pointer (some ⟨g, 0, none⟩)
def allp (vs : List (Nat × Value)) (al : List Al) (gs : Nat → Nat) : List (Nat × Value) := vs ++ al.map fun x => (x.i, ptr (gs x.i))
theorem allp_fst (vs : List (Nat × Value)) (al : List Al) (gs : Nat → Nat) : (allp vs al gs).map (·.1) = vs.map (·.1) ++ al.map (·.i) := by
  simp [allp, List.map_map, Function.comp_def]
theorem put_filter (E0 : Env) (xs xs' : List (Nat × Value)) (L : Array Bool) (i : Nat) (v : Value) (hx : (i, v) ∈ xs') (hsame : ∀ y : Nat × Value, y.1 ≠ i → (y ∈ xs ↔ y ∈ xs'))
    (hu : ∀ y ∈ xs, ∀ z ∈ xs, ∀ t, dstOf ops y.1 = some t → dstOf ops z.1 = some t → y = z) (hu' : ∀ y ∈ xs', ∀ z ∈ xs', ∀ t, dstOf ops y.1 = some t → dstOf ops z.1 = some t → y = z)
    (hl : L.getD i false = false) (hi : i < L.size) :
    putAll ops E0 (xs'.filter fun x => (L.setIfInBounds i true).getD x.1 false) = (putAll ops E0 (xs.filter fun x => L.getD x.1 false)).put (dstOf ops i) v := by
  have hLi : (L.setIfInBounds i true).getD i false = true := by simp [hi]
  have hLj : ∀ j, j ≠ i → (L.setIfInBounds i true).getD j false = L.getD j false := fun j hj => getD_set_ne false (Ne.symm hj)
  funext t
  rw [put_apply]
  by_cases h : ∃ y ∈ xs', (L.setIfInBounds i true).getD y.1 false = true ∧ dstOf ops y.1 = some t
  · obtain ⟨y, hy, hyl, hyd⟩ := h
    rw [putAll_at E0 t _ y (List.mem_filter.2 ⟨hy, hyl⟩) hyd (fun z hz hzd => hu' z (List.mem_filter.1 hz).1 y hy t hzd hyd)]
    by_cases hd : dstOf ops i = some t
    · rw [if_pos hd]
      have := hu' y hy _ hx t hyd hd
      rw [this]
    · rw [if_neg hd]
      have hyi : y.1 ≠ i := fun e => hd (e ▸ hyd)
      rw [hLj _ hyi] at hyl
      have hyx := (hsame y hyi).2 hy
      rw [putAll_at E0 t _ y (List.mem_filter.2 ⟨hyx, hyl⟩) hyd (fun z hz hzd => hu z (List.mem_filter.1 hz).1 y hyx t hzd hyd)]
  · have hd : ¬ dstOf ops i = some t := fun hd => h ⟨(i, v), hx, hLi, hd⟩
    rw [if_neg hd, putAll_not E0 t _ (fun z hz hzd => h ⟨z, (List.mem_filter.1 hz).1, (List.mem_filter.1 hz).2, hzd⟩)]
    rw [putAll_not E0 t _ (fun z hz hzd => ?_)]
    have hz1 := List.mem_filter.1 hz
    have hzi : z.1 ≠ i := by
      intro e
      have h2 : L.getD z.1 false = true := hz1.2
      rw [e, hl] at h2
      cases h2
    exact h ⟨z, (hsame z hzi).1 hz1.1, by rw [hLj _ hzi]; exact hz1.2, hzd⟩
theorem filter_less : ∀ (l : List Nat) (P P' : Nat → Bool) (i : Nat), l.Nodup → i ∈ l → P i = true → P' i = false → (∀ j, j ≠ i → P' j = P j) → (l.filter P').length + 1 = (l.filter P).length := by
  intro l
  induction l with
  | nil => intro P P' i _ h; cases h
  | cons x l ih =>
    intro P P' i hn hi hp hp' hs
    have hn' := List.nodup_cons.1 hn
    by_cases hxi : x = i
    · subst hxi
      have : l.filter P' = l.filter P := List.filter_congr fun y hy => hs y (fun e => hn'.1 (e ▸ hy))
      rw [List.filter_cons, List.filter_cons, hp, hp', this]
      simp
    · have hil : i ∈ l := by
        rcases List.mem_cons.1 hi with h | h
        · exact absurd h.symm hxi
        · exact h
      have := ih P P' i hn'.2 hil hp hp' hs
      rw [List.filter_cons, List.filter_cons, hs x hxi]
      split
      · simp only [List.length_cons]; omega
      · exact this
theorem tail_phase {fx al ta : List Nat} (hok : DrawOk ops fx al ta) {Q : Exit → Act → World → Prop} : ∀ (r : List Nat) (k : Nat) (L : Array Bool) (a : Act) (w : World), ta.drop k = r → Down ops L → L.size = ops.size →
    (∀ i ∈ fx ++ al ++ ta.take k, L.getD i false = true) → (∀ i ∈ r, L.getD i false = false) → wpList p ops Q (r.map fun i => (ops[i]?).getD default) a w → wpAny p .any ops Q r.length L a w := by
  intro r
  induction r with
  | nil =>
    intro k L a w hr hd hs hl hn h
    refine ⟨?_, h⟩
    cases hq : Region.ready .any ops L with
    | nil => rfl
    | cons i is =>
      have hi : i ∈ Region.ready .any ops L := by rw [hq]; simp
      obtain ⟨h0, o, ho, hall⟩ := mem_ready.1 hi
      have hlt := (Array.getElem?_eq_some_iff.1 ho).1
      have hk : ta.take k = ta := by
        have := List.take_append_drop k ta
        rw [hr, List.append_nil] at this
        exact this
      have := hl i (by rw [hk]; exact hok.all i hlt)
      have hi' : i < L.size := by omega
      simp [hi'] at h0 this
      rw [h0] at this
      cases this
  | cons i r ih =>
    intro k L a w hr hd hs hl hn h
    have hk : ta[k]? = some i := by
      have : (ta.drop k)[0]? = some i := by rw [hr]; rfl
      simpa using this
    have hr' : ta.drop (k + 1) = r := by
      have : (ta.drop k).drop 1 = r := by rw [hr]; rfl
      rw [List.drop_drop] at this
      exact this
    have hita : i ∈ ta := List.mem_of_getElem? hk
    have hlt : i < ops.size := hok.lt i (List.mem_append_right _ hita)
    have hrun := hn i (by simp)
    refine ⟨fun h0 => absurd h0 (ready_some hok hs hlt hrun), fun j hj => ?_⟩
    have hjr := mem_ready.1 hj
    obtain ⟨h0, oj, hoj, hall⟩ := hjr
    have hjlt := (Array.getElem?_eq_some_iff.1 hoj).1
    have hji : j = i := by
      have hjn : L.getD j false = false := by
        have hj' : j < L.size := by omega
        simpa [hj'] using h0
      have hjall := hok.all j hjlt
      have hjt : j ∈ ta.drop k := by
        rcases List.mem_append.1 hjall with h | h
        · rw [hl j (List.mem_append_left _ h)] at hjn; cases hjn
        · rw [← List.take_append_drop k ta] at h
          rcases List.mem_append.1 h with h | h
          · rw [hl j (List.mem_append_right _ h)] at hjn; cases hjn
          · exact h
      rw [hr] at hjt
      rcases List.mem_cons.1 hjt with h | h
      · exact h
      · rw [← hr'] at h
        obtain ⟨q, hq⟩ := List.mem_iff_getElem?.1 h
        rw [List.getElem?_drop] at hq
        have := tail_waits hok hd hq hj i (List.mem_append_right _ (List.mem_of_getElem? (i := k) (by rw [List.getElem?_take, if_pos (by omega)]; exact hk)))
        rw [hrun] at this
        cases this
    subst hji
    have hnd := hok.nodup
    have hnext : ∀ a' w', wpList p ops Q (r.map fun i => (ops[i]?).getD default) a' w' → wpAny p .any ops Q r.length (L.setIfInBounds j true) a' w' := fun a' w' h' => by
      refine ih (k + 1) _ a' w' hr' (hd.set hj) (by simp [hs]) ?_ ?_ h'
      · intro q hq
        by_cases hqj : j = q
        · subst hqj; have : j < L.size := by omega
          simp [this]
        · rw [getD_set_ne false hqj]
          refine hl q ?_
          rw [List.take_add_one, hk] at hq
          simp only [List.mem_append, Option.toList_some, List.mem_singleton] at hq ⊢
          rcases hq with h | h | h
          · exact .inl h
          · exact .inr h
          · exact absurd h.symm hqj
      · intro q hq
        have hqj : j ≠ q := by
          rintro rfl
          have h2 : (fx ++ al ++ (ta.take k ++ (j :: r))).Nodup := by rw [← hr, List.take_append_drop]; exact hnd
          have h3 := (List.nodup_append.1 (List.nodup_append.1 h2).2.1).2.1
          exact (List.nodup_cons.1 h3).1 hq
        rw [getD_set_ne false hqj]
        exact hn q (by simp [hq])
    simp only [List.map_cons, hoj, Option.getD_some] at h
    unfold wpList at h
    unfold wpOp
    simp only [hoj]
    split
    · rename_i hw
      rw [if_pos hw] at h
      exact h.imp (Oper.wp_mono hnext) id
    · rename_i hw
      rw [if_neg hw] at h
      exact hnext _ _ h
section
variable {fx ta : List Nat} {al : List Al} {vs : List (Nat × Value)} {E0 : Env} {H0 : List Box} {Q : Exit → Env → List Box → Prop}
def EL (ops : Array Oper) (E0 : Env) (vs : List (Nat × Value)) (al : List Al) (gs : Nat → Nat) (L : Array Bool) : Env := putAll ops E0 ((allp vs al gs).filter fun x => L.getD x.1 false)
structure Inv (p : Program) (n : Nat) (ops : Array Oper) (E0 : Env) (H0 : List Box) (vs : List (Nat × Value)) (al : List Al) (β : Base) (L : Array Bool) (a : Act) (w : World) (gs : Nat → Nat) (F : List Box) : Prop where
  sees : Sees n (EL ops E0 vs al gs L) a
  own : Own β (H0 ++ F) w
  below : Keeps β w
  made : ∀ x ∈ al, L.getD x.i false = true → (⟨gs x.i, x.cs, x.t, false⟩ : Box) ∈ F
  other : ∀ x ∈ al, ∀ y ∈ al, L.getD x.i false = true → L.getD y.i false = true → x.i ≠ y.i → gs x.i ≠ gs y.i
theorem allp_uniq (hok : DrawOk ops fx (al.map (·.i)) ta) (hvs : vs.map (·.1) = fx) (gs : Nat → Nat) : ∀ y ∈ allp vs al gs, ∀ z ∈ allp vs al gs, ∀ t, dstOf ops y.1 = some t → dstOf ops z.1 = some t → y = z := by
  intro y hy z hz t hyt hzt
  have hf := allp_fst vs al gs
  rw [hvs] at hf
  have hnd : ((allp vs al gs).map (·.1)).Nodup := by rw [hf]; exact (List.nodup_append.1 hok.nodup).1
  refine uniq_fst _ hnd y hy z hz (hok.dsts y.1 ?_ z.1 ?_ t hyt hzt)
  · rw [← hf]; exact List.mem_map.2 ⟨y, hy, rfl⟩
  · rw [← hf]; exact List.mem_map.2 ⟨z, hz, rfl⟩
theorem body_phase (hok : DrawOk ops fx (al.map (·.i)) ta) (hvs : vs.map (·.1) = fx) (ht : ∀ k x, vs[k]? = some x → Tells p n ops H0 (putAll ops E0 (vs.take k)) x.1 x.2)
    (hal : ∀ x ∈ al, ∃ o z, ops[x.i]? = some o ∧ o.op = .alloc x.t ∧ o.guard = none ∧ (p.info? x.t).map (·.zero) = some (some z) ∧ z.cells = x.cs.toArray)
    (hK : ∀ gs : Nat → Nat, AR p n ops Q (ta.map fun i => (ops[i]?).getD default) (putAll ops E0 (allp vs al gs)) (al.map (fun x => (⟨gs x.i, x.cs, x.t, false⟩ : Box)) ++ H0)) {β : Base} :
    ∀ (m : Nat) (L : Array Bool) (a : Act) (w : World) (gs : Nat → Nat) (F : List Box), L.size = ops.size → Down ops L → (∀ i ∈ ta, L.getD i false = false) →
      ((fx ++ al.map (·.i)).filter fun i => !(L.getD i false)).length = m → Inv p n ops E0 H0 vs al β L a w gs F → wpAny p .any ops (AQ n β Q) (m + ta.length) L a w := by
  intro m
  induction m with
  | zero =>
    intro L a w gs F hs hd hta hm hI
    rw [Nat.zero_add]
    have hall : ∀ i ∈ fx ++ al.map (·.i), L.getD i false = true := by
      intro i hi
      have h0 := List.eq_nil_of_length_eq_zero hm
      cases hq : L.getD i false with
      | true => rfl
      | false =>
        have : i ∈ (fx ++ al.map (·.i)).filter fun i => !(L.getD i false) := List.mem_filter.2 ⟨hi, by simp only [hq, Bool.not_false]⟩
        rw [h0] at this
        cases this
    have hE : EL ops E0 vs al gs L = putAll ops E0 (allp vs al gs) := by
      unfold EL
      congr 1
      refine List.filter_eq_self.2 fun x hx => hall x.1 ?_
      rw [← hvs, ← allp_fst vs al gs]
      exact List.mem_map.2 ⟨x, hx, rfl⟩
    refine tail_phase hok ta 0 L a w rfl hd hs (by simpa using hall) hta ?_
    refine hK gs β w a ?_ hI.below (hE ▸ hI.sees)
    have hnd := hok.nodup
    have hnal : (al.map (·.i)).Nodup := (List.nodup_append.1 (List.nodup_append.1 hnd).1).2.1
    have hmem : ∀ x ∈ al, (⟨gs x.i, x.cs, x.t, false⟩ : Box) ∈ F := fun x hx => hI.made x hx (hall x.i (List.mem_append_right _ (List.mem_map.2 ⟨x, hx, rfl⟩)))
    have hHF := hI.own.apart
    rw [List.map_append, List.nodup_append] at hHF
    refine ⟨hI.own.size, ?_, ?_⟩
    · intro b hb
      rcases List.mem_append.1 hb with h | h
      · obtain ⟨x, hx, rfl⟩ := List.mem_map.1 h
        exact hI.own.at_ _ (List.mem_append_right _ (hmem x hx))
      · exact hI.own.at_ _ (List.mem_append_left _ h)
    · rw [List.map_append, List.nodup_append]
      refine ⟨?_, hHF.1, ?_⟩
      · rw [List.map_map]
        have : ∀ (l : List Al), (l.map (·.i)).Nodup → (∀ x ∈ l, x ∈ al) → (l.map (Box.g ∘ fun x => (⟨gs x.i, x.cs, x.t, false⟩ : Box))).Nodup := by
          intro l
          induction l with
          | nil => intro _ _; simp
          | cons x l ih =>
            intro hn hsub
            simp only [List.map_cons, List.nodup_cons, Function.comp_apply] at hn ⊢
            refine ⟨?_, ih hn.2 fun y hy => hsub y (by simp [hy])⟩
            intro hc
            obtain ⟨y, hy, e⟩ := List.mem_map.1 hc
            have hxi : x.i ≠ y.i := fun e => hn.1 (List.mem_map.2 ⟨y, hy, e.symm⟩)
            exact hI.other x (hsub x (by simp)) y (hsub y (by simp [hy])) (hall _ (List.mem_append_right _ (List.mem_map.2 ⟨x, hsub x (by simp), rfl⟩))) (hall _ (List.mem_append_right _ (List.mem_map.2 ⟨y, hsub y (by simp [hy]), rfl⟩))) hxi e.symm
        exact this al hnal fun x hx => hx
      · intro x hx y hy e
        obtain ⟨b, hb, rfl⟩ := List.mem_map.1 hx
        obtain ⟨x', hx', rfl⟩ := List.mem_map.1 hb
        exact hHF.2.2 y hy _ (List.mem_map.2 ⟨_, hmem x' hx', rfl⟩) e.symm
  | succ m ih =>
    intro L a w gs F hs hd hta hm hI
    have hnd := hok.nodup
    have hndb := (List.nodup_append.1 hnd).1
    obtain ⟨i0, hi0⟩ : ∃ i, i ∈ (fx ++ al.map (·.i)).filter fun i => !(L.getD i false) := by
      cases hq : (fx ++ al.map (·.i)).filter fun i => !(L.getD i false) with
      | nil => rw [hq] at hm; cases hm
      | cons i is => exact ⟨i, by simp⟩
    obtain ⟨hi0b, hi0n⟩ := List.mem_filter.1 hi0
    have hi0n' : L.getD i0 false = false := by simpa using hi0n
    have hi0lt : i0 < ops.size := hok.lt i0 (List.mem_append_left _ hi0b)
    rw [show m + 1 + ta.length = (m + ta.length) + 1 by omega]
    refine ⟨fun h0 => absurd h0 (ready_some hok hs hi0lt hi0n'), fun i hi => ?_⟩
    obtain ⟨h0, o, ho, hall⟩ := mem_ready.1 hi
    have hilt := (Array.getElem?_eq_some_iff.1 ho).1
    have hiL : i < L.size := by omega
    have hin : L.getD i false = false := by simpa [hiL] using h0
    have hib : i ∈ fx ++ al.map (·.i) := by
      rcases List.mem_append.1 (hok.all i hilt) with h | h
      · exact h
      · obtain ⟨k, hk⟩ := List.mem_iff_getElem?.1 h
        have := tail_waits hok hd hk hi i0 (List.mem_append_left _ hi0b)
        rw [hi0n'] at this
        cases this
    have hnta : i ∉ ta := fun h => (List.nodup_append.1 hnd).2.2 i hib i h rfl
    have hta' : ∀ j ∈ ta, (L.setIfInBounds i true).getD j false = false := fun j hj => by
      rw [getD_set_ne false (fun (e : i = j) => hnta (by rw [e]; exact hj))]
      exact hta j hj
    have hm' : ((fx ++ al.map (·.i)).filter fun j => !((L.setIfInBounds i true).getD j false)).length = m := by
      have := filter_less (fx ++ al.map (·.i)) (fun j => !(L.getD j false)) (fun j => !((L.setIfInBounds i true).getD j false)) i hndb hib (by simp only [hin, Bool.not_false]) (by simp [hiL]) (fun j hj => by simp only [getD_set_ne false (Ne.symm hj)])
      omega
    have hLi : (L.setIfInBounds i true).getD i false = true := by simp [hiL]
    have hLj : ∀ j, j ≠ i → (L.setIfInBounds i true).getD j false = L.getD j false := fun j hj => getD_set_ne false (Ne.symm hj)
    have hu := allp_uniq (vs := vs) hok hvs
    rcases List.mem_append.1 hib with hif | hia
    · -- it tells the same in whatever order
      rw [← hvs] at hif
      obtain ⟨x, hx, rfl⟩ := List.mem_map.1 hif
      obtain ⟨k, hk⟩ := List.mem_iff_getElem?.1 hx
      have hxa : x ∈ allp vs al gs := List.mem_append_left _ hx
      have hfk : fx[k]? = some x.1 := by rw [← hvs, List.getElem?_map, hk]; rfl
      have hT := tells_congr (E' := EL ops E0 vs al gs L) hok.sel (ht k x hk) (fun o' ho' t htl => by
        rw [ho] at ho'
        cases ho'
        have hfst := allp_fst vs al gs
        rw [hvs] at hfst
        by_cases hex : ∃ y ∈ allp vs al gs, dstOf ops y.1 = some t
        · obtain ⟨y, hy, hyd⟩ := hex
          have hyb : y.1 ∈ fx ++ al.map (·.i) := by rw [← hfst]; exact List.mem_map.2 ⟨y, hy, rfl⟩
          obtain ⟨hb, htk⟩ := hok.looks k x.1 o hfk ho t htl y.1 hyb hyd
          have hyv : y ∈ vs.take k := by
            rw [← hvs, ← List.map_take] at htk
            obtain ⟨z, hz, e⟩ := List.mem_map.1 htk
            have hza : z ∈ allp vs al gs := List.mem_append_left _ (List.mem_of_mem_take hz)
            have : z = y := hu gs z hza y hy t (by rw [e]; exact hyd) hyd
            exact this ▸ hz
          have hyl : L.getD y.1 false = true := by
            unfold bindsOn at hb
            obtain ⟨e, he, hbb⟩ := Array.any_eq_true'.1 hb
            simp only [Bool.and_eq_true, beq_iff_eq] at hbb
            rw [← hbb.2]
            exact hall e he hbb.1
          unfold EL
          rw [putAll_at E0 t _ y (List.mem_filter.2 ⟨hy, hyl⟩) hyd (fun z hz hzd => hu gs z (List.mem_filter.1 hz).1 y hy t hzd hyd)]
          rw [putAll_at E0 t _ y hyv hyd (fun z hz hzd => hu gs z (List.mem_append_left _ (List.mem_of_mem_take hz)) y hy t hzd hyd)]
        · unfold EL
          rw [putAll_not E0 t _ (fun z hz hzd => hex ⟨z, (List.mem_filter.1 hz).1, hzd⟩)]
          rw [putAll_not E0 t _ (fun z hz hzd => hex ⟨z, List.mem_append_left _ (List.mem_of_mem_take hz), hzd⟩)])
      obtain ⟨o', ho', hT⟩ := hT
      rw [ho] at ho'
      cases ho'
      have hEL : EL ops E0 vs al gs (L.setIfInBounds x.1 true) = (EL ops E0 vs al gs L).put o.dst x.2 := by
        have := put_filter (ops := ops) E0 (allp vs al gs) (allp vs al gs) L x.1 x.2 hxa (fun _ _ => Iff.rfl) (hu gs) (hu gs) hin hiL
        unfold EL
        rw [this]
        simp [dstOf, ho]
      have hmade : ∀ y ∈ al, (L.setIfInBounds x.1 true).getD y.i false = true → L.getD y.i false = true := by
        intro y hy hl
        have hne : y.i ≠ x.1 := by
          intro e
          have h3 := (List.nodup_append.1 hndb).2.2 x.1 (hvs ▸ hif) y.i (List.mem_map.2 ⟨y, hy, rfl⟩)
          exact h3 e.symm
        rw [hLj _ hne] at hl
        exact hl
      unfold wpOp
      simp only [ho]
      rw [hI.sees.yld]
      rcases hT with ⟨hw, hstep⟩ | ⟨hw, hv⟩
      · rw [hw, if_pos rfl]
        refine .inl (hstep.wpF hI.sees hI.own hI.below ?_)
        rintro v H' w' ⟨rfl, rfl⟩ hO' hB'
        exact ih _ _ w' gs F (by simp [hs]) (hd.set hi) hta' hm' ⟨hEL ▸ hI.sees.put _ _, hO', hB', fun y hy hl => hI.made y hy (hmade y hy hl), fun y hy z hz hl hl' hne => hI.other y hy z hz (hmade y hy hl) (hmade z hz hl') hne⟩
      · rw [hw, if_neg (by simp)]
        rw [hv] at hEL
        exact ih _ _ w gs F (by simp [hs]) (hd.set hi) hta' hm' ⟨hEL ▸ hI.sees.put _ _, hI.own, hI.below, fun y hy hl => hI.made y hy (hmade y hy hl), fun y hy z hz hl hl' hne => hI.other y hy z hz (hmade y hy hl) (hmade z hz hl') hne⟩
    · -- a box is made
      obtain ⟨x, hx, rfl⟩ := List.mem_map.1 hia
      obtain ⟨o', z, ho', hop, hgd, hz, hcs⟩ := hal x hx
      rw [ho] at ho'
      cases ho'
      have hnal : (al.map (·.i)).Nodup := (List.nodup_append.1 hndb).2.1
      have hsame : ∀ y ∈ al, y.i = x.i → y = x := by
        have : ∀ (l : List Al), (l.map (·.i)).Nodup → ∀ y ∈ l, ∀ z ∈ l, y.i = z.i → y = z := by
          intro l
          induction l with
          | nil => intro _ y hy; cases hy
          | cons u l ih =>
            intro hn y hy z hz e
            simp only [List.map_cons, List.nodup_cons] at hn
            rcases List.mem_cons.1 hy with hy | hy <;> rcases List.mem_cons.1 hz with hz | hz
            · rw [hy, hz]
            · rw [hy] at e; exact absurd (List.mem_map.2 ⟨z, hz, e.symm⟩) hn.1
            · rw [hz] at e; exact absurd (List.mem_map.2 ⟨y, hy, e⟩) hn.1
            · exact ih hn.2 y hy z hz e
        exact fun y hy e => this al hnal y hy x hx e
      let gs' : Nat → Nat := fun j => if j = x.i then w.heap.size else gs j
      have hgx : gs' x.i = w.heap.size := by simp [gs']
      have hgy : ∀ j, j ≠ x.i → gs' j = gs j := fun j hj => by simp [gs', hj]
      have hEL : EL ops E0 vs al gs' (L.setIfInBounds x.i true) = (EL ops E0 vs al gs L).put o.dst (ptr w.heap.size) := by
        have hxa : (x.i, ptr w.heap.size) ∈ allp vs al gs' := List.mem_append_right _ (List.mem_map.2 ⟨x, hx, by rw [hgx]⟩)
        have := put_filter (ops := ops) E0 (allp vs al gs) (allp vs al gs') L x.i (ptr w.heap.size) hxa (fun y hy => by
          simp only [allp, List.mem_append, List.mem_map]
          constructor
          · rintro (h | ⟨q, hq, rfl⟩)
            · exact .inl h
            · exact .inr ⟨q, hq, by rw [hgy q.i hy]⟩
          · rintro (h | ⟨q, hq, rfl⟩)
            · exact .inl h
            · exact .inr ⟨q, hq, by rw [hgy q.i hy]⟩) (hu gs) (hu gs') hin hiL
        unfold EL
        rw [this]
        simp [dstOf, ho]
      have hst : Step p (ev n (EL ops E0 vs al gs L)) o H0 (fun v H' => ∃ g, v = ptr g ∧ H' = ⟨g, x.cs, x.t, false⟩ :: H0) := st_alloc hop hz hcs (fun g => ⟨g, rfl, rfl⟩)
      have hrun : (execOp (ev n (EL ops E0 vs al gs L)) o).run p w = .ok (.value (.pointer (some ⟨w.heap.size, 0, none⟩))) (w.alloc (.cells x.cs.toArray x.t (0, 0))) := by
        rw [← hcs]
        rw [execOp, hop]
        cases hq : p.info? x.t with
        | none => simp [hq] at hz
        | some inf =>
          have hz' : inf.zero = some z := by simpa [hq] using hz
          simp [Instr.alloc, zeroValue, typeInfo, hq, hz', newVar, newRow, Sem.run_bind]
      unfold wpOp
      simp only [ho]
      have hwant : Region.wanted o (yielded ops a.tmps) = true := by simp [Region.wanted, hgd]
      rw [hwant, if_pos rfl]
      refine .inl ?_
      unfold Oper.wp
      rw [hI.sees.eval, hrun]
      have hO1 : Own β (H0 ++ (⟨w.heap.size, x.cs, x.t, false⟩ :: F)) (w.alloc (.cells x.cs.toArray x.t (0, 0))) := (hI.own.alloc x.cs x.t).perm (List.perm_middle.symm)
      have hmade : ∀ y ∈ al, (L.setIfInBounds x.i true).getD y.i false = true → y ≠ x → L.getD y.i false = true ∧ y.i ≠ x.i := by
        intro y hy hl hne
        have hyi : y.i ≠ x.i := fun e => hne (hsame y hy e)
        rw [hLj _ hyi] at hl
        exact ⟨hl, hyi⟩
      have hfresh : ∀ y ∈ al, L.getD y.i false = true → gs y.i < w.heap.size := fun y hy hl => hI.own.lt (List.mem_append_right _ (hI.made y hy hl))
      refine ih _ _ _ gs' (⟨w.heap.size, x.cs, x.t, false⟩ :: F) (by simp [hs]) (hd.set hi) hta' hm' ⟨hEL ▸ hI.sees.put _ _, hO1, hI.below.alloc _, ?_, ?_⟩
      · intro y hy hl
        by_cases hyx : y = x
        · subst hyx
          rw [hgx]
          exact List.mem_cons_self
        · obtain ⟨hl', hyi⟩ := hmade y hy hl hyx
          rw [hgy _ hyi]
          exact List.mem_cons_of_mem _ (hI.made y hy hl')
      · intro y hy u hu' hl hl' hne
        by_cases hyx : y = x
        · subst hyx
          have hux : u ≠ y := fun e => hne (by rw [e])
          obtain ⟨hl2, hui⟩ := hmade u hu' hl' hux
          rw [hgx, hgy _ hui]
          exact Ne.symm (Nat.ne_of_lt (hfresh u hu' hl2))
        · obtain ⟨hl1, hyi⟩ := hmade y hy hl hyx
          by_cases hux : u = x
          · subst hux
            rw [hgx, hgy _ hyi]
            exact Nat.ne_of_lt (hfresh y hy hl1)
          · obtain ⟨hl2, hui⟩ := hmade u hu' hl' hux
            rw [hgy _ hyi, hgy _ hui]
            exact hI.other y hy u hu' hl1 hl2 hne
theorem any_draw (fx ta : List Nat) (al : List Al) (hok : drawOk ops fx (al.map (·.i)) ta = true)
    (hal : ∀ x ∈ al, ∃ o z, ops[x.i]? = some o ∧ o.op = .alloc x.t ∧ o.guard = none ∧ (p.info? x.t).map (·.zero) = some (some z) ∧ z.cells = x.cs.toArray)
    (h : DWalk p n ops H0 fx E0 fun E => ∀ gs : Nat → Nat, AR p n ops Q (ta.map fun i => (ops[i]?).getD default) (putAll ops E (al.map fun x => (x.i, ptr (gs x.i)))) (al.map (fun x => (⟨gs x.i, x.cs, x.t, false⟩ : Box)) ++ H0)) :
    ∀ β w a, Own β H0 w → Keeps β w → Sees n E0 a → wpAny p .any ops (AQ n β Q) ops.size (Array.replicate ops.size false) a { w with drawn := w.drawn + 1 } := by
  intro β w a hO hB hs
  have hok' := drawOk_spec hok
  obtain ⟨vs, hvs, ht, hK⟩ := dwalk_vals _ _ h
  have hlen := hok'.len
  have hnone : ∀ i, (Array.replicate ops.size false).getD i false = false := by
    intro i
    simp only [Array.getD_eq_getD_getElem?, Array.getElem?_replicate]
    split <;> rfl
  have hcount : ((fx ++ al.map (·.i)).filter fun i => !((Array.replicate ops.size false).getD i false)).length = (fx ++ al.map (·.i)).length := by
    rw [List.filter_eq_self.2 fun i _ => by rw [hnone]; rfl]
  have := body_phase (E0 := E0) (H0 := H0) (Q := Q) hok' hvs ht hal (fun gs => by have := hK gs; rw [← putAll_append] at this; exact this) (β := β) _ (Array.replicate ops.size false) a { w with drawn := w.drawn + 1 } (fun _ => 0) [] (by simp) (fun i o ho hl => by rw [hnone] at hl; cases hl) (fun i _ => hnone i) hcount
    ⟨by
      have : EL ops E0 vs al (fun _ => 0) (Array.replicate ops.size false) = E0 := by
        unfold EL
        rw [List.filter_eq_nil_iff.2 fun x _ => by rw [hnone]; simp]
        rfl
      rw [this]; exact hs, by rw [List.append_nil]; exact hO.drew, hB.drew, fun x _ hl => (by rw [hnone] at hl; cases hl), fun x _ y _ hl => (by rw [hnone] at hl; cases hl)⟩
  have e : (fx ++ al.map (·.i)).length + ta.length = ops.size := by rw [← hlen, ← List.length_append]
  rw [e] at this
  exact this
theorem ac_draw {id : Nat} (fx ta : List Nat) (al : List Al) (hok : drawOk ops fx (al.map (·.i)) ta = true) (hm : p.follows .mixedOrders = true)
    (hal : ∀ x ∈ al, ∃ o z, ops[x.i]? = some o ∧ o.op = .alloc x.t ∧ o.guard = none ∧ (p.info? x.t).map (·.zero) = some (some z) ∧ z.cells = x.cs.toArray)
    (h : DWalk p n ops H0 fx E0 fun E => ∀ gs : Nat → Nat, AR p n ops Q (ta.map fun i => (ops[i]?).getD default) (putAll ops E (al.map fun x => (x.i, ptr (gs x.i)))) (al.map (fun x => (⟨gs x.i, x.cs, x.t, false⟩ : Box)) ++ H0)) :
    AC p n (.region id ops true) Q E0 H0 :=
  fun β w a hO hB hs => wp_region_any hm (any_draw fx ta al hok hal h β w a hO hB hs)
end
end
end Go.Proofs.YtalffjplbhelcaaGreatDoor
namespace Go.Proofs.YtalffjplbhelcaaGreatDoor
open Go.RowKit
abbrev w64 (n : Int) : Int := IntKind.i64.wrap n
section
variable {p : Program} {n : Nat} {ops : Array Oper} {Q : Exit → Env → List Box → Prop} {l : List Oper} {E : Env} {H : List Box} {o : Oper} {ρ : Operand → Value} {K : Post}
theorem ar_op {d : Option Nat} (hg : o.guard = none) (hd : o.dst = d) (h : Step p (ev n E) o H fun v H' => AR p n ops Q l (E.put d v) H') : AR p n ops Q (o :: l) E H := by
  subst hd
  exact ar_plain hg h
theorem ao (d : Nat) (hg : o.guard = none) (hd : o.dst = some d) (h : Step p (ev n E) o H fun v H' => AR p n ops Q l (E.put (some d) v) H') : AR p n ops Q (o :: l) E H := ar_op hg hd h
theorem ar_gd {d : Option Nat} (hg : yld n ops E o = true) (hd : o.dst = d) (h : Step p (ev n E) o H fun v H' => AR p n ops Q l (E.put d v) H') : AR p n ops Q (o :: l) E H := by
  subst hd
  exact ar_step hg h
theorem ar_sk {d : Option Nat} (hg : yld n ops E o = false) (hd : o.dst = d) (h : AR p n ops Q l (E.put d undef) H) : AR p n ops Q (o :: l) E H := by
  subst hd
  exact ar_skip hg h
theorem ar_round {c : Code} {k : Nat} (h : AC p n c (AThen (ARounds p n c Q k) Q) E H) : ARounds p n c Q (k + 1) E H := h
theorem dw_op {is : List Nat} {i : Nat} {d : Option Nat} {K : Env → Prop} (v : Value) (ho : ops[i]? = some o) (hg : o.guard = none) (hd : o.dst = d) (hs : Step p (ev n E) o H fun v' H' => v' = v ∧ H' = H)
    (h : DWalk p n ops H is (E.put d v) K) : DWalk p n ops H (i :: is) E K := by
  subst hd
  exact ⟨o, v, ho, .inl ⟨by unfold yld; rw [hg], hs⟩, h⟩
theorem dw_nil {K : Env → Prop} (h : K E) : DWalk p n ops H [] E K := h
structure Zero (p : Program) (t : TypeId) (cs : List Value) : Prop where
  out : ∃ z, (p.info? t).map (·.zero) = some (some z) ∧ z.cells = cs.toArray
theorem ac_draw0 {id : Nat} (fx ta : List Nat) (tl : List Oper) (hok : drawOk ops fx [] ta = true) (hm : p.follows .mixedOrders = true) (htl : (ta.map fun i => (ops[i]?).getD default) = tl)
    (h : DWalk p n ops H fx E fun E => AR p n ops Q tl E H) : AC p n (.region id ops true) Q E H := by
  subst htl
  exact ac_draw fx ta [] hok hm (by simp) (by simpa [putAll] using h)
theorem dwalk_mono {K K' : Env → Prop} (hk : ∀ E, K E → K' E) : ∀ (is : List Nat) (E : Env), DWalk p n ops H is E K → DWalk p n ops H is E K' := by
  intro is
  induction is with
  | nil => intro E h; exact hk _ h
  | cons i is ih => rintro E ⟨o, v, ho, hs, h⟩; exact ⟨o, v, ho, hs, ih _ h⟩
theorem ac_draw1 {id : Nat} (fx ta : List Nat) (i d t : Nat) (cs : List Value) (tl : List Oper) (hok : drawOk ops fx [i] ta = true) (hm : p.follows .mixedOrders = true) (htl : (ta.map fun i => (ops[i]?).getD default) = tl)
    (hz : Zero p t cs) (hi : ∃ o, ops[i]? = some o ∧ o.op = .alloc t ∧ o.guard = none ∧ o.dst = some d)
    (h : DWalk p n ops H fx E fun E => ∀ g, AR p n ops Q tl (E.put (some d) (.pointer (some ⟨g, 0, none⟩))) (⟨g, cs, t, false⟩ :: H)) : AC p n (.region id ops true) Q E H := by
  subst htl
  obtain ⟨o, ho, h1, h2, h3⟩ := hi
  obtain ⟨z, hz1, hz2⟩ := hz.out
  refine ac_draw fx ta [⟨i, t, cs⟩] hok hm (fun x hx => by obtain rfl := List.mem_singleton.1 hx; exact ⟨o, z, ho, h1, h2, hz1, hz2⟩) ?_
  refine dwalk_mono ?_ _ _ h
  intro E hE gs
  have := hE (gs i)
  simpa [putAll, dstOf, ho, h3, ptr] using this
theorem st_new {t : TypeId} {cs : List Value} (hz : Zero p t cs) (ho : o.op = .alloc t) (k : ∀ g, K (.pointer (some ⟨g, 0, none⟩)) (⟨g, cs, t, false⟩ :: H)) : Step p ρ o H K := by
  obtain ⟨z, h1, h2⟩ := hz.out
  exact st_alloc ho h1 h2 k
structure IsAgg (p : Program) (t : TypeId) (n : Nat) : Prop where
  out : ∃ d, p.underlying t = some d ∧ aggD d = true ∧ (p.info? t).map (·.size) = some n
structure IsCell (p : Program) (t : TypeId) : Prop where
  out : ∃ d, p.underlying t = some d ∧ aggD d = false ∧ (p.info? t).map (·.size) = some 1
theorem st_lda {t : TypeId} {x : Operand} {g off : Nat} {b : Box} {vs : List Value} {m : Nat} (ha : IsAgg p t m) (i : Nat) (ho : o.op = .load t x) (hx : ρ x = .pointer (some ⟨g, off, none⟩)) (hm : H[i]? = some b) (hg : b.g = g)
    (hn : vs.length = m) (hv : (b.cs.drop off).take m = vs) (k : K (.agg vs.toArray) H) : Step p ρ o H K := by
  obtain ⟨d, h1, h2, h3⟩ := ha.out
  exact st_load_agg i ho hx hm hg h1 h2 (by rw [h3, hn]) (by rw [hn, hv]) k
theorem st_ldc {t : TypeId} {x : Operand} {g off : Nat} {b : Box} {v : Value} (ha : IsCell p t) (i : Nat) (ho : o.op = .load t x) (hx : ρ x = .pointer (some ⟨g, off, none⟩)) (hm : H[i]? = some b) (hg : b.g = g)
    (hv : b.cs[off]? = some v) (k : K v H) : Step p ρ o H K := by
  obtain ⟨d, h1, h2, _⟩ := ha.out
  exact st_load i ho hx hm hg h1 h2 hv k
theorem st_sta {t : TypeId} {x y : Operand} {g off : Nat} {b : Box} {us cs : List Value} {m : Nat} (ha : IsAgg p t m) (i : Nat) (ho : o.op = .store t x y) (hx : ρ x = .pointer (some ⟨g, off, none⟩)) (hy : ρ y = .agg us.toArray) (hm : H[i]? = some b) (hg : b.g = g)
    (hn : us.length = m) (hle : Nat.ble (off + m) b.cs.length = true) (h1 : us.all (·.oneCell') = true) (hcs : b.cs.take off ++ us ++ b.cs.drop (off + m) = cs) (k : K undef (upd H i cs)) (hro : b.ro = false := by rfl) : Step p ρ o H K := by
  obtain ⟨d, _, _, h3⟩ := ha.out
  subst hn
  exact st_store i ho hx hy rfl hm hg h3 hle h1 hcs k hro
theorem st_stc {t : TypeId} {x y : Operand} {g off : Nat} {b : Box} {u : Value} {cs : List Value} (ha : IsCell p t) (i : Nat) (ho : o.op = .store t x y) (hx : ρ x = .pointer (some ⟨g, off, none⟩)) (hy : ρ y = u) (hu : u.cells = #[u]) (hm : H[i]? = some b) (hg : b.g = g)
    (hle : Nat.ble (off + 1) b.cs.length = true) (h1 : u.oneCell' = true) (hcs : b.cs.take off ++ [u] ++ b.cs.drop (off + 1) = cs) (k : K undef (upd H i cs)) (hro : b.ro = false := by rfl) : Step p ρ o H K := by
  obtain ⟨d, _, _, h3⟩ := ha.out
  exact st_store (us := [u]) i ho hx hy (by rw [hu]) hm hg h3 hle (by simp [h1]) hcs k hro
structure Runs (p : Program) (s : Sem Value) (v : Value) : Prop where
  out : ∀ w, s.run p w = .ok v w
theorem st_run {s : Sem Value} {v : Value} (he : execOp ρ o = (do pure (.value (← s)))) (hr : Runs p s v) (k : K v H) : Step p ρ o H K :=
  st_val (fun w => by rw [he]; simp [Sem.run_bind, hr.out w]) k
theorem st_fa {t f : Nat} {x : Operand} {g off j : Nat} (ho : o.op = .fieldAddr t x f) (hr : ∀ a, Runs p (Instr.fieldAt t (.pointer (some a)) f) (.pointer (some (a.add j)))) (hx : ρ x = .pointer (some ⟨g, off, none⟩)) (k : K (.pointer (some ⟨g, off + j, none⟩)) H) : Step p ρ o H K :=
  st_run (s := Instr.fieldAt t (.pointer (some ⟨g, off, none⟩)) f) (by rw [execOp, ho]; simp only [hx]) (by have := hr ⟨g, off, none⟩; rw [add_at] at this; exact this) k
theorem st_ix {t : Nat} {x y : Operand} {u i v : Value} (ho : o.op = .index t x y) (hx : ρ x = u) (hy : ρ y = i) (hr : Runs p (Instr.index t u i) v) (k : K v H) : Step p ρ o H K :=
  st_run (s := Instr.index t u i) (by rw [execOp, ho]; simp only [hx, hy]) hr k
theorem st_ia {t : Nat} {x y : Operand} {u i v : Value} (ho : o.op = .indexAddr t x y) (hx : ρ x = u) (hy : ρ y = i) (hr : Runs p (Instr.indexAt t u i) v) (k : K v H) : Step p ρ o H K :=
  st_run (s := Instr.indexAt t u i) (by rw [execOp, ho]; simp only [hx, hy]) hr k
theorem st_bd {t : Nat} {ps : List (Nat × Operand)} {us : List (Nat × Value)} {v : Value} (ho : o.op = .build t ps.toArray) (hx : (ps.map fun x => (x.1, ρ x.2)) = us) (hr : Runs p (Instr.build t us.toArray) v) (k : K v H) : Step p ρ o H K :=
  st_run (s := Instr.build t us.toArray) (by rw [execOp, ho]; simp only [List.map_toArray]; rw [← hx]) hr k
theorem st_ex {x : Operand} {i : Nat} {vs : List Value} {v : Value} (ho : o.op = .extract x i) (hx : ρ x = .tuple vs.toArray) (hi : vs[i]? = some v) (k : K v H) : Step p ρ o H K :=
  st_run (s := Instr.extract (.tuple vs.toArray) i) (by rw [execOp, ho]; simp only [hx]) ⟨fun w => by simp [Instr.extract, hi]⟩ k
theorem st_cv_int {t u : Nat} {x : Operand} {k : IntKind} {a c : Int} (hu : p.underlying u = some (.int k)) (ht : p.underlying t = some (.int .i64)) (ho : o.op = .convert t u x) (hx : ρ x = .int .i64 a) (h : k.wrap a = c) (kk : K (.int k c) H) : Step p ρ o H K :=
  st_run (s := convert t u (.int .i64 a)) (by rw [execOp, ho]; simp only [hx]) ⟨fun w => by simp [convert, Sem.run_bind, run_underlying hu w, run_underlying ht w, Conv.intToInt, h]⟩ kk
theorem st_un {op : UnOp} {t : Nat} {x : Operand} {u v : Value} (ho : o.op = .unOp op t x) (hx : ρ x = u) (hr : Runs p (Op.unary op u) v) (k : K v H) : Step p ρ o H K :=
  st_run (s := Op.unary op u) (by rw [execOp, ho]; simp only [hx]) hr k
theorem st_pkt {c x y : Operand} {v : Value} (ho : o.op = .pick c x y) (hc : ρ c = .bool true) (hx : ρ x = v) (k : K v H) : Step p ρ o H K := st_pick ho hc hx rfl rfl k
theorem st_pkf {c x y : Operand} {v : Value} (ho : o.op = .pick c x y) (hc : ρ c = .bool false) (hx : ρ y = v) (k : K v H) : Step p ρ o H K := st_pick ho hc rfl hx rfl k
theorem st_pkt' {c x y : Operand} {b : Bool} {v : Value} (hb : b = true) (ho : o.op = .pick c x y) (hc : ρ c = .bool b) (hx : ρ x = v) (k : K v H) : Step p ρ o H K := st_pkt ho (hb ▸ hc) hx k
theorem st_pkf' {c x y : Operand} {b : Bool} {v : Value} (hb : b = false) (ho : o.op = .pick c x y) (hc : ρ c = .bool b) (hx : ρ y = v) (k : K v H) : Step p ρ o H K := st_pkf ho (hb ▸ hc) hx k
theorem ac_then' {c : Operand} {x y : Code} {b : Bool} (hb : b = true) (hc : ev n E c = .bool b) (h : AC p n x Q E H) : AC p n (.cond c x y) Q E H := ac_then (hb ▸ hc) h
theorem ac_else' {c : Operand} {x y : Code} {b : Bool} (hb : b = false) (hc : ev n E c = .bool b) (h : AC p n y Q E H) : AC p n (.cond c x y) Q E H := ac_else (hb ▸ hc) h
theorem st_bi {op : BinOp} {t y' : Nat} {x y : Operand} {u v r : Value} (ho : o.op = .binOp op t x y y') (hx : ρ x = u) (hy : ρ y = v) (hr : ∀ x y : Operand, Runs p (do eqGuard op t x y u v; binOp op t u v) r) (k : K r H) : Step p ρ o H K :=
  st_run (s := do eqGuard op t x y u v; binOp op t u v) (by rw [execOp, ho]; simp only [hx, hy]) (hr x y) k
theorem un_not {b c : Bool} (h : (!b) = c) : Runs p (Op.unary .not (.bool b)) (.bool c) := ⟨fun w => by rw [← h]; rfl⟩
theorem un_neg {a c : Int} (h : w64 (0 - a) = c) : Runs p (Op.unary .neg (.int .i64 a)) (.int .i64 c) := ⟨fun w => by rw [← h]; rfl⟩
section
variable {t : Nat} {a b c : Int} {d : Bool}
theorem bi_add (h : w64 (a + b) = c) (x y : Operand) : Runs p (do eqGuard .add t x y (.int .i64 a) (.int .i64 b); binOp .add t (.int .i64 a) (.int .i64 b)) (.int .i64 c) := ⟨fun w => by rw [← h]; rfl⟩
theorem bi_sub (h : w64 (a - b) = c) (x y : Operand) : Runs p (do eqGuard .sub t x y (.int .i64 a) (.int .i64 b); binOp .sub t (.int .i64 a) (.int .i64 b)) (.int .i64 c) := ⟨fun w => by rw [← h]; rfl⟩
theorem bi_mul (h : w64 (a * b) = c) (x y : Operand) : Runs p (do eqGuard .mul t x y (.int .i64 a) (.int .i64 b); binOp .mul t (.int .i64 a) (.int .i64 b)) (.int .i64 c) := ⟨fun w => by rw [← h]; rfl⟩
theorem bi_quo (hb : b ≠ 0) (h : w64 (a.tdiv b) = c) (x y : Operand) : Runs p (do eqGuard .quo t x y (.int .i64 a) (.int .i64 b); binOp .quo t (.int .i64 a) (.int .i64 b)) (.int .i64 c) := ⟨fun w => by rw [← h]; simp [eqGuard, binOp, Op.intDiv, hb]⟩
theorem bi_rem (hb : b ≠ 0) (h : a.tmod b = c) (x y : Operand) : Runs p (do eqGuard .rem t x y (.int .i64 a) (.int .i64 b); binOp .rem t (.int .i64 a) (.int .i64 b)) (.int .i64 c) := ⟨fun w => by rw [← h]; simp [eqGuard, binOp, Op.intDiv, hb]⟩
theorem bi_lss (h : decide (a < b) = d) (x y : Operand) : Runs p (do eqGuard .lss t x y (.int .i64 a) (.int .i64 b); binOp .lss t (.int .i64 a) (.int .i64 b)) (.bool d) := ⟨fun w => by rw [← h]; rfl⟩
theorem bi_leq (h : decide (a ≤ b) = d) (x y : Operand) : Runs p (do eqGuard .leq t x y (.int .i64 a) (.int .i64 b); binOp .leq t (.int .i64 a) (.int .i64 b)) (.bool d) := ⟨fun w => by rw [← h]; rfl⟩
theorem bi_gtr (h : decide (a > b) = d) (x y : Operand) : Runs p (do eqGuard .gtr t x y (.int .i64 a) (.int .i64 b); binOp .gtr t (.int .i64 a) (.int .i64 b)) (.bool d) := ⟨fun w => by rw [← h]; rfl⟩
theorem bi_geq (h : decide (a ≥ b) = d) (x y : Operand) : Runs p (do eqGuard .geq t x y (.int .i64 a) (.int .i64 b); binOp .geq t (.int .i64 a) (.int .i64 b)) (.bool d) := ⟨fun w => by rw [← h]; rfl⟩
theorem bi_shl {k : IntKind} {m : Int} (hm : IntKind.i64.wrap (a * 2 ^ (min (Int.toNat b) 64)) = m) (hb : ¬ b < 0) (x y : Operand) : Runs p (do eqGuard .shl t x y (.int .i64 a) (.int k b); binOp .shl t (.int .i64 a) (.int k b)) (.int .i64 m) := ⟨fun w => by rw [← hm]; simp [eqGuard, binOp, Op.shift, hb, IntKind.bits]⟩
theorem bi_or (h : w64 ((BitVec.ofInt 64 a ||| BitVec.ofInt 64 b).toNat : Int) = c) (x y : Operand) : Runs p (do eqGuard .or t x y (.int .i64 a) (.int .i64 b); binOp .or t (.int .i64 a) (.int .i64 b)) (.int .i64 c) := ⟨fun w => by rw [← h]; rfl⟩
theorem bi_eql (h : (a == b) = d) (x y : Operand) : Runs p (do eqGuard .eql t x y (.int .i64 a) (.int .i64 b); binOp .eql t (.int .i64 a) (.int .i64 b)) (.bool d) := ⟨fun w => by rw [← h]; rfl⟩
theorem bi_neq (h : (a != b) = d) (x y : Operand) : Runs p (do eqGuard .neq t x y (.int .i64 a) (.int .i64 b); binOp .neq t (.int .i64 a) (.int .i64 b)) (.bool d) := ⟨fun w => by rw [← h]; rfl⟩
end
theorem run_fa {t f : Nat} {fs : Array Field} {fd : Field} {m off : Nat} (hu : p.underlying t = some (.struct fs)) (hf : fs[f]? = some fd) (ho : fd.offset = off) (hi : (p.info? fd.type).map (·.size) = some m) (hm : m ≠ 0) (a : Addr) : Runs p (Instr.fieldAt t (.pointer (some a)) f) (.pointer (some (a.add off))) := ⟨fun w => by
  subst ho
  cases hq : p.info? fd.type with
  | none => simp [hq] at hi
  | some inf =>
    have hs : inf.size = m := by simpa [hq] using hi
    simp [Instr.fieldAt, Sem.run_bind, run_underlying hu w, hf, Instr.sureAddr, fieldPlace, sizeOf, typeInfo, hq, hs, hm]⟩
theorem run_ia {t n e i m : Nat} (hu : p.underlying t = some (.array n e)) (hi : (p.info? e).map (·.size) = some m) {j : Nat} (hj : i * m = j) (g off : Nat) (hlt : i < n) (h0 : (0 : Int) ≤ i) : Runs p (Instr.indexAt t (.pointer (some ⟨g, off, none⟩)) (.int .i64 i)) (.pointer (some ⟨g, off + j, none⟩)) := ⟨fun w => by
  cases hq : p.info? e with
  | none => simp [hq] at hi
  | some inf =>
    have hs : inf.size = m := by simpa [hq] using hi
    have hadd := add_at g off j
    simp [Instr.indexAt, Sem.run_bind, run_underlying hu w, Instr.sureAddr, asIntOf, sizeOf, typeInfo, hq, hs, hlt, hj, hadd]⟩
section
variable {d off m : Nat} {xs ys : List Value} {f : Field} {fs : List Field} {a b : Value} {r s : Bool} {w : World}
theorem part_c {t : Nat} {v : Value} (h : IsCell p t) (hv : xs[off]? = some v) : (part t xs.toArray off).run p w = .ok v w := by
  obtain ⟨d, h1, h2, _⟩ := h.out
  have hagg : (isAgg t).run p w = .ok false w := by
    unfold isAgg
    rw [Sem.run_bind, run_underlying h1 w]
    cases d <;> simp_all [aggD]
  simp [part, Sem.run_bind, hagg, hv]
theorem run_ixc {t n e i : Nat} {v : Value} (hu : p.underlying t = some (.array n e)) (hc : IsCell p e) (hlt : i < n) (h0 : (0 : Int) ≤ i) (hv : xs[i]? = some v) : Runs p (Instr.index t (.agg xs.toArray) (.int .i64 i)) v := ⟨fun w => by
  have hp := part_c (w := w) (off := i) hc hv
  obtain ⟨d, h1, h2, h3⟩ := hc.out
  cases hq : p.info? e with
  | none => simp [hq] at h3
  | some inf =>
    have hs : inf.size = 1 := by simpa [hq] using h3
    simp [Instr.index, asIntOf, Sem.run_bind, run_underlying hu w, hlt, sizeOf, typeInfo, hq, hs, hp]⟩
theorem eqf_c (hn : (f.name == "_") = false) (ha : (part f.type xs.toArray f.offset).run p w = .ok a w) (hb : (part f.type ys.toArray f.offset).run p w = .ok b w) (he : (Op.equalIn d f.type a b).run p w = .ok r w) (hr : (Op.eqFields d xs.toArray ys.toArray fs).run p w = .ok s w) : (Op.eqFields d xs.toArray ys.toArray (f :: fs)).run p w = .ok (r && s) w := by
  have hn' : f.name ≠ "_" := by simpa using hn
  rw [Op.eqFields]
  simp only [if_pos hn', Sem.run_bind, ha, hb, he, Result.andThen_ok]
  cases r
  · simp
  · simpa using hr
theorem eqf_n : (Op.eqFields d xs.toArray ys.toArray []).run p w = .ok true w := by simp [Op.eqFields]
theorem eqf_s {t : TypeId} {fs : List Field} (hu : p.underlying t = some (.struct fs.toArray)) (hp : p.stoodInHeld t = false) (h : (Op.eqFields d xs.toArray ys.toArray fs).run p w = .ok r w) : (Op.equalIn (d + 1) t (.agg xs.toArray) (.agg ys.toArray)).run p w = .ok r w := by
  have hf : p.fieldsOf t = fs.toArray := by simp [Program.fieldsOf, hu]
  rw [run_equalIn_struct (P := p) w d t xs.toArray ys.toArray (by rw [hf]; exact hu) hp, hf]
  exact h
theorem bs_eql {t : Nat} {xs ys : Array Value} {c d : Bool} (hg : p.eqGuardType p.depth t = false) (he : ∀ w, (Op.equalIn 10000 t (.agg xs) (.agg ys)).run p w = .ok c w) (h : c = d) (x y : Operand) : Runs p (do eqGuard .eql t x y (.agg xs) (.agg ys); binOp .eql t (.agg xs) (.agg ys)) (.bool d) := ⟨fun w => by
  rw [← h, Sem.run_bind, run_eqGuard_agg w .eql t x y xs ys hg]
  simp only [Result.andThen_ok]
  rw [run_eql_struct, he w]
  rfl⟩
end
theorem st_cf {f : FuncId} {args : List Operand} {ts : Array TypeId} {vs : List Value} {r : Value} {fn : Func} {c : Code} (h : Gets p f vs.toArray r) (hfn : p.funcs[f]? = some fn) (hb : fn.body = some c) (hnm : (fn.name == "runtime.NumGoroutine") = false)
    (ho : o.op = .call { callee := .value (.func f), args := args.toArray, argTypes := ts }) (hf : ρ (.func f) = .func (.func f) #[] #[]) (hv : args.map ρ = vs) (k : K r H) : Step p ρ o H K := st_call ho hf hv hfn hb hnm h k
theorem ne_of_beq0 {a : Int} (h : (a == 0) = false) : a ≠ 0 := by
  intro e
  rw [e] at h
  cases h
theorem st_cv {f : FuncId} {x : Operand} {args : List Operand} {ts : Array TypeId} {vs : List Value} {r : Value} {fn : Func} {c : Code} (h : Gets p f vs.toArray r) (hfn : p.funcs[f]? = some fn) (hb : fn.body = some c) (hnm : (fn.name == "runtime.NumGoroutine") = false)
    (ho : o.op = .call { callee := .value x, args := args.toArray, argTypes := ts }) (hf : ρ x = .func (.func f) #[] #[]) (hv : args.map ρ = vs) (k : K r H) : Step p ρ o H K := by
  intro F β w hO hB
  have e : (execOp ρ o).run p w = .ok (.enter f vs.toArray) w := by
    rw [execOp, ho]
    simp only [resolve, hf, Deferred.ofValue, List.map_toArray, hv]
    have hnm' : ¬ fn.name = "runtime.NumGoroutine" := by simpa using hnm
    simp [Sem.run_bind, invoke, callFunc, hfn, hnm', hb]
  rw [e]
  exact (h w).mono fun e w' ⟨he, hb'⟩ => ⟨r, H, he, k, hO.below hb', hB.trans hb'⟩
theorem st_mn {ts : Array TypeId} {args : List Operand} {x y c : Int} (ho : o.op = .call { callee := .builtin .min, args := args.toArray, argTypes := ts }) (hv : args.map ρ = [.int .i64 x, .int .i64 y]) (h : min x y = c) (k : K (.int .i64 c) H) : Step p ρ o H K := by
  refine st_val (fun w => ?_) k
  rw [execOp, ho, ← h]
  simp only [resolve, List.map_toArray, hv]
  have e : (if y < x then y else x) = min x y := by rw [Int.min_def]; split <;> split <;> omega
  simp [invoke, builtin, Builtin.min_, Builtin.min2, Sem.run_bind, e]
theorem st_mx {ts : Array TypeId} {args : List Operand} {x y c : Int} (ho : o.op = .call { callee := .builtin .max, args := args.toArray, argTypes := ts }) (hv : args.map ρ = [.int .i64 x, .int .i64 y]) (h : max x y = c) (k : K (.int .i64 c) H) : Step p ρ o H K := by
  refine st_val (fun w => ?_) k
  rw [execOp, ho, ← h]
  simp only [resolve, List.map_toArray, hv]
  have e : (if x < y then y else x) = max x y := by rw [Int.max_def]; split <;> split <;> omega
  simp [invoke, builtin, Builtin.max_, Builtin.max2, Sem.run_bind, e]
theorem st_mx3 {ts : Array TypeId} {args : List Operand} {x y z c : Int} (ho : o.op = .call { callee := .builtin .max, args := args.toArray, argTypes := ts }) (hv : args.map ρ = [.int .i64 x, .int .i64 y, .int .i64 z]) (h : max (max x y) z = c) (k : K (.int .i64 c) H) : Step p ρ o H K := by
  refine st_val (fun w => ?_) k
  rw [execOp, ho, ← h]
  simp only [resolve, List.map_toArray, hv]
  have e : ∀ x y : Int, (if x < y then y else x) = max x y := fun x y => by rw [Int.max_def]; split <;> split <;> omega
  simp [invoke, builtin, Builtin.max_, Builtin.max2, Sem.run_bind, e]
def Fin (p : Program) (fn : Func) (n : Nat) (v : Value) : Exit → Env → List Box → Prop := fun e E H => (e = .ret ∨ e = .normal) ∧ Res p fn n E H v
theorem gets_fin {f : FuncId} {fn : Func} {c : Code} {args : Array Value} {v : Value} {n : Nat} (hf : p.funcs[f]? = some fn) (hb : fn.body = some c) (hn : fn.ntmps = n) (ha : Nat.ble args.size n = true)
    (h : AC p n c (Fin p fn n v) (envOf args) []) : Gets p f args v := gets_of hf hb hn ha h
theorem bool_split {G : Prop} (c : Bool) (ht : c = true → G) (hf : c = false → G) : G := by
  cases hc : c
  · exact hf hc
  · exact ht hc
theorem fin_eq {fn : Func} {v v' : Value} {e : Exit} (hv : v = v') (h : Fin p fn n v e E H) : Fin p fn n v' e E H := hv ▸ h
theorem fin_ret {fn : Func} {v : Value} (h : Res p fn n E H v) : Fin p fn n v .ret E H := ⟨.inl rfl, h⟩
theorem res_c {fn : Func} {t ty : Nat} {b : Box} {g : Nat} {vs : List Value} {m : Nat} (ha : IsAgg p ty m) (i : Nat) (h : fn.results = #[.cell t ty]) (hv : ev n E (.tmp t) = .pointer (some ⟨g, 0, none⟩)) (hm : H[i]? = some b) (hg : b.g = g) (hn : b.cs.length = m) (hb : b.cs = vs) : Res p fn n E H (.agg vs.toArray) := by
  obtain ⟨d, h1, h2, h3⟩ := ha.out
  subst hb
  exact res_cell i h hv hm hg h1 h2 (by rw [h3, hn]) rfl
theorem res_tt {fn : Func} {t u : Nat} {x y : Value} (h : fn.results = #[.tmp t, .tmp u]) (hx : ev n E (.tmp t) = x) (hy : ev n E (.tmp u) = y) : Res p fn n E H (.tuple #[x, y]) := by
  intro β w a hO hs
  rw [results_tmp2 h, ← hx, ← hy, ← hs.eval]
  rfl
theorem own_load {β : Base} {w : World} (hO : Own β H w) {ty : Nat} {b : Box} {m : Nat} (ha : IsAgg p ty m) (i : Nat) (hm : H[i]? = some b) (hn : b.cs.length = m) : (loadVar ty ⟨b.g, 0, none⟩).run p w = .ok (.agg b.cs.toArray) w := by
  obtain ⟨d, h1, h2, h3⟩ := ha.out
  obtain ⟨fr, _, hh⟩ := (hO.at_ b (List.mem_of_getElem? hm)).2
  exact run_loadVar_row w b.g b.t ty b.cs.toArray fr d hh h1 (by cases d <;> first | rfl | cases h2) (by rw [h3]; simp [hn])
theorem see_ptr {a : Act} (hs : Sees n E a) {t g : Nat} (hv : ev n E (.tmp t) = .pointer (some ⟨g, 0, none⟩)) : (a.tmps[t]?).getD undef = .pointer (some ⟨g, 0, none⟩) := by
  rw [← hv, ← hs.eval]
  simp [Act.eval]
theorem see_tmp {a : Act} (hs : Sees n E a) {t : Nat} {v : Value} (hv : ev n E (.tmp t) = v) : (a.tmps[t]?).getD undef = v := by
  rw [← hv, ← hs.eval]
  simp [Act.eval]
theorem res_ct {fn : Func} {t ty u : Nat} {b : Box} {g : Nat} {vs : List Value} {m : Nat} {y : Value} (ha : IsAgg p ty m) (i : Nat) (h : fn.results = #[.cell t ty, .tmp u]) (hv : ev n E (.tmp t) = .pointer (some ⟨g, 0, none⟩)) (hm : H[i]? = some b) (hg : b.g = g) (hn : b.cs.length = m) (hb : b.cs = vs)
    (hy : ev n E (.tmp u) = y) : Res p fn n E H (.tuple #[.agg vs.toArray, y]) := by
  intro β w a hO hs
  subst hb hg
  simp [results, h, see_ptr hs hv, see_tmp hs hy, asAddr, own_load hO ha i hm hn, Sem.run_bind]
end
theorem bb_neq {p : Program} {t : Nat} {a b d : Bool} (hu : p.underlying t = some .bool) (h : (a != b) = d) (x y : Operand) : Runs p (do eqGuard .neq t x y (.bool a) (.bool b); binOp .neq t (.bool a) (.bool b)) (.bool d) := ⟨fun w => by
  rw [← h]
  have e : (Op.equal t (.bool a) (.bool b)).run p w = .ok (a == b) w := run_equalIn_bool w 9999 t a b hu
  simp [eqGuard, binOp, Sem.run_bind, e, bne]⟩
theorem put_self {E : Env} {d : Nat} {v : Value} (h : E d = v) : E.put (some d) v = E := by
  funext t
  rw [put_apply]
  by_cases e : d = t
  · rw [if_pos (by rw [e]), ← h, e]
  · rw [if_neg (by simpa using e)]
theorem env3 {E : Env} {a b c : Nat} {va vb vc : Value} (ha : E a = va) (hb : E b = vb) (hc : E c = vc) : ∃ E0 : Env, E = ((E0.put (some a) va).put (some b) vb).put (some c) vc := ⟨E, by rw [put_self ha, put_self hb, put_self hc]⟩
theorem env4 {E : Env} {a b c d : Nat} {va vb vc vd : Value} (ha : E a = va) (hb : E b = vb) (hc : E c = vc) (hd : E d = vd) : ∃ E0 : Env, E = (((E0.put (some a) va).put (some b) vb).put (some c) vc).put (some d) vd := ⟨E, by rw [put_self ha, put_self hb, put_self hc, put_self hd]⟩
theorem ac_mergeE {p : Program} {n : Nat} {c : Operand} {x : Code} {b : Bool} {Q : Exit → Env → List Box → Prop} {E : Env} {H : List Box} (E1 Em : Env → Env) (hc : ev n E c = .bool b)
    (h1 : b = true → AC p n x (fun e E' H' => e = .normal ∧ E' = E1 E ∧ H' = H) E H) (e1 : b = true → Em E = E1 E) (e2 : b = false → Em E = E) (h : Q .normal (Em E) H) : AC p n (.cond c x .skip) Q E H := by
  refine ac_cond hc (fun hb => ?_) (fun hb => ?_)
  · refine AC.mono (h1 hb) ?_
    rintro e E' H' ⟨rfl, rfl, rfl⟩
    rw [← e1 hb]
    exact h
  · refine ac_skip ?_
    rw [← e2 hb]
    exact h
def loopOf : Code → Option Code
  | .loop c => some c
  | .seq a b => match loopOf a with | some c => some c | none => loopOf b
  | .cond _ a b => match loopOf a with | some c => some c | none => loopOf b
  | .block _ a => loopOf a
  | .scope a => loopOf a
  | _ => none
def orI (a b : Int) : Int := w64 ((BitVec.ofInt 64 a ||| BitVec.ofInt 64 b).toNat : Int)
theorem w64_id {n : Int} (h : -9223372036854775808 ≤ n ∧ n ≤ 9223372036854775807) : w64 n = n := IntWalk.i64_in n h
end Go.Proofs.YtalffjplbhelcaaGreatDoor
namespace Go.Proofs.YtalffjplbhelcaaGreatDoor
theorem Own.sub {β : Base} {H H' : List Box} {w : World} (hs : List.Sublist H H') (h : Own β H' w) : Own β H w :=
  ⟨h.size, fun b hb => h.at_ b (hs.subset hb), h.apart.sublist (hs.map Box.g)⟩
theorem ac_drop {p : Program} {n : Nat} {c : Code} {Q : Exit → Env → List Box → Prop} {E : Env} {H H' : List Box} (hs : List.Sublist H H') (h : AC p n c Q E H) : AC p n c Q E H' := by
  intro β w a hO hB hse
  exact h β w a (hO.sub hs) hB hse
section
variable {p : Program} {xs : List Value} {m : Nat}
end
end Go.Proofs.YtalffjplbhelcaaGreatDoor
namespace Go.Proofs.YtalffjplbhelcaaGreatDoor
open Go.RowKit
end Go.Proofs.YtalffjplbhelcaaGreatDoor
namespace Go.Proofs.YtalffjplbhelcaaGreatDoor
open Go.RowKit
def At (R : List Box) (w : World) : Prop := ∀ b ∈ R, ∃ fr, w.heap[b.g]? = some (.cells b.cs.toArray b.t fr)
def Gives (p : Program) (f : FuncId) (args : Array Value) (R : List Box) (K : Post) : Prop :=
  ∀ w, At R w → (R.map Box.g).Nodup → Calls p f args w fun e w' => ∃ v N, e = .returned v ∧ K v N ∧ Own ⟨fun _ => False, w⟩ N w' ∧ (∀ b ∈ N, b.ro = false) ∧ Below w.heap.size w w'
theorem Own.join {β : Base} {H N : List Box} {w w' : World} (h : Own β H w) (hb : Below w.heap.size w w') (hN : Own ⟨fun _ => False, w⟩ N w') (hr : ∀ b ∈ N, b.ro = false) : Own β (N ++ H) w' := by
  have hg : ∀ b ∈ N, w.heap.size ≤ b.g := by
    intro b hb
    have h1 := (hN.at_ b hb).1
    rcases h1 with h1 | h1
    · rw [hr b hb] at h1; cases h1
    · exact h1.elim id False.elim
  refine ⟨Nat.le_trans h.size hb.size, ?_, ?_⟩
  · intro b hm
    rcases List.mem_append.1 hm with hm | hm
    · exact ⟨.inr (.inl (Nat.le_trans h.size (hg b hm))), (hN.at_ b hm).2⟩
    · exact (h.below hb).at_ b hm
  · rw [List.map_append, List.nodup_append]
    refine ⟨hN.apart, h.apart, ?_⟩
    intro x hx y hy e
    obtain ⟨b, hb1, rfl⟩ := List.mem_map.1 hx
    obtain ⟨c, hc1, rfl⟩ := List.mem_map.1 hy
    have h1 := hg b hb1
    have h2 := h.lt hc1
    omega
section
variable {p : Program} {n : Nat} {ops : Array Oper} {Q : Exit → Env → List Box → Prop} {l : List Oper} {E : Env} {H : List Box} {o : Oper} {ρ : Operand → Value} {K : Post}
def Has (H R : List Box) : Prop := ∀ b ∈ R, ∃ c ∈ H, c.g = b.g ∧ c.cs = b.cs ∧ c.t = b.t
theorem has_nil : Has H [] := by simp [Has]
theorem has_cons {b : Box} {R : List Box} (i : Nat) (c : Box) (hi : H[i]? = some c) (h1 : c.g = b.g) (h2 : c.cs = b.cs) (h3 : c.t = b.t) (h : Has H R) : Has H (b :: R) := by
  intro x hx
  rcases List.mem_cons.1 hx with rfl | hx
  · exact ⟨c, List.mem_of_getElem? hi, h1, h2, h3⟩
  · exact h x hx
theorem st_gv {f : FuncId} {x : Operand} {args : List Operand} {ts : Array TypeId} {vs : List Value} {R : List Box} {K' : Post} {fn : Func} {c : Code} (h : Gives p f vs.toArray R K') (hfn : p.funcs[f]? = some fn) (hb : fn.body = some c) (hnm : (fn.name == "runtime.NumGoroutine") = false)
    (ho : o.op = .call { callee := .value x, args := args.toArray, argTypes := ts }) (hf : ρ x = .func (.func f) #[] #[]) (hv : args.map ρ = vs) (hR : Has H R) (hnd : (R.map Box.g).Nodup) (k : ∀ v N, K' v N → K v (N ++ H)) : Step p ρ o H K := by
  intro F β w hO hB
  have e : (execOp ρ o).run p w = .ok (.enter f vs.toArray) w := by
    rw [execOp, ho]
    simp only [resolve, hf, Deferred.ofValue, List.map_toArray, hv]
    have hnm' : ¬ fn.name = "runtime.NumGoroutine" := by simpa using hnm
    simp [Sem.run_bind, invoke, callFunc, hfn, hnm', hb]
  rw [e]
  have hat : At R w := by
    intro b hb
    obtain ⟨c, hc, h1, h2, h3⟩ := hR b hb
    obtain ⟨fr, _, this⟩ := (hO.at_ c (List.mem_append_left _ hc)).2
    rw [h1, h2, h3] at this
    exact ⟨fr, this⟩
  exact (h w hat hnd).mono fun e w' ⟨v, N, he, hk, hN, hr, hb'⟩ => ⟨v, N ++ H, he, k _ _ hk, by rw [List.append_assoc]; exact hO.join hb' hN hr, hB.trans hb'⟩
theorem st_gr {f : FuncId} {x : Operand} {args : List Operand} {ts : Array TypeId} {vs : List Value} {R : List Box} {r : Value} {fn : Func} {c : Code} (h : Gives p f vs.toArray R (fun u N => u = r ∧ N = [])) (hfn : p.funcs[f]? = some fn) (hb : fn.body = some c) (hnm : (fn.name == "runtime.NumGoroutine") = false)
    (ho : o.op = .call { callee := .value x, args := args.toArray, argTypes := ts }) (hf : ρ x = .func (.func f) #[] #[]) (hv : args.map ρ = vs) (hR : Has H R) (hnd : (R.map Box.g).Nodup) (k : K r H) : Step p ρ o H K :=
  st_gv h hfn hb hnm ho hf hv hR hnd fun v N ⟨h1, h2⟩ => by subst h1 h2; exact k
structure Makes (p : Program) (s : Sem Value) (n : Nat) (cs : List Value) (e : TypeId) : Prop where
  out : ∀ w, s.run p w = .ok (.slice (some ⟨w.heap.size, 0, none⟩) n n) (w.alloc (.cells cs.toArray e (0, 0)))
theorem st_bs {t m : Nat} {ps : List (Nat × Operand)} {us : List (Nat × Value)} {cs : List Value} {e : TypeId} (ho : o.op = .buildSlice t m ps.toArray) (hx : (ps.map fun x => (x.1, ρ x.2)) = us) (hr : Makes p (Instr.buildSlice t m us.toArray) m cs e)
    (k : ∀ g, K (.slice (some ⟨g, 0, none⟩) m m) (⟨g, cs, e, false⟩ :: H)) : Step p ρ o H K := by
  intro F β w hO hB
  have e1 : (execOp ρ o).run p w = .ok (.value (.slice (some ⟨w.heap.size, 0, none⟩) m m)) (w.alloc (.cells cs.toArray e (0, 0))) := by
    rw [execOp, ho]
    simp only [List.map_toArray]
    rw [hx]
    simp [Sem.run_bind, hr.out w]
  rw [e1]
  exact ⟨_, k _, hO.alloc _ _, hB.alloc _⟩
theorem st_ln {t : TypeId} {d : TypeId} {args : List Operand} {a : Option Addr} {m c : Nat} (ho : o.op = .call { callee := .builtin .len, args := args.toArray, argTypes := #[t] }) (hu : p.underlying t = some (.slice d)) (hv : args.map ρ = [.slice a m c]) (k : K (.int .i64 m) H) : Step p ρ o H K := by
  refine st_val (fun w => ?_) k
  rw [execOp, ho]
  simp only [resolve, List.map_toArray, hv]
  simp [invoke, builtin, Builtin.len_, Sem.run_bind, run_underlying hu w, goInt]
theorem st_sa {t e : Nat} {x y : Operand} {g off m c s : Nat} {i : Nat} (ho : o.op = .indexAddr t x y) (hu : p.underlying t = some (.slice e)) (hs : (p.info? e).map (·.size) = some s) (hx : ρ x = .slice (some ⟨g, off, none⟩) m c) (hy : ρ y = .int .i64 i) (hi : i < m)
    (k : K (.pointer (some ⟨g, off + i * s, none⟩)) H) : Step p ρ o H K := by
  refine st_run (s := Instr.indexAt t (.slice (some ⟨g, off, none⟩) m c) (.int .i64 i)) (by rw [execOp, ho]; simp only [hx, hy]) ⟨fun w => ?_⟩ k
  cases hq : p.info? e with
  | none => simp [hq] at hs
  | some inf =>
    have hs' : inf.size = s := by simpa [hq] using hs
    have h0 : (0 : Int) ≤ i := by omega
    simp [Instr.indexAt, asIntOf, Sem.run_bind, run_underlying hu w, h0, hi, sizeOf, typeInfo, hq, hs', Addr.add]
theorem st_slh {t e : Nat} {x y : Operand} {g off m c s h : Nat} (ho : o.op = .slice t x none (some y) none) (hu : p.underlying t = some (.slice e)) (hs : (p.info? e).map (·.size) = some s) (hx : ρ x = .slice (some ⟨g, off, none⟩) m c) (hy : ρ y = .int .i64 h) (hh : h ≤ c)
    (k : K (.slice (some ⟨g, off, none⟩) h c) H) : Step p ρ o H K := by
  refine st_run (s := Instr.sliceAt t (.slice (some ⟨g, off, none⟩) m c) none (some (.int .i64 h)) none) (by rw [execOp, ho]; simp only [hx, hy, Option.map_none, Option.map_some]) ⟨fun w => ?_⟩ k
  have h0 : (0 : Int) ≤ h := by omega
  have hh' : (h : Int) ≤ c := by omega
  cases hq : p.info? e with
  | none => simp [hq] at hs
  | some inf =>
    have hs' : inf.size = s := by simpa [hq] using hs
    simp [Instr.sliceAt, Instr.slice, Instr.sliceBounds, Sem.run_bind, run_underlying hu w, run_sliceBound, h0, hh', hh, sizeOf, typeInfo, hq, hs', Addr.add]
theorem sees_start {fn : Func} {args : Array Value} (hn : fn.ntmps = n) (ha : Nat.ble args.size n = true) : Sees n (envOf args) { tmps := args ++ Array.replicate (fn.ntmps - args.size) undef, defers := [] } := by
  replace ha := Nat.le_of_ble_eq_true ha
  refine ⟨rfl, by simp; omega, ?_⟩
  intro t ht
  have ht' : (t : Nat) < n := ht
  subst hn
  simp only [envOf, List.getD_eq_getElem?_getD, Array.getElem?_toList]
  by_cases h1 : (t : Nat) < args.size
  · rw [Array.getElem?_append_left h1, Array.getElem?_eq_getElem h1]
    rfl
  · have h3 : args.size ≤ (t : Nat) := Nat.le_of_not_lt h1
    have h2 : (t : Nat) - args.size < fn.ntmps - args.size := by omega
    rw [Array.getElem?_append_right h3, Array.getElem?_eq_none h3, Array.getElem?_replicate, if_pos h2]
    rfl
theorem own_start {R : List Box} {w : World} (hA : At R w) (hn : (R.map Box.g).Nodup) (hr : ∀ b ∈ R, b.ro = true) : Own ⟨fun _ => False, w⟩ R w :=
  ⟨Nat.le_refl _, fun b hb => ⟨.inl (hr b hb), by
    obtain ⟨fr, h⟩ := hA b hb
    exact ⟨fr, (fun h => by rw [hr b hb] at h; cases h), h⟩⟩, hn⟩
end
end Go.Proofs.YtalffjplbhelcaaGreatDoor
namespace Go.Proofs.YtalffjplbhelcaaGreatDoor
open Go.RowKit
structure SlT (p : Program) (t e : TypeId) (s by_ : Nat) : Prop where
  un : p.underlying t = some (.slice e)
  ex : ∃ z, (p.info? e).map (fun i => (i.zero, i.size, i.bytes)) = some (some z, s, by_) ∧ z.cells.size = s ∧ 0 < s
theorem SlT.out {p : Program} {t e : TypeId} {s by_ : Nat} (h : SlT p t e s by_) : ∃ i z, p.info? e = some i ∧ i.zero = some z ∧ i.size = s ∧ i.bytes = by_ ∧ z.cells.size = s ∧ 0 < s := by
  obtain ⟨z, h1, h2, h3⟩ := h.ex
  cases hq : p.info? e with
  | none => simp [hq] at h1
  | some i =>
    simp only [hq, Option.map_some, Option.some.injEq, Prod.mk.injEq] at h1
    exact ⟨i, z, rfl, h1.1, h1.2.1, h1.2.2, h2, h3⟩
def Row (e s n : Nat) (xs : List Value) (v : Value) (N : List Box) : Prop :=
  (n = 0 ∧ xs = [] ∧ v = .slice none 0 0 ∧ N = []) ∨ ∃ g cap rest, v = .slice (some ⟨g, 0, none⟩) n cap ∧ N = [⟨g, xs ++ rest, e, false⟩] ∧ xs.length = n * s ∧ (xs ++ rest).length = cap * s ∧ n ≤ cap ∧ cap ≤ maxLen
theorem Row.nil (e s : Nat) : Row e s 0 [] (.slice none 0 0) [] := .inl ⟨rfl, rfl, rfl, rfl⟩
section
variable {p : Program} {n : Nat} {ops : Array Oper} {Q : Exit → Env → List Box → Prop} {l : List Oper} {E : Env} {H : List Box} {o : Oper} {ρ : Operand → Value} {K : Post}
theorem st_app {t e s by_ k m c gt : Nat} {x y : Operand} {v : Value} {xs news r : List Value} {N A B : List Box} {bt : Box} (hs : SlT p t e s by_) (ho : o.op = .call { callee := .builtin .append, args := #[x, y], argTypes := #[t, t] })
    (hx : ρ x = v) (hy : ρ y = .slice (some ⟨gt, 0, none⟩) m c) (hR : Row e s k xs v N) (hH : H = A ++ (N ++ B)) (hbt : bt ∈ A ++ B) (hg : bt.g = gt) (hc : bt.cs = news ++ r) (hl : news.length = m * s) (h1 : news.all (·.oneCell') = true) (hm : 0 < m)
    (h63 : k + m ≤ maxLen) (hby : (k + m) * by_ ≤ 140737488355328) (kk : ∀ v' N', Row e s (k + m) (xs ++ news) v' N' → K v' (N' ++ (A ++ B))) : Step p ρ o H K := by
  intro F β w hO hB
  have hu := hs.un
  obtain ⟨inf, z, hi, hz, hsz, hbz, hzc, hs0⟩ := hs.out
  subst hsz hbz hH
  have hsmall : k + m ≤ 9223372036854775807 := by simp only [maxLen] at h63; omega
  have hO1 : Own β (N ++ (A ++ B ++ F)) w := by
    refine hO.perm ?_
    have h1 : (A ++ (N ++ B) ++ F).Perm ((N ++ (A ++ B)) ++ F) := List.Perm.append_right F (by
      rw [← List.append_assoc, ← List.append_assoc]
      exact List.Perm.append_right B List.perm_append_comm)
    rw [List.append_assoc N] at h1
    exact h1
  have hat : ∀ j u, news[j]? = some u → w.cell? ((⟨gt, 0, none⟩ : Addr).add j) = some u := by
    intro j u hj
    obtain ⟨fr, _, hb⟩ := (hO1.at_ bt (List.mem_append_right _ (List.mem_append_left _ hbt))).2
    rw [add_at, Nat.zero_add, ← hg, cell_of_row w bt.g j _ _ _ hb, hc]
    simp only [List.getElem?_toArray]
    rw [List.getElem?_append_left (List.getElem?_eq_some_iff.1 hj).1, hj]
  have ex : ∀ w, (execOp ρ o).run p w = (match (Builtin.append_ #[t, t] o.type #[v, .slice (some ⟨gt, 0, none⟩) m c]).run p w with | .ok u w' => .ok (.value u) w' | .halt x w' => .halt x w') := by
    intro w
    rw [execOp, ho]
    simp only [resolve, List.map_toArray, List.map_cons, List.map_nil, hx, hy]
    simp [invoke, builtin, Sem.run_bind]
    cases (Builtin.append_ #[t, t] o.type #[v, .slice (some ⟨gt, 0, none⟩) m c]).run p w <;> rfl
  have zl : ∀ j, (Builtin.zeroCells z.cells j).toList.length = j * inf.size := by intro j; simp [Builtin.zeroCells, hzc]
  rw [ex]
  rcases hR with ⟨rfl, rfl, rfl, rfl⟩ | ⟨g, cap, rest, rfl, rfl, hxl, hcl, hkc, hcm⟩
  · have hr := run_append_nil (P := p) w t o.type e inf z hu hi hz ⟨gt, 0, none⟩ m c news hl hat hm (by omega) (by simp only [Nat.zero_add] at hby; omega)
    rw [hr]
    have hge := grownCap_ge w m 0 e
    have hcm := grownCap_le_maxLen w m 0 e (by omega)
    refine ⟨_, kk _ [⟨w.heap.size, news ++ (Builtin.zeroCells z.cells (grownCap w m 0 e - m)).toList, e, false⟩] (.inr ⟨w.heap.size, _, _, by rw [Nat.zero_add], rfl, by rw [Nat.zero_add]; exact hl, ?_, by omega, hcm⟩), ?_, (hB.drew).alloc _⟩
    · simp only [List.nil_append, List.length_append, zl, hl, ← Nat.add_mul]
      congr 1
      omega
    · have h3 := hO1.drew.alloc (news ++ (Builtin.zeroCells z.cells (grownCap w m 0 e - m)).toList) e
      simp only [List.nil_append] at h3 ⊢
      have e1 : (news ++ (Builtin.zeroCells z.cells (grownCap w m 0 e - m)).toList).toArray = news.toArray ++ Builtin.zeroCells z.cells (grownCap w m 0 e - m) := by
        apply Array.ext'
        simp
      rw [e1] at h3
      exact h3
  · obtain ⟨fr, hf, hgb⟩ := (hO1.at_ _ (List.mem_append_left _ (List.mem_singleton.2 rfl))).2
    obtain rfl := hf rfl
    simp only at hgb
    by_cases hroom : k + m ≤ cap
    · have hfit : k * inf.size + news.length ≤ (xs ++ rest).toArray.size := by
        simp only [List.size_toArray, hcl, hl, ← Nat.add_mul]
        exact Nat.mul_le_mul_right _ hroom
      have hr := run_append_room (P := p) w t o.type e inf hu hi g k cap (xs ++ rest).toArray hgb ⟨gt, 0, none⟩ m c news hl hat (fun u hu => List.all_eq_true.1 h1 u hu) hroom hfit
      rw [hr]
      have e1 : (xs ++ rest).toArray.toList.take (k * inf.size) ++ news ++ (xs ++ rest).toArray.toList.drop (k * inf.size + news.length) = xs ++ news ++ rest.drop news.length := by
        simp only [List.toList_toArray]
        rw [← hxl, List.take_left, List.drop_length_add_append]
      rw [e1]
      have hmay : β.may g := (((hO1.at_ _ (List.mem_append_left _ (List.mem_singleton.2 rfl))).1).resolve_left (by simp))
      refine ⟨_, kk _ [⟨g, xs ++ news ++ rest.drop news.length, e, false⟩] (.inr ⟨g, cap, _, rfl, rfl, ?_, ?_, hroom, hcm⟩), ?_, hB.setRow _ _ hmay⟩
      · rw [List.length_append, hxl, hl, Nat.add_mul]
      · rw [← hcl]
        simp only [List.length_append, List.length_drop]
        have : news.length ≤ rest.length := by
          have := hfit
          simp only [List.size_toArray, List.length_append, hxl] at this
          omega
        omega
      · have h3 := hO1.set 0 _ rfl rfl (xs ++ news ++ rest.drop news.length)
        exact h3
    · have hold : ∀ j u, xs[j]? = some u → w.cell? ((⟨g, 0, none⟩ : Addr).add j) = some u := by
        intro j u hj
        rw [add_at, Nat.zero_add, cell_of_row w g j _ _ _ hgb]
        simp only [List.getElem?_toArray]
        rw [List.getElem?_append_left (List.getElem?_eq_some_iff.1 hj).1, hj]
      have hr := run_append_grow (P := p) w t o.type e inf z hu hi hz ⟨g, 0, none⟩ k cap xs hxl hold ⟨gt, 0, none⟩ m c news hl hat (by omega) (by omega) (growslice_fits (by omega) hby)
      rw [hr]
      have hge := grownCap_ge w (k + m) cap e
      have hcm := grownCap_le_maxLen w (k + m) cap e h63
      refine ⟨_, kk _ [⟨w.heap.size, xs ++ news ++ (Builtin.zeroCells z.cells (grownCap w (k + m) cap e - (k + m))).toList, e, false⟩] (.inr ⟨w.heap.size, _, _, rfl, rfl, ?_, ?_, hge, hcm⟩), ?_, (hB.drew).alloc _⟩
      · rw [List.length_append, hxl, hl, Nat.add_mul]
      · simp only [List.length_append, zl, hl, hxl, ← Nat.add_mul]
        congr 1
        omega
      · have h2 : Own β (A ++ B ++ F) w := Own.sub (List.sublist_append_right _ _) hO1
        have h3 := h2.drew.alloc (xs ++ news ++ (Builtin.zeroCells z.cells (grownCap w (k + m) cap e - (k + m))).toList) e
        have e1 : (xs ++ news ++ (Builtin.zeroCells z.cells (grownCap w (k + m) cap e - (k + m))).toList).toArray = xs.toArray ++ news.toArray ++ Builtin.zeroCells z.cells (grownCap w (k + m) cap e - (k + m)) := by
          apply Array.ext'
          simp
        rw [e1] at h3
        exact h3
theorem ar_perm {H' : List Box} (hp : H.Perm H') (h : AR p n ops Q l E H) : AR p n ops Q l E H' :=
  fun β w a hO hB hs => h β w a (hO.perm hp.symm) hB hs
theorem Row.form {e s n : Nat} {xs : List Value} {v : Value} {N : List Box} (h : Row e s n xs v N) : ∃ a cap, v = .slice a n cap := by
  rcases h with ⟨rfl, _, rfl, _⟩ | ⟨g, cap, rest, rfl, _⟩
  · exact ⟨_, _, rfl⟩
  · exact ⟨_, _, rfl⟩
theorem st_appZ {t e s by_ k m c gt : Nat} {x y : Operand} {v : Value} {xs news r : List Value} {N A : List Box} {bt : Box} (hs : SlT p t e s by_) (ho : o.op = .call { callee := .builtin .append, args := #[x, y], argTypes := #[t, t] })
    (hx : ρ x = v) (hy : ρ y = .slice (some ⟨gt, 0, none⟩) m c) (hR : Row e s k xs v N) (hH : H = A ++ N) (hbt : bt ∈ A) (hg : bt.g = gt) (hc : bt.cs = news ++ r) (hl : news.length = m * s) (h1 : news.all (·.oneCell') = true) (hm : 0 < m)
    (h63 : k + m ≤ maxLen) (hby : (k + m) * by_ ≤ 140737488355328) (hK : ∀ v H H', H.Perm H' → K v H → K v H') (kk : ∀ v' N', Row e s (k + m) (xs ++ news) v' N' → K v' (A ++ N')) : Step p ρ o H K :=
  st_app (A := A) (B := []) hs ho hx hy hR (by rw [hH, List.append_nil]) (by rw [List.append_nil]; exact hbt) hg hc hl h1 hm h63 hby fun v' N' h => by
    rw [List.append_nil]
    exact hK _ _ _ List.perm_append_comm (kk v' N' h)
end
end Go.Proofs.YtalffjplbhelcaaGreatDoor
namespace Go.Proofs.YtalffjplbhelcaaGreatDoor
open Go.RowKit
section
variable {p : Program} {n : Nat} {ops : Array Oper} {Q : Exit → Env → List Box → Prop}
def AAny (p : Program) (n : Nat) (ops : Array Oper) (Q : Exit → Env → List Box → Prop) (fuel : Nat) (L : List Bool) (E : Env) (H : List Box) : Prop :=
  ∀ β w a, Own β H w → Keeps β w → Sees n E a → wpAny p .any ops (AQ n β Q) fuel L.toArray a w
def OpR (p : Program) (n : Nat) (ops : Array Oper) (E : Env) (H : List Box) (i : Nat) (K : Env → List Box → Prop) : Prop :=
  ∃ o, ops[i]? = some o ∧ ((yld n ops E o = true ∧ Step p (ev n E) o H fun v H' => K (E.put o.dst v) H') ∨ (yld n ops E o = false ∧ K (E.put o.dst undef) H))
def Each (P : Nat → Prop) : List Nat → Prop
  | [] => True
  | i :: is => P i ∧ Each P is
theorem each_mem {P : Nat → Prop} : ∀ {is : List Nat}, Each P is → ∀ i ∈ is, P i
  | [], _, _, h => by cases h
  | j :: is, h, i, hi => by
    rcases List.mem_cons.1 hi with rfl | hi
    · exact h.1
    · exact each_mem h.2 i hi
theorem opR_op {E : Env} {H : List Box} {i : Nat} {d : Option Nat} {K : Env → List Box → Prop} {o : Oper} (ho : ops[i]? = some o) (hg : o.guard = none) (hd : o.dst = d) (h : Step p (ev n E) o H fun v H' => K (E.put d v) H') : OpR p n ops E H i K := by
  subst hd
  exact ⟨o, ho, .inl ⟨by unfold yld; rw [hg], h⟩⟩
def StepRule (p : Program) (n : Nat) (ops : Array Oper) (Φ : Nat → List Bool → Env → List Box → Prop) : Prop :=
  ∀ fuel L E H is, Region.ready .any ops L.toArray = is → is.isEmpty = false → Each (fun i => OpR p n ops E H i (Φ fuel (L.set i true))) is → Φ (fuel + 1) L E H
def PermRule (Φ : Nat → List Bool → Env → List Box → Prop) : Prop := ∀ fuel L E H H', H.Perm H' → Φ fuel L E H → Φ fuel L E H'
theorem ac_any {id : Nat} {E : Env} {H : List Box} (hm : p.follows .mixedOrders = true) (k : Nat) (hk : ops.size = k)
    (h : ∀ Φ : Nat → List Bool → Env → List Box → Prop, StepRule p n ops Φ → (∀ L E H, Region.ready .any ops L.toArray = [] → Q .normal E H → Φ 0 L E H) → PermRule Φ → Φ k (List.replicate k false) E H) : AC p n (.region id ops true) Q E H := by
  have key := h (AAny p n ops Q) (by
    intro fuel L E H is hr hne he β w a hO hB hs
    refine ⟨fun h => ?_, fun i hi => ?_⟩
    · rw [hr] at h
      rw [h] at hne
      cases hne
    · rw [hr] at hi
      obtain ⟨o, ho, hop⟩ := each_mem he i hi
      unfold wpOp
      simp only [ho]
      rw [hs.yld]
      rcases hop with ⟨hw, hst⟩ | ⟨hw, hk⟩
      · rw [hw, if_pos rfl]
        refine .inl (hst.wp hs hO hB fun v H' w' k hO' hB' => ?_)
        have := k β w' _ hO' hB' (hs.put _ _)
        rwa [← List.setIfInBounds_toArray] at this
      · rw [hw, if_neg (by simp)]
        have := hk β w _ hO hB (hs.put _ _)
        rwa [← List.setIfInBounds_toArray] at this) (by
    intro L E H hr hq β w a hO hB hs
    exact ⟨hr, E, H, hq, hs, hO, hB⟩) (fun fuel L E H H' hp h β w a hO hB hs => h β w a (hO.perm hp.symm) hB hs)
  intro β w a hO hB hs
  refine wp_region_any hm ?_
  have := key β { w with drawn := w.drawn + 1 } a hO.drew hB.drew hs
  rw [← hk] at this
  rwa [List.toArray_replicate] at this
end
def FinG (p : Program) (fn : Func) (n : Nat) (K : Post) : Exit → Env → List Box → Prop := fun e E H => (e = .ret ∨ e = .normal) ∧ ∃ v N, K v N ∧ List.Sublist N H ∧ (N.all fun b => !b.ro) = true ∧ Res p fn n E H v
theorem gives_fin {p : Program} {f : FuncId} {fn : Func} {c : Code} {args : Array Value} {K : Post} {R : List Box} {n : Nat} (hf : p.funcs[f]? = some fn) (hb : fn.body = some c) (hn : fn.ntmps = n) (ha : Nat.ble args.size n = true) (hr : (R.all fun b => b.ro) = true)
    (h : AC p n c (FinG p fn n K) (envOf args) R) : Gives p f args R K := by
  intro w hA hnd
  refine calls_of_wp hf hb ?_
  refine Code.wp_mono ?_ (h ⟨fun _ => False, w⟩ w _ (own_start hA hnd (fun b hb => List.all_eq_true.1 hr b hb)) (Keeps.refl _ _) (sees_start hn ha))
  rintro e a w' ⟨E, H, ⟨he, v, N, hk, hsub, hN, hres⟩, hs, hO, hB⟩
  have hall : ∀ b ∈ N, b.ro = false := fun b hb => by simpa using List.all_eq_true.1 hN b hb
  rcases he with rfl | rfl
  · exact ⟨hs.defers, v, hres _ _ _ hO hs, v, N, rfl, hk, Own.sub hsub hO, hall, hB.below⟩
  · exact ⟨hs.defers, v, hres _ _ _ hO hs, v, N, rfl, hk, Own.sub hsub hO, hall, hB.below⟩
theorem np_fing {p : Program} {fn : Func} {n : Nat} {K : Post} : ∀ c E H, ¬ FinG p fn n K (.panic c) E H := fun c E H h => by
  rcases h.1 with h | h <;> cases h
theorem fing_ret {p : Program} {fn : Func} {n : Nat} {K : Post} {E : Env} {H N : List Box} {v : Value} (hk : K v N) (hs : List.Sublist N H) (hN : (N.all fun b => !b.ro) = true) (h : Res p fn n E H v) : FinG p fn n K .ret E H := ⟨.inl rfl, v, N, hk, hs, hN, h⟩
theorem fing_v {p : Program} {fn : Func} {n : Nat} {u v : Value} {e : Exit} {E : Env} {H : List Box} (h : Fin p fn n v e E H) (hv : v = u) : FinG p fn n (fun w N => w = u ∧ N = []) e E H := ⟨h.1, v, [], ⟨hv, rfl⟩, List.nil_sublist _, rfl, h.2⟩
end Go.Proofs.YtalffjplbhelcaaGreatDoor
