import Derived.Test.YthngkopcadlciaaMSceneFirst0
set_option linter.unusedVariables false
set_option linter.unusedSimpArgs false
namespace Go.Proofs.Ythngkopcadlciaa
open Go.RowKit
def drawOkL (ops : Array Oper) (fx al ta : List Nat) (q : Nat) : Bool :=
  let body := fx ++ al
  let all := body ++ ta
  (all.length == ops.size) && nodupB all && ((List.range ops.size).all fun i => all.contains i) && (all.all fun i => Nat.blt i ops.size)
  && ((List.range ops.size).all fun i => match ops[i]? with | some o => (o.after.all fun e => !(Region.binds .any e) || Nat.blt e.on i) | none => false)
  && (Region.noSelect ops)
  && (body.all fun i => body.all fun j => i == j || (match dstOf ops i, dstOf ops j with | some x, some y => !(Nat.beq x y) | _, _ => true))
  && ((List.range fx.length).all fun k => match fx[k]? with
      | some i => (match ops[i]? with
        | some o => (Oper.looksAt ops o).all fun t => body.all fun j => (match dstOf ops j with | some d => !(Nat.beq d t) | none => true) || (bindsOn o j && (fx.take k).contains j)
        | none => false)
      | none => false)
  && ((List.range ta.length).all fun k => match ta[k]? with
      | some i => k == 0 || ((body ++ ta.take k).all fun j => before_ ops i j || (body ++ ta.take k).any fun m => before_ ops m j)
      | none => false)
  && (match ta[0]? with | some i => (body.all fun j => j == q || before_ ops i j || body.any fun m => !(m == q) && before_ ops m j) | none => true)
  && fx.contains q
  && (match ops[q]? with | some oq => (oq.after.all fun e => !(Region.binds .any e) || body.contains e.on) && (ta.all fun j => match ops[j]? with | some oj => bindsOn oj q || oq.apart ops oj | none => false) | none => false)
section
variable {p : Program} {n : Nat} {ops : Array Oper}
structure DrawOkL (ops : Array Oper) (fx al ta : List Nat) (q : Nat) : Prop where
  len : (fx ++ al ++ ta).length = ops.size
  nodup : (fx ++ al ++ ta).Nodup
  all : ∀ i, i < ops.size → i ∈ fx ++ al ++ ta
  lt : ∀ i ∈ fx ++ al ++ ta, i < ops.size
  back : ∀ i o, ops[i]? = some o → ∀ e ∈ o.after, Region.binds .any e = true → e.on < i
  sel : Region.noSelect ops = true
  dsts : ∀ i ∈ fx ++ al, ∀ j ∈ fx ++ al, ∀ t, dstOf ops i = some t → dstOf ops j = some t → i = j
  looks : ∀ k i o, fx[k]? = some i → ops[i]? = some o → ∀ t ∈ Oper.looksAt ops o, ∀ j ∈ fx ++ al, dstOf ops j = some t → bindsOn o j = true ∧ j ∈ fx.take k
  tails : ∀ k i, ta[k]? = some i → k ≠ 0 → ∀ j ∈ fx ++ al ++ ta.take k, before_ ops i j = true ∨ ∃ m ∈ fx ++ al ++ ta.take k, before_ ops m j = true
  tails0 : ∀ i, ta[0]? = some i → ∀ j ∈ fx ++ al, j ≠ q → before_ ops i j = true ∨ ∃ m ∈ fx ++ al, m ≠ q ∧ before_ ops m j = true
  late : q ∈ fx
  deps : ∀ oq, ops[q]? = some oq → ∀ e ∈ oq.after, Region.binds .any e = true → e.on ∈ fx ++ al
  far : ∀ oq, ops[q]? = some oq → ∀ j ∈ ta, ∀ oj, ops[j]? = some oj → bindsOn oj q = true ∨ oq.apart ops oj = true
theorem drawOkL_spec {fx al ta : List Nat} {q : Nat} (h : drawOkL ops fx al ta q = true) : DrawOkL ops fx al ta q := by
  simp only [drawOkL, Bool.and_eq_true, List.all_eq_true, List.mem_range, beq_iff_eq, Nat.blt_eq] at h
  obtain ⟨⟨⟨⟨⟨⟨⟨⟨⟨⟨⟨h1, h2⟩, h3⟩, h4⟩, h5⟩, h6⟩, h7⟩, h8⟩, h9⟩, h10⟩, h11⟩, h12⟩ := h
  refine ⟨h1, nodupB_spec _ h2, fun i hi => by simpa using h3 i hi, fun i hi => h4 i hi, ?_, h6, ?_, ?_, ?_, ?_, by simpa using h11, ?_, ?_⟩
  · intro i o ho e he hb
    have := h5 i (Array.getElem?_eq_some_iff.1 ho).1
    rw [ho] at this
    have h := Array.all_eq_true_iff_forall_mem.1 this e he
    simp only [hb, Bool.not_true, Bool.false_or, Nat.blt_eq] at h
    exact h
  · intro i hi j hj t hti htj
    have := h7 i hi j hj
    rw [hti, htj] at this
    simpa using this
  · intro k i o hk ho t ht j hj hd
    have hlt : k < fx.length := (List.getElem?_eq_some_iff.1 hk).1
    have := h8 k hlt
    rw [hk] at this
    simp only [ho] at this
    have := List.all_eq_true.1 (List.all_eq_true.1 this t ht) j hj
    rw [hd] at this
    simpa using this
  · intro k i hk hk0 j hj
    have hlt : k < ta.length := (List.getElem?_eq_some_iff.1 hk).1
    have := h9 k hlt
    rw [hk] at this
    simp only [Bool.or_eq_true, beq_iff_eq, hk0, false_or] at this
    have := List.all_eq_true.1 this j hj
    rw [Bool.or_eq_true, List.any_eq_true] at this
    exact this
  · intro i hi j hj hjq
    rw [hi] at h10
    have := List.all_eq_true.1 h10 j hj
    simp only [Bool.or_eq_true, beq_iff_eq, List.any_eq_true, Bool.and_eq_true, Bool.not_eq_true', beq_eq_false_iff_ne, ne_eq] at this
    rcases this with (h | h) | h
    · exact absurd h hjq
    · exact .inl h
    · exact .inr h
  · intro oq hoq e he hb
    rw [hoq] at h12
    simp only [Bool.and_eq_true] at h12
    have h := Array.all_eq_true_iff_forall_mem.1 h12.1 e he
    simp only [hb, Bool.not_true, Bool.false_or] at h
    simpa using h
  · intro oq hoq j hj oj hoj
    rw [hoq] at h12
    simp only [Bool.and_eq_true] at h12
    have := List.all_eq_true.1 h12.2 j hj
    rw [hoj] at this
    simpa using this
theorem tail_waitsL {fx al ta : List Nat} {q : Nat} (hok : DrawOkL ops fx al ta q) {L : Array Bool} (hd : Down ops L) {k i : Nat} (hk : ta[k]? = some i) (hk0 : k ≠ 0) (hr : i ∈ Region.ready .any ops L) :
    ∀ j ∈ fx ++ al ++ ta.take k, L.getD j false = true := by
  obtain ⟨h0, o, ho, hall⟩ := mem_ready.1 hr
  have key : ∀ m j, j ∈ fx ++ al ++ ta.take k → ops.size - j ≤ m → L.getD j false = true := by
    intro m
    induction m with
    | zero =>
      intro j hj hm
      have : j ∈ fx ++ al ++ ta := by
        rcases List.mem_append.1 hj with h | h
        · exact List.mem_append_left _ h
        · exact List.mem_append_right _ (List.mem_of_mem_take h)
      have := hok.lt j this
      omega
    | succ m ih =>
      intro j hj hm
      rcases hok.tails k i hk hk0 j hj with h | ⟨r, hq, h⟩
      · obtain ⟨o', ho', e, he, hb, hon⟩ := before_spec h
        rw [ho] at ho'
        cases ho'
        rw [← hon]
        exact hall e he hb
      · obtain ⟨o', ho', e, he, hb, hon⟩ := before_spec h
        have hlt : j < r := by rw [← hon]; exact hok.back r o' ho' e he hb
        have hq' : L.getD r false = true := ih r hq (by omega)
        rw [← hon]
        exact hd r o' ho' hq' e he hb
  intro j hj
  exact key (ops.size - j) j hj (Nat.le_refl _)
theorem tail_waits0 {fx al ta : List Nat} {q : Nat} (hok : DrawOkL ops fx al ta q) {L : Array Bool} (hd : Down ops L) {i : Nat} (hk : ta[0]? = some i) (hr : i ∈ Region.ready .any ops L) :
    ∀ j ∈ fx ++ al, j ≠ q → L.getD j false = true := by
  obtain ⟨h0, o, ho, hall⟩ := mem_ready.1 hr
  have key : ∀ m j, j ∈ fx ++ al → j ≠ q → ops.size - j ≤ m → L.getD j false = true := by
    intro m
    induction m with
    | zero =>
      intro j hj hjq hm
      have := hok.lt j (List.mem_append_left _ hj)
      omega
    | succ m ih =>
      intro j hj hjq hm
      rcases hok.tails0 i hk j hj hjq with h | ⟨r, hq, hrq, h⟩
      · obtain ⟨o', ho', e, he, hb, hon⟩ := before_spec h
        rw [ho] at ho'
        cases ho'
        rw [← hon]
        exact hall e he hb
      · obtain ⟨o', ho', e, he, hb, hon⟩ := before_spec h
        have hlt : j < r := by rw [← hon]; exact hok.back r o' ho' e he hb
        have hq' : L.getD r false = true := ih r hq hrq (by omega)
        rw [← hon]
        exact hd r o' ho' hq' e he hb
  intro j hj hjq
  exact key (ops.size - j) j hj hjq (Nat.le_refl _)
theorem ready_someL {fx al ta : List Nat} {q : Nat} (hok : DrawOkL ops fx al ta q) {L : Array Bool} (hs : L.size = ops.size) {i : Nat} (hi : i < ops.size) (hl : L.getD i false = false) : Region.ready .any ops L ≠ [] := by
  have key : ∀ m i, i < m → i < ops.size → L.getD i false = false → ∃ j, j ∈ Region.ready .any ops L := by
    intro m
    induction m with
    | zero => intro i h; omega
    | succ m ih =>
      intro i him hi hl
      obtain ⟨o, ho⟩ : ∃ o, ops[i]? = some o := ⟨_, Array.getElem?_eq_getElem hi⟩
      by_cases hall : ∀ e ∈ o.after, Region.binds .any e = true → L.getD e.on false = true
      · refine ⟨i, mem_ready.2 ⟨?_, o, ho, hall⟩⟩
        have hi' : i < L.size := by omega
        simpa [hi'] using hl
      · obtain ⟨e, he, hb, hne⟩ : ∃ e, e ∈ o.after ∧ Region.binds .any e = true ∧ ¬ L.getD e.on false = true := by
          refine Classical.byContradiction fun hc => hall fun e he hb => ?_
          exact Classical.byContradiction fun hn => hc ⟨e, he, hb, hn⟩
        have hlt := hok.back i o ho e he hb
        exact ih e.on (by omega) (by omega) (by simpa using hne)
  obtain ⟨j, hj⟩ := key (i + 1) i (by omega) hi hl
  intro h
  rw [h] at hj
  cases hj
theorem tail_phaseL {fx al ta : List Nat} {q : Nat} (hok : DrawOkL ops fx al ta q) {Q : Exit → Act → World → Prop} : ∀ (r : List Nat) (k : Nat) (L : Array Bool) (a : Act) (w : World), ta.drop k = r → Down ops L → L.size = ops.size →
    (∀ i ∈ fx ++ al ++ ta.take k, L.getD i false = true) → (∀ i ∈ r, L.getD i false = false) → wpList p ops Q (r.map fun i => (ops[i]?).getD default) a w → wpAny p .any ops Q r.length L a w := by
  intro r
  induction r with
  | nil =>
    intro k L a w hr hd hs hl hn h
    refine ⟨?_, h⟩
    cases hq : Region.ready .any ops L with
    | nil => rfl
    | cons i is =>
      have hi : i ∈ Region.ready .any ops L := by rw [hq]; simp
      obtain ⟨h0, o, ho, hall⟩ := mem_ready.1 hi
      have hlt := (Array.getElem?_eq_some_iff.1 ho).1
      have hk : ta.take k = ta := by
        have := List.take_append_drop k ta
        rw [hr, List.append_nil] at this
        exact this
      have := hl i (by rw [hk]; exact hok.all i hlt)
      have hi' : i < L.size := by omega
      simp [hi'] at h0 this
      rw [h0] at this
      cases this
  | cons i r ih =>
    intro k L a w hr hd hs hl hn h
    have hk : ta[k]? = some i := by
      have : (ta.drop k)[0]? = some i := by rw [hr]; rfl
      simpa using this
    have hr' : ta.drop (k + 1) = r := by
      have : (ta.drop k).drop 1 = r := by rw [hr]; rfl
      rw [List.drop_drop] at this
      exact this
    have hita : i ∈ ta := List.mem_of_getElem? hk
    have hlt : i < ops.size := hok.lt i (List.mem_append_right _ hita)
    have hrun := hn i (by simp)
    refine ⟨fun h0 => absurd h0 (ready_someL hok hs hlt hrun), fun j hj => ?_⟩
    have hjr := mem_ready.1 hj
    obtain ⟨h0, oj, hoj, hall⟩ := hjr
    have hjlt := (Array.getElem?_eq_some_iff.1 hoj).1
    have hji : j = i := by
      have hjn : L.getD j false = false := by
        have hj' : j < L.size := by omega
        simpa [hj'] using h0
      have hjall := hok.all j hjlt
      have hjt : j ∈ ta.drop k := by
        rcases List.mem_append.1 hjall with h | h
        · rw [hl j (List.mem_append_left _ h)] at hjn; cases hjn
        · rw [← List.take_append_drop k ta] at h
          rcases List.mem_append.1 h with h | h
          · rw [hl j (List.mem_append_right _ h)] at hjn; cases hjn
          · exact h
      rw [hr] at hjt
      rcases List.mem_cons.1 hjt with h | h
      · exact h
      · rw [← hr'] at h
        obtain ⟨r', hq⟩ := List.mem_iff_getElem?.1 h
        rw [List.getElem?_drop] at hq
        have := tail_waitsL hok hd hq (by omega) hj i (List.mem_append_right _ (List.mem_of_getElem? (i := k) (by rw [List.getElem?_take, if_pos (by omega)]; exact hk)))
        rw [hrun] at this
        cases this
    subst hji
    have hnd := hok.nodup
    have hnext : ∀ a' w', wpList p ops Q (r.map fun i => (ops[i]?).getD default) a' w' → wpAny p .any ops Q r.length (L.setIfInBounds j true) a' w' := fun a' w' h' => by
      refine ih (k + 1) _ a' w' hr' (hd.set hj) (by simp [hs]) ?_ ?_ h'
      · intro q hq
        by_cases hqj : j = q
        · subst hqj; have : j < L.size := by omega
          simp [this]
        · rw [getD_set_ne false hqj]
          refine hl q ?_
          rw [List.take_add_one, hk] at hq
          simp only [List.mem_append, Option.toList_some, List.mem_singleton] at hq ⊢
          rcases hq with h | h | h
          · exact .inl h
          · exact .inr h
          · exact absurd h.symm hqj
      · intro q hq
        have hqj : j ≠ q := by
          rintro rfl
          have h2 : (fx ++ al ++ (ta.take k ++ (j :: r))).Nodup := by rw [← hr, List.take_append_drop]; exact hnd
          have h3 := (List.nodup_append.1 (List.nodup_append.1 h2).2.1).2.1
          exact (List.nodup_cons.1 h3).1 hq
        rw [getD_set_ne false hqj]
        exact hn q (by simp [hq])
    simp only [List.map_cons, hoj, Option.getD_some] at h
    unfold wpList at h
    unfold wpOp
    simp only [hoj]
    split
    · rename_i hw
      rw [if_pos hw] at h
      exact h.imp (Oper.wp_mono hnext) id
    · rename_i hw
      rw [if_neg hw] at h
      exact hnext _ _ h
section
variable {fx ta : List Nat} {al : List Al} {vs : List (Nat × Value)} {E0 : Env} {H0 : List Box} {Q : Exit → Env → List Box → Prop}
theorem allp_uniqL {q : Nat} (hok : DrawOkL ops fx (al.map (·.i)) ta q) (hvs : vs.map (·.1) = fx) (gs : Nat → Nat) : ∀ y ∈ allp vs al gs, ∀ z ∈ allp vs al gs, ∀ t, dstOf ops y.1 = some t → dstOf ops z.1 = some t → y = z := by
  intro y hy z hz t hyt hzt
  have hf := allp_fst vs al gs
  rw [hvs] at hf
  have hnd : ((allp vs al gs).map (·.1)).Nodup := by rw [hf]; exact (List.nodup_append.1 hok.nodup).1
  refine uniq_fst _ hnd y hy z hz (hok.dsts y.1 ?_ z.1 ?_ t hyt hzt)
  · rw [← hf]; exact List.mem_map.2 ⟨y, hy, rfl⟩
  · rw [← hf]; exact List.mem_map.2 ⟨z, hz, rfl⟩
theorem body_phaseL {q : Nat} (hok : DrawOkL ops fx (al.map (·.i)) ta q) (hqop : ∃ oq x c, ops[q]? = some oq ∧ oq.op = .extract x c ∧ oq.guard = none) (hnp : ∀ c E H, ¬ Q (.panic c) E H) (hvs : vs.map (·.1) = fx) (ht : ∀ k x, vs[k]? = some x → Tells p n ops H0 (putAll ops E0 (vs.take k)) x.1 x.2)
    (hal : ∀ x ∈ al, ∃ o z, ops[x.i]? = some o ∧ o.op = .alloc x.t ∧ o.guard = none ∧ (p.info? x.t).map (·.zero) = some (some z) ∧ z.cells = x.cs.toArray)
    (hK : ∀ gs : Nat → Nat, AR p n ops Q (ta.map fun i => (ops[i]?).getD default) (putAll ops E0 (allp vs al gs)) (al.map (fun x => (⟨gs x.i, x.cs, x.t, false⟩ : Box)) ++ H0)) {β : Base} :
    ∀ (m : Nat) (L : Array Bool) (a : Act) (w : World) (gs : Nat → Nat) (F : List Box), L.size = ops.size → Down ops L → (∀ i ∈ ta, L.getD i false = false) →
      ((fx ++ al.map (·.i)).filter fun i => !(L.getD i false)).length = m → Inv p n ops E0 H0 vs al β L a w gs F → wpAny p .any ops (AQ n β Q) (m + ta.length) L a w := by
  intro m
  induction m with
  | zero =>
    intro L a w gs F hs hd hta hm hI
    rw [Nat.zero_add]
    have hall : ∀ i ∈ fx ++ al.map (·.i), L.getD i false = true := by
      intro i hi
      have h0 := List.eq_nil_of_length_eq_zero hm
      cases hq : L.getD i false with
      | true => rfl
      | false =>
        have : i ∈ (fx ++ al.map (·.i)).filter fun i => !(L.getD i false) := List.mem_filter.2 ⟨hi, by simp only [hq, Bool.not_false]⟩
        rw [h0] at this
        cases this
    have hE : EL ops E0 vs al gs L = putAll ops E0 (allp vs al gs) := by
      unfold EL
      congr 1
      refine List.filter_eq_self.2 fun x hx => hall x.1 ?_
      rw [← hvs, ← allp_fst vs al gs]
      exact List.mem_map.2 ⟨x, hx, rfl⟩
    refine tail_phaseL hok ta 0 L a w rfl hd hs (by simpa using hall) hta ?_
    refine hK gs β w a ?_ hI.below (hE ▸ hI.sees)
    have hnd := hok.nodup
    have hnal : (al.map (·.i)).Nodup := (List.nodup_append.1 (List.nodup_append.1 hnd).1).2.1
    have hmem : ∀ x ∈ al, (⟨gs x.i, x.cs, x.t, false⟩ : Box) ∈ F := fun x hx => hI.made x hx (hall x.i (List.mem_append_right _ (List.mem_map.2 ⟨x, hx, rfl⟩)))
    have hHF := hI.own.apart
    rw [List.map_append, List.nodup_append] at hHF
    refine ⟨hI.own.size, ?_, ?_⟩
    · intro b hb
      rcases List.mem_append.1 hb with h | h
      · obtain ⟨x, hx, rfl⟩ := List.mem_map.1 h
        exact hI.own.at_ _ (List.mem_append_right _ (hmem x hx))
      · exact hI.own.at_ _ (List.mem_append_left _ h)
    · rw [List.map_append, List.nodup_append]
      refine ⟨?_, hHF.1, ?_⟩
      · rw [List.map_map]
        have : ∀ (l : List Al), (l.map (·.i)).Nodup → (∀ x ∈ l, x ∈ al) → (l.map (Box.g ∘ fun x => (⟨gs x.i, x.cs, x.t, false⟩ : Box))).Nodup := by
          intro l
          induction l with
          | nil => intro _ _; simp
          | cons x l ih =>
            intro hn hsub
            simp only [List.map_cons, List.nodup_cons, Function.comp_apply] at hn ⊢
            refine ⟨?_, ih hn.2 fun y hy => hsub y (by simp [hy])⟩
            intro hc
            obtain ⟨y, hy, e⟩ := List.mem_map.1 hc
            have hxi : x.i ≠ y.i := fun e => hn.1 (List.mem_map.2 ⟨y, hy, e.symm⟩)
            exact hI.other x (hsub x (by simp)) y (hsub y (by simp [hy])) (hall _ (List.mem_append_right _ (List.mem_map.2 ⟨x, hsub x (by simp), rfl⟩))) (hall _ (List.mem_append_right _ (List.mem_map.2 ⟨y, hsub y (by simp [hy]), rfl⟩))) hxi e.symm
        exact this al hnal fun x hx => hx
      · intro x hx y hy e
        obtain ⟨b, hb, rfl⟩ := List.mem_map.1 hx
        obtain ⟨x', hx', rfl⟩ := List.mem_map.1 hb
        exact hHF.2.2 y hy _ (List.mem_map.2 ⟨_, hmem x' hx', rfl⟩) e.symm
  | succ m ih =>
    intro L a w gs F hs hd hta hm hI
    have hnd := hok.nodup
    have hndb := (List.nodup_append.1 hnd).1
    obtain ⟨i0, hi0⟩ : ∃ i, i ∈ (fx ++ al.map (·.i)).filter fun i => !(L.getD i false) := by
      cases hq : (fx ++ al.map (·.i)).filter fun i => !(L.getD i false) with
      | nil => rw [hq] at hm; cases hm
      | cons i is => exact ⟨i, by simp⟩
    obtain ⟨hi0b, hi0n⟩ := List.mem_filter.1 hi0
    have hi0n' : L.getD i0 false = false := by simpa using hi0n
    have hi0lt : i0 < ops.size := hok.lt i0 (List.mem_append_left _ hi0b)
    rw [show m + 1 + ta.length = (m + ta.length) + 1 by omega]
    by_cases hlate : ∀ j ∈ fx ++ al.map (·.i), j ≠ q → L.getD j false = true
    · have hq0 : i0 = q := Classical.byContradiction fun hne => by
        have := hlate i0 hi0b hne
        rw [hi0n'] at this
        cases this
      subst hq0
      obtain ⟨o, xq, cq, ho, hop, hgd⟩ := hqop
      have hall : ∀ e ∈ o.after, Region.binds .any e = true → L.getD e.on false = true := fun e he hb => hlate e.on (hok.deps o ho e he hb) (Nat.ne_of_lt (hok.back i0 o ho e he hb))
      have hiL : i0 < L.size := by omega
      have h0 : L.getD i0 true = false := by simpa [hiL] using hi0n'
      have hready : i0 ∈ Region.ready .any ops L := mem_ready.2 ⟨h0, o, ho, hall⟩
      have hif : i0 ∈ fx := hok.late
      have hin := hi0n'
      have hib := hi0b
      have hu := allp_uniqL (vs := vs) hok hvs
      have hLj : ∀ j, j ≠ i0 → (L.setIfInBounds i0 true).getD j false = L.getD j false := fun j hj => getD_set_ne false (Ne.symm hj)
      have hnta : i0 ∉ ta := fun h => (List.nodup_append.1 hnd).2.2 i0 hib i0 h rfl
      have hta' : ∀ j ∈ ta, (L.setIfInBounds i0 true).getD j false = false := fun j hj => by
        rw [getD_set_ne false (fun (e : i0 = j) => hnta (by rw [e]; exact hj))]
        exact hta j hj
      have hm' : ((fx ++ al.map (·.i)).filter fun j => !((L.setIfInBounds i0 true).getD j false)).length = m := by
        have := filter_less (fx ++ al.map (·.i)) (fun j => !(L.getD j false)) (fun j => !((L.setIfInBounds i0 true).getD j false)) i0 hndb hib (by simp only [hin, Bool.not_false]) (by simp [hiL]) (fun j hj => by simp only [getD_set_ne false (Ne.symm hj)])
        omega
      rw [← hvs] at hif
      obtain ⟨x, hx, hxi⟩ := List.mem_map.1 hif
      subst hxi
      obtain ⟨k, hk⟩ := List.mem_iff_getElem?.1 hx
      have hxa : x ∈ allp vs al gs := List.mem_append_left _ hx
      have hfk : fx[k]? = some x.1 := by rw [← hvs, List.getElem?_map, hk]; rfl
      have hT := tells_congr (E' := EL ops E0 vs al gs L) hok.sel (ht k x hk) (fun o' ho' t htl => by
        rw [ho] at ho'
        cases ho'
        have hfst := allp_fst vs al gs
        rw [hvs] at hfst
        by_cases hex : ∃ y ∈ allp vs al gs, dstOf ops y.1 = some t
        · obtain ⟨y, hy, hyd⟩ := hex
          have hyb : y.1 ∈ fx ++ al.map (·.i) := by rw [← hfst]; exact List.mem_map.2 ⟨y, hy, rfl⟩
          obtain ⟨hb, htk⟩ := hok.looks k x.1 o hfk ho t htl y.1 hyb hyd
          have hyv : y ∈ vs.take k := by
            rw [← hvs, ← List.map_take] at htk
            obtain ⟨z, hz, e⟩ := List.mem_map.1 htk
            have hza : z ∈ allp vs al gs := List.mem_append_left _ (List.mem_of_mem_take hz)
            have : z = y := hu gs z hza y hy t (by rw [e]; exact hyd) hyd
            exact this ▸ hz
          have hyl : L.getD y.1 false = true := by
            unfold bindsOn at hb
            obtain ⟨e, he, hbb⟩ := Array.any_eq_true'.1 hb
            simp only [Bool.and_eq_true, beq_iff_eq] at hbb
            rw [← hbb.2]
            exact hall e he hbb.1
          unfold EL
          rw [putAll_at E0 t _ y (List.mem_filter.2 ⟨hy, hyl⟩) hyd (fun z hz hzd => hu gs z (List.mem_filter.1 hz).1 y hy t hzd hyd)]
          rw [putAll_at E0 t _ y hyv hyd (fun z hz hzd => hu gs z (List.mem_append_left _ (List.mem_of_mem_take hz)) y hy t hzd hyd)]
        · unfold EL
          rw [putAll_not E0 t _ (fun z hz hzd => hex ⟨z, (List.mem_filter.1 hz).1, hzd⟩)]
          rw [putAll_not E0 t _ (fun z hz hzd => hex ⟨z, List.mem_append_left _ (List.mem_of_mem_take hz), hzd⟩)])
      obtain ⟨o', ho', hT⟩ := hT
      rw [ho] at ho'
      cases ho'
      have hEL : EL ops E0 vs al gs (L.setIfInBounds x.1 true) = (EL ops E0 vs al gs L).put o.dst x.2 := by
        have := put_filter (ops := ops) E0 (allp vs al gs) (allp vs al gs) L x.1 x.2 hxa (fun _ _ => Iff.rfl) (hu gs) (hu gs) hin hiL
        unfold EL
        rw [this]
        simp [dstOf, ho]
      have hmade : ∀ y ∈ al, (L.setIfInBounds x.1 true).getD y.i false = true → L.getD y.i false = true := by
        intro y hy hl
        have hne : y.i ≠ x.1 := by
          intro e
          have h3 := (List.nodup_append.1 hndb).2.2 x.1 (hvs ▸ hif) y.i (List.mem_map.2 ⟨y, hy, rfl⟩)
          exact h3 e.symm
        rw [hLj _ hne] at hl
        exact hl
      have hyl : yld n ops (EL ops E0 vs al gs L) o = true := by unfold yld; rw [hgd]
      have hY : Yields p ops o x.2 a := by
        rcases hT with ⟨hw, hstep⟩ | ⟨hw, hv⟩
        · refine .inl ⟨by rw [hI.sees.yld]; exact hw, ?_⟩
          have hone := hstep F β w hI.own hI.below
          rw [hI.sees.eval]
          revert hone
          rw [execOp, hop]
          simp only
          cases ev n (EL ops E0 vs al gs L) xq with
          | tuple ts =>
            simp only [Instr.extract]
            cases ts[cq]? with
            | some u =>
              intro hone
              simp at hone
              obtain ⟨_, ⟨hu1, _⟩, _⟩ := hone
              intro w2
              simp [hu1]
            | none => intro hone; simp [stuck] at hone
          | _ => intro hone; simp [Instr.extract, stuck] at hone
        · rw [hyl] at hw; cases hw
      refine wpAny_first (P := p) (md := .any) (Q := AQ n β Q) ho (fun j oj cs b hj => Region.noSelect_spec hok.sel j oj cs b hj) (fun c a' w' hp => by
        obtain ⟨E', H', hq', _⟩ := hp
        exact absurd hq' (hnp c E' H')) _ _ a w ?_ hready hY ?_
      · intro j oj hoj hji hjl hnw
        have hjlt := (Array.getElem?_eq_some_iff.1 hoj).1
        have hjl' : L.getD j false = false := by
          have hj' : j < L.size := by omega
          simpa [hj'] using hjl
        rcases List.mem_append.1 (hok.all j hjlt) with h | h
        · have := hlate j h hji
          rw [hjl'] at this
          cases this
        · rcases hok.far o ho j h oj hoj with hb | hb
          · unfold bindsOn at hb
            obtain ⟨e, he, hbb⟩ := Array.any_eq_true'.1 hb
            simp only [Bool.and_eq_true, beq_iff_eq] at hbb
            exact absurd hbb.2 (hnw e he hbb.1)
          · exact hb
      · exact ih _ _ w gs F (by simp [hs]) (hd.set hready) hta' hm' ⟨hEL ▸ hI.sees.put _ _, hI.own, hI.below, fun y hy hl => hI.made y hy (hmade y hy hl), fun y hy z hz hl hl' hne => hI.other y hy z hz (hmade y hy hl) (hmade z hz hl') hne⟩
    obtain ⟨j0, hj0b, hj0q, hj0n⟩ : ∃ j, j ∈ fx ++ al.map (·.i) ∧ j ≠ q ∧ L.getD j false = false := by
      refine Classical.byContradiction fun hc => hlate fun j hj hjq => ?_
      cases hq : L.getD j false with
      | true => rfl
      | false => exact absurd ⟨j, hj, hjq, hq⟩ hc
    refine ⟨fun h0 => absurd h0 (ready_someL hok hs hi0lt hi0n'), fun i hi => ?_⟩
    obtain ⟨h0, o, ho, hall⟩ := mem_ready.1 hi
    have hilt := (Array.getElem?_eq_some_iff.1 ho).1
    have hiL : i < L.size := by omega
    have hin : L.getD i false = false := by simpa [hiL] using h0
    have hib : i ∈ fx ++ al.map (·.i) := by
      rcases List.mem_append.1 (hok.all i hilt) with h | h
      · exact h
      · obtain ⟨k, hk⟩ := List.mem_iff_getElem?.1 h
        by_cases hk0 : k = 0
        · subst hk0
          have := tail_waits0 hok hd hk hi j0 hj0b hj0q
          rw [hj0n] at this
          cases this
        · have := tail_waitsL hok hd hk hk0 hi i0 (List.mem_append_left _ hi0b)
          rw [hi0n'] at this
          cases this
    have hnta : i ∉ ta := fun h => (List.nodup_append.1 hnd).2.2 i hib i h rfl
    have hta' : ∀ j ∈ ta, (L.setIfInBounds i true).getD j false = false := fun j hj => by
      rw [getD_set_ne false (fun (e : i = j) => hnta (by rw [e]; exact hj))]
      exact hta j hj
    have hm' : ((fx ++ al.map (·.i)).filter fun j => !((L.setIfInBounds i true).getD j false)).length = m := by
      have := filter_less (fx ++ al.map (·.i)) (fun j => !(L.getD j false)) (fun j => !((L.setIfInBounds i true).getD j false)) i hndb hib (by simp only [hin, Bool.not_false]) (by simp [hiL]) (fun j hj => by simp only [getD_set_ne false (Ne.symm hj)])
      omega
    have hLi : (L.setIfInBounds i true).getD i false = true := by simp [hiL]
    have hLj : ∀ j, j ≠ i → (L.setIfInBounds i true).getD j false = L.getD j false := fun j hj => getD_set_ne false (Ne.symm hj)
    have hu := allp_uniqL (vs := vs) hok hvs
    rcases List.mem_append.1 hib with hif | hia
    · -- it tells the same in whatever order
      rw [← hvs] at hif
      obtain ⟨x, hx, rfl⟩ := List.mem_map.1 hif
      obtain ⟨k, hk⟩ := List.mem_iff_getElem?.1 hx
      have hxa : x ∈ allp vs al gs := List.mem_append_left _ hx
      have hfk : fx[k]? = some x.1 := by rw [← hvs, List.getElem?_map, hk]; rfl
      have hT := tells_congr (E' := EL ops E0 vs al gs L) hok.sel (ht k x hk) (fun o' ho' t htl => by
        rw [ho] at ho'
        cases ho'
        have hfst := allp_fst vs al gs
        rw [hvs] at hfst
        by_cases hex : ∃ y ∈ allp vs al gs, dstOf ops y.1 = some t
        · obtain ⟨y, hy, hyd⟩ := hex
          have hyb : y.1 ∈ fx ++ al.map (·.i) := by rw [← hfst]; exact List.mem_map.2 ⟨y, hy, rfl⟩
          obtain ⟨hb, htk⟩ := hok.looks k x.1 o hfk ho t htl y.1 hyb hyd
          have hyv : y ∈ vs.take k := by
            rw [← hvs, ← List.map_take] at htk
            obtain ⟨z, hz, e⟩ := List.mem_map.1 htk
            have hza : z ∈ allp vs al gs := List.mem_append_left _ (List.mem_of_mem_take hz)
            have : z = y := hu gs z hza y hy t (by rw [e]; exact hyd) hyd
            exact this ▸ hz
          have hyl : L.getD y.1 false = true := by
            unfold bindsOn at hb
            obtain ⟨e, he, hbb⟩ := Array.any_eq_true'.1 hb
            simp only [Bool.and_eq_true, beq_iff_eq] at hbb
            rw [← hbb.2]
            exact hall e he hbb.1
          unfold EL
          rw [putAll_at E0 t _ y (List.mem_filter.2 ⟨hy, hyl⟩) hyd (fun z hz hzd => hu gs z (List.mem_filter.1 hz).1 y hy t hzd hyd)]
          rw [putAll_at E0 t _ y hyv hyd (fun z hz hzd => hu gs z (List.mem_append_left _ (List.mem_of_mem_take hz)) y hy t hzd hyd)]
        · unfold EL
          rw [putAll_not E0 t _ (fun z hz hzd => hex ⟨z, (List.mem_filter.1 hz).1, hzd⟩)]
          rw [putAll_not E0 t _ (fun z hz hzd => hex ⟨z, List.mem_append_left _ (List.mem_of_mem_take hz), hzd⟩)])
      obtain ⟨o', ho', hT⟩ := hT
      rw [ho] at ho'
      cases ho'
      have hEL : EL ops E0 vs al gs (L.setIfInBounds x.1 true) = (EL ops E0 vs al gs L).put o.dst x.2 := by
        have := put_filter (ops := ops) E0 (allp vs al gs) (allp vs al gs) L x.1 x.2 hxa (fun _ _ => Iff.rfl) (hu gs) (hu gs) hin hiL
        unfold EL
        rw [this]
        simp [dstOf, ho]
      have hmade : ∀ y ∈ al, (L.setIfInBounds x.1 true).getD y.i false = true → L.getD y.i false = true := by
        intro y hy hl
        have hne : y.i ≠ x.1 := by
          intro e
          have h3 := (List.nodup_append.1 hndb).2.2 x.1 (hvs ▸ hif) y.i (List.mem_map.2 ⟨y, hy, rfl⟩)
          exact h3 e.symm
        rw [hLj _ hne] at hl
        exact hl
      unfold wpOp
      simp only [ho]
      rw [hI.sees.yld]
      rcases hT with ⟨hw, hstep⟩ | ⟨hw, hv⟩
      · rw [hw, if_pos rfl]
        refine .inl (hstep.wpF hI.sees hI.own hI.below ?_)
        rintro v H' w' ⟨rfl, rfl⟩ hO' hB'
        exact ih _ _ w' gs F (by simp [hs]) (hd.set hi) hta' hm' ⟨hEL ▸ hI.sees.put _ _, hO', hB', fun y hy hl => hI.made y hy (hmade y hy hl), fun y hy z hz hl hl' hne => hI.other y hy z hz (hmade y hy hl) (hmade z hz hl') hne⟩
      · rw [hw, if_neg (by simp)]
        rw [hv] at hEL
        exact ih _ _ w gs F (by simp [hs]) (hd.set hi) hta' hm' ⟨hEL ▸ hI.sees.put _ _, hI.own, hI.below, fun y hy hl => hI.made y hy (hmade y hy hl), fun y hy z hz hl hl' hne => hI.other y hy z hz (hmade y hy hl) (hmade z hz hl') hne⟩
    · -- a box is made
      obtain ⟨x, hx, rfl⟩ := List.mem_map.1 hia
      obtain ⟨o', z, ho', hop, hgd, hz, hcs⟩ := hal x hx
      rw [ho] at ho'
      cases ho'
      have hnal : (al.map (·.i)).Nodup := (List.nodup_append.1 hndb).2.1
      have hsame : ∀ y ∈ al, y.i = x.i → y = x := by
        have : ∀ (l : List Al), (l.map (·.i)).Nodup → ∀ y ∈ l, ∀ z ∈ l, y.i = z.i → y = z := by
          intro l
          induction l with
          | nil => intro _ y hy; cases hy
          | cons u l ih =>
            intro hn y hy z hz e
            simp only [List.map_cons, List.nodup_cons] at hn
            rcases List.mem_cons.1 hy with hy | hy <;> rcases List.mem_cons.1 hz with hz | hz
            · rw [hy, hz]
            · rw [hy] at e; exact absurd (List.mem_map.2 ⟨z, hz, e.symm⟩) hn.1
            · rw [hz] at e; exact absurd (List.mem_map.2 ⟨y, hy, e⟩) hn.1
            · exact ih hn.2 y hy z hz e
        exact fun y hy e => this al hnal y hy x hx e
      let gs' : Nat → Nat := fun j => if j = x.i then w.heap.size else gs j
      have hgx : gs' x.i = w.heap.size := by simp [gs']
      have hgy : ∀ j, j ≠ x.i → gs' j = gs j := fun j hj => by simp [gs', hj]
      have hEL : EL ops E0 vs al gs' (L.setIfInBounds x.i true) = (EL ops E0 vs al gs L).put o.dst (ptr w.heap.size) := by
        have hxa : (x.i, ptr w.heap.size) ∈ allp vs al gs' := List.mem_append_right _ (List.mem_map.2 ⟨x, hx, by rw [hgx]⟩)
        have := put_filter (ops := ops) E0 (allp vs al gs) (allp vs al gs') L x.i (ptr w.heap.size) hxa (fun y hy => by
          simp only [allp, List.mem_append, List.mem_map]
          constructor
          · rintro (h | ⟨q, hq, rfl⟩)
            · exact .inl h
            · exact .inr ⟨q, hq, by rw [hgy q.i hy]⟩
          · rintro (h | ⟨q, hq, rfl⟩)
            · exact .inl h
            · exact .inr ⟨q, hq, by rw [hgy q.i hy]⟩) (hu gs) (hu gs') hin hiL
        unfold EL
        rw [this]
        simp [dstOf, ho]
      have hst : Step p (ev n (EL ops E0 vs al gs L)) o H0 (fun v H' => ∃ g, v = ptr g ∧ H' = ⟨g, x.cs, x.t, false⟩ :: H0) := st_alloc hop hz hcs (fun g => ⟨g, rfl, rfl⟩)
      have hrun : (execOp (ev n (EL ops E0 vs al gs L)) o).run p w = .ok (.value (.pointer (some ⟨w.heap.size, 0, none⟩))) (w.alloc (.cells x.cs.toArray x.t (0, 0))) := by
        rw [← hcs]
        rw [execOp, hop]
        cases hq : p.info? x.t with
        | none => simp [hq] at hz
        | some inf =>
          have hz' : inf.zero = some z := by simpa [hq] using hz
          simp [Instr.alloc, zeroValue, typeInfo, hq, hz', newVar, newRow, Sem.run_bind]
      unfold wpOp
      simp only [ho]
      have hwant : Region.wanted o (yielded ops a.tmps) = true := by simp [Region.wanted, hgd]
      rw [hwant, if_pos rfl]
      refine .inl ?_
      unfold Oper.wp
      rw [hI.sees.eval, hrun]
      have hO1 : Own β (H0 ++ (⟨w.heap.size, x.cs, x.t, false⟩ :: F)) (w.alloc (.cells x.cs.toArray x.t (0, 0))) := (hI.own.alloc x.cs x.t).perm (List.perm_middle.symm)
      have hmade : ∀ y ∈ al, (L.setIfInBounds x.i true).getD y.i false = true → y ≠ x → L.getD y.i false = true ∧ y.i ≠ x.i := by
        intro y hy hl hne
        have hyi : y.i ≠ x.i := fun e => hne (hsame y hy e)
        rw [hLj _ hyi] at hl
        exact ⟨hl, hyi⟩
      have hfresh : ∀ y ∈ al, L.getD y.i false = true → gs y.i < w.heap.size := fun y hy hl => hI.own.lt (List.mem_append_right _ (hI.made y hy hl))
      refine ih _ _ _ gs' (⟨w.heap.size, x.cs, x.t, false⟩ :: F) (by simp [hs]) (hd.set hi) hta' hm' ⟨hEL ▸ hI.sees.put _ _, hO1, hI.below.alloc _, ?_, ?_⟩
      · intro y hy hl
        by_cases hyx : y = x
        · subst hyx
          rw [hgx]
          exact List.mem_cons_self
        · obtain ⟨hl', hyi⟩ := hmade y hy hl hyx
          rw [hgy _ hyi]
          exact List.mem_cons_of_mem _ (hI.made y hy hl')
      · intro y hy u hu' hl hl' hne
        by_cases hyx : y = x
        · subst hyx
          have hux : u ≠ y := fun e => hne (by rw [e])
          obtain ⟨hl2, hui⟩ := hmade u hu' hl' hux
          rw [hgx, hgy _ hui]
          exact Ne.symm (Nat.ne_of_lt (hfresh u hu' hl2))
        · obtain ⟨hl1, hyi⟩ := hmade y hy hl hyx
          by_cases hux : u = x
          · subst hux
            rw [hgx, hgy _ hyi]
            exact Nat.ne_of_lt (hfresh y hy hl1)
          · obtain ⟨hl2, hui⟩ := hmade u hu' hl' hux
            rw [hgy _ hyi, hgy _ hui]
            exact hI.other y hy u hu' hl1 hl2 hne
theorem ac_drawL {id : Nat} (fx ta : List Nat) (al : List Al) (q : Nat) (hok : drawOkL ops fx (al.map (·.i)) ta q = true) (hqop : ∃ oq x c, ops[q]? = some oq ∧ oq.op = .extract x c ∧ oq.guard = none) (hnp : ∀ c E H, ¬ Q (.panic c) E H) (hm : p.follows .mixedOrders = true)
    (hal : ∀ x ∈ al, ∃ o z, ops[x.i]? = some o ∧ o.op = .alloc x.t ∧ o.guard = none ∧ (p.info? x.t).map (·.zero) = some (some z) ∧ z.cells = x.cs.toArray)
    (h : DWalk p n ops H0 fx E0 fun E => ∀ gs : Nat → Nat, AR p n ops Q (ta.map fun i => (ops[i]?).getD default) (putAll ops E (al.map fun x => (x.i, ptr (gs x.i)))) (al.map (fun x => (⟨gs x.i, x.cs, x.t, false⟩ : Box)) ++ H0)) :
    AC p n (.region id ops true) Q E0 H0 := by
  intro β w a hO hB hs
  have hok' := drawOkL_spec hok
  obtain ⟨vs, hvs, ht, hK⟩ := dwalk_vals _ _ h
  refine wp_region_any hm ?_
  have hlen := hok'.len
  have hnone : ∀ i, (Array.replicate ops.size false).getD i false = false := by
    intro i
    simp only [Array.getD_eq_getD_getElem?, Array.getElem?_replicate]
    split <;> rfl
  have hcount : ((fx ++ al.map (·.i)).filter fun i => !((Array.replicate ops.size false).getD i false)).length = (fx ++ al.map (·.i)).length := by
    rw [List.filter_eq_self.2 fun i _ => by rw [hnone]; rfl]
  have := body_phaseL (E0 := E0) (H0 := H0) (Q := Q) hok' hqop hnp hvs ht hal (fun gs => by have := hK gs; rw [← putAll_append] at this; exact this) (β := β) _ (Array.replicate ops.size false) a { w with drawn := w.drawn + 1 } (fun _ => 0) [] (by simp) (fun i o ho hl => by rw [hnone] at hl; cases hl) (fun i _ => hnone i) hcount
    ⟨by
      have : EL ops E0 vs al (fun _ => 0) (Array.replicate ops.size false) = E0 := by
        unfold EL
        rw [List.filter_eq_nil_iff.2 fun x _ => by rw [hnone]; simp]
        rfl
      rw [this]; exact hs, by rw [List.append_nil]; exact hO.drew, hB.drew, fun x _ hl => (by rw [hnone] at hl; cases hl), fun x _ y _ hl => (by rw [hnone] at hl; cases hl)⟩
  have e : (fx ++ al.map (·.i)).length + ta.length = ops.size := by rw [← hlen, ← List.length_append]
  rw [e] at this
  exact this
end
theorem ac_drawL1 {H : List Box} {E : Env} {Q : Exit → Env → List Box → Prop} {id : Nat} (fx ta : List Nat) (q i d t : Nat) (cs : List Value) (tl : List Oper) (hok : drawOkL ops fx [i] ta q = true) (hqop : ∃ oq x c, ops[q]? = some oq ∧ oq.op = .extract x c ∧ oq.guard = none) (hnp : ∀ c E H, ¬ Q (.panic c) E H)
    (hm : p.follows .mixedOrders = true) (htl : (ta.map fun i => (ops[i]?).getD default) = tl) (hz : Zero p t cs) (hi : ∃ o, ops[i]? = some o ∧ o.op = .alloc t ∧ o.guard = none ∧ o.dst = some d)
    (h : DWalk p n ops H fx E fun E => ∀ g, AR p n ops Q tl (E.put (some d) (.pointer (some ⟨g, 0, none⟩))) (⟨g, cs, t, false⟩ :: H)) : AC p n (.region id ops true) Q E H := by
  subst htl
  obtain ⟨o, ho, h1, h2, h3⟩ := hi
  obtain ⟨z, hz1, hz2⟩ := hz.out
  refine ac_drawL fx ta [⟨i, t, cs⟩] q hok hqop hnp hm (fun x hx => by obtain rfl := List.mem_singleton.1 hx; exact ⟨o, z, ho, h1, h2, hz1, hz2⟩) ?_
  refine dwalk_mono ?_ _ _ h
  intro E hE gs
  have := hE (gs i)
  simpa [putAll, dstOf, ho, h3, ptr] using this
theorem ac_drawL2 {H : List Box} {E : Env} {Q : Exit → Env → List Box → Prop} {id : Nat} (fx ta : List Nat) (q i d t j e u : Nat) (cs ds : List Value) (tl : List Oper) (hok : drawOkL ops fx [i, j] ta q = true) (hqop : ∃ oq x c, ops[q]? = some oq ∧ oq.op = .extract x c ∧ oq.guard = none) (hnp : ∀ c E H, ¬ Q (.panic c) E H)
    (hm : p.follows .mixedOrders = true) (htl : (ta.map fun i => (ops[i]?).getD default) = tl) (hz : Zero p t cs) (hi : ∃ o, ops[i]? = some o ∧ o.op = .alloc t ∧ o.guard = none ∧ o.dst = some d) (hy : Zero p u ds) (hj : ∃ o, ops[j]? = some o ∧ o.op = .alloc u ∧ o.guard = none ∧ o.dst = some e)
    (h : DWalk p n ops H fx E fun E => ∀ g g', AR p n ops Q tl ((E.put (some d) (.pointer (some ⟨g, 0, none⟩))).put (some e) (.pointer (some ⟨g', 0, none⟩))) (⟨g, cs, t, false⟩ :: ⟨g', ds, u, false⟩ :: H)) : AC p n (.region id ops true) Q E H := by
  subst htl
  obtain ⟨o, ho, h1, h2, h3⟩ := hi
  obtain ⟨o', ho', h1', h2', h3'⟩ := hj
  obtain ⟨z, hz1, hz2⟩ := hz.out
  obtain ⟨z', hz1', hz2'⟩ := hy.out
  refine ac_drawL fx ta [⟨i, t, cs⟩, ⟨j, u, ds⟩] q hok hqop hnp hm (fun x hx => by
    rcases List.mem_cons.1 hx with rfl | hx
    · exact ⟨o, z, ho, h1, h2, hz1, hz2⟩
    · obtain rfl := List.mem_singleton.1 hx
      exact ⟨o', z', ho', h1', h2', hz1', hz2'⟩) ?_
  refine dwalk_mono ?_ _ _ h
  intro E hE gs
  have := hE (gs i) (gs j)
  simpa [putAll, dstOf, ho, h3, ho', h3', ptr] using this
theorem np_then {next : Env → List Box → Prop} {Q : Exit → Env → List Box → Prop} (h : ∀ c E H, ¬ Q (.panic c) E H) : ∀ c E H, ¬ AThen next Q (.panic c) E H := h
theorem np_block {id : Nat} {Q : Exit → Env → List Box → Prop} (h : ∀ c E H, ¬ Q (.panic c) E H) : ∀ c E H, ¬ ABlock id Q (.panic c) E H := h
theorem np_fin {fn : Func} {v : Value} : ∀ c E H, ¬ Fin p fn n v (.panic c) E H := fun c E H h => by
  rcases h.1 with h | h <;> cases h
end
end Go.Proofs.Ythngkopcadlciaa
namespace Go.Proofs.Ythngkopcadlciaa
theorem ar_dropR {p : Program} {n k : Nat} {c : Code} {Q : Exit → Env → List Box → Prop} {E : Env} {H H' : List Box} (hs : List.Sublist H H') (h : ARounds p n c Q k E H) : ARounds p n c Q k E H' := by
  cases k with
  | zero => exact h
  | succ k => exact ac_drop hs h
end Go.Proofs.Ythngkopcadlciaa
namespace Go.Proofs.Ythngkopcadlciaa
open Go.RowKit
theorem agg26 : IsAgg Try.prog 26 3 := ⟨⟨_, Try.underlying26, rfl, by kernel_rfl⟩⟩
theorem agg57 : IsAgg Try.prog 57 9 := ⟨⟨_, Try.underlying57, rfl, by kernel_rfl⟩⟩
theorem bd118_0_1 (x0_0 : Int) (x1_0 : Int) : Runs Try.prog (Instr.build 118 #[(0, .int .i64 x0_0), (1, .int .i64 x1_0)]) (.agg #[.int .i64 x0_0, .int .i64 x1_0]) := ⟨fun w => by go_simp⟩
theorem bd26_0_1 (x0_0 : Int) (x1_0 : Int) : Runs Try.prog (Instr.build 26 #[(0, .int .i64 x0_0), (1, .int .i64 x1_0)]) (.agg #[.int .i64 x0_0, .int .i64 x1_0, .bool false]) := ⟨fun w => by go_simp⟩
theorem bd26_0_1_2 (x0_0 : Int) (x1_0 : Int) (x2_0 : Bool) : Runs Try.prog (Instr.build 26 #[(0, .int .i64 x0_0), (1, .int .i64 x1_0), (2, .bool x2_0)]) (.agg #[.int .i64 x0_0, .int .i64 x1_0, .bool x2_0]) := ⟨fun w => by go_simp⟩
theorem bd26_2 (x0_0 : Bool) : Runs Try.prog (Instr.build 26 #[(2, .bool x0_0)]) (.agg #[.int .i64 0, .int .i64 0, .bool x0_0]) := ⟨fun w => by go_simp⟩
theorem bd57_0a_1a_2a (x0_0 : Int) (x0_1 : Int) (x0_2 : Bool) (x1_0 : Int) (x1_1 : Int) (x1_2 : Bool) (x2_0 : Int) (x2_1 : Int) (x2_2 : Bool) : Runs Try.prog (Instr.build 57 #[(0, .agg #[.int .i64 x0_0, .int .i64 x0_1, .bool x0_2]), (1, .agg #[.int .i64 x1_0, .int .i64 x1_1, .bool x1_2]), (2, .agg #[.int .i64 x2_0, .int .i64 x2_1, .bool x2_2])]) (.agg #[.int .i64 x0_0, .int .i64 x0_1, .bool x0_2, .int .i64 x1_0, .int .i64 x1_1, .bool x1_2, .int .i64 x2_0, .int .i64 x2_1, .bool x2_2]) := ⟨fun w => by go_simp⟩
theorem cell3 : IsCell Try.prog 3 := ⟨⟨_, Try.underlying3, rfl, by kernel_rfl⟩⟩
theorem cell4 : IsCell Try.prog 4 := ⟨⟨_, Try.underlying4, rfl, by kernel_rfl⟩⟩
theorem fa26_0 (a : Addr) : Runs Try.prog (Instr.fieldAt 26 (.pointer (some a)) 0) (.pointer (some (a.add 0))) := run_fa (f := 0) (off := 0) (m := 1) Try.underlying26 rfl rfl (by kernel_rfl) (by decide) a
theorem fa26_1 (a : Addr) : Runs Try.prog (Instr.fieldAt 26 (.pointer (some a)) 1) (.pointer (some (a.add 1))) := run_fa (f := 1) (off := 1) (m := 1) Try.underlying26 rfl rfl (by kernel_rfl) (by decide) a
theorem fa26_2 (a : Addr) : Runs Try.prog (Instr.fieldAt 26 (.pointer (some a)) 2) (.pointer (some (a.add 2))) := run_fa (f := 2) (off := 2) (m := 1) Try.underlying26 rfl rfl (by kernel_rfl) (by decide) a
theorem fa57_0 (a : Addr) : Runs Try.prog (Instr.fieldAt 57 (.pointer (some a)) 0) (.pointer (some (a.add 0))) := run_fa (f := 0) (off := 0) (m := 3) Try.underlying57 rfl rfl (by kernel_rfl) (by decide) a
theorem fa57_1 (a : Addr) : Runs Try.prog (Instr.fieldAt 57 (.pointer (some a)) 1) (.pointer (some (a.add 3))) := run_fa (f := 1) (off := 3) (m := 3) Try.underlying57 rfl rfl (by kernel_rfl) (by decide) a
theorem fa57_2 (a : Addr) : Runs Try.prog (Instr.fieldAt 57 (.pointer (some a)) 2) (.pointer (some (a.add 6))) := run_fa (f := 2) (off := 6) (m := 3) Try.underlying57 rfl rfl (by kernel_rfl) (by decide) a
theorem ia60_0 (g off : Nat) : Runs Try.prog (Instr.indexAt 60 (.pointer (some ⟨g, off, none⟩)) (.int .i64 0)) (.pointer (some ⟨g, off + 0, none⟩)) := run_ia (i := 0) (m := 1) (j := 0) Try.underlying60 (by kernel_rfl) rfl g off (by decide) (by decide)
theorem ia60_1 (g off : Nat) : Runs Try.prog (Instr.indexAt 60 (.pointer (some ⟨g, off, none⟩)) (.int .i64 1)) (.pointer (some ⟨g, off + 1, none⟩)) := run_ia (i := 1) (m := 1) (j := 1) Try.underlying60 (by kernel_rfl) rfl g off (by decide) (by decide)
theorem ia60_2 (g off : Nat) : Runs Try.prog (Instr.indexAt 60 (.pointer (some ⟨g, off, none⟩)) (.int .i64 2)) (.pointer (some ⟨g, off + 2, none⟩)) := run_ia (i := 2) (m := 1) (j := 2) Try.underlying60 (by kernel_rfl) rfl g off (by decide) (by decide)
theorem ia60_3 (g off : Nat) : Runs Try.prog (Instr.indexAt 60 (.pointer (some ⟨g, off, none⟩)) (.int .i64 3)) (.pointer (some ⟨g, off + 3, none⟩)) := run_ia (i := 3) (m := 1) (j := 3) Try.underlying60 (by kernel_rfl) rfl g off (by decide) (by decide)
theorem ia60_4 (g off : Nat) : Runs Try.prog (Instr.indexAt 60 (.pointer (some ⟨g, off, none⟩)) (.int .i64 4)) (.pointer (some ⟨g, off + 4, none⟩)) := run_ia (i := 4) (m := 1) (j := 4) Try.underlying60 (by kernel_rfl) rfl g off (by decide) (by decide)
theorem ia60_5 (g off : Nat) : Runs Try.prog (Instr.indexAt 60 (.pointer (some ⟨g, off, none⟩)) (.int .i64 5)) (.pointer (some ⟨g, off + 5, none⟩)) := run_ia (i := 5) (m := 1) (j := 5) Try.underlying60 (by kernel_rfl) rfl g off (by decide) (by decide)
theorem ix118_0 (x0 : Int) (x1 : Int) : Runs Try.prog (Instr.index 118 (.agg #[.int .i64 x0, .int .i64 x1]) (.int .i64 0)) (.int .i64 x0) := run_ixc (xs := [.int .i64 x0, .int .i64 x1]) Try.underlying118 cell3 (by decide) (by decide) rfl
theorem ix118_1 (x0 : Int) (x1 : Int) : Runs Try.prog (Instr.index 118 (.agg #[.int .i64 x0, .int .i64 x1]) (.int .i64 1)) (.int .i64 x1) := run_ixc (xs := [.int .i64 x0, .int .i64 x1]) Try.underlying118 cell3 (by decide) (by decide) rfl
theorem zero26 : Zero Try.prog 26 [.int .i64 0, .int .i64 0, .bool false] := ⟨⟨.agg #[.int .i64 0, .int .i64 0, .bool false], by kernel_rfl, rfl⟩⟩
theorem zero57 : Zero Try.prog 57 [.int .i64 0, .int .i64 0, .bool false, .int .i64 0, .int .i64 0, .bool false, .int .i64 0, .int .i64 0, .bool false] := ⟨⟨.agg #[.int .i64 0, .int .i64 0, .bool false, .int .i64 0, .int .i64 0, .bool false, .int .i64 0, .int .i64 0, .bool false], by kernel_rfl, rfl⟩⟩
end Go.Proofs.Ythngkopcadlciaa
namespace Go.Proofs.Ythngkopcadlciaa
open Go.RowKit
attribute [local irreducible] AC AR DWalk
def rIn (n : Int) : Bool := (bif decide (n ≥ (-1073741824)) then decide (n ≤ 1073741824) else false)
set_option maxRecDepth 100000 in
theorem c_rIn (n : Int) : Gets Try.prog 92 #[.int .i64 n] ((fun (r : Bool) => (.bool r : Value)) (rIn n)) := by
  refine gets_fin Try.func92 rfl rfl rfl ?_
  refine ac_seq ?_
  refine ac_region_lit ?_
  refine ao 2 rfl rfl (st_assign (v := .bool false) rfl rfl ?_)
  refine ar_nil ?_
  refine ac_seq ?_
  refine ac_region_lit ?_
  refine ao 3 rfl rfl (st_move (v := .int .i64 n) rfl rfl ?_)
  refine ao 4 rfl rfl (st_bi (u := .int .i64 n) (v := .int .i64 (-1073741824)) (r := .bool (decide (n ≥ (-1073741824)))) rfl rfl rfl (bi_geq rfl) ?_)
  refine ao 5 rfl rfl (st_move (v := .bool (decide (n ≥ (-1073741824)))) rfl rfl ?_)
  refine bool_split (decide (n ≥ (-1073741824))) (fun h1 => ?_) (fun h1 => ?_)
  · refine ar_gd (d := (some 6)) (by show ((decide (n ≥ (-1073741824))) == true) = true; rw [h1]; rfl) rfl (st_move (v := .int .i64 n) rfl rfl ?_)
    refine ar_gd (d := (some 7)) (by show ((decide (n ≥ (-1073741824))) == true) = true; rw [h1]; rfl) rfl (st_bi (u := .int .i64 n) (v := .int .i64 1073741824) (r := .bool (decide (n ≤ 1073741824))) rfl rfl rfl (bi_leq rfl) ?_)
    refine ao 8 rfl rfl (st_pkt' (b := decide (n ≥ (-1073741824))) (v := .bool (decide (n ≤ 1073741824))) h1 rfl rfl rfl ?_)
    refine ao 2 rfl rfl (st_assign (v := .bool (decide (n ≤ 1073741824))) rfl rfl ?_)
    refine ar_nil ?_
    refine ac_ret ?_
    exact fin_eq (v := .bool (decide (n ≤ 1073741824))) (by show _ = (fun (r : Bool) => (.bool r : Value)) (rIn n); rw [rIn, h1] <;> rfl) (fin_ret (res_tmp rfl rfl))
  · refine ar_sk (d := (some 6)) (by show ((decide (n ≥ (-1073741824))) == true) = false; rw [h1]; rfl) rfl ?_
    refine ar_sk (d := (some 7)) (by show ((decide (n ≥ (-1073741824))) == true) = false; rw [h1]; rfl) rfl ?_
    refine ao 8 rfl rfl (st_pkf' (b := decide (n ≥ (-1073741824))) (v := .bool false) h1 rfl rfl rfl ?_)
    refine ao 2 rfl rfl (st_assign (v := .bool false) rfl rfl ?_)
    refine ar_nil ?_
    refine ac_ret ?_
    exact fin_eq (v := .bool false) (by show _ = (fun (r : Bool) => (.bool r : Value)) (rIn n); rw [rIn, h1] <;> rfl) (fin_ret (res_tmp rfl rfl))
def rFloor_e0 (a : Int) (b : Int) : Int := (bif (decide ((Int.tmod a b) < 0)) != (decide (b < 0)) then (w64 ((w64 (Int.tdiv a b)) - 1)) else (w64 (Int.tdiv a b)))
def rFloor (a : Int) (b : Int) : Int := (bif b == 0 then 0 else (bif (Int.tmod a b) != 0 then (rFloor_e0 a b) else w64 (Int.tdiv a b)))
set_option maxRecDepth 100000 in
theorem c_rFloor (a : Int) (b : Int) : Gets Try.prog 128 #[.int .i64 a, .int .i64 b] ((fun (r : Int) => (.int .i64 r : Value)) (rFloor a b)) := by
  refine gets_fin Try.func128 rfl rfl rfl ?_
  refine ac_seq ?_
  refine ac_region_lit ?_
  refine ao 4 rfl rfl (st_assign (v := .int .i64 0) rfl rfl ?_)
  refine ar_nil ?_
  refine ac_seq ?_
  refine ac_seq ?_
  refine ac_region_lit ?_
  refine ao 7 rfl rfl (st_move (v := .int .i64 b) rfl rfl ?_)
  refine ao 8 rfl rfl (st_bi (u := .int .i64 b) (v := .int .i64 0) (r := .bool (b == 0)) rfl rfl rfl (bi_eql rfl) ?_)
  refine ar_nil ?_
  refine bool_split (b == 0) (fun h1 => ?_) (fun h1 => ?_)
  · refine ac_then' (b := b == 0) h1 rfl ?_
    refine ac_seq ?_
    refine ac_region_lit ?_
    refine ao 4 rfl rfl (st_assign (v := .int .i64 0) rfl rfl ?_)
    refine ar_nil ?_
    refine ac_ret ?_
    exact fin_eq (v := .int .i64 0) (by show _ = (fun (r : Int) => (.int .i64 r : Value)) (rFloor a b); rw [rFloor, h1] <;> rfl) (fin_ret (res_tmp rfl rfl))
  · refine ac_else' (b := b == 0) h1 rfl ?_
    refine ac_skip ?_
    refine ac_seq ?_
    refine ac_region_lit ?_
    refine ao 9 rfl rfl (st_move (v := .int .i64 a) rfl rfl ?_)
    refine ao 10 rfl rfl (st_move (v := .int .i64 b) rfl rfl ?_)
    refine ao 11 rfl rfl (st_bi (u := .int .i64 a) (v := .int .i64 b) (r := .int .i64 (w64 (Int.tdiv a b))) rfl rfl rfl (bi_quo (ne_of_beq0 h1) rfl) ?_)
    refine ao 5 rfl rfl (st_assign (v := .int .i64 (w64 (Int.tdiv a b))) rfl rfl ?_)
    refine ar_nil ?_
    refine ac_seq ?_
    refine ac_seq ?_
    refine ac_region_lit ?_
    refine ao 12 rfl rfl (st_move (v := .int .i64 a) rfl rfl ?_)
    refine ao 13 rfl rfl (st_move (v := .int .i64 b) rfl rfl ?_)
    refine ao 14 rfl rfl (st_bi (u := .int .i64 a) (v := .int .i64 b) (r := .int .i64 (Int.tmod a b)) rfl rfl rfl (bi_rem (ne_of_beq0 h1) rfl) ?_)
    refine ao 6 rfl rfl (st_assign (v := .int .i64 (Int.tmod a b)) rfl rfl ?_)
    refine ar_nil ?_
    refine ac_seq ?_
    refine ac_region_lit ?_
    refine ao 15 rfl rfl (st_move (v := .int .i64 (Int.tmod a b)) rfl rfl ?_)
    refine ao 16 rfl rfl (st_bi (u := .int .i64 (Int.tmod a b)) (v := .int .i64 0) (r := .bool ((Int.tmod a b) != 0)) rfl rfl rfl (bi_neq rfl) ?_)
    refine ao 17 rfl rfl (st_move (v := .bool ((Int.tmod a b) != 0)) rfl rfl ?_)
    refine bool_split ((Int.tmod a b) != 0) (fun h2 => ?_) (fun h2 => ?_)
    · refine ar_gd (d := (some 18)) (by show (((Int.tmod a b) != 0) == true) = true; rw [h2]; rfl) rfl (st_move (v := .int .i64 (Int.tmod a b)) rfl rfl ?_)
      refine ar_gd (d := (some 19)) (by show (((Int.tmod a b) != 0) == true) = true; rw [h2]; rfl) rfl (st_bi (u := .int .i64 (Int.tmod a b)) (v := .int .i64 0) (r := .bool (decide ((Int.tmod a b) < 0))) rfl rfl rfl (bi_lss rfl) ?_)
      refine ar_gd (d := (some 20)) (by show (((Int.tmod a b) != 0) == true) = true; rw [h2]; rfl) rfl (st_move (v := .int .i64 b) rfl rfl ?_)
      refine ar_gd (d := (some 21)) (by show (((Int.tmod a b) != 0) == true) = true; rw [h2]; rfl) rfl (st_bi (u := .int .i64 b) (v := .int .i64 0) (r := .bool (decide (b < 0))) rfl rfl rfl (bi_lss rfl) ?_)
      refine ar_gd (d := (some 22)) (by show (((Int.tmod a b) != 0) == true) = true; rw [h2]; rfl) rfl (st_bi (u := .bool (decide ((Int.tmod a b) < 0))) (v := .bool (decide (b < 0))) (r := .bool ((decide ((Int.tmod a b) < 0)) != (decide (b < 0)))) rfl rfl rfl (bb_neq Try.underlying4 rfl) ?_)
      refine ao 23 rfl rfl (st_pkt' (b := (Int.tmod a b) != 0) (v := .bool ((decide ((Int.tmod a b) < 0)) != (decide (b < 0)))) h2 rfl rfl rfl ?_)
      refine ar_nil ?_
      refine ac_mergeE (fun E9 => (((Env.put E9 (some 24) (.int .i64 (w64 (Int.tdiv a b)))).put (some 25) (.int .i64 (w64 ((w64 (Int.tdiv a b)) - 1)))).put (some 5) (.int .i64 (w64 ((w64 (Int.tdiv a b)) - 1))))) (fun E9 => (((Env.put E9 (some 24) (bif (decide ((Int.tmod a b) < 0)) != (decide (b < 0)) then (.int .i64 (w64 (Int.tdiv a b)) : Value) else E9 24)).put (some 25) (bif (decide ((Int.tmod a b) < 0)) != (decide (b < 0)) then (.int .i64 (w64 ((w64 (Int.tdiv a b)) - 1)) : Value) else E9 25)).put (some 5) (.int .i64 (rFloor_e0 a b)))) (b := (decide ((Int.tmod a b) < 0)) != (decide (b < 0))) rfl (fun hm => ?_) (fun hm => ?_) (fun hm => ?_) ?_
      · refine ac_region_lit ?_
        refine ao 24 rfl rfl (st_move (v := .int .i64 (w64 (Int.tdiv a b))) rfl rfl ?_)
        refine ao 25 rfl rfl (st_bi (u := .int .i64 (w64 (Int.tdiv a b))) (v := .int .i64 1) (r := .int .i64 (w64 ((w64 (Int.tdiv a b)) - 1))) rfl rfl rfl (bi_sub rfl) ?_)
        refine ao 5 rfl rfl (st_assign (v := .int .i64 (w64 ((w64 (Int.tdiv a b)) - 1))) rfl rfl ?_)
        refine ar_nil ?_
        exact ⟨rfl, rfl, rfl⟩
      · unfold rFloor_e0; rw [hm]; rfl
      · unfold rFloor_e0; rw [hm]; exact ((put_self rfl).trans ((put_self rfl).trans (put_self rfl)))
      refine ac_seq ?_
      refine ac_region_lit ?_
      refine ao 26 rfl rfl (st_move (v := .int .i64 (rFloor_e0 a b)) rfl rfl ?_)
      refine ao 4 rfl rfl (st_assign (v := .int .i64 (rFloor_e0 a b)) rfl rfl ?_)
      refine ar_nil ?_
      refine ac_ret ?_
      exact fin_eq (v := .int .i64 (rFloor_e0 a b)) (by show _ = (fun (r : Int) => (.int .i64 r : Value)) (rFloor a b); rw [rFloor, h2, h1] <;> rfl) (fin_ret (res_tmp rfl rfl))
    · refine ar_sk (d := (some 18)) (by show (((Int.tmod a b) != 0) == true) = false; rw [h2]; rfl) rfl ?_
      refine ar_sk (d := (some 19)) (by show (((Int.tmod a b) != 0) == true) = false; rw [h2]; rfl) rfl ?_
      refine ar_sk (d := (some 20)) (by show (((Int.tmod a b) != 0) == true) = false; rw [h2]; rfl) rfl ?_
      refine ar_sk (d := (some 21)) (by show (((Int.tmod a b) != 0) == true) = false; rw [h2]; rfl) rfl ?_
      refine ar_sk (d := (some 22)) (by show (((Int.tmod a b) != 0) == true) = false; rw [h2]; rfl) rfl ?_
      refine ao 23 rfl rfl (st_pkf' (b := (Int.tmod a b) != 0) (v := .bool false) h2 rfl rfl rfl ?_)
      refine ar_nil ?_
      refine ac_else rfl ?_
      refine ac_skip ?_
      refine ac_seq ?_
      refine ac_region_lit ?_
      refine ao 26 rfl rfl (st_move (v := .int .i64 (w64 (Int.tdiv a b))) rfl rfl ?_)
      refine ao 4 rfl rfl (st_assign (v := .int .i64 (w64 (Int.tdiv a b))) rfl rfl ?_)
      refine ar_nil ?_
      refine ac_ret ?_
      exact fin_eq (v := .int .i64 (w64 (Int.tdiv a b))) (by show _ = (fun (r : Int) => (.int .i64 r : Value)) (rFloor a b); rw [rFloor, h2, h1] <;> rfl) (fin_ret (res_tmp rfl rfl))
def rCeil_e0 (a : Int) (b : Int) : Int := (bif (w64 ((rFloor a b) * b)) != a then (w64 ((rFloor a b) + 1)) else (rFloor a b))
def rCeil (a : Int) (b : Int) : Int := (rCeil_e0 a b)
set_option maxRecDepth 100000 in
theorem c_rCeil (a : Int) (b : Int) : Gets Try.prog 130 #[.int .i64 a, .int .i64 b] ((fun (r : Int) => (.int .i64 r : Value)) (rCeil a b)) := by
  refine gets_fin Try.func130 rfl rfl rfl ?_
  refine ac_seq ?_
  refine ac_region_lit ?_
  refine ao 4 rfl rfl (st_assign (v := .int .i64 0) rfl rfl ?_)
  refine ar_nil ?_
  refine ac_seq ?_
  refine ac_region_lit ?_
  refine ao 6 rfl rfl (st_move (v := .int .i64 a) rfl rfl ?_)
  refine ao 7 rfl rfl (st_move (v := .int .i64 b) rfl rfl ?_)
  refine ao 8 rfl rfl (st_cf (vs := [.int .i64 a, .int .i64 b]) (r := .int .i64 (rFloor a b)) (c_rFloor a b) Try.func128 rfl (by decide) rfl rfl rfl ?_)
  refine ao 5 rfl rfl (st_assign (v := .int .i64 (rFloor a b)) rfl rfl ?_)
  refine ar_nil ?_
  refine ac_seq ?_
  refine ac_seq ?_
  refine ac_region_lit ?_
  refine ao 9 rfl rfl (st_move (v := .int .i64 (rFloor a b)) rfl rfl ?_)
  refine ao 10 rfl rfl (st_move (v := .int .i64 b) rfl rfl ?_)
  refine ao 11 rfl rfl (st_bi (u := .int .i64 (rFloor a b)) (v := .int .i64 b) (r := .int .i64 (w64 ((rFloor a b) * b))) rfl rfl rfl (bi_mul rfl) ?_)
  refine ao 12 rfl rfl (st_move (v := .int .i64 a) rfl rfl ?_)
  refine ao 13 rfl rfl (st_bi (u := .int .i64 (w64 ((rFloor a b) * b))) (v := .int .i64 a) (r := .bool ((w64 ((rFloor a b) * b)) != a)) rfl rfl rfl (bi_neq rfl) ?_)
  refine ar_nil ?_
  refine ac_mergeE (fun E9 => (((Env.put E9 (some 14) (.int .i64 (rFloor a b))).put (some 15) (.int .i64 (w64 ((rFloor a b) + 1)))).put (some 5) (.int .i64 (w64 ((rFloor a b) + 1))))) (fun E9 => (((Env.put E9 (some 14) (bif (w64 ((rFloor a b) * b)) != a then (.int .i64 (rFloor a b) : Value) else E9 14)).put (some 15) (bif (w64 ((rFloor a b) * b)) != a then (.int .i64 (w64 ((rFloor a b) + 1)) : Value) else E9 15)).put (some 5) (.int .i64 (rCeil_e0 a b)))) (b := (w64 ((rFloor a b) * b)) != a) rfl (fun hm => ?_) (fun hm => ?_) (fun hm => ?_) ?_
  · refine ac_region_lit ?_
    refine ao 14 rfl rfl (st_move (v := .int .i64 (rFloor a b)) rfl rfl ?_)
    refine ao 15 rfl rfl (st_bi (u := .int .i64 (rFloor a b)) (v := .int .i64 1) (r := .int .i64 (w64 ((rFloor a b) + 1))) rfl rfl rfl (bi_add rfl) ?_)
    refine ao 5 rfl rfl (st_assign (v := .int .i64 (w64 ((rFloor a b) + 1))) rfl rfl ?_)
    refine ar_nil ?_
    exact ⟨rfl, rfl, rfl⟩
  · unfold rCeil_e0; rw [hm]; rfl
  · unfold rCeil_e0; rw [hm]; exact ((put_self rfl).trans ((put_self rfl).trans (put_self rfl)))
  refine ac_seq ?_
  refine ac_region_lit ?_
  refine ao 16 rfl rfl (st_move (v := .int .i64 (rCeil_e0 a b)) rfl rfl ?_)
  refine ao 4 rfl rfl (st_assign (v := .int .i64 (rCeil_e0 a b)) rfl rfl ?_)
  refine ar_nil ?_
  refine ac_ret ?_
  exact fin_eq (v := .int .i64 (rCeil_e0 a b)) rfl (fin_ret (res_tmp rfl rfl))
def rTold (n : Int) : Int × Bool := (bif rIn n then (n, true) else (0, false))
set_option maxRecDepth 100000 in
theorem c_rTold (n : Int) : Gets Try.prog 131 #[.int .i64 n] ((fun (r : Int × Bool) => (.tuple #[.int .i64 r.1, .bool r.2] : Value)) (rTold n)) := by
  refine gets_fin Try.func131 rfl rfl rfl ?_
  refine ac_seq ?_
  refine ac_region_lit ?_
  refine ao 2 rfl rfl (st_assign (v := .int .i64 0) rfl rfl ?_)
  refine ao 3 rfl rfl (st_assign (v := .bool false) rfl rfl ?_)
  refine ar_nil ?_
  refine ac_seq ?_
  refine ac_seq ?_
  refine ac_region_lit ?_
  refine ao 4 rfl rfl (st_move (v := .int .i64 n) rfl rfl ?_)
  refine ao 5 rfl rfl (st_cf (vs := [.int .i64 n]) (r := .bool (rIn n)) (c_rIn n) Try.func92 rfl (by decide) rfl rfl rfl ?_)
  refine ao 6 rfl rfl (st_un (u := .bool (rIn n)) (v := .bool (!(rIn n))) rfl rfl (un_not rfl) ?_)
  refine ar_nil ?_
  refine bool_split (rIn n) (fun h1 => ?_) (fun h1 => ?_)
  · refine ac_else' (b := !(rIn n)) (by rw [h1]; rfl) rfl ?_
    refine ac_skip ?_
    refine ac_seq ?_
    refine ac_region_lit ?_
    refine ao 7 rfl rfl (st_move (v := .int .i64 n) rfl rfl ?_)
    refine ao 2 rfl rfl (st_assign (v := .int .i64 n) rfl rfl ?_)
    refine ao 3 rfl rfl (st_assign (v := .bool true) rfl rfl ?_)
    refine ar_nil ?_
    refine ac_ret ?_
    exact fin_eq (v := .tuple #[.int .i64 n, .bool true]) (by show _ = (fun (r : Int × Bool) => (.tuple #[.int .i64 r.1, .bool r.2] : Value)) (rTold n); rw [rTold, h1] <;> rfl) (fin_ret (res_tt rfl rfl rfl))
  · refine ac_then' (b := !(rIn n)) (by rw [h1]; rfl) rfl ?_
    refine ac_seq ?_
    refine ac_region_lit ?_
    refine ao 2 rfl rfl (st_assign (v := .int .i64 0) rfl rfl ?_)
    refine ao 3 rfl rfl (st_assign (v := .bool false) rfl rfl ?_)
    refine ar_nil ?_
    refine ac_ret ?_
    exact fin_eq (v := .tuple #[.int .i64 0, .bool false]) (by show _ = (fun (r : Int × Bool) => (.tuple #[.int .i64 r.1, .bool r.2] : Value)) (rTold n); rw [rTold, h1] <;> rfl) (fin_ret (res_tt rfl rfl rfl))
def rMul (a : Int) (b : Int) (up : Bool) : Int × Bool := (bif rIn a then (bif rIn b then (bif up then ((rTold (rCeil (w64 (a * b)) 65536)).1, (rTold (rCeil (w64 (a * b)) 65536)).2) else ((rTold (rFloor (w64 (a * b)) 65536)).1, (rTold (rFloor (w64 (a * b)) 65536)).2)) else (0, false)) else (0, false))
set_option maxRecDepth 100000 in
theorem c_rMul (a : Int) (b : Int) (up : Bool) : Gets Try.prog 115 #[.int .i64 a, .int .i64 b, .bool up] ((fun (r : Int × Bool) => (.tuple #[.int .i64 r.1, .bool r.2] : Value)) (rMul a b up)) := by
  refine gets_fin Try.func115 rfl rfl rfl ?_
  refine ac_seq ?_
  refine ac_region_lit ?_
  refine ao 6 rfl rfl (st_assign (v := .int .i64 0) rfl rfl ?_)
  refine ao 7 rfl rfl (st_assign (v := .bool false) rfl rfl ?_)
  refine ar_nil ?_
  refine ac_seq ?_
  refine ac_seq ?_
  refine ac_region_lit ?_
  refine ao 8 rfl rfl (st_move (v := .int .i64 a) rfl rfl ?_)
  refine ao 9 rfl rfl (st_cf (vs := [.int .i64 a]) (r := .bool (rIn a)) (c_rIn a) Try.func92 rfl (by decide) rfl rfl rfl ?_)
  refine ao 10 rfl rfl (st_un (u := .bool (rIn a)) (v := .bool (!(rIn a))) rfl rfl (un_not rfl) ?_)
  refine ao 11 rfl rfl (st_move (v := .bool (!(rIn a))) rfl rfl ?_)
  refine bool_split (rIn a) (fun h1 => ?_) (fun h1 => ?_)
  · refine ar_gd (d := (some 12)) (by show ((!(rIn a)) == false) = true; rw [h1]; rfl) rfl (st_move (v := .int .i64 b) rfl rfl ?_)
    refine ar_gd (d := (some 13)) (by show ((!(rIn a)) == false) = true; rw [h1]; rfl) rfl (st_cf (vs := [.int .i64 b]) (r := .bool (rIn b)) (c_rIn b) Try.func92 rfl (by decide) rfl rfl rfl ?_)
    refine ar_gd (d := (some 14)) (by show ((!(rIn a)) == false) = true; rw [h1]; rfl) rfl (st_un (u := .bool (rIn b)) (v := .bool (!(rIn b))) rfl rfl (un_not rfl) ?_)
    refine ao 15 rfl rfl (st_pkf' (b := !(rIn a)) (v := .bool (!(rIn b))) (by rw [h1]; rfl) rfl rfl rfl ?_)
    refine ar_nil ?_
    refine bool_split (rIn b) (fun h2 => ?_) (fun h2 => ?_)
    · refine ac_else' (b := !(rIn b)) (by rw [h2]; rfl) rfl ?_
      refine ac_skip ?_
      refine ac_seq ?_
      refine ac_seq ?_
      refine ac_region_lit ?_
      refine ao 16 rfl rfl (st_move (v := .bool up) rfl rfl ?_)
      refine ar_nil ?_
      refine bool_split (up) (fun h3 => ?_) (fun h3 => ?_)
      · refine ac_then' (b := up) h3 rfl ?_
        refine ac_seq ?_
        refine ac_region_lit ?_
        refine ao 17 rfl rfl (st_move (v := .int .i64 a) rfl rfl ?_)
        refine ao 18 rfl rfl (st_move (v := .int .i64 b) rfl rfl ?_)
        refine ao 19 rfl rfl (st_bi (u := .int .i64 a) (v := .int .i64 b) (r := .int .i64 (w64 (a * b))) rfl rfl rfl (bi_mul rfl) ?_)
        refine ao 20 rfl rfl (st_cf (vs := [.int .i64 (w64 (a * b)), .int .i64 65536]) (r := .int .i64 (rCeil (w64 (a * b)) 65536)) (c_rCeil (w64 (a * b)) 65536) Try.func130 rfl (by decide) rfl rfl rfl ?_)
        refine ao 21 rfl rfl (st_cf (vs := [.int .i64 (rCeil (w64 (a * b)) 65536)]) (r := .tuple #[.int .i64 ((rTold (rCeil (w64 (a * b)) 65536)).1), .bool ((rTold (rCeil (w64 (a * b)) 65536)).2)]) (c_rTold (rCeil (w64 (a * b)) 65536)) Try.func131 rfl (by decide) rfl rfl rfl ?_)
        refine ao 22 rfl rfl (st_ex (vs := [.int .i64 ((rTold (rCeil (w64 (a * b)) 65536)).1), .bool ((rTold (rCeil (w64 (a * b)) 65536)).2)]) (v := .int .i64 ((rTold (rCeil (w64 (a * b)) 65536)).1)) rfl rfl rfl ?_)
        refine ao 23 rfl rfl (st_ex (vs := [.int .i64 ((rTold (rCeil (w64 (a * b)) 65536)).1), .bool ((rTold (rCeil (w64 (a * b)) 65536)).2)]) (v := .bool ((rTold (rCeil (w64 (a * b)) 65536)).2)) rfl rfl rfl ?_)
        refine ao 6 rfl rfl (st_assign (v := .int .i64 ((rTold (rCeil (w64 (a * b)) 65536)).1)) rfl rfl ?_)
        refine ao 7 rfl rfl (st_assign (v := .bool ((rTold (rCeil (w64 (a * b)) 65536)).2)) rfl rfl ?_)
        refine ar_nil ?_
        refine ac_ret ?_
        exact fin_eq (v := .tuple #[.int .i64 ((rTold (rCeil (w64 (a * b)) 65536)).1), .bool ((rTold (rCeil (w64 (a * b)) 65536)).2)]) (by show _ = (fun (r : Int × Bool) => (.tuple #[.int .i64 r.1, .bool r.2] : Value)) (rMul a b up); rw [rMul, h3, h2, h1] <;> rfl) (fin_ret (res_tt rfl rfl rfl))
      · refine ac_else' (b := up) h3 rfl ?_
        refine ac_skip ?_
        refine ac_seq ?_
        refine ac_region_lit ?_
        refine ao 24 rfl rfl (st_move (v := .int .i64 a) rfl rfl ?_)
        refine ao 25 rfl rfl (st_move (v := .int .i64 b) rfl rfl ?_)
        refine ao 26 rfl rfl (st_bi (u := .int .i64 a) (v := .int .i64 b) (r := .int .i64 (w64 (a * b))) rfl rfl rfl (bi_mul rfl) ?_)
        refine ao 27 rfl rfl (st_cf (vs := [.int .i64 (w64 (a * b)), .int .i64 65536]) (r := .int .i64 (rFloor (w64 (a * b)) 65536)) (c_rFloor (w64 (a * b)) 65536) Try.func128 rfl (by decide) rfl rfl rfl ?_)
        refine ao 28 rfl rfl (st_cf (vs := [.int .i64 (rFloor (w64 (a * b)) 65536)]) (r := .tuple #[.int .i64 ((rTold (rFloor (w64 (a * b)) 65536)).1), .bool ((rTold (rFloor (w64 (a * b)) 65536)).2)]) (c_rTold (rFloor (w64 (a * b)) 65536)) Try.func131 rfl (by decide) rfl rfl rfl ?_)
        refine ao 29 rfl rfl (st_ex (vs := [.int .i64 ((rTold (rFloor (w64 (a * b)) 65536)).1), .bool ((rTold (rFloor (w64 (a * b)) 65536)).2)]) (v := .int .i64 ((rTold (rFloor (w64 (a * b)) 65536)).1)) rfl rfl rfl ?_)
        refine ao 30 rfl rfl (st_ex (vs := [.int .i64 ((rTold (rFloor (w64 (a * b)) 65536)).1), .bool ((rTold (rFloor (w64 (a * b)) 65536)).2)]) (v := .bool ((rTold (rFloor (w64 (a * b)) 65536)).2)) rfl rfl rfl ?_)
        refine ao 6 rfl rfl (st_assign (v := .int .i64 ((rTold (rFloor (w64 (a * b)) 65536)).1)) rfl rfl ?_)
        refine ao 7 rfl rfl (st_assign (v := .bool ((rTold (rFloor (w64 (a * b)) 65536)).2)) rfl rfl ?_)
        refine ar_nil ?_
        refine ac_ret ?_
        exact fin_eq (v := .tuple #[.int .i64 ((rTold (rFloor (w64 (a * b)) 65536)).1), .bool ((rTold (rFloor (w64 (a * b)) 65536)).2)]) (by show _ = (fun (r : Int × Bool) => (.tuple #[.int .i64 r.1, .bool r.2] : Value)) (rMul a b up); rw [rMul, h3, h2, h1] <;> rfl) (fin_ret (res_tt rfl rfl rfl))
    · refine ac_then' (b := !(rIn b)) (by rw [h2]; rfl) rfl ?_
      refine ac_seq ?_
      refine ac_region_lit ?_
      refine ao 6 rfl rfl (st_assign (v := .int .i64 0) rfl rfl ?_)
      refine ao 7 rfl rfl (st_assign (v := .bool false) rfl rfl ?_)
      refine ar_nil ?_
      refine ac_ret ?_
      exact fin_eq (v := .tuple #[.int .i64 0, .bool false]) (by show _ = (fun (r : Int × Bool) => (.tuple #[.int .i64 r.1, .bool r.2] : Value)) (rMul a b up); rw [rMul, h2, h1] <;> rfl) (fin_ret (res_tt rfl rfl rfl))
  · refine ar_sk (d := (some 12)) (by show ((!(rIn a)) == false) = false; rw [h1]; rfl) rfl ?_
    refine ar_sk (d := (some 13)) (by show ((!(rIn a)) == false) = false; rw [h1]; rfl) rfl ?_
    refine ar_sk (d := (some 14)) (by show ((!(rIn a)) == false) = false; rw [h1]; rfl) rfl ?_
    refine ao 15 rfl rfl (st_pkt' (b := !(rIn a)) (v := .bool true) (by rw [h1]; rfl) rfl rfl rfl ?_)
    refine ar_nil ?_
    refine ac_then rfl ?_
    refine ac_seq ?_
    refine ac_region_lit ?_
    refine ao 6 rfl rfl (st_assign (v := .int .i64 0) rfl rfl ?_)
    refine ao 7 rfl rfl (st_assign (v := .bool false) rfl rfl ?_)
    refine ar_nil ?_
    refine ac_ret ?_
    exact fin_eq (v := .tuple #[.int .i64 0, .bool false]) (by show _ = (fun (r : Int × Bool) => (.tuple #[.int .i64 r.1, .bool r.2] : Value)) (rMul a b up); rw [rMul, h1] <;> rfl) (fin_ret (res_tt rfl rfl rfl))
def rDiv (a : Int) (b : Int) (up : Bool) : Int × Bool := (bif rIn a then (bif rIn b then (bif b == 0 then (0, false) else (bif up then ((rTold (rCeil (w64 (a * 65536)) b)).1, (rTold (rCeil (w64 (a * 65536)) b)).2) else ((rTold (rFloor (w64 (a * 65536)) b)).1, (rTold (rFloor (w64 (a * 65536)) b)).2))) else (0, false)) else (0, false))
set_option maxRecDepth 100000 in
theorem c_rDiv (a : Int) (b : Int) (up : Bool) : Gets Try.prog 132 #[.int .i64 a, .int .i64 b, .bool up] ((fun (r : Int × Bool) => (.tuple #[.int .i64 r.1, .bool r.2] : Value)) (rDiv a b up)) := by
  refine gets_fin Try.func132 rfl rfl rfl ?_
  refine ac_seq ?_
  refine ac_region_lit ?_
  refine ao 6 rfl rfl (st_assign (v := .int .i64 0) rfl rfl ?_)
  refine ao 7 rfl rfl (st_assign (v := .bool false) rfl rfl ?_)
  refine ar_nil ?_
  refine ac_seq ?_
  refine ac_seq ?_
  refine ac_region_lit ?_
  refine ao 8 rfl rfl (st_move (v := .int .i64 a) rfl rfl ?_)
  refine ao 9 rfl rfl (st_cf (vs := [.int .i64 a]) (r := .bool (rIn a)) (c_rIn a) Try.func92 rfl (by decide) rfl rfl rfl ?_)
  refine ao 10 rfl rfl (st_un (u := .bool (rIn a)) (v := .bool (!(rIn a))) rfl rfl (un_not rfl) ?_)
  refine ao 11 rfl rfl (st_move (v := .bool (!(rIn a))) rfl rfl ?_)
  refine bool_split (rIn a) (fun h1 => ?_) (fun h1 => ?_)
  · refine ar_gd (d := (some 12)) (by show ((!(rIn a)) == false) = true; rw [h1]; rfl) rfl (st_move (v := .int .i64 b) rfl rfl ?_)
    refine ar_gd (d := (some 13)) (by show ((!(rIn a)) == false) = true; rw [h1]; rfl) rfl (st_cf (vs := [.int .i64 b]) (r := .bool (rIn b)) (c_rIn b) Try.func92 rfl (by decide) rfl rfl rfl ?_)
    refine ar_gd (d := (some 14)) (by show ((!(rIn a)) == false) = true; rw [h1]; rfl) rfl (st_un (u := .bool (rIn b)) (v := .bool (!(rIn b))) rfl rfl (un_not rfl) ?_)
    refine ao 15 rfl rfl (st_pkf' (b := !(rIn a)) (v := .bool (!(rIn b))) (by rw [h1]; rfl) rfl rfl rfl ?_)
    refine ao 16 rfl rfl (st_move (v := .bool (!(rIn b))) rfl rfl ?_)
    refine bool_split (rIn b) (fun h2 => ?_) (fun h2 => ?_)
    · refine ar_gd (d := (some 17)) (by show ((!(rIn b)) == false) = true; rw [h2]; rfl) rfl (st_move (v := .int .i64 b) rfl rfl ?_)
      refine ar_gd (d := (some 18)) (by show ((!(rIn b)) == false) = true; rw [h2]; rfl) rfl (st_bi (u := .int .i64 b) (v := .int .i64 0) (r := .bool (b == 0)) rfl rfl rfl (bi_eql rfl) ?_)
      refine ao 19 rfl rfl (st_pkf' (b := !(rIn b)) (v := .bool (b == 0)) (by rw [h2]; rfl) rfl rfl rfl ?_)
      refine ar_nil ?_
      refine bool_split (b == 0) (fun h3 => ?_) (fun h3 => ?_)
      · refine ac_then' (b := b == 0) h3 rfl ?_
        refine ac_seq ?_
        refine ac_region_lit ?_
        refine ao 6 rfl rfl (st_assign (v := .int .i64 0) rfl rfl ?_)
        refine ao 7 rfl rfl (st_assign (v := .bool false) rfl rfl ?_)
        refine ar_nil ?_
        refine ac_ret ?_
        exact fin_eq (v := .tuple #[.int .i64 0, .bool false]) (by show _ = (fun (r : Int × Bool) => (.tuple #[.int .i64 r.1, .bool r.2] : Value)) (rDiv a b up); rw [rDiv, h3, h2, h1] <;> rfl) (fin_ret (res_tt rfl rfl rfl))
      · refine ac_else' (b := b == 0) h3 rfl ?_
        refine ac_skip ?_
        refine ac_seq ?_
        refine ac_seq ?_
        refine ac_region_lit ?_
        refine ao 20 rfl rfl (st_move (v := .bool up) rfl rfl ?_)
        refine ar_nil ?_
        refine bool_split (up) (fun h4 => ?_) (fun h4 => ?_)
        · refine ac_then' (b := up) h4 rfl ?_
          refine ac_seq ?_
          refine ac_region_lit ?_
          refine ao 21 rfl rfl (st_move (v := .int .i64 a) rfl rfl ?_)
          refine ao 22 rfl rfl (st_bi (u := .int .i64 a) (v := .int .i64 65536) (r := .int .i64 (w64 (a * 65536))) rfl rfl rfl (bi_mul rfl) ?_)
          refine ao 23 rfl rfl (st_move (v := .int .i64 b) rfl rfl ?_)
          refine ao 24 rfl rfl (st_cf (vs := [.int .i64 (w64 (a * 65536)), .int .i64 b]) (r := .int .i64 (rCeil (w64 (a * 65536)) b)) (c_rCeil (w64 (a * 65536)) b) Try.func130 rfl (by decide) rfl rfl rfl ?_)
          refine ao 25 rfl rfl (st_cf (vs := [.int .i64 (rCeil (w64 (a * 65536)) b)]) (r := .tuple #[.int .i64 ((rTold (rCeil (w64 (a * 65536)) b)).1), .bool ((rTold (rCeil (w64 (a * 65536)) b)).2)]) (c_rTold (rCeil (w64 (a * 65536)) b)) Try.func131 rfl (by decide) rfl rfl rfl ?_)
          refine ao 26 rfl rfl (st_ex (vs := [.int .i64 ((rTold (rCeil (w64 (a * 65536)) b)).1), .bool ((rTold (rCeil (w64 (a * 65536)) b)).2)]) (v := .int .i64 ((rTold (rCeil (w64 (a * 65536)) b)).1)) rfl rfl rfl ?_)
          refine ao 27 rfl rfl (st_ex (vs := [.int .i64 ((rTold (rCeil (w64 (a * 65536)) b)).1), .bool ((rTold (rCeil (w64 (a * 65536)) b)).2)]) (v := .bool ((rTold (rCeil (w64 (a * 65536)) b)).2)) rfl rfl rfl ?_)
          refine ao 6 rfl rfl (st_assign (v := .int .i64 ((rTold (rCeil (w64 (a * 65536)) b)).1)) rfl rfl ?_)
          refine ao 7 rfl rfl (st_assign (v := .bool ((rTold (rCeil (w64 (a * 65536)) b)).2)) rfl rfl ?_)
          refine ar_nil ?_
          refine ac_ret ?_
          exact fin_eq (v := .tuple #[.int .i64 ((rTold (rCeil (w64 (a * 65536)) b)).1), .bool ((rTold (rCeil (w64 (a * 65536)) b)).2)]) (by show _ = (fun (r : Int × Bool) => (.tuple #[.int .i64 r.1, .bool r.2] : Value)) (rDiv a b up); rw [rDiv, h4, h3, h2, h1] <;> rfl) (fin_ret (res_tt rfl rfl rfl))
        · refine ac_else' (b := up) h4 rfl ?_
          refine ac_skip ?_
          refine ac_seq ?_
          refine ac_region_lit ?_
          refine ao 28 rfl rfl (st_move (v := .int .i64 a) rfl rfl ?_)
          refine ao 29 rfl rfl (st_bi (u := .int .i64 a) (v := .int .i64 65536) (r := .int .i64 (w64 (a * 65536))) rfl rfl rfl (bi_mul rfl) ?_)
          refine ao 30 rfl rfl (st_move (v := .int .i64 b) rfl rfl ?_)
          refine ao 31 rfl rfl (st_cf (vs := [.int .i64 (w64 (a * 65536)), .int .i64 b]) (r := .int .i64 (rFloor (w64 (a * 65536)) b)) (c_rFloor (w64 (a * 65536)) b) Try.func128 rfl (by decide) rfl rfl rfl ?_)
          refine ao 32 rfl rfl (st_cf (vs := [.int .i64 (rFloor (w64 (a * 65536)) b)]) (r := .tuple #[.int .i64 ((rTold (rFloor (w64 (a * 65536)) b)).1), .bool ((rTold (rFloor (w64 (a * 65536)) b)).2)]) (c_rTold (rFloor (w64 (a * 65536)) b)) Try.func131 rfl (by decide) rfl rfl rfl ?_)
          refine ao 33 rfl rfl (st_ex (vs := [.int .i64 ((rTold (rFloor (w64 (a * 65536)) b)).1), .bool ((rTold (rFloor (w64 (a * 65536)) b)).2)]) (v := .int .i64 ((rTold (rFloor (w64 (a * 65536)) b)).1)) rfl rfl rfl ?_)
          refine ao 34 rfl rfl (st_ex (vs := [.int .i64 ((rTold (rFloor (w64 (a * 65536)) b)).1), .bool ((rTold (rFloor (w64 (a * 65536)) b)).2)]) (v := .bool ((rTold (rFloor (w64 (a * 65536)) b)).2)) rfl rfl rfl ?_)
          refine ao 6 rfl rfl (st_assign (v := .int .i64 ((rTold (rFloor (w64 (a * 65536)) b)).1)) rfl rfl ?_)
          refine ao 7 rfl rfl (st_assign (v := .bool ((rTold (rFloor (w64 (a * 65536)) b)).2)) rfl rfl ?_)
          refine ar_nil ?_
          refine ac_ret ?_
          exact fin_eq (v := .tuple #[.int .i64 ((rTold (rFloor (w64 (a * 65536)) b)).1), .bool ((rTold (rFloor (w64 (a * 65536)) b)).2)]) (by show _ = (fun (r : Int × Bool) => (.tuple #[.int .i64 r.1, .bool r.2] : Value)) (rDiv a b up); rw [rDiv, h4, h3, h2, h1] <;> rfl) (fin_ret (res_tt rfl rfl rfl))
    · refine ar_sk (d := (some 17)) (by show ((!(rIn b)) == false) = false; rw [h2]; rfl) rfl ?_
      refine ar_sk (d := (some 18)) (by show ((!(rIn b)) == false) = false; rw [h2]; rfl) rfl ?_
      refine ao 19 rfl rfl (st_pkt' (b := !(rIn b)) (v := .bool true) (by rw [h2]; rfl) rfl rfl rfl ?_)
      refine ar_nil ?_
      refine ac_then rfl ?_
      refine ac_seq ?_
      refine ac_region_lit ?_
      refine ao 6 rfl rfl (st_assign (v := .int .i64 0) rfl rfl ?_)
      refine ao 7 rfl rfl (st_assign (v := .bool false) rfl rfl ?_)
      refine ar_nil ?_
      refine ac_ret ?_
      exact fin_eq (v := .tuple #[.int .i64 0, .bool false]) (by show _ = (fun (r : Int × Bool) => (.tuple #[.int .i64 r.1, .bool r.2] : Value)) (rDiv a b up); rw [rDiv, h2, h1] <;> rfl) (fin_ret (res_tt rfl rfl rfl))
  · refine ar_sk (d := (some 12)) (by show ((!(rIn a)) == false) = false; rw [h1]; rfl) rfl ?_
    refine ar_sk (d := (some 13)) (by show ((!(rIn a)) == false) = false; rw [h1]; rfl) rfl ?_
    refine ar_sk (d := (some 14)) (by show ((!(rIn a)) == false) = false; rw [h1]; rfl) rfl ?_
    refine ao 15 rfl rfl (st_pkt' (b := !(rIn a)) (v := .bool true) (by rw [h1]; rfl) rfl rfl rfl ?_)
    refine ao 16 rfl rfl (st_move (v := .bool true) rfl rfl ?_)
    refine ar_sk (d := (some 17)) rfl rfl ?_
    refine ar_sk (d := (some 18)) rfl rfl ?_
    refine ao 19 rfl rfl (st_pkt (v := .bool true) rfl rfl rfl ?_)
    refine ar_nil ?_
    refine ac_then rfl ?_
    refine ac_seq ?_
    refine ac_region_lit ?_
    refine ao 6 rfl rfl (st_assign (v := .int .i64 0) rfl rfl ?_)
    refine ao 7 rfl rfl (st_assign (v := .bool false) rfl rfl ?_)
    refine ar_nil ?_
    refine ac_ret ?_
    exact fin_eq (v := .tuple #[.int .i64 0, .bool false]) (by show _ = (fun (r : Int × Bool) => (.tuple #[.int .i64 r.1, .bool r.2] : Value)) (rDiv a b up); rw [rDiv, h1] <;> rfl) (fin_ret (res_tt rfl rfl rfl))
end Go.Proofs.Ythngkopcadlciaa
namespace Go.Proofs.Ythngkopcadlciaa
open Go.RowKit
attribute [local irreducible] AC AR DWalk
def rRootLoop (n : Int) : Nat → Int → Int
  | 0, r => r
  | j + 1, r => bif decide ((w64 ((w64 (r + (w64 (1 * 2 ^ (min (Int.toNat (IntKind.u64.wrap (j : Int))) 64))))) * (w64 (r + (w64 (1 * 2 ^ (min (Int.toNat (IntKind.u64.wrap (j : Int))) 64))))))) ≤ n) then rRootLoop n j (w64 (r + (w64 (1 * 2 ^ (min (Int.toNat (IntKind.u64.wrap (j : Int))) 64))))) else rRootLoop n j r
set_option maxRecDepth 100000 in
theorem c_rRoot_loop (n : Int) (up : Bool) {Q : Exit → Env → List Box → Prop} {H : List Box} {c : Code} (hc : Try.f113.body.bind loopOf = some c) : ∀ (j : Nat) (r k : Int) (E : Env), j ≤ 64 → k = (j : Int) - 1 → E 1 = .bool up → E 6 = .int .i64 n → E 7 = .int .i64 r → E 8 = .int .i64 k →
    (∀ E' : Env, E' 1 = .bool up → E' 6 = .int .i64 n → E' 7 = .int .i64 (rRootLoop n j r) → Q (.exit 0) E' H) → ARounds Try.prog 48 c Q (j + 1) E H := by
  rw [show Try.f113.body.bind loopOf = some _ from rfl] at hc
  cases hc
  intro j
  induction j with
  | zero =>
    intro r k E hj hk h1 h6 h7 h8 hn
    obtain rfl : k = -1 := by omega
    obtain ⟨E0, rfl⟩ := env4 h1 h6 h7 h8
    refine ar_round ?_
    refine ac_seq ?_
    refine ac_seq ?_
    refine ac_region_lit ?_
    refine ao 19 rfl rfl (st_move (v := .int .i64 (-1)) rfl rfl ?_)
    refine ao 20 rfl rfl (st_bi (u := .int .i64 (-1)) (v := .int .i64 0) (r := .bool false) rfl rfl rfl (bi_geq (by decide)) ?_)
    refine ar_nil ?_
    refine ac_else rfl ?_
    refine ac_exit ?_
    exact hn _ rfl rfl rfl
  | succ j ih =>
    intro r k E hj hk h1 h6 h7 h8 hn
    obtain rfl : k = (j : Int) := by omega
    obtain ⟨E0, rfl⟩ := env4 h1 h6 h7 h8
    have h0 : decide ((j : Int) ≥ 0) = true := decide_eq_true (by omega)
    refine ar_round ?_
    cases h9 : decide ((w64 ((w64 (r + (w64 (1 * 2 ^ (min (Int.toNat (IntKind.u64.wrap (j : Int))) 64))))) * (w64 (r + (w64 (1 * 2 ^ (min (Int.toNat (IntKind.u64.wrap (j : Int))) 64))))))) ≤ n) with
    | false =>
      refine ac_seq ?_
      refine ac_seq ?_
      refine ac_region_lit ?_
      refine ao 19 rfl rfl (st_move (v := .int .i64 (j : Int)) rfl rfl ?_)
      refine ao 20 rfl rfl (st_bi (u := .int .i64 (j : Int)) (v := .int .i64 0) (r := .bool (decide ((j : Int) ≥ 0))) rfl rfl rfl (bi_geq rfl) ?_)
      refine ar_nil ?_
      refine ac_then' (b := decide ((j : Int) ≥ 0)) h0 rfl ?_
      refine ac_skip ?_
      refine ac_seq ?_
      refine ac_block ?_
      refine ac_seq ?_
      refine ac_region_lit ?_
      refine ao 23 rfl rfl (st_move (v := .int .i64 r) rfl rfl ?_)
      refine ao 24 rfl rfl (st_move (v := .int .i64 (j : Int)) rfl rfl ?_)
      refine ao 25 rfl rfl (st_cv_int (k := .u64) (a := (j : Int)) (c := (IntKind.u64.wrap (j : Int))) Try.underlying144 Try.underlying3 rfl rfl rfl ?_)
      refine ao 26 rfl rfl (st_bi (u := .int .i64 1) (v := .int .u64 (IntKind.u64.wrap (j : Int))) (r := .int .i64 (w64 (1 * 2 ^ (min (Int.toNat (IntKind.u64.wrap (j : Int))) 64)))) rfl rfl rfl (bi_shl rfl (by rw [IntKind.wrap_u64]; omega)) ?_)
      refine ao 27 rfl rfl (st_bi (u := .int .i64 r) (v := .int .i64 (w64 (1 * 2 ^ (min (Int.toNat (IntKind.u64.wrap (j : Int))) 64)))) (r := .int .i64 (w64 (r + (w64 (1 * 2 ^ (min (Int.toNat (IntKind.u64.wrap (j : Int))) 64)))))) rfl rfl rfl (bi_add rfl) ?_)
      refine ao 9 rfl rfl (st_assign (v := .int .i64 (w64 (r + (w64 (1 * 2 ^ (min (Int.toNat (IntKind.u64.wrap (j : Int))) 64)))))) rfl rfl ?_)
      refine ar_nil ?_
      refine ac_seq ?_
      refine ac_region_lit ?_
      refine ao 28 rfl rfl (st_move (v := .int .i64 (w64 (r + (w64 (1 * 2 ^ (min (Int.toNat (IntKind.u64.wrap (j : Int))) 64)))))) rfl rfl ?_)
      refine ao 29 rfl rfl (st_move (v := .int .i64 (w64 (r + (w64 (1 * 2 ^ (min (Int.toNat (IntKind.u64.wrap (j : Int))) 64)))))) rfl rfl ?_)
      refine ao 30 rfl rfl (st_bi (u := .int .i64 (w64 (r + (w64 (1 * 2 ^ (min (Int.toNat (IntKind.u64.wrap (j : Int))) 64)))))) (v := .int .i64 (w64 (r + (w64 (1 * 2 ^ (min (Int.toNat (IntKind.u64.wrap (j : Int))) 64)))))) (r := .int .i64 (w64 ((w64 (r + (w64 (1 * 2 ^ (min (Int.toNat (IntKind.u64.wrap (j : Int))) 64))))) * (w64 (r + (w64 (1 * 2 ^ (min (Int.toNat (IntKind.u64.wrap (j : Int))) 64)))))))) rfl rfl rfl (bi_mul rfl) ?_)
      refine ao 31 rfl rfl (st_move (v := .int .i64 n) rfl rfl ?_)
      refine ao 32 rfl rfl (st_bi (u := .int .i64 (w64 ((w64 (r + (w64 (1 * 2 ^ (min (Int.toNat (IntKind.u64.wrap (j : Int))) 64))))) * (w64 (r + (w64 (1 * 2 ^ (min (Int.toNat (IntKind.u64.wrap (j : Int))) 64)))))))) (v := .int .i64 n) (r := .bool (decide ((w64 ((w64 (r + (w64 (1 * 2 ^ (min (Int.toNat (IntKind.u64.wrap (j : Int))) 64))))) * (w64 (r + (w64 (1 * 2 ^ (min (Int.toNat (IntKind.u64.wrap (j : Int))) 64))))))) ≤ n))) rfl rfl rfl (bi_leq rfl) ?_)
      refine ar_nil ?_
      refine ac_else' (b := decide ((w64 ((w64 (r + (w64 (1 * 2 ^ (min (Int.toNat (IntKind.u64.wrap (j : Int))) 64))))) * (w64 (r + (w64 (1 * 2 ^ (min (Int.toNat (IntKind.u64.wrap (j : Int))) 64))))))) ≤ n)) h9 rfl ?_
      refine ac_skip ?_
      refine ac_region_lit ?_
      refine ao 21 rfl rfl (st_move (v := .int .i64 (j : Int)) rfl rfl ?_)
      refine ao 22 rfl rfl (st_bi (u := .int .i64 (j : Int)) (v := .int .i64 1) (r := .int .i64 (w64 ((j : Int) - 1))) rfl rfl rfl (bi_sub rfl) ?_)
      refine ao 8 rfl rfl (st_assign (v := .int .i64 (w64 ((j : Int) - 1))) rfl rfl ?_)
      refine ar_nil ?_
      refine ih _ _ _ (by omega) (w64_id (by omega)) rfl rfl rfl rfl (fun E' a b c => hn E' a b ?_)
      rw [c, rRootLoop, h9]; rfl
    | true =>
      refine ac_seq ?_
      refine ac_seq ?_
      refine ac_region_lit ?_
      refine ao 19 rfl rfl (st_move (v := .int .i64 (j : Int)) rfl rfl ?_)
      refine ao 20 rfl rfl (st_bi (u := .int .i64 (j : Int)) (v := .int .i64 0) (r := .bool (decide ((j : Int) ≥ 0))) rfl rfl rfl (bi_geq rfl) ?_)
      refine ar_nil ?_
      refine ac_then' (b := decide ((j : Int) ≥ 0)) h0 rfl ?_
      refine ac_skip ?_
      refine ac_seq ?_
      refine ac_block ?_
      refine ac_seq ?_
      refine ac_region_lit ?_
      refine ao 23 rfl rfl (st_move (v := .int .i64 r) rfl rfl ?_)
      refine ao 24 rfl rfl (st_move (v := .int .i64 (j : Int)) rfl rfl ?_)
      refine ao 25 rfl rfl (st_cv_int (k := .u64) (a := (j : Int)) (c := (IntKind.u64.wrap (j : Int))) Try.underlying144 Try.underlying3 rfl rfl rfl ?_)
      refine ao 26 rfl rfl (st_bi (u := .int .i64 1) (v := .int .u64 (IntKind.u64.wrap (j : Int))) (r := .int .i64 (w64 (1 * 2 ^ (min (Int.toNat (IntKind.u64.wrap (j : Int))) 64)))) rfl rfl rfl (bi_shl rfl (by rw [IntKind.wrap_u64]; omega)) ?_)
      refine ao 27 rfl rfl (st_bi (u := .int .i64 r) (v := .int .i64 (w64 (1 * 2 ^ (min (Int.toNat (IntKind.u64.wrap (j : Int))) 64)))) (r := .int .i64 (w64 (r + (w64 (1 * 2 ^ (min (Int.toNat (IntKind.u64.wrap (j : Int))) 64)))))) rfl rfl rfl (bi_add rfl) ?_)
      refine ao 9 rfl rfl (st_assign (v := .int .i64 (w64 (r + (w64 (1 * 2 ^ (min (Int.toNat (IntKind.u64.wrap (j : Int))) 64)))))) rfl rfl ?_)
      refine ar_nil ?_
      refine ac_seq ?_
      refine ac_region_lit ?_
      refine ao 28 rfl rfl (st_move (v := .int .i64 (w64 (r + (w64 (1 * 2 ^ (min (Int.toNat (IntKind.u64.wrap (j : Int))) 64)))))) rfl rfl ?_)
      refine ao 29 rfl rfl (st_move (v := .int .i64 (w64 (r + (w64 (1 * 2 ^ (min (Int.toNat (IntKind.u64.wrap (j : Int))) 64)))))) rfl rfl ?_)
      refine ao 30 rfl rfl (st_bi (u := .int .i64 (w64 (r + (w64 (1 * 2 ^ (min (Int.toNat (IntKind.u64.wrap (j : Int))) 64)))))) (v := .int .i64 (w64 (r + (w64 (1 * 2 ^ (min (Int.toNat (IntKind.u64.wrap (j : Int))) 64)))))) (r := .int .i64 (w64 ((w64 (r + (w64 (1 * 2 ^ (min (Int.toNat (IntKind.u64.wrap (j : Int))) 64))))) * (w64 (r + (w64 (1 * 2 ^ (min (Int.toNat (IntKind.u64.wrap (j : Int))) 64)))))))) rfl rfl rfl (bi_mul rfl) ?_)
      refine ao 31 rfl rfl (st_move (v := .int .i64 n) rfl rfl ?_)
      refine ao 32 rfl rfl (st_bi (u := .int .i64 (w64 ((w64 (r + (w64 (1 * 2 ^ (min (Int.toNat (IntKind.u64.wrap (j : Int))) 64))))) * (w64 (r + (w64 (1 * 2 ^ (min (Int.toNat (IntKind.u64.wrap (j : Int))) 64)))))))) (v := .int .i64 n) (r := .bool (decide ((w64 ((w64 (r + (w64 (1 * 2 ^ (min (Int.toNat (IntKind.u64.wrap (j : Int))) 64))))) * (w64 (r + (w64 (1 * 2 ^ (min (Int.toNat (IntKind.u64.wrap (j : Int))) 64))))))) ≤ n))) rfl rfl rfl (bi_leq rfl) ?_)
      refine ar_nil ?_
      refine ac_then' (b := decide ((w64 ((w64 (r + (w64 (1 * 2 ^ (min (Int.toNat (IntKind.u64.wrap (j : Int))) 64))))) * (w64 (r + (w64 (1 * 2 ^ (min (Int.toNat (IntKind.u64.wrap (j : Int))) 64))))))) ≤ n)) h9 rfl ?_
      refine ac_region_lit ?_
      refine ao 33 rfl rfl (st_move (v := .int .i64 (w64 (r + (w64 (1 * 2 ^ (min (Int.toNat (IntKind.u64.wrap (j : Int))) 64)))))) rfl rfl ?_)
      refine ao 7 rfl rfl (st_assign (v := .int .i64 (w64 (r + (w64 (1 * 2 ^ (min (Int.toNat (IntKind.u64.wrap (j : Int))) 64)))))) rfl rfl ?_)
      refine ar_nil ?_
      refine ac_region_lit ?_
      refine ao 21 rfl rfl (st_move (v := .int .i64 (j : Int)) rfl rfl ?_)
      refine ao 22 rfl rfl (st_bi (u := .int .i64 (j : Int)) (v := .int .i64 1) (r := .int .i64 (w64 ((j : Int) - 1))) rfl rfl rfl (bi_sub rfl) ?_)
      refine ao 8 rfl rfl (st_assign (v := .int .i64 (w64 ((j : Int) - 1))) rfl rfl ?_)
      refine ar_nil ?_
      refine ih _ _ _ (by omega) (w64_id (by omega)) rfl rfl rfl rfl (fun E' a b c => hn E' a b ?_)
      rw [c, rRootLoop, h9]; rfl
def rRoot_e0 (a : Int) (up : Bool) : Int := (bif (w64 ((rRootLoop (w64 (a * 65536)) 24 0) * (rRootLoop (w64 (a * 65536)) 24 0))) != (w64 (a * 65536)) then (w64 ((rRootLoop (w64 (a * 65536)) 24 0) + 1)) else (rRootLoop (w64 (a * 65536)) 24 0))
def rRoot (a : Int) (up : Bool) : Int × Bool := (bif rIn a then (bif decide (a < 0) then (0, false) else (bif up then ((rTold (rRoot_e0 a up)).1, (rTold (rRoot_e0 a up)).2) else ((rTold (rRootLoop (w64 (a * 65536)) 24 0)).1, (rTold (rRootLoop (w64 (a * 65536)) 24 0)).2))) else (0, false))
set_option maxRecDepth 100000 in
theorem c_rRoot (a : Int) (up : Bool) : Gets Try.prog 113 #[.int .i64 a, .bool up] ((fun (r : Int × Bool) => (.tuple #[.int .i64 r.1, .bool r.2] : Value)) (rRoot a up)) := by
  refine gets_fin Try.func113 rfl rfl rfl ?_
  refine ac_seq ?_
  refine ac_region_lit ?_
  refine ao 4 rfl rfl (st_assign (v := .int .i64 0) rfl rfl ?_)
  refine ao 5 rfl rfl (st_assign (v := .bool false) rfl rfl ?_)
  refine ar_nil ?_
  refine ac_seq ?_
  refine ac_seq ?_
  refine ac_region_lit ?_
  refine ao 10 rfl rfl (st_move (v := .int .i64 a) rfl rfl ?_)
  refine ao 11 rfl rfl (st_cf (vs := [.int .i64 a]) (r := .bool (rIn a)) (c_rIn a) Try.func92 rfl (by decide) rfl rfl rfl ?_)
  refine ao 12 rfl rfl (st_un (u := .bool (rIn a)) (v := .bool (!(rIn a))) rfl rfl (un_not rfl) ?_)
  refine ao 13 rfl rfl (st_move (v := .bool (!(rIn a))) rfl rfl ?_)
  refine bool_split (rIn a) (fun h1 => ?_) (fun h1 => ?_)
  · refine ar_gd (d := (some 14)) (by show ((!(rIn a)) == false) = true; rw [h1]; rfl) rfl (st_move (v := .int .i64 a) rfl rfl ?_)
    refine ar_gd (d := (some 15)) (by show ((!(rIn a)) == false) = true; rw [h1]; rfl) rfl (st_bi (u := .int .i64 a) (v := .int .i64 0) (r := .bool (decide (a < 0))) rfl rfl rfl (bi_lss rfl) ?_)
    refine ao 16 rfl rfl (st_pkf' (b := !(rIn a)) (v := .bool (decide (a < 0))) (by rw [h1]; rfl) rfl rfl rfl ?_)
    refine ar_nil ?_
    refine bool_split (decide (a < 0)) (fun h2 => ?_) (fun h2 => ?_)
    · refine ac_then' (b := decide (a < 0)) h2 rfl ?_
      refine ac_seq ?_
      refine ac_region_lit ?_
      refine ao 4 rfl rfl (st_assign (v := .int .i64 0) rfl rfl ?_)
      refine ao 5 rfl rfl (st_assign (v := .bool false) rfl rfl ?_)
      refine ar_nil ?_
      refine ac_ret ?_
      exact fin_eq (v := .tuple #[.int .i64 0, .bool false]) (by show _ = (fun (r : Int × Bool) => (.tuple #[.int .i64 r.1, .bool r.2] : Value)) (rRoot a up); rw [rRoot, h2, h1] <;> rfl) (fin_ret (res_tt rfl rfl rfl))
    · refine ac_else' (b := decide (a < 0)) h2 rfl ?_
      refine ac_skip ?_
      refine ac_seq ?_
      refine ac_region_lit ?_
      refine ao 17 rfl rfl (st_move (v := .int .i64 a) rfl rfl ?_)
      refine ao 18 rfl rfl (st_bi (u := .int .i64 a) (v := .int .i64 65536) (r := .int .i64 (w64 (a * 65536))) rfl rfl rfl (bi_mul rfl) ?_)
      refine ao 6 rfl rfl (st_assign (v := .int .i64 (w64 (a * 65536))) rfl rfl ?_)
      refine ar_nil ?_
      refine ac_seq ?_
      refine ac_region_lit ?_
      refine ao 7 rfl rfl (st_assign (v := .int .i64 0) rfl rfl ?_)
      refine ar_nil ?_
      refine ac_seq ?_
      refine ac_seq ?_
      refine ac_region_lit ?_
      refine ao 8 rfl rfl (st_assign (v := .int .i64 23) rfl rfl ?_)
      refine ar_nil ?_
      refine ac_block ?_
      refine ac_rounds 25 ?_
      refine c_rRoot_loop (n := (w64 (a * 65536))) (up := up) rfl 24 0 _ _ (by decide) rfl rfl rfl rfl rfl (fun E1 q1 q6 q7 => ?_)
      obtain ⟨E0, rfl⟩ := env3 q1 q6 q7
      refine ac_seq ?_
      refine ac_seq ?_
      refine ac_region_lit ?_
      refine ao 34 rfl rfl (st_move (v := .bool up) rfl rfl ?_)
      refine ao 35 rfl rfl (st_move (v := .bool up) rfl rfl ?_)
      refine bool_split (up) (fun h3 => ?_) (fun h3 => ?_)
      · refine ar_gd (d := (some 36)) (by show (up == true) = true; rw [h3]; rfl) rfl (st_move (v := .int .i64 (rRootLoop (w64 (a * 65536)) 24 0)) rfl rfl ?_)
        refine ar_gd (d := (some 37)) (by show (up == true) = true; rw [h3]; rfl) rfl (st_move (v := .int .i64 (rRootLoop (w64 (a * 65536)) 24 0)) rfl rfl ?_)
        refine ar_gd (d := (some 38)) (by show (up == true) = true; rw [h3]; rfl) rfl (st_bi (u := .int .i64 (rRootLoop (w64 (a * 65536)) 24 0)) (v := .int .i64 (rRootLoop (w64 (a * 65536)) 24 0)) (r := .int .i64 (w64 ((rRootLoop (w64 (a * 65536)) 24 0) * (rRootLoop (w64 (a * 65536)) 24 0)))) rfl rfl rfl (bi_mul rfl) ?_)
        refine ar_gd (d := (some 39)) (by show (up == true) = true; rw [h3]; rfl) rfl (st_move (v := .int .i64 (w64 (a * 65536))) rfl rfl ?_)
        refine ar_gd (d := (some 40)) (by show (up == true) = true; rw [h3]; rfl) rfl (st_bi (u := .int .i64 (w64 ((rRootLoop (w64 (a * 65536)) 24 0) * (rRootLoop (w64 (a * 65536)) 24 0)))) (v := .int .i64 (w64 (a * 65536))) (r := .bool ((w64 ((rRootLoop (w64 (a * 65536)) 24 0) * (rRootLoop (w64 (a * 65536)) 24 0))) != (w64 (a * 65536)))) rfl rfl rfl (bi_neq rfl) ?_)
        refine ao 41 rfl rfl (st_pkt' (b := up) (v := .bool ((w64 ((rRootLoop (w64 (a * 65536)) 24 0) * (rRootLoop (w64 (a * 65536)) 24 0))) != (w64 (a * 65536)))) h3 rfl rfl rfl ?_)
        refine ar_nil ?_
        refine ac_mergeE (fun E9 => (((Env.put E9 (some 42) (.int .i64 (rRootLoop (w64 (a * 65536)) 24 0))).put (some 43) (.int .i64 (w64 ((rRootLoop (w64 (a * 65536)) 24 0) + 1)))).put (some 7) (.int .i64 (w64 ((rRootLoop (w64 (a * 65536)) 24 0) + 1))))) (fun E9 => (((Env.put E9 (some 42) (bif (w64 ((rRootLoop (w64 (a * 65536)) 24 0) * (rRootLoop (w64 (a * 65536)) 24 0))) != (w64 (a * 65536)) then (.int .i64 (rRootLoop (w64 (a * 65536)) 24 0) : Value) else E9 42)).put (some 43) (bif (w64 ((rRootLoop (w64 (a * 65536)) 24 0) * (rRootLoop (w64 (a * 65536)) 24 0))) != (w64 (a * 65536)) then (.int .i64 (w64 ((rRootLoop (w64 (a * 65536)) 24 0) + 1)) : Value) else E9 43)).put (some 7) (.int .i64 (rRoot_e0 a up)))) (b := (w64 ((rRootLoop (w64 (a * 65536)) 24 0) * (rRootLoop (w64 (a * 65536)) 24 0))) != (w64 (a * 65536))) rfl (fun hm => ?_) (fun hm => ?_) (fun hm => ?_) ?_
        · refine ac_region_lit ?_
          refine ao 42 rfl rfl (st_move (v := .int .i64 (rRootLoop (w64 (a * 65536)) 24 0)) rfl rfl ?_)
          refine ao 43 rfl rfl (st_bi (u := .int .i64 (rRootLoop (w64 (a * 65536)) 24 0)) (v := .int .i64 1) (r := .int .i64 (w64 ((rRootLoop (w64 (a * 65536)) 24 0) + 1))) rfl rfl rfl (bi_add rfl) ?_)
          refine ao 7 rfl rfl (st_assign (v := .int .i64 (w64 ((rRootLoop (w64 (a * 65536)) 24 0) + 1))) rfl rfl ?_)
          refine ar_nil ?_
          exact ⟨rfl, rfl, rfl⟩
        · unfold rRoot_e0; rw [hm]; rfl
        · unfold rRoot_e0; rw [hm]; exact ((put_self rfl).trans ((put_self rfl).trans (put_self rfl)))
        refine ac_seq ?_
        refine ac_region_lit ?_
        refine ao 44 rfl rfl (st_move (v := .int .i64 (rRoot_e0 a up)) rfl rfl ?_)
        refine ao 45 rfl rfl (st_cf (vs := [.int .i64 (rRoot_e0 a up)]) (r := .tuple #[.int .i64 ((rTold (rRoot_e0 a up)).1), .bool ((rTold (rRoot_e0 a up)).2)]) (c_rTold (rRoot_e0 a up)) Try.func131 rfl (by decide) rfl rfl rfl ?_)
        refine ao 46 rfl rfl (st_ex (vs := [.int .i64 ((rTold (rRoot_e0 a up)).1), .bool ((rTold (rRoot_e0 a up)).2)]) (v := .int .i64 ((rTold (rRoot_e0 a up)).1)) rfl rfl rfl ?_)
        refine ao 47 rfl rfl (st_ex (vs := [.int .i64 ((rTold (rRoot_e0 a up)).1), .bool ((rTold (rRoot_e0 a up)).2)]) (v := .bool ((rTold (rRoot_e0 a up)).2)) rfl rfl rfl ?_)
        refine ao 4 rfl rfl (st_assign (v := .int .i64 ((rTold (rRoot_e0 a up)).1)) rfl rfl ?_)
        refine ao 5 rfl rfl (st_assign (v := .bool ((rTold (rRoot_e0 a up)).2)) rfl rfl ?_)
        refine ar_nil ?_
        refine ac_ret ?_
        exact fin_eq (v := .tuple #[.int .i64 ((rTold (rRoot_e0 a up)).1), .bool ((rTold (rRoot_e0 a up)).2)]) (by show _ = (fun (r : Int × Bool) => (.tuple #[.int .i64 r.1, .bool r.2] : Value)) (rRoot a up); rw [rRoot, h3, h2, h1] <;> rfl) (fin_ret (res_tt rfl rfl rfl))
      · refine ar_sk (d := (some 36)) (by show (up == true) = false; rw [h3]; rfl) rfl ?_
        refine ar_sk (d := (some 37)) (by show (up == true) = false; rw [h3]; rfl) rfl ?_
        refine ar_sk (d := (some 38)) (by show (up == true) = false; rw [h3]; rfl) rfl ?_
        refine ar_sk (d := (some 39)) (by show (up == true) = false; rw [h3]; rfl) rfl ?_
        refine ar_sk (d := (some 40)) (by show (up == true) = false; rw [h3]; rfl) rfl ?_
        refine ao 41 rfl rfl (st_pkf' (b := up) (v := .bool false) h3 rfl rfl rfl ?_)
        refine ar_nil ?_
        refine ac_else rfl ?_
        refine ac_skip ?_
        refine ac_seq ?_
        refine ac_region_lit ?_
        refine ao 44 rfl rfl (st_move (v := .int .i64 (rRootLoop (w64 (a * 65536)) 24 0)) rfl rfl ?_)
        refine ao 45 rfl rfl (st_cf (vs := [.int .i64 (rRootLoop (w64 (a * 65536)) 24 0)]) (r := .tuple #[.int .i64 ((rTold (rRootLoop (w64 (a * 65536)) 24 0)).1), .bool ((rTold (rRootLoop (w64 (a * 65536)) 24 0)).2)]) (c_rTold (rRootLoop (w64 (a * 65536)) 24 0)) Try.func131 rfl (by decide) rfl rfl rfl ?_)
        refine ao 46 rfl rfl (st_ex (vs := [.int .i64 ((rTold (rRootLoop (w64 (a * 65536)) 24 0)).1), .bool ((rTold (rRootLoop (w64 (a * 65536)) 24 0)).2)]) (v := .int .i64 ((rTold (rRootLoop (w64 (a * 65536)) 24 0)).1)) rfl rfl rfl ?_)
        refine ao 47 rfl rfl (st_ex (vs := [.int .i64 ((rTold (rRootLoop (w64 (a * 65536)) 24 0)).1), .bool ((rTold (rRootLoop (w64 (a * 65536)) 24 0)).2)]) (v := .bool ((rTold (rRootLoop (w64 (a * 65536)) 24 0)).2)) rfl rfl rfl ?_)
        refine ao 4 rfl rfl (st_assign (v := .int .i64 ((rTold (rRootLoop (w64 (a * 65536)) 24 0)).1)) rfl rfl ?_)
        refine ao 5 rfl rfl (st_assign (v := .bool ((rTold (rRootLoop (w64 (a * 65536)) 24 0)).2)) rfl rfl ?_)
        refine ar_nil ?_
        refine ac_ret ?_
        exact fin_eq (v := .tuple #[.int .i64 ((rTold (rRootLoop (w64 (a * 65536)) 24 0)).1), .bool ((rTold (rRootLoop (w64 (a * 65536)) 24 0)).2)]) (by show _ = (fun (r : Int × Bool) => (.tuple #[.int .i64 r.1, .bool r.2] : Value)) (rRoot a up); rw [rRoot, h3, h2, h1] <;> rfl) (fin_ret (res_tt rfl rfl rfl))
  · refine ar_sk (d := (some 14)) (by show ((!(rIn a)) == false) = false; rw [h1]; rfl) rfl ?_
    refine ar_sk (d := (some 15)) (by show ((!(rIn a)) == false) = false; rw [h1]; rfl) rfl ?_
    refine ao 16 rfl rfl (st_pkt' (b := !(rIn a)) (v := .bool true) (by rw [h1]; rfl) rfl rfl rfl ?_)
    refine ar_nil ?_
    refine ac_then rfl ?_
    refine ac_seq ?_
    refine ac_region_lit ?_
    refine ao 4 rfl rfl (st_assign (v := .int .i64 0) rfl rfl ?_)
    refine ao 5 rfl rfl (st_assign (v := .bool false) rfl rfl ?_)
    refine ar_nil ?_
    refine ac_ret ?_
    exact fin_eq (v := .tuple #[.int .i64 0, .bool false]) (by show _ = (fun (r : Int × Bool) => (.tuple #[.int .i64 r.1, .bool r.2] : Value)) (rRoot a up); rw [rRoot, h1] <;> rfl) (fin_ret (res_tt rfl rfl rfl))
end Go.Proofs.Ythngkopcadlciaa
namespace Go.Proofs.Ythngkopcadlciaa
open Go.RowKit
attribute [local irreducible] AC AR DWalk
def numIn (n : Int) : Bool := (bif decide (n ≥ (-1073741824)) then decide (n ≤ 1073741824) else false)
set_option maxRecDepth 100000 in
theorem c_numIn (n : Int) : Gets Try.prog 65 #[.int .i64 n] ((fun (r : Bool) => (.bool r : Value)) (numIn n)) := by
  refine gets_fin Try.func65 rfl rfl rfl ?_
  refine ac_seq ?_
  refine ac_region_lit ?_
  refine ao 2 rfl rfl (st_assign (v := .bool false) rfl rfl ?_)
  refine ar_nil ?_
  refine ac_seq ?_
  refine ac_region_lit ?_
  refine ao 3 rfl rfl (st_move (v := .int .i64 n) rfl rfl ?_)
  refine ao 4 rfl rfl (st_bi (u := .int .i64 n) (v := .int .i64 (-1073741824)) (r := .bool (decide (n ≥ (-1073741824)))) rfl rfl rfl (bi_geq rfl) ?_)
  refine ao 5 rfl rfl (st_move (v := .bool (decide (n ≥ (-1073741824)))) rfl rfl ?_)
  refine bool_split (decide (n ≥ (-1073741824))) (fun h1 => ?_) (fun h1 => ?_)
  · refine ar_gd (d := (some 6)) (by show ((decide (n ≥ (-1073741824))) == true) = true; rw [h1]; rfl) rfl (st_move (v := .int .i64 n) rfl rfl ?_)
    refine ar_gd (d := (some 7)) (by show ((decide (n ≥ (-1073741824))) == true) = true; rw [h1]; rfl) rfl (st_bi (u := .int .i64 n) (v := .int .i64 1073741824) (r := .bool (decide (n ≤ 1073741824))) rfl rfl rfl (bi_leq rfl) ?_)
    refine ao 8 rfl rfl (st_pkt' (b := decide (n ≥ (-1073741824))) (v := .bool (decide (n ≤ 1073741824))) h1 rfl rfl rfl ?_)
    refine ao 2 rfl rfl (st_assign (v := .bool (decide (n ≤ 1073741824))) rfl rfl ?_)
    refine ar_nil ?_
    refine ac_ret ?_
    exact fin_eq (v := .bool (decide (n ≤ 1073741824))) (by show _ = (fun (r : Bool) => (.bool r : Value)) (numIn n); rw [numIn, h1] <;> rfl) (fin_ret (res_tmp rfl rfl))
  · refine ar_sk (d := (some 6)) (by show ((decide (n ≥ (-1073741824))) == true) = false; rw [h1]; rfl) rfl ?_
    refine ar_sk (d := (some 7)) (by show ((decide (n ≥ (-1073741824))) == true) = false; rw [h1]; rfl) rfl ?_
    refine ao 8 rfl rfl (st_pkf' (b := decide (n ≥ (-1073741824))) (v := .bool false) h1 rfl rfl rfl ?_)
    refine ao 2 rfl rfl (st_assign (v := .bool false) rfl rfl ?_)
    refine ar_nil ?_
    refine ac_ret ?_
    exact fin_eq (v := .bool false) (by show _ = (fun (r : Bool) => (.bool r : Value)) (numIn n); rw [numIn, h1] <;> rfl) (fin_ret (res_tmp rfl rfl))
def numFloor_e0 (a : Int) (b : Int) : Int := (bif (decide (a < 0)) != (decide (b < 0)) then (w64 ((w64 (Int.tdiv a b)) - 1)) else (w64 (Int.tdiv a b)))
def numFloor (a : Int) (b : Int) : Int := (bif b == 0 then 0 else (bif (Int.tmod a b) != 0 then (numFloor_e0 a b) else w64 (Int.tdiv a b)))
set_option maxRecDepth 100000 in
theorem c_numFloor (a : Int) (b : Int) : Gets Try.prog 121 #[.int .i64 a, .int .i64 b] ((fun (r : Int) => (.int .i64 r : Value)) (numFloor a b)) := by
  refine gets_fin Try.func121 rfl rfl rfl ?_
  refine ac_seq ?_
  refine ac_region_lit ?_
  refine ao 4 rfl rfl (st_assign (v := .int .i64 0) rfl rfl ?_)
  refine ar_nil ?_
  refine ac_seq ?_
  refine ac_seq ?_
  refine ac_region_lit ?_
  refine ao 6 rfl rfl (st_move (v := .int .i64 b) rfl rfl ?_)
  refine ao 7 rfl rfl (st_bi (u := .int .i64 b) (v := .int .i64 0) (r := .bool (b == 0)) rfl rfl rfl (bi_eql rfl) ?_)
  refine ar_nil ?_
  refine bool_split (b == 0) (fun h1 => ?_) (fun h1 => ?_)
  · refine ac_then' (b := b == 0) h1 rfl ?_
    refine ac_seq ?_
    refine ac_region_lit ?_
    refine ao 4 rfl rfl (st_assign (v := .int .i64 0) rfl rfl ?_)
    refine ar_nil ?_
    refine ac_ret ?_
    exact fin_eq (v := .int .i64 0) (by show _ = (fun (r : Int) => (.int .i64 r : Value)) (numFloor a b); rw [numFloor, h1] <;> rfl) (fin_ret (res_tmp rfl rfl))
  · refine ac_else' (b := b == 0) h1 rfl ?_
    refine ac_skip ?_
    refine ac_seq ?_
    refine ac_region_lit ?_
    refine ao 8 rfl rfl (st_move (v := .int .i64 a) rfl rfl ?_)
    refine ao 9 rfl rfl (st_move (v := .int .i64 b) rfl rfl ?_)
    refine ao 10 rfl rfl (st_bi (u := .int .i64 a) (v := .int .i64 b) (r := .int .i64 (w64 (Int.tdiv a b))) rfl rfl rfl (bi_quo (ne_of_beq0 h1) rfl) ?_)
    refine ao 5 rfl rfl (st_assign (v := .int .i64 (w64 (Int.tdiv a b))) rfl rfl ?_)
    refine ar_nil ?_
    refine ac_seq ?_
    refine ac_seq ?_
    refine ac_region_lit ?_
    refine ao 11 rfl rfl (st_move (v := .int .i64 a) rfl rfl ?_)
    refine ao 12 rfl rfl (st_move (v := .int .i64 b) rfl rfl ?_)
    refine ao 13 rfl rfl (st_bi (u := .int .i64 a) (v := .int .i64 b) (r := .int .i64 (Int.tmod a b)) rfl rfl rfl (bi_rem (ne_of_beq0 h1) rfl) ?_)
    refine ao 14 rfl rfl (st_bi (u := .int .i64 (Int.tmod a b)) (v := .int .i64 0) (r := .bool ((Int.tmod a b) != 0)) rfl rfl rfl (bi_neq rfl) ?_)
    refine ao 15 rfl rfl (st_move (v := .bool ((Int.tmod a b) != 0)) rfl rfl ?_)
    refine bool_split ((Int.tmod a b) != 0) (fun h2 => ?_) (fun h2 => ?_)
    · refine ar_gd (d := (some 16)) (by show (((Int.tmod a b) != 0) == true) = true; rw [h2]; rfl) rfl (st_move (v := .int .i64 a) rfl rfl ?_)
      refine ar_gd (d := (some 17)) (by show (((Int.tmod a b) != 0) == true) = true; rw [h2]; rfl) rfl (st_bi (u := .int .i64 a) (v := .int .i64 0) (r := .bool (decide (a < 0))) rfl rfl rfl (bi_lss rfl) ?_)
      refine ar_gd (d := (some 18)) (by show (((Int.tmod a b) != 0) == true) = true; rw [h2]; rfl) rfl (st_move (v := .int .i64 b) rfl rfl ?_)
      refine ar_gd (d := (some 19)) (by show (((Int.tmod a b) != 0) == true) = true; rw [h2]; rfl) rfl (st_bi (u := .int .i64 b) (v := .int .i64 0) (r := .bool (decide (b < 0))) rfl rfl rfl (bi_lss rfl) ?_)
      refine ar_gd (d := (some 20)) (by show (((Int.tmod a b) != 0) == true) = true; rw [h2]; rfl) rfl (st_bi (u := .bool (decide (a < 0))) (v := .bool (decide (b < 0))) (r := .bool ((decide (a < 0)) != (decide (b < 0)))) rfl rfl rfl (bb_neq Try.underlying4 rfl) ?_)
      refine ao 21 rfl rfl (st_pkt' (b := (Int.tmod a b) != 0) (v := .bool ((decide (a < 0)) != (decide (b < 0)))) h2 rfl rfl rfl ?_)
      refine ar_nil ?_
      refine ac_mergeE (fun E9 => (((Env.put E9 (some 22) (.int .i64 (w64 (Int.tdiv a b)))).put (some 23) (.int .i64 (w64 ((w64 (Int.tdiv a b)) - 1)))).put (some 5) (.int .i64 (w64 ((w64 (Int.tdiv a b)) - 1))))) (fun E9 => (((Env.put E9 (some 22) (bif (decide (a < 0)) != (decide (b < 0)) then (.int .i64 (w64 (Int.tdiv a b)) : Value) else E9 22)).put (some 23) (bif (decide (a < 0)) != (decide (b < 0)) then (.int .i64 (w64 ((w64 (Int.tdiv a b)) - 1)) : Value) else E9 23)).put (some 5) (.int .i64 (numFloor_e0 a b)))) (b := (decide (a < 0)) != (decide (b < 0))) rfl (fun hm => ?_) (fun hm => ?_) (fun hm => ?_) ?_
      · refine ac_region_lit ?_
        refine ao 22 rfl rfl (st_move (v := .int .i64 (w64 (Int.tdiv a b))) rfl rfl ?_)
        refine ao 23 rfl rfl (st_bi (u := .int .i64 (w64 (Int.tdiv a b))) (v := .int .i64 1) (r := .int .i64 (w64 ((w64 (Int.tdiv a b)) - 1))) rfl rfl rfl (bi_sub rfl) ?_)
        refine ao 5 rfl rfl (st_assign (v := .int .i64 (w64 ((w64 (Int.tdiv a b)) - 1))) rfl rfl ?_)
        refine ar_nil ?_
        exact ⟨rfl, rfl, rfl⟩
      · unfold numFloor_e0; rw [hm]; rfl
      · unfold numFloor_e0; rw [hm]; exact ((put_self rfl).trans ((put_self rfl).trans (put_self rfl)))
      refine ac_seq ?_
      refine ac_region_lit ?_
      refine ao 24 rfl rfl (st_move (v := .int .i64 (numFloor_e0 a b)) rfl rfl ?_)
      refine ao 4 rfl rfl (st_assign (v := .int .i64 (numFloor_e0 a b)) rfl rfl ?_)
      refine ar_nil ?_
      refine ac_ret ?_
      exact fin_eq (v := .int .i64 (numFloor_e0 a b)) (by show _ = (fun (r : Int) => (.int .i64 r : Value)) (numFloor a b); rw [numFloor, h2, h1] <;> rfl) (fin_ret (res_tmp rfl rfl))
    · refine ar_sk (d := (some 16)) (by show (((Int.tmod a b) != 0) == true) = false; rw [h2]; rfl) rfl ?_
      refine ar_sk (d := (some 17)) (by show (((Int.tmod a b) != 0) == true) = false; rw [h2]; rfl) rfl ?_
      refine ar_sk (d := (some 18)) (by show (((Int.tmod a b) != 0) == true) = false; rw [h2]; rfl) rfl ?_
      refine ar_sk (d := (some 19)) (by show (((Int.tmod a b) != 0) == true) = false; rw [h2]; rfl) rfl ?_
      refine ar_sk (d := (some 20)) (by show (((Int.tmod a b) != 0) == true) = false; rw [h2]; rfl) rfl ?_
      refine ao 21 rfl rfl (st_pkf' (b := (Int.tmod a b) != 0) (v := .bool false) h2 rfl rfl rfl ?_)
      refine ar_nil ?_
      refine ac_else rfl ?_
      refine ac_skip ?_
      refine ac_seq ?_
      refine ac_region_lit ?_
      refine ao 24 rfl rfl (st_move (v := .int .i64 (w64 (Int.tdiv a b))) rfl rfl ?_)
      refine ao 4 rfl rfl (st_assign (v := .int .i64 (w64 (Int.tdiv a b))) rfl rfl ?_)
      refine ar_nil ?_
      refine ac_ret ?_
      exact fin_eq (v := .int .i64 (w64 (Int.tdiv a b))) (by show _ = (fun (r : Int) => (.int .i64 r : Value)) (numFloor a b); rw [numFloor, h2, h1] <;> rfl) (fin_ret (res_tmp rfl rfl))
def numRounded_e0 (a : Int) (b : Int) (up : Bool) : Int := (bif (Int.tmod a b) != 0 then (w64 ((numFloor a b) + 1)) else (numFloor a b))
def numRounded (a : Int) (b : Int) (up : Bool) : Int × Bool := (bif up then (bif numIn (numRounded_e0 a b up) then ((numRounded_e0 a b up), true) else (0, false)) else (bif numIn (numFloor a b) then ((numFloor a b), true) else (0, false)))
set_option maxRecDepth 100000 in
theorem c_numRounded (a : Int) (b : Int) (up : Bool) (hb : b ≠ 0) : Gets Try.prog 101 #[.int .i64 a, .int .i64 b, .bool up] ((fun (r : Int × Bool) => (.tuple #[.int .i64 r.1, .bool r.2] : Value)) (numRounded a b up)) := by
  refine gets_fin Try.func101 rfl rfl rfl ?_
  refine ac_seq ?_
  refine ac_region_lit ?_
  refine ao 6 rfl rfl (st_assign (v := .int .i64 0) rfl rfl ?_)
  refine ao 7 rfl rfl (st_assign (v := .bool false) rfl rfl ?_)
  refine ar_nil ?_
  refine ac_seq ?_
  refine ac_region_lit ?_
  refine ao 9 rfl rfl (st_move (v := .int .i64 a) rfl rfl ?_)
  refine ao 10 rfl rfl (st_move (v := .int .i64 b) rfl rfl ?_)
  refine ao 11 rfl rfl (st_cf (vs := [.int .i64 a, .int .i64 b]) (r := .int .i64 (numFloor a b)) (c_numFloor a b) Try.func121 rfl (by decide) rfl rfl rfl ?_)
  refine ao 8 rfl rfl (st_assign (v := .int .i64 (numFloor a b)) rfl rfl ?_)
  refine ar_nil ?_
  refine ac_seq ?_
  refine ac_seq ?_
  refine ac_region_lit ?_
  refine ao 12 rfl rfl (st_move (v := .bool up) rfl rfl ?_)
  refine ao 13 rfl rfl (st_move (v := .bool up) rfl rfl ?_)
  refine bool_split (up) (fun h1 => ?_) (fun h1 => ?_)
  · refine ar_gd (d := (some 14)) (by show (up == true) = true; rw [h1]; rfl) rfl (st_move (v := .int .i64 a) rfl rfl ?_)
    refine ar_gd (d := (some 15)) (by show (up == true) = true; rw [h1]; rfl) rfl (st_move (v := .int .i64 b) rfl rfl ?_)
    refine ar_gd (d := (some 16)) (by show (up == true) = true; rw [h1]; rfl) rfl (st_bi (u := .int .i64 a) (v := .int .i64 b) (r := .int .i64 (Int.tmod a b)) rfl rfl rfl (bi_rem hb rfl) ?_)
    refine ar_gd (d := (some 17)) (by show (up == true) = true; rw [h1]; rfl) rfl (st_bi (u := .int .i64 (Int.tmod a b)) (v := .int .i64 0) (r := .bool ((Int.tmod a b) != 0)) rfl rfl rfl (bi_neq rfl) ?_)
    refine ao 18 rfl rfl (st_pkt' (b := up) (v := .bool ((Int.tmod a b) != 0)) h1 rfl rfl rfl ?_)
    refine ar_nil ?_
    refine ac_mergeE (fun E9 => (((Env.put E9 (some 19) (.int .i64 (numFloor a b))).put (some 20) (.int .i64 (w64 ((numFloor a b) + 1)))).put (some 8) (.int .i64 (w64 ((numFloor a b) + 1))))) (fun E9 => (((Env.put E9 (some 19) (bif (Int.tmod a b) != 0 then (.int .i64 (numFloor a b) : Value) else E9 19)).put (some 20) (bif (Int.tmod a b) != 0 then (.int .i64 (w64 ((numFloor a b) + 1)) : Value) else E9 20)).put (some 8) (.int .i64 (numRounded_e0 a b up)))) (b := (Int.tmod a b) != 0) rfl (fun hm => ?_) (fun hm => ?_) (fun hm => ?_) ?_
    · refine ac_region_lit ?_
      refine ao 19 rfl rfl (st_move (v := .int .i64 (numFloor a b)) rfl rfl ?_)
      refine ao 20 rfl rfl (st_bi (u := .int .i64 (numFloor a b)) (v := .int .i64 1) (r := .int .i64 (w64 ((numFloor a b) + 1))) rfl rfl rfl (bi_add rfl) ?_)
      refine ao 8 rfl rfl (st_assign (v := .int .i64 (w64 ((numFloor a b) + 1))) rfl rfl ?_)
      refine ar_nil ?_
      exact ⟨rfl, rfl, rfl⟩
    · unfold numRounded_e0; rw [hm]; rfl
    · unfold numRounded_e0; rw [hm]; exact ((put_self rfl).trans ((put_self rfl).trans (put_self rfl)))
    refine ac_seq ?_
    refine ac_seq ?_
    refine ac_region_lit ?_
    refine ao 21 rfl rfl (st_move (v := .int .i64 (numRounded_e0 a b up)) rfl rfl ?_)
    refine ao 22 rfl rfl (st_cf (vs := [.int .i64 (numRounded_e0 a b up)]) (r := .bool (numIn (numRounded_e0 a b up))) (c_numIn (numRounded_e0 a b up)) Try.func65 rfl (by decide) rfl rfl rfl ?_)
    refine ao 23 rfl rfl (st_un (u := .bool (numIn (numRounded_e0 a b up))) (v := .bool (!(numIn (numRounded_e0 a b up)))) rfl rfl (un_not rfl) ?_)
    refine ar_nil ?_
    refine bool_split (numIn (numRounded_e0 a b up)) (fun h2 => ?_) (fun h2 => ?_)
    · refine ac_else' (b := !(numIn (numRounded_e0 a b up))) (by rw [h2]; rfl) rfl ?_
      refine ac_skip ?_
      refine ac_seq ?_
      refine ac_region_lit ?_
      refine ao 24 rfl rfl (st_move (v := .int .i64 (numRounded_e0 a b up)) rfl rfl ?_)
      refine ao 6 rfl rfl (st_assign (v := .int .i64 (numRounded_e0 a b up)) rfl rfl ?_)
      refine ao 7 rfl rfl (st_assign (v := .bool true) rfl rfl ?_)
      refine ar_nil ?_
      refine ac_ret ?_
      exact fin_eq (v := .tuple #[.int .i64 (numRounded_e0 a b up), .bool true]) (by show _ = (fun (r : Int × Bool) => (.tuple #[.int .i64 r.1, .bool r.2] : Value)) (numRounded a b up); rw [numRounded, h2, h1] <;> rfl) (fin_ret (res_tt rfl rfl rfl))
    · refine ac_then' (b := !(numIn (numRounded_e0 a b up))) (by rw [h2]; rfl) rfl ?_
      refine ac_seq ?_
      refine ac_region_lit ?_
      refine ao 6 rfl rfl (st_assign (v := .int .i64 0) rfl rfl ?_)
      refine ao 7 rfl rfl (st_assign (v := .bool false) rfl rfl ?_)
      refine ar_nil ?_
      refine ac_ret ?_
      exact fin_eq (v := .tuple #[.int .i64 0, .bool false]) (by show _ = (fun (r : Int × Bool) => (.tuple #[.int .i64 r.1, .bool r.2] : Value)) (numRounded a b up); rw [numRounded, h2, h1] <;> rfl) (fin_ret (res_tt rfl rfl rfl))
  · refine ar_sk (d := (some 14)) (by show (up == true) = false; rw [h1]; rfl) rfl ?_
    refine ar_sk (d := (some 15)) (by show (up == true) = false; rw [h1]; rfl) rfl ?_
    refine ar_sk (d := (some 16)) (by show (up == true) = false; rw [h1]; rfl) rfl ?_
    refine ar_sk (d := (some 17)) (by show (up == true) = false; rw [h1]; rfl) rfl ?_
    refine ao 18 rfl rfl (st_pkf' (b := up) (v := .bool false) h1 rfl rfl rfl ?_)
    refine ar_nil ?_
    refine ac_else rfl ?_
    refine ac_skip ?_
    refine ac_seq ?_
    refine ac_seq ?_
    refine ac_region_lit ?_
    refine ao 21 rfl rfl (st_move (v := .int .i64 (numFloor a b)) rfl rfl ?_)
    refine ao 22 rfl rfl (st_cf (vs := [.int .i64 (numFloor a b)]) (r := .bool (numIn (numFloor a b))) (c_numIn (numFloor a b)) Try.func65 rfl (by decide) rfl rfl rfl ?_)
    refine ao 23 rfl rfl (st_un (u := .bool (numIn (numFloor a b))) (v := .bool (!(numIn (numFloor a b)))) rfl rfl (un_not rfl) ?_)
    refine ar_nil ?_
    refine bool_split (numIn (numFloor a b)) (fun h2 => ?_) (fun h2 => ?_)
    · refine ac_else' (b := !(numIn (numFloor a b))) (by rw [h2]; rfl) rfl ?_
      refine ac_skip ?_
      refine ac_seq ?_
      refine ac_region_lit ?_
      refine ao 24 rfl rfl (st_move (v := .int .i64 (numFloor a b)) rfl rfl ?_)
      refine ao 6 rfl rfl (st_assign (v := .int .i64 (numFloor a b)) rfl rfl ?_)
      refine ao 7 rfl rfl (st_assign (v := .bool true) rfl rfl ?_)
      refine ar_nil ?_
      refine ac_ret ?_
      exact fin_eq (v := .tuple #[.int .i64 (numFloor a b), .bool true]) (by show _ = (fun (r : Int × Bool) => (.tuple #[.int .i64 r.1, .bool r.2] : Value)) (numRounded a b up); rw [numRounded, h2, h1] <;> rfl) (fin_ret (res_tt rfl rfl rfl))
    · refine ac_then' (b := !(numIn (numFloor a b))) (by rw [h2]; rfl) rfl ?_
      refine ac_seq ?_
      refine ac_region_lit ?_
      refine ao 6 rfl rfl (st_assign (v := .int .i64 0) rfl rfl ?_)
      refine ao 7 rfl rfl (st_assign (v := .bool false) rfl rfl ?_)
      refine ar_nil ?_
      refine ac_ret ?_
      exact fin_eq (v := .tuple #[.int .i64 0, .bool false]) (by show _ = (fun (r : Int × Bool) => (.tuple #[.int .i64 r.1, .bool r.2] : Value)) (numRounded a b up); rw [numRounded, h2, h1] <;> rfl) (fin_ret (res_tt rfl rfl rfl))
def numMul (a : Int) (b : Int) (up : Bool) : Int × Bool := (bif numIn a then (bif numIn b then ((numRounded (w64 (a * b)) 65536 up).1, (numRounded (w64 (a * b)) 65536 up).2) else (0, false)) else (0, false))
set_option maxRecDepth 100000 in
theorem c_numMul (a : Int) (b : Int) (up : Bool) : Gets Try.prog 100 #[.int .i64 a, .int .i64 b, .bool up] ((fun (r : Int × Bool) => (.tuple #[.int .i64 r.1, .bool r.2] : Value)) (numMul a b up)) := by
  refine gets_fin Try.func100 rfl rfl rfl ?_
  refine ac_seq ?_
  refine ac_region_lit ?_
  refine ao 6 rfl rfl (st_assign (v := .int .i64 0) rfl rfl ?_)
  refine ao 7 rfl rfl (st_assign (v := .bool false) rfl rfl ?_)
  refine ar_nil ?_
  refine ac_seq ?_
  refine ac_seq ?_
  refine ac_region_lit ?_
  refine ao 8 rfl rfl (st_move (v := .int .i64 a) rfl rfl ?_)
  refine ao 9 rfl rfl (st_cf (vs := [.int .i64 a]) (r := .bool (numIn a)) (c_numIn a) Try.func65 rfl (by decide) rfl rfl rfl ?_)
  refine ao 10 rfl rfl (st_un (u := .bool (numIn a)) (v := .bool (!(numIn a))) rfl rfl (un_not rfl) ?_)
  refine ao 11 rfl rfl (st_move (v := .bool (!(numIn a))) rfl rfl ?_)
  refine bool_split (numIn a) (fun h1 => ?_) (fun h1 => ?_)
  · refine ar_gd (d := (some 12)) (by show ((!(numIn a)) == false) = true; rw [h1]; rfl) rfl (st_move (v := .int .i64 b) rfl rfl ?_)
    refine ar_gd (d := (some 13)) (by show ((!(numIn a)) == false) = true; rw [h1]; rfl) rfl (st_cf (vs := [.int .i64 b]) (r := .bool (numIn b)) (c_numIn b) Try.func65 rfl (by decide) rfl rfl rfl ?_)
    refine ar_gd (d := (some 14)) (by show ((!(numIn a)) == false) = true; rw [h1]; rfl) rfl (st_un (u := .bool (numIn b)) (v := .bool (!(numIn b))) rfl rfl (un_not rfl) ?_)
    refine ao 15 rfl rfl (st_pkf' (b := !(numIn a)) (v := .bool (!(numIn b))) (by rw [h1]; rfl) rfl rfl rfl ?_)
    refine ar_nil ?_
    refine bool_split (numIn b) (fun h2 => ?_) (fun h2 => ?_)
    · refine ac_else' (b := !(numIn b)) (by rw [h2]; rfl) rfl ?_
      refine ac_skip ?_
      refine ac_seq ?_
      refine ac_region_lit ?_
      refine ao 16 rfl rfl (st_move (v := .int .i64 a) rfl rfl ?_)
      refine ao 17 rfl rfl (st_move (v := .int .i64 b) rfl rfl ?_)
      refine ao 18 rfl rfl (st_bi (u := .int .i64 a) (v := .int .i64 b) (r := .int .i64 (w64 (a * b))) rfl rfl rfl (bi_mul rfl) ?_)
      refine ao 19 rfl rfl (st_move (v := .bool up) rfl rfl ?_)
      refine ao 20 rfl rfl (st_cf (vs := [.int .i64 (w64 (a * b)), .int .i64 65536, .bool up]) (r := .tuple #[.int .i64 ((numRounded (w64 (a * b)) 65536 up).1), .bool ((numRounded (w64 (a * b)) 65536 up).2)]) (c_numRounded (w64 (a * b)) 65536 up (by decide)) Try.func101 rfl (by decide) rfl rfl rfl ?_)
      refine ao 21 rfl rfl (st_ex (vs := [.int .i64 ((numRounded (w64 (a * b)) 65536 up).1), .bool ((numRounded (w64 (a * b)) 65536 up).2)]) (v := .int .i64 ((numRounded (w64 (a * b)) 65536 up).1)) rfl rfl rfl ?_)
      refine ao 22 rfl rfl (st_ex (vs := [.int .i64 ((numRounded (w64 (a * b)) 65536 up).1), .bool ((numRounded (w64 (a * b)) 65536 up).2)]) (v := .bool ((numRounded (w64 (a * b)) 65536 up).2)) rfl rfl rfl ?_)
      refine ao 6 rfl rfl (st_assign (v := .int .i64 ((numRounded (w64 (a * b)) 65536 up).1)) rfl rfl ?_)
      refine ao 7 rfl rfl (st_assign (v := .bool ((numRounded (w64 (a * b)) 65536 up).2)) rfl rfl ?_)
      refine ar_nil ?_
      refine ac_ret ?_
      exact fin_eq (v := .tuple #[.int .i64 ((numRounded (w64 (a * b)) 65536 up).1), .bool ((numRounded (w64 (a * b)) 65536 up).2)]) (by show _ = (fun (r : Int × Bool) => (.tuple #[.int .i64 r.1, .bool r.2] : Value)) (numMul a b up); rw [numMul, h2, h1] <;> rfl) (fin_ret (res_tt rfl rfl rfl))
    · refine ac_then' (b := !(numIn b)) (by rw [h2]; rfl) rfl ?_
      refine ac_seq ?_
      refine ac_region_lit ?_
      refine ao 6 rfl rfl (st_assign (v := .int .i64 0) rfl rfl ?_)
      refine ao 7 rfl rfl (st_assign (v := .bool false) rfl rfl ?_)
      refine ar_nil ?_
      refine ac_ret ?_
      exact fin_eq (v := .tuple #[.int .i64 0, .bool false]) (by show _ = (fun (r : Int × Bool) => (.tuple #[.int .i64 r.1, .bool r.2] : Value)) (numMul a b up); rw [numMul, h2, h1] <;> rfl) (fin_ret (res_tt rfl rfl rfl))
  · refine ar_sk (d := (some 12)) (by show ((!(numIn a)) == false) = false; rw [h1]; rfl) rfl ?_
    refine ar_sk (d := (some 13)) (by show ((!(numIn a)) == false) = false; rw [h1]; rfl) rfl ?_
    refine ar_sk (d := (some 14)) (by show ((!(numIn a)) == false) = false; rw [h1]; rfl) rfl ?_
    refine ao 15 rfl rfl (st_pkt' (b := !(numIn a)) (v := .bool true) (by rw [h1]; rfl) rfl rfl rfl ?_)
    refine ar_nil ?_
    refine ac_then rfl ?_
    refine ac_seq ?_
    refine ac_region_lit ?_
    refine ao 6 rfl rfl (st_assign (v := .int .i64 0) rfl rfl ?_)
    refine ao 7 rfl rfl (st_assign (v := .bool false) rfl rfl ?_)
    refine ar_nil ?_
    refine ac_ret ?_
    exact fin_eq (v := .tuple #[.int .i64 0, .bool false]) (by show _ = (fun (r : Int × Bool) => (.tuple #[.int .i64 r.1, .bool r.2] : Value)) (numMul a b up); rw [numMul, h1] <;> rfl) (fin_ret (res_tt rfl rfl rfl))
def numDiv (a : Int) (b : Int) (up : Bool) : Int × Bool := (bif numIn a then (bif numIn b then (bif b == 0 then (0, false) else ((numRounded (w64 (a * 65536)) b up).1, (numRounded (w64 (a * 65536)) b up).2)) else (0, false)) else (0, false))
set_option maxRecDepth 100000 in
theorem c_numDiv (a : Int) (b : Int) (up : Bool) : Gets Try.prog 72 #[.int .i64 a, .int .i64 b, .bool up] ((fun (r : Int × Bool) => (.tuple #[.int .i64 r.1, .bool r.2] : Value)) (numDiv a b up)) := by
  refine gets_fin Try.func72 rfl rfl rfl ?_
  refine ac_seq ?_
  refine ac_region_lit ?_
  refine ao 6 rfl rfl (st_assign (v := .int .i64 0) rfl rfl ?_)
  refine ao 7 rfl rfl (st_assign (v := .bool false) rfl rfl ?_)
  refine ar_nil ?_
  refine ac_seq ?_
  refine ac_seq ?_
  refine ac_region_lit ?_
  refine ao 8 rfl rfl (st_move (v := .int .i64 a) rfl rfl ?_)
  refine ao 9 rfl rfl (st_cf (vs := [.int .i64 a]) (r := .bool (numIn a)) (c_numIn a) Try.func65 rfl (by decide) rfl rfl rfl ?_)
  refine ao 10 rfl rfl (st_un (u := .bool (numIn a)) (v := .bool (!(numIn a))) rfl rfl (un_not rfl) ?_)
  refine ao 11 rfl rfl (st_move (v := .bool (!(numIn a))) rfl rfl ?_)
  refine bool_split (numIn a) (fun h1 => ?_) (fun h1 => ?_)
  · refine ar_gd (d := (some 12)) (by show ((!(numIn a)) == false) = true; rw [h1]; rfl) rfl (st_move (v := .int .i64 b) rfl rfl ?_)
    refine ar_gd (d := (some 13)) (by show ((!(numIn a)) == false) = true; rw [h1]; rfl) rfl (st_cf (vs := [.int .i64 b]) (r := .bool (numIn b)) (c_numIn b) Try.func65 rfl (by decide) rfl rfl rfl ?_)
    refine ar_gd (d := (some 14)) (by show ((!(numIn a)) == false) = true; rw [h1]; rfl) rfl (st_un (u := .bool (numIn b)) (v := .bool (!(numIn b))) rfl rfl (un_not rfl) ?_)
    refine ao 15 rfl rfl (st_pkf' (b := !(numIn a)) (v := .bool (!(numIn b))) (by rw [h1]; rfl) rfl rfl rfl ?_)
    refine ao 16 rfl rfl (st_move (v := .bool (!(numIn b))) rfl rfl ?_)
    refine bool_split (numIn b) (fun h2 => ?_) (fun h2 => ?_)
    · refine ar_gd (d := (some 17)) (by show ((!(numIn b)) == false) = true; rw [h2]; rfl) rfl (st_move (v := .int .i64 b) rfl rfl ?_)
      refine ar_gd (d := (some 18)) (by show ((!(numIn b)) == false) = true; rw [h2]; rfl) rfl (st_bi (u := .int .i64 b) (v := .int .i64 0) (r := .bool (b == 0)) rfl rfl rfl (bi_eql rfl) ?_)
      refine ao 19 rfl rfl (st_pkf' (b := !(numIn b)) (v := .bool (b == 0)) (by rw [h2]; rfl) rfl rfl rfl ?_)
      refine ar_nil ?_
      refine bool_split (b == 0) (fun h3 => ?_) (fun h3 => ?_)
      · refine ac_then' (b := b == 0) h3 rfl ?_
        refine ac_seq ?_
        refine ac_region_lit ?_
        refine ao 6 rfl rfl (st_assign (v := .int .i64 0) rfl rfl ?_)
        refine ao 7 rfl rfl (st_assign (v := .bool false) rfl rfl ?_)
        refine ar_nil ?_
        refine ac_ret ?_
        exact fin_eq (v := .tuple #[.int .i64 0, .bool false]) (by show _ = (fun (r : Int × Bool) => (.tuple #[.int .i64 r.1, .bool r.2] : Value)) (numDiv a b up); rw [numDiv, h3, h2, h1] <;> rfl) (fin_ret (res_tt rfl rfl rfl))
      · refine ac_else' (b := b == 0) h3 rfl ?_
        refine ac_skip ?_
        refine ac_seq ?_
        refine ac_region_lit ?_
        refine ao 20 rfl rfl (st_move (v := .int .i64 a) rfl rfl ?_)
        refine ao 21 rfl rfl (st_bi (u := .int .i64 a) (v := .int .i64 65536) (r := .int .i64 (w64 (a * 65536))) rfl rfl rfl (bi_mul rfl) ?_)
        refine ao 22 rfl rfl (st_move (v := .int .i64 b) rfl rfl ?_)
        refine ao 23 rfl rfl (st_move (v := .bool up) rfl rfl ?_)
        refine ao 24 rfl rfl (st_cf (vs := [.int .i64 (w64 (a * 65536)), .int .i64 b, .bool up]) (r := .tuple #[.int .i64 ((numRounded (w64 (a * 65536)) b up).1), .bool ((numRounded (w64 (a * 65536)) b up).2)]) (c_numRounded (w64 (a * 65536)) b up (ne_of_beq0 h3)) Try.func101 rfl (by decide) rfl rfl rfl ?_)
        refine ao 25 rfl rfl (st_ex (vs := [.int .i64 ((numRounded (w64 (a * 65536)) b up).1), .bool ((numRounded (w64 (a * 65536)) b up).2)]) (v := .int .i64 ((numRounded (w64 (a * 65536)) b up).1)) rfl rfl rfl ?_)
        refine ao 26 rfl rfl (st_ex (vs := [.int .i64 ((numRounded (w64 (a * 65536)) b up).1), .bool ((numRounded (w64 (a * 65536)) b up).2)]) (v := .bool ((numRounded (w64 (a * 65536)) b up).2)) rfl rfl rfl ?_)
        refine ao 6 rfl rfl (st_assign (v := .int .i64 ((numRounded (w64 (a * 65536)) b up).1)) rfl rfl ?_)
        refine ao 7 rfl rfl (st_assign (v := .bool ((numRounded (w64 (a * 65536)) b up).2)) rfl rfl ?_)
        refine ar_nil ?_
        refine ac_ret ?_
        exact fin_eq (v := .tuple #[.int .i64 ((numRounded (w64 (a * 65536)) b up).1), .bool ((numRounded (w64 (a * 65536)) b up).2)]) (by show _ = (fun (r : Int × Bool) => (.tuple #[.int .i64 r.1, .bool r.2] : Value)) (numDiv a b up); rw [numDiv, h3, h2, h1] <;> rfl) (fin_ret (res_tt rfl rfl rfl))
    · refine ar_sk (d := (some 17)) (by show ((!(numIn b)) == false) = false; rw [h2]; rfl) rfl ?_
      refine ar_sk (d := (some 18)) (by show ((!(numIn b)) == false) = false; rw [h2]; rfl) rfl ?_
      refine ao 19 rfl rfl (st_pkt' (b := !(numIn b)) (v := .bool true) (by rw [h2]; rfl) rfl rfl rfl ?_)
      refine ar_nil ?_
      refine ac_then rfl ?_
      refine ac_seq ?_
      refine ac_region_lit ?_
      refine ao 6 rfl rfl (st_assign (v := .int .i64 0) rfl rfl ?_)
      refine ao 7 rfl rfl (st_assign (v := .bool false) rfl rfl ?_)
      refine ar_nil ?_
      refine ac_ret ?_
      exact fin_eq (v := .tuple #[.int .i64 0, .bool false]) (by show _ = (fun (r : Int × Bool) => (.tuple #[.int .i64 r.1, .bool r.2] : Value)) (numDiv a b up); rw [numDiv, h2, h1] <;> rfl) (fin_ret (res_tt rfl rfl rfl))
  · refine ar_sk (d := (some 12)) (by show ((!(numIn a)) == false) = false; rw [h1]; rfl) rfl ?_
    refine ar_sk (d := (some 13)) (by show ((!(numIn a)) == false) = false; rw [h1]; rfl) rfl ?_
    refine ar_sk (d := (some 14)) (by show ((!(numIn a)) == false) = false; rw [h1]; rfl) rfl ?_
    refine ao 15 rfl rfl (st_pkt' (b := !(numIn a)) (v := .bool true) (by rw [h1]; rfl) rfl rfl rfl ?_)
    refine ao 16 rfl rfl (st_move (v := .bool true) rfl rfl ?_)
    refine ar_sk (d := (some 17)) rfl rfl ?_
    refine ar_sk (d := (some 18)) rfl rfl ?_
    refine ao 19 rfl rfl (st_pkt (v := .bool true) rfl rfl rfl ?_)
    refine ar_nil ?_
    refine ac_then rfl ?_
    refine ac_seq ?_
    refine ac_region_lit ?_
    refine ao 6 rfl rfl (st_assign (v := .int .i64 0) rfl rfl ?_)
    refine ao 7 rfl rfl (st_assign (v := .bool false) rfl rfl ?_)
    refine ar_nil ?_
    refine ac_ret ?_
    exact fin_eq (v := .tuple #[.int .i64 0, .bool false]) (by show _ = (fun (r : Int × Bool) => (.tuple #[.int .i64 r.1, .bool r.2] : Value)) (numDiv a b up); rw [numDiv, h1] <;> rfl) (fin_ret (res_tt rfl rfl rfl))
end Go.Proofs.Ythngkopcadlciaa
namespace Go.Proofs.Ythngkopcadlciaa
open Go.RowKit
attribute [local irreducible] AC AR DWalk
def numRootLoop (n : Int) : Nat → Int → Int
  | 0, r => r
  | j + 1, r => bif decide ((w64 ((orI r (w64 (1 * 2 ^ (min (Int.toNat (j : Int)) 64)))) * (orI r (w64 (1 * 2 ^ (min (Int.toNat (j : Int)) 64)))))) ≤ n) then numRootLoop n j (orI r (w64 (1 * 2 ^ (min (Int.toNat (j : Int)) 64)))) else numRootLoop n j r
set_option maxRecDepth 100000 in
theorem c_numRoot_loop (n : Int) (up : Bool) {Q : Exit → Env → List Box → Prop} {H : List Box} {c : Code} (hc : Try.f122.body.bind loopOf = some c) : ∀ (j : Nat) (r k : Int) (E : Env), j ≤ 64 → k = (j : Int) - 1 → E 1 = .bool up → E 6 = .int .i64 n → E 7 = .int .i64 r → E 8 = .int .i64 k →
    (∀ E' : Env, E' 1 = .bool up → E' 6 = .int .i64 n → E' 7 = .int .i64 (numRootLoop n j r) → Q (.exit 0) E' H) → ARounds Try.prog 44 c Q (j + 1) E H := by
  rw [show Try.f122.body.bind loopOf = some _ from rfl] at hc
  cases hc
  intro j
  induction j with
  | zero =>
    intro r k E hj hk h1 h6 h7 h8 hn
    obtain rfl : k = -1 := by omega
    obtain ⟨E0, rfl⟩ := env4 h1 h6 h7 h8
    refine ar_round ?_
    refine ac_seq ?_
    refine ac_seq ?_
    refine ac_region_lit ?_
    refine ao 19 rfl rfl (st_move (v := .int .i64 (-1)) rfl rfl ?_)
    refine ao 20 rfl rfl (st_bi (u := .int .i64 (-1)) (v := .int .i64 0) (r := .bool false) rfl rfl rfl (bi_geq (by decide)) ?_)
    refine ar_nil ?_
    refine ac_else rfl ?_
    refine ac_exit ?_
    exact hn _ rfl rfl rfl
  | succ j ih =>
    intro r k E hj hk h1 h6 h7 h8 hn
    obtain rfl : k = (j : Int) := by omega
    obtain ⟨E0, rfl⟩ := env4 h1 h6 h7 h8
    have h0 : decide ((j : Int) ≥ 0) = true := decide_eq_true (by omega)
    refine ar_round ?_
    cases h9 : decide ((w64 ((orI r (w64 (1 * 2 ^ (min (Int.toNat (j : Int)) 64)))) * (orI r (w64 (1 * 2 ^ (min (Int.toNat (j : Int)) 64)))))) ≤ n) with
    | false =>
      refine ac_seq ?_
      refine ac_seq ?_
      refine ac_region_lit ?_
      refine ao 19 rfl rfl (st_move (v := .int .i64 (j : Int)) rfl rfl ?_)
      refine ao 20 rfl rfl (st_bi (u := .int .i64 (j : Int)) (v := .int .i64 0) (r := .bool (decide ((j : Int) ≥ 0))) rfl rfl rfl (bi_geq rfl) ?_)
      refine ar_nil ?_
      refine ac_then' (b := decide ((j : Int) ≥ 0)) h0 rfl ?_
      refine ac_skip ?_
      refine ac_seq ?_
      refine ac_block ?_
      refine ac_seq ?_
      refine ac_region_lit ?_
      refine ao 23 rfl rfl (st_move (v := .int .i64 r) rfl rfl ?_)
      refine ao 24 rfl rfl (st_move (v := .int .i64 (j : Int)) rfl rfl ?_)
      refine ao 25 rfl rfl (st_bi (u := .int .i64 1) (v := .int .i64 (j : Int)) (r := .int .i64 (w64 (1 * 2 ^ (min (Int.toNat (j : Int)) 64)))) rfl rfl rfl (bi_shl rfl (by omega)) ?_)
      refine ao 26 rfl rfl (st_bi (u := .int .i64 r) (v := .int .i64 (w64 (1 * 2 ^ (min (Int.toNat (j : Int)) 64)))) (r := .int .i64 (orI r (w64 (1 * 2 ^ (min (Int.toNat (j : Int)) 64))))) rfl rfl rfl (bi_or rfl) ?_)
      refine ao 9 rfl rfl (st_assign (v := .int .i64 (orI r (w64 (1 * 2 ^ (min (Int.toNat (j : Int)) 64))))) rfl rfl ?_)
      refine ar_nil ?_
      refine ac_seq ?_
      refine ac_region_lit ?_
      refine ao 27 rfl rfl (st_move (v := .int .i64 (orI r (w64 (1 * 2 ^ (min (Int.toNat (j : Int)) 64))))) rfl rfl ?_)
      refine ao 28 rfl rfl (st_move (v := .int .i64 (orI r (w64 (1 * 2 ^ (min (Int.toNat (j : Int)) 64))))) rfl rfl ?_)
      refine ao 29 rfl rfl (st_bi (u := .int .i64 (orI r (w64 (1 * 2 ^ (min (Int.toNat (j : Int)) 64))))) (v := .int .i64 (orI r (w64 (1 * 2 ^ (min (Int.toNat (j : Int)) 64))))) (r := .int .i64 (w64 ((orI r (w64 (1 * 2 ^ (min (Int.toNat (j : Int)) 64)))) * (orI r (w64 (1 * 2 ^ (min (Int.toNat (j : Int)) 64))))))) rfl rfl rfl (bi_mul rfl) ?_)
      refine ao 30 rfl rfl (st_move (v := .int .i64 n) rfl rfl ?_)
      refine ao 31 rfl rfl (st_bi (u := .int .i64 (w64 ((orI r (w64 (1 * 2 ^ (min (Int.toNat (j : Int)) 64)))) * (orI r (w64 (1 * 2 ^ (min (Int.toNat (j : Int)) 64))))))) (v := .int .i64 n) (r := .bool (decide ((w64 ((orI r (w64 (1 * 2 ^ (min (Int.toNat (j : Int)) 64)))) * (orI r (w64 (1 * 2 ^ (min (Int.toNat (j : Int)) 64)))))) ≤ n))) rfl rfl rfl (bi_leq rfl) ?_)
      refine ar_nil ?_
      refine ac_else' (b := decide ((w64 ((orI r (w64 (1 * 2 ^ (min (Int.toNat (j : Int)) 64)))) * (orI r (w64 (1 * 2 ^ (min (Int.toNat (j : Int)) 64)))))) ≤ n)) h9 rfl ?_
      refine ac_skip ?_
      refine ac_region_lit ?_
      refine ao 21 rfl rfl (st_move (v := .int .i64 (j : Int)) rfl rfl ?_)
      refine ao 22 rfl rfl (st_bi (u := .int .i64 (j : Int)) (v := .int .i64 1) (r := .int .i64 (w64 ((j : Int) - 1))) rfl rfl rfl (bi_sub rfl) ?_)
      refine ao 8 rfl rfl (st_assign (v := .int .i64 (w64 ((j : Int) - 1))) rfl rfl ?_)
      refine ar_nil ?_
      refine ih _ _ _ (by omega) (w64_id (by omega)) rfl rfl rfl rfl (fun E' a b c => hn E' a b ?_)
      rw [c, numRootLoop, h9]; rfl
    | true =>
      refine ac_seq ?_
      refine ac_seq ?_
      refine ac_region_lit ?_
      refine ao 19 rfl rfl (st_move (v := .int .i64 (j : Int)) rfl rfl ?_)
      refine ao 20 rfl rfl (st_bi (u := .int .i64 (j : Int)) (v := .int .i64 0) (r := .bool (decide ((j : Int) ≥ 0))) rfl rfl rfl (bi_geq rfl) ?_)
      refine ar_nil ?_
      refine ac_then' (b := decide ((j : Int) ≥ 0)) h0 rfl ?_
      refine ac_skip ?_
      refine ac_seq ?_
      refine ac_block ?_
      refine ac_seq ?_
      refine ac_region_lit ?_
      refine ao 23 rfl rfl (st_move (v := .int .i64 r) rfl rfl ?_)
      refine ao 24 rfl rfl (st_move (v := .int .i64 (j : Int)) rfl rfl ?_)
      refine ao 25 rfl rfl (st_bi (u := .int .i64 1) (v := .int .i64 (j : Int)) (r := .int .i64 (w64 (1 * 2 ^ (min (Int.toNat (j : Int)) 64)))) rfl rfl rfl (bi_shl rfl (by omega)) ?_)
      refine ao 26 rfl rfl (st_bi (u := .int .i64 r) (v := .int .i64 (w64 (1 * 2 ^ (min (Int.toNat (j : Int)) 64)))) (r := .int .i64 (orI r (w64 (1 * 2 ^ (min (Int.toNat (j : Int)) 64))))) rfl rfl rfl (bi_or rfl) ?_)
      refine ao 9 rfl rfl (st_assign (v := .int .i64 (orI r (w64 (1 * 2 ^ (min (Int.toNat (j : Int)) 64))))) rfl rfl ?_)
      refine ar_nil ?_
      refine ac_seq ?_
      refine ac_region_lit ?_
      refine ao 27 rfl rfl (st_move (v := .int .i64 (orI r (w64 (1 * 2 ^ (min (Int.toNat (j : Int)) 64))))) rfl rfl ?_)
      refine ao 28 rfl rfl (st_move (v := .int .i64 (orI r (w64 (1 * 2 ^ (min (Int.toNat (j : Int)) 64))))) rfl rfl ?_)
      refine ao 29 rfl rfl (st_bi (u := .int .i64 (orI r (w64 (1 * 2 ^ (min (Int.toNat (j : Int)) 64))))) (v := .int .i64 (orI r (w64 (1 * 2 ^ (min (Int.toNat (j : Int)) 64))))) (r := .int .i64 (w64 ((orI r (w64 (1 * 2 ^ (min (Int.toNat (j : Int)) 64)))) * (orI r (w64 (1 * 2 ^ (min (Int.toNat (j : Int)) 64))))))) rfl rfl rfl (bi_mul rfl) ?_)
      refine ao 30 rfl rfl (st_move (v := .int .i64 n) rfl rfl ?_)
      refine ao 31 rfl rfl (st_bi (u := .int .i64 (w64 ((orI r (w64 (1 * 2 ^ (min (Int.toNat (j : Int)) 64)))) * (orI r (w64 (1 * 2 ^ (min (Int.toNat (j : Int)) 64))))))) (v := .int .i64 n) (r := .bool (decide ((w64 ((orI r (w64 (1 * 2 ^ (min (Int.toNat (j : Int)) 64)))) * (orI r (w64 (1 * 2 ^ (min (Int.toNat (j : Int)) 64)))))) ≤ n))) rfl rfl rfl (bi_leq rfl) ?_)
      refine ar_nil ?_
      refine ac_then' (b := decide ((w64 ((orI r (w64 (1 * 2 ^ (min (Int.toNat (j : Int)) 64)))) * (orI r (w64 (1 * 2 ^ (min (Int.toNat (j : Int)) 64)))))) ≤ n)) h9 rfl ?_
      refine ac_region_lit ?_
      refine ao 32 rfl rfl (st_move (v := .int .i64 (orI r (w64 (1 * 2 ^ (min (Int.toNat (j : Int)) 64))))) rfl rfl ?_)
      refine ao 7 rfl rfl (st_assign (v := .int .i64 (orI r (w64 (1 * 2 ^ (min (Int.toNat (j : Int)) 64))))) rfl rfl ?_)
      refine ar_nil ?_
      refine ac_region_lit ?_
      refine ao 21 rfl rfl (st_move (v := .int .i64 (j : Int)) rfl rfl ?_)
      refine ao 22 rfl rfl (st_bi (u := .int .i64 (j : Int)) (v := .int .i64 1) (r := .int .i64 (w64 ((j : Int) - 1))) rfl rfl rfl (bi_sub rfl) ?_)
      refine ao 8 rfl rfl (st_assign (v := .int .i64 (w64 ((j : Int) - 1))) rfl rfl ?_)
      refine ar_nil ?_
      refine ih _ _ _ (by omega) (w64_id (by omega)) rfl rfl rfl rfl (fun E' a b c => hn E' a b ?_)
      rw [c, numRootLoop, h9]; rfl
def numRoot_e0 (a : Int) (up : Bool) : Int := (bif decide ((w64 ((numRootLoop (w64 (a * 65536)) 25 0) * (numRootLoop (w64 (a * 65536)) 25 0))) < (w64 (a * 65536))) then (w64 ((numRootLoop (w64 (a * 65536)) 25 0) + 1)) else (numRootLoop (w64 (a * 65536)) 25 0))
def numRoot (a : Int) (up : Bool) : Int × Bool := (bif decide (a < 0) then (0, false) else (bif numIn a then (bif up then ((numRoot_e0 a up), true) else (numRootLoop (w64 (a * 65536)) 25 0, true)) else (0, false)))
set_option maxRecDepth 100000 in
theorem c_numRoot (a : Int) (up : Bool) : Gets Try.prog 122 #[.int .i64 a, .bool up] ((fun (r : Int × Bool) => (.tuple #[.int .i64 r.1, .bool r.2] : Value)) (numRoot a up)) := by
  refine gets_fin Try.func122 rfl rfl rfl ?_
  refine ac_seq ?_
  refine ac_region_lit ?_
  refine ao 4 rfl rfl (st_assign (v := .int .i64 0) rfl rfl ?_)
  refine ao 5 rfl rfl (st_assign (v := .bool false) rfl rfl ?_)
  refine ar_nil ?_
  refine ac_seq ?_
  refine ac_seq ?_
  refine ac_region_lit ?_
  refine ao 10 rfl rfl (st_move (v := .int .i64 a) rfl rfl ?_)
  refine ao 11 rfl rfl (st_bi (u := .int .i64 a) (v := .int .i64 0) (r := .bool (decide (a < 0))) rfl rfl rfl (bi_lss rfl) ?_)
  refine ao 12 rfl rfl (st_move (v := .bool (decide (a < 0))) rfl rfl ?_)
  refine bool_split (decide (a < 0)) (fun h1 => ?_) (fun h1 => ?_)
  · refine ar_sk (d := (some 13)) (by show ((decide (a < 0)) == false) = false; rw [h1]; rfl) rfl ?_
    refine ar_sk (d := (some 14)) (by show ((decide (a < 0)) == false) = false; rw [h1]; rfl) rfl ?_
    refine ar_sk (d := (some 15)) (by show ((decide (a < 0)) == false) = false; rw [h1]; rfl) rfl ?_
    refine ao 16 rfl rfl (st_pkt' (b := decide (a < 0)) (v := .bool true) h1 rfl rfl rfl ?_)
    refine ar_nil ?_
    refine ac_then rfl ?_
    refine ac_seq ?_
    refine ac_region_lit ?_
    refine ao 4 rfl rfl (st_assign (v := .int .i64 0) rfl rfl ?_)
    refine ao 5 rfl rfl (st_assign (v := .bool false) rfl rfl ?_)
    refine ar_nil ?_
    refine ac_ret ?_
    exact fin_eq (v := .tuple #[.int .i64 0, .bool false]) (by show _ = (fun (r : Int × Bool) => (.tuple #[.int .i64 r.1, .bool r.2] : Value)) (numRoot a up); rw [numRoot, h1] <;> rfl) (fin_ret (res_tt rfl rfl rfl))
  · refine ar_gd (d := (some 13)) (by show ((decide (a < 0)) == false) = true; rw [h1]; rfl) rfl (st_move (v := .int .i64 a) rfl rfl ?_)
    refine ar_gd (d := (some 14)) (by show ((decide (a < 0)) == false) = true; rw [h1]; rfl) rfl (st_cf (vs := [.int .i64 a]) (r := .bool (numIn a)) (c_numIn a) Try.func65 rfl (by decide) rfl rfl rfl ?_)
    refine ar_gd (d := (some 15)) (by show ((decide (a < 0)) == false) = true; rw [h1]; rfl) rfl (st_un (u := .bool (numIn a)) (v := .bool (!(numIn a))) rfl rfl (un_not rfl) ?_)
    refine ao 16 rfl rfl (st_pkf' (b := decide (a < 0)) (v := .bool (!(numIn a))) h1 rfl rfl rfl ?_)
    refine ar_nil ?_
    refine bool_split (numIn a) (fun h2 => ?_) (fun h2 => ?_)
    · refine ac_else' (b := !(numIn a)) (by rw [h2]; rfl) rfl ?_
      refine ac_skip ?_
      refine ac_seq ?_
      refine ac_region_lit ?_
      refine ao 17 rfl rfl (st_move (v := .int .i64 a) rfl rfl ?_)
      refine ao 18 rfl rfl (st_bi (u := .int .i64 a) (v := .int .i64 65536) (r := .int .i64 (w64 (a * 65536))) rfl rfl rfl (bi_mul rfl) ?_)
      refine ao 6 rfl rfl (st_assign (v := .int .i64 (w64 (a * 65536))) rfl rfl ?_)
      refine ao 7 rfl rfl (st_assign (v := .int .i64 0) rfl rfl ?_)
      refine ar_nil ?_
      refine ac_seq ?_
      refine ac_seq ?_
      refine ac_region_lit ?_
      refine ao 8 rfl rfl (st_assign (v := .int .i64 24) rfl rfl ?_)
      refine ar_nil ?_
      refine ac_block ?_
      refine ac_rounds 26 ?_
      refine c_numRoot_loop (n := (w64 (a * 65536))) (up := up) rfl 25 0 _ _ (by decide) rfl rfl rfl rfl rfl (fun E1 q1 q6 q7 => ?_)
      obtain ⟨E0, rfl⟩ := env3 q1 q6 q7
      refine ac_seq ?_
      refine ac_seq ?_
      refine ac_region_lit ?_
      refine ao 33 rfl rfl (st_move (v := .bool up) rfl rfl ?_)
      refine ao 34 rfl rfl (st_move (v := .bool up) rfl rfl ?_)
      refine bool_split (up) (fun h3 => ?_) (fun h3 => ?_)
      · refine ar_gd (d := (some 35)) (by show (up == true) = true; rw [h3]; rfl) rfl (st_move (v := .int .i64 (numRootLoop (w64 (a * 65536)) 25 0)) rfl rfl ?_)
        refine ar_gd (d := (some 36)) (by show (up == true) = true; rw [h3]; rfl) rfl (st_move (v := .int .i64 (numRootLoop (w64 (a * 65536)) 25 0)) rfl rfl ?_)
        refine ar_gd (d := (some 37)) (by show (up == true) = true; rw [h3]; rfl) rfl (st_bi (u := .int .i64 (numRootLoop (w64 (a * 65536)) 25 0)) (v := .int .i64 (numRootLoop (w64 (a * 65536)) 25 0)) (r := .int .i64 (w64 ((numRootLoop (w64 (a * 65536)) 25 0) * (numRootLoop (w64 (a * 65536)) 25 0)))) rfl rfl rfl (bi_mul rfl) ?_)
        refine ar_gd (d := (some 38)) (by show (up == true) = true; rw [h3]; rfl) rfl (st_move (v := .int .i64 (w64 (a * 65536))) rfl rfl ?_)
        refine ar_gd (d := (some 39)) (by show (up == true) = true; rw [h3]; rfl) rfl (st_bi (u := .int .i64 (w64 ((numRootLoop (w64 (a * 65536)) 25 0) * (numRootLoop (w64 (a * 65536)) 25 0)))) (v := .int .i64 (w64 (a * 65536))) (r := .bool (decide ((w64 ((numRootLoop (w64 (a * 65536)) 25 0) * (numRootLoop (w64 (a * 65536)) 25 0))) < (w64 (a * 65536))))) rfl rfl rfl (bi_lss rfl) ?_)
        refine ao 40 rfl rfl (st_pkt' (b := up) (v := .bool (decide ((w64 ((numRootLoop (w64 (a * 65536)) 25 0) * (numRootLoop (w64 (a * 65536)) 25 0))) < (w64 (a * 65536))))) h3 rfl rfl rfl ?_)
        refine ar_nil ?_
        refine ac_mergeE (fun E9 => (((Env.put E9 (some 41) (.int .i64 (numRootLoop (w64 (a * 65536)) 25 0))).put (some 42) (.int .i64 (w64 ((numRootLoop (w64 (a * 65536)) 25 0) + 1)))).put (some 7) (.int .i64 (w64 ((numRootLoop (w64 (a * 65536)) 25 0) + 1))))) (fun E9 => (((Env.put E9 (some 41) (bif decide ((w64 ((numRootLoop (w64 (a * 65536)) 25 0) * (numRootLoop (w64 (a * 65536)) 25 0))) < (w64 (a * 65536))) then (.int .i64 (numRootLoop (w64 (a * 65536)) 25 0) : Value) else E9 41)).put (some 42) (bif decide ((w64 ((numRootLoop (w64 (a * 65536)) 25 0) * (numRootLoop (w64 (a * 65536)) 25 0))) < (w64 (a * 65536))) then (.int .i64 (w64 ((numRootLoop (w64 (a * 65536)) 25 0) + 1)) : Value) else E9 42)).put (some 7) (.int .i64 (numRoot_e0 a up)))) (b := decide ((w64 ((numRootLoop (w64 (a * 65536)) 25 0) * (numRootLoop (w64 (a * 65536)) 25 0))) < (w64 (a * 65536)))) rfl (fun hm => ?_) (fun hm => ?_) (fun hm => ?_) ?_
        · refine ac_region_lit ?_
          refine ao 41 rfl rfl (st_move (v := .int .i64 (numRootLoop (w64 (a * 65536)) 25 0)) rfl rfl ?_)
          refine ao 42 rfl rfl (st_bi (u := .int .i64 (numRootLoop (w64 (a * 65536)) 25 0)) (v := .int .i64 1) (r := .int .i64 (w64 ((numRootLoop (w64 (a * 65536)) 25 0) + 1))) rfl rfl rfl (bi_add rfl) ?_)
          refine ao 7 rfl rfl (st_assign (v := .int .i64 (w64 ((numRootLoop (w64 (a * 65536)) 25 0) + 1))) rfl rfl ?_)
          refine ar_nil ?_
          exact ⟨rfl, rfl, rfl⟩
        · unfold numRoot_e0; rw [hm]; rfl
        · unfold numRoot_e0; rw [hm]; exact ((put_self rfl).trans ((put_self rfl).trans (put_self rfl)))
        refine ac_seq ?_
        refine ac_region_lit ?_
        refine ao 43 rfl rfl (st_move (v := .int .i64 (numRoot_e0 a up)) rfl rfl ?_)
        refine ao 4 rfl rfl (st_assign (v := .int .i64 (numRoot_e0 a up)) rfl rfl ?_)
        refine ao 5 rfl rfl (st_assign (v := .bool true) rfl rfl ?_)
        refine ar_nil ?_
        refine ac_ret ?_
        exact fin_eq (v := .tuple #[.int .i64 (numRoot_e0 a up), .bool true]) (by show _ = (fun (r : Int × Bool) => (.tuple #[.int .i64 r.1, .bool r.2] : Value)) (numRoot a up); rw [numRoot, h3, h2, h1] <;> rfl) (fin_ret (res_tt rfl rfl rfl))
      · refine ar_sk (d := (some 35)) (by show (up == true) = false; rw [h3]; rfl) rfl ?_
        refine ar_sk (d := (some 36)) (by show (up == true) = false; rw [h3]; rfl) rfl ?_
        refine ar_sk (d := (some 37)) (by show (up == true) = false; rw [h3]; rfl) rfl ?_
        refine ar_sk (d := (some 38)) (by show (up == true) = false; rw [h3]; rfl) rfl ?_
        refine ar_sk (d := (some 39)) (by show (up == true) = false; rw [h3]; rfl) rfl ?_
        refine ao 40 rfl rfl (st_pkf' (b := up) (v := .bool false) h3 rfl rfl rfl ?_)
        refine ar_nil ?_
        refine ac_else rfl ?_
        refine ac_skip ?_
        refine ac_seq ?_
        refine ac_region_lit ?_
        refine ao 43 rfl rfl (st_move (v := .int .i64 (numRootLoop (w64 (a * 65536)) 25 0)) rfl rfl ?_)
        refine ao 4 rfl rfl (st_assign (v := .int .i64 (numRootLoop (w64 (a * 65536)) 25 0)) rfl rfl ?_)
        refine ao 5 rfl rfl (st_assign (v := .bool true) rfl rfl ?_)
        refine ar_nil ?_
        refine ac_ret ?_
        exact fin_eq (v := .tuple #[.int .i64 (numRootLoop (w64 (a * 65536)) 25 0), .bool true]) (by show _ = (fun (r : Int × Bool) => (.tuple #[.int .i64 r.1, .bool r.2] : Value)) (numRoot a up); rw [numRoot, h3, h2, h1] <;> rfl) (fin_ret (res_tt rfl rfl rfl))
    · refine ac_then' (b := !(numIn a)) (by rw [h2]; rfl) rfl ?_
      refine ac_seq ?_
      refine ac_region_lit ?_
      refine ao 4 rfl rfl (st_assign (v := .int .i64 0) rfl rfl ?_)
      refine ao 5 rfl rfl (st_assign (v := .bool false) rfl rfl ?_)
      refine ar_nil ?_
      refine ac_ret ?_
      exact fin_eq (v := .tuple #[.int .i64 0, .bool false]) (by show _ = (fun (r : Int × Bool) => (.tuple #[.int .i64 r.1, .bool r.2] : Value)) (numRoot a up); rw [numRoot, h2, h1] <;> rfl) (fin_ret (res_tt rfl rfl rfl))
end Go.Proofs.Ythngkopcadlciaa