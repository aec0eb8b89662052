import Derived.Test.YtalffjplbhelcaaGreatDoorMGlassKnown1
import Derived.Test.YtalffjplbhelcaaGreatDoorMGlassKnown2
set_option linter.unusedVariables false
set_option linter.unusedSimpArgs false
namespace Go.Proofs.YtalffjplbhelcaaGreatDoor
open Go.RowKit
def drawOkL (ops : Array Oper) (fx al ta : List Nat) (q : Nat) : Bool :=
  let body := fx ++ al
  let all := body ++ ta
  (all.length == ops.size) && nodupB all && ((List.range ops.size).all fun i => all.contains i) && (all.all fun i => Nat.blt i ops.size)
  && ((List.range ops.size).all fun i => match ops[i]? with | some o => (o.after.all fun e => !(Region.binds .any e) || Nat.blt e.on i) | none => false)
  && (Region.noSelect ops)
  && (body.all fun i => body.all fun j => i == j || (match dstOf ops i, dstOf ops j with | some x, some y => !(Nat.beq x y) | _, _ => true))
  && ((List.range fx.length).all fun k => match fx[k]? with
      | some i => (match ops[i]? with
        | some o => (Oper.looksAt ops o).all fun t => body.all fun j => (match dstOf ops j with | some d => !(Nat.beq d t) | none => true) || (bindsOn o j && (fx.take k).contains j)
        | none => false)
      | none => false)
  && ((List.range ta.length).all fun k => match ta[k]? with
      | some i => k == 0 || ((body ++ ta.take k).all fun j => before_ ops i j || (body ++ ta.take k).any fun m => before_ ops m j)
      | none => false)
  && (match ta[0]? with | some i => (body.all fun j => j == q || before_ ops i j || body.any fun m => !(m == q) && before_ ops m j) | none => true)
  && fx.contains q
  && (match ops[q]? with | some oq => (oq.after.all fun e => !(Region.binds .any e) || body.contains e.on) && (ta.all fun j => match ops[j]? with | some oj => bindsOn oj q || oq.apart ops oj | none => false) | none => false)
section
variable {p : Program} {n : Nat} {ops : Array Oper}
structure DrawOkL (ops : Array Oper) (fx al ta : List Nat) (q : Nat) : Prop where
  len : (fx ++ al ++ ta).length = ops.size
  nodup : (fx ++ al ++ ta).Nodup
  all : ∀ i, i < ops.size → i ∈ fx ++ al ++ ta
  lt : ∀ i ∈ fx ++ al ++ ta, i < ops.size
  back : ∀ i o, ops[i]? = some o → ∀ e ∈ o.after, Region.binds .any e = true → e.on < i
  sel : Region.noSelect ops = true
  dsts : ∀ i ∈ fx ++ al, ∀ j ∈ fx ++ al, ∀ t, dstOf ops i = some t → dstOf ops j = some t → i = j
  looks : ∀ k i o, fx[k]? = some i → ops[i]? = some o → ∀ t ∈ Oper.looksAt ops o, ∀ j ∈ fx ++ al, dstOf ops j = some t → bindsOn o j = true ∧ j ∈ fx.take k
  tails : ∀ k i, ta[k]? = some i → k ≠ 0 → ∀ j ∈ fx ++ al ++ ta.take k, before_ ops i j = true ∨ ∃ m ∈ fx ++ al ++ ta.take k, before_ ops m j = true
  tails0 : ∀ i, ta[0]? = some i → ∀ j ∈ fx ++ al, j ≠ q → before_ ops i j = true ∨ ∃ m ∈ fx ++ al, m ≠ q ∧ before_ ops m j = true
  late : q ∈ fx
  deps : ∀ oq, ops[q]? = some oq → ∀ e ∈ oq.after, Region.binds .any e = true → e.on ∈ fx ++ al
  far : ∀ oq, ops[q]? = some oq → ∀ j ∈ ta, ∀ oj, ops[j]? = some oj → bindsOn oj q = true ∨ oq.apart ops oj = true
theorem drawOkL_spec {fx al ta : List Nat} {q : Nat} (h : drawOkL ops fx al ta q = true) : DrawOkL ops fx al ta q := by
  simp only [drawOkL, Bool.and_eq_true, List.all_eq_true, List.mem_range, beq_iff_eq, Nat.blt_eq] at h
  obtain ⟨⟨⟨⟨⟨⟨⟨⟨⟨⟨⟨h1, h2⟩, h3⟩, h4⟩, h5⟩, h6⟩, h7⟩, h8⟩, h9⟩, h10⟩, h11⟩, h12⟩ := h
  refine ⟨h1, nodupB_spec _ h2, fun i hi => by simpa using h3 i hi, fun i hi => h4 i hi, ?_, h6, ?_, ?_, ?_, ?_, by simpa using h11, ?_, ?_⟩
  · intro i o ho e he hb
    have := h5 i (Array.getElem?_eq_some_iff.1 ho).1
    rw [ho] at this
    have h := Array.all_eq_true_iff_forall_mem.1 this e he
    simp only [hb, Bool.not_true, Bool.false_or, Nat.blt_eq] at h
    exact h
  · intro i hi j hj t hti htj
    have := h7 i hi j hj
    rw [hti, htj] at this
    simpa using this
  · intro k i o hk ho t ht j hj hd
    have hlt : k < fx.length := (List.getElem?_eq_some_iff.1 hk).1
    have := h8 k hlt
    rw [hk] at this
    simp only [ho] at this
    have := List.all_eq_true.1 (List.all_eq_true.1 this t ht) j hj
    rw [hd] at this
    simpa using this
  · intro k i hk hk0 j hj
    have hlt : k < ta.length := (List.getElem?_eq_some_iff.1 hk).1
    have := h9 k hlt
    rw [hk] at this
    simp only [Bool.or_eq_true, beq_iff_eq, hk0, false_or] at this
    have := List.all_eq_true.1 this j hj
    rw [Bool.or_eq_true, List.any_eq_true] at this
    exact this
  · intro i hi j hj hjq
    rw [hi] at h10
    have := List.all_eq_true.1 h10 j hj
    simp only [Bool.or_eq_true, beq_iff_eq, List.any_eq_true, Bool.and_eq_true, Bool.not_eq_true', beq_eq_false_iff_ne, ne_eq] at this
    rcases this with (h | h) | h
    · exact absurd h hjq
    · exact .inl h
    · exact .inr h
  · intro oq hoq e he hb
    rw [hoq] at h12
    simp only [Bool.and_eq_true] at h12
    have h := Array.all_eq_true_iff_forall_mem.1 h12.1 e he
    simp only [hb, Bool.not_true, Bool.false_or] at h
    simpa using h
  · intro oq hoq j hj oj hoj
    rw [hoq] at h12
    simp only [Bool.and_eq_true] at h12
    have := List.all_eq_true.1 h12.2 j hj
    rw [hoj] at this
    simpa using this
theorem tail_waitsL {fx al ta : List Nat} {q : Nat} (hok : DrawOkL ops fx al ta q) {L : Array Bool} (hd : Down ops L) {k i : Nat} (hk : ta[k]? = some i) (hk0 : k ≠ 0) (hr : i ∈ Region.ready .any ops L) :
    ∀ j ∈ fx ++ al ++ ta.take k, L.getD j false = true := by
  obtain ⟨h0, o, ho, hall⟩ := mem_ready.1 hr
  have key : ∀ m j, j ∈ fx ++ al ++ ta.take k → ops.size - j ≤ m → L.getD j false = true := by
    intro m
    induction m with
    | zero =>
      intro j hj hm
      have : j ∈ fx ++ al ++ ta := by
        rcases List.mem_append.1 hj with h | h
        · exact List.mem_append_left _ h
        · exact List.mem_append_right _ (List.mem_of_mem_take h)
      have := hok.lt j this
      omega
    | succ m ih =>
      intro j hj hm
      rcases hok.tails k i hk hk0 j hj with h | ⟨r, hq, h⟩
      · obtain ⟨o', ho', e, he, hb, hon⟩ := before_spec h
        rw [ho] at ho'
        cases ho'
        rw [← hon]
        exact hall e he hb
      · obtain ⟨o', ho', e, he, hb, hon⟩ := before_spec h
        have hlt : j < r := by rw [← hon]; exact hok.back r o' ho' e he hb
        have hq' : L.getD r false = true := ih r hq (by omega)
        rw [← hon]
        exact hd r o' ho' hq' e he hb
  intro j hj
  exact key (ops.size - j) j hj (Nat.le_refl _)
theorem tail_waits0 {fx al ta : List Nat} {q : Nat} (hok : DrawOkL ops fx al ta q) {L : Array Bool} (hd : Down ops L) {i : Nat} (hk : ta[0]? = some i) (hr : i ∈ Region.ready .any ops L) :
    ∀ j ∈ fx ++ al, j ≠ q → L.getD j false = true := by
  obtain ⟨h0, o, ho, hall⟩ := mem_ready.1 hr
  have key : ∀ m j, j ∈ fx ++ al → j ≠ q → ops.size - j ≤ m → L.getD j false = true := by
    intro m
    induction m with
    | zero =>
      intro j hj hjq hm
      have := hok.lt j (List.mem_append_left _ hj)
      omega
    | succ m ih =>
      intro j hj hjq hm
      rcases hok.tails0 i hk j hj hjq with h | ⟨r, hq, hrq, h⟩
      · obtain ⟨o', ho', e, he, hb, hon⟩ := before_spec h
        rw [ho] at ho'
        cases ho'
        rw [← hon]
        exact hall e he hb
      · obtain ⟨o', ho', e, he, hb, hon⟩ := before_spec h
        have hlt : j < r := by rw [← hon]; exact hok.back r o' ho' e he hb
        have hq' : L.getD r false = true := ih r hq hrq (by omega)
        rw [← hon]
        exact hd r o' ho' hq' e he hb
  intro j hj hjq
  exact key (ops.size - j) j hj hjq (Nat.le_refl _)
theorem ready_someL {fx al ta : List Nat} {q : Nat} (hok : DrawOkL ops fx al ta q) {L : Array Bool} (hs : L.size = ops.size) {i : Nat} (hi : i < ops.size) (hl : L.getD i false = false) : Region.ready .any ops L ≠ [] := by
  have key : ∀ m i, i < m → i < ops.size → L.getD i false = false → ∃ j, j ∈ Region.ready .any ops L := by
    intro m
    induction m with
    | zero => intro i h; omega
    | succ m ih =>
      intro i him hi hl
      obtain ⟨o, ho⟩ : ∃ o, ops[i]? = some o := ⟨_, Array.getElem?_eq_getElem hi⟩
      by_cases hall : ∀ e ∈ o.after, Region.binds .any e = true → L.getD e.on false = true
      · refine ⟨i, mem_ready.2 ⟨?_, o, ho, hall⟩⟩
        have hi' : i < L.size := by omega
        simpa [hi'] using hl
      · obtain ⟨e, he, hb, hne⟩ : ∃ e, e ∈ o.after ∧ Region.binds .any e = true ∧ ¬ L.getD e.on false = true := by
          refine Classical.byContradiction fun hc => hall fun e he hb => ?_
          exact Classical.byContradiction fun hn => hc ⟨e, he, hb, hn⟩
        have hlt := hok.back i o ho e he hb
        exact ih e.on (by omega) (by omega) (by simpa using hne)
  obtain ⟨j, hj⟩ := key (i + 1) i (by omega) hi hl
  intro h
  rw [h] at hj
  cases hj
theorem tail_phaseL {fx al ta : List Nat} {q : Nat} (hok : DrawOkL ops fx al ta q) {Q : Exit → Act → World → Prop} : ∀ (r : List Nat) (k : Nat) (L : Array Bool) (a : Act) (w : World), ta.drop k = r → Down ops L → L.size = ops.size →
    (∀ i ∈ fx ++ al ++ ta.take k, L.getD i false = true) → (∀ i ∈ r, L.getD i false = false) → wpList p ops Q (r.map fun i => (ops[i]?).getD default) a w → wpAny p .any ops Q r.length L a w := by
  intro r
  induction r with
  | nil =>
    intro k L a w hr hd hs hl hn h
    refine ⟨?_, h⟩
    cases hq : Region.ready .any ops L with
    | nil => rfl
    | cons i is =>
      have hi : i ∈ Region.ready .any ops L := by rw [hq]; simp
      obtain ⟨h0, o, ho, hall⟩ := mem_ready.1 hi
      have hlt := (Array.getElem?_eq_some_iff.1 ho).1
      have hk : ta.take k = ta := by
        have := List.take_append_drop k ta
        rw [hr, List.append_nil] at this
        exact this
      have := hl i (by rw [hk]; exact hok.all i hlt)
      have hi' : i < L.size := by omega
      simp [hi'] at h0 this
      rw [h0] at this
      cases this
  | cons i r ih =>
    intro k L a w hr hd hs hl hn h
    have hk : ta[k]? = some i := by
      have : (ta.drop k)[0]? = some i := by rw [hr]; rfl
      simpa using this
    have hr' : ta.drop (k + 1) = r := by
      have : (ta.drop k).drop 1 = r := by rw [hr]; rfl
      rw [List.drop_drop] at this
      exact this
    have hita : i ∈ ta := List.mem_of_getElem? hk
    have hlt : i < ops.size := hok.lt i (List.mem_append_right _ hita)
    have hrun := hn i (by simp)
    refine ⟨fun h0 => absurd h0 (ready_someL hok hs hlt hrun), fun j hj => ?_⟩
    have hjr := mem_ready.1 hj
    obtain ⟨h0, oj, hoj, hall⟩ := hjr
    have hjlt := (Array.getElem?_eq_some_iff.1 hoj).1
    have hji : j = i := by
      have hjn : L.getD j false = false := by
        have hj' : j < L.size := by omega
        simpa [hj'] using h0
      have hjall := hok.all j hjlt
      have hjt : j ∈ ta.drop k := by
        rcases List.mem_append.1 hjall with h | h
        · rw [hl j (List.mem_append_left _ h)] at hjn; cases hjn
        · rw [← List.take_append_drop k ta] at h
          rcases List.mem_append.1 h with h | h
          · rw [hl j (List.mem_append_right _ h)] at hjn; cases hjn
          · exact h
      rw [hr] at hjt
      rcases List.mem_cons.1 hjt with h | h
      · exact h
      · rw [← hr'] at h
        obtain ⟨r', hq⟩ := List.mem_iff_getElem?.1 h
        rw [List.getElem?_drop] at hq
        have := tail_waitsL hok hd hq (by omega) hj i (List.mem_append_right _ (List.mem_of_getElem? (i := k) (by rw [List.getElem?_take, if_pos (by omega)]; exact hk)))
        rw [hrun] at this
        cases this
    subst hji
    have hnd := hok.nodup
    have hnext : ∀ a' w', wpList p ops Q (r.map fun i => (ops[i]?).getD default) a' w' → wpAny p .any ops Q r.length (L.setIfInBounds j true) a' w' := fun a' w' h' => by
      refine ih (k + 1) _ a' w' hr' (hd.set hj) (by simp [hs]) ?_ ?_ h'
      · intro q hq
        by_cases hqj : j = q
        · subst hqj; have : j < L.size := by omega
          simp [this]
        · rw [getD_set_ne false hqj]
          refine hl q ?_
          rw [List.take_add_one, hk] at hq
          simp only [List.mem_append, Option.toList_some, List.mem_singleton] at hq ⊢
          rcases hq with h | h | h
          · exact .inl h
          · exact .inr h
          · exact absurd h.symm hqj
      · intro q hq
        have hqj : j ≠ q := by
          rintro rfl
          have h2 : (fx ++ al ++ (ta.take k ++ (j :: r))).Nodup := by rw [← hr, List.take_append_drop]; exact hnd
          have h3 := (List.nodup_append.1 (List.nodup_append.1 h2).2.1).2.1
          exact (List.nodup_cons.1 h3).1 hq
        rw [getD_set_ne false hqj]
        exact hn q (by simp [hq])
    simp only [List.map_cons, hoj, Option.getD_some] at h
    unfold wpList at h
    unfold wpOp
    simp only [hoj]
    split
    · rename_i hw
      rw [if_pos hw] at h
      exact h.imp (Oper.wp_mono hnext) id
    · rename_i hw
      rw [if_neg hw] at h
      exact hnext _ _ h
section
variable {fx ta : List Nat} {al : List Al} {vs : List (Nat × Value)} {E0 : Env} {H0 : List Box} {Q : Exit → Env → List Box → Prop}
theorem allp_uniqL {q : Nat} (hok : DrawOkL ops fx (al.map (·.i)) ta q) (hvs : vs.map (·.1) = fx) (gs : Nat → Nat) : ∀ y ∈ allp vs al gs, ∀ z ∈ allp vs al gs, ∀ t, dstOf ops y.1 = some t → dstOf ops z.1 = some t → y = z := by
  intro y hy z hz t hyt hzt
  have hf := allp_fst vs al gs
  rw [hvs] at hf
  have hnd : ((allp vs al gs).map (·.1)).Nodup := by rw [hf]; exact (List.nodup_append.1 hok.nodup).1
  refine uniq_fst _ hnd y hy z hz (hok.dsts y.1 ?_ z.1 ?_ t hyt hzt)
  · rw [← hf]; exact List.mem_map.2 ⟨y, hy, rfl⟩
  · rw [← hf]; exact List.mem_map.2 ⟨z, hz, rfl⟩
theorem body_phaseL {q : Nat} (hok : DrawOkL ops fx (al.map (·.i)) ta q) (hqop : ∃ oq x c, ops[q]? = some oq ∧ oq.op = .extract x c ∧ oq.guard = none) (hnp : ∀ c E H, ¬ Q (.panic c) E H) (hvs : vs.map (·.1) = fx) (ht : ∀ k x, vs[k]? = some x → Tells p n ops H0 (putAll ops E0 (vs.take k)) x.1 x.2)
    (hal : ∀ x ∈ al, ∃ o z, ops[x.i]? = some o ∧ o.op = .alloc x.t ∧ o.guard = none ∧ (p.info? x.t).map (·.zero) = some (some z) ∧ z.cells = x.cs.toArray)
    (hK : ∀ gs : Nat → Nat, AR p n ops Q (ta.map fun i => (ops[i]?).getD default) (putAll ops E0 (allp vs al gs)) (al.map (fun x => (⟨gs x.i, x.cs, x.t, false⟩ : Box)) ++ H0)) {β : Base} :
    ∀ (m : Nat) (L : Array Bool) (a : Act) (w : World) (gs : Nat → Nat) (F : List Box), L.size = ops.size → Down ops L → (∀ i ∈ ta, L.getD i false = false) →
      ((fx ++ al.map (·.i)).filter fun i => !(L.getD i false)).length = m → Inv p n ops E0 H0 vs al β L a w gs F → wpAny p .any ops (AQ n β Q) (m + ta.length) L a w := by
  intro m
  induction m with
  | zero =>
    intro L a w gs F hs hd hta hm hI
    rw [Nat.zero_add]
    have hall : ∀ i ∈ fx ++ al.map (·.i), L.getD i false = true := by
      intro i hi
      have h0 := List.eq_nil_of_length_eq_zero hm
      cases hq : L.getD i false with
      | true => rfl
      | false =>
        have : i ∈ (fx ++ al.map (·.i)).filter fun i => !(L.getD i false) := List.mem_filter.2 ⟨hi, by simp only [hq, Bool.not_false]⟩
        rw [h0] at this
        cases this
    have hE : EL ops E0 vs al gs L = putAll ops E0 (allp vs al gs) := by
      unfold EL
      congr 1
      refine List.filter_eq_self.2 fun x hx => hall x.1 ?_
      rw [← hvs, ← allp_fst vs al gs]
      exact List.mem_map.2 ⟨x, hx, rfl⟩
    refine tail_phaseL hok ta 0 L a w rfl hd hs (by simpa using hall) hta ?_
    refine hK gs β w a ?_ hI.below (hE ▸ hI.sees)
    have hnd := hok.nodup
    have hnal : (al.map (·.i)).Nodup := (List.nodup_append.1 (List.nodup_append.1 hnd).1).2.1
    have hmem : ∀ x ∈ al, (⟨gs x.i, x.cs, x.t, false⟩ : Box) ∈ F := fun x hx => hI.made x hx (hall x.i (List.mem_append_right _ (List.mem_map.2 ⟨x, hx, rfl⟩)))
    have hHF := hI.own.apart
    rw [List.map_append, List.nodup_append] at hHF
    refine ⟨hI.own.size, ?_, ?_⟩
    · intro b hb
      rcases List.mem_append.1 hb with h | h
      · obtain ⟨x, hx, rfl⟩ := List.mem_map.1 h
        exact hI.own.at_ _ (List.mem_append_right _ (hmem x hx))
      · exact hI.own.at_ _ (List.mem_append_left _ h)
    · rw [List.map_append, List.nodup_append]
      refine ⟨?_, hHF.1, ?_⟩
      · rw [List.map_map]
        have : ∀ (l : List Al), (l.map (·.i)).Nodup → (∀ x ∈ l, x ∈ al) → (l.map (Box.g ∘ fun x => (⟨gs x.i, x.cs, x.t, false⟩ : Box))).Nodup := by
          intro l
          induction l with
          | nil => intro _ _; simp
          | cons x l ih =>
            intro hn hsub
            simp only [List.map_cons, List.nodup_cons, Function.comp_apply] at hn ⊢
            refine ⟨?_, ih hn.2 fun y hy => hsub y (by simp [hy])⟩
            intro hc
            obtain ⟨y, hy, e⟩ := List.mem_map.1 hc
            have hxi : x.i ≠ y.i := fun e => hn.1 (List.mem_map.2 ⟨y, hy, e.symm⟩)
            exact hI.other x (hsub x (by simp)) y (hsub y (by simp [hy])) (hall _ (List.mem_append_right _ (List.mem_map.2 ⟨x, hsub x (by simp), rfl⟩))) (hall _ (List.mem_append_right _ (List.mem_map.2 ⟨y, hsub y (by simp [hy]), rfl⟩))) hxi e.symm
        exact this al hnal fun x hx => hx
      · intro x hx y hy e
        obtain ⟨b, hb, rfl⟩ := List.mem_map.1 hx
        obtain ⟨x', hx', rfl⟩ := List.mem_map.1 hb
        exact hHF.2.2 y hy _ (List.mem_map.2 ⟨_, hmem x' hx', rfl⟩) e.symm
  | succ m ih =>
    intro L a w gs F hs hd hta hm hI
    have hnd := hok.nodup
    have hndb := (List.nodup_append.1 hnd).1
    obtain ⟨i0, hi0⟩ : ∃ i, i ∈ (fx ++ al.map (·.i)).filter fun i => !(L.getD i false) := by
      cases hq : (fx ++ al.map (·.i)).filter fun i => !(L.getD i false) with
      | nil => rw [hq] at hm; cases hm
      | cons i is => exact ⟨i, by simp⟩
    obtain ⟨hi0b, hi0n⟩ := List.mem_filter.1 hi0
    have hi0n' : L.getD i0 false = false := by simpa using hi0n
    have hi0lt : i0 < ops.size := hok.lt i0 (List.mem_append_left _ hi0b)
    rw [show m + 1 + ta.length = (m + ta.length) + 1 by omega]
    by_cases hlate : ∀ j ∈ fx ++ al.map (·.i), j ≠ q → L.getD j false = true
    · have hq0 : i0 = q := Classical.byContradiction fun hne => by
        have := hlate i0 hi0b hne
        rw [hi0n'] at this
        cases this
      subst hq0
      obtain ⟨o, xq, cq, ho, hop, hgd⟩ := hqop
      have hall : ∀ e ∈ o.after, Region.binds .any e = true → L.getD e.on false = true := fun e he hb => hlate e.on (hok.deps o ho e he hb) (Nat.ne_of_lt (hok.back i0 o ho e he hb))
      have hiL : i0 < L.size := by omega
      have h0 : L.getD i0 true = false := by simpa [hiL] using hi0n'
      have hready : i0 ∈ Region.ready .any ops L := mem_ready.2 ⟨h0, o, ho, hall⟩
      have hif : i0 ∈ fx := hok.late
      have hin := hi0n'
      have hib := hi0b
      have hu := allp_uniqL (vs := vs) hok hvs
      have hLj : ∀ j, j ≠ i0 → (L.setIfInBounds i0 true).getD j false = L.getD j false := fun j hj => getD_set_ne false (Ne.symm hj)
      have hnta : i0 ∉ ta := fun h => (List.nodup_append.1 hnd).2.2 i0 hib i0 h rfl
      have hta' : ∀ j ∈ ta, (L.setIfInBounds i0 true).getD j false = false := fun j hj => by
        rw [getD_set_ne false (fun (e : i0 = j) => hnta (by rw [e]; exact hj))]
        exact hta j hj
      have hm' : ((fx ++ al.map (·.i)).filter fun j => !((L.setIfInBounds i0 true).getD j false)).length = m := by
        have := filter_less (fx ++ al.map (·.i)) (fun j => !(L.getD j false)) (fun j => !((L.setIfInBounds i0 true).getD j false)) i0 hndb hib (by simp only [hin, Bool.not_false]) (by simp [hiL]) (fun j hj => by simp only [getD_set_ne false (Ne.symm hj)])
        omega
      rw [← hvs] at hif
      obtain ⟨x, hx, hxi⟩ := List.mem_map.1 hif
      subst hxi
      obtain ⟨k, hk⟩ := List.mem_iff_getElem?.1 hx
      have hxa : x ∈ allp vs al gs := List.mem_append_left _ hx
      have hfk : fx[k]? = some x.1 := by rw [← hvs, List.getElem?_map, hk]; rfl
      have hT := tells_congr (E' := EL ops E0 vs al gs L) hok.sel (ht k x hk) (fun o' ho' t htl => by
        rw [ho] at ho'
        cases ho'
        have hfst := allp_fst vs al gs
        rw [hvs] at hfst
        by_cases hex : ∃ y ∈ allp vs al gs, dstOf ops y.1 = some t
        · obtain ⟨y, hy, hyd⟩ := hex
          have hyb : y.1 ∈ fx ++ al.map (·.i) := by rw [← hfst]; exact List.mem_map.2 ⟨y, hy, rfl⟩
          obtain ⟨hb, htk⟩ := hok.looks k x.1 o hfk ho t htl y.1 hyb hyd
          have hyv : y ∈ vs.take k := by
            rw [← hvs, ← List.map_take] at htk
            obtain ⟨z, hz, e⟩ := List.mem_map.1 htk
            have hza : z ∈ allp vs al gs := List.mem_append_left _ (List.mem_of_mem_take hz)
            have : z = y := hu gs z hza y hy t (by rw [e]; exact hyd) hyd
            exact this ▸ hz
          have hyl : L.getD y.1 false = true := by
            unfold bindsOn at hb
            obtain ⟨e, he, hbb⟩ := Array.any_eq_true'.1 hb
            simp only [Bool.and_eq_true, beq_iff_eq] at hbb
            rw [← hbb.2]
            exact hall e he hbb.1
          unfold EL
          rw [putAll_at E0 t _ y (List.mem_filter.2 ⟨hy, hyl⟩) hyd (fun z hz hzd => hu gs z (List.mem_filter.1 hz).1 y hy t hzd hyd)]
          rw [putAll_at E0 t _ y hyv hyd (fun z hz hzd => hu gs z (List.mem_append_left _ (List.mem_of_mem_take hz)) y hy t hzd hyd)]
        · unfold EL
          rw [putAll_not E0 t _ (fun z hz hzd => hex ⟨z, (List.mem_filter.1 hz).1, hzd⟩)]
          rw [putAll_not E0 t _ (fun z hz hzd => hex ⟨z, List.mem_append_left _ (List.mem_of_mem_take hz), hzd⟩)])
      obtain ⟨o', ho', hT⟩ := hT
      rw [ho] at ho'
      cases ho'
      have hEL : EL ops E0 vs al gs (L.setIfInBounds x.1 true) = (EL ops E0 vs al gs L).put o.dst x.2 := by
        have := put_filter (ops := ops) E0 (allp vs al gs) (allp vs al gs) L x.1 x.2 hxa (fun _ _ => Iff.rfl) (hu gs) (hu gs) hin hiL
        unfold EL
        rw [this]
        simp [dstOf, ho]
      have hmade : ∀ y ∈ al, (L.setIfInBounds x.1 true).getD y.i false = true → L.getD y.i false = true := by
        intro y hy hl
        have hne : y.i ≠ x.1 := by
          intro e
          have h3 := (List.nodup_append.1 hndb).2.2 x.1 (hvs ▸ hif) y.i (List.mem_map.2 ⟨y, hy, rfl⟩)
          exact h3 e.symm
        rw [hLj _ hne] at hl
        exact hl
      have hyl : yld n ops (EL ops E0 vs al gs L) o = true := by unfold yld; rw [hgd]
      have hY : Yields p ops o x.2 a := by
        rcases hT with ⟨hw, hstep⟩ | ⟨hw, hv⟩
        · refine .inl ⟨by rw [hI.sees.yld]; exact hw, ?_⟩
          have hone := hstep F β w hI.own hI.below
          rw [hI.sees.eval]
          revert hone
          rw [execOp, hop]
          simp only
          cases ev n (EL ops E0 vs al gs L) xq with
          | tuple ts =>
            simp only [Instr.extract]
            cases ts[cq]? with
            | some u =>
              intro hone
              simp at hone
              obtain ⟨_, ⟨hu1, _⟩, _⟩ := hone
              intro w2
              simp [hu1]
            | none => intro hone; simp [stuck] at hone
          | _ => intro hone; simp [Instr.extract, stuck] at hone
        · rw [hyl] at hw; cases hw
      refine wpAny_first (P := p) (md := .any) (Q := AQ n β Q) ho (fun j oj cs b hj => Region.noSelect_spec hok.sel j oj cs b hj) (fun c a' w' hp => by
        obtain ⟨E', H', hq', _⟩ := hp
        exact absurd hq' (hnp c E' H')) _ _ a w ?_ hready hY ?_
      · intro j oj hoj hji hjl hnw
        have hjlt := (Array.getElem?_eq_some_iff.1 hoj).1
        have hjl' : L.getD j false = false := by
          have hj' : j < L.size := by omega
          simpa [hj'] using hjl
        rcases List.mem_append.1 (hok.all j hjlt) with h | h
        · have := hlate j h hji
          rw [hjl'] at this
          cases this
        · rcases hok.far o ho j h oj hoj with hb | hb
          · unfold bindsOn at hb
            obtain ⟨e, he, hbb⟩ := Array.any_eq_true'.1 hb
            simp only [Bool.and_eq_true, beq_iff_eq] at hbb
            exact absurd hbb.2 (hnw e he hbb.1)
          · exact hb
      · exact ih _ _ w gs F (by simp [hs]) (hd.set hready) hta' hm' ⟨hEL ▸ hI.sees.put _ _, hI.own, hI.below, fun y hy hl => hI.made y hy (hmade y hy hl), fun y hy z hz hl hl' hne => hI.other y hy z hz (hmade y hy hl) (hmade z hz hl') hne⟩
    obtain ⟨j0, hj0b, hj0q, hj0n⟩ : ∃ j, j ∈ fx ++ al.map (·.i) ∧ j ≠ q ∧ L.getD j false = false := by
      refine Classical.byContradiction fun hc => hlate fun j hj hjq => ?_
      cases hq : L.getD j false with
      | true => rfl
      | false => exact absurd ⟨j, hj, hjq, hq⟩ hc
    refine ⟨fun h0 => absurd h0 (ready_someL hok hs hi0lt hi0n'), fun i hi => ?_⟩
    obtain ⟨h0, o, ho, hall⟩ := mem_ready.1 hi
    have hilt := (Array.getElem?_eq_some_iff.1 ho).1
    have hiL : i < L.size := by omega
    have hin : L.getD i false = false := by simpa [hiL] using h0
    have hib : i ∈ fx ++ al.map (·.i) := by
      rcases List.mem_append.1 (hok.all i hilt) with h | h
      · exact h
      · obtain ⟨k, hk⟩ := List.mem_iff_getElem?.1 h
        by_cases hk0 : k = 0
        · subst hk0
          have := tail_waits0 hok hd hk hi j0 hj0b hj0q
          rw [hj0n] at this
          cases this
        · have := tail_waitsL hok hd hk hk0 hi i0 (List.mem_append_left _ hi0b)
          rw [hi0n'] at this
          cases this
    have hnta : i ∉ ta := fun h => (List.nodup_append.1 hnd).2.2 i hib i h rfl
    have hta' : ∀ j ∈ ta, (L.setIfInBounds i true).getD j false = false := fun j hj => by
      rw [getD_set_ne false (fun (e : i = j) => hnta (by rw [e]; exact hj))]
      exact hta j hj
    have hm' : ((fx ++ al.map (·.i)).filter fun j => !((L.setIfInBounds i true).getD j false)).length = m := by
      have := filter_less (fx ++ al.map (·.i)) (fun j => !(L.getD j false)) (fun j => !((L.setIfInBounds i true).getD j false)) i hndb hib (by simp only [hin, Bool.not_false]) (by simp [hiL]) (fun j hj => by simp only [getD_set_ne false (Ne.symm hj)])
      omega
    have hLi : (L.setIfInBounds i true).getD i false = true := by simp [hiL]
    have hLj : ∀ j, j ≠ i → (L.setIfInBounds i true).getD j false = L.getD j false := fun j hj => getD_set_ne false (Ne.symm hj)
    have hu := allp_uniqL (vs := vs) hok hvs
    rcases List.mem_append.1 hib with hif | hia
    · -- it tells the same in whatever order
      rw [← hvs] at hif
      obtain ⟨x, hx, rfl⟩ := List.mem_map.1 hif
      obtain ⟨k, hk⟩ := List.mem_iff_getElem?.1 hx
      have hxa : x ∈ allp vs al gs := List.mem_append_left _ hx
      have hfk : fx[k]? = some x.1 := by rw [← hvs, List.getElem?_map, hk]; rfl
      have hT := tells_congr (E' := EL ops E0 vs al gs L) hok.sel (ht k x hk) (fun o' ho' t htl => by
        rw [ho] at ho'
        cases ho'
        have hfst := allp_fst vs al gs
        rw [hvs] at hfst
        by_cases hex : ∃ y ∈ allp vs al gs, dstOf ops y.1 = some t
        · obtain ⟨y, hy, hyd⟩ := hex
          have hyb : y.1 ∈ fx ++ al.map (·.i) := by rw [← hfst]; exact List.mem_map.2 ⟨y, hy, rfl⟩
          obtain ⟨hb, htk⟩ := hok.looks k x.1 o hfk ho t htl y.1 hyb hyd
          have hyv : y ∈ vs.take k := by
            rw [← hvs, ← List.map_take] at htk
            obtain ⟨z, hz, e⟩ := List.mem_map.1 htk
            have hza : z ∈ allp vs al gs := List.mem_append_left _ (List.mem_of_mem_take hz)
            have : z = y := hu gs z hza y hy t (by rw [e]; exact hyd) hyd
            exact this ▸ hz
          have hyl : L.getD y.1 false = true := by
            unfold bindsOn at hb
            obtain ⟨e, he, hbb⟩ := Array.any_eq_true'.1 hb
            simp only [Bool.and_eq_true, beq_iff_eq] at hbb
            rw [← hbb.2]
            exact hall e he hbb.1
          unfold EL
          rw [putAll_at E0 t _ y (List.mem_filter.2 ⟨hy, hyl⟩) hyd (fun z hz hzd => hu gs z (List.mem_filter.1 hz).1 y hy t hzd hyd)]
          rw [putAll_at E0 t _ y hyv hyd (fun z hz hzd => hu gs z (List.mem_append_left _ (List.mem_of_mem_take hz)) y hy t hzd hyd)]
        · unfold EL
          rw [putAll_not E0 t _ (fun z hz hzd => hex ⟨z, (List.mem_filter.1 hz).1, hzd⟩)]
          rw [putAll_not E0 t _ (fun z hz hzd => hex ⟨z, List.mem_append_left _ (List.mem_of_mem_take hz), hzd⟩)])
      obtain ⟨o', ho', hT⟩ := hT
      rw [ho] at ho'
      cases ho'
      have hEL : EL ops E0 vs al gs (L.setIfInBounds x.1 true) = (EL ops E0 vs al gs L).put o.dst x.2 := by
        have := put_filter (ops := ops) E0 (allp vs al gs) (allp vs al gs) L x.1 x.2 hxa (fun _ _ => Iff.rfl) (hu gs) (hu gs) hin hiL
        unfold EL
        rw [this]
        simp [dstOf, ho]
      have hmade : ∀ y ∈ al, (L.setIfInBounds x.1 true).getD y.i false = true → L.getD y.i false = true := by
        intro y hy hl
        have hne : y.i ≠ x.1 := by
          intro e
          have h3 := (List.nodup_append.1 hndb).2.2 x.1 (hvs ▸ hif) y.i (List.mem_map.2 ⟨y, hy, rfl⟩)
          exact h3 e.symm
        rw [hLj _ hne] at hl
        exact hl
      unfold wpOp
      simp only [ho]
      rw [hI.sees.yld]
      rcases hT with ⟨hw, hstep⟩ | ⟨hw, hv⟩
      · rw [hw, if_pos rfl]
        refine .inl (hstep.wpF hI.sees hI.own hI.below ?_)
        rintro v H' w' ⟨rfl, rfl⟩ hO' hB'
        exact ih _ _ w' gs F (by simp [hs]) (hd.set hi) hta' hm' ⟨hEL ▸ hI.sees.put _ _, hO', hB', fun y hy hl => hI.made y hy (hmade y hy hl), fun y hy z hz hl hl' hne => hI.other y hy z hz (hmade y hy hl) (hmade z hz hl') hne⟩
      · rw [hw, if_neg (by simp)]
        rw [hv] at hEL
        exact ih _ _ w gs F (by simp [hs]) (hd.set hi) hta' hm' ⟨hEL ▸ hI.sees.put _ _, hI.own, hI.below, fun y hy hl => hI.made y hy (hmade y hy hl), fun y hy z hz hl hl' hne => hI.other y hy z hz (hmade y hy hl) (hmade z hz hl') hne⟩
    · -- a box is made
      obtain ⟨x, hx, rfl⟩ := List.mem_map.1 hia
      obtain ⟨o', z, ho', hop, hgd, hz, hcs⟩ := hal x hx
      rw [ho] at ho'
      cases ho'
      have hnal : (al.map (·.i)).Nodup := (List.nodup_append.1 hndb).2.1
      have hsame : ∀ y ∈ al, y.i = x.i → y = x := by
        have : ∀ (l : List Al), (l.map (·.i)).Nodup → ∀ y ∈ l, ∀ z ∈ l, y.i = z.i → y = z := by
          intro l
          induction l with
          | nil => intro _ y hy; cases hy
          | cons u l ih =>
            intro hn y hy z hz e
            simp only [List.map_cons, List.nodup_cons] at hn
            rcases List.mem_cons.1 hy with hy | hy <;> rcases List.mem_cons.1 hz with hz | hz
            · rw [hy, hz]
            · rw [hy] at e; exact absurd (List.mem_map.2 ⟨z, hz, e.symm⟩) hn.1
            · rw [hz] at e; exact absurd (List.mem_map.2 ⟨y, hy, e⟩) hn.1
            · exact ih hn.2 y hy z hz e
        exact fun y hy e => this al hnal y hy x hx e
      let gs' : Nat → Nat := fun j => if j = x.i then w.heap.size else gs j
      have hgx : gs' x.i = w.heap.size := by simp [gs']
      have hgy : ∀ j, j ≠ x.i → gs' j = gs j := fun j hj => by simp [gs', hj]
      have hEL : EL ops E0 vs al gs' (L.setIfInBounds x.i true) = (EL ops E0 vs al gs L).put o.dst (ptr w.heap.size) := by
        have hxa : (x.i, ptr w.heap.size) ∈ allp vs al gs' := List.mem_append_right _ (List.mem_map.2 ⟨x, hx, by rw [hgx]⟩)
        have := put_filter (ops := ops) E0 (allp vs al gs) (allp vs al gs') L x.i (ptr w.heap.size) hxa (fun y hy => by
          simp only [allp, List.mem_append, List.mem_map]
          constructor
          · rintro (h | ⟨q, hq, rfl⟩)
            · exact .inl h
            · exact .inr ⟨q, hq, by rw [hgy q.i hy]⟩
          · rintro (h | ⟨q, hq, rfl⟩)
            · exact .inl h
            · exact .inr ⟨q, hq, by rw [hgy q.i hy]⟩) (hu gs) (hu gs') hin hiL
        unfold EL
        rw [this]
        simp [dstOf, ho]
      have hst : Step p (ev n (EL ops E0 vs al gs L)) o H0 (fun v H' => ∃ g, v = ptr g ∧ H' = ⟨g, x.cs, x.t, false⟩ :: H0) := st_alloc hop hz hcs (fun g => ⟨g, rfl, rfl⟩)
      have hrun : (execOp (ev n (EL ops E0 vs al gs L)) o).run p w = .ok (.value (.pointer (some ⟨w.heap.size, 0, none⟩))) (w.alloc (.cells x.cs.toArray x.t (0, 0))) := by
        rw [← hcs]
        rw [execOp, hop]
        cases hq : p.info? x.t with
        | none => simp [hq] at hz
        | some inf =>
          have hz' : inf.zero = some z := by simpa [hq] using hz
          simp [Instr.alloc, zeroValue, typeInfo, hq, hz', newVar, newRow, Sem.run_bind]
      unfold wpOp
      simp only [ho]
      have hwant : Region.wanted o (yielded ops a.tmps) = true := by simp [Region.wanted, hgd]
      rw [hwant, if_pos rfl]
      refine .inl ?_
      unfold Oper.wp
      rw [hI.sees.eval, hrun]
      have hO1 : Own β (H0 ++ (⟨w.heap.size, x.cs, x.t, false⟩ :: F)) (w.alloc (.cells x.cs.toArray x.t (0, 0))) := (hI.own.alloc x.cs x.t).perm (List.perm_middle.symm)
      have hmade : ∀ y ∈ al, (L.setIfInBounds x.i true).getD y.i false = true → y ≠ x → L.getD y.i false = true ∧ y.i ≠ x.i := by
        intro y hy hl hne
        have hyi : y.i ≠ x.i := fun e => hne (hsame y hy e)
        rw [hLj _ hyi] at hl
        exact ⟨hl, hyi⟩
      have hfresh : ∀ y ∈ al, L.getD y.i false = true → gs y.i < w.heap.size := fun y hy hl => hI.own.lt (List.mem_append_right _ (hI.made y hy hl))
      refine ih _ _ _ gs' (⟨w.heap.size, x.cs, x.t, false⟩ :: F) (by simp [hs]) (hd.set hi) hta' hm' ⟨hEL ▸ hI.sees.put _ _, hO1, hI.below.alloc _, ?_, ?_⟩
      · intro y hy hl
        by_cases hyx : y = x
        · subst hyx
          rw [hgx]
          exact List.mem_cons_self
        · obtain ⟨hl', hyi⟩ := hmade y hy hl hyx
          rw [hgy _ hyi]
          exact List.mem_cons_of_mem _ (hI.made y hy hl')
      · intro y hy u hu' hl hl' hne
        by_cases hyx : y = x
        · subst hyx
          have hux : u ≠ y := fun e => hne (by rw [e])
          obtain ⟨hl2, hui⟩ := hmade u hu' hl' hux
          rw [hgx, hgy _ hui]
          exact Ne.symm (Nat.ne_of_lt (hfresh u hu' hl2))
        · obtain ⟨hl1, hyi⟩ := hmade y hy hl hyx
          by_cases hux : u = x
          · subst hux
            rw [hgx, hgy _ hyi]
            exact Nat.ne_of_lt (hfresh y hy hl1)
          · obtain ⟨hl2, hui⟩ := hmade u hu' hl' hux
            rw [hgy _ hyi, hgy _ hui]
            exact hI.other y hy u hu' hl1 hl2 hne
theorem ac_drawL {id : Nat} (fx ta : List Nat) (al : List Al) (q : Nat) (hok : drawOkL ops fx (al.map (·.i)) ta q = true) (hqop : ∃ oq x c, ops[q]? = some oq ∧ oq.op = .extract x c ∧ oq.guard = none) (hnp : ∀ c E H, ¬ Q (.panic c) E H) (hm : p.follows .mixedOrders = true)
    (hal : ∀ x ∈ al, ∃ o z, ops[x.i]? = some o ∧ o.op = .alloc x.t ∧ o.guard = none ∧ (p.info? x.t).map (·.zero) = some (some z) ∧ z.cells = x.cs.toArray)
    (h : DWalk p n ops H0 fx E0 fun E => ∀ gs : Nat → Nat, AR p n ops Q (ta.map fun i => (ops[i]?).getD default) (putAll ops E (al.map fun x => (x.i, ptr (gs x.i)))) (al.map (fun x => (⟨gs x.i, x.cs, x.t, false⟩ : Box)) ++ H0)) :
    AC p n (.region id ops true) Q E0 H0 := by
  intro β w a hO hB hs
  have hok' := drawOkL_spec hok
  obtain ⟨vs, hvs, ht, hK⟩ := dwalk_vals _ _ h
  refine wp_region_any hm ?_
  have hlen := hok'.len
  have hnone : ∀ i, (Array.replicate ops.size false).getD i false = false := by
    intro i
    simp only [Array.getD_eq_getD_getElem?, Array.getElem?_replicate]
    split <;> rfl
  have hcount : ((fx ++ al.map (·.i)).filter fun i => !((Array.replicate ops.size false).getD i false)).length = (fx ++ al.map (·.i)).length := by
    rw [List.filter_eq_self.2 fun i _ => by rw [hnone]; rfl]
  have := body_phaseL (E0 := E0) (H0 := H0) (Q := Q) hok' hqop hnp hvs ht hal (fun gs => by have := hK gs; rw [← putAll_append] at this; exact this) (β := β) _ (Array.replicate ops.size false) a { w with drawn := w.drawn + 1 } (fun _ => 0) [] (by simp) (fun i o ho hl => by rw [hnone] at hl; cases hl) (fun i _ => hnone i) hcount
    ⟨by
      have : EL ops E0 vs al (fun _ => 0) (Array.replicate ops.size false) = E0 := by
        unfold EL
        rw [List.filter_eq_nil_iff.2 fun x _ => by rw [hnone]; simp]
        rfl
      rw [this]; exact hs, by rw [List.append_nil]; exact hO.drew, hB.drew, fun x _ hl => (by rw [hnone] at hl; cases hl), fun x _ y _ hl => (by rw [hnone] at hl; cases hl)⟩
  have e : (fx ++ al.map (·.i)).length + ta.length = ops.size := by rw [← hlen, ← List.length_append]
  rw [e] at this
  exact this
end
theorem ac_drawL1 {H : List Box} {E : Env} {Q : Exit → Env → List Box → Prop} {id : Nat} (fx ta : List Nat) (q i d t : Nat) (cs : List Value) (tl : List Oper) (hok : drawOkL ops fx [i] ta q = true) (hqop : ∃ oq x c, ops[q]? = some oq ∧ oq.op = .extract x c ∧ oq.guard = none) (hnp : ∀ c E H, ¬ Q (.panic c) E H)
    (hm : p.follows .mixedOrders = true) (htl : (ta.map fun i => (ops[i]?).getD default) = tl) (hz : Zero p t cs) (hi : ∃ o, ops[i]? = some o ∧ o.op = .alloc t ∧ o.guard = none ∧ o.dst = some d)
    (h : DWalk p n ops H fx E fun E => ∀ g, AR p n ops Q tl (E.put (some d) (.pointer (some ⟨g, 0, none⟩))) (⟨g, cs, t, false⟩ :: H)) : AC p n (.region id ops true) Q E H := by
  subst htl
  obtain ⟨o, ho, h1, h2, h3⟩ := hi
  obtain ⟨z, hz1, hz2⟩ := hz.out
  refine ac_drawL fx ta [⟨i, t, cs⟩] q hok hqop hnp hm (fun x hx => by obtain rfl := List.mem_singleton.1 hx; exact ⟨o, z, ho, h1, h2, hz1, hz2⟩) ?_
  refine dwalk_mono ?_ _ _ h
  intro E hE gs
  have := hE (gs i)
  simpa [putAll, dstOf, ho, h3, ptr] using this
theorem np_then {next : Env → List Box → Prop} {Q : Exit → Env → List Box → Prop} (h : ∀ c E H, ¬ Q (.panic c) E H) : ∀ c E H, ¬ AThen next Q (.panic c) E H := h
theorem np_block {id : Nat} {Q : Exit → Env → List Box → Prop} (h : ∀ c E H, ¬ Q (.panic c) E H) : ∀ c E H, ¬ ABlock id Q (.panic c) E H := h
theorem np_fin {fn : Func} {v : Value} : ∀ c E H, ¬ Fin p fn n v (.panic c) E H := fun c E H h => by
  rcases h.1 with h | h <;> cases h
end
end Go.Proofs.YtalffjplbhelcaaGreatDoor
namespace Go.Proofs.YtalffjplbhelcaaGreatDoor
end Go.Proofs.YtalffjplbhelcaaGreatDoor
namespace Go.Proofs.YtalffjplbhelcaaGreatDoor
open Go.RowKit
theorem agg26 : IsAgg Tryz.prog 26 2 := ⟨⟨_, Tryz.underlying26, rfl, by kernel_rfl⟩⟩
theorem agg32 : IsAgg Tryz.prog 32 3 := ⟨⟨_, Tryz.underlying32, rfl, by kernel_rfl⟩⟩
theorem bd26_0_1 (x0_0 : Int) (x1_0 : Int) : Runs Tryz.prog (Instr.build 26 #[(0, .int .i64 x0_0), (1, .int .i64 x1_0)]) (.agg #[.int .i64 x0_0, .int .i64 x1_0]) := ⟨fun w => by go_simp⟩
theorem bd26_  : Runs Tryz.prog (Instr.build 26 #[]) (.agg #[.int .i64 0, .int .i64 0]) := ⟨fun w => by go_simp⟩
theorem bd32_0_1 (x0_0 : Int) (x1_0 : Int) : Runs Tryz.prog (Instr.build 32 #[(0, .int .i64 x0_0), (1, .int .i64 x1_0)]) (.agg #[.int .i64 x0_0, .int .i64 x1_0, .bool false]) := ⟨fun w => by go_simp⟩
theorem bd32_2 (x0_0 : Bool) : Runs Tryz.prog (Instr.build 32 #[(2, .bool x0_0)]) (.agg #[.int .i64 0, .int .i64 0, .bool x0_0]) := ⟨fun w => by go_simp⟩
theorem cell3 : IsCell Tryz.prog 3 := ⟨⟨_, Tryz.underlying3, rfl, by kernel_rfl⟩⟩
theorem cell4 : IsCell Tryz.prog 4 := ⟨⟨_, Tryz.underlying4, rfl, by kernel_rfl⟩⟩
theorem fa26_0 (a : Addr) : Runs Tryz.prog (Instr.fieldAt 26 (.pointer (some a)) 0) (.pointer (some (a.add 0))) := run_fa (f := 0) (off := 0) (m := 1) Tryz.underlying26 rfl rfl (by kernel_rfl) (by decide) a
theorem fa26_1 (a : Addr) : Runs Tryz.prog (Instr.fieldAt 26 (.pointer (some a)) 1) (.pointer (some (a.add 1))) := run_fa (f := 1) (off := 1) (m := 1) Tryz.underlying26 rfl rfl (by kernel_rfl) (by decide) a
theorem fa32_0 (a : Addr) : Runs Tryz.prog (Instr.fieldAt 32 (.pointer (some a)) 0) (.pointer (some (a.add 0))) := run_fa (f := 0) (off := 0) (m := 1) Tryz.underlying32 rfl rfl (by kernel_rfl) (by decide) a
theorem fa32_1 (a : Addr) : Runs Tryz.prog (Instr.fieldAt 32 (.pointer (some a)) 1) (.pointer (some (a.add 1))) := run_fa (f := 1) (off := 1) (m := 1) Tryz.underlying32 rfl rfl (by kernel_rfl) (by decide) a
theorem fa32_2 (a : Addr) : Runs Tryz.prog (Instr.fieldAt 32 (.pointer (some a)) 2) (.pointer (some (a.add 2))) := run_fa (f := 2) (off := 2) (m := 1) Tryz.underlying32 rfl rfl (by kernel_rfl) (by decide) a
theorem zero26 : Zero Tryz.prog 26 [.int .i64 0, .int .i64 0] := ⟨⟨.agg #[.int .i64 0, .int .i64 0], by kernel_rfl, rfl⟩⟩
theorem zero32 : Zero Tryz.prog 32 [.int .i64 0, .int .i64 0, .bool false] := ⟨⟨.agg #[.int .i64 0, .int .i64 0, .bool false], by kernel_rfl, rfl⟩⟩
end Go.Proofs.YtalffjplbhelcaaGreatDoor
namespace Go.Proofs.YtalffjplbhelcaaGreatDoor
open Go.RowKit
end Go.Proofs.YtalffjplbhelcaaGreatDoor
namespace Go.Proofs.YtalffjplbhelcaaGreatDoor
open Go.RowKit
attribute [local irreducible] AC AR DWalk
structure Dec where
 c : Int
 scale : Int
deriving DecidableEq
@[reducible] def Dec.v (s : Dec) : Value := .agg #[.int .i64 s.c, .int .i64 s.scale]
end Go.Proofs.YtalffjplbhelcaaGreatDoor
namespace Go.Proofs.YtalffjplbhelcaaGreatDoor
theorem w64_in {n : Int} (h : -9223372036854775808 ≤ n ∧ n ≤ 9223372036854775807) : w64 n = n := by
  show IntKind.i64.wrap n = n
  rw [IntKind.wrap_i64]
  omega
theorem cut_hi {s : ByteArray} (h : decide (lIndex s 46 ≥ 0) = true) : 0 ≤ lIndex s 46 ∧ lIndex s 46 ≤ s.size := by
  have := of_decide_eq_true h
  have := lIndex_lt s 46
  omega
theorem cut_lo {s : ByteArray} (hs : s.size ≤ 9223372036854775807) (h : decide (lIndex s 46 ≥ 0) = true) : 0 ≤ w64 (lIndex s 46 + 1) ∧ w64 (lIndex s 46 + 1) ≤ s.size := by
  have := of_decide_eq_true h
  have := lIndex_lt s 46
  rw [w64_in (by omega)]
  omega
theorem fig_sz {s : ByteArray} {n : Int} (hn : n ≤ 1000) (h : decide ((s.size : Int) ≤ n) = true) : s.size ≤ 9223372036854775807 := by
  have := of_decide_eq_true h
  omega
end Go.Proofs.YtalffjplbhelcaaGreatDoor
namespace Go.Proofs.YtalffjplbhelcaaGreatDoor
open Go.RowKit
attribute [local irreducible] AC AR DWalk
def cutDot0 (s : ByteArray) : ByteArray × ByteArray × Bool := (bif decide ((lIndex s 46) ≥ 0) then ((subS s 0 (lIndex s 46)), (subS s (w64 ((lIndex s 46) + 1)) ((s).size : Int)), true) else (s, (⟨#[]⟩ : ByteArray), false))
set_option maxRecDepth 100000 in
theorem c_cutDot0 (s : ByteArray) (hs : s.size ≤ 9223372036854775807) : Gets Tryz.prog 109 #[.string s, .string (⟨#[46]⟩ : ByteArray)] ((fun (r : ByteArray × ByteArray × Bool) => (.tuple #[.string r.1, .string r.2.1, .bool r.2.2] : Value)) (cutDot0 s)) := by
 refine gets_fin Tryz.func109 rfl rfl rfl (aQ (aL (aA 4 (.string (⟨#[]⟩ : ByteArray)) rfl rfl (aA 5 (.string (⟨#[]⟩ : ByteArray)) rfl rfl (aA 6 (.bool false) rfl rfl (aN (aQ (aQ (aL (aM 8 (.string s) rfl rfl (aM 9 (.string (⟨#[46]⟩ : ByteArray)) rfl rfl (aC 10 (c_lIndex s 46) Tryz.func128 ⟨rfl, by decide⟩ rfl rfl (aA 7 (.int .i64 (lIndex s 46)) rfl rfl (aN (aQ (aL (aM 11 (.int .i64 (lIndex s 46)) rfl rfl (aB 12 (.bool (decide ((lIndex s 46) ≥ 0))) rfl rfl rfl (bi_geq rfl) (aN ?_)))))))))))))))))))
 refine bool_split (decide ((lIndex s 46) ≥ 0)) (fun h1 => ?_) (fun h1 => ?_)
 ·refine ac_then' (b := decide ((lIndex s 46) ≥ 0)) h1 rfl (aQ ?_)
  refine ac_draw0 (id := 3) [0, 1, 2, 3, 4, 5, 6, 7, 8, 9, 10, 11] [] _ (by kernel_rfl) follows rfl  (dw_op (d := some 13) _ rfl rfl rfl (st_move (v := .string s) rfl rfl ⟨rfl, rfl⟩) (dw_op (d := some 14) _ rfl rfl rfl (st_move (v := .int .i64 (lIndex s 46)) rfl rfl ⟨rfl, rfl⟩) (dw_op (d := some 15) _ rfl rfl rfl (st_ssh (cut_hi h1) rfl Tryz.underlying9 rfl rfl ⟨rfl, rfl⟩) (dw_op (d := some 16) _ rfl rfl rfl (st_move (v := .string s) rfl rfl ⟨rfl, rfl⟩) (dw_op (d := some 17) _ rfl rfl rfl (st_move (v := .int .i64 (lIndex s 46)) rfl rfl ⟨rfl, rfl⟩) (dw_op (d := some 18) _ rfl rfl rfl (st_move (v := .string (⟨#[46]⟩ : ByteArray)) rfl rfl ⟨rfl, rfl⟩) ?_))))))
  refine dw_op (d := some 19) _ rfl rfl rfl (st_slen (s := (⟨#[46]⟩ : ByteArray)) rfl Tryz.underlying9 rfl ⟨rfl, rfl⟩) (dw_op (d := some 20) _ rfl rfl rfl (st_bi (r := .int .i64 (w64 ((lIndex s 46) + 1))) rfl rfl rfl (bi_add rfl) ⟨rfl, rfl⟩) (dw_op (d := some 21) _ rfl rfl rfl (st_ssb (cut_lo hs h1) rfl Tryz.underlying9 rfl rfl ⟨rfl, rfl⟩) (dw_op (d := some 4) _ rfl rfl rfl (st_assign (v := .string (subS s 0 (lIndex s 46))) rfl rfl ⟨rfl, rfl⟩) (dw_op (d := some 5) _ rfl rfl rfl (st_assign (v := .string (subS s (w64 ((lIndex s 46) + 1)) ((s).size : Int))) rfl rfl ⟨rfl, rfl⟩) (dw_op (d := some 6) _ rfl rfl rfl (st_assign (v := .bool true) rfl rfl ⟨rfl, rfl⟩) (dw_nil (aN ?_)))))))
  refine ac_ret (fin_eq (v := .tuple #[.string (subS s 0 (lIndex s 46)), .string (subS s (w64 ((lIndex s 46) + 1)) ((s).size : Int)), .bool true]) (by show _ = (fun (r : ByteArray × ByteArray × Bool) => (.tuple #[.string r.1, .string r.2.1, .bool r.2.2] : Value)) (cutDot0 s); rw [cutDot0, h1] <;> rfl) (fin_ret (res_ttt rfl rfl rfl rfl)))
 ·refine ac_else' (b := decide ((lIndex s 46) ≥ 0)) h1 rfl (ac_skip (aQ (aL (aM 22 (.string s) rfl rfl (aA 4 (.string s) rfl rfl (aA 5 (.string (⟨#[]⟩ : ByteArray)) rfl rfl (aA 6 (.bool false) rfl rfl (aN (ac_ret (fin_eq (v := .tuple #[.string s, .string (⟨#[]⟩ : ByteArray), .bool false]) (by show _ = (fun (r : ByteArray × ByteArray × Bool) => (.tuple #[.string r.1, .string r.2.1, .bool r.2.2] : Value)) (cutDot0 s); rw [cutDot0, h1] <;> rfl) (fin_ret (res_ttt rfl rfl rfl rfl))))))))))))
end Go.Proofs.YtalffjplbhelcaaGreatDoor
namespace Go.Proofs.YtalffjplbhelcaaGreatDoor
open Go.RowKit
attribute [local irreducible] AC AR DWalk
def cutDot (s : ByteArray) : ByteArray × ByteArray × Bool := ((cutDot0 s).1, (cutDot0 s).2.1, (cutDot0 s).2.2)
set_option maxRecDepth 100000 in
theorem c_cutDot (s : ByteArray) (hs : s.size ≤ 9223372036854775807) : Gets Tryz.prog 67 #[.string s, .string (⟨#[46]⟩ : ByteArray)] ((fun (r : ByteArray × ByteArray × Bool) => (.tuple #[.string r.1, .string r.2.1, .bool r.2.2] : Value)) (cutDot s)) := by
 refine gets_fin Tryz.func67 rfl rfl rfl (aQ (aL (aA 4 (.string (⟨#[]⟩ : ByteArray)) rfl rfl (aA 5 (.string (⟨#[]⟩ : ByteArray)) rfl rfl (aA 6 (.bool false) rfl rfl (aN (aQ (aL (aM 7 (.string s) rfl rfl (aM 8 (.string (⟨#[46]⟩ : ByteArray)) rfl rfl (aC 9 (c_cutDot0 s hs) Tryz.func109 ⟨rfl, by decide⟩ rfl rfl (aX 10 (.string ((cutDot0 s).1)) rfl rfl rfl (aX 11 (.string ((cutDot0 s).2.1)) rfl rfl rfl (aX 12 (.bool ((cutDot0 s).2.2)) rfl rfl rfl (aA 4 (.string ((cutDot0 s).1)) rfl rfl (aA 5 (.string ((cutDot0 s).2.1)) rfl rfl (aA 6 (.bool ((cutDot0 s).2.2)) rfl rfl (aN (ac_ret ?_)))))))))))))))))))
 exact fin_eq (v := .tuple #[.string ((cutDot0 s).1), .string ((cutDot0 s).2.1), .bool ((cutDot0 s).2.2)]) rfl (fin_ret (res_ttt rfl rfl rfl rfl))
end Go.Proofs.YtalffjplbhelcaaGreatDoor
namespace Go.Proofs.YtalffjplbhelcaaGreatDoor
open Go.RowKit
attribute [local irreducible] AC AR DWalk
def decFig (s : ByteArray) (n : Int) : Bool := (bif sEq s (⟨#[]⟩ : ByteArray) then false else (bif decide (((s).size : Int) ≤ n) then sEq (lTrimFig s) (⟨#[]⟩ : ByteArray) else false))
set_option maxRecDepth 100000 in
theorem c_decFig (s : ByteArray) (n : Int) (hn : n ≤ 1000) : Gets Tryz.prog 68 #[.string s, .int .i64 n] ((fun (r : Bool) => (.bool r : Value)) (decFig s n)) := by
 refine gets_fin Tryz.func68 rfl rfl rfl (aQ (aL (aA 4 (.bool false) rfl rfl (aN (aQ (aL (aM 5 (.string s) rfl rfl (aB 6 (.bool (!(sEq s (⟨#[]⟩ : ByteArray)))) rfl rfl rfl (bi_sneq rfl) (aM 7 (.bool (!(sEq s (⟨#[]⟩ : ByteArray)))) rfl rfl ?_)))))))))
 refine bool_split (sEq s (⟨#[]⟩ : ByteArray)) (fun h1 => ?_) (fun h1 => ?_)
 ·refine aK 8 (by show ((!(sEq s (⟨#[]⟩ : ByteArray))) == true) = false; rw [h1]; rfl) rfl (aK 9 (by show ((!(sEq s (⟨#[]⟩ : ByteArray))) == true) = false; rw [h1]; rfl) rfl (aK 10 (by show ((!(sEq s (⟨#[]⟩ : ByteArray))) == true) = false; rw [h1]; rfl) rfl (aK 11 (by show ((!(sEq s (⟨#[]⟩ : ByteArray))) == true) = false; rw [h1]; rfl) rfl (ao 12 rfl rfl (st_pkf' (b := !(sEq s (⟨#[]⟩ : ByteArray))) (v := .bool false) (by rw [h1]; rfl) rfl rfl rfl (aM 13 (.bool false) rfl rfl (aK 14 rfl rfl (aK 15 rfl rfl (aK 16 rfl rfl (ao 17 rfl rfl (st_pkf (v := .bool false) rfl rfl rfl (aA 4 (.bool false) rfl rfl (aN (ac_ret ?_))))))))))))))
  exact fin_eq (v := .bool false) (by show _ = (fun (r : Bool) => (.bool r : Value)) (decFig s n); rw [decFig, h1] <;> rfl) (fin_ret (res_tmp rfl rfl))
 ·refine ar_gd (d := (some 8)) (by show ((!(sEq s (⟨#[]⟩ : ByteArray))) == true) = true; rw [h1]; rfl) rfl (st_move (v := .string s) rfl rfl (ar_gd (d := (some 9)) (by show ((!(sEq s (⟨#[]⟩ : ByteArray))) == true) = true; rw [h1]; rfl) rfl (st_slen (s := s) rfl Tryz.underlying9 rfl (ar_gd (d := (some 10)) (by show ((!(sEq s (⟨#[]⟩ : ByteArray))) == true) = true; rw [h1]; rfl) rfl (st_move (v := .int .i64 n) rfl rfl (ar_gd (d := (some 11)) (by show ((!(sEq s (⟨#[]⟩ : ByteArray))) == true) = true; rw [h1]; rfl) rfl (st_bi (r := .bool (decide (((s).size : Int) ≤ n))) rfl rfl rfl (bi_leq rfl) ?_)))))))
  refine ao 12 rfl rfl (st_pkt' (b := !(sEq s (⟨#[]⟩ : ByteArray))) (v := .bool (decide (((s).size : Int) ≤ n))) (by rw [h1]; rfl) rfl rfl rfl (aM 13 (.bool (decide (((s).size : Int) ≤ n))) rfl rfl ?_))
  refine bool_split (decide (((s).size : Int) ≤ n)) (fun h2 => ?_) (fun h2 => ?_)
  ·refine ar_gd (d := (some 14)) (by show ((decide (((s).size : Int) ≤ n)) == true) = true; rw [h2]; rfl) rfl (st_move (v := .string s) rfl rfl (ar_gd (d := (some 15)) (by show ((decide (((s).size : Int) ≤ n)) == true) = true; rw [h2]; rfl) rfl (st_cf (c_lTrimFig s (fig_sz hn h2)) Tryz.func110 rfl (by decide) rfl rfl rfl (ar_gd (d := (some 16)) (by show ((decide (((s).size : Int) ≤ n)) == true) = true; rw [h2]; rfl) rfl (st_bi (r := .bool (sEq (lTrimFig s) (⟨#[]⟩ : ByteArray))) rfl rfl rfl (bi_seql rfl) (ao 17 rfl rfl (st_pkt' (b := decide (((s).size : Int) ≤ n)) (v := .bool (sEq (lTrimFig s) (⟨#[]⟩ : ByteArray))) h2 rfl rfl rfl ?_)))))))
   refine aA 4 (.bool (sEq (lTrimFig s) (⟨#[]⟩ : ByteArray))) rfl rfl (aN (ac_ret (fin_eq (v := .bool (sEq (lTrimFig s) (⟨#[]⟩ : ByteArray))) (by show _ = (fun (r : Bool) => (.bool r : Value)) (decFig s n); rw [decFig, h2, h1] <;> rfl) (fin_ret (res_tmp rfl rfl)))))
  ·refine aK 14 (by show ((decide (((s).size : Int) ≤ n)) == true) = false; rw [h2]; rfl) rfl (aK 15 (by show ((decide (((s).size : Int) ≤ n)) == true) = false; rw [h2]; rfl) rfl (aK 16 (by show ((decide (((s).size : Int) ≤ n)) == true) = false; rw [h2]; rfl) rfl (ao 17 rfl rfl (st_pkf' (b := decide (((s).size : Int) ≤ n)) (v := .bool false) h2 rfl rfl rfl (aA 4 (.bool false) rfl rfl (aN (ac_ret (fin_eq (v := .bool false) (by show _ = (fun (r : Bool) => (.bool r : Value)) (decFig s n); rw [decFig, h2, h1] <;> rfl) (fin_ret (res_tmp rfl rfl))))))))))
end Go.Proofs.YtalffjplbhelcaaGreatDoor
namespace Go.Proofs.YtalffjplbhelcaaGreatDoor
theorem sEq_iff (a b : ByteArray) : sEq a b = true ↔ a = b := by
  unfold sEq
  rw [beq_iff_eq, Lib.toList_data, Lib.toList_data]
  constructor
  · intro h
    rw [← Lib.mk_data a, ← Lib.mk_data b, h]
  · intro h; rw [h]
def IsDig (b : UInt8) : Prop := 48 ≤ b.toNat ∧ b.toNat ≤ 57
theorem fig_dig : ∀ b : UInt8, (figs.data.toList.contains b) = true → IsDig b := by
  intro b h
  have h2 : b ∈ figs.data.toList := List.contains_iff_mem.1 h
  simp only [figs, List.mem_cons, List.not_mem_nil, or_false] at h2
  rcases h2 with rfl | rfl | rfl | rfl | rfl | rfl | rfl | rfl | rfl | rfl <;> exact ⟨by decide, by decide⟩
theorem dig_fig : ∀ b : UInt8, IsDig b → (figs.data.toList.contains b) = true := by
  intro b h
  obtain ⟨h1, h2⟩ := h
  have e : b = UInt8.ofNat b.toNat := by simp
  rw [e]
  generalize b.toNat = n at *
  rcases (by omega : n = 48 ∨ n = 49 ∨ n = 50 ∨ n = 51 ∨ n = 52 ∨ n = 53 ∨ n = 54 ∨ n = 55 ∨ n = 56 ∨ n = 57) with rfl | rfl | rfl | rfl | rfl | rfl | rfl | rfl | rfl | rfl <;> decide
theorem dropWhile_nil {α : Type} (p : α → Bool) : ∀ l : List α, l.dropWhile p = [] ↔ ∀ b ∈ l, p b = true
  | [] => by simp
  | a :: l => by
    rw [List.dropWhile_cons]
    split
    · rename_i h; rw [dropWhile_nil p l]; simp [h]
    · rename_i h; simp [h]
theorem dropWhile_sub {α : Type} (p : α → Bool) : ∀ l : List α, (∀ b ∈ l.dropWhile p, p b = true) → l.dropWhile p = []
  | [], _ => rfl
  | a :: l, h => by
    rw [List.dropWhile_cons] at h ⊢
    split
    · rename_i h1; rw [if_pos h1] at h; exact dropWhile_sub p l h
    · rename_i h1; rw [if_neg h1] at h; exact absurd (h a List.mem_cons_self) h1
theorem trimS_nil (l cs : List UInt8) : Lib.trimS l cs = [] ↔ ∀ b ∈ l, cs.contains b = true := by
  unfold Lib.trimS Lib.trimLeftS Lib.trimRightS
  rw [dropWhile_nil]
  constructor
  · intro h
    have h2 : l.reverse.dropWhile (cs.contains ·) = [] := dropWhile_sub _ _ (fun b hb => h b (List.mem_reverse.2 hb))
    rw [dropWhile_nil] at h2
    exact fun b hb => h2 b (List.mem_reverse.2 hb)
  · intro h
    have h2 : l.reverse.dropWhile (cs.contains ·) = [] := (dropWhile_nil _ _).2 (fun b hb => h b (List.mem_reverse.1 hb))
    rw [h2]; simp
theorem decFig_iff (s : ByteArray) (n : Int) : decFig s n = true ↔ s.data.toList ≠ [] ∧ (s.size : Int) ≤ n ∧ ∀ b ∈ s.data.toList, IsDig b := by
  have e0 : sEq s (⟨#[]⟩ : ByteArray) = true ↔ s.data.toList = [] := by
    rw [sEq_iff]
    constructor
    · rintro rfl; rfl
    · intro h; rw [← Lib.mk_data s, h]
  have e1 : sEq (lTrimFig s) (⟨#[]⟩ : ByteArray) = true ↔ ∀ b ∈ s.data.toList, IsDig b := by
    rw [sEq_iff]
    unfold lTrimFig byA
    constructor
    · intro h
      have h2 : Lib.trimS s.data.toList figs.data.toList = [] := by
        have := congrArg (fun x : ByteArray => x.data.toList) h
        simpa using this
      exact fun b hb => fig_dig b ((trimS_nil _ _).1 h2 b hb)
    · intro h
      rw [(trimS_nil _ _).2 (fun b hb => dig_fig b (h b hb))]
  unfold decFig
  cases h : sEq s (⟨#[]⟩ : ByteArray)
  · have h0 : s.data.toList ≠ [] := fun k => by rw [e0.2 k] at h; cases h
    rw [cond_false]
    by_cases k : (s.size : Int) ≤ n
    · rw [decide_eq_true k, cond_true, e1]; simp [h0, k]
    · rw [decide_eq_false k, cond_false]; simp [k]
  · rw [cond_true]; simp [e0.1 h]
def rdBody (s : ByteArray) : ByteArray := (lCutPrefix s (⟨#[45]⟩ : ByteArray)).1
def rdMinus (s : ByteArray) : Bool := (lCutPrefix s (⟨#[45]⟩ : ByteArray)).2
def rdWhole (s : ByteArray) : ByteArray := (cutDot (rdBody s)).1
def rdRest (s : ByteArray) : ByteArray := (cutDot (rdBody s)).2.1
def rdPoint (s : ByteArray) : Bool := (cutDot (rdBody s)).2.2
theorem body_sz {s : ByteArray} (hs : s.size ≤ 9223372036854775807) : (rdBody s).size ≤ 9223372036854775807 := by
  have : (rdBody s).size ≤ s.size := by
    unfold rdBody lCutPrefix
    rw [byA_size, Lib.size_eq s]
    unfold Lib.trimPrefix
    split
    · rw [List.length_drop]; omega
    · exact Nat.le_refl _
  omega
theorem fig_le {s : ByteArray} (h : decFig s 5 = true) : s.size ≤ 5 := by have := ((decFig_iff _ _).1 h).2.1; omega
def RestOk (s : ByteArray) : Prop := rdPoint s = false ∨ (rdPoint s = true ∧ decFig (rdRest s) 6 = true)
theorem rest_none {s : ByteArray} (h : rdPoint s = false) : rdRest s = (⟨#[]⟩ : ByteArray) := by
  unfold rdPoint at h
  unfold rdRest
  unfold cutDot at *
  unfold cutDot0 at *
  cases hd : decide (lIndex (rdBody s) 46 ≥ 0)
  · rfl
  · rw [hd] at h; cases h
theorem rest_6 {s : ByteArray} (h : RestOk s) : (rdRest s).size ≤ 6 ∧ ∀ b ∈ (rdRest s).data.toList, IsDig b := by
  rcases h with h | ⟨_, h⟩
  · rw [rest_none h]; exact ⟨by decide, by simp⟩
  · have := (decFig_iff _ _).1 h
    exact ⟨by omega, this.2.2⟩
theorem rest_sz {s : ByteArray} (h : RestOk s) : (rdRest s).size ≤ 9223372036854775807 := by have := (rest_6 h).1; omega
theorem trimB_sub (l : List UInt8) (c : UInt8) : (∀ b ∈ Lib.trimRightB l c, b ∈ l) ∧ (Lib.trimRightB l c).length ≤ l.length := by
  unfold Lib.trimRightB
  have hs : List.Sublist (l.reverse.dropWhile (· == c)) l.reverse := List.dropWhile_sublist _
  constructor
  · intro b hb
    have := hs.subset (List.mem_reverse.1 hb)
    exact List.mem_reverse.1 this
  · rw [List.length_reverse]
    have := hs.length_le
    simpa using this
theorem trim_6 {s : ByteArray} (h : RestOk s) : (lTrimRight (rdRest s) 48).size ≤ 6 ∧ ∀ b ∈ (lTrimRight (rdRest s) 48).data.toList, IsDig b := by
  have h1 := rest_6 h
  have h2 := trimB_sub (rdRest s).data.toList 48
  unfold lTrimRight
  rw [byA_size]
  rw [Lib.size_eq] at h1
  exact ⟨by omega, fun b hb => h1.2 b (h2.1 b hb)⟩
theorem rest_sz2 {s : ByteArray} (h : RestOk s) : (lTrimRight (rdRest s) 48).size ≤ 6 := (trim_6 h).1
theorem atoi_sz {s : ByteArray} (hw : decFig (rdWhole s) 5 = true) (h : RestOk s) : (rdWhole s ++ lTrimRight (rdRest s) 48).size ≤ 18 := by
  have := fig_le hw
  have := rest_sz2 h
  rw [ByteArray.size_append']
  omega
theorem decFrom_some : ∀ (l : List UInt8) (a : Nat), (∀ b ∈ l, IsDig b) → ∃ n, Lib.decFrom a l = some n
  | [], a, _ => ⟨a, rfl⟩
  | b :: l, a, h => by
    have hb := h b List.mem_cons_self
    have e : Lib.digitVal b = some (b.toNat - 48) := by unfold Lib.digitVal; exact if_pos hb
    rw [Lib.decFrom, e]
    exact decFrom_some l _ (fun c hc => h c (List.mem_cons_of_mem _ hc))
theorem atoi_digs {l : List UInt8} (h0 : l ≠ []) (h : ∀ b ∈ l, IsDig b) : ∃ n : Nat, Lib.decFrom 0 l = some n ∧ Lib.atoi l = some (n : Int) := by
  obtain ⟨n, hn⟩ := decFrom_some l 0 h
  refine ⟨n, hn, ?_⟩
  cases l with
  | nil => exact absurd rfl h0
  | cons b r =>
    have hb := h b List.mem_cons_self
    have h1 : (b == 45) = false := by
      rw [beq_eq_false_iff_ne]; rintro rfl; exact absurd hb.1 (by decide)
    have h2 : (b == 43) = false := by
      rw [beq_eq_false_iff_ne]; rintro rfl; exact absurd hb.1 (by decide)
    rw [Lib.atoi, h1, h2]
    simp [Lib.decNat, hn]
theorem app_list (a b : ByteArray) : (a ++ b).data.toList = a.data.toList ++ b.data.toList := by simp
theorem atoi_ok {s : ByteArray} (hw : decFig (rdWhole s) 5 = true) (h : RestOk s) : (Lib.atoi (rdWhole s ++ lTrimRight (rdRest s) 48).data.toList).isSome = true := by
  have h1 := (decFig_iff _ _).1 hw
  have h2 := trim_6 h
  rw [app_list]
  obtain ⟨n, _, hn⟩ := atoi_digs (l := (rdWhole s).data.toList ++ (lTrimRight (rdRest s) 48).data.toList) (by simp [h1.1]) (fun b hb => by
    rcases List.mem_append.1 hb with hb | hb
    · exact h1.2.2 b hb
    · exact h2.2 b hb)
  rw [hn]; rfl
end Go.Proofs.YtalffjplbhelcaaGreatDoor
namespace Go.Proofs.YtalffjplbhelcaaGreatDoor
open Go.RowKit
attribute [local irreducible] AC AR DWalk
def decRead (s : ByteArray) : Dec × Bool := (bif decFig (rdWhole s) 5 then (bif rdPoint s then (bif decFig (rdRest s) 6 then (bif rdMinus s then (bif (lAtoi ((rdWhole s) ++ (lTrimRight (rdRest s) 48))) == 0 then ((⟨0, 0⟩ : Dec), false) else ((⟨w64 (0 - (lAtoi ((rdWhole s) ++ (lTrimRight (rdRest s) 48)))), (((lTrimRight (rdRest s) 48)).size : Int)⟩ : Dec), true)) else ((⟨(lAtoi ((rdWhole s) ++ (lTrimRight (rdRest s) 48))), (((lTrimRight (rdRest s) 48)).size : Int)⟩ : Dec), true)) else ((⟨0, 0⟩ : Dec), false)) else (bif rdMinus s then (bif (lAtoi ((rdWhole s) ++ (lTrimRight (rdRest s) 48))) == 0 then ((⟨0, 0⟩ : Dec), false) else ((⟨w64 (0 - (lAtoi ((rdWhole s) ++ (lTrimRight (rdRest s) 48)))), (((lTrimRight (rdRest s) 48)).size : Int)⟩ : Dec), true)) else ((⟨(lAtoi ((rdWhole s) ++ (lTrimRight (rdRest s) 48))), (((lTrimRight (rdRest s) 48)).size : Int)⟩ : Dec), true))) else ((⟨0, 0⟩ : Dec), false))
set_option maxRecDepth 100000 in
set_option maxHeartbeats 4000000 in
theorem c_decRead (s : ByteArray) (hs : s.size ≤ 9223372036854775807) : Gets Tryz.prog 28 #[.string s] ((fun (r : Dec × Bool) => (.tuple #[.agg #[.int .i64 r.1.c, .int .i64 r.1.scale], .bool r.2] : Value)) (decRead s)) := by
 refine gets_fin Tryz.func28 rfl rfl rfl (aQ (aL (ao 2 rfl rfl (st_new zero26 rfl fun g0 => (aA 3 (.bool false) rfl rfl (aN (aQ (aL (aM 12 (.string s) rfl rfl (aC 13 (c_lCutPrefix s (⟨#[45]⟩ : ByteArray)) Tryz.func66 ⟨rfl, by decide⟩ rfl rfl (aM 11 (.tuple #[.string (rdBody s), .bool (rdMinus s)]) rfl rfl (aX 14 (.string (rdBody s)) rfl rfl rfl (aX 15 (.bool (rdMinus s)) rfl rfl rfl (aA 4 (.string (rdBody s)) rfl rfl (aA 5 (.bool (rdMinus s)) rfl rfl (aN (aQ (aL (aM 17 (.string (rdBody s)) rfl rfl (aC 18 (c_cutDot (rdBody s) (body_sz hs)) Tryz.func67 ⟨rfl, by decide⟩ rfl rfl ?_))))))))))))))))))))
 refine aM 16 (.tuple #[.string (rdWhole s), .string (rdRest s), .bool (rdPoint s)]) rfl rfl (aX 19 (.string (rdWhole s)) rfl rfl rfl (aX 20 (.string (rdRest s)) rfl rfl rfl (aX 21 (.bool (rdPoint s)) rfl rfl rfl (aA 6 (.string (rdWhole s)) rfl rfl (aA 7 (.string (rdRest s)) rfl rfl (aA 8 (.bool (rdPoint s)) rfl rfl (aN (aQ (aQ (aL (aM 22 (.string (rdWhole s)) rfl rfl (aC 23 (c_decFig (rdWhole s) 5 (by decide)) Tryz.func68 ⟨rfl, by decide⟩ rfl rfl (ao 24 rfl rfl (st_un (v := .bool (!(decFig (rdWhole s) 5))) rfl rfl (un_not rfl) (aM 25 (.bool (!(decFig (rdWhole s) 5))) rfl rfl ?_)))))))))))))))
 refine bool_split (decFig (rdWhole s) 5) (fun h1 => ?_) (fun h1 => ?_)
 ·refine ar_gd (d := (some 26)) (by show ((!(decFig (rdWhole s) 5)) == false) = true; rw [h1]; rfl) rfl (st_move (v := .bool (rdPoint s)) rfl rfl (ar_gd (d := (some 27)) (by show ((!(decFig (rdWhole s) 5)) == false) = true; rw [h1]; rfl) rfl (st_move (v := .bool (rdPoint s)) rfl rfl ?_)))
  refine bool_split (rdPoint s) (fun h2 => ?_) (fun h2 => ?_)
  ·refine ar_gd (d := (some 28)) (by show ((rdPoint s) == true) = true; rw [h2]; rfl) rfl (st_move (v := .string (rdRest s)) rfl rfl (ar_gd (d := (some 29)) (by show ((rdPoint s) == true) = true; rw [h2]; rfl) rfl (st_cf (c_decFig (rdRest s) 6 (by decide)) Tryz.func68 rfl (by decide) rfl rfl rfl (ar_gd (d := (some 30)) (by show ((rdPoint s) == true) = true; rw [h2]; rfl) rfl (st_un (v := .bool (!(decFig (rdRest s) 6))) rfl rfl (un_not rfl) (ar_gd (d := (some 31)) (by show ((!(decFig (rdWhole s) 5)) == false) = true; rw [h1]; rfl) rfl (st_pkt' (b := rdPoint s) (v := .bool (!(decFig (rdRest s) 6))) h2 rfl rfl rfl ?_)))))))
   refine ao 32 rfl rfl (st_pkf' (b := !(decFig (rdWhole s) 5)) (v := .bool (!(decFig (rdRest s) 6))) (by rw [h1]; rfl) rfl rfl rfl (aN ?_))
   refine bool_split (decFig (rdRest s) 6) (fun h3 => ?_) (fun h3 => ?_)
   ·refine ac_else' (b := !(decFig (rdRest s) 6)) (by rw [h3]; rfl) rfl (ac_skip (aQ (aL (aM 34 (.string (rdRest s)) rfl rfl (aC 35 (c_lTrimRight (rdRest s) 48 (by decide) (rest_sz (.inr ⟨h2, h3⟩))) Tryz.func69 ⟨rfl, by decide⟩ rfl rfl (aA 7 (.string (lTrimRight (rdRest s) 48)) rfl rfl (aN (aQ (aL (aM 37 (.string (rdWhole s)) rfl rfl (aM 38 (.string (lTrimRight (rdRest s) 48)) rfl rfl (aB 39 (.string ((rdWhole s) ++ (lTrimRight (rdRest s) 48))) rfl rfl rfl (bi_sadd (sz_two (fig_le h1) (rest_sz2 (.inr ⟨h2, h3⟩)) (by decide))) ?_))))))))))))
    refine aC 40 (c_lAtoi ((rdWhole s) ++ (lTrimRight (rdRest s) 48)) (atoi_sz h1 (.inr ⟨h2, h3⟩)) (atoi_ok h1 (.inr ⟨h2, h3⟩))) Tryz.func70 ⟨rfl, by decide⟩ rfl rfl (aM 36 (.tuple #[.int .i64 (lAtoi ((rdWhole s) ++ (lTrimRight (rdRest s) 48))), .nilIface]) rfl rfl (aX 41 (.int .i64 (lAtoi ((rdWhole s) ++ (lTrimRight (rdRest s) 48)))) rfl rfl rfl (aX 42 (.nilIface) rfl rfl rfl (aA 9 (.int .i64 (lAtoi ((rdWhole s) ++ (lTrimRight (rdRest s) 48)))) rfl rfl (aA 10 (.nilIface) rfl rfl (aN (aQ (aQ (aL (aM 43 (.bool (rdMinus s)) rfl rfl (aM 44 (.bool (rdMinus s)) rfl rfl ?_)))))))))))
    refine bool_split (rdMinus s) (fun h4 => ?_) (fun h4 => ?_)
    ·refine ar_gd (d := (some 45)) (by show ((rdMinus s) == true) = true; rw [h4]; rfl) rfl (st_move (v := .int .i64 (lAtoi ((rdWhole s) ++ (lTrimRight (rdRest s) 48)))) rfl rfl (ar_gd (d := (some 46)) (by show ((rdMinus s) == true) = true; rw [h4]; rfl) rfl (st_bi (r := .bool ((lAtoi ((rdWhole s) ++ (lTrimRight (rdRest s) 48))) == 0)) rfl rfl rfl (bi_eql rfl) (ao 47 rfl rfl (st_pkt' (b := rdMinus s) (v := .bool ((lAtoi ((rdWhole s) ++ (lTrimRight (rdRest s) 48))) == 0)) h4 rfl rfl rfl (aN ?_))))))
     refine bool_split ((lAtoi ((rdWhole s) ++ (lTrimRight (rdRest s) 48))) == 0) (fun h5 => ?_) (fun h5 => ?_)
     ·refine ac_then' (b := (lAtoi ((rdWhole s) ++ (lTrimRight (rdRest s) 48))) == 0) h5 rfl (aQ (aL (ao 48 rfl rfl (st_bd (us := []) (v := .agg #[.int .i64 0, .int .i64 0]) rfl rfl (bd26_ ) (aS [.int .i64 0, .int .i64 0] agg26 0 rfl rfl rfl rfl rfl rfl (aA 3 (.bool false) rfl rfl (aN (ac_ret (fin_eq (v := .tuple #[.agg #[.int .i64 0, .int .i64 0], .bool false]) (by show _ = (fun (r : Dec × Bool) => (.tuple #[.agg #[.int .i64 r.1.c, .int .i64 r.1.scale], .bool r.2] : Value)) (decRead s); rw [decRead, h5, h4, h3, h2, h1] <;> rfl) (fin_ret (res_ct (vs := [.int .i64 0, .int .i64 0]) agg26 0 rfl rfl rfl rfl rfl rfl rfl)))))))))))
     ·refine ac_else' (b := (lAtoi ((rdWhole s) ++ (lTrimRight (rdRest s) 48))) == 0) h5 rfl (ac_skip (aQ (aQ (aL (aM 49 (.bool (rdMinus s)) rfl rfl (aN (ac_then' (b := rdMinus s) h4 rfl (aL (aM 50 (.int .i64 (lAtoi ((rdWhole s) ++ (lTrimRight (rdRest s) 48)))) rfl rfl (ao 51 rfl rfl (st_un (v := .int .i64 (w64 (0 - (lAtoi ((rdWhole s) ++ (lTrimRight (rdRest s) 48)))))) rfl rfl (un_neg rfl) (aA 9 (.int .i64 (w64 (0 - (lAtoi ((rdWhole s) ++ (lTrimRight (rdRest s) 48)))))) rfl rfl (aN (aQ (aL (aM 52 (.int .i64 (w64 (0 - (lAtoi ((rdWhole s) ++ (lTrimRight (rdRest s) 48)))))) rfl rfl (aM 53 (.string (lTrimRight (rdRest s) 48)) rfl rfl ?_)))))))))))))))))
      refine ao 54 rfl rfl (st_slen (s := (lTrimRight (rdRest s) 48)) rfl Tryz.underlying9 rfl (ao 55 rfl rfl (st_bd (us := [(0, .int .i64 (w64 (0 - (lAtoi ((rdWhole s) ++ (lTrimRight (rdRest s) 48)))))), (1, .int .i64 (((lTrimRight (rdRest s) 48)).size : Int))]) (v := .agg #[.int .i64 (w64 (0 - (lAtoi ((rdWhole s) ++ (lTrimRight (rdRest s) 48))))), .int .i64 (((lTrimRight (rdRest s) 48)).size : Int)]) rfl rfl (bd26_0_1 _ _) (aS [.int .i64 (w64 (0 - (lAtoi ((rdWhole s) ++ (lTrimRight (rdRest s) 48))))), .int .i64 (((lTrimRight (rdRest s) 48)).size : Int)] agg26 0 rfl rfl rfl rfl rfl rfl (aA 3 (.bool true) rfl rfl (aN (ac_ret ?_)))))))
      exact fin_eq (v := .tuple #[.agg #[.int .i64 (w64 (0 - (lAtoi ((rdWhole s) ++ (lTrimRight (rdRest s) 48))))), .int .i64 (((lTrimRight (rdRest s) 48)).size : Int)], .bool true]) (by show _ = (fun (r : Dec × Bool) => (.tuple #[.agg #[.int .i64 r.1.c, .int .i64 r.1.scale], .bool r.2] : Value)) (decRead s); rw [decRead, h5, h4, h3, h2, h1] <;> rfl) (fin_ret (res_ct (vs := [.int .i64 (w64 (0 - (lAtoi ((rdWhole s) ++ (lTrimRight (rdRest s) 48))))), .int .i64 (((lTrimRight (rdRest s) 48)).size : Int)]) agg26 0 rfl rfl rfl rfl rfl rfl rfl))
    ·refine aK 45 (by show ((rdMinus s) == true) = false; rw [h4]; rfl) rfl (aK 46 (by show ((rdMinus s) == true) = false; rw [h4]; rfl) rfl (ao 47 rfl rfl (st_pkf' (b := rdMinus s) (v := .bool false) h4 rfl rfl rfl (aN (ac_else rfl (ac_skip (aQ (aQ (aL (aM 49 (.bool (rdMinus s)) rfl rfl (aN (ac_else' (b := rdMinus s) h4 rfl (ac_skip (aQ (aL (aM 52 (.int .i64 (lAtoi ((rdWhole s) ++ (lTrimRight (rdRest s) 48)))) rfl rfl (aM 53 (.string (lTrimRight (rdRest s) 48)) rfl rfl (ao 54 rfl rfl (st_slen (s := (lTrimRight (rdRest s) 48)) rfl Tryz.underlying9 rfl ?_)))))))))))))))))))
     refine ao 55 rfl rfl (st_bd (us := [(0, .int .i64 (lAtoi ((rdWhole s) ++ (lTrimRight (rdRest s) 48)))), (1, .int .i64 (((lTrimRight (rdRest s) 48)).size : Int))]) (v := .agg #[.int .i64 (lAtoi ((rdWhole s) ++ (lTrimRight (rdRest s) 48))), .int .i64 (((lTrimRight (rdRest s) 48)).size : Int)]) rfl rfl (bd26_0_1 _ _) (aS [.int .i64 (lAtoi ((rdWhole s) ++ (lTrimRight (rdRest s) 48))), .int .i64 (((lTrimRight (rdRest s) 48)).size : Int)] agg26 0 rfl rfl rfl rfl rfl rfl (aA 3 (.bool true) rfl rfl (aN (ac_ret ?_)))))
     exact fin_eq (v := .tuple #[.agg #[.int .i64 (lAtoi ((rdWhole s) ++ (lTrimRight (rdRest s) 48))), .int .i64 (((lTrimRight (rdRest s) 48)).size : Int)], .bool true]) (by show _ = (fun (r : Dec × Bool) => (.tuple #[.agg #[.int .i64 r.1.c, .int .i64 r.1.scale], .bool r.2] : Value)) (decRead s); rw [decRead, h4, h3, h2, h1] <;> rfl) (fin_ret (res_ct (vs := [.int .i64 (lAtoi ((rdWhole s) ++ (lTrimRight (rdRest s) 48))), .int .i64 (((lTrimRight (rdRest s) 48)).size : Int)]) agg26 0 rfl rfl rfl rfl rfl rfl rfl))
   ·refine ac_then' (b := !(decFig (rdRest s) 6)) (by rw [h3]; rfl) rfl (aQ (aL (ao 33 rfl rfl (st_bd (us := []) (v := .agg #[.int .i64 0, .int .i64 0]) rfl rfl (bd26_ ) (aS [.int .i64 0, .int .i64 0] agg26 0 rfl rfl rfl rfl rfl rfl (aA 3 (.bool false) rfl rfl (aN (ac_ret (fin_eq (v := .tuple #[.agg #[.int .i64 0, .int .i64 0], .bool false]) (by show _ = (fun (r : Dec × Bool) => (.tuple #[.agg #[.int .i64 r.1.c, .int .i64 r.1.scale], .bool r.2] : Value)) (decRead s); rw [decRead, h3, h2, h1] <;> rfl) (fin_ret (res_ct (vs := [.int .i64 0, .int .i64 0]) agg26 0 rfl rfl rfl rfl rfl rfl rfl)))))))))))
  ·refine aK 28 (by show ((rdPoint s) == true) = false; rw [h2]; rfl) rfl (aK 29 (by show ((rdPoint s) == true) = false; rw [h2]; rfl) rfl (aK 30 (by show ((rdPoint s) == true) = false; rw [h2]; rfl) rfl (ar_gd (d := (some 31)) (by show ((!(decFig (rdWhole s) 5)) == false) = true; rw [h1]; rfl) rfl (st_pkf' (b := rdPoint s) (v := .bool false) h2 rfl rfl rfl (ao 32 rfl rfl (st_pkf' (b := !(decFig (rdWhole s) 5)) (v := .bool false) (by rw [h1]; rfl) rfl rfl rfl (aN (ac_else rfl (ac_skip (aQ (aL (aM 34 (.string (rdRest s)) rfl rfl (aC 35 (c_lTrimRight (rdRest s) 48 (by decide) (rest_sz (.inl h2))) Tryz.func69 ⟨rfl, by decide⟩ rfl rfl ?_)))))))))))))
   refine aA 7 (.string (lTrimRight (rdRest s) 48)) rfl rfl (aN (aQ (aL (aM 37 (.string (rdWhole s)) rfl rfl (aM 38 (.string (lTrimRight (rdRest s) 48)) rfl rfl (aB 39 (.string ((rdWhole s) ++ (lTrimRight (rdRest s) 48))) rfl rfl rfl (bi_sadd (sz_two (fig_le h1) (rest_sz2 (.inl h2)) (by decide))) (aC 40 (c_lAtoi ((rdWhole s) ++ (lTrimRight (rdRest s) 48)) (atoi_sz h1 (.inl h2)) (atoi_ok h1 (.inl h2))) Tryz.func70 ⟨rfl, by decide⟩ rfl rfl (aM 36 (.tuple #[.int .i64 (lAtoi ((rdWhole s) ++ (lTrimRight (rdRest s) 48))), .nilIface]) rfl rfl (aX 41 (.int .i64 (lAtoi ((rdWhole s) ++ (lTrimRight (rdRest s) 48)))) rfl rfl rfl (aX 42 (.nilIface) rfl rfl rfl ?_))))))))))
   refine aA 9 (.int .i64 (lAtoi ((rdWhole s) ++ (lTrimRight (rdRest s) 48)))) rfl rfl (aA 10 (.nilIface) rfl rfl (aN (aQ (aQ (aL (aM 43 (.bool (rdMinus s)) rfl rfl (aM 44 (.bool (rdMinus s)) rfl rfl ?_)))))))
   refine bool_split (rdMinus s) (fun h3 => ?_) (fun h3 => ?_)
   ·refine ar_gd (d := (some 45)) (by show ((rdMinus s) == true) = true; rw [h3]; rfl) rfl (st_move (v := .int .i64 (lAtoi ((rdWhole s) ++ (lTrimRight (rdRest s) 48)))) rfl rfl (ar_gd (d := (some 46)) (by show ((rdMinus s) == true) = true; rw [h3]; rfl) rfl (st_bi (r := .bool ((lAtoi ((rdWhole s) ++ (lTrimRight (rdRest s) 48))) == 0)) rfl rfl rfl (bi_eql rfl) (ao 47 rfl rfl (st_pkt' (b := rdMinus s) (v := .bool ((lAtoi ((rdWhole s) ++ (lTrimRight (rdRest s) 48))) == 0)) h3 rfl rfl rfl (aN ?_))))))
    refine bool_split ((lAtoi ((rdWhole s) ++ (lTrimRight (rdRest s) 48))) == 0) (fun h4 => ?_) (fun h4 => ?_)
    ·refine ac_then' (b := (lAtoi ((rdWhole s) ++ (lTrimRight (rdRest s) 48))) == 0) h4 rfl (aQ (aL (ao 48 rfl rfl (st_bd (us := []) (v := .agg #[.int .i64 0, .int .i64 0]) rfl rfl (bd26_ ) (aS [.int .i64 0, .int .i64 0] agg26 0 rfl rfl rfl rfl rfl rfl (aA 3 (.bool false) rfl rfl (aN (ac_ret (fin_eq (v := .tuple #[.agg #[.int .i64 0, .int .i64 0], .bool false]) (by show _ = (fun (r : Dec × Bool) => (.tuple #[.agg #[.int .i64 r.1.c, .int .i64 r.1.scale], .bool r.2] : Value)) (decRead s); rw [decRead, h4, h3, h2, h1] <;> rfl) (fin_ret (res_ct (vs := [.int .i64 0, .int .i64 0]) agg26 0 rfl rfl rfl rfl rfl rfl rfl)))))))))))
    ·refine ac_else' (b := (lAtoi ((rdWhole s) ++ (lTrimRight (rdRest s) 48))) == 0) h4 rfl (ac_skip (aQ (aQ (aL (aM 49 (.bool (rdMinus s)) rfl rfl (aN (ac_then' (b := rdMinus s) h3 rfl (aL (aM 50 (.int .i64 (lAtoi ((rdWhole s) ++ (lTrimRight (rdRest s) 48)))) rfl rfl (ao 51 rfl rfl (st_un (v := .int .i64 (w64 (0 - (lAtoi ((rdWhole s) ++ (lTrimRight (rdRest s) 48)))))) rfl rfl (un_neg rfl) (aA 9 (.int .i64 (w64 (0 - (lAtoi ((rdWhole s) ++ (lTrimRight (rdRest s) 48)))))) rfl rfl (aN (aQ (aL (aM 52 (.int .i64 (w64 (0 - (lAtoi ((rdWhole s) ++ (lTrimRight (rdRest s) 48)))))) rfl rfl (aM 53 (.string (lTrimRight (rdRest s) 48)) rfl rfl ?_)))))))))))))))))
     refine ao 54 rfl rfl (st_slen (s := (lTrimRight (rdRest s) 48)) rfl Tryz.underlying9 rfl (ao 55 rfl rfl (st_bd (us := [(0, .int .i64 (w64 (0 - (lAtoi ((rdWhole s) ++ (lTrimRight (rdRest s) 48)))))), (1, .int .i64 (((lTrimRight (rdRest s) 48)).size : Int))]) (v := .agg #[.int .i64 (w64 (0 - (lAtoi ((rdWhole s) ++ (lTrimRight (rdRest s) 48))))), .int .i64 (((lTrimRight (rdRest s) 48)).size : Int)]) rfl rfl (bd26_0_1 _ _) (aS [.int .i64 (w64 (0 - (lAtoi ((rdWhole s) ++ (lTrimRight (rdRest s) 48))))), .int .i64 (((lTrimRight (rdRest s) 48)).size : Int)] agg26 0 rfl rfl rfl rfl rfl rfl (aA 3 (.bool true) rfl rfl (aN (ac_ret ?_)))))))
     exact fin_eq (v := .tuple #[.agg #[.int .i64 (w64 (0 - (lAtoi ((rdWhole s) ++ (lTrimRight (rdRest s) 48))))), .int .i64 (((lTrimRight (rdRest s) 48)).size : Int)], .bool true]) (by show _ = (fun (r : Dec × Bool) => (.tuple #[.agg #[.int .i64 r.1.c, .int .i64 r.1.scale], .bool r.2] : Value)) (decRead s); rw [decRead, h4, h3, h2, h1] <;> rfl) (fin_ret (res_ct (vs := [.int .i64 (w64 (0 - (lAtoi ((rdWhole s) ++ (lTrimRight (rdRest s) 48))))), .int .i64 (((lTrimRight (rdRest s) 48)).size : Int)]) agg26 0 rfl rfl rfl rfl rfl rfl rfl))
   ·refine aK 45 (by show ((rdMinus s) == true) = false; rw [h3]; rfl) rfl (aK 46 (by show ((rdMinus s) == true) = false; rw [h3]; rfl) rfl (ao 47 rfl rfl (st_pkf' (b := rdMinus s) (v := .bool false) h3 rfl rfl rfl (aN (ac_else rfl (ac_skip (aQ (aQ (aL (aM 49 (.bool (rdMinus s)) rfl rfl (aN (ac_else' (b := rdMinus s) h3 rfl (ac_skip (aQ (aL (aM 52 (.int .i64 (lAtoi ((rdWhole s) ++ (lTrimRight (rdRest s) 48)))) rfl rfl (aM 53 (.string (lTrimRight (rdRest s) 48)) rfl rfl (ao 54 rfl rfl (st_slen (s := (lTrimRight (rdRest s) 48)) rfl Tryz.underlying9 rfl ?_)))))))))))))))))))
    refine ao 55 rfl rfl (st_bd (us := [(0, .int .i64 (lAtoi ((rdWhole s) ++ (lTrimRight (rdRest s) 48)))), (1, .int .i64 (((lTrimRight (rdRest s) 48)).size : Int))]) (v := .agg #[.int .i64 (lAtoi ((rdWhole s) ++ (lTrimRight (rdRest s) 48))), .int .i64 (((lTrimRight (rdRest s) 48)).size : Int)]) rfl rfl (bd26_0_1 _ _) (aS [.int .i64 (lAtoi ((rdWhole s) ++ (lTrimRight (rdRest s) 48))), .int .i64 (((lTrimRight (rdRest s) 48)).size : Int)] agg26 0 rfl rfl rfl rfl rfl rfl (aA 3 (.bool true) rfl rfl (aN (ac_ret ?_)))))
    exact fin_eq (v := .tuple #[.agg #[.int .i64 (lAtoi ((rdWhole s) ++ (lTrimRight (rdRest s) 48))), .int .i64 (((lTrimRight (rdRest s) 48)).size : Int)], .bool true]) (by show _ = (fun (r : Dec × Bool) => (.tuple #[.agg #[.int .i64 r.1.c, .int .i64 r.1.scale], .bool r.2] : Value)) (decRead s); rw [decRead, h3, h2, h1] <;> rfl) (fin_ret (res_ct (vs := [.int .i64 (lAtoi ((rdWhole s) ++ (lTrimRight (rdRest s) 48))), .int .i64 (((lTrimRight (rdRest s) 48)).size : Int)]) agg26 0 rfl rfl rfl rfl rfl rfl rfl))
 ·refine aK 26 (by show ((!(decFig (rdWhole s) 5)) == false) = false; rw [h1]; rfl) rfl (aK 27 (by show ((!(decFig (rdWhole s) 5)) == false) = false; rw [h1]; rfl) rfl (aK 28 rfl rfl (aK 29 rfl rfl (aK 30 rfl rfl (aK 31 (by show ((!(decFig (rdWhole s) 5)) == false) = false; rw [h1]; rfl) rfl (ao 32 rfl rfl (st_pkt' (b := !(decFig (rdWhole s) 5)) (v := .bool true) (by rw [h1]; rfl) rfl rfl rfl (aN (ac_then rfl (aQ (aL (ao 33 rfl rfl (st_bd (us := []) (v := .agg #[.int .i64 0, .int .i64 0]) rfl rfl (bd26_ ) (aS [.int .i64 0, .int .i64 0] agg26 0 rfl rfl rfl rfl rfl rfl (aA 3 (.bool false) rfl rfl (aN (ac_ret ?_)))))))))))))))))
  exact fin_eq (v := .tuple #[.agg #[.int .i64 0, .int .i64 0], .bool false]) (by show _ = (fun (r : Dec × Bool) => (.tuple #[.agg #[.int .i64 r.1.c, .int .i64 r.1.scale], .bool r.2] : Value)) (decRead s); rw [decRead, h1] <;> rfl) (fin_ret (res_ct (vs := [.int .i64 0, .int .i64 0]) agg26 0 rfl rfl rfl rfl rfl rfl rfl))
end Go.Proofs.YtalffjplbhelcaaGreatDoor
