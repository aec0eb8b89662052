import Derived.Test.YthngkopcadlciaaMNormalTells6
import Derived.Test.YthngkopcadlciaaMNormalTells5
set_option linter.unusedVariables false
set_option linter.unusedSimpArgs false
namespace Go.Proofs.Ythngkopcadlciaa
open Go.RowKit
section
variable {p : Program} {n : Nat} {ops : Array Oper} {Q : Exit → Env → List Box → Prop}
def lookOk (ops : Array Oper) (B : List Nat) (o : Oper) : Bool :=
  (Oper.looksAt ops o).all fun t => B.contains t || ((List.range ops.size).any fun k => bindsOn o k && (match dstOf ops k with | some d => Nat.beq d t | none => false))
def stageOk (ops : Array Oper) (Ms B S todo nxt dn bl : List Nat) : Bool :=
  Region.noSelect ops
  && ((List.range ops.size).all fun i => match ops[i]? with | some o => (o.after.all fun e => !(Region.binds .any e) || Nat.blt e.on i) | none => false)
  && (todo.all fun i => !(Ms.contains i) && (match ops[i]? with | some o => lookOk ops B o | none => false))
  && (nxt.all fun i => Ms.contains i && !(S.contains i) && (match ops[i]? with | some o => lookOk ops B o | none => false))
  && (bl.all fun i => (List.range ops.size).any fun k => before_ ops i k && ((Ms.contains k && !(S.contains k)) || (bl.contains k && Nat.blt k i)))
  && (S.all fun i => Ms.contains i)
  && ((List.range ops.size).all fun i => S.contains i || dn.contains i || todo.contains i || nxt.contains i || bl.contains i)
def dnOk (ops : Array Oper) (m : Nat) (dn dn' : List Nat) : Bool :=
  dn'.all fun i => dn.contains i || (List.range ops.size).any fun k => before_ ops k i && (Nat.beq k m || (dn'.contains k && Nat.blt i k))
def SameAt (E F : Env) : List Nat → Prop
  | [] => True
  | t :: ts => E t = F t ∧ SameAt E F ts
theorem sameAt_mem {E F : Env} : ∀ {l : List Nat}, SameAt E F l → ∀ t ∈ l, E t = F t
  | [], _, _, h => by cases h
  | s :: l, h, t, ht => by
    rcases List.mem_cons.1 ht with rfl | ht
    · exact h.1
    · exact sameAt_mem h.2 t ht
theorem sameAt_of {E F : Env} : ∀ {l : List Nat}, (∀ t ∈ l, E t = F t) → SameAt E F l
  | [], _ => trivial
  | s :: l, h => ⟨h s List.mem_cons_self, sameAt_of fun t ht => h t (List.mem_cons_of_mem _ ht)⟩
def undone (ops : Array Oper) (L : Array Bool) : Nat := (List.range ops.size).countP fun i => !(L.getD i false)
theorem countP_one (f g : Nat → Bool) (i : Nat) : ∀ l : List Nat, l.Nodup → i ∈ l → (∀ j, j ≠ i → f j = g j) → f i = true → g i = false → l.countP f = l.countP g + 1
  | [], _, h, _, _, _ => by cases h
  | x :: l, hn, h, he, h1, h2 => by
    simp only [List.nodup_cons] at hn
    rcases List.mem_cons.1 h with rfl | h
    · rw [List.countP_cons_of_pos h1, List.countP_cons_of_neg (by rw [h2]; exact Bool.false_ne_true)]
      have : l.countP f = l.countP g := List.countP_congr fun j hj => by rw [he j (fun e => hn.1 (e ▸ hj))]
      omega
    · have hx : x ≠ i := fun e => hn.1 (e ▸ h)
      have ih := countP_one f g i l hn.2 h he h1 h2
      rw [List.countP_cons, List.countP_cons, he x hx, ih]
      omega
theorem undone_set {L : Array Bool} {i : Nat} (hs : L.size = ops.size) (hi : i < ops.size) (hl : L.getD i false = false) : undone ops L = undone ops (L.setIfInBounds i true) + 1 := by
  refine countP_one _ _ i _ List.nodup_range (List.mem_range.2 hi) (fun j hj => ?_) (by rw [hl]; rfl) ?_
  · rw [getD_set_ne false (Ne.symm hj)]
  · have : (L.setIfInBounds i true).getD i false = true := by simp [hs, hi]
    rw [this]; rfl
theorem look_congr {E F : Env} {o : Oper} {i : Nat} (ho : ops[i]? = some o) (hsel : Region.noSelect ops = true) (hl : ∀ t ∈ Oper.looksAt ops o, E t = F t) : execOp (ev n E) o = execOp (ev n F) o ∧ yld n ops E o = yld n ops F o := by
  have he : ∀ t, t ∈ Oper.looksAt ops o → ev n E (.tmp t) = ev n F (.tmp t) := fun t ht => by simp only [ev, hl t ht]
  refine ⟨execOp_congr o (fun cs b => Region.noSelect_spec hsel i o cs b ho) (fun x hx => ?_), ?_⟩
  · cases x with
    | tmp t => exact he t (List.mem_append_left _ (List.mem_filterMap.2 ⟨.tmp t, by simpa using hx, rfl⟩))
    | _ => rfl
  · unfold yld
    cases hg : o.guard with
    | none => rfl
    | some gw =>
      obtain ⟨j, want⟩ := gw
      cases hd : (ops[j]?).bind (·.dst) with
      | none => simp [hd]
      | some t =>
        simp only [hd]
        rw [he t (by simp [Oper.looksAt, hg, hd])]
def Stage (p : Program) (n : Nat) (ops : Array Oper) (Q : Exit → Env → List Box → Prop) (Ms B S dn : List Nat) (F : Env) (H : List Box) : Prop :=
  ∀ (L : Array Bool) (E : Env), L.size = ops.size → Down ops L → (∀ m ∈ Ms, L.getD m false = S.contains m) → (∀ i ∈ dn, L.getD i false = true) → (∀ t ∈ B, E t = F t) → (∀ i, L.getD i false = true → ∀ d, dstOf ops i = some d → E d = F d) →
    ∀ β w a, Own β H w → Keeps β w → Sees n E a → wpAny p .any ops (AQ n β Q) (undone ops L) L a w
def TellsF (p : Program) (n : Nat) (ops : Array Oper) (H : List Box) (F : Env) (i : Nat) : Prop := ∃ v, Tells p n ops H F i v ∧ ∀ d, dstOf ops i = some d → v = F d
def slotsOf (ops : Array Oper) (B : List Nat) (l : List Nat) : List Nat := B ++ l.filterMap (dstOf ops)
theorem stage_rule {Ms B S dn : List Nat} {F : Env} {H : List Box} (todo nxt bl : List Nat) (hok : stageOk ops Ms B S todo nxt dn bl = true)
    (hq : Each (TellsF p n ops H F) todo)
    (hm : Each (fun i => OpR p n ops F H i fun F1 H' => ∃ F' dn', SameAt F' F1 (slotsOf ops B (dn ++ todo ++ S ++ [i])) ∧ dnOk ops i dn dn' = true ∧ Stage p n ops Q Ms B (i :: S) dn' F' H') nxt)
    (hfin : nxt = [] → ∀ E, (∀ t ∈ slotsOf ops B (dn ++ todo ++ S), E t = F t) → Q .normal E H) : Stage p n ops Q Ms B S dn F H := by
  simp only [stageOk, Bool.and_eq_true, List.all_eq_true, List.mem_range] at hok
  obtain ⟨⟨⟨⟨⟨⟨hsel, hback⟩, htodo⟩, hnxt⟩, hbl⟩, hSM⟩, hcov⟩ := hok
  have back : ∀ i o, ops[i]? = some o → ∀ e ∈ o.after, Region.binds .any e = true → e.on < i := by
    intro i o ho e he hb
    have := hback i (Array.getElem?_eq_some_iff.1 ho).1
    rw [ho] at this
    have h := Array.all_eq_true_iff_forall_mem.1 this e he
    simpa [hb] using h
  suffices key : ∀ (fuel : Nat) (L : Array Bool) (E : Env), undone ops L = fuel → L.size = ops.size → Down ops L → (∀ m ∈ Ms, L.getD m false = S.contains m) → (∀ i ∈ dn, L.getD i false = true) → (∀ t ∈ B, E t = F t) → (∀ i, L.getD i false = true → ∀ d, dstOf ops i = some d → E d = F d) →
      ∀ β w a, Own β H w → Keeps β w → Sees n E a → wpAny p .any ops (AQ n β Q) fuel L a w by
    intro L E h1 h2 h3 h4 h5 h6
    exact key _ L E rfl h1 h2 h3 h4 h5 h6
  intro fuel
  induction fuel with
  | zero =>
    intro L E hu hs hd hM hdn hB hE β w a hO hK hse
    have all : ∀ i, i < ops.size → L.getD i false = true := by
      intro i hi
      have := (List.countP_eq_zero.1 hu) i (List.mem_range.2 hi)
      simpa using this
    have hr : Region.ready .any ops L = [] := by
      apply List.eq_nil_iff_forall_not_mem.2
      intro i hi
      obtain ⟨h0, o, ho, _⟩ := mem_ready.1 hi
      have hlt := (Array.getElem?_eq_some_iff.1 ho).1
      have := all i hlt
      simp only [Array.getD_eq_getD_getElem?] at this h0
      cases hq : L[i]? with
      | none => simp [hq] at this
      | some b => simp [hq] at this h0; rw [this] at h0; cases h0
    have hn : nxt = [] := by
      cases hx : nxt with
      | nil => rfl
      | cons m ms =>
        have h1 := hnxt m (by rw [hx]; exact List.mem_cons_self)
        simp only [Bool.and_eq_true, Bool.not_eq_true'] at h1
        have h2 := hM m (by simpa using h1.1.1)
        rw [h1.1.2] at h2
        cases ho : ops[m]? with
        | none => simp [ho] at h1
        | some o =>
          have := all m (Array.getElem?_eq_some_iff.1 ho).1
          rw [this] at h2
          cases h2
    refine ⟨hr, E, H, hfin hn E (fun t ht => ?_), hse, hO, hK⟩
    rcases List.mem_append.1 ht with ht | ht
    · exact hB t ht
    · obtain ⟨i, hi, hd⟩ := List.mem_filterMap.1 ht
      refine hE i ?_ t hd
      unfold dstOf at hd
      cases ho : ops[i]? with
      | none => simp [ho] at hd
      | some o => exact all i (Array.getElem?_eq_some_iff.1 ho).1
  | succ fuel ih =>
    intro L E hu hs hd hM hdn hB hE β w a hO hK hse
    have notbl : ∀ m i, i < m → i ∈ bl → L.getD i false = false := by
      intro m
      induction m with
      | zero => intro i h; omega
      | succ m ihm =>
        intro i him hi
        obtain ⟨k, hk, hb⟩ := List.any_eq_true.1 (hbl i hi)
        simp only [Bool.and_eq_true, Bool.or_eq_true, Bool.not_eq_true', Nat.blt_eq] at hb
        obtain ⟨o, ho, e, he, hbd, hon⟩ := before_spec hb.1
        have hkf : L.getD k false = false := by
          rcases hb.2 with h | h
          · rw [hM k (by simpa using h.1), h.2]
          · exact ihm k (by omega) (by simpa using h.1)
        cases hl : L.getD i false with
        | false => rfl
        | true =>
          have := hd i o ho hl e he hbd
          rw [hon, hkf] at this
          cases this
    refine ⟨fun hr => ?_, fun i hi => ?_⟩
    · -- something has not come up: something may
      exfalso
      have hex : ∃ i, i < ops.size ∧ L.getD i false = false := by
        refine Classical.byContradiction fun hc => ?_
        have : undone ops L = 0 := List.countP_eq_zero.2 fun i hi => by
          have hi' := List.mem_range.1 hi
          cases hl : L.getD i false with
          | true => simp
          | false => exact absurd ⟨i, hi', hl⟩ hc
        omega
      have rs : ∀ m i, i < m → i < ops.size → L.getD i false = false → ∃ j, j ∈ Region.ready .any ops L := by
        intro m
        induction m with
        | zero => intro i h; omega
        | succ m ihm =>
          intro i him hi hl
          obtain ⟨o, ho⟩ : ∃ o, ops[i]? = some o := ⟨_, Array.getElem?_eq_getElem hi⟩
          by_cases hall : ∀ e ∈ o.after, Region.binds .any e = true → L.getD e.on false = true
          · refine ⟨i, mem_ready.2 ⟨?_, o, ho, hall⟩⟩
            have hi' : i < L.size := by omega
            simpa [hi'] using hl
          · obtain ⟨e, he, hb, hne⟩ : ∃ e, e ∈ o.after ∧ Region.binds .any e = true ∧ ¬ L.getD e.on false = true := by
              refine Classical.byContradiction fun hc => hall fun e he hb => ?_
              exact Classical.byContradiction fun hn => hc ⟨e, he, hb, hn⟩
            have hlt := back i o ho e he hb
            exact ihm e.on (by omega) (by omega) (by simpa using hne)
      obtain ⟨i, hi, hl⟩ := hex
      obtain ⟨j, hj⟩ := rs (i + 1) i (by omega) hi hl
      rw [hr] at hj
      cases hj
    · obtain ⟨h0, o, ho, hall⟩ := mem_ready.1 hi
      have hlt := (Array.getElem?_eq_some_iff.1 ho).1
      have hl : L.getD i false = false := by
        have hi' : i < L.size := by omega
        simpa [hi'] using h0
      have hcnt := undone_set hs hlt hl
      have hs' : (L.setIfInBounds i true).size = ops.size := by simp [hs]
      have hd' := hd.set hi
      have hLi : (L.setIfInBounds i true).getD i false = true := by simp [hs, hlt]
      have hLj : ∀ j, j ≠ i → (L.setIfInBounds i true).getD j false = L.getD j false := fun j hj => getD_set_ne false (Ne.symm hj)
      have looks : lookOk ops B o = true → ∀ t ∈ Oper.looksAt ops o, E t = F t := by
        intro hlk t ht
        have := List.all_eq_true.1 hlk t ht
        rw [Bool.or_eq_true, List.any_eq_true] at this
        rcases this with h | ⟨k, hk, h⟩
        · exact hB t (by simpa using h)
        · simp only [Bool.and_eq_true] at h
          obtain ⟨hbo, hdt⟩ := h
          unfold bindsOn at hbo
          obtain ⟨e, he, hbb⟩ := Array.any_eq_true'.1 hbo
          simp only [Bool.and_eq_true, beq_iff_eq] at hbb
          have hlk := hall e he hbb.1
          rw [hbb.2] at hlk
          cases hdk : dstOf ops k with
          | none => simp [hdk] at hdt
          | some d =>
            simp only [hdk] at hdt
            have : d = t := Nat.eq_of_beq_eq_true hdt
            rw [← this]
            exact hE k hlk d hdk
      have hc := hcov i hlt
      simp only [Bool.or_eq_true] at hc
      have notS : S.contains i = false := by
        cases hS : S.contains i with
        | false => rfl
        | true =>
          have hm := hSM i (by simpa using hS)
          rw [hM i (by simpa using hm), hS] at hl
          cases hl
      have hfu : undone ops (L.setIfInBounds i true) = fuel := by omega
      unfold wpOp
      simp only [ho]
      rw [hse.yld]
      have htn : i ∈ todo ∨ i ∈ nxt := by
        rcases hc with (((h | h) | h) | h) | h
        · rw [notS] at h; cases h
        · have := hdn i (by simpa using h)
          rw [hl] at this; cases this
        · exact .inl (by simpa using h)
        · exact .inr (by simpa using h)
        · exfalso
          have hib : i ∈ bl := by simpa using h
          obtain ⟨k, hk, hb⟩ := List.any_eq_true.1 (hbl i hib)
          simp only [Bool.and_eq_true, Bool.or_eq_true, Bool.not_eq_true', Nat.blt_eq] at hb
          obtain ⟨o', ho', e, he, hbd, hon⟩ := before_spec hb.1
          rw [ho] at ho'
          cases ho'
          have h1 := hall e he hbd
          rw [hon] at h1
          rcases hb.2 with h | h
          · rw [hM k (by simpa using h.1), h.2] at h1; cases h1
          · rw [notbl (k + 1) k (by omega) (by simpa using h.1)] at h1; cases h1
      rcases htn with hti | hni
      · -- one that tells the same
        have ht := htodo i hti
        rw [ho] at ht
        simp only [Bool.and_eq_true, Bool.not_eq_true'] at ht
        have hl' := looks ht.2
        obtain ⟨v, hT, hv⟩ := each_mem hq i hti
        obtain ⟨o', ho', hT⟩ := tells_congr (E' := E) hsel hT (fun o' ho' t htl => by rw [ho] at ho'; cases ho'; exact hl' t htl)
        rw [ho] at ho'
        cases ho'
        have hdst : dstOf ops i = o.dst := by simp [dstOf, ho]
        have go : ∀ w' a' , Own β H w' → Keeps β w' → Sees n (E.put o.dst v) a' → wpAny p .any ops (AQ n β Q) fuel (L.setIfInBounds i true) a' w' := by
          intro w' a' hO' hK' hs2
          refine ih _ (E.put o.dst v) hfu hs' hd' (fun m hm => ?_) (fun j hj => getD_set_true (hdn j hj)) (fun t htB => ?_) (fun j hj d hdj => ?_) β w' a' hO' hK' hs2
          · have hne : m ≠ i := by
              intro e
              have := ht.1
              rw [← e] at this
              simp [hm] at this
            rw [hLj m hne]
            exact hM m hm
          · rw [put_apply]
            split
            · rename_i h; exact hv t (by rw [hdst]; exact h)
            · exact hB t htB
          · rw [put_apply]
            split
            · rename_i h; exact hv d (by rw [hdst]; exact h)
            · rename_i h
              by_cases hji : j = i
              · subst hji; rw [hdst] at hdj; exact absurd hdj h
              · rw [hLj j hji] at hj
                exact hE j hj d hdj
        rcases hT with ⟨hw, hstep⟩ | ⟨hw, hvu⟩
        · rw [hw, if_pos rfl]
          refine .inl (hstep.wp hse hO hK ?_)
          rintro v' H' w' ⟨rfl, rfl⟩ hO' hK'
          exact go w' _ hO' hK' (hse.put _ _)
        · rw [hw, if_neg (by simp)]
          subst hvu
          exact go w _ hO hK (hse.put _ _)
      · -- one that makes or writes
        have ht := hnxt i hni
        rw [ho] at ht
        simp only [Bool.and_eq_true, Bool.not_eq_true'] at ht
        have hl' := looks ht.2
        obtain ⟨o', ho', hT⟩ := each_mem hm i hni
        rw [ho] at ho'
        cases ho'
        obtain ⟨hx, hy⟩ := look_congr (n := n) ho hsel hl'
        have hdst : dstOf ops i = o.dst := by simp [dstOf, ho]
        have go : ∀ v w' a' H' F' dn', SameAt F' (F.put o.dst v) (slotsOf ops B (dn ++ todo ++ S ++ [i])) → dnOk ops i dn dn' = true → Stage p n ops Q Ms B (i :: S) dn' F' H' → Own β H' w' → Keeps β w' → Sees n (E.put o.dst v) a' → wpAny p .any ops (AQ n β Q) fuel (L.setIfInBounds i true) a' w' := by
          intro v w' a' H' F' dn' hsame hdn' hst hO' hK' hs2
          have hin : ∀ j, (L.setIfInBounds i true).getD j false = true → j ∈ dn ++ todo ++ S ++ [i] := by
            intro j hj
            by_cases hji : j = i
            · rw [hji]; simp
            · rw [hLj j hji] at hj
              have hjl : j < ops.size := by
                have : j < L.size := by
                  refine Nat.lt_of_not_le fun hle => ?_
                  simp [Array.getElem?_eq_none hle] at hj
                omega
              have hc2 := hcov j hjl
              simp only [Bool.or_eq_true] at hc2
              rcases hc2 with (((h | h) | h) | h) | h
              · have : j ∈ S := by simpa using h
                simp [this]
              · have : j ∈ dn := by simpa using h
                simp [this]
              · have : j ∈ todo := by simpa using h
                simp [this]
              · have h1 := hnxt j (by simpa using h)
                simp only [Bool.and_eq_true, Bool.not_eq_true'] at h1
                rw [hM j (by simpa using h1.1.1), h1.1.2] at hj
                cases hj
              · rw [notbl (j + 1) j (by omega) (by simpa using h)] at hj
                cases hj
          have hsm := sameAt_mem hsame
          have := hst (L.setIfInBounds i true) (E.put o.dst v) hs' hd' (fun m hm => ?_) ?_ (fun t htB => ?_) (fun j hj d hdj => ?_) β w' a' hO' hK' hs2
          · rw [hfu] at this; exact this
          · by_cases hmi : m = i
            · rw [hmi, hLi]; simp
            · rw [hLj m hmi, hM m hm]
              simp [hmi]
          · -- what is sure to have come up
            simp only [dnOk, List.all_eq_true] at hdn'
            have kd : ∀ q j, ops.size - j ≤ q → j ∈ dn' → (L.setIfInBounds i true).getD j false = true := by
              intro q
              induction q with
              | zero =>
                intro j hq hj
                have h := hdn' j hj
                rw [Bool.or_eq_true, List.any_eq_true] at h
                rcases h with h | ⟨k, hk, h⟩
                · exact getD_set_true (hdn j (by simpa using h))
                · simp only [Bool.and_eq_true] at h
                  obtain ⟨o2, ho2, e, he, hbd, hon⟩ := before_spec h.1
                  have h1 := back k o2 ho2 e he hbd
                  have h2 := (Array.getElem?_eq_some_iff.1 ho2).1
                  omega
              | succ q ihq =>
                intro j hq hj
                have h := hdn' j hj
                rw [Bool.or_eq_true, List.any_eq_true] at h
                rcases h with h | ⟨k, hk, h⟩
                · exact getD_set_true (hdn j (by simpa using h))
                · simp only [Bool.and_eq_true, Bool.or_eq_true, Nat.blt_eq] at h
                  obtain ⟨hbf, h⟩ := h
                  obtain ⟨o2, ho2, e, he, hbd, hon⟩ := before_spec hbf
                  have h1 := back k o2 ho2 e he hbd
                  have hkt : (L.setIfInBounds i true).getD k false = true := by
                    rcases h with h | h
                    · rw [Nat.eq_of_beq_eq_true h]; exact hLi
                    · exact ihq k (by omega) (by simpa using h.1)
                  have := hd' k o2 ho2 hkt e he hbd
                  rw [hon] at this
                  exact this
            exact fun j hj => kd _ j (Nat.le_refl _) hj
          · rw [hsm t (List.mem_append_left _ htB), put_apply, put_apply]
            split
            · rfl
            · exact hB t htB
          · have hmem : d ∈ slotsOf ops B (dn ++ todo ++ S ++ [i]) := List.mem_append_right _ (List.mem_filterMap.2 ⟨j, hin j hj, hdj⟩)
            rw [hsm d hmem, put_apply, put_apply]
            split
            · rfl
            · rename_i h
              by_cases hji : j = i
              · subst hji; rw [hdst] at hdj; exact absurd hdj h
              · rw [hLj j hji] at hj
                exact hE j hj d hdj
        rw [hy]
        rcases hT with ⟨hw, hstep⟩ | ⟨hw, hk⟩
        · rw [hw, if_pos rfl]
          have hstep' : Step p (ev n E) o H fun v H' => ∃ F' dn', SameAt F' (F.put o.dst v) (slotsOf ops B (dn ++ todo ++ S ++ [i])) ∧ dnOk ops i dn dn' = true ∧ Stage p n ops Q Ms B (i :: S) dn' F' H' := by
            unfold Step at hstep ⊢
            rw [hx]
            exact hstep
          refine .inl (hstep'.wp hse hO hK ?_)
          rintro v H' w' ⟨F', dn', h1, h2, h3⟩ hO' hK'
          exact go v w' _ H' F' dn' h1 h2 h3 hO' hK' (hse.put _ _)
        · rw [hw, if_neg (by simp)]
          obtain ⟨F', dn', h1, h2, h3⟩ := hk
          exact go undef w _ H F' dn' h1 h2 h3 hO hK (hse.put _ _)
def sameSet (Ms S S' : List Nat) : Bool := Ms.all fun m => S.contains m == S'.contains m
theorem Stage.other {Ms B S S' dn : List Nat} {F : Env} {H H' : List Box} (h : Stage p n ops Q Ms B S dn F H) (hs : sameSet Ms S S' = true) (hp : H.Perm H') : Stage p n ops Q Ms B S' dn F H' := by
  intro L E h1 h2 h3 h4 h5 h6 β w a hO hB hs2
  refine h L E h1 h2 (fun m hm => ?_) h4 h5 h6 β w a (hO.perm hp.symm) hB hs2
  have := List.all_eq_true.1 hs m hm
  rw [h3 m hm]
  exact (by simpa using this : S.contains m = S'.contains m).symm
def StageRule (p : Program) (n : Nat) (ops : Array Oper) (Ms B : List Nat) (Sg : List Nat → List Nat → Env → List Box → Prop) (Dn : Env → List Box → Prop) : Prop :=
  ∀ (S dn : List Nat) (F : Env) (H : List Box) (todo nxt bl W : List Nat), stageOk ops Ms B S todo nxt dn bl = true → slotsOf ops B (dn ++ todo ++ S) = W → Each (TellsF p n ops H F) todo →
    Each (fun i => OpR p n ops F H i fun F1 H' => ∃ F' dn' S' H2, Sg S' dn' F' H2 ∧ List.Perm H2 H' ∧ sameSet Ms S' (i :: S) = true ∧ ∃ W, slotsOf ops B (dn ++ todo ++ S ++ [i]) = W ∧ SameAt F' F1 W ∧ dnOk ops i dn dn' = true) nxt →
    (nxt.isEmpty = true → ∀ E, SameAt E F W → Dn E H) → Sg S dn F H
theorem each_mono {P P' : Nat → Prop} (h : ∀ i, P i → P' i) : ∀ {l : List Nat}, Each P l → Each P' l
  | [], _ => trivial
  | i :: l, ⟨h1, h2⟩ => ⟨h i h1, each_mono h h2⟩
theorem ac_stage {id : Nat} {E : Env} {H : List Box} (hm : p.follows .mixedOrders = true) (Ms B : List Nat) (F : Env)
    (h : ∀ Sg Dn, StageRule p n ops Ms B Sg Dn → (∀ E H, Q .normal E H → Dn E H) → Sg [] [] F H) (hF : SameAt F E B) : AC p n (.region id ops true) Q E H := by
  have h := h (Stage p n ops Q Ms B) (fun E H => Q .normal E H) (by
    intro S dn F H todo nxt bl W hok hW hq hm hfin
    refine stage_rule todo nxt bl hok hq (each_mono (fun i hi => ?_) hm) (fun hn E hE => hfin (by rw [hn]; rfl) E (sameAt_of (by rw [← hW]; exact hE)))
    obtain ⟨o, ho, hi⟩ := hi
    refine ⟨o, ho, ?_⟩
    rcases hi with ⟨hw, hst⟩ | ⟨hw, hk⟩
    · exact .inl ⟨hw, hst.mono fun v H' ⟨F', dn', S', H2, h1, hp, hss, W', h2, h3, h4⟩ => ⟨F', dn', by rw [h2]; exact h3, h4, h1.other hss hp⟩⟩
    · obtain ⟨F', dn', S', H2, h1, hp, hss, W', h2, h3, h4⟩ := hk
      exact .inr ⟨hw, F', dn', by rw [h2]; exact h3, h4, h1.other hss hp⟩) (fun E H h => h)
  intro β w a hO hB hs
  refine wp_region_any hm ?_
  have hnone : ∀ i, (Array.replicate ops.size false).getD i false = false := by
    intro i
    simp only [Array.getD_eq_getD_getElem?, Array.getElem?_replicate]
    split <;> rfl
  have := h (Array.replicate ops.size false) E (by simp) (fun i o ho hl => by rw [hnone] at hl; cases hl) (fun m hm => by rw [hnone]; rfl) (fun i hi => by cases hi) (fun t ht => (sameAt_mem hF t ht).symm) (fun i hi => by rw [hnone] at hi; cases hi) β { w with drawn := w.drawn + 1 } a hO.drew hB.drew hs
  have hu : undone ops (Array.replicate ops.size false) = ops.size := by
    unfold undone
    rw [List.countP_eq_length.2 (fun i _ => by rw [hnone]; rfl)]
    simp
  rw [hu] at this
  exact this
theorem tf_op {H : List Box} {F : Env} {i d : Nat} {o : Oper} (v : Value) (ho : ops[i]? = some o) (hg : o.guard = none) (hd : o.dst = some d) (hs : Step p (ev n F) o H fun v' H' => v' = v ∧ H' = H) (hF : v = F d) : TellsF p n ops H F i :=
  ⟨v, ⟨o, ho, .inl ⟨by unfold yld; rw [hg], hs⟩⟩, fun d' hd' => by simp only [dstOf, ho, Option.bind_some, hd, Option.some.injEq] at hd'; rw [← hd']; exact hF⟩
theorem ac_env {id : Nat} {E : Env} {H : List Box} (h : ∀ E1, E1 = E → AC p n (.region id ops true) Q E1 H) : AC p n (.region id ops true) Q E H := h E rfl
end
end Go.Proofs.Ythngkopcadlciaa
namespace Go.Proofs.Ythngkopcadlciaa
open Go.RowKit
attribute [local irreducible] AC AR DWalk
set_option maxRecDepth 100000 in
theorem c_rSlope4 (x0 x1 x2 x3 : Iv) (cap g : Nat) (rest : List Value) : Gives Try.prog 90 #[.slice (some ⟨g, 0, none⟩) 4 cap] [⟨g, [.int .i64 x0.lo, .int .i64 x0.hi, .bool x0.no, .int .i64 x1.lo, .int .i64 x1.hi, .bool x1.no, .int .i64 x2.lo, .int .i64 x2.hi, .bool x2.no, .int .i64 x3.lo, .int .i64 x3.hi, .bool x3.no] ++ rest, 26, true⟩] (Row 26 3 3 [.int .i64 ((rTimes x1 1).lo), .int .i64 ((rTimes x1 1).hi), .bool ((rTimes x1 1).no), .int .i64 ((rTimes x2 2).lo), .int .i64 ((rTimes x2 2).hi), .bool ((rTimes x2 2).no), .int .i64 ((rTimes x3 3).lo), .int .i64 ((rTimes x3 3).hi), .bool ((rTimes x3 3).no)]) := by
 refine gives_fin Try.func90 rfl rfl rfl rfl (aQ (aL (aA 2 (.slice none 0 0) rfl rfl (aN (aQ (aL (aA 3 (.slice none 0 0) rfl rfl (aN (aQ (aQ (aL (aA 4 (.int .i64 1) rfl rfl (aN (ac_block ?_))))))))))))))
 refine ac_rounds 61 (ar_round (aQ (aQ (aL (aM 5 (.int .i64 1) rfl rfl (aM 6 (.slice (some ⟨g, 0, none⟩) 4 cap) rfl rfl (ao 7 rfl rfl (st_ln (a := some ⟨g, 0, none⟩) (m := 4) (c := cap) rfl Try.underlying24 rfl (aB 8 (.bool true) rfl rfl rfl (bi_lss (by decide)) (aN (ac_then rfl (ac_skip (aQ (ac_block (aL (aM 11 (.slice none 0 0) rfl rfl (aM 12 (.slice (some ⟨g, 0, none⟩) 4 cap) rfl rfl (aM 13 (.int .i64 1) rfl rfl (ao 14 rfl rfl (st_sa (g := g) (off := 0) (m := 4) (c := cap) (s := 3) (i := 1) rfl Try.underlying24 (by kernel_rfl) rfl rfl (by decide) (aG 15 [.int .i64 x1.lo, .int .i64 x1.hi, .bool x1.no] agg26 0 rfl rfl rfl rfl rfl ?_)))))))))))))))))))))
 refine aM 16 (.int .i64 1) rfl rfl (aC 17 (c_rTimes x1 1) Try.func87 ⟨rfl, by decide⟩ rfl rfl (ao 18 rfl rfl (st_bs (us := [(0, .agg #[.int .i64 ((rTimes x1 1).lo), .int .i64 ((rTimes x1 1).hi), .bool ((rTimes x1 1).no)])]) (cs := [.int .i64 ((rTimes x1 1).lo), .int .i64 ((rTimes x1 1).hi), .bool ((rTimes x1 1).no)]) rfl rfl (bs24_1_0a _ _ _) fun g0 => ?_)))
 refine ao 19 rfl rfl (st_app (A := [⟨g0, [.int .i64 ((rTimes x1 1).lo), .int .i64 ((rTimes x1 1).hi), .bool ((rTimes x1 1).no)], 26, false⟩, ⟨g, [.int .i64 x0.lo, .int .i64 x0.hi, .bool x0.no, .int .i64 x1.lo, .int .i64 x1.hi, .bool x1.no, .int .i64 x2.lo, .int .i64 x2.hi, .bool x2.no, .int .i64 x3.lo, .int .i64 x3.hi, .bool x3.no] ++ rest, 26, true⟩]) (N := []) (B := []) (bt := ⟨g0, [.int .i64 ((rTimes x1 1).lo), .int .i64 ((rTimes x1 1).hi), .bool ((rTimes x1 1).no)], 26, false⟩) (xs := []) (news := [.int .i64 ((rTimes x1 1).lo), .int .i64 ((rTimes x1 1).hi), .bool ((rTimes x1 1).no)]) (r := []) slT24 rfl rfl rfl (Row.nil _ _) rfl (List.mem_of_getElem? (i := 0) rfl) rfl rfl rfl rfl (by decide) (by decide) (by decide) fun v9 N9 R9 => ?_)
 obtain ⟨g1, cg1, rg1, rfl, rfl, fg1⟩ := R9.pos (by decide)
 refine aA 3 (.slice (some ⟨g1, 0, none⟩) 1 cg1) rfl rfl (aN (aL (aM 9 (.int .i64 1) rfl rfl (aB 10 (.int .i64 2) rfl rfl rfl (bi_add (by decide)) (aA 4 (.int .i64 2) rfl rfl (aN (ar_round (aQ (aQ (aL (aM 5 (.int .i64 2) rfl rfl (aM 6 (.slice (some ⟨g, 0, none⟩) 4 cap) rfl rfl (ao 7 rfl rfl (st_ln (a := some ⟨g, 0, none⟩) (m := 4) (c := cap) rfl Try.underlying24 rfl (aB 8 (.bool true) rfl rfl rfl (bi_lss (by decide)) (aN (ac_then rfl (ac_skip (aQ (ac_block (aL (aM 11 (.slice (some ⟨g1, 0, none⟩) 1 cg1) rfl rfl (aM 12 (.slice (some ⟨g, 0, none⟩) 4 cap) rfl rfl (aM 13 (.int .i64 2) rfl rfl ?_))))))))))))))))))))))))
 refine ao 14 rfl rfl (st_sa (g := g) (off := 0) (m := 4) (c := cap) (s := 3) (i := 2) rfl Try.underlying24 (by kernel_rfl) rfl rfl (by decide) (aG 15 [.int .i64 x2.lo, .int .i64 x2.hi, .bool x2.no] agg26 2 rfl rfl rfl rfl rfl (aM 16 (.int .i64 2) rfl rfl (aC 17 (c_rTimes x2 2) Try.func87 ⟨rfl, by decide⟩ rfl rfl (ao 18 rfl rfl (st_bs (us := [(0, .agg #[.int .i64 ((rTimes x2 2).lo), .int .i64 ((rTimes x2 2).hi), .bool ((rTimes x2 2).no)])]) (cs := [.int .i64 ((rTimes x2 2).lo), .int .i64 ((rTimes x2 2).hi), .bool ((rTimes x2 2).no)]) rfl rfl (bs24_1_0a _ _ _) fun g2 => ?_))))))
 refine ao 19 rfl rfl (st_app (A := [⟨g2, [.int .i64 ((rTimes x2 2).lo), .int .i64 ((rTimes x2 2).hi), .bool ((rTimes x2 2).no)], 26, false⟩]) (N := [⟨g1, [.int .i64 ((rTimes x1 1).lo), .int .i64 ((rTimes x1 1).hi), .bool ((rTimes x1 1).no)] ++ rg1, 26, false⟩]) (B := [⟨g0, [.int .i64 ((rTimes x1 1).lo), .int .i64 ((rTimes x1 1).hi), .bool ((rTimes x1 1).no)], 26, false⟩, ⟨g, [.int .i64 x0.lo, .int .i64 x0.hi, .bool x0.no, .int .i64 x1.lo, .int .i64 x1.hi, .bool x1.no, .int .i64 x2.lo, .int .i64 x2.hi, .bool x2.no, .int .i64 x3.lo, .int .i64 x3.hi, .bool x3.no] ++ rest, 26, true⟩]) (bt := ⟨g2, [.int .i64 ((rTimes x2 2).lo), .int .i64 ((rTimes x2 2).hi), .bool ((rTimes x2 2).no)], 26, false⟩) (xs := [.int .i64 ((rTimes x1 1).lo), .int .i64 ((rTimes x1 1).hi), .bool ((rTimes x1 1).no)]) (news := [.int .i64 ((rTimes x2 2).lo), .int .i64 ((rTimes x2 2).hi), .bool ((rTimes x2 2).no)]) (r := []) slT24 rfl rfl rfl (Row.mk (rest := rg1) fg1) rfl (List.mem_of_getElem? (i := 0) rfl) rfl rfl rfl rfl (by decide) (by decide) (by decide) fun v9 N9 R9 => ?_)
 obtain ⟨g3, cg3, rg3, rfl, rfl, fg3⟩ := R9.pos (by decide)
 refine aA 3 (.slice (some ⟨g3, 0, none⟩) 2 cg3) rfl rfl (aN (aL (aM 9 (.int .i64 2) rfl rfl (aB 10 (.int .i64 3) rfl rfl rfl (bi_add (by decide)) (aA 4 (.int .i64 3) rfl rfl (aN (ar_round (aQ (aQ (aL (aM 5 (.int .i64 3) rfl rfl (aM 6 (.slice (some ⟨g, 0, none⟩) 4 cap) rfl rfl (ao 7 rfl rfl (st_ln (a := some ⟨g, 0, none⟩) (m := 4) (c := cap) rfl Try.underlying24 rfl (aB 8 (.bool true) rfl rfl rfl (bi_lss (by decide)) (aN (ac_then rfl (ac_skip (aQ (ac_block (aL (aM 11 (.slice (some ⟨g3, 0, none⟩) 2 cg3) rfl rfl (aM 12 (.slice (some ⟨g, 0, none⟩) 4 cap) rfl rfl (aM 13 (.int .i64 3) rfl rfl ?_))))))))))))))))))))))))
 refine ao 14 rfl rfl (st_sa (g := g) (off := 0) (m := 4) (c := cap) (s := 3) (i := 3) rfl Try.underlying24 (by kernel_rfl) rfl rfl (by decide) (aG 15 [.int .i64 x3.lo, .int .i64 x3.hi, .bool x3.no] agg26 3 rfl rfl rfl rfl rfl (aM 16 (.int .i64 3) rfl rfl (aC 17 (c_rTimes x3 3) Try.func87 ⟨rfl, by decide⟩ rfl rfl (ao 18 rfl rfl (st_bs (us := [(0, .agg #[.int .i64 ((rTimes x3 3).lo), .int .i64 ((rTimes x3 3).hi), .bool ((rTimes x3 3).no)])]) (cs := [.int .i64 ((rTimes x3 3).lo), .int .i64 ((rTimes x3 3).hi), .bool ((rTimes x3 3).no)]) rfl rfl (bs24_1_0a _ _ _) fun g4 => ?_))))))
 refine ao 19 rfl rfl (st_app (A := [⟨g4, [.int .i64 ((rTimes x3 3).lo), .int .i64 ((rTimes x3 3).hi), .bool ((rTimes x3 3).no)], 26, false⟩]) (N := [⟨g3, [.int .i64 ((rTimes x1 1).lo), .int .i64 ((rTimes x1 1).hi), .bool ((rTimes x1 1).no), .int .i64 ((rTimes x2 2).lo), .int .i64 ((rTimes x2 2).hi), .bool ((rTimes x2 2).no)] ++ rg3, 26, false⟩]) (B := [⟨g2, [.int .i64 ((rTimes x2 2).lo), .int .i64 ((rTimes x2 2).hi), .bool ((rTimes x2 2).no)], 26, false⟩, ⟨g0, [.int .i64 ((rTimes x1 1).lo), .int .i64 ((rTimes x1 1).hi), .bool ((rTimes x1 1).no)], 26, false⟩, ⟨g, [.int .i64 x0.lo, .int .i64 x0.hi, .bool x0.no, .int .i64 x1.lo, .int .i64 x1.hi, .bool x1.no, .int .i64 x2.lo, .int .i64 x2.hi, .bool x2.no, .int .i64 x3.lo, .int .i64 x3.hi, .bool x3.no] ++ rest, 26, true⟩]) (bt := ⟨g4, [.int .i64 ((rTimes x3 3).lo), .int .i64 ((rTimes x3 3).hi), .bool ((rTimes x3 3).no)], 26, false⟩) (xs := [.int .i64 ((rTimes x1 1).lo), .int .i64 ((rTimes x1 1).hi), .bool ((rTimes x1 1).no), .int .i64 ((rTimes x2 2).lo), .int .i64 ((rTimes x2 2).hi), .bool ((rTimes x2 2).no)]) (news := [.int .i64 ((rTimes x3 3).lo), .int .i64 ((rTimes x3 3).hi), .bool ((rTimes x3 3).no)]) (r := []) slT24 rfl rfl rfl (Row.mk (rest := rg3) fg3) rfl (List.mem_of_getElem? (i := 0) rfl) rfl rfl rfl rfl (by decide) (by decide) (by decide) fun v9 N9 R9 => ?_)
 obtain ⟨g5, cg5, rg5, rfl, rfl, fg5⟩ := R9.pos (by decide)
 refine aA 3 (.slice (some ⟨g5, 0, none⟩) 3 cg5) rfl rfl (aN (aL (aM 9 (.int .i64 3) rfl rfl (aB 10 (.int .i64 4) rfl rfl rfl (bi_add (by decide)) (aA 4 (.int .i64 4) rfl rfl (aN (ar_round (aQ (aQ (aL (aM 5 (.int .i64 4) rfl rfl (aM 6 (.slice (some ⟨g, 0, none⟩) 4 cap) rfl rfl (ao 7 rfl rfl (st_ln (a := some ⟨g, 0, none⟩) (m := 4) (c := cap) rfl Try.underlying24 rfl (aB 8 (.bool false) rfl rfl rfl (bi_lss (by decide)) (aN (ac_else rfl (ac_exit (aQ (aL (aM 20 (.slice (some ⟨g5, 0, none⟩) 3 cg5) rfl rfl (aA 2 (.slice (some ⟨g5, 0, none⟩) 3 cg5) rfl rfl (aN (ac_ret ?_))))))))))))))))))))))))
 exact fing_ret (N := [⟨g5, [.int .i64 ((rTimes x1 1).lo), .int .i64 ((rTimes x1 1).hi), .bool ((rTimes x1 1).no), .int .i64 ((rTimes x2 2).lo), .int .i64 ((rTimes x2 2).hi), .bool ((rTimes x2 2).no), .int .i64 ((rTimes x3 3).lo), .int .i64 ((rTimes x3 3).hi), .bool ((rTimes x3 3).no)] ++ rg5, 26, false⟩]) (Row.mk fg5) (List.Sublist.cons_cons _ (List.nil_sublist _)) rfl (res_tmp rfl rfl)
def rHorner3 (x0 : Iv) (x1 : Iv) (x2 : Iv) (x : Iv) : Iv := (bif rRight (rAdd (rMulIv (rAdd (rMulIv x2 x) x1) x) x0) then (rAdd (rMulIv (rAdd (rMulIv x2 x) x1) x) x0) else rNone)
set_option maxRecDepth 100000 in
set_option maxHeartbeats 4000000 in
theorem c_rHorner3 (x0 : Iv) (x1 : Iv) (x2 : Iv) (x : Iv) (g cap : Nat) (rest : List Value) : Gives Try.prog 89 #[.slice (some ⟨g, 0, none⟩) 3 cap, .agg #[.int .i64 x.lo, .int .i64 x.hi, .bool x.no]] [⟨g, [.int .i64 x0.lo, .int .i64 x0.hi, .bool x0.no, .int .i64 x1.lo, .int .i64 x1.hi, .bool x1.no, .int .i64 x2.lo, .int .i64 x2.hi, .bool x2.no] ++ rest, 26, true⟩] (fun u N => u = (Iv.v (rHorner3 x0 x1 x2 x)) ∧ N = []) := by
 refine gives_fin Try.func89 rfl rfl rfl rfl (AC.mono ?_ (fun e E H h => fing_v h rfl))
 refine aQ (aL (ao 3 rfl rfl (st_box (v := .agg #[.int .i64 x.lo, .int .i64 x.hi, .bool x.no]) (cs := [.int .i64 x.lo, .int .i64 x.hi, .bool x.no]) rfl rfl rfl fun g0 => (ao 4 rfl rfl (st_new zero26 rfl fun g1 => (aN (aQ (aQ (aL (aM 7 (.slice (some ⟨g, 0, none⟩) 3 cap) rfl rfl (ao 8 rfl rfl (st_ln (a := some ⟨g, 0, none⟩) (m := 3) (c := cap) rfl Try.underlying24 rfl (aB 9 (.bool false) rfl rfl rfl (bi_eql (by decide)) (aN (ac_else rfl (ac_skip (aQ (aL (aM 11 (.slice (some ⟨g, 0, none⟩) 3 cap) rfl rfl (aM 12 (.slice (some ⟨g, 0, none⟩) 3 cap) rfl rfl (ao 13 rfl rfl (st_ln (a := some ⟨g, 0, none⟩) (m := 3) (c := cap) rfl Try.underlying24 rfl ?_))))))))))))))))))))))
 refine aB 14 (.int .i64 2) rfl rfl rfl (bi_sub (by decide)) (ao 15 rfl rfl (st_sa (g := g) (off := 0) (m := 3) (c := cap) (s := 3) (i := 2) rfl Try.underlying24 (by kernel_rfl) rfl rfl (by decide) (aG 16 [.int .i64 x2.lo, .int .i64 x2.hi, .bool x2.no] agg26 2 rfl rfl rfl rfl rfl (ao 5 rfl rfl (st_new zero26 rfl fun g2 => (aS [.int .i64 x2.lo, .int .i64 x2.hi, .bool x2.no] agg26 0 rfl rfl rfl rfl rfl rfl (aN (aQ (aQ (aL (aM 17 (.slice (some ⟨g, 0, none⟩) 3 cap) rfl rfl (ao 18 rfl rfl (st_ln (a := some ⟨g, 0, none⟩) (m := 3) (c := cap) rfl Try.underlying24 rfl (aB 19 (.int .i64 1) rfl rfl rfl (bi_sub (by decide)) (aA 6 (.int .i64 1) rfl rfl (aN (ac_block ?_)))))))))))))))))
 refine ac_rounds 61 (ar_round (aQ (aQ (aL (aM 20 (.int .i64 1) rfl rfl (aB 21 (.bool true) rfl rfl rfl (bi_geq (by decide)) (aN (ac_then rfl (ac_skip (aQ (ac_block ?_)))))))))))
 refine ac_draw0 (id := 7) [0, 1, 2, 3, 4, 5, 6, 7] [8] _ (by kernel_rfl) follows rfl  (dw_op (d := some 24) _ rfl rfl rfl (st_lda (vs := [.int .i64 x2.lo, .int .i64 x2.hi, .bool x2.no]) agg26 0 rfl rfl rfl rfl rfl rfl ⟨rfl, rfl⟩) (dw_op (d := some 25) _ rfl rfl rfl (st_lda (vs := [.int .i64 x.lo, .int .i64 x.hi, .bool x.no]) agg26 2 rfl rfl rfl rfl rfl rfl ⟨rfl, rfl⟩) (dw_op (d := some 26) _ rfl rfl rfl (st_cf (c_rMulIv x2 x) Try.func83 rfl (by decide) rfl rfl rfl ⟨rfl, rfl⟩) (dw_op (d := some 27) _ rfl rfl rfl (st_move (v := .slice (some ⟨g, 0, none⟩) 3 cap) rfl rfl ⟨rfl, rfl⟩) (dw_op (d := some 28) _ rfl rfl rfl (st_move (v := .int .i64 1) rfl rfl ⟨rfl, rfl⟩) ?_)))))
 refine dw_op (d := some 29) _ rfl rfl rfl (st_sa (g := g) (off := 0) (m := 3) (c := cap) (s := 3) (i := 1) rfl Try.underlying24 (by kernel_rfl) rfl rfl (by decide) ⟨rfl, rfl⟩) (dw_op (d := some 30) _ rfl rfl rfl (st_lda (vs := [.int .i64 x1.lo, .int .i64 x1.hi, .bool x1.no]) agg26 3 rfl rfl rfl rfl rfl rfl ⟨rfl, rfl⟩) (dw_op (d := some 31) _ rfl rfl rfl (st_cf (c_rAdd (rMulIv x2 x) x1) Try.func86 rfl (by decide) rfl rfl rfl ⟨rfl, rfl⟩) (dw_nil (aS [.int .i64 ((rAdd (rMulIv x2 x) x1).lo), .int .i64 ((rAdd (rMulIv x2 x) x1).hi), .bool ((rAdd (rMulIv x2 x) x1).no)] agg26 0 rfl rfl rfl rfl rfl rfl (aN (aL (aM 22 (.int .i64 1) rfl rfl ?_)))))))
 refine aB 23 (.int .i64 0) rfl rfl rfl (bi_sub (by decide)) (aA 6 (.int .i64 0) rfl rfl (aN (ar_round (aQ (aQ (aL (aM 20 (.int .i64 0) rfl rfl (aB 21 (.bool true) rfl rfl rfl (bi_geq (by decide)) (aN (ac_then rfl (ac_skip (aQ (ac_block ?_)))))))))))))
 refine ac_draw0 (id := 7) [0, 1, 2, 3, 4, 5, 6, 7] [8] _ (by kernel_rfl) follows rfl  (dw_op (d := some 24) _ rfl rfl rfl (st_lda (vs := [.int .i64 ((rAdd (rMulIv x2 x) x1).lo), .int .i64 ((rAdd (rMulIv x2 x) x1).hi), .bool ((rAdd (rMulIv x2 x) x1).no)]) agg26 0 rfl rfl rfl rfl rfl rfl ⟨rfl, rfl⟩) (dw_op (d := some 25) _ rfl rfl rfl (st_lda (vs := [.int .i64 x.lo, .int .i64 x.hi, .bool x.no]) agg26 2 rfl rfl rfl rfl rfl rfl ⟨rfl, rfl⟩) (dw_op (d := some 26) _ rfl rfl rfl (st_cf (c_rMulIv (rAdd (rMulIv x2 x) x1) x) Try.func83 rfl (by decide) rfl rfl rfl ⟨rfl, rfl⟩) (dw_op (d := some 27) _ rfl rfl rfl (st_move (v := .slice (some ⟨g, 0, none⟩) 3 cap) rfl rfl ⟨rfl, rfl⟩) ?_))))
 refine dw_op (d := some 28) _ rfl rfl rfl (st_move (v := .int .i64 0) rfl rfl ⟨rfl, rfl⟩) (dw_op (d := some 29) _ rfl rfl rfl (st_sa (g := g) (off := 0) (m := 3) (c := cap) (s := 3) (i := 0) rfl Try.underlying24 (by kernel_rfl) rfl rfl (by decide) ⟨rfl, rfl⟩) (dw_op (d := some 30) _ rfl rfl rfl (st_lda (vs := [.int .i64 x0.lo, .int .i64 x0.hi, .bool x0.no]) agg26 3 rfl rfl rfl rfl rfl rfl ⟨rfl, rfl⟩) (dw_op (d := some 31) _ rfl rfl rfl (st_cf (c_rAdd (rMulIv (rAdd (rMulIv x2 x) x1) x) x0) Try.func86 rfl (by decide) rfl rfl rfl ⟨rfl, rfl⟩) (dw_nil ?_))))
 refine aS [.int .i64 ((rAdd (rMulIv (rAdd (rMulIv x2 x) x1) x) x0).lo), .int .i64 ((rAdd (rMulIv (rAdd (rMulIv x2 x) x1) x) x0).hi), .bool ((rAdd (rMulIv (rAdd (rMulIv x2 x) x1) x) x0).no)] agg26 0 rfl rfl rfl rfl rfl rfl (aN (aL (aM 22 (.int .i64 0) rfl rfl (aB 23 (.int .i64 (-1)) rfl rfl rfl (bi_sub (by decide)) (aA 6 (.int .i64 (-1)) rfl rfl (aN (ar_round (aQ (aQ (aL (aM 20 (.int .i64 (-1)) rfl rfl (aB 21 (.bool false) rfl rfl rfl (bi_geq (by decide)) (aN (ac_else rfl (ac_exit (aQ (aQ (aL ?_))))))))))))))))))
 refine aG 32 [.int .i64 ((rAdd (rMulIv (rAdd (rMulIv x2 x) x1) x) x0).lo), .int .i64 ((rAdd (rMulIv (rAdd (rMulIv x2 x) x1) x) x0).hi), .bool ((rAdd (rMulIv (rAdd (rMulIv x2 x) x1) x) x0).no)] agg26 0 rfl rfl rfl rfl rfl (aC 33 (c_rRight (rAdd (rMulIv (rAdd (rMulIv x2 x) x1) x) x0)) Try.func40 ⟨rfl, by decide⟩ rfl rfl (ao 34 rfl rfl (st_un (v := .bool (!(rRight (rAdd (rMulIv (rAdd (rMulIv x2 x) x1) x) x0)))) rfl rfl (un_not rfl) (aN ?_))))
 refine bool_split (rRight (rAdd (rMulIv (rAdd (rMulIv x2 x) x1) x) x0)) (fun h1 => ?_) (fun h1 => ?_)
 ·refine ac_else' (b := !(rRight (rAdd (rMulIv (rAdd (rMulIv x2 x) x1) x) x0))) (by rw [h1]; rfl) rfl (ac_skip (aQ (aL (aG 36 [.int .i64 ((rAdd (rMulIv (rAdd (rMulIv x2 x) x1) x) x0).lo), .int .i64 ((rAdd (rMulIv (rAdd (rMulIv x2 x) x1) x) x0).hi), .bool ((rAdd (rMulIv (rAdd (rMulIv x2 x) x1) x) x0).no)] agg26 0 rfl rfl rfl rfl rfl (aS [.int .i64 ((rAdd (rMulIv (rAdd (rMulIv x2 x) x1) x) x0).lo), .int .i64 ((rAdd (rMulIv (rAdd (rMulIv x2 x) x1) x) x0).hi), .bool ((rAdd (rMulIv (rAdd (rMulIv x2 x) x1) x) x0).no)] agg26 1 rfl rfl rfl rfl rfl rfl (aN (ac_ret ?_)))))))
  exact fin_eq (v := .agg #[.int .i64 ((rAdd (rMulIv (rAdd (rMulIv x2 x) x1) x) x0).lo), .int .i64 ((rAdd (rMulIv (rAdd (rMulIv x2 x) x1) x) x0).hi), .bool ((rAdd (rMulIv (rAdd (rMulIv x2 x) x1) x) x0).no)]) (by show _ = Iv.v (rHorner3 x0 x1 x2 x); rw [rHorner3, h1] <;> rfl) (fin_ret (res_c (vs := [.int .i64 ((rAdd (rMulIv (rAdd (rMulIv x2 x) x1) x) x0).lo), .int .i64 ((rAdd (rMulIv (rAdd (rMulIv x2 x) x1) x) x0).hi), .bool ((rAdd (rMulIv (rAdd (rMulIv x2 x) x1) x) x0).no)]) agg26 1 rfl rfl rfl rfl rfl rfl))
 ·refine ac_then' (b := !(rRight (rAdd (rMulIv (rAdd (rMulIv x2 x) x1) x) x0))) (by rw [h1]; rfl) rfl (aQ (aL (aC 35 c_rNone Try.func111 ⟨rfl, by decide⟩ rfl rfl (aS [.int .i64 rNone.lo, .int .i64 rNone.hi, .bool rNone.no] agg26 1 rfl rfl rfl rfl rfl rfl (aN (ac_ret (fin_eq (v := .agg #[.int .i64 rNone.lo, .int .i64 rNone.hi, .bool rNone.no]) (by show _ = Iv.v (rHorner3 x0 x1 x2 x); rw [rHorner3, h1] <;> rfl) (fin_ret (res_c (vs := [.int .i64 rNone.lo, .int .i64 rNone.hi, .bool rNone.no]) agg26 1 rfl rfl rfl rfl rfl rfl)))))))))
def rHorner4_e0 (x0 : Iv) (x1 : Iv) (x2 : Iv) (x3 : Iv) (x : Iv) : Iv := (rAdd (rMulIv (rAdd (rMulIv (rAdd (rMulIv x3 x) x2) x) x1) x) x0)
def rHorner4 (x0 : Iv) (x1 : Iv) (x2 : Iv) (x3 : Iv) (x : Iv) : Iv := (bif rRight (rHorner4_e0 x0 x1 x2 x3 x) then (rHorner4_e0 x0 x1 x2 x3 x) else rNone)
set_option maxRecDepth 100000 in
set_option maxHeartbeats 4000000 in
theorem c_rHorner4 (x0 : Iv) (x1 : Iv) (x2 : Iv) (x3 : Iv) (x : Iv) (g cap : Nat) (rest : List Value) : Gives Try.prog 89 #[.slice (some ⟨g, 0, none⟩) 4 cap, .agg #[.int .i64 x.lo, .int .i64 x.hi, .bool x.no]] [⟨g, [.int .i64 x0.lo, .int .i64 x0.hi, .bool x0.no, .int .i64 x1.lo, .int .i64 x1.hi, .bool x1.no, .int .i64 x2.lo, .int .i64 x2.hi, .bool x2.no, .int .i64 x3.lo, .int .i64 x3.hi, .bool x3.no] ++ rest, 26, true⟩] (fun u N => u = (Iv.v (rHorner4 x0 x1 x2 x3 x)) ∧ N = []) := by
 refine gives_fin Try.func89 rfl rfl rfl rfl (AC.mono ?_ (fun e E H h => fing_v h rfl))
 refine aQ (aL (ao 3 rfl rfl (st_box (v := .agg #[.int .i64 x.lo, .int .i64 x.hi, .bool x.no]) (cs := [.int .i64 x.lo, .int .i64 x.hi, .bool x.no]) rfl rfl rfl fun g0 => (ao 4 rfl rfl (st_new zero26 rfl fun g1 => (aN (aQ (aQ (aL (aM 7 (.slice (some ⟨g, 0, none⟩) 4 cap) rfl rfl (ao 8 rfl rfl (st_ln (a := some ⟨g, 0, none⟩) (m := 4) (c := cap) rfl Try.underlying24 rfl (aB 9 (.bool false) rfl rfl rfl (bi_eql (by decide)) (aN (ac_else rfl (ac_skip (aQ (aL (aM 11 (.slice (some ⟨g, 0, none⟩) 4 cap) rfl rfl (aM 12 (.slice (some ⟨g, 0, none⟩) 4 cap) rfl rfl (ao 13 rfl rfl (st_ln (a := some ⟨g, 0, none⟩) (m := 4) (c := cap) rfl Try.underlying24 rfl ?_))))))))))))))))))))))
 refine aB 14 (.int .i64 3) rfl rfl rfl (bi_sub (by decide)) (ao 15 rfl rfl (st_sa (g := g) (off := 0) (m := 4) (c := cap) (s := 3) (i := 3) rfl Try.underlying24 (by kernel_rfl) rfl rfl (by decide) (aG 16 [.int .i64 x3.lo, .int .i64 x3.hi, .bool x3.no] agg26 2 rfl rfl rfl rfl rfl (ao 5 rfl rfl (st_new zero26 rfl fun g2 => (aS [.int .i64 x3.lo, .int .i64 x3.hi, .bool x3.no] agg26 0 rfl rfl rfl rfl rfl rfl (aN (aQ (aQ (aL (aM 17 (.slice (some ⟨g, 0, none⟩) 4 cap) rfl rfl (ao 18 rfl rfl (st_ln (a := some ⟨g, 0, none⟩) (m := 4) (c := cap) rfl Try.underlying24 rfl (aB 19 (.int .i64 2) rfl rfl rfl (bi_sub (by decide)) (aA 6 (.int .i64 2) rfl rfl (aN (ac_block ?_)))))))))))))))))
 refine ac_rounds 61 (ar_round (aQ (aQ (aL (aM 20 (.int .i64 2) rfl rfl (aB 21 (.bool true) rfl rfl rfl (bi_geq (by decide)) (aN (ac_then rfl (ac_skip (aQ (ac_block ?_)))))))))))
 refine ac_draw0 (id := 7) [0, 1, 2, 3, 4, 5, 6, 7] [8] _ (by kernel_rfl) follows rfl  (dw_op (d := some 24) _ rfl rfl rfl (st_lda (vs := [.int .i64 x3.lo, .int .i64 x3.hi, .bool x3.no]) agg26 0 rfl rfl rfl rfl rfl rfl ⟨rfl, rfl⟩) (dw_op (d := some 25) _ rfl rfl rfl (st_lda (vs := [.int .i64 x.lo, .int .i64 x.hi, .bool x.no]) agg26 2 rfl rfl rfl rfl rfl rfl ⟨rfl, rfl⟩) (dw_op (d := some 26) _ rfl rfl rfl (st_cf (c_rMulIv x3 x) Try.func83 rfl (by decide) rfl rfl rfl ⟨rfl, rfl⟩) (dw_op (d := some 27) _ rfl rfl rfl (st_move (v := .slice (some ⟨g, 0, none⟩) 4 cap) rfl rfl ⟨rfl, rfl⟩) (dw_op (d := some 28) _ rfl rfl rfl (st_move (v := .int .i64 2) rfl rfl ⟨rfl, rfl⟩) ?_)))))
 refine dw_op (d := some 29) _ rfl rfl rfl (st_sa (g := g) (off := 0) (m := 4) (c := cap) (s := 3) (i := 2) rfl Try.underlying24 (by kernel_rfl) rfl rfl (by decide) ⟨rfl, rfl⟩) (dw_op (d := some 30) _ rfl rfl rfl (st_lda (vs := [.int .i64 x2.lo, .int .i64 x2.hi, .bool x2.no]) agg26 3 rfl rfl rfl rfl rfl rfl ⟨rfl, rfl⟩) (dw_op (d := some 31) _ rfl rfl rfl (st_cf (c_rAdd (rMulIv x3 x) x2) Try.func86 rfl (by decide) rfl rfl rfl ⟨rfl, rfl⟩) (dw_nil (aS [.int .i64 ((rAdd (rMulIv x3 x) x2).lo), .int .i64 ((rAdd (rMulIv x3 x) x2).hi), .bool ((rAdd (rMulIv x3 x) x2).no)] agg26 0 rfl rfl rfl rfl rfl rfl (aN (aL (aM 22 (.int .i64 2) rfl rfl ?_)))))))
 refine aB 23 (.int .i64 1) rfl rfl rfl (bi_sub (by decide)) (aA 6 (.int .i64 1) rfl rfl (aN (ar_round (aQ (aQ (aL (aM 20 (.int .i64 1) rfl rfl (aB 21 (.bool true) rfl rfl rfl (bi_geq (by decide)) (aN (ac_then rfl (ac_skip (aQ (ac_block ?_)))))))))))))
 refine ac_draw0 (id := 7) [0, 1, 2, 3, 4, 5, 6, 7] [8] _ (by kernel_rfl) follows rfl  (dw_op (d := some 24) _ rfl rfl rfl (st_lda (vs := [.int .i64 ((rAdd (rMulIv x3 x) x2).lo), .int .i64 ((rAdd (rMulIv x3 x) x2).hi), .bool ((rAdd (rMulIv x3 x) x2).no)]) agg26 0 rfl rfl rfl rfl rfl rfl ⟨rfl, rfl⟩) (dw_op (d := some 25) _ rfl rfl rfl (st_lda (vs := [.int .i64 x.lo, .int .i64 x.hi, .bool x.no]) agg26 2 rfl rfl rfl rfl rfl rfl ⟨rfl, rfl⟩) (dw_op (d := some 26) _ rfl rfl rfl (st_cf (c_rMulIv (rAdd (rMulIv x3 x) x2) x) Try.func83 rfl (by decide) rfl rfl rfl ⟨rfl, rfl⟩) (dw_op (d := some 27) _ rfl rfl rfl (st_move (v := .slice (some ⟨g, 0, none⟩) 4 cap) rfl rfl ⟨rfl, rfl⟩) ?_))))
 refine dw_op (d := some 28) _ rfl rfl rfl (st_move (v := .int .i64 1) rfl rfl ⟨rfl, rfl⟩) (dw_op (d := some 29) _ rfl rfl rfl (st_sa (g := g) (off := 0) (m := 4) (c := cap) (s := 3) (i := 1) rfl Try.underlying24 (by kernel_rfl) rfl rfl (by decide) ⟨rfl, rfl⟩) (dw_op (d := some 30) _ rfl rfl rfl (st_lda (vs := [.int .i64 x1.lo, .int .i64 x1.hi, .bool x1.no]) agg26 3 rfl rfl rfl rfl rfl rfl ⟨rfl, rfl⟩) (dw_op (d := some 31) _ rfl rfl rfl (st_cf (c_rAdd (rMulIv (rAdd (rMulIv x3 x) x2) x) x1) Try.func86 rfl (by decide) rfl rfl rfl ⟨rfl, rfl⟩) (dw_nil ?_))))
 refine aS [.int .i64 ((rAdd (rMulIv (rAdd (rMulIv x3 x) x2) x) x1).lo), .int .i64 ((rAdd (rMulIv (rAdd (rMulIv x3 x) x2) x) x1).hi), .bool ((rAdd (rMulIv (rAdd (rMulIv x3 x) x2) x) x1).no)] agg26 0 rfl rfl rfl rfl rfl rfl (aN (aL (aM 22 (.int .i64 1) rfl rfl (aB 23 (.int .i64 0) rfl rfl rfl (bi_sub (by decide)) (aA 6 (.int .i64 0) rfl rfl (aN (ar_round (aQ (aQ (aL (aM 20 (.int .i64 0) rfl rfl (aB 21 (.bool true) rfl rfl rfl (bi_geq (by decide)) (aN (ac_then rfl (ac_skip (aQ (ac_block ?_)))))))))))))))))
 refine ac_draw0 (id := 7) [0, 1, 2, 3, 4, 5, 6, 7] [8] _ (by kernel_rfl) follows rfl  (dw_op (d := some 24) _ rfl rfl rfl (st_lda (vs := [.int .i64 ((rAdd (rMulIv (rAdd (rMulIv x3 x) x2) x) x1).lo), .int .i64 ((rAdd (rMulIv (rAdd (rMulIv x3 x) x2) x) x1).hi), .bool ((rAdd (rMulIv (rAdd (rMulIv x3 x) x2) x) x1).no)]) agg26 0 rfl rfl rfl rfl rfl rfl ⟨rfl, rfl⟩) (dw_op (d := some 25) _ rfl rfl rfl (st_lda (vs := [.int .i64 x.lo, .int .i64 x.hi, .bool x.no]) agg26 2 rfl rfl rfl rfl rfl rfl ⟨rfl, rfl⟩) (dw_op (d := some 26) _ rfl rfl rfl (st_cf (c_rMulIv (rAdd (rMulIv (rAdd (rMulIv x3 x) x2) x) x1) x) Try.func83 rfl (by decide) rfl rfl rfl ⟨rfl, rfl⟩) ?_)))
 refine dw_op (d := some 27) _ rfl rfl rfl (st_move (v := .slice (some ⟨g, 0, none⟩) 4 cap) rfl rfl ⟨rfl, rfl⟩) (dw_op (d := some 28) _ rfl rfl rfl (st_move (v := .int .i64 0) rfl rfl ⟨rfl, rfl⟩) (dw_op (d := some 29) _ rfl rfl rfl (st_sa (g := g) (off := 0) (m := 4) (c := cap) (s := 3) (i := 0) rfl Try.underlying24 (by kernel_rfl) rfl rfl (by decide) ⟨rfl, rfl⟩) (dw_op (d := some 30) _ rfl rfl rfl (st_lda (vs := [.int .i64 x0.lo, .int .i64 x0.hi, .bool x0.no]) agg26 3 rfl rfl rfl rfl rfl rfl ⟨rfl, rfl⟩) (dw_op (d := some 31) _ rfl rfl rfl (st_cf (c_rAdd (rMulIv (rAdd (rMulIv (rAdd (rMulIv x3 x) x2) x) x1) x) x0) Try.func86 rfl (by decide) rfl rfl rfl ⟨rfl, rfl⟩) (dw_nil ?_)))))
 refine aS [.int .i64 ((rHorner4_e0 x0 x1 x2 x3 x).lo), .int .i64 ((rHorner4_e0 x0 x1 x2 x3 x).hi), .bool ((rHorner4_e0 x0 x1 x2 x3 x).no)] agg26 0 rfl rfl rfl rfl rfl rfl (aN (aL (aM 22 (.int .i64 0) rfl rfl (aB 23 (.int .i64 (-1)) rfl rfl rfl (bi_sub (by decide)) (aA 6 (.int .i64 (-1)) rfl rfl (aN (ar_round (aQ (aQ (aL (aM 20 (.int .i64 (-1)) rfl rfl (aB 21 (.bool false) rfl rfl rfl (bi_geq (by decide)) (aN (ac_else rfl (ac_exit (aQ (aQ (aL (aG 32 [.int .i64 ((rHorner4_e0 x0 x1 x2 x3 x).lo), .int .i64 ((rHorner4_e0 x0 x1 x2 x3 x).hi), .bool ((rHorner4_e0 x0 x1 x2 x3 x).no)] agg26 0 rfl rfl rfl rfl rfl ?_)))))))))))))))))))
 refine aC 33 (c_rRight (rHorner4_e0 x0 x1 x2 x3 x)) Try.func40 ⟨rfl, by decide⟩ rfl rfl (ao 34 rfl rfl (st_un (v := .bool (!(rRight (rHorner4_e0 x0 x1 x2 x3 x)))) rfl rfl (un_not rfl) (aN ?_)))
 refine bool_split (rRight (rHorner4_e0 x0 x1 x2 x3 x)) (fun h1 => ?_) (fun h1 => ?_)
 ·refine ac_else' (b := !(rRight (rHorner4_e0 x0 x1 x2 x3 x))) (by rw [h1]; rfl) rfl (ac_skip (aQ (aL (aG 36 [.int .i64 ((rHorner4_e0 x0 x1 x2 x3 x).lo), .int .i64 ((rHorner4_e0 x0 x1 x2 x3 x).hi), .bool ((rHorner4_e0 x0 x1 x2 x3 x).no)] agg26 0 rfl rfl rfl rfl rfl (aS [.int .i64 ((rHorner4_e0 x0 x1 x2 x3 x).lo), .int .i64 ((rHorner4_e0 x0 x1 x2 x3 x).hi), .bool ((rHorner4_e0 x0 x1 x2 x3 x).no)] agg26 1 rfl rfl rfl rfl rfl rfl (aN (ac_ret ?_)))))))
  exact fin_eq (v := .agg #[.int .i64 ((rHorner4_e0 x0 x1 x2 x3 x).lo), .int .i64 ((rHorner4_e0 x0 x1 x2 x3 x).hi), .bool ((rHorner4_e0 x0 x1 x2 x3 x).no)]) (by show _ = Iv.v (rHorner4 x0 x1 x2 x3 x); rw [rHorner4, h1] <;> rfl) (fin_ret (res_c (vs := [.int .i64 ((rHorner4_e0 x0 x1 x2 x3 x).lo), .int .i64 ((rHorner4_e0 x0 x1 x2 x3 x).hi), .bool ((rHorner4_e0 x0 x1 x2 x3 x).no)]) agg26 1 rfl rfl rfl rfl rfl rfl))
 ·refine ac_then' (b := !(rRight (rHorner4_e0 x0 x1 x2 x3 x))) (by rw [h1]; rfl) rfl (aQ (aL (aC 35 c_rNone Try.func111 ⟨rfl, by decide⟩ rfl rfl (aS [.int .i64 rNone.lo, .int .i64 rNone.hi, .bool rNone.no] agg26 1 rfl rfl rfl rfl rfl rfl (aN (ac_ret (fin_eq (v := .agg #[.int .i64 rNone.lo, .int .i64 rNone.hi, .bool rNone.no]) (by show _ = Iv.v (rHorner4 x0 x1 x2 x3 x); rw [rHorner4, h1] <;> rfl) (fin_ret (res_c (vs := [.int .i64 rNone.lo, .int .i64 rNone.hi, .bool rNone.no]) agg26 1 rfl rfl rfl rfl rfl rfl)))))))))
end Go.Proofs.Ythngkopcadlciaa
