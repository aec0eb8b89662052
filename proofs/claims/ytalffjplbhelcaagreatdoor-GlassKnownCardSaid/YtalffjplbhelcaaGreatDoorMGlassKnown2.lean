import Derived.Test.YtalffjplbhelcaaGreatDoorMGlassKnown1
import Derived.Laws.Strings3
import Derived.Laws.Concat
import Derived.Laws.BytesString
import Derived.Test.YtalffjplbhelcaaGreatDoorProg
import Derived.Test.YtalffjplbhelcaaGreatDoorMGlassKnown0
import Derived.Shelf.Strings.SlTrimAscii
import Derived.Lib.AtoiErrMem
import Derived.Lib.AppendIntMem
import Derived.ScopeJumps
import Derived.Control
import Derived.Lib.OthersKept
set_option linter.unusedVariables false
set_option linter.unusedSimpArgs false
namespace Go.Proofs.YtalffjplbhelcaaGreatDoor
open Go.RowKit
section
variable {p : Program} {n : Nat} {ops : Array Oper} {Q : Exit → Env → List Box → Prop}
def lookOk (ops : Array Oper) (B : List Nat) (o : Oper) : Bool :=
  (Oper.looksAt ops o).all fun t => B.contains t || ((List.range ops.size).any fun k => bindsOn o k && (match dstOf ops k with | some d => Nat.beq d t | none => false))
def stageOk (ops : Array Oper) (Ms B S todo nxt dn bl : List Nat) : Bool :=
  Region.noSelect ops
  && ((List.range ops.size).all fun i => match ops[i]? with | some o => (o.after.all fun e => !(Region.binds .any e) || Nat.blt e.on i) | none => false)
  && (todo.all fun i => !(Ms.contains i) && (match ops[i]? with | some o => lookOk ops B o | none => false))
  && (nxt.all fun i => Ms.contains i && !(S.contains i) && (match ops[i]? with | some o => lookOk ops B o | none => false))
  && (bl.all fun i => (List.range ops.size).any fun k => before_ ops i k && ((Ms.contains k && !(S.contains k)) || (bl.contains k && Nat.blt k i)))
  && (S.all fun i => Ms.contains i)
  && ((List.range ops.size).all fun i => S.contains i || dn.contains i || todo.contains i || nxt.contains i || bl.contains i)
def dnOk (ops : Array Oper) (m : Nat) (dn dn' : List Nat) : Bool :=
  dn'.all fun i => dn.contains i || (List.range ops.size).any fun k => before_ ops k i && (Nat.beq k m || (dn'.contains k && Nat.blt i k))
def SameAt (E F : Env) : List Nat → Prop
  | [] => True
  | t :: ts => E t = F t ∧ SameAt E F ts
theorem sameAt_mem {E F : Env} : ∀ {l : List Nat}, SameAt E F l → ∀ t ∈ l, E t = F t
  | [], _, _, h => by cases h
  | s :: l, h, t, ht => by
    rcases List.mem_cons.1 ht with rfl | ht
    · exact h.1
    · exact sameAt_mem h.2 t ht
theorem sameAt_of {E F : Env} : ∀ {l : List Nat}, (∀ t ∈ l, E t = F t) → SameAt E F l
  | [], _ => trivial
  | s :: l, h => ⟨h s List.mem_cons_self, sameAt_of fun t ht => h t (List.mem_cons_of_mem _ ht)⟩
def undone (ops : Array Oper) (L : Array Bool) : Nat := (List.range ops.size).countP fun i => !(L.getD i false)
theorem countP_one (f g : Nat → Bool) (i : Nat) : ∀ l : List Nat, l.Nodup → i ∈ l → (∀ j, j ≠ i → f j = g j) → f i = true → g i = false → l.countP f = l.countP g + 1
  | [], _, h, _, _, _ => by cases h
  | x :: l, hn, h, he, h1, h2 => by
    simp only [List.nodup_cons] at hn
    rcases List.mem_cons.1 h with rfl | h
    · rw [List.countP_cons_of_pos h1, List.countP_cons_of_neg (by rw [h2]; exact Bool.false_ne_true)]
      have : l.countP f = l.countP g := List.countP_congr fun j hj => by rw [he j (fun e => hn.1 (e ▸ hj))]
      omega
    · have hx : x ≠ i := fun e => hn.1 (e ▸ h)
      have ih := countP_one f g i l hn.2 h he h1 h2
      rw [List.countP_cons, List.countP_cons, he x hx, ih]
      omega
theorem undone_set {L : Array Bool} {i : Nat} (hs : L.size = ops.size) (hi : i < ops.size) (hl : L.getD i false = false) : undone ops L = undone ops (L.setIfInBounds i true) + 1 := by
  refine countP_one _ _ i _ List.nodup_range (List.mem_range.2 hi) (fun j hj => ?_) (by rw [hl]; rfl) ?_
  · rw [getD_set_ne false (Ne.symm hj)]
  · have : (L.setIfInBounds i true).getD i false = true := by simp [hs, hi]
    rw [this]; rfl
theorem look_congr {E F : Env} {o : Oper} {i : Nat} (ho : ops[i]? = some o) (hsel : Region.noSelect ops = true) (hl : ∀ t ∈ Oper.looksAt ops o, E t = F t) : execOp (ev n E) o = execOp (ev n F) o ∧ yld n ops E o = yld n ops F o := by
  have he : ∀ t, t ∈ Oper.looksAt ops o → ev n E (.tmp t) = ev n F (.tmp t) := fun t ht => by simp only [ev, hl t ht]
  refine ⟨execOp_congr o (fun cs b => Region.noSelect_spec hsel i o cs b ho) (fun x hx => ?_), ?_⟩
  · cases x with
    | tmp t => exact he t (List.mem_append_left _ (List.mem_filterMap.2 ⟨.tmp t, by simpa using hx, rfl⟩))
    | _ => rfl
  · unfold yld
    cases hg : o.guard with
    | none => rfl
    | some gw =>
      obtain ⟨j, want⟩ := gw
      cases hd : (ops[j]?).bind (·.dst) with
      | none => simp [hd]
      | some t =>
        simp only [hd]
        rw [he t (by simp [Oper.looksAt, hg, hd])]
def Stage (p : Program) (n : Nat) (ops : Array Oper) (Q : Exit → Env → List Box → Prop) (Ms B S dn : List Nat) (F : Env) (H : List Box) : Prop :=
  ∀ (L : Array Bool) (E : Env), L.size = ops.size → Down ops L → (∀ m ∈ Ms, L.getD m false = S.contains m) → (∀ i ∈ dn, L.getD i false = true) → (∀ t ∈ B, E t = F t) → (∀ i, L.getD i false = true → ∀ d, dstOf ops i = some d → E d = F d) →
    ∀ β w a, Own β H w → Keeps β w → Sees n E a → wpAny p .any ops (AQ n β Q) (undone ops L) L a w
def TellsF (p : Program) (n : Nat) (ops : Array Oper) (H : List Box) (F : Env) (i : Nat) : Prop := ∃ v, Tells p n ops H F i v ∧ ∀ d, dstOf ops i = some d → v = F d
def slotsOf (ops : Array Oper) (B : List Nat) (l : List Nat) : List Nat := B ++ l.filterMap (dstOf ops)
theorem stage_rule {Ms B S dn : List Nat} {F : Env} {H : List Box} (todo nxt bl : List Nat) (hok : stageOk ops Ms B S todo nxt dn bl = true)
    (hq : Each (TellsF p n ops H F) todo)
    (hm : Each (fun i => OpR p n ops F H i fun F1 H' => ∃ F' dn', SameAt F' F1 (slotsOf ops B (dn ++ todo ++ S ++ [i])) ∧ dnOk ops i dn dn' = true ∧ Stage p n ops Q Ms B (i :: S) dn' F' H') nxt)
    (hfin : nxt = [] → ∀ E, (∀ t ∈ slotsOf ops B (dn ++ todo ++ S), E t = F t) → Q .normal E H) : Stage p n ops Q Ms B S dn F H := by
  simp only [stageOk, Bool.and_eq_true, List.all_eq_true, List.mem_range] at hok
  obtain ⟨⟨⟨⟨⟨⟨hsel, hback⟩, htodo⟩, hnxt⟩, hbl⟩, hSM⟩, hcov⟩ := hok
  have back : ∀ i o, ops[i]? = some o → ∀ e ∈ o.after, Region.binds .any e = true → e.on < i := by
    intro i o ho e he hb
    have := hback i (Array.getElem?_eq_some_iff.1 ho).1
    rw [ho] at this
    have h := Array.all_eq_true_iff_forall_mem.1 this e he
    simpa [hb] using h
  suffices key : ∀ (fuel : Nat) (L : Array Bool) (E : Env), undone ops L = fuel → L.size = ops.size → Down ops L → (∀ m ∈ Ms, L.getD m false = S.contains m) → (∀ i ∈ dn, L.getD i false = true) → (∀ t ∈ B, E t = F t) → (∀ i, L.getD i false = true → ∀ d, dstOf ops i = some d → E d = F d) →
      ∀ β w a, Own β H w → Keeps β w → Sees n E a → wpAny p .any ops (AQ n β Q) fuel L a w by
    intro L E h1 h2 h3 h4 h5 h6
    exact key _ L E rfl h1 h2 h3 h4 h5 h6
  intro fuel
  induction fuel with
  | zero =>
    intro L E hu hs hd hM hdn hB hE β w a hO hK hse
    have all : ∀ i, i < ops.size → L.getD i false = true := by
      intro i hi
      have := (List.countP_eq_zero.1 hu) i (List.mem_range.2 hi)
      simpa using this
    have hr : Region.ready .any ops L = [] := by
      apply List.eq_nil_iff_forall_not_mem.2
      intro i hi
      obtain ⟨h0, o, ho, _⟩ := mem_ready.1 hi
      have hlt := (Array.getElem?_eq_some_iff.1 ho).1
      have := all i hlt
      simp only [Array.getD_eq_getD_getElem?] at this h0
      cases hq : L[i]? with
      | none => simp [hq] at this
      | some b => simp [hq] at this h0; rw [this] at h0; cases h0
    have hn : nxt = [] := by
      cases hx : nxt with
      | nil => rfl
      | cons m ms =>
        have h1 := hnxt m (by rw [hx]; exact List.mem_cons_self)
        simp only [Bool.and_eq_true, Bool.not_eq_true'] at h1
        have h2 := hM m (by simpa using h1.1.1)
        rw [h1.1.2] at h2
        cases ho : ops[m]? with
        | none => simp [ho] at h1
        | some o =>
          have := all m (Array.getElem?_eq_some_iff.1 ho).1
          rw [this] at h2
          cases h2
    refine ⟨hr, E, H, hfin hn E (fun t ht => ?_), hse, hO, hK⟩
    rcases List.mem_append.1 ht with ht | ht
    · exact hB t ht
    · obtain ⟨i, hi, hd⟩ := List.mem_filterMap.1 ht
      refine hE i ?_ t hd
      unfold dstOf at hd
      cases ho : ops[i]? with
      | none => simp [ho] at hd
      | some o => exact all i (Array.getElem?_eq_some_iff.1 ho).1
  | succ fuel ih =>
    intro L E hu hs hd hM hdn hB hE β w a hO hK hse
    have notbl : ∀ m i, i < m → i ∈ bl → L.getD i false = false := by
      intro m
      induction m with
      | zero => intro i h; omega
      | succ m ihm =>
        intro i him hi
        obtain ⟨k, hk, hb⟩ := List.any_eq_true.1 (hbl i hi)
        simp only [Bool.and_eq_true, Bool.or_eq_true, Bool.not_eq_true', Nat.blt_eq] at hb
        obtain ⟨o, ho, e, he, hbd, hon⟩ := before_spec hb.1
        have hkf : L.getD k false = false := by
          rcases hb.2 with h | h
          · rw [hM k (by simpa using h.1), h.2]
          · exact ihm k (by omega) (by simpa using h.1)
        cases hl : L.getD i false with
        | false => rfl
        | true =>
          have := hd i o ho hl e he hbd
          rw [hon, hkf] at this
          cases this
    refine ⟨fun hr => ?_, fun i hi => ?_⟩
    · -- something has not come up: something may
      exfalso
      have hex : ∃ i, i < ops.size ∧ L.getD i false = false := by
        refine Classical.byContradiction fun hc => ?_
        have : undone ops L = 0 := List.countP_eq_zero.2 fun i hi => by
          have hi' := List.mem_range.1 hi
          cases hl : L.getD i false with
          | true => simp
          | false => exact absurd ⟨i, hi', hl⟩ hc
        omega
      have rs : ∀ m i, i < m → i < ops.size → L.getD i false = false → ∃ j, j ∈ Region.ready .any ops L := by
        intro m
        induction m with
        | zero => intro i h; omega
        | succ m ihm =>
          intro i him hi hl
          obtain ⟨o, ho⟩ : ∃ o, ops[i]? = some o := ⟨_, Array.getElem?_eq_getElem hi⟩
          by_cases hall : ∀ e ∈ o.after, Region.binds .any e = true → L.getD e.on false = true
          · refine ⟨i, mem_ready.2 ⟨?_, o, ho, hall⟩⟩
            have hi' : i < L.size := by omega
            simpa [hi'] using hl
          · obtain ⟨e, he, hb, hne⟩ : ∃ e, e ∈ o.after ∧ Region.binds .any e = true ∧ ¬ L.getD e.on false = true := by
              refine Classical.byContradiction fun hc => hall fun e he hb => ?_
              exact Classical.byContradiction fun hn => hc ⟨e, he, hb, hn⟩
            have hlt := back i o ho e he hb
            exact ihm e.on (by omega) (by omega) (by simpa using hne)
      obtain ⟨i, hi, hl⟩ := hex
      obtain ⟨j, hj⟩ := rs (i + 1) i (by omega) hi hl
      rw [hr] at hj
      cases hj
    · obtain ⟨h0, o, ho, hall⟩ := mem_ready.1 hi
      have hlt := (Array.getElem?_eq_some_iff.1 ho).1
      have hl : L.getD i false = false := by
        have hi' : i < L.size := by omega
        simpa [hi'] using h0
      have hcnt := undone_set hs hlt hl
      have hs' : (L.setIfInBounds i true).size = ops.size := by simp [hs]
      have hd' := hd.set hi
      have hLi : (L.setIfInBounds i true).getD i false = true := by simp [hs, hlt]
      have hLj : ∀ j, j ≠ i → (L.setIfInBounds i true).getD j false = L.getD j false := fun j hj => getD_set_ne false (Ne.symm hj)
      have looks : lookOk ops B o = true → ∀ t ∈ Oper.looksAt ops o, E t = F t := by
        intro hlk t ht
        have := List.all_eq_true.1 hlk t ht
        rw [Bool.or_eq_true, List.any_eq_true] at this
        rcases this with h | ⟨k, hk, h⟩
        · exact hB t (by simpa using h)
        · simp only [Bool.and_eq_true] at h
          obtain ⟨hbo, hdt⟩ := h
          unfold bindsOn at hbo
          obtain ⟨e, he, hbb⟩ := Array.any_eq_true'.1 hbo
          simp only [Bool.and_eq_true, beq_iff_eq] at hbb
          have hlk := hall e he hbb.1
          rw [hbb.2] at hlk
          cases hdk : dstOf ops k with
          | none => simp [hdk] at hdt
          | some d =>
            simp only [hdk] at hdt
            have : d = t := Nat.eq_of_beq_eq_true hdt
            rw [← this]
            exact hE k hlk d hdk
      have hc := hcov i hlt
      simp only [Bool.or_eq_true] at hc
      have notS : S.contains i = false := by
        cases hS : S.contains i with
        | false => rfl
        | true =>
          have hm := hSM i (by simpa using hS)
          rw [hM i (by simpa using hm), hS] at hl
          cases hl
      have hfu : undone ops (L.setIfInBounds i true) = fuel := by omega
      unfold wpOp
      simp only [ho]
      rw [hse.yld]
      have htn : i ∈ todo ∨ i ∈ nxt := by
        rcases hc with (((h | h) | h) | h) | h
        · rw [notS] at h; cases h
        · have := hdn i (by simpa using h)
          rw [hl] at this; cases this
        · exact .inl (by simpa using h)
        · exact .inr (by simpa using h)
        · exfalso
          have hib : i ∈ bl := by simpa using h
          obtain ⟨k, hk, hb⟩ := List.any_eq_true.1 (hbl i hib)
          simp only [Bool.and_eq_true, Bool.or_eq_true, Bool.not_eq_true', Nat.blt_eq] at hb
          obtain ⟨o', ho', e, he, hbd, hon⟩ := before_spec hb.1
          rw [ho] at ho'
          cases ho'
          have h1 := hall e he hbd
          rw [hon] at h1
          rcases hb.2 with h | h
          · rw [hM k (by simpa using h.1), h.2] at h1; cases h1
          · rw [notbl (k + 1) k (by omega) (by simpa using h.1)] at h1; cases h1
      rcases htn with hti | hni
      · -- one that tells the same
        have ht := htodo i hti
        rw [ho] at ht
        simp only [Bool.and_eq_true, Bool.not_eq_true'] at ht
        have hl' := looks ht.2
        obtain ⟨v, hT, hv⟩ := each_mem hq i hti
        obtain ⟨o', ho', hT⟩ := tells_congr (E' := E) hsel hT (fun o' ho' t htl => by rw [ho] at ho'; cases ho'; exact hl' t htl)
        rw [ho] at ho'
        cases ho'
        have hdst : dstOf ops i = o.dst := by simp [dstOf, ho]
        have go : ∀ w' a' , Own β H w' → Keeps β w' → Sees n (E.put o.dst v) a' → wpAny p .any ops (AQ n β Q) fuel (L.setIfInBounds i true) a' w' := by
          intro w' a' hO' hK' hs2
          refine ih _ (E.put o.dst v) hfu hs' hd' (fun m hm => ?_) (fun j hj => getD_set_true (hdn j hj)) (fun t htB => ?_) (fun j hj d hdj => ?_) β w' a' hO' hK' hs2
          · have hne : m ≠ i := by
              intro e
              have := ht.1
              rw [← e] at this
              simp [hm] at this
            rw [hLj m hne]
            exact hM m hm
          · rw [put_apply]
            split
            · rename_i h; exact hv t (by rw [hdst]; exact h)
            · exact hB t htB
          · rw [put_apply]
            split
            · rename_i h; exact hv d (by rw [hdst]; exact h)
            · rename_i h
              by_cases hji : j = i
              · subst hji; rw [hdst] at hdj; exact absurd hdj h
              · rw [hLj j hji] at hj
                exact hE j hj d hdj
        rcases hT with ⟨hw, hstep⟩ | ⟨hw, hvu⟩
        · rw [hw, if_pos rfl]
          refine .inl (hstep.wp hse hO hK ?_)
          rintro v' H' w' ⟨rfl, rfl⟩ hO' hK'
          exact go w' _ hO' hK' (hse.put _ _)
        · rw [hw, if_neg (by simp)]
          subst hvu
          exact go w _ hO hK (hse.put _ _)
      · -- one that makes or writes
        have ht := hnxt i hni
        rw [ho] at ht
        simp only [Bool.and_eq_true, Bool.not_eq_true'] at ht
        have hl' := looks ht.2
        obtain ⟨o', ho', hT⟩ := each_mem hm i hni
        rw [ho] at ho'
        cases ho'
        obtain ⟨hx, hy⟩ := look_congr (n := n) ho hsel hl'
        have hdst : dstOf ops i = o.dst := by simp [dstOf, ho]
        have go : ∀ v w' a' H' F' dn', SameAt F' (F.put o.dst v) (slotsOf ops B (dn ++ todo ++ S ++ [i])) → dnOk ops i dn dn' = true → Stage p n ops Q Ms B (i :: S) dn' F' H' → Own β H' w' → Keeps β w' → Sees n (E.put o.dst v) a' → wpAny p .any ops (AQ n β Q) fuel (L.setIfInBounds i true) a' w' := by
          intro v w' a' H' F' dn' hsame hdn' hst hO' hK' hs2
          have hin : ∀ j, (L.setIfInBounds i true).getD j false = true → j ∈ dn ++ todo ++ S ++ [i] := by
            intro j hj
            by_cases hji : j = i
            · rw [hji]; simp
            · rw [hLj j hji] at hj
              have hjl : j < ops.size := by
                have : j < L.size := by
                  refine Nat.lt_of_not_le fun hle => ?_
                  simp [Array.getElem?_eq_none hle] at hj
                omega
              have hc2 := hcov j hjl
              simp only [Bool.or_eq_true] at hc2
              rcases hc2 with (((h | h) | h) | h) | h
              · have : j ∈ S := by simpa using h
                simp [this]
              · have : j ∈ dn := by simpa using h
                simp [this]
              · have : j ∈ todo := by simpa using h
                simp [this]
              · have h1 := hnxt j (by simpa using h)
                simp only [Bool.and_eq_true, Bool.not_eq_true'] at h1
                rw [hM j (by simpa using h1.1.1), h1.1.2] at hj
                cases hj
              · rw [notbl (j + 1) j (by omega) (by simpa using h)] at hj
                cases hj
          have hsm := sameAt_mem hsame
          have := hst (L.setIfInBounds i true) (E.put o.dst v) hs' hd' (fun m hm => ?_) ?_ (fun t htB => ?_) (fun j hj d hdj => ?_) β w' a' hO' hK' hs2
          · rw [hfu] at this; exact this
          · by_cases hmi : m = i
            · rw [hmi, hLi]; simp
            · rw [hLj m hmi, hM m hm]
              simp [hmi]
          · -- what is sure to have come up
            simp only [dnOk, List.all_eq_true] at hdn'
            have kd : ∀ q j, ops.size - j ≤ q → j ∈ dn' → (L.setIfInBounds i true).getD j false = true := by
              intro q
              induction q with
              | zero =>
                intro j hq hj
                have h := hdn' j hj
                rw [Bool.or_eq_true, List.any_eq_true] at h
                rcases h with h | ⟨k, hk, h⟩
                · exact getD_set_true (hdn j (by simpa using h))
                · simp only [Bool.and_eq_true] at h
                  obtain ⟨o2, ho2, e, he, hbd, hon⟩ := before_spec h.1
                  have h1 := back k o2 ho2 e he hbd
                  have h2 := (Array.getElem?_eq_some_iff.1 ho2).1
                  omega
              | succ q ihq =>
                intro j hq hj
                have h := hdn' j hj
                rw [Bool.or_eq_true, List.any_eq_true] at h
                rcases h with h | ⟨k, hk, h⟩
                · exact getD_set_true (hdn j (by simpa using h))
                · simp only [Bool.and_eq_true, Bool.or_eq_true, Nat.blt_eq] at h
                  obtain ⟨hbf, h⟩ := h
                  obtain ⟨o2, ho2, e, he, hbd, hon⟩ := before_spec hbf
                  have h1 := back k o2 ho2 e he hbd
                  have hkt : (L.setIfInBounds i true).getD k false = true := by
                    rcases h with h | h
                    · rw [Nat.eq_of_beq_eq_true h]; exact hLi
                    · exact ihq k (by omega) (by simpa using h.1)
                  have := hd' k o2 ho2 hkt e he hbd
                  rw [hon] at this
                  exact this
            exact fun j hj => kd _ j (Nat.le_refl _) hj
          · rw [hsm t (List.mem_append_left _ htB), put_apply, put_apply]
            split
            · rfl
            · exact hB t htB
          · have hmem : d ∈ slotsOf ops B (dn ++ todo ++ S ++ [i]) := List.mem_append_right _ (List.mem_filterMap.2 ⟨j, hin j hj, hdj⟩)
            rw [hsm d hmem, put_apply, put_apply]
            split
            · rfl
            · rename_i h
              by_cases hji : j = i
              · subst hji; rw [hdst] at hdj; exact absurd hdj h
              · rw [hLj j hji] at hj
                exact hE j hj d hdj
        rw [hy]
        rcases hT with ⟨hw, hstep⟩ | ⟨hw, hk⟩
        · rw [hw, if_pos rfl]
          have hstep' : Step p (ev n E) o H fun v H' => ∃ F' dn', SameAt F' (F.put o.dst v) (slotsOf ops B (dn ++ todo ++ S ++ [i])) ∧ dnOk ops i dn dn' = true ∧ Stage p n ops Q Ms B (i :: S) dn' F' H' := by
            unfold Step at hstep ⊢
            rw [hx]
            exact hstep
          refine .inl (hstep'.wp hse hO hK ?_)
          rintro v H' w' ⟨F', dn', h1, h2, h3⟩ hO' hK'
          exact go v w' _ H' F' dn' h1 h2 h3 hO' hK' (hse.put _ _)
        · rw [hw, if_neg (by simp)]
          obtain ⟨F', dn', h1, h2, h3⟩ := hk
          exact go undef w _ H F' dn' h1 h2 h3 hO hK (hse.put _ _)
def sameSet (Ms S S' : List Nat) : Bool := Ms.all fun m => S.contains m == S'.contains m
theorem Stage.other {Ms B S S' dn : List Nat} {F : Env} {H H' : List Box} (h : Stage p n ops Q Ms B S dn F H) (hs : sameSet Ms S S' = true) (hp : H.Perm H') : Stage p n ops Q Ms B S' dn F H' := by
  intro L E h1 h2 h3 h4 h5 h6 β w a hO hB hs2
  refine h L E h1 h2 (fun m hm => ?_) h4 h5 h6 β w a (hO.perm hp.symm) hB hs2
  have := List.all_eq_true.1 hs m hm
  rw [h3 m hm]
  exact (by simpa using this : S.contains m = S'.contains m).symm
def StageRule (p : Program) (n : Nat) (ops : Array Oper) (Ms B : List Nat) (Sg : List Nat → List Nat → Env → List Box → Prop) (Dn : Env → List Box → Prop) : Prop :=
  ∀ (S dn : List Nat) (F : Env) (H : List Box) (todo nxt bl W : List Nat), stageOk ops Ms B S todo nxt dn bl = true → slotsOf ops B (dn ++ todo ++ S) = W → Each (TellsF p n ops H F) todo →
    Each (fun i => OpR p n ops F H i fun F1 H' => ∃ F' dn' S' H2, Sg S' dn' F' H2 ∧ List.Perm H2 H' ∧ sameSet Ms S' (i :: S) = true ∧ ∃ W, slotsOf ops B (dn ++ todo ++ S ++ [i]) = W ∧ SameAt F' F1 W ∧ dnOk ops i dn dn' = true) nxt →
    (nxt.isEmpty = true → ∀ E, SameAt E F W → Dn E H) → Sg S dn F H
theorem each_mono {P P' : Nat → Prop} (h : ∀ i, P i → P' i) : ∀ {l : List Nat}, Each P l → Each P' l
  | [], _ => trivial
  | i :: l, ⟨h1, h2⟩ => ⟨h i h1, each_mono h h2⟩
theorem ac_stage {id : Nat} {E : Env} {H : List Box} (hm : p.follows .mixedOrders = true) (Ms B : List Nat) (F : Env)
    (h : ∀ Sg Dn, StageRule p n ops Ms B Sg Dn → (∀ E H, Q .normal E H → Dn E H) → Sg [] [] F H) (hF : SameAt F E B) : AC p n (.region id ops true) Q E H := by
  have h := h (Stage p n ops Q Ms B) (fun E H => Q .normal E H) (by
    intro S dn F H todo nxt bl W hok hW hq hm hfin
    refine stage_rule todo nxt bl hok hq (each_mono (fun i hi => ?_) hm) (fun hn E hE => hfin (by rw [hn]; rfl) E (sameAt_of (by rw [← hW]; exact hE)))
    obtain ⟨o, ho, hi⟩ := hi
    refine ⟨o, ho, ?_⟩
    rcases hi with ⟨hw, hst⟩ | ⟨hw, hk⟩
    · exact .inl ⟨hw, hst.mono fun v H' ⟨F', dn', S', H2, h1, hp, hss, W', h2, h3, h4⟩ => ⟨F', dn', by rw [h2]; exact h3, h4, h1.other hss hp⟩⟩
    · obtain ⟨F', dn', S', H2, h1, hp, hss, W', h2, h3, h4⟩ := hk
      exact .inr ⟨hw, F', dn', by rw [h2]; exact h3, h4, h1.other hss hp⟩) (fun E H h => h)
  intro β w a hO hB hs
  refine wp_region_any hm ?_
  have hnone : ∀ i, (Array.replicate ops.size false).getD i false = false := by
    intro i
    simp only [Array.getD_eq_getD_getElem?, Array.getElem?_replicate]
    split <;> rfl
  have := h (Array.replicate ops.size false) E (by simp) (fun i o ho hl => by rw [hnone] at hl; cases hl) (fun m hm => by rw [hnone]; rfl) (fun i hi => by cases hi) (fun t ht => (sameAt_mem hF t ht).symm) (fun i hi => by rw [hnone] at hi; cases hi) β { w with drawn := w.drawn + 1 } a hO.drew hB.drew hs
  have hu : undone ops (Array.replicate ops.size false) = ops.size := by
    unfold undone
    rw [List.countP_eq_length.2 (fun i _ => by rw [hnone]; rfl)]
    simp
  rw [hu] at this
  exact this
theorem tf_op {H : List Box} {F : Env} {i d : Nat} {o : Oper} (v : Value) (ho : ops[i]? = some o) (hg : o.guard = none) (hd : o.dst = some d) (hs : Step p (ev n F) o H fun v' H' => v' = v ∧ H' = H) (hF : v = F d) : TellsF p n ops H F i :=
  ⟨v, ⟨o, ho, .inl ⟨by unfold yld; rw [hg], hs⟩⟩, fun d' hd' => by simp only [dstOf, ho, Option.bind_some, hd, Option.some.injEq] at hd'; rw [← hd']; exact hF⟩
theorem ac_env {id : Nat} {E : Env} {H : List Box} (h : ∀ E1, E1 = E → AC p n (.region id ops true) Q E1 H) : AC p n (.region id ops true) Q E H := h E rfl
end
end Go.Proofs.YtalffjplbhelcaaGreatDoor
namespace Go.Proofs.YtalffjplbhelcaaGreatDoor
open Go.RowKit
def sEq (a b : ByteArray) : Bool := a.toList == b.toList
def byteS (n : Int) : ByteArray := ⟨#[UInt8.ofNat n.toNat]⟩
theorem byteS_size (n : Int) : (byteS n).size ≤ 1 := Nat.le_refl _
theorem sz_add {a b : ByteArray} {m n : Nat} (h : a.size ≤ m) (k : b.size ≤ n) : (a ++ b).size ≤ m + n := by
  rw [ByteArray.size_append']; omega
theorem sz_two {a b : ByteArray} {m n : Nat} (h : a.size ≤ m) (k : b.size ≤ n) (hm : m + n ≤ 9223372036854775807) : a.size + b.size ≤ 9223372036854775807 := by omega
section
variable {p : Program} {n : Nat} {ops : Array Oper} {Q : Exit → Env → List Box → Prop} {l : List Oper} {E : Env} {H : List Box} {o : Oper} {ρ : Operand → Value} {K : Post}
theorem st_slen {t : TypeId} {args : List Operand} {s : ByteArray} (ho : o.op = .call { callee := .builtin .len, args := args.toArray, argTypes := #[t] }) (hu : p.underlying t = some .string) (hv : args.map ρ = [.string s]) (k : K (.int .i64 (s.size : Int)) H) : Step p ρ o H K := by
  refine st_val (fun w => ?_) k
  rw [execOp, ho]
  simp only [resolve, List.map_toArray, hv]
  simp [invoke, builtin, Builtin.len_, Sem.run_bind, run_underlying hu w, goInt]
theorem bi_sadd {t : Nat} {a b : ByteArray} (h : a.size + b.size ≤ 9223372036854775807) (x y : Operand) : Runs p (do eqGuard .add t x y (.string a) (.string b); binOp .add t (.string a) (.string b)) (.string (a ++ b)) := ⟨fun w => by
  have := run_string_add_sum (P := p) (w := w) a b h
  simpa [eqGuard, binOp] using this⟩
theorem bi_seql {t : Nat} {a b : ByteArray} {d : Bool} (h : sEq a b = d) (x y : Operand) : Runs p (do eqGuard .eql t x y (.string a) (.string b); binOp .eql t (.string a) (.string b)) (.bool d) := ⟨fun w => by
  subst h
  simp [eqGuard, binOp, Op.stringOp, sEq]⟩
theorem bi_sneq {t : Nat} {a b : ByteArray} {d : Bool} (h : (!sEq a b) = d) (x y : Operand) : Runs p (do eqGuard .neq t x y (.string a) (.string b); binOp .neq t (.string a) (.string b)) (.bool d) := ⟨fun w => by
  subst h
  simp [eqGuard, binOp, Op.stringOp, sEq]⟩
def sAt (s : ByteArray) (i : Nat) : Int := (((s[i]?).getD 0).toNat : Int)
theorem st_six {t : TypeId} {x y : Operand} {s : ByteArray} {i : Nat} (ho : o.op = .index t x y) (hu : p.underlying t = some .string) (hx : ρ x = .string s) (hy : ρ y = .int .i64 i) (hi : i < s.size) (k : K (.int .u8 (sAt s i)) H) : Step p ρ o H K := by
  refine st_run (s := Instr.index t (.string s) (.int .i64 i)) (by rw [execOp, ho]; simp only [hx, hy]) ⟨fun w => ?_⟩ k
  have h0 : (0 : Int) ≤ i := by omega
  have hb := ByteArray.getElem?_lt' s i hi
  simp [Instr.index, asIntOf, Sem.run_bind, run_underlying hu w, h0, hb, sAt]
theorem st_cvs {t u e : Nat} {x : Operand} {g : Nat} {b : Box} {n : Int} (i : Nat) (ho : o.op = .convert t u x) (ht : p.underlying t = some (.slice e)) (he : p.underlying e = some (.int .u8)) (hu : p.underlying u = some .string) (hx : ρ x = .slice (some ⟨g, 0, none⟩) 1 1) (hm : H[i]? = some b) (hg : b.g = g) (hc : b.cs = [.int .u8 n])
    (k : K (.string (byteS n)) H) : Step p ρ o H K := by
  intro F β w hO hB
  obtain ⟨fr, _, hb⟩ := (hO.at_ b (List.mem_append_left _ (List.mem_of_getElem? hm))).2
  subst hg
  have hl := run_loadCells_list (P := p) (w := w) ⟨b.g, 0, none⟩ [.int .u8 n] fun j v hj => by
    rw [add_at, Nat.zero_add, cell_of_row w b.g j _ _ _ hb, hc]
    simpa using hj
  have h1 := run_bytesToString (P := p) (w := w) ⟨b.g, 0, none⟩ 1 1 [n] hl
  have e1 : (execOp ρ o).run p w = .ok (.value (.string (byteS n))) w := by
    rw [execOp, ho]
    simp only [hx]
    simp only [Sem.run_bind]
    rw [run_convert_bytes_string w t u e _ _ _ ht he hu, h1]
    rfl
  rw [e1]
  exact ⟨H, k, hO, hB⟩
end
section
variable {p : Program} {t : Nat} {a b : Int} {d : Bool} {k : IntKind}
theorem bk_leq (h : decide (a ≤ b) = d) (x y : Operand) : Runs p (do eqGuard .leq t x y (.int k a) (.int k b); binOp .leq t (.int k a) (.int k b)) (.bool d) := ⟨fun w => by rw [← h]; cases k <;> rfl⟩
theorem bk_geq (h : decide (a ≥ b) = d) (x y : Operand) : Runs p (do eqGuard .geq t x y (.int k a) (.int k b); binOp .geq t (.int k a) (.int k b)) (.bool d) := ⟨fun w => by rw [← h]; cases k <;> rfl⟩
theorem bk_eql (h : (a == b) = d) (x y : Operand) : Runs p (do eqGuard .eql t x y (.int k a) (.int k b); binOp .eql t (.int k a) (.int k b)) (.bool d) := ⟨fun w => by rw [← h]; cases k <;> rfl⟩
theorem bk_neq (h : (a != b) = d) (x y : Operand) : Runs p (do eqGuard .neq t x y (.int k a) (.int k b); binOp .neq t (.int k a) (.int k b)) (.bool d) := ⟨fun w => by rw [← h]; cases k <;> rfl⟩
end
end Go.Proofs.YtalffjplbhelcaaGreatDoor
namespace Go.Proofs.YtalffjplbhelcaaGreatDoor
open Go.RowKit
structure Iv where
  lo : Int
  hi : Int
  no : Bool
deriving DecidableEq
@[reducible] def Iv.v (a : Iv) : Value := .agg #[.int .i64 a.lo, .int .i64 a.hi, .bool a.no]
theorem follows : Tryz.prog.follows .mixedOrders = true := by kernel_rfl
theorem iv_eq (a b : Iv) : decide (a = b) = ((a.lo == b.lo) && ((a.hi == b.hi) && (a.no == b.no))) := by
  obtain ⟨x, y, z⟩ := a
  obtain ⟨u, v, q⟩ := b
  rw [Bool.eq_iff_iff]
  simp [Iv.mk.injEq]
theorem cell_int : IsCell Tryz.prog 3 := ⟨⟨_, Tryz.underlying3, rfl, by kernel_rfl⟩⟩
theorem cell_bool : IsCell Tryz.prog 4 := ⟨⟨_, Tryz.underlying4, rfl, by kernel_rfl⟩⟩
theorem stood_iv : Tryz.prog.stoodInHeld 32 = false := by kernel_rfl
theorem eqr_iv (a b : Iv) (d : Nat) (w : World) : (Op.equalIn (d + 2) 32 a.v b.v).run Tryz.prog w = .ok (decide (a = b)) w := by
  rw [iv_eq]
  refine eqf_s (xs := [.int .i64 a.lo, .int .i64 a.hi, .bool a.no]) (ys := [.int .i64 b.lo, .int .i64 b.hi, .bool b.no]) Tryz.underlying32 stood_iv ?_
  refine eqf_c (by decide) (part_c cell_int rfl) (part_c cell_int rfl) (run_equalIn_int _ _ _ _ _ _ _ Tryz.underlying3) ?_
  refine eqf_c (by decide) (part_c cell_int rfl) (part_c cell_int rfl) (run_equalIn_int _ _ _ _ _ _ _ Tryz.underlying3) ?_
  have := eqf_c (p := Tryz.prog) (d := d + 1) (xs := [.int .i64 a.lo, .int .i64 a.hi, .bool a.no]) (ys := [.int .i64 b.lo, .int .i64 b.hi, .bool b.no]) (w := w) (f := { name := "No", type := 4, offset := 2, embedded := false, tag := "", pkgPath := "", byteOffset := 16 }) (fs := []) (by decide) (part_c cell_bool rfl) (part_c cell_bool rfl) (run_equalIn_bool _ _ _ _ _ Tryz.underlying4) eqf_n
  rw [Bool.and_true] at this
  exact this
theorem guard_iv : Tryz.prog.eqGuardType Tryz.prog.depth 32 = false := by kernel_rfl
theorem beql_32 (a b : Iv) {d : Bool} (h : decide (a = b) = d) (x y : Operand) : Runs Tryz.prog (do eqGuard .eql 32 x y a.v b.v; binOp .eql 32 a.v b.v) (.bool d) := bs_eql guard_iv (fun w => eqr_iv a b 9998 w) h x y
end Go.Proofs.YtalffjplbhelcaaGreatDoor
namespace Go.Proofs.YtalffjplbhelcaaGreatDoor
open Go.RowKit
section
variable {p : Program} {n : Nat} {ops : Array Oper} {Q : Exit → Env → List Box → Prop} {l : List Oper} {E : Env} {H : List Box} {o : Oper} {ρ : Operand → Value} {K : Post}
theorem aQ {x y : Code} (h : AC p n x (AThen (AC p n y Q) Q) E H) : AC p n (.seq x y) Q E H := ac_seq h
theorem aL {id : Nat} {l : List Oper} (h : AR p n l.toArray Q l E H) : AC p n (.region id l.toArray false) Q E H := ac_region_lit h
theorem aN (h : Q .normal E H) : AR p n ops Q [] E H := ar_nil h
theorem aM {x : Operand} {ty : TypeId} {ps : String} {af : Array Edge} (d : Nat) (v : Value) (ho : o = ⟨some d, .move x, ty, ps, af, none⟩) (hx : ev n E x = v) (h : AR p n ops Q l (E.put (some d) v) H) : AR p n ops Q (o :: l) E H := by
  subst ho
  exact ao d rfl rfl (st_move rfl hx h)
theorem aA {x : Operand} {ty : TypeId} {ps : String} {af : Array Edge} (d : Nat) (v : Value) (ho : o = ⟨some d, .assign x, ty, ps, af, none⟩) (hx : ev n E x = v) (h : AR p n ops Q l (E.put (some d) v) H) : AR p n ops Q (o :: l) E H := by
  subst ho
  exact ao d rfl rfl (st_assign rfl hx h)
theorem aB {op : BinOp} {t y' : Nat} {x y : Operand} {u v : Value} {ty : TypeId} {ps : String} {af : Array Edge} (d : Nat) (r : Value) (ho : o = ⟨some d, .binOp op t x y y', ty, ps, af, none⟩) (hx : ev n E x = u) (hy : ev n E y = v)
    (hr : ∀ x y : Operand, Runs p (do eqGuard op t x y u v; binOp op t u v) r) (h : AR p n ops Q l (E.put (some d) r) H) : AR p n ops Q (o :: l) E H := by
  subst ho
  exact ao d rfl rfl (st_bi rfl hx hy hr h)
theorem aC {f : FuncId} {args : List Operand} {ts : Array TypeId} {vs : List Value} {r : Value} {fn : Func} {c : Code} {ty : TypeId} {ps : String} {af : Array Edge} (d : Nat) (g : Gets p f vs.toArray r) (hfn : p.funcs[f]? = some fn) (hb : (fn.body = some c) ∧ (fn.name == "runtime.NumGoroutine") = false)
    (ho : o = ⟨some d, .call { callee := .value (.func f), args := args.toArray, argTypes := ts }, ty, ps, af, none⟩) (hv : args.map (ev n E) = vs) (h : AR p n ops Q l (E.put (some d) r) H) : AR p n ops Q (o :: l) E H := by
  subst ho
  exact ao d rfl rfl (st_cf g hfn hb.1 hb.2 rfl rfl hv h)
theorem aS {t : TypeId} {x y : Operand} {g off : Nat} {cs0 us : List Value} {t0 : Nat} {m : Nat} {ty : TypeId} {ps : String} {af : Array Edge} (cs : List Value) (ha : IsAgg p t m) (i : Nat) (ho : o = ⟨none, .store t x y, ty, ps, af, none⟩) (hx : ev n E x = .pointer (some ⟨g, off, none⟩)) (hy : ev n E y = .agg us.toArray)
    (hm : H[i]? = some ⟨g, cs0, t0, false⟩) (hk : (Nat.beq us.length m && Nat.ble (off + m) cs0.length && us.all (·.oneCell')) = true) (hcs : cs0.take off ++ us ++ cs0.drop (off + m) = cs) (h : AR p n ops Q l E (upd H i cs)) : AR p n ops Q (o :: l) E H := by
  subst ho
  simp only [Bool.and_eq_true] at hk
  exact ar_op (d := none) rfl rfl (st_sta ha i rfl hx hy hm rfl (Nat.eq_of_beq_eq_true hk.1.1) hk.1.2 hk.2 hcs h)
theorem aF {t f : Nat} {x : Operand} {g off j : Nat} {ty : TypeId} {ps : String} {af : Array Edge} (d : Nat) (hr : ∀ a, Runs p (Instr.fieldAt t (.pointer (some a)) f) (.pointer (some (a.add j)))) (ho : o = ⟨some d, .fieldAddr t x f, ty, ps, af, none⟩) (hx : ev n E x = .pointer (some ⟨g, off, none⟩))
    (h : AR p n ops Q l (E.put (some d) (.pointer (some ⟨g, off + j, none⟩))) H) : AR p n ops Q (o :: l) E H := by
  subst ho
  exact ao d rfl rfl (st_fa rfl hr hx h)
theorem aG {t : TypeId} {x : Operand} {g off : Nat} {cs0 : List Value} {t0 : Nat} {ro : Bool} {m : Nat} {ty : TypeId} {ps : String} {af : Array Edge} (d : Nat) (vs : List Value) (ha : IsAgg p t m) (i : Nat) (ho : o = ⟨some d, .load t x, ty, ps, af, none⟩) (hx : ev n E x = .pointer (some ⟨g, off, none⟩)) (hm : H[i]? = some ⟨g, cs0, t0, ro⟩)
    (hn : Nat.beq vs.length m = true) (hv : (cs0.drop off).take m = vs) (h : AR p n ops Q l (E.put (some d) (.agg vs.toArray)) H) : AR p n ops Q (o :: l) E H := by
  subst ho
  exact ao d rfl rfl (st_lda ha i rfl hx hm rfl (Nat.eq_of_beq_eq_true hn) hv h)
theorem aD {t : TypeId} {x : Operand} {g off : Nat} {cs0 : List Value} {t0 : Nat} {ro : Bool} {ty : TypeId} {ps : String} {af : Array Edge} (d : Nat) (v : Value) (ha : IsCell p t) (i : Nat) (ho : o = ⟨some d, .load t x, ty, ps, af, none⟩) (hx : ev n E x = .pointer (some ⟨g, off, none⟩)) (hm : H[i]? = some ⟨g, cs0, t0, ro⟩)
    (hv : cs0[off]? = some v) (h : AR p n ops Q l (E.put (some d) v) H) : AR p n ops Q (o :: l) E H := by
  subst ho
  exact ao d rfl rfl (st_ldc ha i rfl hx hm rfl hv h)
theorem aX {x : Operand} {i : Nat} {vs : List Value} {ty : TypeId} {ps : String} {af : Array Edge} (d : Nat) (v : Value) (ho : o = ⟨some d, .extract x i, ty, ps, af, none⟩) (hx : ev n E x = .tuple vs.toArray) (hi : vs[i]? = some v) (h : AR p n ops Q l (E.put (some d) v) H) : AR p n ops Q (o :: l) E H := by
  subst ho
  exact ao d rfl rfl (st_ex rfl hx hi h)
theorem aK {o : Oper} (d : Nat) (hg : yld n ops E o = false) (hd : o.dst = some d) (h : AR p n ops Q l (E.put (some d) undef) H) : AR p n ops Q (o :: l) E H := ar_sk hg hd h
end
end Go.Proofs.YtalffjplbhelcaaGreatDoor
namespace Go.Proofs.YtalffjplbhelcaaGreatDoor
open Go.RowKit
def subS (s : ByteArray) (lo hi : Int) : ByteArray := s.extract lo.toNat hi.toNat
theorem subS_le (s : ByteArray) (lo hi : Int) {m : Nat} (h : s.size ≤ m) : (subS s lo hi).size ≤ m := by
  unfold subS
  rw [ByteArray.size_extract]; omega
section
variable {p : Program} {n : Nat} {ops : Array Oper} {Q : Exit → Env → List Box → Prop} {l : List Oper} {E : Env} {H : List Box} {o : Oper} {ρ : Operand → Value} {K : Post}
theorem st_ss {t : TypeId} {x y z : Operand} {s : ByteArray} {lo hi : Int} (h : 0 ≤ lo ∧ lo ≤ hi ∧ hi ≤ s.size) (ho : o.op = .slice t x (some y) (some z) none) (hu : p.underlying t = some .string) (hx : ρ x = .string s) (hy : ρ y = .int .i64 lo) (hz : ρ z = .int .i64 hi) (k : K (.string (subS s lo hi)) H) : Step p ρ o H K := by
  refine st_run (s := Instr.sliceAt t (.string s) (some (.int .i64 lo)) (some (.int .i64 hi)) none) (by rw [execOp, ho]; simp only [hx, hy, hz, Option.map_none, Option.map_some]) ⟨fun w => ?_⟩ k
  obtain ⟨h0, h1, h2⟩ := h
  have h3 : 0 ≤ hi := by omega
  have h4 : lo ≤ (hi.toNat : Int) := by omega
  have h5 : lo.toNat ≤ hi.toNat := by omega
  have h6 : hi.toNat ≤ s.size := by omega
  have e := run_sliceBound (P := p) w .i64 lo hi.toNat .sliceB h0 h4
  simp [Instr.sliceAt, Instr.slice, Instr.sliceBounds, Sem.run_bind, run_underlying hu w, run_sliceBound, h2, h3, e, h5, h6, subS]
theorem st_ssb {t : TypeId} {x y : Operand} {s : ByteArray} {lo : Int} (h : 0 ≤ lo ∧ lo ≤ s.size) (ho : o.op = .slice t x (some y) none none) (hu : p.underlying t = some .string) (hx : ρ x = .string s) (hy : ρ y = .int .i64 lo) (k : K (.string (subS s lo s.size)) H) : Step p ρ o H K := by
  refine st_run (s := Instr.sliceAt t (.string s) (some (.int .i64 lo)) none none) (by rw [execOp, ho]; simp only [hx, hy, Option.map_none, Option.map_some]) ⟨fun w => ?_⟩ k
  obtain ⟨h0, h1⟩ := h
  have h3 : lo.toNat ≤ s.size := by omega
  simp [Instr.sliceAt, Instr.slice, Instr.sliceBounds, Sem.run_bind, run_underlying hu w, run_sliceBound, h0, h1, h3, subS]
theorem st_ssh {t : TypeId} {x z : Operand} {s : ByteArray} {hi : Int} (h : 0 ≤ hi ∧ hi ≤ s.size) (ho : o.op = .slice t x none (some z) none) (hu : p.underlying t = some .string) (hx : ρ x = .string s) (hz : ρ z = .int .i64 hi) (k : K (.string (subS s 0 hi)) H) : Step p ρ o H K := by
  refine st_run (s := Instr.sliceAt t (.string s) none (some (.int .i64 hi)) none) (by rw [execOp, ho]; simp only [hx, hz, Option.map_none, Option.map_some]) ⟨fun w => ?_⟩ k
  obtain ⟨h0, h1⟩ := h
  simp [Instr.sliceAt, Instr.slice, Instr.sliceBounds, Sem.run_bind, run_underlying hu w, run_sliceBound, h0, h1, subS]
end
theorem res_ttt {p : Program} {n : Nat} {E : Env} {H : List Box} {fn : Func} {s t u : Nat} {x y z : Value} (h : fn.results = #[.tmp s, .tmp t, .tmp u]) (hx : ev n E (.tmp s) = x) (hy : ev n E (.tmp t) = y) (hz : ev n E (.tmp u) = z) : Res p fn n E H (.tuple #[x, y, z]) := by
  intro β w a hO hs
  simp [results, h, see_tmp hs hx, see_tmp hs hy, see_tmp hs hz, Sem.run_bind]
def byA (l : List UInt8) : ByteArray := ⟨l.toArray⟩
theorem byA_size (l : List UInt8) : (byA l).size = l.length := rfl
def lCutPrefix (s p : ByteArray) : ByteArray × Bool := (byA (Lib.trimPrefix s.data.toList p.data.toList), Lib.hasPrefix s.data.toList p.data.toList)
theorem c_lCutPrefix (s p : ByteArray) : Gets Tryz.prog 66 #[.string s, .string p] (.tuple #[.string (lCutPrefix s p).1, .bool (lCutPrefix s p).2]) :=
  fun w => (Tryz.strings_CutPrefix s p w).mono fun e w' ⟨he, hw⟩ => ⟨he, hw ▸ Below.refl _ _⟩
def lIndex (s : ByteArray) (c : UInt8) : Int := Lib.indexByte s.data.toList c
theorem c_lIndex (s : ByteArray) (c : UInt8) : Gets Tryz.prog 128 #[.string s, .string ⟨#[c]⟩] (.int .i64 (lIndex s c)) :=
  fun w => (Tryz.stringslite_Index_one s c w).mono fun e w' ⟨he, hw⟩ => ⟨he, hw ▸ Below.refl _ _⟩
theorem index_lt : ∀ (l : List UInt8) (c : UInt8), -1 ≤ Lib.indexByte l c ∧ Lib.indexByte l c < l.length ∨ Lib.indexByte l c = -1
  | [], c => .inr rfl
  | b :: l, c => by
    rw [Lib.indexByte]
    split
    · left; constructor <;> simp
    · split
      · right; rfl
      · rename_i h1 h2
        rcases index_lt l c with h | h
        · left; simp only [List.length_cons]; omega
        · rw [h] at h2; exact absurd rfl h2
theorem lIndex_lt (s : ByteArray) (c : UInt8) : lIndex s c < s.size ∧ -1 ≤ lIndex s c := by
  have e : s.size = s.data.toList.length := Lib.size_eq s
  unfold lIndex
  rcases index_lt s.data.toList c with h | h <;> omega
def lTrimRight (s : ByteArray) (c : UInt8) : ByteArray := byA (Lib.trimRightB s.data.toList c)
theorem c_lTrimRight (s : ByteArray) (c : UInt8) (hc : c.toNat < 128) (hs : s.size ≤ 9223372036854775807) : Gets Tryz.prog 69 #[.string s, .string ⟨#[c]⟩] (.string (lTrimRight s c)) :=
  fun w => (Tryz.strings_TrimRight_one s c hc w hs).mono fun e w' ⟨he, hw⟩ => ⟨he, hw ▸ Below.refl _ _⟩
def figs : ByteArray := ⟨#[48, 49, 50, 51, 52, 53, 54, 55, 56, 57]⟩
def lTrimFig (s : ByteArray) : ByteArray := byA (Lib.trimS s.data.toList figs.data.toList)
theorem c_lTrimFig (s : ByteArray) (hs : s.size ≤ 9223372036854775807) : Gets Tryz.prog 110 #[.string s, .string ⟨#[48, 49, 50, 51, 52, 53, 54, 55, 56, 57]⟩] (.string (lTrimFig s)) :=
  fun w => (Any.strings_Trim_laid Tryz.lays160 (by kernel_rfl) s ⟨#[48, 49, 50, 51, 52, 53, 54, 55, 56, 57]⟩ w hs (by decide) (ascii_of_all (by decide))).mono fun e w' ⟨he, hw⟩ => ⟨he, hw⟩
def lAtoi (s : ByteArray) : Int := (Lib.atoi s.data.toList).getD 0
theorem c_lAtoi (s : ByteArray) (hl : s.size ≤ 18) (h : (Lib.atoi s.data.toList).isSome = true) : Gets Tryz.prog 70 #[.string s] (.tuple #[.int .i64 (lAtoi s), .nilIface]) := fun w => by
  obtain ⟨n, hn⟩ := Option.isSome_iff_exists.1 h
  refine (Tryz.strconv_Atoi s n hl hn w).mono fun e w' ⟨he, t, hw⟩ => ⟨?_, hw ▸ Lib.bytesWorld_below _ _ _⟩
  rw [he, lAtoi, hn]; rfl
def lRepeat (s : ByteArray) (c : Int) : ByteArray := byA (Lib.repeatL s.data.toList c.toNat)
theorem c_lRepeat (s : ByteArray) (c : Int) (h0 : 0 ≤ c) (h1 : c ≤ 1000) (hs : s.size ≤ 1000) : Gets Tryz.prog 74 #[.string s, .int .i64 c] (.string (lRepeat s c)) := fun w => by
  have e : ((c.toNat : Nat) : Int) = c := by omega
  have h := Tryz.strings_Repeat s c.toNat w (by omega) (by
    have : s.size * c.toNat ≤ 1000 * 1000 := Nat.mul_le_mul hs (by omega)
    omega)
  rw [e] at h
  exact h.mono fun e w' ⟨he, hw⟩ => ⟨he, hw⟩
def powBox (t : Nat) : Box := ⟨3, Lib.pow10Tab.map fun z => Value.int .u64 z, t, true⟩
def lItoa (n : Int) : ByteArray := byA (Lib.itoa n)
theorem tab_of {w : World} {t : Nat} (h : At [powBox t] w) : Lib.TabIs Tryz.prog w "internal/strconv.uint64pow10" .u64 Lib.pow10Tab := by
  obtain ⟨fr, hh⟩ := h (powBox t) List.mem_cons_self
  have hg : Tryz.prog.globalNamed "internal/strconv.uint64pow10" = some 3 := by kernel_rfl
  unfold Lib.TabIs
  simp only [World.var?, hg, Option.bind_some, Option.bind_eq_bind]
  rw [show w.heap[3]? = _ from hh]
  rfl
theorem at_tab {w : World} (h : Lib.TabIs Tryz.prog w "internal/strconv.uint64pow10" .u64 Lib.pow10Tab) : ∃ t, At [powBox t] w := by
  have hg : Tryz.prog.globalNamed "internal/strconv.uint64pow10" = some 3 := by kernel_rfl
  unfold Lib.TabIs at h
  simp only [World.var?, hg, Option.bind_some, Option.bind_eq_bind] at h
  split at h
  · rename_i cs t fr hh
    refine ⟨t, fun b hb => ?_⟩
    obtain rfl := List.mem_singleton.1 hb
    refine ⟨fr, ?_⟩
    show w.heap[3]? = some (.cells (Lib.pow10Tab.map fun z => Value.int .u64 z).toArray t fr)
    rw [hh, Option.some.inj h]
  · cases h
theorem c_lItoa (tP : Nat) (n : Int) (h0 : -9223372036854775808 ≤ n) (h1 : n ≤ 9223372036854775807) : Gives Tryz.prog 73 #[.int .i64 n] [powBox tP] (fun u N => u = .string (lItoa n) ∧ N = []) := fun w hA _ =>
  (Tryz.strconv_Itoa n h0 h1 w (tab_of hA)).mono fun e w' ⟨he, k, os, hw⟩ => ⟨_, [], he, ⟨rfl, rfl⟩, ⟨by rw [hw]; simp, by simp, by simp⟩, by simp, by rw [hw]; exact Lib.below_grow _ _ (Nat.le_refl _) _ _⟩
end Go.Proofs.YtalffjplbhelcaaGreatDoor
namespace Go.Proofs.YtalffjplbhelcaaGreatDoor
open Go.RowKit
def JQ (J : Nat → Act → World → Prop) (Q : Exit → Act → World → Prop) : Exit → Act → World → Prop
  | .goto l, a, w => J l a w
  | e, a, w => Q e a w
theorem wp_scope_labels {P : Program} {a : Act} {w : World} {Q : Exit → Act → World → Prop} {c : Code} (J : Nat → Nat → Act → World → Prop) (first : c.wp P (JQ (fun l a w => ∃ k, J l k a w) Q) a w)
    (pass : ∀ l k a w, J l k a w → ∃ rest, findLabel c l = some rest ∧ rest.wp P (JQ (fun l' a' w' => ∃ k', k' < k ∧ J l' k' a' w') Q) a w) : (Code.scope c).wp P Q a w := by
  intro b k cs
  have key : ∀ n l a w, J l n a w → ∃ rest, findLabel c l = some rest ∧ ∃ e a' w', Q e a' w' ∧ Arrives P (lone (b.at a (.code rest :: .inScope c :: k)) cs w) b k cs e a' w' := by
    intro n
    induction n using Nat.strongRecOn with
    | _ n ih =>
      intro l a w hJ
      obtain ⟨rest, hf, hw⟩ := pass l n a w hJ
      refine ⟨rest, hf, ?_⟩
      obtain ⟨e, a₁, w₁, hq, harr⟩ := hw b (.inScope c :: k) cs
      cases e with
      | normal => exact ⟨.normal, a₁, w₁, hq, Steps.trans harr (.one step_inScope)⟩
      | exit id => exact ⟨.exit id, a₁, w₁, hq, fun k' hk => harr k' (by simp [exitTo, hk])⟩
      | goto l' =>
        obtain ⟨k', hlt, hJ'⟩ := hq
        obtain ⟨rest', hf', e₂, a₂, w₂, hq₂, harr₂⟩ := ih k' hlt l' a₁ w₁ hJ'
        exact ⟨e₂, a₂, w₂, hq₂, .of_steps (harr _ (by simp [gotoIn, hf'])) harr₂⟩
      | ret => exact ⟨_, a₁, w₁, hq, harr⟩
      | panic ch => exact ⟨_, a₁, w₁, hq, harr⟩
      | outgrown => exact ⟨_, a₁, w₁, hq, harr⟩
  obtain ⟨e, a₁, w₁, hq, harr⟩ := first b (.inScope c :: k) cs
  cases e with
  | normal => exact ⟨.normal, a₁, w₁, hq, .head step_scope (Steps.trans harr (.one step_inScope))⟩
  | exit id => exact ⟨.exit id, a₁, w₁, hq, fun k' hk => .head step_scope (harr k' (by simp [exitTo, hk]))⟩
  | goto l' =>
    obtain ⟨n, hJ'⟩ := hq
    obtain ⟨rest', hf', e₂, a₂, w₂, hq₂, harr₂⟩ := key n l' a₁ w₁ hJ'
    exact ⟨e₂, a₂, w₂, hq₂, .of_steps (.head step_scope (harr _ (by simp [gotoIn, hf']))) harr₂⟩
  | ret => exact ⟨_, a₁, w₁, hq, .of_steps (.one step_scope) harr⟩
  | panic ch => exact ⟨_, a₁, w₁, hq, .of_steps (.one step_scope) harr⟩
  | outgrown => exact ⟨_, a₁, w₁, hq, .of_steps (.one step_scope) harr⟩
section
variable {p : Program} {n : Nat} {ops : Array Oper} {Q : Exit → Env → List Box → Prop} {l : List Oper} {E : Env} {H : List Box} {o : Oper} {ρ : Operand → Value} {K : Post}
def AJ (J : Nat → Env → List Box → Prop) (Q : Exit → Env → List Box → Prop) : Exit → Env → List Box → Prop
  | .goto l, E, H => J l E H
  | e, E, H => Q e E H
theorem ac_scope {c : Code} (J : Nat → Nat → Env → List Box → Prop) (first : AC p n c (AJ (fun l E H => ∃ k, J l k E H) Q) E H)
    (pass : ∀ l k E H, J l k E H → ∃ rest, findLabel c l = some rest ∧ AC p n rest (AJ (fun l' E' H' => ∃ k', k' < k ∧ J l' k' E' H') Q) E H) : AC p n (.scope c) Q E H := by
  intro β w a hO hB hs
  refine wp_scope_labels (fun l k a w => ∃ E H, J l k E H ∧ Sees n E a ∧ Own β H w ∧ Keeps β w) ?_ ?_
  · refine Code.wp_mono ?_ (first β w a hO hB hs)
    rintro e a w ⟨E', H', q, r⟩
    cases e <;> first | exact ⟨E', H', q, r⟩ | (obtain ⟨k, hk⟩ := q; exact ⟨k, E', H', hk, r⟩)
  · rintro l k a w ⟨E', H', hJ, hs', hO', hB'⟩
    obtain ⟨rest, hf, h⟩ := pass l k E' H' hJ
    refine ⟨rest, hf, Code.wp_mono ?_ (h β w a hO' hB' hs')⟩
    rintro e a w ⟨E'', H'', q, r⟩
    cases e <;> first | exact ⟨E'', H'', q, r⟩ | (obtain ⟨k', hk, hJ'⟩ := q; exact ⟨k', hk, E'', H'', hJ', r⟩)
theorem ac_goto {l : Nat} (h : Q (.goto l) E H) : AC p n (.goto l) Q E H := fun β w a hO hB hs => wp_goto ⟨E, H, h, hs, hO, hB⟩
theorem ac_label {l : Nat} (h : Q .normal E H) : AC p n (.label l) Q E H := fun β w a hO hB hs => wp_label ⟨E, H, h, hs, hO, hB⟩
def fl (n : Int) : Nat := FloatKind.f64.nearest n
theorem st_cvf {t u : Nat} {x : Operand} {a : Int} (ho : o.op = .convert t u x) (hx : ρ x = .int .i64 a) (hu : p.underlying u = some (.float .f64)) (ht : p.underlying t = some (.int .i64)) (k : K (.float .f64 (fl a)) H) : Step p ρ o H K :=
  st_run (s := convert t u (.int .i64 a)) (by rw [execOp, ho]; simp only [hx]) ⟨fun w => by simp [convert, Sem.run_bind, run_underlying hu w, run_underlying ht w, Conv.intToFloat, fl]⟩ k
theorem run_cpx (ts : Array TypeId) (ty : TypeId) (a b : Nat) : Builtin.complex_ ts ty #[.float .f64 a, .float .f64 b] = pure (.complex .f64 a b) := rfl
theorem st_cpx {ts : Array TypeId} {args : List Operand} {a b : Nat} (ho : o.op = .call { callee := .builtin .complex, args := args.toArray, argTypes := ts }) (hv : args.map ρ = [.float .f64 a, .float .f64 b]) (k : K (.complex .f64 a b) H) : Step p ρ o H K := by
  refine st_val (fun w => ?_) k
  rw [execOp, ho]
  simp only [resolve, List.map_toArray, hv]
  simp [invoke, builtin, run_cpx, Sem.run_bind]
end
structure Cx where
  re : Nat
  im : Nat
deriving DecidableEq
def feq (x y : Nat) : Bool := FloatKind.f64.format.order x y == some .eq
def cxEq (a b : Cx) : Bool := feq a.re b.re && feq a.im b.im
section
variable {p : Program} {t : Nat} {a b : Cx} {d : Bool}
theorem bi_ceql (h : cxEq a b = d) (x y : Operand) : Runs p (do eqGuard .eql t x y (.complex .f64 a.re a.im) (.complex .f64 b.re b.im); binOp .eql t (.complex .f64 a.re a.im) (.complex .f64 b.re b.im)) (.bool d) := ⟨fun w => by
  subst h
  simp [eqGuard, binOp, Op.complexOp, Op.Complex.cmp, Op.floatCmp, Sem.run_bind, asBool, cxEq, feq]⟩
end
end Go.Proofs.YtalffjplbhelcaaGreatDoor
namespace Go.Proofs.YtalffjplbhelcaaGreatDoor
open Go.RowKit
def nowB (H : List Box) (w : World) : Base := ⟨fun g => ∃ b ∈ H, b.ro = false ∧ b.g = g, w⟩
section
variable {p : Program} {n : Nat} {E : Env} {H H' : List Box} {k pos : Nat} {s : ByteArray} {β : Base} {w w' : World}
theorem Own.now (hO : Own β H w) : Own (nowB H w) H w :=
  ⟨Nat.le_refl _, fun b hb => ⟨by cases hr : b.ro with
    | true => exact .inl rfl
    | false => exact .inr (.inr ⟨b, hb, hr, rfl⟩), (hO.at_ b hb).2⟩, hO.apart⟩
theorem now_may (hO : Own β H w) {g : Nat} (h : (nowB H w).may g) : β.may g := by
  rcases h with h1 | ⟨b, hb, hr, rfl⟩
  · exact .inl (Nat.le_trans hO.size h1)
  · exact (hO.at_ b hb).1.resolve_left (by rw [hr]; exact Bool.false_ne_true)
variable {ops : Array Oper} {l : List Oper} {o : Oper} {R : Nat → Env → List Box → Prop}
end
end Go.Proofs.YtalffjplbhelcaaGreatDoor
