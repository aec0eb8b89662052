import Derived.Test.YtalffjplbhelcaaGreatDoorMGlassSums1
import Derived.Laws.Strings3
import Derived.Laws.Concat
import Derived.Laws.BytesString
import Derived.Test.YtalffjplbhelcaaGreatDoorProg
import Derived.Test.YtalffjplbhelcaaGreatDoorMGlassSums0
import Derived.Shelf.Strings.SlTrimAscii
import Derived.Lib.AtoiErrMem
import Derived.Lib.AppendIntMem
import Derived.ScopeJumps
import Derived.Control
import Derived.Lib.OthersKept
set_option linter.unusedVariables false
set_option linter.unusedSimpArgs false
namespace Go.Proofs.YtalffjplbhelcaaGreatDoor
open Go.RowKit
section
variable {p : Program} {n : Nat} {ops : Array Oper} {Q : Exit → Env → List Box → Prop}
def lookOk (ops : Array Oper) (B : List Nat) (o : Oper) : Bool :=
  (Oper.looksAt ops o).all fun t => B.contains t || ((List.range ops.size).any fun k => bindsOn o k && (match dstOf ops k with | some d => Nat.beq d t | none => false))
def stageOk (ops : Array Oper) (Ms B S todo nxt dn bl : List Nat) : Bool :=
  Region.noSelect ops
  && ((List.range ops.size).all fun i => match ops[i]? with | some o => (o.after.all fun e => !(Region.binds .any e) || Nat.blt e.on i) | none => false)
  && (todo.all fun i => !(Ms.contains i) && (match ops[i]? with | some o => lookOk ops B o | none => false))
  && (nxt.all fun i => Ms.contains i && !(S.contains i) && (match ops[i]? with | some o => lookOk ops B o | none => false))
  && (bl.all fun i => (List.range ops.size).any fun k => before_ ops i k && ((Ms.contains k && !(S.contains k)) || (bl.contains k && Nat.blt k i)))
  && (S.all fun i => Ms.contains i)
  && ((List.range ops.size).all fun i => S.contains i || dn.contains i || todo.contains i || nxt.contains i || bl.contains i)
def dnOk (ops : Array Oper) (m : Nat) (dn dn' : List Nat) : Bool :=
  dn'.all fun i => dn.contains i || (List.range ops.size).any fun k => before_ ops k i && (Nat.beq k m || (dn'.contains k && Nat.blt i k))
def SameAt (E F : Env) : List Nat → Prop
  | [] => True
  | t :: ts => E t = F t ∧ SameAt E F ts
theorem sameAt_mem {E F : Env} : ∀ {l : List Nat}, SameAt E F l → ∀ t ∈ l, E t = F t
  | [], _, _, h => by cases h
  | s :: l, h, t, ht => by
    rcases List.mem_cons.1 ht with rfl | ht
    · exact h.1
    · exact sameAt_mem h.2 t ht
theorem sameAt_of {E F : Env} : ∀ {l : List Nat}, (∀ t ∈ l, E t = F t) → SameAt E F l
  | [], _ => trivial
  | s :: l, h => ⟨h s List.mem_cons_self, sameAt_of fun t ht => h t (List.mem_cons_of_mem _ ht)⟩
def undone (ops : Array Oper) (L : Array Bool) : Nat := (List.range ops.size).countP fun i => !(L.getD i false)
theorem countP_one (f g : Nat → Bool) (i : Nat) : ∀ l : List Nat, l.Nodup → i ∈ l → (∀ j, j ≠ i → f j = g j) → f i = true → g i = false → l.countP f = l.countP g + 1
  | [], _, h, _, _, _ => by cases h
  | x :: l, hn, h, he, h1, h2 => by
    simp only [List.nodup_cons] at hn
    rcases List.mem_cons.1 h with rfl | h
    · rw [List.countP_cons_of_pos h1, List.countP_cons_of_neg (by rw [h2]; exact Bool.false_ne_true)]
      have : l.countP f = l.countP g := List.countP_congr fun j hj => by rw [he j (fun e => hn.1 (e ▸ hj))]
      omega
    · have hx : x ≠ i := fun e => hn.1 (e ▸ h)
      have ih := countP_one f g i l hn.2 h he h1 h2
      rw [List.countP_cons, List.countP_cons, he x hx, ih]
      omega
theorem undone_set {L : Array Bool} {i : Nat} (hs : L.size = ops.size) (hi : i < ops.size) (hl : L.getD i false = false) : undone ops L = undone ops (L.setIfInBounds i true) + 1 := by
  refine countP_one _ _ i _ List.nodup_range (List.mem_range.2 hi) (fun j hj => ?_) (by rw [hl]; rfl) ?_
  · rw [getD_set_ne false (Ne.symm hj)]
  · have : (L.setIfInBounds i true).getD i false = true := by simp [hs, hi]
    rw [this]; rfl
theorem look_congr {E F : Env} {o : Oper} {i : Nat} (ho : ops[i]? = some o) (hsel : Region.noSelect ops = true) (hl : ∀ t ∈ Oper.looksAt ops o, E t = F t) : execOp (ev n E) o = execOp (ev n F) o ∧ yld n ops E o = yld n ops F o := by
  have he : ∀ t, t ∈ Oper.looksAt ops o → ev n E (.tmp t) = ev n F (.tmp t) := fun t ht => by simp only [ev, hl t ht]
  refine ⟨execOp_congr o (fun cs b => Region.noSelect_spec hsel i o cs b ho) (fun x hx => ?_), ?_⟩
  · cases x with
    | tmp t => exact he t (List.mem_append_left _ (List.mem_filterMap.2 ⟨.tmp t, by simpa using hx, rfl⟩))
    | _ => rfl
  · unfold yld
    cases hg : o.guard with
    | none => rfl
    | some gw =>
      obtain ⟨j, want⟩ := gw
      cases hd : (ops[j]?).bind (·.dst) with
      | none => simp [hd]
      | some t =>
        simp only [hd]
        rw [he t (by simp [Oper.looksAt, hg, hd])]
def Stage (p : Program) (n : Nat) (ops : Array Oper) (Q : Exit → Env → List Box → Prop) (Ms B S dn : List Nat) (F : Env) (H : List Box) : Prop :=
  ∀ (L : Array Bool) (E : Env), L.size = ops.size → Down ops L → (∀ m ∈ Ms, L.getD m false = S.contains m) → (∀ i ∈ dn, L.getD i false = true) → (∀ t ∈ B, E t = F t) → (∀ i, L.getD i false = true → ∀ d, dstOf ops i = some d → E d = F d) →
    ∀ β w a, Own β H w → Keeps β w → Sees n E a → wpAny p .any ops (AQ n β Q) (undone ops L) L a w
def TellsF (p : Program) (n : Nat) (ops : Array Oper) (H : List Box) (F : Env) (i : Nat) : Prop := ∃ v, Tells p n ops H F i v ∧ ∀ d, dstOf ops i = some d → v = F d
def slotsOf (ops : Array Oper) (B : List Nat) (l : List Nat) : List Nat := B ++ l.filterMap (dstOf ops)
theorem stage_rule {Ms B S dn : List Nat} {F : Env} {H : List Box} (todo nxt bl : List Nat) (hok : stageOk ops Ms B S todo nxt dn bl = true)
    (hq : Each (TellsF p n ops H F) todo)
    (hm : Each (fun i => OpR p n ops F H i fun F1 H' => ∃ F' dn', SameAt F' F1 (slotsOf ops B (dn ++ todo ++ S ++ [i])) ∧ dnOk ops i dn dn' = true ∧ Stage p n ops Q Ms B (i :: S) dn' F' H') nxt)
    (hfin : nxt = [] → ∀ E, (∀ t ∈ slotsOf ops B (dn ++ todo ++ S), E t = F t) → Q .normal E H) : Stage p n ops Q Ms B S dn F H := by
  simp only [stageOk, Bool.and_eq_true, List.all_eq_true, List.mem_range] at hok
  obtain ⟨⟨⟨⟨⟨⟨hsel, hback⟩, htodo⟩, hnxt⟩, hbl⟩, hSM⟩, hcov⟩ := hok
  have back : ∀ i o, ops[i]? = some o → ∀ e ∈ o.after, Region.binds .any e = true → e.on < i := by
    intro i o ho e he hb
    have := hback i (Array.getElem?_eq_some_iff.1 ho).1
    rw [ho] at this
    have h := Array.all_eq_true_iff_forall_mem.1 this e he
    simpa [hb] using h
  suffices key : ∀ (fuel : Nat) (L : Array Bool) (E : Env), undone ops L = fuel → L.size = ops.size → Down ops L → (∀ m ∈ Ms, L.getD m false = S.contains m) → (∀ i ∈ dn, L.getD i false = true) → (∀ t ∈ B, E t = F t) → (∀ i, L.getD i false = true → ∀ d, dstOf ops i = some d → E d = F d) →
      ∀ β w a, Own β H w → Keeps β w → Sees n E a → wpAny p .any ops (AQ n β Q) fuel L a w by
    intro L E h1 h2 h3 h4 h5 h6
    exact key _ L E rfl h1 h2 h3 h4 h5 h6
  intro fuel
  induction fuel with
  | zero =>
    intro L E hu hs hd hM hdn hB hE β w a hO hK hse
    have all : ∀ i, i < ops.size → L.getD i false = true := by
      intro i hi
      have := (List.countP_eq_zero.1 hu) i (List.mem_range.2 hi)
      simpa using this
    have hr : Region.ready .any ops L = [] := by
      apply List.eq_nil_iff_forall_not_mem.2
      intro i hi
      obtain ⟨h0, o, ho, _⟩ := mem_ready.1 hi
      have hlt := (Array.getElem?_eq_some_iff.1 ho).1
      have := all i hlt
      simp only [Array.getD_eq_getD_getElem?] at this h0
      cases hq : L[i]? with
      | none => simp [hq] at this
      | some b => simp [hq] at this h0; rw [this] at h0; cases h0
    have hn : nxt = [] := by
      cases hx : nxt with
      | nil => rfl
      | cons m ms =>
        have h1 := hnxt m (by rw [hx]; exact List.mem_cons_self)
        simp only [Bool.and_eq_true, Bool.not_eq_true'] at h1
        have h2 := hM m (by simpa using h1.1.1)
        rw [h1.1.2] at h2
        cases ho : ops[m]? with
        | none => simp [ho] at h1
        | some o =>
          have := all m (Array.getElem?_eq_some_iff.1 ho).1
          rw [this] at h2
          cases h2
    refine ⟨hr, E, H, hfin hn E (fun t ht => ?_), hse, hO, hK⟩
    rcases List.mem_append.1 ht with ht | ht
    · exact hB t ht
    · obtain ⟨i, hi, hd⟩ := List.mem_filterMap.1 ht
      refine hE i ?_ t hd
      unfold dstOf at hd
      cases ho : ops[i]? with
      | none => simp [ho] at hd
      | some o => exact all i (Array.getElem?_eq_some_iff.1 ho).1
  | succ fuel ih =>
    intro L E hu hs hd hM hdn hB hE β w a hO hK hse
    have notbl : ∀ m i, i < m → i ∈ bl → L.getD i false = false := by
      intro m
      induction m with
      | zero => intro i h; omega
      | succ m ihm =>
        intro i him hi
        obtain ⟨k, hk, hb⟩ := List.any_eq_true.1 (hbl i hi)
        simp only [Bool.and_eq_true, Bool.or_eq_true, Bool.not_eq_true', Nat.blt_eq] at hb
        obtain ⟨o, ho, e, he, hbd, hon⟩ := before_spec hb.1
        have hkf : L.getD k false = false := by
          rcases hb.2 with h | h
          · rw [hM k (by simpa using h.1), h.2]
          · exact ihm k (by omega) (by simpa using h.1)
        cases hl : L.getD i false with
        | false => rfl
        | true =>
          have := hd i o ho hl e he hbd
          rw [hon, hkf] at this
          cases this
    refine ⟨fun hr => ?_, fun i hi => ?_⟩
    · -- something has not come up: something may
      exfalso
      have hex : ∃ i, i < ops.size ∧ L.getD i false = false := by
        refine Classical.byContradiction fun hc => ?_
        have : undone ops L = 0 := List.countP_eq_zero.2 fun i hi => by
          have hi' := List.mem_range.1 hi
          cases hl : L.getD i false with
          | true => simp
          | false => exact absurd ⟨i, hi', hl⟩ hc
        omega
      have rs : ∀ m i, i < m → i < ops.size → L.getD i false = false → ∃ j, j ∈ Region.ready .any ops L := by
        intro m
        induction m with
        | zero => intro i h; omega
        | succ m ihm =>
          intro i him hi hl
          obtain ⟨o, ho⟩ : ∃ o, ops[i]? = some o := ⟨_, Array.getElem?_eq_getElem hi⟩
          by_cases hall : ∀ e ∈ o.after, Region.binds .any e = true → L.getD e.on false = true
          · refine ⟨i, mem_ready.2 ⟨?_, o, ho, hall⟩⟩
            have hi' : i < L.size := by omega
            simpa [hi'] using hl
          · obtain ⟨e, he, hb, hne⟩ : ∃ e, e ∈ o.after ∧ Region.binds .any e = true ∧ ¬ L.getD e.on false = true := by
              refine Classical.byContradiction fun hc => hall fun e he hb => ?_
              exact Classical.byContradiction fun hn => hc ⟨e, he, hb, hn⟩
            have hlt := back i o ho e he hb
            exact ihm e.on (by omega) (by omega) (by simpa using hne)
      obtain ⟨i, hi, hl⟩ := hex
      obtain ⟨j, hj⟩ := rs (i + 1) i (by omega) hi hl
      rw [hr] at hj
      cases hj
    · obtain ⟨h0, o, ho, hall⟩ := mem_ready.1 hi
      have hlt := (Array.getElem?_eq_some_iff.1 ho).1
      have hl : L.getD i false = false := by
        have hi' : i < L.size := by omega
        simpa [hi'] using h0
      have hcnt := undone_set hs hlt hl
      have hs' : (L.setIfInBounds i true).size = ops.size := by simp [hs]
      have hd' := hd.set hi
      have hLi : (L.setIfInBounds i true).getD i false = true := by simp [hs, hlt]
      have hLj : ∀ j, j ≠ i → (L.setIfInBounds i true).getD j false = L.getD j false := fun j hj => getD_set_ne false (Ne.symm hj)
      have looks : lookOk ops B o = true → ∀ t ∈ Oper.looksAt ops o, E t = F t := by
        intro hlk t ht
        have := List.all_eq_true.1 hlk t ht
        rw [Bool.or_eq_true, List.any_eq_true] at this
        rcases this with h | ⟨k, hk, h⟩
        · exact hB t (by simpa using h)
        · simp only [Bool.and_eq_true] at h
          obtain ⟨hbo, hdt⟩ := h
          unfold bindsOn at hbo
          obtain ⟨e, he, hbb⟩ := Array.any_eq_true'.1 hbo
          simp only [Bool.and_eq_true, beq_iff_eq] at hbb
          have hlk := hall e he hbb.1
          rw [hbb.2] at hlk
          cases hdk : dstOf ops k with
          | none => simp [hdk] at hdt
          | some d =>
            simp only [hdk] at hdt
            have : d = t := Nat.eq_of_beq_eq_true hdt
            rw [← this]
            exact hE k hlk d hdk
      have hc := hcov i hlt
      simp only [Bool.or_eq_true] at hc
      have notS : S.contains i = false := by
        cases hS : S.contains i with
        | false => rfl
        | true =>
          have hm := hSM i (by simpa using hS)
          rw [hM i (by simpa using hm), hS] at hl
          cases hl
      have hfu : undone ops (L.setIfInBounds i true) = fuel := by omega
      unfold wpOp
      simp only [ho]
      rw [hse.yld]
      have htn : i ∈ todo ∨ i ∈ nxt := by
        rcases hc with (((h | h) | h) | h) | h
        · rw [notS] at h; cases h
        · have := hdn i (by simpa using h)
          rw [hl] at this; cases this
        · exact .inl (by simpa using h)
        · exact .inr (by simpa using h)
        · exfalso
          have hib : i ∈ bl := by simpa using h
          obtain ⟨k, hk, hb⟩ := List.any_eq_true.1 (hbl i hib)
          simp only [Bool.and_eq_true, Bool.or_eq_true, Bool.not_eq_true', Nat.blt_eq] at hb
          obtain ⟨o', ho', e, he, hbd, hon⟩ := before_spec hb.1
          rw [ho] at ho'
          cases ho'
          have h1 := hall e he hbd
          rw [hon] at h1
          rcases hb.2 with h | h
          · rw [hM k (by simpa using h.1), h.2] at h1; cases h1
          · rw [notbl (k + 1) k (by omega) (by simpa using h.1)] at h1; cases h1
      rcases htn with hti | hni
      · -- one that tells the same
        have ht := htodo i hti
        rw [ho] at ht
        simp only [Bool.and_eq_true, Bool.not_eq_true'] at ht
        have hl' := looks ht.2
        obtain ⟨v, hT, hv⟩ := each_mem hq i hti
        obtain ⟨o', ho', hT⟩ := tells_congr (E' := E) hsel hT (fun o' ho' t htl => by rw [ho] at ho'; cases ho'; exact hl' t htl)
        rw [ho] at ho'
        cases ho'
        have hdst : dstOf ops i = o.dst := by simp [dstOf, ho]
        have go : ∀ w' a' , Own β H w' → Keeps β w' → Sees n (E.put o.dst v) a' → wpAny p .any ops (AQ n β Q) fuel (L.setIfInBounds i true) a' w' := by
          intro w' a' hO' hK' hs2
          refine ih _ (E.put o.dst v) hfu hs' hd' (fun m hm => ?_) (fun j hj => getD_set_true (hdn j hj)) (fun t htB => ?_) (fun j hj d hdj => ?_) β w' a' hO' hK' hs2
          · have hne : m ≠ i := by
              intro e
              have := ht.1
              rw [← e] at this
              simp [hm] at this
            rw [hLj m hne]
            exact hM m hm
          · rw [put_apply]
            split
            · rename_i h; exact hv t (by rw [hdst]; exact h)
            · exact hB t htB
          · rw [put_apply]
            split
            · rename_i h; exact hv d (by rw [hdst]; exact h)
            · rename_i h
              by_cases hji : j = i
              · subst hji; rw [hdst] at hdj; exact absurd hdj h
              · rw [hLj j hji] at hj
                exact hE j hj d hdj
        rcases hT with ⟨hw, hstep⟩ | ⟨hw, hvu⟩
        · rw [hw, if_pos rfl]
          refine .inl (hstep.wp hse hO hK ?_)
          rintro v' H' w' ⟨rfl, rfl⟩ hO' hK'
          exact go w' _ hO' hK' (hse.put _ _)
        · rw [hw, if_neg (by simp)]
          subst hvu
          exact go w _ hO hK (hse.put _ _)
      · -- one that makes or writes
        have ht := hnxt i hni
        rw [ho] at ht
        simp only [Bool.and_eq_true, Bool.not_eq_true'] at ht
        have hl' := looks ht.2
        obtain ⟨o', ho', hT⟩ := each_mem hm i hni
        rw [ho] at ho'
        cases ho'
        obtain ⟨hx, hy⟩ := look_congr (n := n) ho hsel hl'
        have hdst : dstOf ops i = o.dst := by simp [dstOf, ho]
        have go : ∀ v w' a' H' F' dn', SameAt F' (F.put o.dst v) (slotsOf ops B (dn ++ todo ++ S ++ [i])) → dnOk ops i dn dn' = true → Stage p n ops Q Ms B (i :: S) dn' F' H' → Own β H' w' → Keeps β w' → Sees n (E.put o.dst v) a' → wpAny p .any ops (AQ n β Q) fuel (L.setIfInBounds i true) a' w' := by
          intro v w' a' H' F' dn' hsame hdn' hst hO' hK' hs2
          have hin : ∀ j, (L.setIfInBounds i true).getD j false = true → j ∈ dn ++ todo ++ S ++ [i] := by
            intro j hj
            by_cases hji : j = i
            · rw [hji]; simp
            · rw [hLj j hji] at hj
              have hjl : j < ops.size := by
                have : j < L.size := by
                  refine Nat.lt_of_not_le fun hle => ?_
                  simp [Array.getElem?_eq_none hle] at hj
                omega
              have hc2 := hcov j hjl
              simp only [Bool.or_eq_true] at hc2
              rcases hc2 with (((h | h) | h) | h) | h
              · have : j ∈ S := by simpa using h
                simp [this]
              · have : j ∈ dn := by simpa using h
                simp [this]
              · have : j ∈ todo := by simpa using h
                simp [this]
              · have h1 := hnxt j (by simpa using h)
                simp only [Bool.and_eq_true, Bool.not_eq_true'] at h1
                rw [hM j (by simpa using h1.1.1), h1.1.2] at hj
                cases hj
              · rw [notbl (j + 1) j (by omega) (by simpa using h)] at hj
                cases hj
          have hsm := sameAt_mem hsame
          have := hst (L.setIfInBounds i true) (E.put o.dst v) hs' hd' (fun m hm => ?_) ?_ (fun t htB => ?_) (fun j hj d hdj => ?_) β w' a' hO' hK' hs2
          · rw [hfu] at this; exact this
          · by_cases hmi : m = i
            · rw [hmi, hLi]; simp
            · rw [hLj m hmi, hM m hm]
              simp [hmi]
          · -- what is sure to have come up
            simp only [dnOk, List.all_eq_true] at hdn'
            have kd : ∀ q j, ops.size - j ≤ q → j ∈ dn' → (L.setIfInBounds i true).getD j false = true := by
              intro q
              induction q with
              | zero =>
                intro j hq hj
                have h := hdn' j hj
                rw [Bool.or_eq_true, List.any_eq_true] at h
                rcases h with h | ⟨k, hk, h⟩
                · exact getD_set_true (hdn j (by simpa using h))
                · simp only [Bool.and_eq_true] at h
                  obtain ⟨o2, ho2, e, he, hbd, hon⟩ := before_spec h.1
                  have h1 := back k o2 ho2 e he hbd
                  have h2 := (Array.getElem?_eq_some_iff.1 ho2).1
                  omega
              | succ q ihq =>
                intro j hq hj
                have h := hdn' j hj
                rw [Bool.or_eq_true, List.any_eq_true] at h
                rcases h with h | ⟨k, hk, h⟩
                · exact getD_set_true (hdn j (by simpa using h))
                · simp only [Bool.and_eq_true, Bool.or_eq_true, Nat.blt_eq] at h
                  obtain ⟨hbf, h⟩ := h
                  obtain ⟨o2, ho2, e, he, hbd, hon⟩ := before_spec hbf
                  have h1 := back k o2 ho2 e he hbd
                  have hkt : (L.setIfInBounds i true).getD k false = true := by
                    rcases h with h | h
                    · rw [Nat.eq_of_beq_eq_true h]; exact hLi
                    · exact ihq k (by omega) (by simpa using h.1)
                  have := hd' k o2 ho2 hkt e he hbd
                  rw [hon] at this
                  exact this
            exact fun j hj => kd _ j (Nat.le_refl _) hj
          · rw [hsm t (List.mem_append_left _ htB), put_apply, put_apply]
            split
            · rfl
            · exact hB t htB
          · have hmem : d ∈ slotsOf ops B (dn ++ todo ++ S ++ [i]) := List.mem_append_right _ (List.mem_filterMap.2 ⟨j, hin j hj, hdj⟩)
            rw [hsm d hmem, put_apply, put_apply]
            split
            · rfl
            · rename_i h
              by_cases hji : j = i
              · subst hji; rw [hdst] at hdj; exact absurd hdj h
              · rw [hLj j hji] at hj
                exact hE j hj d hdj
        rw [hy]
        rcases hT with ⟨hw, hstep⟩ | ⟨hw, hk⟩
        · rw [hw, if_pos rfl]
          have hstep' : Step p (ev n E) o H fun v H' => ∃ F' dn', SameAt F' (F.put o.dst v) (slotsOf ops B (dn ++ todo ++ S ++ [i])) ∧ dnOk ops i dn dn' = true ∧ Stage p n ops Q Ms B (i :: S) dn' F' H' := by
            unfold Step at hstep ⊢
            rw [hx]
            exact hstep
          refine .inl (hstep'.wp hse hO hK ?_)
          rintro v H' w' ⟨F', dn', h1, h2, h3⟩ hO' hK'
          exact go v w' _ H' F' dn' h1 h2 h3 hO' hK' (hse.put _ _)
        · rw [hw, if_neg (by simp)]
          obtain ⟨F', dn', h1, h2, h3⟩ := hk
          exact go undef w _ H F' dn' h1 h2 h3 hO hK (hse.put _ _)
def sameSet (Ms S S' : List Nat) : Bool := Ms.all fun m => S.contains m == S'.contains m
theorem Stage.other {Ms B S S' dn : List Nat} {F : Env} {H H' : List Box} (h : Stage p n ops Q Ms B S dn F H) (hs : sameSet Ms S S' = true) (hp : H.Perm H') : Stage p n ops Q Ms B S' dn F H' := by
  intro L E h1 h2 h3 h4 h5 h6 β w a hO hB hs2
  refine h L E h1 h2 (fun m hm => ?_) h4 h5 h6 β w a (hO.perm hp.symm) hB hs2
  have := List.all_eq_true.1 hs m hm
  rw [h3 m hm]
  exact (by simpa using this : S.contains m = S'.contains m).symm
def StageRule (p : Program) (n : Nat) (ops : Array Oper) (Ms B : List Nat) (Sg : List Nat → List Nat → Env → List Box → Prop) (Dn : Env → List Box → Prop) : Prop :=
  ∀ (S dn : List Nat) (F : Env) (H : List Box) (todo nxt bl W : List Nat), stageOk ops Ms B S todo nxt dn bl = true → slotsOf ops B (dn ++ todo ++ S) = W → Each (TellsF p n ops H F) todo →
    Each (fun i => OpR p n ops F H i fun F1 H' => ∃ F' dn' S' H2, Sg S' dn' F' H2 ∧ List.Perm H2 H' ∧ sameSet Ms S' (i :: S) = true ∧ ∃ W, slotsOf ops B (dn ++ todo ++ S ++ [i]) = W ∧ SameAt F' F1 W ∧ dnOk ops i dn dn' = true) nxt →
    (nxt.isEmpty = true → ∀ E, SameAt E F W → Dn E H) → Sg S dn F H
theorem each_mono {P P' : Nat → Prop} (h : ∀ i, P i → P' i) : ∀ {l : List Nat}, Each P l → Each P' l
  | [], _ => trivial
  | i :: l, ⟨h1, h2⟩ => ⟨h i h1, each_mono h h2⟩
theorem ac_stage {id : Nat} {E : Env} {H : List Box} (hm : p.follows .mixedOrders = true) (Ms B : List Nat) (F : Env)
    (h : ∀ Sg Dn, StageRule p n ops Ms B Sg Dn → (∀ E H, Q .normal E H → Dn E H) → Sg [] [] F H) (hF : SameAt F E B) : AC p n (.region id ops true) Q E H := by
  have h := h (Stage p n ops Q Ms B) (fun E H => Q .normal E H) (by
    intro S dn F H todo nxt bl W hok hW hq hm hfin
    refine stage_rule todo nxt bl hok hq (each_mono (fun i hi => ?_) hm) (fun hn E hE => hfin (by rw [hn]; rfl) E (sameAt_of (by rw [← hW]; exact hE)))
    obtain ⟨o, ho, hi⟩ := hi
    refine ⟨o, ho, ?_⟩
    rcases hi with ⟨hw, hst⟩ | ⟨hw, hk⟩
    · exact .inl ⟨hw, hst.mono fun v H' ⟨F', dn', S', H2, h1, hp, hss, W', h2, h3, h4⟩ => ⟨F', dn', by rw [h2]; exact h3, h4, h1.other hss hp⟩⟩
    · obtain ⟨F', dn', S', H2, h1, hp, hss, W', h2, h3, h4⟩ := hk
      exact .inr ⟨hw, F', dn', by rw [h2]; exact h3, h4, h1.other hss hp⟩) (fun E H h => h)
  intro β w a hO hB hs
  refine wp_region_any hm ?_
  have hnone : ∀ i, (Array.replicate ops.size false).getD i false = false := by
    intro i
    simp only [Array.getD_eq_getD_getElem?, Array.getElem?_replicate]
    split <;> rfl
  have := h (Array.replicate ops.size false) E (by simp) (fun i o ho hl => by rw [hnone] at hl; cases hl) (fun m hm => by rw [hnone]; rfl) (fun i hi => by cases hi) (fun t ht => (sameAt_mem hF t ht).symm) (fun i hi => by rw [hnone] at hi; cases hi) β { w with drawn := w.drawn + 1 } a hO.drew hB.drew hs
  have hu : undone ops (Array.replicate ops.size false) = ops.size := by
    unfold undone
    rw [List.countP_eq_length.2 (fun i _ => by rw [hnone]; rfl)]
    simp
  rw [hu] at this
  exact this
theorem tf_op {H : List Box} {F : Env} {i d : Nat} {o : Oper} (v : Value) (ho : ops[i]? = some o) (hg : o.guard = none) (hd : o.dst = some d) (hs : Step p (ev n F) o H fun v' H' => v' = v ∧ H' = H) (hF : v = F d) : TellsF p n ops H F i :=
  ⟨v, ⟨o, ho, .inl ⟨by unfold yld; rw [hg], hs⟩⟩, fun d' hd' => by simp only [dstOf, ho, Option.bind_some, hd, Option.some.injEq] at hd'; rw [← hd']; exact hF⟩
theorem ac_env {id : Nat} {E : Env} {H : List Box} (h : ∀ E1, E1 = E → AC p n (.region id ops true) Q E1 H) : AC p n (.region id ops true) Q E H := h E rfl
end
end Go.Proofs.YtalffjplbhelcaaGreatDoor
namespace Go.Proofs.YtalffjplbhelcaaGreatDoor
open Go.RowKit
def sEq (a b : ByteArray) : Bool := a.toList == b.toList
theorem sz_add {a b : ByteArray} {m n : Nat} (h : a.size ≤ m) (k : b.size ≤ n) : (a ++ b).size ≤ m + n := by
  rw [ByteArray.size_append']; omega
theorem sz_two {a b : ByteArray} {m n : Nat} (h : a.size ≤ m) (k : b.size ≤ n) (hm : m + n ≤ 9223372036854775807) : a.size + b.size ≤ 9223372036854775807 := by omega
section
variable {p : Program} {n : Nat} {ops : Array Oper} {Q : Exit → Env → List Box → Prop} {l : List Oper} {E : Env} {H : List Box} {o : Oper} {ρ : Operand → Value} {K : Post}
theorem st_slen {t : TypeId} {args : List Operand} {s : ByteArray} (ho : o.op = .call { callee := .builtin .len, args := args.toArray, argTypes := #[t] }) (hu : p.underlying t = some .string) (hv : args.map ρ = [.string s]) (k : K (.int .i64 (s.size : Int)) H) : Step p ρ o H K := by
  refine st_val (fun w => ?_) k
  rw [execOp, ho]
  simp only [resolve, List.map_toArray, hv]
  simp [invoke, builtin, Builtin.len_, Sem.run_bind, run_underlying hu w, goInt]
theorem bi_sadd {t : Nat} {a b : ByteArray} (h : a.size + b.size ≤ 9223372036854775807) (x y : Operand) : Runs p (do eqGuard .add t x y (.string a) (.string b); binOp .add t (.string a) (.string b)) (.string (a ++ b)) := ⟨fun w => by
  have := run_string_add_sum (P := p) (w := w) a b h
  simpa [eqGuard, binOp] using this⟩
theorem bi_seql {t : Nat} {a b : ByteArray} {d : Bool} (h : sEq a b = d) (x y : Operand) : Runs p (do eqGuard .eql t x y (.string a) (.string b); binOp .eql t (.string a) (.string b)) (.bool d) := ⟨fun w => by
  subst h
  simp [eqGuard, binOp, Op.stringOp, sEq]⟩
theorem bi_sneq {t : Nat} {a b : ByteArray} {d : Bool} (h : (!sEq a b) = d) (x y : Operand) : Runs p (do eqGuard .neq t x y (.string a) (.string b); binOp .neq t (.string a) (.string b)) (.bool d) := ⟨fun w => by
  subst h
  simp [eqGuard, binOp, Op.stringOp, sEq]⟩
def sAt (s : ByteArray) (i : Nat) : Int := (((s[i]?).getD 0).toNat : Int)
theorem st_six {t : TypeId} {x y : Operand} {s : ByteArray} {i : Nat} (ho : o.op = .index t x y) (hu : p.underlying t = some .string) (hx : ρ x = .string s) (hy : ρ y = .int .i64 i) (hi : i < s.size) (k : K (.int .u8 (sAt s i)) H) : Step p ρ o H K := by
  refine st_run (s := Instr.index t (.string s) (.int .i64 i)) (by rw [execOp, ho]; simp only [hx, hy]) ⟨fun w => ?_⟩ k
  have h0 : (0 : Int) ≤ i := by omega
  have hb := ByteArray.getElem?_lt' s i hi
  simp [Instr.index, asIntOf, Sem.run_bind, run_underlying hu w, h0, hb, sAt]
end
section
variable {p : Program} {t : Nat} {a b : Int} {d : Bool} {k : IntKind}
theorem bk_leq (h : decide (a ≤ b) = d) (x y : Operand) : Runs p (do eqGuard .leq t x y (.int k a) (.int k b); binOp .leq t (.int k a) (.int k b)) (.bool d) := ⟨fun w => by rw [← h]; cases k <;> rfl⟩
theorem bk_geq (h : decide (a ≥ b) = d) (x y : Operand) : Runs p (do eqGuard .geq t x y (.int k a) (.int k b); binOp .geq t (.int k a) (.int k b)) (.bool d) := ⟨fun w => by rw [← h]; cases k <;> rfl⟩
theorem bk_eql (h : (a == b) = d) (x y : Operand) : Runs p (do eqGuard .eql t x y (.int k a) (.int k b); binOp .eql t (.int k a) (.int k b)) (.bool d) := ⟨fun w => by rw [← h]; cases k <;> rfl⟩
theorem bk_neq (h : (a != b) = d) (x y : Operand) : Runs p (do eqGuard .neq t x y (.int k a) (.int k b); binOp .neq t (.int k a) (.int k b)) (.bool d) := ⟨fun w => by rw [← h]; cases k <;> rfl⟩
end
end Go.Proofs.YtalffjplbhelcaaGreatDoor
namespace Go.Proofs.YtalffjplbhelcaaGreatDoor
open Go.RowKit
structure Iv where
  lo : Int
  hi : Int
  no : Bool
deriving DecidableEq
@[reducible] def Iv.v (a : Iv) : Value := .agg #[.int .i64 a.lo, .int .i64 a.hi, .bool a.no]
theorem follows : Tryz.prog.follows .mixedOrders = true := by kernel_rfl
end Go.Proofs.YtalffjplbhelcaaGreatDoor
namespace Go.Proofs.YtalffjplbhelcaaGreatDoor
open Go.RowKit
section
variable {p : Program} {n : Nat} {ops : Array Oper} {Q : Exit → Env → List Box → Prop} {l : List Oper} {E : Env} {H : List Box} {o : Oper} {ρ : Operand → Value} {K : Post}
theorem aQ {x y : Code} (h : AC p n x (AThen (AC p n y Q) Q) E H) : AC p n (.seq x y) Q E H := ac_seq h
theorem aL {id : Nat} {l : List Oper} (h : AR p n l.toArray Q l E H) : AC p n (.region id l.toArray false) Q E H := ac_region_lit h
theorem aN (h : Q .normal E H) : AR p n ops Q [] E H := ar_nil h
theorem aM {x : Operand} {ty : TypeId} {ps : String} {af : Array Edge} (d : Nat) (v : Value) (ho : o = ⟨some d, .move x, ty, ps, af, none⟩) (hx : ev n E x = v) (h : AR p n ops Q l (E.put (some d) v) H) : AR p n ops Q (o :: l) E H := by
  subst ho
  exact ao d rfl rfl (st_move rfl hx h)
theorem aA {x : Operand} {ty : TypeId} {ps : String} {af : Array Edge} (d : Nat) (v : Value) (ho : o = ⟨some d, .assign x, ty, ps, af, none⟩) (hx : ev n E x = v) (h : AR p n ops Q l (E.put (some d) v) H) : AR p n ops Q (o :: l) E H := by
  subst ho
  exact ao d rfl rfl (st_assign rfl hx h)
theorem aB {op : BinOp} {t y' : Nat} {x y : Operand} {u v : Value} {ty : TypeId} {ps : String} {af : Array Edge} (d : Nat) (r : Value) (ho : o = ⟨some d, .binOp op t x y y', ty, ps, af, none⟩) (hx : ev n E x = u) (hy : ev n E y = v)
    (hr : ∀ x y : Operand, Runs p (do eqGuard op t x y u v; binOp op t u v) r) (h : AR p n ops Q l (E.put (some d) r) H) : AR p n ops Q (o :: l) E H := by
  subst ho
  exact ao d rfl rfl (st_bi rfl hx hy hr h)
theorem aC {f : FuncId} {args : List Operand} {ts : Array TypeId} {vs : List Value} {r : Value} {fn : Func} {c : Code} {ty : TypeId} {ps : String} {af : Array Edge} (d : Nat) (g : Gets p f vs.toArray r) (hfn : p.funcs[f]? = some fn) (hb : (fn.body = some c) ∧ (fn.name == "runtime.NumGoroutine") = false)
    (ho : o = ⟨some d, .call { callee := .value (.func f), args := args.toArray, argTypes := ts }, ty, ps, af, none⟩) (hv : args.map (ev n E) = vs) (h : AR p n ops Q l (E.put (some d) r) H) : AR p n ops Q (o :: l) E H := by
  subst ho
  exact ao d rfl rfl (st_cf g hfn hb.1 hb.2 rfl rfl hv h)
theorem aS {t : TypeId} {x y : Operand} {g off : Nat} {cs0 us : List Value} {t0 : Nat} {m : Nat} {ty : TypeId} {ps : String} {af : Array Edge} (cs : List Value) (ha : IsAgg p t m) (i : Nat) (ho : o = ⟨none, .store t x y, ty, ps, af, none⟩) (hx : ev n E x = .pointer (some ⟨g, off, none⟩)) (hy : ev n E y = .agg us.toArray)
    (hm : H[i]? = some ⟨g, cs0, t0, false⟩) (hk : (Nat.beq us.length m && Nat.ble (off + m) cs0.length && us.all (·.oneCell')) = true) (hcs : cs0.take off ++ us ++ cs0.drop (off + m) = cs) (h : AR p n ops Q l E (upd H i cs)) : AR p n ops Q (o :: l) E H := by
  subst ho
  simp only [Bool.and_eq_true] at hk
  exact ar_op (d := none) rfl rfl (st_sta ha i rfl hx hy hm rfl (Nat.eq_of_beq_eq_true hk.1.1) hk.1.2 hk.2 hcs h)
theorem aF {t f : Nat} {x : Operand} {g off j : Nat} {ty : TypeId} {ps : String} {af : Array Edge} (d : Nat) (hr : ∀ a, Runs p (Instr.fieldAt t (.pointer (some a)) f) (.pointer (some (a.add j)))) (ho : o = ⟨some d, .fieldAddr t x f, ty, ps, af, none⟩) (hx : ev n E x = .pointer (some ⟨g, off, none⟩))
    (h : AR p n ops Q l (E.put (some d) (.pointer (some ⟨g, off + j, none⟩))) H) : AR p n ops Q (o :: l) E H := by
  subst ho
  exact ao d rfl rfl (st_fa rfl hr hx h)
theorem aG {t : TypeId} {x : Operand} {g off : Nat} {cs0 : List Value} {t0 : Nat} {ro : Bool} {m : Nat} {ty : TypeId} {ps : String} {af : Array Edge} (d : Nat) (vs : List Value) (ha : IsAgg p t m) (i : Nat) (ho : o = ⟨some d, .load t x, ty, ps, af, none⟩) (hx : ev n E x = .pointer (some ⟨g, off, none⟩)) (hm : H[i]? = some ⟨g, cs0, t0, ro⟩)
    (hn : Nat.beq vs.length m = true) (hv : (cs0.drop off).take m = vs) (h : AR p n ops Q l (E.put (some d) (.agg vs.toArray)) H) : AR p n ops Q (o :: l) E H := by
  subst ho
  exact ao d rfl rfl (st_lda ha i rfl hx hm rfl (Nat.eq_of_beq_eq_true hn) hv h)
theorem aD {t : TypeId} {x : Operand} {g off : Nat} {cs0 : List Value} {t0 : Nat} {ro : Bool} {ty : TypeId} {ps : String} {af : Array Edge} (d : Nat) (v : Value) (ha : IsCell p t) (i : Nat) (ho : o = ⟨some d, .load t x, ty, ps, af, none⟩) (hx : ev n E x = .pointer (some ⟨g, off, none⟩)) (hm : H[i]? = some ⟨g, cs0, t0, ro⟩)
    (hv : cs0[off]? = some v) (h : AR p n ops Q l (E.put (some d) v) H) : AR p n ops Q (o :: l) E H := by
  subst ho
  exact ao d rfl rfl (st_ldc ha i rfl hx hm rfl hv h)
theorem aX {x : Operand} {i : Nat} {vs : List Value} {ty : TypeId} {ps : String} {af : Array Edge} (d : Nat) (v : Value) (ho : o = ⟨some d, .extract x i, ty, ps, af, none⟩) (hx : ev n E x = .tuple vs.toArray) (hi : vs[i]? = some v) (h : AR p n ops Q l (E.put (some d) v) H) : AR p n ops Q (o :: l) E H := by
  subst ho
  exact ao d rfl rfl (st_ex rfl hx hi h)
theorem aK {o : Oper} (d : Nat) (hg : yld n ops E o = false) (hd : o.dst = some d) (h : AR p n ops Q l (E.put (some d) undef) H) : AR p n ops Q (o :: l) E H := ar_sk hg hd h
end
end Go.Proofs.YtalffjplbhelcaaGreatDoor
namespace Go.Proofs.YtalffjplbhelcaaGreatDoor
open Go.RowKit
def subS (s : ByteArray) (lo hi : Int) : ByteArray := s.extract lo.toNat hi.toNat
theorem subS_le (s : ByteArray) (lo hi : Int) {m : Nat} (h : s.size ≤ m) : (subS s lo hi).size ≤ m := by
  unfold subS
  rw [ByteArray.size_extract]; omega
section
variable {p : Program} {n : Nat} {ops : Array Oper} {Q : Exit → Env → List Box → Prop} {l : List Oper} {E : Env} {H : List Box} {o : Oper} {ρ : Operand → Value} {K : Post}
theorem st_ss {t : TypeId} {x y z : Operand} {s : ByteArray} {lo hi : Int} (h : 0 ≤ lo ∧ lo ≤ hi ∧ hi ≤ s.size) (ho : o.op = .slice t x (some y) (some z) none) (hu : p.underlying t = some .string) (hx : ρ x = .string s) (hy : ρ y = .int .i64 lo) (hz : ρ z = .int .i64 hi) (k : K (.string (subS s lo hi)) H) : Step p ρ o H K := by
  refine st_run (s := Instr.sliceAt t (.string s) (some (.int .i64 lo)) (some (.int .i64 hi)) none) (by rw [execOp, ho]; simp only [hx, hy, hz, Option.map_none, Option.map_some]) ⟨fun w => ?_⟩ k
  obtain ⟨h0, h1, h2⟩ := h
  have h3 : 0 ≤ hi := by omega
  have h4 : lo ≤ (hi.toNat : Int) := by omega
  have h5 : lo.toNat ≤ hi.toNat := by omega
  have h6 : hi.toNat ≤ s.size := by omega
  have e := run_sliceBound (P := p) w .i64 lo hi.toNat .sliceB h0 h4
  simp [Instr.sliceAt, Instr.slice, Instr.sliceBounds, Sem.run_bind, run_underlying hu w, run_sliceBound, h2, h3, e, h5, h6, subS]
theorem st_ssb {t : TypeId} {x y : Operand} {s : ByteArray} {lo : Int} (h : 0 ≤ lo ∧ lo ≤ s.size) (ho : o.op = .slice t x (some y) none none) (hu : p.underlying t = some .string) (hx : ρ x = .string s) (hy : ρ y = .int .i64 lo) (k : K (.string (subS s lo s.size)) H) : Step p ρ o H K := by
  refine st_run (s := Instr.sliceAt t (.string s) (some (.int .i64 lo)) none none) (by rw [execOp, ho]; simp only [hx, hy, Option.map_none, Option.map_some]) ⟨fun w => ?_⟩ k
  obtain ⟨h0, h1⟩ := h
  have h3 : lo.toNat ≤ s.size := by omega
  simp [Instr.sliceAt, Instr.slice, Instr.sliceBounds, Sem.run_bind, run_underlying hu w, run_sliceBound, h0, h1, h3, subS]
theorem st_ssh {t : TypeId} {x z : Operand} {s : ByteArray} {hi : Int} (h : 0 ≤ hi ∧ hi ≤ s.size) (ho : o.op = .slice t x none (some z) none) (hu : p.underlying t = some .string) (hx : ρ x = .string s) (hz : ρ z = .int .i64 hi) (k : K (.string (subS s 0 hi)) H) : Step p ρ o H K := by
  refine st_run (s := Instr.sliceAt t (.string s) none (some (.int .i64 hi)) none) (by rw [execOp, ho]; simp only [hx, hz, Option.map_none, Option.map_some]) ⟨fun w => ?_⟩ k
  obtain ⟨h0, h1⟩ := h
  simp [Instr.sliceAt, Instr.slice, Instr.sliceBounds, Sem.run_bind, run_underlying hu w, run_sliceBound, h0, h1, subS]
end
theorem res_ttt {p : Program} {n : Nat} {E : Env} {H : List Box} {fn : Func} {s t u : Nat} {x y z : Value} (h : fn.results = #[.tmp s, .tmp t, .tmp u]) (hx : ev n E (.tmp s) = x) (hy : ev n E (.tmp t) = y) (hz : ev n E (.tmp u) = z) : Res p fn n E H (.tuple #[x, y, z]) := by
  intro β w a hO hs
  simp [results, h, see_tmp hs hx, see_tmp hs hy, see_tmp hs hz, Sem.run_bind]
def byA (l : List UInt8) : ByteArray := ⟨l.toArray⟩
theorem byA_size (l : List UInt8) : (byA l).size = l.length := rfl
def lCutPrefix (s p : ByteArray) : ByteArray × Bool := (byA (Lib.trimPrefix s.data.toList p.data.toList), Lib.hasPrefix s.data.toList p.data.toList)
theorem c_lCutPrefix (s p : ByteArray) : Gets Tryz.prog 66 #[.string s, .string p] (.tuple #[.string (lCutPrefix s p).1, .bool (lCutPrefix s p).2]) :=
  fun w => (Tryz.strings_CutPrefix s p w).mono fun e w' ⟨he, hw⟩ => ⟨he, hw ▸ Below.refl _ _⟩
def lIndex (s : ByteArray) (c : UInt8) : Int := Lib.indexByte s.data.toList c
theorem c_lIndex (s : ByteArray) (c : UInt8) : Gets Tryz.prog 128 #[.string s, .string ⟨#[c]⟩] (.int .i64 (lIndex s c)) :=
  fun w => (Tryz.stringslite_Index_one s c w).mono fun e w' ⟨he, hw⟩ => ⟨he, hw ▸ Below.refl _ _⟩
theorem index_lt : ∀ (l : List UInt8) (c : UInt8), -1 ≤ Lib.indexByte l c ∧ Lib.indexByte l c < l.length ∨ Lib.indexByte l c = -1
  | [], c => .inr rfl
  | b :: l, c => by
    rw [Lib.indexByte]
    split
    · left; constructor <;> simp
    · split
      · right; rfl
      · rename_i h1 h2
        rcases index_lt l c with h | h
        · left; simp only [List.length_cons]; omega
        · rw [h] at h2; exact absurd rfl h2
theorem lIndex_lt (s : ByteArray) (c : UInt8) : lIndex s c < s.size ∧ -1 ≤ lIndex s c := by
  have e : s.size = s.data.toList.length := Lib.size_eq s
  unfold lIndex
  rcases index_lt s.data.toList c with h | h <;> omega
def lTrimRight (s : ByteArray) (c : UInt8) : ByteArray := byA (Lib.trimRightB s.data.toList c)
theorem c_lTrimRight (s : ByteArray) (c : UInt8) (hc : c.toNat < 128) (hs : s.size ≤ 9223372036854775807) : Gets Tryz.prog 69 #[.string s, .string ⟨#[c]⟩] (.string (lTrimRight s c)) :=
  fun w => (Tryz.strings_TrimRight_one s c hc w hs).mono fun e w' ⟨he, hw⟩ => ⟨he, hw ▸ Below.refl _ _⟩
def figs : ByteArray := ⟨#[48, 49, 50, 51, 52, 53, 54, 55, 56, 57]⟩
def lTrimFig (s : ByteArray) : ByteArray := byA (Lib.trimS s.data.toList figs.data.toList)
theorem c_lTrimFig (s : ByteArray) (hs : s.size ≤ 9223372036854775807) : Gets Tryz.prog 110 #[.string s, .string ⟨#[48, 49, 50, 51, 52, 53, 54, 55, 56, 57]⟩] (.string (lTrimFig s)) :=
  fun w => (Any.strings_Trim_laid Tryz.lays160 (by kernel_rfl) s ⟨#[48, 49, 50, 51, 52, 53, 54, 55, 56, 57]⟩ w hs (by decide) (ascii_of_all (by decide))).mono fun e w' ⟨he, hw⟩ => ⟨he, hw⟩
def lAtoi (s : ByteArray) : Int := (Lib.atoi s.data.toList).getD 0
theorem c_lAtoi (s : ByteArray) (hl : s.size ≤ 18) (h : (Lib.atoi s.data.toList).isSome = true) : Gets Tryz.prog 70 #[.string s] (.tuple #[.int .i64 (lAtoi s), .nilIface]) := fun w => by
  obtain ⟨n, hn⟩ := Option.isSome_iff_exists.1 h
  refine (Tryz.strconv_Atoi s n hl hn w).mono fun e w' ⟨he, t, hw⟩ => ⟨?_, hw ▸ Lib.bytesWorld_below _ _ _⟩
  rw [he, lAtoi, hn]; rfl
def lRepeat (s : ByteArray) (c : Int) : ByteArray := byA (Lib.repeatL s.data.toList c.toNat)
theorem c_lRepeat (s : ByteArray) (c : Int) (h0 : 0 ≤ c) (h1 : c ≤ 1000) (hs : s.size ≤ 1000) : Gets Tryz.prog 74 #[.string s, .int .i64 c] (.string (lRepeat s c)) := fun w => by
  have e : ((c.toNat : Nat) : Int) = c := by omega
  have h := Tryz.strings_Repeat s c.toNat w (by omega) (by
    have : s.size * c.toNat ≤ 1000 * 1000 := Nat.mul_le_mul hs (by omega)
    omega)
  rw [e] at h
  exact h.mono fun e w' ⟨he, hw⟩ => ⟨he, hw⟩
def powBox (t : Nat) : Box := ⟨3, Lib.pow10Tab.map fun z => Value.int .u64 z, t, true⟩
def lItoa (n : Int) : ByteArray := byA (Lib.itoa n)
theorem tab_of {w : World} {t : Nat} (h : At [powBox t] w) : Lib.TabIs Tryz.prog w "internal/strconv.uint64pow10" .u64 Lib.pow10Tab := by
  obtain ⟨fr, hh⟩ := h (powBox t) List.mem_cons_self
  have hg : Tryz.prog.globalNamed "internal/strconv.uint64pow10" = some 3 := by kernel_rfl
  unfold Lib.TabIs
  simp only [World.var?, hg, Option.bind_some, Option.bind_eq_bind]
  rw [show w.heap[3]? = _ from hh]
  rfl
theorem at_tab {w : World} (h : Lib.TabIs Tryz.prog w "internal/strconv.uint64pow10" .u64 Lib.pow10Tab) : ∃ t, At [powBox t] w := by
  have hg : Tryz.prog.globalNamed "internal/strconv.uint64pow10" = some 3 := by kernel_rfl
  unfold Lib.TabIs at h
  simp only [World.var?, hg, Option.bind_some, Option.bind_eq_bind] at h
  split at h
  · rename_i cs t fr hh
    refine ⟨t, fun b hb => ?_⟩
    obtain rfl := List.mem_singleton.1 hb
    refine ⟨fr, ?_⟩
    show w.heap[3]? = some (.cells (Lib.pow10Tab.map fun z => Value.int .u64 z).toArray t fr)
    rw [hh, Option.some.inj h]
  · cases h
theorem c_lItoa (tP : Nat) (n : Int) (h0 : -9223372036854775808 ≤ n) (h1 : n ≤ 9223372036854775807) : Gives Tryz.prog 73 #[.int .i64 n] [powBox tP] (fun u N => u = .string (lItoa n) ∧ N = []) := fun w hA _ =>
  (Tryz.strconv_Itoa n h0 h1 w (tab_of hA)).mono fun e w' ⟨he, k, os, hw⟩ => ⟨_, [], he, ⟨rfl, rfl⟩, ⟨by rw [hw]; simp, by simp, by simp⟩, by simp, by rw [hw]; exact Lib.below_grow _ _ (Nat.le_refl _) _ _⟩
end Go.Proofs.YtalffjplbhelcaaGreatDoor
namespace Go.Proofs.YtalffjplbhelcaaGreatDoor
open Go.RowKit
def JQ (J : Nat → Act → World → Prop) (Q : Exit → Act → World → Prop) : Exit → Act → World → Prop
  | .goto l, a, w => J l a w
  | e, a, w => Q e a w
theorem wp_scope_labels {P : Program} {a : Act} {w : World} {Q : Exit → Act → World → Prop} {c : Code} (J : Nat → Nat → Act → World → Prop) (first : c.wp P (JQ (fun l a w => ∃ k, J l k a w) Q) a w)
    (pass : ∀ l k a w, J l k a w → ∃ rest, findLabel c l = some rest ∧ rest.wp P (JQ (fun l' a' w' => ∃ k', k' < k ∧ J l' k' a' w') Q) a w) : (Code.scope c).wp P Q a w := by
  intro b k cs
  have key : ∀ n l a w, J l n a w → ∃ rest, findLabel c l = some rest ∧ ∃ e a' w', Q e a' w' ∧ Arrives P (lone (b.at a (.code rest :: .inScope c :: k)) cs w) b k cs e a' w' := by
    intro n
    induction n using Nat.strongRecOn with
    | _ n ih =>
      intro l a w hJ
      obtain ⟨rest, hf, hw⟩ := pass l n a w hJ
      refine ⟨rest, hf, ?_⟩
      obtain ⟨e, a₁, w₁, hq, harr⟩ := hw b (.inScope c :: k) cs
      cases e with
      | normal => exact ⟨.normal, a₁, w₁, hq, Steps.trans harr (.one step_inScope)⟩
      | exit id => exact ⟨.exit id, a₁, w₁, hq, fun k' hk => harr k' (by simp [exitTo, hk])⟩
      | goto l' =>
        obtain ⟨k', hlt, hJ'⟩ := hq
        obtain ⟨rest', hf', e₂, a₂, w₂, hq₂, harr₂⟩ := ih k' hlt l' a₁ w₁ hJ'
        exact ⟨e₂, a₂, w₂, hq₂, .of_steps (harr _ (by simp [gotoIn, hf'])) harr₂⟩
      | ret => exact ⟨_, a₁, w₁, hq, harr⟩
      | panic ch => exact ⟨_, a₁, w₁, hq, harr⟩
      | outgrown => exact ⟨_, a₁, w₁, hq, harr⟩
  obtain ⟨e, a₁, w₁, hq, harr⟩ := first b (.inScope c :: k) cs
  cases e with
  | normal => exact ⟨.normal, a₁, w₁, hq, .head step_scope (Steps.trans harr (.one step_inScope))⟩
  | exit id => exact ⟨.exit id, a₁, w₁, hq, fun k' hk => .head step_scope (harr k' (by simp [exitTo, hk]))⟩
  | goto l' =>
    obtain ⟨n, hJ'⟩ := hq
    obtain ⟨rest', hf', e₂, a₂, w₂, hq₂, harr₂⟩ := key n l' a₁ w₁ hJ'
    exact ⟨e₂, a₂, w₂, hq₂, .of_steps (.head step_scope (harr _ (by simp [gotoIn, hf']))) harr₂⟩
  | ret => exact ⟨_, a₁, w₁, hq, .of_steps (.one step_scope) harr⟩
  | panic ch => exact ⟨_, a₁, w₁, hq, .of_steps (.one step_scope) harr⟩
  | outgrown => exact ⟨_, a₁, w₁, hq, .of_steps (.one step_scope) harr⟩
section
variable {p : Program} {n : Nat} {ops : Array Oper} {Q : Exit → Env → List Box → Prop} {l : List Oper} {E : Env} {H : List Box} {o : Oper} {ρ : Operand → Value} {K : Post}
def AJ (J : Nat → Env → List Box → Prop) (Q : Exit → Env → List Box → Prop) : Exit → Env → List Box → Prop
  | .goto l, E, H => J l E H
  | e, E, H => Q e E H
theorem ac_scope {c : Code} (J : Nat → Nat → Env → List Box → Prop) (first : AC p n c (AJ (fun l E H => ∃ k, J l k E H) Q) E H)
    (pass : ∀ l k E H, J l k E H → ∃ rest, findLabel c l = some rest ∧ AC p n rest (AJ (fun l' E' H' => ∃ k', k' < k ∧ J l' k' E' H') Q) E H) : AC p n (.scope c) Q E H := by
  intro β w a hO hB hs
  refine wp_scope_labels (fun l k a w => ∃ E H, J l k E H ∧ Sees n E a ∧ Own β H w ∧ Keeps β w) ?_ ?_
  · refine Code.wp_mono ?_ (first β w a hO hB hs)
    rintro e a w ⟨E', H', q, r⟩
    cases e <;> first | exact ⟨E', H', q, r⟩ | (obtain ⟨k, hk⟩ := q; exact ⟨k, E', H', hk, r⟩)
  · rintro l k a w ⟨E', H', hJ, hs', hO', hB'⟩
    obtain ⟨rest, hf, h⟩ := pass l k E' H' hJ
    refine ⟨rest, hf, Code.wp_mono ?_ (h β w a hO' hB' hs')⟩
    rintro e a w ⟨E'', H'', q, r⟩
    cases e <;> first | exact ⟨E'', H'', q, r⟩ | (obtain ⟨k', hk, hJ'⟩ := q; exact ⟨k', hk, E'', H'', hJ', r⟩)
theorem ac_goto {l : Nat} (h : Q (.goto l) E H) : AC p n (.goto l) Q E H := fun β w a hO hB hs => wp_goto ⟨E, H, h, hs, hO, hB⟩
theorem ac_label {l : Nat} (h : Q .normal E H) : AC p n (.label l) Q E H := fun β w a hO hB hs => wp_label ⟨E, H, h, hs, hO, hB⟩
def fl (n : Int) : Nat := FloatKind.f64.nearest n
theorem st_cvf {t u : Nat} {x : Operand} {a : Int} (ho : o.op = .convert t u x) (hx : ρ x = .int .i64 a) (hu : p.underlying u = some (.float .f64)) (ht : p.underlying t = some (.int .i64)) (k : K (.float .f64 (fl a)) H) : Step p ρ o H K :=
  st_run (s := convert t u (.int .i64 a)) (by rw [execOp, ho]; simp only [hx]) ⟨fun w => by simp [convert, Sem.run_bind, run_underlying hu w, run_underlying ht w, Conv.intToFloat, fl]⟩ k
theorem run_cpx (ts : Array TypeId) (ty : TypeId) (a b : Nat) : Builtin.complex_ ts ty #[.float .f64 a, .float .f64 b] = pure (.complex .f64 a b) := rfl
theorem st_cpx {ts : Array TypeId} {args : List Operand} {a b : Nat} (ho : o.op = .call { callee := .builtin .complex, args := args.toArray, argTypes := ts }) (hv : args.map ρ = [.float .f64 a, .float .f64 b]) (k : K (.complex .f64 a b) H) : Step p ρ o H K := by
  refine st_val (fun w => ?_) k
  rw [execOp, ho]
  simp only [resolve, List.map_toArray, hv]
  simp [invoke, builtin, run_cpx, Sem.run_bind]
end
structure Cx where
  re : Nat
  im : Nat
deriving DecidableEq
def feq (x y : Nat) : Bool := FloatKind.f64.format.order x y == some .eq
def cxEq (a b : Cx) : Bool := feq a.re b.re && feq a.im b.im
section
variable {p : Program} {t : Nat} {a b : Cx} {d : Bool}
theorem bi_ceql (h : cxEq a b = d) (x y : Operand) : Runs p (do eqGuard .eql t x y (.complex .f64 a.re a.im) (.complex .f64 b.re b.im); binOp .eql t (.complex .f64 a.re a.im) (.complex .f64 b.re b.im)) (.bool d) := ⟨fun w => by
  subst h
  simp [eqGuard, binOp, Op.complexOp, Op.Complex.cmp, Op.floatCmp, Sem.run_bind, asBool, cxEq, feq]⟩
end
end Go.Proofs.YtalffjplbhelcaaGreatDoor
namespace Go.Proofs.YtalffjplbhelcaaGreatDoor
open Go.RowKit
def nowB (H : List Box) (w : World) : Base := ⟨fun g => ∃ b ∈ H, b.ro = false ∧ b.g = g, w⟩
section
variable {p : Program} {n : Nat} {E : Env} {H H' : List Box} {k pos : Nat} {s : ByteArray} {β : Base} {w w' : World}
theorem Own.now (hO : Own β H w) : Own (nowB H w) H w :=
  ⟨Nat.le_refl _, fun b hb => ⟨by cases hr : b.ro with
    | true => exact .inl rfl
    | false => exact .inr (.inr ⟨b, hb, hr, rfl⟩), (hO.at_ b hb).2⟩, hO.apart⟩
theorem now_may (hO : Own β H w) {g : Nat} (h : (nowB H w).may g) : β.may g := by
  rcases h with h1 | ⟨b, hb, hr, rfl⟩
  · exact .inl (Nat.le_trans hO.size h1)
  · exact (hO.at_ b hb).1.resolve_left (by rw [hr]; exact Bool.false_ne_true)
variable {ops : Array Oper} {l : List Oper} {o : Oper} {R : Nat → Env → List Box → Prop}
end
end Go.Proofs.YtalffjplbhelcaaGreatDoor
namespace Go.Proofs.YtalffjplbhelcaaGreatDoor
open Go.RowKit
def drawOkL (ops : Array Oper) (fx al ta : List Nat) (q : Nat) : Bool :=
  let body := fx ++ al
  let all := body ++ ta
  (all.length == ops.size) && nodupB all && ((List.range ops.size).all fun i => all.contains i) && (all.all fun i => Nat.blt i ops.size)
  && ((List.range ops.size).all fun i => match ops[i]? with | some o => (o.after.all fun e => !(Region.binds .any e) || Nat.blt e.on i) | none => false)
  && (Region.noSelect ops)
  && (body.all fun i => body.all fun j => i == j || (match dstOf ops i, dstOf ops j with | some x, some y => !(Nat.beq x y) | _, _ => true))
  && ((List.range fx.length).all fun k => match fx[k]? with
      | some i => (match ops[i]? with
        | some o => (Oper.looksAt ops o).all fun t => body.all fun j => (match dstOf ops j with | some d => !(Nat.beq d t) | none => true) || (bindsOn o j && (fx.take k).contains j)
        | none => false)
      | none => false)
  && ((List.range ta.length).all fun k => match ta[k]? with
      | some i => k == 0 || ((body ++ ta.take k).all fun j => before_ ops i j || (body ++ ta.take k).any fun m => before_ ops m j)
      | none => false)
  && (match ta[0]? with | some i => (body.all fun j => j == q || before_ ops i j || body.any fun m => !(m == q) && before_ ops m j) | none => true)
  && fx.contains q
  && (match ops[q]? with | some oq => (oq.after.all fun e => !(Region.binds .any e) || body.contains e.on) && (ta.all fun j => match ops[j]? with | some oj => bindsOn oj q || oq.apart ops oj | none => false) | none => false)
section
variable {p : Program} {n : Nat} {ops : Array Oper}
structure DrawOkL (ops : Array Oper) (fx al ta : List Nat) (q : Nat) : Prop where
  len : (fx ++ al ++ ta).length = ops.size
  nodup : (fx ++ al ++ ta).Nodup
  all : ∀ i, i < ops.size → i ∈ fx ++ al ++ ta
  lt : ∀ i ∈ fx ++ al ++ ta, i < ops.size
  back : ∀ i o, ops[i]? = some o → ∀ e ∈ o.after, Region.binds .any e = true → e.on < i
  sel : Region.noSelect ops = true
  dsts : ∀ i ∈ fx ++ al, ∀ j ∈ fx ++ al, ∀ t, dstOf ops i = some t → dstOf ops j = some t → i = j
  looks : ∀ k i o, fx[k]? = some i → ops[i]? = some o → ∀ t ∈ Oper.looksAt ops o, ∀ j ∈ fx ++ al, dstOf ops j = some t → bindsOn o j = true ∧ j ∈ fx.take k
  tails : ∀ k i, ta[k]? = some i → k ≠ 0 → ∀ j ∈ fx ++ al ++ ta.take k, before_ ops i j = true ∨ ∃ m ∈ fx ++ al ++ ta.take k, before_ ops m j = true
  tails0 : ∀ i, ta[0]? = some i → ∀ j ∈ fx ++ al, j ≠ q → before_ ops i j = true ∨ ∃ m ∈ fx ++ al, m ≠ q ∧ before_ ops m j = true
  late : q ∈ fx
  deps : ∀ oq, ops[q]? = some oq → ∀ e ∈ oq.after, Region.binds .any e = true → e.on ∈ fx ++ al
  far : ∀ oq, ops[q]? = some oq → ∀ j ∈ ta, ∀ oj, ops[j]? = some oj → bindsOn oj q = true ∨ oq.apart ops oj = true
theorem drawOkL_spec {fx al ta : List Nat} {q : Nat} (h : drawOkL ops fx al ta q = true) : DrawOkL ops fx al ta q := by
  simp only [drawOkL, Bool.and_eq_true, List.all_eq_true, List.mem_range, beq_iff_eq, Nat.blt_eq] at h
  obtain ⟨⟨⟨⟨⟨⟨⟨⟨⟨⟨⟨h1, h2⟩, h3⟩, h4⟩, h5⟩, h6⟩, h7⟩, h8⟩, h9⟩, h10⟩, h11⟩, h12⟩ := h
  refine ⟨h1, nodupB_spec _ h2, fun i hi => by simpa using h3 i hi, fun i hi => h4 i hi, ?_, h6, ?_, ?_, ?_, ?_, by simpa using h11, ?_, ?_⟩
  · intro i o ho e he hb
    have := h5 i (Array.getElem?_eq_some_iff.1 ho).1
    rw [ho] at this
    have h := Array.all_eq_true_iff_forall_mem.1 this e he
    simp only [hb, Bool.not_true, Bool.false_or, Nat.blt_eq] at h
    exact h
  · intro i hi j hj t hti htj
    have := h7 i hi j hj
    rw [hti, htj] at this
    simpa using this
  · intro k i o hk ho t ht j hj hd
    have hlt : k < fx.length := (List.getElem?_eq_some_iff.1 hk).1
    have := h8 k hlt
    rw [hk] at this
    simp only [ho] at this
    have := List.all_eq_true.1 (List.all_eq_true.1 this t ht) j hj
    rw [hd] at this
    simpa using this
  · intro k i hk hk0 j hj
    have hlt : k < ta.length := (List.getElem?_eq_some_iff.1 hk).1
    have := h9 k hlt
    rw [hk] at this
    simp only [Bool.or_eq_true, beq_iff_eq, hk0, false_or] at this
    have := List.all_eq_true.1 this j hj
    rw [Bool.or_eq_true, List.any_eq_true] at this
    exact this
  · intro i hi j hj hjq
    rw [hi] at h10
    have := List.all_eq_true.1 h10 j hj
    simp only [Bool.or_eq_true, beq_iff_eq, List.any_eq_true, Bool.and_eq_true, Bool.not_eq_true', beq_eq_false_iff_ne, ne_eq] at this
    rcases this with (h | h) | h
    · exact absurd h hjq
    · exact .inl h
    · exact .inr h
  · intro oq hoq e he hb
    rw [hoq] at h12
    simp only [Bool.and_eq_true] at h12
    have h := Array.all_eq_true_iff_forall_mem.1 h12.1 e he
    simp only [hb, Bool.not_true, Bool.false_or] at h
    simpa using h
  · intro oq hoq j hj oj hoj
    rw [hoq] at h12
    simp only [Bool.and_eq_true] at h12
    have := List.all_eq_true.1 h12.2 j hj
    rw [hoj] at this
    simpa using this
theorem tail_waitsL {fx al ta : List Nat} {q : Nat} (hok : DrawOkL ops fx al ta q) {L : Array Bool} (hd : Down ops L) {k i : Nat} (hk : ta[k]? = some i) (hk0 : k ≠ 0) (hr : i ∈ Region.ready .any ops L) :
    ∀ j ∈ fx ++ al ++ ta.take k, L.getD j false = true := by
  obtain ⟨h0, o, ho, hall⟩ := mem_ready.1 hr
  have key : ∀ m j, j ∈ fx ++ al ++ ta.take k → ops.size - j ≤ m → L.getD j false = true := by
    intro m
    induction m with
    | zero =>
      intro j hj hm
      have : j ∈ fx ++ al ++ ta := by
        rcases List.mem_append.1 hj with h | h
        · exact List.mem_append_left _ h
        · exact List.mem_append_right _ (List.mem_of_mem_take h)
      have := hok.lt j this
      omega
    | succ m ih =>
      intro j hj hm
      rcases hok.tails k i hk hk0 j hj with h | ⟨r, hq, h⟩
      · obtain ⟨o', ho', e, he, hb, hon⟩ := before_spec h
        rw [ho] at ho'
        cases ho'
        rw [← hon]
        exact hall e he hb
      · obtain ⟨o', ho', e, he, hb, hon⟩ := before_spec h
        have hlt : j < r := by rw [← hon]; exact hok.back r o' ho' e he hb
        have hq' : L.getD r false = true := ih r hq (by omega)
        rw [← hon]
        exact hd r o' ho' hq' e he hb
  intro j hj
  exact key (ops.size - j) j hj (Nat.le_refl _)
theorem tail_waits0 {fx al ta : List Nat} {q : Nat} (hok : DrawOkL ops fx al ta q) {L : Array Bool} (hd : Down ops L) {i : Nat} (hk : ta[0]? = some i) (hr : i ∈ Region.ready .any ops L) :
    ∀ j ∈ fx ++ al, j ≠ q → L.getD j false = true := by
  obtain ⟨h0, o, ho, hall⟩ := mem_ready.1 hr
  have key : ∀ m j, j ∈ fx ++ al → j ≠ q → ops.size - j ≤ m → L.getD j false = true := by
    intro m
    induction m with
    | zero =>
      intro j hj hjq hm
      have := hok.lt j (List.mem_append_left _ hj)
      omega
    | succ m ih =>
      intro j hj hjq hm
      rcases hok.tails0 i hk j hj hjq with h | ⟨r, hq, hrq, h⟩
      · obtain ⟨o', ho', e, he, hb, hon⟩ := before_spec h
        rw [ho] at ho'
        cases ho'
        rw [← hon]
        exact hall e he hb
      · obtain ⟨o', ho', e, he, hb, hon⟩ := before_spec h
        have hlt : j < r := by rw [← hon]; exact hok.back r o' ho' e he hb
        have hq' : L.getD r false = true := ih r hq hrq (by omega)
        rw [← hon]
        exact hd r o' ho' hq' e he hb
  intro j hj hjq
  exact key (ops.size - j) j hj hjq (Nat.le_refl _)
theorem ready_someL {fx al ta : List Nat} {q : Nat} (hok : DrawOkL ops fx al ta q) {L : Array Bool} (hs : L.size = ops.size) {i : Nat} (hi : i < ops.size) (hl : L.getD i false = false) : Region.ready .any ops L ≠ [] := by
  have key : ∀ m i, i < m → i < ops.size → L.getD i false = false → ∃ j, j ∈ Region.ready .any ops L := by
    intro m
    induction m with
    | zero => intro i h; omega
    | succ m ih =>
      intro i him hi hl
      obtain ⟨o, ho⟩ : ∃ o, ops[i]? = some o := ⟨_, Array.getElem?_eq_getElem hi⟩
      by_cases hall : ∀ e ∈ o.after, Region.binds .any e = true → L.getD e.on false = true
      · refine ⟨i, mem_ready.2 ⟨?_, o, ho, hall⟩⟩
        have hi' : i < L.size := by omega
        simpa [hi'] using hl
      · obtain ⟨e, he, hb, hne⟩ : ∃ e, e ∈ o.after ∧ Region.binds .any e = true ∧ ¬ L.getD e.on false = true := by
          refine Classical.byContradiction fun hc => hall fun e he hb => ?_
          exact Classical.byContradiction fun hn => hc ⟨e, he, hb, hn⟩
        have hlt := hok.back i o ho e he hb
        exact ih e.on (by omega) (by omega) (by simpa using hne)
  obtain ⟨j, hj⟩ := key (i + 1) i (by omega) hi hl
  intro h
  rw [h] at hj
  cases hj
theorem tail_phaseL {fx al ta : List Nat} {q : Nat} (hok : DrawOkL ops fx al ta q) {Q : Exit → Act → World → Prop} : ∀ (r : List Nat) (k : Nat) (L : Array Bool) (a : Act) (w : World), ta.drop k = r → Down ops L → L.size = ops.size →
    (∀ i ∈ fx ++ al ++ ta.take k, L.getD i false = true) → (∀ i ∈ r, L.getD i false = false) → wpList p ops Q (r.map fun i => (ops[i]?).getD default) a w → wpAny p .any ops Q r.length L a w := by
  intro r
  induction r with
  | nil =>
    intro k L a w hr hd hs hl hn h
    refine ⟨?_, h⟩
    cases hq : Region.ready .any ops L with
    | nil => rfl
    | cons i is =>
      have hi : i ∈ Region.ready .any ops L := by rw [hq]; simp
      obtain ⟨h0, o, ho, hall⟩ := mem_ready.1 hi
      have hlt := (Array.getElem?_eq_some_iff.1 ho).1
      have hk : ta.take k = ta := by
        have := List.take_append_drop k ta
        rw [hr, List.append_nil] at this
        exact this
      have := hl i (by rw [hk]; exact hok.all i hlt)
      have hi' : i < L.size := by omega
      simp [hi'] at h0 this
      rw [h0] at this
      cases this
  | cons i r ih =>
    intro k L a w hr hd hs hl hn h
    have hk : ta[k]? = some i := by
      have : (ta.drop k)[0]? = some i := by rw [hr]; rfl
      simpa using this
    have hr' : ta.drop (k + 1) = r := by
      have : (ta.drop k).drop 1 = r := by rw [hr]; rfl
      rw [List.drop_drop] at this
      exact this
    have hita : i ∈ ta := List.mem_of_getElem? hk
    have hlt : i < ops.size := hok.lt i (List.mem_append_right _ hita)
    have hrun := hn i (by simp)
    refine ⟨fun h0 => absurd h0 (ready_someL hok hs hlt hrun), fun j hj => ?_⟩
    have hjr := mem_ready.1 hj
    obtain ⟨h0, oj, hoj, hall⟩ := hjr
    have hjlt := (Array.getElem?_eq_some_iff.1 hoj).1
    have hji : j = i := by
      have hjn : L.getD j false = false := by
        have hj' : j < L.size := by omega
        simpa [hj'] using h0
      have hjall := hok.all j hjlt
      have hjt : j ∈ ta.drop k := by
        rcases List.mem_append.1 hjall with h | h
        · rw [hl j (List.mem_append_left _ h)] at hjn; cases hjn
        · rw [← List.take_append_drop k ta] at h
          rcases List.mem_append.1 h with h | h
          · rw [hl j (List.mem_append_right _ h)] at hjn; cases hjn
          · exact h
      rw [hr] at hjt
      rcases List.mem_cons.1 hjt with h | h
      · exact h
      · rw [← hr'] at h
        obtain ⟨r', hq⟩ := List.mem_iff_getElem?.1 h
        rw [List.getElem?_drop] at hq
        have := tail_waitsL hok hd hq (by omega) hj i (List.mem_append_right _ (List.mem_of_getElem? (i := k) (by rw [List.getElem?_take, if_pos (by omega)]; exact hk)))
        rw [hrun] at this
        cases this
    subst hji
    have hnd := hok.nodup
    have hnext : ∀ a' w', wpList p ops Q (r.map fun i => (ops[i]?).getD default) a' w' → wpAny p .any ops Q r.length (L.setIfInBounds j true) a' w' := fun a' w' h' => by
      refine ih (k + 1) _ a' w' hr' (hd.set hj) (by simp [hs]) ?_ ?_ h'
      · intro q hq
        by_cases hqj : j = q
        · subst hqj; have : j < L.size := by omega
          simp [this]
        · rw [getD_set_ne false hqj]
          refine hl q ?_
          rw [List.take_add_one, hk] at hq
          simp only [List.mem_append, Option.toList_some, List.mem_singleton] at hq ⊢
          rcases hq with h | h | h
          · exact .inl h
          · exact .inr h
          · exact absurd h.symm hqj
      · intro q hq
        have hqj : j ≠ q := by
          rintro rfl
          have h2 : (fx ++ al ++ (ta.take k ++ (j :: r))).Nodup := by rw [← hr, List.take_append_drop]; exact hnd
          have h3 := (List.nodup_append.1 (List.nodup_append.1 h2).2.1).2.1
          exact (List.nodup_cons.1 h3).1 hq
        rw [getD_set_ne false hqj]
        exact hn q (by simp [hq])
    simp only [List.map_cons, hoj, Option.getD_some] at h
    unfold wpList at h
    unfold wpOp
    simp only [hoj]
    split
    · rename_i hw
      rw [if_pos hw] at h
      exact h.imp (Oper.wp_mono hnext) id
    · rename_i hw
      rw [if_neg hw] at h
      exact hnext _ _ h
section
variable {fx ta : List Nat} {al : List Al} {vs : List (Nat × Value)} {E0 : Env} {H0 : List Box} {Q : Exit → Env → List Box → Prop}
theorem allp_uniqL {q : Nat} (hok : DrawOkL ops fx (al.map (·.i)) ta q) (hvs : vs.map (·.1) = fx) (gs : Nat → Nat) : ∀ y ∈ allp vs al gs, ∀ z ∈ allp vs al gs, ∀ t, dstOf ops y.1 = some t → dstOf ops z.1 = some t → y = z := by
  intro y hy z hz t hyt hzt
  have hf := allp_fst vs al gs
  rw [hvs] at hf
  have hnd : ((allp vs al gs).map (·.1)).Nodup := by rw [hf]; exact (List.nodup_append.1 hok.nodup).1
  refine uniq_fst _ hnd y hy z hz (hok.dsts y.1 ?_ z.1 ?_ t hyt hzt)
  · rw [← hf]; exact List.mem_map.2 ⟨y, hy, rfl⟩
  · rw [← hf]; exact List.mem_map.2 ⟨z, hz, rfl⟩
theorem body_phaseL {q : Nat} (hok : DrawOkL ops fx (al.map (·.i)) ta q) (hqop : ∃ oq x c, ops[q]? = some oq ∧ oq.op = .extract x c ∧ oq.guard = none) (hnp : ∀ c E H, ¬ Q (.panic c) E H) (hvs : vs.map (·.1) = fx) (ht : ∀ k x, vs[k]? = some x → Tells p n ops H0 (putAll ops E0 (vs.take k)) x.1 x.2)
    (hal : ∀ x ∈ al, ∃ o z, ops[x.i]? = some o ∧ o.op = .alloc x.t ∧ o.guard = none ∧ (p.info? x.t).map (·.zero) = some (some z) ∧ z.cells = x.cs.toArray)
    (hK : ∀ gs : Nat → Nat, AR p n ops Q (ta.map fun i => (ops[i]?).getD default) (putAll ops E0 (allp vs al gs)) (al.map (fun x => (⟨gs x.i, x.cs, x.t, false⟩ : Box)) ++ H0)) {β : Base} :
    ∀ (m : Nat) (L : Array Bool) (a : Act) (w : World) (gs : Nat → Nat) (F : List Box), L.size = ops.size → Down ops L → (∀ i ∈ ta, L.getD i false = false) →
      ((fx ++ al.map (·.i)).filter fun i => !(L.getD i false)).length = m → Inv p n ops E0 H0 vs al β L a w gs F → wpAny p .any ops (AQ n β Q) (m + ta.length) L a w := by
  intro m
  induction m with
  | zero =>
    intro L a w gs F hs hd hta hm hI
    rw [Nat.zero_add]
    have hall : ∀ i ∈ fx ++ al.map (·.i), L.getD i false = true := by
      intro i hi
      have h0 := List.eq_nil_of_length_eq_zero hm
      cases hq : L.getD i false with
      | true => rfl
      | false =>
        have : i ∈ (fx ++ al.map (·.i)).filter fun i => !(L.getD i false) := List.mem_filter.2 ⟨hi, by simp only [hq, Bool.not_false]⟩
        rw [h0] at this
        cases this
    have hE : EL ops E0 vs al gs L = putAll ops E0 (allp vs al gs) := by
      unfold EL
      congr 1
      refine List.filter_eq_self.2 fun x hx => hall x.1 ?_
      rw [← hvs, ← allp_fst vs al gs]
      exact List.mem_map.2 ⟨x, hx, rfl⟩
    refine tail_phaseL hok ta 0 L a w rfl hd hs (by simpa using hall) hta ?_
    refine hK gs β w a ?_ hI.below (hE ▸ hI.sees)
    have hnd := hok.nodup
    have hnal : (al.map (·.i)).Nodup := (List.nodup_append.1 (List.nodup_append.1 hnd).1).2.1
    have hmem : ∀ x ∈ al, (⟨gs x.i, x.cs, x.t, false⟩ : Box) ∈ F := fun x hx => hI.made x hx (hall x.i (List.mem_append_right _ (List.mem_map.2 ⟨x, hx, rfl⟩)))
    have hHF := hI.own.apart
    rw [List.map_append, List.nodup_append] at hHF
    refine ⟨hI.own.size, ?_, ?_⟩
    · intro b hb
      rcases List.mem_append.1 hb with h | h
      · obtain ⟨x, hx, rfl⟩ := List.mem_map.1 h
        exact hI.own.at_ _ (List.mem_append_right _ (hmem x hx))
      · exact hI.own.at_ _ (List.mem_append_left _ h)
    · rw [List.map_append, List.nodup_append]
      refine ⟨?_, hHF.1, ?_⟩
      · rw [List.map_map]
        have : ∀ (l : List Al), (l.map (·.i)).Nodup → (∀ x ∈ l, x ∈ al) → (l.map (Box.g ∘ fun x => (⟨gs x.i, x.cs, x.t, false⟩ : Box))).Nodup := by
          intro l
          induction l with
          | nil => intro _ _; simp
          | cons x l ih =>
            intro hn hsub
            simp only [List.map_cons, List.nodup_cons, Function.comp_apply] at hn ⊢
            refine ⟨?_, ih hn.2 fun y hy => hsub y (by simp [hy])⟩
            intro hc
            obtain ⟨y, hy, e⟩ := List.mem_map.1 hc
            have hxi : x.i ≠ y.i := fun e => hn.1 (List.mem_map.2 ⟨y, hy, e.symm⟩)
            exact hI.other x (hsub x (by simp)) y (hsub y (by simp [hy])) (hall _ (List.mem_append_right _ (List.mem_map.2 ⟨x, hsub x (by simp), rfl⟩))) (hall _ (List.mem_append_right _ (List.mem_map.2 ⟨y, hsub y (by simp [hy]), rfl⟩))) hxi e.symm
        exact this al hnal fun x hx => hx
      · intro x hx y hy e
        obtain ⟨b, hb, rfl⟩ := List.mem_map.1 hx
        obtain ⟨x', hx', rfl⟩ := List.mem_map.1 hb
        exact hHF.2.2 y hy _ (List.mem_map.2 ⟨_, hmem x' hx', rfl⟩) e.symm
  | succ m ih =>
    intro L a w gs F hs hd hta hm hI
    have hnd := hok.nodup
    have hndb := (List.nodup_append.1 hnd).1
    obtain ⟨i0, hi0⟩ : ∃ i, i ∈ (fx ++ al.map (·.i)).filter fun i => !(L.getD i false) := by
      cases hq : (fx ++ al.map (·.i)).filter fun i => !(L.getD i false) with
      | nil => rw [hq] at hm; cases hm
      | cons i is => exact ⟨i, by simp⟩
    obtain ⟨hi0b, hi0n⟩ := List.mem_filter.1 hi0
    have hi0n' : L.getD i0 false = false := by simpa using hi0n
    have hi0lt : i0 < ops.size := hok.lt i0 (List.mem_append_left _ hi0b)
    rw [show m + 1 + ta.length = (m + ta.length) + 1 by omega]
    by_cases hlate : ∀ j ∈ fx ++ al.map (·.i), j ≠ q → L.getD j false = true
    · have hq0 : i0 = q := Classical.byContradiction fun hne => by
        have := hlate i0 hi0b hne
        rw [hi0n'] at this
        cases this
      subst hq0
      obtain ⟨o, xq, cq, ho, hop, hgd⟩ := hqop
      have hall : ∀ e ∈ o.after, Region.binds .any e = true → L.getD e.on false = true := fun e he hb => hlate e.on (hok.deps o ho e he hb) (Nat.ne_of_lt (hok.back i0 o ho e he hb))
      have hiL : i0 < L.size := by omega
      have h0 : L.getD i0 true = false := by simpa [hiL] using hi0n'
      have hready : i0 ∈ Region.ready .any ops L := mem_ready.2 ⟨h0, o, ho, hall⟩
      have hif : i0 ∈ fx := hok.late
      have hin := hi0n'
      have hib := hi0b
      have hu := allp_uniqL (vs := vs) hok hvs
      have hLj : ∀ j, j ≠ i0 → (L.setIfInBounds i0 true).getD j false = L.getD j false := fun j hj => getD_set_ne false (Ne.symm hj)
      have hnta : i0 ∉ ta := fun h => (List.nodup_append.1 hnd).2.2 i0 hib i0 h rfl
      have hta' : ∀ j ∈ ta, (L.setIfInBounds i0 true).getD j false = false := fun j hj => by
        rw [getD_set_ne false (fun (e : i0 = j) => hnta (by rw [e]; exact hj))]
        exact hta j hj
      have hm' : ((fx ++ al.map (·.i)).filter fun j => !((L.setIfInBounds i0 true).getD j false)).length = m := by
        have := filter_less (fx ++ al.map (·.i)) (fun j => !(L.getD j false)) (fun j => !((L.setIfInBounds i0 true).getD j false)) i0 hndb hib (by simp only [hin, Bool.not_false]) (by simp [hiL]) (fun j hj => by simp only [getD_set_ne false (Ne.symm hj)])
        omega
      rw [← hvs] at hif
      obtain ⟨x, hx, hxi⟩ := List.mem_map.1 hif
      subst hxi
      obtain ⟨k, hk⟩ := List.mem_iff_getElem?.1 hx
      have hxa : x ∈ allp vs al gs := List.mem_append_left _ hx
      have hfk : fx[k]? = some x.1 := by rw [← hvs, List.getElem?_map, hk]; rfl
      have hT := tells_congr (E' := EL ops E0 vs al gs L) hok.sel (ht k x hk) (fun o' ho' t htl => by
        rw [ho] at ho'
        cases ho'
        have hfst := allp_fst vs al gs
        rw [hvs] at hfst
        by_cases hex : ∃ y ∈ allp vs al gs, dstOf ops y.1 = some t
        · obtain ⟨y, hy, hyd⟩ := hex
          have hyb : y.1 ∈ fx ++ al.map (·.i) := by rw [← hfst]; exact List.mem_map.2 ⟨y, hy, rfl⟩
          obtain ⟨hb, htk⟩ := hok.looks k x.1 o hfk ho t htl y.1 hyb hyd
          have hyv : y ∈ vs.take k := by
            rw [← hvs, ← List.map_take] at htk
            obtain ⟨z, hz, e⟩ := List.mem_map.1 htk
            have hza : z ∈ allp vs al gs := List.mem_append_left _ (List.mem_of_mem_take hz)
            have : z = y := hu gs z hza y hy t (by rw [e]; exact hyd) hyd
            exact this ▸ hz
          have hyl : L.getD y.1 false = true := by
            unfold bindsOn at hb
            obtain ⟨e, he, hbb⟩ := Array.any_eq_true'.1 hb
            simp only [Bool.and_eq_true, beq_iff_eq] at hbb
            rw [← hbb.2]
            exact hall e he hbb.1
          unfold EL
          rw [putAll_at E0 t _ y (List.mem_filter.2 ⟨hy, hyl⟩) hyd (fun z hz hzd => hu gs z (List.mem_filter.1 hz).1 y hy t hzd hyd)]
          rw [putAll_at E0 t _ y hyv hyd (fun z hz hzd => hu gs z (List.mem_append_left _ (List.mem_of_mem_take hz)) y hy t hzd hyd)]
        · unfold EL
          rw [putAll_not E0 t _ (fun z hz hzd => hex ⟨z, (List.mem_filter.1 hz).1, hzd⟩)]
          rw [putAll_not E0 t _ (fun z hz hzd => hex ⟨z, List.mem_append_left _ (List.mem_of_mem_take hz), hzd⟩)])
      obtain ⟨o', ho', hT⟩ := hT
      rw [ho] at ho'
      cases ho'
      have hEL : EL ops E0 vs al gs (L.setIfInBounds x.1 true) = (EL ops E0 vs al gs L).put o.dst x.2 := by
        have := put_filter (ops := ops) E0 (allp vs al gs) (allp vs al gs) L x.1 x.2 hxa (fun _ _ => Iff.rfl) (hu gs) (hu gs) hin hiL
        unfold EL
        rw [this]
        simp [dstOf, ho]
      have hmade : ∀ y ∈ al, (L.setIfInBounds x.1 true).getD y.i false = true → L.getD y.i false = true := by
        intro y hy hl
        have hne : y.i ≠ x.1 := by
          intro e
          have h3 := (List.nodup_append.1 hndb).2.2 x.1 (hvs ▸ hif) y.i (List.mem_map.2 ⟨y, hy, rfl⟩)
          exact h3 e.symm
        rw [hLj _ hne] at hl
        exact hl
      have hyl : yld n ops (EL ops E0 vs al gs L) o = true := by unfold yld; rw [hgd]
      have hY : Yields p ops o x.2 a := by
        rcases hT with ⟨hw, hstep⟩ | ⟨hw, hv⟩
        · refine .inl ⟨by rw [hI.sees.yld]; exact hw, ?_⟩
          have hone := hstep F β w hI.own hI.below
          rw [hI.sees.eval]
          revert hone
          rw [execOp, hop]
          simp only
          cases ev n (EL ops E0 vs al gs L) xq with
          | tuple ts =>
            simp only [Instr.extract]
            cases ts[cq]? with
            | some u =>
              intro hone
              simp at hone
              obtain ⟨_, ⟨hu1, _⟩, _⟩ := hone
              intro w2
              simp [hu1]
            | none => intro hone; simp [stuck] at hone
          | _ => intro hone; simp [Instr.extract, stuck] at hone
        · rw [hyl] at hw; cases hw
      refine wpAny_first (P := p) (md := .any) (Q := AQ n β Q) ho (fun j oj cs b hj => Region.noSelect_spec hok.sel j oj cs b hj) (fun c a' w' hp => by
        obtain ⟨E', H', hq', _⟩ := hp
        exact absurd hq' (hnp c E' H')) _ _ a w ?_ hready hY ?_
      · intro j oj hoj hji hjl hnw
        have hjlt := (Array.getElem?_eq_some_iff.1 hoj).1
        have hjl' : L.getD j false = false := by
          have hj' : j < L.size := by omega
          simpa [hj'] using hjl
        rcases List.mem_append.1 (hok.all j hjlt) with h | h
        · have := hlate j h hji
          rw [hjl'] at this
          cases this
        · rcases hok.far o ho j h oj hoj with hb | hb
          · unfold bindsOn at hb
            obtain ⟨e, he, hbb⟩ := Array.any_eq_true'.1 hb
            simp only [Bool.and_eq_true, beq_iff_eq] at hbb
            exact absurd hbb.2 (hnw e he hbb.1)
          · exact hb
      · exact ih _ _ w gs F (by simp [hs]) (hd.set hready) hta' hm' ⟨hEL ▸ hI.sees.put _ _, hI.own, hI.below, fun y hy hl => hI.made y hy (hmade y hy hl), fun y hy z hz hl hl' hne => hI.other y hy z hz (hmade y hy hl) (hmade z hz hl') hne⟩
    obtain ⟨j0, hj0b, hj0q, hj0n⟩ : ∃ j, j ∈ fx ++ al.map (·.i) ∧ j ≠ q ∧ L.getD j false = false := by
      refine Classical.byContradiction fun hc => hlate fun j hj hjq => ?_
      cases hq : L.getD j false with
      | true => rfl
      | false => exact absurd ⟨j, hj, hjq, hq⟩ hc
    refine ⟨fun h0 => absurd h0 (ready_someL hok hs hi0lt hi0n'), fun i hi => ?_⟩
    obtain ⟨h0, o, ho, hall⟩ := mem_ready.1 hi
    have hilt := (Array.getElem?_eq_some_iff.1 ho).1
    have hiL : i < L.size := by omega
    have hin : L.getD i false = false := by simpa [hiL] using h0
    have hib : i ∈ fx ++ al.map (·.i) := by
      rcases List.mem_append.1 (hok.all i hilt) with h | h
      · exact h
      · obtain ⟨k, hk⟩ := List.mem_iff_getElem?.1 h
        by_cases hk0 : k = 0
        · subst hk0
          have := tail_waits0 hok hd hk hi j0 hj0b hj0q
          rw [hj0n] at this
          cases this
        · have := tail_waitsL hok hd hk hk0 hi i0 (List.mem_append_left _ hi0b)
          rw [hi0n'] at this
          cases this
    have hnta : i ∉ ta := fun h => (List.nodup_append.1 hnd).2.2 i hib i h rfl
    have hta' : ∀ j ∈ ta, (L.setIfInBounds i true).getD j false = false := fun j hj => by
      rw [getD_set_ne false (fun (e : i = j) => hnta (by rw [e]; exact hj))]
      exact hta j hj
    have hm' : ((fx ++ al.map (·.i)).filter fun j => !((L.setIfInBounds i true).getD j false)).length = m := by
      have := filter_less (fx ++ al.map (·.i)) (fun j => !(L.getD j false)) (fun j => !((L.setIfInBounds i true).getD j false)) i hndb hib (by simp only [hin, Bool.not_false]) (by simp [hiL]) (fun j hj => by simp only [getD_set_ne false (Ne.symm hj)])
      omega
    have hLi : (L.setIfInBounds i true).getD i false = true := by simp [hiL]
    have hLj : ∀ j, j ≠ i → (L.setIfInBounds i true).getD j false = L.getD j false := fun j hj => getD_set_ne false (Ne.symm hj)
    have hu := allp_uniqL (vs := vs) hok hvs
    rcases List.mem_append.1 hib with hif | hia
    · -- it tells the same in whatever order
      rw [← hvs] at hif
      obtain ⟨x, hx, rfl⟩ := List.mem_map.1 hif
      obtain ⟨k, hk⟩ := List.mem_iff_getElem?.1 hx
      have hxa : x ∈ allp vs al gs := List.mem_append_left _ hx
      have hfk : fx[k]? = some x.1 := by rw [← hvs, List.getElem?_map, hk]; rfl
      have hT := tells_congr (E' := EL ops E0 vs al gs L) hok.sel (ht k x hk) (fun o' ho' t htl => by
        rw [ho] at ho'
        cases ho'
        have hfst := allp_fst vs al gs
        rw [hvs] at hfst
        by_cases hex : ∃ y ∈ allp vs al gs, dstOf ops y.1 = some t
        · obtain ⟨y, hy, hyd⟩ := hex
          have hyb : y.1 ∈ fx ++ al.map (·.i) := by rw [← hfst]; exact List.mem_map.2 ⟨y, hy, rfl⟩
          obtain ⟨hb, htk⟩ := hok.looks k x.1 o hfk ho t htl y.1 hyb hyd
          have hyv : y ∈ vs.take k := by
            rw [← hvs, ← List.map_take] at htk
            obtain ⟨z, hz, e⟩ := List.mem_map.1 htk
            have hza : z ∈ allp vs al gs := List.mem_append_left _ (List.mem_of_mem_take hz)
            have : z = y := hu gs z hza y hy t (by rw [e]; exact hyd) hyd
            exact this ▸ hz
          have hyl : L.getD y.1 false = true := by
            unfold bindsOn at hb
            obtain ⟨e, he, hbb⟩ := Array.any_eq_true'.1 hb
            simp only [Bool.and_eq_true, beq_iff_eq] at hbb
            rw [← hbb.2]
            exact hall e he hbb.1
          unfold EL
          rw [putAll_at E0 t _ y (List.mem_filter.2 ⟨hy, hyl⟩) hyd (fun z hz hzd => hu gs z (List.mem_filter.1 hz).1 y hy t hzd hyd)]
          rw [putAll_at E0 t _ y hyv hyd (fun z hz hzd => hu gs z (List.mem_append_left _ (List.mem_of_mem_take hz)) y hy t hzd hyd)]
        · unfold EL
          rw [putAll_not E0 t _ (fun z hz hzd => hex ⟨z, (List.mem_filter.1 hz).1, hzd⟩)]
          rw [putAll_not E0 t _ (fun z hz hzd => hex ⟨z, List.mem_append_left _ (List.mem_of_mem_take hz), hzd⟩)])
      obtain ⟨o', ho', hT⟩ := hT
      rw [ho] at ho'
      cases ho'
      have hEL : EL ops E0 vs al gs (L.setIfInBounds x.1 true) = (EL ops E0 vs al gs L).put o.dst x.2 := by
        have := put_filter (ops := ops) E0 (allp vs al gs) (allp vs al gs) L x.1 x.2 hxa (fun _ _ => Iff.rfl) (hu gs) (hu gs) hin hiL
        unfold EL
        rw [this]
        simp [dstOf, ho]
      have hmade : ∀ y ∈ al, (L.setIfInBounds x.1 true).getD y.i false = true → L.getD y.i false = true := by
        intro y hy hl
        have hne : y.i ≠ x.1 := by
          intro e
          have h3 := (List.nodup_append.1 hndb).2.2 x.1 (hvs ▸ hif) y.i (List.mem_map.2 ⟨y, hy, rfl⟩)
          exact h3 e.symm
        rw [hLj _ hne] at hl
        exact hl
      unfold wpOp
      simp only [ho]
      rw [hI.sees.yld]
      rcases hT with ⟨hw, hstep⟩ | ⟨hw, hv⟩
      · rw [hw, if_pos rfl]
        refine .inl (hstep.wpF hI.sees hI.own hI.below ?_)
        rintro v H' w' ⟨rfl, rfl⟩ hO' hB'
        exact ih _ _ w' gs F (by simp [hs]) (hd.set hi) hta' hm' ⟨hEL ▸ hI.sees.put _ _, hO', hB', fun y hy hl => hI.made y hy (hmade y hy hl), fun y hy z hz hl hl' hne => hI.other y hy z hz (hmade y hy hl) (hmade z hz hl') hne⟩
      · rw [hw, if_neg (by simp)]
        rw [hv] at hEL
        exact ih _ _ w gs F (by simp [hs]) (hd.set hi) hta' hm' ⟨hEL ▸ hI.sees.put _ _, hI.own, hI.below, fun y hy hl => hI.made y hy (hmade y hy hl), fun y hy z hz hl hl' hne => hI.other y hy z hz (hmade y hy hl) (hmade z hz hl') hne⟩
    · -- a box is made
      obtain ⟨x, hx, rfl⟩ := List.mem_map.1 hia
      obtain ⟨o', z, ho', hop, hgd, hz, hcs⟩ := hal x hx
      rw [ho] at ho'
      cases ho'
      have hnal : (al.map (·.i)).Nodup := (List.nodup_append.1 hndb).2.1
      have hsame : ∀ y ∈ al, y.i = x.i → y = x := by
        have : ∀ (l : List Al), (l.map (·.i)).Nodup → ∀ y ∈ l, ∀ z ∈ l, y.i = z.i → y = z := by
          intro l
          induction l with
          | nil => intro _ y hy; cases hy
          | cons u l ih =>
            intro hn y hy z hz e
            simp only [List.map_cons, List.nodup_cons] at hn
            rcases List.mem_cons.1 hy with hy | hy <;> rcases List.mem_cons.1 hz with hz | hz
            · rw [hy, hz]
            · rw [hy] at e; exact absurd (List.mem_map.2 ⟨z, hz, e.symm⟩) hn.1
            · rw [hz] at e; exact absurd (List.mem_map.2 ⟨y, hy, e⟩) hn.1
            · exact ih hn.2 y hy z hz e
        exact fun y hy e => this al hnal y hy x hx e
      let gs' : Nat → Nat := fun j => if j = x.i then w.heap.size else gs j
      have hgx : gs' x.i = w.heap.size := by simp [gs']
      have hgy : ∀ j, j ≠ x.i → gs' j = gs j := fun j hj => by simp [gs', hj]
      have hEL : EL ops E0 vs al gs' (L.setIfInBounds x.i true) = (EL ops E0 vs al gs L).put o.dst (ptr w.heap.size) := by
        have hxa : (x.i, ptr w.heap.size) ∈ allp vs al gs' := List.mem_append_right _ (List.mem_map.2 ⟨x, hx, by rw [hgx]⟩)
        have := put_filter (ops := ops) E0 (allp vs al gs) (allp vs al gs') L x.i (ptr w.heap.size) hxa (fun y hy => by
          simp only [allp, List.mem_append, List.mem_map]
          constructor
          · rintro (h | ⟨q, hq, rfl⟩)
            · exact .inl h
            · exact .inr ⟨q, hq, by rw [hgy q.i hy]⟩
          · rintro (h | ⟨q, hq, rfl⟩)
            · exact .inl h
            · exact .inr ⟨q, hq, by rw [hgy q.i hy]⟩) (hu gs) (hu gs') hin hiL
        unfold EL
        rw [this]
        simp [dstOf, ho]
      have hst : Step p (ev n (EL ops E0 vs al gs L)) o H0 (fun v H' => ∃ g, v = ptr g ∧ H' = ⟨g, x.cs, x.t, false⟩ :: H0) := st_alloc hop hz hcs (fun g => ⟨g, rfl, rfl⟩)
      have hrun : (execOp (ev n (EL ops E0 vs al gs L)) o).run p w = .ok (.value (.pointer (some ⟨w.heap.size, 0, none⟩))) (w.alloc (.cells x.cs.toArray x.t (0, 0))) := by
        rw [← hcs]
        rw [execOp, hop]
        cases hq : p.info? x.t with
        | none => simp [hq] at hz
        | some inf =>
          have hz' : inf.zero = some z := by simpa [hq] using hz
          simp [Instr.alloc, zeroValue, typeInfo, hq, hz', newVar, newRow, Sem.run_bind]
      unfold wpOp
      simp only [ho]
      have hwant : Region.wanted o (yielded ops a.tmps) = true := by simp [Region.wanted, hgd]
      rw [hwant, if_pos rfl]
      refine .inl ?_
      unfold Oper.wp
      rw [hI.sees.eval, hrun]
      have hO1 : Own β (H0 ++ (⟨w.heap.size, x.cs, x.t, false⟩ :: F)) (w.alloc (.cells x.cs.toArray x.t (0, 0))) := (hI.own.alloc x.cs x.t).perm (List.perm_middle.symm)
      have hmade : ∀ y ∈ al, (L.setIfInBounds x.i true).getD y.i false = true → y ≠ x → L.getD y.i false = true ∧ y.i ≠ x.i := by
        intro y hy hl hne
        have hyi : y.i ≠ x.i := fun e => hne (hsame y hy e)
        rw [hLj _ hyi] at hl
        exact ⟨hl, hyi⟩
      have hfresh : ∀ y ∈ al, L.getD y.i false = true → gs y.i < w.heap.size := fun y hy hl => hI.own.lt (List.mem_append_right _ (hI.made y hy hl))
      refine ih _ _ _ gs' (⟨w.heap.size, x.cs, x.t, false⟩ :: F) (by simp [hs]) (hd.set hi) hta' hm' ⟨hEL ▸ hI.sees.put _ _, hO1, hI.below.alloc _, ?_, ?_⟩
      · intro y hy hl
        by_cases hyx : y = x
        · subst hyx
          rw [hgx]
          exact List.mem_cons_self
        · obtain ⟨hl', hyi⟩ := hmade y hy hl hyx
          rw [hgy _ hyi]
          exact List.mem_cons_of_mem _ (hI.made y hy hl')
      · intro y hy u hu' hl hl' hne
        by_cases hyx : y = x
        · subst hyx
          have hux : u ≠ y := fun e => hne (by rw [e])
          obtain ⟨hl2, hui⟩ := hmade u hu' hl' hux
          rw [hgx, hgy _ hui]
          exact Ne.symm (Nat.ne_of_lt (hfresh u hu' hl2))
        · obtain ⟨hl1, hyi⟩ := hmade y hy hl hyx
          by_cases hux : u = x
          · subst hux
            rw [hgx, hgy _ hyi]
            exact Nat.ne_of_lt (hfresh y hy hl1)
          · obtain ⟨hl2, hui⟩ := hmade u hu' hl' hux
            rw [hgy _ hyi, hgy _ hui]
            exact hI.other y hy u hu' hl1 hl2 hne
theorem ac_drawL {id : Nat} (fx ta : List Nat) (al : List Al) (q : Nat) (hok : drawOkL ops fx (al.map (·.i)) ta q = true) (hqop : ∃ oq x c, ops[q]? = some oq ∧ oq.op = .extract x c ∧ oq.guard = none) (hnp : ∀ c E H, ¬ Q (.panic c) E H) (hm : p.follows .mixedOrders = true)
    (hal : ∀ x ∈ al, ∃ o z, ops[x.i]? = some o ∧ o.op = .alloc x.t ∧ o.guard = none ∧ (p.info? x.t).map (·.zero) = some (some z) ∧ z.cells = x.cs.toArray)
    (h : DWalk p n ops H0 fx E0 fun E => ∀ gs : Nat → Nat, AR p n ops Q (ta.map fun i => (ops[i]?).getD default) (putAll ops E (al.map fun x => (x.i, ptr (gs x.i)))) (al.map (fun x => (⟨gs x.i, x.cs, x.t, false⟩ : Box)) ++ H0)) :
    AC p n (.region id ops true) Q E0 H0 := by
  intro β w a hO hB hs
  have hok' := drawOkL_spec hok
  obtain ⟨vs, hvs, ht, hK⟩ := dwalk_vals _ _ h
  refine wp_region_any hm ?_
  have hlen := hok'.len
  have hnone : ∀ i, (Array.replicate ops.size false).getD i false = false := by
    intro i
    simp only [Array.getD_eq_getD_getElem?, Array.getElem?_replicate]
    split <;> rfl
  have hcount : ((fx ++ al.map (·.i)).filter fun i => !((Array.replicate ops.size false).getD i false)).length = (fx ++ al.map (·.i)).length := by
    rw [List.filter_eq_self.2 fun i _ => by rw [hnone]; rfl]
  have := body_phaseL (E0 := E0) (H0 := H0) (Q := Q) hok' hqop hnp hvs ht hal (fun gs => by have := hK gs; rw [← putAll_append] at this; exact this) (β := β) _ (Array.replicate ops.size false) a { w with drawn := w.drawn + 1 } (fun _ => 0) [] (by simp) (fun i o ho hl => by rw [hnone] at hl; cases hl) (fun i _ => hnone i) hcount
    ⟨by
      have : EL ops E0 vs al (fun _ => 0) (Array.replicate ops.size false) = E0 := by
        unfold EL
        rw [List.filter_eq_nil_iff.2 fun x _ => by rw [hnone]; simp]
        rfl
      rw [this]; exact hs, by rw [List.append_nil]; exact hO.drew, hB.drew, fun x _ hl => (by rw [hnone] at hl; cases hl), fun x _ y _ hl => (by rw [hnone] at hl; cases hl)⟩
  have e : (fx ++ al.map (·.i)).length + ta.length = ops.size := by rw [← hlen, ← List.length_append]
  rw [e] at this
  exact this
end
theorem ac_drawL1 {H : List Box} {E : Env} {Q : Exit → Env → List Box → Prop} {id : Nat} (fx ta : List Nat) (q i d t : Nat) (cs : List Value) (tl : List Oper) (hok : drawOkL ops fx [i] ta q = true) (hqop : ∃ oq x c, ops[q]? = some oq ∧ oq.op = .extract x c ∧ oq.guard = none) (hnp : ∀ c E H, ¬ Q (.panic c) E H)
    (hm : p.follows .mixedOrders = true) (htl : (ta.map fun i => (ops[i]?).getD default) = tl) (hz : Zero p t cs) (hi : ∃ o, ops[i]? = some o ∧ o.op = .alloc t ∧ o.guard = none ∧ o.dst = some d)
    (h : DWalk p n ops H fx E fun E => ∀ g, AR p n ops Q tl (E.put (some d) (.pointer (some ⟨g, 0, none⟩))) (⟨g, cs, t, false⟩ :: H)) : AC p n (.region id ops true) Q E H := by
  subst htl
  obtain ⟨o, ho, h1, h2, h3⟩ := hi
  obtain ⟨z, hz1, hz2⟩ := hz.out
  refine ac_drawL fx ta [⟨i, t, cs⟩] q hok hqop hnp hm (fun x hx => by obtain rfl := List.mem_singleton.1 hx; exact ⟨o, z, ho, h1, h2, hz1, hz2⟩) ?_
  refine dwalk_mono ?_ _ _ h
  intro E hE gs
  have := hE (gs i)
  simpa [putAll, dstOf, ho, h3, ptr] using this
theorem np_then {next : Env → List Box → Prop} {Q : Exit → Env → List Box → Prop} (h : ∀ c E H, ¬ Q (.panic c) E H) : ∀ c E H, ¬ AThen next Q (.panic c) E H := h
theorem np_block {id : Nat} {Q : Exit → Env → List Box → Prop} (h : ∀ c E H, ¬ Q (.panic c) E H) : ∀ c E H, ¬ ABlock id Q (.panic c) E H := h
theorem np_fin {fn : Func} {v : Value} : ∀ c E H, ¬ Fin p fn n v (.panic c) E H := fun c E H h => by
  rcases h.1 with h | h <;> cases h
end
end Go.Proofs.YtalffjplbhelcaaGreatDoor
namespace Go.Proofs.YtalffjplbhelcaaGreatDoor
end Go.Proofs.YtalffjplbhelcaaGreatDoor
