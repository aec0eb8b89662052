import Derived.Test.YthngkopcadlciaaMSagMirrors5
import Derived.Test.YthngkopcadlciaaMSagMirrors4
import Derived.Test.YthngkopcadlciaaMSagMirrors1
import Derived.RangeFuncCalls
import Derived.RangeFuncBox
import Derived.RangeFuncWrites
import Derived.OwnWalkIn
import Derived.TacticsIn
import Derived.OrdersIn
import Derived.RangeFuncLeaves
import Derived.RangeFuncNested
import Derived.Shelf.Abstract
import Derived.TacticsInMore
import Derived.LoopNIn
import Derived.LoopIn
import Derived.Test.YthngkopcadlciaaMSagMirrors3
set_option linter.unusedVariables false
set_option linter.unusedSimpArgs false
namespace Go.Proofs.Ythngkopcadlciaa
open Go.RowKit
section
variable {p : Program} {n : Nat} {ops : Array Oper} {Q : Exit → Env → List Box → Prop}
def lookOk (ops : Array Oper) (B : List Nat) (o : Oper) : Bool :=
  (Oper.looksAt ops o).all fun t => B.contains t || ((List.range ops.size).any fun k => bindsOn o k && (match dstOf ops k with | some d => Nat.beq d t | none => false))
def stageOk (ops : Array Oper) (Ms B S todo nxt dn bl : List Nat) : Bool :=
  Region.noSelect ops
  && ((List.range ops.size).all fun i => match ops[i]? with | some o => (o.after.all fun e => !(Region.binds .any e) || Nat.blt e.on i) | none => false)
  && (todo.all fun i => !(Ms.contains i) && (match ops[i]? with | some o => lookOk ops B o | none => false))
  && (nxt.all fun i => Ms.contains i && !(S.contains i) && (match ops[i]? with | some o => lookOk ops B o | none => false))
  && (bl.all fun i => (List.range ops.size).any fun k => before_ ops i k && ((Ms.contains k && !(S.contains k)) || (bl.contains k && Nat.blt k i)))
  && (S.all fun i => Ms.contains i)
  && ((List.range ops.size).all fun i => S.contains i || dn.contains i || todo.contains i || nxt.contains i || bl.contains i)
def dnOk (ops : Array Oper) (m : Nat) (dn dn' : List Nat) : Bool :=
  dn'.all fun i => dn.contains i || (List.range ops.size).any fun k => before_ ops k i && (Nat.beq k m || (dn'.contains k && Nat.blt i k))
def SameAt (E F : Env) : List Nat → Prop
  | [] => True
  | t :: ts => E t = F t ∧ SameAt E F ts
theorem sameAt_mem {E F : Env} : ∀ {l : List Nat}, SameAt E F l → ∀ t ∈ l, E t = F t
  | [], _, _, h => by cases h
  | s :: l, h, t, ht => by
    rcases List.mem_cons.1 ht with rfl | ht
    · exact h.1
    · exact sameAt_mem h.2 t ht
theorem sameAt_of {E F : Env} : ∀ {l : List Nat}, (∀ t ∈ l, E t = F t) → SameAt E F l
  | [], _ => trivial
  | s :: l, h => ⟨h s List.mem_cons_self, sameAt_of fun t ht => h t (List.mem_cons_of_mem _ ht)⟩
def undone (ops : Array Oper) (L : Array Bool) : Nat := (List.range ops.size).countP fun i => !(L.getD i false)
theorem countP_one (f g : Nat → Bool) (i : Nat) : ∀ l : List Nat, l.Nodup → i ∈ l → (∀ j, j ≠ i → f j = g j) → f i = true → g i = false → l.countP f = l.countP g + 1
  | [], _, h, _, _, _ => by cases h
  | x :: l, hn, h, he, h1, h2 => by
    simp only [List.nodup_cons] at hn
    rcases List.mem_cons.1 h with rfl | h
    · rw [List.countP_cons_of_pos h1, List.countP_cons_of_neg (by rw [h2]; exact Bool.false_ne_true)]
      have : l.countP f = l.countP g := List.countP_congr fun j hj => by rw [he j (fun e => hn.1 (e ▸ hj))]
      omega
    · have hx : x ≠ i := fun e => hn.1 (e ▸ h)
      have ih := countP_one f g i l hn.2 h he h1 h2
      rw [List.countP_cons, List.countP_cons, he x hx, ih]
      omega
theorem undone_set {L : Array Bool} {i : Nat} (hs : L.size = ops.size) (hi : i < ops.size) (hl : L.getD i false = false) : undone ops L = undone ops (L.setIfInBounds i true) + 1 := by
  refine countP_one _ _ i _ List.nodup_range (List.mem_range.2 hi) (fun j hj => ?_) (by rw [hl]; rfl) ?_
  · rw [getD_set_ne false (Ne.symm hj)]
  · have : (L.setIfInBounds i true).getD i false = true := by simp [hs, hi]
    rw [this]; rfl
theorem look_congr {E F : Env} {o : Oper} {i : Nat} (ho : ops[i]? = some o) (hsel : Region.noSelect ops = true) (hl : ∀ t ∈ Oper.looksAt ops o, E t = F t) : execOp (ev n E) o = execOp (ev n F) o ∧ yld n ops E o = yld n ops F o := by
  have he : ∀ t, t ∈ Oper.looksAt ops o → ev n E (.tmp t) = ev n F (.tmp t) := fun t ht => by simp only [ev, hl t ht]
  refine ⟨execOp_congr o (fun cs b => Region.noSelect_spec hsel i o cs b ho) (fun x hx => ?_), ?_⟩
  · cases x with
    | tmp t => exact he t (List.mem_append_left _ (List.mem_filterMap.2 ⟨.tmp t, by simpa using hx, rfl⟩))
    | _ => rfl
  · unfold yld
    cases hg : o.guard with
    | none => rfl
    | some gw =>
      obtain ⟨j, want⟩ := gw
      cases hd : (ops[j]?).bind (·.dst) with
      | none => simp [hd]
      | some t =>
        simp only [hd]
        rw [he t (by simp [Oper.looksAt, hg, hd])]
def Stage (p : Program) (n : Nat) (ops : Array Oper) (Q : Exit → Env → List Box → Prop) (Ms B S dn : List Nat) (F : Env) (H : List Box) : Prop :=
  ∀ (L : Array Bool) (E : Env), L.size = ops.size → Down ops L → (∀ m ∈ Ms, L.getD m false = S.contains m) → (∀ i ∈ dn, L.getD i false = true) → (∀ t ∈ B, E t = F t) → (∀ i, L.getD i false = true → ∀ d, dstOf ops i = some d → E d = F d) →
    ∀ β w a, Own β H w → Keeps β w → Sees n E a → wpAny p .any ops (AQ n β Q) (undone ops L) L a w
def TellsF (p : Program) (n : Nat) (ops : Array Oper) (H : List Box) (F : Env) (i : Nat) : Prop := ∃ v, Tells p n ops H F i v ∧ ∀ d, dstOf ops i = some d → v = F d
def slotsOf (ops : Array Oper) (B : List Nat) (l : List Nat) : List Nat := B ++ l.filterMap (dstOf ops)
theorem stage_rule {Ms B S dn : List Nat} {F : Env} {H : List Box} (todo nxt bl : List Nat) (hok : stageOk ops Ms B S todo nxt dn bl = true)
    (hq : Each (TellsF p n ops H F) todo)
    (hm : Each (fun i => OpR p n ops F H i fun F1 H' => ∃ F' dn', SameAt F' F1 (slotsOf ops B (dn ++ todo ++ S ++ [i])) ∧ dnOk ops i dn dn' = true ∧ Stage p n ops Q Ms B (i :: S) dn' F' H') nxt)
    (hfin : nxt = [] → ∀ E, (∀ t ∈ slotsOf ops B (dn ++ todo ++ S), E t = F t) → Q .normal E H) : Stage p n ops Q Ms B S dn F H := by
  simp only [stageOk, Bool.and_eq_true, List.all_eq_true, List.mem_range] at hok
  obtain ⟨⟨⟨⟨⟨⟨hsel, hback⟩, htodo⟩, hnxt⟩, hbl⟩, hSM⟩, hcov⟩ := hok
  have back : ∀ i o, ops[i]? = some o → ∀ e ∈ o.after, Region.binds .any e = true → e.on < i := by
    intro i o ho e he hb
    have := hback i (Array.getElem?_eq_some_iff.1 ho).1
    rw [ho] at this
    have h := Array.all_eq_true_iff_forall_mem.1 this e he
    simpa [hb] using h
  suffices key : ∀ (fuel : Nat) (L : Array Bool) (E : Env), undone ops L = fuel → L.size = ops.size → Down ops L → (∀ m ∈ Ms, L.getD m false = S.contains m) → (∀ i ∈ dn, L.getD i false = true) → (∀ t ∈ B, E t = F t) → (∀ i, L.getD i false = true → ∀ d, dstOf ops i = some d → E d = F d) →
      ∀ β w a, Own β H w → Keeps β w → Sees n E a → wpAny p .any ops (AQ n β Q) fuel L a w by
    intro L E h1 h2 h3 h4 h5 h6
    exact key _ L E rfl h1 h2 h3 h4 h5 h6
  intro fuel
  induction fuel with
  | zero =>
    intro L E hu hs hd hM hdn hB hE β w a hO hK hse
    have all : ∀ i, i < ops.size → L.getD i false = true := by
      intro i hi
      have := (List.countP_eq_zero.1 hu) i (List.mem_range.2 hi)
      simpa using this
    have hr : Region.ready .any ops L = [] := by
      apply List.eq_nil_iff_forall_not_mem.2
      intro i hi
      obtain ⟨h0, o, ho, _⟩ := mem_ready.1 hi
      have hlt := (Array.getElem?_eq_some_iff.1 ho).1
      have := all i hlt
      simp only [Array.getD_eq_getD_getElem?] at this h0
      cases hq : L[i]? with
      | none => simp [hq] at this
      | some b => simp [hq] at this h0; rw [this] at h0; cases h0
    have hn : nxt = [] := by
      cases hx : nxt with
      | nil => rfl
      | cons m ms =>
        have h1 := hnxt m (by rw [hx]; exact List.mem_cons_self)
        simp only [Bool.and_eq_true, Bool.not_eq_true'] at h1
        have h2 := hM m (by simpa using h1.1.1)
        rw [h1.1.2] at h2
        cases ho : ops[m]? with
        | none => simp [ho] at h1
        | some o =>
          have := all m (Array.getElem?_eq_some_iff.1 ho).1
          rw [this] at h2
          cases h2
    refine ⟨hr, E, H, hfin hn E (fun t ht => ?_), hse, hO, hK⟩
    rcases List.mem_append.1 ht with ht | ht
    · exact hB t ht
    · obtain ⟨i, hi, hd⟩ := List.mem_filterMap.1 ht
      refine hE i ?_ t hd
      unfold dstOf at hd
      cases ho : ops[i]? with
      | none => simp [ho] at hd
      | some o => exact all i (Array.getElem?_eq_some_iff.1 ho).1
  | succ fuel ih =>
    intro L E hu hs hd hM hdn hB hE β w a hO hK hse
    have notbl : ∀ m i, i < m → i ∈ bl → L.getD i false = false := by
      intro m
      induction m with
      | zero => intro i h; omega
      | succ m ihm =>
        intro i him hi
        obtain ⟨k, hk, hb⟩ := List.any_eq_true.1 (hbl i hi)
        simp only [Bool.and_eq_true, Bool.or_eq_true, Bool.not_eq_true', Nat.blt_eq] at hb
        obtain ⟨o, ho, e, he, hbd, hon⟩ := before_spec hb.1
        have hkf : L.getD k false = false := by
          rcases hb.2 with h | h
          · rw [hM k (by simpa using h.1), h.2]
          · exact ihm k (by omega) (by simpa using h.1)
        cases hl : L.getD i false with
        | false => rfl
        | true =>
          have := hd i o ho hl e he hbd
          rw [hon, hkf] at this
          cases this
    refine ⟨fun hr => ?_, fun i hi => ?_⟩
    · -- something has not come up: something may
      exfalso
      have hex : ∃ i, i < ops.size ∧ L.getD i false = false := by
        refine Classical.byContradiction fun hc => ?_
        have : undone ops L = 0 := List.countP_eq_zero.2 fun i hi => by
          have hi' := List.mem_range.1 hi
          cases hl : L.getD i false with
          | true => simp
          | false => exact absurd ⟨i, hi', hl⟩ hc
        omega
      have rs : ∀ m i, i < m → i < ops.size → L.getD i false = false → ∃ j, j ∈ Region.ready .any ops L := by
        intro m
        induction m with
        | zero => intro i h; omega
        | succ m ihm =>
          intro i him hi hl
          obtain ⟨o, ho⟩ : ∃ o, ops[i]? = some o := ⟨_, Array.getElem?_eq_getElem hi⟩
          by_cases hall : ∀ e ∈ o.after, Region.binds .any e = true → L.getD e.on false = true
          · refine ⟨i, mem_ready.2 ⟨?_, o, ho, hall⟩⟩
            have hi' : i < L.size := by omega
            simpa [hi'] using hl
          · obtain ⟨e, he, hb, hne⟩ : ∃ e, e ∈ o.after ∧ Region.binds .any e = true ∧ ¬ L.getD e.on false = true := by
              refine Classical.byContradiction fun hc => hall fun e he hb => ?_
              exact Classical.byContradiction fun hn => hc ⟨e, he, hb, hn⟩
            have hlt := back i o ho e he hb
            exact ihm e.on (by omega) (by omega) (by simpa using hne)
      obtain ⟨i, hi, hl⟩ := hex
      obtain ⟨j, hj⟩ := rs (i + 1) i (by omega) hi hl
      rw [hr] at hj
      cases hj
    · obtain ⟨h0, o, ho, hall⟩ := mem_ready.1 hi
      have hlt := (Array.getElem?_eq_some_iff.1 ho).1
      have hl : L.getD i false = false := by
        have hi' : i < L.size := by omega
        simpa [hi'] using h0
      have hcnt := undone_set hs hlt hl
      have hs' : (L.setIfInBounds i true).size = ops.size := by simp [hs]
      have hd' := hd.set hi
      have hLi : (L.setIfInBounds i true).getD i false = true := by simp [hs, hlt]
      have hLj : ∀ j, j ≠ i → (L.setIfInBounds i true).getD j false = L.getD j false := fun j hj => getD_set_ne false (Ne.symm hj)
      have looks : lookOk ops B o = true → ∀ t ∈ Oper.looksAt ops o, E t = F t := by
        intro hlk t ht
        have := List.all_eq_true.1 hlk t ht
        rw [Bool.or_eq_true, List.any_eq_true] at this
        rcases this with h | ⟨k, hk, h⟩
        · exact hB t (by simpa using h)
        · simp only [Bool.and_eq_true] at h
          obtain ⟨hbo, hdt⟩ := h
          unfold bindsOn at hbo
          obtain ⟨e, he, hbb⟩ := Array.any_eq_true'.1 hbo
          simp only [Bool.and_eq_true, beq_iff_eq] at hbb
          have hlk := hall e he hbb.1
          rw [hbb.2] at hlk
          cases hdk : dstOf ops k with
          | none => simp [hdk] at hdt
          | some d =>
            simp only [hdk] at hdt
            have : d = t := Nat.eq_of_beq_eq_true hdt
            rw [← this]
            exact hE k hlk d hdk
      have hc := hcov i hlt
      simp only [Bool.or_eq_true] at hc
      have notS : S.contains i = false := by
        cases hS : S.contains i with
        | false => rfl
        | true =>
          have hm := hSM i (by simpa using hS)
          rw [hM i (by simpa using hm), hS] at hl
          cases hl
      have hfu : undone ops (L.setIfInBounds i true) = fuel := by omega
      unfold wpOp
      simp only [ho]
      rw [hse.yld]
      have htn : i ∈ todo ∨ i ∈ nxt := by
        rcases hc with (((h | h) | h) | h) | h
        · rw [notS] at h; cases h
        · have := hdn i (by simpa using h)
          rw [hl] at this; cases this
        · exact .inl (by simpa using h)
        · exact .inr (by simpa using h)
        · exfalso
          have hib : i ∈ bl := by simpa using h
          obtain ⟨k, hk, hb⟩ := List.any_eq_true.1 (hbl i hib)
          simp only [Bool.and_eq_true, Bool.or_eq_true, Bool.not_eq_true', Nat.blt_eq] at hb
          obtain ⟨o', ho', e, he, hbd, hon⟩ := before_spec hb.1
          rw [ho] at ho'
          cases ho'
          have h1 := hall e he hbd
          rw [hon] at h1
          rcases hb.2 with h | h
          · rw [hM k (by simpa using h.1), h.2] at h1; cases h1
          · rw [notbl (k + 1) k (by omega) (by simpa using h.1)] at h1; cases h1
      rcases htn with hti | hni
      · -- one that tells the same
        have ht := htodo i hti
        rw [ho] at ht
        simp only [Bool.and_eq_true, Bool.not_eq_true'] at ht
        have hl' := looks ht.2
        obtain ⟨v, hT, hv⟩ := each_mem hq i hti
        obtain ⟨o', ho', hT⟩ := tells_congr (E' := E) hsel hT (fun o' ho' t htl => by rw [ho] at ho'; cases ho'; exact hl' t htl)
        rw [ho] at ho'
        cases ho'
        have hdst : dstOf ops i = o.dst := by simp [dstOf, ho]
        have go : ∀ w' a' , Own β H w' → Keeps β w' → Sees n (E.put o.dst v) a' → wpAny p .any ops (AQ n β Q) fuel (L.setIfInBounds i true) a' w' := by
          intro w' a' hO' hK' hs2
          refine ih _ (E.put o.dst v) hfu hs' hd' (fun m hm => ?_) (fun j hj => getD_set_true (hdn j hj)) (fun t htB => ?_) (fun j hj d hdj => ?_) β w' a' hO' hK' hs2
          · have hne : m ≠ i := by
              intro e
              have := ht.1
              rw [← e] at this
              simp [hm] at this
            rw [hLj m hne]
            exact hM m hm
          · rw [put_apply]
            split
            · rename_i h; exact hv t (by rw [hdst]; exact h)
            · exact hB t htB
          · rw [put_apply]
            split
            · rename_i h; exact hv d (by rw [hdst]; exact h)
            · rename_i h
              by_cases hji : j = i
              · subst hji; rw [hdst] at hdj; exact absurd hdj h
              · rw [hLj j hji] at hj
                exact hE j hj d hdj
        rcases hT with ⟨hw, hstep⟩ | ⟨hw, hvu⟩
        · rw [hw, if_pos rfl]
          refine .inl (hstep.wp hse hO hK ?_)
          rintro v' H' w' ⟨rfl, rfl⟩ hO' hK'
          exact go w' _ hO' hK' (hse.put _ _)
        · rw [hw, if_neg (by simp)]
          subst hvu
          exact go w _ hO hK (hse.put _ _)
      · -- one that makes or writes
        have ht := hnxt i hni
        rw [ho] at ht
        simp only [Bool.and_eq_true, Bool.not_eq_true'] at ht
        have hl' := looks ht.2
        obtain ⟨o', ho', hT⟩ := each_mem hm i hni
        rw [ho] at ho'
        cases ho'
        obtain ⟨hx, hy⟩ := look_congr (n := n) ho hsel hl'
        have hdst : dstOf ops i = o.dst := by simp [dstOf, ho]
        have go : ∀ v w' a' H' F' dn', SameAt F' (F.put o.dst v) (slotsOf ops B (dn ++ todo ++ S ++ [i])) → dnOk ops i dn dn' = true → Stage p n ops Q Ms B (i :: S) dn' F' H' → Own β H' w' → Keeps β w' → Sees n (E.put o.dst v) a' → wpAny p .any ops (AQ n β Q) fuel (L.setIfInBounds i true) a' w' := by
          intro v w' a' H' F' dn' hsame hdn' hst hO' hK' hs2
          have hin : ∀ j, (L.setIfInBounds i true).getD j false = true → j ∈ dn ++ todo ++ S ++ [i] := by
            intro j hj
            by_cases hji : j = i
            · rw [hji]; simp
            · rw [hLj j hji] at hj
              have hjl : j < ops.size := by
                have : j < L.size := by
                  refine Nat.lt_of_not_le fun hle => ?_
                  simp [Array.getElem?_eq_none hle] at hj
                omega
              have hc2 := hcov j hjl
              simp only [Bool.or_eq_true] at hc2
              rcases hc2 with (((h | h) | h) | h) | h
              · have : j ∈ S := by simpa using h
                simp [this]
              · have : j ∈ dn := by simpa using h
                simp [this]
              · have : j ∈ todo := by simpa using h
                simp [this]
              · have h1 := hnxt j (by simpa using h)
                simp only [Bool.and_eq_true, Bool.not_eq_true'] at h1
                rw [hM j (by simpa using h1.1.1), h1.1.2] at hj
                cases hj
              · rw [notbl (j + 1) j (by omega) (by simpa using h)] at hj
                cases hj
          have hsm := sameAt_mem hsame
          have := hst (L.setIfInBounds i true) (E.put o.dst v) hs' hd' (fun m hm => ?_) ?_ (fun t htB => ?_) (fun j hj d hdj => ?_) β w' a' hO' hK' hs2
          · rw [hfu] at this; exact this
          · by_cases hmi : m = i
            · rw [hmi, hLi]; simp
            · rw [hLj m hmi, hM m hm]
              simp [hmi]
          · -- what is sure to have come up
            simp only [dnOk, List.all_eq_true] at hdn'
            have kd : ∀ q j, ops.size - j ≤ q → j ∈ dn' → (L.setIfInBounds i true).getD j false = true := by
              intro q
              induction q with
              | zero =>
                intro j hq hj
                have h := hdn' j hj
                rw [Bool.or_eq_true, List.any_eq_true] at h
                rcases h with h | ⟨k, hk, h⟩
                · exact getD_set_true (hdn j (by simpa using h))
                · simp only [Bool.and_eq_true] at h
                  obtain ⟨o2, ho2, e, he, hbd, hon⟩ := before_spec h.1
                  have h1 := back k o2 ho2 e he hbd
                  have h2 := (Array.getElem?_eq_some_iff.1 ho2).1
                  omega
              | succ q ihq =>
                intro j hq hj
                have h := hdn' j hj
                rw [Bool.or_eq_true, List.any_eq_true] at h
                rcases h with h | ⟨k, hk, h⟩
                · exact getD_set_true (hdn j (by simpa using h))
                · simp only [Bool.and_eq_true, Bool.or_eq_true, Nat.blt_eq] at h
                  obtain ⟨hbf, h⟩ := h
                  obtain ⟨o2, ho2, e, he, hbd, hon⟩ := before_spec hbf
                  have h1 := back k o2 ho2 e he hbd
                  have hkt : (L.setIfInBounds i true).getD k false = true := by
                    rcases h with h | h
                    · rw [Nat.eq_of_beq_eq_true h]; exact hLi
                    · exact ihq k (by omega) (by simpa using h.1)
                  have := hd' k o2 ho2 hkt e he hbd
                  rw [hon] at this
                  exact this
            exact fun j hj => kd _ j (Nat.le_refl _) hj
          · rw [hsm t (List.mem_append_left _ htB), put_apply, put_apply]
            split
            · rfl
            · exact hB t htB
          · have hmem : d ∈ slotsOf ops B (dn ++ todo ++ S ++ [i]) := List.mem_append_right _ (List.mem_filterMap.2 ⟨j, hin j hj, hdj⟩)
            rw [hsm d hmem, put_apply, put_apply]
            split
            · rfl
            · rename_i h
              by_cases hji : j = i
              · subst hji; rw [hdst] at hdj; exact absurd hdj h
              · rw [hLj j hji] at hj
                exact hE j hj d hdj
        rw [hy]
        rcases hT with ⟨hw, hstep⟩ | ⟨hw, hk⟩
        · rw [hw, if_pos rfl]
          have hstep' : Step p (ev n E) o H fun v H' => ∃ F' dn', SameAt F' (F.put o.dst v) (slotsOf ops B (dn ++ todo ++ S ++ [i])) ∧ dnOk ops i dn dn' = true ∧ Stage p n ops Q Ms B (i :: S) dn' F' H' := by
            unfold Step at hstep ⊢
            rw [hx]
            exact hstep
          refine .inl (hstep'.wp hse hO hK ?_)
          rintro v H' w' ⟨F', dn', h1, h2, h3⟩ hO' hK'
          exact go v w' _ H' F' dn' h1 h2 h3 hO' hK' (hse.put _ _)
        · rw [hw, if_neg (by simp)]
          obtain ⟨F', dn', h1, h2, h3⟩ := hk
          exact go undef w _ H F' dn' h1 h2 h3 hO hK (hse.put _ _)
def sameSet (Ms S S' : List Nat) : Bool := Ms.all fun m => S.contains m == S'.contains m
theorem Stage.other {Ms B S S' dn : List Nat} {F : Env} {H H' : List Box} (h : Stage p n ops Q Ms B S dn F H) (hs : sameSet Ms S S' = true) (hp : H.Perm H') : Stage p n ops Q Ms B S' dn F H' := by
  intro L E h1 h2 h3 h4 h5 h6 β w a hO hB hs2
  refine h L E h1 h2 (fun m hm => ?_) h4 h5 h6 β w a (hO.perm hp.symm) hB hs2
  have := List.all_eq_true.1 hs m hm
  rw [h3 m hm]
  exact (by simpa using this : S.contains m = S'.contains m).symm
def StageRule (p : Program) (n : Nat) (ops : Array Oper) (Ms B : List Nat) (Sg : List Nat → List Nat → Env → List Box → Prop) (Dn : Env → List Box → Prop) : Prop :=
  ∀ (S dn : List Nat) (F : Env) (H : List Box) (todo nxt bl W : List Nat), stageOk ops Ms B S todo nxt dn bl = true → slotsOf ops B (dn ++ todo ++ S) = W → Each (TellsF p n ops H F) todo →
    Each (fun i => OpR p n ops F H i fun F1 H' => ∃ F' dn' S' H2, Sg S' dn' F' H2 ∧ List.Perm H2 H' ∧ sameSet Ms S' (i :: S) = true ∧ ∃ W, slotsOf ops B (dn ++ todo ++ S ++ [i]) = W ∧ SameAt F' F1 W ∧ dnOk ops i dn dn' = true) nxt →
    (nxt.isEmpty = true → ∀ E, SameAt E F W → Dn E H) → Sg S dn F H
theorem each_mono {P P' : Nat → Prop} (h : ∀ i, P i → P' i) : ∀ {l : List Nat}, Each P l → Each P' l
  | [], _ => trivial
  | i :: l, ⟨h1, h2⟩ => ⟨h i h1, each_mono h h2⟩
theorem ac_stage {id : Nat} {E : Env} {H : List Box} (hm : p.follows .mixedOrders = true) (Ms B : List Nat) (F : Env)
    (h : ∀ Sg Dn, StageRule p n ops Ms B Sg Dn → (∀ E H, Q .normal E H → Dn E H) → Sg [] [] F H) (hF : SameAt F E B) : AC p n (.region id ops true) Q E H := by
  have h := h (Stage p n ops Q Ms B) (fun E H => Q .normal E H) (by
    intro S dn F H todo nxt bl W hok hW hq hm hfin
    refine stage_rule todo nxt bl hok hq (each_mono (fun i hi => ?_) hm) (fun hn E hE => hfin (by rw [hn]; rfl) E (sameAt_of (by rw [← hW]; exact hE)))
    obtain ⟨o, ho, hi⟩ := hi
    refine ⟨o, ho, ?_⟩
    rcases hi with ⟨hw, hst⟩ | ⟨hw, hk⟩
    · exact .inl ⟨hw, hst.mono fun v H' ⟨F', dn', S', H2, h1, hp, hss, W', h2, h3, h4⟩ => ⟨F', dn', by rw [h2]; exact h3, h4, h1.other hss hp⟩⟩
    · obtain ⟨F', dn', S', H2, h1, hp, hss, W', h2, h3, h4⟩ := hk
      exact .inr ⟨hw, F', dn', by rw [h2]; exact h3, h4, h1.other hss hp⟩) (fun E H h => h)
  intro β w a hO hB hs
  refine wp_region_any hm ?_
  have hnone : ∀ i, (Array.replicate ops.size false).getD i false = false := by
    intro i
    simp only [Array.getD_eq_getD_getElem?, Array.getElem?_replicate]
    split <;> rfl
  have := h (Array.replicate ops.size false) E (by simp) (fun i o ho hl => by rw [hnone] at hl; cases hl) (fun m hm => by rw [hnone]; rfl) (fun i hi => by cases hi) (fun t ht => (sameAt_mem hF t ht).symm) (fun i hi => by rw [hnone] at hi; cases hi) β { w with drawn := w.drawn + 1 } a hO.drew hB.drew hs
  have hu : undone ops (Array.replicate ops.size false) = ops.size := by
    unfold undone
    rw [List.countP_eq_length.2 (fun i _ => by rw [hnone]; rfl)]
    simp
  rw [hu] at this
  exact this
theorem tf_op {H : List Box} {F : Env} {i d : Nat} {o : Oper} (v : Value) (ho : ops[i]? = some o) (hg : o.guard = none) (hd : o.dst = some d) (hs : Step p (ev n F) o H fun v' H' => v' = v ∧ H' = H) (hF : v = F d) : TellsF p n ops H F i :=
  ⟨v, ⟨o, ho, .inl ⟨by unfold yld; rw [hg], hs⟩⟩, fun d' hd' => by simp only [dstOf, ho, Option.bind_some, hd, Option.some.injEq] at hd'; rw [← hd']; exact hF⟩
theorem ac_env {id : Nat} {E : Env} {H : List Box} (h : ∀ E1, E1 = E → AC p n (.region id ops true) Q E1 H) : AC p n (.region id ops true) Q E H := h E rfl
end
end Go.Proofs.Ythngkopcadlciaa
namespace Go.Proofs.Ythngkopcadlciaa
open Go.RowKit
attribute [local irreducible] AC AR DWalk
end Go.Proofs.Ythngkopcadlciaa
namespace Go.Proofs.Ythngkopcadlciaa
open Go.RowKit
attribute [local irreducible] AC AR DWalk
end Go.Proofs.Ythngkopcadlciaa
namespace Go.Proofs.Ythngkopcadlciaa
def flat (l : List Iv) : List Value := l.flatMap fun a => [.int .i64 a.lo, .int .i64 a.hi, .bool a.no]
theorem flat_length (l : List Iv) : (flat l).length = 3 * l.length := by
  induction l with
  | nil => rfl
  | cons a l ih => simp only [flat, List.flatMap_cons, List.length_append, List.length_cons, List.length_nil] at ih ⊢; omega
theorem flat_append (a b : List Iv) : flat (a ++ b) = flat a ++ flat b := by simp [flat]
def cel (a : Iv) : List Value := [.int .i64 a.lo, .int .i64 a.hi, .bool a.no]
end Go.Proofs.Ythngkopcadlciaa
namespace Go.Proofs.Ythngkopcadlciaa
open Go.RowKit
section
variable {p : Program} {ops : Array Oper} {Q : Exit → Act → World → Prop}
def noDefer (ops : Array Oper) : Bool := ops.all fun o => match o.op with | .defer _ => false | _ => true
theorem noDefer_spec (h : noDefer ops = true) {i : Nat} {o : Oper} (ho : ops[i]? = some o) : ∀ c, o.op ≠ .defer c := by
  intro c hc
  have := Array.all_eq_true_iff_forall_mem.1 h o (Array.mem_of_getElem? ho)
  rw [hc] at this
  cases this
theorem upon_in {o : Oper} {a : Act} {w : World} {K K' : Act → World → Prop} (l m : Nat) (hd : ∀ c, o.op ≠ .defer c) (hQ : ¬ LetsOut Q) (hK : ∀ a w, K a w → K' a w)
    (h : o.wp p a w K Q) : o.wpIn (Fence.wide.inRound l) m p a w K' Q := by
  refine ⟨fun _ _ => trivial, ?_⟩
  rw [Oper.semAt_eq _ _ _ hd]
  unfold Oper.wp at h
  revert h
  cases hr : (execOp a.eval o).run p w with
  | ok x w' =>
    cases x with
    | value v => exact hK _ _
    | skip => exact hK _ _
    | defer d => exact hK _ _
    | enter f args =>
      intro h
      refine ⟨fun hn => absurd (show false = true from hn) (by decide), CallsIn.inRound l (callsIn_wide.2 (h.mono fun e w'' h => ?_))⟩
      cases e with
      | returned v => exact hK _ _ h
      | panicked c => exact h
      | outgrown => exact h
    | row row args =>
      intro h
      refine ⟨fun hn => absurd (show false = true from hn) (by decide), fun c cs _ => ?_⟩
      obtain ⟨v, w'', r, s⟩ := h c cs
      exact ⟨v, w'', hK _ _ r, stepsIn_wide.2 s⟩
    | _ => exact fun h => h.elim
  | halt x w' =>
    cases x <;> exact fun h => h
theorem wpOp_in {i : Nat} {a : Act} {w : World} {K K' : Act → World → Prop} (l m : Nat) (hd : noDefer ops = true) (hQ : ¬ LetsOut Q) (hK : ∀ a w, K a w → K' a w) (h : wpOp p ops Q i K a w) : wpOpIn (Fence.wide.inRound l) m p ops Q i K' a w := by
  unfold wpOp at h
  unfold wpOpIn
  cases ho : ops[i]? with
  | none => rw [ho] at h; exact hK _ _ h
  | some o =>
    rw [ho] at h
    simp only at h ⊢
    split
    · rename_i hw
      rw [if_pos hw] at h
      rcases h with h | h
      · exact upon_in l m (noDefer_spec hd ho) hQ hK h
      · exact absurd h.2 hQ
    · rename_i hw
      rw [if_neg hw] at h
      exact ⟨fun _ _ => trivial, hK _ _ h⟩
theorem wpAny_in (l m : Nat) (hd : noDefer ops = true) (hQ : ¬ LetsOut Q) : ∀ (fuel : Nat) (L : Array Bool) (a : Act) (w : World), wpAny p .any ops Q fuel L a w → wpAnyIn (Fence.wide.inRound l) m p .any ops Q fuel L a w := by
  intro fuel
  induction fuel with
  | zero => intro L a w h; exact h
  | succ fuel ih => intro L a w h; exact ⟨h.1, fun i hi => wpOp_in l m hd hQ (fun a w h => ih _ a w h) (h.2 i hi)⟩
theorem wpList_in (l m : Nat) (hQ : ¬ LetsOut Q) : ∀ (os : List Oper) (a : Act) (w : World), (∀ o ∈ os, ∀ c, o.op ≠ .defer c) → wpList p ops Q os a w → wpListIn (Fence.wide.inRound l) m p ops Q os a w := by
  intro os
  induction os with
  | nil => intro a w _ h; exact h
  | cons o os ih =>
    intro a w hd h
    unfold wpList at h
    unfold wpListIn
    have hi : ∀ a w, wpList p ops Q os a w → wpListIn (Fence.wide.inRound l) m p ops Q os a w := fun a w h => ih a w (fun x hx => hd x (List.mem_cons_of_mem _ hx)) h
    split
    · rename_i hw
      rw [if_pos hw] at h
      rcases h with h | h
      · exact upon_in l m (hd o List.mem_cons_self) hQ hi h
      · exact absurd h.2 hQ
    · rename_i hw
      rw [if_neg hw] at h
      exact ⟨fun _ _ => trivial, hi _ _ h⟩
theorem aq_out {n : Nat} {β : Base} {Q : Exit → Env → List Box → Prop} (hQ : ∀ E H, ¬ Q .outgrown E H) : ¬ LetsOut (AQ n β Q) := by
  rintro ⟨a, w, E, H, h, _⟩
  exact hQ _ _ h
theorem region_in {n id : Nat} {β : Base} {Q : Exit → Env → List Box → Prop} {E : Env} {H : List Box} {a : Act} {w : World} (l m : Nat) (hd : noDefer ops = true) (hQ : ∀ E H, ¬ Q .outgrown E H) (h : AR p n ops Q ops.toList E H) (hO : Own β H w) (hB : Keeps β w) (hs : Sees n E a) :
    (Code.region id ops false).wpIn (Fence.wide.inRound l) m p (AQ n β Q) a w :=
  wpIn_region_list (wpList_in l m (aq_out hQ) _ _ _ (fun o ho => by
    obtain ⟨i, hi⟩ := List.mem_iff_getElem?.1 ho
    exact noDefer_spec hd (by simpa using hi)) (h β w a hO hB hs))
theorem draw_in {n id : Nat} {β : Base} {Q : Exit → Env → List Box → Prop} {E : Env} {H : List Box} {a : Act} {w : World} (l m : Nat) (fx ta : List Nat) (tl : List Oper) (hd : noDefer ops = true) (hQ : ∀ E H, ¬ Q .outgrown E H) (hok : drawOk ops fx [] ta = true) (hm : p.follows .mixedOrders = true) (htl : (ta.map fun i => (ops[i]?).getD default) = tl)
    (h : DWalk p n ops H fx E fun E => AR p n ops Q tl E H) (hO : Own β H w) (hB : Keeps β w) (hs : Sees n E a) :
    (Code.region id ops true).wpIn (Fence.wide.inRound l) m p (AQ n β Q) a w := by
  subst htl
  exact wpIn_region_any hm (wpAny_in l m hd (aq_out hQ) _ _ _ _ (any_draw fx ta [] hok (by simp) (by simpa [putAll] using h) β w a hO hB hs))
end
end Go.Proofs.Ythngkopcadlciaa
namespace Go.Proofs.Ythngkopcadlciaa
open Go.RowKit Go.Shelf
attribute [local go_sem] Oper.semAt_some
def bk (l : List Iv) (j : Nat) : Nat × Iv := (l.length - 1 - j, (l[l.length - 1 - j]?).getD ⟨0, 0, false⟩)
def upto (l : List Iv) (k : Nat) : List (Nat × Iv) := (List.range k).map (bk l)
theorem upto_succ (l : List Iv) (k : Nat) : upto l (k + 1) = upto l k ++ [bk l k] := by simp [upto, List.range_succ]
theorem upto_length (l : List Iv) (k : Nat) : (upto l k).length = k := by simp [upto]
set_option maxHeartbeats 1000000 in
theorem back_in (F : Fence) (n : Nat) (h5 : F.fn 66) (hro : F.round = none) (a : Option Addr) (len cap : Nat) (w : World) :
    CallsIn F n Try.prog 66 #[.slice a len cap] w fun e w' => e = .returned (.func (.func 99) #[] #[.pointer (some ⟨w.heap.size, 0, none⟩)]) ∧ w' = w.alloc (.cells #[.slice a len cap] 24) := by
  refine callsIn_of_wp Try.func66 rfl h5 ?_ hro
  simp only [Try.ntmps66, List.size_toArray, List.length_cons, List.length_nil, Nat.reduceAdd, Nat.reduceSub, Array.replicate_succ, Array.replicate_zero, List.push_toArray, List.append_toArray, List.nil_append, List.cons_append]
  gi_wp2
  go_ret
  exact ⟨rfl, rfl⟩
def elt (l : List Iv) (m : Nat) : Iv := (l[m]?).getD ⟨0, 0, false⟩
def Lies (W : World) (b off : Nat) (l : List Iv) : Prop :=
  ∀ m, m < l.length → W.cell? ⟨b, off + m * 3, none⟩ = some (.int .i64 (elt l m).lo) ∧ W.cell? ⟨b, off + m * 3 + 1, none⟩ = some (.int .i64 (elt l m).hi) ∧ W.cell? ⟨b, off + m * 3 + 2, none⟩ = some (.bool (elt l m).no)
def KpB (b Bs : Nat) (A B : World) : Prop := B.heap[b]? = A.heap[b]? ∧ B.heap[Bs]? = A.heap[Bs]?
theorem KpB.trans {b Bs : Nat} {A B C : World} (h : KpB b Bs A B) (k : KpB b Bs B C) : KpB b Bs A C := ⟨k.1.trans h.1, k.2.trans h.2⟩
set_option maxRecDepth 100000 in
set_option maxHeartbeats 2000000 in
theorem back1_in (F : Fence) (n : Nat) (h7 : F.fn 99) (hro : F.round = none) (hn : 1 ≤ n) (l Bs b off cap : Nat) (zs : List Iv) (hreach : zs.length * 24 ≤ 140737488351232) (J Jx : List (Nat × Iv) → World → Prop)
    (hY : ∀ pre x W, J pre W → pre.length < zs.length → YieldAt F (n - 1) Try.prog l #[.int .i64 (x.1 : Int), x.2.v] W fun e W' =>
      (e = .returned (.bool true) ∧ J (pre ++ [x]) W' ∧ KpB b Bs W W') ∨ (e = .returned (.bool false) ∧ Jx (pre ++ [x]) W'))
    (W : World) (hBs : W.cell? ⟨Bs, 0, none⟩ = some (.slice (some ⟨b, off, none⟩) zs.length cap)) (hc : Lies W b off zs) (h0 : J [] W) :
    CallsIn F n Try.prog 99 #[.func (.yield l) #[] #[], .pointer (some ⟨Bs, 0, none⟩)] W fun e W' => (∃ v, e = .returned v) ∧
      ((∃ ys, ys = upto zs zs.length ∧ J ys W') ∨ (∃ pre, (∃ k, k ≤ zs.length ∧ pre = upto zs k) ∧ Jx pre W')) := by
  refine callsIn_of_wp Try.func99 rfl h7 ?_ hro
  simp only [Try.ntmps99, List.size_toArray, List.length_cons, List.length_nil, Nat.reduceAdd, Nat.reduceSub, Array.replicate_succ, Array.replicate_zero, List.push_toArray, List.append_toArray, List.nil_append, List.cons_append]
  gi_wp2
  gi_loopw [3] (fun i wr => ∃ k m : Nat, m + k = zs.length ∧ i = .int .i64 ((m : Int) - 1) ∧ J (upto zs k) wr ∧ KpB b Bs W wr)
    (fun i _ => (intOf i + 1).toNat)
  case atStart => exact ⟨0, zs.length, by omega, by simp, h0, rfl, rfl⟩
  case round =>
    obtain ⟨k, m, hk, rfl, hJs, hnx⟩ := hrel
    have hBs' := (World.cell?_of_block (a := ⟨Bs, 0, none⟩) hnx.2).trans hBs
    cases m with
    | zero =>
      obtain rfl : k = zs.length := by omega
      rw [show (((0 : Nat) : Int) - 1) = -1 from rfl]
      gi_wp2
      go_end0
      exact ⟨⟨_, rfl⟩, .inl ⟨_, rfl, hJs⟩⟩
    | succ m =>
      obtain ⟨e1, e2, e3⟩ := hc m (by omega)
      have d1 := (World.cell?_of_block (a := ⟨b, off + m * 3, none⟩) hnx.1).trans e1
      have d2 := (World.cell?_of_block (a := ⟨b, off + m * 3 + 1, none⟩) hnx.1).trans e2
      have d3 := (World.cell?_of_block (a := ⟨b, off + m * 3 + 2, none⟩) hnx.1).trans e3
      have hm : m < zs.length := by omega
      have hi : (((m + 1 : Nat) : Int) - 1) = (m : Int) := by omega
      rw [hi]
      have hx : bk zs k = (m, elt zs m) := by
        have : zs.length - 1 - k = m := by omega
        simp only [bk, this, elt]
      obtain ⟨fn, tmps, assign, body, hy, hR⟩ := hY _ (bk zs k) wr hJs (by rw [upto_length]; omega)
      rw [hx] at hy hR
      dsimp only at hy
      gi_wp2
      refine hR.mono ?_
      rintro e W3 (⟨rfl, hJ3, hk3⟩ | ⟨rfl, hJx3⟩)
      · gi_wp2
        go_roundw
        case rel => exact ⟨k + 1, m, by omega, by simp, by rw [upto_succ, hx]; exact hJ3, hnx.trans hk3⟩
        case measure => simp [intOf]
      · gi_wp2
        refine bodyPost_ret (results_none rfl _ _ _) rfl ?_
        exact ⟨⟨_, rfl⟩, .inr ⟨_, ⟨k + 1, by omega, by rw [upto_succ, hx]⟩, hJx3⟩⟩
theorem back_stops (F : Fence) (n : Nat) (h7 : F.fn 99) (hro : F.round = none) (hn : 1 ≤ n) (Bs b off cap : Nat) (zs : List Iv) (hreach : zs.length * 24 ≤ 140737488351232) (w : World) (hBs : Bs < w.heap.size) (hb : b < w.heap.size)
    (hc : w.cell? ⟨Bs, 0, none⟩ = some (.slice (some ⟨b, off, none⟩) zs.length cap)) (hL : Lies w b off zs) :
    SeqStopsK F n Try.prog 99 #[.pointer (some ⟨Bs, 0, none⟩)] (fun x : Nat × Iv => #[Value.int .i64 (x.1 : Int), x.2.v]) (KpB b Bs) (fun ys => ys = upto zs zs.length) (fun pre => ∃ k, k ≤ zs.length ∧ pre = upto zs k) zs.length w := fun l J Jx W hW _ _ hY h0 => by
  have hc' := (hW.cell (p := ⟨Bs, 0, none⟩) hBs).trans hc
  have hL' : Lies W b off zs := fun m hm => by
    obtain ⟨e1, e2, e3⟩ := hL m hm
    exact ⟨(hW.cell (p := ⟨b, off + m * 3, none⟩) hb).trans e1, (hW.cell (p := ⟨b, off + m * 3 + 1, none⟩) hb).trans e2, (hW.cell (p := ⟨b, off + m * 3 + 2, none⟩) hb).trans e3⟩
  exact back1_in F n h7 hro hn l Bs b off cap zs hreach J Jx hY W hc' hL' h0
end Go.Proofs.Ythngkopcadlciaa
namespace Go.Proofs.Ythngkopcadlciaa
open Go.RowKit Go.Shelf
def hstep (x : Iv) (out : Iv) (q : Nat × Iv) : Iv := ivAdd (ivMul out x) q.2
def htop (o : Iv) : Iv := bif ivRight o then o else ivNone
def hfold (x o : Iv) (pre : List (Nat × Iv)) : Iv := pre.foldl (hstep x) (htop o)
theorem lies_of {w : World} {g t : Nat} {fr : Nat × Nat} {zs : List Iv} {r : List Value} (h : w.heap[g]? = some (.cells (flat zs ++ r).toArray t fr)) : Lies w g 0 zs := by
  intro m hm
  have hf : ∀ (zs : List Iv) (r : List Value) (m : Nat), m < zs.length → ((flat zs ++ r).drop (m * 3)).take 3 = cel (elt zs m) := by
    intro zs
    induction zs with
    | nil => intro r m hm; cases hm
    | cons z zs ih =>
      intro r m hm
      cases m with
      | zero => rfl
      | succ m =>
        have := ih r m (by simpa using hm)
        rw [show (m + 1) * 3 = m * 3 + 3 from by omega, Nat.add_comm (m * 3) 3, ← List.drop_drop]
        exact this
  have e := hf zs r m hm
  have cell : ∀ j, j < 3 → w.cell? ⟨g, 0 + m * 3 + j, none⟩ = (cel (elt zs m))[j]? := by
    intro j hj
    rw [cell_of_row w g _ _ t fr h, ← e, List.getElem?_take, if_pos hj, List.getElem?_drop]
    simp
  exact ⟨cell 0 (by decide), cell 1 (by decide), cell 2 (by decide)⟩
theorem flat_at (zs : List Iv) (o : Iv) (rest : List Value) : ((flat (zs ++ [o]) ++ rest).drop (zs.length * 3)).take 3 = cel o := by
  rw [flat_append, List.append_assoc, List.drop_left' (by rw [flat_length]; omega)]
  rfl
theorem back_gives (a : Option Addr) (len cap : Nat) : Gives Try.prog 66 #[.slice a len cap] [] (fun u N => ∃ gB, u = .func (.func 99) #[] #[.pointer (some ⟨gB, 0, none⟩)] ∧ N = [⟨gB, [.slice a len cap], 24, false⟩]) := by
  intro w _ _
  refine ((callsIn_wide (n := 3)).1 (back_in Fence.wide 3 trivial rfl a len cap w)).mono ?_
  rintro e w' ⟨rfl, rfl⟩
  refine ⟨_, _, rfl, ⟨w.heap.size, rfl, rfl⟩, ⟨by simp, ?_, by simp⟩, by simp, (Below.refl _ w).alloc (Nat.le_refl _) _⟩
  intro b hb
  obtain rfl := List.mem_singleton.1 hb
  exact ⟨.inr (.inl (Nat.le_refl _)), (0, 0), fun _ => rfl, heap_alloc_new w _⟩
attribute [local irreducible] AC AR DWalk ACr
set_option maxRecDepth 100000 in
theorem horner0 (zs : List Iv) (o x : Iv) (g cap : Nat) (rest : List Value) (hcap : zs.length + 1 ≤ cap) (hreach : zs.length * 24 ≤ 140737488351232) :
    Gives Try.prog 22 #[.slice (some ⟨g, 0, none⟩) (zs.length + 1) cap, x.v] [⟨g, flat (zs ++ [o]) ++ rest, 26, true⟩] (fun u N => u = (hfold x o (upto zs zs.length)).v ∧ N = []) := by
  intro w hAt hnd
  refine (callsIn_wide (n := 3)).1 (callsIn_of_wp_marks Try.func22 rfl trivial ?_ rfl)
  refine wpIn_wide.2 ?_
  refine (acr_run (?_ : ACr Try.prog 36 ⟨fun _ => False, w⟩ _ _ (envOf #[.slice (some ⟨g, 0, none⟩) (zs.length + 1) cap, x.v]) _)) (own_start hAt hnd (by simp)) (Keeps.refl _ _) (sees_start rfl rfl)
  have hl : w64 (((zs.length + 1 : Nat) : Int) - 1) = (zs.length : Int) := by rw [w64_id (by omega)]; omega
  have hne : ((((zs.length + 1 : Nat) : Int)) == 0) = false := by simpa using (by omega : ¬ ((zs.length + 1 : Nat) : Int) = 0)
  refine acr_seq (ac_region_lit ?_)
  refine ao 3 rfl rfl (st_box (v := x.v) (cs := cel x) rfl rfl rfl fun g3 => ?_)
  refine ao 4 rfl rfl (st_new zero26 rfl fun g4 => ?_)
  refine ar_nil ⟨rfl, ?_⟩
  refine acr_seq (ac_seq (ac_region_lit ?_))
  refine ao 8 rfl rfl (st_move (v := .slice (some ⟨g, 0, none⟩) (zs.length + 1) cap) rfl rfl ?_)
  refine ao 9 rfl rfl (st_ln (a := some ⟨g, 0, none⟩) (m := zs.length + 1) (c := cap) rfl Try.underlying24 rfl ?_)
  refine ao 10 rfl rfl (st_bi (u := .int .i64 ((zs.length + 1 : Nat) : Int)) (v := .int .i64 0) (r := .bool false) rfl rfl rfl (bi_eql hne) ?_)
  refine ar_nil ?_
  refine ac_else rfl ?_
  refine ac_skip ⟨rfl, ?_⟩
  refine acr_seq (ac_region_lit ?_)
  refine ao 12 rfl rfl (st_move (v := .slice (some ⟨g, 0, none⟩) (zs.length + 1) cap) rfl rfl ?_)
  refine ao 13 rfl rfl (st_move (v := .slice (some ⟨g, 0, none⟩) (zs.length + 1) cap) rfl rfl ?_)
  refine ao 14 rfl rfl (st_ln (a := some ⟨g, 0, none⟩) (m := zs.length + 1) (c := cap) rfl Try.underlying24 rfl ?_)
  refine ao 15 rfl rfl (st_bi (u := .int .i64 ((zs.length + 1 : Nat) : Int)) (v := .int .i64 1) (r := .int .i64 (zs.length : Int)) rfl rfl rfl (bi_sub hl) ?_)
  refine ao 16 rfl rfl (st_sa (g := g) (off := 0) (m := zs.length + 1) (c := cap) (s := 3) (i := zs.length) rfl Try.underlying24 (by kernel_rfl) rfl rfl (by omega) ?_)
  refine ao 17 rfl rfl (st_lda (g := g) (off := 0 + zs.length * 3) (vs := cel o) agg26 2 rfl rfl rfl rfl rfl (by rw [Nat.zero_add]; exact flat_at zs o rest) ?_)
  refine ao 5 rfl rfl (st_new zero26 rfl fun g5 => ?_)
  refine ar_op (d := none) rfl rfl (st_sta (g := g5) (off := 0) (us := cel o) (cs := cel o) agg26 0 rfl rfl rfl rfl rfl rfl rfl rfl rfl ?_)
  refine ar_nil ⟨rfl, ?_⟩
  refine acr_seq (AC.mono (Q := fun e E H => e = .normal ∧ ∃ t, t = htop o ∧ E 0 = .slice (some ⟨g, 0, none⟩) (zs.length + 1) cap ∧ E 3 = .pointer (some ⟨g3, 0, none⟩) ∧ E 4 = .pointer (some ⟨g4, 0, none⟩) ∧ E 5 = .pointer (some ⟨g5, 0, none⟩) ∧
    H = [⟨g5, cel t, 26, false⟩, ⟨g4, [.int .i64 0, .int .i64 0, .bool false], 26, false⟩, ⟨g3, cel x, 26, false⟩, ⟨g, flat (zs ++ [o]) ++ rest, 26, true⟩]) (ac_seq (ac_region_lit ?_)) ?_)
  · refine ao 18 rfl rfl (st_lda (g := g5) (off := 0) (vs := cel o) agg26 0 rfl rfl rfl rfl rfl rfl ?_)
    refine ao 19 rfl rfl (st_cf (vs := [o.v]) (r := .bool (ivRight o)) (c_ivRight o) Try.func25 rfl (by decide) rfl rfl rfl ?_)
    refine ao 20 rfl rfl (st_un (u := .bool (ivRight o)) (v := .bool (!(ivRight o))) rfl rfl (un_not rfl) ?_)
    refine ar_nil ?_
    refine bool_split (ivRight o) (fun h1 => ?_) (fun h1 => ?_)
    · refine ac_else' (b := !(ivRight o)) (by rw [h1]; rfl) rfl ?_
      exact ac_skip ⟨rfl, o, by simp only [htop, h1]; rfl, rfl, rfl, rfl, rfl, rfl⟩
    · refine ac_then' (b := !(ivRight o)) (by rw [h1]; rfl) rfl ?_
      refine ac_region_lit ?_
      refine ao 21 rfl rfl (st_cf (vs := []) (r := ivNone.v) c_ivNone Try.func28 rfl (by decide) rfl rfl rfl ?_)
      refine ar_op (d := none) rfl rfl (st_sta (g := g5) (off := 0) (us := cel ivNone) (cs := cel ivNone) agg26 0 rfl rfl rfl rfl rfl rfl rfl rfl rfl ?_)
      exact ar_nil ⟨rfl, ivNone, by simp only [htop, h1]; rfl, rfl, rfl, rfl, rfl, rfl⟩
  rintro e E H ⟨rfl, t, ht, q0, q3, q4, q5, rfl⟩
  refine ⟨rfl, ?_⟩
  obtain ⟨E0, rfl⟩ := env4 q0 q3 q4 q5
  refine acr_seq' (acr_seq (ac_region_lit ?_))
  refine ao 22 rfl rfl (st_move (v := .slice (some ⟨g, 0, none⟩) (zs.length + 1) cap) rfl rfl ?_)
  refine ao 23 rfl rfl (st_move (v := .slice (some ⟨g, 0, none⟩) (zs.length + 1) cap) rfl rfl ?_)
  refine ao 24 rfl rfl (st_ln (a := some ⟨g, 0, none⟩) (m := zs.length + 1) (c := cap) rfl Try.underlying24 rfl ?_)
  refine ao 25 rfl rfl (st_bi (u := .int .i64 ((zs.length + 1 : Nat) : Int)) (v := .int .i64 1) (r := .int .i64 (zs.length : Int)) rfl rfl rfl (bi_sub hl) ?_)
  refine ao 26 rfl rfl (st_slh (g := g) (off := 0) (m := zs.length + 1) (c := cap) (s := 3) (h := zs.length) rfl Try.underlying24 (by kernel_rfl) rfl rfl (by omega) ?_)
  refine ao 27 rfl rfl (st_gv (vs := [.slice (some ⟨g, 0, none⟩) zs.length cap]) (back_gives (some ⟨g, 0, none⟩) zs.length cap) Try.func66 rfl (by decide) rfl rfl rfl has_nil (by simp) ?_)
  rintro _ _ ⟨gB, rfl, rfl⟩
  refine ar_nil ⟨rfl, acr_env fun E1 hE => ?_⟩
  have e3 : E1 3 = .pointer (some ⟨g3, 0, none⟩) := by rw [hE]; rfl
  have e4 : E1 4 = .pointer (some ⟨g4, 0, none⟩) := by rw [hE]; rfl
  have e5 : E1 5 = .pointer (some ⟨g5, 0, none⟩) := by rw [hE]; rfl
  have e27 : E1 27 = .func (.func 99) #[] #[.pointer (some ⟨gB, 0, none⟩)] := by rw [hE]; rfl
  clear hE
  refine acr_intro fun w1 a hO hB hs => ?_
  have own := hO.at_
  simp only [List.cons_append, List.nil_append, List.mem_cons, List.not_mem_nil, or_false, forall_eq_or_imp, forall_eq] at own
  obtain ⟨⟨_, frB, fB, hhB⟩, ⟨hm5, fr5, f5, hh5⟩, ⟨hm4, fr4, f4, hh4⟩, ⟨_, fr3, f3, hh3⟩, ⟨_, frg, fg, hhg⟩⟩ := own
  obtain rfl := fB trivial
  obtain rfl := f5 trivial
  obtain rfl := f4 trivial
  obtain rfl := f3 trivial
  have apt := hO.apart
  simp only [List.cons_append, List.nil_append, List.map_cons, List.map_nil, List.nodup_cons, List.mem_cons, List.not_mem_nil, or_false, not_or, not_false_eq_true, List.nodup_nil, and_true] at apt
  obtain ⟨⟨nB5, nB4, nB3, nBg⟩, ⟨n54, n53, n5g⟩, ⟨n43, n4g⟩, n3g⟩ := apt
  have lt : ∀ {k : Nat} {o : Obj}, w1.heap[k]? = some o → k < w1.heap.size := fun h => (Array.getElem?_eq_some_iff.1 h).1
  have bel : Below w.heap.size w w1 := hB.below
  have ge5 : w.heap.size ≤ g5 := by rcases hm5 with h | h | h <;> first | exact h | cases h
  have ge4 : w.heap.size ≤ g4 := by rcases hm4 with h | h | h <;> first | exact h | cases h
  have hcB : w1.cell? ⟨gB, 0, none⟩ = some (.slice (some ⟨g, 0, none⟩) zs.length cap) := by simp [World.cell?, hhB]
  have hLies : Lies w1 g 0 zs := by
    rw [flat_append, List.append_assoc] at hhg
    exact lies_of hhg
  refine wp_block (wpIn_wide.1 (wpIn_rangeFunc_ownH (F := Fence.wide) (n := 3) (α := Nat × Iv) rfl (by decide) (gf := 99) (lb := #[.pointer (some ⟨gB, 0, none⟩)]) (by rw [hs.eval]; exact e27) trivial (enters_of Try.func99 (by kernel_rfl) rfl)
    (encs := fun q : Nat × Iv => #[Value.int .i64 (q.1 : Int), q.2.v]) (Kp := KpB g gB) (w0 := w1) (back_stops Fence.wide 2 trivial rfl (by decide) gB g 0 cap zs hreach w1 (lt hhB) (lt hhg) hcB hLies)
    KpB.trans (fun W l o o' hl _ _ _ => ⟨World.putObj_heap_other (by have := lt hhg; omega), World.putObj_heap_other (by have := lt hhB; omega)⟩) (Below.refl _ _) (fun _ => rfl)
    (fun pre W => Keeps ⟨fun k => k = g5, w1⟩ W ∧ W.heap[g5]? = some (.cells (cel (pre.foldl (hstep x) t)).toArray 26 (0, 0)))
    (fun _ _ _ => False) ?hI (fun _ _ _ _ _ h _ _ => h) ⟨Keeps.refl _ _, hh5⟩
    (fun q a' W => ∃ gA, Sees 36 (((E1.put (some 28) (.int .i64 (q.1 : Int))).put (some 29) q.2.v).put (some 7) (.pointer (some ⟨gA, 0, none⟩))) a' ∧ w1.heap.size ≤ gA ∧ W.heap[gA]? = some (.cells (cel q.2).toArray 26 (0, 0))) ?hAx ?assign ?body ?done (fun _ _ _ _ _ _ h _ => h.elim)))
  case hI =>
    intro s W W' row ⟨hk, h5⟩ hg hr
    have hne : ∀ k, k < w1.heap.size → some k ≠ row := fun k hk e => by have := (hr k e.symm).1; omega
    refine ⟨⟨hk.base.trans ⟨hg.os, hg.tape, hg.output, hg.size, fun k hk => absurd hk (Nat.not_lt_zero _)⟩, fun k hn => ?_⟩, ?_⟩
    · have hlt : k < w1.heap.size := Nat.lt_of_not_le fun h => hn (.inl h)
      rw [hg.block k (Nat.lt_of_lt_of_le hlt hk.size) (hne k hlt), hk.block k hn]
    · rw [hg.block g5 (Nat.lt_of_lt_of_le (lt hh5) hk.size) (hne g5 (lt hh5)), h5]
  case hAx =>
    intro q a' s W W' row ⟨gA, h1, h2, h3⟩ hg hr
    refine ⟨gA, h1, h2, ?_⟩
    rw [hg.block gA (Array.getElem?_eq_some_iff.1 h3).1 (fun e => ?_), h3]
    obtain ⟨_, o, ho, hc⟩ := hr gA e.symm
    rw [h3] at ho
    cases ho
    cases hc
  case assign =>
    intro l pre q W K hi hK
    have hact : ({ tmps := ((#[28, 29] : Array Nat).zip #[Value.int .i64 (q.1 : Int), q.2.v]).foldl (fun t (p, v) => t.setIfInBounds p v) a.tmps, defers := [] } : Act) = (a.put (some 28) (.int .i64 (q.1 : Int))).put (some 29) q.2.v := by
      have := hs.defers
      cases a
      simp only at this
      subst this
      simp [Act.put]
    refine wpIn_mono (region_in (β := ⟨fun _ => False, W⟩) (H := []) (Q := fun e E H => e = .normal ∧ ∃ gA, E = (((E1.put (some 28) (.int .i64 (q.1 : Int))).put (some 29) q.2.v).put (some 7) (.pointer (some ⟨gA, 0, none⟩))) ∧ H = [⟨gA, cel q.2, 26, false⟩]) l _ (by kernel_rfl) (fun E H h => by cases h.1) ?_ (Own.nil _ W) (Keeps.refl _ _) (show Sees 36 ((E1.put (some 28) (.int .i64 (q.1 : Int))).put (some 29) q.2.v) _ from by rw [hact]; exact (hs.put _ _).put _ _)) ?_
    · refine ao 7 rfl rfl (st_new zero26 rfl fun gA => ?_)
      refine ar_op (d := none) rfl rfl (st_sta (g := gA) (off := 0) (us := cel q.2) (cs := cel q.2) agg26 0 rfl rfl rfl rfl rfl rfl rfl rfl rfl ?_)
      exact ar_nil ⟨rfl, gA, rfl, rfl⟩
    · rintro e a' W' ⟨E, H, ⟨rfl, gA, rfl, rfl⟩, hs', hO', hB'⟩
      have hb := hB'.below
      have hA := hO'.at_ _ (List.mem_singleton.2 rfl)
      have hgA : W.heap.size ≤ gA := by rcases hA.1 with h | h | h <;> first | exact h | cases h
      have hk : w1.heap.size ≤ W.heap.size := hi.1.size
      obtain ⟨frA, fA, hA2⟩ := hA.2
      obtain rfl := fA rfl
      refine hK a' W' ⟨hb.size, fun k o _ h _ => (hb.block k (Array.getElem?_eq_some_iff.1 h).1).trans h⟩ ⟨hb.block g (by have := lt hhg; omega), hb.block gB (by have := lt hhB; omega)⟩ ⟨⟨hi.1.base.trans (hb.mono (Nat.zero_le _)), fun k hn => ?_⟩, ?_⟩ ⟨gA, hs', by omega, hA2⟩
      · have hlt : k < w1.heap.size := Nat.lt_of_not_le fun h => hn (.inl h)
        exact (hb.block k (by omega)).trans (hi.1.block k hn)
      · exact (hb.block g5 (by have := lt hh5; omega)).trans hi.2
  case body =>
    rintro l pre q a' W hl hrec ⟨hk, h5⟩ ⟨gA, hsA, hgA, hA⟩ hlen
    have h3 : W.heap[g3]? = some (.cells (cel x).toArray 26 (0, 0)) := by
      rw [hk.block g3 (fun h => by
        rcases h with h | h
        · exact absurd (lt hh3) (Nat.not_lt.2 h)
        · exact n53 h.symm)]
      exact hh3
    have l5 := lt hh5
    have l3 := lt hh3
    refine wpIn_block (wpIn_mono (draw_in (β := ⟨fun k => k = g5, W⟩) (H := [⟨g5, cel (pre.foldl (hstep x) t), 26, false⟩, ⟨gA, cel q.2, 26, true⟩, ⟨g3, cel x, 26, true⟩])
      (Q := fun e E H => e = .normal ∧ H = [⟨g5, cel (hstep x (pre.foldl (hstep x) t) q), 26, false⟩, ⟨gA, cel q.2, 26, true⟩, ⟨g3, cel x, 26, true⟩])
      l _ [0, 1, 2, 3, 4] [5] _ (by kernel_rfl) (fun E H h => by cases h.1) (by kernel_rfl) follows rfl ?_ ⟨Nat.le_refl _, ?_, ?_⟩ (Keeps.refl _ _) hsA) ?_)
    · generalize hout : pre.foldl (hstep x) t = out
      have f3 : (((E1.put (some 28) (.int .i64 (q.1 : Int))).put (some 29) q.2.v).put (some 7) (.pointer (some ⟨gA, 0, none⟩))) 3 = .pointer (some ⟨g3, 0, none⟩) := e3
      have f5 : (((E1.put (some 28) (.int .i64 (q.1 : Int))).put (some 29) q.2.v).put (some 7) (.pointer (some ⟨gA, 0, none⟩))) 5 = .pointer (some ⟨g5, 0, none⟩) := e5
      have f7 : (((E1.put (some 28) (.int .i64 (q.1 : Int))).put (some 29) q.2.v).put (some 7) (.pointer (some ⟨gA, 0, none⟩))) 7 = .pointer (some ⟨gA, 0, none⟩) := rfl
      generalize (((E1.put (some 28) (.int .i64 (q.1 : Int))).put (some 29) q.2.v).put (some 7) (.pointer (some ⟨gA, 0, none⟩))) = E2 at f3 f5 f7
      obtain ⟨E0, rfl⟩ := env3 f3 f5 f7
      refine dw_op (d := some 30) out.v rfl rfl rfl (st_lda (g := g5) (off := 0) (vs := cel out) agg26 0 rfl rfl rfl rfl rfl rfl ⟨rfl, rfl⟩) ?_
      refine dw_op (d := some 31) x.v rfl rfl rfl (st_lda (g := g3) (off := 0) (vs := cel x) agg26 2 rfl rfl rfl rfl rfl rfl ⟨rfl, rfl⟩) ?_
      refine dw_op (d := some 32) (ivMul out x).v rfl rfl rfl (st_cf (vs := [out.v, x.v]) (r := (ivMul out x).v) (c_ivMul out x) Try.func68 rfl (by decide) rfl rfl rfl ⟨rfl, rfl⟩) ?_
      refine dw_op (d := some 33) q.2.v rfl rfl rfl (st_lda (g := gA) (off := 0) (vs := cel q.2) agg26 1 rfl rfl rfl rfl rfl rfl ⟨rfl, rfl⟩) ?_
      refine dw_op (d := some 34) (ivAdd (ivMul out x) q.2).v rfl rfl rfl (st_cf (vs := [(ivMul out x).v, q.2.v]) (r := (ivAdd (ivMul out x) q.2).v) (c_ivAdd (ivMul out x) q.2) Try.func67 rfl (by decide) rfl rfl rfl ⟨rfl, rfl⟩) ?_
      refine dw_nil ?_
      refine ar_op (d := none) rfl rfl (st_sta (g := g5) (off := 0) (us := cel (ivAdd (ivMul out x) q.2)) (cs := cel (ivAdd (ivMul out x) q.2)) agg26 0 rfl rfl rfl rfl rfl rfl rfl rfl rfl ?_)
      exact ar_nil ⟨rfl, rfl⟩
    · intro b hb
      simp only [List.mem_cons, List.not_mem_nil, or_false] at hb
      rcases hb with rfl | rfl | rfl
      · exact ⟨.inr (.inr rfl), _, fun _ => rfl, h5⟩
      · exact ⟨.inl rfl, _, fun _ => rfl, hA⟩
      · exact ⟨.inl rfl, _, fun _ => rfl, h3⟩
    · have a1 : g5 ≠ gA := by omega
      have a2 : gA ≠ g3 := by omega
      simp [a1, a2, n53]
    · rintro e a2 W' ⟨E, H, ⟨rfl, rfl⟩, hs', hO', hB'⟩
      have hsz : w1.heap.size ≤ W.heap.size := hk.size
      have keep : ∀ k, k < W.heap.size → k ≠ g5 → W'.heap[k]? = W.heap[k]? := fun k hk hne => hB'.block k (fun h => by
        rcases h with h | h
        · exact absurd hk (Nat.not_lt.2 h)
        · exact hne h)
      obtain ⟨fr', f', h5'⟩ := (hO'.at_ _ (List.mem_cons_self ..)).2
      obtain rfl := f' rfl
      refine ⟨⟨hB'.size, fun k o hk1 h _ => (keep k (Array.getElem?_eq_some_iff.1 h).1 (by omega)).trans h⟩, ⟨keep g (by have := lt hhg; omega) (Ne.symm n5g), keep gB (by have := lt hhB; omega) nB5⟩, ⟨hk.base.trans hB'.base, fun k hn => ?_⟩, ?_⟩
      · have hlt : k < w1.heap.size := Nat.lt_of_not_le fun h => hn (.inl h)
        exact (keep k (by omega) (fun h => hn (.inr h))).trans (hk.block k hn)
      · rw [List.foldl_append]
        exact h5'
  case done =>
    rintro D xs W hD rfl ⟨hk, h5⟩ hKD
    generalize hout : (upto zs zs.length).foldl (hstep x) t = out at h5
    have hres : hfold x o (upto zs zs.length) = out := by rw [hfold, ← ht, hout]
    have l5 := lt hh5
    have l4 := lt hh4
    have h4 : W.heap[g4]? = some (.cells (#[.int .i64 0, .int .i64 0, .bool false] : Array Value) 26 (0, 0)) := by
      rw [hk.block g4 (fun h => by
        rcases h with h | h
        · exact absurd (lt hh4) (Nat.not_lt.2 h)
        · exact n54 h.symm)]
      exact hh4
    have hsz : w1.heap.size ≤ W.heap.size := hk.size
    refine wp_seq (wp_region_list ?_)
    have ev1 : ({ a with defers := { target := .collected D, args := #[] } :: a.defers } : Act).eval = ev 36 E1 := hs.eval
    obtain ⟨E0, rfl⟩ : ∃ E0 : Env, E1 = (E0.put (some 4) (.pointer (some ⟨g4, 0, none⟩))).put (some 5) (.pointer (some ⟨g5, 0, none⟩)) := ⟨E1, by rw [put_self e4, put_self e5]⟩
    refine wpList_go rfl (Step.wpA (β := ⟨fun k => k = g4, W⟩) (H := [⟨g4, [.int .i64 0, .int .i64 0, .bool false], 26, false⟩, ⟨g5, cel out, 26, true⟩]) (K := fun v H => v = out.v ∧ H = [⟨g4, [.int .i64 0, .int .i64 0, .bool false], 26, false⟩, ⟨g5, cel out, 26, true⟩])
      (st_lda (g := g5) (off := 0) (vs := cel out) agg26 1 rfl rfl rfl rfl rfl rfl ⟨rfl, rfl⟩) ev1 ⟨Nat.le_refl _, ?_, by simp [Ne.symm n54]⟩ (Keeps.refl _ _) ?_)
    · intro b hb
      simp only [List.mem_cons, List.not_mem_nil, or_false] at hb
      rcases hb with rfl | rfl
      · exact ⟨.inr (.inr rfl), _, fun _ => rfl, h4⟩
      · exact ⟨.inl rfl, _, fun _ => rfl, h5⟩
    · rintro _ _ W2 ⟨rfl, rfl⟩ hO2 hB2
      have hs2 : Sees 36 _ (a.put (some 35) out.v) := hs.put (some 35) out.v
      refine wpList_go rfl (Step.wpA (K := fun v H => H = [⟨g4, cel out, 26, false⟩, ⟨g5, cel out, 26, true⟩]) (st_sta (g := g4) (off := 0) (us := cel out) (cs := cel out) agg26 0 rfl rfl rfl rfl rfl rfl rfl rfl rfl rfl) hs2.eval hO2 hB2 ?_)
      rintro v _ W3 rfl hO3 hB3
      obtain ⟨fr', f', h43⟩ := (hO3.at_ _ (List.mem_cons_self ..)).2
      obtain rfl := f' rfl
      have keep : ∀ k, k < W.heap.size → k ≠ g4 → W3.heap[k]? = W.heap[k]? := fun k hk hne => hB3.block k (fun h => by
        rcases h with h | h
        · exact absurd hk (Nat.not_lt.2 h)
        · exact hne h)
      have hD3 : W3.heap[D]? = some (.deferred (some [])) := (keep D (Array.getElem?_eq_some_iff.1 hKD).1 (by omega)).trans hKD
      refine wp_ret ⟨by simp, .inl ⟨D, _, rfl, run_takeDeferred hD3, ?_⟩⟩
      show LeavesInM _ _ _ _ _ _ a.defers _ _
      rw [hs.defers]
      have hcell : (W3.putObj D (.deferred none)).heap[g4]? = some (.cells (cel out).toArray 26 (0, 0)) := (World.putObj_heap_other (by omega)).trans h43
      have hp : (a.put (some 35) out.v).tmps.getD 4 undef = .pointer (some ⟨g4, 0, none⟩) := by
        have := see_ptr (t := 4) hs2 rfl
        simpa using this
      obtain ⟨d, u1, u2, u3⟩ := agg26.out
      refine ⟨out.v, results_cell_row (p := 4) (ty := 26) rfl _ _ g4 26 (cel out).toArray (0, 0) d hp hcell u1 (by cases d <;> first | rfl | cases u2) u3, out.v, [], rfl, ⟨by rw [hres], rfl⟩, ⟨?_, by simp, by simp⟩, by simp, ?_⟩
      · simp only [World.putObj_size]
        have := hB3.size
        have := bel.size
        exact Nat.le_trans (Nat.le_trans bel.size hsz) hB3.size
      · have b1 : Below w.heap.size w W := bel.trans ⟨hk.base.os, hk.base.tape, hk.base.output, hk.base.size, fun k hkl => hk.block k (fun h => by
          rcases h with h | h
          · have h2 : w1.heap.size ≤ k := h
            have := bel.size; omega
          · have h' : k = g5 := h
            omega)⟩
        have b2 : Below w.heap.size W W3 := ⟨hB3.base.os, hB3.base.tape, hB3.base.output, hB3.base.size, fun k hkl => keep k (by have := bel.size; omega) (by omega)⟩
        refine (b1.trans b2).trans ⟨rfl, rfl, rfl, by simp, fun k hkl => World.putObj_heap_other (by have := bel.size; omega)⟩
def hornerN : Iv → List Iv → Iv → Iv
  | a, [], _ => htop a
  | a, b :: l, x => ivAdd (ivMul (hornerN b l x) x) a
def horner : List Iv → Iv → Iv
  | [], _ => ivPoint 0
  | a :: l, x => hornerN a l x
theorem upto_snd (zs : List Iv) : ∀ k, k ≤ zs.length → (upto zs k).map (·.2) = zs.reverse.take k := by
  intro k
  induction k with
  | zero => intro _; rfl
  | succ k ih =>
    intro hk
    have h2 : k < zs.reverse.length := by simp; omega
    rw [upto_succ, List.map_append, ih (by omega), List.take_add_one, List.getElem?_eq_getElem h2]
    have h3 : zs.length - 1 - k < zs.length := by omega
    simp [bk, List.getElem?_eq_getElem h3]
theorem foldl_snd (x : Iv) : ∀ (l : List (Nat × Iv)) (o : Iv), l.foldl (hstep x) o = (l.map (·.2)).foldl (fun out a => ivAdd (ivMul out x) a) o := by
  intro l
  induction l with
  | nil => intro o; rfl
  | cons q l ih => intro o; exact ih _
theorem hornerN_snoc (x o : Iv) : ∀ (zs : List Iv), horner (zs ++ [o]) x = zs.foldr (fun a out => ivAdd (ivMul out x) a) (htop o) := by
  intro zs
  induction zs with
  | nil => rfl
  | cons z zs ih =>
    cases zs with
    | nil => rfl
    | cons y ys =>
      rw [List.foldr_cons, ← ih]
      rfl
theorem hfold_eq (zs : List Iv) (x o : Iv) : hfold x o (upto zs zs.length) = horner (zs ++ [o]) x := by
  rw [hornerN_snoc, hfold, foldl_snd, upto_snd zs _ (Nat.le_refl _), List.take_of_length_le (by simp), List.foldl_reverse]
theorem c_horner (a : Iv) (l : List Iv) (cap g : Nat) (rest : List Value) (x : Iv) (hcap : l.length + 1 ≤ cap) (hreach : l.length * 24 ≤ 140737488351232) :
    Gives Try.prog 22 #[.slice (some ⟨g, 0, none⟩) (l.length + 1) cap, x.v] [⟨g, flat (a :: l) ++ rest, 26, true⟩] (fun u N => u = (horner (a :: l) x).v ∧ N = []) := by
  have e : (a :: l).dropLast ++ [(a :: l).getLast (by simp)] = a :: l := List.dropLast_concat_getLast _
  have hlen : (a :: l).dropLast.length = l.length := by simp
  have h := horner0 (a :: l).dropLast ((a :: l).getLast (by simp)) x g cap rest (by rw [hlen]; exact hcap) (by rw [hlen]; exact hreach)
  rw [hfold_eq, e, hlen] at h
  exact h
end Go.Proofs.Ythngkopcadlciaa
namespace Go.Proofs.Ythngkopcadlciaa
open Go.RowKit
attribute [local irreducible] AC AR DWalk
set_option maxRecDepth 100000 in
theorem c_slope4 (x0 : Iv) (x1 : Iv) (x2 : Iv) (x3 : Iv) (cap g : Nat) (rest : List Value) : Gives Try.prog 27 #[.slice (some ⟨g, 0, none⟩) 4 cap] [⟨g, [.int .i64 x0.lo, .int .i64 x0.hi, .bool x0.no, .int .i64 x1.lo, .int .i64 x1.hi, .bool x1.no, .int .i64 x2.lo, .int .i64 x2.hi, .bool x2.no, .int .i64 x3.lo, .int .i64 x3.hi, .bool x3.no] ++ rest, 26, true⟩] (Row 26 3 3 [.int .i64 ((ivTimes x1 1).lo), .int .i64 ((ivTimes x1 1).hi), .bool ((ivTimes x1 1).no), .int .i64 ((ivTimes x2 2).lo), .int .i64 ((ivTimes x2 2).hi), .bool ((ivTimes x2 2).no), .int .i64 ((ivTimes x3 3).lo), .int .i64 ((ivTimes x3 3).hi), .bool ((ivTimes x3 3).no)]) := by
 refine gives_fin Try.func27 rfl rfl rfl rfl (aQ (aL (aA 2 (.slice none 0 0) rfl rfl (aN (aQ (aL (aA 3 (.slice none 0 0) rfl rfl (aN (aQ (aQ (aL (aM 6 (.slice (some ⟨g, 0, none⟩) 4 cap) rfl rfl (ao 7 rfl rfl (st_ln (a := some ⟨g, 0, none⟩) (m := 4) (c := cap) rfl Try.underlying24 rfl (aM 8 (.int .i64 0) rfl rfl (aN (ac_block ?_)))))))))))))))))
 refine ac_rounds 61 (ar_round (aQ (aL (aB 9 (.bool true) rfl rfl rfl (bi_lss (by decide)) (aN (aQ (ac_then rfl (ac_skip (aQ (ac_block (aQ (aL (aM 10 (.int .i64 0) rfl rfl (ao 11 rfl rfl (st_sa (g := g) (off := 0) (m := 4) (c := cap) (s := 3) (i := 0) rfl Try.underlying24 (by kernel_rfl) rfl rfl (by decide) (aG 12 [.int .i64 x0.lo, .int .i64 x0.hi, .bool x0.no] agg26 0 rfl rfl rfl rfl rfl (ao 5 rfl rfl (st_new zero26 rfl fun g0 => (aA 4 (.int .i64 0) rfl rfl (aS [.int .i64 x0.lo, .int .i64 x0.hi, .bool x0.no] agg26 0 rfl rfl rfl rfl rfl rfl (aN (aQ (aL (aM 13 (.int .i64 0) rfl rfl (aB 14 (.bool false) rfl rfl rfl (bi_gtr (by decide)) (aN (ac_else rfl ?_)))))))))))))))))))))))))))
 refine ac_skip (aL (aB 21 (.int .i64 1) rfl rfl rfl (bi_add (by decide)) (aM 8 (.int .i64 1) rfl rfl (aN (ar_round (aQ (aL (aB 9 (.bool true) rfl rfl rfl (bi_lss (by decide)) (aN (aQ (ac_then rfl (ac_skip (aQ (ac_block (aQ (aL (aM 10 (.int .i64 1) rfl rfl (ao 11 rfl rfl (st_sa (g := g) (off := 0) (m := 4) (c := cap) (s := 3) (i := 1) rfl Try.underlying24 (by kernel_rfl) rfl rfl (by decide) (aG 12 [.int .i64 x1.lo, .int .i64 x1.hi, .bool x1.no] agg26 1 rfl rfl rfl rfl rfl (ao 5 rfl rfl (st_new zero26 rfl fun g1 => (aA 4 (.int .i64 1) rfl rfl (aS [.int .i64 x1.lo, .int .i64 x1.hi, .bool x1.no] agg26 0 rfl rfl rfl rfl rfl rfl (aN (aQ (aL ?_)))))))))))))))))))))))))))
 refine aM 13 (.int .i64 1) rfl rfl (aB 14 (.bool true) rfl rfl rfl (bi_gtr (by decide)) (aN (ac_then rfl (aL (aM 15 (.slice none 0 0) rfl rfl (aG 16 [.int .i64 x1.lo, .int .i64 x1.hi, .bool x1.no] agg26 0 rfl rfl rfl rfl rfl (aM 17 (.int .i64 1) rfl rfl (aC 18 (c_ivTimes x1 1) Try.func31 ⟨rfl, by decide⟩ rfl rfl (ao 19 rfl rfl (st_bs (us := [(0, .agg #[.int .i64 ((ivTimes x1 1).lo), .int .i64 ((ivTimes x1 1).hi), .bool ((ivTimes x1 1).no)])]) (cs := [.int .i64 ((ivTimes x1 1).lo), .int .i64 ((ivTimes x1 1).hi), .bool ((ivTimes x1 1).no)]) rfl rfl (bs24_1_0a _ _ _) fun g2 => ?_))))))))))
 refine ao 20 rfl rfl (st_app (A := [⟨g2, [.int .i64 ((ivTimes x1 1).lo), .int .i64 ((ivTimes x1 1).hi), .bool ((ivTimes x1 1).no)], 26, false⟩, ⟨g1, [.int .i64 x1.lo, .int .i64 x1.hi, .bool x1.no], 26, false⟩, ⟨g0, [.int .i64 x0.lo, .int .i64 x0.hi, .bool x0.no], 26, false⟩, ⟨g, [.int .i64 x0.lo, .int .i64 x0.hi, .bool x0.no, .int .i64 x1.lo, .int .i64 x1.hi, .bool x1.no, .int .i64 x2.lo, .int .i64 x2.hi, .bool x2.no, .int .i64 x3.lo, .int .i64 x3.hi, .bool x3.no] ++ rest, 26, true⟩]) (N := []) (B := []) (bt := ⟨g2, [.int .i64 ((ivTimes x1 1).lo), .int .i64 ((ivTimes x1 1).hi), .bool ((ivTimes x1 1).no)], 26, false⟩) (xs := []) (news := [.int .i64 ((ivTimes x1 1).lo), .int .i64 ((ivTimes x1 1).hi), .bool ((ivTimes x1 1).no)]) (r := []) slT24 rfl rfl rfl (Row.nil _ _) rfl (List.mem_of_getElem? (i := 0) rfl) rfl rfl rfl rfl (by decide) (by decide) (by decide) fun v9 N9 R9 => ?_)
 obtain ⟨g3, cg3, rg3, rfl, rfl, fg3⟩ := R9.pos (by decide)
 refine aA 3 (.slice (some ⟨g3, 0, none⟩) 1 cg3) rfl rfl (aN (aL (aB 21 (.int .i64 2) rfl rfl rfl (bi_add (by decide)) (aM 8 (.int .i64 2) rfl rfl (aN (ar_round (aQ (aL (aB 9 (.bool true) rfl rfl rfl (bi_lss (by decide)) (aN (aQ (ac_then rfl (ac_skip (aQ (ac_block (aQ (aL (aM 10 (.int .i64 2) rfl rfl (ao 11 rfl rfl (st_sa (g := g) (off := 0) (m := 4) (c := cap) (s := 3) (i := 2) rfl Try.underlying24 (by kernel_rfl) rfl rfl (by decide) (aG 12 [.int .i64 x2.lo, .int .i64 x2.hi, .bool x2.no] agg26 4 rfl rfl rfl rfl rfl (ao 5 rfl rfl (st_new zero26 rfl fun g4 => (aA 4 (.int .i64 2) rfl rfl ?_))))))))))))))))))))))))
 refine aS [.int .i64 x2.lo, .int .i64 x2.hi, .bool x2.no] agg26 0 rfl rfl rfl rfl rfl rfl (aN (aQ (aL (aM 13 (.int .i64 2) rfl rfl (aB 14 (.bool true) rfl rfl rfl (bi_gtr (by decide)) (aN (ac_then rfl (aL (aM 15 (.slice (some ⟨g3, 0, none⟩) 1 cg3) rfl rfl (aG 16 [.int .i64 x2.lo, .int .i64 x2.hi, .bool x2.no] agg26 0 rfl rfl rfl rfl rfl (aM 17 (.int .i64 2) rfl rfl (aC 18 (c_ivTimes x2 2) Try.func31 ⟨rfl, by decide⟩ rfl rfl ?_))))))))))))
 refine ao 19 rfl rfl (st_bs (us := [(0, .agg #[.int .i64 ((ivTimes x2 2).lo), .int .i64 ((ivTimes x2 2).hi), .bool ((ivTimes x2 2).no)])]) (cs := [.int .i64 ((ivTimes x2 2).lo), .int .i64 ((ivTimes x2 2).hi), .bool ((ivTimes x2 2).no)]) rfl rfl (bs24_1_0a _ _ _) fun g5 => ?_)
 refine ao 20 rfl rfl (st_app (A := [⟨g5, [.int .i64 ((ivTimes x2 2).lo), .int .i64 ((ivTimes x2 2).hi), .bool ((ivTimes x2 2).no)], 26, false⟩, ⟨g4, [.int .i64 x2.lo, .int .i64 x2.hi, .bool x2.no], 26, false⟩]) (N := [⟨g3, [.int .i64 ((ivTimes x1 1).lo), .int .i64 ((ivTimes x1 1).hi), .bool ((ivTimes x1 1).no)] ++ rg3, 26, false⟩]) (B := [⟨g2, [.int .i64 ((ivTimes x1 1).lo), .int .i64 ((ivTimes x1 1).hi), .bool ((ivTimes x1 1).no)], 26, false⟩, ⟨g1, [.int .i64 x1.lo, .int .i64 x1.hi, .bool x1.no], 26, false⟩, ⟨g0, [.int .i64 x0.lo, .int .i64 x0.hi, .bool x0.no], 26, false⟩, ⟨g, [.int .i64 x0.lo, .int .i64 x0.hi, .bool x0.no, .int .i64 x1.lo, .int .i64 x1.hi, .bool x1.no, .int .i64 x2.lo, .int .i64 x2.hi, .bool x2.no, .int .i64 x3.lo, .int .i64 x3.hi, .bool x3.no] ++ rest, 26, true⟩]) (bt := ⟨g5, [.int .i64 ((ivTimes x2 2).lo), .int .i64 ((ivTimes x2 2).hi), .bool ((ivTimes x2 2).no)], 26, false⟩) (xs := [.int .i64 ((ivTimes x1 1).lo), .int .i64 ((ivTimes x1 1).hi), .bool ((ivTimes x1 1).no)]) (news := [.int .i64 ((ivTimes x2 2).lo), .int .i64 ((ivTimes x2 2).hi), .bool ((ivTimes x2 2).no)]) (r := []) slT24 rfl rfl rfl (Row.mk (rest := rg3) fg3) rfl (List.mem_of_getElem? (i := 0) rfl) rfl rfl rfl rfl (by decide) (by decide) (by decide) fun v9 N9 R9 => ?_)
 obtain ⟨g6, cg6, rg6, rfl, rfl, fg6⟩ := R9.pos (by decide)
 refine aA 3 (.slice (some ⟨g6, 0, none⟩) 2 cg6) rfl rfl (aN (aL (aB 21 (.int .i64 3) rfl rfl rfl (bi_add (by decide)) (aM 8 (.int .i64 3) rfl rfl (aN (ar_round (aQ (aL (aB 9 (.bool true) rfl rfl rfl (bi_lss (by decide)) (aN (aQ (ac_then rfl (ac_skip (aQ (ac_block (aQ (aL (aM 10 (.int .i64 3) rfl rfl (ao 11 rfl rfl (st_sa (g := g) (off := 0) (m := 4) (c := cap) (s := 3) (i := 3) rfl Try.underlying24 (by kernel_rfl) rfl rfl (by decide) (aG 12 [.int .i64 x3.lo, .int .i64 x3.hi, .bool x3.no] agg26 6 rfl rfl rfl rfl rfl (ao 5 rfl rfl (st_new zero26 rfl fun g7 => (aA 4 (.int .i64 3) rfl rfl ?_))))))))))))))))))))))))
 refine aS [.int .i64 x3.lo, .int .i64 x3.hi, .bool x3.no] agg26 0 rfl rfl rfl rfl rfl rfl (aN (aQ (aL (aM 13 (.int .i64 3) rfl rfl (aB 14 (.bool true) rfl rfl rfl (bi_gtr (by decide)) (aN (ac_then rfl (aL (aM 15 (.slice (some ⟨g6, 0, none⟩) 2 cg6) rfl rfl (aG 16 [.int .i64 x3.lo, .int .i64 x3.hi, .bool x3.no] agg26 0 rfl rfl rfl rfl rfl (aM 17 (.int .i64 3) rfl rfl (aC 18 (c_ivTimes x3 3) Try.func31 ⟨rfl, by decide⟩ rfl rfl ?_))))))))))))
 refine ao 19 rfl rfl (st_bs (us := [(0, .agg #[.int .i64 ((ivTimes x3 3).lo), .int .i64 ((ivTimes x3 3).hi), .bool ((ivTimes x3 3).no)])]) (cs := [.int .i64 ((ivTimes x3 3).lo), .int .i64 ((ivTimes x3 3).hi), .bool ((ivTimes x3 3).no)]) rfl rfl (bs24_1_0a _ _ _) fun g8 => ?_)
 refine ao 20 rfl rfl (st_app (A := [⟨g8, [.int .i64 ((ivTimes x3 3).lo), .int .i64 ((ivTimes x3 3).hi), .bool ((ivTimes x3 3).no)], 26, false⟩, ⟨g7, [.int .i64 x3.lo, .int .i64 x3.hi, .bool x3.no], 26, false⟩]) (N := [⟨g6, [.int .i64 ((ivTimes x1 1).lo), .int .i64 ((ivTimes x1 1).hi), .bool ((ivTimes x1 1).no), .int .i64 ((ivTimes x2 2).lo), .int .i64 ((ivTimes x2 2).hi), .bool ((ivTimes x2 2).no)] ++ rg6, 26, false⟩]) (B := [⟨g5, [.int .i64 ((ivTimes x2 2).lo), .int .i64 ((ivTimes x2 2).hi), .bool ((ivTimes x2 2).no)], 26, false⟩, ⟨g4, [.int .i64 x2.lo, .int .i64 x2.hi, .bool x2.no], 26, false⟩, ⟨g2, [.int .i64 ((ivTimes x1 1).lo), .int .i64 ((ivTimes x1 1).hi), .bool ((ivTimes x1 1).no)], 26, false⟩, ⟨g1, [.int .i64 x1.lo, .int .i64 x1.hi, .bool x1.no], 26, false⟩, ⟨g0, [.int .i64 x0.lo, .int .i64 x0.hi, .bool x0.no], 26, false⟩, ⟨g, [.int .i64 x0.lo, .int .i64 x0.hi, .bool x0.no, .int .i64 x1.lo, .int .i64 x1.hi, .bool x1.no, .int .i64 x2.lo, .int .i64 x2.hi, .bool x2.no, .int .i64 x3.lo, .int .i64 x3.hi, .bool x3.no] ++ rest, 26, true⟩]) (bt := ⟨g8, [.int .i64 ((ivTimes x3 3).lo), .int .i64 ((ivTimes x3 3).hi), .bool ((ivTimes x3 3).no)], 26, false⟩) (xs := [.int .i64 ((ivTimes x1 1).lo), .int .i64 ((ivTimes x1 1).hi), .bool ((ivTimes x1 1).no), .int .i64 ((ivTimes x2 2).lo), .int .i64 ((ivTimes x2 2).hi), .bool ((ivTimes x2 2).no)]) (news := [.int .i64 ((ivTimes x3 3).lo), .int .i64 ((ivTimes x3 3).hi), .bool ((ivTimes x3 3).no)]) (r := []) slT24 rfl rfl rfl (Row.mk (rest := rg6) fg6) rfl (List.mem_of_getElem? (i := 0) rfl) rfl rfl rfl rfl (by decide) (by decide) (by decide) fun v9 N9 R9 => ?_)
 obtain ⟨g9, cg9, rg9, rfl, rfl, fg9⟩ := R9.pos (by decide)
 refine aA 3 (.slice (some ⟨g9, 0, none⟩) 3 cg9) rfl rfl (aN (aL (aB 21 (.int .i64 4) rfl rfl rfl (bi_add (by decide)) (aM 8 (.int .i64 4) rfl rfl (aN (ar_round (aQ (aL (aB 9 (.bool false) rfl rfl rfl (bi_lss (by decide)) (aN (aQ (ac_else rfl (ac_exit (aQ (aL (aM 22 (.slice (some ⟨g9, 0, none⟩) 3 cg9) rfl rfl (aA 2 (.slice (some ⟨g9, 0, none⟩) 3 cg9) rfl rfl (aN (ac_ret ?_)))))))))))))))))))
 exact fing_ret (N := [⟨g9, [.int .i64 ((ivTimes x1 1).lo), .int .i64 ((ivTimes x1 1).hi), .bool ((ivTimes x1 1).no), .int .i64 ((ivTimes x2 2).lo), .int .i64 ((ivTimes x2 2).hi), .bool ((ivTimes x2 2).no), .int .i64 ((ivTimes x3 3).lo), .int .i64 ((ivTimes x3 3).hi), .bool ((ivTimes x3 3).no)] ++ rg9, 26, false⟩]) (Row.mk fg9) (List.Sublist.cons_cons _ (List.nil_sublist _)) rfl (res_tmp rfl rfl)
end Go.Proofs.Ythngkopcadlciaa
