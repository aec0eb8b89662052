import Derived.Test.YthngkopcadlciaaMNormalLess1
import Derived.Laws.Append
import Derived.Test.YthngkopcadlciaaMNormalLess2
import Derived.Test.YthngkopcadlciaaMNormalLess5
import Derived.RangeFuncCalls
import Derived.RangeFuncBox
import Derived.RangeFuncWrites
import Derived.OwnWalkIn
import Derived.TacticsIn
import Derived.OrdersIn
import Derived.RangeFuncLeaves
import Derived.RangeFuncNested
import Derived.Shelf.Abstract
import Derived.TacticsInMore
import Derived.LoopNIn
import Derived.LoopIn
set_option linter.unusedVariables false
set_option linter.unusedSimpArgs false
namespace Go.Proofs.Ythngkopcadlciaa
open Go.RowKit
structure SlT (p : Program) (t e : TypeId) (s by_ : Nat) : Prop where
  un : p.underlying t = some (.slice e)
  ex : ∃ z, (p.info? e).map (fun i => (i.zero, i.size, i.bytes)) = some (some z, s, by_) ∧ z.cells.size = s ∧ 0 < s
theorem SlT.out {p : Program} {t e : TypeId} {s by_ : Nat} (h : SlT p t e s by_) : ∃ i z, p.info? e = some i ∧ i.zero = some z ∧ i.size = s ∧ i.bytes = by_ ∧ z.cells.size = s ∧ 0 < s := by
  obtain ⟨z, h1, h2, h3⟩ := h.ex
  cases hq : p.info? e with
  | none => simp [hq] at h1
  | some i =>
    simp only [hq, Option.map_some, Option.some.injEq, Prod.mk.injEq] at h1
    exact ⟨i, z, rfl, h1.1, h1.2.1, h1.2.2, h2, h3⟩
def Row (e s n : Nat) (xs : List Value) (v : Value) (N : List Box) : Prop :=
  (n = 0 ∧ xs = [] ∧ v = .slice none 0 0 ∧ N = []) ∨ ∃ g cap rest, v = .slice (some ⟨g, 0, none⟩) n cap ∧ N = [⟨g, xs ++ rest, e, false⟩] ∧ xs.length = n * s ∧ (xs ++ rest).length = cap * s ∧ n ≤ cap ∧ cap ≤ maxLen
theorem Row.nil (e s : Nat) : Row e s 0 [] (.slice none 0 0) [] := .inl ⟨rfl, rfl, rfl, rfl⟩
section
variable {p : Program} {n : Nat} {ops : Array Oper} {Q : Exit → Env → List Box → Prop} {l : List Oper} {E : Env} {H : List Box} {o : Oper} {ρ : Operand → Value} {K : Post}
theorem st_app {t e s by_ k m c gt : Nat} {x y : Operand} {v : Value} {xs news r : List Value} {N A B : List Box} {bt : Box} (hs : SlT p t e s by_) (ho : o.op = .call { callee := .builtin .append, args := #[x, y], argTypes := #[t, t] })
    (hx : ρ x = v) (hy : ρ y = .slice (some ⟨gt, 0, none⟩) m c) (hR : Row e s k xs v N) (hH : H = A ++ (N ++ B)) (hbt : bt ∈ A ++ B) (hg : bt.g = gt) (hc : bt.cs = news ++ r) (hl : news.length = m * s) (h1 : news.all (·.oneCell') = true) (hm : 0 < m)
    (h63 : k + m ≤ maxLen) (hby : (k + m) * by_ ≤ 140737488355328) (kk : ∀ v' N', Row e s (k + m) (xs ++ news) v' N' → K v' (N' ++ (A ++ B))) : Step p ρ o H K := by
  intro F β w hO hB
  have hu := hs.un
  obtain ⟨inf, z, hi, hz, hsz, hbz, hzc, hs0⟩ := hs.out
  subst hsz hbz hH
  have hsmall : k + m ≤ 9223372036854775807 := by simp only [maxLen] at h63; omega
  have hO1 : Own β (N ++ (A ++ B ++ F)) w := by
    refine hO.perm ?_
    have h1 : (A ++ (N ++ B) ++ F).Perm ((N ++ (A ++ B)) ++ F) := List.Perm.append_right F (by
      rw [← List.append_assoc, ← List.append_assoc]
      exact List.Perm.append_right B List.perm_append_comm)
    rw [List.append_assoc N] at h1
    exact h1
  have hat : ∀ j u, news[j]? = some u → w.cell? ((⟨gt, 0, none⟩ : Addr).add j) = some u := by
    intro j u hj
    obtain ⟨fr, _, hb⟩ := (hO1.at_ bt (List.mem_append_right _ (List.mem_append_left _ hbt))).2
    rw [add_at, Nat.zero_add, ← hg, cell_of_row w bt.g j _ _ _ hb, hc]
    simp only [List.getElem?_toArray]
    rw [List.getElem?_append_left (List.getElem?_eq_some_iff.1 hj).1, hj]
  have ex : ∀ w, (execOp ρ o).run p w = (match (Builtin.append_ #[t, t] o.type #[v, .slice (some ⟨gt, 0, none⟩) m c]).run p w with | .ok u w' => .ok (.value u) w' | .halt x w' => .halt x w') := by
    intro w
    rw [execOp, ho]
    simp only [resolve, List.map_toArray, List.map_cons, List.map_nil, hx, hy]
    simp [invoke, builtin, Sem.run_bind]
    cases (Builtin.append_ #[t, t] o.type #[v, .slice (some ⟨gt, 0, none⟩) m c]).run p w <;> rfl
  have zl : ∀ j, (Builtin.zeroCells z.cells j).toList.length = j * inf.size := by intro j; simp [Builtin.zeroCells, hzc]
  rw [ex]
  rcases hR with ⟨rfl, rfl, rfl, rfl⟩ | ⟨g, cap, rest, rfl, rfl, hxl, hcl, hkc, hcm⟩
  · have hr := run_append_nil (P := p) w t o.type e inf z hu hi hz ⟨gt, 0, none⟩ m c news hl hat hm (by omega) (by simp only [Nat.zero_add] at hby; omega)
    rw [hr]
    have hge := grownCap_ge w m 0 e
    have hcm := grownCap_le_maxLen w m 0 e (by omega)
    refine ⟨_, kk _ [⟨w.heap.size, news ++ (Builtin.zeroCells z.cells (grownCap w m 0 e - m)).toList, e, false⟩] (.inr ⟨w.heap.size, _, _, by rw [Nat.zero_add], rfl, by rw [Nat.zero_add]; exact hl, ?_, by omega, hcm⟩), ?_, (hB.drew).alloc _⟩
    · simp only [List.nil_append, List.length_append, zl, hl, ← Nat.add_mul]
      congr 1
      omega
    · have h3 := hO1.drew.alloc (news ++ (Builtin.zeroCells z.cells (grownCap w m 0 e - m)).toList) e
      simp only [List.nil_append] at h3 ⊢
      have e1 : (news ++ (Builtin.zeroCells z.cells (grownCap w m 0 e - m)).toList).toArray = news.toArray ++ Builtin.zeroCells z.cells (grownCap w m 0 e - m) := by
        apply Array.ext'
        simp
      rw [e1] at h3
      exact h3
  · obtain ⟨fr, hf, hgb⟩ := (hO1.at_ _ (List.mem_append_left _ (List.mem_singleton.2 rfl))).2
    obtain rfl := hf rfl
    simp only at hgb
    by_cases hroom : k + m ≤ cap
    · have hfit : k * inf.size + news.length ≤ (xs ++ rest).toArray.size := by
        simp only [List.size_toArray, hcl, hl, ← Nat.add_mul]
        exact Nat.mul_le_mul_right _ hroom
      have hr := run_append_room (P := p) w t o.type e inf hu hi g k cap (xs ++ rest).toArray hgb ⟨gt, 0, none⟩ m c news hl hat (fun u hu => List.all_eq_true.1 h1 u hu) hroom hfit
      rw [hr]
      have e1 : (xs ++ rest).toArray.toList.take (k * inf.size) ++ news ++ (xs ++ rest).toArray.toList.drop (k * inf.size + news.length) = xs ++ news ++ rest.drop news.length := by
        simp only [List.toList_toArray]
        rw [← hxl, List.take_left, List.drop_length_add_append]
      rw [e1]
      have hmay : β.may g := (((hO1.at_ _ (List.mem_append_left _ (List.mem_singleton.2 rfl))).1).resolve_left (by simp))
      refine ⟨_, kk _ [⟨g, xs ++ news ++ rest.drop news.length, e, false⟩] (.inr ⟨g, cap, _, rfl, rfl, ?_, ?_, hroom, hcm⟩), ?_, hB.setRow _ _ hmay⟩
      · rw [List.length_append, hxl, hl, Nat.add_mul]
      · rw [← hcl]
        simp only [List.length_append, List.length_drop]
        have : news.length ≤ rest.length := by
          have := hfit
          simp only [List.size_toArray, List.length_append, hxl] at this
          omega
        omega
      · have h3 := hO1.set 0 _ rfl rfl (xs ++ news ++ rest.drop news.length)
        exact h3
    · have hold : ∀ j u, xs[j]? = some u → w.cell? ((⟨g, 0, none⟩ : Addr).add j) = some u := by
        intro j u hj
        rw [add_at, Nat.zero_add, cell_of_row w g j _ _ _ hgb]
        simp only [List.getElem?_toArray]
        rw [List.getElem?_append_left (List.getElem?_eq_some_iff.1 hj).1, hj]
      have hr := run_append_grow (P := p) w t o.type e inf z hu hi hz ⟨g, 0, none⟩ k cap xs hxl hold ⟨gt, 0, none⟩ m c news hl hat (by omega) (by omega) (growslice_fits (by omega) hby)
      rw [hr]
      have hge := grownCap_ge w (k + m) cap e
      have hcm := grownCap_le_maxLen w (k + m) cap e h63
      refine ⟨_, kk _ [⟨w.heap.size, xs ++ news ++ (Builtin.zeroCells z.cells (grownCap w (k + m) cap e - (k + m))).toList, e, false⟩] (.inr ⟨w.heap.size, _, _, rfl, rfl, ?_, ?_, hge, hcm⟩), ?_, (hB.drew).alloc _⟩
      · rw [List.length_append, hxl, hl, Nat.add_mul]
      · simp only [List.length_append, zl, hl, hxl, ← Nat.add_mul]
        congr 1
        omega
      · have h2 : Own β (A ++ B ++ F) w := Own.sub (List.sublist_append_right _ _) hO1
        have h3 := h2.drew.alloc (xs ++ news ++ (Builtin.zeroCells z.cells (grownCap w (k + m) cap e - (k + m))).toList) e
        have e1 : (xs ++ news ++ (Builtin.zeroCells z.cells (grownCap w (k + m) cap e - (k + m))).toList).toArray = xs.toArray ++ news.toArray ++ Builtin.zeroCells z.cells (grownCap w (k + m) cap e - (k + m)) := by
          apply Array.ext'
          simp
        rw [e1] at h3
        exact h3
theorem ar_perm {H' : List Box} (hp : H.Perm H') (h : AR p n ops Q l E H) : AR p n ops Q l E H' :=
  fun β w a hO hB hs => h β w a (hO.perm hp.symm) hB hs
theorem Row.form {e s n : Nat} {xs : List Value} {v : Value} {N : List Box} (h : Row e s n xs v N) : ∃ a cap, v = .slice a n cap := by
  rcases h with ⟨rfl, _, rfl, _⟩ | ⟨g, cap, rest, rfl, _⟩
  · exact ⟨_, _, rfl⟩
  · exact ⟨_, _, rfl⟩
theorem st_appZ {t e s by_ k m c gt : Nat} {x y : Operand} {v : Value} {xs news r : List Value} {N A : List Box} {bt : Box} (hs : SlT p t e s by_) (ho : o.op = .call { callee := .builtin .append, args := #[x, y], argTypes := #[t, t] })
    (hx : ρ x = v) (hy : ρ y = .slice (some ⟨gt, 0, none⟩) m c) (hR : Row e s k xs v N) (hH : H = A ++ N) (hbt : bt ∈ A) (hg : bt.g = gt) (hc : bt.cs = news ++ r) (hl : news.length = m * s) (h1 : news.all (·.oneCell') = true) (hm : 0 < m)
    (h63 : k + m ≤ maxLen) (hby : (k + m) * by_ ≤ 140737488355328) (hK : ∀ v H H', H.Perm H' → K v H → K v H') (kk : ∀ v' N', Row e s (k + m) (xs ++ news) v' N' → K v' (A ++ N')) : Step p ρ o H K :=
  st_app (A := A) (B := []) hs ho hx hy hR (by rw [hH, List.append_nil]) (by rw [List.append_nil]; exact hbt) hg hc hl h1 hm h63 hby fun v' N' h => by
    rw [List.append_nil]
    exact hK _ _ _ List.perm_append_comm (kk v' N' h)
end
end Go.Proofs.Ythngkopcadlciaa
namespace Go.Proofs.Ythngkopcadlciaa
open Go.RowKit
section
variable {p : Program} {n : Nat} {ops : Array Oper} {Q : Exit → Env → List Box → Prop}
def AAny (p : Program) (n : Nat) (ops : Array Oper) (Q : Exit → Env → List Box → Prop) (fuel : Nat) (L : List Bool) (E : Env) (H : List Box) : Prop :=
  ∀ β w a, Own β H w → Keeps β w → Sees n E a → wpAny p .any ops (AQ n β Q) fuel L.toArray a w
def OpR (p : Program) (n : Nat) (ops : Array Oper) (E : Env) (H : List Box) (i : Nat) (K : Env → List Box → Prop) : Prop :=
  ∃ o, ops[i]? = some o ∧ ((yld n ops E o = true ∧ Step p (ev n E) o H fun v H' => K (E.put o.dst v) H') ∨ (yld n ops E o = false ∧ K (E.put o.dst undef) H))
def Each (P : Nat → Prop) : List Nat → Prop
  | [] => True
  | i :: is => P i ∧ Each P is
theorem each_mem {P : Nat → Prop} : ∀ {is : List Nat}, Each P is → ∀ i ∈ is, P i
  | [], _, _, h => by cases h
  | j :: is, h, i, hi => by
    rcases List.mem_cons.1 hi with rfl | hi
    · exact h.1
    · exact each_mem h.2 i hi
theorem opR_op {E : Env} {H : List Box} {i : Nat} {d : Option Nat} {K : Env → List Box → Prop} {o : Oper} (ho : ops[i]? = some o) (hg : o.guard = none) (hd : o.dst = d) (h : Step p (ev n E) o H fun v H' => K (E.put d v) H') : OpR p n ops E H i K := by
  subst hd
  exact ⟨o, ho, .inl ⟨by unfold yld; rw [hg], h⟩⟩
def StepRule (p : Program) (n : Nat) (ops : Array Oper) (Φ : Nat → List Bool → Env → List Box → Prop) : Prop :=
  ∀ fuel L E H is, Region.ready .any ops L.toArray = is → is.isEmpty = false → Each (fun i => OpR p n ops E H i (Φ fuel (L.set i true))) is → Φ (fuel + 1) L E H
def PermRule (Φ : Nat → List Bool → Env → List Box → Prop) : Prop := ∀ fuel L E H H', H.Perm H' → Φ fuel L E H → Φ fuel L E H'
theorem ac_any {id : Nat} {E : Env} {H : List Box} (hm : p.follows .mixedOrders = true) (k : Nat) (hk : ops.size = k)
    (h : ∀ Φ : Nat → List Bool → Env → List Box → Prop, StepRule p n ops Φ → (∀ L E H, Region.ready .any ops L.toArray = [] → Q .normal E H → Φ 0 L E H) → PermRule Φ → Φ k (List.replicate k false) E H) : AC p n (.region id ops true) Q E H := by
  have key := h (AAny p n ops Q) (by
    intro fuel L E H is hr hne he β w a hO hB hs
    refine ⟨fun h => ?_, fun i hi => ?_⟩
    · rw [hr] at h
      rw [h] at hne
      cases hne
    · rw [hr] at hi
      obtain ⟨o, ho, hop⟩ := each_mem he i hi
      unfold wpOp
      simp only [ho]
      rw [hs.yld]
      rcases hop with ⟨hw, hst⟩ | ⟨hw, hk⟩
      · rw [hw, if_pos rfl]
        refine .inl (hst.wp hs hO hB fun v H' w' k hO' hB' => ?_)
        have := k β w' _ hO' hB' (hs.put _ _)
        rwa [← List.setIfInBounds_toArray] at this
      · rw [hw, if_neg (by simp)]
        have := hk β w _ hO hB (hs.put _ _)
        rwa [← List.setIfInBounds_toArray] at this) (by
    intro L E H hr hq β w a hO hB hs
    exact ⟨hr, E, H, hq, hs, hO, hB⟩) (fun fuel L E H H' hp h β w a hO hB hs => h β w a (hO.perm hp.symm) hB hs)
  intro β w a hO hB hs
  refine wp_region_any hm ?_
  have := key β { w with drawn := w.drawn + 1 } a hO.drew hB.drew hs
  rw [← hk] at this
  rwa [List.toArray_replicate] at this
end
theorem Row.pos {e s n : Nat} {xs : List Value} {v : Value} {N : List Box} (h : Row e s n xs v N) (hn : 0 < n) : ∃ g cap rest, v = .slice (some ⟨g, 0, none⟩) n cap ∧ N = [⟨g, xs ++ rest, e, false⟩] ∧ (xs.length = n * s ∧ (xs ++ rest).length = cap * s ∧ n ≤ cap ∧ cap ≤ maxLen) := by
  rcases h with ⟨rfl, _⟩ | ⟨g, cap, rest, h1, h2, h3, h4, h5, h6⟩
  · cases hn
  · exact ⟨g, cap, rest, h1, h2, h3, h4, h5, h6⟩
theorem Row.mk {e s n g cap : Nat} {xs rest : List Value} (h : xs.length = n * s ∧ (xs ++ rest).length = cap * s ∧ n ≤ cap ∧ cap ≤ maxLen) : Row e s n xs (.slice (some ⟨g, 0, none⟩) n cap) [⟨g, xs ++ rest, e, false⟩] := .inr ⟨g, cap, rest, rfl, rfl, h.1, h.2.1, h.2.2.1, h.2.2.2⟩
def FinG (p : Program) (fn : Func) (n : Nat) (K : Post) : Exit → Env → List Box → Prop := fun e E H => (e = .ret ∨ e = .normal) ∧ ∃ v N, K v N ∧ List.Sublist N H ∧ (N.all fun b => !b.ro) = true ∧ Res p fn n E H v
theorem gives_fin {p : Program} {f : FuncId} {fn : Func} {c : Code} {args : Array Value} {K : Post} {R : List Box} {n : Nat} (hf : p.funcs[f]? = some fn) (hb : fn.body = some c) (hn : fn.ntmps = n) (ha : Nat.ble args.size n = true) (hr : (R.all fun b => b.ro) = true)
    (h : AC p n c (FinG p fn n K) (envOf args) R) : Gives p f args R K := by
  intro w hA hnd
  refine calls_of_wp hf hb ?_
  refine Code.wp_mono ?_ (h ⟨fun _ => False, w⟩ w _ (own_start hA hnd (fun b hb => List.all_eq_true.1 hr b hb)) (Keeps.refl _ _) (sees_start hn ha))
  rintro e a w' ⟨E, H, ⟨he, v, N, hk, hsub, hN, hres⟩, hs, hO, hB⟩
  have hall : ∀ b ∈ N, b.ro = false := fun b hb => by simpa using List.all_eq_true.1 hN b hb
  rcases he with rfl | rfl
  · exact ⟨hs.defers, v, hres _ _ _ hO hs, v, N, rfl, hk, Own.sub hsub hO, hall, hB.below⟩
  · exact ⟨hs.defers, v, hres _ _ _ hO hs, v, N, rfl, hk, Own.sub hsub hO, hall, hB.below⟩
theorem np_fing {p : Program} {fn : Func} {n : Nat} {K : Post} : ∀ c E H, ¬ FinG p fn n K (.panic c) E H := fun c E H h => by
  rcases h.1 with h | h <;> cases h
theorem fing_ret {p : Program} {fn : Func} {n : Nat} {K : Post} {E : Env} {H N : List Box} {v : Value} (hk : K v N) (hs : List.Sublist N H) (hN : (N.all fun b => !b.ro) = true) (h : Res p fn n E H v) : FinG p fn n K .ret E H := ⟨.inl rfl, v, N, hk, hs, hN, h⟩
theorem fing_v {p : Program} {fn : Func} {n : Nat} {u v : Value} {e : Exit} {E : Env} {H : List Box} (h : Fin p fn n v e E H) (hv : v = u) : FinG p fn n (fun w N => w = u ∧ N = []) e E H := ⟨h.1, v, [], ⟨hv, rfl⟩, List.nil_sublist _, rfl, h.2⟩
end Go.Proofs.Ythngkopcadlciaa
namespace Go.Proofs.Ythngkopcadlciaa
open Go.RowKit
theorem bs24_1_0a (x0_0 : Int) (x0_1 : Int) (x0_2 : Bool) : Makes Try.prog (Instr.buildSlice 24 1 #[(0, .agg #[.int .i64 x0_0, .int .i64 x0_1, .bool x0_2])]) 1 [.int .i64 x0_0, .int .i64 x0_1, .bool x0_2] 26 := ⟨fun w => by go_simp⟩
theorem slT24 : SlT Try.prog 24 26 3 24 := ⟨Try.underlying24, .agg #[.int .i64 0, .int .i64 0, .bool false], by kernel_rfl, rfl, by decide⟩
end Go.Proofs.Ythngkopcadlciaa
namespace Go.Proofs.Ythngkopcadlciaa
open Go.RowKit
theorem agg41 : IsAgg Try.prog 41 23 := ⟨⟨_, Try.underlying41, rfl, by kernel_rfl⟩⟩
theorem bd41_2a_3a_4a_5a_6a_7a_8a (x0_0 : Int) (x0_1 : Int) (x0_2 : Bool) (x1_0 : Int) (x1_1 : Int) (x1_2 : Bool) (x2_0 : Int) (x2_1 : Int) (x2_2 : Bool) (x3_0 : Int) (x3_1 : Int) (x3_2 : Bool) (x4_0 : Int) (x4_1 : Int) (x4_2 : Bool) (x5_0 : Int) (x5_1 : Int) (x5_2 : Bool) (x6_0 : Int) (x6_1 : Int) (x6_2 : Bool) : Runs Try.prog (Instr.build 41 #[(2, .agg #[.int .i64 x0_0, .int .i64 x0_1, .bool x0_2]), (3, .agg #[.int .i64 x1_0, .int .i64 x1_1, .bool x1_2]), (4, .agg #[.int .i64 x2_0, .int .i64 x2_1, .bool x2_2]), (5, .agg #[.int .i64 x3_0, .int .i64 x3_1, .bool x3_2]), (6, .agg #[.int .i64 x4_0, .int .i64 x4_1, .bool x4_2]), (7, .agg #[.int .i64 x5_0, .int .i64 x5_1, .bool x5_2]), (8, .agg #[.int .i64 x6_0, .int .i64 x6_1, .bool x6_2])]) (.agg #[.bool false, .bool false, .int .i64 x0_0, .int .i64 x0_1, .bool x0_2, .int .i64 x1_0, .int .i64 x1_1, .bool x1_2, .int .i64 x2_0, .int .i64 x2_1, .bool x2_2, .int .i64 x3_0, .int .i64 x3_1, .bool x3_2, .int .i64 x4_0, .int .i64 x4_1, .bool x4_2, .int .i64 x5_0, .int .i64 x5_1, .bool x5_2, .int .i64 x6_0, .int .i64 x6_1, .bool x6_2]) := ⟨fun w => by go_simp⟩
theorem bs24_4_0a_1a_2a_3a (x0_0 : Int) (x0_1 : Int) (x0_2 : Bool) (x1_0 : Int) (x1_1 : Int) (x1_2 : Bool) (x2_0 : Int) (x2_1 : Int) (x2_2 : Bool) (x3_0 : Int) (x3_1 : Int) (x3_2 : Bool) : Makes Try.prog (Instr.buildSlice 24 4 #[(0, .agg #[.int .i64 x0_0, .int .i64 x0_1, .bool x0_2]), (1, .agg #[.int .i64 x1_0, .int .i64 x1_1, .bool x1_2]), (2, .agg #[.int .i64 x2_0, .int .i64 x2_1, .bool x2_2]), (3, .agg #[.int .i64 x3_0, .int .i64 x3_1, .bool x3_2])]) 4 [.int .i64 x0_0, .int .i64 x0_1, .bool x0_2, .int .i64 x1_0, .int .i64 x1_1, .bool x1_2, .int .i64 x2_0, .int .i64 x2_1, .bool x2_2, .int .i64 x3_0, .int .i64 x3_1, .bool x3_2] 26 := ⟨fun w => by go_simp⟩
theorem fa41_1 (a : Addr) : Runs Try.prog (Instr.fieldAt 41 (.pointer (some a)) 1) (.pointer (some (a.add 1))) := run_fa (f := 1) (off := 1) (m := 1) Try.underlying41 rfl rfl (by kernel_rfl) (by decide) a
theorem fa41_2 (a : Addr) : Runs Try.prog (Instr.fieldAt 41 (.pointer (some a)) 2) (.pointer (some (a.add 2))) := run_fa (f := 2) (off := 2) (m := 3) Try.underlying41 rfl rfl (by kernel_rfl) (by decide) a
theorem fa41_3 (a : Addr) : Runs Try.prog (Instr.fieldAt 41 (.pointer (some a)) 3) (.pointer (some (a.add 5))) := run_fa (f := 3) (off := 5) (m := 3) Try.underlying41 rfl rfl (by kernel_rfl) (by decide) a
theorem fa41_4 (a : Addr) : Runs Try.prog (Instr.fieldAt 41 (.pointer (some a)) 4) (.pointer (some (a.add 8))) := run_fa (f := 4) (off := 8) (m := 3) Try.underlying41 rfl rfl (by kernel_rfl) (by decide) a
theorem fa41_5 (a : Addr) : Runs Try.prog (Instr.fieldAt 41 (.pointer (some a)) 5) (.pointer (some (a.add 11))) := run_fa (f := 5) (off := 11) (m := 3) Try.underlying41 rfl rfl (by kernel_rfl) (by decide) a
theorem zero41 : Zero Try.prog 41 [.bool false, .bool false, .int .i64 0, .int .i64 0, .bool false, .int .i64 0, .int .i64 0, .bool false, .int .i64 0, .int .i64 0, .bool false, .int .i64 0, .int .i64 0, .bool false, .int .i64 0, .int .i64 0, .bool false, .int .i64 0, .int .i64 0, .bool false, .int .i64 0, .int .i64 0, .bool false] := ⟨⟨.agg #[.bool false, .bool false, .int .i64 0, .int .i64 0, .bool false, .int .i64 0, .int .i64 0, .bool false, .int .i64 0, .int .i64 0, .bool false, .int .i64 0, .int .i64 0, .bool false, .int .i64 0, .int .i64 0, .bool false, .int .i64 0, .int .i64 0, .bool false, .int .i64 0, .int .i64 0, .bool false], by kernel_rfl, rfl⟩⟩
end Go.Proofs.Ythngkopcadlciaa
namespace Go.Proofs.Ythngkopcadlciaa
open Go.RowKit
theorem agg83 : IsAgg Try.prog 83 2 := ⟨⟨_, Try.underlying83, rfl, by kernel_rfl⟩⟩
theorem bd83_0_1 (x0_0 : Int) (x1_0 : Int) : Runs Try.prog (Instr.build 83 #[(0, .int .i64 x0_0), (1, .int .i64 x1_0)]) (.agg #[.int .i64 x0_0, .int .i64 x1_0]) := ⟨fun w => by go_simp⟩
theorem fa83_0 (a : Addr) : Runs Try.prog (Instr.fieldAt 83 (.pointer (some a)) 0) (.pointer (some (a.add 0))) := run_fa (f := 0) (off := 0) (m := 1) Try.underlying83 rfl rfl (by kernel_rfl) (by decide) a
theorem fa83_1 (a : Addr) : Runs Try.prog (Instr.fieldAt 83 (.pointer (some a)) 1) (.pointer (some (a.add 1))) := run_fa (f := 1) (off := 1) (m := 1) Try.underlying83 rfl rfl (by kernel_rfl) (by decide) a
theorem zero83 : Zero Try.prog 83 [.int .i64 0, .int .i64 0] := ⟨⟨.agg #[.int .i64 0, .int .i64 0], by kernel_rfl, rfl⟩⟩
end Go.Proofs.Ythngkopcadlciaa
namespace Go.Proofs.Ythngkopcadlciaa
open Go.RowKit
theorem agg108 : IsAgg Try.prog 108 4 := ⟨⟨_, Try.underlying108, rfl, by kernel_rfl⟩⟩
theorem agg122 : IsAgg Try.prog 122 13 := ⟨⟨_, Try.underlying122, rfl, by kernel_rfl⟩⟩
theorem agg125 : IsAgg Try.prog 125 6 := ⟨⟨_, Try.underlying125, rfl, by kernel_rfl⟩⟩
theorem agg127 : IsAgg Try.prog 127 14 := ⟨⟨_, Try.underlying127, rfl, by kernel_rfl⟩⟩
theorem agg48 : IsAgg Try.prog 48 4 := ⟨⟨_, Try.underlying48, rfl, by kernel_rfl⟩⟩
theorem bd108_0_1a (x0_0 : ByteArray) (x1_0 : Int) (x1_1 : Int) : Runs Try.prog (Instr.build 108 #[(0, .string x0_0), (1, .agg #[.int .i64 x1_0, .int .i64 x1_1])]) (.agg #[.string x0_0, .int .i64 x1_0, .int .i64 x1_1, .slice none 0 0]) := ⟨fun w => by go_simp⟩
theorem bd120_0a_1a_2a (x0_0 : Int) (x0_1 : Int) (x1_0 : Int) (x1_1 : Int) (x2_0 : Int) (x2_1 : Int) : Runs Try.prog (Instr.build 120 #[(0, .agg #[.int .i64 x0_0, .int .i64 x0_1]), (1, .agg #[.int .i64 x1_0, .int .i64 x1_1]), (2, .agg #[.int .i64 x2_0, .int .i64 x2_1])]) (.agg #[.int .i64 x0_0, .int .i64 x0_1, .int .i64 x1_0, .int .i64 x1_1, .int .i64 x2_0, .int .i64 x2_1]) := ⟨fun w => by go_simp⟩
theorem bd122_0_1a_2a (x0_0 : ByteArray) (x1_0 : Int) (x1_1 : Int) (x1_2 : Int) (x1_3 : Int) (x1_4 : Int) (x1_5 : Int) (x2_0 : Int) (x2_1 : Int) (x2_2 : Int) (x2_3 : Int) (x2_4 : Int) (x2_5 : Int) : Runs Try.prog (Instr.build 122 #[(0, .string x0_0), (1, .agg #[.int .i64 x1_0, .int .i64 x1_1, .int .i64 x1_2, .int .i64 x1_3, .int .i64 x1_4, .int .i64 x1_5]), (2, .agg #[.int .i64 x2_0, .int .i64 x2_1, .int .i64 x2_2, .int .i64 x2_3, .int .i64 x2_4, .int .i64 x2_5])]) (.agg #[.string x0_0, .int .i64 x1_0, .int .i64 x1_1, .int .i64 x1_2, .int .i64 x1_3, .int .i64 x1_4, .int .i64 x1_5, .int .i64 x2_0, .int .i64 x2_1, .int .i64 x2_2, .int .i64 x2_3, .int .i64 x2_4, .int .i64 x2_5]) := ⟨fun w => by go_simp⟩
theorem bd122_  : Runs Try.prog (Instr.build 122 #[]) (.agg #[.string (⟨#[]⟩ : ByteArray), .int .i64 0, .int .i64 0, .int .i64 0, .int .i64 0, .int .i64 0, .int .i64 0, .int .i64 0, .int .i64 0, .int .i64 0, .int .i64 0, .int .i64 0, .int .i64 0]) := ⟨fun w => by go_simp⟩
theorem bd127_1a_2a_3a_7 (x0_0 : Int) (x0_1 : Int) (x1_0 : Int) (x1_1 : Int) (x2_0 : Int) (x2_1 : Int) (x3_0 : ByteArray) : Runs Try.prog (Instr.build 127 #[(1, .agg #[.int .i64 x0_0, .int .i64 x0_1]), (2, .agg #[.int .i64 x1_0, .int .i64 x1_1]), (3, .agg #[.int .i64 x2_0, .int .i64 x2_1]), (7, .string x3_0)]) (.agg #[.bool false, .int .i64 x0_0, .int .i64 x0_1, .int .i64 x1_0, .int .i64 x1_1, .int .i64 x2_0, .int .i64 x2_1, .int .i64 0, .int .i64 0, .int .i64 0, .int .i64 0, .int .i64 0, .int .i64 0, .string x3_0]) := ⟨fun w => by go_simp⟩
theorem bd127_2a_3a (x0_0 : Int) (x0_1 : Int) (x1_0 : Int) (x1_1 : Int) : Runs Try.prog (Instr.build 127 #[(2, .agg #[.int .i64 x0_0, .int .i64 x0_1]), (3, .agg #[.int .i64 x1_0, .int .i64 x1_1])]) (.agg #[.bool false, .int .i64 0, .int .i64 0, .int .i64 x0_0, .int .i64 x0_1, .int .i64 x1_0, .int .i64 x1_1, .int .i64 0, .int .i64 0, .int .i64 0, .int .i64 0, .int .i64 0, .int .i64 0, .string (⟨#[]⟩ : ByteArray)]) := ⟨fun w => by go_simp⟩
theorem bd41_0_1_2a_3a_4a_5a_6a_7a_8a (x0_0 : Bool) (x1_0 : Bool) (x2_0 : Int) (x2_1 : Int) (x2_2 : Bool) (x3_0 : Int) (x3_1 : Int) (x3_2 : Bool) (x4_0 : Int) (x4_1 : Int) (x4_2 : Bool) (x5_0 : Int) (x5_1 : Int) (x5_2 : Bool) (x6_0 : Int) (x6_1 : Int) (x6_2 : Bool) (x7_0 : Int) (x7_1 : Int) (x7_2 : Bool) (x8_0 : Int) (x8_1 : Int) (x8_2 : Bool) : Runs Try.prog (Instr.build 41 #[(0, .bool x0_0), (1, .bool x1_0), (2, .agg #[.int .i64 x2_0, .int .i64 x2_1, .bool x2_2]), (3, .agg #[.int .i64 x3_0, .int .i64 x3_1, .bool x3_2]), (4, .agg #[.int .i64 x4_0, .int .i64 x4_1, .bool x4_2]), (5, .agg #[.int .i64 x5_0, .int .i64 x5_1, .bool x5_2]), (6, .agg #[.int .i64 x6_0, .int .i64 x6_1, .bool x6_2]), (7, .agg #[.int .i64 x7_0, .int .i64 x7_1, .bool x7_2]), (8, .agg #[.int .i64 x8_0, .int .i64 x8_1, .bool x8_2])]) (.agg #[.bool x0_0, .bool x1_0, .int .i64 x2_0, .int .i64 x2_1, .bool x2_2, .int .i64 x3_0, .int .i64 x3_1, .bool x3_2, .int .i64 x4_0, .int .i64 x4_1, .bool x4_2, .int .i64 x5_0, .int .i64 x5_1, .bool x5_2, .int .i64 x6_0, .int .i64 x6_1, .bool x6_2, .int .i64 x7_0, .int .i64 x7_1, .bool x7_2, .int .i64 x8_0, .int .i64 x8_1, .bool x8_2]) := ⟨fun w => by go_simp⟩
theorem bd48_1a (x0_0 : Int) (x0_1 : Int) (x0_2 : Bool) : Runs Try.prog (Instr.build 48 #[(1, .agg #[.int .i64 x0_0, .int .i64 x0_1, .bool x0_2])]) (.agg #[.slice none 0 0, .int .i64 x0_0, .int .i64 x0_1, .bool x0_2]) := ⟨fun w => by go_simp⟩
theorem bd48_  : Runs Try.prog (Instr.build 48 #[]) (.agg #[.slice none 0 0, .int .i64 0, .int .i64 0, .bool false]) := ⟨fun w => by go_simp⟩
theorem bd83_  : Runs Try.prog (Instr.build 83 #[]) (.agg #[.int .i64 0, .int .i64 0]) := ⟨fun w => by go_simp⟩
theorem bs104_2_0a_1a (x0_0 : ByteArray) (x0_1 : Int) (x0_2 : Int) (x0_3 : Int) (x0_4 : Int) (x0_5 : Int) (x0_6 : Int) (x0_7 : Int) (x0_8 : Int) (x0_9 : Int) (x0_10 : Int) (x0_11 : Int) (x0_12 : Int) (x1_0 : ByteArray) (x1_1 : Int) (x1_2 : Int) (x1_3 : Int) (x1_4 : Int) (x1_5 : Int) (x1_6 : Int) (x1_7 : Int) (x1_8 : Int) (x1_9 : Int) (x1_10 : Int) (x1_11 : Int) (x1_12 : Int) : Makes Try.prog (Instr.buildSlice 104 2 #[(0, .agg #[.string x0_0, .int .i64 x0_1, .int .i64 x0_2, .int .i64 x0_3, .int .i64 x0_4, .int .i64 x0_5, .int .i64 x0_6, .int .i64 x0_7, .int .i64 x0_8, .int .i64 x0_9, .int .i64 x0_10, .int .i64 x0_11, .int .i64 x0_12]), (1, .agg #[.string x1_0, .int .i64 x1_1, .int .i64 x1_2, .int .i64 x1_3, .int .i64 x1_4, .int .i64 x1_5, .int .i64 x1_6, .int .i64 x1_7, .int .i64 x1_8, .int .i64 x1_9, .int .i64 x1_10, .int .i64 x1_11, .int .i64 x1_12])]) 2 [.string x0_0, .int .i64 x0_1, .int .i64 x0_2, .int .i64 x0_3, .int .i64 x0_4, .int .i64 x0_5, .int .i64 x0_6, .int .i64 x0_7, .int .i64 x0_8, .int .i64 x0_9, .int .i64 x0_10, .int .i64 x0_11, .int .i64 x0_12, .string x1_0, .int .i64 x1_1, .int .i64 x1_2, .int .i64 x1_3, .int .i64 x1_4, .int .i64 x1_5, .int .i64 x1_6, .int .i64 x1_7, .int .i64 x1_8, .int .i64 x1_9, .int .i64 x1_10, .int .i64 x1_11, .int .i64 x1_12] 122 := ⟨fun w => by go_simp⟩
theorem bs106_1_0a (x0_0 : Bool) (x0_1 : Int) (x0_2 : Int) (x0_3 : Int) (x0_4 : Int) (x0_5 : Int) (x0_6 : Int) (x0_7 : Int) (x0_8 : Int) (x0_9 : Int) (x0_10 : Int) (x0_11 : Int) (x0_12 : Int) (x0_13 : ByteArray) : Makes Try.prog (Instr.buildSlice 106 1 #[(0, .agg #[.bool x0_0, .int .i64 x0_1, .int .i64 x0_2, .int .i64 x0_3, .int .i64 x0_4, .int .i64 x0_5, .int .i64 x0_6, .int .i64 x0_7, .int .i64 x0_8, .int .i64 x0_9, .int .i64 x0_10, .int .i64 x0_11, .int .i64 x0_12, .string x0_13])]) 1 [.bool x0_0, .int .i64 x0_1, .int .i64 x0_2, .int .i64 x0_3, .int .i64 x0_4, .int .i64 x0_5, .int .i64 x0_6, .int .i64 x0_7, .int .i64 x0_8, .int .i64 x0_9, .int .i64 x0_10, .int .i64 x0_11, .int .i64 x0_12, .string x0_13] 127 := ⟨fun w => by go_simp⟩
theorem bs141_1_0 (x0_0 : Int) : Makes Try.prog (Instr.buildSlice 141 1 #[(0, .int .u8 x0_0)]) 1 [.int .u8 x0_0] 5 := ⟨fun w => by go_simp⟩
theorem bs46_1_0a (x0_0 : Bool) (x0_1 : Bool) (x0_2 : Int) (x0_3 : Int) (x0_4 : Bool) (x0_5 : Int) (x0_6 : Int) (x0_7 : Bool) (x0_8 : Int) (x0_9 : Int) (x0_10 : Bool) (x0_11 : Int) (x0_12 : Int) (x0_13 : Bool) (x0_14 : Int) (x0_15 : Int) (x0_16 : Bool) (x0_17 : Int) (x0_18 : Int) (x0_19 : Bool) (x0_20 : Int) (x0_21 : Int) (x0_22 : Bool) : Makes Try.prog (Instr.buildSlice 46 1 #[(0, .agg #[.bool x0_0, .bool x0_1, .int .i64 x0_2, .int .i64 x0_3, .bool x0_4, .int .i64 x0_5, .int .i64 x0_6, .bool x0_7, .int .i64 x0_8, .int .i64 x0_9, .bool x0_10, .int .i64 x0_11, .int .i64 x0_12, .bool x0_13, .int .i64 x0_14, .int .i64 x0_15, .bool x0_16, .int .i64 x0_17, .int .i64 x0_18, .bool x0_19, .int .i64 x0_20, .int .i64 x0_21, .bool x0_22])]) 1 [.bool x0_0, .bool x0_1, .int .i64 x0_2, .int .i64 x0_3, .bool x0_4, .int .i64 x0_5, .int .i64 x0_6, .bool x0_7, .int .i64 x0_8, .int .i64 x0_9, .bool x0_10, .int .i64 x0_11, .int .i64 x0_12, .bool x0_13, .int .i64 x0_14, .int .i64 x0_15, .bool x0_16, .int .i64 x0_17, .int .i64 x0_18, .bool x0_19, .int .i64 x0_20, .int .i64 x0_21, .bool x0_22] 41 := ⟨fun w => by go_simp⟩
theorem cell106 : IsCell Try.prog 106 := ⟨⟨_, Try.underlying106, rfl, by kernel_rfl⟩⟩
theorem cell46 : IsCell Try.prog 46 := ⟨⟨_, Try.underlying46, rfl, by kernel_rfl⟩⟩
theorem cell9 : IsCell Try.prog 9 := ⟨⟨_, Try.underlying9, rfl, by kernel_rfl⟩⟩
theorem fa108_0 (a : Addr) : Runs Try.prog (Instr.fieldAt 108 (.pointer (some a)) 0) (.pointer (some (a.add 0))) := run_fa (f := 0) (off := 0) (m := 1) Try.underlying108 rfl rfl (by kernel_rfl) (by decide) a
theorem fa108_1 (a : Addr) : Runs Try.prog (Instr.fieldAt 108 (.pointer (some a)) 1) (.pointer (some (a.add 1))) := run_fa (f := 1) (off := 1) (m := 2) Try.underlying108 rfl rfl (by kernel_rfl) (by decide) a
theorem fa108_2 (a : Addr) : Runs Try.prog (Instr.fieldAt 108 (.pointer (some a)) 2) (.pointer (some (a.add 3))) := run_fa (f := 2) (off := 3) (m := 1) Try.underlying108 rfl rfl (by kernel_rfl) (by decide) a
theorem fa122_0 (a : Addr) : Runs Try.prog (Instr.fieldAt 122 (.pointer (some a)) 0) (.pointer (some (a.add 0))) := run_fa (f := 0) (off := 0) (m := 1) Try.underlying122 rfl rfl (by kernel_rfl) (by decide) a
theorem fa122_1 (a : Addr) : Runs Try.prog (Instr.fieldAt 122 (.pointer (some a)) 1) (.pointer (some (a.add 1))) := run_fa (f := 1) (off := 1) (m := 6) Try.underlying122 rfl rfl (by kernel_rfl) (by decide) a
theorem fa122_2 (a : Addr) : Runs Try.prog (Instr.fieldAt 122 (.pointer (some a)) 2) (.pointer (some (a.add 7))) := run_fa (f := 2) (off := 7) (m := 6) Try.underlying122 rfl rfl (by kernel_rfl) (by decide) a
theorem fa125_0 (a : Addr) : Runs Try.prog (Instr.fieldAt 125 (.pointer (some a)) 0) (.pointer (some (a.add 0))) := run_fa (f := 0) (off := 0) (m := 1) Try.underlying125 rfl rfl (by kernel_rfl) (by decide) a
theorem fa125_1 (a : Addr) : Runs Try.prog (Instr.fieldAt 125 (.pointer (some a)) 1) (.pointer (some (a.add 1))) := run_fa (f := 1) (off := 1) (m := 1) Try.underlying125 rfl rfl (by kernel_rfl) (by decide) a
theorem fa125_2 (a : Addr) : Runs Try.prog (Instr.fieldAt 125 (.pointer (some a)) 2) (.pointer (some (a.add 2))) := run_fa (f := 2) (off := 2) (m := 1) Try.underlying125 rfl rfl (by kernel_rfl) (by decide) a
theorem fa125_3 (a : Addr) : Runs Try.prog (Instr.fieldAt 125 (.pointer (some a)) 3) (.pointer (some (a.add 3))) := run_fa (f := 3) (off := 3) (m := 1) Try.underlying125 rfl rfl (by kernel_rfl) (by decide) a
theorem fa125_4 (a : Addr) : Runs Try.prog (Instr.fieldAt 125 (.pointer (some a)) 4) (.pointer (some (a.add 4))) := run_fa (f := 4) (off := 4) (m := 1) Try.underlying125 rfl rfl (by kernel_rfl) (by decide) a
theorem fa125_5 (a : Addr) : Runs Try.prog (Instr.fieldAt 125 (.pointer (some a)) 5) (.pointer (some (a.add 5))) := run_fa (f := 5) (off := 5) (m := 1) Try.underlying125 rfl rfl (by kernel_rfl) (by decide) a
theorem fa127_0 (a : Addr) : Runs Try.prog (Instr.fieldAt 127 (.pointer (some a)) 0) (.pointer (some (a.add 0))) := run_fa (f := 0) (off := 0) (m := 1) Try.underlying127 rfl rfl (by kernel_rfl) (by decide) a
theorem fa127_1 (a : Addr) : Runs Try.prog (Instr.fieldAt 127 (.pointer (some a)) 1) (.pointer (some (a.add 1))) := run_fa (f := 1) (off := 1) (m := 2) Try.underlying127 rfl rfl (by kernel_rfl) (by decide) a
theorem fa127_2 (a : Addr) : Runs Try.prog (Instr.fieldAt 127 (.pointer (some a)) 2) (.pointer (some (a.add 3))) := run_fa (f := 2) (off := 3) (m := 2) Try.underlying127 rfl rfl (by kernel_rfl) (by decide) a
theorem fa127_3 (a : Addr) : Runs Try.prog (Instr.fieldAt 127 (.pointer (some a)) 3) (.pointer (some (a.add 5))) := run_fa (f := 3) (off := 5) (m := 2) Try.underlying127 rfl rfl (by kernel_rfl) (by decide) a
theorem fa127_4 (a : Addr) : Runs Try.prog (Instr.fieldAt 127 (.pointer (some a)) 4) (.pointer (some (a.add 7))) := run_fa (f := 4) (off := 7) (m := 2) Try.underlying127 rfl rfl (by kernel_rfl) (by decide) a
theorem fa127_5 (a : Addr) : Runs Try.prog (Instr.fieldAt 127 (.pointer (some a)) 5) (.pointer (some (a.add 9))) := run_fa (f := 5) (off := 9) (m := 2) Try.underlying127 rfl rfl (by kernel_rfl) (by decide) a
theorem fa127_6 (a : Addr) : Runs Try.prog (Instr.fieldAt 127 (.pointer (some a)) 6) (.pointer (some (a.add 11))) := run_fa (f := 6) (off := 11) (m := 2) Try.underlying127 rfl rfl (by kernel_rfl) (by decide) a
theorem fa127_7 (a : Addr) : Runs Try.prog (Instr.fieldAt 127 (.pointer (some a)) 7) (.pointer (some (a.add 13))) := run_fa (f := 7) (off := 13) (m := 1) Try.underlying127 rfl rfl (by kernel_rfl) (by decide) a
theorem fa41_6 (a : Addr) : Runs Try.prog (Instr.fieldAt 41 (.pointer (some a)) 6) (.pointer (some (a.add 14))) := run_fa (f := 6) (off := 14) (m := 3) Try.underlying41 rfl rfl (by kernel_rfl) (by decide) a
theorem fa41_7 (a : Addr) : Runs Try.prog (Instr.fieldAt 41 (.pointer (some a)) 7) (.pointer (some (a.add 17))) := run_fa (f := 7) (off := 17) (m := 3) Try.underlying41 rfl rfl (by kernel_rfl) (by decide) a
theorem fa41_8 (a : Addr) : Runs Try.prog (Instr.fieldAt 41 (.pointer (some a)) 8) (.pointer (some (a.add 20))) := run_fa (f := 8) (off := 20) (m := 3) Try.underlying41 rfl rfl (by kernel_rfl) (by decide) a
theorem fa48_0 (a : Addr) : Runs Try.prog (Instr.fieldAt 48 (.pointer (some a)) 0) (.pointer (some (a.add 0))) := run_fa (f := 0) (off := 0) (m := 1) Try.underlying48 rfl rfl (by kernel_rfl) (by decide) a
theorem fa48_1 (a : Addr) : Runs Try.prog (Instr.fieldAt 48 (.pointer (some a)) 1) (.pointer (some (a.add 1))) := run_fa (f := 1) (off := 1) (m := 3) Try.underlying48 rfl rfl (by kernel_rfl) (by decide) a
theorem ia120_0 (g off : Nat) : Runs Try.prog (Instr.indexAt 120 (.pointer (some ⟨g, off, none⟩)) (.int .i64 0)) (.pointer (some ⟨g, off + 0, none⟩)) := run_ia (i := 0) (m := 2) (j := 0) Try.underlying120 (by kernel_rfl) rfl g off (by decide) (by decide)
theorem ia120_1 (g off : Nat) : Runs Try.prog (Instr.indexAt 120 (.pointer (some ⟨g, off, none⟩)) (.int .i64 1)) (.pointer (some ⟨g, off + 2, none⟩)) := run_ia (i := 1) (m := 2) (j := 2) Try.underlying120 (by kernel_rfl) rfl g off (by decide) (by decide)
theorem ia120_2 (g off : Nat) : Runs Try.prog (Instr.indexAt 120 (.pointer (some ⟨g, off, none⟩)) (.int .i64 2)) (.pointer (some ⟨g, off + 4, none⟩)) := run_ia (i := 2) (m := 2) (j := 4) Try.underlying120 (by kernel_rfl) rfl g off (by decide) (by decide)
theorem slT106 : SlT Try.prog 106 127 14 120 := ⟨Try.underlying106, .agg #[.bool false, .int .i64 0, .int .i64 0, .int .i64 0, .int .i64 0, .int .i64 0, .int .i64 0, .int .i64 0, .int .i64 0, .int .i64 0, .int .i64 0, .int .i64 0, .int .i64 0, .string (⟨#[]⟩ : ByteArray)], by kernel_rfl, rfl, by decide⟩
theorem slT46 : SlT Try.prog 46 41 23 176 := ⟨Try.underlying46, .agg #[.bool false, .bool false, .int .i64 0, .int .i64 0, .bool false, .int .i64 0, .int .i64 0, .bool false, .int .i64 0, .int .i64 0, .bool false, .int .i64 0, .int .i64 0, .bool false, .int .i64 0, .int .i64 0, .bool false, .int .i64 0, .int .i64 0, .bool false, .int .i64 0, .int .i64 0, .bool false], by kernel_rfl, rfl, by decide⟩
theorem zero108 : Zero Try.prog 108 [.string (⟨#[]⟩ : ByteArray), .int .i64 0, .int .i64 0, .slice none 0 0] := ⟨⟨.agg #[.string (⟨#[]⟩ : ByteArray), .int .i64 0, .int .i64 0, .slice none 0 0], by kernel_rfl, rfl⟩⟩
theorem zero122 : Zero Try.prog 122 [.string (⟨#[]⟩ : ByteArray), .int .i64 0, .int .i64 0, .int .i64 0, .int .i64 0, .int .i64 0, .int .i64 0, .int .i64 0, .int .i64 0, .int .i64 0, .int .i64 0, .int .i64 0, .int .i64 0] := ⟨⟨.agg #[.string (⟨#[]⟩ : ByteArray), .int .i64 0, .int .i64 0, .int .i64 0, .int .i64 0, .int .i64 0, .int .i64 0, .int .i64 0, .int .i64 0, .int .i64 0, .int .i64 0, .int .i64 0, .int .i64 0], by kernel_rfl, rfl⟩⟩
theorem zero125 : Zero Try.prog 125 [.int .i64 0, .int .i64 0, .int .i64 0, .int .i64 0, .int .i64 0, .int .i64 0] := ⟨⟨.agg #[.int .i64 0, .int .i64 0, .int .i64 0, .int .i64 0, .int .i64 0, .int .i64 0], by kernel_rfl, rfl⟩⟩
theorem zero127 : Zero Try.prog 127 [.bool false, .int .i64 0, .int .i64 0, .int .i64 0, .int .i64 0, .int .i64 0, .int .i64 0, .int .i64 0, .int .i64 0, .int .i64 0, .int .i64 0, .int .i64 0, .int .i64 0, .string (⟨#[]⟩ : ByteArray)] := ⟨⟨.agg #[.bool false, .int .i64 0, .int .i64 0, .int .i64 0, .int .i64 0, .int .i64 0, .int .i64 0, .int .i64 0, .int .i64 0, .int .i64 0, .int .i64 0, .int .i64 0, .int .i64 0, .string (⟨#[]⟩ : ByteArray)], by kernel_rfl, rfl⟩⟩
theorem zero48 : Zero Try.prog 48 [.slice none 0 0, .int .i64 0, .int .i64 0, .bool false] := ⟨⟨.agg #[.slice none 0 0, .int .i64 0, .int .i64 0, .bool false], by kernel_rfl, rfl⟩⟩
end Go.Proofs.Ythngkopcadlciaa
namespace Go.Proofs.Ythngkopcadlciaa
open Go.RowKit
section
variable {p : Program} {n : Nat} {ops : Array Oper} {Q : Exit → Env → List Box → Prop}
def lookOk (ops : Array Oper) (B : List Nat) (o : Oper) : Bool :=
  (Oper.looksAt ops o).all fun t => B.contains t || ((List.range ops.size).any fun k => bindsOn o k && (match dstOf ops k with | some d => Nat.beq d t | none => false))
def stageOk (ops : Array Oper) (Ms B S todo nxt dn bl : List Nat) : Bool :=
  Region.noSelect ops
  && ((List.range ops.size).all fun i => match ops[i]? with | some o => (o.after.all fun e => !(Region.binds .any e) || Nat.blt e.on i) | none => false)
  && (todo.all fun i => !(Ms.contains i) && (match ops[i]? with | some o => lookOk ops B o | none => false))
  && (nxt.all fun i => Ms.contains i && !(S.contains i) && (match ops[i]? with | some o => lookOk ops B o | none => false))
  && (bl.all fun i => (List.range ops.size).any fun k => before_ ops i k && ((Ms.contains k && !(S.contains k)) || (bl.contains k && Nat.blt k i)))
  && (S.all fun i => Ms.contains i)
  && ((List.range ops.size).all fun i => S.contains i || dn.contains i || todo.contains i || nxt.contains i || bl.contains i)
def dnOk (ops : Array Oper) (m : Nat) (dn dn' : List Nat) : Bool :=
  dn'.all fun i => dn.contains i || (List.range ops.size).any fun k => before_ ops k i && (Nat.beq k m || (dn'.contains k && Nat.blt i k))
def SameAt (E F : Env) : List Nat → Prop
  | [] => True
  | t :: ts => E t = F t ∧ SameAt E F ts
theorem sameAt_mem {E F : Env} : ∀ {l : List Nat}, SameAt E F l → ∀ t ∈ l, E t = F t
  | [], _, _, h => by cases h
  | s :: l, h, t, ht => by
    rcases List.mem_cons.1 ht with rfl | ht
    · exact h.1
    · exact sameAt_mem h.2 t ht
theorem sameAt_of {E F : Env} : ∀ {l : List Nat}, (∀ t ∈ l, E t = F t) → SameAt E F l
  | [], _ => trivial
  | s :: l, h => ⟨h s List.mem_cons_self, sameAt_of fun t ht => h t (List.mem_cons_of_mem _ ht)⟩
def undone (ops : Array Oper) (L : Array Bool) : Nat := (List.range ops.size).countP fun i => !(L.getD i false)
theorem countP_one (f g : Nat → Bool) (i : Nat) : ∀ l : List Nat, l.Nodup → i ∈ l → (∀ j, j ≠ i → f j = g j) → f i = true → g i = false → l.countP f = l.countP g + 1
  | [], _, h, _, _, _ => by cases h
  | x :: l, hn, h, he, h1, h2 => by
    simp only [List.nodup_cons] at hn
    rcases List.mem_cons.1 h with rfl | h
    · rw [List.countP_cons_of_pos h1, List.countP_cons_of_neg (by rw [h2]; exact Bool.false_ne_true)]
      have : l.countP f = l.countP g := List.countP_congr fun j hj => by rw [he j (fun e => hn.1 (e ▸ hj))]
      omega
    · have hx : x ≠ i := fun e => hn.1 (e ▸ h)
      have ih := countP_one f g i l hn.2 h he h1 h2
      rw [List.countP_cons, List.countP_cons, he x hx, ih]
      omega
theorem undone_set {L : Array Bool} {i : Nat} (hs : L.size = ops.size) (hi : i < ops.size) (hl : L.getD i false = false) : undone ops L = undone ops (L.setIfInBounds i true) + 1 := by
  refine countP_one _ _ i _ List.nodup_range (List.mem_range.2 hi) (fun j hj => ?_) (by rw [hl]; rfl) ?_
  · rw [getD_set_ne false (Ne.symm hj)]
  · have : (L.setIfInBounds i true).getD i false = true := by simp [hs, hi]
    rw [this]; rfl
theorem look_congr {E F : Env} {o : Oper} {i : Nat} (ho : ops[i]? = some o) (hsel : Region.noSelect ops = true) (hl : ∀ t ∈ Oper.looksAt ops o, E t = F t) : execOp (ev n E) o = execOp (ev n F) o ∧ yld n ops E o = yld n ops F o := by
  have he : ∀ t, t ∈ Oper.looksAt ops o → ev n E (.tmp t) = ev n F (.tmp t) := fun t ht => by simp only [ev, hl t ht]
  refine ⟨execOp_congr o (fun cs b => Region.noSelect_spec hsel i o cs b ho) (fun x hx => ?_), ?_⟩
  · cases x with
    | tmp t => exact he t (List.mem_append_left _ (List.mem_filterMap.2 ⟨.tmp t, by simpa using hx, rfl⟩))
    | _ => rfl
  · unfold yld
    cases hg : o.guard with
    | none => rfl
    | some gw =>
      obtain ⟨j, want⟩ := gw
      cases hd : (ops[j]?).bind (·.dst) with
      | none => simp [hd]
      | some t =>
        simp only [hd]
        rw [he t (by simp [Oper.looksAt, hg, hd])]
def Stage (p : Program) (n : Nat) (ops : Array Oper) (Q : Exit → Env → List Box → Prop) (Ms B S dn : List Nat) (F : Env) (H : List Box) : Prop :=
  ∀ (L : Array Bool) (E : Env), L.size = ops.size → Down ops L → (∀ m ∈ Ms, L.getD m false = S.contains m) → (∀ i ∈ dn, L.getD i false = true) → (∀ t ∈ B, E t = F t) → (∀ i, L.getD i false = true → ∀ d, dstOf ops i = some d → E d = F d) →
    ∀ β w a, Own β H w → Keeps β w → Sees n E a → wpAny p .any ops (AQ n β Q) (undone ops L) L a w
def TellsF (p : Program) (n : Nat) (ops : Array Oper) (H : List Box) (F : Env) (i : Nat) : Prop := ∃ v, Tells p n ops H F i v ∧ ∀ d, dstOf ops i = some d → v = F d
def slotsOf (ops : Array Oper) (B : List Nat) (l : List Nat) : List Nat := B ++ l.filterMap (dstOf ops)
theorem stage_rule {Ms B S dn : List Nat} {F : Env} {H : List Box} (todo nxt bl : List Nat) (hok : stageOk ops Ms B S todo nxt dn bl = true)
    (hq : Each (TellsF p n ops H F) todo)
    (hm : Each (fun i => OpR p n ops F H i fun F1 H' => ∃ F' dn', SameAt F' F1 (slotsOf ops B (dn ++ todo ++ S ++ [i])) ∧ dnOk ops i dn dn' = true ∧ Stage p n ops Q Ms B (i :: S) dn' F' H') nxt)
    (hfin : nxt = [] → ∀ E, (∀ t ∈ slotsOf ops B (dn ++ todo ++ S), E t = F t) → Q .normal E H) : Stage p n ops Q Ms B S dn F H := by
  simp only [stageOk, Bool.and_eq_true, List.all_eq_true, List.mem_range] at hok
  obtain ⟨⟨⟨⟨⟨⟨hsel, hback⟩, htodo⟩, hnxt⟩, hbl⟩, hSM⟩, hcov⟩ := hok
  have back : ∀ i o, ops[i]? = some o → ∀ e ∈ o.after, Region.binds .any e = true → e.on < i := by
    intro i o ho e he hb
    have := hback i (Array.getElem?_eq_some_iff.1 ho).1
    rw [ho] at this
    have h := Array.all_eq_true_iff_forall_mem.1 this e he
    simpa [hb] using h
  suffices key : ∀ (fuel : Nat) (L : Array Bool) (E : Env), undone ops L = fuel → L.size = ops.size → Down ops L → (∀ m ∈ Ms, L.getD m false = S.contains m) → (∀ i ∈ dn, L.getD i false = true) → (∀ t ∈ B, E t = F t) → (∀ i, L.getD i false = true → ∀ d, dstOf ops i = some d → E d = F d) →
      ∀ β w a, Own β H w → Keeps β w → Sees n E a → wpAny p .any ops (AQ n β Q) fuel L a w by
    intro L E h1 h2 h3 h4 h5 h6
    exact key _ L E rfl h1 h2 h3 h4 h5 h6
  intro fuel
  induction fuel with
  | zero =>
    intro L E hu hs hd hM hdn hB hE β w a hO hK hse
    have all : ∀ i, i < ops.size → L.getD i false = true := by
      intro i hi
      have := (List.countP_eq_zero.1 hu) i (List.mem_range.2 hi)
      simpa using this
    have hr : Region.ready .any ops L = [] := by
      apply List.eq_nil_iff_forall_not_mem.2
      intro i hi
      obtain ⟨h0, o, ho, _⟩ := mem_ready.1 hi
      have hlt := (Array.getElem?_eq_some_iff.1 ho).1
      have := all i hlt
      simp only [Array.getD_eq_getD_getElem?] at this h0
      cases hq : L[i]? with
      | none => simp [hq] at this
      | some b => simp [hq] at this h0; rw [this] at h0; cases h0
    have hn : nxt = [] := by
      cases hx : nxt with
      | nil => rfl
      | cons m ms =>
        have h1 := hnxt m (by rw [hx]; exact List.mem_cons_self)
        simp only [Bool.and_eq_true, Bool.not_eq_true'] at h1
        have h2 := hM m (by simpa using h1.1.1)
        rw [h1.1.2] at h2
        cases ho : ops[m]? with
        | none => simp [ho] at h1
        | some o =>
          have := all m (Array.getElem?_eq_some_iff.1 ho).1
          rw [this] at h2
          cases h2
    refine ⟨hr, E, H, hfin hn E (fun t ht => ?_), hse, hO, hK⟩
    rcases List.mem_append.1 ht with ht | ht
    · exact hB t ht
    · obtain ⟨i, hi, hd⟩ := List.mem_filterMap.1 ht
      refine hE i ?_ t hd
      unfold dstOf at hd
      cases ho : ops[i]? with
      | none => simp [ho] at hd
      | some o => exact all i (Array.getElem?_eq_some_iff.1 ho).1
  | succ fuel ih =>
    intro L E hu hs hd hM hdn hB hE β w a hO hK hse
    have notbl : ∀ m i, i < m → i ∈ bl → L.getD i false = false := by
      intro m
      induction m with
      | zero => intro i h; omega
      | succ m ihm =>
        intro i him hi
        obtain ⟨k, hk, hb⟩ := List.any_eq_true.1 (hbl i hi)
        simp only [Bool.and_eq_true, Bool.or_eq_true, Bool.not_eq_true', Nat.blt_eq] at hb
        obtain ⟨o, ho, e, he, hbd, hon⟩ := before_spec hb.1
        have hkf : L.getD k false = false := by
          rcases hb.2 with h | h
          · rw [hM k (by simpa using h.1), h.2]
          · exact ihm k (by omega) (by simpa using h.1)
        cases hl : L.getD i false with
        | false => rfl
        | true =>
          have := hd i o ho hl e he hbd
          rw [hon, hkf] at this
          cases this
    refine ⟨fun hr => ?_, fun i hi => ?_⟩
    · -- something has not come up: something may
      exfalso
      have hex : ∃ i, i < ops.size ∧ L.getD i false = false := by
        refine Classical.byContradiction fun hc => ?_
        have : undone ops L = 0 := List.countP_eq_zero.2 fun i hi => by
          have hi' := List.mem_range.1 hi
          cases hl : L.getD i false with
          | true => simp
          | false => exact absurd ⟨i, hi', hl⟩ hc
        omega
      have rs : ∀ m i, i < m → i < ops.size → L.getD i false = false → ∃ j, j ∈ Region.ready .any ops L := by
        intro m
        induction m with
        | zero => intro i h; omega
        | succ m ihm =>
          intro i him hi hl
          obtain ⟨o, ho⟩ : ∃ o, ops[i]? = some o := ⟨_, Array.getElem?_eq_getElem hi⟩
          by_cases hall : ∀ e ∈ o.after, Region.binds .any e = true → L.getD e.on false = true
          · refine ⟨i, mem_ready.2 ⟨?_, o, ho, hall⟩⟩
            have hi' : i < L.size := by omega
            simpa [hi'] using hl
          · obtain ⟨e, he, hb, hne⟩ : ∃ e, e ∈ o.after ∧ Region.binds .any e = true ∧ ¬ L.getD e.on false = true := by
              refine Classical.byContradiction fun hc => hall fun e he hb => ?_
              exact Classical.byContradiction fun hn => hc ⟨e, he, hb, hn⟩
            have hlt := back i o ho e he hb
            exact ihm e.on (by omega) (by omega) (by simpa using hne)
      obtain ⟨i, hi, hl⟩ := hex
      obtain ⟨j, hj⟩ := rs (i + 1) i (by omega) hi hl
      rw [hr] at hj
      cases hj
    · obtain ⟨h0, o, ho, hall⟩ := mem_ready.1 hi
      have hlt := (Array.getElem?_eq_some_iff.1 ho).1
      have hl : L.getD i false = false := by
        have hi' : i < L.size := by omega
        simpa [hi'] using h0
      have hcnt := undone_set hs hlt hl
      have hs' : (L.setIfInBounds i true).size = ops.size := by simp [hs]
      have hd' := hd.set hi
      have hLi : (L.setIfInBounds i true).getD i false = true := by simp [hs, hlt]
      have hLj : ∀ j, j ≠ i → (L.setIfInBounds i true).getD j false = L.getD j false := fun j hj => getD_set_ne false (Ne.symm hj)
      have looks : lookOk ops B o = true → ∀ t ∈ Oper.looksAt ops o, E t = F t := by
        intro hlk t ht
        have := List.all_eq_true.1 hlk t ht
        rw [Bool.or_eq_true, List.any_eq_true] at this
        rcases this with h | ⟨k, hk, h⟩
        · exact hB t (by simpa using h)
        · simp only [Bool.and_eq_true] at h
          obtain ⟨hbo, hdt⟩ := h
          unfold bindsOn at hbo
          obtain ⟨e, he, hbb⟩ := Array.any_eq_true'.1 hbo
          simp only [Bool.and_eq_true, beq_iff_eq] at hbb
          have hlk := hall e he hbb.1
          rw [hbb.2] at hlk
          cases hdk : dstOf ops k with
          | none => simp [hdk] at hdt
          | some d =>
            simp only [hdk] at hdt
            have : d = t := Nat.eq_of_beq_eq_true hdt
            rw [← this]
            exact hE k hlk d hdk
      have hc := hcov i hlt
      simp only [Bool.or_eq_true] at hc
      have notS : S.contains i = false := by
        cases hS : S.contains i with
        | false => rfl
        | true =>
          have hm := hSM i (by simpa using hS)
          rw [hM i (by simpa using hm), hS] at hl
          cases hl
      have hfu : undone ops (L.setIfInBounds i true) = fuel := by omega
      unfold wpOp
      simp only [ho]
      rw [hse.yld]
      have htn : i ∈ todo ∨ i ∈ nxt := by
        rcases hc with (((h | h) | h) | h) | h
        · rw [notS] at h; cases h
        · have := hdn i (by simpa using h)
          rw [hl] at this; cases this
        · exact .inl (by simpa using h)
        · exact .inr (by simpa using h)
        · exfalso
          have hib : i ∈ bl := by simpa using h
          obtain ⟨k, hk, hb⟩ := List.any_eq_true.1 (hbl i hib)
          simp only [Bool.and_eq_true, Bool.or_eq_true, Bool.not_eq_true', Nat.blt_eq] at hb
          obtain ⟨o', ho', e, he, hbd, hon⟩ := before_spec hb.1
          rw [ho] at ho'
          cases ho'
          have h1 := hall e he hbd
          rw [hon] at h1
          rcases hb.2 with h | h
          · rw [hM k (by simpa using h.1), h.2] at h1; cases h1
          · rw [notbl (k + 1) k (by omega) (by simpa using h.1)] at h1; cases h1
      rcases htn with hti | hni
      · -- one that tells the same
        have ht := htodo i hti
        rw [ho] at ht
        simp only [Bool.and_eq_true, Bool.not_eq_true'] at ht
        have hl' := looks ht.2
        obtain ⟨v, hT, hv⟩ := each_mem hq i hti
        obtain ⟨o', ho', hT⟩ := tells_congr (E' := E) hsel hT (fun o' ho' t htl => by rw [ho] at ho'; cases ho'; exact hl' t htl)
        rw [ho] at ho'
        cases ho'
        have hdst : dstOf ops i = o.dst := by simp [dstOf, ho]
        have go : ∀ w' a' , Own β H w' → Keeps β w' → Sees n (E.put o.dst v) a' → wpAny p .any ops (AQ n β Q) fuel (L.setIfInBounds i true) a' w' := by
          intro w' a' hO' hK' hs2
          refine ih _ (E.put o.dst v) hfu hs' hd' (fun m hm => ?_) (fun j hj => getD_set_true (hdn j hj)) (fun t htB => ?_) (fun j hj d hdj => ?_) β w' a' hO' hK' hs2
          · have hne : m ≠ i := by
              intro e
              have := ht.1
              rw [← e] at this
              simp [hm] at this
            rw [hLj m hne]
            exact hM m hm
          · rw [put_apply]
            split
            · rename_i h; exact hv t (by rw [hdst]; exact h)
            · exact hB t htB
          · rw [put_apply]
            split
            · rename_i h; exact hv d (by rw [hdst]; exact h)
            · rename_i h
              by_cases hji : j = i
              · subst hji; rw [hdst] at hdj; exact absurd hdj h
              · rw [hLj j hji] at hj
                exact hE j hj d hdj
        rcases hT with ⟨hw, hstep⟩ | ⟨hw, hvu⟩
        · rw [hw, if_pos rfl]
          refine .inl (hstep.wp hse hO hK ?_)
          rintro v' H' w' ⟨rfl, rfl⟩ hO' hK'
          exact go w' _ hO' hK' (hse.put _ _)
        · rw [hw, if_neg (by simp)]
          subst hvu
          exact go w _ hO hK (hse.put _ _)
      · -- one that makes or writes
        have ht := hnxt i hni
        rw [ho] at ht
        simp only [Bool.and_eq_true, Bool.not_eq_true'] at ht
        have hl' := looks ht.2
        obtain ⟨o', ho', hT⟩ := each_mem hm i hni
        rw [ho] at ho'
        cases ho'
        obtain ⟨hx, hy⟩ := look_congr (n := n) ho hsel hl'
        have hdst : dstOf ops i = o.dst := by simp [dstOf, ho]
        have go : ∀ v w' a' H' F' dn', SameAt F' (F.put o.dst v) (slotsOf ops B (dn ++ todo ++ S ++ [i])) → dnOk ops i dn dn' = true → Stage p n ops Q Ms B (i :: S) dn' F' H' → Own β H' w' → Keeps β w' → Sees n (E.put o.dst v) a' → wpAny p .any ops (AQ n β Q) fuel (L.setIfInBounds i true) a' w' := by
          intro v w' a' H' F' dn' hsame hdn' hst hO' hK' hs2
          have hin : ∀ j, (L.setIfInBounds i true).getD j false = true → j ∈ dn ++ todo ++ S ++ [i] := by
            intro j hj
            by_cases hji : j = i
            · rw [hji]; simp
            · rw [hLj j hji] at hj
              have hjl : j < ops.size := by
                have : j < L.size := by
                  refine Nat.lt_of_not_le fun hle => ?_
                  simp [Array.getElem?_eq_none hle] at hj
                omega
              have hc2 := hcov j hjl
              simp only [Bool.or_eq_true] at hc2
              rcases hc2 with (((h | h) | h) | h) | h
              · have : j ∈ S := by simpa using h
                simp [this]
              · have : j ∈ dn := by simpa using h
                simp [this]
              · have : j ∈ todo := by simpa using h
                simp [this]
              · have h1 := hnxt j (by simpa using h)
                simp only [Bool.and_eq_true, Bool.not_eq_true'] at h1
                rw [hM j (by simpa using h1.1.1), h1.1.2] at hj
                cases hj
              · rw [notbl (j + 1) j (by omega) (by simpa using h)] at hj
                cases hj
          have hsm := sameAt_mem hsame
          have := hst (L.setIfInBounds i true) (E.put o.dst v) hs' hd' (fun m hm => ?_) ?_ (fun t htB => ?_) (fun j hj d hdj => ?_) β w' a' hO' hK' hs2
          · rw [hfu] at this; exact this
          · by_cases hmi : m = i
            · rw [hmi, hLi]; simp
            · rw [hLj m hmi, hM m hm]
              simp [hmi]
          · -- what is sure to have come up
            simp only [dnOk, List.all_eq_true] at hdn'
            have kd : ∀ q j, ops.size - j ≤ q → j ∈ dn' → (L.setIfInBounds i true).getD j false = true := by
              intro q
              induction q with
              | zero =>
                intro j hq hj
                have h := hdn' j hj
                rw [Bool.or_eq_true, List.any_eq_true] at h
                rcases h with h | ⟨k, hk, h⟩
                · exact getD_set_true (hdn j (by simpa using h))
                · simp only [Bool.and_eq_true] at h
                  obtain ⟨o2, ho2, e, he, hbd, hon⟩ := before_spec h.1
                  have h1 := back k o2 ho2 e he hbd
                  have h2 := (Array.getElem?_eq_some_iff.1 ho2).1
                  omega
              | succ q ihq =>
                intro j hq hj
                have h := hdn' j hj
                rw [Bool.or_eq_true, List.any_eq_true] at h
                rcases h with h | ⟨k, hk, h⟩
                · exact getD_set_true (hdn j (by simpa using h))
                · simp only [Bool.and_eq_true, Bool.or_eq_true, Nat.blt_eq] at h
                  obtain ⟨hbf, h⟩ := h
                  obtain ⟨o2, ho2, e, he, hbd, hon⟩ := before_spec hbf
                  have h1 := back k o2 ho2 e he hbd
                  have hkt : (L.setIfInBounds i true).getD k false = true := by
                    rcases h with h | h
                    · rw [Nat.eq_of_beq_eq_true h]; exact hLi
                    · exact ihq k (by omega) (by simpa using h.1)
                  have := hd' k o2 ho2 hkt e he hbd
                  rw [hon] at this
                  exact this
            exact fun j hj => kd _ j (Nat.le_refl _) hj
          · rw [hsm t (List.mem_append_left _ htB), put_apply, put_apply]
            split
            · rfl
            · exact hB t htB
          · have hmem : d ∈ slotsOf ops B (dn ++ todo ++ S ++ [i]) := List.mem_append_right _ (List.mem_filterMap.2 ⟨j, hin j hj, hdj⟩)
            rw [hsm d hmem, put_apply, put_apply]
            split
            · rfl
            · rename_i h
              by_cases hji : j = i
              · subst hji; rw [hdst] at hdj; exact absurd hdj h
              · rw [hLj j hji] at hj
                exact hE j hj d hdj
        rw [hy]
        rcases hT with ⟨hw, hstep⟩ | ⟨hw, hk⟩
        · rw [hw, if_pos rfl]
          have hstep' : Step p (ev n E) o H fun v H' => ∃ F' dn', SameAt F' (F.put o.dst v) (slotsOf ops B (dn ++ todo ++ S ++ [i])) ∧ dnOk ops i dn dn' = true ∧ Stage p n ops Q Ms B (i :: S) dn' F' H' := by
            unfold Step at hstep ⊢
            rw [hx]
            exact hstep
          refine .inl (hstep'.wp hse hO hK ?_)
          rintro v H' w' ⟨F', dn', h1, h2, h3⟩ hO' hK'
          exact go v w' _ H' F' dn' h1 h2 h3 hO' hK' (hse.put _ _)
        · rw [hw, if_neg (by simp)]
          obtain ⟨F', dn', h1, h2, h3⟩ := hk
          exact go undef w _ H F' dn' h1 h2 h3 hO hK (hse.put _ _)
def sameSet (Ms S S' : List Nat) : Bool := Ms.all fun m => S.contains m == S'.contains m
theorem Stage.other {Ms B S S' dn : List Nat} {F : Env} {H H' : List Box} (h : Stage p n ops Q Ms B S dn F H) (hs : sameSet Ms S S' = true) (hp : H.Perm H') : Stage p n ops Q Ms B S' dn F H' := by
  intro L E h1 h2 h3 h4 h5 h6 β w a hO hB hs2
  refine h L E h1 h2 (fun m hm => ?_) h4 h5 h6 β w a (hO.perm hp.symm) hB hs2
  have := List.all_eq_true.1 hs m hm
  rw [h3 m hm]
  exact (by simpa using this : S.contains m = S'.contains m).symm
def StageRule (p : Program) (n : Nat) (ops : Array Oper) (Ms B : List Nat) (Sg : List Nat → List Nat → Env → List Box → Prop) (Dn : Env → List Box → Prop) : Prop :=
  ∀ (S dn : List Nat) (F : Env) (H : List Box) (todo nxt bl W : List Nat), stageOk ops Ms B S todo nxt dn bl = true → slotsOf ops B (dn ++ todo ++ S) = W → Each (TellsF p n ops H F) todo →
    Each (fun i => OpR p n ops F H i fun F1 H' => ∃ F' dn' S' H2, Sg S' dn' F' H2 ∧ List.Perm H2 H' ∧ sameSet Ms S' (i :: S) = true ∧ ∃ W, slotsOf ops B (dn ++ todo ++ S ++ [i]) = W ∧ SameAt F' F1 W ∧ dnOk ops i dn dn' = true) nxt →
    (nxt.isEmpty = true → ∀ E, SameAt E F W → Dn E H) → Sg S dn F H
theorem each_mono {P P' : Nat → Prop} (h : ∀ i, P i → P' i) : ∀ {l : List Nat}, Each P l → Each P' l
  | [], _ => trivial
  | i :: l, ⟨h1, h2⟩ => ⟨h i h1, each_mono h h2⟩
theorem ac_stage {id : Nat} {E : Env} {H : List Box} (hm : p.follows .mixedOrders = true) (Ms B : List Nat) (F : Env)
    (h : ∀ Sg Dn, StageRule p n ops Ms B Sg Dn → (∀ E H, Q .normal E H → Dn E H) → Sg [] [] F H) (hF : SameAt F E B) : AC p n (.region id ops true) Q E H := by
  have h := h (Stage p n ops Q Ms B) (fun E H => Q .normal E H) (by
    intro S dn F H todo nxt bl W hok hW hq hm hfin
    refine stage_rule todo nxt bl hok hq (each_mono (fun i hi => ?_) hm) (fun hn E hE => hfin (by rw [hn]; rfl) E (sameAt_of (by rw [← hW]; exact hE)))
    obtain ⟨o, ho, hi⟩ := hi
    refine ⟨o, ho, ?_⟩
    rcases hi with ⟨hw, hst⟩ | ⟨hw, hk⟩
    · exact .inl ⟨hw, hst.mono fun v H' ⟨F', dn', S', H2, h1, hp, hss, W', h2, h3, h4⟩ => ⟨F', dn', by rw [h2]; exact h3, h4, h1.other hss hp⟩⟩
    · obtain ⟨F', dn', S', H2, h1, hp, hss, W', h2, h3, h4⟩ := hk
      exact .inr ⟨hw, F', dn', by rw [h2]; exact h3, h4, h1.other hss hp⟩) (fun E H h => h)
  intro β w a hO hB hs
  refine wp_region_any hm ?_
  have hnone : ∀ i, (Array.replicate ops.size false).getD i false = false := by
    intro i
    simp only [Array.getD_eq_getD_getElem?, Array.getElem?_replicate]
    split <;> rfl
  have := h (Array.replicate ops.size false) E (by simp) (fun i o ho hl => by rw [hnone] at hl; cases hl) (fun m hm => by rw [hnone]; rfl) (fun i hi => by cases hi) (fun t ht => (sameAt_mem hF t ht).symm) (fun i hi => by rw [hnone] at hi; cases hi) β { w with drawn := w.drawn + 1 } a hO.drew hB.drew hs
  have hu : undone ops (Array.replicate ops.size false) = ops.size := by
    unfold undone
    rw [List.countP_eq_length.2 (fun i _ => by rw [hnone]; rfl)]
    simp
  rw [hu] at this
  exact this
theorem tf_op {H : List Box} {F : Env} {i d : Nat} {o : Oper} (v : Value) (ho : ops[i]? = some o) (hg : o.guard = none) (hd : o.dst = some d) (hs : Step p (ev n F) o H fun v' H' => v' = v ∧ H' = H) (hF : v = F d) : TellsF p n ops H F i :=
  ⟨v, ⟨o, ho, .inl ⟨by unfold yld; rw [hg], hs⟩⟩, fun d' hd' => by simp only [dstOf, ho, Option.bind_some, hd, Option.some.injEq] at hd'; rw [← hd']; exact hF⟩
theorem ac_env {id : Nat} {E : Env} {H : List Box} (h : ∀ E1, E1 = E → AC p n (.region id ops true) Q E1 H) : AC p n (.region id ops true) Q E H := h E rfl
end
end Go.Proofs.Ythngkopcadlciaa
namespace Go.Proofs.Ythngkopcadlciaa
open Go.RowKit
attribute [local irreducible] AC AR DWalk
end Go.Proofs.Ythngkopcadlciaa
namespace Go.Proofs.Ythngkopcadlciaa
open Go.RowKit
attribute [local irreducible] AC AR DWalk
end Go.Proofs.Ythngkopcadlciaa
namespace Go.Proofs.Ythngkopcadlciaa
def flat (l : List Iv) : List Value := l.flatMap fun a => [.int .i64 a.lo, .int .i64 a.hi, .bool a.no]
theorem flat_length (l : List Iv) : (flat l).length = 3 * l.length := by
  induction l with
  | nil => rfl
  | cons a l ih => simp only [flat, List.flatMap_cons, List.length_append, List.length_cons, List.length_nil] at ih ⊢; omega
theorem flat_append (a b : List Iv) : flat (a ++ b) = flat a ++ flat b := by simp [flat]
def cel (a : Iv) : List Value := [.int .i64 a.lo, .int .i64 a.hi, .bool a.no]
end Go.Proofs.Ythngkopcadlciaa
namespace Go.Proofs.Ythngkopcadlciaa
open Go.RowKit
section
variable {p : Program} {ops : Array Oper} {Q : Exit → Act → World → Prop}
def noDefer (ops : Array Oper) : Bool := ops.all fun o => match o.op with | .defer _ => false | _ => true
theorem noDefer_spec (h : noDefer ops = true) {i : Nat} {o : Oper} (ho : ops[i]? = some o) : ∀ c, o.op ≠ .defer c := by
  intro c hc
  have := Array.all_eq_true_iff_forall_mem.1 h o (Array.mem_of_getElem? ho)
  rw [hc] at this
  cases this
theorem upon_in {o : Oper} {a : Act} {w : World} {K K' : Act → World → Prop} (l m : Nat) (hd : ∀ c, o.op ≠ .defer c) (hQ : ¬ LetsOut Q) (hK : ∀ a w, K a w → K' a w)
    (h : o.wp p a w K Q) : o.wpIn (Fence.wide.inRound l) m p a w K' Q := by
  refine ⟨fun _ _ => trivial, ?_⟩
  rw [Oper.semAt_eq _ _ _ hd]
  unfold Oper.wp at h
  revert h
  cases hr : (execOp a.eval o).run p w with
  | ok x w' =>
    cases x with
    | value v => exact hK _ _
    | skip => exact hK _ _
    | defer d => exact hK _ _
    | enter f args =>
      intro h
      refine ⟨fun hn => absurd (show false = true from hn) (by decide), CallsIn.inRound l (callsIn_wide.2 (h.mono fun e w'' h => ?_))⟩
      cases e with
      | returned v => exact hK _ _ h
      | panicked c => exact h
      | outgrown => exact h
    | row row args =>
      intro h
      refine ⟨fun hn => absurd (show false = true from hn) (by decide), fun c cs _ => ?_⟩
      obtain ⟨v, w'', r, s⟩ := h c cs
      exact ⟨v, w'', hK _ _ r, stepsIn_wide.2 s⟩
    | _ => exact fun h => h.elim
  | halt x w' =>
    cases x <;> exact fun h => h
theorem wpOp_in {i : Nat} {a : Act} {w : World} {K K' : Act → World → Prop} (l m : Nat) (hd : noDefer ops = true) (hQ : ¬ LetsOut Q) (hK : ∀ a w, K a w → K' a w) (h : wpOp p ops Q i K a w) : wpOpIn (Fence.wide.inRound l) m p ops Q i K' a w := by
  unfold wpOp at h
  unfold wpOpIn
  cases ho : ops[i]? with
  | none => rw [ho] at h; exact hK _ _ h
  | some o =>
    rw [ho] at h
    simp only at h ⊢
    split
    · rename_i hw
      rw [if_pos hw] at h
      rcases h with h | h
      · exact upon_in l m (noDefer_spec hd ho) hQ hK h
      · exact absurd h.2 hQ
    · rename_i hw
      rw [if_neg hw] at h
      exact ⟨fun _ _ => trivial, hK _ _ h⟩
theorem wpAny_in (l m : Nat) (hd : noDefer ops = true) (hQ : ¬ LetsOut Q) : ∀ (fuel : Nat) (L : Array Bool) (a : Act) (w : World), wpAny p .any ops Q fuel L a w → wpAnyIn (Fence.wide.inRound l) m p .any ops Q fuel L a w := by
  intro fuel
  induction fuel with
  | zero => intro L a w h; exact h
  | succ fuel ih => intro L a w h; exact ⟨h.1, fun i hi => wpOp_in l m hd hQ (fun a w h => ih _ a w h) (h.2 i hi)⟩
theorem wpList_in (l m : Nat) (hQ : ¬ LetsOut Q) : ∀ (os : List Oper) (a : Act) (w : World), (∀ o ∈ os, ∀ c, o.op ≠ .defer c) → wpList p ops Q os a w → wpListIn (Fence.wide.inRound l) m p ops Q os a w := by
  intro os
  induction os with
  | nil => intro a w _ h; exact h
  | cons o os ih =>
    intro a w hd h
    unfold wpList at h
    unfold wpListIn
    have hi : ∀ a w, wpList p ops Q os a w → wpListIn (Fence.wide.inRound l) m p ops Q os a w := fun a w h => ih a w (fun x hx => hd x (List.mem_cons_of_mem _ hx)) h
    split
    · rename_i hw
      rw [if_pos hw] at h
      rcases h with h | h
      · exact upon_in l m (hd o List.mem_cons_self) hQ hi h
      · exact absurd h.2 hQ
    · rename_i hw
      rw [if_neg hw] at h
      exact ⟨fun _ _ => trivial, hi _ _ h⟩
theorem aq_out {n : Nat} {β : Base} {Q : Exit → Env → List Box → Prop} (hQ : ∀ E H, ¬ Q .outgrown E H) : ¬ LetsOut (AQ n β Q) := by
  rintro ⟨a, w, E, H, h, _⟩
  exact hQ _ _ h
theorem region_in {n id : Nat} {β : Base} {Q : Exit → Env → List Box → Prop} {E : Env} {H : List Box} {a : Act} {w : World} (l m : Nat) (hd : noDefer ops = true) (hQ : ∀ E H, ¬ Q .outgrown E H) (h : AR p n ops Q ops.toList E H) (hO : Own β H w) (hB : Keeps β w) (hs : Sees n E a) :
    (Code.region id ops false).wpIn (Fence.wide.inRound l) m p (AQ n β Q) a w :=
  wpIn_region_list (wpList_in l m (aq_out hQ) _ _ _ (fun o ho => by
    obtain ⟨i, hi⟩ := List.mem_iff_getElem?.1 ho
    exact noDefer_spec hd (by simpa using hi)) (h β w a hO hB hs))
theorem draw_in {n id : Nat} {β : Base} {Q : Exit → Env → List Box → Prop} {E : Env} {H : List Box} {a : Act} {w : World} (l m : Nat) (fx ta : List Nat) (tl : List Oper) (hd : noDefer ops = true) (hQ : ∀ E H, ¬ Q .outgrown E H) (hok : drawOk ops fx [] ta = true) (hm : p.follows .mixedOrders = true) (htl : (ta.map fun i => (ops[i]?).getD default) = tl)
    (h : DWalk p n ops H fx E fun E => AR p n ops Q tl E H) (hO : Own β H w) (hB : Keeps β w) (hs : Sees n E a) :
    (Code.region id ops true).wpIn (Fence.wide.inRound l) m p (AQ n β Q) a w := by
  subst htl
  exact wpIn_region_any hm (wpAny_in l m hd (aq_out hQ) _ _ _ _ (any_draw fx ta [] hok (by simp) (by simpa [putAll] using h) β w a hO hB hs))
end
end Go.Proofs.Ythngkopcadlciaa
namespace Go.Proofs.Ythngkopcadlciaa
open Go.RowKit Go.Shelf
attribute [local go_sem] Oper.semAt_some
def bk (l : List Iv) (j : Nat) : Nat × Iv := (l.length - 1 - j, (l[l.length - 1 - j]?).getD ⟨0, 0, false⟩)
def upto (l : List Iv) (k : Nat) : List (Nat × Iv) := (List.range k).map (bk l)
theorem upto_succ (l : List Iv) (k : Nat) : upto l (k + 1) = upto l k ++ [bk l k] := by simp [upto, List.range_succ]
theorem upto_length (l : List Iv) (k : Nat) : (upto l k).length = k := by simp [upto]
set_option maxHeartbeats 1000000 in
theorem back_in (F : Fence) (n : Nat) (h5 : F.fn 66) (hro : F.round = none) (a : Option Addr) (len cap : Nat) (w : World) :
    CallsIn F n Try.prog 66 #[.slice a len cap] w fun e w' => e = .returned (.func (.func 99) #[] #[.pointer (some ⟨w.heap.size, 0, none⟩)]) ∧ w' = w.alloc (.cells #[.slice a len cap] 24) := by
  refine callsIn_of_wp Try.func66 rfl h5 ?_ hro
  simp only [Try.ntmps66, List.size_toArray, List.length_cons, List.length_nil, Nat.reduceAdd, Nat.reduceSub, Array.replicate_succ, Array.replicate_zero, List.push_toArray, List.append_toArray, List.nil_append, List.cons_append]
  gi_wp2
  go_ret
  exact ⟨rfl, rfl⟩
def elt (l : List Iv) (m : Nat) : Iv := (l[m]?).getD ⟨0, 0, false⟩
def Lies (W : World) (b off : Nat) (l : List Iv) : Prop :=
  ∀ m, m < l.length → W.cell? ⟨b, off + m * 3, none⟩ = some (.int .i64 (elt l m).lo) ∧ W.cell? ⟨b, off + m * 3 + 1, none⟩ = some (.int .i64 (elt l m).hi) ∧ W.cell? ⟨b, off + m * 3 + 2, none⟩ = some (.bool (elt l m).no)
def KpB (b Bs : Nat) (A B : World) : Prop := B.heap[b]? = A.heap[b]? ∧ B.heap[Bs]? = A.heap[Bs]?
theorem KpB.trans {b Bs : Nat} {A B C : World} (h : KpB b Bs A B) (k : KpB b Bs B C) : KpB b Bs A C := ⟨k.1.trans h.1, k.2.trans h.2⟩
set_option maxRecDepth 100000 in
set_option maxHeartbeats 2000000 in
theorem back1_in (F : Fence) (n : Nat) (h7 : F.fn 99) (hro : F.round = none) (hn : 1 ≤ n) (l Bs b off cap : Nat) (zs : List Iv) (hreach : zs.length * 24 ≤ 140737488351232) (J Jx : List (Nat × Iv) → World → Prop)
    (hY : ∀ pre x W, J pre W → pre.length < zs.length → YieldAt F (n - 1) Try.prog l #[.int .i64 (x.1 : Int), x.2.v] W fun e W' =>
      (e = .returned (.bool true) ∧ J (pre ++ [x]) W' ∧ KpB b Bs W W') ∨ (e = .returned (.bool false) ∧ Jx (pre ++ [x]) W'))
    (W : World) (hBs : W.cell? ⟨Bs, 0, none⟩ = some (.slice (some ⟨b, off, none⟩) zs.length cap)) (hc : Lies W b off zs) (h0 : J [] W) :
    CallsIn F n Try.prog 99 #[.func (.yield l) #[] #[], .pointer (some ⟨Bs, 0, none⟩)] W fun e W' => (∃ v, e = .returned v) ∧
      ((∃ ys, ys = upto zs zs.length ∧ J ys W') ∨ (∃ pre, (∃ k, k ≤ zs.length ∧ pre = upto zs k) ∧ Jx pre W')) := by
  refine callsIn_of_wp Try.func99 rfl h7 ?_ hro
  simp only [Try.ntmps99, List.size_toArray, List.length_cons, List.length_nil, Nat.reduceAdd, Nat.reduceSub, Array.replicate_succ, Array.replicate_zero, List.push_toArray, List.append_toArray, List.nil_append, List.cons_append]
  gi_wp2
  gi_loopw [3] (fun i wr => ∃ k m : Nat, m + k = zs.length ∧ i = .int .i64 ((m : Int) - 1) ∧ J (upto zs k) wr ∧ KpB b Bs W wr)
    (fun i _ => (intOf i + 1).toNat)
  case atStart => exact ⟨0, zs.length, by omega, by simp, h0, rfl, rfl⟩
  case round =>
    obtain ⟨k, m, hk, rfl, hJs, hnx⟩ := hrel
    have hBs' := (World.cell?_of_block (a := ⟨Bs, 0, none⟩) hnx.2).trans hBs
    cases m with
    | zero =>
      obtain rfl : k = zs.length := by omega
      rw [show (((0 : Nat) : Int) - 1) = -1 from rfl]
      gi_wp2
      go_end0
      exact ⟨⟨_, rfl⟩, .inl ⟨_, rfl, hJs⟩⟩
    | succ m =>
      obtain ⟨e1, e2, e3⟩ := hc m (by omega)
      have d1 := (World.cell?_of_block (a := ⟨b, off + m * 3, none⟩) hnx.1).trans e1
      have d2 := (World.cell?_of_block (a := ⟨b, off + m * 3 + 1, none⟩) hnx.1).trans e2
      have d3 := (World.cell?_of_block (a := ⟨b, off + m * 3 + 2, none⟩) hnx.1).trans e3
      have hm : m < zs.length := by omega
      have hi : (((m + 1 : Nat) : Int) - 1) = (m : Int) := by omega
      rw [hi]
      have hx : bk zs k = (m, elt zs m) := by
        have : zs.length - 1 - k = m := by omega
        simp only [bk, this, elt]
      obtain ⟨fn, tmps, assign, body, hy, hR⟩ := hY _ (bk zs k) wr hJs (by rw [upto_length]; omega)
      rw [hx] at hy hR
      dsimp only at hy
      gi_wp2
      refine hR.mono ?_
      rintro e W3 (⟨rfl, hJ3, hk3⟩ | ⟨rfl, hJx3⟩)
      · gi_wp2
        go_roundw
        case rel => exact ⟨k + 1, m, by omega, by simp, by rw [upto_succ, hx]; exact hJ3, hnx.trans hk3⟩
        case measure => simp [intOf]
      · gi_wp2
        refine bodyPost_ret (results_none rfl _ _ _) rfl ?_
        exact ⟨⟨_, rfl⟩, .inr ⟨_, ⟨k + 1, by omega, by rw [upto_succ, hx]⟩, hJx3⟩⟩
theorem back_stops (F : Fence) (n : Nat) (h7 : F.fn 99) (hro : F.round = none) (hn : 1 ≤ n) (Bs b off cap : Nat) (zs : List Iv) (hreach : zs.length * 24 ≤ 140737488351232) (w : World) (hBs : Bs < w.heap.size) (hb : b < w.heap.size)
    (hc : w.cell? ⟨Bs, 0, none⟩ = some (.slice (some ⟨b, off, none⟩) zs.length cap)) (hL : Lies w b off zs) :
    SeqStopsK F n Try.prog 99 #[.pointer (some ⟨Bs, 0, none⟩)] (fun x : Nat × Iv => #[Value.int .i64 (x.1 : Int), x.2.v]) (KpB b Bs) (fun ys => ys = upto zs zs.length) (fun pre => ∃ k, k ≤ zs.length ∧ pre = upto zs k) zs.length w := fun l J Jx W hW _ _ hY h0 => by
  have hc' := (hW.cell (p := ⟨Bs, 0, none⟩) hBs).trans hc
  have hL' : Lies W b off zs := fun m hm => by
    obtain ⟨e1, e2, e3⟩ := hL m hm
    exact ⟨(hW.cell (p := ⟨b, off + m * 3, none⟩) hb).trans e1, (hW.cell (p := ⟨b, off + m * 3 + 1, none⟩) hb).trans e2, (hW.cell (p := ⟨b, off + m * 3 + 2, none⟩) hb).trans e3⟩
  exact back1_in F n h7 hro hn l Bs b off cap zs hreach J Jx hY W hc' hL' h0
end Go.Proofs.Ythngkopcadlciaa
