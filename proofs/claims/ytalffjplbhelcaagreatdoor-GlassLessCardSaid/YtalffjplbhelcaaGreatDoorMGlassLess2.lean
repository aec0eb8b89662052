import Derived.Test.YtalffjplbhelcaaGreatDoorMGlassLess1
import Derived.Laws.Append
import Derived.Shelf.Strings.Builder1
import Derived.Shelf.Strings.Builder2
import Derived.Shelf.Strings.Trim
import Derived.Shelf.Small.Utf8
import Derived.Shelf.Small.Strs
import Derived.Shelf.Small.Wraps
import Derived.Shelf.Strings.BuilderF
import Derived.Shelf.Strings.BuilderK
import Derived.Shelf.Strconv.Atoi
import Derived.Shelf.Strconv.Itoa0
import Derived.Shelf.Strconv.Itoa1
import Derived.Shelf.LaysM
import Derived.Shelf.Strconv.Itoa2
import Derived.Shelf.Strconv.Itoa3
import Derived.Shelf.Strings.Search1
import Derived.Shelf.Strings.Search2
import Derived.Shelf.Strings.Cut
import Derived.Shelf.Strings.Shaped
import Derived.Shelf.Strings.Prefix
import Derived.Shelf.Strings.Runes
import Derived.Shelf.Strings.AsciiSet
import Derived.Shelf.Bits.Mul64
import Derived.Shelf.Strings.Repeat
import Derived.Shelf.Unicode.DecodeSlow
import Derived.Test.YtalffjplbhelcaaGreatDoorProg
import Derived.Laws.Strings3
import Derived.Laws.Concat
import Derived.Laws.BytesString
import Derived.Shelf.Strings.SlTrimAscii
import Derived.Lib.AtoiErrMem
import Derived.Lib.AppendIntMem
import Derived.ScopeJumps
import Derived.Control
set_option linter.unusedVariables false
set_option linter.unusedSimpArgs false
namespace Go.Proofs.YtalffjplbhelcaaGreatDoor
open Go.RowKit
structure SlT (p : Program) (t e : TypeId) (s by_ : Nat) : Prop where
  un : p.underlying t = some (.slice e)
  ex : ∃ z, (p.info? e).map (fun i => (i.zero, i.size, i.bytes)) = some (some z, s, by_) ∧ z.cells.size = s ∧ 0 < s
theorem SlT.out {p : Program} {t e : TypeId} {s by_ : Nat} (h : SlT p t e s by_) : ∃ i z, p.info? e = some i ∧ i.zero = some z ∧ i.size = s ∧ i.bytes = by_ ∧ z.cells.size = s ∧ 0 < s := by
  obtain ⟨z, h1, h2, h3⟩ := h.ex
  cases hq : p.info? e with
  | none => simp [hq] at h1
  | some i =>
    simp only [hq, Option.map_some, Option.some.injEq, Prod.mk.injEq] at h1
    exact ⟨i, z, rfl, h1.1, h1.2.1, h1.2.2, h2, h3⟩
def Row (e s n : Nat) (xs : List Value) (v : Value) (N : List Box) : Prop :=
  (n = 0 ∧ xs = [] ∧ v = .slice none 0 0 ∧ N = []) ∨ ∃ g cap rest, v = .slice (some ⟨g, 0, none⟩) n cap ∧ N = [⟨g, xs ++ rest, e, false⟩] ∧ xs.length = n * s ∧ (xs ++ rest).length = cap * s ∧ n ≤ cap ∧ cap ≤ maxLen
theorem Row.nil (e s : Nat) : Row e s 0 [] (.slice none 0 0) [] := .inl ⟨rfl, rfl, rfl, rfl⟩
section
variable {p : Program} {n : Nat} {ops : Array Oper} {Q : Exit → Env → List Box → Prop} {l : List Oper} {E : Env} {H : List Box} {o : Oper} {ρ : Operand → Value} {K : Post}
theorem st_app {t e s by_ k m c gt : Nat} {x y : Operand} {v : Value} {xs news r : List Value} {N A B : List Box} {bt : Box} (hs : SlT p t e s by_) (ho : o.op = .call { callee := .builtin .append, args := #[x, y], argTypes := #[t, t] })
    (hx : ρ x = v) (hy : ρ y = .slice (some ⟨gt, 0, none⟩) m c) (hR : Row e s k xs v N) (hH : H = A ++ (N ++ B)) (hbt : bt ∈ A ++ B) (hg : bt.g = gt) (hc : bt.cs = news ++ r) (hl : news.length = m * s) (h1 : news.all (·.oneCell') = true) (hm : 0 < m)
    (h63 : k + m ≤ maxLen) (hby : (k + m) * by_ ≤ 140737488355328) (kk : ∀ v' N', Row e s (k + m) (xs ++ news) v' N' → K v' (N' ++ (A ++ B))) : Step p ρ o H K := by
  intro F β w hO hB
  have hu := hs.un
  obtain ⟨inf, z, hi, hz, hsz, hbz, hzc, hs0⟩ := hs.out
  subst hsz hbz hH
  have hsmall : k + m ≤ 9223372036854775807 := by simp only [maxLen] at h63; omega
  have hO1 : Own β (N ++ (A ++ B ++ F)) w := by
    refine hO.perm ?_
    have h1 : (A ++ (N ++ B) ++ F).Perm ((N ++ (A ++ B)) ++ F) := List.Perm.append_right F (by
      rw [← List.append_assoc, ← List.append_assoc]
      exact List.Perm.append_right B List.perm_append_comm)
    rw [List.append_assoc N] at h1
    exact h1
  have hat : ∀ j u, news[j]? = some u → w.cell? ((⟨gt, 0, none⟩ : Addr).add j) = some u := by
    intro j u hj
    obtain ⟨fr, _, hb⟩ := (hO1.at_ bt (List.mem_append_right _ (List.mem_append_left _ hbt))).2
    rw [add_at, Nat.zero_add, ← hg, cell_of_row w bt.g j _ _ _ hb, hc]
    simp only [List.getElem?_toArray]
    rw [List.getElem?_append_left (List.getElem?_eq_some_iff.1 hj).1, hj]
  have ex : ∀ w, (execOp ρ o).run p w = (match (Builtin.append_ #[t, t] o.type #[v, .slice (some ⟨gt, 0, none⟩) m c]).run p w with | .ok u w' => .ok (.value u) w' | .halt x w' => .halt x w') := by
    intro w
    rw [execOp, ho]
    simp only [resolve, List.map_toArray, List.map_cons, List.map_nil, hx, hy]
    simp [invoke, builtin, Sem.run_bind]
    cases (Builtin.append_ #[t, t] o.type #[v, .slice (some ⟨gt, 0, none⟩) m c]).run p w <;> rfl
  have zl : ∀ j, (Builtin.zeroCells z.cells j).toList.length = j * inf.size := by intro j; simp [Builtin.zeroCells, hzc]
  rw [ex]
  rcases hR with ⟨rfl, rfl, rfl, rfl⟩ | ⟨g, cap, rest, rfl, rfl, hxl, hcl, hkc, hcm⟩
  · have hr := run_append_nil (P := p) w t o.type e inf z hu hi hz ⟨gt, 0, none⟩ m c news hl hat hm (by omega) (by simp only [Nat.zero_add] at hby; omega)
    rw [hr]
    have hge := grownCap_ge w m 0 e
    have hcm := grownCap_le_maxLen w m 0 e (by omega)
    refine ⟨_, kk _ [⟨w.heap.size, news ++ (Builtin.zeroCells z.cells (grownCap w m 0 e - m)).toList, e, false⟩] (.inr ⟨w.heap.size, _, _, by rw [Nat.zero_add], rfl, by rw [Nat.zero_add]; exact hl, ?_, by omega, hcm⟩), ?_, (hB.drew).alloc _⟩
    · simp only [List.nil_append, List.length_append, zl, hl, ← Nat.add_mul]
      congr 1
      omega
    · have h3 := hO1.drew.alloc (news ++ (Builtin.zeroCells z.cells (grownCap w m 0 e - m)).toList) e
      simp only [List.nil_append] at h3 ⊢
      have e1 : (news ++ (Builtin.zeroCells z.cells (grownCap w m 0 e - m)).toList).toArray = news.toArray ++ Builtin.zeroCells z.cells (grownCap w m 0 e - m) := by
        apply Array.ext'
        simp
      rw [e1] at h3
      exact h3
  · obtain ⟨fr, hf, hgb⟩ := (hO1.at_ _ (List.mem_append_left _ (List.mem_singleton.2 rfl))).2
    obtain rfl := hf rfl
    simp only at hgb
    by_cases hroom : k + m ≤ cap
    · have hfit : k * inf.size + news.length ≤ (xs ++ rest).toArray.size := by
        simp only [List.size_toArray, hcl, hl, ← Nat.add_mul]
        exact Nat.mul_le_mul_right _ hroom
      have hr := run_append_room (P := p) w t o.type e inf hu hi g k cap (xs ++ rest).toArray hgb ⟨gt, 0, none⟩ m c news hl hat (fun u hu => List.all_eq_true.1 h1 u hu) hroom hfit
      rw [hr]
      have e1 : (xs ++ rest).toArray.toList.take (k * inf.size) ++ news ++ (xs ++ rest).toArray.toList.drop (k * inf.size + news.length) = xs ++ news ++ rest.drop news.length := by
        simp only [List.toList_toArray]
        rw [← hxl, List.take_left, List.drop_length_add_append]
      rw [e1]
      have hmay : β.may g := (((hO1.at_ _ (List.mem_append_left _ (List.mem_singleton.2 rfl))).1).resolve_left (by simp))
      refine ⟨_, kk _ [⟨g, xs ++ news ++ rest.drop news.length, e, false⟩] (.inr ⟨g, cap, _, rfl, rfl, ?_, ?_, hroom, hcm⟩), ?_, hB.setRow _ _ hmay⟩
      · rw [List.length_append, hxl, hl, Nat.add_mul]
      · rw [← hcl]
        simp only [List.length_append, List.length_drop]
        have : news.length ≤ rest.length := by
          have := hfit
          simp only [List.size_toArray, List.length_append, hxl] at this
          omega
        omega
      · have h3 := hO1.set 0 _ rfl rfl (xs ++ news ++ rest.drop news.length)
        exact h3
    · have hold : ∀ j u, xs[j]? = some u → w.cell? ((⟨g, 0, none⟩ : Addr).add j) = some u := by
        intro j u hj
        rw [add_at, Nat.zero_add, cell_of_row w g j _ _ _ hgb]
        simp only [List.getElem?_toArray]
        rw [List.getElem?_append_left (List.getElem?_eq_some_iff.1 hj).1, hj]
      have hr := run_append_grow (P := p) w t o.type e inf z hu hi hz ⟨g, 0, none⟩ k cap xs hxl hold ⟨gt, 0, none⟩ m c news hl hat (by omega) (by omega) (growslice_fits (by omega) hby)
      rw [hr]
      have hge := grownCap_ge w (k + m) cap e
      have hcm := grownCap_le_maxLen w (k + m) cap e h63
      refine ⟨_, kk _ [⟨w.heap.size, xs ++ news ++ (Builtin.zeroCells z.cells (grownCap w (k + m) cap e - (k + m))).toList, e, false⟩] (.inr ⟨w.heap.size, _, _, rfl, rfl, ?_, ?_, hge, hcm⟩), ?_, (hB.drew).alloc _⟩
      · rw [List.length_append, hxl, hl, Nat.add_mul]
      · simp only [List.length_append, zl, hl, hxl, ← Nat.add_mul]
        congr 1
        omega
      · have h2 : Own β (A ++ B ++ F) w := Own.sub (List.sublist_append_right _ _) hO1
        have h3 := h2.drew.alloc (xs ++ news ++ (Builtin.zeroCells z.cells (grownCap w (k + m) cap e - (k + m))).toList) e
        have e1 : (xs ++ news ++ (Builtin.zeroCells z.cells (grownCap w (k + m) cap e - (k + m))).toList).toArray = xs.toArray ++ news.toArray ++ Builtin.zeroCells z.cells (grownCap w (k + m) cap e - (k + m)) := by
          apply Array.ext'
          simp
        rw [e1] at h3
        exact h3
theorem ar_perm {H' : List Box} (hp : H.Perm H') (h : AR p n ops Q l E H) : AR p n ops Q l E H' :=
  fun β w a hO hB hs => h β w a (hO.perm hp.symm) hB hs
theorem Row.form {e s n : Nat} {xs : List Value} {v : Value} {N : List Box} (h : Row e s n xs v N) : ∃ a cap, v = .slice a n cap := by
  rcases h with ⟨rfl, _, rfl, _⟩ | ⟨g, cap, rest, rfl, _⟩
  · exact ⟨_, _, rfl⟩
  · exact ⟨_, _, rfl⟩
theorem st_appZ {t e s by_ k m c gt : Nat} {x y : Operand} {v : Value} {xs news r : List Value} {N A : List Box} {bt : Box} (hs : SlT p t e s by_) (ho : o.op = .call { callee := .builtin .append, args := #[x, y], argTypes := #[t, t] })
    (hx : ρ x = v) (hy : ρ y = .slice (some ⟨gt, 0, none⟩) m c) (hR : Row e s k xs v N) (hH : H = A ++ N) (hbt : bt ∈ A) (hg : bt.g = gt) (hc : bt.cs = news ++ r) (hl : news.length = m * s) (h1 : news.all (·.oneCell') = true) (hm : 0 < m)
    (h63 : k + m ≤ maxLen) (hby : (k + m) * by_ ≤ 140737488355328) (hK : ∀ v H H', H.Perm H' → K v H → K v H') (kk : ∀ v' N', Row e s (k + m) (xs ++ news) v' N' → K v' (A ++ N')) : Step p ρ o H K :=
  st_app (A := A) (B := []) hs ho hx hy hR (by rw [hH, List.append_nil]) (by rw [List.append_nil]; exact hbt) hg hc hl h1 hm h63 hby fun v' N' h => by
    rw [List.append_nil]
    exact hK _ _ _ List.perm_append_comm (kk v' N' h)
end
end Go.Proofs.YtalffjplbhelcaaGreatDoor
namespace Go.Proofs.YtalffjplbhelcaaGreatDoor
open Go.RowKit
section
variable {p : Program} {n : Nat} {ops : Array Oper} {Q : Exit → Env → List Box → Prop}
def AAny (p : Program) (n : Nat) (ops : Array Oper) (Q : Exit → Env → List Box → Prop) (fuel : Nat) (L : List Bool) (E : Env) (H : List Box) : Prop :=
  ∀ β w a, Own β H w → Keeps β w → Sees n E a → wpAny p .any ops (AQ n β Q) fuel L.toArray a w
def OpR (p : Program) (n : Nat) (ops : Array Oper) (E : Env) (H : List Box) (i : Nat) (K : Env → List Box → Prop) : Prop :=
  ∃ o, ops[i]? = some o ∧ ((yld n ops E o = true ∧ Step p (ev n E) o H fun v H' => K (E.put o.dst v) H') ∨ (yld n ops E o = false ∧ K (E.put o.dst undef) H))
def Each (P : Nat → Prop) : List Nat → Prop
  | [] => True
  | i :: is => P i ∧ Each P is
theorem each_mem {P : Nat → Prop} : ∀ {is : List Nat}, Each P is → ∀ i ∈ is, P i
  | [], _, _, h => by cases h
  | j :: is, h, i, hi => by
    rcases List.mem_cons.1 hi with rfl | hi
    · exact h.1
    · exact each_mem h.2 i hi
theorem opR_op {E : Env} {H : List Box} {i : Nat} {d : Option Nat} {K : Env → List Box → Prop} {o : Oper} (ho : ops[i]? = some o) (hg : o.guard = none) (hd : o.dst = d) (h : Step p (ev n E) o H fun v H' => K (E.put d v) H') : OpR p n ops E H i K := by
  subst hd
  exact ⟨o, ho, .inl ⟨by unfold yld; rw [hg], h⟩⟩
def StepRule (p : Program) (n : Nat) (ops : Array Oper) (Φ : Nat → List Bool → Env → List Box → Prop) : Prop :=
  ∀ fuel L E H is, Region.ready .any ops L.toArray = is → is.isEmpty = false → Each (fun i => OpR p n ops E H i (Φ fuel (L.set i true))) is → Φ (fuel + 1) L E H
def PermRule (Φ : Nat → List Bool → Env → List Box → Prop) : Prop := ∀ fuel L E H H', H.Perm H' → Φ fuel L E H → Φ fuel L E H'
theorem ac_any {id : Nat} {E : Env} {H : List Box} (hm : p.follows .mixedOrders = true) (k : Nat) (hk : ops.size = k)
    (h : ∀ Φ : Nat → List Bool → Env → List Box → Prop, StepRule p n ops Φ → (∀ L E H, Region.ready .any ops L.toArray = [] → Q .normal E H → Φ 0 L E H) → PermRule Φ → Φ k (List.replicate k false) E H) : AC p n (.region id ops true) Q E H := by
  have key := h (AAny p n ops Q) (by
    intro fuel L E H is hr hne he β w a hO hB hs
    refine ⟨fun h => ?_, fun i hi => ?_⟩
    · rw [hr] at h
      rw [h] at hne
      cases hne
    · rw [hr] at hi
      obtain ⟨o, ho, hop⟩ := each_mem he i hi
      unfold wpOp
      simp only [ho]
      rw [hs.yld]
      rcases hop with ⟨hw, hst⟩ | ⟨hw, hk⟩
      · rw [hw, if_pos rfl]
        refine .inl (hst.wp hs hO hB fun v H' w' k hO' hB' => ?_)
        have := k β w' _ hO' hB' (hs.put _ _)
        rwa [← List.setIfInBounds_toArray] at this
      · rw [hw, if_neg (by simp)]
        have := hk β w _ hO hB (hs.put _ _)
        rwa [← List.setIfInBounds_toArray] at this) (by
    intro L E H hr hq β w a hO hB hs
    exact ⟨hr, E, H, hq, hs, hO, hB⟩) (fun fuel L E H H' hp h β w a hO hB hs => h β w a (hO.perm hp.symm) hB hs)
  intro β w a hO hB hs
  refine wp_region_any hm ?_
  have := key β { w with drawn := w.drawn + 1 } a hO.drew hB.drew hs
  rw [← hk] at this
  rwa [List.toArray_replicate] at this
end
def FinG (p : Program) (fn : Func) (n : Nat) (K : Post) : Exit → Env → List Box → Prop := fun e E H => (e = .ret ∨ e = .normal) ∧ ∃ v N, K v N ∧ List.Sublist N H ∧ (N.all fun b => !b.ro) = true ∧ Res p fn n E H v
theorem gives_fin {p : Program} {f : FuncId} {fn : Func} {c : Code} {args : Array Value} {K : Post} {R : List Box} {n : Nat} (hf : p.funcs[f]? = some fn) (hb : fn.body = some c) (hn : fn.ntmps = n) (ha : Nat.ble args.size n = true) (hr : (R.all fun b => b.ro) = true)
    (h : AC p n c (FinG p fn n K) (envOf args) R) : Gives p f args R K := by
  intro w hA hnd
  refine calls_of_wp hf hb ?_
  refine Code.wp_mono ?_ (h ⟨fun _ => False, w⟩ w _ (own_start hA hnd (fun b hb => List.all_eq_true.1 hr b hb)) (Keeps.refl _ _) (sees_start hn ha))
  rintro e a w' ⟨E, H, ⟨he, v, N, hk, hsub, hN, hres⟩, hs, hO, hB⟩
  have hall : ∀ b ∈ N, b.ro = false := fun b hb => by simpa using List.all_eq_true.1 hN b hb
  rcases he with rfl | rfl
  · exact ⟨hs.defers, v, hres _ _ _ hO hs, v, N, rfl, hk, Own.sub hsub hO, hall, hB.below⟩
  · exact ⟨hs.defers, v, hres _ _ _ hO hs, v, N, rfl, hk, Own.sub hsub hO, hall, hB.below⟩
theorem np_fing {p : Program} {fn : Func} {n : Nat} {K : Post} : ∀ c E H, ¬ FinG p fn n K (.panic c) E H := fun c E H h => by
  rcases h.1 with h | h <;> cases h
theorem fing_ret {p : Program} {fn : Func} {n : Nat} {K : Post} {E : Env} {H N : List Box} {v : Value} (hk : K v N) (hs : List.Sublist N H) (hN : (N.all fun b => !b.ro) = true) (h : Res p fn n E H v) : FinG p fn n K .ret E H := ⟨.inl rfl, v, N, hk, hs, hN, h⟩
theorem fing_v {p : Program} {fn : Func} {n : Nat} {u v : Value} {e : Exit} {E : Env} {H : List Box} (h : Fin p fn n v e E H) (hv : v = u) : FinG p fn n (fun w N => w = u ∧ N = []) e E H := ⟨h.1, v, [], ⟨hv, rfl⟩, List.nil_sublist _, rfl, h.2⟩
end Go.Proofs.YtalffjplbhelcaaGreatDoor
namespace Go.Proofs.YtalffjplbhelcaaGreatDoor
open Go.RowKit
end Go.Proofs.YtalffjplbhelcaaGreatDoor
/-
 DERIVED: THE SHELF's CONTRACTS AT THIS DUMP, IN PLAIN WORDS (tools/lay-plain.mjs out of 'TryzShelf.lean', which tools/lay-shelf.mjs wrote): THE SAME DECLARATIONS UNDER THE SAME NAMES: 'import', 'namespace', 'open', 'def', 'theorem' AND NOTHING ELSE: no command of the shelf's: FOR A HAND-IN. Each laying: the table of numbers ('.._ren') and one theorem, a field a fact of the dump's own or the kernel's comparison; each contract: ONE APPLICATION.
-/
namespace Go.Proofs.YtalffjplbhelcaaGreatDoor
open Go.Shelf
def Tryz.lays169_ren : Go.Shelf.Ren := ⟨fun | 169 => 83 | n => n, fun | 70 => 91 | 9 => 9 | 0 => 0 | 72 => 93 | 37 => 76 | 127 => 124 | 3 => 3 | 5 => 5 | n => n, fun | n => n⟩
theorem Tryz.lays169 : Go.Proofs.Lays.n169 Tryz.prog Tryz.lays169_ren := {
 mixed := by kernel_rfl
 f169 := Tryz.func83.trans (congrArg some (by kernel_rfl))
 t0 := Tryz.underlying0
 a0 := Tryz.isAgg0
 z0 := Tryz.sizeOf0
 v0 := Tryz.zeroValue0
 t3 := Tryz.underlying3
 a3 := Tryz.isAgg3
 z3 := Tryz.sizeOf3
 v3 := Tryz.zeroValue3
 t9 := Tryz.underlying9
 a9 := Tryz.isAgg9
 z9 := Tryz.sizeOf9
 v9 := Tryz.zeroValue9
 t37 := Tryz.underlying76
 a37 := Tryz.isAgg76
 z37 := Tryz.sizeOf76
 v37 := Tryz.zeroValue76
 t70 := Tryz.underlying91
 a70 := Tryz.isAgg91
 z70 := Tryz.sizeOf91
 v70 := Tryz.zeroValue91
 t72 := Tryz.underlying93
 a72 := Tryz.isAgg93
 z72 := Tryz.sizeOf93
 v72 := Tryz.zeroValue93
 t127 := Tryz.underlying124
 a127 := Tryz.isAgg124
 z127 := Tryz.sizeOf124
 v127 := Tryz.zeroValue124 }
theorem Tryz.Builder_Extra_169 : Builder.Extra Tryz.prog Tryz.lays169_ren := {
 sizeBuilder := by kernel_rfl
 liesBuilder := by kernel_rfl
 t5 := Tryz.underlying5
 a5 := Tryz.isAgg5
 z5 := Tryz.sizeOf5
 v5 := Tryz.zeroValue5
 infoByte := by kernel_rfl
 cellsByte := by kernel_rfl
 sizeByte := by kernel_rfl
 neB5 := by decide }
def Tryz.lays162_ren : Go.Shelf.Ren := ⟨fun | 162 => 69 | 232 => 111 | 227 => 112 | 234 => 113 | 236 => 114 | 228 => 132 | 271 => 133 | 151 => 134 | 120 => 150 | 197 => 149 | 152 => 151 | 260 => 162 | 137 => 163 | 119 => 164 | 224 => 147 | 225 => 146 | 217 => 145 | 266 => 160 | n => n, fun | 9 => 9 | 4 => 4 | 3 => 3 | 5 => 5 | 117 => 113 | 116 => 112 | 0 => 0 | 124 => 116 | 21 => 21 | 105 => 131 | 46 => 118 | 119 => 173 | 139 => 176 | 138 => 175 | n => n, fun | 3 => 4 | 4 => 5 | n => n⟩
theorem Tryz.lays162 : Go.Proofs.Lays.n162 Tryz.prog Tryz.lays162_ren := {
 mixed := by kernel_rfl
 f119 := Tryz.func164.trans (congrArg some (by kernel_rfl))
 f120 := Tryz.func150.trans (congrArg some (by kernel_rfl))
 f137 := Tryz.func163.trans (congrArg some (by kernel_rfl))
 f151 := Tryz.func134.trans (congrArg some (by kernel_rfl))
 f152 := Tryz.func151.trans (congrArg some (by kernel_rfl))
 f162 := Tryz.func69.trans (congrArg some (by kernel_rfl))
 f197 := Tryz.func149.trans (congrArg some (by kernel_rfl))
 f217 := Tryz.func145.trans (congrArg some (by kernel_rfl))
 f224 := Tryz.func147.trans (congrArg some (by kernel_rfl))
 f225 := Tryz.func146.trans (congrArg some (by kernel_rfl))
 f227 := Tryz.func112.trans (congrArg some (by kernel_rfl))
 f228 := Tryz.func132.trans (congrArg some (by kernel_rfl))
 f232 := Tryz.func111.trans (congrArg some (by kernel_rfl))
 f234 := Tryz.func113.trans (congrArg some (by kernel_rfl))
 f236 := Tryz.func114.trans (congrArg some (by kernel_rfl))
 f260 := Tryz.func162.trans (congrArg some (by kernel_rfl))
 f266 := Tryz.func160.trans (congrArg some (by kernel_rfl))
 f271 := Tryz.func133.trans (congrArg some (by kernel_rfl))
 t0 := Tryz.underlying0
 a0 := Tryz.isAgg0
 z0 := Tryz.sizeOf0
 v0 := Tryz.zeroValue0
 t3 := Tryz.underlying3
 a3 := Tryz.isAgg3
 z3 := Tryz.sizeOf3
 v3 := Tryz.zeroValue3
 t4 := Tryz.underlying4
 a4 := Tryz.isAgg4
 z4 := Tryz.sizeOf4
 v4 := Tryz.zeroValue4
 t5 := Tryz.underlying5
 a5 := Tryz.isAgg5
 z5 := Tryz.sizeOf5
 v5 := Tryz.zeroValue5
 t9 := Tryz.underlying9
 a9 := Tryz.isAgg9
 z9 := Tryz.sizeOf9
 v9 := Tryz.zeroValue9
 t21 := Tryz.underlying21
 a21 := Tryz.isAgg21
 z21 := Tryz.sizeOf21
 v21 := Tryz.zeroValue21
 t46 := Tryz.underlying118
 a46 := Tryz.isAgg118
 z46 := Tryz.sizeOf118
 v46 := Tryz.zeroValue118
 t105 := Tryz.underlying131
 a105 := Tryz.isAgg131
 z105 := Tryz.sizeOf131
 v105 := Tryz.zeroValue131
 t116 := Tryz.underlying112
 a116 := Tryz.isAgg112
 z116 := Tryz.sizeOf112
 t117 := Tryz.underlying113
 a117 := Tryz.isAgg113
 z117 := Tryz.sizeOf113
 v117 := Tryz.zeroValue113
 t119 := Tryz.underlying173
 a119 := Tryz.isAgg173
 z119 := Tryz.sizeOf173
 t124 := Tryz.underlying116
 a124 := Tryz.isAgg116
 z124 := Tryz.sizeOf116
 v124 := Tryz.zeroValue116
 t138 := Tryz.underlying175
 a138 := Tryz.isAgg175
 z138 := Tryz.sizeOf175
 v138 := Tryz.zeroValue175
 t139 := Tryz.underlying176
 a139 := Tryz.isAgg176
 z139 := Tryz.sizeOf176
 v139 := Tryz.zeroValue176
 g3 := by kernel_rfl
 g4 := by kernel_rfl }
open Go.RowKit in
theorem Tryz.strings_TrimRight_one (s : ByteArray) (c : UInt8) (hc : c.toNat < 128) (w : World) (hs : s.size ≤ 9223372036854775807) :
  Calls Tryz.prog 69 #[.string s, .string ⟨#[c]⟩] w fun e w' => e = .returned (.string ⟨(Lib.trimRightB s.data.toList c).toArray⟩) ∧ w' = w := Any.strings_TrimRight_one Tryz.lays162 s c hc w hs
def Tryz.lays160_ren : Go.Shelf.Ren := ⟨fun | 160 => 110 | 232 => 111 | 231 => 129 | 227 => 112 | 234 => 113 | 233 => 130 | 236 => 114 | 235 => 131 | 228 => 132 | 271 => 133 | 151 => 134 | 197 => 149 | 120 => 150 | 152 => 151 | 260 => 162 | 137 => 163 | 119 => 164 | 224 => 147 | 225 => 146 | 217 => 145 | 266 => 160 | n => n, fun | 9 => 9 | 4 => 4 | 3 => 3 | 5 => 5 | 117 => 113 | 116 => 112 | 0 => 0 | 124 => 116 | 21 => 21 | 105 => 131 | 46 => 118 | 119 => 173 | 139 => 176 | 138 => 175 | n => n, fun | 3 => 4 | 4 => 5 | n => n⟩
theorem Tryz.lays160 : Go.Proofs.Lays.n160 Tryz.prog Tryz.lays160_ren := {
 mixed := by kernel_rfl
 f119 := Tryz.func164.trans (congrArg some (by kernel_rfl))
 f120 := Tryz.func150.trans (congrArg some (by kernel_rfl))
 f137 := Tryz.func163.trans (congrArg some (by kernel_rfl))
 f151 := Tryz.func134.trans (congrArg some (by kernel_rfl))
 f152 := Tryz.func151.trans (congrArg some (by kernel_rfl))
 f160 := Tryz.func110.trans (congrArg some (by kernel_rfl))
 f197 := Tryz.func149.trans (congrArg some (by kernel_rfl))
 f217 := Tryz.func145.trans (congrArg some (by kernel_rfl))
 f224 := Tryz.func147.trans (congrArg some (by kernel_rfl))
 f225 := Tryz.func146.trans (congrArg some (by kernel_rfl))
 f227 := Tryz.func112.trans (congrArg some (by kernel_rfl))
 f228 := Tryz.func132.trans (congrArg some (by kernel_rfl))
 f231 := Tryz.func129.trans (congrArg some (by kernel_rfl))
 f232 := Tryz.func111.trans (congrArg some (by kernel_rfl))
 f233 := Tryz.func130.trans (congrArg some (by kernel_rfl))
 f234 := Tryz.func113.trans (congrArg some (by kernel_rfl))
 f235 := Tryz.func131.trans (congrArg some (by kernel_rfl))
 f236 := Tryz.func114.trans (congrArg some (by kernel_rfl))
 f260 := Tryz.func162.trans (congrArg some (by kernel_rfl))
 f266 := Tryz.func160.trans (congrArg some (by kernel_rfl))
 f271 := Tryz.func133.trans (congrArg some (by kernel_rfl))
 t0 := Tryz.underlying0
 a0 := Tryz.isAgg0
 z0 := Tryz.sizeOf0
 v0 := Tryz.zeroValue0
 t3 := Tryz.underlying3
 a3 := Tryz.isAgg3
 z3 := Tryz.sizeOf3
 v3 := Tryz.zeroValue3
 t4 := Tryz.underlying4
 a4 := Tryz.isAgg4
 z4 := Tryz.sizeOf4
 v4 := Tryz.zeroValue4
 t5 := Tryz.underlying5
 a5 := Tryz.isAgg5
 z5 := Tryz.sizeOf5
 v5 := Tryz.zeroValue5
 t9 := Tryz.underlying9
 a9 := Tryz.isAgg9
 z9 := Tryz.sizeOf9
 v9 := Tryz.zeroValue9
 t21 := Tryz.underlying21
 a21 := Tryz.isAgg21
 z21 := Tryz.sizeOf21
 v21 := Tryz.zeroValue21
 t46 := Tryz.underlying118
 a46 := Tryz.isAgg118
 z46 := Tryz.sizeOf118
 v46 := Tryz.zeroValue118
 t105 := Tryz.underlying131
 a105 := Tryz.isAgg131
 z105 := Tryz.sizeOf131
 v105 := Tryz.zeroValue131
 t116 := Tryz.underlying112
 a116 := Tryz.isAgg112
 z116 := Tryz.sizeOf112
 t117 := Tryz.underlying113
 a117 := Tryz.isAgg113
 z117 := Tryz.sizeOf113
 v117 := Tryz.zeroValue113
 t119 := Tryz.underlying173
 a119 := Tryz.isAgg173
 z119 := Tryz.sizeOf173
 t124 := Tryz.underlying116
 a124 := Tryz.isAgg116
 z124 := Tryz.sizeOf116
 v124 := Tryz.zeroValue116
 t138 := Tryz.underlying175
 a138 := Tryz.isAgg175
 z138 := Tryz.sizeOf175
 v138 := Tryz.zeroValue175
 t139 := Tryz.underlying176
 a139 := Tryz.isAgg176
 z139 := Tryz.sizeOf176
 v139 := Tryz.zeroValue176
 g3 := by kernel_rfl
 g4 := by kernel_rfl }
def Tryz.lays103_ren : Go.Shelf.Ren := ⟨fun | 103 => 66 | 210 => 108 | 206 => 127 | n => n, fun | 9 => 9 | 4 => 4 | 24 => 79 | 3 => 3 | n => n, fun | n => n⟩
theorem Tryz.lays103 : Go.Proofs.Lays.n103 Tryz.prog Tryz.lays103_ren := {
 mixed := by kernel_rfl
 f103 := Tryz.func66.trans (congrArg some (by kernel_rfl))
 f206 := Tryz.func127.trans (congrArg some (by kernel_rfl))
 f210 := Tryz.func108.trans (congrArg some (by kernel_rfl))
 t3 := Tryz.underlying3
 a3 := Tryz.isAgg3
 z3 := Tryz.sizeOf3
 v3 := Tryz.zeroValue3
 t4 := Tryz.underlying4
 a4 := Tryz.isAgg4
 z4 := Tryz.sizeOf4
 v4 := Tryz.zeroValue4
 t9 := Tryz.underlying9
 a9 := Tryz.isAgg9
 z9 := Tryz.sizeOf9
 v9 := Tryz.zeroValue9
 t24 := Tryz.underlying79
 a24 := Tryz.isAgg79
 z24 := Tryz.sizeOf79
 v24 := Tryz.zeroValue79 }
open Go.RowKit in
theorem Tryz.strings_CutPrefix (s p : ByteArray) (w : World) :
  Calls Tryz.prog 66 #[.string s, .string p] w fun e w' => e = .returned (.tuple #[.string ⟨(Lib.trimPrefix s.data.toList p.data.toList).toArray⟩, .bool (Lib.hasPrefix s.data.toList p.data.toList)]) ∧ w' = w := Any.strings_CutPrefix Tryz.lays103 s p w
def Tryz.lays172_ren : Go.Shelf.Ren := ⟨fun | 172 => 70 | 244 => 115 | 245 => 116 | 247 => 135 | 279 => 136 | 280 => 137 | 281 => 138 | 282 => 139 | 287 => 152 | 316 => 153 | 171 => 73 | 205 => 154 | 321 => 165 | 322 => 166 | 243 => 117 | 246 => 140 | 283 => 155 | 284 => 156 | 285 => 157 | 286 => 158 | 129 => 168 | 317 => 167 | 318 => 169 | 319 => 170 | 320 => 171 | 337 => 172 | 338 => 173 | n => n, fun | 9 => 9 | 3 => 3 | 75 => 86 | 76 => 87 | 4 => 4 | 5 => 5 | 167 => 134 | 37 => 76 | 0 => 0 | 85 => 135 | 2 => 2 | 168 => 137 | 53 => 144 | 175 => 151 | 46 => 118 | 210 => 155 | 127 => 124 | 145 => 168 | 143 => 166 | 21 => 21 | 171 => 157 | 173 => 160 | 212 => 170 | 51 => 141 | 20 => 20 | 213 => 171 | 232 => 178 | 233 => 179 | 80 => 96 | n => n, fun | 15 => 1 | 16 => 2 | 17 => 3 | 18 => 6 | 19 => 7 | n => n⟩
theorem Tryz.lays172 : Go.Proofs.Lays.n172 Tryz.prog Tryz.lays172_ren := {
 mixed := by kernel_rfl
 f129 := Tryz.func168.trans (congrArg some (by kernel_rfl))
 f171 := Tryz.func73.trans (congrArg some (by kernel_rfl))
 f172 := Tryz.func70.trans (congrArg some (by kernel_rfl))
 f205 := Tryz.func154.trans (congrArg some (by kernel_rfl))
 f243 := Tryz.func117.trans (congrArg some (by kernel_rfl))
 f244 := Tryz.func115.trans (congrArg some (by kernel_rfl))
 f245 := Tryz.func116.trans (congrArg some (by kernel_rfl))
 f246 := Tryz.func140.trans (congrArg some (by kernel_rfl))
 f247 := Tryz.func135.trans (congrArg some (by kernel_rfl))
 f279 := Tryz.func136.trans (congrArg some (by kernel_rfl))
 f280 := Tryz.func137.trans (congrArg some (by kernel_rfl))
 f281 := Tryz.func138.trans (congrArg some (by kernel_rfl))
 f282 := Tryz.func139.trans (congrArg some (by kernel_rfl))
 f283 := Tryz.func155.trans (congrArg some (by kernel_rfl))
 f284 := Tryz.func156.trans (congrArg some (by kernel_rfl))
 f285 := Tryz.func157.trans (congrArg some (by kernel_rfl))
 f286 := Tryz.func158.trans (congrArg some (by kernel_rfl))
 f287 := Tryz.func152.trans (congrArg some (by kernel_rfl))
 f316 := Tryz.func153.trans (congrArg some (by kernel_rfl))
 f317 := Tryz.func167.trans (congrArg some (by kernel_rfl))
 f318 := Tryz.func169.trans (congrArg some (by kernel_rfl))
 f319 := Tryz.func170.trans (congrArg some (by kernel_rfl))
 f320 := Tryz.func171.trans (congrArg some (by kernel_rfl))
 f321 := Tryz.func165.trans (congrArg some (by kernel_rfl))
 f322 := Tryz.func166.trans (congrArg some (by kernel_rfl))
 f337 := Tryz.func172.trans (congrArg some (by kernel_rfl))
 f338 := Tryz.func173.trans (congrArg some (by kernel_rfl))
 t0 := Tryz.underlying0
 a0 := Tryz.isAgg0
 z0 := Tryz.sizeOf0
 v0 := Tryz.zeroValue0
 t2 := Tryz.underlying2
 a2 := Tryz.isAgg2
 z2 := Tryz.sizeOf2
 v2 := Tryz.zeroValue2
 t3 := Tryz.underlying3
 a3 := Tryz.isAgg3
 z3 := Tryz.sizeOf3
 v3 := Tryz.zeroValue3
 t4 := Tryz.underlying4
 a4 := Tryz.isAgg4
 z4 := Tryz.sizeOf4
 v4 := Tryz.zeroValue4
 t5 := Tryz.underlying5
 a5 := Tryz.isAgg5
 z5 := Tryz.sizeOf5
 v5 := Tryz.zeroValue5
 t9 := Tryz.underlying9
 a9 := Tryz.isAgg9
 z9 := Tryz.sizeOf9
 v9 := Tryz.zeroValue9
 t20 := Tryz.underlying20
 a20 := Tryz.isAgg20
 z20 := Tryz.sizeOf20
 v20 := Tryz.zeroValue20
 t21 := Tryz.underlying21
 a21 := Tryz.isAgg21
 z21 := Tryz.sizeOf21
 v21 := Tryz.zeroValue21
 t37 := Tryz.underlying76
 a37 := Tryz.isAgg76
 z37 := Tryz.sizeOf76
 v37 := Tryz.zeroValue76
 t46 := Tryz.underlying118
 a46 := Tryz.isAgg118
 z46 := Tryz.sizeOf118
 v46 := Tryz.zeroValue118
 t51 := Tryz.underlying141
 a51 := Tryz.isAgg141
 z51 := Tryz.sizeOf141
 v51 := Tryz.zeroValue141
 t53 := Tryz.underlying144
 a53 := Tryz.isAgg144
 z53 := Tryz.sizeOf144
 v53 := Tryz.zeroValue144
 t75 := Tryz.underlying86
 a75 := Tryz.isAgg86
 z75 := Tryz.sizeOf86
 v75 := Tryz.zeroValue86
 t76 := Tryz.underlying87
 a76 := Tryz.isAgg87
 z76 := Tryz.sizeOf87
 v76 := Tryz.zeroValue87
 t85 := Tryz.underlying135
 a85 := Tryz.isAgg135
 z85 := Tryz.sizeOf135
 v85 := Tryz.zeroValue135
 t127 := Tryz.underlying124
 a127 := Tryz.isAgg124
 z127 := Tryz.sizeOf124
 v127 := Tryz.zeroValue124
 t143 := Tryz.underlying166
 a143 := Tryz.isAgg166
 z143 := Tryz.sizeOf166
 v143 := Tryz.zeroValue166
 t145 := Tryz.underlying168
 a145 := Tryz.isAgg168
 z145 := Tryz.sizeOf168
 v145 := Tryz.zeroValue168
 t167 := Tryz.underlying134
 a167 := Tryz.isAgg134
 z167 := Tryz.sizeOf134
 v167 := Tryz.zeroValue134
 t168 := Tryz.underlying137
 a168 := Tryz.isAgg137
 z168 := Tryz.sizeOf137
 v168 := Tryz.zeroValue137
 t171 := Tryz.underlying157
 a171 := Tryz.isAgg157
 z171 := Tryz.sizeOf157
 v171 := Tryz.zeroValue157
 t173 := Tryz.underlying160
 a173 := Tryz.isAgg160
 z173 := Tryz.sizeOf160
 v173 := Tryz.zeroValue160
 t175 := Tryz.underlying151
 a175 := Tryz.isAgg151
 z175 := Tryz.sizeOf151
 v175 := Tryz.zeroValue151
 t210 := Tryz.underlying155
 a210 := Tryz.isAgg155
 z210 := Tryz.sizeOf155
 v210 := Tryz.zeroValue155
 t212 := Tryz.underlying170
 a212 := Tryz.isAgg170
 z212 := Tryz.sizeOf170
 v212 := Tryz.zeroValue170
 t213 := Tryz.underlying171
 a213 := Tryz.isAgg171
 z213 := Tryz.sizeOf171
 t232 := Tryz.underlying178
 a232 := Tryz.isAgg178
 z232 := Tryz.sizeOf178
 v232 := Tryz.zeroValue178
 t233 := Tryz.underlying179
 a233 := Tryz.isAgg179
 z233 := Tryz.sizeOf179
 v233 := Tryz.zeroValue179
 g15 := by kernel_rfl
 g16 := by kernel_rfl
 g17 := by kernel_rfl
 g18 := by kernel_rfl
 g19 := by kernel_rfl }
open Go.RowKit in
theorem Tryz.strconv_Atoi (s : ByteArray) (n : Int) (hl : s.size ≤ 18) (h : Lib.atoi s.data.toList = some n) (w : World) :
  Calls Tryz.prog 70 #[.string s] w fun e w' => e = .returned (.tuple #[.int .i64 n, .nilIface]) ∧ ∃ t, w' = Lib.bytesWorld w 5 t := Any.strconv_Atoi Tryz.lays172 s n hl h w
def Tryz.laysM246_ren : Go.Shelf.Ren := ⟨fun | 246 => 140 | 283 => 155 | 284 => 156 | 285 => 157 | 286 => 158 | 129 => 168 | 317 => 167 | 318 => 169 | 319 => 170 | 320 => 171 | 337 => 172 | 338 => 173 | n => n, fun | 2 => 2 | 3 => 3 | 9 => 9 | 4 => 4 | 171 => 157 | 0 => 0 | 53 => 144 | 37 => 76 | 5 => 5 | 173 => 160 | 212 => 170 | 51 => 141 | 20 => 20 | 213 => 171 | 46 => 118 | 232 => 178 | 233 => 179 | n => n, fun | 17 => 3 | 18 => 6 | 19 => 7 | n => n⟩
def Tryz.laysM243_ren : Go.Shelf.Ren := ⟨fun | 243 => 117 | 246 => 140 | 283 => 155 | 284 => 156 | 285 => 157 | 286 => 158 | 129 => 168 | 317 => 167 | 318 => 169 | 319 => 170 | 320 => 171 | 337 => 172 | 338 => 173 | n => n, fun | 3 => 3 | 9 => 9 | 2 => 2 | 4 => 4 | 171 => 157 | 0 => 0 | 53 => 144 | 37 => 76 | 5 => 5 | 173 => 160 | 212 => 170 | 51 => 141 | 20 => 20 | 213 => 171 | 46 => 118 | 232 => 178 | 233 => 179 | n => n, fun | 17 => 3 | 18 => 6 | 19 => 7 | n => n⟩
def Tryz.laysM171_ren : Go.Shelf.Ren := ⟨fun | 171 => 73 | 243 => 117 | 246 => 140 | 283 => 155 | 284 => 156 | 285 => 157 | 286 => 158 | 129 => 168 | 317 => 167 | 318 => 169 | 319 => 170 | 320 => 171 | 337 => 172 | 338 => 173 | n => n, fun | 3 => 3 | 9 => 9 | 2 => 2 | 4 => 4 | 171 => 157 | 0 => 0 | 53 => 144 | 37 => 76 | 5 => 5 | 173 => 160 | 212 => 170 | 51 => 141 | 20 => 20 | 213 => 171 | 46 => 118 | 232 => 178 | 233 => 179 | n => n, fun | 17 => 3 | 18 => 6 | 19 => 7 | n => n⟩
theorem Tryz.laysM171 : Go.Proofs.LaysM.n171 Tryz.prog Tryz.laysM171_ren := {
 mixed := by kernel_rfl
 f129 := Tryz.func168.trans (congrArg some (by kernel_rfl))
 f171 := Tryz.func73.trans (congrArg some (by kernel_rfl))
 f243 := Tryz.func117.trans (congrArg some (by kernel_rfl))
 f246 := Tryz.func140.trans (congrArg some (by kernel_rfl))
 f283 := Tryz.func155.trans (congrArg some (by kernel_rfl))
 f284 := Tryz.func156.trans (congrArg some (by kernel_rfl))
 f285 := Tryz.func157.trans (congrArg some (by kernel_rfl))
 f286 := Tryz.func158.trans (congrArg some (by kernel_rfl))
 f317 := Tryz.func167.trans (congrArg some (by kernel_rfl))
 f318 := Tryz.func169.trans (congrArg some (by kernel_rfl))
 f319 := Tryz.func170.trans (congrArg some (by kernel_rfl))
 f320 := Tryz.func171.trans (congrArg some (by kernel_rfl))
 f337 := Tryz.func172.trans (congrArg some (by kernel_rfl))
 f338 := Tryz.func173.trans (congrArg some (by kernel_rfl))
 t0 := Tryz.underlying0
 a0 := Tryz.isAgg0
 z0 := Tryz.sizeOf0
 v0 := Tryz.zeroValue0
 t2 := Tryz.underlying2
 a2 := Tryz.isAgg2
 z2 := Tryz.sizeOf2
 v2 := Tryz.zeroValue2
 t3 := Tryz.underlying3
 a3 := Tryz.isAgg3
 z3 := Tryz.sizeOf3
 v3 := Tryz.zeroValue3
 t4 := Tryz.underlying4
 a4 := Tryz.isAgg4
 z4 := Tryz.sizeOf4
 v4 := Tryz.zeroValue4
 t5 := Tryz.underlying5
 a5 := Tryz.isAgg5
 z5 := Tryz.sizeOf5
 v5 := Tryz.zeroValue5
 t9 := Tryz.underlying9
 a9 := Tryz.isAgg9
 z9 := Tryz.sizeOf9
 v9 := Tryz.zeroValue9
 t20 := Tryz.underlying20
 a20 := Tryz.isAgg20
 z20 := Tryz.sizeOf20
 v20 := Tryz.zeroValue20
 t37 := Tryz.underlying76
 a37 := Tryz.isAgg76
 z37 := Tryz.sizeOf76
 v37 := Tryz.zeroValue76
 t46 := Tryz.underlying118
 a46 := Tryz.isAgg118
 z46 := Tryz.sizeOf118
 v46 := Tryz.zeroValue118
 t51 := Tryz.underlying141
 a51 := Tryz.isAgg141
 z51 := Tryz.sizeOf141
 v51 := Tryz.zeroValue141
 t53 := Tryz.underlying144
 a53 := Tryz.isAgg144
 z53 := Tryz.sizeOf144
 v53 := Tryz.zeroValue144
 t171 := Tryz.underlying157
 a171 := Tryz.isAgg157
 z171 := Tryz.sizeOf157
 v171 := Tryz.zeroValue157
 t173 := Tryz.underlying160
 a173 := Tryz.isAgg160
 z173 := Tryz.sizeOf160
 v173 := Tryz.zeroValue160
 t212 := Tryz.underlying170
 a212 := Tryz.isAgg170
 z212 := Tryz.sizeOf170
 v212 := Tryz.zeroValue170
 t213 := Tryz.underlying171
 a213 := Tryz.isAgg171
 z213 := Tryz.sizeOf171
 t232 := Tryz.underlying178
 a232 := Tryz.isAgg178
 z232 := Tryz.sizeOf178
 v232 := Tryz.zeroValue178
 t233 := Tryz.underlying179
 a233 := Tryz.isAgg179
 z233 := Tryz.sizeOf179
 v233 := Tryz.zeroValue179
 g17 := by kernel_rfl
 g18 := by kernel_rfl
 g19 := by kernel_rfl
 i0 := by kernel_rfl
 i2 := by kernel_rfl
 i3 := by kernel_rfl
 i4 := by kernel_rfl
 i5 := by kernel_rfl
 i9 := by kernel_rfl
 i20 := by kernel_rfl
 i37 := by kernel_rfl
 i46 := by kernel_rfl
 i51 := by kernel_rfl
 i53 := by kernel_rfl
 i171 := by kernel_rfl
 i173 := by kernel_rfl
 i212 := by kernel_rfl
 i232 := by kernel_rfl
 i233 := by kernel_rfl
 m17 := by kernel_rfl
 m18 := by kernel_rfl
 m19 := by kernel_rfl }
open Go.RowKit Go.Sort Go.Lib in
theorem Tryz.strconv_Itoa (n : Int) (h0 : -9223372036854775808 ≤ n) (h1 : n ≤ 9223372036854775807) (w : World) (htab : Lib.TabIs Tryz.prog w "internal/strconv.uint64pow10" .u64 Lib.pow10Tab) :
  Calls Tryz.prog 73 #[.int .i64 n] w fun e w' => e = .returned (.string ⟨(Lib.itoa n).toArray⟩) ∧ ∃ k os, w' = grow (w.drewN k) os := Any.strconv_Itoa Tryz.laysM171 n h0 h1 w htab
def Tryz.lays219_ren : Go.Shelf.Ren := ⟨fun | 219 => 128 | 217 => 145 | 225 => 146 | 224 => 147 | 267 => 148 | 266 => 160 | 314 => 161 | n => n, fun | 9 => 9 | 3 => 3 | 4 => 4 | 5 => 5 | 46 => 118 | 146 => 142 | 51 => 141 | n => n, fun | 1 => 0 | n => n⟩
theorem Tryz.lays219 : Go.Proofs.Lays.n219 Tryz.prog Tryz.lays219_ren := {
 mixed := by kernel_rfl
 f217 := Tryz.func145.trans (congrArg some (by kernel_rfl))
 f219 := Tryz.func128.trans (congrArg some (by kernel_rfl))
 f224 := Tryz.func147.trans (congrArg some (by kernel_rfl))
 f225 := Tryz.func146.trans (congrArg some (by kernel_rfl))
 f266 := Tryz.func160.trans (congrArg some (by kernel_rfl))
 f267 := Tryz.func148.trans (congrArg some (by kernel_rfl))
 f314 := Tryz.func161.trans (congrArg some (by kernel_rfl))
 t3 := Tryz.underlying3
 a3 := Tryz.isAgg3
 z3 := Tryz.sizeOf3
 v3 := Tryz.zeroValue3
 t4 := Tryz.underlying4
 a4 := Tryz.isAgg4
 z4 := Tryz.sizeOf4
 v4 := Tryz.zeroValue4
 t5 := Tryz.underlying5
 a5 := Tryz.isAgg5
 z5 := Tryz.sizeOf5
 v5 := Tryz.zeroValue5
 t9 := Tryz.underlying9
 a9 := Tryz.isAgg9
 z9 := Tryz.sizeOf9
 v9 := Tryz.zeroValue9
 t46 := Tryz.underlying118
 a46 := Tryz.isAgg118
 z46 := Tryz.sizeOf118
 v46 := Tryz.zeroValue118
 t51 := Tryz.underlying141
 a51 := Tryz.isAgg141
 z51 := Tryz.sizeOf141
 v51 := Tryz.zeroValue141
 t146 := Tryz.underlying142
 a146 := Tryz.isAgg142
 z146 := Tryz.sizeOf142
 v146 := Tryz.zeroValue142
 g1 := by kernel_rfl }
open Go.RowKit Go.Lib in
theorem Tryz.stringslite_Index_one (s : ByteArray) (c : UInt8) (w : World) :
  Calls Tryz.prog 128 #[.string s, .string ⟨#[c]⟩] w fun e w' => e = .returned (.int .i64 (Lib.indexByte s.data.toList c)) ∧ w' = w := Any.stringslite_Index_one Tryz.lays219 s c w
def Tryz.lays105_ren : Go.Shelf.Ren := ⟨fun | 105 => 74 | 212 => 118 | 99 => 119 | 165 => 120 | 166 => 81 | 170 => 121 | 169 => 83 | 263 => 141 | 264 => 142 | 206 => 127 | 240 => 122 | 241 => 143 | 276 => 144 | 277 => 159 | n => n, fun | 9 => 9 | 3 => 3 | 4 => 4 | 20 => 20 | 0 => 0 | 46 => 118 | 109 => 119 | 5 => 5 | 72 => 93 | 76 => 87 | 51 => 141 | 146 => 142 | 53 => 144 | 148 => 145 | 70 => 91 | 37 => 76 | 75 => 86 | 127 => 124 | 164 => 147 | 80 => 96 | n => n, fun | n => n⟩
theorem Tryz.lays105 : Go.Proofs.Lays.n105 Tryz.prog Tryz.lays105_ren := {
 mixed := by kernel_rfl
 f99 := Tryz.func119.trans (congrArg some (by kernel_rfl))
 f105 := Tryz.func74.trans (congrArg some (by kernel_rfl))
 f165 := Tryz.func120.trans (congrArg some (by kernel_rfl))
 f166 := Tryz.func81.trans (congrArg some (by kernel_rfl))
 f169 := Tryz.func83.trans (congrArg some (by kernel_rfl))
 f170 := Tryz.func121.trans (congrArg some (by kernel_rfl))
 f206 := Tryz.func127.trans (congrArg some (by kernel_rfl))
 f212 := Tryz.func118.trans (congrArg some (by kernel_rfl))
 f240 := Tryz.func122.trans (congrArg some (by kernel_rfl))
 f241 := Tryz.func143.trans (congrArg some (by kernel_rfl))
 f263 := Tryz.func141.trans (congrArg some (by kernel_rfl))
 f264 := Tryz.func142.trans (congrArg some (by kernel_rfl))
 f276 := Tryz.func144.trans (congrArg some (by kernel_rfl))
 f277 := Tryz.func159.trans (congrArg some (by kernel_rfl))
 t0 := Tryz.underlying0
 a0 := Tryz.isAgg0
 z0 := Tryz.sizeOf0
 v0 := Tryz.zeroValue0
 t3 := Tryz.underlying3
 a3 := Tryz.isAgg3
 z3 := Tryz.sizeOf3
 v3 := Tryz.zeroValue3
 t4 := Tryz.underlying4
 a4 := Tryz.isAgg4
 z4 := Tryz.sizeOf4
 v4 := Tryz.zeroValue4
 t5 := Tryz.underlying5
 a5 := Tryz.isAgg5
 z5 := Tryz.sizeOf5
 v5 := Tryz.zeroValue5
 t9 := Tryz.underlying9
 a9 := Tryz.isAgg9
 z9 := Tryz.sizeOf9
 v9 := Tryz.zeroValue9
 t20 := Tryz.underlying20
 a20 := Tryz.isAgg20
 z20 := Tryz.sizeOf20
 v20 := Tryz.zeroValue20
 t37 := Tryz.underlying76
 a37 := Tryz.isAgg76
 z37 := Tryz.sizeOf76
 v37 := Tryz.zeroValue76
 t46 := Tryz.underlying118
 a46 := Tryz.isAgg118
 z46 := Tryz.sizeOf118
 v46 := Tryz.zeroValue118
 t51 := Tryz.underlying141
 a51 := Tryz.isAgg141
 z51 := Tryz.sizeOf141
 v51 := Tryz.zeroValue141
 t53 := Tryz.underlying144
 a53 := Tryz.isAgg144
 z53 := Tryz.sizeOf144
 v53 := Tryz.zeroValue144
 t70 := Tryz.underlying91
 a70 := Tryz.isAgg91
 z70 := Tryz.sizeOf91
 v70 := Tryz.zeroValue91
 t72 := Tryz.underlying93
 a72 := Tryz.isAgg93
 z72 := Tryz.sizeOf93
 v72 := Tryz.zeroValue93
 t75 := Tryz.underlying86
 a75 := Tryz.isAgg86
 z75 := Tryz.sizeOf86
 v75 := Tryz.zeroValue86
 t76 := Tryz.underlying87
 a76 := Tryz.isAgg87
 z76 := Tryz.sizeOf87
 v76 := Tryz.zeroValue87
 t109 := Tryz.underlying119
 a109 := Tryz.isAgg119
 z109 := Tryz.sizeOf119
 v109 := Tryz.zeroValue119
 t127 := Tryz.underlying124
 a127 := Tryz.isAgg124
 z127 := Tryz.sizeOf124
 v127 := Tryz.zeroValue124
 t146 := Tryz.underlying142
 a146 := Tryz.isAgg142
 z146 := Tryz.sizeOf142
 v146 := Tryz.zeroValue142
 t148 := Tryz.underlying145
 a148 := Tryz.isAgg145
 z148 := Tryz.sizeOf145
 v148 := Tryz.zeroValue145
 t164 := Tryz.underlying147
 a164 := Tryz.isAgg147
 z164 := Tryz.sizeOf147
 v164 := Tryz.zeroValue147 }
theorem Tryz.Builder_Extra_105 : Builder.Extra Tryz.prog Tryz.lays105_ren := {
 sizeBuilder := by kernel_rfl
 liesBuilder := by kernel_rfl
 t5 := Tryz.underlying5
 a5 := Tryz.isAgg5
 z5 := Tryz.sizeOf5
 v5 := Tryz.zeroValue5
 infoByte := by kernel_rfl
 cellsByte := by kernel_rfl
 sizeByte := by kernel_rfl
 neB5 := by decide }
open Go.RowKit Go.Lib in
theorem Tryz.strings_Repeat (s : ByteArray) (c : Nat) (w : World) (hc : c ≤ 9223372036854775807) (hlen : s.size * c ≤ 140737488355328) :
  Calls Tryz.prog 74 #[.string s, .int .i64 c] w fun e w' => e = .returned (.string ⟨(Lib.repeatL s.data.toList c).toArray⟩) ∧ Below w.heap.size w w' := Any.strings_Repeat Tryz.lays105 Tryz.Builder_Extra_105 s c w hc hlen
end Go.Proofs.YtalffjplbhelcaaGreatDoor
namespace Go.Proofs.YtalffjplbhelcaaGreatDoor
open Go.RowKit
section
variable {p : Program} {n : Nat} {ops : Array Oper} {Q : Exit → Env → List Box → Prop}
def lookOk (ops : Array Oper) (B : List Nat) (o : Oper) : Bool :=
  (Oper.looksAt ops o).all fun t => B.contains t || ((List.range ops.size).any fun k => bindsOn o k && (match dstOf ops k with | some d => Nat.beq d t | none => false))
def stageOk (ops : Array Oper) (Ms B S todo nxt dn bl : List Nat) : Bool :=
  Region.noSelect ops
  && ((List.range ops.size).all fun i => match ops[i]? with | some o => (o.after.all fun e => !(Region.binds .any e) || Nat.blt e.on i) | none => false)
  && (todo.all fun i => !(Ms.contains i) && (match ops[i]? with | some o => lookOk ops B o | none => false))
  && (nxt.all fun i => Ms.contains i && !(S.contains i) && (match ops[i]? with | some o => lookOk ops B o | none => false))
  && (bl.all fun i => (List.range ops.size).any fun k => before_ ops i k && ((Ms.contains k && !(S.contains k)) || (bl.contains k && Nat.blt k i)))
  && (S.all fun i => Ms.contains i)
  && ((List.range ops.size).all fun i => S.contains i || dn.contains i || todo.contains i || nxt.contains i || bl.contains i)
def dnOk (ops : Array Oper) (m : Nat) (dn dn' : List Nat) : Bool :=
  dn'.all fun i => dn.contains i || (List.range ops.size).any fun k => before_ ops k i && (Nat.beq k m || (dn'.contains k && Nat.blt i k))
def SameAt (E F : Env) : List Nat → Prop
  | [] => True
  | t :: ts => E t = F t ∧ SameAt E F ts
theorem sameAt_mem {E F : Env} : ∀ {l : List Nat}, SameAt E F l → ∀ t ∈ l, E t = F t
  | [], _, _, h => by cases h
  | s :: l, h, t, ht => by
    rcases List.mem_cons.1 ht with rfl | ht
    · exact h.1
    · exact sameAt_mem h.2 t ht
theorem sameAt_of {E F : Env} : ∀ {l : List Nat}, (∀ t ∈ l, E t = F t) → SameAt E F l
  | [], _ => trivial
  | s :: l, h => ⟨h s List.mem_cons_self, sameAt_of fun t ht => h t (List.mem_cons_of_mem _ ht)⟩
def undone (ops : Array Oper) (L : Array Bool) : Nat := (List.range ops.size).countP fun i => !(L.getD i false)
theorem countP_one (f g : Nat → Bool) (i : Nat) : ∀ l : List Nat, l.Nodup → i ∈ l → (∀ j, j ≠ i → f j = g j) → f i = true → g i = false → l.countP f = l.countP g + 1
  | [], _, h, _, _, _ => by cases h
  | x :: l, hn, h, he, h1, h2 => by
    simp only [List.nodup_cons] at hn
    rcases List.mem_cons.1 h with rfl | h
    · rw [List.countP_cons_of_pos h1, List.countP_cons_of_neg (by rw [h2]; exact Bool.false_ne_true)]
      have : l.countP f = l.countP g := List.countP_congr fun j hj => by rw [he j (fun e => hn.1 (e ▸ hj))]
      omega
    · have hx : x ≠ i := fun e => hn.1 (e ▸ h)
      have ih := countP_one f g i l hn.2 h he h1 h2
      rw [List.countP_cons, List.countP_cons, he x hx, ih]
      omega
theorem undone_set {L : Array Bool} {i : Nat} (hs : L.size = ops.size) (hi : i < ops.size) (hl : L.getD i false = false) : undone ops L = undone ops (L.setIfInBounds i true) + 1 := by
  refine countP_one _ _ i _ List.nodup_range (List.mem_range.2 hi) (fun j hj => ?_) (by rw [hl]; rfl) ?_
  · rw [getD_set_ne false (Ne.symm hj)]
  · have : (L.setIfInBounds i true).getD i false = true := by simp [hs, hi]
    rw [this]; rfl
theorem look_congr {E F : Env} {o : Oper} {i : Nat} (ho : ops[i]? = some o) (hsel : Region.noSelect ops = true) (hl : ∀ t ∈ Oper.looksAt ops o, E t = F t) : execOp (ev n E) o = execOp (ev n F) o ∧ yld n ops E o = yld n ops F o := by
  have he : ∀ t, t ∈ Oper.looksAt ops o → ev n E (.tmp t) = ev n F (.tmp t) := fun t ht => by simp only [ev, hl t ht]
  refine ⟨execOp_congr o (fun cs b => Region.noSelect_spec hsel i o cs b ho) (fun x hx => ?_), ?_⟩
  · cases x with
    | tmp t => exact he t (List.mem_append_left _ (List.mem_filterMap.2 ⟨.tmp t, by simpa using hx, rfl⟩))
    | _ => rfl
  · unfold yld
    cases hg : o.guard with
    | none => rfl
    | some gw =>
      obtain ⟨j, want⟩ := gw
      cases hd : (ops[j]?).bind (·.dst) with
      | none => simp [hd]
      | some t =>
        simp only [hd]
        rw [he t (by simp [Oper.looksAt, hg, hd])]
def Stage (p : Program) (n : Nat) (ops : Array Oper) (Q : Exit → Env → List Box → Prop) (Ms B S dn : List Nat) (F : Env) (H : List Box) : Prop :=
  ∀ (L : Array Bool) (E : Env), L.size = ops.size → Down ops L → (∀ m ∈ Ms, L.getD m false = S.contains m) → (∀ i ∈ dn, L.getD i false = true) → (∀ t ∈ B, E t = F t) → (∀ i, L.getD i false = true → ∀ d, dstOf ops i = some d → E d = F d) →
    ∀ β w a, Own β H w → Keeps β w → Sees n E a → wpAny p .any ops (AQ n β Q) (undone ops L) L a w
def TellsF (p : Program) (n : Nat) (ops : Array Oper) (H : List Box) (F : Env) (i : Nat) : Prop := ∃ v, Tells p n ops H F i v ∧ ∀ d, dstOf ops i = some d → v = F d
def slotsOf (ops : Array Oper) (B : List Nat) (l : List Nat) : List Nat := B ++ l.filterMap (dstOf ops)
theorem stage_rule {Ms B S dn : List Nat} {F : Env} {H : List Box} (todo nxt bl : List Nat) (hok : stageOk ops Ms B S todo nxt dn bl = true)
    (hq : Each (TellsF p n ops H F) todo)
    (hm : Each (fun i => OpR p n ops F H i fun F1 H' => ∃ F' dn', SameAt F' F1 (slotsOf ops B (dn ++ todo ++ S ++ [i])) ∧ dnOk ops i dn dn' = true ∧ Stage p n ops Q Ms B (i :: S) dn' F' H') nxt)
    (hfin : nxt = [] → ∀ E, (∀ t ∈ slotsOf ops B (dn ++ todo ++ S), E t = F t) → Q .normal E H) : Stage p n ops Q Ms B S dn F H := by
  simp only [stageOk, Bool.and_eq_true, List.all_eq_true, List.mem_range] at hok
  obtain ⟨⟨⟨⟨⟨⟨hsel, hback⟩, htodo⟩, hnxt⟩, hbl⟩, hSM⟩, hcov⟩ := hok
  have back : ∀ i o, ops[i]? = some o → ∀ e ∈ o.after, Region.binds .any e = true → e.on < i := by
    intro i o ho e he hb
    have := hback i (Array.getElem?_eq_some_iff.1 ho).1
    rw [ho] at this
    have h := Array.all_eq_true_iff_forall_mem.1 this e he
    simpa [hb] using h
  suffices key : ∀ (fuel : Nat) (L : Array Bool) (E : Env), undone ops L = fuel → L.size = ops.size → Down ops L → (∀ m ∈ Ms, L.getD m false = S.contains m) → (∀ i ∈ dn, L.getD i false = true) → (∀ t ∈ B, E t = F t) → (∀ i, L.getD i false = true → ∀ d, dstOf ops i = some d → E d = F d) →
      ∀ β w a, Own β H w → Keeps β w → Sees n E a → wpAny p .any ops (AQ n β Q) fuel L a w by
    intro L E h1 h2 h3 h4 h5 h6
    exact key _ L E rfl h1 h2 h3 h4 h5 h6
  intro fuel
  induction fuel with
  | zero =>
    intro L E hu hs hd hM hdn hB hE β w a hO hK hse
    have all : ∀ i, i < ops.size → L.getD i false = true := by
      intro i hi
      have := (List.countP_eq_zero.1 hu) i (List.mem_range.2 hi)
      simpa using this
    have hr : Region.ready .any ops L = [] := by
      apply List.eq_nil_iff_forall_not_mem.2
      intro i hi
      obtain ⟨h0, o, ho, _⟩ := mem_ready.1 hi
      have hlt := (Array.getElem?_eq_some_iff.1 ho).1
      have := all i hlt
      simp only [Array.getD_eq_getD_getElem?] at this h0
      cases hq : L[i]? with
      | none => simp [hq] at this
      | some b => simp [hq] at this h0; rw [this] at h0; cases h0
    have hn : nxt = [] := by
      cases hx : nxt with
      | nil => rfl
      | cons m ms =>
        have h1 := hnxt m (by rw [hx]; exact List.mem_cons_self)
        simp only [Bool.and_eq_true, Bool.not_eq_true'] at h1
        have h2 := hM m (by simpa using h1.1.1)
        rw [h1.1.2] at h2
        cases ho : ops[m]? with
        | none => simp [ho] at h1
        | some o =>
          have := all m (Array.getElem?_eq_some_iff.1 ho).1
          rw [this] at h2
          cases h2
    refine ⟨hr, E, H, hfin hn E (fun t ht => ?_), hse, hO, hK⟩
    rcases List.mem_append.1 ht with ht | ht
    · exact hB t ht
    · obtain ⟨i, hi, hd⟩ := List.mem_filterMap.1 ht
      refine hE i ?_ t hd
      unfold dstOf at hd
      cases ho : ops[i]? with
      | none => simp [ho] at hd
      | some o => exact all i (Array.getElem?_eq_some_iff.1 ho).1
  | succ fuel ih =>
    intro L E hu hs hd hM hdn hB hE β w a hO hK hse
    have notbl : ∀ m i, i < m → i ∈ bl → L.getD i false = false := by
      intro m
      induction m with
      | zero => intro i h; omega
      | succ m ihm =>
        intro i him hi
        obtain ⟨k, hk, hb⟩ := List.any_eq_true.1 (hbl i hi)
        simp only [Bool.and_eq_true, Bool.or_eq_true, Bool.not_eq_true', Nat.blt_eq] at hb
        obtain ⟨o, ho, e, he, hbd, hon⟩ := before_spec hb.1
        have hkf : L.getD k false = false := by
          rcases hb.2 with h | h
          · rw [hM k (by simpa using h.1), h.2]
          · exact ihm k (by omega) (by simpa using h.1)
        cases hl : L.getD i false with
        | false => rfl
        | true =>
          have := hd i o ho hl e he hbd
          rw [hon, hkf] at this
          cases this
    refine ⟨fun hr => ?_, fun i hi => ?_⟩
    · -- something has not come up: something may
      exfalso
      have hex : ∃ i, i < ops.size ∧ L.getD i false = false := by
        refine Classical.byContradiction fun hc => ?_
        have : undone ops L = 0 := List.countP_eq_zero.2 fun i hi => by
          have hi' := List.mem_range.1 hi
          cases hl : L.getD i false with
          | true => simp
          | false => exact absurd ⟨i, hi', hl⟩ hc
        omega
      have rs : ∀ m i, i < m → i < ops.size → L.getD i false = false → ∃ j, j ∈ Region.ready .any ops L := by
        intro m
        induction m with
        | zero => intro i h; omega
        | succ m ihm =>
          intro i him hi hl
          obtain ⟨o, ho⟩ : ∃ o, ops[i]? = some o := ⟨_, Array.getElem?_eq_getElem hi⟩
          by_cases hall : ∀ e ∈ o.after, Region.binds .any e = true → L.getD e.on false = true
          · refine ⟨i, mem_ready.2 ⟨?_, o, ho, hall⟩⟩
            have hi' : i < L.size := by omega
            simpa [hi'] using hl
          · obtain ⟨e, he, hb, hne⟩ : ∃ e, e ∈ o.after ∧ Region.binds .any e = true ∧ ¬ L.getD e.on false = true := by
              refine Classical.byContradiction fun hc => hall fun e he hb => ?_
              exact Classical.byContradiction fun hn => hc ⟨e, he, hb, hn⟩
            have hlt := back i o ho e he hb
            exact ihm e.on (by omega) (by omega) (by simpa using hne)
      obtain ⟨i, hi, hl⟩ := hex
      obtain ⟨j, hj⟩ := rs (i + 1) i (by omega) hi hl
      rw [hr] at hj
      cases hj
    · obtain ⟨h0, o, ho, hall⟩ := mem_ready.1 hi
      have hlt := (Array.getElem?_eq_some_iff.1 ho).1
      have hl : L.getD i false = false := by
        have hi' : i < L.size := by omega
        simpa [hi'] using h0
      have hcnt := undone_set hs hlt hl
      have hs' : (L.setIfInBounds i true).size = ops.size := by simp [hs]
      have hd' := hd.set hi
      have hLi : (L.setIfInBounds i true).getD i false = true := by simp [hs, hlt]
      have hLj : ∀ j, j ≠ i → (L.setIfInBounds i true).getD j false = L.getD j false := fun j hj => getD_set_ne false (Ne.symm hj)
      have looks : lookOk ops B o = true → ∀ t ∈ Oper.looksAt ops o, E t = F t := by
        intro hlk t ht
        have := List.all_eq_true.1 hlk t ht
        rw [Bool.or_eq_true, List.any_eq_true] at this
        rcases this with h | ⟨k, hk, h⟩
        · exact hB t (by simpa using h)
        · simp only [Bool.and_eq_true] at h
          obtain ⟨hbo, hdt⟩ := h
          unfold bindsOn at hbo
          obtain ⟨e, he, hbb⟩ := Array.any_eq_true'.1 hbo
          simp only [Bool.and_eq_true, beq_iff_eq] at hbb
          have hlk := hall e he hbb.1
          rw [hbb.2] at hlk
          cases hdk : dstOf ops k with
          | none => simp [hdk] at hdt
          | some d =>
            simp only [hdk] at hdt
            have : d = t := Nat.eq_of_beq_eq_true hdt
            rw [← this]
            exact hE k hlk d hdk
      have hc := hcov i hlt
      simp only [Bool.or_eq_true] at hc
      have notS : S.contains i = false := by
        cases hS : S.contains i with
        | false => rfl
        | true =>
          have hm := hSM i (by simpa using hS)
          rw [hM i (by simpa using hm), hS] at hl
          cases hl
      have hfu : undone ops (L.setIfInBounds i true) = fuel := by omega
      unfold wpOp
      simp only [ho]
      rw [hse.yld]
      have htn : i ∈ todo ∨ i ∈ nxt := by
        rcases hc with (((h | h) | h) | h) | h
        · rw [notS] at h; cases h
        · have := hdn i (by simpa using h)
          rw [hl] at this; cases this
        · exact .inl (by simpa using h)
        · exact .inr (by simpa using h)
        · exfalso
          have hib : i ∈ bl := by simpa using h
          obtain ⟨k, hk, hb⟩ := List.any_eq_true.1 (hbl i hib)
          simp only [Bool.and_eq_true, Bool.or_eq_true, Bool.not_eq_true', Nat.blt_eq] at hb
          obtain ⟨o', ho', e, he, hbd, hon⟩ := before_spec hb.1
          rw [ho] at ho'
          cases ho'
          have h1 := hall e he hbd
          rw [hon] at h1
          rcases hb.2 with h | h
          · rw [hM k (by simpa using h.1), h.2] at h1; cases h1
          · rw [notbl (k + 1) k (by omega) (by simpa using h.1)] at h1; cases h1
      rcases htn with hti | hni
      · -- one that tells the same
        have ht := htodo i hti
        rw [ho] at ht
        simp only [Bool.and_eq_true, Bool.not_eq_true'] at ht
        have hl' := looks ht.2
        obtain ⟨v, hT, hv⟩ := each_mem hq i hti
        obtain ⟨o', ho', hT⟩ := tells_congr (E' := E) hsel hT (fun o' ho' t htl => by rw [ho] at ho'; cases ho'; exact hl' t htl)
        rw [ho] at ho'
        cases ho'
        have hdst : dstOf ops i = o.dst := by simp [dstOf, ho]
        have go : ∀ w' a' , Own β H w' → Keeps β w' → Sees n (E.put o.dst v) a' → wpAny p .any ops (AQ n β Q) fuel (L.setIfInBounds i true) a' w' := by
          intro w' a' hO' hK' hs2
          refine ih _ (E.put o.dst v) hfu hs' hd' (fun m hm => ?_) (fun j hj => getD_set_true (hdn j hj)) (fun t htB => ?_) (fun j hj d hdj => ?_) β w' a' hO' hK' hs2
          · have hne : m ≠ i := by
              intro e
              have := ht.1
              rw [← e] at this
              simp [hm] at this
            rw [hLj m hne]
            exact hM m hm
          · rw [put_apply]
            split
            · rename_i h; exact hv t (by rw [hdst]; exact h)
            · exact hB t htB
          · rw [put_apply]
            split
            · rename_i h; exact hv d (by rw [hdst]; exact h)
            · rename_i h
              by_cases hji : j = i
              · subst hji; rw [hdst] at hdj; exact absurd hdj h
              · rw [hLj j hji] at hj
                exact hE j hj d hdj
        rcases hT with ⟨hw, hstep⟩ | ⟨hw, hvu⟩
        · rw [hw, if_pos rfl]
          refine .inl (hstep.wp hse hO hK ?_)
          rintro v' H' w' ⟨rfl, rfl⟩ hO' hK'
          exact go w' _ hO' hK' (hse.put _ _)
        · rw [hw, if_neg (by simp)]
          subst hvu
          exact go w _ hO hK (hse.put _ _)
      · -- one that makes or writes
        have ht := hnxt i hni
        rw [ho] at ht
        simp only [Bool.and_eq_true, Bool.not_eq_true'] at ht
        have hl' := looks ht.2
        obtain ⟨o', ho', hT⟩ := each_mem hm i hni
        rw [ho] at ho'
        cases ho'
        obtain ⟨hx, hy⟩ := look_congr (n := n) ho hsel hl'
        have hdst : dstOf ops i = o.dst := by simp [dstOf, ho]
        have go : ∀ v w' a' H' F' dn', SameAt F' (F.put o.dst v) (slotsOf ops B (dn ++ todo ++ S ++ [i])) → dnOk ops i dn dn' = true → Stage p n ops Q Ms B (i :: S) dn' F' H' → Own β H' w' → Keeps β w' → Sees n (E.put o.dst v) a' → wpAny p .any ops (AQ n β Q) fuel (L.setIfInBounds i true) a' w' := by
          intro v w' a' H' F' dn' hsame hdn' hst hO' hK' hs2
          have hin : ∀ j, (L.setIfInBounds i true).getD j false = true → j ∈ dn ++ todo ++ S ++ [i] := by
            intro j hj
            by_cases hji : j = i
            · rw [hji]; simp
            · rw [hLj j hji] at hj
              have hjl : j < ops.size := by
                have : j < L.size := by
                  refine Nat.lt_of_not_le fun hle => ?_
                  simp [Array.getElem?_eq_none hle] at hj
                omega
              have hc2 := hcov j hjl
              simp only [Bool.or_eq_true] at hc2
              rcases hc2 with (((h | h) | h) | h) | h
              · have : j ∈ S := by simpa using h
                simp [this]
              · have : j ∈ dn := by simpa using h
                simp [this]
              · have : j ∈ todo := by simpa using h
                simp [this]
              · have h1 := hnxt j (by simpa using h)
                simp only [Bool.and_eq_true, Bool.not_eq_true'] at h1
                rw [hM j (by simpa using h1.1.1), h1.1.2] at hj
                cases hj
              · rw [notbl (j + 1) j (by omega) (by simpa using h)] at hj
                cases hj
          have hsm := sameAt_mem hsame
          have := hst (L.setIfInBounds i true) (E.put o.dst v) hs' hd' (fun m hm => ?_) ?_ (fun t htB => ?_) (fun j hj d hdj => ?_) β w' a' hO' hK' hs2
          · rw [hfu] at this; exact this
          · by_cases hmi : m = i
            · rw [hmi, hLi]; simp
            · rw [hLj m hmi, hM m hm]
              simp [hmi]
          · -- what is sure to have come up
            simp only [dnOk, List.all_eq_true] at hdn'
            have kd : ∀ q j, ops.size - j ≤ q → j ∈ dn' → (L.setIfInBounds i true).getD j false = true := by
              intro q
              induction q with
              | zero =>
                intro j hq hj
                have h := hdn' j hj
                rw [Bool.or_eq_true, List.any_eq_true] at h
                rcases h with h | ⟨k, hk, h⟩
                · exact getD_set_true (hdn j (by simpa using h))
                · simp only [Bool.and_eq_true] at h
                  obtain ⟨o2, ho2, e, he, hbd, hon⟩ := before_spec h.1
                  have h1 := back k o2 ho2 e he hbd
                  have h2 := (Array.getElem?_eq_some_iff.1 ho2).1
                  omega
              | succ q ihq =>
                intro j hq hj
                have h := hdn' j hj
                rw [Bool.or_eq_true, List.any_eq_true] at h
                rcases h with h | ⟨k, hk, h⟩
                · exact getD_set_true (hdn j (by simpa using h))
                · simp only [Bool.and_eq_true, Bool.or_eq_true, Nat.blt_eq] at h
                  obtain ⟨hbf, h⟩ := h
                  obtain ⟨o2, ho2, e, he, hbd, hon⟩ := before_spec hbf
                  have h1 := back k o2 ho2 e he hbd
                  have hkt : (L.setIfInBounds i true).getD k false = true := by
                    rcases h with h | h
                    · rw [Nat.eq_of_beq_eq_true h]; exact hLi
                    · exact ihq k (by omega) (by simpa using h.1)
                  have := hd' k o2 ho2 hkt e he hbd
                  rw [hon] at this
                  exact this
            exact fun j hj => kd _ j (Nat.le_refl _) hj
          · rw [hsm t (List.mem_append_left _ htB), put_apply, put_apply]
            split
            · rfl
            · exact hB t htB
          · have hmem : d ∈ slotsOf ops B (dn ++ todo ++ S ++ [i]) := List.mem_append_right _ (List.mem_filterMap.2 ⟨j, hin j hj, hdj⟩)
            rw [hsm d hmem, put_apply, put_apply]
            split
            · rfl
            · rename_i h
              by_cases hji : j = i
              · subst hji; rw [hdst] at hdj; exact absurd hdj h
              · rw [hLj j hji] at hj
                exact hE j hj d hdj
        rw [hy]
        rcases hT with ⟨hw, hstep⟩ | ⟨hw, hk⟩
        · rw [hw, if_pos rfl]
          have hstep' : Step p (ev n E) o H fun v H' => ∃ F' dn', SameAt F' (F.put o.dst v) (slotsOf ops B (dn ++ todo ++ S ++ [i])) ∧ dnOk ops i dn dn' = true ∧ Stage p n ops Q Ms B (i :: S) dn' F' H' := by
            unfold Step at hstep ⊢
            rw [hx]
            exact hstep
          refine .inl (hstep'.wp hse hO hK ?_)
          rintro v H' w' ⟨F', dn', h1, h2, h3⟩ hO' hK'
          exact go v w' _ H' F' dn' h1 h2 h3 hO' hK' (hse.put _ _)
        · rw [hw, if_neg (by simp)]
          obtain ⟨F', dn', h1, h2, h3⟩ := hk
          exact go undef w _ H F' dn' h1 h2 h3 hO hK (hse.put _ _)
def sameSet (Ms S S' : List Nat) : Bool := Ms.all fun m => S.contains m == S'.contains m
theorem Stage.other {Ms B S S' dn : List Nat} {F : Env} {H H' : List Box} (h : Stage p n ops Q Ms B S dn F H) (hs : sameSet Ms S S' = true) (hp : H.Perm H') : Stage p n ops Q Ms B S' dn F H' := by
  intro L E h1 h2 h3 h4 h5 h6 β w a hO hB hs2
  refine h L E h1 h2 (fun m hm => ?_) h4 h5 h6 β w a (hO.perm hp.symm) hB hs2
  have := List.all_eq_true.1 hs m hm
  rw [h3 m hm]
  exact (by simpa using this : S.contains m = S'.contains m).symm
def StageRule (p : Program) (n : Nat) (ops : Array Oper) (Ms B : List Nat) (Sg : List Nat → List Nat → Env → List Box → Prop) (Dn : Env → List Box → Prop) : Prop :=
  ∀ (S dn : List Nat) (F : Env) (H : List Box) (todo nxt bl W : List Nat), stageOk ops Ms B S todo nxt dn bl = true → slotsOf ops B (dn ++ todo ++ S) = W → Each (TellsF p n ops H F) todo →
    Each (fun i => OpR p n ops F H i fun F1 H' => ∃ F' dn' S' H2, Sg S' dn' F' H2 ∧ List.Perm H2 H' ∧ sameSet Ms S' (i :: S) = true ∧ ∃ W, slotsOf ops B (dn ++ todo ++ S ++ [i]) = W ∧ SameAt F' F1 W ∧ dnOk ops i dn dn' = true) nxt →
    (nxt.isEmpty = true → ∀ E, SameAt E F W → Dn E H) → Sg S dn F H
theorem each_mono {P P' : Nat → Prop} (h : ∀ i, P i → P' i) : ∀ {l : List Nat}, Each P l → Each P' l
  | [], _ => trivial
  | i :: l, ⟨h1, h2⟩ => ⟨h i h1, each_mono h h2⟩
theorem ac_stage {id : Nat} {E : Env} {H : List Box} (hm : p.follows .mixedOrders = true) (Ms B : List Nat) (F : Env)
    (h : ∀ Sg Dn, StageRule p n ops Ms B Sg Dn → (∀ E H, Q .normal E H → Dn E H) → Sg [] [] F H) (hF : SameAt F E B) : AC p n (.region id ops true) Q E H := by
  have h := h (Stage p n ops Q Ms B) (fun E H => Q .normal E H) (by
    intro S dn F H todo nxt bl W hok hW hq hm hfin
    refine stage_rule todo nxt bl hok hq (each_mono (fun i hi => ?_) hm) (fun hn E hE => hfin (by rw [hn]; rfl) E (sameAt_of (by rw [← hW]; exact hE)))
    obtain ⟨o, ho, hi⟩ := hi
    refine ⟨o, ho, ?_⟩
    rcases hi with ⟨hw, hst⟩ | ⟨hw, hk⟩
    · exact .inl ⟨hw, hst.mono fun v H' ⟨F', dn', S', H2, h1, hp, hss, W', h2, h3, h4⟩ => ⟨F', dn', by rw [h2]; exact h3, h4, h1.other hss hp⟩⟩
    · obtain ⟨F', dn', S', H2, h1, hp, hss, W', h2, h3, h4⟩ := hk
      exact .inr ⟨hw, F', dn', by rw [h2]; exact h3, h4, h1.other hss hp⟩) (fun E H h => h)
  intro β w a hO hB hs
  refine wp_region_any hm ?_
  have hnone : ∀ i, (Array.replicate ops.size false).getD i false = false := by
    intro i
    simp only [Array.getD_eq_getD_getElem?, Array.getElem?_replicate]
    split <;> rfl
  have := h (Array.replicate ops.size false) E (by simp) (fun i o ho hl => by rw [hnone] at hl; cases hl) (fun m hm => by rw [hnone]; rfl) (fun i hi => by cases hi) (fun t ht => (sameAt_mem hF t ht).symm) (fun i hi => by rw [hnone] at hi; cases hi) β { w with drawn := w.drawn + 1 } a hO.drew hB.drew hs
  have hu : undone ops (Array.replicate ops.size false) = ops.size := by
    unfold undone
    rw [List.countP_eq_length.2 (fun i _ => by rw [hnone]; rfl)]
    simp
  rw [hu] at this
  exact this
theorem tf_op {H : List Box} {F : Env} {i d : Nat} {o : Oper} (v : Value) (ho : ops[i]? = some o) (hg : o.guard = none) (hd : o.dst = some d) (hs : Step p (ev n F) o H fun v' H' => v' = v ∧ H' = H) (hF : v = F d) : TellsF p n ops H F i :=
  ⟨v, ⟨o, ho, .inl ⟨by unfold yld; rw [hg], hs⟩⟩, fun d' hd' => by simp only [dstOf, ho, Option.bind_some, hd, Option.some.injEq] at hd'; rw [← hd']; exact hF⟩
theorem ac_env {id : Nat} {E : Env} {H : List Box} (h : ∀ E1, E1 = E → AC p n (.region id ops true) Q E1 H) : AC p n (.region id ops true) Q E H := h E rfl
end
end Go.Proofs.YtalffjplbhelcaaGreatDoor
namespace Go.Proofs.YtalffjplbhelcaaGreatDoor
open Go.RowKit
def sEq (a b : ByteArray) : Bool := a.toList == b.toList
def byteS (n : Int) : ByteArray := ⟨#[UInt8.ofNat n.toNat]⟩
theorem byteS_size (n : Int) : (byteS n).size ≤ 1 := Nat.le_refl _
theorem sz_add {a b : ByteArray} {m n : Nat} (h : a.size ≤ m) (k : b.size ≤ n) : (a ++ b).size ≤ m + n := by
  rw [ByteArray.size_append']; omega
theorem sz_two {a b : ByteArray} {m n : Nat} (h : a.size ≤ m) (k : b.size ≤ n) (hm : m + n ≤ 9223372036854775807) : a.size + b.size ≤ 9223372036854775807 := by omega
section
variable {p : Program} {n : Nat} {ops : Array Oper} {Q : Exit → Env → List Box → Prop} {l : List Oper} {E : Env} {H : List Box} {o : Oper} {ρ : Operand → Value} {K : Post}
theorem st_slen {t : TypeId} {args : List Operand} {s : ByteArray} (ho : o.op = .call { callee := .builtin .len, args := args.toArray, argTypes := #[t] }) (hu : p.underlying t = some .string) (hv : args.map ρ = [.string s]) (k : K (.int .i64 (s.size : Int)) H) : Step p ρ o H K := by
  refine st_val (fun w => ?_) k
  rw [execOp, ho]
  simp only [resolve, List.map_toArray, hv]
  simp [invoke, builtin, Builtin.len_, Sem.run_bind, run_underlying hu w, goInt]
theorem bi_sadd {t : Nat} {a b : ByteArray} (h : a.size + b.size ≤ 9223372036854775807) (x y : Operand) : Runs p (do eqGuard .add t x y (.string a) (.string b); binOp .add t (.string a) (.string b)) (.string (a ++ b)) := ⟨fun w => by
  have := run_string_add_sum (P := p) (w := w) a b h
  simpa [eqGuard, binOp] using this⟩
theorem bi_seql {t : Nat} {a b : ByteArray} {d : Bool} (h : sEq a b = d) (x y : Operand) : Runs p (do eqGuard .eql t x y (.string a) (.string b); binOp .eql t (.string a) (.string b)) (.bool d) := ⟨fun w => by
  subst h
  simp [eqGuard, binOp, Op.stringOp, sEq]⟩
theorem bi_sneq {t : Nat} {a b : ByteArray} {d : Bool} (h : (!sEq a b) = d) (x y : Operand) : Runs p (do eqGuard .neq t x y (.string a) (.string b); binOp .neq t (.string a) (.string b)) (.bool d) := ⟨fun w => by
  subst h
  simp [eqGuard, binOp, Op.stringOp, sEq]⟩
def sAt (s : ByteArray) (i : Nat) : Int := (((s[i]?).getD 0).toNat : Int)
theorem st_six {t : TypeId} {x y : Operand} {s : ByteArray} {i : Nat} (ho : o.op = .index t x y) (hu : p.underlying t = some .string) (hx : ρ x = .string s) (hy : ρ y = .int .i64 i) (hi : i < s.size) (k : K (.int .u8 (sAt s i)) H) : Step p ρ o H K := by
  refine st_run (s := Instr.index t (.string s) (.int .i64 i)) (by rw [execOp, ho]; simp only [hx, hy]) ⟨fun w => ?_⟩ k
  have h0 : (0 : Int) ≤ i := by omega
  have hb := ByteArray.getElem?_lt' s i hi
  simp [Instr.index, asIntOf, Sem.run_bind, run_underlying hu w, h0, hb, sAt]
theorem st_cvs {t u e : Nat} {x : Operand} {g : Nat} {b : Box} {n : Int} (i : Nat) (ho : o.op = .convert t u x) (ht : p.underlying t = some (.slice e)) (he : p.underlying e = some (.int .u8)) (hu : p.underlying u = some .string) (hx : ρ x = .slice (some ⟨g, 0, none⟩) 1 1) (hm : H[i]? = some b) (hg : b.g = g) (hc : b.cs = [.int .u8 n])
    (k : K (.string (byteS n)) H) : Step p ρ o H K := by
  intro F β w hO hB
  obtain ⟨fr, _, hb⟩ := (hO.at_ b (List.mem_append_left _ (List.mem_of_getElem? hm))).2
  subst hg
  have hl := run_loadCells_list (P := p) (w := w) ⟨b.g, 0, none⟩ [.int .u8 n] fun j v hj => by
    rw [add_at, Nat.zero_add, cell_of_row w b.g j _ _ _ hb, hc]
    simpa using hj
  have h1 := run_bytesToString (P := p) (w := w) ⟨b.g, 0, none⟩ 1 1 [n] hl
  have e1 : (execOp ρ o).run p w = .ok (.value (.string (byteS n))) w := by
    rw [execOp, ho]
    simp only [hx]
    simp only [Sem.run_bind]
    rw [run_convert_bytes_string w t u e _ _ _ ht he hu, h1]
    rfl
  rw [e1]
  exact ⟨H, k, hO, hB⟩
end
section
variable {p : Program} {t : Nat} {a b : Int} {d : Bool} {k : IntKind}
theorem bk_leq (h : decide (a ≤ b) = d) (x y : Operand) : Runs p (do eqGuard .leq t x y (.int k a) (.int k b); binOp .leq t (.int k a) (.int k b)) (.bool d) := ⟨fun w => by rw [← h]; cases k <;> rfl⟩
theorem bk_geq (h : decide (a ≥ b) = d) (x y : Operand) : Runs p (do eqGuard .geq t x y (.int k a) (.int k b); binOp .geq t (.int k a) (.int k b)) (.bool d) := ⟨fun w => by rw [← h]; cases k <;> rfl⟩
theorem bk_eql (h : (a == b) = d) (x y : Operand) : Runs p (do eqGuard .eql t x y (.int k a) (.int k b); binOp .eql t (.int k a) (.int k b)) (.bool d) := ⟨fun w => by rw [← h]; cases k <;> rfl⟩
theorem bk_neq (h : (a != b) = d) (x y : Operand) : Runs p (do eqGuard .neq t x y (.int k a) (.int k b); binOp .neq t (.int k a) (.int k b)) (.bool d) := ⟨fun w => by rw [← h]; cases k <;> rfl⟩
end
end Go.Proofs.YtalffjplbhelcaaGreatDoor
namespace Go.Proofs.YtalffjplbhelcaaGreatDoor
open Go.RowKit
def subS (s : ByteArray) (lo hi : Int) : ByteArray := s.extract lo.toNat hi.toNat
theorem subS_le (s : ByteArray) (lo hi : Int) {m : Nat} (h : s.size ≤ m) : (subS s lo hi).size ≤ m := by
  unfold subS
  rw [ByteArray.size_extract]; omega
section
variable {p : Program} {n : Nat} {ops : Array Oper} {Q : Exit → Env → List Box → Prop} {l : List Oper} {E : Env} {H : List Box} {o : Oper} {ρ : Operand → Value} {K : Post}
theorem st_ss {t : TypeId} {x y z : Operand} {s : ByteArray} {lo hi : Int} (h : 0 ≤ lo ∧ lo ≤ hi ∧ hi ≤ s.size) (ho : o.op = .slice t x (some y) (some z) none) (hu : p.underlying t = some .string) (hx : ρ x = .string s) (hy : ρ y = .int .i64 lo) (hz : ρ z = .int .i64 hi) (k : K (.string (subS s lo hi)) H) : Step p ρ o H K := by
  refine st_run (s := Instr.sliceAt t (.string s) (some (.int .i64 lo)) (some (.int .i64 hi)) none) (by rw [execOp, ho]; simp only [hx, hy, hz, Option.map_none, Option.map_some]) ⟨fun w => ?_⟩ k
  obtain ⟨h0, h1, h2⟩ := h
  have h3 : 0 ≤ hi := by omega
  have h4 : lo ≤ (hi.toNat : Int) := by omega
  have h5 : lo.toNat ≤ hi.toNat := by omega
  have h6 : hi.toNat ≤ s.size := by omega
  have e := run_sliceBound (P := p) w .i64 lo hi.toNat .sliceB h0 h4
  simp [Instr.sliceAt, Instr.slice, Instr.sliceBounds, Sem.run_bind, run_underlying hu w, run_sliceBound, h2, h3, e, h5, h6, subS]
theorem st_ssb {t : TypeId} {x y : Operand} {s : ByteArray} {lo : Int} (h : 0 ≤ lo ∧ lo ≤ s.size) (ho : o.op = .slice t x (some y) none none) (hu : p.underlying t = some .string) (hx : ρ x = .string s) (hy : ρ y = .int .i64 lo) (k : K (.string (subS s lo s.size)) H) : Step p ρ o H K := by
  refine st_run (s := Instr.sliceAt t (.string s) (some (.int .i64 lo)) none none) (by rw [execOp, ho]; simp only [hx, hy, Option.map_none, Option.map_some]) ⟨fun w => ?_⟩ k
  obtain ⟨h0, h1⟩ := h
  have h3 : lo.toNat ≤ s.size := by omega
  simp [Instr.sliceAt, Instr.slice, Instr.sliceBounds, Sem.run_bind, run_underlying hu w, run_sliceBound, h0, h1, h3, subS]
theorem st_ssh {t : TypeId} {x z : Operand} {s : ByteArray} {hi : Int} (h : 0 ≤ hi ∧ hi ≤ s.size) (ho : o.op = .slice t x none (some z) none) (hu : p.underlying t = some .string) (hx : ρ x = .string s) (hz : ρ z = .int .i64 hi) (k : K (.string (subS s 0 hi)) H) : Step p ρ o H K := by
  refine st_run (s := Instr.sliceAt t (.string s) none (some (.int .i64 hi)) none) (by rw [execOp, ho]; simp only [hx, hz, Option.map_none, Option.map_some]) ⟨fun w => ?_⟩ k
  obtain ⟨h0, h1⟩ := h
  simp [Instr.sliceAt, Instr.slice, Instr.sliceBounds, Sem.run_bind, run_underlying hu w, run_sliceBound, h0, h1, subS]
end
theorem res_ttt {p : Program} {n : Nat} {E : Env} {H : List Box} {fn : Func} {s t u : Nat} {x y z : Value} (h : fn.results = #[.tmp s, .tmp t, .tmp u]) (hx : ev n E (.tmp s) = x) (hy : ev n E (.tmp t) = y) (hz : ev n E (.tmp u) = z) : Res p fn n E H (.tuple #[x, y, z]) := by
  intro β w a hO hs
  simp [results, h, see_tmp hs hx, see_tmp hs hy, see_tmp hs hz, Sem.run_bind]
def byA (l : List UInt8) : ByteArray := ⟨l.toArray⟩
theorem byA_size (l : List UInt8) : (byA l).size = l.length := rfl
def lCutPrefix (s p : ByteArray) : ByteArray × Bool := (byA (Lib.trimPrefix s.data.toList p.data.toList), Lib.hasPrefix s.data.toList p.data.toList)
theorem c_lCutPrefix (s p : ByteArray) : Gets Tryz.prog 66 #[.string s, .string p] (.tuple #[.string (lCutPrefix s p).1, .bool (lCutPrefix s p).2]) :=
  fun w => (Tryz.strings_CutPrefix s p w).mono fun e w' ⟨he, hw⟩ => ⟨he, hw ▸ Below.refl _ _⟩
def lIndex (s : ByteArray) (c : UInt8) : Int := Lib.indexByte s.data.toList c
theorem c_lIndex (s : ByteArray) (c : UInt8) : Gets Tryz.prog 128 #[.string s, .string ⟨#[c]⟩] (.int .i64 (lIndex s c)) :=
  fun w => (Tryz.stringslite_Index_one s c w).mono fun e w' ⟨he, hw⟩ => ⟨he, hw ▸ Below.refl _ _⟩
theorem index_lt : ∀ (l : List UInt8) (c : UInt8), -1 ≤ Lib.indexByte l c ∧ Lib.indexByte l c < l.length ∨ Lib.indexByte l c = -1
  | [], c => .inr rfl
  | b :: l, c => by
    rw [Lib.indexByte]
    split
    · left; constructor <;> simp
    · split
      · right; rfl
      · rename_i h1 h2
        rcases index_lt l c with h | h
        · left; simp only [List.length_cons]; omega
        · rw [h] at h2; exact absurd rfl h2
theorem lIndex_lt (s : ByteArray) (c : UInt8) : lIndex s c < s.size ∧ -1 ≤ lIndex s c := by
  have e : s.size = s.data.toList.length := Lib.size_eq s
  unfold lIndex
  rcases index_lt s.data.toList c with h | h <;> omega
def lTrimRight (s : ByteArray) (c : UInt8) : ByteArray := byA (Lib.trimRightB s.data.toList c)
theorem c_lTrimRight (s : ByteArray) (c : UInt8) (hc : c.toNat < 128) (hs : s.size ≤ 9223372036854775807) : Gets Tryz.prog 69 #[.string s, .string ⟨#[c]⟩] (.string (lTrimRight s c)) :=
  fun w => (Tryz.strings_TrimRight_one s c hc w hs).mono fun e w' ⟨he, hw⟩ => ⟨he, hw ▸ Below.refl _ _⟩
def figs : ByteArray := ⟨#[48, 49, 50, 51, 52, 53, 54, 55, 56, 57]⟩
def lTrimFig (s : ByteArray) : ByteArray := byA (Lib.trimS s.data.toList figs.data.toList)
theorem c_lTrimFig (s : ByteArray) (hs : s.size ≤ 9223372036854775807) : Gets Tryz.prog 110 #[.string s, .string ⟨#[48, 49, 50, 51, 52, 53, 54, 55, 56, 57]⟩] (.string (lTrimFig s)) :=
  fun w => (Any.strings_Trim_laid Tryz.lays160 (by kernel_rfl) s ⟨#[48, 49, 50, 51, 52, 53, 54, 55, 56, 57]⟩ w hs (by decide) (ascii_of_all (by decide))).mono fun e w' ⟨he, hw⟩ => ⟨he, hw⟩
def lAtoi (s : ByteArray) : Int := (Lib.atoi s.data.toList).getD 0
theorem c_lAtoi (s : ByteArray) (hl : s.size ≤ 18) (h : (Lib.atoi s.data.toList).isSome = true) : Gets Tryz.prog 70 #[.string s] (.tuple #[.int .i64 (lAtoi s), .nilIface]) := fun w => by
  obtain ⟨n, hn⟩ := Option.isSome_iff_exists.1 h
  refine (Tryz.strconv_Atoi s n hl hn w).mono fun e w' ⟨he, t, hw⟩ => ⟨?_, hw ▸ Lib.bytesWorld_below _ _ _⟩
  rw [he, lAtoi, hn]; rfl
def lRepeat (s : ByteArray) (c : Int) : ByteArray := byA (Lib.repeatL s.data.toList c.toNat)
theorem c_lRepeat (s : ByteArray) (c : Int) (h0 : 0 ≤ c) (h1 : c ≤ 1000) (hs : s.size ≤ 1000) : Gets Tryz.prog 74 #[.string s, .int .i64 c] (.string (lRepeat s c)) := fun w => by
  have e : ((c.toNat : Nat) : Int) = c := by omega
  have h := Tryz.strings_Repeat s c.toNat w (by omega) (by
    have : s.size * c.toNat ≤ 1000 * 1000 := Nat.mul_le_mul hs (by omega)
    omega)
  rw [e] at h
  exact h.mono fun e w' ⟨he, hw⟩ => ⟨he, hw⟩
def powBox (t : Nat) : Box := ⟨3, Lib.pow10Tab.map fun z => Value.int .u64 z, t, true⟩
def lItoa (n : Int) : ByteArray := byA (Lib.itoa n)
theorem tab_of {w : World} {t : Nat} (h : At [powBox t] w) : Lib.TabIs Tryz.prog w "internal/strconv.uint64pow10" .u64 Lib.pow10Tab := by
  obtain ⟨fr, hh⟩ := h (powBox t) List.mem_cons_self
  have hg : Tryz.prog.globalNamed "internal/strconv.uint64pow10" = some 3 := by kernel_rfl
  unfold Lib.TabIs
  simp only [World.var?, hg, Option.bind_some, Option.bind_eq_bind]
  rw [show w.heap[3]? = _ from hh]
  rfl
theorem at_tab {w : World} (h : Lib.TabIs Tryz.prog w "internal/strconv.uint64pow10" .u64 Lib.pow10Tab) : ∃ t, At [powBox t] w := by
  have hg : Tryz.prog.globalNamed "internal/strconv.uint64pow10" = some 3 := by kernel_rfl
  unfold Lib.TabIs at h
  simp only [World.var?, hg, Option.bind_some, Option.bind_eq_bind] at h
  split at h
  · rename_i cs t fr hh
    refine ⟨t, fun b hb => ?_⟩
    obtain rfl := List.mem_singleton.1 hb
    refine ⟨fr, ?_⟩
    show w.heap[3]? = some (.cells (Lib.pow10Tab.map fun z => Value.int .u64 z).toArray t fr)
    rw [hh, Option.some.inj h]
  · cases h
theorem c_lItoa (tP : Nat) (n : Int) (h0 : -9223372036854775808 ≤ n) (h1 : n ≤ 9223372036854775807) : Gives Tryz.prog 73 #[.int .i64 n] [powBox tP] (fun u N => u = .string (lItoa n) ∧ N = []) := fun w hA _ =>
  (Tryz.strconv_Itoa n h0 h1 w (tab_of hA)).mono fun e w' ⟨he, k, os, hw⟩ => ⟨_, [], he, ⟨rfl, rfl⟩, ⟨by rw [hw]; simp, by simp, by simp⟩, by simp, by rw [hw]; exact Lib.below_grow _ _ (Nat.le_refl _) _ _⟩
end Go.Proofs.YtalffjplbhelcaaGreatDoor
namespace Go.Proofs.YtalffjplbhelcaaGreatDoor
open Go.RowKit
def JQ (J : Nat → Act → World → Prop) (Q : Exit → Act → World → Prop) : Exit → Act → World → Prop
  | .goto l, a, w => J l a w
  | e, a, w => Q e a w
theorem wp_scope_labels {P : Program} {a : Act} {w : World} {Q : Exit → Act → World → Prop} {c : Code} (J : Nat → Nat → Act → World → Prop) (first : c.wp P (JQ (fun l a w => ∃ k, J l k a w) Q) a w)
    (pass : ∀ l k a w, J l k a w → ∃ rest, findLabel c l = some rest ∧ rest.wp P (JQ (fun l' a' w' => ∃ k', k' < k ∧ J l' k' a' w') Q) a w) : (Code.scope c).wp P Q a w := by
  intro b k cs
  have key : ∀ n l a w, J l n a w → ∃ rest, findLabel c l = some rest ∧ ∃ e a' w', Q e a' w' ∧ Arrives P (lone (b.at a (.code rest :: .inScope c :: k)) cs w) b k cs e a' w' := by
    intro n
    induction n using Nat.strongRecOn with
    | _ n ih =>
      intro l a w hJ
      obtain ⟨rest, hf, hw⟩ := pass l n a w hJ
      refine ⟨rest, hf, ?_⟩
      obtain ⟨e, a₁, w₁, hq, harr⟩ := hw b (.inScope c :: k) cs
      cases e with
      | normal => exact ⟨.normal, a₁, w₁, hq, Steps.trans harr (.one step_inScope)⟩
      | exit id => exact ⟨.exit id, a₁, w₁, hq, fun k' hk => harr k' (by simp [exitTo, hk])⟩
      | goto l' =>
        obtain ⟨k', hlt, hJ'⟩ := hq
        obtain ⟨rest', hf', e₂, a₂, w₂, hq₂, harr₂⟩ := ih k' hlt l' a₁ w₁ hJ'
        exact ⟨e₂, a₂, w₂, hq₂, .of_steps (harr _ (by simp [gotoIn, hf'])) harr₂⟩
      | ret => exact ⟨_, a₁, w₁, hq, harr⟩
      | panic ch => exact ⟨_, a₁, w₁, hq, harr⟩
      | outgrown => exact ⟨_, a₁, w₁, hq, harr⟩
  obtain ⟨e, a₁, w₁, hq, harr⟩ := first b (.inScope c :: k) cs
  cases e with
  | normal => exact ⟨.normal, a₁, w₁, hq, .head step_scope (Steps.trans harr (.one step_inScope))⟩
  | exit id => exact ⟨.exit id, a₁, w₁, hq, fun k' hk => .head step_scope (harr k' (by simp [exitTo, hk]))⟩
  | goto l' =>
    obtain ⟨n, hJ'⟩ := hq
    obtain ⟨rest', hf', e₂, a₂, w₂, hq₂, harr₂⟩ := key n l' a₁ w₁ hJ'
    exact ⟨e₂, a₂, w₂, hq₂, .of_steps (.head step_scope (harr _ (by simp [gotoIn, hf']))) harr₂⟩
  | ret => exact ⟨_, a₁, w₁, hq, .of_steps (.one step_scope) harr⟩
  | panic ch => exact ⟨_, a₁, w₁, hq, .of_steps (.one step_scope) harr⟩
  | outgrown => exact ⟨_, a₁, w₁, hq, .of_steps (.one step_scope) harr⟩
section
variable {p : Program} {n : Nat} {ops : Array Oper} {Q : Exit → Env → List Box → Prop} {l : List Oper} {E : Env} {H : List Box} {o : Oper} {ρ : Operand → Value} {K : Post}
def AJ (J : Nat → Env → List Box → Prop) (Q : Exit → Env → List Box → Prop) : Exit → Env → List Box → Prop
  | .goto l, E, H => J l E H
  | e, E, H => Q e E H
theorem ac_scope {c : Code} (J : Nat → Nat → Env → List Box → Prop) (first : AC p n c (AJ (fun l E H => ∃ k, J l k E H) Q) E H)
    (pass : ∀ l k E H, J l k E H → ∃ rest, findLabel c l = some rest ∧ AC p n rest (AJ (fun l' E' H' => ∃ k', k' < k ∧ J l' k' E' H') Q) E H) : AC p n (.scope c) Q E H := by
  intro β w a hO hB hs
  refine wp_scope_labels (fun l k a w => ∃ E H, J l k E H ∧ Sees n E a ∧ Own β H w ∧ Keeps β w) ?_ ?_
  · refine Code.wp_mono ?_ (first β w a hO hB hs)
    rintro e a w ⟨E', H', q, r⟩
    cases e <;> first | exact ⟨E', H', q, r⟩ | (obtain ⟨k, hk⟩ := q; exact ⟨k, E', H', hk, r⟩)
  · rintro l k a w ⟨E', H', hJ, hs', hO', hB'⟩
    obtain ⟨rest, hf, h⟩ := pass l k E' H' hJ
    refine ⟨rest, hf, Code.wp_mono ?_ (h β w a hO' hB' hs')⟩
    rintro e a w ⟨E'', H'', q, r⟩
    cases e <;> first | exact ⟨E'', H'', q, r⟩ | (obtain ⟨k', hk, hJ'⟩ := q; exact ⟨k', hk, E'', H'', hJ', r⟩)
theorem ac_goto {l : Nat} (h : Q (.goto l) E H) : AC p n (.goto l) Q E H := fun β w a hO hB hs => wp_goto ⟨E, H, h, hs, hO, hB⟩
theorem ac_label {l : Nat} (h : Q .normal E H) : AC p n (.label l) Q E H := fun β w a hO hB hs => wp_label ⟨E, H, h, hs, hO, hB⟩
def fl (n : Int) : Nat := FloatKind.f64.nearest n
theorem st_cvf {t u : Nat} {x : Operand} {a : Int} (ho : o.op = .convert t u x) (hx : ρ x = .int .i64 a) (hu : p.underlying u = some (.float .f64)) (ht : p.underlying t = some (.int .i64)) (k : K (.float .f64 (fl a)) H) : Step p ρ o H K :=
  st_run (s := convert t u (.int .i64 a)) (by rw [execOp, ho]; simp only [hx]) ⟨fun w => by simp [convert, Sem.run_bind, run_underlying hu w, run_underlying ht w, Conv.intToFloat, fl]⟩ k
theorem run_cpx (ts : Array TypeId) (ty : TypeId) (a b : Nat) : Builtin.complex_ ts ty #[.float .f64 a, .float .f64 b] = pure (.complex .f64 a b) := rfl
theorem st_cpx {ts : Array TypeId} {args : List Operand} {a b : Nat} (ho : o.op = .call { callee := .builtin .complex, args := args.toArray, argTypes := ts }) (hv : args.map ρ = [.float .f64 a, .float .f64 b]) (k : K (.complex .f64 a b) H) : Step p ρ o H K := by
  refine st_val (fun w => ?_) k
  rw [execOp, ho]
  simp only [resolve, List.map_toArray, hv]
  simp [invoke, builtin, run_cpx, Sem.run_bind]
end
structure Cx where
  re : Nat
  im : Nat
deriving DecidableEq
def feq (x y : Nat) : Bool := FloatKind.f64.format.order x y == some .eq
def cxEq (a b : Cx) : Bool := feq a.re b.re && feq a.im b.im
section
variable {p : Program} {t : Nat} {a b : Cx} {d : Bool}
theorem bi_ceql (h : cxEq a b = d) (x y : Operand) : Runs p (do eqGuard .eql t x y (.complex .f64 a.re a.im) (.complex .f64 b.re b.im); binOp .eql t (.complex .f64 a.re a.im) (.complex .f64 b.re b.im)) (.bool d) := ⟨fun w => by
  subst h
  simp [eqGuard, binOp, Op.complexOp, Op.Complex.cmp, Op.floatCmp, Sem.run_bind, asBool, cxEq, feq]⟩
end
end Go.Proofs.YtalffjplbhelcaaGreatDoor
namespace Go.Proofs.YtalffjplbhelcaaGreatDoor
open Go.RowKit
theorem bd108_0_1_2 (x0_0 : Int) (x1_0 : ByteArray) (x2_0 : Cx) : Runs Tryz.prog (Instr.build 108 #[(0, .int .i64 x0_0), (1, .string x1_0), (2, .complex .f64 (x2_0).re (x2_0).im)]) (.agg #[.int .i64 x0_0, .string x1_0, .complex .f64 (x2_0).re (x2_0).im]) := ⟨fun w => by go_simp⟩
theorem bs71_1_0a (x0_0 : Int) (x0_1 : ByteArray) (x0_2 : Cx) : Makes Tryz.prog (Instr.buildSlice 71 1 #[(0, .agg #[.int .i64 x0_0, .string x0_1, .complex .f64 (x0_2).re (x0_2).im])]) 1 [.int .i64 x0_0, .string x0_1, .complex .f64 (x0_2).re (x0_2).im] 108 := ⟨fun w => by go_simp⟩
theorem slT71 : SlT Tryz.prog 71 108 3 40 := ⟨Tryz.underlying71, .agg #[.int .i64 0, .string (⟨#[]⟩ : ByteArray), .complex .f64 ((⟨0, 0⟩ : Cx)).re ((⟨0, 0⟩ : Cx)).im], by kernel_rfl, rfl, by decide⟩
end Go.Proofs.YtalffjplbhelcaaGreatDoor
namespace Go.Proofs.YtalffjplbhelcaaGreatDoor
open Go.RowKit
end Go.Proofs.YtalffjplbhelcaaGreatDoor
namespace Go.Proofs.YtalffjplbhelcaaGreatDoor
open Go.RowKit
end Go.Proofs.YtalffjplbhelcaaGreatDoor
namespace Go.Proofs.YtalffjplbhelcaaGreatDoor
open Go.RowKit
end Go.Proofs.YtalffjplbhelcaaGreatDoor
namespace Go.Proofs.YtalffjplbhelcaaGreatDoor
open Go.RowKit
end Go.Proofs.YtalffjplbhelcaaGreatDoor
namespace Go.Proofs.YtalffjplbhelcaaGreatDoor
open Go.RowKit
attribute [local irreducible] AC AR DWalk
structure Dec where
 c : Int
 scale : Int
deriving DecidableEq
@[reducible] def Dec.v (s : Dec) : Value := .agg #[.int .i64 s.c, .int .i64 s.scale]
end Go.Proofs.YtalffjplbhelcaaGreatDoor
namespace Go.Proofs.YtalffjplbhelcaaGreatDoor
open Go.RowKit
attribute [local irreducible] AC AR DWalk
end Go.Proofs.YtalffjplbhelcaaGreatDoor
namespace Go.Proofs.YtalffjplbhelcaaGreatDoor
theorem w64_in {n : Int} (h : -9223372036854775808 ≤ n ∧ n ≤ 9223372036854775807) : w64 n = n := by
  show IntKind.i64.wrap n = n
  rw [IntKind.wrap_i64]
  omega
theorem cut_hi {s : ByteArray} (h : decide (lIndex s 46 ≥ 0) = true) : 0 ≤ lIndex s 46 ∧ lIndex s 46 ≤ s.size := by
  have := of_decide_eq_true h
  have := lIndex_lt s 46
  omega
theorem cut_lo {s : ByteArray} (hs : s.size ≤ 9223372036854775807) (h : decide (lIndex s 46 ≥ 0) = true) : 0 ≤ w64 (lIndex s 46 + 1) ∧ w64 (lIndex s 46 + 1) ≤ s.size := by
  have := of_decide_eq_true h
  have := lIndex_lt s 46
  rw [w64_in (by omega)]
  omega
theorem fig_sz {s : ByteArray} {n : Int} (hn : n ≤ 1000) (h : decide ((s.size : Int) ≤ n) = true) : s.size ≤ 9223372036854775807 := by
  have := of_decide_eq_true h
  omega
end Go.Proofs.YtalffjplbhelcaaGreatDoor
