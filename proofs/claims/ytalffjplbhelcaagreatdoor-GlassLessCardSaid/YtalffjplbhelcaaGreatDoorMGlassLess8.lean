import Derived.Test.YtalffjplbhelcaaGreatDoorMGlassLess7
import Derived.Lib.AppendStr
import Derived.Lib.Builder
import Derived.Test.YtalffjplbhelcaaGreatDoorMGlassLess1
import Derived.Test.YtalffjplbhelcaaGreatDoorMGlassLess5
set_option linter.unusedVariables false
set_option linter.unusedSimpArgs false
namespace Go.Proofs.YtalffjplbhelcaaGreatDoor
open Go.RowKit Go.Lib
section
variable {p : Program} {n : Nat} {o : Oper} {H A : List Box} {ρ : Operand → Value} {K : Post}
theorem st_appS {t u e k : Nat} {x y : Operand} {v : Value} {xs : List Value} {s : ByteArray} {N : List Box} (ht : p.underlying t = some (.slice e)) (hus : p.underlying u = some .string) (hi0 : (p.info? e).map (fun i => (i.zero, i.size, i.bytes)) = some (some (.int .u8 0), 1, 1))
    (ho : o.op = .call { callee := .builtin .append, args := #[x, y], argTypes := #[t, u] }) (hx : ρ x = v) (hy : ρ y = .string s) (hR : Row e 1 k xs v N) (hH : H = A ++ N) (h63 : k + s.size ≤ maxLen) (hby : k + s.size ≤ 140737488355328)
    (kk : ∀ v' N', Row e 1 (k + s.size) (xs ++ strCells s) v' N' → K v' (N' ++ A)) : Step p ρ o H K := by
  intro F β w hO hB
  subst hH
  obtain ⟨inf, hi, hq⟩ := Option.map_eq_some_iff.1 hi0
  simp only [Prod.mk.injEq] at hq
  obtain ⟨hz, hsz, hbz⟩ := hq
  have hsmall : k + s.size ≤ 9223372036854775807 := by simp only [maxLen] at h63; omega
  have hO1 : Own β (N ++ (A ++ F)) w := by
    refine hO.perm ?_
    rw [← List.append_assoc]
    exact List.Perm.append_right F List.perm_append_comm
  have ex : ∀ w, (execOp ρ o).run p w = (match (Builtin.append_ #[t, u] o.type #[v, .string s]).run p w with | .ok u w' => .ok (.value u) w' | .halt x w' => .halt x w') := by
    intro w
    rw [execOp, ho]
    simp only [resolve, List.map_toArray, List.map_cons, List.map_nil, hx, hy]
    simp [invoke, builtin, Sem.run_bind]
    cases (Builtin.append_ #[t, u] o.type #[v, .string s]).run p w <;> rfl
  have hsl : (strCells s).length = s.size := strCells_length s
  have z1 : (Value.int IntKind.u8 0).cells.size = 1 := rfl
  have zl : ∀ j, (Builtin.zeroCells (Value.int .u8 0).cells j).toList.length = j := by intro j; simp [Builtin.zeroCells, z1]
  rw [ex]
  rcases hR with ⟨rfl, rfl, rfl, rfl⟩ | ⟨g, cap, rest, rfl, rfl, hxl, hcl, hkc, hcm⟩
  · by_cases hm : s.size = 0
    · have hn : strCells s = [] := List.eq_nil_of_length_eq_zero (by rw [hsl]; exact hm)
      have hf := run_firstCells_string (P := p) w 1 s
      rw [hm] at hf
      have hr : (Builtin.append_ #[t, u] o.type #[.slice none 0 0, .string s]).run p w = .ok (.slice none 0 0) w := by
        simp [Builtin.append_, run_underlying ht, run_underlying hus, sizeOf, typeInfo, hi, hsz, Builtin.lenOf, hm, hf]
      rw [hr]
      exact ⟨_, kk _ [] (by rw [hm, hn]; exact Row.nil _ _), by rw [List.nil_append]; exact hO1, hB⟩
    · have hr := run_append_nil_string (P := p) w t u o.type e inf (.int .u8 0) ht hus hi hz s (by omega) (by omega) (by rw [hbz]; omega)
      rw [hr]
      have hge := grownCap_ge w s.size 0 e
      have hcm := grownCap_le_maxLen w s.size 0 e (by omega)
      have e0 : (s.data.map fun b => Value.int .u8 b.toNat) = (strCells s).toArray := by
        apply Array.ext'
        simp [strCells]
      rw [e0]
      refine ⟨_, kk _ [⟨w.heap.size, strCells s ++ (Builtin.zeroCells (Value.int .u8 0).cells (grownCap w s.size 0 e - s.size)).toList, e, false⟩] (.inr ⟨w.heap.size, _, _, by rw [Nat.zero_add], by rw [List.nil_append], by rw [List.nil_append, hsl]; omega, ?_, by omega, hcm⟩), ?_, (hB.drew).alloc _⟩
      · rw [List.nil_append, List.length_append, zl, hsl]; omega
      · have h3 := hO1.drew.alloc (strCells s ++ (Builtin.zeroCells (Value.int .u8 0).cells (grownCap w s.size 0 e - s.size)).toList) e
        simp only [List.nil_append] at h3
        have e1 : (strCells s ++ (Builtin.zeroCells (Value.int .u8 0).cells (grownCap w s.size 0 e - s.size)).toList).toArray = (strCells s).toArray ++ Builtin.zeroCells (Value.int .u8 0).cells (grownCap w s.size 0 e - s.size) := by
          apply Array.ext'
          simp
        rw [e1] at h3
        exact h3
  · obtain ⟨fr, hf, hgb⟩ := (hO1.at_ _ (List.mem_append_left _ (List.mem_singleton.2 rfl))).2
    obtain rfl := hf rfl
    simp only at hgb
    rw [Nat.mul_one] at hxl hcl
    by_cases hroom : k + s.size ≤ cap
    · have hr := run_append_room_string (P := p) w t u o.type e inf ht hus hi hsz g k cap (xs ++ rest).toArray hgb s hroom (by rw [List.size_toArray, hcl]; exact hroom)
      rw [hr]
      have e1 : (xs ++ rest).toArray.toList.take k ++ strCells s ++ (xs ++ rest).toArray.toList.drop (k + s.size) = xs ++ strCells s ++ rest.drop s.size := by
        simp only [List.toList_toArray]
        rw [← hxl, List.take_left, List.drop_length_add_append]
      rw [e1]
      have hmay : β.may g := (((hO1.at_ _ (List.mem_append_left _ (List.mem_singleton.2 rfl))).1).resolve_left (by simp))
      refine ⟨_, kk _ [⟨g, xs ++ strCells s ++ rest.drop s.size, e, false⟩] (.inr ⟨g, cap, _, rfl, rfl, ?_, ?_, hroom, hcm⟩), ?_, hB.setRow _ _ hmay⟩
      · rw [List.length_append, hxl, hsl, Nat.mul_one]
      · rw [List.length_append] at hcl
        simp only [List.length_append, List.length_drop, hsl, Nat.mul_one]
        omega
      · have h3 := hO1.set 0 _ rfl rfl (xs ++ strCells s ++ rest.drop s.size)
        exact h3
    · have hold : ∀ j u, xs[j]? = some u → w.cell? ((⟨g, 0, none⟩ : Addr).add j) = some u := by
        intro j u hj
        rw [add_at, Nat.zero_add, cell_of_row w g j _ _ _ hgb]
        simp only [List.getElem?_toArray]
        rw [List.getElem?_append_left (List.getElem?_eq_some_iff.1 hj).1, hj]
      have hr := run_append_grow_string (P := p) w t u o.type e inf (.int .u8 0) ht hus hi hz ⟨g, 0, none⟩ k cap xs (by rw [hsz, Nat.mul_one]; exact hxl) hold s (by omega) (by omega) (by rw [hbz]; exact growslice_fits (by omega) (by omega))
      rw [hr]
      have hge := grownCap_ge w (k + s.size) cap e
      have hcm := grownCap_le_maxLen w (k + s.size) cap e h63
      refine ⟨_, kk _ [⟨w.heap.size, xs ++ strCells s ++ (Builtin.zeroCells (Value.int .u8 0).cells (grownCap w (k + s.size) cap e - (k + s.size))).toList, e, false⟩] (.inr ⟨w.heap.size, _, _, rfl, rfl, ?_, ?_, hge, hcm⟩), ?_, (hB.drew).alloc _⟩
      · rw [List.length_append, hxl, hsl, Nat.mul_one]
      · simp only [List.length_append, zl, hsl, hxl, Nat.mul_one]
        omega
      · have h2 : Own β (A ++ F) w := Own.sub (List.sublist_append_right _ _) hO1
        have h3 := h2.drew.alloc (xs ++ strCells s ++ (Builtin.zeroCells (Value.int .u8 0).cells (grownCap w (k + s.size) cap e - (k + s.size))).toList) e
        have e1 : (xs ++ strCells s ++ (Builtin.zeroCells (Value.int .u8 0).cells (grownCap w (k + s.size) cap e - (k + s.size))).toList).toArray = xs.toArray ++ (strCells s).toArray ++ Builtin.zeroCells (Value.int .u8 0).cells (grownCap w (k + s.size) cap e - (k + s.size)) := by
          apply Array.ext'
          simp
        rw [e1] at h3
        exact h3
theorem st_appSZ {t u e k : Nat} {x y : Operand} {v : Value} {xs : List Value} {s : ByteArray} {N : List Box} (ht : p.underlying t = some (.slice e)) (hus : p.underlying u = some .string) (hi0 : (p.info? e).map (fun i => (i.zero, i.size, i.bytes)) = some (some (.int .u8 0), 1, 1))
    (ho : o.op = .call { callee := .builtin .append, args := #[x, y], argTypes := #[t, u] }) (hx : ρ x = v) (hy : ρ y = .string s) (hR : Row e 1 k xs v N) (hH : H = A ++ N) (h63 : k + s.size ≤ maxLen) (hby : k + s.size ≤ 140737488355328)
    (hK : ∀ v H H', H.Perm H' → K v H → K v H') (kk : ∀ v' N', Row e 1 (k + s.size) (xs ++ strCells s) v' N' → K v' (A ++ N')) : Step p ρ o H K :=
  st_appS ht hus hi0 ho hx hy hR hH h63 hby fun v' N' h => hK _ _ _ List.perm_append_comm (kk v' N' h)
theorem res_0 {E : Env} {fn : Func} (h : fn.results = #[]) : Res p fn n E H (.tuple #[]) := by
  intro β w a hO hs
  simp [results, h, Sem.run_bind]
theorem st_nck {x : Operand} {a : Addr} (ho : o.op = .nilCheck x) (hx : ρ x = .pointer (some a)) (k : K (.pointer (some a)) H) : Step p ρ o H K :=
  st_val (fun w => by rw [execOp, ho]; simp [hx, Sem.run_bind]) k
theorem bp_nil {t : Nat} (hu : p.underlying t = some (.pointer n)) (x y : Operand) : Runs p (do eqGuard .eql t x y (.pointer none) (.pointer none); binOp .eql t (.pointer none) (.pointer none)) (.bool true) := ⟨fun w => by
  have h : (Op.equalIn Op.maxDepth t (.pointer none) (.pointer none)).run p w = .ok true w := by
    show (Op.equalIn (9999 + 1) t (.pointer none) (.pointer none)).run p w = _
    rw [Op.equalIn, Sem.run_bind, run_underlying hu w]
    rfl
  simp [eqGuard, binOp, Sem.run_bind, Op.equal, h, Result.andThen]⟩
theorem bp_some {t : Nat} {a : Addr} (hu : p.underlying t = some (.pointer n)) (x y : Operand) : Runs p (do eqGuard .eql t x y (.pointer (some a)) (.pointer none); binOp .eql t (.pointer (some a)) (.pointer none)) (.bool false) := ⟨fun w => by
  have h : (Op.equalIn Op.maxDepth t (.pointer (some a)) (.pointer none)).run p w = .ok false w := by
    show (Op.equalIn (9999 + 1) t (.pointer (some a)) (.pointer none)).run p w = _
    rw [Op.equalIn, Sem.run_bind, run_underlying hu w]
    rfl
  simp [eqGuard, binOp, Sem.run_bind, Op.equal, h, Result.andThen]⟩
theorem bp_ne {t : Nat} {a : Addr} {c : Nat} (hu : p.underlying t = some (.pointer n)) (hj : (p.info? n).map (·.size) = some c) (x y : Operand) : Runs p (do eqGuard .neq t x y (.pointer (some a)) (.pointer (some a)); binOp .neq t (.pointer (some a)) (.pointer (some a))) (.bool false) := ⟨fun w => by
  obtain ⟨inf, hi, _⟩ := Option.map_eq_some_iff.1 hj
  have h := run_neq_ptr_same (P := p) w a hu hi
  simp [eqGuard, Sem.run_bind, h, Result.andThen]⟩
theorem st_cvU {t u e c : Nat} {x : Operand} {g : Nat} {b : Box} (i : Nat) (ho : o.op = .convert t u x) (hx : ρ x = .pointer (some ⟨g, 0, none⟩)) (hs : p.underlying t = some (.pointer e)) (hd : p.underlying u = some .unsafePointer) (hj : (p.info? e).map (·.size) = some c) (hc : c ≠ 0) (hm : H[i]? = some b) (hg : b.g = g) (hl : 0 < b.cs.length) (k : K (.pointer (some ⟨g, 0, none⟩)) H) : Step p ρ o H K := by
  intro F β w hO hB
  obtain ⟨fr, _, hb⟩ := (hO.at_ b (List.mem_append_left _ (List.mem_of_getElem? hm))).2
  obtain ⟨inf, hi, hq⟩ := Option.map_eq_some_iff.1 hj
  have hsh : w.shape? g = some (b.t, b.cs.length) := by rw [← hg]; simp [World.shape?, hb]
  have hr := run_to_unsafe (P := p) (w := w) (src := t) (dst := u) (t := e) ⟨g, 0, none⟩ hs hd hi (by rw [hq]; exact hc) hsh hl
  have e : (execOp ρ o).run p w = .ok (.value (.pointer (some ⟨g, 0, none⟩))) w := by
    rw [execOp, ho]
    simp only [hx]
    simp [Sem.run_bind, hr]
  rw [e]
  exact ⟨H, k, hO, hB⟩
theorem st_cvP {t u e : Nat} {x : Operand} {g : Nat} {b : Box} {c : Nat} (i : Nat) (ho : o.op = .convert t u x) (hx : ρ x = .pointer (some ⟨g, 0, none⟩)) (hs : p.underlying t = some .unsafePointer) (hd : p.underlying u = some (.pointer e)) (hj : (p.info? e).map (·.size) = some c) (hm : H[i]? = some b) (hg : b.g = g) (hlies : liesAt p p.depth b.t (b.cs.length / p.cellsOf b.t) 0 e 1 = true) (k : K (.pointer (some ⟨g, 0, none⟩)) H) : Step p ρ o H K := by
  intro F β w hO hB
  obtain ⟨fr, _, hb⟩ := (hO.at_ b (List.mem_append_left _ (List.mem_of_getElem? hm))).2
  obtain ⟨inf, hi, hq⟩ := Option.map_eq_some_iff.1 hj
  have hsh : w.shape? g = some (b.t, b.cs.length) := by rw [← hg]; simp [World.shape?, hb]
  have hr := run_from_unsafe (P := p) (w := w) (src := t) (dst := u) (u := e) ⟨g, 0, none⟩ hs hd hi hsh hlies
  have e : (execOp ρ o).run p w = .ok (.value (.pointer (some ⟨g, 0, none⟩))) w := by
    rw [execOp, ho]
    simp only [hx]
    simp [Sem.run_bind, hr]
  rw [e]
  exact ⟨H, k, hO, hB⟩
theorem st_noesc {f : FuncId} {x : Operand} {args : List Operand} {ts : Array TypeId} {v : Value} {fn : Func} (hf : p.funcs[f]? = some fn) (hname : (fn.name == "runtime.NumGoroutine") = false) (hb : fn.body.isNone = true) (hn : Extern.findNext fn = none) (he : Extern.find fn = some Extern.AbiNoEscape.same)
    (ho : o.op = .call { callee := .value x, args := args.toArray, argTypes := ts }) (hx : ρ x = .func (.func f) #[] #[]) (hv : args.map ρ = [v]) (k : K v H) : Step p ρ o H K := by
  refine st_val (fun w => ?_) k
  rw [execOp, ho]
  simp only [resolve, hx, Deferred.ofValue, List.map_toArray, hv]
  have hr := run_callFunc_extern hf hname hb hn he #[v] w
  rw [run_noEscape] at hr
  simp only [Result.andThen] at hr
  simp [Sem.run_bind, invoke, hr]
end
end Go.Proofs.YtalffjplbhelcaaGreatDoor
namespace Go.Proofs.YtalffjplbhelcaaGreatDoor
theorem ar_drop {p : Program} {n : Nat} {c : Code} {Q : Exit → Env → List Box → Prop} {H H' : List Box} (hs : List.Sublist H H') : ∀ {j : Nat} {E : Env}, ARounds p n c Q j E H → ARounds p n c Q j E H'
  | 0, _, h => h.elim
  | j + 1, _, h => ac_drop hs h
end Go.Proofs.YtalffjplbhelcaaGreatDoor
namespace Go.Proofs.YtalffjplbhelcaaGreatDoor
open Go.RowKit
attribute [local irreducible] AC AR DWalk
set_option maxRecDepth 100000 in
theorem gf_hit (g4 g off m c i t : Nat) (r : Bool) (nm : ByteArray) (x : Nat → Glass) (cs : List Value) (NA : List Box) (hi : i < m) (hm4 : m ≤ 4001) (hm : (⟨g, cs, t, r⟩ : Box) ∈ NA) (hc : (cs.drop (off + i * 13)).take 13 = [.string ((x i).name), .int .i64 ((((x i).b).d0).c), .int .i64 ((((x i).b).d0).scale), .int .i64 ((((x i).b).d1).c), .int .i64 ((((x i).b).d1).scale), .int .i64 ((((x i).b).d2).c), .int .i64 ((((x i).b).d2).scale), .int .i64 ((((x i).c).d0).c), .int .i64 ((((x i).c).d0).scale), .int .i64 ((((x i).c).d1).c), .int .i64 ((((x i).c).d1).scale), .int .i64 ((((x i).c).d2).c), .int .i64 ((((x i).c).d2).scale)]) (he : sEq ((x i).name) nm = true) {Q : Exit → Env → List Box → Prop} {E : Env} {code : Code} {j : Nat} (hc0 : Tryz.f23.body.bind loopOf = some code) (q1 : E 1 = .string nm) (q4 : E 4 = .pointer (some ⟨g4, 0, none⟩)) (q5 : E 5 = .bool false) (q8 : E 8 = .slice (some ⟨g, off, none⟩) m c) (q9 : E 9 = .int .i64 (m : Int)) (q10 : E 10 = .int .i64 (i : Int)) (K : ∀ (E' : Env) (g7 : Nat) (cs7 : List Value), E' 4 = .pointer (some ⟨g4, 0, none⟩) → E' 5 = .bool true → Q .ret E' (⟨g7, cs7, 29, false⟩ :: ⟨g4, (x i).cells, 29, false⟩ :: NA)) : ARounds Tryz.prog 21 code Q (j + 1) E (⟨g4, [.string (⟨#[]⟩ : ByteArray), .int .i64 0, .int .i64 0, .int .i64 0, .int .i64 0, .int .i64 0, .int .i64 0, .int .i64 0, .int .i64 0, .int .i64 0, .int .i64 0, .int .i64 0, .int .i64 0], 29, false⟩ :: NA) := by
 rw [show Tryz.f23.body.bind loopOf = some _ from rfl] at hc0
 cases hc0
 obtain ⟨E0, rfl⟩ : ∃ E0 : Env, E = ((((((E0.put (some 1) (.string nm)).put (some 4) (.pointer (some ⟨g4, 0, none⟩))).put (some 5) (.bool false)).put (some 8) (.slice (some ⟨g, off, none⟩) m c)).put (some 9) (.int .i64 (m : Int))).put (some 10) (.int .i64 (i : Int))) := ⟨E, by rw [put_self q1, put_self q4, put_self q5, put_self q8, put_self q9, put_self q10]⟩
 refine ar_round (aQ (aL (aB 11 (.bool (decide ((i : Int) < (m : Int)))) rfl rfl rfl (bi_lss rfl) (aN (aQ (ac_then' (b := decide ((i : Int) < (m : Int))) (show (decide ((i : Int) < (m : Int))) = true from (decide_eq_true (by omega))) rfl (ac_skip (aQ (ac_block (aQ (aL (ao 12 rfl rfl (st_sa (g := g) (off := off) (m := m) (c := c) (s := 13) (i := i) rfl Tryz.underlying23 (by kernel_rfl) rfl rfl hi ?_)))))))))))))
 refine ao 13 rfl rfl (st_ldam (g := g) (off := off + i * 13) (vs := [.string ((x i).name), .int .i64 ((((x i).b).d0).c), .int .i64 ((((x i).b).d0).scale), .int .i64 ((((x i).b).d1).c), .int .i64 ((((x i).b).d1).scale), .int .i64 ((((x i).b).d2).c), .int .i64 ((((x i).b).d2).scale), .int .i64 ((((x i).c).d0).c), .int .i64 ((((x i).c).d0).scale), .int .i64 ((((x i).c).d1).c), .int .i64 ((((x i).c).d1).scale), .int .i64 ((((x i).c).d2).c), .int .i64 ((((x i).c).d2).scale)]) agg29 rfl rfl (List.mem_cons_of_mem _ hm) rfl hc (ao 7 rfl rfl (st_new zero29 rfl fun g5 => ?_)))
 refine aS [.string ((x i).name), .int .i64 ((((x i).b).d0).c), .int .i64 ((((x i).b).d0).scale), .int .i64 ((((x i).b).d1).c), .int .i64 ((((x i).b).d1).scale), .int .i64 ((((x i).b).d2).c), .int .i64 ((((x i).b).d2).scale), .int .i64 ((((x i).c).d0).c), .int .i64 ((((x i).c).d0).scale), .int .i64 ((((x i).c).d1).c), .int .i64 ((((x i).c).d1).scale), .int .i64 ((((x i).c).d2).c), .int .i64 ((((x i).c).d2).scale)] agg29 0 rfl rfl rfl rfl rfl rfl (aN (aQ (aL (aF 14 fa29_0 rfl rfl (aD 15 (.string ((x i).name)) cell9 0 rfl rfl rfl rfl (aM 16 (.string nm) rfl rfl (aB 17 (.bool (sEq ((x i).name) nm)) rfl rfl rfl (bi_seql rfl) (aN ?_))))))))
 refine ac_then' (b := sEq ((x i).name) nm) (show (sEq ((x i).name) nm) = true from he) rfl (aQ (aL (aG 18 [.string ((x i).name), .int .i64 ((((x i).b).d0).c), .int .i64 ((((x i).b).d0).scale), .int .i64 ((((x i).b).d1).c), .int .i64 ((((x i).b).d1).scale), .int .i64 ((((x i).b).d2).c), .int .i64 ((((x i).b).d2).scale), .int .i64 ((((x i).c).d0).c), .int .i64 ((((x i).c).d0).scale), .int .i64 ((((x i).c).d1).c), .int .i64 ((((x i).c).d1).scale), .int .i64 ((((x i).c).d2).c), .int .i64 ((((x i).c).d2).scale)] agg29 0 rfl rfl rfl rfl rfl ?_)))
 refine aS [.string ((x i).name), .int .i64 ((((x i).b).d0).c), .int .i64 ((((x i).b).d0).scale), .int .i64 ((((x i).b).d1).c), .int .i64 ((((x i).b).d1).scale), .int .i64 ((((x i).b).d2).c), .int .i64 ((((x i).b).d2).scale), .int .i64 ((((x i).c).d0).c), .int .i64 ((((x i).c).d0).scale), .int .i64 ((((x i).c).d1).c), .int .i64 ((((x i).c).d1).scale), .int .i64 ((((x i).c).d2).c), .int .i64 ((((x i).c).d2).scale)] agg29 1 rfl rfl rfl rfl rfl rfl (aA 5 (.bool true) rfl rfl (aN (ac_ret ?_)))
 exact K _ _ _ rfl rfl
set_option maxRecDepth 100000 in
theorem gf_no (g4 g off m c i t : Nat) (r : Bool) (nm : ByteArray) (x : Nat → Glass) (cs : List Value) (NA : List Box) (hi : i < m) (hm4 : m ≤ 4001) (hm : (⟨g, cs, t, r⟩ : Box) ∈ NA) (hc : (cs.drop (off + i * 13)).take 13 = [.string ((x i).name), .int .i64 ((((x i).b).d0).c), .int .i64 ((((x i).b).d0).scale), .int .i64 ((((x i).b).d1).c), .int .i64 ((((x i).b).d1).scale), .int .i64 ((((x i).b).d2).c), .int .i64 ((((x i).b).d2).scale), .int .i64 ((((x i).c).d0).c), .int .i64 ((((x i).c).d0).scale), .int .i64 ((((x i).c).d1).c), .int .i64 ((((x i).c).d1).scale), .int .i64 ((((x i).c).d2).c), .int .i64 ((((x i).c).d2).scale)]) (he : sEq ((x i).name) nm = false) {Q : Exit → Env → List Box → Prop} {E : Env} {code : Code} {j : Nat} (hc0 : Tryz.f23.body.bind loopOf = some code) (q1 : E 1 = .string nm) (q4 : E 4 = .pointer (some ⟨g4, 0, none⟩)) (q5 : E 5 = .bool false) (q8 : E 8 = .slice (some ⟨g, off, none⟩) m c) (q9 : E 9 = .int .i64 (m : Int)) (q10 : E 10 = .int .i64 (i : Int)) (K : ∀ E' : Env, E' 1 = .string nm → E' 4 = .pointer (some ⟨g4, 0, none⟩) → E' 5 = .bool false → E' 8 = .slice (some ⟨g, off, none⟩) m c → E' 9 = .int .i64 (m : Int) → E' 10 = .int .i64 ((i + 1 : Nat) : Int) → ARounds Tryz.prog 21 code Q j E' (⟨g4, [.string (⟨#[]⟩ : ByteArray), .int .i64 0, .int .i64 0, .int .i64 0, .int .i64 0, .int .i64 0, .int .i64 0, .int .i64 0, .int .i64 0, .int .i64 0, .int .i64 0, .int .i64 0, .int .i64 0], 29, false⟩ :: NA)) : ARounds Tryz.prog 21 code Q (j + 1) E (⟨g4, [.string (⟨#[]⟩ : ByteArray), .int .i64 0, .int .i64 0, .int .i64 0, .int .i64 0, .int .i64 0, .int .i64 0, .int .i64 0, .int .i64 0, .int .i64 0, .int .i64 0, .int .i64 0, .int .i64 0], 29, false⟩ :: NA) := by
 rw [show Tryz.f23.body.bind loopOf = some _ from rfl] at hc0
 cases hc0
 obtain ⟨E0, rfl⟩ : ∃ E0 : Env, E = ((((((E0.put (some 1) (.string nm)).put (some 4) (.pointer (some ⟨g4, 0, none⟩))).put (some 5) (.bool false)).put (some 8) (.slice (some ⟨g, off, none⟩) m c)).put (some 9) (.int .i64 (m : Int))).put (some 10) (.int .i64 (i : Int))) := ⟨E, by rw [put_self q1, put_self q4, put_self q5, put_self q8, put_self q9, put_self q10]⟩
 refine ar_round (aQ (aL (aB 11 (.bool (decide ((i : Int) < (m : Int)))) rfl rfl rfl (bi_lss rfl) (aN (aQ (ac_then' (b := decide ((i : Int) < (m : Int))) (show (decide ((i : Int) < (m : Int))) = true from (decide_eq_true (by omega))) rfl (ac_skip (aQ (ac_block (aQ (aL (ao 12 rfl rfl (st_sa (g := g) (off := off) (m := m) (c := c) (s := 13) (i := i) rfl Tryz.underlying23 (by kernel_rfl) rfl rfl hi ?_)))))))))))))
 refine ao 13 rfl rfl (st_ldam (g := g) (off := off + i * 13) (vs := [.string ((x i).name), .int .i64 ((((x i).b).d0).c), .int .i64 ((((x i).b).d0).scale), .int .i64 ((((x i).b).d1).c), .int .i64 ((((x i).b).d1).scale), .int .i64 ((((x i).b).d2).c), .int .i64 ((((x i).b).d2).scale), .int .i64 ((((x i).c).d0).c), .int .i64 ((((x i).c).d0).scale), .int .i64 ((((x i).c).d1).c), .int .i64 ((((x i).c).d1).scale), .int .i64 ((((x i).c).d2).c), .int .i64 ((((x i).c).d2).scale)]) agg29 rfl rfl (List.mem_cons_of_mem _ hm) rfl hc (ao 7 rfl rfl (st_new zero29 rfl fun g5 => ?_)))
 refine aS [.string ((x i).name), .int .i64 ((((x i).b).d0).c), .int .i64 ((((x i).b).d0).scale), .int .i64 ((((x i).b).d1).c), .int .i64 ((((x i).b).d1).scale), .int .i64 ((((x i).b).d2).c), .int .i64 ((((x i).b).d2).scale), .int .i64 ((((x i).c).d0).c), .int .i64 ((((x i).c).d0).scale), .int .i64 ((((x i).c).d1).c), .int .i64 ((((x i).c).d1).scale), .int .i64 ((((x i).c).d2).c), .int .i64 ((((x i).c).d2).scale)] agg29 0 rfl rfl rfl rfl rfl rfl (aN (aQ (aL (aF 14 fa29_0 rfl rfl (aD 15 (.string ((x i).name)) cell9 0 rfl rfl rfl rfl (aM 16 (.string nm) rfl rfl (aB 17 (.bool (sEq ((x i).name) nm)) rfl rfl rfl (bi_seql rfl) (aN ?_))))))))
 refine ac_else' (b := sEq ((x i).name) nm) (show (sEq ((x i).name) nm) = false from he) rfl (ac_skip (aL (aB 19 (.int .i64 (w64 ((i : Int) + 1))) rfl rfl rfl (bi_add rfl) (aM 10 (.int .i64 (w64 ((i : Int) + 1))) rfl rfl (aN ?_)))))
 exact ar_drop (List.sublist_cons_self _ _) (K _ rfl rfl rfl rfl rfl (by show Value.int _ _ = _; rw [w64_in (by omega)]; rfl))
set_option maxRecDepth 100000 in
theorem gf_end (g4 m : Nat) (NA : List Box)  {Q : Exit → Env → List Box → Prop} {E : Env} {code : Code} {j : Nat} (hc0 : Tryz.f23.body.bind loopOf = some code) (q4 : E 4 = .pointer (some ⟨g4, 0, none⟩)) (q5 : E 5 = .bool false) (q9 : E 9 = .int .i64 (m : Int)) (q10 : E 10 = .int .i64 (m : Int)) (K : ∀ E' : Env, E' 4 = .pointer (some ⟨g4, 0, none⟩) → Q (.exit 0) E' (⟨g4, [.string (⟨#[]⟩ : ByteArray), .int .i64 0, .int .i64 0, .int .i64 0, .int .i64 0, .int .i64 0, .int .i64 0, .int .i64 0, .int .i64 0, .int .i64 0, .int .i64 0, .int .i64 0, .int .i64 0], 29, false⟩ :: NA)) : ARounds Tryz.prog 21 code Q (j + 1) E (⟨g4, [.string (⟨#[]⟩ : ByteArray), .int .i64 0, .int .i64 0, .int .i64 0, .int .i64 0, .int .i64 0, .int .i64 0, .int .i64 0, .int .i64 0, .int .i64 0, .int .i64 0, .int .i64 0, .int .i64 0], 29, false⟩ :: NA) := by
 rw [show Tryz.f23.body.bind loopOf = some _ from rfl] at hc0
 cases hc0
 obtain ⟨E0, rfl⟩ : ∃ E0 : Env, E = ((((E0.put (some 4) (.pointer (some ⟨g4, 0, none⟩))).put (some 5) (.bool false)).put (some 9) (.int .i64 (m : Int))).put (some 10) (.int .i64 (m : Int))) := ⟨E, by rw [put_self q4, put_self q5, put_self q9, put_self q10]⟩
 refine ar_round (aQ (aL (aB 11 (.bool (decide ((m : Int) < (m : Int)))) rfl rfl rfl (bi_lss rfl) (aN (aQ (ac_else' (b := decide ((m : Int) < (m : Int))) (show (decide ((m : Int) < (m : Int))) = false from (decide_eq_false (by omega))) rfl (ac_exit ?_)))))))
 exact K _ rfl
theorem gf_loop (g4 m c : Nat) (a : Option Addr) (nm : ByteArray) (x : Nat → Glass) (NA : List Box) (hm4 : m ≤ 4001) (hl : GlI a m x NA) {Q : Exit → Env → List Box → Prop} {code : Code} (hc0 : Tryz.f23.body.bind loopOf = some code) :
  ∀ (j i : Nat) (E : Env), i + j = m → E 1 = .string nm → E 4 = .pointer (some ⟨g4, 0, none⟩) → E 5 = .bool false → E 8 = .slice a m c → E 9 = .int .i64 (m : Int) → E 10 = .int .i64 (i : Int) →
   (∀ (E' : Env) (g7 : Nat) (cs7 : List Value) (y : Glass), gFind x nm j i = (y, true) → E' 4 = .pointer (some ⟨g4, 0, none⟩) → E' 5 = .bool true → Q .ret E' (⟨g7, cs7, 29, false⟩ :: ⟨g4, y.cells, 29, false⟩ :: NA)) →
   (∀ E' : Env, gFind x nm j i = (Glass.zero, false) → E' 4 = .pointer (some ⟨g4, 0, none⟩) → Q (.exit 0) E' (⟨g4, [.string (⟨#[]⟩ : ByteArray), .int .i64 0, .int .i64 0, .int .i64 0, .int .i64 0, .int .i64 0, .int .i64 0, .int .i64 0, .int .i64 0, .int .i64 0, .int .i64 0, .int .i64 0, .int .i64 0], 29, false⟩ :: NA)) → ARounds Tryz.prog 21 code Q (j + 1) E (⟨g4, [.string (⟨#[]⟩ : ByteArray), .int .i64 0, .int .i64 0, .int .i64 0, .int .i64 0, .int .i64 0, .int .i64 0, .int .i64 0, .int .i64 0, .int .i64 0, .int .i64 0, .int .i64 0, .int .i64 0], 29, false⟩ :: NA) := by
 intro j
 induction j with
 | zero =>
  intro i E hk q1 q4 q5 q8 q9 q10 K1 K2
  obtain rfl : i = m := by omega
  exact gf_end g4 i NA hc0 q4 q5 q9 q10 (fun E' f4 => K2 E' rfl f4)
 | succ j ih =>
  intro i E hk q1 q4 q5 q8 q9 q10 K1 K2
  obtain ⟨g, off, cs, t, r, rfl, hm, hc⟩ := hl i (by omega)
  cases he : sEq (x i).name nm
  ·have e : gFind x nm (j + 1) i = gFind x nm j (i + 1) := by rw [gFind, he]; rfl
   rw [e] at K1 K2
   exact gf_no g4 g off m c i t r nm x cs NA (by omega) hm4 hm hc he hc0 q1 q4 q5 q8 q9 q10 (fun E' f1 f4 f5 f8 f9 f10 => ih (i + 1) E' (by omega) f1 f4 f5 f8 f9 f10 K1 K2)
  ·have e : gFind x nm (j + 1) i = (x i, true) := by rw [gFind, he]; rfl
   rw [e] at K1
   exact gf_hit g4 g off m c i t r nm x cs NA (by omega) hm4 hm hc he hc0 q1 q4 q5 q8 q9 q10 (fun E' g7 cs7 f4 f5 => K1 E' g7 cs7 (x i) rfl f4 f5)
def findV (r : Glass × Bool) : Value := .tuple #[.agg #[.string r.1.name, .int .i64 r.1.b.d0.c, .int .i64 r.1.b.d0.scale, .int .i64 r.1.b.d1.c, .int .i64 r.1.b.d1.scale, .int .i64 r.1.b.d2.c, .int .i64 r.1.b.d2.scale, .int .i64 r.1.c.d0.c, .int .i64 r.1.c.d0.scale, .int .i64 r.1.c.d1.c, .int .i64 r.1.c.d1.scale, .int .i64 r.1.c.d2.c, .int .i64 r.1.c.d2.scale], .bool r.2]
set_option maxRecDepth 100000 in
theorem c_gFind (m c : Nat) (a : Option Addr) (nm : ByteArray) (x : Nat → Glass) (NA : List Box) (hm4 : m ≤ 4001) (hl : GlI a m x NA) (hro : (NA.all fun b => b.ro) = true) : Gives Tryz.prog 23 #[.slice a m c, .string nm] NA (fun v N => v = findV (gFind x nm m 0) ∧ N = []) := by
 refine gives_fin Tryz.func23 rfl rfl rfl hro (aQ (aL (ao 4 rfl rfl (st_new zero29 rfl fun g0 => (aA 5 (.bool false) rfl rfl (aN (aQ (aQ (aL (aM 8 (.slice a m c) rfl rfl (ao 9 rfl rfl (st_ln (a := a) (m := m) (c := c) rfl Tryz.underlying23 rfl (aM 10 (.int .i64 0) rfl rfl (aN (ac_block ?_)))))))))))))))
 refine ac_rounds (m + 1) ?_
 refine gf_loop g0 m c a nm x NA hm4 hl rfl m 0 _ (Nat.zero_add _) rfl rfl rfl rfl rfl (by rfl) (fun E9 g7 cs7 y hy f4 f5 => ?_) (fun E9 hy f4 => ?_)
 ·obtain ⟨E0, rfl⟩ : ∃ E0 : Env, E9 = ((E0.put (some 4) (.pointer (some ⟨g0, 0, none⟩))).put (some 5) (.bool true)) := ⟨E9, by rw [put_self f4, put_self f5]⟩
  exact fing_ret (N := []) ⟨by rw [hy]; rfl, rfl⟩ (List.nil_sublist _) rfl (res_ct (vs := y.cells) agg29 1 rfl rfl rfl rfl rfl rfl rfl)
 obtain ⟨E0, rfl⟩ : ∃ E0 : Env, E9 = (E0.put (some 4) (.pointer (some ⟨g0, 0, none⟩))) := ⟨E9, by rw [put_self f4]⟩
 refine aQ (aL (ao 20 rfl rfl (st_bd (us := []) (v := .agg #[.string (⟨#[]⟩ : ByteArray), .int .i64 0, .int .i64 0, .int .i64 0, .int .i64 0, .int .i64 0, .int .i64 0, .int .i64 0, .int .i64 0, .int .i64 0, .int .i64 0, .int .i64 0, .int .i64 0]) rfl rfl (bd29_ ) (aS [.string (⟨#[]⟩ : ByteArray), .int .i64 0, .int .i64 0, .int .i64 0, .int .i64 0, .int .i64 0, .int .i64 0, .int .i64 0, .int .i64 0, .int .i64 0, .int .i64 0, .int .i64 0, .int .i64 0] agg29 0 rfl rfl rfl rfl rfl rfl (aA 5 (.bool false) rfl rfl (aN (ac_ret ?_)))))))
 exact fing_ret (N := []) ⟨by rw [hy]; rfl, rfl⟩ (List.nil_sublist _) rfl (res_ct (vs := [.string (⟨#[]⟩ : ByteArray), .int .i64 0, .int .i64 0, .int .i64 0, .int .i64 0, .int .i64 0, .int .i64 0, .int .i64 0, .int .i64 0, .int .i64 0, .int .i64 0, .int .i64 0, .int .i64 0]) agg29 0 rfl rfl rfl rfl rfl rfl rfl)
end Go.Proofs.YtalffjplbhelcaaGreatDoor
namespace Go.Proofs.YtalffjplbhelcaaGreatDoor
open Go.RowKit
attribute [local irreducible] AC AR DWalk
def gName (m : Nat) (x : Nat → Glass) (tk : Tok) : Int := (bif tk.kind != 1 then 2 else (bif (gFind x tk.text m 0).2 then 5 else (bif sEq tk.text (⟨#[97, 105, 114]⟩ : ByteArray) then 5 else (bif (m : Int) == 30 then 3 else 0))))
set_option maxRecDepth 100000 in
set_option maxHeartbeats 1000000 in
theorem c_gName (m c : Nat) (a : Option Addr) (x : Nat → Glass) (tk : Tok) (NA : List Box) (hm4 : m ≤ 4001) (hl : GlI a m x NA) (hro : (NA.all fun b => b.ro) = true) : Gives Tryz.prog 107 #[.slice a m c, .agg #[.int .i64 tk.kind, .string tk.text, .complex .f64 (tk.at_).re (tk.at_).im]] NA (fun v N => v = (fun (r : Int) => (.int .i64 r : Value)) (gName m x tk) ∧ N = []) := by
 refine gives_fin Tryz.func107 rfl rfl rfl hro (aQ (aL (ao 3 rfl rfl (st_box (v := .agg #[.int .i64 tk.kind, .string tk.text, .complex .f64 (tk.at_).re (tk.at_).im]) (cs := [.int .i64 tk.kind, .string tk.text, .complex .f64 (tk.at_).re (tk.at_).im]) rfl rfl rfl fun g0 => (aA 4 (.int .i64 0) rfl rfl (aN (aQ (aL (aM 8 (.slice a m c) rfl rfl (aF 9 fa108_1 rfl rfl (aD 10 (.string tk.text) cell9 0 rfl rfl rfl rfl ?_)))))))))))
 refine ao 11 rfl rfl (st_ownT fun hnd => st_gr (vs := [.slice a m c, .string tk.text]) (R := NA) (r := .tuple #[.agg #[.string (((gFind x tk.text m 0).1).name), .int .i64 (((((gFind x tk.text m 0).1).b).d0).c), .int .i64 (((((gFind x tk.text m 0).1).b).d0).scale), .int .i64 (((((gFind x tk.text m 0).1).b).d1).c), .int .i64 (((((gFind x tk.text m 0).1).b).d1).scale), .int .i64 (((((gFind x tk.text m 0).1).b).d2).c), .int .i64 (((((gFind x tk.text m 0).1).b).d2).scale), .int .i64 (((((gFind x tk.text m 0).1).c).d0).c), .int .i64 (((((gFind x tk.text m 0).1).c).d0).scale), .int .i64 (((((gFind x tk.text m 0).1).c).d1).c), .int .i64 (((((gFind x tk.text m 0).1).c).d1).scale), .int .i64 (((((gFind x tk.text m 0).1).c).d2).c), .int .i64 (((((gFind x tk.text m 0).1).c).d2).scale)], .bool ((gFind x tk.text m 0).2)]) (c_gFind m c a tk.text x NA hm4 hl hro) Tryz.func23 rfl (by decide) rfl rfl rfl (has_tl (has_self NA)) (nd_tl hnd) ?_)
 refine aM 7 (.tuple #[.agg #[.string (((gFind x tk.text m 0).1).name), .int .i64 (((((gFind x tk.text m 0).1).b).d0).c), .int .i64 (((((gFind x tk.text m 0).1).b).d0).scale), .int .i64 (((((gFind x tk.text m 0).1).b).d1).c), .int .i64 (((((gFind x tk.text m 0).1).b).d1).scale), .int .i64 (((((gFind x tk.text m 0).1).b).d2).c), .int .i64 (((((gFind x tk.text m 0).1).b).d2).scale), .int .i64 (((((gFind x tk.text m 0).1).c).d0).c), .int .i64 (((((gFind x tk.text m 0).1).c).d0).scale), .int .i64 (((((gFind x tk.text m 0).1).c).d1).c), .int .i64 (((((gFind x tk.text m 0).1).c).d1).scale), .int .i64 (((((gFind x tk.text m 0).1).c).d2).c), .int .i64 (((((gFind x tk.text m 0).1).c).d2).scale)], .bool ((gFind x tk.text m 0).2)]) rfl rfl ?_
 refine aX 12 (.agg #[.string (((gFind x tk.text m 0).1).name), .int .i64 (((((gFind x tk.text m 0).1).b).d0).c), .int .i64 (((((gFind x tk.text m 0).1).b).d0).scale), .int .i64 (((((gFind x tk.text m 0).1).b).d1).c), .int .i64 (((((gFind x tk.text m 0).1).b).d1).scale), .int .i64 (((((gFind x tk.text m 0).1).b).d2).c), .int .i64 (((((gFind x tk.text m 0).1).b).d2).scale), .int .i64 (((((gFind x tk.text m 0).1).c).d0).c), .int .i64 (((((gFind x tk.text m 0).1).c).d0).scale), .int .i64 (((((gFind x tk.text m 0).1).c).d1).c), .int .i64 (((((gFind x tk.text m 0).1).c).d1).scale), .int .i64 (((((gFind x tk.text m 0).1).c).d2).c), .int .i64 (((((gFind x tk.text m 0).1).c).d2).scale)]) rfl rfl rfl ?_
 refine aX 13 (.bool ((gFind x tk.text m 0).2)) rfl rfl rfl (ao 5 rfl rfl (st_new zero29 rfl fun g1 => ?_))
 refine aS [.string (((gFind x tk.text m 0).1).name), .int .i64 (((((gFind x tk.text m 0).1).b).d0).c), .int .i64 (((((gFind x tk.text m 0).1).b).d0).scale), .int .i64 (((((gFind x tk.text m 0).1).b).d1).c), .int .i64 (((((gFind x tk.text m 0).1).b).d1).scale), .int .i64 (((((gFind x tk.text m 0).1).b).d2).c), .int .i64 (((((gFind x tk.text m 0).1).b).d2).scale), .int .i64 (((((gFind x tk.text m 0).1).c).d0).c), .int .i64 (((((gFind x tk.text m 0).1).c).d0).scale), .int .i64 (((((gFind x tk.text m 0).1).c).d1).c), .int .i64 (((((gFind x tk.text m 0).1).c).d1).scale), .int .i64 (((((gFind x tk.text m 0).1).c).d2).c), .int .i64 (((((gFind x tk.text m 0).1).c).d2).scale)] agg29 0 rfl rfl rfl rfl rfl rfl ?_
 refine aA 6 (.bool ((gFind x tk.text m 0).2)) rfl rfl (aN (aQ (ac_block (aQ (aL (aF 15 fa108_0 rfl rfl (aD 16 (.int .i64 tk.kind) cell3 1 rfl rfl rfl rfl (aB 17 (.bool (tk.kind != 1)) rfl rfl rfl (bi_neq rfl) (aA 14 (.bool (tk.kind != 1)) rfl rfl (aN ?_))))))))))
 refine bool_split (tk.kind != 1) (fun h1 => ?_) (fun h1 => ?_)
 ·refine ac_then' (b := tk.kind != 1) h1 rfl (aQ (aL (aA 4 (.int .i64 2) rfl rfl (aN (ac_ret ?_)))))
  exact fing_ret (N := []) ⟨(show (.int .i64 2 : Value) = (fun (r : Int) => (.int .i64 r : Value)) (gName m x tk) from by rw [gName, h1] <;> rfl), rfl⟩ (List.nil_sublist _) rfl (res_tmp rfl rfl)
 ·refine ac_else' (b := tk.kind != 1) h1 rfl (aQ (aL (aM 19 (.bool ((gFind x tk.text m 0).2)) rfl rfl (aM 20 (.bool ((gFind x tk.text m 0).2)) rfl rfl ?_))))
  refine bool_split ((gFind x tk.text m 0).2) (fun h2 => ?_) (fun h2 => ?_)
  ·refine aK 21 (by show (((gFind x tk.text m 0).2) == false) = false; rw [h2]; rfl) rfl (aK 22 (by show (((gFind x tk.text m 0).2) == false) = false; rw [h2]; rfl) rfl (aK 23 (by show (((gFind x tk.text m 0).2) == false) = false; rw [h2]; rfl) rfl (ao 24 rfl rfl (st_pkt' (b := (gFind x tk.text m 0).2) (v := .bool true) h2 rfl rfl rfl (aA 18 (.bool true) rfl rfl (aN (ac_then rfl (aQ (aL (aA 4 (.int .i64 5) rfl rfl (aN (ac_ret ?_))))))))))))
   exact fing_ret (N := []) ⟨(show (.int .i64 5 : Value) = (fun (r : Int) => (.int .i64 r : Value)) (gName m x tk) from by rw [gName, h2, h1] <;> rfl), rfl⟩ (List.nil_sublist _) rfl (res_tmp rfl rfl)
  ·refine ar_gd (d := (some 21)) (by show (((gFind x tk.text m 0).2) == false) = true; rw [h2]; rfl) rfl (st_fa rfl fa108_1 rfl (ar_gd (d := (some 22)) (by show (((gFind x tk.text m 0).2) == false) = true; rw [h2]; rfl) rfl (st_ldc (v := .string tk.text) cell9 1 rfl rfl rfl rfl rfl (ar_gd (d := (some 23)) (by show (((gFind x tk.text m 0).2) == false) = true; rw [h2]; rfl) rfl (st_bi (r := .bool (sEq tk.text (⟨#[97, 105, 114]⟩ : ByteArray))) rfl rfl rfl (bi_seql rfl) (ao 24 rfl rfl (st_pkf' (b := (gFind x tk.text m 0).2) (v := .bool (sEq tk.text (⟨#[97, 105, 114]⟩ : ByteArray))) h2 rfl rfl rfl (aA 18 (.bool (sEq tk.text (⟨#[97, 105, 114]⟩ : ByteArray))) rfl rfl (aN ?_)))))))))
   refine bool_split (sEq tk.text (⟨#[97, 105, 114]⟩ : ByteArray)) (fun h3 => ?_) (fun h3 => ?_)
   ·refine ac_then' (b := sEq tk.text (⟨#[97, 105, 114]⟩ : ByteArray)) h3 rfl (aQ (aL (aA 4 (.int .i64 5) rfl rfl (aN (ac_ret ?_)))))
    exact fing_ret (N := []) ⟨(show (.int .i64 5 : Value) = (fun (r : Int) => (.int .i64 r : Value)) (gName m x tk) from by rw [gName, h3, h2, h1] <;> rfl), rfl⟩ (List.nil_sublist _) rfl (res_tmp rfl rfl)
   ·refine ac_else' (b := sEq tk.text (⟨#[97, 105, 114]⟩ : ByteArray)) h3 rfl (aQ (aL (aM 26 (.slice a m c) rfl rfl (ao 27 rfl rfl (st_ln (a := a) (m := m) (c := c) rfl Tryz.underlying23 rfl (aB 28 (.bool ((m : Int) == 30)) rfl rfl rfl (bi_eql rfl) (aA 25 (.bool ((m : Int) == 30)) rfl rfl (aN ?_))))))))
    refine bool_split ((m : Int) == 30) (fun h4 => ?_) (fun h4 => ?_)
    ·refine ac_then' (b := (m : Int) == 30) h4 rfl (aQ (aL (aA 4 (.int .i64 3) rfl rfl (aN (ac_ret ?_)))))
     exact fing_ret (N := []) ⟨(show (.int .i64 3 : Value) = (fun (r : Int) => (.int .i64 r : Value)) (gName m x tk) from by rw [gName, h4, h3, h2, h1] <;> rfl), rfl⟩ (List.nil_sublist _) rfl (res_tmp rfl rfl)
    ·refine ac_else' (b := (m : Int) == 30) h4 rfl (ac_skip (aQ (aL (aA 4 (.int .i64 0) rfl rfl (aN (ac_ret ?_))))))
     exact fing_ret (N := []) ⟨(show (.int .i64 0 : Value) = (fun (r : Int) => (.int .i64 r : Value)) (gName m x tk) from by rw [gName, h4, h3, h2, h1] <;> rfl), rfl⟩ (List.nil_sublist _) rfl (res_tmp rfl rfl)
end Go.Proofs.YtalffjplbhelcaaGreatDoor
namespace Go.Proofs.YtalffjplbhelcaaGreatDoor
open Go.RowKit
def TkI (a : Option Addr) (m : Nat) (x : Nat → Tok) (H : List Box) : Prop :=
  ∀ i, i < m → ∃ (g off : Nat) (cs : List Value) (t : TypeId) (r : Bool), a = some ⟨g, off, none⟩ ∧ (⟨g, cs, t, r⟩ : Box) ∈ H ∧ (cs.drop (off + i * 3)).take 3 = (x i).cells
theorem tk_open {a : Option Addr} {m : Nat} {x : Nat → Tok} {H : List Box} (h : TkI a m x H) (hm : 0 < m) : ∃ g off : Nat, a = some ⟨g, off, none⟩ := by
  obtain ⟨g, off, _, _, _, e, _⟩ := h 0 hm
  exact ⟨g, off, e⟩
theorem take_at {cs l : List Value} {o n j : Nat} {v : Value} (h : (cs.drop o).take n = l) (hj : l[j]? = some v) (hn : j < n) : cs[o + j]? = some v := by
  rw [← h, List.getElem?_take, if_pos hn, List.getElem?_drop] at hj
  exact hj
theorem tk_at {g off m : Nat} {x : Nat → Tok} {H : List Box} (h : TkI (some ⟨g, off, none⟩) m x H) (i : Nat) (hi : i < m) : ∃ (cs : List Value) (t : TypeId) (r : Bool), (⟨g, cs, t, r⟩ : Box) ∈ H ∧ (cs.drop (off + i * 3)).take 3 = (x i).cells ∧
    cs[off + i * 3 + 0]? = some (.int .i64 (x i).kind) ∧ cs[off + i * 3 + 1]? = some (.string (x i).text) ∧ cs[off + i * 3 + 2]? = some (.complex .f64 (x i).at_.re (x i).at_.im) := by
  obtain ⟨g', off', cs, t, r, e, hm, hc⟩ := h i hi
  simp only [Option.some.injEq, Addr.mk.injEq, and_true] at e
  obtain ⟨rfl, rfl⟩ := e
  exact ⟨cs, t, r, hm, hc, take_at (j := 0) hc rfl (by decide), take_at (j := 1) hc rfl (by decide), take_at (j := 2) hc rfl (by decide)⟩
def slE (g off h s c : Nat) : Option Addr := if c = h then some ⟨g, off, none⟩ else some ⟨g, off + h * s, none⟩
theorem tk_rest {g off m c h : Nat} {x : Nat → Tok} {H : List Box} (hx : TkI (some ⟨g, off, none⟩) m x H) (hm : h ≤ m) (hc : m ≤ c) : TkI (slE g off h 3 c) (m - h) (fun i => x (i + h)) H := by
  intro i hi
  obtain ⟨cs, t, r, h1, h2, _⟩ := tk_at hx (i + h) (by omega)
  refine ⟨g, off + h * 3, cs, t, r, ?_, h1, ?_⟩
  · unfold slE
    rw [if_neg (by omega)]
  · rw [← h2, show off + h * 3 + i * 3 = off + (i + h) * 3 by omega]
theorem res_cttt {p : Program} {n : Nat} {E : Env} {H : List Box} {fn : Func} {t ty u1 u2 u3 : Nat} {b : Box} {g : Nat} {vs : List Value} {m : Nat} {y1 y2 y3 : Value} (ha : IsAgg p ty m) (i : Nat) (h : fn.results = #[.cell t ty, .tmp u1, .tmp u2, .tmp u3]) (hv : ev n E (.tmp t) = .pointer (some ⟨g, 0, none⟩)) (hm : H[i]? = some b) (hg : b.g = g) (hn : b.cs.length = m) (hb : b.cs = vs)
    (h1 : ev n E (.tmp u1) = y1) (h2 : ev n E (.tmp u2) = y2) (h3 : ev n E (.tmp u3) = y3) : Res p fn n E H (.tuple #[.agg vs.toArray, y1, y2, y3]) := by
  intro β w a hO hs
  subst hb hg
  simp [results, h, see_ptr hs hv, see_tmp hs h1, see_tmp hs h2, see_tmp hs h3, asAddr, own_load hO ha i hm hn, Sem.run_bind]
section
variable {p : Program} {n : Nat} {o : Oper} {H : List Box} {ρ : Operand → Value} {K : Post}
theorem st_slE {t e : Nat} {x y : Operand} {g off m c s h : Nat} (ho : o.op = .slice t x (some y) none none) (hu : p.underlying t = some (.slice e)) (hs : (p.info? e).map (·.size) = some s) (hx : ρ x = .slice (some ⟨g, off, none⟩) m c) (hy : ρ y = .int .i64 h) (hh : h ≤ m)
    (k : K (.slice (slE g off h s c) (m - h) (c - h)) H) : Step p ρ o H K := by
  refine st_run (s := Instr.sliceAt t (.slice (some ⟨g, off, none⟩) m c) (some (.int .i64 h)) none none) (by rw [execOp, ho]; simp only [hx, hy, Option.map_none, Option.map_some]) ⟨fun w => ?_⟩ k
  have h0 : (0 : Int) ≤ h := by omega
  have hh' : (h : Int) ≤ m := by omega
  cases hq : p.info? e with
  | none => simp [hq] at hs
  | some inf =>
    have hs' : inf.size = s := by simpa [hq] using hs
    unfold slE
    by_cases hch : c = h
    · subst hch
      simp [Instr.sliceAt, Instr.slice, Instr.sliceBounds, Sem.run_bind, run_underlying hu w, run_sliceBound, h0, hh', hh, sizeOf, typeInfo, hq, hs', Addr.add]
    · simp [Instr.sliceAt, Instr.slice, Instr.sliceBounds, Sem.run_bind, run_underlying hu w, run_sliceBound, h0, hh', hh, hch, sizeOf, typeInfo, hq, hs', Addr.add]
end
end Go.Proofs.YtalffjplbhelcaaGreatDoor
