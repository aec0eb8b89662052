import Derived.Test.YthngkopcadlciaaMNormalTells8
import Derived.Test.YthngkopcadlciaaMNormalTells4
import Derived.Test.YthngkopcadlciaaMNormalTells6
set_option linter.unusedVariables false
set_option linter.unusedSimpArgs false
namespace Go.Proofs.Ythngkopcadlciaa
open Go.RowKit Go.Shelf
def hstep (x : Iv) (out : Iv) (q : Nat × Iv) : Iv := ivAdd (ivMul out x) q.2
def htop (o : Iv) : Iv := bif ivRight o then o else ivNone
def hfold (x o : Iv) (pre : List (Nat × Iv)) : Iv := pre.foldl (hstep x) (htop o)
theorem lies_of {w : World} {g t : Nat} {fr : Nat × Nat} {zs : List Iv} {r : List Value} (h : w.heap[g]? = some (.cells (flat zs ++ r).toArray t fr)) : Lies w g 0 zs := by
  intro m hm
  have hf : ∀ (zs : List Iv) (r : List Value) (m : Nat), m < zs.length → ((flat zs ++ r).drop (m * 3)).take 3 = cel (elt zs m) := by
    intro zs
    induction zs with
    | nil => intro r m hm; cases hm
    | cons z zs ih =>
      intro r m hm
      cases m with
      | zero => rfl
      | succ m =>
        have := ih r m (by simpa using hm)
        rw [show (m + 1) * 3 = m * 3 + 3 from by omega, Nat.add_comm (m * 3) 3, ← List.drop_drop]
        exact this
  have e := hf zs r m hm
  have cell : ∀ j, j < 3 → w.cell? ⟨g, 0 + m * 3 + j, none⟩ = (cel (elt zs m))[j]? := by
    intro j hj
    rw [cell_of_row w g _ _ t fr h, ← e, List.getElem?_take, if_pos hj, List.getElem?_drop]
    simp
  exact ⟨cell 0 (by decide), cell 1 (by decide), cell 2 (by decide)⟩
theorem flat_at (zs : List Iv) (o : Iv) (rest : List Value) : ((flat (zs ++ [o]) ++ rest).drop (zs.length * 3)).take 3 = cel o := by
  rw [flat_append, List.append_assoc, List.drop_left' (by rw [flat_length]; omega)]
  rfl
theorem back_gives (a : Option Addr) (len cap : Nat) : Gives Try.prog 66 #[.slice a len cap] [] (fun u N => ∃ gB, u = .func (.func 99) #[] #[.pointer (some ⟨gB, 0, none⟩)] ∧ N = [⟨gB, [.slice a len cap], 24, false⟩]) := by
  intro w _ _
  refine ((callsIn_wide (n := 3)).1 (back_in Fence.wide 3 trivial rfl a len cap w)).mono ?_
  rintro e w' ⟨rfl, rfl⟩
  refine ⟨_, _, rfl, ⟨w.heap.size, rfl, rfl⟩, ⟨by simp, ?_, by simp⟩, by simp, (Below.refl _ w).alloc (Nat.le_refl _) _⟩
  intro b hb
  obtain rfl := List.mem_singleton.1 hb
  exact ⟨.inr (.inl (Nat.le_refl _)), (0, 0), fun _ => rfl, heap_alloc_new w _⟩
attribute [local irreducible] AC AR DWalk ACr
set_option maxRecDepth 100000 in
theorem horner0 (zs : List Iv) (o x : Iv) (g cap : Nat) (rest : List Value) (hcap : zs.length + 1 ≤ cap) (hreach : zs.length * 24 ≤ 140737488351232) :
    Gives Try.prog 22 #[.slice (some ⟨g, 0, none⟩) (zs.length + 1) cap, x.v] [⟨g, flat (zs ++ [o]) ++ rest, 26, true⟩] (fun u N => u = (hfold x o (upto zs zs.length)).v ∧ N = []) := by
  intro w hAt hnd
  refine (callsIn_wide (n := 3)).1 (callsIn_of_wp_marks Try.func22 rfl trivial ?_ rfl)
  refine wpIn_wide.2 ?_
  refine (acr_run (?_ : ACr Try.prog 36 ⟨fun _ => False, w⟩ _ _ (envOf #[.slice (some ⟨g, 0, none⟩) (zs.length + 1) cap, x.v]) _)) (own_start hAt hnd (by simp)) (Keeps.refl _ _) (sees_start rfl rfl)
  have hl : w64 (((zs.length + 1 : Nat) : Int) - 1) = (zs.length : Int) := by rw [w64_id (by omega)]; omega
  have hne : ((((zs.length + 1 : Nat) : Int)) == 0) = false := by simpa using (by omega : ¬ ((zs.length + 1 : Nat) : Int) = 0)
  refine acr_seq (ac_region_lit ?_)
  refine ao 3 rfl rfl (st_box (v := x.v) (cs := cel x) rfl rfl rfl fun g3 => ?_)
  refine ao 4 rfl rfl (st_new zero26 rfl fun g4 => ?_)
  refine ar_nil ⟨rfl, ?_⟩
  refine acr_seq (ac_seq (ac_region_lit ?_))
  refine ao 8 rfl rfl (st_move (v := .slice (some ⟨g, 0, none⟩) (zs.length + 1) cap) rfl rfl ?_)
  refine ao 9 rfl rfl (st_ln (a := some ⟨g, 0, none⟩) (m := zs.length + 1) (c := cap) rfl Try.underlying24 rfl ?_)
  refine ao 10 rfl rfl (st_bi (u := .int .i64 ((zs.length + 1 : Nat) : Int)) (v := .int .i64 0) (r := .bool false) rfl rfl rfl (bi_eql hne) ?_)
  refine ar_nil ?_
  refine ac_else rfl ?_
  refine ac_skip ⟨rfl, ?_⟩
  refine acr_seq (ac_region_lit ?_)
  refine ao 12 rfl rfl (st_move (v := .slice (some ⟨g, 0, none⟩) (zs.length + 1) cap) rfl rfl ?_)
  refine ao 13 rfl rfl (st_move (v := .slice (some ⟨g, 0, none⟩) (zs.length + 1) cap) rfl rfl ?_)
  refine ao 14 rfl rfl (st_ln (a := some ⟨g, 0, none⟩) (m := zs.length + 1) (c := cap) rfl Try.underlying24 rfl ?_)
  refine ao 15 rfl rfl (st_bi (u := .int .i64 ((zs.length + 1 : Nat) : Int)) (v := .int .i64 1) (r := .int .i64 (zs.length : Int)) rfl rfl rfl (bi_sub hl) ?_)
  refine ao 16 rfl rfl (st_sa (g := g) (off := 0) (m := zs.length + 1) (c := cap) (s := 3) (i := zs.length) rfl Try.underlying24 (by kernel_rfl) rfl rfl (by omega) ?_)
  refine ao 17 rfl rfl (st_lda (g := g) (off := 0 + zs.length * 3) (vs := cel o) agg26 2 rfl rfl rfl rfl rfl (by rw [Nat.zero_add]; exact flat_at zs o rest) ?_)
  refine ao 5 rfl rfl (st_new zero26 rfl fun g5 => ?_)
  refine ar_op (d := none) rfl rfl (st_sta (g := g5) (off := 0) (us := cel o) (cs := cel o) agg26 0 rfl rfl rfl rfl rfl rfl rfl rfl rfl ?_)
  refine ar_nil ⟨rfl, ?_⟩
  refine acr_seq (AC.mono (Q := fun e E H => e = .normal ∧ ∃ t, t = htop o ∧ E 0 = .slice (some ⟨g, 0, none⟩) (zs.length + 1) cap ∧ E 3 = .pointer (some ⟨g3, 0, none⟩) ∧ E 4 = .pointer (some ⟨g4, 0, none⟩) ∧ E 5 = .pointer (some ⟨g5, 0, none⟩) ∧
    H = [⟨g5, cel t, 26, false⟩, ⟨g4, [.int .i64 0, .int .i64 0, .bool false], 26, false⟩, ⟨g3, cel x, 26, false⟩, ⟨g, flat (zs ++ [o]) ++ rest, 26, true⟩]) (ac_seq (ac_region_lit ?_)) ?_)
  · refine ao 18 rfl rfl (st_lda (g := g5) (off := 0) (vs := cel o) agg26 0 rfl rfl rfl rfl rfl rfl ?_)
    refine ao 19 rfl rfl (st_cf (vs := [o.v]) (r := .bool (ivRight o)) (c_ivRight o) Try.func25 rfl (by decide) rfl rfl rfl ?_)
    refine ao 20 rfl rfl (st_un (u := .bool (ivRight o)) (v := .bool (!(ivRight o))) rfl rfl (un_not rfl) ?_)
    refine ar_nil ?_
    refine bool_split (ivRight o) (fun h1 => ?_) (fun h1 => ?_)
    · refine ac_else' (b := !(ivRight o)) (by rw [h1]; rfl) rfl ?_
      exact ac_skip ⟨rfl, o, by simp only [htop, h1]; rfl, rfl, rfl, rfl, rfl, rfl⟩
    · refine ac_then' (b := !(ivRight o)) (by rw [h1]; rfl) rfl ?_
      refine ac_region_lit ?_
      refine ao 21 rfl rfl (st_cf (vs := []) (r := ivNone.v) c_ivNone Try.func28 rfl (by decide) rfl rfl rfl ?_)
      refine ar_op (d := none) rfl rfl (st_sta (g := g5) (off := 0) (us := cel ivNone) (cs := cel ivNone) agg26 0 rfl rfl rfl rfl rfl rfl rfl rfl rfl ?_)
      exact ar_nil ⟨rfl, ivNone, by simp only [htop, h1]; rfl, rfl, rfl, rfl, rfl, rfl⟩
  rintro e E H ⟨rfl, t, ht, q0, q3, q4, q5, rfl⟩
  refine ⟨rfl, ?_⟩
  obtain ⟨E0, rfl⟩ := env4 q0 q3 q4 q5
  refine acr_seq' (acr_seq (ac_region_lit ?_))
  refine ao 22 rfl rfl (st_move (v := .slice (some ⟨g, 0, none⟩) (zs.length + 1) cap) rfl rfl ?_)
  refine ao 23 rfl rfl (st_move (v := .slice (some ⟨g, 0, none⟩) (zs.length + 1) cap) rfl rfl ?_)
  refine ao 24 rfl rfl (st_ln (a := some ⟨g, 0, none⟩) (m := zs.length + 1) (c := cap) rfl Try.underlying24 rfl ?_)
  refine ao 25 rfl rfl (st_bi (u := .int .i64 ((zs.length + 1 : Nat) : Int)) (v := .int .i64 1) (r := .int .i64 (zs.length : Int)) rfl rfl rfl (bi_sub hl) ?_)
  refine ao 26 rfl rfl (st_slh (g := g) (off := 0) (m := zs.length + 1) (c := cap) (s := 3) (h := zs.length) rfl Try.underlying24 (by kernel_rfl) rfl rfl (by omega) ?_)
  refine ao 27 rfl rfl (st_gv (vs := [.slice (some ⟨g, 0, none⟩) zs.length cap]) (back_gives (some ⟨g, 0, none⟩) zs.length cap) Try.func66 rfl (by decide) rfl rfl rfl has_nil (by simp) ?_)
  rintro _ _ ⟨gB, rfl, rfl⟩
  refine ar_nil ⟨rfl, acr_env fun E1 hE => ?_⟩
  have e3 : E1 3 = .pointer (some ⟨g3, 0, none⟩) := by rw [hE]; rfl
  have e4 : E1 4 = .pointer (some ⟨g4, 0, none⟩) := by rw [hE]; rfl
  have e5 : E1 5 = .pointer (some ⟨g5, 0, none⟩) := by rw [hE]; rfl
  have e27 : E1 27 = .func (.func 99) #[] #[.pointer (some ⟨gB, 0, none⟩)] := by rw [hE]; rfl
  clear hE
  refine acr_intro fun w1 a hO hB hs => ?_
  have own := hO.at_
  simp only [List.cons_append, List.nil_append, List.mem_cons, List.not_mem_nil, or_false, forall_eq_or_imp, forall_eq] at own
  obtain ⟨⟨_, frB, fB, hhB⟩, ⟨hm5, fr5, f5, hh5⟩, ⟨hm4, fr4, f4, hh4⟩, ⟨_, fr3, f3, hh3⟩, ⟨_, frg, fg, hhg⟩⟩ := own
  obtain rfl := fB trivial
  obtain rfl := f5 trivial
  obtain rfl := f4 trivial
  obtain rfl := f3 trivial
  have apt := hO.apart
  simp only [List.cons_append, List.nil_append, List.map_cons, List.map_nil, List.nodup_cons, List.mem_cons, List.not_mem_nil, or_false, not_or, not_false_eq_true, List.nodup_nil, and_true] at apt
  obtain ⟨⟨nB5, nB4, nB3, nBg⟩, ⟨n54, n53, n5g⟩, ⟨n43, n4g⟩, n3g⟩ := apt
  have lt : ∀ {k : Nat} {o : Obj}, w1.heap[k]? = some o → k < w1.heap.size := fun h => (Array.getElem?_eq_some_iff.1 h).1
  have bel : Below w.heap.size w w1 := hB.below
  have ge5 : w.heap.size ≤ g5 := by rcases hm5 with h | h | h <;> first | exact h | cases h
  have ge4 : w.heap.size ≤ g4 := by rcases hm4 with h | h | h <;> first | exact h | cases h
  have hcB : w1.cell? ⟨gB, 0, none⟩ = some (.slice (some ⟨g, 0, none⟩) zs.length cap) := by simp [World.cell?, hhB]
  have hLies : Lies w1 g 0 zs := by
    rw [flat_append, List.append_assoc] at hhg
    exact lies_of hhg
  refine wp_block (wpIn_wide.1 (wpIn_rangeFunc_ownH (F := Fence.wide) (n := 3) (α := Nat × Iv) rfl (by decide) (gf := 99) (lb := #[.pointer (some ⟨gB, 0, none⟩)]) (by rw [hs.eval]; exact e27) trivial (enters_of Try.func99 (by kernel_rfl) rfl)
    (encs := fun q : Nat × Iv => #[Value.int .i64 (q.1 : Int), q.2.v]) (Kp := KpB g gB) (w0 := w1) (back_stops Fence.wide 2 trivial rfl (by decide) gB g 0 cap zs hreach w1 (lt hhB) (lt hhg) hcB hLies)
    KpB.trans (fun W l o o' hl _ _ _ => ⟨World.putObj_heap_other (by have := lt hhg; omega), World.putObj_heap_other (by have := lt hhB; omega)⟩) (Below.refl _ _) (fun _ => rfl)
    (fun pre W => Keeps ⟨fun k => k = g5, w1⟩ W ∧ W.heap[g5]? = some (.cells (cel (pre.foldl (hstep x) t)).toArray 26 (0, 0)))
    (fun _ _ _ => False) ?hI (fun _ _ _ _ _ h _ _ => h) ⟨Keeps.refl _ _, hh5⟩
    (fun q a' W => ∃ gA, Sees 36 (((E1.put (some 28) (.int .i64 (q.1 : Int))).put (some 29) q.2.v).put (some 7) (.pointer (some ⟨gA, 0, none⟩))) a' ∧ w1.heap.size ≤ gA ∧ W.heap[gA]? = some (.cells (cel q.2).toArray 26 (0, 0))) ?hAx ?assign ?body ?done (fun _ _ _ _ _ _ h _ => h.elim)))
  case hI =>
    intro s W W' row ⟨hk, h5⟩ hg hr
    have hne : ∀ k, k < w1.heap.size → some k ≠ row := fun k hk e => by have := (hr k e.symm).1; omega
    refine ⟨⟨hk.base.trans ⟨hg.os, hg.tape, hg.output, hg.size, fun k hk => absurd hk (Nat.not_lt_zero _)⟩, fun k hn => ?_⟩, ?_⟩
    · have hlt : k < w1.heap.size := Nat.lt_of_not_le fun h => hn (.inl h)
      rw [hg.block k (Nat.lt_of_lt_of_le hlt hk.size) (hne k hlt), hk.block k hn]
    · rw [hg.block g5 (Nat.lt_of_lt_of_le (lt hh5) hk.size) (hne g5 (lt hh5)), h5]
  case hAx =>
    intro q a' s W W' row ⟨gA, h1, h2, h3⟩ hg hr
    refine ⟨gA, h1, h2, ?_⟩
    rw [hg.block gA (Array.getElem?_eq_some_iff.1 h3).1 (fun e => ?_), h3]
    obtain ⟨_, o, ho, hc⟩ := hr gA e.symm
    rw [h3] at ho
    cases ho
    cases hc
  case assign =>
    intro l pre q W K hi hK
    have hact : ({ tmps := ((#[28, 29] : Array Nat).zip #[Value.int .i64 (q.1 : Int), q.2.v]).foldl (fun t (p, v) => t.setIfInBounds p v) a.tmps, defers := [] } : Act) = (a.put (some 28) (.int .i64 (q.1 : Int))).put (some 29) q.2.v := by
      have := hs.defers
      cases a
      simp only at this
      subst this
      simp [Act.put]
    refine wpIn_mono (region_in (β := ⟨fun _ => False, W⟩) (H := []) (Q := fun e E H => e = .normal ∧ ∃ gA, E = (((E1.put (some 28) (.int .i64 (q.1 : Int))).put (some 29) q.2.v).put (some 7) (.pointer (some ⟨gA, 0, none⟩))) ∧ H = [⟨gA, cel q.2, 26, false⟩]) l _ (by kernel_rfl) (fun E H h => by cases h.1) ?_ (Own.nil _ W) (Keeps.refl _ _) (show Sees 36 ((E1.put (some 28) (.int .i64 (q.1 : Int))).put (some 29) q.2.v) _ from by rw [hact]; exact (hs.put _ _).put _ _)) ?_
    · refine ao 7 rfl rfl (st_new zero26 rfl fun gA => ?_)
      refine ar_op (d := none) rfl rfl (st_sta (g := gA) (off := 0) (us := cel q.2) (cs := cel q.2) agg26 0 rfl rfl rfl rfl rfl rfl rfl rfl rfl ?_)
      exact ar_nil ⟨rfl, gA, rfl, rfl⟩
    · rintro e a' W' ⟨E, H, ⟨rfl, gA, rfl, rfl⟩, hs', hO', hB'⟩
      have hb := hB'.below
      have hA := hO'.at_ _ (List.mem_singleton.2 rfl)
      have hgA : W.heap.size ≤ gA := by rcases hA.1 with h | h | h <;> first | exact h | cases h
      have hk : w1.heap.size ≤ W.heap.size := hi.1.size
      obtain ⟨frA, fA, hA2⟩ := hA.2
      obtain rfl := fA rfl
      refine hK a' W' ⟨hb.size, fun k o _ h _ => (hb.block k (Array.getElem?_eq_some_iff.1 h).1).trans h⟩ ⟨hb.block g (by have := lt hhg; omega), hb.block gB (by have := lt hhB; omega)⟩ ⟨⟨hi.1.base.trans (hb.mono (Nat.zero_le _)), fun k hn => ?_⟩, ?_⟩ ⟨gA, hs', by omega, hA2⟩
      · have hlt : k < w1.heap.size := Nat.lt_of_not_le fun h => hn (.inl h)
        exact (hb.block k (by omega)).trans (hi.1.block k hn)
      · exact (hb.block g5 (by have := lt hh5; omega)).trans hi.2
  case body =>
    rintro l pre q a' W hl hrec ⟨hk, h5⟩ ⟨gA, hsA, hgA, hA⟩ hlen
    have h3 : W.heap[g3]? = some (.cells (cel x).toArray 26 (0, 0)) := by
      rw [hk.block g3 (fun h => by
        rcases h with h | h
        · exact absurd (lt hh3) (Nat.not_lt.2 h)
        · exact n53 h.symm)]
      exact hh3
    have l5 := lt hh5
    have l3 := lt hh3
    refine wpIn_block (wpIn_mono (draw_in (β := ⟨fun k => k = g5, W⟩) (H := [⟨g5, cel (pre.foldl (hstep x) t), 26, false⟩, ⟨gA, cel q.2, 26, true⟩, ⟨g3, cel x, 26, true⟩])
      (Q := fun e E H => e = .normal ∧ H = [⟨g5, cel (hstep x (pre.foldl (hstep x) t) q), 26, false⟩, ⟨gA, cel q.2, 26, true⟩, ⟨g3, cel x, 26, true⟩])
      l _ [0, 1, 2, 3, 4] [5] _ (by kernel_rfl) (fun E H h => by cases h.1) (by kernel_rfl) follows rfl ?_ ⟨Nat.le_refl _, ?_, ?_⟩ (Keeps.refl _ _) hsA) ?_)
    · generalize hout : pre.foldl (hstep x) t = out
      have f3 : (((E1.put (some 28) (.int .i64 (q.1 : Int))).put (some 29) q.2.v).put (some 7) (.pointer (some ⟨gA, 0, none⟩))) 3 = .pointer (some ⟨g3, 0, none⟩) := e3
      have f5 : (((E1.put (some 28) (.int .i64 (q.1 : Int))).put (some 29) q.2.v).put (some 7) (.pointer (some ⟨gA, 0, none⟩))) 5 = .pointer (some ⟨g5, 0, none⟩) := e5
      have f7 : (((E1.put (some 28) (.int .i64 (q.1 : Int))).put (some 29) q.2.v).put (some 7) (.pointer (some ⟨gA, 0, none⟩))) 7 = .pointer (some ⟨gA, 0, none⟩) := rfl
      generalize (((E1.put (some 28) (.int .i64 (q.1 : Int))).put (some 29) q.2.v).put (some 7) (.pointer (some ⟨gA, 0, none⟩))) = E2 at f3 f5 f7
      obtain ⟨E0, rfl⟩ := env3 f3 f5 f7
      refine dw_op (d := some 30) out.v rfl rfl rfl (st_lda (g := g5) (off := 0) (vs := cel out) agg26 0 rfl rfl rfl rfl rfl rfl ⟨rfl, rfl⟩) ?_
      refine dw_op (d := some 31) x.v rfl rfl rfl (st_lda (g := g3) (off := 0) (vs := cel x) agg26 2 rfl rfl rfl rfl rfl rfl ⟨rfl, rfl⟩) ?_
      refine dw_op (d := some 32) (ivMul out x).v rfl rfl rfl (st_cf (vs := [out.v, x.v]) (r := (ivMul out x).v) (c_ivMul out x) Try.func68 rfl (by decide) rfl rfl rfl ⟨rfl, rfl⟩) ?_
      refine dw_op (d := some 33) q.2.v rfl rfl rfl (st_lda (g := gA) (off := 0) (vs := cel q.2) agg26 1 rfl rfl rfl rfl rfl rfl ⟨rfl, rfl⟩) ?_
      refine dw_op (d := some 34) (ivAdd (ivMul out x) q.2).v rfl rfl rfl (st_cf (vs := [(ivMul out x).v, q.2.v]) (r := (ivAdd (ivMul out x) q.2).v) (c_ivAdd (ivMul out x) q.2) Try.func67 rfl (by decide) rfl rfl rfl ⟨rfl, rfl⟩) ?_
      refine dw_nil ?_
      refine ar_op (d := none) rfl rfl (st_sta (g := g5) (off := 0) (us := cel (ivAdd (ivMul out x) q.2)) (cs := cel (ivAdd (ivMul out x) q.2)) agg26 0 rfl rfl rfl rfl rfl rfl rfl rfl rfl ?_)
      exact ar_nil ⟨rfl, rfl⟩
    · intro b hb
      simp only [List.mem_cons, List.not_mem_nil, or_false] at hb
      rcases hb with rfl | rfl | rfl
      · exact ⟨.inr (.inr rfl), _, fun _ => rfl, h5⟩
      · exact ⟨.inl rfl, _, fun _ => rfl, hA⟩
      · exact ⟨.inl rfl, _, fun _ => rfl, h3⟩
    · have a1 : g5 ≠ gA := by omega
      have a2 : gA ≠ g3 := by omega
      simp [a1, a2, n53]
    · rintro e a2 W' ⟨E, H, ⟨rfl, rfl⟩, hs', hO', hB'⟩
      have hsz : w1.heap.size ≤ W.heap.size := hk.size
      have keep : ∀ k, k < W.heap.size → k ≠ g5 → W'.heap[k]? = W.heap[k]? := fun k hk hne => hB'.block k (fun h => by
        rcases h with h | h
        · exact absurd hk (Nat.not_lt.2 h)
        · exact hne h)
      obtain ⟨fr', f', h5'⟩ := (hO'.at_ _ (List.mem_cons_self ..)).2
      obtain rfl := f' rfl
      refine ⟨⟨hB'.size, fun k o hk1 h _ => (keep k (Array.getElem?_eq_some_iff.1 h).1 (by omega)).trans h⟩, ⟨keep g (by have := lt hhg; omega) (Ne.symm n5g), keep gB (by have := lt hhB; omega) nB5⟩, ⟨hk.base.trans hB'.base, fun k hn => ?_⟩, ?_⟩
      · have hlt : k < w1.heap.size := Nat.lt_of_not_le fun h => hn (.inl h)
        exact (keep k (by omega) (fun h => hn (.inr h))).trans (hk.block k hn)
      · rw [List.foldl_append]
        exact h5'
  case done =>
    rintro D xs W hD rfl ⟨hk, h5⟩ hKD
    generalize hout : (upto zs zs.length).foldl (hstep x) t = out at h5
    have hres : hfold x o (upto zs zs.length) = out := by rw [hfold, ← ht, hout]
    have l5 := lt hh5
    have l4 := lt hh4
    have h4 : W.heap[g4]? = some (.cells (#[.int .i64 0, .int .i64 0, .bool false] : Array Value) 26 (0, 0)) := by
      rw [hk.block g4 (fun h => by
        rcases h with h | h
        · exact absurd (lt hh4) (Nat.not_lt.2 h)
        · exact n54 h.symm)]
      exact hh4
    have hsz : w1.heap.size ≤ W.heap.size := hk.size
    refine wp_seq (wp_region_list ?_)
    have ev1 : ({ a with defers := { target := .collected D, args := #[] } :: a.defers } : Act).eval = ev 36 E1 := hs.eval
    obtain ⟨E0, rfl⟩ : ∃ E0 : Env, E1 = (E0.put (some 4) (.pointer (some ⟨g4, 0, none⟩))).put (some 5) (.pointer (some ⟨g5, 0, none⟩)) := ⟨E1, by rw [put_self e4, put_self e5]⟩
    refine wpList_go rfl (Step.wpA (β := ⟨fun k => k = g4, W⟩) (H := [⟨g4, [.int .i64 0, .int .i64 0, .bool false], 26, false⟩, ⟨g5, cel out, 26, true⟩]) (K := fun v H => v = out.v ∧ H = [⟨g4, [.int .i64 0, .int .i64 0, .bool false], 26, false⟩, ⟨g5, cel out, 26, true⟩])
      (st_lda (g := g5) (off := 0) (vs := cel out) agg26 1 rfl rfl rfl rfl rfl rfl ⟨rfl, rfl⟩) ev1 ⟨Nat.le_refl _, ?_, by simp [Ne.symm n54]⟩ (Keeps.refl _ _) ?_)
    · intro b hb
      simp only [List.mem_cons, List.not_mem_nil, or_false] at hb
      rcases hb with rfl | rfl
      · exact ⟨.inr (.inr rfl), _, fun _ => rfl, h4⟩
      · exact ⟨.inl rfl, _, fun _ => rfl, h5⟩
    · rintro _ _ W2 ⟨rfl, rfl⟩ hO2 hB2
      have hs2 : Sees 36 _ (a.put (some 35) out.v) := hs.put (some 35) out.v
      refine wpList_go rfl (Step.wpA (K := fun v H => H = [⟨g4, cel out, 26, false⟩, ⟨g5, cel out, 26, true⟩]) (st_sta (g := g4) (off := 0) (us := cel out) (cs := cel out) agg26 0 rfl rfl rfl rfl rfl rfl rfl rfl rfl rfl) hs2.eval hO2 hB2 ?_)
      rintro v _ W3 rfl hO3 hB3
      obtain ⟨fr', f', h43⟩ := (hO3.at_ _ (List.mem_cons_self ..)).2
      obtain rfl := f' rfl
      have keep : ∀ k, k < W.heap.size → k ≠ g4 → W3.heap[k]? = W.heap[k]? := fun k hk hne => hB3.block k (fun h => by
        rcases h with h | h
        · exact absurd hk (Nat.not_lt.2 h)
        · exact hne h)
      have hD3 : W3.heap[D]? = some (.deferred (some [])) := (keep D (Array.getElem?_eq_some_iff.1 hKD).1 (by omega)).trans hKD
      refine wp_ret ⟨by simp, .inl ⟨D, _, rfl, run_takeDeferred hD3, ?_⟩⟩
      show LeavesInM _ _ _ _ _ _ a.defers _ _
      rw [hs.defers]
      have hcell : (W3.putObj D (.deferred none)).heap[g4]? = some (.cells (cel out).toArray 26 (0, 0)) := (World.putObj_heap_other (by omega)).trans h43
      have hp : (a.put (some 35) out.v).tmps.getD 4 undef = .pointer (some ⟨g4, 0, none⟩) := by
        have := see_ptr (t := 4) hs2 rfl
        simpa using this
      obtain ⟨d, u1, u2, u3⟩ := agg26.out
      refine ⟨out.v, results_cell_row (p := 4) (ty := 26) rfl _ _ g4 26 (cel out).toArray (0, 0) d hp hcell u1 (by cases d <;> first | rfl | cases u2) u3, out.v, [], rfl, ⟨by rw [hres], rfl⟩, ⟨?_, by simp, by simp⟩, by simp, ?_⟩
      · simp only [World.putObj_size]
        have := hB3.size
        have := bel.size
        exact Nat.le_trans (Nat.le_trans bel.size hsz) hB3.size
      · have b1 : Below w.heap.size w W := bel.trans ⟨hk.base.os, hk.base.tape, hk.base.output, hk.base.size, fun k hkl => hk.block k (fun h => by
          rcases h with h | h
          · have h2 : w1.heap.size ≤ k := h
            have := bel.size; omega
          · have h' : k = g5 := h
            omega)⟩
        have b2 : Below w.heap.size W W3 := ⟨hB3.base.os, hB3.base.tape, hB3.base.output, hB3.base.size, fun k hkl => keep k (by have := bel.size; omega) (by omega)⟩
        refine (b1.trans b2).trans ⟨rfl, rfl, rfl, by simp, fun k hkl => World.putObj_heap_other (by have := bel.size; omega)⟩
def hornerN : Iv → List Iv → Iv → Iv
  | a, [], _ => htop a
  | a, b :: l, x => ivAdd (ivMul (hornerN b l x) x) a
def horner : List Iv → Iv → Iv
  | [], _ => ivPoint 0
  | a :: l, x => hornerN a l x
theorem upto_snd (zs : List Iv) : ∀ k, k ≤ zs.length → (upto zs k).map (·.2) = zs.reverse.take k := by
  intro k
  induction k with
  | zero => intro _; rfl
  | succ k ih =>
    intro hk
    have h2 : k < zs.reverse.length := by simp; omega
    rw [upto_succ, List.map_append, ih (by omega), List.take_add_one, List.getElem?_eq_getElem h2]
    have h3 : zs.length - 1 - k < zs.length := by omega
    simp [bk, List.getElem?_eq_getElem h3]
theorem foldl_snd (x : Iv) : ∀ (l : List (Nat × Iv)) (o : Iv), l.foldl (hstep x) o = (l.map (·.2)).foldl (fun out a => ivAdd (ivMul out x) a) o := by
  intro l
  induction l with
  | nil => intro o; rfl
  | cons q l ih => intro o; exact ih _
theorem hornerN_snoc (x o : Iv) : ∀ (zs : List Iv), horner (zs ++ [o]) x = zs.foldr (fun a out => ivAdd (ivMul out x) a) (htop o) := by
  intro zs
  induction zs with
  | nil => rfl
  | cons z zs ih =>
    cases zs with
    | nil => rfl
    | cons y ys =>
      rw [List.foldr_cons, ← ih]
      rfl
theorem hfold_eq (zs : List Iv) (x o : Iv) : hfold x o (upto zs zs.length) = horner (zs ++ [o]) x := by
  rw [hornerN_snoc, hfold, foldl_snd, upto_snd zs _ (Nat.le_refl _), List.take_of_length_le (by simp), List.foldl_reverse]
theorem c_horner (a : Iv) (l : List Iv) (cap g : Nat) (rest : List Value) (x : Iv) (hcap : l.length + 1 ≤ cap) (hreach : l.length * 24 ≤ 140737488351232) :
    Gives Try.prog 22 #[.slice (some ⟨g, 0, none⟩) (l.length + 1) cap, x.v] [⟨g, flat (a :: l) ++ rest, 26, true⟩] (fun u N => u = (horner (a :: l) x).v ∧ N = []) := by
  have e : (a :: l).dropLast ++ [(a :: l).getLast (by simp)] = a :: l := List.dropLast_concat_getLast _
  have hlen : (a :: l).dropLast.length = l.length := by simp
  have h := horner0 (a :: l).dropLast ((a :: l).getLast (by simp)) x g cap rest (by rw [hlen]; exact hcap) (by rw [hlen]; exact hreach)
  rw [hfold_eq, e, hlen] at h
  exact h
end Go.Proofs.Ythngkopcadlciaa
namespace Go.Proofs.Ythngkopcadlciaa
open Go.RowKit
attribute [local irreducible] AC AR DWalk
set_option maxRecDepth 100000 in
theorem c_slope4 (x0 : Iv) (x1 : Iv) (x2 : Iv) (x3 : Iv) (cap g : Nat) (rest : List Value) : Gives Try.prog 27 #[.slice (some ⟨g, 0, none⟩) 4 cap] [⟨g, [.int .i64 x0.lo, .int .i64 x0.hi, .bool x0.no, .int .i64 x1.lo, .int .i64 x1.hi, .bool x1.no, .int .i64 x2.lo, .int .i64 x2.hi, .bool x2.no, .int .i64 x3.lo, .int .i64 x3.hi, .bool x3.no] ++ rest, 26, true⟩] (Row 26 3 3 [.int .i64 ((ivTimes x1 1).lo), .int .i64 ((ivTimes x1 1).hi), .bool ((ivTimes x1 1).no), .int .i64 ((ivTimes x2 2).lo), .int .i64 ((ivTimes x2 2).hi), .bool ((ivTimes x2 2).no), .int .i64 ((ivTimes x3 3).lo), .int .i64 ((ivTimes x3 3).hi), .bool ((ivTimes x3 3).no)]) := by
 refine gives_fin Try.func27 rfl rfl rfl rfl (aQ (aL (aA 2 (.slice none 0 0) rfl rfl (aN (aQ (aL (aA 3 (.slice none 0 0) rfl rfl (aN (aQ (aQ (aL (aM 6 (.slice (some ⟨g, 0, none⟩) 4 cap) rfl rfl (ao 7 rfl rfl (st_ln (a := some ⟨g, 0, none⟩) (m := 4) (c := cap) rfl Try.underlying24 rfl (aM 8 (.int .i64 0) rfl rfl (aN (ac_block ?_)))))))))))))))))
 refine ac_rounds 61 (ar_round (aQ (aL (aB 9 (.bool true) rfl rfl rfl (bi_lss (by decide)) (aN (aQ (ac_then rfl (ac_skip (aQ (ac_block (aQ (aL (aM 10 (.int .i64 0) rfl rfl (ao 11 rfl rfl (st_sa (g := g) (off := 0) (m := 4) (c := cap) (s := 3) (i := 0) rfl Try.underlying24 (by kernel_rfl) rfl rfl (by decide) (aG 12 [.int .i64 x0.lo, .int .i64 x0.hi, .bool x0.no] agg26 0 rfl rfl rfl rfl rfl (ao 5 rfl rfl (st_new zero26 rfl fun g0 => (aA 4 (.int .i64 0) rfl rfl (aS [.int .i64 x0.lo, .int .i64 x0.hi, .bool x0.no] agg26 0 rfl rfl rfl rfl rfl rfl (aN (aQ (aL (aM 13 (.int .i64 0) rfl rfl (aB 14 (.bool false) rfl rfl rfl (bi_gtr (by decide)) (aN (ac_else rfl ?_)))))))))))))))))))))))))))
 refine ac_skip (aL (aB 21 (.int .i64 1) rfl rfl rfl (bi_add (by decide)) (aM 8 (.int .i64 1) rfl rfl (aN (ar_round (aQ (aL (aB 9 (.bool true) rfl rfl rfl (bi_lss (by decide)) (aN (aQ (ac_then rfl (ac_skip (aQ (ac_block (aQ (aL (aM 10 (.int .i64 1) rfl rfl (ao 11 rfl rfl (st_sa (g := g) (off := 0) (m := 4) (c := cap) (s := 3) (i := 1) rfl Try.underlying24 (by kernel_rfl) rfl rfl (by decide) (aG 12 [.int .i64 x1.lo, .int .i64 x1.hi, .bool x1.no] agg26 1 rfl rfl rfl rfl rfl (ao 5 rfl rfl (st_new zero26 rfl fun g1 => (aA 4 (.int .i64 1) rfl rfl (aS [.int .i64 x1.lo, .int .i64 x1.hi, .bool x1.no] agg26 0 rfl rfl rfl rfl rfl rfl (aN (aQ (aL ?_)))))))))))))))))))))))))))
 refine aM 13 (.int .i64 1) rfl rfl (aB 14 (.bool true) rfl rfl rfl (bi_gtr (by decide)) (aN (ac_then rfl (aL (aM 15 (.slice none 0 0) rfl rfl (aG 16 [.int .i64 x1.lo, .int .i64 x1.hi, .bool x1.no] agg26 0 rfl rfl rfl rfl rfl (aM 17 (.int .i64 1) rfl rfl (aC 18 (c_ivTimes x1 1) Try.func31 ⟨rfl, by decide⟩ rfl rfl (ao 19 rfl rfl (st_bs (us := [(0, .agg #[.int .i64 ((ivTimes x1 1).lo), .int .i64 ((ivTimes x1 1).hi), .bool ((ivTimes x1 1).no)])]) (cs := [.int .i64 ((ivTimes x1 1).lo), .int .i64 ((ivTimes x1 1).hi), .bool ((ivTimes x1 1).no)]) rfl rfl (bs24_1_0a _ _ _) fun g2 => ?_))))))))))
 refine ao 20 rfl rfl (st_app (A := [⟨g2, [.int .i64 ((ivTimes x1 1).lo), .int .i64 ((ivTimes x1 1).hi), .bool ((ivTimes x1 1).no)], 26, false⟩, ⟨g1, [.int .i64 x1.lo, .int .i64 x1.hi, .bool x1.no], 26, false⟩, ⟨g0, [.int .i64 x0.lo, .int .i64 x0.hi, .bool x0.no], 26, false⟩, ⟨g, [.int .i64 x0.lo, .int .i64 x0.hi, .bool x0.no, .int .i64 x1.lo, .int .i64 x1.hi, .bool x1.no, .int .i64 x2.lo, .int .i64 x2.hi, .bool x2.no, .int .i64 x3.lo, .int .i64 x3.hi, .bool x3.no] ++ rest, 26, true⟩]) (N := []) (B := []) (bt := ⟨g2, [.int .i64 ((ivTimes x1 1).lo), .int .i64 ((ivTimes x1 1).hi), .bool ((ivTimes x1 1).no)], 26, false⟩) (xs := []) (news := [.int .i64 ((ivTimes x1 1).lo), .int .i64 ((ivTimes x1 1).hi), .bool ((ivTimes x1 1).no)]) (r := []) slT24 rfl rfl rfl (Row.nil _ _) rfl (List.mem_of_getElem? (i := 0) rfl) rfl rfl rfl rfl (by decide) (by decide) (by decide) fun v9 N9 R9 => ?_)
 obtain ⟨g3, cg3, rg3, rfl, rfl, fg3⟩ := R9.pos (by decide)
 refine aA 3 (.slice (some ⟨g3, 0, none⟩) 1 cg3) rfl rfl (aN (aL (aB 21 (.int .i64 2) rfl rfl rfl (bi_add (by decide)) (aM 8 (.int .i64 2) rfl rfl (aN (ar_round (aQ (aL (aB 9 (.bool true) rfl rfl rfl (bi_lss (by decide)) (aN (aQ (ac_then rfl (ac_skip (aQ (ac_block (aQ (aL (aM 10 (.int .i64 2) rfl rfl (ao 11 rfl rfl (st_sa (g := g) (off := 0) (m := 4) (c := cap) (s := 3) (i := 2) rfl Try.underlying24 (by kernel_rfl) rfl rfl (by decide) (aG 12 [.int .i64 x2.lo, .int .i64 x2.hi, .bool x2.no] agg26 4 rfl rfl rfl rfl rfl (ao 5 rfl rfl (st_new zero26 rfl fun g4 => (aA 4 (.int .i64 2) rfl rfl ?_))))))))))))))))))))))))
 refine aS [.int .i64 x2.lo, .int .i64 x2.hi, .bool x2.no] agg26 0 rfl rfl rfl rfl rfl rfl (aN (aQ (aL (aM 13 (.int .i64 2) rfl rfl (aB 14 (.bool true) rfl rfl rfl (bi_gtr (by decide)) (aN (ac_then rfl (aL (aM 15 (.slice (some ⟨g3, 0, none⟩) 1 cg3) rfl rfl (aG 16 [.int .i64 x2.lo, .int .i64 x2.hi, .bool x2.no] agg26 0 rfl rfl rfl rfl rfl (aM 17 (.int .i64 2) rfl rfl (aC 18 (c_ivTimes x2 2) Try.func31 ⟨rfl, by decide⟩ rfl rfl ?_))))))))))))
 refine ao 19 rfl rfl (st_bs (us := [(0, .agg #[.int .i64 ((ivTimes x2 2).lo), .int .i64 ((ivTimes x2 2).hi), .bool ((ivTimes x2 2).no)])]) (cs := [.int .i64 ((ivTimes x2 2).lo), .int .i64 ((ivTimes x2 2).hi), .bool ((ivTimes x2 2).no)]) rfl rfl (bs24_1_0a _ _ _) fun g5 => ?_)
 refine ao 20 rfl rfl (st_app (A := [⟨g5, [.int .i64 ((ivTimes x2 2).lo), .int .i64 ((ivTimes x2 2).hi), .bool ((ivTimes x2 2).no)], 26, false⟩, ⟨g4, [.int .i64 x2.lo, .int .i64 x2.hi, .bool x2.no], 26, false⟩]) (N := [⟨g3, [.int .i64 ((ivTimes x1 1).lo), .int .i64 ((ivTimes x1 1).hi), .bool ((ivTimes x1 1).no)] ++ rg3, 26, false⟩]) (B := [⟨g2, [.int .i64 ((ivTimes x1 1).lo), .int .i64 ((ivTimes x1 1).hi), .bool ((ivTimes x1 1).no)], 26, false⟩, ⟨g1, [.int .i64 x1.lo, .int .i64 x1.hi, .bool x1.no], 26, false⟩, ⟨g0, [.int .i64 x0.lo, .int .i64 x0.hi, .bool x0.no], 26, false⟩, ⟨g, [.int .i64 x0.lo, .int .i64 x0.hi, .bool x0.no, .int .i64 x1.lo, .int .i64 x1.hi, .bool x1.no, .int .i64 x2.lo, .int .i64 x2.hi, .bool x2.no, .int .i64 x3.lo, .int .i64 x3.hi, .bool x3.no] ++ rest, 26, true⟩]) (bt := ⟨g5, [.int .i64 ((ivTimes x2 2).lo), .int .i64 ((ivTimes x2 2).hi), .bool ((ivTimes x2 2).no)], 26, false⟩) (xs := [.int .i64 ((ivTimes x1 1).lo), .int .i64 ((ivTimes x1 1).hi), .bool ((ivTimes x1 1).no)]) (news := [.int .i64 ((ivTimes x2 2).lo), .int .i64 ((ivTimes x2 2).hi), .bool ((ivTimes x2 2).no)]) (r := []) slT24 rfl rfl rfl (Row.mk (rest := rg3) fg3) rfl (List.mem_of_getElem? (i := 0) rfl) rfl rfl rfl rfl (by decide) (by decide) (by decide) fun v9 N9 R9 => ?_)
 obtain ⟨g6, cg6, rg6, rfl, rfl, fg6⟩ := R9.pos (by decide)
 refine aA 3 (.slice (some ⟨g6, 0, none⟩) 2 cg6) rfl rfl (aN (aL (aB 21 (.int .i64 3) rfl rfl rfl (bi_add (by decide)) (aM 8 (.int .i64 3) rfl rfl (aN (ar_round (aQ (aL (aB 9 (.bool true) rfl rfl rfl (bi_lss (by decide)) (aN (aQ (ac_then rfl (ac_skip (aQ (ac_block (aQ (aL (aM 10 (.int .i64 3) rfl rfl (ao 11 rfl rfl (st_sa (g := g) (off := 0) (m := 4) (c := cap) (s := 3) (i := 3) rfl Try.underlying24 (by kernel_rfl) rfl rfl (by decide) (aG 12 [.int .i64 x3.lo, .int .i64 x3.hi, .bool x3.no] agg26 6 rfl rfl rfl rfl rfl (ao 5 rfl rfl (st_new zero26 rfl fun g7 => (aA 4 (.int .i64 3) rfl rfl ?_))))))))))))))))))))))))
 refine aS [.int .i64 x3.lo, .int .i64 x3.hi, .bool x3.no] agg26 0 rfl rfl rfl rfl rfl rfl (aN (aQ (aL (aM 13 (.int .i64 3) rfl rfl (aB 14 (.bool true) rfl rfl rfl (bi_gtr (by decide)) (aN (ac_then rfl (aL (aM 15 (.slice (some ⟨g6, 0, none⟩) 2 cg6) rfl rfl (aG 16 [.int .i64 x3.lo, .int .i64 x3.hi, .bool x3.no] agg26 0 rfl rfl rfl rfl rfl (aM 17 (.int .i64 3) rfl rfl (aC 18 (c_ivTimes x3 3) Try.func31 ⟨rfl, by decide⟩ rfl rfl ?_))))))))))))
 refine ao 19 rfl rfl (st_bs (us := [(0, .agg #[.int .i64 ((ivTimes x3 3).lo), .int .i64 ((ivTimes x3 3).hi), .bool ((ivTimes x3 3).no)])]) (cs := [.int .i64 ((ivTimes x3 3).lo), .int .i64 ((ivTimes x3 3).hi), .bool ((ivTimes x3 3).no)]) rfl rfl (bs24_1_0a _ _ _) fun g8 => ?_)
 refine ao 20 rfl rfl (st_app (A := [⟨g8, [.int .i64 ((ivTimes x3 3).lo), .int .i64 ((ivTimes x3 3).hi), .bool ((ivTimes x3 3).no)], 26, false⟩, ⟨g7, [.int .i64 x3.lo, .int .i64 x3.hi, .bool x3.no], 26, false⟩]) (N := [⟨g6, [.int .i64 ((ivTimes x1 1).lo), .int .i64 ((ivTimes x1 1).hi), .bool ((ivTimes x1 1).no), .int .i64 ((ivTimes x2 2).lo), .int .i64 ((ivTimes x2 2).hi), .bool ((ivTimes x2 2).no)] ++ rg6, 26, false⟩]) (B := [⟨g5, [.int .i64 ((ivTimes x2 2).lo), .int .i64 ((ivTimes x2 2).hi), .bool ((ivTimes x2 2).no)], 26, false⟩, ⟨g4, [.int .i64 x2.lo, .int .i64 x2.hi, .bool x2.no], 26, false⟩, ⟨g2, [.int .i64 ((ivTimes x1 1).lo), .int .i64 ((ivTimes x1 1).hi), .bool ((ivTimes x1 1).no)], 26, false⟩, ⟨g1, [.int .i64 x1.lo, .int .i64 x1.hi, .bool x1.no], 26, false⟩, ⟨g0, [.int .i64 x0.lo, .int .i64 x0.hi, .bool x0.no], 26, false⟩, ⟨g, [.int .i64 x0.lo, .int .i64 x0.hi, .bool x0.no, .int .i64 x1.lo, .int .i64 x1.hi, .bool x1.no, .int .i64 x2.lo, .int .i64 x2.hi, .bool x2.no, .int .i64 x3.lo, .int .i64 x3.hi, .bool x3.no] ++ rest, 26, true⟩]) (bt := ⟨g8, [.int .i64 ((ivTimes x3 3).lo), .int .i64 ((ivTimes x3 3).hi), .bool ((ivTimes x3 3).no)], 26, false⟩) (xs := [.int .i64 ((ivTimes x1 1).lo), .int .i64 ((ivTimes x1 1).hi), .bool ((ivTimes x1 1).no), .int .i64 ((ivTimes x2 2).lo), .int .i64 ((ivTimes x2 2).hi), .bool ((ivTimes x2 2).no)]) (news := [.int .i64 ((ivTimes x3 3).lo), .int .i64 ((ivTimes x3 3).hi), .bool ((ivTimes x3 3).no)]) (r := []) slT24 rfl rfl rfl (Row.mk (rest := rg6) fg6) rfl (List.mem_of_getElem? (i := 0) rfl) rfl rfl rfl rfl (by decide) (by decide) (by decide) fun v9 N9 R9 => ?_)
 obtain ⟨g9, cg9, rg9, rfl, rfl, fg9⟩ := R9.pos (by decide)
 refine aA 3 (.slice (some ⟨g9, 0, none⟩) 3 cg9) rfl rfl (aN (aL (aB 21 (.int .i64 4) rfl rfl rfl (bi_add (by decide)) (aM 8 (.int .i64 4) rfl rfl (aN (ar_round (aQ (aL (aB 9 (.bool false) rfl rfl rfl (bi_lss (by decide)) (aN (aQ (ac_else rfl (ac_exit (aQ (aL (aM 22 (.slice (some ⟨g9, 0, none⟩) 3 cg9) rfl rfl (aA 2 (.slice (some ⟨g9, 0, none⟩) 3 cg9) rfl rfl (aN (ac_ret ?_)))))))))))))))))))
 exact fing_ret (N := [⟨g9, [.int .i64 ((ivTimes x1 1).lo), .int .i64 ((ivTimes x1 1).hi), .bool ((ivTimes x1 1).no), .int .i64 ((ivTimes x2 2).lo), .int .i64 ((ivTimes x2 2).hi), .bool ((ivTimes x2 2).no), .int .i64 ((ivTimes x3 3).lo), .int .i64 ((ivTimes x3 3).hi), .bool ((ivTimes x3 3).no)] ++ rg9, 26, false⟩]) (Row.mk fg9) (List.Sublist.cons_cons _ (List.nil_sublist _)) rfl (res_tmp rfl rfl)
end Go.Proofs.Ythngkopcadlciaa
