import Derived.Test.YtalffjplbhelcaaDoorMDecBack1
import Derived.Lib.OthersKept
import Derived.Laws.MakeOwn
import Derived.Laws.IdiomStrings
set_option linter.unusedVariables false
set_option linter.unusedSimpArgs false
namespace Go.Proofs.YtalffjplbhelcaaDoor
open Go.RowKit
structure It (β : Base) (k : Nat) (s : ByteArray) (pos : Nat) (w : World) : Prop where
  at_ : w.heap[k]? = some (.stringIter s pos)
  may : β.may k
def AIQ (n : Nat) (β : Base) (k : Nat) (s : ByteArray) (Q : Exit → Nat → Env → List Box → Prop) : Exit → Act → World → Prop :=
  fun e a w => ∃ E H q, Q e q E H ∧ Sees n E a ∧ Own β H w ∧ Keeps β w ∧ It β k s q w
def AIC (p : Program) (n : Nat) (c : Code) (k : Nat) (s : ByteArray) (pos : Nat) (Q : Exit → Nat → Env → List Box → Prop) (E : Env) (H : List Box) : Prop :=
  ∀ β w a, Own β H w → Keeps β w → Sees n E a → It β k s pos w → c.wp p (AIQ n β k s Q) a w
def nowB (H : List Box) (w : World) : Base := ⟨fun g => ∃ b ∈ H, b.ro = false ∧ b.g = g, w⟩
section
variable {p : Program} {n : Nat} {E : Env} {H H' : List Box} {k pos : Nat} {s : ByteArray} {β : Base} {w w' : World}
theorem Own.now (hO : Own β H w) : Own (nowB H w) H w :=
  ⟨Nat.le_refl _, fun b hb => ⟨by cases hr : b.ro with
    | true => exact .inl rfl
    | false => exact .inr (.inr ⟨b, hb, hr, rfl⟩), (hO.at_ b hb).2⟩, hO.apart⟩
theorem now_may (hO : Own β H w) {g : Nat} (h : (nowB H w).may g) : β.may g := by
  rcases h with h1 | ⟨b, hb, hr, rfl⟩
  · exact .inl (Nat.le_trans hO.size h1)
  · exact (hO.at_ b hb).1.resolve_left (by rw [hr]; exact Bool.false_ne_true)
theorem It.off (hI : It β k s pos w) (hO : Own β H w) {b : Box} (hb : b ∈ H) : b.g ≠ k := by
  rintro rfl
  obtain ⟨_, fr, _, hh⟩ := hO.at_ b hb
  rw [hI.at_] at hh
  cases hh
theorem It.notnow (hI : It β k s pos w) (hO : Own β H w) : ¬ (nowB H w).may k := by
  rintro (h1 | ⟨b, hb, _, e⟩)
  · have h2 := (Array.getElem?_eq_some_iff.1 hI.at_).1
    exact absurd h2 (Nat.not_lt.2 h1)
  · exact hI.off hO hb e
theorem It.back (hI : It β k s pos w) (hO : Own β H w) (hB : Keeps β w) (hO2 : Own (nowB H w) H' w') (hK : Keeps (nowB H w) w') : Own β H' w' ∧ Keeps β w' ∧ It β k s pos w' :=
  ⟨⟨Nat.le_trans hO.size hK.size, fun b hb => ⟨(hO2.at_ b hb).1.imp id (now_may hO), (hO2.at_ b hb).2⟩, hO2.apart⟩,
    ⟨hB.base.trans hK.base, fun g hg => by rw [hK.block g (fun h => hg (now_may hO h))]; exact hB.block g hg⟩,
    ⟨by rw [hK.block k (hI.notnow hO)]; exact hI.at_, hI.may⟩⟩
theorem ai_of {c : Code} {Q : Exit → Env → List Box → Prop} (h : AC p n c Q E H) : AIC p n c k s pos (fun e q E H => q = pos ∧ Q e E H) E H := by
  intro β w a hO hB hs hI
  refine Code.wp_mono ?_ (h (nowB H w) w a hO.now (Keeps.refl _ _) hs)
  rintro e a' w' ⟨E', H', q, hs', hO2, hK⟩
  obtain ⟨x, y, z⟩ := hI.back hO hB hO2 hK
  exact ⟨E', H', pos, ⟨rfl, q⟩, hs', x, y, z⟩
theorem AIC.mono {c : Code} {Q Q' : Exit → Nat → Env → List Box → Prop} (h : AIC p n c k s pos Q E H) (hq : ∀ e q E H, Q e q E H → Q' e q E H) : AIC p n c k s pos Q' E H :=
  fun β w a hO hB hs hI => Code.wp_mono (fun e a w ⟨E, H, q, x, r⟩ => ⟨E, H, q, hq _ _ _ _ x, r⟩) (h β w a hO hB hs hI)
def AIThen (next : Nat → Env → List Box → Prop) (Q : Exit → Nat → Env → List Box → Prop) : Exit → Nat → Env → List Box → Prop
  | .normal, q, E, H => next q E H
  | e, q, E, H => Q e q E H
theorem aic_seq {x y : Code} {Q : Exit → Nat → Env → List Box → Prop} (h : AIC p n x k s pos (AIThen (fun q E H => AIC p n y k s q Q E H) Q) E H) : AIC p n (.seq x y) k s pos Q E H := by
  intro β w a hO hB hs hI
  refine wp_seq (Code.wp_mono ?_ (h β w a hO hB hs hI))
  rintro e a w ⟨E', H', q, x, hs', hO', hB', hI'⟩
  cases e <;> first | exact ⟨E', H', q, x, hs', hO', hB', hI'⟩ | exact x β w a hO' hB' hs' hI'
def AIBlock (id : Nat) (Q : Exit → Nat → Env → List Box → Prop) : Exit → Nat → Env → List Box → Prop
  | .exit id', q, E, H => if id' = id then Q .normal q E H else Q (.exit id') q E H
  | e, q, E, H => Q e q E H
theorem aic_block {id : Nat} {c : Code} {Q : Exit → Nat → Env → List Box → Prop} (h : AIC p n c k s pos (AIBlock id Q) E H) : AIC p n (.block id c) k s pos Q E H := by
  intro β w a hO hB hs hI
  refine wp_block (Code.wp_mono ?_ (h β w a hO hB hs hI))
  rintro e a w ⟨E', H', q, x, r⟩
  cases e <;> first | exact ⟨E', H', q, x, r⟩ | skip
  case exit id' =>
    simp only [AIBlock] at x
    simp only [Exit.inBlock]
    split
    · rename_i hi; rw [if_pos hi] at x; exact ⟨E', H', q, x, r⟩
    · rename_i hi; rw [if_neg hi] at x; exact ⟨E', H', q, x, r⟩
def AIRounds (p : Program) (n : Nat) (c : Code) (k : Nat) (s : ByteArray) (Q : Exit → Nat → Env → List Box → Prop) : Nat → Nat → Env → List Box → Prop
  | 0, _, _, _ => False
  | j + 1, pos, E, H => AIC p n c k s pos (AIThen (fun q E H => AIRounds p n c k s Q j q E H) Q) E H
theorem aic_rounds {c : Code} {Q : Exit → Nat → Env → List Box → Prop} (j : Nat) (h : AIRounds p n c k s Q j pos E H) : AIC p n (.loop c) k s pos Q E H := by
  intro β w a hO hB hs hI
  refine wp_loop_rounds j ?_
  revert h hO hB hs hI
  induction j generalizing E H a w pos with
  | zero => intro h; exact h.elim
  | succ j ih =>
    intro h hO hB hs hI
    rw [rounds_succ]
    refine Code.wp_mono ?_ (h β w a hO hB hs hI)
    rintro e a w ⟨E', H', q, x, hs', hO', hB', hI'⟩
    cases e <;> first | exact ⟨E', H', q, x, hs', hO', hB', hI'⟩ | exact ih w a x hO' hB' hs' hI'
def ARI (p : Program) (n : Nat) (ops : Array Oper) (s : ByteArray) (R : Nat → Env → List Box → Prop) (l : List Oper) (E : Env) (H : List Box) : Prop :=
  ∀ β w a, Own β H w → Keeps β w → Sees n E a → wpList p ops (fun e a w => e = .normal ∧ ∃ k E H, R k E H ∧ Sees n E a ∧ Own β H w ∧ Keeps β w ∧ It β k s 0 w) l a w
variable {ops : Array Oper} {l : List Oper} {o : Oper} {R : Nat → Env → List Box → Prop}
theorem ari_plain (hg : o.guard = none) (h : Step p (ev n E) o H fun v H' => ARI p n ops s R l (E.put o.dst v) H') : ARI p n ops s R (o :: l) E H := by
  intro β w a hO hB hs
  unfold wpList
  rw [hs.yld, show yld n ops E o = true by unfold yld; rw [hg], if_pos rfl]
  exact .inl (h.wp hs hO hB fun v H' w' k hO' hB' => k β w' _ hO' hB' (hs.put _ _))
theorem ari_range {t : TypeId} {x : Operand} (hg : o.guard = none) (ho : o.op = .range t x) (hx : ev n E x = .string s) (ht : p.underlying t = some .string) (h : ∀ k, R k (E.put o.dst (.pointer (some ⟨k, 0, none⟩))) H) : ARI p n ops s R [o] E H := by
  intro β w a hO hB hs
  have e : (execOp (ev n E) o).run p w = .ok (.value (.pointer (some ⟨w.heap.size, 0, none⟩))) (w.iter s 0) := by
    rw [execOp, ho]
    simp only [hx]
    simp [Sem.run_bind, run_range_string w t s ht]
  unfold wpList
  rw [hs.yld, show yld n ops E o = true by unfold yld; rw [hg], if_pos rfl]
  refine .inl ?_
  unfold Oper.wp
  rw [hs.eval, e]
  exact ⟨rfl, w.heap.size, _, H, h _, hs.put _ _, hO.below ((Below.refl _ w).alloc (Nat.le_refl _) _), hB.alloc _, ⟨World.iter_heap w s 0, .inl hO.size⟩⟩
theorem ac_seq_range {id : Nat} {l : List Oper} {y : Code} {Q : Exit → Env → List Box → Prop} (h : ARI p n l.toArray s (fun k E' H' => AIC p n y k s 0 (fun e _ E H => Q e E H) E' H') l E H) : AC p n (.seq (.region id l.toArray false) y) Q E H := by
  intro β w a hO hB hs
  refine wp_seq (Code.wp_mono ?_ (wp_region_list (h β w a hO hB hs)))
  rintro e a w ⟨rfl, k, E', H', q, hs', hO', hB', hI'⟩
  exact Code.wp_mono (fun e a w ⟨E, H, q, x, s1, s2, s3, _⟩ => ⟨E, H, x, s1, s2, s3⟩) (q β w a hO' hB' hs' hI')
theorem Own.iterAt (hO : Own β H w) (hI : It β k s pos w) (q : Nat) : Own β H (w.iterAt k s q) :=
  ⟨by rw [Lib.iterAt_size]; exact hO.size, fun b hb => ⟨(hO.at_ b hb).1, by rw [Lib.iterAt_other _ _ _ _ _ (hI.off hO hb)]; exact (hO.at_ b hb).2⟩, hO.apart⟩
theorem Keeps.iterAt (hB : Keeps β w) (hI : It β k s pos w) (q : Nat) : Keeps β (w.iterAt k s q) :=
  ⟨Lib.below_iterAt hB.base (Nat.zero_le _) s q, fun g hg => by
    rw [Lib.iterAt_other _ _ _ _ _ (fun e => hg (by rw [e]; exact hI.may))]; exact hB.block g hg⟩
theorem wpl_mono {Q Q' : Exit → Act → World → Prop} (hq : ∀ e a w, Q e a w → Q' e a w) : ∀ (l : List Oper) (a : Act) (w : World), wpList p ops Q l a w → wpList p ops Q' l a w := by
  intro l
  induction l with
  | nil => intro a w h; exact hq _ _ _ h
  | cons o l ih =>
    intro a w hh
    unfold wpList at hh ⊢
    split
    · rename_i hw
      rw [if_pos hw] at hh
      rcases hh with hh | ⟨hh, a0, w0', q⟩
      · refine .inl ?_
        revert hh
        unfold Oper.wp
        cases (execOp a.eval o).run p w with
        | ok x w' =>
          cases x <;> simp only [Oper.upon] <;> intro hh <;>
            first
              | exact ih _ _ hh
              | exact Calls.mono hh (fun e w'' he => by
                  cases e
                  · exact ih _ _ he
                  · exact hq _ _ _ he
                  · obtain ⟨a0, w0', q⟩ := he; exact ⟨a0, w0', hq _ _ _ q⟩)
              | exact Rows.mono hh (fun _ _ he => ih _ _ he)
              | exact hh
        | halt x w' => cases x <;> simp only [Oper.upon] <;> intro hh <;> first | exact hh | exact hq _ _ _ hh
      · exact .inr ⟨hh, a0, w0', hq _ _ _ q⟩
    · rename_i hw
      rw [if_neg hw] at hh
      exact ih _ _ hh
theorem air_of {Q : Exit → Env → List Box → Prop} (h : AR p n ops Q l E H) (hO : Own β H w) (hB : Keeps β w) (hI : It β k s pos w) {a : Act} (hs : Sees n E a) : wpList p ops (AIQ n β k s (fun e q E H => q = pos ∧ Q e E H)) l a w := by
  refine wpl_mono ?_ _ _ _ (h (nowB H w) w a hO.now (Keeps.refl _ _) hs)
  rintro e a' w' ⟨E', H', q, hs', hO2, hK⟩
  obtain ⟨x, y, z⟩ := hI.back hO hB hO2 hK
  exact ⟨E', H', pos, ⟨rfl, q⟩, hs', x, y, z⟩
theorem ai_of' {c : Code} {Q : Exit → Nat → Env → List Box → Prop} (h : AC p n c (fun e E H => Q e pos E H) E H) : AIC p n c k s pos Q E H := (ai_of h).mono fun _ _ _ _ ⟨e, h⟩ => by rw [e]; exact h
theorem air_round {c : Code} {Q : Exit → Nat → Env → List Box → Prop} {j : Nat} (h : AIC p n c k s pos (AIThen (fun q E H => AIRounds p n c k s Q j q E H) Q) E H) : AIRounds p n c k s Q (j + 1) pos E H := h
theorem ari_op {d : Nat} (hd : o.dst = some d) (hg : o.guard = none) (h : Step p (ev n E) o H fun v H' => ARI p n ops s R l (E.put (some d) v) H') : ARI p n ops s R (o :: l) E H := ari_plain hg (by rw [hd]; exact h)
theorem bk_sub32 {t : Nat} {a b : Int} (x y : Operand) : Runs p (do eqGuard .sub t x y (.int .i32 a) (.int .i32 b); binOp .sub t (.int .i32 a) (.int .i32 b)) (.int .i32 (IntKind.i32.wrap (a - b))) := ⟨fun w => by
  simp [eqGuard, binOp, Op.intArith, Sem.run_bind]⟩
theorem st_cv32 {t u : Nat} {x : Operand} {a : Int} {ρ : Operand → Value} {K : Post} (ho : o.op = .convert t u x) (hu : p.underlying u = some (.int .i64)) (ht : p.underlying t = some (.int .i32)) (hx : ρ x = .int .i32 a) (kk : K (.int .i64 (w64 a)) H) : Step p ρ o H K :=
  st_run (s := convert t u (.int .i32 a)) (by rw [execOp, ho]; simp only [hx]) ⟨fun w => by simp [convert, Sem.run_bind, run_underlying hu w, run_underlying ht w, Conv.intToInt]⟩ kk
theorem aic_next {id : Nat} {x : Operand} {Q : Exit → Nat → Env → List Box → Prop} (hg : o.guard = none) (ho : o.op = .next x true) (hx : ev n E x = .pointer (some ⟨k, 0, none⟩))
    (c : Nat) (h1 : ∀ h : pos < s.size, (s[pos]'h).toNat = c ∧ c < 128 ∧ AR p n (o :: l).toArray (fun e E H => Q e (pos + 1) E H) l (E.put o.dst (.tuple #[.bool true, .int .i64 (pos : Int), .int .i32 (c : Int)])) H)
    (h2 : ¬ pos < s.size → AR p n (o :: l).toArray (fun e E H => Q e pos E H) l (E.put o.dst (.tuple #[.bool false])) H) : AIC p n (.region id (o :: l).toArray false) k s pos Q E H := by
  intro β w a hO hB hs hI
  refine wp_region_list ?_
  show wpList p _ _ (o :: l) a w
  unfold wpList
  rw [hs.yld, show yld n (o :: l).toArray E o = true by unfold yld; rw [hg], if_pos rfl]
  refine .inl ?_
  unfold Oper.wp
  rw [hs.eval, execOp, ho]
  simp only [hx]
  by_cases hp : pos < s.size
  · obtain ⟨rfl, ha, hr⟩ := h1 hp
    simp only [Sem.run_bind, Lib.run_next_ascii_at w k s pos _ hI.at_ hp ha, Result.andThen]
    refine wpl_mono ?_ _ _ _ (air_of (pos := pos + 1) hr (hO.iterAt hI _) (hB.iterAt hI _) ⟨Lib.iterAt_heap w k s pos _ hI.at_, hI.may⟩ (hs.put _ _))
    rintro e a w ⟨E, H, q, ⟨rfl, h⟩, r⟩
    exact ⟨E, H, _, h, r⟩
  · simp only [Sem.run_bind, Lib.run_next_end_at w k s pos _ hI.at_ hp, Result.andThen]
    refine wpl_mono ?_ _ _ _ (air_of (h2 hp) hO hB hI (hs.put _ _))
    rintro e a w ⟨E, H, q, ⟨rfl, h⟩, r⟩
    exact ⟨E, H, _, h, r⟩
end
end Go.Proofs.YtalffjplbhelcaaDoor
namespace Go.Proofs.YtalffjplbhelcaaDoor
open Go.RowKit
section
variable {p : Program} {n : Nat} {ops : Array Oper}
section
variable {fx ta : List Nat} {al : List Al} {vs : List (Nat × Value)} {E0 : Env} {H0 : List Box} {Q : Exit → Env → List Box → Prop}
end
end
end Go.Proofs.YtalffjplbhelcaaDoor
namespace Go.Proofs.YtalffjplbhelcaaDoor
end Go.Proofs.YtalffjplbhelcaaDoor
namespace Go.Proofs.YtalffjplbhelcaaDoor
open Go.RowKit
theorem agg52 : IsAgg Tryd.prog 52 2 := ⟨⟨_, Tryd.underlying52, rfl, by kernel_rfl⟩⟩
theorem agg57 : IsAgg Tryd.prog 57 3 := ⟨⟨_, Tryd.underlying57, rfl, by kernel_rfl⟩⟩
theorem bd52_0_1 (x0_0 : Int) (x1_0 : Int) : Runs Tryd.prog (Instr.build 52 #[(0, .int .i64 x0_0), (1, .int .i64 x1_0)]) (.agg #[.int .i64 x0_0, .int .i64 x1_0]) := ⟨fun w => by go_simp⟩
theorem bd52_  : Runs Tryd.prog (Instr.build 52 #[]) (.agg #[.int .i64 0, .int .i64 0]) := ⟨fun w => by go_simp⟩
theorem bd57_0_1 (x0_0 : Int) (x1_0 : Int) : Runs Tryd.prog (Instr.build 57 #[(0, .int .i64 x0_0), (1, .int .i64 x1_0)]) (.agg #[.int .i64 x0_0, .int .i64 x1_0, .bool false]) := ⟨fun w => by go_simp⟩
theorem bd57_2 (x0_0 : Bool) : Runs Tryd.prog (Instr.build 57 #[(2, .bool x0_0)]) (.agg #[.int .i64 0, .int .i64 0, .bool x0_0]) := ⟨fun w => by go_simp⟩
theorem cell3 : IsCell Tryd.prog 3 := ⟨⟨_, Tryd.underlying3, rfl, by kernel_rfl⟩⟩
theorem cell4 : IsCell Tryd.prog 4 := ⟨⟨_, Tryd.underlying4, rfl, by kernel_rfl⟩⟩
theorem fa52_0 (a : Addr) : Runs Tryd.prog (Instr.fieldAt 52 (.pointer (some a)) 0) (.pointer (some (a.add 0))) := run_fa (f := 0) (off := 0) (m := 1) Tryd.underlying52 rfl rfl (by kernel_rfl) (by decide) a
theorem fa52_1 (a : Addr) : Runs Tryd.prog (Instr.fieldAt 52 (.pointer (some a)) 1) (.pointer (some (a.add 1))) := run_fa (f := 1) (off := 1) (m := 1) Tryd.underlying52 rfl rfl (by kernel_rfl) (by decide) a
theorem fa57_0 (a : Addr) : Runs Tryd.prog (Instr.fieldAt 57 (.pointer (some a)) 0) (.pointer (some (a.add 0))) := run_fa (f := 0) (off := 0) (m := 1) Tryd.underlying57 rfl rfl (by kernel_rfl) (by decide) a
theorem fa57_1 (a : Addr) : Runs Tryd.prog (Instr.fieldAt 57 (.pointer (some a)) 1) (.pointer (some (a.add 1))) := run_fa (f := 1) (off := 1) (m := 1) Tryd.underlying57 rfl rfl (by kernel_rfl) (by decide) a
theorem fa57_2 (a : Addr) : Runs Tryd.prog (Instr.fieldAt 57 (.pointer (some a)) 2) (.pointer (some (a.add 2))) := run_fa (f := 2) (off := 2) (m := 1) Tryd.underlying57 rfl rfl (by kernel_rfl) (by decide) a
theorem zero52 : Zero Tryd.prog 52 [.int .i64 0, .int .i64 0] := ⟨⟨.agg #[.int .i64 0, .int .i64 0], by kernel_rfl, rfl⟩⟩
theorem zero57 : Zero Tryd.prog 57 [.int .i64 0, .int .i64 0, .bool false] := ⟨⟨.agg #[.int .i64 0, .int .i64 0, .bool false], by kernel_rfl, rfl⟩⟩
end Go.Proofs.YtalffjplbhelcaaDoor
namespace Go.Proofs.YtalffjplbhelcaaDoor
open Go.RowKit
end Go.Proofs.YtalffjplbhelcaaDoor
namespace Go.Proofs.YtalffjplbhelcaaDoor
open Go.RowKit
end Go.Proofs.YtalffjplbhelcaaDoor
namespace Go.Proofs.YtalffjplbhelcaaDoor
open Go.RowKit
end Go.Proofs.YtalffjplbhelcaaDoor
namespace Go.Proofs.YtalffjplbhelcaaDoor
open Go.RowKit
end Go.Proofs.YtalffjplbhelcaaDoor
namespace Go.Proofs.YtalffjplbhelcaaDoor
open Go.RowKit
end Go.Proofs.YtalffjplbhelcaaDoor
namespace Go.Proofs.YtalffjplbhelcaaDoor
open Go.RowKit
end Go.Proofs.YtalffjplbhelcaaDoor
namespace Go.Proofs.YtalffjplbhelcaaDoor
open Go.RowKit
attribute [local irreducible] AC AR DWalk
structure Dec where
 c : Int
 scale : Int
deriving DecidableEq
@[reducible] def Dec.v (s : Dec) : Value := .agg #[.int .i64 s.c, .int .i64 s.scale]
theorem dec_eq (a b : Dec) : decide (a = b) = ((a.c == b.c) && (a.scale == b.scale)) := by
 obtain ⟨x, y⟩ := a
 obtain ⟨u, v⟩ := b
 rw [Bool.eq_iff_iff]
 simp [Dec.mk.injEq]
theorem stood_dec : Tryd.prog.stoodInHeld 52 = false := by kernel_rfl
theorem eqr_dec (a b : Dec) (d : Nat) (w : World) : (Op.equalIn (d + 2) 52 a.v b.v).run Tryd.prog w = .ok (decide (a = b)) w := by
 rw [dec_eq]
 refine eqf_s (xs := [.int .i64 a.c, .int .i64 a.scale]) (ys := [.int .i64 b.c, .int .i64 b.scale]) Tryd.underlying52 stood_dec ?_
 refine eqf_c (by decide) (part_c cell_int rfl) (part_c cell_int rfl) (run_equalIn_int _ _ _ _ _ _ _ Tryd.underlying3) ?_
 have := eqf_c (p := Tryd.prog) (d := d + 1) (xs := [.int .i64 a.c, .int .i64 a.scale]) (ys := [.int .i64 b.c, .int .i64 b.scale]) (w := w) (f := { name := "Scale", type := 3, offset := 1, embedded := false, tag := "", pkgPath := "", byteOffset := 8 }) (fs := []) (by decide) (part_c cell_int rfl) (part_c cell_int rfl) (run_equalIn_int _ _ _ _ _ _ _ Tryd.underlying3) eqf_n
 rw [Bool.and_true] at this
 exact this
theorem guard_dec : Tryd.prog.eqGuardType Tryd.prog.depth 52 = false := by kernel_rfl
theorem beql_52 (a b : Dec) {d : Bool} (h : decide (a = b) = d) (x y : Operand) : Runs Tryd.prog (do eqGuard .eql 52 x y a.v b.v; binOp .eql 52 a.v b.v) (.bool d) := bs_eql guard_dec (fun w => eqr_dec a b 9998 w) h x y
end Go.Proofs.YtalffjplbhelcaaDoor
namespace Go.Proofs.YtalffjplbhelcaaDoor
open Go.RowKit
attribute [local irreducible] AC AR DWalk
def rDigit (c : Int) : Bool := (bif decide (c ≥ 48) then decide (c ≤ 57) else false)
def rRightDec (d : Dec) : Bool := (bif decide (d.c ≥ (-100000000000)) then (bif decide (d.c ≤ 100000000000) then (bif decide (d.scale ≥ 0) then (bif decide (d.scale ≤ 6) then (bif d.scale == 0 then true else (Int.tmod d.c 10) != 0) else false) else false) else false) else false)
end Go.Proofs.YtalffjplbhelcaaDoor
namespace Go.Proofs.YtalffjplbhelcaaDoor
theorem w64_in {n : Int} (h : -9223372036854775808 ≤ n ∧ n ≤ 9223372036854775807) : w64 n = n := by
  show IntKind.i64.wrap n = n
  rw [IntKind.wrap_i64]
  omega
theorem cut_hi {s : ByteArray} (h : decide (lIndex s 46 ≥ 0) = true) : 0 ≤ lIndex s 46 ∧ lIndex s 46 ≤ s.size := by
  have := of_decide_eq_true h
  have := lIndex_lt s 46
  omega
theorem cut_lo {s : ByteArray} (hs : s.size ≤ 9223372036854775807) (h : decide (lIndex s 46 ≥ 0) = true) : 0 ≤ w64 (lIndex s 46 + 1) ∧ w64 (lIndex s 46 + 1) ≤ s.size := by
  have := of_decide_eq_true h
  have := lIndex_lt s 46
  rw [w64_in (by omega)]
  omega
theorem fig_sz {s : ByteArray} {n : Int} (hn : n ≤ 1000) (h : decide ((s.size : Int) ≤ n) = true) : s.size ≤ 9223372036854775807 := by
  have := of_decide_eq_true h
  omega
end Go.Proofs.YtalffjplbhelcaaDoor
namespace Go.Proofs.YtalffjplbhelcaaDoor
open Go.RowKit
attribute [local irreducible] AC AR DWalk
def cutDot0 (s : ByteArray) : ByteArray × ByteArray × Bool := (bif decide ((lIndex s 46) ≥ 0) then ((subS s 0 (lIndex s 46)), (subS s (w64 ((lIndex s 46) + 1)) ((s).size : Int)), true) else (s, (⟨#[]⟩ : ByteArray), false))
set_option maxRecDepth 100000 in
theorem c_cutDot0 (s : ByteArray) (hs : s.size ≤ 9223372036854775807) : Gets Tryd.prog 49 #[.string s, .string (⟨#[46]⟩ : ByteArray)] ((fun (r : ByteArray × ByteArray × Bool) => (.tuple #[.string r.1, .string r.2.1, .bool r.2.2] : Value)) (cutDot0 s)) := by
 refine gets_fin Tryd.func49 rfl rfl rfl (aQ (aL (aA 4 (.string (⟨#[]⟩ : ByteArray)) rfl rfl (aA 5 (.string (⟨#[]⟩ : ByteArray)) rfl rfl (aA 6 (.bool false) rfl rfl (aN (aQ (aQ (aL (aM 8 (.string s) rfl rfl (aM 9 (.string (⟨#[46]⟩ : ByteArray)) rfl rfl (aC 10 (c_lIndex s 46) Tryd.func65 ⟨rfl, by decide⟩ rfl rfl (aA 7 (.int .i64 (lIndex s 46)) rfl rfl (aN (aQ (aL (aM 11 (.int .i64 (lIndex s 46)) rfl rfl (aB 12 (.bool (decide ((lIndex s 46) ≥ 0))) rfl rfl rfl (bi_geq rfl) (aN ?_)))))))))))))))))))
 refine bool_split (decide ((lIndex s 46) ≥ 0)) (fun h1 => ?_) (fun h1 => ?_)
 ·refine ac_then' (b := decide ((lIndex s 46) ≥ 0)) h1 rfl (aQ ?_)
  refine ac_draw0 (id := 3) [0, 1, 2, 3, 4, 5, 6, 7, 8, 9, 10, 11] [] _ (by kernel_rfl) follows rfl  (dw_op (d := some 13) _ rfl rfl rfl (st_move (v := .string s) rfl rfl ⟨rfl, rfl⟩) (dw_op (d := some 14) _ rfl rfl rfl (st_move (v := .int .i64 (lIndex s 46)) rfl rfl ⟨rfl, rfl⟩) (dw_op (d := some 15) _ rfl rfl rfl (st_ssh (cut_hi h1) rfl Tryd.underlying9 rfl rfl ⟨rfl, rfl⟩) (dw_op (d := some 16) _ rfl rfl rfl (st_move (v := .string s) rfl rfl ⟨rfl, rfl⟩) (dw_op (d := some 17) _ rfl rfl rfl (st_move (v := .int .i64 (lIndex s 46)) rfl rfl ⟨rfl, rfl⟩) (dw_op (d := some 18) _ rfl rfl rfl (st_move (v := .string (⟨#[46]⟩ : ByteArray)) rfl rfl ⟨rfl, rfl⟩) ?_))))))
  refine dw_op (d := some 19) _ rfl rfl rfl (st_slen (s := (⟨#[46]⟩ : ByteArray)) rfl Tryd.underlying9 rfl ⟨rfl, rfl⟩) (dw_op (d := some 20) _ rfl rfl rfl (st_bi (r := .int .i64 (w64 ((lIndex s 46) + 1))) rfl rfl rfl (bi_add rfl) ⟨rfl, rfl⟩) (dw_op (d := some 21) _ rfl rfl rfl (st_ssb (cut_lo hs h1) rfl Tryd.underlying9 rfl rfl ⟨rfl, rfl⟩) (dw_op (d := some 4) _ rfl rfl rfl (st_assign (v := .string (subS s 0 (lIndex s 46))) rfl rfl ⟨rfl, rfl⟩) (dw_op (d := some 5) _ rfl rfl rfl (st_assign (v := .string (subS s (w64 ((lIndex s 46) + 1)) ((s).size : Int))) rfl rfl ⟨rfl, rfl⟩) (dw_op (d := some 6) _ rfl rfl rfl (st_assign (v := .bool true) rfl rfl ⟨rfl, rfl⟩) (dw_nil (aN ?_)))))))
  refine ac_ret (fin_eq (v := .tuple #[.string (subS s 0 (lIndex s 46)), .string (subS s (w64 ((lIndex s 46) + 1)) ((s).size : Int)), .bool true]) (by show _ = (fun (r : ByteArray × ByteArray × Bool) => (.tuple #[.string r.1, .string r.2.1, .bool r.2.2] : Value)) (cutDot0 s); rw [cutDot0, h1] <;> rfl) (fin_ret (res_ttt rfl rfl rfl rfl)))
 ·refine ac_else' (b := decide ((lIndex s 46) ≥ 0)) h1 rfl (ac_skip (aQ (aL (aM 22 (.string s) rfl rfl (aA 4 (.string s) rfl rfl (aA 5 (.string (⟨#[]⟩ : ByteArray)) rfl rfl (aA 6 (.bool false) rfl rfl (aN (ac_ret (fin_eq (v := .tuple #[.string s, .string (⟨#[]⟩ : ByteArray), .bool false]) (by show _ = (fun (r : ByteArray × ByteArray × Bool) => (.tuple #[.string r.1, .string r.2.1, .bool r.2.2] : Value)) (cutDot0 s); rw [cutDot0, h1] <;> rfl) (fin_ret (res_ttt rfl rfl rfl rfl))))))))))))
end Go.Proofs.YtalffjplbhelcaaDoor
namespace Go.Proofs.YtalffjplbhelcaaDoor
open Go.RowKit
attribute [local irreducible] AC AR DWalk
def cutDot (s : ByteArray) : ByteArray × ByteArray × Bool := ((cutDot0 s).1, (cutDot0 s).2.1, (cutDot0 s).2.2)
set_option maxRecDepth 100000 in
theorem c_cutDot (s : ByteArray) (hs : s.size ≤ 9223372036854775807) : Gets Tryd.prog 38 #[.string s, .string (⟨#[46]⟩ : ByteArray)] ((fun (r : ByteArray × ByteArray × Bool) => (.tuple #[.string r.1, .string r.2.1, .bool r.2.2] : Value)) (cutDot s)) := by
 refine gets_fin Tryd.func38 rfl rfl rfl (aQ (aL (aA 4 (.string (⟨#[]⟩ : ByteArray)) rfl rfl (aA 5 (.string (⟨#[]⟩ : ByteArray)) rfl rfl (aA 6 (.bool false) rfl rfl (aN (aQ (aL (aM 7 (.string s) rfl rfl (aM 8 (.string (⟨#[46]⟩ : ByteArray)) rfl rfl (aC 9 (c_cutDot0 s hs) Tryd.func49 ⟨rfl, by decide⟩ rfl rfl (aX 10 (.string ((cutDot0 s).1)) rfl rfl rfl (aX 11 (.string ((cutDot0 s).2.1)) rfl rfl rfl (aX 12 (.bool ((cutDot0 s).2.2)) rfl rfl rfl (aA 4 (.string ((cutDot0 s).1)) rfl rfl (aA 5 (.string ((cutDot0 s).2.1)) rfl rfl (aA 6 (.bool ((cutDot0 s).2.2)) rfl rfl (aN (ac_ret ?_)))))))))))))))))))
 exact fin_eq (v := .tuple #[.string ((cutDot0 s).1), .string ((cutDot0 s).2.1), .bool ((cutDot0 s).2.2)]) rfl (fin_ret (res_ttt rfl rfl rfl rfl))
end Go.Proofs.YtalffjplbhelcaaDoor
namespace Go.Proofs.YtalffjplbhelcaaDoor
open Go.RowKit
attribute [local irreducible] AC AR DWalk
def decFig (s : ByteArray) (n : Int) : Bool := (bif sEq s (⟨#[]⟩ : ByteArray) then false else (bif decide (((s).size : Int) ≤ n) then sEq (lTrimFig s) (⟨#[]⟩ : ByteArray) else false))
set_option maxRecDepth 100000 in
theorem c_decFig (s : ByteArray) (n : Int) (hn : n ≤ 1000) : Gets Tryd.prog 39 #[.string s, .int .i64 n] ((fun (r : Bool) => (.bool r : Value)) (decFig s n)) := by
 refine gets_fin Tryd.func39 rfl rfl rfl (aQ (aL (aA 4 (.bool false) rfl rfl (aN (aQ (aL (aM 5 (.string s) rfl rfl (aB 6 (.bool (!(sEq s (⟨#[]⟩ : ByteArray)))) rfl rfl rfl (bi_sneq rfl) (aM 7 (.bool (!(sEq s (⟨#[]⟩ : ByteArray)))) rfl rfl ?_)))))))))
 refine bool_split (sEq s (⟨#[]⟩ : ByteArray)) (fun h1 => ?_) (fun h1 => ?_)
 ·refine aK 8 (by show ((!(sEq s (⟨#[]⟩ : ByteArray))) == true) = false; rw [h1]; rfl) rfl (aK 9 (by show ((!(sEq s (⟨#[]⟩ : ByteArray))) == true) = false; rw [h1]; rfl) rfl (aK 10 (by show ((!(sEq s (⟨#[]⟩ : ByteArray))) == true) = false; rw [h1]; rfl) rfl (aK 11 (by show ((!(sEq s (⟨#[]⟩ : ByteArray))) == true) = false; rw [h1]; rfl) rfl (ao 12 rfl rfl (st_pkf' (b := !(sEq s (⟨#[]⟩ : ByteArray))) (v := .bool false) (by rw [h1]; rfl) rfl rfl rfl (aM 13 (.bool false) rfl rfl (aK 14 rfl rfl (aK 15 rfl rfl (aK 16 rfl rfl (ao 17 rfl rfl (st_pkf (v := .bool false) rfl rfl rfl (aA 4 (.bool false) rfl rfl (aN (ac_ret ?_))))))))))))))
  exact fin_eq (v := .bool false) (by show _ = (fun (r : Bool) => (.bool r : Value)) (decFig s n); rw [decFig, h1] <;> rfl) (fin_ret (res_tmp rfl rfl))
 ·refine ar_gd (d := (some 8)) (by show ((!(sEq s (⟨#[]⟩ : ByteArray))) == true) = true; rw [h1]; rfl) rfl (st_move (v := .string s) rfl rfl (ar_gd (d := (some 9)) (by show ((!(sEq s (⟨#[]⟩ : ByteArray))) == true) = true; rw [h1]; rfl) rfl (st_slen (s := s) rfl Tryd.underlying9 rfl (ar_gd (d := (some 10)) (by show ((!(sEq s (⟨#[]⟩ : ByteArray))) == true) = true; rw [h1]; rfl) rfl (st_move (v := .int .i64 n) rfl rfl (ar_gd (d := (some 11)) (by show ((!(sEq s (⟨#[]⟩ : ByteArray))) == true) = true; rw [h1]; rfl) rfl (st_bi (r := .bool (decide (((s).size : Int) ≤ n))) rfl rfl rfl (bi_leq rfl) ?_)))))))
  refine ao 12 rfl rfl (st_pkt' (b := !(sEq s (⟨#[]⟩ : ByteArray))) (v := .bool (decide (((s).size : Int) ≤ n))) (by rw [h1]; rfl) rfl rfl rfl (aM 13 (.bool (decide (((s).size : Int) ≤ n))) rfl rfl ?_))
  refine bool_split (decide (((s).size : Int) ≤ n)) (fun h2 => ?_) (fun h2 => ?_)
  ·refine ar_gd (d := (some 14)) (by show ((decide (((s).size : Int) ≤ n)) == true) = true; rw [h2]; rfl) rfl (st_move (v := .string s) rfl rfl (ar_gd (d := (some 15)) (by show ((decide (((s).size : Int) ≤ n)) == true) = true; rw [h2]; rfl) rfl (st_cf (c_lTrimFig s (fig_sz hn h2)) Tryd.func50 rfl (by decide) rfl rfl rfl (ar_gd (d := (some 16)) (by show ((decide (((s).size : Int) ≤ n)) == true) = true; rw [h2]; rfl) rfl (st_bi (r := .bool (sEq (lTrimFig s) (⟨#[]⟩ : ByteArray))) rfl rfl rfl (bi_seql rfl) (ao 17 rfl rfl (st_pkt' (b := decide (((s).size : Int) ≤ n)) (v := .bool (sEq (lTrimFig s) (⟨#[]⟩ : ByteArray))) h2 rfl rfl rfl ?_)))))))
   refine aA 4 (.bool (sEq (lTrimFig s) (⟨#[]⟩ : ByteArray))) rfl rfl (aN (ac_ret (fin_eq (v := .bool (sEq (lTrimFig s) (⟨#[]⟩ : ByteArray))) (by show _ = (fun (r : Bool) => (.bool r : Value)) (decFig s n); rw [decFig, h2, h1] <;> rfl) (fin_ret (res_tmp rfl rfl)))))
  ·refine aK 14 (by show ((decide (((s).size : Int) ≤ n)) == true) = false; rw [h2]; rfl) rfl (aK 15 (by show ((decide (((s).size : Int) ≤ n)) == true) = false; rw [h2]; rfl) rfl (aK 16 (by show ((decide (((s).size : Int) ≤ n)) == true) = false; rw [h2]; rfl) rfl (ao 17 rfl rfl (st_pkf' (b := decide (((s).size : Int) ≤ n)) (v := .bool false) h2 rfl rfl rfl (aA 4 (.bool false) rfl rfl (aN (ac_ret (fin_eq (v := .bool false) (by show _ = (fun (r : Bool) => (.bool r : Value)) (decFig s n); rw [decFig, h2, h1] <;> rfl) (fin_ret (res_tmp rfl rfl))))))))))
end Go.Proofs.YtalffjplbhelcaaDoor
namespace Go.Proofs.YtalffjplbhelcaaDoor
theorem sEq_iff (a b : ByteArray) : sEq a b = true ↔ a = b := by
  unfold sEq
  rw [beq_iff_eq, Lib.toList_data, Lib.toList_data]
  constructor
  · intro h
    rw [← Lib.mk_data a, ← Lib.mk_data b, h]
  · intro h; rw [h]
def IsDig (b : UInt8) : Prop := 48 ≤ b.toNat ∧ b.toNat ≤ 57
theorem fig_dig : ∀ b : UInt8, (figs.data.toList.contains b) = true → IsDig b := by
  intro b h
  have h2 : b ∈ figs.data.toList := List.contains_iff_mem.1 h
  simp only [figs, List.mem_cons, List.not_mem_nil, or_false] at h2
  rcases h2 with rfl | rfl | rfl | rfl | rfl | rfl | rfl | rfl | rfl | rfl <;> exact ⟨by decide, by decide⟩
theorem dig_fig : ∀ b : UInt8, IsDig b → (figs.data.toList.contains b) = true := by
  intro b h
  obtain ⟨h1, h2⟩ := h
  have e : b = UInt8.ofNat b.toNat := by simp
  rw [e]
  generalize b.toNat = n at *
  rcases (by omega : n = 48 ∨ n = 49 ∨ n = 50 ∨ n = 51 ∨ n = 52 ∨ n = 53 ∨ n = 54 ∨ n = 55 ∨ n = 56 ∨ n = 57) with rfl | rfl | rfl | rfl | rfl | rfl | rfl | rfl | rfl | rfl <;> decide
theorem dropWhile_nil {α : Type} (p : α → Bool) : ∀ l : List α, l.dropWhile p = [] ↔ ∀ b ∈ l, p b = true
  | [] => by simp
  | a :: l => by
    rw [List.dropWhile_cons]
    split
    · rename_i h; rw [dropWhile_nil p l]; simp [h]
    · rename_i h; simp [h]
theorem dropWhile_sub {α : Type} (p : α → Bool) : ∀ l : List α, (∀ b ∈ l.dropWhile p, p b = true) → l.dropWhile p = []
  | [], _ => rfl
  | a :: l, h => by
    rw [List.dropWhile_cons] at h ⊢
    split
    · rename_i h1; rw [if_pos h1] at h; exact dropWhile_sub p l h
    · rename_i h1; rw [if_neg h1] at h; exact absurd (h a List.mem_cons_self) h1
theorem trimS_nil (l cs : List UInt8) : Lib.trimS l cs = [] ↔ ∀ b ∈ l, cs.contains b = true := by
  unfold Lib.trimS Lib.trimLeftS Lib.trimRightS
  rw [dropWhile_nil]
  constructor
  · intro h
    have h2 : l.reverse.dropWhile (cs.contains ·) = [] := dropWhile_sub _ _ (fun b hb => h b (List.mem_reverse.2 hb))
    rw [dropWhile_nil] at h2
    exact fun b hb => h2 b (List.mem_reverse.2 hb)
  · intro h
    have h2 : l.reverse.dropWhile (cs.contains ·) = [] := (dropWhile_nil _ _).2 (fun b hb => h b (List.mem_reverse.1 hb))
    rw [h2]; simp
theorem decFig_iff (s : ByteArray) (n : Int) : decFig s n = true ↔ s.data.toList ≠ [] ∧ (s.size : Int) ≤ n ∧ ∀ b ∈ s.data.toList, IsDig b := by
  have e0 : sEq s (⟨#[]⟩ : ByteArray) = true ↔ s.data.toList = [] := by
    rw [sEq_iff]
    constructor
    · rintro rfl; rfl
    · intro h; rw [← Lib.mk_data s, h]
  have e1 : sEq (lTrimFig s) (⟨#[]⟩ : ByteArray) = true ↔ ∀ b ∈ s.data.toList, IsDig b := by
    rw [sEq_iff]
    unfold lTrimFig byA
    constructor
    · intro h
      have h2 : Lib.trimS s.data.toList figs.data.toList = [] := by
        have := congrArg (fun x : ByteArray => x.data.toList) h
        simpa using this
      exact fun b hb => fig_dig b ((trimS_nil _ _).1 h2 b hb)
    · intro h
      rw [(trimS_nil _ _).2 (fun b hb => dig_fig b (h b hb))]
  unfold decFig
  cases h : sEq s (⟨#[]⟩ : ByteArray)
  · have h0 : s.data.toList ≠ [] := fun k => by rw [e0.2 k] at h; cases h
    rw [cond_false]
    by_cases k : (s.size : Int) ≤ n
    · rw [decide_eq_true k, cond_true, e1]; simp [h0, k]
    · rw [decide_eq_false k, cond_false]; simp [k]
  · rw [cond_true]; simp [e0.1 h]
def rdBody (s : ByteArray) : ByteArray := (lCutPrefix s (⟨#[45]⟩ : ByteArray)).1
def rdMinus (s : ByteArray) : Bool := (lCutPrefix s (⟨#[45]⟩ : ByteArray)).2
def rdWhole (s : ByteArray) : ByteArray := (cutDot (rdBody s)).1
def rdRest (s : ByteArray) : ByteArray := (cutDot (rdBody s)).2.1
def rdPoint (s : ByteArray) : Bool := (cutDot (rdBody s)).2.2
theorem body_sz {s : ByteArray} (hs : s.size ≤ 9223372036854775807) : (rdBody s).size ≤ 9223372036854775807 := by
  have : (rdBody s).size ≤ s.size := by
    unfold rdBody lCutPrefix
    rw [byA_size, Lib.size_eq s]
    unfold Lib.trimPrefix
    split
    · rw [List.length_drop]; omega
    · exact Nat.le_refl _
  omega
theorem fig_le {s : ByteArray} (h : decFig s 5 = true) : s.size ≤ 5 := by have := ((decFig_iff _ _).1 h).2.1; omega
def RestOk (s : ByteArray) : Prop := rdPoint s = false ∨ (rdPoint s = true ∧ decFig (rdRest s) 6 = true)
theorem rest_none {s : ByteArray} (h : rdPoint s = false) : rdRest s = (⟨#[]⟩ : ByteArray) := by
  unfold rdPoint at h
  unfold rdRest
  unfold cutDot at *
  unfold cutDot0 at *
  cases hd : decide (lIndex (rdBody s) 46 ≥ 0)
  · rfl
  · rw [hd] at h; cases h
theorem rest_6 {s : ByteArray} (h : RestOk s) : (rdRest s).size ≤ 6 ∧ ∀ b ∈ (rdRest s).data.toList, IsDig b := by
  rcases h with h | ⟨_, h⟩
  · rw [rest_none h]; exact ⟨by decide, by simp⟩
  · have := (decFig_iff _ _).1 h
    exact ⟨by omega, this.2.2⟩
theorem rest_sz {s : ByteArray} (h : RestOk s) : (rdRest s).size ≤ 9223372036854775807 := by have := (rest_6 h).1; omega
theorem trimB_sub (l : List UInt8) (c : UInt8) : (∀ b ∈ Lib.trimRightB l c, b ∈ l) ∧ (Lib.trimRightB l c).length ≤ l.length := by
  unfold Lib.trimRightB
  have hs : List.Sublist (l.reverse.dropWhile (· == c)) l.reverse := List.dropWhile_sublist _
  constructor
  · intro b hb
    have := hs.subset (List.mem_reverse.1 hb)
    exact List.mem_reverse.1 this
  · rw [List.length_reverse]
    have := hs.length_le
    simpa using this
theorem trim_6 {s : ByteArray} (h : RestOk s) : (lTrimRight (rdRest s) 48).size ≤ 6 ∧ ∀ b ∈ (lTrimRight (rdRest s) 48).data.toList, IsDig b := by
  have h1 := rest_6 h
  have h2 := trimB_sub (rdRest s).data.toList 48
  unfold lTrimRight
  rw [byA_size]
  rw [Lib.size_eq] at h1
  exact ⟨by omega, fun b hb => h1.2 b (h2.1 b hb)⟩
theorem rest_sz2 {s : ByteArray} (h : RestOk s) : (lTrimRight (rdRest s) 48).size ≤ 6 := (trim_6 h).1
theorem atoi_sz {s : ByteArray} (hw : decFig (rdWhole s) 5 = true) (h : RestOk s) : (rdWhole s ++ lTrimRight (rdRest s) 48).size ≤ 18 := by
  have := fig_le hw
  have := rest_sz2 h
  rw [ByteArray.size_append']
  omega
theorem decFrom_some : ∀ (l : List UInt8) (a : Nat), (∀ b ∈ l, IsDig b) → ∃ n, Lib.decFrom a l = some n
  | [], a, _ => ⟨a, rfl⟩
  | b :: l, a, h => by
    have hb := h b List.mem_cons_self
    have e : Lib.digitVal b = some (b.toNat - 48) := by unfold Lib.digitVal; exact if_pos hb
    rw [Lib.decFrom, e]
    exact decFrom_some l _ (fun c hc => h c (List.mem_cons_of_mem _ hc))
theorem atoi_digs {l : List UInt8} (h0 : l ≠ []) (h : ∀ b ∈ l, IsDig b) : ∃ n : Nat, Lib.decFrom 0 l = some n ∧ Lib.atoi l = some (n : Int) := by
  obtain ⟨n, hn⟩ := decFrom_some l 0 h
  refine ⟨n, hn, ?_⟩
  cases l with
  | nil => exact absurd rfl h0
  | cons b r =>
    have hb := h b List.mem_cons_self
    have h1 : (b == 45) = false := by
      rw [beq_eq_false_iff_ne]; rintro rfl; exact absurd hb.1 (by decide)
    have h2 : (b == 43) = false := by
      rw [beq_eq_false_iff_ne]; rintro rfl; exact absurd hb.1 (by decide)
    rw [Lib.atoi, h1, h2]
    simp [Lib.decNat, hn]
theorem app_list (a b : ByteArray) : (a ++ b).data.toList = a.data.toList ++ b.data.toList := by simp
theorem atoi_ok {s : ByteArray} (hw : decFig (rdWhole s) 5 = true) (h : RestOk s) : (Lib.atoi (rdWhole s ++ lTrimRight (rdRest s) 48).data.toList).isSome = true := by
  have h1 := (decFig_iff _ _).1 hw
  have h2 := trim_6 h
  rw [app_list]
  obtain ⟨n, _, hn⟩ := atoi_digs (l := (rdWhole s).data.toList ++ (lTrimRight (rdRest s) 48).data.toList) (by simp [h1.1]) (fun b hb => by
    rcases List.mem_append.1 hb with hb | hb
    · exact h1.2.2 b hb
    · exact h2.2 b hb)
  rw [hn]; rfl
end Go.Proofs.YtalffjplbhelcaaDoor
namespace Go.Proofs.YtalffjplbhelcaaDoor
open Go.RowKit
attribute [local irreducible] AC AR DWalk
def decRead (s : ByteArray) : Dec × Bool := (bif decFig (rdWhole s) 5 then (bif rdPoint s then (bif decFig (rdRest s) 6 then (bif rdMinus s then (bif (lAtoi ((rdWhole s) ++ (lTrimRight (rdRest s) 48))) == 0 then ((⟨0, 0⟩ : Dec), false) else ((⟨w64 (0 - (lAtoi ((rdWhole s) ++ (lTrimRight (rdRest s) 48)))), (((lTrimRight (rdRest s) 48)).size : Int)⟩ : Dec), true)) else ((⟨(lAtoi ((rdWhole s) ++ (lTrimRight (rdRest s) 48))), (((lTrimRight (rdRest s) 48)).size : Int)⟩ : Dec), true)) else ((⟨0, 0⟩ : Dec), false)) else (bif rdMinus s then (bif (lAtoi ((rdWhole s) ++ (lTrimRight (rdRest s) 48))) == 0 then ((⟨0, 0⟩ : Dec), false) else ((⟨w64 (0 - (lAtoi ((rdWhole s) ++ (lTrimRight (rdRest s) 48)))), (((lTrimRight (rdRest s) 48)).size : Int)⟩ : Dec), true)) else ((⟨(lAtoi ((rdWhole s) ++ (lTrimRight (rdRest s) 48))), (((lTrimRight (rdRest s) 48)).size : Int)⟩ : Dec), true))) else ((⟨0, 0⟩ : Dec), false))
set_option maxRecDepth 100000 in
set_option maxHeartbeats 4000000 in
theorem c_decRead (s : ByteArray) (hs : s.size ≤ 9223372036854775807) : Gets Tryd.prog 17 #[.string s] ((fun (r : Dec × Bool) => (.tuple #[.agg #[.int .i64 r.1.c, .int .i64 r.1.scale], .bool r.2] : Value)) (decRead s)) := by
 refine gets_fin Tryd.func17 rfl rfl rfl (aQ (aL (ao 2 rfl rfl (st_new zero52 rfl fun g0 => (aA 3 (.bool false) rfl rfl (aN (aQ (aL (aM 12 (.string s) rfl rfl (aC 13 (c_lCutPrefix s (⟨#[45]⟩ : ByteArray)) Tryd.func37 ⟨rfl, by decide⟩ rfl rfl (aM 11 (.tuple #[.string (rdBody s), .bool (rdMinus s)]) rfl rfl (aX 14 (.string (rdBody s)) rfl rfl rfl (aX 15 (.bool (rdMinus s)) rfl rfl rfl (aA 4 (.string (rdBody s)) rfl rfl (aA 5 (.bool (rdMinus s)) rfl rfl (aN (aQ (aL (aM 17 (.string (rdBody s)) rfl rfl (aC 18 (c_cutDot (rdBody s) (body_sz hs)) Tryd.func38 ⟨rfl, by decide⟩ rfl rfl ?_))))))))))))))))))))
 refine aM 16 (.tuple #[.string (rdWhole s), .string (rdRest s), .bool (rdPoint s)]) rfl rfl (aX 19 (.string (rdWhole s)) rfl rfl rfl (aX 20 (.string (rdRest s)) rfl rfl rfl (aX 21 (.bool (rdPoint s)) rfl rfl rfl (aA 6 (.string (rdWhole s)) rfl rfl (aA 7 (.string (rdRest s)) rfl rfl (aA 8 (.bool (rdPoint s)) rfl rfl (aN (aQ (aQ (aL (aM 22 (.string (rdWhole s)) rfl rfl (aC 23 (c_decFig (rdWhole s) 5 (by decide)) Tryd.func39 ⟨rfl, by decide⟩ rfl rfl (ao 24 rfl rfl (st_un (v := .bool (!(decFig (rdWhole s) 5))) rfl rfl (un_not rfl) (aM 25 (.bool (!(decFig (rdWhole s) 5))) rfl rfl ?_)))))))))))))))
 refine bool_split (decFig (rdWhole s) 5) (fun h1 => ?_) (fun h1 => ?_)
 ·refine ar_gd (d := (some 26)) (by show ((!(decFig (rdWhole s) 5)) == false) = true; rw [h1]; rfl) rfl (st_move (v := .bool (rdPoint s)) rfl rfl (ar_gd (d := (some 27)) (by show ((!(decFig (rdWhole s) 5)) == false) = true; rw [h1]; rfl) rfl (st_move (v := .bool (rdPoint s)) rfl rfl ?_)))
  refine bool_split (rdPoint s) (fun h2 => ?_) (fun h2 => ?_)
  ·refine ar_gd (d := (some 28)) (by show ((rdPoint s) == true) = true; rw [h2]; rfl) rfl (st_move (v := .string (rdRest s)) rfl rfl (ar_gd (d := (some 29)) (by show ((rdPoint s) == true) = true; rw [h2]; rfl) rfl (st_cf (c_decFig (rdRest s) 6 (by decide)) Tryd.func39 rfl (by decide) rfl rfl rfl (ar_gd (d := (some 30)) (by show ((rdPoint s) == true) = true; rw [h2]; rfl) rfl (st_un (v := .bool (!(decFig (rdRest s) 6))) rfl rfl (un_not rfl) (ar_gd (d := (some 31)) (by show ((!(decFig (rdWhole s) 5)) == false) = true; rw [h1]; rfl) rfl (st_pkt' (b := rdPoint s) (v := .bool (!(decFig (rdRest s) 6))) h2 rfl rfl rfl ?_)))))))
   refine ao 32 rfl rfl (st_pkf' (b := !(decFig (rdWhole s) 5)) (v := .bool (!(decFig (rdRest s) 6))) (by rw [h1]; rfl) rfl rfl rfl (aN ?_))
   refine bool_split (decFig (rdRest s) 6) (fun h3 => ?_) (fun h3 => ?_)
   ·refine ac_else' (b := !(decFig (rdRest s) 6)) (by rw [h3]; rfl) rfl (ac_skip (aQ (aL (aM 34 (.string (rdRest s)) rfl rfl (aC 35 (c_lTrimRight (rdRest s) 48 (by decide) (rest_sz (.inr ⟨h2, h3⟩))) Tryd.func40 ⟨rfl, by decide⟩ rfl rfl (aA 7 (.string (lTrimRight (rdRest s) 48)) rfl rfl (aN (aQ (aL (aM 37 (.string (rdWhole s)) rfl rfl (aM 38 (.string (lTrimRight (rdRest s) 48)) rfl rfl (aB 39 (.string ((rdWhole s) ++ (lTrimRight (rdRest s) 48))) rfl rfl rfl (bi_sadd (sz_two (fig_le h1) (rest_sz2 (.inr ⟨h2, h3⟩)) (by decide))) ?_))))))))))))
    refine aC 40 (c_lAtoi ((rdWhole s) ++ (lTrimRight (rdRest s) 48)) (atoi_sz h1 (.inr ⟨h2, h3⟩)) (atoi_ok h1 (.inr ⟨h2, h3⟩))) Tryd.func41 ⟨rfl, by decide⟩ rfl rfl (aM 36 (.tuple #[.int .i64 (lAtoi ((rdWhole s) ++ (lTrimRight (rdRest s) 48))), .nilIface]) rfl rfl (aX 41 (.int .i64 (lAtoi ((rdWhole s) ++ (lTrimRight (rdRest s) 48)))) rfl rfl rfl (aX 42 (.nilIface) rfl rfl rfl (aA 9 (.int .i64 (lAtoi ((rdWhole s) ++ (lTrimRight (rdRest s) 48)))) rfl rfl (aA 10 (.nilIface) rfl rfl (aN (aQ (aQ (aL (aM 43 (.bool (rdMinus s)) rfl rfl (aM 44 (.bool (rdMinus s)) rfl rfl ?_)))))))))))
    refine bool_split (rdMinus s) (fun h4 => ?_) (fun h4 => ?_)
    ·refine ar_gd (d := (some 45)) (by show ((rdMinus s) == true) = true; rw [h4]; rfl) rfl (st_move (v := .int .i64 (lAtoi ((rdWhole s) ++ (lTrimRight (rdRest s) 48)))) rfl rfl (ar_gd (d := (some 46)) (by show ((rdMinus s) == true) = true; rw [h4]; rfl) rfl (st_bi (r := .bool ((lAtoi ((rdWhole s) ++ (lTrimRight (rdRest s) 48))) == 0)) rfl rfl rfl (bi_eql rfl) (ao 47 rfl rfl (st_pkt' (b := rdMinus s) (v := .bool ((lAtoi ((rdWhole s) ++ (lTrimRight (rdRest s) 48))) == 0)) h4 rfl rfl rfl (aN ?_))))))
     refine bool_split ((lAtoi ((rdWhole s) ++ (lTrimRight (rdRest s) 48))) == 0) (fun h5 => ?_) (fun h5 => ?_)
     ·refine ac_then' (b := (lAtoi ((rdWhole s) ++ (lTrimRight (rdRest s) 48))) == 0) h5 rfl (aQ (aL (ao 48 rfl rfl (st_bd (us := []) (v := .agg #[.int .i64 0, .int .i64 0]) rfl rfl (bd52_ ) (aS [.int .i64 0, .int .i64 0] agg52 0 rfl rfl rfl rfl rfl rfl (aA 3 (.bool false) rfl rfl (aN (ac_ret (fin_eq (v := .tuple #[.agg #[.int .i64 0, .int .i64 0], .bool false]) (by show _ = (fun (r : Dec × Bool) => (.tuple #[.agg #[.int .i64 r.1.c, .int .i64 r.1.scale], .bool r.2] : Value)) (decRead s); rw [decRead, h5, h4, h3, h2, h1] <;> rfl) (fin_ret (res_ct (vs := [.int .i64 0, .int .i64 0]) agg52 0 rfl rfl rfl rfl rfl rfl rfl)))))))))))
     ·refine ac_else' (b := (lAtoi ((rdWhole s) ++ (lTrimRight (rdRest s) 48))) == 0) h5 rfl (ac_skip (aQ (aQ (aL (aM 49 (.bool (rdMinus s)) rfl rfl (aN (ac_then' (b := rdMinus s) h4 rfl (aL (aM 50 (.int .i64 (lAtoi ((rdWhole s) ++ (lTrimRight (rdRest s) 48)))) rfl rfl (ao 51 rfl rfl (st_un (v := .int .i64 (w64 (0 - (lAtoi ((rdWhole s) ++ (lTrimRight (rdRest s) 48)))))) rfl rfl (un_neg rfl) (aA 9 (.int .i64 (w64 (0 - (lAtoi ((rdWhole s) ++ (lTrimRight (rdRest s) 48)))))) rfl rfl (aN (aQ (aL (aM 52 (.int .i64 (w64 (0 - (lAtoi ((rdWhole s) ++ (lTrimRight (rdRest s) 48)))))) rfl rfl (aM 53 (.string (lTrimRight (rdRest s) 48)) rfl rfl ?_)))))))))))))))))
      refine ao 54 rfl rfl (st_slen (s := (lTrimRight (rdRest s) 48)) rfl Tryd.underlying9 rfl (ao 55 rfl rfl (st_bd (us := [(0, .int .i64 (w64 (0 - (lAtoi ((rdWhole s) ++ (lTrimRight (rdRest s) 48)))))), (1, .int .i64 (((lTrimRight (rdRest s) 48)).size : Int))]) (v := .agg #[.int .i64 (w64 (0 - (lAtoi ((rdWhole s) ++ (lTrimRight (rdRest s) 48))))), .int .i64 (((lTrimRight (rdRest s) 48)).size : Int)]) rfl rfl (bd52_0_1 _ _) (aS [.int .i64 (w64 (0 - (lAtoi ((rdWhole s) ++ (lTrimRight (rdRest s) 48))))), .int .i64 (((lTrimRight (rdRest s) 48)).size : Int)] agg52 0 rfl rfl rfl rfl rfl rfl (aA 3 (.bool true) rfl rfl (aN (ac_ret ?_)))))))
      exact fin_eq (v := .tuple #[.agg #[.int .i64 (w64 (0 - (lAtoi ((rdWhole s) ++ (lTrimRight (rdRest s) 48))))), .int .i64 (((lTrimRight (rdRest s) 48)).size : Int)], .bool true]) (by show _ = (fun (r : Dec × Bool) => (.tuple #[.agg #[.int .i64 r.1.c, .int .i64 r.1.scale], .bool r.2] : Value)) (decRead s); rw [decRead, h5, h4, h3, h2, h1] <;> rfl) (fin_ret (res_ct (vs := [.int .i64 (w64 (0 - (lAtoi ((rdWhole s) ++ (lTrimRight (rdRest s) 48))))), .int .i64 (((lTrimRight (rdRest s) 48)).size : Int)]) agg52 0 rfl rfl rfl rfl rfl rfl rfl))
    ·refine aK 45 (by show ((rdMinus s) == true) = false; rw [h4]; rfl) rfl (aK 46 (by show ((rdMinus s) == true) = false; rw [h4]; rfl) rfl (ao 47 rfl rfl (st_pkf' (b := rdMinus s) (v := .bool false) h4 rfl rfl rfl (aN (ac_else rfl (ac_skip (aQ (aQ (aL (aM 49 (.bool (rdMinus s)) rfl rfl (aN (ac_else' (b := rdMinus s) h4 rfl (ac_skip (aQ (aL (aM 52 (.int .i64 (lAtoi ((rdWhole s) ++ (lTrimRight (rdRest s) 48)))) rfl rfl (aM 53 (.string (lTrimRight (rdRest s) 48)) rfl rfl (ao 54 rfl rfl (st_slen (s := (lTrimRight (rdRest s) 48)) rfl Tryd.underlying9 rfl ?_)))))))))))))))))))
     refine ao 55 rfl rfl (st_bd (us := [(0, .int .i64 (lAtoi ((rdWhole s) ++ (lTrimRight (rdRest s) 48)))), (1, .int .i64 (((lTrimRight (rdRest s) 48)).size : Int))]) (v := .agg #[.int .i64 (lAtoi ((rdWhole s) ++ (lTrimRight (rdRest s) 48))), .int .i64 (((lTrimRight (rdRest s) 48)).size : Int)]) rfl rfl (bd52_0_1 _ _) (aS [.int .i64 (lAtoi ((rdWhole s) ++ (lTrimRight (rdRest s) 48))), .int .i64 (((lTrimRight (rdRest s) 48)).size : Int)] agg52 0 rfl rfl rfl rfl rfl rfl (aA 3 (.bool true) rfl rfl (aN (ac_ret ?_)))))
     exact fin_eq (v := .tuple #[.agg #[.int .i64 (lAtoi ((rdWhole s) ++ (lTrimRight (rdRest s) 48))), .int .i64 (((lTrimRight (rdRest s) 48)).size : Int)], .bool true]) (by show _ = (fun (r : Dec × Bool) => (.tuple #[.agg #[.int .i64 r.1.c, .int .i64 r.1.scale], .bool r.2] : Value)) (decRead s); rw [decRead, h4, h3, h2, h1] <;> rfl) (fin_ret (res_ct (vs := [.int .i64 (lAtoi ((rdWhole s) ++ (lTrimRight (rdRest s) 48))), .int .i64 (((lTrimRight (rdRest s) 48)).size : Int)]) agg52 0 rfl rfl rfl rfl rfl rfl rfl))
   ·refine ac_then' (b := !(decFig (rdRest s) 6)) (by rw [h3]; rfl) rfl (aQ (aL (ao 33 rfl rfl (st_bd (us := []) (v := .agg #[.int .i64 0, .int .i64 0]) rfl rfl (bd52_ ) (aS [.int .i64 0, .int .i64 0] agg52 0 rfl rfl rfl rfl rfl rfl (aA 3 (.bool false) rfl rfl (aN (ac_ret (fin_eq (v := .tuple #[.agg #[.int .i64 0, .int .i64 0], .bool false]) (by show _ = (fun (r : Dec × Bool) => (.tuple #[.agg #[.int .i64 r.1.c, .int .i64 r.1.scale], .bool r.2] : Value)) (decRead s); rw [decRead, h3, h2, h1] <;> rfl) (fin_ret (res_ct (vs := [.int .i64 0, .int .i64 0]) agg52 0 rfl rfl rfl rfl rfl rfl rfl)))))))))))
  ·refine aK 28 (by show ((rdPoint s) == true) = false; rw [h2]; rfl) rfl (aK 29 (by show ((rdPoint s) == true) = false; rw [h2]; rfl) rfl (aK 30 (by show ((rdPoint s) == true) = false; rw [h2]; rfl) rfl (ar_gd (d := (some 31)) (by show ((!(decFig (rdWhole s) 5)) == false) = true; rw [h1]; rfl) rfl (st_pkf' (b := rdPoint s) (v := .bool false) h2 rfl rfl rfl (ao 32 rfl rfl (st_pkf' (b := !(decFig (rdWhole s) 5)) (v := .bool false) (by rw [h1]; rfl) rfl rfl rfl (aN (ac_else rfl (ac_skip (aQ (aL (aM 34 (.string (rdRest s)) rfl rfl (aC 35 (c_lTrimRight (rdRest s) 48 (by decide) (rest_sz (.inl h2))) Tryd.func40 ⟨rfl, by decide⟩ rfl rfl ?_)))))))))))))
   refine aA 7 (.string (lTrimRight (rdRest s) 48)) rfl rfl (aN (aQ (aL (aM 37 (.string (rdWhole s)) rfl rfl (aM 38 (.string (lTrimRight (rdRest s) 48)) rfl rfl (aB 39 (.string ((rdWhole s) ++ (lTrimRight (rdRest s) 48))) rfl rfl rfl (bi_sadd (sz_two (fig_le h1) (rest_sz2 (.inl h2)) (by decide))) (aC 40 (c_lAtoi ((rdWhole s) ++ (lTrimRight (rdRest s) 48)) (atoi_sz h1 (.inl h2)) (atoi_ok h1 (.inl h2))) Tryd.func41 ⟨rfl, by decide⟩ rfl rfl (aM 36 (.tuple #[.int .i64 (lAtoi ((rdWhole s) ++ (lTrimRight (rdRest s) 48))), .nilIface]) rfl rfl (aX 41 (.int .i64 (lAtoi ((rdWhole s) ++ (lTrimRight (rdRest s) 48)))) rfl rfl rfl (aX 42 (.nilIface) rfl rfl rfl ?_))))))))))
   refine aA 9 (.int .i64 (lAtoi ((rdWhole s) ++ (lTrimRight (rdRest s) 48)))) rfl rfl (aA 10 (.nilIface) rfl rfl (aN (aQ (aQ (aL (aM 43 (.bool (rdMinus s)) rfl rfl (aM 44 (.bool (rdMinus s)) rfl rfl ?_)))))))
   refine bool_split (rdMinus s) (fun h3 => ?_) (fun h3 => ?_)
   ·refine ar_gd (d := (some 45)) (by show ((rdMinus s) == true) = true; rw [h3]; rfl) rfl (st_move (v := .int .i64 (lAtoi ((rdWhole s) ++ (lTrimRight (rdRest s) 48)))) rfl rfl (ar_gd (d := (some 46)) (by show ((rdMinus s) == true) = true; rw [h3]; rfl) rfl (st_bi (r := .bool ((lAtoi ((rdWhole s) ++ (lTrimRight (rdRest s) 48))) == 0)) rfl rfl rfl (bi_eql rfl) (ao 47 rfl rfl (st_pkt' (b := rdMinus s) (v := .bool ((lAtoi ((rdWhole s) ++ (lTrimRight (rdRest s) 48))) == 0)) h3 rfl rfl rfl (aN ?_))))))
    refine bool_split ((lAtoi ((rdWhole s) ++ (lTrimRight (rdRest s) 48))) == 0) (fun h4 => ?_) (fun h4 => ?_)
    ·refine ac_then' (b := (lAtoi ((rdWhole s) ++ (lTrimRight (rdRest s) 48))) == 0) h4 rfl (aQ (aL (ao 48 rfl rfl (st_bd (us := []) (v := .agg #[.int .i64 0, .int .i64 0]) rfl rfl (bd52_ ) (aS [.int .i64 0, .int .i64 0] agg52 0 rfl rfl rfl rfl rfl rfl (aA 3 (.bool false) rfl rfl (aN (ac_ret (fin_eq (v := .tuple #[.agg #[.int .i64 0, .int .i64 0], .bool false]) (by show _ = (fun (r : Dec × Bool) => (.tuple #[.agg #[.int .i64 r.1.c, .int .i64 r.1.scale], .bool r.2] : Value)) (decRead s); rw [decRead, h4, h3, h2, h1] <;> rfl) (fin_ret (res_ct (vs := [.int .i64 0, .int .i64 0]) agg52 0 rfl rfl rfl rfl rfl rfl rfl)))))))))))
    ·refine ac_else' (b := (lAtoi ((rdWhole s) ++ (lTrimRight (rdRest s) 48))) == 0) h4 rfl (ac_skip (aQ (aQ (aL (aM 49 (.bool (rdMinus s)) rfl rfl (aN (ac_then' (b := rdMinus s) h3 rfl (aL (aM 50 (.int .i64 (lAtoi ((rdWhole s) ++ (lTrimRight (rdRest s) 48)))) rfl rfl (ao 51 rfl rfl (st_un (v := .int .i64 (w64 (0 - (lAtoi ((rdWhole s) ++ (lTrimRight (rdRest s) 48)))))) rfl rfl (un_neg rfl) (aA 9 (.int .i64 (w64 (0 - (lAtoi ((rdWhole s) ++ (lTrimRight (rdRest s) 48)))))) rfl rfl (aN (aQ (aL (aM 52 (.int .i64 (w64 (0 - (lAtoi ((rdWhole s) ++ (lTrimRight (rdRest s) 48)))))) rfl rfl (aM 53 (.string (lTrimRight (rdRest s) 48)) rfl rfl ?_)))))))))))))))))
     refine ao 54 rfl rfl (st_slen (s := (lTrimRight (rdRest s) 48)) rfl Tryd.underlying9 rfl (ao 55 rfl rfl (st_bd (us := [(0, .int .i64 (w64 (0 - (lAtoi ((rdWhole s) ++ (lTrimRight (rdRest s) 48)))))), (1, .int .i64 (((lTrimRight (rdRest s) 48)).size : Int))]) (v := .agg #[.int .i64 (w64 (0 - (lAtoi ((rdWhole s) ++ (lTrimRight (rdRest s) 48))))), .int .i64 (((lTrimRight (rdRest s) 48)).size : Int)]) rfl rfl (bd52_0_1 _ _) (aS [.int .i64 (w64 (0 - (lAtoi ((rdWhole s) ++ (lTrimRight (rdRest s) 48))))), .int .i64 (((lTrimRight (rdRest s) 48)).size : Int)] agg52 0 rfl rfl rfl rfl rfl rfl (aA 3 (.bool true) rfl rfl (aN (ac_ret ?_)))))))
     exact fin_eq (v := .tuple #[.agg #[.int .i64 (w64 (0 - (lAtoi ((rdWhole s) ++ (lTrimRight (rdRest s) 48))))), .int .i64 (((lTrimRight (rdRest s) 48)).size : Int)], .bool true]) (by show _ = (fun (r : Dec × Bool) => (.tuple #[.agg #[.int .i64 r.1.c, .int .i64 r.1.scale], .bool r.2] : Value)) (decRead s); rw [decRead, h4, h3, h2, h1] <;> rfl) (fin_ret (res_ct (vs := [.int .i64 (w64 (0 - (lAtoi ((rdWhole s) ++ (lTrimRight (rdRest s) 48))))), .int .i64 (((lTrimRight (rdRest s) 48)).size : Int)]) agg52 0 rfl rfl rfl rfl rfl rfl rfl))
   ·refine aK 45 (by show ((rdMinus s) == true) = false; rw [h3]; rfl) rfl (aK 46 (by show ((rdMinus s) == true) = false; rw [h3]; rfl) rfl (ao 47 rfl rfl (st_pkf' (b := rdMinus s) (v := .bool false) h3 rfl rfl rfl (aN (ac_else rfl (ac_skip (aQ (aQ (aL (aM 49 (.bool (rdMinus s)) rfl rfl (aN (ac_else' (b := rdMinus s) h3 rfl (ac_skip (aQ (aL (aM 52 (.int .i64 (lAtoi ((rdWhole s) ++ (lTrimRight (rdRest s) 48)))) rfl rfl (aM 53 (.string (lTrimRight (rdRest s) 48)) rfl rfl (ao 54 rfl rfl (st_slen (s := (lTrimRight (rdRest s) 48)) rfl Tryd.underlying9 rfl ?_)))))))))))))))))))
    refine ao 55 rfl rfl (st_bd (us := [(0, .int .i64 (lAtoi ((rdWhole s) ++ (lTrimRight (rdRest s) 48)))), (1, .int .i64 (((lTrimRight (rdRest s) 48)).size : Int))]) (v := .agg #[.int .i64 (lAtoi ((rdWhole s) ++ (lTrimRight (rdRest s) 48))), .int .i64 (((lTrimRight (rdRest s) 48)).size : Int)]) rfl rfl (bd52_0_1 _ _) (aS [.int .i64 (lAtoi ((rdWhole s) ++ (lTrimRight (rdRest s) 48))), .int .i64 (((lTrimRight (rdRest s) 48)).size : Int)] agg52 0 rfl rfl rfl rfl rfl rfl (aA 3 (.bool true) rfl rfl (aN (ac_ret ?_)))))
    exact fin_eq (v := .tuple #[.agg #[.int .i64 (lAtoi ((rdWhole s) ++ (lTrimRight (rdRest s) 48))), .int .i64 (((lTrimRight (rdRest s) 48)).size : Int)], .bool true]) (by show _ = (fun (r : Dec × Bool) => (.tuple #[.agg #[.int .i64 r.1.c, .int .i64 r.1.scale], .bool r.2] : Value)) (decRead s); rw [decRead, h3, h2, h1] <;> rfl) (fin_ret (res_ct (vs := [.int .i64 (lAtoi ((rdWhole s) ++ (lTrimRight (rdRest s) 48))), .int .i64 (((lTrimRight (rdRest s) 48)).size : Int)]) agg52 0 rfl rfl rfl rfl rfl rfl rfl))
 ·refine aK 26 (by show ((!(decFig (rdWhole s) 5)) == false) = false; rw [h1]; rfl) rfl (aK 27 (by show ((!(decFig (rdWhole s) 5)) == false) = false; rw [h1]; rfl) rfl (aK 28 rfl rfl (aK 29 rfl rfl (aK 30 rfl rfl (aK 31 (by show ((!(decFig (rdWhole s) 5)) == false) = false; rw [h1]; rfl) rfl (ao 32 rfl rfl (st_pkt' (b := !(decFig (rdWhole s) 5)) (v := .bool true) (by rw [h1]; rfl) rfl rfl rfl (aN (ac_then rfl (aQ (aL (ao 33 rfl rfl (st_bd (us := []) (v := .agg #[.int .i64 0, .int .i64 0]) rfl rfl (bd52_ ) (aS [.int .i64 0, .int .i64 0] agg52 0 rfl rfl rfl rfl rfl rfl (aA 3 (.bool false) rfl rfl (aN (ac_ret ?_)))))))))))))))))
  exact fin_eq (v := .tuple #[.agg #[.int .i64 0, .int .i64 0], .bool false]) (by show _ = (fun (r : Dec × Bool) => (.tuple #[.agg #[.int .i64 r.1.c, .int .i64 r.1.scale], .bool r.2] : Value)) (decRead s); rw [decRead, h1] <;> rfl) (fin_ret (res_ct (vs := [.int .i64 0, .int .i64 0]) agg52 0 rfl rfl rfl rfl rfl rfl rfl))
end Go.Proofs.YtalffjplbhelcaaDoor
namespace Go.Proofs.YtalffjplbhelcaaDoor
open Go.RowKit
attribute [local irreducible] AC AR DWalk
end Go.Proofs.YtalffjplbhelcaaDoor
namespace Go.Proofs.YtalffjplbhelcaaDoor
end Go.Proofs.YtalffjplbhelcaaDoor
namespace Go.Proofs.YtalffjplbhelcaaDoor
open Go.RowKit
attribute [local irreducible] AC AR DWalk
end Go.Proofs.YtalffjplbhelcaaDoor
namespace Go.Proofs.YtalffjplbhelcaaDoor
open Go.RowKit
attribute [local irreducible] AC AR DWalk
end Go.Proofs.YtalffjplbhelcaaDoor
namespace Go.Proofs.YtalffjplbhelcaaDoor
open Go.RowKit
attribute [local irreducible] AC AR DWalk
end Go.Proofs.YtalffjplbhelcaaDoor
namespace Go.Proofs.YtalffjplbhelcaaDoor
structure Tok where
  kind : Int
  text : ByteArray
  at_ : Cx
deriving DecidableEq
end Go.Proofs.YtalffjplbhelcaaDoor
namespace Go.Proofs.YtalffjplbhelcaaDoor
open Go.RowKit
section
variable {p : Program} {n : Nat} {ops : Array Oper} {Q : Exit → Env → List Box → Prop} {l : List Oper} {E : Env} {H : List Box} {o : Oper} {ρ : Operand → Value} {K : Post}
end
end Go.Proofs.YtalffjplbhelcaaDoor
namespace Go.Proofs.YtalffjplbhelcaaDoor
open Go.RowKit
attribute [local irreducible] AC AR DWalk
end Go.Proofs.YtalffjplbhelcaaDoor
namespace Go.Proofs.YtalffjplbhelcaaDoor
def restL (s : ByteArray) (i : Nat) : List UInt8 := s.data.toList.drop i
theorem rest_len (s : ByteArray) (i : Nat) : (restL s i).length = s.size - i := by
  unfold restL
  rw [List.length_drop]
  rfl
theorem rest_add {s : ByteArray} {i : Nat} {w r : List UInt8} (h : restL s i = w ++ r) : restL s (i + w.length) = r := by
  unfold restL at *
  rw [← List.drop_drop, h, List.drop_left]
theorem rest_cons {s : ByteArray} {i : Nat} {b : UInt8} {r : List UInt8} (h : restL s i = b :: r) : i < s.size ∧ sAt s i = (b.toNat : Int) ∧ restL s (i + 1) = r := by
  have hl := rest_len s i
  rw [h] at hl
  simp only [List.length_cons] at hl
  have hi : i < s.size := by omega
  refine ⟨hi, ?_, rest_add (w := [b]) h⟩
  have e : s.data.toList[i]? = some b := by
    have h0 : (s.data.toList.drop i)[0]? = some b := by
      rw [show s.data.toList.drop i = b :: r from h]; rfl
    rw [List.getElem?_drop] at h0
    exact h0
  unfold sAt
  have e2 : s[i]? = some b := by
    rw [getElem?_pos s i hi]
    rw [Array.getElem?_toList] at e
    obtain ⟨_, hb⟩ := Array.getElem?_eq_some_iff.1 e
    rw [← hb]
    rfl
  rw [e2]
  rfl
theorem sub_rest {s : ByteArray} {i : Nat} {w post : List UInt8} (h : restL s i = w ++ post) : subS s (i : Int) ((i + w.length : Nat) : Int) = byA w := by
  unfold subS byA
  apply ByteArray.ext
  apply Array.ext'
  simp only [Int.toNat_natCast, ByteArray.data_extract, Array.toList_extract]
  rw [List.extract_eq_take_drop, show (s.data.toList.drop i) = w ++ post from h]
  simp
section
variable {s : ByteArray} {n i : Nat} {line start : Int} {any_ : Bool} {out : List Tok}
end
end Go.Proofs.YtalffjplbhelcaaDoor
namespace Go.Proofs.YtalffjplbhelcaaDoor
theorem sub_tl (b : UInt8) (r : List UInt8) : subS (byA (b :: r)) 1 (((byA (b :: r)).size : Nat) : Int) = byA r := by
  have h : restL (byA (b :: r)) 1 = r ++ [] := by simp [restL, byA]
  have := sub_rest (s := byA (b :: r)) (i := 1) h
  rw [← this]
  congr 1
  show ((r.length + 1 : Nat) : Int) = _
  omega
theorem sAt_hd (b : UInt8) (r : List UInt8) : sAt (byA (b :: r)) 0 = (b.toNat : Int) := (rest_cons (s := byA (b :: r)) (i := 0) rfl).2.1
theorem byA_pos (b : UInt8) (r : List UInt8) : 0 < (byA (b :: r)).size := Nat.succ_pos _
section
variable {p : Program} {n : Nat} {o : Oper} {H : List Box} {ρ : Operand → Value} {K : Post}
end
end Go.Proofs.YtalffjplbhelcaaDoor
namespace Go.Proofs.YtalffjplbhelcaaDoor
open Go.RowKit
section
variable {p : Program} {n : Nat} {o : Oper} {H : List Box} {ρ : Operand → Value} {K : Post}
end
end Go.Proofs.YtalffjplbhelcaaDoor
namespace Go.Proofs.YtalffjplbhelcaaDoor
open Go.RowKit
attribute [local irreducible] AC AR DWalk
def hPick_e0 (n : Int) (m : Int) : Int := (bif decide ((Int.tmod n m) < 0) then (w64 ((Int.tmod n m) + m)) else (Int.tmod n m))
def hPick (n : Int) (m : Int) : Int := (hPick_e0 n m)
set_option maxRecDepth 100000 in
theorem c_hPick (n : Int) (m : Int) (hm : m ≠ 0) : Gets Tryd.prog 15 #[.int .i64 n, .int .i64 m] ((fun (r : Int) => (.int .i64 r : Value)) (hPick n m)) := by
 refine gets_fin Tryd.func15 rfl rfl rfl (aQ (aL (aA 4 (.int .i64 0) rfl rfl (aN (aQ (aL (aM 5 (.int .i64 n) rfl rfl (aM 6 (.int .i64 m) rfl rfl (aB 7 (.int .i64 (Int.tmod n m)) rfl rfl rfl (bi_rem hm rfl) (aA 0 (.int .i64 (Int.tmod n m)) rfl rfl (aN (aQ (aQ (aL (aM 8 (.int .i64 (Int.tmod n m)) rfl rfl (aB 9 (.bool (decide ((Int.tmod n m) < 0))) rfl rfl rfl (bi_lss rfl) (aN ?_)))))))))))))))))
 refine ac_mergeE (fun E9 => ((((Env.put E9 (some 10) (.int .i64 (Int.tmod n m))).put (some 11) (.int .i64 m)).put (some 12) (.int .i64 (w64 ((Int.tmod n m) + m)))).put (some 0) (.int .i64 (w64 ((Int.tmod n m) + m))))) (fun E9 => ((((Env.put E9 (some 10) (bif decide ((Int.tmod n m) < 0) then (.int .i64 (Int.tmod n m) : Value) else E9 10)).put (some 11) (bif decide ((Int.tmod n m) < 0) then (.int .i64 m : Value) else E9 11)).put (some 12) (bif decide ((Int.tmod n m) < 0) then (.int .i64 (w64 ((Int.tmod n m) + m)) : Value) else E9 12)).put (some 0) (.int .i64 (hPick_e0 n m)))) (b := decide ((Int.tmod n m) < 0)) rfl (fun hm => ?_) (fun hm => ?_) (fun hm => ?_) ?_
 ·refine aL (aM 10 (.int .i64 (Int.tmod n m)) rfl rfl (aM 11 (.int .i64 m) rfl rfl (aB 12 (.int .i64 (w64 ((Int.tmod n m) + m))) rfl rfl rfl (bi_add rfl) (aA 0 (.int .i64 (w64 ((Int.tmod n m) + m))) rfl rfl (aN ?_)))))
  exact ⟨rfl, rfl, rfl⟩
 ·unfold hPick_e0; rw [hm]; rfl
 ·unfold hPick_e0; rw [hm]; exact ((put_self rfl).trans ((put_self rfl).trans ((put_self rfl).trans (put_self rfl))))
 refine aQ (aL (aM 13 (.int .i64 (hPick_e0 n m)) rfl rfl (aA 4 (.int .i64 (hPick_e0 n m)) rfl rfl (aN (ac_ret (fin_eq (v := .int .i64 (hPick_e0 n m)) rfl (fin_ret (res_tmp rfl rfl))))))))
end Go.Proofs.YtalffjplbhelcaaDoor
namespace Go.Proofs.YtalffjplbhelcaaDoor
theorem hPick_spec (n : Int) {m : Int} (hm : 0 < m) (hm' : m ≤ 9223372036854775807) : hPick n m = n % m := by
  have h1 := Int.tmod_lt_of_pos n hm
  have h2 := Int.lt_tmod_of_pos n hm
  have he := Int.mul_tdiv_add_tmod n m
  unfold hPick hPick_e0
  by_cases h : n.tmod m < 0
  · rw [decide_eq_true h, w64_in (by omega)]
    simp only [cond_true]
    refine (((Int.ediv_emod_unique (q := n.tdiv m - 1) hm).2 ⟨?_, by omega, by omega⟩).2).symm
    rw [Int.mul_sub, Int.mul_one]; omega
  · rw [decide_eq_false h]
    simp only [cond_false]
    exact (((Int.ediv_emod_unique (q := n.tdiv m) hm).2 ⟨by omega, by omega, by omega⟩).2).symm
theorem hPick_lt (n : Int) {m : Int} (hm : 0 < m) (hm' : m ≤ 9223372036854775807) : 0 ≤ hPick n m ∧ hPick n m < m := by
  rw [hPick_spec n hm hm']
  exact ⟨Int.emod_nonneg n (by omega), Int.emod_lt_of_pos n hm⟩
end Go.Proofs.YtalffjplbhelcaaDoor
namespace Go.Proofs.YtalffjplbhelcaaDoor
end Go.Proofs.YtalffjplbhelcaaDoor
namespace Go.Proofs.YtalffjplbhelcaaDoor
section
variable {p : Program} {n : Nat} {o : Oper} {H : List Box} {ρ : Operand → Value} {K : Post}
end
def loopsOf : Code → List Code
  | .seq a b => loopsOf a ++ loopsOf b
  | .cond _ a b => loopsOf a ++ loopsOf b
  | .block _ a => loopsOf a
  | .scope a => loopsOf a
  | .loop c => [c]
  | _ => []
def loopN (k : Nat) (c : Code) : Option Code := (loopsOf c)[k]?
end Go.Proofs.YtalffjplbhelcaaDoor
namespace Go.Proofs.YtalffjplbhelcaaDoor
open Go.RowKit
attribute [local irreducible] AC AR DWalk
def rdN (c x : Int) : Int := w64 ((w64 (10 * c)) + (w64 (IntKind.u8.wrap (x - 48))))
def rL1 : List UInt8 → Int → Nat → Option (List UInt8 × Int × Nat)
 | [], c, w => some ([], c, w)
 | b :: l, c, w => bif rDigit (b.toNat : Int) then (bif decide (w + 1 > 5) then none else rL1 l (rdN c (b.toNat : Int)) (w + 1)) else some (b :: l, c, w)
def rL2 : List UInt8 → Int → Int → Option (Int × Int)
 | [], c, sc => some (c, sc)
 | b :: l, c, sc => bif rDigit (b.toNat : Int) then rL2 l (rdN c (b.toNat : Int)) (w64 (sc + 1)) else none
def rL3 : Nat → Int → Int → Int × Int
 | 0, c, sc => (c, sc)
 | k + 1, c, sc => bif decide (sc > 0) then (bif (Int.tmod c 10) == 0 then rL3 k (w64 (Int.tdiv c 10)) (w64 (sc - 1)) else (c, sc)) else (c, sc)
def rBody (s : ByteArray) : List UInt8 := bif decide ((s.size : Int) > 0) then (bif (sAt s 0) == 45 then s.data.toList.drop 1 else s.data.toList) else s.data.toList
def rMin (s : ByteArray) : Bool := bif decide ((s.size : Int) > 0) then (sAt s 0) == 45 else false
def none0 : Dec × Bool := ((⟨0, 0⟩ : Dec), false)
def rEnd (mn : Bool) (c sc : Int) : Dec × Bool :=
 bif mn then (bif (rL3 6 c sc).1 == 0 then none0 else (bif rRightDec (⟨w64 (0 - ((rL3 6 c sc).1)), (rL3 6 c sc).2⟩ : Dec) then ((⟨w64 (0 - ((rL3 6 c sc).1)), (rL3 6 c sc).2⟩ : Dec), true) else none0))
 else (bif rRightDec (⟨(rL3 6 c sc).1, (rL3 6 c sc).2⟩ : Dec) then ((⟨(rL3 6 c sc).1, (rL3 6 c sc).2⟩ : Dec), true) else none0)
def rTwo (mn : Bool) : Option (Int × Int) → Dec × Bool
 | none => none0
 | some q => rEnd mn q.1 q.2
def rFrac (mn : Bool) : List UInt8 → Int → Dec × Bool
 | [], c => rEnd mn c 0
 | b :: l, c => bif (b.toNat : Int) != 46 then none0 else (bif l.length == 0 then none0 else (bif decide (l.length > 6) then none0 else rTwo mn (rL2 l c 0)))
def rOne (mn : Bool) : Option (List UInt8 × Int × Nat) → Dec × Bool
 | none => none0
 | some q => bif q.2.2 == 0 then none0 else rFrac mn q.1 q.2.1
def rRead (s : ByteArray) : Dec × Bool := rOne (rMin s) (rL1 (rBody s) 0 0)
end Go.Proofs.YtalffjplbhelcaaDoor
