import Derived.Test.YthngkopcadlciaaMSceneFirst10
import Derived.Test.YthngkopcadlciaaMSceneFirst12
import Derived.Test.YthngkopcadlciaaLSceneFirst
import Derived.Test.YthngkopcadlciaaMSceneFirst0
import Derived.WalkKit
import Derived.ProofKit
import Derived.OpenShut
import Derived.ShutString
import Derived.ChangeOld
import Derived.Below
import Derived.SizedLaws
import Derived.ChangeSlices
import Derived.Test.YthngkopcadlciaaMSceneFirst6
set_option linter.unusedVariables false
set_option linter.unusedSimpArgs false
namespace Go.Proofs.Ythngkopcadlciaa
open Go.RowKit
attribute [local irreducible] AC AR DWalk
def lawSceneFirst0 (x : RawRay) (turn : Int) : Bool := (bif ((near0 (hRay x)).2.2) == 1 then (bif known26 then ((near0 (hRay x)).2.2) == 2 else false) else (bif known26 then ((near0 (hRay x)).2.2) == 2 else false))
set_option maxRecDepth 100000 in
theorem c_lawSceneFirst0 (x : RawRay) (turn : Int) (a : Option Addr) (cap : Nat) (H : (lawSceneFirst0 x turn) = true) : Gets Try.prog 15 #[.slice a 0 cap, .agg #[.int .i64 x.x, .int .i64 x.y, .int .i64 x.u, .int .i64 x.w, .int .i64 x.wide, .int .i64 x.lean], .int .i64 turn] (.bool true) := by
  refine gets_fin Try.func15 rfl rfl rfl ?_
  refine ac_seq ?_
  refine ac_region_lit ?_
  refine ao 4 rfl rfl (st_box (v := .agg #[.int .i64 x.x, .int .i64 x.y, .int .i64 x.u, .int .i64 x.w, .int .i64 x.wide, .int .i64 x.lean]) (cs := [.int .i64 x.x, .int .i64 x.y, .int .i64 x.u, .int .i64 x.w, .int .i64 x.wide, .int .i64 x.lean]) rfl rfl rfl fun g0 => ?_)
  refine ao 6 rfl rfl (st_assign (v := .bool false) rfl rfl ?_)
  refine ar_nil ?_
  refine ac_seq ?_
  refine ac_region_lit ?_
  refine ao 21 rfl rfl (st_move (v := .slice a 0 cap) rfl rfl ?_)
  refine ao 22 rfl rfl (st_cf (vs := [.slice a 0 cap]) (r := .slice none 0 0) (c_hScene0 a cap) Try.func55 rfl (by decide) rfl rfl rfl ?_)
  refine ao 7 rfl rfl (st_assign (v := .slice none 0 0) rfl rfl ?_)
  refine ar_nil ?_
  refine ac_seq ?_
  refine ac_region_lit ?_
  refine ao 23 rfl rfl (st_lda (g := g0) (off := 0) (vs := [.int .i64 x.x, .int .i64 x.y, .int .i64 x.u, .int .i64 x.w, .int .i64 x.wide, .int .i64 x.lean]) agg73 0 rfl rfl rfl rfl rfl rfl ?_)
  refine ao 24 rfl rfl (st_cf (vs := [.agg #[.int .i64 x.x, .int .i64 x.y, .int .i64 x.u, .int .i64 x.w, .int .i64 x.wide, .int .i64 x.lean]]) (r := .agg #[.int .i64 ((((hRay x).o).x).lo), .int .i64 ((((hRay x).o).x).hi), .bool ((((hRay x).o).x).no), .int .i64 ((((hRay x).o).y).lo), .int .i64 ((((hRay x).o).y).hi), .bool ((((hRay x).o).y).no), .int .i64 ((((hRay x).o).z).lo), .int .i64 ((((hRay x).o).z).hi), .bool ((((hRay x).o).z).no), .int .i64 ((((hRay x).d).x).lo), .int .i64 ((((hRay x).d).x).hi), .bool ((((hRay x).d).x).no), .int .i64 ((((hRay x).d).y).lo), .int .i64 ((((hRay x).d).y).hi), .bool ((((hRay x).d).y).no), .int .i64 ((((hRay x).d).z).lo), .int .i64 ((((hRay x).d).z).hi), .bool ((((hRay x).d).z).no)]) (c_hRay x) Try.func56 rfl (by decide) rfl rfl rfl ?_)
  refine ao 8 rfl rfl (st_new zero77 rfl fun g1 => ?_)
  refine ar_op (d := none) rfl rfl (st_sta (g := g1) (off := 0) (us := [.int .i64 ((((hRay x).o).x).lo), .int .i64 ((((hRay x).o).x).hi), .bool ((((hRay x).o).x).no), .int .i64 ((((hRay x).o).y).lo), .int .i64 ((((hRay x).o).y).hi), .bool ((((hRay x).o).y).no), .int .i64 ((((hRay x).o).z).lo), .int .i64 ((((hRay x).o).z).hi), .bool ((((hRay x).o).z).no), .int .i64 ((((hRay x).d).x).lo), .int .i64 ((((hRay x).d).x).hi), .bool ((((hRay x).d).x).no), .int .i64 ((((hRay x).d).y).lo), .int .i64 ((((hRay x).d).y).hi), .bool ((((hRay x).d).y).no), .int .i64 ((((hRay x).d).z).lo), .int .i64 ((((hRay x).d).z).hi), .bool ((((hRay x).d).z).no)]) (cs := [.int .i64 ((((hRay x).o).x).lo), .int .i64 ((((hRay x).o).x).hi), .bool ((((hRay x).o).x).no), .int .i64 ((((hRay x).o).y).lo), .int .i64 ((((hRay x).o).y).hi), .bool ((((hRay x).o).y).no), .int .i64 ((((hRay x).o).z).lo), .int .i64 ((((hRay x).o).z).hi), .bool ((((hRay x).o).z).no), .int .i64 ((((hRay x).d).x).lo), .int .i64 ((((hRay x).d).x).hi), .bool ((((hRay x).d).x).no), .int .i64 ((((hRay x).d).y).lo), .int .i64 ((((hRay x).d).y).hi), .bool ((((hRay x).d).y).no), .int .i64 ((((hRay x).d).z).lo), .int .i64 ((((hRay x).d).z).hi), .bool ((((hRay x).d).z).no)]) agg77 0 rfl rfl rfl rfl rfl rfl rfl rfl rfl ?_)
  refine ar_nil ?_
  refine ac_seq ?_
  refine ac_region_lit ?_
  refine ao 26 rfl rfl (st_move (v := .slice none 0 0) rfl rfl ?_)
  refine ao 27 rfl rfl (st_lda (g := g1) (off := 0) (vs := [.int .i64 ((((hRay x).o).x).lo), .int .i64 ((((hRay x).o).x).hi), .bool ((((hRay x).o).x).no), .int .i64 ((((hRay x).o).y).lo), .int .i64 ((((hRay x).o).y).hi), .bool ((((hRay x).o).y).no), .int .i64 ((((hRay x).o).z).lo), .int .i64 ((((hRay x).o).z).hi), .bool ((((hRay x).o).z).no), .int .i64 ((((hRay x).d).x).lo), .int .i64 ((((hRay x).d).x).hi), .bool ((((hRay x).d).x).no), .int .i64 ((((hRay x).d).y).lo), .int .i64 ((((hRay x).d).y).hi), .bool ((((hRay x).d).y).no), .int .i64 ((((hRay x).d).z).lo), .int .i64 ((((hRay x).d).z).hi), .bool ((((hRay x).d).z).no)]) agg77 0 rfl rfl rfl rfl rfl rfl ?_)
  refine ao 28 rfl rfl (st_cf (vs := [.slice none 0 0, .agg #[.int .i64 ((((hRay x).o).x).lo), .int .i64 ((((hRay x).o).x).hi), .bool ((((hRay x).o).x).no), .int .i64 ((((hRay x).o).y).lo), .int .i64 ((((hRay x).o).y).hi), .bool ((((hRay x).o).y).no), .int .i64 ((((hRay x).o).z).lo), .int .i64 ((((hRay x).o).z).hi), .bool ((((hRay x).o).z).no), .int .i64 ((((hRay x).d).x).lo), .int .i64 ((((hRay x).d).x).hi), .bool ((((hRay x).d).x).no), .int .i64 ((((hRay x).d).y).lo), .int .i64 ((((hRay x).d).y).hi), .bool ((((hRay x).d).y).no), .int .i64 ((((hRay x).d).z).lo), .int .i64 ((((hRay x).d).z).hi), .bool ((((hRay x).d).z).no)]]) (r := .tuple #[.int .i64 ((near0 (hRay x)).1), .agg #[.int .i64 (((near0 (hRay x)).2.1).lo), .int .i64 (((near0 (hRay x)).2.1).hi), .bool (((near0 (hRay x)).2.1).no)], .int .i64 ((near0 (hRay x)).2.2)]) (c_near0 (hRay x)) Try.func57 rfl (by decide) rfl rfl rfl ?_)
  refine ao 25 rfl rfl (st_move (v := .tuple #[.int .i64 ((near0 (hRay x)).1), .agg #[.int .i64 (((near0 (hRay x)).2.1).lo), .int .i64 (((near0 (hRay x)).2.1).hi), .bool (((near0 (hRay x)).2.1).no)], .int .i64 ((near0 (hRay x)).2.2)]) rfl rfl ?_)
  refine ao 29 rfl rfl (st_ex (vs := [.int .i64 ((near0 (hRay x)).1), .agg #[.int .i64 (((near0 (hRay x)).2.1).lo), .int .i64 (((near0 (hRay x)).2.1).hi), .bool (((near0 (hRay x)).2.1).no)], .int .i64 ((near0 (hRay x)).2.2)]) (v := .int .i64 ((near0 (hRay x)).1)) rfl rfl rfl ?_)
  refine ao 30 rfl rfl (st_ex (vs := [.int .i64 ((near0 (hRay x)).1), .agg #[.int .i64 (((near0 (hRay x)).2.1).lo), .int .i64 (((near0 (hRay x)).2.1).hi), .bool (((near0 (hRay x)).2.1).no)], .int .i64 ((near0 (hRay x)).2.2)]) (v := .agg #[.int .i64 (((near0 (hRay x)).2.1).lo), .int .i64 (((near0 (hRay x)).2.1).hi), .bool (((near0 (hRay x)).2.1).no)]) rfl rfl rfl ?_)
  refine ao 31 rfl rfl (st_ex (vs := [.int .i64 ((near0 (hRay x)).1), .agg #[.int .i64 (((near0 (hRay x)).2.1).lo), .int .i64 (((near0 (hRay x)).2.1).hi), .bool (((near0 (hRay x)).2.1).no)], .int .i64 ((near0 (hRay x)).2.2)]) (v := .int .i64 ((near0 (hRay x)).2.2)) rfl rfl rfl ?_)
  refine ao 10 rfl rfl (st_new zero26 rfl fun g2 => ?_)
  refine ao 9 rfl rfl (st_assign (v := .int .i64 ((near0 (hRay x)).1)) rfl rfl ?_)
  refine ar_op (d := none) rfl rfl (st_sta (g := g2) (off := 0) (us := [.int .i64 (((near0 (hRay x)).2.1).lo), .int .i64 (((near0 (hRay x)).2.1).hi), .bool (((near0 (hRay x)).2.1).no)]) (cs := [.int .i64 (((near0 (hRay x)).2.1).lo), .int .i64 (((near0 (hRay x)).2.1).hi), .bool (((near0 (hRay x)).2.1).no)]) agg26 0 rfl rfl rfl rfl rfl rfl rfl rfl rfl ?_)
  refine ao 11 rfl rfl (st_assign (v := .int .i64 ((near0 (hRay x)).2.2)) rfl rfl ?_)
  refine ar_nil ?_
  refine ac_seq ?_
  refine ac_seq ?_
  refine ac_region_lit ?_
  refine ao 32 rfl rfl (st_move (v := .int .i64 ((near0 (hRay x)).2.2)) rfl rfl ?_)
  refine ao 33 rfl rfl (st_bi (u := .int .i64 ((near0 (hRay x)).2.2)) (v := .int .i64 1) (r := .bool (((near0 (hRay x)).2.2) == 1)) rfl rfl rfl (bi_eql rfl) ?_)
  refine ar_nil ?_
  refine bool_split (((near0 (hRay x)).2.2) == 1) (fun h1 => ?_) (fun h1 => ?_)
  · refine ac_then' (b := ((near0 (hRay x)).2.2) == 1) h1 rfl ?_
    refine ac_seq ?_
    refine ac_region_lit ?_
    refine ao 34 rfl rfl (st_move (v := .slice none 0 0) rfl rfl ?_)
    refine ao 35 rfl rfl (st_ln (a := none) (m := 0) (c := 0) rfl Try.underlying74 rfl ?_)
    refine ao 36 rfl rfl (st_move (v := .int .i64 0) rfl rfl ?_)
    refine ar_nil ?_
    refine ac_block ?_
    refine ac_rounds 61 ?_
    refine ar_round ?_
    refine ac_seq ?_
    refine ac_region_lit ?_
    refine ao 37 rfl rfl (st_bi (u := .int .i64 0) (v := .int .i64 0) (r := .bool false) rfl rfl rfl (bi_lss (by decide)) ?_)
    refine ar_nil ?_
    refine ac_seq ?_
    refine ac_else rfl ?_
    refine ac_exit ?_
    refine ac_seq ?_
    refine ac_seq ?_
    refine ac_region_lit ?_
    refine ao 76 rfl rfl (st_move (v := .slice none 0 0) rfl rfl ?_)
    refine ao 77 rfl rfl (st_ln (a := none) (m := 0) (c := 0) rfl Try.underlying74 rfl ?_)
    refine ao 78 rfl rfl (st_bi (u := .int .i64 0) (v := .int .i64 0) (r := .bool true) rfl rfl rfl (bi_eql (by decide)) ?_)
    refine ar_nil ?_
    refine ac_then rfl ?_
    refine ac_seq ?_
    refine ac_region_lit ?_
    refine ao 79 rfl rfl (st_cf (vs := []) (r := .bool known26) c_known26 Try.func59 rfl (by decide) rfl rfl rfl ?_)
    refine ao 80 rfl rfl (st_move (v := .bool known26) rfl rfl ?_)
    refine bool_split (known26) (fun h2 => ?_) (fun h2 => nomatch (show false = true from (show (lawSceneFirst0 x turn) = _ from (eT h1 (eF h2 rfl))).symm.trans H))
    refine ar_gd (d := (some 81)) (by show (known26 == true) = true; rw [h2]; rfl) rfl (st_move (v := .int .i64 ((near0 (hRay x)).2.2)) rfl rfl ?_)
    refine ar_gd (d := (some 82)) (by show (known26 == true) = true; rw [h2]; rfl) rfl (st_bi (u := .int .i64 ((near0 (hRay x)).2.2)) (v := .int .i64 2) (r := .bool (((near0 (hRay x)).2.2) == 2)) rfl rfl rfl (bi_eql rfl) ?_)
    refine ao 83 rfl rfl (st_pkt' (b := known26) (v := .bool (((near0 (hRay x)).2.2) == 2)) h2 rfl rfl rfl ?_)
    refine ao 6 rfl rfl (st_assign (v := .bool (((near0 (hRay x)).2.2) == 2)) rfl rfl ?_)
    refine ar_nil ?_
    refine ac_ret ?_
    exact fin_eq (v := .bool (((near0 (hRay x)).2.2) == 2)) (congrArg Value.bool (show (((near0 (hRay x)).2.2) == 2) = true from (show (lawSceneFirst0 x turn) = _ from (eT h1 (eT h2 rfl))).symm.trans H)) (fin_ret (res_tmp rfl rfl))
  · refine ac_else' (b := ((near0 (hRay x)).2.2) == 1) h1 rfl ?_
    refine ac_skip ?_
    refine ac_seq ?_
    refine ac_seq ?_
    refine ac_region_lit ?_
    refine ao 76 rfl rfl (st_move (v := .slice none 0 0) rfl rfl ?_)
    refine ao 77 rfl rfl (st_ln (a := none) (m := 0) (c := 0) rfl Try.underlying74 rfl ?_)
    refine ao 78 rfl rfl (st_bi (u := .int .i64 0) (v := .int .i64 0) (r := .bool true) rfl rfl rfl (bi_eql (by decide)) ?_)
    refine ar_nil ?_
    refine ac_then rfl ?_
    refine ac_seq ?_
    refine ac_region_lit ?_
    refine ao 79 rfl rfl (st_cf (vs := []) (r := .bool known26) c_known26 Try.func59 rfl (by decide) rfl rfl rfl ?_)
    refine ao 80 rfl rfl (st_move (v := .bool known26) rfl rfl ?_)
    refine bool_split (known26) (fun h2 => ?_) (fun h2 => nomatch (show false = true from (show (lawSceneFirst0 x turn) = _ from (eF h1 (eF h2 rfl))).symm.trans H))
    refine ar_gd (d := (some 81)) (by show (known26 == true) = true; rw [h2]; rfl) rfl (st_move (v := .int .i64 ((near0 (hRay x)).2.2)) rfl rfl ?_)
    refine ar_gd (d := (some 82)) (by show (known26 == true) = true; rw [h2]; rfl) rfl (st_bi (u := .int .i64 ((near0 (hRay x)).2.2)) (v := .int .i64 2) (r := .bool (((near0 (hRay x)).2.2) == 2)) rfl rfl rfl (bi_eql rfl) ?_)
    refine ao 83 rfl rfl (st_pkt' (b := known26) (v := .bool (((near0 (hRay x)).2.2) == 2)) h2 rfl rfl rfl ?_)
    refine ao 6 rfl rfl (st_assign (v := .bool (((near0 (hRay x)).2.2) == 2)) rfl rfl ?_)
    refine ar_nil ?_
    refine ac_ret ?_
    exact fin_eq (v := .bool (((near0 (hRay x)).2.2) == 2)) (congrArg Value.bool (show (((near0 (hRay x)).2.2) == 2) = true from (show (lawSceneFirst0 x turn) = _ from (eF h1 (eT h2 rfl))).symm.trans H)) (fin_ret (res_tmp rfl rfl))
end Go.Proofs.Ythngkopcadlciaa
namespace Go.Proofs.Ythngkopcadlciaa
theorem known26_true : known26 = true := by decide +kernel
theorem lawSceneFirst0_true (x : RawRay) (turn : Int) : lawSceneFirst0 x turn = true := by
  have e : ∀ r, near0 r = (-1, ivNone, 2) := fun _ => rfl
  unfold lawSceneFirst0
  rw [known26_true, e]
  rfl
theorem lawSceneFirst_true (l : List Int) (x : RawRay) (turn : Int) : lawSceneFirst l x turn = true := by
  have e : ∀ r, near0 r = (-1, ivNone, 2) := fun _ => rfl
  have hlen : (hScene l).length ≤ 1000 := Nat.le_trans (hSceneN_le 5 l) (by decide)
  unfold lawSceneFirst
  rw [known26_true, e]
  cases he : (hScene l).isEmpty
  · simp only [cond_false, cond_true]
    have hlt := rotN_lt l turn he
    generalize rotN l turn = d at *
    rcases sNear_rot (hRay x) (hScene l) d hlt hlen with ⟨h1, h2⟩ | ⟨b, b', a, Y, h1, h2, hb0, hb1, hmod, hY, hm, hone⟩
    · rw [h1]
      have e1 : ((sNear (hScene l) (hRay x)).2.2 == 1) = false := by rw [beq_eq_false_iff_ne]; exact h2
      have e2 : ((sNear (hScene l) (hRay x)).2.2 != 1) = true := by rw [bne, e1]; rfl
      rw [e1, e2, beq_self_eq_true, decide_eq_true rfl]
      rfl
    · rw [h1, h2, first_all _ _ _ _ _ hY hm hone]
      have e3 : (Int.tmod (w64 (b' + (d : Int))) ((hScene l).length : Int) == b) = true := by
        rw [w64_of (by omega) (by omega), Int.tmod_eq_emod_of_nonneg (by omega), hmod]
        exact beq_self_eq_true b
      simp only [e3, decide_true]
      rfl
  · rfl
end Go.Proofs.Ythngkopcadlciaa
namespace Go.Proofs.Ythngkopcadlciaa
open Go.ChangeShapes Go.WideShapes Go.ChangeAt Go.RowKit
theorem heap_of_cell {w : World} {b o : Nat} {v : Value} (h : w.cell? ⟨b, o, none⟩ = some v) : ∃ (cs : List Value) (ty : TypeId) (fr : Nat × Nat), w.heap[b]? = some (.cells cs.toArray ty fr) ∧ cs[o]? = some v := by
  unfold World.cell? at h
  cases hb : w.heap[b]? with
  | none => simp [hb] at h
  | some x =>
    cases x <;> simp [hb] at h
    case cells c t fr => exact ⟨c.toList, t, fr, by simp, by simpa using h⟩
def Ints (W : World) (a : Option Addr) (len : Nat) : Prop := len = 0 ∨ ∃ b off, a = some ⟨b, off, none⟩ ∧ ∃ (cs : List Value) (ty : TypeId) (fr : Nat × Nat), W.heap[b]? = some (.cells cs.toArray ty fr) ∧ ∃ zs : Nat → Int, ∀ j, j < len → cs[off + j]? = some (.int .i64 (zs j))
theorem open_il {H : Type} {enc : TypeId × Value → H} {P : Program} {W : World} {base b0 : Nat} {held : Bool} {r : Reach} {t e : TypeId} {v : Value} {d : DataW H} {ps : List MemPlace} (ht : P.underlying t = some (.slice e)) (he : P.underlying e = some (.int .i64)) (hc : P.cellsOf e = 1)
    (hval : Value.okWide P W r b0 t v) (h : DataW.Trod enc P W base (fun _ => true) held t v d ps) :
    ∃ a len cap, v = .slice a len cap ∧ Ints W a len ∧ ∀ W', Below W.heap.size W W' → DataW.Trod enc P W' base (fun b => decide (b < W.heap.size)) held t v d ps := by
  obtain ⟨a0, len, cap, rfl⟩ := okWide_slice ht hval
  obtain ⟨fuel, hf⟩ := h
  refine ⟨a0, len, cap, rfl, ?_⟩
  rcases open_ints ht he hc hf with ⟨hcs, hx⟩ | ⟨a, len', cap', zs, hcs, hb, hl, hm, hz, hx, hcell, hw⟩
  · simp [Value.cells] at hcs
    obtain ⟨rfl, rfl, rfl⟩ := hcs
    simp only [Prod.mk.injEq] at hx
    obtain ⟨rfl, rfl⟩ := hx
    exact ⟨.inl rfl, fun W' _ => shut_slice_nil ht⟩
  · simp [Value.cells] at hcs
    obtain ⟨rfl, rfl, rfl⟩ := hcs
    simp only [Prod.mk.injEq] at hx
    obtain ⟨rfl, rfl⟩ := hx
    have hz0 : zs.length = cap := by simpa using hz
    have hlz : len ≤ zs.length := by omega
    have hz' : zs.length = if decide (a.block < W.heap.size) = true then cap else len := by
      by_cases h0 : 0 < zs.length
      · have := World.block_lt_of_cell? W _ (hcell 0 h0)
        have hlt : a.block < W.heap.size := by simpa [Addr.add] using this
        rw [if_pos (decide_eq_true hlt)]
        exact hz0
      · split <;> omega
    refine ⟨?_, fun W' bel => ?_⟩
    · by_cases h0 : len = 0
      · exact .inl h0
      · right
        obtain ⟨b, off, rfl, hc2⟩ := ints_at hcell (by omega)
        obtain ⟨cs, ty, fr, hh, _⟩ := heap_of_cell (hc2 0 (by omega))
        refine ⟨b, off, rfl, cs, ty, fr, hh, fun j => zs.getD j 0, fun j hj => ?_⟩
        obtain ⟨cs', ty', fr', hh', hv⟩ := heap_of_cell (hc2 j (by omega))
        rw [hh] at hh'
        simp only [Option.some.injEq, Obj.cells.injEq] at hh'
        have : cs = cs' := by
          have := congrArg Array.toList hh'.1
          simpa using this
        rw [this]
        exact hv
    · have := shut_ints (P := P) (w := W') (enc := enc) (base := base) (spare := fun b => decide (b < W.heap.size)) (held := held) (a := a) (cap := cap) (zs := zs) 0 ht he hc hb hl hm hz' (fun i hi => by
        have h1 := hcell i hi
        rw [← h1]
        exact World.cell?_of_block (bel.block _ (World.block_lt_of_cell? W _ h1))) hw
      exact ⟨_, this⟩
end Go.Proofs.Ythngkopcadlciaa
namespace Go.Proofs.Ythngkopcadlciaa
open Go.RowKit
theorem sceneFirst_calls (W : World) (a : Option Addr) (len cap : Nat) (x : RawRay) (turn : Int) (h : Ints W a len) : Calls Try.prog 15 #[.slice a len cap, x.v, .int .i64 turn] W fun e W' => e = .returned (.bool true) ∧ Below W.heap.size W W' := by
  have zero : ∀ a cap, Calls Try.prog 15 #[.slice a 0 cap, x.v, .int .i64 turn] W fun e W' => e = .returned (.bool true) ∧ Below W.heap.size W W' := fun a cap => (c_lawSceneFirst0 x turn a cap (lawSceneFirst0_true x turn)) W
  rcases h with rfl | ⟨b, off, rfl, cs, ty, fr, hh, zs, hz⟩
  · exact zero a cap
  · have hA : At [⟨b, cs, ty, true⟩] W := by
      intro c hc
      obtain rfl := List.mem_singleton.1 hc
      exact ⟨fr, hh⟩
    have hl : ((List.range len).map zs).length = len := by simp
    have hg := c_lawSceneFirst ((List.range len).map zs) x turn b off cap ty cs (fun j z hj => by
      have hlt : j < len := by
        have := (List.getElem?_eq_some_iff.1 hj).1
        rw [hl] at this
        exact this
      have := hz j hlt
      rw [this]
      simp only [List.getElem?_map, List.getElem?_range hlt, Option.map_some, Option.some.injEq] at hj
      rw [hj]) (lawSceneFirst_true _ x turn)
    rw [hl] at hg
    refine (hg W hA (by simp)).mono ?_
    rintro e w' ⟨v', N, he, ⟨rfl, _⟩, _, _, hb⟩
    exact ⟨he, hb⟩
end Go.Proofs.Ythngkopcadlciaa
namespace Go.Proofs.Ythngkopcadlciaa
open Go.ChangeShapes Go.WideShapes Go.ChangeAt Go.RowKit
section
variable {H : Type} {enc : TypeId × Value → H} {w : World} {base : Nat} {spare : Nat → Bool} {held : Bool}
theorem rr_cells : Try.prog.cellsOf 73 = 6 := by kernel_rfl
theorem rr_int : Try.prog.cellsOf 3 = 1 := by kernel_rfl
set_option maxRecDepth 100000 in
theorem open_rr {r : Reach} {b0 : Nat} {v : Value} {d : DataW H} {p : List MemPlace} (hv : Value.okWide Try.prog w r b0 73 v) (h : DataW.Trod enc Try.prog w base spare held 73 v d p) :
    ∃ l : RawRay, v = l.v ∧ d = .agg [.lit (.int .i64 l.x), .lit (.int .i64 l.y), .lit (.int .i64 l.u), .lit (.int .i64 l.w), .lit (.int .i64 l.wide), .lit (.int .i64 l.lean)] ∧ p = [] ∧
      (Lit.int .i64 l.x).wf = true ∧ (Lit.int .i64 l.y).wf = true ∧ (Lit.int .i64 l.u).wf = true ∧ (Lit.int .i64 l.w).wf = true ∧ (Lit.int .i64 l.wide).wf = true ∧ (Lit.int .i64 l.lean).wf = true := by
  obtain ⟨cs, rfl, hsz⟩ := okWide_struct Try.underlying73 hv
  obtain ⟨l⟩ := cs
  match l, hsz.trans rr_cells with
  | [c0, c1, c2, c3, c4, c5], _ =>
    obtain ⟨fuel, hf⟩ := h
    obtain ⟨xs, m, _, hx, _, hlen, hg⟩ := DataW.trod_struct Try.underlying73 hf
    match xs, hlen with
    | [y0, y1, y2, y3, y4, y5], _ =>
      have k : ∀ (c : Value) (y : DataW H × List MemPlace), DataW.trod enc Try.prog w base spare held m 3 [c] = some y → ∃ n, c = .int .i64 n ∧ y = (.lit (.int .i64 n), []) ∧ (Lit.int .i64 n).wf = true := by
        intro c y hy
        obtain ⟨n, h1, h2, h3⟩ := DataW.trod_int Try.underlying3 hy
        simp at h1
        exact ⟨n, h1, h2, h3⟩
      obtain ⟨n0, rfl, rfl, w0⟩ := k c0 y0 (by simpa [Value.cells, rr_int] using hg 0 _ rfl)
      obtain ⟨n1, rfl, rfl, w1⟩ := k c1 y1 (by simpa [Value.cells, rr_int] using hg 1 _ rfl)
      obtain ⟨n2, rfl, rfl, w2⟩ := k c2 y2 (by simpa [Value.cells, rr_int] using hg 2 _ rfl)
      obtain ⟨n3, rfl, rfl, w3⟩ := k c3 y3 (by simpa [Value.cells, rr_int] using hg 3 _ rfl)
      obtain ⟨n4, rfl, rfl, w4⟩ := k c4 y4 (by simpa [Value.cells, rr_int] using hg 4 _ rfl)
      obtain ⟨n5, rfl, rfl, w5⟩ := k c5 y5 (by simpa [Value.cells, rr_int] using hg 5 _ rfl)
      simp only [Prod.mk.injEq] at hx
      exact ⟨⟨n0, n1, n2, n3, n4, n5⟩, rfl, by simpa using hx.1, by simpa using hx.2, w0, w1, w2, w3, w4, w5⟩
set_option maxRecDepth 100000 in
theorem shut_rr (l : RawRay) (w0 : (Lit.int .i64 l.x).wf = true) (w1 : (Lit.int .i64 l.y).wf = true) (w2 : (Lit.int .i64 l.u).wf = true) (w3 : (Lit.int .i64 l.w).wf = true) (w4 : (Lit.int .i64 l.wide).wf = true) (w5 : (Lit.int .i64 l.lean).wf = true) :
    DataW.Trod enc Try.prog w base spare held 73 l.v (.agg [.lit (.int .i64 l.x), .lit (.int .i64 l.y), .lit (.int .i64 l.u), .lit (.int .i64 l.w), .lit (.int .i64 l.wide), .lit (.int .i64 l.lean)]) [] :=
  ⟨2, by simp [DataW.trod, Value.cells, Try.underlying73, Try.underlying3, rr_int, rr_cells, w0, w1, w2, w3, w4, w5]⟩
end
end Go.Proofs.Ythngkopcadlciaa