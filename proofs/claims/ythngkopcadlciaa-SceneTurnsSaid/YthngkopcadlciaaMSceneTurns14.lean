import Derived.Test.YthngkopcadlciaaMSceneTurns7
import Derived.Test.YthngkopcadlciaaMSceneTurns12
import Derived.Test.YthngkopcadlciaaLSceneTurns
import Derived.Test.YthngkopcadlciaaMSceneTurns8
import Derived.WalkKit
import Derived.ProofKit
import Derived.OpenShut
import Derived.ShutString
import Derived.ChangeOld
import Derived.Below
import Derived.SizedLaws
set_option linter.unusedVariables false
set_option linter.unusedSimpArgs false
namespace Go.Proofs.Ythngkopcadlciaa
theorem upq_lt {a b n : Int} (hn : 0 < n) (h : a + n ≤ b) : upq a n < upq b n := by
  have h1 := (upq_le_iff (u := upq b n) (n := b) (c := n) hn).1 (Int.le_refl _)
  have h2 : upq a n ≤ upq b n - 1 := (upq_le_iff hn).2 (by rw [Int.sub_mul, Int.one_mul]; omega)
  omega
theorem dq_up_lt {a b n : Int} (hn : 0 < n) (h : a * 65536 + n ≤ b * 65536) : dq a n true < dq b n true := by
  have h1 := (dq_le_iff (u := dq b n true) (x := b) (y := n) (by omega)).1 (Int.le_refl _)
  have h2 : dq a n true ≤ dq b n true - 1 := (dq_le_iff (by omega)).2 (.inl ⟨hn, by
    rcases h1 with h1 | h1
    · rw [Int.sub_mul, Int.one_mul]; omega
    · omega⟩)
  omega
theorem hit_wall (r : Ray) (ho : r.o.z = pt 0) (hd : R r.d.z → 0 ≤ r.d.z.lo) {Z : Int} (hZ : 0 < Z ∧ Z ≤ 16384) :
    sceneHit (wall26 Z) r = (ivNone, 0) ∨ ∃ t, sceneHit (wall26 Z) r = (t, 1) ∧ R t ∧ R r.d.z ∧ 0 < r.d.z.lo ∧ t.hi = dq (Z * 65536) r.d.z.lo true := by
  have hw : ivSub (decOf (wall26 Z).z) r.o.z = pt (Z * 65536) := by
    show ivSub (decOf ⟨Z, 0⟩) r.o.z = _
    rw [decOf_whole (by omega), ho, sub0 (R_pt (by omega))]
  have hm : sceneMeet (wall26 Z) r = (bif (ivDiv (pt (Z * 65536)) r.d.z).no then (ivNone, 0) else ((⟨(ivDiv (pt (Z * 65536)) r.d.z).lo, (ivDiv (pt (Z * 65536)) r.d.z).hi, false⟩ : Iv), 1)) := by
    unfold sceneMeet
    rw [hw]
    rfl
  unfold sceneHit
  rw [hm, div_no]
  by_cases h : R (ivDiv (pt (Z * 65536)) r.d.z)
  · rw [ivRight_t h]
    obtain ⟨ra, rb, h0⟩ := R_div h
    have hlo := hd rb
    have hb := rb.2
    have hpos : 0 < r.d.z.lo := by omega
    have e := ivDiv_val ra rb h0
    have hR := h
    rw [e] at hR
    have b := R_of.1 hR
    have ev : ivDiv (pt (Z * 65536)) r.d.z = ⟨qn (pt (Z * 65536)) r.d.z, qx (pt (Z * 65536)) r.d.z, false⟩ := by rw [e, ivOf_in b]
    have hx : qx (pt (Z * 65536)) r.d.z = dq (Z * 65536) r.d.z.lo true := by
      have mono : dq (Z * 65536) r.d.z.hi true ≤ dq (Z * 65536) r.d.z.lo true := by
        refine (dq_le_iff (by omega)).2 (.inl ⟨by omega, ?_⟩)
        have h1 := (dq_le_iff (u := dq (Z * 65536) r.d.z.lo true) (x := Z * 65536) (y := r.d.z.lo) (by omega)).1 (Int.le_refl _)
        have hq : 0 ≤ dq (Z * 65536) r.d.z.lo true := Int.le_trans ((le_dq (by omega)).2 (.inl ⟨hpos, by omega⟩)) (dq_le (by omega))
        have := Int.mul_le_mul_of_nonneg_left hb.2.1 hq
        rcases h1 with h1 | h1 <;> omega
      show max4 (dq (Z * 65536) r.d.z.lo true) (dq (Z * 65536) r.d.z.hi true) (dq (Z * 65536) r.d.z.lo true) (dq (Z * 65536) r.d.z.hi true) = _
      simp only [max4]
      omega
    have hhi : 0 < (ivDiv (pt (Z * 65536)) r.d.z).hi := by
      rw [ev, hx]
      show 0 < dq (Z * 65536) r.d.z.lo true
      refine Int.lt_of_not_ge fun hc => ?_
      rcases (dq_le_iff (u := 0) (x := Z * 65536) (y := r.d.z.lo) (by omega)).1 hc with h | h <;> omega
    simp only [Bool.not_true, cond_false, bne_self_eq_false]
    rw [decide_eq_false (by omega : ¬ (ivDiv (pt (Z * 65536)) r.d.z).hi ≤ 0)]
    simp only [cond_false]
    by_cases hl : (ivDiv (pt (Z * 65536)) r.d.z).lo ≤ 0
    · rw [decide_eq_true hl]; exact .inl rfl
    · rw [decide_eq_false hl]
      refine .inr ⟨_, rfl, R_mk h.2.1 h.2.2.1 h.2.2.2, rb, hpos, ?_⟩
      show (ivDiv (pt (Z * 65536)) r.d.z).hi = _
      rw [ev, hx]
  · rw [ivRight_f h]
    exact .inl rfl
theorem near_walls (r : Ray) (ho : r.o.z = pt 0) (hd : R r.d.z → 0 ≤ r.d.z.lo) {z g : Int} (hz : 50 ≤ z ∧ z ≤ 200) (hg : 1 ≤ g ∧ g ≤ 10) :
    sNear [wall26 (z + g), wall26 z, wall26 (z + 2 * g)] r = (-1, ivNone, 0) ∨ ∃ t, sNear [wall26 (z + g), wall26 z, wall26 (z + 2 * g)] r = (1, t, 1) ∧ R t := by
  unfold sNear
  rcases hit_wall r ho hd (Z := z + g) (by omega) with ha | ⟨ta, ha, ra, rd, hp, ea⟩
  · left; simp [nearL, nearStep, ha]
  rcases hit_wall r ho hd (Z := z) (by omega) with hb | ⟨tb, hb, rb, _, _, eb⟩
  · left; simp [nearL, nearStep, ha, hb]
  rcases hit_wall r ho hd (Z := z + 2 * g) (by omega) with hc | ⟨tc, hc, rc, _, _, ec⟩
  · left
    by_cases h1 : tb.hi < ta.hi <;> simp [nearL, nearStep, ha, hb, hc, h1]
  have hdb := rd.2
  have l1 : tb.hi < ta.hi := by
    rw [ea, eb]
    exact dq_up_lt hp (by omega)
  have l2 : ¬ tc.hi < tb.hi := by
    have : tb.hi < tc.hi := by
      rw [eb, ec]
      exact dq_up_lt hp (by omega)
    omega
  have hL : nearL r [wall26 (z + g), wall26 z, wall26 (z + 2 * g)] 0 (-1) ivNone [] = some (1, tb, [ta, tb, tc]) := by
    simp [nearL, nearStep, ha, hb, hc, l1, l2]
  rw [hL]
  simp only
  rw [decide_eq_false (by omega : ¬ (1 : Int) < 0)]
  simp only [cond_false]
  cases decide (w64 (nearC tb [ta, tb, tc] 0 + 1) < (([ta, tb, tc] : List Iv).length : Int))
  · exact .inr ⟨tb, rfl, rb⟩
  · exact .inl rfl
theorem lawSceneTurns_true (z r : Int) (x : RawRay) (k gap : Int) : lTn z r x k gap = true := by
  have hz := hPick_lt z (m := 60) (by decide) (by decide)
  have hg := hPick_lt gap (m := 5) (by decide) (by decide)
  have ez : w64 (50 + hPick z 60) = 50 + hPick z 60 := w64_of (by omega) (by omega)
  have eg : w64 (1 + hPick gap 5) = 1 + hPick gap 5 := w64_of (by omega) (by omega)
  have e1 : lTn_e1 z r x k gap = lTn_e0 z r x k gap := hit_turn _ rfl rfl _ _ _
  have e2 : lTn_e2 z r x k gap = lTn_e0 z r x k gap := hit_mirror _ rfl rfl _ _
  have e3 : lTn_e3 z r x k gap = sceneHit (wall26 (w64 (50 + hPick z 60))) (hRay x) := hit_turn _ rfl rfl _ _ _
  have e4 : lTn_e4 z r x k gap = sceneHit (wall26 (w64 (50 + hPick z 60))) (hRay x) := hit_mirror _ rfl rfl _ _
  obtain ⟨ho, hd⟩ := ray_z x
  have hn := near_walls (hRay x) ho hd (z := 50 + hPick z 60) (g := 1 + hPick gap 5) (by omega) (by omega)
  have e7 : lTn_e7 z r x k gap = sNear [wall26 (50 + hPick z 60 + (1 + hPick gap 5)), wall26 (50 + hPick z 60), wall26 (50 + hPick z 60 + 2 * (1 + hPick gap 5))] (hRay x) := by
    unfold lTn_e7 lTn_e5 lTn_e6
    rw [ez, eg, w64_of (n := 2 * (1 + hPick gap 5)) (by omega) (by omega), w64_of (n := 50 + hPick z 60 + 2 * (1 + hPick gap 5)) (by omega) (by omega), w64_of (n := 50 + hPick z 60 + (1 + hPick gap 5)) (by omega) (by omega)]
  unfold lTn
  rw [e1, e2, e3, e4, e7, known26_true]
  rcases hn with h | ⟨t, h, rt⟩
  · rw [h]; simp
  · rw [h]; simp [ivRight_t rt]
end Go.Proofs.Ythngkopcadlciaa
namespace Go.Proofs.Ythngkopcadlciaa
open Go.ChangeShapes Go.WideShapes Go.ChangeAt Go.RowKit
section
variable {H : Type} {enc : TypeId × Value → H} {w : World} {base : Nat} {spare : Nat → Bool} {held : Bool}
theorem rr_cells : Try.prog.cellsOf 73 = 6 := by kernel_rfl
theorem rr_int : Try.prog.cellsOf 3 = 1 := by kernel_rfl
set_option maxRecDepth 100000 in
theorem open_rr {r : Reach} {b0 : Nat} {v : Value} {d : DataW H} {p : List MemPlace} (hv : Value.okWide Try.prog w r b0 73 v) (h : DataW.Trod enc Try.prog w base spare held 73 v d p) :
    ∃ l : RawRay, v = l.v ∧ d = .agg [.lit (.int .i64 l.x), .lit (.int .i64 l.y), .lit (.int .i64 l.u), .lit (.int .i64 l.w), .lit (.int .i64 l.wide), .lit (.int .i64 l.lean)] ∧ p = [] ∧
      (Lit.int .i64 l.x).wf = true ∧ (Lit.int .i64 l.y).wf = true ∧ (Lit.int .i64 l.u).wf = true ∧ (Lit.int .i64 l.w).wf = true ∧ (Lit.int .i64 l.wide).wf = true ∧ (Lit.int .i64 l.lean).wf = true := by
  obtain ⟨cs, rfl, hsz⟩ := okWide_struct Try.underlying73 hv
  obtain ⟨l⟩ := cs
  match l, hsz.trans rr_cells with
  | [c0, c1, c2, c3, c4, c5], _ =>
    obtain ⟨fuel, hf⟩ := h
    obtain ⟨xs, m, _, hx, _, hlen, hg⟩ := DataW.trod_struct Try.underlying73 hf
    match xs, hlen with
    | [y0, y1, y2, y3, y4, y5], _ =>
      have k : ∀ (c : Value) (y : DataW H × List MemPlace), DataW.trod enc Try.prog w base spare held m 3 [c] = some y → ∃ n, c = .int .i64 n ∧ y = (.lit (.int .i64 n), []) ∧ (Lit.int .i64 n).wf = true := by
        intro c y hy
        obtain ⟨n, h1, h2, h3⟩ := DataW.trod_int Try.underlying3 hy
        simp at h1
        exact ⟨n, h1, h2, h3⟩
      obtain ⟨n0, rfl, rfl, w0⟩ := k c0 y0 (by simpa [Value.cells, rr_int] using hg 0 _ rfl)
      obtain ⟨n1, rfl, rfl, w1⟩ := k c1 y1 (by simpa [Value.cells, rr_int] using hg 1 _ rfl)
      obtain ⟨n2, rfl, rfl, w2⟩ := k c2 y2 (by simpa [Value.cells, rr_int] using hg 2 _ rfl)
      obtain ⟨n3, rfl, rfl, w3⟩ := k c3 y3 (by simpa [Value.cells, rr_int] using hg 3 _ rfl)
      obtain ⟨n4, rfl, rfl, w4⟩ := k c4 y4 (by simpa [Value.cells, rr_int] using hg 4 _ rfl)
      obtain ⟨n5, rfl, rfl, w5⟩ := k c5 y5 (by simpa [Value.cells, rr_int] using hg 5 _ rfl)
      simp only [Prod.mk.injEq] at hx
      exact ⟨⟨n0, n1, n2, n3, n4, n5⟩, rfl, by simpa using hx.1, by simpa using hx.2, w0, w1, w2, w3, w4, w5⟩
set_option maxRecDepth 100000 in
theorem shut_rr (l : RawRay) (w0 : (Lit.int .i64 l.x).wf = true) (w1 : (Lit.int .i64 l.y).wf = true) (w2 : (Lit.int .i64 l.u).wf = true) (w3 : (Lit.int .i64 l.w).wf = true) (w4 : (Lit.int .i64 l.wide).wf = true) (w5 : (Lit.int .i64 l.lean).wf = true) :
    DataW.Trod enc Try.prog w base spare held 73 l.v (.agg [.lit (.int .i64 l.x), .lit (.int .i64 l.y), .lit (.int .i64 l.u), .lit (.int .i64 l.w), .lit (.int .i64 l.wide), .lit (.int .i64 l.lean)]) [] :=
  ⟨2, by simp [DataW.trod, Value.cells, Try.underlying73, Try.underlying3, rr_int, rr_cells, w0, w1, w2, w3, w4, w5]⟩
end
end Go.Proofs.Ythngkopcadlciaa