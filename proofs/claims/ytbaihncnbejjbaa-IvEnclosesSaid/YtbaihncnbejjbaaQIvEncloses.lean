import Derived.Test.YtbaihncnbejjbaaPIv3
import Derived.Test.YtbaihncnbejjbaaLIvEncloses
set_option linter.unusedVariables false
set_option linter.unusedSimpArgs false
namespace Go.Proofs.Ytbaihncnbejjbaa

theorem lawIvEncloses_true (a b c d m n : Int) : lawIvEncloses a b c d m n = true := by
  have rx : R (hTame a b) := (ivRight_iff _).1 (tame_R a b)
  have ry : R (hTame c d) := (ivRight_iff _).1 (tame_R c d)
  have x1 := tame_small a b
  have y1 := tame_small c d
  unfold lawIvEncloses lawIvEncloses_e2 lawIvEncloses_e3 lawIvEncloses_e4 lawIvEncloses_e0 lawIvEncloses_e1
  generalize hTame a b = x at *
  generalize hTame c d = y at *
  have w1 : w64 (w64 (x.hi - x.lo) + 1) = x.hi - x.lo + 1 := by rw [w64_of (n := x.hi - x.lo) (by omega) (by omega), w64_of (by omega) (by omega)]
  have w2 : w64 (w64 (y.hi - y.lo) + 1) = y.hi - y.lo + 1 := by rw [w64_of (n := y.hi - y.lo) (by omega) (by omega), w64_of (by omega) (by omega)]
  rw [w1, w2]
  have p1 := hPick_lt m (m := x.hi - x.lo + 1) (by omega) (by omega)
  have p2 := hPick_lt n (m := y.hi - y.lo + 1) (by omega) (by omega)
  rw [w64_of (n := x.lo + hPick m (x.hi - x.lo + 1)) (by omega) (by omega), w64_of (n := y.lo + hPick n (y.hi - y.lo + 1)) (by omega) (by omega)]
  generalize hp : x.lo + hPick m (x.hi - x.lo + 1) = p at *
  generalize hq : y.lo + hPick n (y.hi - y.lo + 1) = q at *
  have hp1 : x.lo ≤ p ∧ p ≤ x.hi := by omega
  have hq1 : y.lo ≤ q ∧ q ≤ y.hi := by omega
  clear hp hq p1 p2 w1 w2
  have mb := mul_bound (a := p) (b := q) (A := 1313719) (B := 1313719) (by omega) (by omega)
  have mp := mul_bound (a := p) (b := p) (A := 1313719) (B := 1313719) (by omega) (by omega)
  have eA : ivAdd x y = ⟨x.lo + y.lo, x.hi + y.hi, false⟩ := by rw [ivAdd_spec rx ry, ivOf_in (by omega)]
  have eS : ivSub x y = ⟨x.lo - y.hi, x.hi - y.lo, false⟩ := by rw [ivSub_spec rx ry, ivOf_in (by omega)]
  have eN := ivNeg_spec rx
  have k2 : ivHas (ivAdd x y) (w64 (p + q)) = true := by
    rw [w64_of (by omega) (by omega), ivHas_iff, eA]
    exact ⟨R_mk (by omega) (by omega) (by omega), by simp only; omega, by simp only; omega⟩
  have k3 : ivHas (ivSub x y) (w64 (p - q)) = true := by
    rw [w64_of (by omega) (by omega), ivHas_iff, eS]
    exact ⟨R_mk (by omega) (by omega) (by omega), by simp only; omega, by simp only; omega⟩
  have k4 : ivHas (ivNeg x) (w64 (0 - p)) = true := by
    rw [w64_of (by omega) (by omega), ivHas_iff, eN]
    exact ⟨R_mk (by omega) (by omega) (by omega), by simp only; omega, by simp only; omega⟩
  have hm := mul_hull (a := x) (b := y) (x := p) (y := q) hp1.1 hp1.2 hq1.1 hq1.2
  have c1 := mul_bound (a := x.lo) (b := y.lo) (A := 1313719) (B := 1313719) (by omega) (by omega)
  have c2 := mul_bound (a := x.lo) (b := y.hi) (A := 1313719) (B := 1313719) (by omega) (by omega)
  have c3 := mul_bound (a := x.hi) (b := y.lo) (A := 1313719) (B := 1313719) (by omega) (by omega)
  have c4 := mul_bound (a := x.hi) (b := y.hi) (A := 1313719) (B := 1313719) (by omega) (by omega)
  have b1 : -(1313719 * 1313719) ≤ mn x y := by unfold mn min4; omega
  have b2 : mx x y ≤ 1313719 * 1313719 := by unfold mx max4; omega
  have d1 := dn_le (a := mn x y) (b := 65536) (by omega)
  have d2 := upq_ge (a := mx x y) (b := 65536) (by omega)
  have hmx := mn_mx (a := x) (b := y)
  have d3 := dn_le_upq (a := mx x y) (b := 65536) (by omega)
  have d4 := dn_mono (b := 65536) (by omega) hmx
  have eM : ivMul x y = ⟨dn (mn x y) 65536, upq (mx x y) 65536, false⟩ := by rw [ivMul_spec rx ry, ivOf_in (by omega)]
  have rM : R (ivMul x y) := by rw [eM]; exact R_mk (by omega) (by omega) (by omega)
  have nf := near_far rx
  have hfar : far x ≤ 1313719 := by unfold far; omega
  have f1 := mul_bound (a := far x) (b := far x) (A := 1313719) (B := 1313719) (by omega) (by omega)
  have n0 : 0 ≤ near x * near x := Int.mul_nonneg nf.1 nf.1
  have hs := sq_mono nf.1 nf.2.1
  have s1 := dn_le (a := near x * near x) (b := 65536) (by omega)
  have s2 := upq_ge (a := far x * far x) (b := 65536) (by omega)
  have s3 := dn_nonneg (b := 65536) (by omega) n0
  have s4 := dn_mono (b := 65536) (by omega) hs
  have s5 := dn_le_upq (a := far x * far x) (b := 65536) (by omega)
  have eQ : ivSqr x = ⟨dn (near x * near x) 65536, upq (far x * far x) 65536, false⟩ := by rw [ivSqr_spec rx, ivOf_in (by omega)]
  have rQ : R (ivSqr x) := by rw [eQ]; exact R_mk (by omega) (by omega) (by omega)
  have g1 : near x * near x ≤ p * p := by
    by_cases hp : 0 ≤ p
    · exact sq_mono nf.1 (by unfold near; omega)
    · rw [← Int.neg_mul_neg p p]
      exact sq_mono nf.1 (by unfold near; omega)
  have g2 : p * p ≤ far x * far x := by
    by_cases hp : 0 ≤ p
    · exact sq_mono hp (by unfold far; omega)
    · rw [← Int.neg_mul_neg p p]
      exact sq_mono (by omega) (by unfold far; omega)
  have eP : w64 (p * q) = p * q := w64_of (by omega) (by omega)
  have eP2 : w64 (p * p) = p * p := w64_of (by omega) (by omega)
  have eK : w64 (p * 65536) = p * 65536 := w64_of (by omega) (by omega)
  have eK' : w64 (0 - p * 65536) = -(p * 65536) := by rw [w64_of (by omega) (by omega)]; omega
  have eQ' : w64 (0 - q) = -q := by rw [w64_of (by omega) (by omega)]; omega
  -- the root's part
  have hroot : ∀ K : Bool, K = (bif (ivRight (ivRoot x)) != decide (x.lo ≥ 0) then false else bif ivRight (ivRoot x) then bif decide (w64 ((ivRoot x).lo * (ivRoot x).lo) ≤ w64 (p * 65536)) then decide (w64 ((ivRoot x).hi * (ivRoot x).hi) ≥ w64 (p * 65536)) else false else true) → K = true := by
    intro K hK
    rw [hK]
    by_cases h0 : 0 ≤ x.lo
    · have rr := R_root.2 ⟨rx, h0⟩
      have f1 := rootf_is (a := x.lo) h0 (by omega)
      have f2 := rootf_le (a := x.lo) h0 (by omega)
      have c1 := rootc_ge (a := x.hi) (by omega) (by omega)
      have c2 := rootc_le (a := x.hi) (by omega) (by omega)
      have q3 := mul_bound (a := rootc x.hi) (b := rootc x.hi) (A := 8388608) (B := 8388608) (by omega) (by omega)
      have q4 : 0 ≤ rootf x.lo * rootf x.lo := Int.mul_nonneg f2.1 f2.1
      have q5 := f1.2.1
      rw [ivRight_t rr, dT (show x.lo ≥ 0 from h0), ivRoot_val rx h0, eK]
      refine lF rfl ?_
      simp only [cond_true]
      refine lT (dT ?_) (dT ?_)
      · show w64 (rootf x.lo * rootf x.lo) ≤ p * 65536
        rw [w64_of (by omega) (by omega)]; omega
      · show w64 (rootc x.hi * rootc x.hi) ≥ p * 65536
        rw [w64_of (by omega) (by omega)]; omega
    · rw [ivRight_f (fun k => h0 (R_root.1 k).2), dF (show ¬ x.lo ≥ 0 from h0)]; rfl
  have hdiv : R (ivDiv x y) → ¬ (y.lo ≤ 0 ∧ 0 ≤ y.hi) ∧ ((0 < q ∧ (ivDiv x y).lo * q ≤ p * 65536 ∧ p * 65536 ≤ (ivDiv x y).hi * q) ∨ (q < 0 ∧ p * 65536 ≤ (ivDiv x y).lo * q ∧ (ivDiv x y).hi * q ≤ p * 65536)) := by
    intro rd
    obtain ⟨_, _, h0⟩ := R_div rd
    have e := ivDiv_val rx ry h0
    have rd' := rd
    rw [e] at rd'
    have b := R_of.1 rd'
    have i := div_hull (a := x) (b := y) (x := p) (y := q) h0 hp1.1 hp1.2 hq1.1 hq1.2
    have j1 := (le_dq (by omega)).1 i.1
    have j2 := (dq_le_iff (by omega)).1 i.2
    rw [e, ivOf_in b]
    simp only
    refine ⟨h0, ?_⟩
    omega
  refine lT known2_true (lT k2 (lT k3 (lT k4 (lT (ivRight_t rM) (lF (dF ?_) (lF (dF ?_) (lT (ivRight_t rQ) (lF (dF ?_) (lF (dF ?_) (lF (dF ?_) (lC (fun hd => ?_) (fun _ => hroot _ rfl))))))))))))
  · rw [eM, eP]
    simp only
    rw [w64_of (by omega) (by omega)]; omega
  · rw [eM, eP]
    simp only
    rw [w64_of (by omega) (by omega)]; omega
  · rw [eQ, eP2]
    simp only
    rw [w64_of (by omega) (by omega)]; omega
  · rw [eQ, eP2]
    simp only
    rw [w64_of (by omega) (by omega)]; omega
  · rw [eQ]
    simp only
    omega
  · have rd := (ivRight_iff _).1 hd
    obtain ⟨h0, hcase⟩ := hdiv rd
    have hb := rd.2
    have m1 := mul_bound (a := (ivDiv x y).lo) (b := q) (A := 1073741824) (B := 1313719) (by omega) (by omega)
    have m2 := mul_bound (a := (ivDiv x y).hi) (b := q) (A := 1073741824) (B := 1313719) (by omega) (by omega)
    have hh : ivHas y 0 = false := by
      cases e : ivHas y 0
      · rfl
      · exact absurd ((ivHas_iff y 0).1 e).2 h0
    have hk := hroot _ rfl
    refine lF hh (lC (fun hn => ?_) (fun hn => ?_))
    · have hn := of_decide_eq_true hn
      have em : max q (w64 (0 - q)) = -q := by rw [eQ']; omega
      rw [em, eK, eK', Int.mul_neg, Int.mul_neg]
      have w1 : w64 (-((ivDiv x y).lo * q)) = -((ivDiv x y).lo * q) := w64_of (by omega) (by omega)
      have w2 : w64 (-((ivDiv x y).hi * q)) = -((ivDiv x y).hi * q) := w64_of (by omega) (by omega)
      rw [w1, w2]
      rw [eK] at hk
      exact lF (dF (by omega)) (lF (dF (by omega)) hk)
    · have hn := of_decide_eq_false hn
      have em : max q (w64 (0 - q)) = q := by rw [eQ']; omega
      rw [em, eK]
      have w1 : w64 ((ivDiv x y).lo * q) = (ivDiv x y).lo * q := w64_of (by omega) (by omega)
      have w2 : w64 ((ivDiv x y).hi * q) = (ivDiv x y).hi * q := w64_of (by omega) (by omega)
      rw [w1, w2]
      rw [eK] at hk
      exact lF (dF (by omega)) (lF (dF (by omega)) hk)
end Go.Proofs.Ytbaihncnbejjbaa
