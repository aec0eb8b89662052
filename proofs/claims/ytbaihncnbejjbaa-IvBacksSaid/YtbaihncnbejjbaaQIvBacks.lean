import Derived.Test.YtbaihncnbejjbaaPIv3
import Derived.Test.YtbaihncnbejjbaaLIvBacks
set_option linter.unusedVariables false
set_option linter.unusedSimpArgs false
namespace Go.Proofs.Ytbaihncnbejjbaa

theorem lawIvBacks_true (a b c d : Int) : lawIvBacks a b c d = true := by
  unfold lawIvBacks lawIvBacks_e0 lawIvBacks_e1 lawIvBacks_e2
  have rx : R (hTame a b) := (ivRight_iff _).1 (tame_R a b)
  have ry : R (hTame c d) := (ivRight_iff _).1 (tame_R c d)
  have x1 := tame_small a b
  have y1 := tame_small c d
  generalize hTame a b = x at *
  generalize hTame c d = y at *
  have k1 : ivInside x (ivSub (ivAdd x y) y) = true := by
    have e : ivAdd x y = ⟨x.lo + y.lo, x.hi + y.hi, false⟩ := by rw [ivAdd_spec rx ry, ivOf_in (by omega)]
    have r : R (ivAdd x y) := by rw [e]; exact R_mk (by omega) (by omega) (by omega)
    have e2 : ivSub (ivAdd x y) y = ⟨x.lo + y.lo - y.hi, x.hi + y.hi - y.lo, false⟩ := by
      rw [ivSub_spec r ry, e]
      simp only
      rw [ivOf_in (by omega)]
    rw [ivInside_iff, e2]
    exact ⟨rx, R_mk (by omega) (by omega) (by omega), by simp only; omega, by simp only; omega⟩
  have k2 : R (ivRoot x) → ivInside x (ivSqr (ivRoot x)) = true := fun hr => by
    obtain ⟨_, h0⟩ := R_root.1 hr
    have e := ivRoot_val rx h0
    have f1 := rootf_is (a := x.lo) h0 (by omega)
    have f2 := rootf_le (a := x.lo) h0 (by omega)
    have c1 := rootc_ge (a := x.hi) (by omega) (by omega)
    have c2 := rootc_le (a := x.hi) (by omega) (by omega)
    have m1 := rootf_mono (a := x.lo) (b := x.hi) h0 (by omega) (by omega)
    have m2 := rootf_le_rootc x.hi
    have en : near (ivRoot x) = rootf x.lo := by rw [e]; unfold near; simp only; omega
    have ef : far (ivRoot x) = rootc x.hi := by rw [e]; unfold far; simp only; omega
    have q1 := dn_le (a := rootf x.lo * rootf x.lo) (b := 65536) (by omega)
    have q2 := upq_ge (a := rootc x.hi * rootc x.hi) (b := 65536) (by omega)
    have q3 := mul_bound (a := rootc x.hi) (b := rootc x.hi) (A := 8388608) (B := 8388608) (by omega) (by omega)
    have q4 : 0 ≤ rootf x.lo * rootf x.lo := Int.mul_nonneg f2.1 f2.1
    have q5 := f1.2.1
    have hs : ivSqr (ivRoot x) = ⟨dn (rootf x.lo * rootf x.lo) 65536, upq (rootc x.hi * rootc x.hi) 65536, false⟩ := by
      rw [ivSqr_spec hr, en, ef, ivOf_in (by omega)]
    rw [ivInside_iff, hs]
    exact ⟨rx, R_mk (by omega) (by omega) (by omega), by simp only; omega, by simp only; omega⟩
  have k3 : (bif ivRight (ivMul (ivDiv x y) y) then ivInside x (ivMul (ivDiv x y) y) else true) = true := by
    refine lC (fun hr => ?_) (fun _ => rfl)
    have hr := (ivRight_iff _).1 hr
    obtain ⟨rq, _⟩ := R_args2 ivMul_out hr
    obtain ⟨_, _, h0⟩ := R_div rq
    have e := ivDiv_val rx ry h0
    have rq' := rq
    rw [e] at rq'
    have b := R_of.1 rq'
    have eq : ivDiv x y = ⟨qn x y, qx x y, false⟩ := by rw [e, ivOf_in b]
    have i1 := div_hull (a := x) (b := y) (x := x.lo) (y := y.lo) h0 (by omega) (by omega) (by omega) (by omega)
    have i2 := div_hull (a := x) (b := y) (x := x.hi) (y := y.lo) h0 (by omega) (by omega) (by omega) (by omega)
    have j1 := (le_dq (by omega)).1 i1.1
    have j2 := (dq_le_iff (by omega)).1 i1.2
    have j3 := (le_dq (by omega)).1 i2.1
    have j4 := (dq_le_iff (by omega)).1 i2.2
    have m1 := mul_hull (a := ivDiv x y) (b := y) (x := qn x y) (y := y.lo) (by rw [eq]; simp only; omega) (by rw [eq]; simp only; omega) (by omega) (by omega)
    have m2 := mul_hull (a := ivDiv x y) (b := y) (x := qx x y) (y := y.lo) (by rw [eq]; simp only; omega) (by rw [eq]; simp only; omega) (by omega) (by omega)
    have s := ivMul_spec rq ry
    have hr2 := hr
    rw [s] at hr2
    have b2 := R_of.1 hr2
    have q1 := dn_le (a := mn (ivDiv x y) y) (b := 65536) (by omega)
    have q2 := upq_ge (a := mx (ivDiv x y) y) (b := 65536) (by omega)
    rw [ivInside_iff]
    refine ⟨rx, hr, ?_⟩
    rw [s, ivOf_in b2]
    simp only
    omega
  refine lT known2_true (lT k1 (lC (fun h => lT (k2 ((ivRight_iff _).1 h)) k3) (fun _ => k3)))
end Go.Proofs.Ytbaihncnbejjbaa
