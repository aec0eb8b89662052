import Derived.Test.YtbaihncnbejjbaaPIv3
import Derived.Test.YtbaihncnbejjbaaTurn
import Derived.Test.YtbaihncnbejjbaaRTurn
import Derived.Test.YtbaihncnbejjbaaHandV
set_option linter.unusedVariables false
set_option linter.unusedSimpArgs false
namespace Go.Proofs.Ytbaihncnbejjbaa

/-! ## Places and ways -/
def RV (a : V) : Prop := R a.x ∧ R a.y ∧ R a.z
def LeV (a b : V) : Prop := Le a.x b.x ∧ Le a.y b.y ∧ Le a.z b.z
theorem vecRight_iff (a : V) : vecRight a = true ↔ RV a := by
  unfold vecRight RV
  rw [← ivRight_iff, ← ivRight_iff, ← ivRight_iff]
  cases ivRight a.x <;> cases ivRight a.y <;> cases ivRight a.z <;> simp
theorem LeV.rfl' (a : V) : LeV a a := ⟨Le.rfl' _, Le.rfl' _, Le.rfl' _⟩
theorem rVecRight_eq (a : V) : rVecRight a = vecRight a := rfl
theorem rVecAdd_eq (a b : V) : rVecAdd a b = vecAdd a b := by
  unfold rVecAdd vecAdd vecOf
  simp only [rAdd_eq]
theorem rVecSub_eq (a b : V) : rVecSub a b = vecSub a b := by
  unfold rVecSub vecSub vecOf
  simp only [rSub_eq]
theorem rVecScale_eq (a : V) (k : Iv) : rVecScale a k = vecScale a k := by
  unfold rVecScale vecScale vecOf
  simp only [rMulIv_eq]
theorem rVecDot_eq (a b : V) : rVecDot a b = vecDot a b := by
  unfold rVecDot rVecDot_e0 vecDot vecDot_e0
  simp only [rMulIv_eq, rAdd_eq]
theorem rVecLen2_eq (a : V) : rVecLen2 a = vecLen2 a := by
  unfold rVecLen2 vecLen2
  simp only [rSqr_eq, rAdd_eq]
theorem rVecUnit_eq (a : V) : rVecUnit a = vecUnit a := by
  unfold rVecUnit vecUnit vecUnit_e0 vecOf
  simp only [rDivIv_eq, rRootIv_eq, rVecLen2_eq]
theorem rVecAlong_eq (r : Ray) (t : Iv) : rVecAlong r t = vecAlong r t := by
  unfold rVecAlong vecAlong
  rw [rVecAdd_eq, rVecScale_eq]
theorem rVecHull_eq (a b : V) : rVecHull a b = vecHull a b := by
  unfold rVecHull vecHull vecOf
  simp only [rHull_eq]
theorem rVecInside_eq (a b : V) : rVecInside a b = vecInside a b := by
  unfold rVecInside vecInside
  simp only [rInside_eq]
theorem rVecMirror_eq (a : V) : rVecMirror a = vecMirror a := rfl
/-- Turned by one, two, three quarters. -/
def turn1 (a : V) : V := ⟨ivNeg a.y, a.x, a.z⟩
def turn2 (a : V) : V := ⟨ivNeg a.x, ivNeg a.y, a.z⟩
def turn3 (a : V) : V := ⟨ivNeg (ivNeg a.y), ivNeg a.x, a.z⟩
theorem vecTurn_spec (a : V) (k : Int) : (k % 4 = 0 ∧ vecTurn a k = a) ∨ (k % 4 = 1 ∧ vecTurn a k = turn1 a) ∨ (k % 4 = 2 ∧ vecTurn a k = turn2 a) ∨ (k % 4 = 3 ∧ vecTurn a k = turn3 a) := by
  unfold vecTurn turn1 turn2 turn3
  rw [turn_mod]
  have h : k % 4 = 0 ∨ k % 4 = 1 ∨ k % 4 = 2 ∨ k % 4 = 3 := by omega
  rcases h with h | h | h | h <;> rw [h] <;> simp
theorem k4 (k : Int) : k % 4 = 0 ∨ k % 4 = 1 ∨ k % 4 = 2 ∨ k % 4 = 3 := by omega
theorem t0 {k : Int} (h : k % 4 = 0) (a : V) : vecTurn a k = a := by
  rcases vecTurn_spec a k with ⟨h', e⟩ | ⟨h', e⟩ | ⟨h', e⟩ | ⟨h', e⟩ <;> first | exact e | (exfalso; omega)
theorem t1 {k : Int} (h : k % 4 = 1) (a : V) : vecTurn a k = turn1 a := by
  rcases vecTurn_spec a k with ⟨h', e⟩ | ⟨h', e⟩ | ⟨h', e⟩ | ⟨h', e⟩ <;> first | exact e | (exfalso; omega)
theorem t2 {k : Int} (h : k % 4 = 2) (a : V) : vecTurn a k = turn1 (turn1 a) := by
  rcases vecTurn_spec a k with ⟨h', e⟩ | ⟨h', e⟩ | ⟨h', e⟩ | ⟨h', e⟩ <;> first | exact e | (exfalso; omega)
theorem t3 {k : Int} (h : k % 4 = 3) (a : V) : vecTurn a k = turn1 (turn1 (turn1 a)) := by
  rcases vecTurn_spec a k with ⟨h', e⟩ | ⟨h', e⟩ | ⟨h', e⟩ | ⟨h', e⟩ <;> first | exact e | (exfalso; omega)
theorem rVecTurn_eq (a : V) (k : Int) : rVecTurn a k = vecTurn a k := by
  unfold rVecTurn rVecTurn_e0 vecTurn
  rw [turn_mod, rturn_mod]
  have h : k % 4 = 0 ∨ k % 4 = 1 ∨ k % 4 = 2 ∨ k % 4 = 3 := by omega
  rcases h with h | h | h | h <;> rw [h] <;> rfl
theorem leV_add {a b c d : V} (h1 : LeV a c) (h2 : LeV b d) : LeV (vecAdd a b) (vecAdd c d) := ⟨le_add h1.1 h2.1, le_add h1.2.1 h2.2.1, le_add h1.2.2 h2.2.2⟩
theorem leV_sub {a b c d : V} (h1 : LeV a c) (h2 : LeV b d) : LeV (vecSub a b) (vecSub c d) := ⟨le_sub h1.1 h2.1, le_sub h1.2.1 h2.2.1, le_sub h1.2.2 h2.2.2⟩
theorem leV_scale {a c : V} {k j : Iv} (h1 : LeV a c) (h2 : Le k j) : LeV (vecScale a k) (vecScale c j) := ⟨le_mul h1.1 h2, le_mul h1.2.1 h2, le_mul h1.2.2 h2⟩
theorem le_dot {a b c d : V} (h1 : LeV a c) (h2 : LeV b d) : Le (vecDot a b) (vecDot c d) := le_add (le_add (le_mul h1.1 h2.1) (le_mul h1.2.1 h2.2.1)) (le_mul h1.2.2 h2.2.2)
theorem le_len2 {a c : V} (h1 : LeV a c) : Le (vecLen2 a) (vecLen2 c) := le_add (le_add (le_sqr h1.1) (le_sqr h1.2.1)) (le_sqr h1.2.2)
theorem leV_unit {a c : V} (h1 : LeV a c) : LeV (vecUnit a) (vecUnit c) := ⟨le_div h1.1 (le_root (le_len2 h1)), le_div h1.2.1 (le_root (le_len2 h1)), le_div h1.2.2 (le_root (le_len2 h1))⟩
theorem leV_along {a c : Ray} {t s : Iv} (h1 : LeV a.o c.o) (h2 : LeV a.d c.d) (h3 : Le t s) : LeV (vecAlong a t) (vecAlong c s) := leV_add h1 (leV_scale h2 h3)
theorem hInV_Le (a : V) (x y : Int) : LeV (hInV a x y) a := ⟨hIn_Le _ _ _, hIn_Le _ _ _, hIn_Le _ _ _⟩
/-! ### turned, mirrored -/
theorem ivMul_neg2 (a b : Iv) : ivMul (ivNeg a) (ivNeg b) = ivMul a b := by
  by_cases h : R a ∧ R b
  · rw [ivMul_negl, ivMul_negr]
    by_cases k : R (ivMul a b)
    · exact ivNeg_neg k
    · have e : ivMul a b = ivNone := by
        rw [ivMul_spec h.1 h.2] at k ⊢
        exact ivOf_out (fun q => k (R_of.2 q))
      rw [e, ivNeg_none, ivNeg_none]
  · rw [ivMul_out h, ivMul_out (fun k => h ⟨R_neg.1 k.1, R_neg.1 k.2⟩)]
theorem dot_turn1 (a b : V) : vecDot (turn1 a) (turn1 b) = vecDot a b := by
  unfold vecDot vecDot_e0 turn1
  simp only [ivMul_neg2]
  rw [ivAdd_comm (ivMul a.y b.y)]
theorem turn2_eq (a : V) : turn2 a = turn1 (turn1 a) := rfl
theorem turn3_eq (a : V) : turn3 a = turn1 (turn1 (turn1 a)) := rfl
theorem dot_turn (a b : V) (k : Int) : vecDot (vecTurn a k) (vecTurn b k) = vecDot a b := by
  rcases k4 k with h | h | h | h
  · rw [t0 h, t0 h]
  · rw [t1 h, t1 h, dot_turn1]
  · rw [t2 h, t2 h, dot_turn1, dot_turn1]
  · rw [t3 h, t3 h, dot_turn1, dot_turn1, dot_turn1]
theorem len2_turn1 (a : V) : vecLen2 (turn1 a) = vecLen2 a := by
  unfold vecLen2 turn1
  simp only [ivSqr_neg]
  rw [ivAdd_comm (ivSqr a.y)]
theorem len2_turn (a : V) (k : Int) : vecLen2 (vecTurn a k) = vecLen2 a := by
  rcases k4 k with h | h | h | h
  · rw [t0 h]
  · rw [t1 h, len2_turn1]
  · rw [t2 h, len2_turn1, len2_turn1]
  · rw [t3 h, len2_turn1, len2_turn1, len2_turn1]
theorem add_turn1 (a b : V) : turn1 (vecAdd a b) = vecAdd (turn1 a) (turn1 b) := by
  unfold vecAdd vecOf turn1
  simp only [ivNeg_add]
theorem add_turn (a b : V) (k : Int) : vecTurn (vecAdd a b) k = vecAdd (vecTurn a k) (vecTurn b k) := by
  rcases k4 k with h | h | h | h
  · rw [t0 h, t0 h, t0 h]
  · rw [t1 h, t1 h, t1 h, add_turn1]
  · rw [t2 h, t2 h, t2 h, add_turn1, add_turn1]
  · rw [t3 h, t3 h, t3 h, add_turn1, add_turn1, add_turn1]
theorem rq_negv (n c : Int) (up : Bool) : rq (-n) c (!up) = -(rq n c up) := by
  unfold rq upq dn
  cases up
  · simp
  · simp
theorem dq_negl (x : Int) {y : Int} (h : y ≠ 0) (up : Bool) : dq (-x) y (!up) = -(dq x y up) := by
  unfold dq
  rw [← rq_negv]
  by_cases hn : y < 0
  · rw [decide_eq_true hn]; simp only [cond_true, Int.neg_mul]
  · rw [decide_eq_false hn]; simp only [cond_false, Int.neg_mul]
theorem dq_negf (x : Int) {y : Int} (h : y ≠ 0) : dq (-x) y false = -(dq x y true) := dq_negl x h true
theorem dq_negt (x : Int) {y : Int} (h : y ≠ 0) : dq (-x) y true = -(dq x y false) := dq_negl x h false
theorem ivDiv_negl (a b : Iv) : ivDiv (ivNeg a) b = ivNeg (ivDiv a b) := by
  by_cases h : R a ∧ R b ∧ ¬ (b.lo ≤ 0 ∧ 0 ≤ b.hi)
  · rw [ivDiv_val (R_neg.2 h.1) h.2.1 h.2.2, ivDiv_val h.1 h.2.1 h.2.2, ivNeg_of]
    have hb := h.2.1.2
    have e1 : qn (ivNeg a) b = -(qx a b) := by
      rw [ivNeg_spec h.1]
      unfold qn qx min4 max4
      simp only
      simp (disch := omega) only [dq_negf]
      omega
    have e2 : qx (ivNeg a) b = -(qn a b) := by
      rw [ivNeg_spec h.1]
      unfold qn qx min4 max4
      simp only
      simp (disch := omega) only [dq_negt]
      omega
    rw [e1, e2]
  · rw [ivDiv_out h, ivDiv_out (fun k => h ⟨R_neg.1 k.1, k.2⟩), ivNeg_none]
theorem unit_turn1 (a : V) : vecUnit (turn1 a) = turn1 (vecUnit a) := by
  unfold vecUnit vecUnit_e0 vecOf
  rw [len2_turn1]
  unfold turn1
  simp only [ivDiv_negl]
theorem vecTurn_1 (a : V) : vecTurn a 1 = turn1 a := t1 rfl a
theorem turn1_4 {a : V} (h : RV a) : turn1 (turn1 (turn1 (turn1 a))) = a := by
  unfold turn1
  simp only
  rw [ivNeg_neg h.1, ivNeg_neg h.2.1]
theorem turn_back {a : V} (ha : RV a) {k j : Int} (h : (k + j) % 4 = 0) : vecTurn (vecTurn a k) j = a := by
  have e4 := turn1_4 ha
  rcases k4 k with h1 | h1 | h1 | h1
  · rw [t0 h1, t0 (by omega)]
  · rw [t1 h1, t3 (by omega), e4]
  · rw [t2 h1, t2 (by omega), e4]
  · rw [t3 h1, t1 (by omega), e4]
theorem dot_mirror (a b : V) : vecDot (vecMirror a) (vecMirror b) = vecDot a b := by
  unfold vecDot vecDot_e0 vecMirror
  simp only [ivMul_neg2]
theorem len2_mirror (a : V) : vecLen2 (vecMirror a) = vecLen2 a := by
  unfold vecLen2 vecMirror
  simp only [ivSqr_neg]
theorem unit_mirror (a : V) : vecUnit (vecMirror a) = vecMirror (vecUnit a) := by
  unfold vecUnit vecUnit_e0 vecOf
  rw [len2_mirror]
  unfold vecMirror
  simp only [ivDiv_negl]
theorem mirror2 {a : V} (h : RV a) : vecMirror (vecMirror a) = a := by
  unfold vecMirror
  simp only
  rw [ivNeg_neg h.2.1]
end Go.Proofs.Ytbaihncnbejjbaa
