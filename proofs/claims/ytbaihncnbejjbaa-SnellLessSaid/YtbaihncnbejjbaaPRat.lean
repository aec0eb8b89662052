import Derived.Test.YtbaihncnbejjbaaPIv2
set_option linter.unusedVariables false
set_option linter.unusedSimpArgs false
namespace Go.Proofs.Ytbaihncnbejjbaa

/-! ## Fractions in intervals: x in units of One -/
def Mem (x : Rat) (a : Iv) : Prop := R a ∧ (a.lo : Rat) ≤ 65536 * x ∧ 65536 * x ≤ (a.hi : Rat)
theorem cast_le {a b : Int} (h : a ≤ b) : (a : Rat) ≤ (b : Rat) := Rat.intCast_le_intCast.2 h
theorem lin_le {m a b x y : Rat} (h1 : a ≤ x) (h2 : x ≤ b) (k1 : m ≤ a * y) (k2 : m ≤ b * y) : m ≤ x * y := by
  by_cases h : 0 ≤ y
  · have := Rat.mul_nonneg (show 0 ≤ x - a by grind) h
    grind
  · have := Rat.mul_nonneg (show 0 ≤ b - x by grind) (show 0 ≤ -y by grind)
    grind
theorem corner_le {m a1 a2 b1 b2 x y : Rat} (h1 : a1 ≤ x) (h2 : x ≤ a2) (h3 : b1 ≤ y) (h4 : y ≤ b2) (k1 : m ≤ a1 * b1) (k2 : m ≤ a1 * b2) (k3 : m ≤ a2 * b1) (k4 : m ≤ a2 * b2) : m ≤ x * y := by
  have q : ∀ a : Rat, m ≤ a * b1 → m ≤ a * b2 → m ≤ a * y := fun a e f => by
    have := lin_le h3 h4 (show m ≤ b1 * a by grind) (show m ≤ b2 * a by grind)
    grind
  exact lin_le h1 h2 (q a1 k1 k2) (q a2 k3 k4)
theorem le_corner {m a1 a2 b1 b2 x y : Rat} (h1 : a1 ≤ x) (h2 : x ≤ a2) (h3 : b1 ≤ y) (h4 : y ≤ b2) (k1 : a1 * b1 ≤ m) (k2 : a1 * b2 ≤ m) (k3 : a2 * b1 ≤ m) (k4 : a2 * b2 ≤ m) : x * y ≤ m := by
  have := corner_le (m := -m) (a1 := -a2) (a2 := -a1) (x := -x) (y := y) (by grind) (by grind) h3 h4 (by grind) (by grind) (by grind) (by grind)
  grind
theorem mem_add {x y : Rat} {a b : Iv} (hx : Mem x a) (hy : Mem y b) (h : R (ivAdd a b)) : Mem (x + y) (ivAdd a b) := by
  refine ⟨h, ?_⟩
  rw [ivAdd_spec hx.1 hy.1] at h ⊢
  rw [ivOf_in (R_of.1 h)]
  obtain ⟨_, h1, h2⟩ := hx
  obtain ⟨_, h3, h4⟩ := hy
  simp only [Rat.intCast_add]
  constructor <;> grind
theorem mem_neg {x : Rat} {a : Iv} (hx : Mem x a) : Mem (-x) (ivNeg a) := by
  refine ⟨R_neg.2 hx.1, ?_⟩
  rw [ivNeg_spec hx.1]
  obtain ⟨_, h1, h2⟩ := hx
  simp only [Rat.intCast_neg]
  constructor <;> grind
theorem mem_sub {x y : Rat} {a b : Iv} (hx : Mem x a) (hy : Mem y b) (h : R (ivSub a b)) : Mem (x - y) (ivSub a b) := by
  have := mem_add hx (mem_neg hy) h
  rw [Rat.sub_eq_add_neg]
  exact this
theorem mem_mul {x y : Rat} {a b : Iv} (hx : Mem x a) (hy : Mem y b) (h : R (ivMul a b)) : Mem (x * y) (ivMul a b) := by
  refine ⟨h, ?_⟩
  rw [ivMul_spec hx.1 hy.1] at h ⊢
  rw [ivOf_in (R_of.1 h)]
  obtain ⟨_, h1, h2⟩ := hx
  obtain ⟨_, h3, h4⟩ := hy
  obtain ⟨k1, k2, k3, k4⟩ := min4_le (a.lo * b.lo) (a.lo * b.hi) (a.hi * b.lo) (a.hi * b.hi)
  obtain ⟨j1, j2, j3, j4⟩ := le_max4 (a.lo * b.lo) (a.lo * b.hi) (a.hi * b.lo) (a.hi * b.hi)
  have d1 := dn_le (a := mn a b) (b := 65536) (by omega)
  have d2 := upq_ge (a := mx a b) (b := 65536) (by omega)
  have c1 : (mn a b : Rat) ≤ 65536 * x * (65536 * y) := by
    refine corner_le h1 h2 h3 h4 ?_ ?_ ?_ ?_ <;> rw [← Rat.intCast_mul] <;> exact cast_le (by assumption)
  have c2 : 65536 * x * (65536 * y) ≤ (mx a b : Rat) := by
    refine le_corner h1 h2 h3 h4 ?_ ?_ ?_ ?_ <;> rw [← Rat.intCast_mul] <;> exact cast_le (by assumption)
  have e1 := cast_le d1.1
  have e2 := cast_le d2.1
  rw [Rat.intCast_mul] at e1 e2
  simp only
  generalize (dn (mn a b) 65536 : Rat) = lo at *
  generalize (upq (mx a b) 65536 : Rat) = hi at *
  constructor <;> grind
theorem mem_sqr {x : Rat} {a : Iv} (hx : Mem x a) (h : R (ivSqr a)) : Mem (x * x) (ivSqr a) := by
  refine ⟨h, ?_⟩
  rw [ivSqr_spec hx.1] at h ⊢
  rw [ivOf_in (R_of.1 h)]
  obtain ⟨ra, h1, h2⟩ := hx
  have nf := near_far ra
  have d1 := dn_le (a := near a * near a) (b := 65536) (by omega)
  have d2 := upq_ge (a := far a * far a) (b := 65536) (by omega)
  have hf1 : (-(far a : Int) : Int) ≤ a.lo := by unfold far; omega
  have hf2 : a.hi ≤ far a := by unfold far; omega
  have hf1' := cast_le hf1
  have hf2' := cast_le hf2
  rw [Rat.intCast_neg] at hf1'
  have hn : (near a : Rat) ≤ 65536 * x ∨ (near a : Rat) ≤ -(65536 * x) := by
    rcases (by unfold near; omega : near a = 0 ∨ near a = a.lo ∨ near a = -a.hi) with e | e | e
    · rw [e]
      by_cases p : 0 ≤ 65536 * x
      · left; exact p
      · right; grind
    · left; rw [e]; exact h1
    · right; rw [e, Rat.intCast_neg]; grind
  have n0 : (0 : Rat) ≤ (near a : Rat) := cast_le nf.1
  have f0 : ((0 : Int) : Rat) ≤ (far a : Rat) := cast_le (by omega)
  have z0 : ((0 : Int) : Rat) = 0 := rfl
  have c1 : (near a : Rat) * near a ≤ 65536 * x * (65536 * x) := by
    rcases hn with q | q
    · have := Rat.mul_nonneg (show 0 ≤ 65536 * x - near a by grind) (show 0 ≤ 65536 * x + near a by grind)
      grind
    · have := Rat.mul_nonneg (show 0 ≤ -(65536 * x) - near a by grind) (show 0 ≤ -(65536 * x) + near a by grind)
      grind
  have c2 : 65536 * x * (65536 * x) ≤ (far a : Rat) * far a := by
    have := Rat.mul_nonneg (show 0 ≤ (far a : Rat) - 65536 * x by grind) (show 0 ≤ (far a : Rat) + 65536 * x by grind)
    grind
  have e1 := cast_le d1.1
  have e2 := cast_le d2.1
  rw [Rat.intCast_mul, Rat.intCast_mul] at e1 e2
  simp only
  generalize (dn (near a * near a) 65536 : Rat) = lo at *
  generalize (upq (far a * far a) 65536 : Rat) = hi at *
  constructor <;> grind
theorem mem_times {x : Rat} {a : Iv} {k : Int} (hx : Mem x a) (h : R (ivTimes a k)) : Mem (k * x) (ivTimes a k) := by
  have hk : R a ∧ (-1073741824 ≤ k ∧ k ≤ 1073741824) := Classical.byContradiction fun n => by rw [ivTimes_out n] at h; exact R_none h
  refine ⟨h, ?_⟩
  rw [ivTimes_spec hk.1 hk.2] at h ⊢
  rw [ivOf_in (R_of.1 h)]
  obtain ⟨_, h1, h2⟩ := hx
  have m1 := cast_le (Int.min_le_left (k * a.lo) (k * a.hi))
  have m2 := cast_le (Int.min_le_right (k * a.lo) (k * a.hi))
  have m3 := cast_le (Int.le_max_left (k * a.lo) (k * a.hi))
  have m4 := cast_le (Int.le_max_right (k * a.lo) (k * a.hi))
  rw [Rat.intCast_mul] at m1 m2 m3 m4
  simp only
  generalize ((min (k * a.lo) (k * a.hi) : Int) : Rat) = lo at *
  generalize ((max (k * a.lo) (k * a.hi) : Int) : Rat) = hi at *
  have c1 := lin_le (y := (k : Rat)) h1 h2 (m := lo) (by grind) (by grind)
  have c2 := lin_le (y := -(k : Rat)) h1 h2 (m := -hi) (by grind) (by grind)
  constructor <;> grind
/-- A quotient's place, from its ends. -/
theorem mem_div {x y : Rat} {a b : Iv} (hx : Mem x a) (hy : Mem y b) (h : R (ivDiv a b)) : y ≠ 0 ∧ Mem (x / y) (ivDiv a b) := by
  obtain ⟨ra, rb, h0⟩ := R_div h
  have hb := rb.2
  have hd := h
  rw [ivDiv_val ra rb h0] at hd
  have bd := R_of.1 hd
  obtain ⟨k1, k2, k3, k4⟩ := min4_le (dq a.lo b.lo false) (dq a.lo b.hi false) (dq a.hi b.lo false) (dq a.hi b.hi false)
  obtain ⟨j1, j2, j3, j4⟩ := le_max4 (dq a.lo b.lo true) (dq a.lo b.hi true) (dq a.hi b.lo true) (dq a.hi b.hi true)
  have k1 := (le_dq (by omega)).1 k1
  have k2 := (le_dq (by omega)).1 k2
  have k3 := (le_dq (by omega)).1 k3
  have k4 := (le_dq (by omega)).1 k4
  have j1 := (dq_le_iff (by omega)).1 j1
  have j2 := (dq_le_iff (by omega)).1 j2
  have j3 := (dq_le_iff (by omega)).1 j3
  have j4 := (dq_le_iff (by omega)).1 j4
  have en : min4 (dq a.lo b.lo false) (dq a.lo b.hi false) (dq a.hi b.lo false) (dq a.hi b.hi false) = qn a b := rfl
  have ex : max4 (dq a.lo b.lo true) (dq a.lo b.hi true) (dq a.hi b.lo true) (dq a.hi b.hi true) = qx a b := rfl
  rw [en] at k1 k2 k3 k4
  rw [ex] at j1 j2 j3 j4
  obtain ⟨_, x1, x2⟩ := hx
  obtain ⟨_, y1, y2⟩ := hy
  have fin : ∀ lo hi : Rat, y ≠ 0 → ((0 < y ∧ lo * (65536 * y) ≤ 65536 * x * 65536 ∧ 65536 * x * 65536 ≤ hi * (65536 * y)) ∨ (y < 0 ∧ 65536 * x * 65536 ≤ lo * (65536 * y) ∧ hi * (65536 * y) ≤ 65536 * x * 65536)) → lo ≤ 65536 * (x / y) ∧ 65536 * (x / y) ≤ hi := by
    intro lo hi hy hc
    have e : x / y * y = x := by grind
    rcases hc with ⟨p, q1, q2⟩ | ⟨p, q1, q2⟩
    · constructor
      · refine Rat.not_lt.1 fun hn => ?_
        have := Rat.mul_pos (show 0 < lo - 65536 * (x / y) by grind) p
        grind
      · refine Rat.not_lt.1 fun hn => ?_
        have := Rat.mul_pos (show 0 < 65536 * (x / y) - hi by grind) p
        grind
    · constructor
      · refine Rat.not_lt.1 fun hn => ?_
        have := Rat.mul_pos (show 0 < lo - 65536 * (x / y) by grind) (show 0 < -y by grind)
        grind
      · refine Rat.not_lt.1 fun hn => ?_
        have := Rat.mul_pos (show 0 < 65536 * (x / y) - hi by grind) (show 0 < -y by grind)
        grind
  have val : ivDiv a b = ⟨qn a b, qx a b, false⟩ := by rw [ivDiv_val ra rb h0, ivOf_in bd]
  have goal : y ≠ 0 ∧ ((qn a b : Rat) ≤ 65536 * (x / y) ∧ 65536 * (x / y) ≤ (qx a b : Rat)) := by
    generalize qn a b = lo at *
    generalize qx a b = hi at *
    rcases (by omega : 0 < b.lo ∨ b.hi < 0) with hp | hn
    · have p1 : (0 : Rat) < (b.lo : Rat) := Rat.intCast_lt_intCast.2 hp
      have hyp : 0 < y := by grind
      have l1 := cast_le (show lo * b.lo ≤ a.lo * 65536 by omega)
      have l2 := cast_le (show lo * b.hi ≤ a.lo * 65536 by omega)
      have u1 := cast_le (show a.hi * 65536 ≤ hi * b.lo by omega)
      have u2 := cast_le (show a.hi * 65536 ≤ hi * b.hi by omega)
      rw [Rat.intCast_mul, Rat.intCast_mul] at l1 l2 u1 u2
      have c1 := lin_le (y := -(lo : Rat)) y1 y2 (m := -((a.lo : Rat) * (65536 : Int))) (by grind) (by grind)
      have c2 := lin_le (y := (hi : Rat)) y1 y2 (m := ((a.hi : Rat) * (65536 : Int))) (by grind) (by grind)
      refine ⟨by grind, fin _ _ (by grind) (Or.inl ⟨hyp, ?_, ?_⟩)⟩ <;> grind
    · have p1 : (b.hi : Rat) < ((0 : Int) : Rat) := Rat.intCast_lt_intCast.2 hn
      have hyp : y < 0 := by grind
      have l1 := cast_le (show a.hi * 65536 ≤ lo * b.lo by omega)
      have l2 := cast_le (show a.hi * 65536 ≤ lo * b.hi by omega)
      have u1 := cast_le (show hi * b.lo ≤ a.lo * 65536 by omega)
      have u2 := cast_le (show hi * b.hi ≤ a.lo * 65536 by omega)
      rw [Rat.intCast_mul, Rat.intCast_mul] at l1 l2 u1 u2
      have c1 := lin_le (y := (lo : Rat)) y1 y2 (m := ((a.hi : Rat) * (65536 : Int))) (by grind) (by grind)
      have c2 := lin_le (y := -(hi : Rat)) y1 y2 (m := -((a.lo : Rat) * (65536 : Int))) (by grind) (by grind)
      refine ⟨by grind, fin _ _ (by grind) (Or.inr ⟨hyp, ?_, ?_⟩)⟩ <;> grind
  refine ⟨goal.1, h, ?_⟩
  rw [val]
  exact goal.2
theorem mem_hull {x : Rat} {a b : Iv} (hx : Mem x a ∨ Mem x b) (ha : R a) (hb : R b) : Mem x (ivHull a b) := by
  have h1 := ha.2
  have h2 := hb.2
  rw [ivHull_spec ha hb]
  have m1 := cast_le (Int.min_le_left a.lo b.lo)
  have m2 := cast_le (Int.min_le_right a.lo b.lo)
  have m3 := cast_le (Int.le_max_left a.hi b.hi)
  have m4 := cast_le (Int.le_max_right a.hi b.hi)
  refine ⟨R_mk (by omega) (by omega) (by omega), ?_⟩
  simp only
  rcases hx with h | h
  · exact ⟨Rat.le_trans m1 h.2.1, Rat.le_trans h.2.2 m3⟩
  · exact ⟨Rat.le_trans m2 h.2.1, Rat.le_trans h.2.2 m4⟩
/-- A root's ends: their squares lie about what the root is of. -/
theorem root_ends {x : Rat} {a : Iv} (hx : Mem x a) (h : R (ivRoot a)) : 0 ≤ ((ivRoot a).lo : Rat) ∧ ((ivRoot a).lo : Rat) ≤ (ivRoot a).hi ∧
    ((ivRoot a).lo : Rat) / 65536 * ((ivRoot a).lo / 65536) ≤ x ∧ x ≤ ((ivRoot a).hi : Rat) / 65536 * ((ivRoot a).hi / 65536) := by
  obtain ⟨ra, h0⟩ := R_root.1 h
  have rb := ra.2
  have e := ivRoot_val ra h0
  have f1 := (rootf_is (a := a.lo) h0 (by omega)).2.1
  have f2 := rootf_le (a := a.lo) h0 (by omega)
  have c1 := rootc_ge (a := a.hi) (by omega) (by omega)
  have hr := h.2
  rw [e] at hr ⊢
  simp only at hr ⊢
  obtain ⟨_, x1, x2⟩ := hx
  have g1 := cast_le f1
  have g2 := cast_le c1
  have g3 := cast_le f2.1
  have g4 := cast_le hr.2.1
  rw [Rat.intCast_mul, Rat.intCast_mul] at g1 g2
  generalize (rootf a.lo : Rat) = l at *
  generalize (rootc a.hi : Rat) = u at *
  refine ⟨g3, g4, ?_, ?_⟩ <;> grind
theorem mem_lo {a : Iv} (h : R a) : Mem ((a.lo : Rat) / 65536) a := by
  have := cast_le h.2.2.1
  refine ⟨h, ?_, ?_⟩ <;> grind
theorem mem_hi {a : Iv} (h : R a) : Mem ((a.hi : Rat) / 65536) a := by
  have := cast_le h.2.2.1
  refine ⟨h, ?_, ?_⟩ <;> grind
theorem mem_pt {n : Int} (h : -1073741824 ≤ n ∧ n ≤ 1073741824) : Mem ((n : Rat) / 65536) ⟨n, n, false⟩ := mem_lo (R_mk h.1 (by omega) h.2)
/-- A whole number of steps between two fractions that lie in an interval lies in it. -/
theorem has_between {a : Iv} {n : Int} {x y : Rat} (hx : Mem x a) (hy : Mem y a) (h1 : 65536 * x ≤ (n : Rat)) (h2 : (n : Rat) ≤ 65536 * y) : ivHas a n = true := by
  rw [ivHas_iff]
  refine ⟨hx.1, Rat.intCast_le_intCast.1 (Rat.le_trans hx.2.1 h1), Rat.intCast_le_intCast.1 (Rat.le_trans h2 hy.2.2)⟩
/-- Two intervals that have one fraction meet. -/
theorem meet_of {a b : Iv} {x : Rat} (hx : Mem x a) (hy : Mem x b) : R (ivMeet a b) := by
  rw [ivMeet_spec hx.1 hy.1, R_of]
  have a1 := hx.1.2
  have b1 := hy.1.2
  have h1 : a.lo ≤ b.hi := Rat.intCast_le_intCast.1 (Rat.le_trans hx.2.1 hy.2.2)
  have h2 : b.lo ≤ a.hi := Rat.intCast_le_intCast.1 (Rat.le_trans hy.2.1 hx.2.2)
  omega
end Go.Proofs.Ytbaihncnbejjbaa
