import Derived.Test.YtbaihncnbejjbaaPVec2
import Derived.Test.YtbaihncnbejjbaaLVecUnits
set_option linter.unusedVariables false
set_option linter.unusedSimpArgs false
namespace Go.Proofs.Ytbaihncnbejjbaa

/-- A part of a unit: no more, no less than its true part, squared. -/
theorem unit_part {a g : Iv} {p S : Int} (ra : R a) (h1 : a.lo ≤ p) (h2 : p ≤ a.hi) (hg : 0 ≤ g.lo) (hS : g.lo * g.lo ≤ S) (hS' : S ≤ g.hi * g.hi) (hd : R (ivDiv a g)) :
    near (ivDiv a g) * near (ivDiv a g) * S ≤ p * 65536 * (p * 65536) ∧ p * 65536 * (p * 65536) ≤ far (ivDiv a g) * far (ivDiv a g) * S := by
  obtain ⟨_, rg, h0⟩ := R_div hd
  have hgb := rg.2
  have e := ivDiv_val ra rg h0
  have hd' := hd
  rw [e] at hd'
  have b := R_of.1 hd'
  have ev : ivDiv a g = ⟨qn a g, qx a g, false⟩ := by rw [e, ivOf_in b]
  have i1 := div_hull (a := a) (b := g) (x := p) (y := g.lo) h0 h1 h2 (by omega) (by omega)
  have i2 := div_hull (a := a) (b := g) (x := p) (y := g.hi) h0 h1 h2 (by omega) (by omega)
  have j1 := (le_dq (by omega)).1 i1.1
  have j2 := (dq_le_iff (by omega)).1 i1.2
  have j3 := (le_dq (by omega)).1 i2.1
  have j4 := (dq_le_iff (by omega)).1 i2.2
  have n0 := near_far hd
  have hnear : near (ivDiv a g) = max (max (qn a g) (-(qx a g))) 0 := by rw [ev]; rfl
  have hfar : far (ivDiv a g) = max (-(qn a g)) (qx a g) := by rw [ev]; rfl
  generalize near (ivDiv a g) = n at *
  generalize far (ivDiv a g) = f at *
  generalize qn a g = lo at *
  generalize qx a g = hi at *
  have hS0 : 0 ≤ S := Int.le_trans (Int.mul_nonneg hg hg) hS
  -- n h ≤ |p|, |p| ≤ f l
  have k1 : n * g.hi ≤ p * 65536 ∨ n * g.hi ≤ -(p * 65536) := by
    rcases (by omega : n = 0 ∨ n = lo ∨ n = -hi) with h | h | h
    · rw [h]; simp; omega
    · rw [h]; left; omega
    · rw [h, Int.neg_mul]; right; omega
  have k2 : p * 65536 ≤ f * g.lo ∧ -(p * 65536) ≤ f * g.lo := by
    have q1 : hi * g.lo ≤ f * g.lo := Int.mul_le_mul_of_nonneg_right (by omega) hg
    have q2 : -lo * g.lo ≤ f * g.lo := Int.mul_le_mul_of_nonneg_right (by omega) hg
    rw [Int.neg_mul] at q2
    omega
  have hn0 : 0 ≤ n * g.hi := Int.mul_nonneg n0.1 (by omega)
  have sq : ∀ {x y : Int}, 0 ≤ x → (x ≤ y ∨ x ≤ -y) → x * x ≤ y * y := by
    intro x y hx h
    rcases h with h | h
    · exact sq_mono hx h
    · rw [← Int.neg_mul_neg y y]; exact sq_mono hx h
  have s1 := sq hn0 k1
  have s2 : p * 65536 * (p * 65536) ≤ f * g.lo * (f * g.lo) := by
    by_cases hp : 0 ≤ p
    · exact sq_mono (by omega) k2.1
    · rw [← Int.neg_mul_neg (p * 65536) (p * 65536)]; exact sq_mono (by omega) k2.2
  have nn : 0 ≤ n * n := Int.mul_nonneg n0.1 n0.1
  have ff : 0 ≤ f * f := Int.mul_nonneg (by omega) (by omega)
  constructor
  · have := Int.mul_le_mul_of_nonneg_left hS' nn
    have e : n * n * (g.hi * g.hi) = n * g.hi * (n * g.hi) := by ac_rfl
    omega
  · have := Int.mul_le_mul_of_nonneg_left hS ff
    have e : f * f * (g.lo * g.lo) = f * g.lo * (f * g.lo) := by ac_rfl
    omega
theorem add_val {a b : Iv} (h : R (ivAdd a b)) : R a ∧ R b ∧ ivAdd a b = ⟨a.lo + b.lo, a.hi + b.hi, false⟩ := by
  obtain ⟨ra, rb⟩ := R_args2 ivAdd_out h
  refine ⟨ra, rb, ?_⟩
  rw [ivAdd_spec ra rb] at h ⊢
  exact ivOf_in (R_of.1 h)
theorem sqr_val {a : Iv} (h : R (ivSqr a)) : R a ∧ ivSqr a = ⟨dn (near a * near a) 65536, upq (far a * far a) 65536, false⟩ := by
  have ra := R_args1 ivSqr_out h
  refine ⟨ra, ?_⟩
  rw [ivSqr_spec ra] at h ⊢
  exact ivOf_in (R_of.1 h)
theorem len2_val {a : V} (h : R (vecLen2 a)) : RV a ∧ vecLen2 a = ⟨dn (near a.x * near a.x) 65536 + dn (near a.y * near a.y) 65536 + dn (near a.z * near a.z) 65536, upq (far a.x * far a.x) 65536 + upq (far a.y * far a.y) 65536 + upq (far a.z * far a.z) 65536, false⟩ := by
  unfold vecLen2 at h ⊢
  obtain ⟨h1, hz, e1⟩ := add_val h
  obtain ⟨hx, hy, e2⟩ := add_val h1
  obtain ⟨rx, ex⟩ := sqr_val hx
  obtain ⟨ry, ey⟩ := sqr_val hy
  obtain ⟨rz, ez⟩ := sqr_val hz
  refine ⟨⟨rx, ry, rz⟩, ?_⟩
  rw [e1, e2, ex, ey, ez]
theorem sq_between {a : Iv} {p : Int} (h1 : a.lo ≤ p) (h2 : p ≤ a.hi) : near a * near a ≤ p * p ∧ p * p ≤ far a * far a := by
  unfold near far
  constructor
  · by_cases hp : 0 ≤ p
    · exact sq_mono (by omega) (by omega)
    · rw [← Int.neg_mul_neg p p]; exact sq_mono (by omega) (by omega)
  · by_cases hp : 0 ≤ p
    · exact sq_mono hp (by omega)
    · rw [← Int.neg_mul_neg p p]; exact sq_mono (by omega) (by omega)
theorem unit_has_one {x : V} (hx : RV x) (hu : RV (vecUnit x)) (hs : R (vecLen2 (vecUnit x))) : ivHas (vecLen2 (vecUnit x)) 65536 = true := by
  have ux : (vecUnit x).x = ivDiv x.x (ivRoot (vecLen2 x)) := rfl
  have uy : (vecUnit x).y = ivDiv x.y (ivRoot (vecLen2 x)) := rfl
  have uz : (vecUnit x).z = ivDiv x.z (ivRoot (vecLen2 x)) := rfl
  obtain ⟨_, rg, hg0⟩ := R_div (ux ▸ hu.1)
  obtain ⟨rl, l0⟩ := R_root.1 rg
  obtain ⟨_, el⟩ := len2_val rl
  have eg := ivRoot_val rl l0
  have lb := rl.2
  have bx := hx.1.2
  have by' := hx.2.1.2
  have bz := hx.2.2.2
  have sx := sq_between (a := x.x) (p := x.x.lo) (by omega) (by omega)
  have sy := sq_between (a := x.y) (p := x.y.lo) (by omega) (by omega)
  have sz := sq_between (a := x.z) (p := x.z.lo) (by omega) (by omega)
  have d1 := dn_le (a := near x.x * near x.x) (b := 65536) (by omega)
  have d2 := dn_le (a := near x.y * near x.y) (b := 65536) (by omega)
  have d3 := dn_le (a := near x.z * near x.z) (b := 65536) (by omega)
  have d4 := upq_ge (a := far x.x * far x.x) (b := 65536) (by omega)
  have d5 := upq_ge (a := far x.y * far x.y) (b := 65536) (by omega)
  have d6 := upq_ge (a := far x.z * far x.z) (b := 65536) (by omega)
  have f1 := (rootf_is (a := (vecLen2 x).lo) l0 (by omega)).2.1
  have f2 := rootc_ge (a := (vecLen2 x).hi) (by omega) (by omega)
  have f3 := rootf_le (a := (vecLen2 x).lo) l0 (by omega)
  have lo_e : (vecLen2 x).lo = dn (near x.x * near x.x) 65536 + dn (near x.y * near x.y) 65536 + dn (near x.z * near x.z) 65536 := by rw [el]
  have hi_e : (vecLen2 x).hi = upq (far x.x * far x.x) 65536 + upq (far x.y * far x.y) 65536 + upq (far x.z * far x.z) 65536 := by rw [el]
  have glo : (ivRoot (vecLen2 x)).lo = rootf (vecLen2 x).lo := by rw [eg]
  have ghi : (ivRoot (vecLen2 x)).hi = rootc (vecLen2 x).hi := by rw [eg]
  have hgpos : 0 < (ivRoot (vecLen2 x)).lo := by
    have := rg.2
    omega
  have hS : (ivRoot (vecLen2 x)).lo * (ivRoot (vecLen2 x)).lo ≤ x.x.lo * x.x.lo + x.y.lo * x.y.lo + x.z.lo * x.z.lo := by rw [glo]; omega
  have hS' : x.x.lo * x.x.lo + x.y.lo * x.y.lo + x.z.lo * x.z.lo ≤ (ivRoot (vecLen2 x)).hi * (ivRoot (vecLen2 x)).hi := by rw [ghi]; omega
  have px := unit_part (p := x.x.lo) hx.1 (by omega) (by omega) (by omega) hS hS' (ux ▸ hu.1)
  have py := unit_part (p := x.y.lo) hx.2.1 (by omega) (by omega) (by omega) hS hS' (uy ▸ hu.2.1)
  have pz := unit_part (p := x.z.lo) hx.2.2 (by omega) (by omega) (by omega) hS hS' (uz ▸ hu.2.2)
  rw [← ux] at px
  rw [← uy] at py
  rw [← uz] at pz
  have hg2 : 0 < (ivRoot (vecLen2 x)).lo * (ivRoot (vecLen2 x)).lo := Int.mul_pos hgpos hgpos
  obtain ⟨_, eu⟩ := len2_val hs
  rw [ivHas_iff]
  refine ⟨hs, ?_⟩
  rw [eu]
  simp only
  generalize hSd : x.x.lo * x.x.lo + x.y.lo * x.y.lo + x.z.lo * x.z.lo = S at *
  have e1 : x.x.lo * 65536 * (x.x.lo * 65536) = x.x.lo * x.x.lo * 4294967296 := by
    rw [Int.mul_assoc, Int.mul_comm 65536, Int.mul_assoc, ← Int.mul_assoc]; rfl
  have e2 : x.y.lo * 65536 * (x.y.lo * 65536) = x.y.lo * x.y.lo * 4294967296 := by
    rw [Int.mul_assoc, Int.mul_comm 65536, Int.mul_assoc, ← Int.mul_assoc]; rfl
  have e3 : x.z.lo * 65536 * (x.z.lo * 65536) = x.z.lo * x.z.lo * 4294967296 := by
    rw [Int.mul_assoc, Int.mul_comm 65536, Int.mul_assoc, ← Int.mul_assoc]; rfl
  rw [e1] at px
  rw [e2] at py
  rw [e3] at pz
  generalize hnx : near (vecUnit x).x * near (vecUnit x).x = nx at *
  generalize hny : near (vecUnit x).y * near (vecUnit x).y = ny at *
  generalize hnz : near (vecUnit x).z * near (vecUnit x).z = nz at *
  generalize hfx : far (vecUnit x).x * far (vecUnit x).x = fx at *
  generalize hfy : far (vecUnit x).y * far (vecUnit x).y = fy at *
  generalize hfz : far (vecUnit x).z * far (vecUnit x).z = fz at *
  have hS0 : 0 < S := by omega
  have m1 : (nx + ny + nz) * S ≤ 4294967296 * S := by
    rw [Int.add_mul, Int.add_mul]
    omega
  have m2 : 4294967296 * S ≤ (fx + fy + fz) * S := by
    rw [Int.add_mul, Int.add_mul]
    omega
  have m1' := Int.le_of_mul_le_mul_right m1 hS0
  have m2' := Int.le_of_mul_le_mul_right m2 hS0
  have q1 := dn_le (a := nx) (b := 65536) (by omega)
  have q2 := dn_le (a := ny) (b := 65536) (by omega)
  have q3 := dn_le (a := nz) (b := 65536) (by omega)
  have q4 := upq_ge (a := fx) (b := 65536) (by omega)
  have q5 := upq_ge (a := fy) (b := 65536) (by omega)
  have q6 := upq_ge (a := fz) (b := 65536) (by omega)
  omega
/-- Pythagorean ways: each of the thirty. -/
theorem c10_any (l l' : A6) (m m' n n' z z' a b c : Int) (pv : V) : lawVecUnits_c10 l m n z a b c pv = lawVecUnits_c10 l' m' n' z' a b c pv := by
  unfold lawVecUnits_c10
  exact Eq.refl _
def pyT (a b c : Int) : Bool := lawVecUnits_c10 ⟨0, 0, 0, 0, 0, 0⟩ 0 0 0 a b c (vecTurn (vecUnit (vecOf (ivWhole 0) (ivWhole (w64 (0 - a))) (ivWhole (w64 (0 - b))))) 1)
def pyF (a b c : Int) : Bool := lawVecUnits_c10 ⟨0, 0, 0, 0, 0, 0⟩ 0 0 0 a b c (vecUnit (vecOf (ivWhole a) (ivWhole 0) (ivWhole (w64 (0 - b)))))
def pyth (a b c : Int) : Bool := pyT a b c && pyF a b c
def pythAll : Bool := (List.range 5).all fun i => (List.range (i + 1)).all fun j =>
  let m : Int := i + 2; let n : Int := j + 1
  pyth (w64 (w64 (m * m) - w64 (n * n))) (w64 (w64 (2 * m) * n)) (w64 (w64 (m * m) + w64 (n * n)))
theorem pythAll_true : pythAll = true := by decide +kernel
theorem pyth_true (i j : Nat) (hi : i < 5) (hj : j ≤ i) : pyth (w64 (w64 (((i : Int) + 2) * ((i : Int) + 2)) - w64 (((j : Int) + 1) * ((j : Int) + 1)))) (w64 (w64 (2 * ((i : Int) + 2)) * ((j : Int) + 1))) (w64 (w64 (((i : Int) + 2) * ((i : Int) + 2)) + w64 (((j : Int) + 1) * ((j : Int) + 1)))) = true := by
  have h := pythAll_true
  unfold pythAll at h
  have h1 := List.all_eq_true.1 h i (List.mem_range.2 hi)
  exact List.all_eq_true.1 h1 j (List.mem_range.2 (by omega))
theorem lawVecUnits_true (l : A6) (m n z : Int) : lawVecUnits l m n z = true := by
  have rest : lawVecUnits_c3 l m n z = true := by
    unfold lawVecUnits_c3 lawVecUnits_e4 lawVecUnits_e3 lawVecUnits_e2 lawVecUnits_e1 lawVecUnits_e0
    have p1 := hPick_lt m (m := 5) (by omega) (by omega)
    obtain ⟨i, hi⟩ := Int.eq_ofNat_of_zero_le p1.1
    rw [hi] at p1 ⊢
    have w1 : w64 (2 + (i : Int)) = (i : Int) + 2 := by rw [w64_of (by omega) (by omega)]; omega
    have w2 : w64 ((i : Int) + 2 - 1) = (i : Int) + 1 := by rw [w64_of (by omega) (by omega)]; omega
    rw [w1, w2]
    have p2 := hPick_lt n (m := (i : Int) + 1) (by omega) (by omega)
    obtain ⟨j, hj⟩ := Int.eq_ofNat_of_zero_le p2.1
    rw [hj] at p2 ⊢
    have w3 : w64 (1 + (j : Int)) = (j : Int) + 1 := by rw [w64_of (by omega) (by omega)]; omega
    rw [w3]
    have k := pyth_true i j (by omega) (by omega)
    unfold pyth at k
    rw [Bool.and_eq_true] at k
    refine lC (fun _ => ?_) (fun _ => ?_)
    · rw [c10_any l ⟨0, 0, 0, 0, 0, 0⟩ m 0 n 0 z 0]
      exact k.1
    · rw [c10_any l ⟨0, 0, 0, 0, 0, 0⟩ m 0 n 0 z 0]
      exact k.2
  unfold lawVecUnits
  refine lC (fun h1 => lC (fun h2 => lT ?_ rest) (fun _ => rest)) (fun _ => rest)
  exact unit_has_one (tame5_R l) ((vecRight_iff _).1 h1) ((ivRight_iff _).1 h2)
end Go.Proofs.Ytbaihncnbejjbaa
