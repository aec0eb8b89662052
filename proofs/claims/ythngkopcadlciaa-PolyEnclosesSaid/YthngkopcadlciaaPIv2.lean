import Derived.Test.YthngkopcadlciaaPIv
set_option linter.unusedVariables false
set_option linter.unusedSimpArgs false
namespace Go.Proofs.Ythngkopcadlciaa

/-! ## Of less each call tells less -/
def Le (a b : Iv) : Prop := R b → R a ∧ b.lo ≤ a.lo ∧ a.hi ≤ b.hi
theorem Le.rfl' (a : Iv) : Le a a := fun h => ⟨h, by omega, by omega⟩
theorem Le.trans {a b c : Iv} (h : Le a b) (k : Le b c) : Le a c := fun hc => by
  have h1 := k hc
  have h2 := h h1.1
  exact ⟨h2.1, by omega, by omega⟩
theorem Le.none (a : Iv) : Le a ivNone := fun h => absurd h R_none
theorem le_of {l h l' h' : Int} (h1 : l ≤ l') (h2 : l' ≤ h') (h3 : h' ≤ h) : Le (ivOf l' h') (ivOf l h) := fun k => by
  have k := R_of.1 k
  have e1 : -1073741824 ≤ l' ∧ l' ≤ h' ∧ h' ≤ 1073741824 := by omega
  rw [ivOf_in e1, ivOf_in k]
  exact ⟨R_mk e1.1 e1.2.1 e1.2.2, h1, h3⟩
theorem mul_lin {a b x : Int} (y : Int) (h1 : a ≤ x) (h2 : x ≤ b) : min (a * y) (b * y) ≤ x * y ∧ x * y ≤ max (a * y) (b * y) := by
  by_cases h : 0 ≤ y
  · have := Int.mul_le_mul_of_nonneg_right h1 h
    have := Int.mul_le_mul_of_nonneg_right h2 h
    omega
  · have := Int.mul_le_mul_of_nonpos_right h1 (show y ≤ 0 by omega)
    have := Int.mul_le_mul_of_nonpos_right h2 (show y ≤ 0 by omega)
    omega
theorem mul_lin' {a b x : Int} (y : Int) (h1 : a ≤ x) (h2 : x ≤ b) : min (y * a) (y * b) ≤ y * x ∧ y * x ≤ max (y * a) (y * b) := by
  rw [Int.mul_comm y a, Int.mul_comm y b, Int.mul_comm y x]
  exact mul_lin y h1 h2
theorem mul_hull {a b : Iv} {x y : Int} (h1 : a.lo ≤ x) (h2 : x ≤ a.hi) (h3 : b.lo ≤ y) (h4 : y ≤ b.hi) : mn a b ≤ x * y ∧ x * y ≤ mx a b := by
  have k1 := mul_lin y h1 h2
  have k2 := mul_lin' a.lo h3 h4
  have k3 := mul_lin' a.hi h3 h4
  unfold mn mx min4 max4
  omega
theorem mn_mx {a b : Iv} : mn a b ≤ mx a b := by
  unfold mn mx min4 max4
  omega
theorem R_args2 {f : Iv → Iv → Iv} {a b : Iv} (h : ¬ (R a ∧ R b) → f a b = ivNone) (k : R (f a b)) : R a ∧ R b :=
  Classical.byContradiction fun c => by rw [h c] at k; exact R_none k
theorem R_args1 {f : Iv → Iv} {a : Iv} (h : ¬ R a → f a = ivNone) (k : R (f a)) : R a :=
  Classical.byContradiction fun c => by rw [h c] at k; exact R_none k
theorem le_add {a b c d : Iv} (h1 : Le a c) (h2 : Le b d) : Le (ivAdd a b) (ivAdd c d) := fun k => by
  obtain ⟨rc, rd⟩ := R_args2 ivAdd_out k
  obtain ⟨ra, a1, a2⟩ := h1 rc
  obtain ⟨rb, b1, b2⟩ := h2 rd
  rw [ivAdd_spec ra rb, ivAdd_spec rc rd] at *
  have := ra.2
  have := rb.2
  exact le_of (by omega) (by omega) (by omega) k
theorem le_neg {a c : Iv} (h1 : Le a c) : Le (ivNeg a) (ivNeg c) := fun k => by
  have rc := R_neg.1 k
  obtain ⟨ra, a1, a2⟩ := h1 rc
  refine ⟨R_neg.2 ra, ?_⟩
  rw [ivNeg_spec ra, ivNeg_spec rc]
  simp only
  omega
theorem le_sub {a b c d : Iv} (h1 : Le a c) (h2 : Le b d) : Le (ivSub a b) (ivSub c d) := le_add h1 (le_neg h2)
theorem le_mul {a b c d : Iv} (h1 : Le a c) (h2 : Le b d) : Le (ivMul a b) (ivMul c d) := fun k => by
  obtain ⟨rc, rd⟩ := R_args2 ivMul_out k
  obtain ⟨ra, a1, a2⟩ := h1 rc
  obtain ⟨rb, b1, b2⟩ := h2 rd
  rw [ivMul_spec ra rb, ivMul_spec rc rd] at *
  have r1 := ra.2
  have r2 := rb.2
  have c1 := mul_hull (a := c) (b := d) (x := a.lo) (y := b.lo) (by omega) (by omega) (by omega) (by omega)
  have c2 := mul_hull (a := c) (b := d) (x := a.lo) (y := b.hi) (by omega) (by omega) (by omega) (by omega)
  have c3 := mul_hull (a := c) (b := d) (x := a.hi) (y := b.lo) (by omega) (by omega) (by omega) (by omega)
  have c4 := mul_hull (a := c) (b := d) (x := a.hi) (y := b.hi) (by omega) (by omega) (by omega) (by omega)
  have e1 : mn c d ≤ mn a b := by
    show mn c d ≤ min (min (a.lo * b.lo) (a.lo * b.hi)) (min (a.hi * b.lo) (a.hi * b.hi))
    omega
  have e2 : mx a b ≤ mx c d := by
    show max (max (a.lo * b.lo) (a.lo * b.hi)) (max (a.hi * b.lo) (a.hi * b.hi)) ≤ mx c d
    omega
  exact le_of (dn_mono (by omega) e1) (Int.le_trans (dn_mono (by omega) mn_mx) (dn_le_upq (by omega))) (upq_mono (by omega) e2) k
theorem le_times {a c : Iv} (k : Int) (h1 : Le a c) : Le (ivTimes a k) (ivTimes c k) := fun r => by
  have hc : R c ∧ (-1073741824 ≤ k ∧ k ≤ 1073741824) := Classical.byContradiction fun n => by rw [ivTimes_out n] at r; exact R_none r
  obtain ⟨ra, a1, a2⟩ := h1 hc.1
  rw [ivTimes_spec ra hc.2, ivTimes_spec hc.1 hc.2] at *
  have r1 := ra.2
  have e1 := mul_lin' k (a := c.lo) (b := c.hi) (x := a.lo) (by omega) (by omega)
  have e2 := mul_lin' k (a := c.lo) (b := c.hi) (x := a.hi) (by omega) (by omega)
  exact le_of (by omega) (by omega) (by omega) r
theorem le_sqr {a c : Iv} (h1 : Le a c) : Le (ivSqr a) (ivSqr c) := fun k => by
  have rc := R_args1 ivSqr_out k
  obtain ⟨ra, a1, a2⟩ := h1 rc
  rw [ivSqr_spec ra, ivSqr_spec rc] at *
  have n1 := near_far ra
  have n2 := near_far rc
  have r1 := ra.2
  have e1 : near c ≤ near a := by unfold near; omega
  have e2 : far a ≤ far c := by unfold far; omega
  have q1 := sq_mono n2.1 e1
  have q2 := sq_mono n1.1 n1.2.1
  have q3 := sq_mono (by omega : 0 ≤ far a) e2
  exact le_of (dn_mono (by omega) q1) (Int.le_trans (dn_mono (by omega) q2) (dn_le_upq (by omega))) (upq_mono (by omega) q3) k
theorem le_root {a c : Iv} (h1 : Le a c) : Le (ivRoot a) (ivRoot c) := fun k => by
  obtain ⟨rc, c0⟩ := R_root.1 k
  obtain ⟨ra, a1, a2⟩ := h1 rc
  have r1 := ra.2
  have r2 := rc.2
  refine ⟨R_root.2 ⟨ra, by omega⟩, ?_⟩
  rw [ivRoot_val ra (by omega), ivRoot_val rc c0]
  exact ⟨rootf_mono c0 a1 (by omega), rootc_mono (by omega) a2 (by omega)⟩
theorem le_hull {a b c d : Iv} (h1 : Le a c) (h2 : Le b d) : Le (ivHull a b) (ivHull c d) := fun k => by
  obtain ⟨rc, rd⟩ := R_args2 ivHull_out k
  obtain ⟨ra, a1, a2⟩ := h1 rc
  obtain ⟨rb, b1, b2⟩ := h2 rd
  have r1 := ra.2
  have r2 := rb.2
  rw [ivHull_spec ra rb, ivHull_spec rc rd] at *
  have := k.2
  simp only at this
  exact ⟨R_mk (by omega) (by omega) (by omega), by simp only; omega, by simp only; omega⟩
theorem le_dn_iff {l n c : Int} (hc : 0 < c) : l ≤ dn n c ↔ l * c ≤ n := Int.le_ediv_iff_mul_le hc
theorem upq_le_iff {u n c : Int} (hc : 0 < c) : upq n c ≤ u ↔ n ≤ u * c := by
  have := le_dn_iff (l := -u) (n := -n) hc
  unfold dn at this
  unfold upq
  rw [Int.neg_mul] at this
  omega
/-- Below, above a quotient, without the quotient. -/
theorem le_dq {l x y : Int} (h : y ≠ 0) : l ≤ dq x y false ↔ (0 < y ∧ l * y ≤ x * 65536) ∨ (y < 0 ∧ x * 65536 ≤ l * y) := by
  unfold dq rq
  by_cases hn : y < 0
  · rw [decide_eq_true hn]
    simp only [cond_true, cond_false]
    rw [le_dn_iff (by omega), Int.mul_neg]
    omega
  · rw [decide_eq_false hn]
    simp only [cond_true, cond_false]
    rw [le_dn_iff (by omega)]
    omega
theorem dq_le_iff {u x y : Int} (h : y ≠ 0) : dq x y true ≤ u ↔ (0 < y ∧ x * 65536 ≤ u * y) ∨ (y < 0 ∧ u * y ≤ x * 65536) := by
  unfold dq rq
  by_cases hn : y < 0
  · rw [decide_eq_true hn]
    simp only [cond_true, cond_false]
    rw [upq_le_iff (by omega), Int.mul_neg]
    omega
  · rw [decide_eq_false hn]
    simp only [cond_true, cond_false]
    rw [upq_le_iff (by omega)]
    omega
/-- What is at most every end's quotient is at most each quotient between. -/
theorem div_below {a b : Iv} {l x y : Int} (h0 : ¬ (b.lo ≤ 0 ∧ 0 ≤ b.hi)) (h1 : a.lo ≤ x) (h2 : x ≤ a.hi) (h3 : b.lo ≤ y) (h4 : y ≤ b.hi)
    (k1 : l ≤ dq a.lo b.lo false) (k2 : l ≤ dq a.lo b.hi false) (k3 : l ≤ dq a.hi b.lo false) (k4 : l ≤ dq a.hi b.hi false) : l ≤ dq x y false := by
  rw [le_dq (by omega)] at *
  have m := mul_lin' l h3 h4
  omega
theorem div_above {a b : Iv} {u x y : Int} (h0 : ¬ (b.lo ≤ 0 ∧ 0 ≤ b.hi)) (h1 : a.lo ≤ x) (h2 : x ≤ a.hi) (h3 : b.lo ≤ y) (h4 : y ≤ b.hi)
    (k1 : dq a.lo b.lo true ≤ u) (k2 : dq a.lo b.hi true ≤ u) (k3 : dq a.hi b.lo true ≤ u) (k4 : dq a.hi b.hi true ≤ u) : dq x y true ≤ u := by
  rw [dq_le_iff (by omega)] at *
  have m := mul_lin' u h3 h4
  omega
/-- The least and the greatest quotient, rounded. -/
def qn (a b : Iv) : Int := min4 (dq a.lo b.lo false) (dq a.lo b.hi false) (dq a.hi b.lo false) (dq a.hi b.hi false)
def qx (a b : Iv) : Int := max4 (dq a.lo b.lo true) (dq a.lo b.hi true) (dq a.hi b.lo true) (dq a.hi b.hi true)
theorem ivDiv_val {a b : Iv} (ha : R a) (hb : R b) (h0 : ¬ (b.lo ≤ 0 ∧ 0 ≤ b.hi)) : ivDiv a b = ivOf (qn a b) (qx a b) := ivDiv_spec ha hb h0
theorem min4_le (a b c d : Int) : min4 a b c d ≤ a ∧ min4 a b c d ≤ b ∧ min4 a b c d ≤ c ∧ min4 a b c d ≤ d := by
  unfold min4; omega
theorem le_max4 (a b c d : Int) : a ≤ max4 a b c d ∧ b ≤ max4 a b c d ∧ c ≤ max4 a b c d ∧ d ≤ max4 a b c d := by
  unfold max4; omega
theorem div_hull {a b : Iv} {x y : Int} (h0 : ¬ (b.lo ≤ 0 ∧ 0 ≤ b.hi)) (h1 : a.lo ≤ x) (h2 : x ≤ a.hi) (h3 : b.lo ≤ y) (h4 : y ≤ b.hi) : qn a b ≤ dq x y false ∧ dq x y true ≤ qx a b := by
  obtain ⟨k1, k2, k3, k4⟩ := min4_le (dq a.lo b.lo false) (dq a.lo b.hi false) (dq a.hi b.lo false) (dq a.hi b.hi false)
  obtain ⟨j1, j2, j3, j4⟩ := le_max4 (dq a.lo b.lo true) (dq a.lo b.hi true) (dq a.hi b.lo true) (dq a.hi b.hi true)
  exact ⟨div_below h0 h1 h2 h3 h4 k1 k2 k3 k4, div_above h0 h1 h2 h3 h4 j1 j2 j3 j4⟩
theorem R_div {a b : Iv} (k : R (ivDiv a b)) : R a ∧ R b ∧ ¬ (b.lo ≤ 0 ∧ 0 ≤ b.hi) :=
  Classical.byContradiction fun c => by rw [ivDiv_out c] at k; exact R_none k
theorem le_div {a b c d : Iv} (h1 : Le a c) (h2 : Le b d) : Le (ivDiv a b) (ivDiv c d) := fun k => by
  obtain ⟨rc, rd, h0⟩ := R_div k
  obtain ⟨ra, a1, a2⟩ := h1 rc
  obtain ⟨rb, b1, b2⟩ := h2 rd
  have r1 := ra.2
  have r2 := rb.2
  have h0' : ¬ (b.lo ≤ 0 ∧ 0 ≤ b.hi) := by omega
  rw [ivDiv_val ra rb h0', ivDiv_val rc rd h0] at *
  have c1 := div_hull (a := c) (b := d) (x := a.lo) (y := b.lo) h0 (by omega) (by omega) (by omega) (by omega)
  have c2 := div_hull (a := c) (b := d) (x := a.lo) (y := b.hi) h0 (by omega) (by omega) (by omega) (by omega)
  have c3 := div_hull (a := c) (b := d) (x := a.hi) (y := b.lo) h0 (by omega) (by omega) (by omega) (by omega)
  have c4 := div_hull (a := c) (b := d) (x := a.hi) (y := b.hi) h0 (by omega) (by omega) (by omega) (by omega)
  have e0 := dq_le (a := a.lo) (b := b.lo) (by omega)
  have e1 : qn c d ≤ qn a b := by
    show qn c d ≤ min (min (dq a.lo b.lo false) (dq a.lo b.hi false)) (min (dq a.hi b.lo false) (dq a.hi b.hi false))
    omega
  have e2 : qx a b ≤ qx c d := by
    show max (max (dq a.lo b.lo true) (dq a.lo b.hi true)) (max (dq a.hi b.lo true) (dq a.hi b.hi true)) ≤ qx c d
    omega
  have e3 : qn a b ≤ qx a b := by
    show min (min (dq a.lo b.lo false) (dq a.lo b.hi false)) (min (dq a.hi b.lo false) (dq a.hi b.hi false)) ≤ max (max (dq a.lo b.lo true) (dq a.lo b.hi true)) (max (dq a.hi b.lo true) (dq a.hi b.hi true))
    omega
  exact le_of e1 e3 e2 k
theorem le_meet {a b c d : Iv} (h1 : Le a c) (h2 : Le b d) (hm : R (ivMeet a b)) : Le (ivMeet a b) (ivMeet c d) := fun k => by
  obtain ⟨rc, rd⟩ := R_args2 ivMeet_out k
  obtain ⟨ra, a1, a2⟩ := h1 rc
  obtain ⟨rb, b1, b2⟩ := h2 rd
  rw [ivMeet_spec ra rb] at *
  rw [ivMeet_spec rc rd] at *
  have := R_of.1 hm
  exact le_of (by omega) (by omega) (by omega) k
/-! ## Signs -/
theorem dn_neg (n : Int) {c : Int} : dn (-n) c = -(upq n c) := by
  unfold dn upq
  omega
theorem upq_neg (n : Int) {c : Int} : upq (-n) c = -(dn n c) := by
  unfold dn upq
  rw [Int.neg_neg]
theorem ivNeg_of (l h : Int) : ivNeg (ivOf l h) = ivOf (-h) (-l) := by
  by_cases k : -1073741824 ≤ l ∧ l ≤ h ∧ h ≤ 1073741824
  · rw [ivOf_in k, ivNeg_spec (R_mk k.1 k.2.1 k.2.2), ivOf_in (by omega)]
  · rw [ivOf_out k, ivOf_out (by omega), ivNeg_out R_none]
theorem ivNeg_none : ivNeg ivNone = ivNone := ivNeg_out R_none
theorem ivNeg_neg {a : Iv} (h : R a) : ivNeg (ivNeg a) = a := by
  rw [ivNeg_spec (R_neg.2 h), ivNeg_spec h]
  simp only [Int.neg_neg]
  exact (R_eq h).symm
theorem mn_negl (a b : Iv) (ha : R a) : mn (ivNeg a) b = -(mx a b) ∧ mx (ivNeg a) b = -(mn a b) := by
  rw [ivNeg_spec ha]
  unfold mn mx min4 max4
  simp only [Int.neg_mul]
  omega
theorem mn_comm (a b : Iv) : mn a b = mn b a ∧ mx a b = mx b a := by
  unfold mn mx min4 max4
  rw [Int.mul_comm a.lo b.lo, Int.mul_comm a.lo b.hi, Int.mul_comm a.hi b.lo, Int.mul_comm a.hi b.hi]
  omega
theorem ivMul_comm (a b : Iv) : ivMul a b = ivMul b a := by
  by_cases h : R a ∧ R b
  · rw [ivMul_spec h.1 h.2, ivMul_spec h.2 h.1, (mn_comm a b).1, (mn_comm a b).2]
  · rw [ivMul_out h, ivMul_out (fun k => h ⟨k.2, k.1⟩)]
theorem ivAdd_comm (a b : Iv) : ivAdd a b = ivAdd b a := by
  by_cases h : R a ∧ R b
  · rw [ivAdd_spec h.1 h.2, ivAdd_spec h.2 h.1, Int.add_comm, Int.add_comm a.hi]
  · rw [ivAdd_out h, ivAdd_out (fun k => h ⟨k.2, k.1⟩)]
theorem ivMul_negl (a b : Iv) : ivMul (ivNeg a) b = ivNeg (ivMul a b) := by
  by_cases h : R a ∧ R b
  · rw [ivMul_spec (R_neg.2 h.1) h.2, ivMul_spec h.1 h.2, (mn_negl a b h.1).1, (mn_negl a b h.1).2, ivNeg_of, dn_neg, upq_neg]
  · rw [ivMul_out h, ivMul_out (fun k => h ⟨R_neg.1 k.1, k.2⟩), ivNeg_none]
theorem ivMul_negr (a b : Iv) : ivMul a (ivNeg b) = ivNeg (ivMul a b) := by
  rw [ivMul_comm, ivMul_negl, ivMul_comm]
theorem ivHull_comm (a b : Iv) : ivHull a b = ivHull b a := by
  by_cases h : R a ∧ R b
  · rw [ivHull_spec h.1 h.2, ivHull_spec h.2 h.1, Int.min_comm, Int.max_comm]
  · rw [ivHull_out h, ivHull_out (fun k => h ⟨k.2, k.1⟩)]
theorem ivMeet_comm (a b : Iv) : ivMeet a b = ivMeet b a := by
  by_cases h : R a ∧ R b
  · rw [ivMeet_spec h.1 h.2, ivMeet_spec h.2 h.1, Int.max_comm, Int.min_comm]
  · rw [ivMeet_out h, ivMeet_out (fun k => h ⟨k.2, k.1⟩)]
theorem ivSqr_neg (a : Iv) : ivSqr (ivNeg a) = ivSqr a := by
  by_cases h : R a
  · have e1 : near (ivNeg a) = near a := by rw [ivNeg_spec h]; unfold near; simp only; omega
    have e2 : far (ivNeg a) = far a := by rw [ivNeg_spec h]; unfold far; simp only; omega
    rw [ivSqr_spec (R_neg.2 h), ivSqr_spec h, e1, e2]
  · rw [ivSqr_out h, ivSqr_out (fun k => h (R_neg.1 k))]
theorem ivNeg_add (a b : Iv) : ivNeg (ivAdd a b) = ivAdd (ivNeg a) (ivNeg b) := by
  by_cases h : R a ∧ R b
  · rw [ivAdd_spec h.1 h.2, ivAdd_spec (R_neg.2 h.1) (R_neg.2 h.2), ivNeg_of, ivNeg_spec h.1, ivNeg_spec h.2]
    simp only
    congr 1 <;> omega
  · rw [ivAdd_out h, ivAdd_out (fun k => h ⟨R_neg.1 k.1, R_neg.1 k.2⟩), ivNeg_none]
/-- A square lies in the product with itself, where that is one. -/
theorem sqr_le_mul (a : Iv) : Le (ivSqr a) (ivMul a a) := fun k => by
  obtain ⟨ra, _⟩ := R_args2 ivMul_out k
  rw [ivMul_spec ra ra] at k ⊢
  rw [ivSqr_spec ra]
  have h := ra.2
  have n := near_far ra
  have c1 := mul_hull (a := a) (b := a) (x := a.lo) (y := a.lo) (by omega) (by omega) (by omega) (by omega)
  have c4 := mul_hull (a := a) (b := a) (x := a.hi) (y := a.hi) (by omega) (by omega) (by omega) (by omega)
  have e1 : mn a a ≤ near a * near a := by
    by_cases p : 0 < a.lo
    · have : near a = a.lo := by unfold near; omega
      rw [this]; exact c1.1
    · by_cases q : a.hi < 0
      · have : near a = -a.hi := by unfold near; omega
        rw [this, Int.neg_mul_neg]; exact c4.1
      · have : near a = 0 := by unfold near; omega
        rw [this]
        have := mul_hull (a := a) (b := a) (x := 0) (y := 0) (by omega) (by omega) (by omega) (by omega)
        exact this.1
  have e2 : far a * far a ≤ mx a a := by
    by_cases p : -a.lo ≤ a.hi
    · have : far a = a.hi := by unfold far; omega
      rw [this]; exact c4.2
    · have : far a = -a.lo := by unfold far; omega
      rw [this, Int.neg_mul_neg]; exact c1.2
  have hs := sq_mono n.1 n.2.1
  exact le_of (dn_mono (by omega) e1) (Int.le_trans (dn_mono (by omega) hs) (dn_le_upq (by omega))) (upq_mono (by omega) e2) k
end Go.Proofs.Ythngkopcadlciaa
