import Derived.Test.YthngkopcadlciaaPNum2
import Derived.Test.YthngkopcadlciaaPPick
import Derived.Test.YthngkopcadlciaaEndsD
import Derived.Test.YthngkopcadlciaaREndsD
set_option linter.unusedVariables false
set_option linter.unusedSimpArgs false
namespace Go.Proofs.Ythngkopcadlciaa

/-! ## Intervals: what each call comes to -/
def R (a : Iv) : Prop := a.no = false ∧ -1073741824 ≤ a.lo ∧ a.lo ≤ a.hi ∧ a.hi ≤ 1073741824
theorem ivRight_iff (a : Iv) : ivRight a = true ↔ R a := rRight_iff a
theorem rRight_eq (a : Iv) : rRight a = ivRight a := rfl
theorem rNone_eq : rNone = ivNone := rfl
theorem rOf_eq (l h : Int) : rOf l h = ivOf l h := rfl
theorem rPoint_eq (n : Int) : rPoint n = ivPoint n := rfl
theorem rWhole_eq (n : Int) : rWhole n = ivWhole n := rfl
theorem R_mk {l h : Int} (h1 : -1073741824 ≤ l) (h2 : l ≤ h) (h3 : h ≤ 1073741824) : R ⟨l, h, false⟩ := ⟨rfl, h1, h2, h3⟩
theorem ivRight_t {a : Iv} (h : R a) : ivRight a = true := (ivRight_iff a).2 h
theorem ivRight_f {a : Iv} (h : ¬ R a) : ivRight a = false := by
  cases e : ivRight a
  · rfl
  · exact absurd ((ivRight_iff a).1 e) h
theorem R_none : ¬ R ivNone := fun h => by cases h.1
theorem ivRight_none : ivRight ivNone = false := rfl
theorem R_eq {a : Iv} (h : R a) : a = ⟨a.lo, a.hi, false⟩ := by
  obtain ⟨lo, hi, no⟩ := a
  obtain ⟨h, _⟩ := h
  simp only at h
  rw [h]
theorem ivOf_in {l h : Int} (k : -1073741824 ≤ l ∧ l ≤ h ∧ h ≤ 1073741824) : ivOf l h = ⟨l, h, false⟩ := by
  unfold ivOf
  rw [ivRight_t (R_mk k.1 k.2.1 k.2.2)]; rfl
theorem ivOf_out {l h : Int} (k : ¬ (-1073741824 ≤ l ∧ l ≤ h ∧ h ≤ 1073741824)) : ivOf l h = ivNone := by
  unfold ivOf
  rw [ivRight_f (fun r => k ⟨r.2.1, r.2.2.1, r.2.2.2⟩)]; rfl
theorem R_of {l h : Int} : R (ivOf l h) ↔ -1073741824 ≤ l ∧ l ≤ h ∧ h ≤ 1073741824 := by
  by_cases k : -1073741824 ≤ l ∧ l ≤ h ∧ h ≤ 1073741824
  · rw [ivOf_in k]; exact ⟨fun _ => k, fun _ => R_mk k.1 k.2.1 k.2.2⟩
  · rw [ivOf_out k]; exact ⟨fun r => absurd r R_none, fun h => absurd h k⟩
theorem ivOf_R {a : Iv} (h : R a) : ivOf a.lo a.hi = a := by
  rw [ivOf_in h.2]; exact (R_eq h).symm
theorem ivBoth_t {a b : Iv} (ha : R a) (hb : R b) : ivBoth a b = true := by
  unfold ivBoth
  rw [ivRight_t ha, ivRight_t hb]; rfl
theorem ivBoth_f {a b : Iv} (h : ¬ (R a ∧ R b)) : ivBoth a b = false := by
  unfold ivBoth
  by_cases ha : R a
  · rw [ivRight_t ha, ivRight_f (fun hb => h ⟨ha, hb⟩)]; rfl
  · rw [ivRight_f ha]; rfl
theorem ivInside_iff (a b : Iv) : ivInside a b = true ↔ R a ∧ R b ∧ b.lo ≤ a.lo ∧ a.hi ≤ b.hi := by
  unfold ivInside
  by_cases h : R a ∧ R b
  · rw [ivBoth_t h.1 h.2]
    simp only [cond_true, Bool.cond_false_right, Bool.and_eq_true, decide_eq_true_eq]
    exact ⟨fun k => ⟨h.1, h.2, k⟩, fun k => k.2.2⟩
  · rw [ivBoth_f h]
    exact ⟨fun k => (nomatch k), fun k => absurd ⟨k.1, k.2.1⟩ h⟩
theorem ivHas_iff (a : Iv) (n : Int) : ivHas a n = true ↔ R a ∧ a.lo ≤ n ∧ n ≤ a.hi := by
  unfold ivHas
  by_cases h : R a
  · rw [ivRight_t h]
    simp only [cond_true, Bool.cond_false_right, Bool.and_eq_true, decide_eq_true_eq]
    exact ⟨fun k => ⟨h, k⟩, fun k => k.2⟩
  · rw [ivRight_f h]
    exact ⟨fun k => (nomatch k), fun k => absurd k.1 h⟩
theorem ivAdd_spec {a b : Iv} (ha : R a) (hb : R b) : ivAdd a b = ivOf (a.lo + b.lo) (a.hi + b.hi) := by
  obtain ⟨_, a1, a2, a3⟩ := ha
  obtain ⟨_, b1, b2, b3⟩ := hb
  unfold ivAdd
  rw [ivBoth_t ⟨‹_›, a1, a2, a3⟩ ⟨‹_›, b1, b2, b3⟩, w64_of (by omega) (by omega), w64_of (by omega) (by omega)]; rfl
theorem ivAdd_out {a b : Iv} (h : ¬ (R a ∧ R b)) : ivAdd a b = ivNone := by
  unfold ivAdd
  rw [ivBoth_f h]; rfl
theorem ivNeg_spec {a : Iv} (ha : R a) : ivNeg a = ⟨-a.hi, -a.lo, false⟩ := by
  have h := ha.2
  unfold ivNeg
  rw [ivRight_t ha, w64_of (by omega) (by omega), w64_of (by omega) (by omega)]
  simp only [cond_true]
  rw [ivOf_in (by omega)]
  congr 1 <;> omega
theorem ivNeg_out {a : Iv} (h : ¬ R a) : ivNeg a = ivNone := by
  unfold ivNeg
  rw [ivRight_f h]; rfl
theorem R_neg {a : Iv} : R (ivNeg a) ↔ R a := by
  by_cases h : R a
  · rw [ivNeg_spec h]
    have := h.2
    exact ⟨fun _ => h, fun _ => R_mk (by omega) (by omega) (by omega)⟩
  · rw [ivNeg_out h]
    exact ⟨fun k => absurd k R_none, fun k => absurd k h⟩
theorem ivSub_spec {a b : Iv} (ha : R a) (hb : R b) : ivSub a b = ivOf (a.lo - b.hi) (a.hi - b.lo) := by
  unfold ivSub
  rw [ivAdd_spec ha (R_neg.2 hb), ivNeg_spec hb]
  rfl
theorem ivSub_out {a b : Iv} (h : ¬ (R a ∧ R b)) : ivSub a b = ivNone := by
  unfold ivSub
  exact ivAdd_out (fun k => h ⟨k.1, R_neg.1 k.2⟩)
theorem ivTimes_spec {a : Iv} {k : Int} (ha : R a) (hk : -1073741824 ≤ k ∧ k ≤ 1073741824) : ivTimes a k = ivOf (min (k * a.lo) (k * a.hi)) (max (k * a.lo) (k * a.hi)) := by
  have h := ha.2
  have m1 := mul_bound (a := k) (b := a.lo) (A := 1073741824) (B := 1073741824) hk (by omega)
  have m2 := mul_bound (a := k) (b := a.hi) (A := 1073741824) (B := 1073741824) hk (by omega)
  unfold ivTimes ivTimes_e0
  rw [ivRight_t ha, (numIn_iff k).2 hk, w64_of (by omega) (by omega), w64_of (by omega) (by omega)]; rfl
theorem ivTimes_out {a : Iv} {k : Int} (h : ¬ (R a ∧ (-1073741824 ≤ k ∧ k ≤ 1073741824))) : ivTimes a k = ivNone := by
  unfold ivTimes
  by_cases ha : R a
  · have : numIn k = false := by
      cases e : numIn k
      · rfl
      · exact absurd ⟨ha, (numIn_iff k).1 e⟩ h
    rw [ivRight_t ha, this]; rfl
  · rw [ivRight_f ha]; rfl
theorem dn_mono {a a' b : Int} (hb : 0 < b) (h : a ≤ a') : dn a b ≤ dn a' b := Int.ediv_le_ediv hb h
theorem upq_mono {a a' b : Int} (hb : 0 < b) (h : a ≤ a') : upq a b ≤ upq a' b := by
  have := Int.ediv_le_ediv (a := -a') (b := -a) hb (by omega)
  unfold upq
  omega
theorem dn_le_upq {a b : Int} (hb : 0 < b) : dn a b ≤ upq a b := by
  rw [upq_eq hb]
  unfold dn
  split <;> omega
theorem dn_min {a a' b : Int} (hb : 0 < b) : dn (min a a') b = min (dn a b) (dn a' b) := by
  by_cases h : a ≤ a'
  · have := dn_mono hb h
    rw [Int.min_eq_left h, Int.min_eq_left this]
  · have := dn_mono hb (show a' ≤ a by omega)
    rw [Int.min_eq_right (by omega), Int.min_eq_right this]
theorem upq_max {a a' b : Int} (hb : 0 < b) : upq (max a a') b = max (upq a b) (upq a' b) := by
  by_cases h : a ≤ a'
  · have := upq_mono hb h
    rw [Int.max_eq_right h, Int.max_eq_right this]
  · have := upq_mono hb (show a' ≤ a by omega)
    rw [Int.max_eq_left (by omega), Int.max_eq_left this]
theorem dn_nonneg {a b : Int} (hb : 0 < b) (h : 0 ≤ a) : 0 ≤ dn a b := Int.ediv_nonneg h (by omega)
/-- The greatest and the least of an interval's distances from 0. -/
def far (a : Iv) : Int := max (-a.lo) a.hi
def near (a : Iv) : Int := max (max a.lo (-a.hi)) 0
theorem near_far {a : Iv} (ha : R a) : 0 ≤ near a ∧ near a ≤ far a ∧ far a ≤ 1073741824 := by
  have := ha.2
  unfold near far
  omega
theorem sq_mono {x y : Int} (h0 : 0 ≤ x) (h : x ≤ y) : x * x ≤ y * y := Int.mul_le_mul h h h0 (by omega)
theorem ivSqr_spec {a : Iv} (ha : R a) : ivSqr a = ivOf (dn (near a * near a) 65536) (upq (far a * far a) 65536) := by
  have h := ha.2
  have h0 := near_far ha
  have e1 : w64 (0 - a.lo) = -a.lo := by rw [w64_of (by omega) (by omega)]; omega
  have e2 : w64 (0 - a.hi) = -a.hi := by rw [w64_of (by omega) (by omega)]; omega
  have k1 : far a = max (-a.lo) a.hi := rfl
  have k2 : near a = max (max a.lo (-a.hi)) 0 := rfl
  have hs := sq_mono h0.1 h0.2.1
  unfold ivSqr ivSqr_e0 ivSqr_e1
  rw [e1, e2, ← k1, ← k2, ivRight_t ha, numMul_spec (by omega) (by omega), numMul_spec (by omega) (by omega), rq, rq]
  simp only [cond_true, cond_false]
  have n0 : 0 ≤ near a * near a := Int.mul_nonneg h0.1 h0.1
  have m1 : 0 ≤ dn (near a * near a) 65536 := dn_nonneg (by omega) n0
  have m2 : dn (near a * near a) 65536 ≤ upq (far a * far a) 65536 := Int.le_trans (dn_mono (by omega) hs) (dn_le_upq (by omega))
  by_cases hc : upq (far a * far a) 65536 ≤ 1073741824
  · rw [told_in (by omega), told_in (by omega)]; rfl
  · have : (told (upq (far a * far a) 65536)).2 = false := by
      rw [told_snd]
      cases e : numIn (upq (far a * far a) 65536)
      · rfl
      · have := (numIn_iff _).1 e
        omega
    rw [this, ivOf_out (l := dn (near a * near a) 65536) (h := upq (far a * far a) 65536) (by omega)]; rfl
theorem ivSqr_out {a : Iv} (h : ¬ R a) : ivSqr a = ivNone := by
  unfold ivSqr
  rw [ivRight_f h]; rfl
theorem ivHull_spec {a b : Iv} (ha : R a) (hb : R b) : ivHull a b = ⟨min a.lo b.lo, max a.hi b.hi, false⟩ := by
  have h1 := ha.2
  have h2 := hb.2
  unfold ivHull
  rw [ivBoth_t ha hb]
  simp only [cond_true]
  rw [ivOf_in (by omega)]
theorem ivHull_out {a b : Iv} (h : ¬ (R a ∧ R b)) : ivHull a b = ivNone := by
  unfold ivHull
  rw [ivBoth_f h]; rfl
theorem ivMeet_spec {a b : Iv} (ha : R a) (hb : R b) : ivMeet a b = ivOf (max a.lo b.lo) (min a.hi b.hi) := by
  unfold ivMeet
  rw [ivBoth_t ha hb]; rfl
theorem ivMeet_out {a b : Iv} (h : ¬ (R a ∧ R b)) : ivMeet a b = ivNone := by
  unfold ivMeet
  rw [ivBoth_f h]; rfl
theorem ivMid_spec {a : Iv} (ha : R a) : ivMid a = (a.lo + a.hi) / 2 := by
  have h := ha.2
  unfold ivMid
  rw [ivRight_t ha, w64_of (by omega) (by omega)]
  simp only [cond_true]
  exact Int.fdiv_eq_ediv_of_nonneg _ (by omega)
theorem ivMid_out {a : Iv} (h : ¬ R a) : ivMid a = 0 := by
  unfold ivMid
  rw [ivRight_f h]; rfl
theorem ivSplit_spec {a : Iv} (ha : R a) : ivSplit a = (⟨a.lo, (a.lo + a.hi) / 2, false⟩, ⟨(a.lo + a.hi) / 2, a.hi, false⟩) := by
  have h := ha.2
  unfold ivSplit
  rw [ivRight_t ha, ivMid_spec ha]
  simp only [cond_true]
  rw [ivOf_in (by omega), ivOf_in (by omega)]
theorem ivSplit_out {a : Iv} (h : ¬ R a) : ivSplit a = (ivNone, ivNone) := by
  unfold ivSplit
  rw [ivRight_f h]; rfl
theorem ivRoot_spec {a : Iv} (ha : R a) (h0 : 0 ≤ a.lo) : ivRoot a = ivOf (rootf a.lo) (rootc a.hi) := by
  have h := ha.2
  unfold ivRoot
  rw [ivRight_t ha, decide_eq_false (by omega), numRoot_spec (by omega) (by omega), numRoot_spec (by omega) (by omega)]; rfl
theorem ivRoot_out {a : Iv} (h : ¬ (R a ∧ 0 ≤ a.lo)) : ivRoot a = ivNone := by
  unfold ivRoot
  by_cases ha : R a
  · rw [ivRight_t ha, decide_eq_true (by have : ¬ 0 ≤ a.lo := fun k => h ⟨ha, k⟩; omega)]; rfl
  · rw [ivRight_f ha]; rfl
theorem root_mono {m n s t : Int} (h : m ≤ n) (hs : IsRoot m s) (ht : IsRoot n t) : s ≤ t := by
  obtain ⟨s1, s2, s3⟩ := hs
  obtain ⟨t1, t2, t3⟩ := ht
  refine Decidable.byContradiction fun hc => ?_
  have := sq_mono (x := t + 1) (y := s) (by omega) (by omega)
  omega
theorem rootf_mono {a b : Int} (h0 : 0 ≤ a) (h : a ≤ b) (hb : b ≤ 1073741824) : rootf a ≤ rootf b :=
  root_mono (m := a * 65536) (n := b * 65536) (by omega) (rootf_is h0 (by omega)) (rootf_is (by omega) hb)
theorem rootf_le_rootc (a : Int) : rootf a ≤ rootc a ∧ rootc a ≤ rootf a + 1 := by
  unfold rootc
  split <;> omega
theorem rootc_ge {a : Int} (h0 : 0 ≤ a) (h1 : a ≤ 1073741824) : a * 65536 ≤ rootc a * rootc a := by
  obtain ⟨k1, k2, k3⟩ := rootf_is h0 h1
  unfold rootc
  split <;> omega
theorem rootc_mono {a b : Int} (h0 : 0 ≤ a) (h : a ≤ b) (hb : b ≤ 1073741824) : rootc a ≤ rootc b := by
  have h1 := rootf_mono h0 h hb
  have h2 := rootf_le_rootc a
  have h3 := rootf_le_rootc b
  refine Decidable.byContradiction fun hc => ?_
  have e1 : rootf a = rootf b := by omega
  have e2 : rootc a = rootf a + 1 := by omega
  have e3 : rootc b = rootf b := by omega
  have k1 := rootc_ge (a := b) (by omega) hb
  have k2 : rootf a * rootf a < a * 65536 := by
    unfold rootc at e2
    split at e2
    · assumption
    · omega
  rw [e3, ← e1] at k1
  omega
theorem rootc_le {a : Int} (h0 : 0 ≤ a) (h1 : a ≤ 1073741824) : 0 ≤ rootc a ∧ rootc a ≤ 8388608 := by
  have h2 := rootf_le h0 h1
  have h3 := rootc_mono h0 h1 (by omega)
  have h4 : rootc 1073741824 = 8388608 := by decide +kernel
  have h5 := rootf_le_rootc a
  omega
theorem R_root {a : Iv} : R (ivRoot a) ↔ R a ∧ 0 ≤ a.lo := by
  by_cases h : R a ∧ 0 ≤ a.lo
  · rw [ivRoot_spec h.1 h.2, R_of]
    have h1 := h.1.2
    have h2 := rootf_le (a := a.lo) h.2 (by omega)
    have h3 := rootc_le (a := a.hi) (by omega) (by omega)
    have h4 := rootf_mono (a := a.lo) (b := a.hi) h.2 (by omega) (by omega)
    have h5 := rootf_le_rootc a.hi
    exact ⟨fun _ => h, fun _ => by omega⟩
  · rw [ivRoot_out h]
    exact ⟨fun k => absurd k R_none, fun k => absurd k h⟩
theorem ivRoot_val {a : Iv} (ha : R a) (h0 : 0 ≤ a.lo) : ivRoot a = ⟨rootf a.lo, rootc a.hi, false⟩ := by
  rw [ivRoot_spec ha h0, ivOf_in]
  have := R_root.2 ⟨ha, h0⟩
  rw [ivRoot_spec ha h0, R_of] at this
  exact this

/-! ## Products and quotients of ends -/
def ends4 (t1 u1 t2 u2 t3 u3 t4 u4 : Int × Bool) : Iv :=
  let e0 := ivOf t1.1 u1.1
  let e1 := ivOf (min e0.lo t1.1) (max e0.hi u1.1)
  let e2 := ivOf (min e1.lo t2.1) (max e1.hi u2.1)
  let e3 := ivOf (min e2.lo t3.1) (max e2.hi u3.1)
  let e4 := ivOf (min e3.lo t4.1) (max e3.hi u4.1)
  bif t1.2 then bif u1.2 then bif t2.2 then bif u2.2 then bif t3.2 then bif u3.2 then bif t4.2 then bif u4.2 then e4 else ivNone else ivNone else ivNone else ivNone else ivNone else ivNone else ivNone else ivNone
def rends4 (t1 u1 t2 u2 t3 u3 t4 u4 : Int × Bool) : Iv :=
  let e0 := bif decide (t2.1 < t1.1) then t2.1 else t1.1
  let e1 := bif decide (u2.1 > u1.1) then u2.1 else u1.1
  let e2 := bif decide (t3.1 < e0) then t3.1 else e0
  let e3 := bif decide (u3.1 > e1) then u3.1 else e1
  let e4 := bif decide (t4.1 < e2) then t4.1 else e2
  let e5 := bif decide (u4.1 > e3) then u4.1 else e3
  bif t1.2 then bif u1.2 then bif t2.2 then bif u2.2 then bif t3.2 then bif u3.2 then bif t4.2 then bif u4.2 then rOf e4 e5 else rNone else rNone else rNone else rNone else rNone else rNone else rNone else rNone
theorem endsMul_eq (a b : Iv) : endsMul a b = ends4 (numMul a.lo b.lo false) (numMul a.lo b.lo true) (numMul a.lo b.hi false) (numMul a.lo b.hi true) (numMul a.hi b.lo false) (numMul a.hi b.lo true) (numMul a.hi b.hi false) (numMul a.hi b.hi true) := rfl
theorem endsDiv_eq (a b : Iv) : endsDiv a b = ends4 (numDiv a.lo b.lo false) (numDiv a.lo b.lo true) (numDiv a.lo b.hi false) (numDiv a.lo b.hi true) (numDiv a.hi b.lo false) (numDiv a.hi b.lo true) (numDiv a.hi b.hi false) (numDiv a.hi b.hi true) := rfl
theorem rEndsMul_eq (a b : Iv) : rEndsMul a b = rends4 (rMul a.lo b.lo false) (rMul a.lo b.lo true) (rMul a.hi b.lo false) (rMul a.hi b.lo true) (rMul a.lo b.hi false) (rMul a.lo b.hi true) (rMul a.hi b.hi false) (rMul a.hi b.hi true) := rfl
theorem rEndsDiv_eq (a b : Iv) : rEndsDiv a b = rends4 (rDiv a.lo b.lo false) (rDiv a.lo b.lo true) (rDiv a.hi b.lo false) (rDiv a.hi b.lo true) (rDiv a.lo b.hi false) (rDiv a.lo b.hi true) (rDiv a.hi b.hi false) (rDiv a.hi b.hi true) := rfl
theorem numIn_f {q : Int} (h : ¬ (-1073741824 ≤ q ∧ q ≤ 1073741824)) : numIn q = false := by
  cases e : numIn q
  · rfl
  · exact absurd ((numIn_iff q).1 e) h
def min4 (a b c d : Int) : Int := min (min a b) (min c d)
def max4 (a b c d : Int) : Int := max (max a b) (max c d)
theorem ends4_spec {l1 u1 l2 u2 l3 u3 l4 u4 : Int} (h1 : l1 ≤ u1) (h2 : l2 ≤ u2) (h3 : l3 ≤ u3) (h4 : l4 ≤ u4) :
    ends4 (told l1) (told u1) (told l2) (told u2) (told l3) (told u3) (told l4) (told u4) = ivOf (min4 l1 l2 l3 l4) (max4 u1 u2 u3 u4) := by
  unfold ends4
  simp only [told_snd]
  by_cases h : -1073741824 ≤ min4 l1 l2 l3 l4 ∧ max4 u1 u2 u3 u4 ≤ 1073741824
  · unfold min4 max4 at h ⊢
    rw [told_in (q := l1) (by omega), told_in (q := u1) (by omega), told_in (q := l2) (by omega), told_in (q := u2) (by omega), told_in (q := l3) (by omega), told_in (q := u3) (by omega), told_in (q := l4) (by omega), told_in (q := u4) (by omega)]
    rw [(numIn_iff l1).2 (by omega), (numIn_iff u1).2 (by omega), (numIn_iff l2).2 (by omega), (numIn_iff u2).2 (by omega), (numIn_iff l3).2 (by omega), (numIn_iff u3).2 (by omega), (numIn_iff l4).2 (by omega), (numIn_iff u4).2 (by omega)]
    simp only [cond_true]
    rw [ivOf_in (l := l1) (h := u1) (by omega)]
    simp only
    rw [ivOf_in (l := min l1 l1) (by omega)]
    simp only
    rw [ivOf_in (l := min (min l1 l1) l2) (by omega)]
    simp only
    rw [ivOf_in (l := min (min (min l1 l1) l2) l3) (by omega)]
    simp only
    congr 1 <;> omega
  · rw [ivOf_out (l := min4 l1 l2 l3 l4) (h := max4 u1 u2 u3 u4) (fun k => h ⟨k.1, k.2.2⟩)]
    unfold min4 max4 at h
    have k : ∀ (q : Int) (x : Iv), (-1073741824 ≤ q ∧ q ≤ 1073741824 → x = ivNone) → (bif numIn q then x else ivNone) = ivNone := by
      intro q x hx
      by_cases hq : -1073741824 ≤ q ∧ q ≤ 1073741824
      · rw [(numIn_iff q).2 hq, hx hq]; rfl
      · rw [numIn_f hq]; rfl
    exact k _ _ fun a1 => k _ _ fun a2 => k _ _ fun a3 => k _ _ fun a4 => k _ _ fun a5 => k _ _ fun a6 => k _ _ fun a7 => k _ _ fun a8 => by omega
theorem bmin (x y : Int) : (bif decide (x < y) then x else y) = min y x := by
  by_cases h : x < y
  · rw [decide_eq_true h]; simp only [cond_true]; omega
  · rw [decide_eq_false h]; simp only [cond_false]; omega
theorem bmax (x y : Int) : (bif decide (x > y) then x else y) = max y x := by
  by_cases h : x > y
  · rw [decide_eq_true h]; simp only [cond_true]; omega
  · rw [decide_eq_false h]; simp only [cond_false]; omega
theorem rends4_spec {l1 u1 l2 u2 l3 u3 l4 u4 : Int} (h1 : l1 ≤ u1) (h2 : l2 ≤ u2) (h3 : l3 ≤ u3) (h4 : l4 ≤ u4) :
    rends4 (told l1) (told u1) (told l2) (told u2) (told l3) (told u3) (told l4) (told u4) = ivOf (min4 l1 l2 l3 l4) (max4 u1 u2 u3 u4) := by
  unfold rends4
  simp only [told_snd, bmin, bmax, rOf_eq, rNone_eq]
  by_cases h : -1073741824 ≤ min4 l1 l2 l3 l4 ∧ max4 u1 u2 u3 u4 ≤ 1073741824
  · unfold min4 max4 at h ⊢
    rw [told_in (q := l1) (by omega), told_in (q := u1) (by omega), told_in (q := l2) (by omega), told_in (q := u2) (by omega), told_in (q := l3) (by omega), told_in (q := u3) (by omega), told_in (q := l4) (by omega), told_in (q := u4) (by omega)]
    rw [(numIn_iff l1).2 (by omega), (numIn_iff u1).2 (by omega), (numIn_iff l2).2 (by omega), (numIn_iff u2).2 (by omega), (numIn_iff l3).2 (by omega), (numIn_iff u3).2 (by omega), (numIn_iff l4).2 (by omega), (numIn_iff u4).2 (by omega)]
    simp only [cond_true]
    congr 1 <;> omega
  · rw [ivOf_out (l := min4 l1 l2 l3 l4) (h := max4 u1 u2 u3 u4) (fun k => h ⟨k.1, k.2.2⟩)]
    unfold min4 max4 at h
    have k : ∀ (q : Int) (x : Iv), (-1073741824 ≤ q ∧ q ≤ 1073741824 → x = ivNone) → (bif numIn q then x else ivNone) = ivNone := by
      intro q x hx
      by_cases hq : -1073741824 ≤ q ∧ q ≤ 1073741824
      · rw [(numIn_iff q).2 hq, hx hq]; rfl
      · rw [numIn_f hq]; rfl
    exact k _ _ fun a1 => k _ _ fun a2 => k _ _ fun a3 => k _ _ fun a4 => k _ _ fun a5 => k _ _ fun a6 => k _ _ fun a7 => k _ _ fun a8 => by omega
/-- The least and the greatest of the products of two intervals' ends. -/
def mn (a b : Iv) : Int := min4 (a.lo * b.lo) (a.lo * b.hi) (a.hi * b.lo) (a.hi * b.hi)
def mx (a b : Iv) : Int := max4 (a.lo * b.lo) (a.lo * b.hi) (a.hi * b.lo) (a.hi * b.hi)
theorem dn_min4 {a b c d n : Int} (hn : 0 < n) : dn (min4 a b c d) n = min4 (dn a n) (dn b n) (dn c n) (dn d n) := by
  unfold min4
  rw [dn_min hn, dn_min hn, dn_min hn]
theorem upq_max4 {a b c d n : Int} (hn : 0 < n) : upq (max4 a b c d) n = max4 (upq a n) (upq b n) (upq c n) (upq d n) := by
  unfold max4
  rw [upq_max hn, upq_max hn, upq_max hn]
theorem ivMul_spec {a b : Iv} (ha : R a) (hb : R b) : ivMul a b = ivOf (dn (mn a b) 65536) (upq (mx a b) 65536) := by
  have h1 := ha.2
  have h2 := hb.2
  unfold ivMul mn mx
  rw [ivBoth_t ha hb, endsMul_eq]
  simp only [cond_true]
  simp (disch := omega) only [numMul_spec]
  simp only [rq, cond_true, cond_false]
  rw [ends4_spec (dn_le_upq (by omega)) (dn_le_upq (by omega)) (dn_le_upq (by omega)) (dn_le_upq (by omega)), dn_min4 (by omega), upq_max4 (by omega)]
theorem ivMul_out {a b : Iv} (h : ¬ (R a ∧ R b)) : ivMul a b = ivNone := by
  unfold ivMul
  rw [ivBoth_f h]; rfl
theorem dq_le {a b : Int} (hb : b ≠ 0) : dq a b false ≤ dq a b true := by
  unfold dq rq
  simp only [cond_true, cond_false]
  by_cases h : b < 0
  · rw [decide_eq_true h]; exact dn_le_upq (by simp only [cond_true]; omega)
  · rw [decide_eq_false h]; exact dn_le_upq (by simp only [cond_false]; omega)
theorem ivDiv_spec {a b : Iv} (ha : R a) (hb : R b) (h0 : ¬ (b.lo ≤ 0 ∧ 0 ≤ b.hi)) : ivDiv a b = ivOf (min4 (dq a.lo b.lo false) (dq a.lo b.hi false) (dq a.hi b.lo false) (dq a.hi b.hi false)) (max4 (dq a.lo b.lo true) (dq a.lo b.hi true) (dq a.hi b.lo true) (dq a.hi b.hi true)) := by
  have h1 := ha.2
  have h2 := hb.2
  have h3 : ivHas b 0 = false := by
    cases e : ivHas b 0
    · rfl
    · have := (ivHas_iff b 0).1 e
      exact absurd this.2 h0
  unfold ivDiv
  rw [ivBoth_t ha hb, h3, endsDiv_eq]
  simp only [cond_true, cond_false]
  simp (disch := omega) only [numDiv_spec]
  rw [ends4_spec (dq_le (by omega)) (dq_le (by omega)) (dq_le (by omega)) (dq_le (by omega))]
theorem ivDiv_out {a b : Iv} (h : ¬ (R a ∧ R b ∧ ¬ (b.lo ≤ 0 ∧ 0 ≤ b.hi))) : ivDiv a b = ivNone := by
  unfold ivDiv
  by_cases k : R a ∧ R b
  · have h3 : ivHas b 0 = true := (ivHas_iff b 0).2 ⟨k.2, Decidable.byContradiction fun e => h ⟨k.1, k.2, e⟩⟩
    rw [ivBoth_t k.1 k.2, h3]; rfl
  · rw [ivBoth_f k]; rfl

/-! ## The document's are the same -/
theorem both_bif {α : Type} (a b : Iv) (x y : α) : (bif rRight a then (bif rRight b then x else y) else y) = bif ivBoth a b then x else y := by
  unfold ivBoth
  rw [rRight_eq, rRight_eq]
  cases ivRight a <;> rfl
theorem rAdd_eq (a b : Iv) : rAdd a b = ivAdd a b := by
  unfold rAdd ivAdd
  rw [both_bif]; rfl
theorem rNeg_eq (a : Iv) : rNeg a = ivNeg a := rfl
theorem rSub_eq (a b : Iv) : rSub a b = ivSub a b := by
  unfold rSub
  rw [both_bif]
  by_cases h : R a ∧ R b
  · have h1 := h.1.2
    have h2 := h.2.2
    rw [ivBoth_t h.1 h.2, ivSub_spec h.1 h.2, w64_of (by omega) (by omega), w64_of (by omega) (by omega)]; rfl
  · rw [ivBoth_f h, ivSub_out h]; rfl
theorem rTimes_eq (a : Iv) (k : Int) : rTimes a k = ivTimes a k := rfl
theorem rSqr_eq (a : Iv) : rSqr a = ivSqr a := by
  unfold rSqr rSqr_e2 rSqr_e1 rSqr_e3 rSqr_e0
  by_cases h : R a
  · have h1 := h.2
    have e1 : w64 (0 - a.lo) = -a.lo := by rw [w64_of (by omega) (by omega)]; omega
    have e2 : w64 (0 - a.hi) = -a.hi := by rw [w64_of (by omega) (by omega)]; omega
    have e3 : max (max (max a.lo (-a.lo)) a.hi) (-a.hi) = far a := by unfold far; omega
    have h0 := near_far h
    have hs := sq_mono h0.1 h0.2.1
    have n0 : 0 ≤ near a * near a := Int.mul_nonneg h0.1 h0.1
    have m1 : 0 ≤ dn (near a * near a) 65536 := dn_nonneg (by omega) n0
    have m2 : dn (near a * near a) 65536 ≤ upq (far a * far a) 65536 := Int.le_trans (dn_mono (by omega) hs) (dn_le_upq (by omega))
    have fin : (bif (rMul (far a) (far a) true).2 then rOf (rMul (near a) (near a) false).1 (rMul (far a) (far a) true).1 else rNone) = ivSqr a := by
      rw [rMul_eq, rMul_eq, numMul_spec (by omega) (by omega), numMul_spec (by omega) (by omega), rq, rq, ivSqr_spec h]
      simp only [cond_true, cond_false]
      by_cases hc : upq (far a * far a) 65536 ≤ 1073741824
      · rw [told_in (by omega), told_in (by omega)]; rfl
      · rw [told_snd, numIn_f (by omega), ivOf_out (l := dn (near a * near a) 65536) (h := upq (far a * far a) 65536) (by omega)]; rfl
    rw [rRight_eq, ivRight_t h, e1, e2, e3]
    simp only [cond_true]
    by_cases hl : a.lo ≤ 0
    · have e4 : (bif decide (a.hi ≥ 0) then 0 else min (max a.lo (-a.lo)) (max a.hi (-a.hi))) = near a := by
        unfold near
        by_cases hh : a.hi ≥ 0
        · rw [decide_eq_true hh]; simp only [cond_true]; omega
        · rw [decide_eq_false hh]; simp only [cond_false]; omega
      rw [decide_eq_true hl, e4]
      simp only [cond_true]
      exact fin
    · have e4 : min (max a.lo (-a.lo)) (max a.hi (-a.hi)) = near a := by unfold near; omega
      rw [decide_eq_false hl, e4]
      simp only [cond_false]
      exact fin
  · rw [rRight_eq, ivRight_f h, ivSqr_out h]; rfl
theorem rRootIv_eq (a : Iv) : rRootIv a = ivRoot a := by
  unfold rRootIv ivRoot
  rw [rRoot_eq, rRoot_eq]; rfl
theorem rHull_eq (a b : Iv) : rHull a b = ivHull a b := by
  unfold rHull ivHull
  rw [both_bif]; rfl
theorem rMeet_eq (a b : Iv) : rMeet a b = ivMeet a b := by
  unfold rMeet ivMeet
  rw [both_bif]; rfl
theorem rMid_eq (a : Iv) : rMid a = ivMid a := by
  unfold rMid
  by_cases h : R a
  · have h1 := h.2
    rw [rRight_eq, ivRight_t h, ivMid_spec h, w64_of (by omega) (by omega), rFloor_eq, (numFloor_spec (a.lo + a.hi) (b := 2) (by omega) (by omega)).1 (by omega)]; rfl
  · rw [rRight_eq, ivRight_f h, ivMid_out h]; rfl
theorem rHas_eq (a : Iv) (n : Int) : rHas a n = ivHas a n := rfl
theorem rInside_eq (a b : Iv) : rInside a b = ivInside a b := by
  unfold rInside ivInside
  rw [both_bif]
theorem rSplit_eq (a : Iv) : rSplit a = ivSplit a := by
  unfold rSplit ivSplit
  rw [rMid_eq]; rfl
theorem min4_swap (a b c d : Int) : min4 a b c d = min4 a c b d := by
  unfold min4
  omega
theorem max4_swap (a b c d : Int) : max4 a b c d = max4 a c b d := by
  unfold max4
  omega
theorem rMulIv_eq (a b : Iv) : rMulIv a b = ivMul a b := by
  unfold rMulIv
  rw [both_bif]
  by_cases h : R a ∧ R b
  · have h1 := h.1.2
    have h2 := h.2.2
    rw [ivBoth_t h.1 h.2, ivMul_spec h.1 h.2, rEndsMul_eq]
    simp only [rMul_eq, cond_true]
    simp (disch := omega) only [numMul_spec]
    simp only [rq, cond_true, cond_false]
    rw [rends4_spec (dn_le_upq (by omega)) (dn_le_upq (by omega)) (dn_le_upq (by omega)) (dn_le_upq (by omega))]
    unfold mn mx
    rw [dn_min4 (by omega), upq_max4 (by omega), min4_swap, max4_swap]
  · rw [ivBoth_f h, ivMul_out h]; rfl
theorem rDivIv_eq (a b : Iv) : rDivIv a b = ivDiv a b := by
  unfold rDivIv
  rw [both_bif]
  by_cases h : R a ∧ R b
  · have h1 := h.1.2
    have h2 := h.2.2
    rw [ivBoth_t h.1 h.2]
    simp only [cond_true]
    by_cases h0 : b.lo ≤ 0 ∧ 0 ≤ b.hi
    · rw [decide_eq_true h0.1, decide_eq_true (show b.hi ≥ 0 from h0.2), ivDiv_out (fun k => k.2.2 h0)]; rfl
    · have fin : rEndsDiv a b = ivDiv a b := by
        rw [ivDiv_spec h.1 h.2 h0, rEndsDiv_eq]
        simp only [rDiv_eq]
        simp (disch := omega) only [numDiv_spec]
        rw [rends4_spec (dq_le (by omega)) (dq_le (by omega)) (dq_le (by omega)) (dq_le (by omega)), min4_swap, max4_swap]
      by_cases hl : b.lo ≤ 0
      · rw [decide_eq_true hl, decide_eq_false (by omega), fin]; rfl
      · rw [decide_eq_false hl, fin]; rfl
  · rw [ivBoth_f h, ivDiv_out (fun k => h ⟨k.1, k.2.1⟩)]; rfl
end Go.Proofs.Ythngkopcadlciaa
