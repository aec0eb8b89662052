import Derived.Test.YtalffjplbhelcaaGreatDoorMGlassSums11
import Derived.Test.YtalffjplbhelcaaGreatDoorMGlassSums10
import Derived.Test.YtalffjplbhelcaaGreatDoorMGlassSums2
set_option linter.unusedVariables false
set_option linter.unusedSimpArgs false
namespace Go.Proofs.YtalffjplbhelcaaGreatDoor
def R (a : Iv) : Prop := a.no = false ∧ -1073741824 ≤ a.lo ∧ a.lo ≤ a.hi ∧ a.hi ≤ 1073741824
theorem ivRight_iff (a : Iv) : ivRight a = true ↔ R a := rRight_iff a
theorem R_mk {l h : Int} (h1 : -1073741824 ≤ l) (h2 : l ≤ h) (h3 : h ≤ 1073741824) : R ⟨l, h, false⟩ := ⟨rfl, h1, h2, h3⟩
theorem ivRight_t {a : Iv} (h : R a) : ivRight a = true := (ivRight_iff a).2 h
theorem ivRight_f {a : Iv} (h : ¬ R a) : ivRight a = false := by
  cases e : ivRight a
  · rfl
  · exact absurd ((ivRight_iff a).1 e) h
theorem R_none : ¬ R ivNone := fun h => by cases h.1
theorem ivOf_in {l h : Int} (k : -1073741824 ≤ l ∧ l ≤ h ∧ h ≤ 1073741824) : ivOf l h = ⟨l, h, false⟩ := by
  unfold ivOf
  rw [ivRight_t (R_mk k.1 k.2.1 k.2.2)]; rfl
theorem ivOf_out {l h : Int} (k : ¬ (-1073741824 ≤ l ∧ l ≤ h ∧ h ≤ 1073741824)) : ivOf l h = ivNone := by
  unfold ivOf
  rw [ivRight_f (fun r => k ⟨r.2.1, r.2.2.1, r.2.2.2⟩)]; rfl
theorem R_of {l h : Int} : R (ivOf l h) ↔ -1073741824 ≤ l ∧ l ≤ h ∧ h ≤ 1073741824 := by
  by_cases k : -1073741824 ≤ l ∧ l ≤ h ∧ h ≤ 1073741824
  · rw [ivOf_in k]; exact ⟨fun _ => k, fun _ => R_mk k.1 k.2.1 k.2.2⟩
  · rw [ivOf_out k]; exact ⟨fun r => absurd r R_none, fun h => absurd h k⟩
theorem ivBoth_t {a b : Iv} (ha : R a) (hb : R b) : ivBoth a b = true := by
  unfold ivBoth
  rw [ivRight_t ha, ivRight_t hb]; rfl
theorem ivHas_iff (a : Iv) (n : Int) : ivHas a n = true ↔ R a ∧ a.lo ≤ n ∧ n ≤ a.hi := by
  unfold ivHas
  by_cases h : R a
  · rw [ivRight_t h]
    simp only [cond_true, Bool.cond_false_right, Bool.and_eq_true, decide_eq_true_eq]
    exact ⟨fun k => ⟨h, k⟩, fun k => k.2⟩
  · rw [ivRight_f h]
    exact ⟨fun k => (nomatch k), fun k => absurd k.1 h⟩
theorem ivAdd_spec {a b : Iv} (ha : R a) (hb : R b) : ivAdd a b = ivOf (a.lo + b.lo) (a.hi + b.hi) := by
  obtain ⟨_, a1, a2, a3⟩ := ha
  obtain ⟨_, b1, b2, b3⟩ := hb
  unfold ivAdd
  rw [ivBoth_t ⟨‹_›, a1, a2, a3⟩ ⟨‹_›, b1, b2, b3⟩, w64_of (by omega) (by omega), w64_of (by omega) (by omega)]; rfl
theorem ivNeg_spec {a : Iv} (ha : R a) : ivNeg a = ⟨-a.hi, -a.lo, false⟩ := by
  have h := ha.2
  unfold ivNeg
  rw [ivRight_t ha, w64_of (by omega) (by omega), w64_of (by omega) (by omega)]
  simp only [cond_true]
  rw [ivOf_in (by omega)]
  congr 1 <;> omega
theorem ivNeg_out {a : Iv} (h : ¬ R a) : ivNeg a = ivNone := by
  unfold ivNeg
  rw [ivRight_f h]; rfl
theorem R_neg {a : Iv} : R (ivNeg a) ↔ R a := by
  by_cases h : R a
  · rw [ivNeg_spec h]
    have := h.2
    exact ⟨fun _ => h, fun _ => R_mk (by omega) (by omega) (by omega)⟩
  · rw [ivNeg_out h]
    exact ⟨fun k => absurd k R_none, fun k => absurd k h⟩
theorem ivSub_spec {a b : Iv} (ha : R a) (hb : R b) : ivSub a b = ivOf (a.lo - b.hi) (a.hi - b.lo) := by
  unfold ivSub
  rw [ivAdd_spec ha (R_neg.2 hb), ivNeg_spec hb]
  rfl
theorem dn_mono {a a' b : Int} (hb : 0 < b) (h : a ≤ a') : dn a b ≤ dn a' b := Int.ediv_le_ediv hb h
theorem upq_mono {a a' b : Int} (hb : 0 < b) (h : a ≤ a') : upq a b ≤ upq a' b := by
  have := Int.ediv_le_ediv (a := -a') (b := -a) hb (by omega)
  unfold upq
  omega
theorem dn_le_upq {a b : Int} (hb : 0 < b) : dn a b ≤ upq a b := by
  rw [upq_eq hb]
  unfold dn
  split <;> omega
theorem dn_min {a a' b : Int} (hb : 0 < b) : dn (min a a') b = min (dn a b) (dn a' b) := by
  by_cases h : a ≤ a'
  · have := dn_mono hb h
    rw [Int.min_eq_left h, Int.min_eq_left this]
  · have := dn_mono hb (show a' ≤ a by omega)
    rw [Int.min_eq_right (by omega), Int.min_eq_right this]
theorem upq_max {a a' b : Int} (hb : 0 < b) : upq (max a a') b = max (upq a b) (upq a' b) := by
  by_cases h : a ≤ a'
  · have := upq_mono hb h
    rw [Int.max_eq_right h, Int.max_eq_right this]
  · have := upq_mono hb (show a' ≤ a by omega)
    rw [Int.max_eq_left (by omega), Int.max_eq_left this]
theorem dn_nonneg {a b : Int} (hb : 0 < b) (h : 0 ≤ a) : 0 ≤ dn a b := Int.ediv_nonneg h (by omega)
def far (a : Iv) : Int := max (-a.lo) a.hi
def near (a : Iv) : Int := max (max a.lo (-a.hi)) 0
theorem near_far {a : Iv} (ha : R a) : 0 ≤ near a ∧ near a ≤ far a ∧ far a ≤ 1073741824 := by
  have := ha.2
  unfold near far
  omega
theorem sq_mono {x y : Int} (h0 : 0 ≤ x) (h : x ≤ y) : x * x ≤ y * y := Int.mul_le_mul h h h0 (by omega)
theorem ivSqr_spec {a : Iv} (ha : R a) : ivSqr a = ivOf (dn (near a * near a) 65536) (upq (far a * far a) 65536) := by
  have h := ha.2
  have h0 := near_far ha
  have e1 : w64 (0 - a.lo) = -a.lo := by rw [w64_of (by omega) (by omega)]; omega
  have e2 : w64 (0 - a.hi) = -a.hi := by rw [w64_of (by omega) (by omega)]; omega
  have k1 : far a = max (-a.lo) a.hi := rfl
  have k2 : near a = max (max a.lo (-a.hi)) 0 := rfl
  have hs := sq_mono h0.1 h0.2.1
  unfold ivSqr ivSqr_e0 ivSqr_e1
  rw [e1, e2, ← k1, ← k2, ivRight_t ha, numMul_spec (by omega) (by omega), numMul_spec (by omega) (by omega), rq, rq]
  simp only [cond_true, cond_false]
  have n0 : 0 ≤ near a * near a := Int.mul_nonneg h0.1 h0.1
  have m1 : 0 ≤ dn (near a * near a) 65536 := dn_nonneg (by omega) n0
  have m2 : dn (near a * near a) 65536 ≤ upq (far a * far a) 65536 := Int.le_trans (dn_mono (by omega) hs) (dn_le_upq (by omega))
  by_cases hc : upq (far a * far a) 65536 ≤ 1073741824
  · rw [told_in (by omega), told_in (by omega)]; rfl
  · have : (told (upq (far a * far a) 65536)).2 = false := by
      rw [told_snd]
      cases e : numIn (upq (far a * far a) 65536)
      · rfl
      · have := (numIn_iff _).1 e
        omega
    rw [this, ivOf_out (l := dn (near a * near a) 65536) (h := upq (far a * far a) 65536) (by omega)]; rfl
theorem ivRoot_spec {a : Iv} (ha : R a) (h0 : 0 ≤ a.lo) : ivRoot a = ivOf (rootf a.lo) (rootc a.hi) := by
  have h := ha.2
  unfold ivRoot
  rw [ivRight_t ha, decide_eq_false (by omega), numRoot_spec (by omega) (by omega), numRoot_spec (by omega) (by omega)]; rfl
theorem ivRoot_out {a : Iv} (h : ¬ (R a ∧ 0 ≤ a.lo)) : ivRoot a = ivNone := by
  unfold ivRoot
  by_cases ha : R a
  · rw [ivRight_t ha, decide_eq_true (by have : ¬ 0 ≤ a.lo := fun k => h ⟨ha, k⟩; omega)]; rfl
  · rw [ivRight_f ha]; rfl
theorem root_mono {m n s t : Int} (h : m ≤ n) (hs : IsRoot m s) (ht : IsRoot n t) : s ≤ t := by
  obtain ⟨s1, s2, s3⟩ := hs
  obtain ⟨t1, t2, t3⟩ := ht
  refine Decidable.byContradiction fun hc => ?_
  have := sq_mono (x := t + 1) (y := s) (by omega) (by omega)
  omega
theorem rootf_mono {a b : Int} (h0 : 0 ≤ a) (h : a ≤ b) (hb : b ≤ 1073741824) : rootf a ≤ rootf b :=
  root_mono (m := a * 65536) (n := b * 65536) (by omega) (rootf_is h0 (by omega)) (rootf_is (by omega) hb)
theorem rootf_le_rootc (a : Int) : rootf a ≤ rootc a ∧ rootc a ≤ rootf a + 1 := by
  unfold rootc
  split <;> omega
theorem rootc_ge {a : Int} (h0 : 0 ≤ a) (h1 : a ≤ 1073741824) : a * 65536 ≤ rootc a * rootc a := by
  obtain ⟨k1, k2, k3⟩ := rootf_is h0 h1
  unfold rootc
  split <;> omega
theorem rootc_mono {a b : Int} (h0 : 0 ≤ a) (h : a ≤ b) (hb : b ≤ 1073741824) : rootc a ≤ rootc b := by
  have h1 := rootf_mono h0 h hb
  have h2 := rootf_le_rootc a
  have h3 := rootf_le_rootc b
  refine Decidable.byContradiction fun hc => ?_
  have e1 : rootf a = rootf b := by omega
  have e2 : rootc a = rootf a + 1 := by omega
  have e3 : rootc b = rootf b := by omega
  have k1 := rootc_ge (a := b) (by omega) hb
  have k2 : rootf a * rootf a < a * 65536 := by
    unfold rootc at e2
    split at e2
    · assumption
    · omega
  rw [e3, ← e1] at k1
  omega
theorem rootc_le {a : Int} (h0 : 0 ≤ a) (h1 : a ≤ 1073741824) : 0 ≤ rootc a ∧ rootc a ≤ 8388608 := by
  have h2 := rootf_le h0 h1
  have h3 := rootc_mono h0 h1 (by omega)
  have h4 : rootc 1073741824 = 8388608 := by decide +kernel
  have h5 := rootf_le_rootc a
  omega
theorem R_root {a : Iv} : R (ivRoot a) ↔ R a ∧ 0 ≤ a.lo := by
  by_cases h : R a ∧ 0 ≤ a.lo
  · rw [ivRoot_spec h.1 h.2, R_of]
    have h1 := h.1.2
    have h2 := rootf_le (a := a.lo) h.2 (by omega)
    have h3 := rootc_le (a := a.hi) (by omega) (by omega)
    have h4 := rootf_mono (a := a.lo) (b := a.hi) h.2 (by omega) (by omega)
    have h5 := rootf_le_rootc a.hi
    exact ⟨fun _ => h, fun _ => by omega⟩
  · rw [ivRoot_out h]
    exact ⟨fun k => absurd k R_none, fun k => absurd k h⟩
theorem ivRoot_val {a : Iv} (ha : R a) (h0 : 0 ≤ a.lo) : ivRoot a = ⟨rootf a.lo, rootc a.hi, false⟩ := by
  rw [ivRoot_spec ha h0, ivOf_in]
  have := R_root.2 ⟨ha, h0⟩
  rw [ivRoot_spec ha h0, R_of] at this
  exact this
def ends4 (t1 u1 t2 u2 t3 u3 t4 u4 : Int × Bool) : Iv :=
  let e0 := ivOf t1.1 u1.1
  let e1 := ivOf (min e0.lo t1.1) (max e0.hi u1.1)
  let e2 := ivOf (min e1.lo t2.1) (max e1.hi u2.1)
  let e3 := ivOf (min e2.lo t3.1) (max e2.hi u3.1)
  let e4 := ivOf (min e3.lo t4.1) (max e3.hi u4.1)
  bif t1.2 then bif u1.2 then bif t2.2 then bif u2.2 then bif t3.2 then bif u3.2 then bif t4.2 then bif u4.2 then e4 else ivNone else ivNone else ivNone else ivNone else ivNone else ivNone else ivNone else ivNone
theorem endsMul_eq (a b : Iv) : endsMul a b = ends4 (numMul a.lo b.lo false) (numMul a.lo b.lo true) (numMul a.lo b.hi false) (numMul a.lo b.hi true) (numMul a.hi b.lo false) (numMul a.hi b.lo true) (numMul a.hi b.hi false) (numMul a.hi b.hi true) := rfl
theorem endsDiv_eq (a b : Iv) : endsDiv a b = ends4 (numDiv a.lo b.lo false) (numDiv a.lo b.lo true) (numDiv a.lo b.hi false) (numDiv a.lo b.hi true) (numDiv a.hi b.lo false) (numDiv a.hi b.lo true) (numDiv a.hi b.hi false) (numDiv a.hi b.hi true) := rfl
theorem numIn_f {q : Int} (h : ¬ (-1073741824 ≤ q ∧ q ≤ 1073741824)) : numIn q = false := by
  cases e : numIn q
  · rfl
  · exact absurd ((numIn_iff q).1 e) h
def min4 (a b c d : Int) : Int := min (min a b) (min c d)
def max4 (a b c d : Int) : Int := max (max a b) (max c d)
theorem ends4_spec {l1 u1 l2 u2 l3 u3 l4 u4 : Int} (h1 : l1 ≤ u1) (h2 : l2 ≤ u2) (h3 : l3 ≤ u3) (h4 : l4 ≤ u4) :
    ends4 (told l1) (told u1) (told l2) (told u2) (told l3) (told u3) (told l4) (told u4) = ivOf (min4 l1 l2 l3 l4) (max4 u1 u2 u3 u4) := by
  unfold ends4
  simp only [told_snd]
  by_cases h : -1073741824 ≤ min4 l1 l2 l3 l4 ∧ max4 u1 u2 u3 u4 ≤ 1073741824
  · unfold min4 max4 at h ⊢
    rw [told_in (q := l1) (by omega), told_in (q := u1) (by omega), told_in (q := l2) (by omega), told_in (q := u2) (by omega), told_in (q := l3) (by omega), told_in (q := u3) (by omega), told_in (q := l4) (by omega), told_in (q := u4) (by omega)]
    rw [(numIn_iff l1).2 (by omega), (numIn_iff u1).2 (by omega), (numIn_iff l2).2 (by omega), (numIn_iff u2).2 (by omega), (numIn_iff l3).2 (by omega), (numIn_iff u3).2 (by omega), (numIn_iff l4).2 (by omega), (numIn_iff u4).2 (by omega)]
    simp only [cond_true]
    rw [ivOf_in (l := l1) (h := u1) (by omega)]
    simp only
    rw [ivOf_in (l := min l1 l1) (by omega)]
    simp only
    rw [ivOf_in (l := min (min l1 l1) l2) (by omega)]
    simp only
    rw [ivOf_in (l := min (min (min l1 l1) l2) l3) (by omega)]
    simp only
    congr 1 <;> omega
  · rw [ivOf_out (l := min4 l1 l2 l3 l4) (h := max4 u1 u2 u3 u4) (fun k => h ⟨k.1, k.2.2⟩)]
    unfold min4 max4 at h
    have k : ∀ (q : Int) (x : Iv), (-1073741824 ≤ q ∧ q ≤ 1073741824 → x = ivNone) → (bif numIn q then x else ivNone) = ivNone := by
      intro q x hx
      by_cases hq : -1073741824 ≤ q ∧ q ≤ 1073741824
      · rw [(numIn_iff q).2 hq, hx hq]; rfl
      · rw [numIn_f hq]; rfl
    exact k _ _ fun a1 => k _ _ fun a2 => k _ _ fun a3 => k _ _ fun a4 => k _ _ fun a5 => k _ _ fun a6 => k _ _ fun a7 => k _ _ fun a8 => by omega
def mn (a b : Iv) : Int := min4 (a.lo * b.lo) (a.lo * b.hi) (a.hi * b.lo) (a.hi * b.hi)
def mx (a b : Iv) : Int := max4 (a.lo * b.lo) (a.lo * b.hi) (a.hi * b.lo) (a.hi * b.hi)
theorem dn_min4 {a b c d n : Int} (hn : 0 < n) : dn (min4 a b c d) n = min4 (dn a n) (dn b n) (dn c n) (dn d n) := by
  unfold min4
  rw [dn_min hn, dn_min hn, dn_min hn]
theorem upq_max4 {a b c d n : Int} (hn : 0 < n) : upq (max4 a b c d) n = max4 (upq a n) (upq b n) (upq c n) (upq d n) := by
  unfold max4
  rw [upq_max hn, upq_max hn, upq_max hn]
theorem ivMul_spec {a b : Iv} (ha : R a) (hb : R b) : ivMul a b = ivOf (dn (mn a b) 65536) (upq (mx a b) 65536) := by
  have h1 := ha.2
  have h2 := hb.2
  unfold ivMul mn mx
  rw [ivBoth_t ha hb, endsMul_eq]
  simp only [cond_true]
  simp (disch := omega) only [numMul_spec]
  simp only [rq, cond_true, cond_false]
  rw [ends4_spec (dn_le_upq (by omega)) (dn_le_upq (by omega)) (dn_le_upq (by omega)) (dn_le_upq (by omega)), dn_min4 (by omega), upq_max4 (by omega)]
theorem dq_le {a b : Int} (hb : b ≠ 0) : dq a b false ≤ dq a b true := by
  unfold dq rq
  simp only [cond_true, cond_false]
  by_cases h : b < 0
  · rw [decide_eq_true h]; exact dn_le_upq (by simp only [cond_true]; omega)
  · rw [decide_eq_false h]; exact dn_le_upq (by simp only [cond_false]; omega)
theorem ivDiv_spec {a b : Iv} (ha : R a) (hb : R b) (h0 : ¬ (b.lo ≤ 0 ∧ 0 ≤ b.hi)) : ivDiv a b = ivOf (min4 (dq a.lo b.lo false) (dq a.lo b.hi false) (dq a.hi b.lo false) (dq a.hi b.hi false)) (max4 (dq a.lo b.lo true) (dq a.lo b.hi true) (dq a.hi b.lo true) (dq a.hi b.hi true)) := by
  have h1 := ha.2
  have h2 := hb.2
  have h3 : ivHas b 0 = false := by
    cases e : ivHas b 0
    · rfl
    · have := (ivHas_iff b 0).1 e
      exact absurd this.2 h0
  unfold ivDiv
  rw [ivBoth_t ha hb, h3, endsDiv_eq]
  simp only [cond_true, cond_false]
  simp (disch := omega) only [numDiv_spec]
  rw [ends4_spec (dq_le (by omega)) (dq_le (by omega)) (dq_le (by omega)) (dq_le (by omega))]
end Go.Proofs.YtalffjplbhelcaaGreatDoor
namespace Go.Proofs.YtalffjplbhelcaaGreatDoor
theorem le_dn_iff {l n c : Int} (hc : 0 < c) : l ≤ dn n c ↔ l * c ≤ n := Int.le_ediv_iff_mul_le hc
theorem upq_le_iff {u n c : Int} (hc : 0 < c) : upq n c ≤ u ↔ n ≤ u * c := by
  have := le_dn_iff (l := -u) (n := -n) hc
  unfold dn at this
  unfold upq
  rw [Int.neg_mul] at this
  omega
def qn (a b : Iv) : Int := min4 (dq a.lo b.lo false) (dq a.lo b.hi false) (dq a.hi b.lo false) (dq a.hi b.hi false)
def qx (a b : Iv) : Int := max4 (dq a.lo b.lo true) (dq a.lo b.hi true) (dq a.hi b.lo true) (dq a.hi b.hi true)
theorem ivDiv_val {a b : Iv} (ha : R a) (hb : R b) (h0 : ¬ (b.lo ≤ 0 ∧ 0 ≤ b.hi)) : ivDiv a b = ivOf (qn a b) (qx a b) := ivDiv_spec ha hb h0
end Go.Proofs.YtalffjplbhelcaaGreatDoor
namespace Go.Proofs.YtalffjplbhelcaaGreatDoor
end Go.Proofs.YtalffjplbhelcaaGreatDoor
namespace Go.Proofs.YtalffjplbhelcaaGreatDoor
def sv1 (d p q : Int) : Int := dn (dn (d * p) 65536 * 65536) q
def sv2 (e p q : Int) : Int := upq (upq (e * q) 65536 * 65536) p
theorem sv1_le {d p q : Int} (hd : 0 ≤ d) (hp : 0 < p) (hq : p ≤ q) : 0 ≤ sv1 d p q ∧ sv1 d p q ≤ d := by
  have h1 := (dn_le (a := d * p) (b := 65536) (by omega)).1
  have h0 : 0 ≤ dn (d * p) 65536 := dn_nonneg (by omega) (Int.mul_nonneg hd (by omega))
  have h2 := dn_le (a := dn (d * p) 65536 * 65536) (b := q) (by omega)
  have h3 : d * p ≤ d * q := Int.mul_le_mul_of_nonneg_left hq hd
  refine ⟨dn_nonneg (by omega) (by omega), ?_⟩
  have h4 : sv1 d p q * q ≤ d * q := by unfold sv1; omega
  exact Int.le_of_mul_le_mul_right h4 (by omega)
theorem sv2_ge {e p q : Int} (he : 0 ≤ e) (hp : 0 < p) (hq : p ≤ q) : e ≤ sv2 e p q := by
  have h1 := (upq_ge (a := e * q) (b := 65536) (by omega)).1
  have h2 := (upq_ge (a := upq (e * q) 65536 * 65536) (b := p) hp).1
  have h3 : e * p ≤ e * q := Int.mul_le_mul_of_nonneg_left hq he
  have h4 : e * p ≤ sv2 e p q * p := by unfold sv2; omega
  exact Int.le_of_mul_le_mul_right h4 hp
theorem sv2_le {e p q : Int} (he : 0 ≤ e) (he2 : e ≤ 1966080) (hp : 6000 ≤ p) (hpq : p ≤ q) (hq : q ≤ 60000) : sv2 e p q ≤ 20000000 := by
  have h3 : e * q ≤ 1966080 * 60000 := Int.mul_le_mul he2 hq (by omega) (by omega)
  have h1 : upq (e * q) 65536 ≤ 1800000 := (upq_le_iff (by omega)).2 (by omega)
  exact (upq_le_iff (by omega)).2 (by omega)
theorem sv1_mono {d d' p q : Int} (h : d ≤ d') (hp : 0 < p) (hq : 0 < q) : sv1 d p q ≤ sv1 d' p q := by
  have h1 : d * p ≤ d' * p := Int.mul_le_mul_of_nonneg_right h (by omega)
  have h2 := dn_mono (b := 65536) (by omega) h1
  exact dn_mono hq (by omega)
theorem sv2_mono {e e' p q : Int} (h : e ≤ e') (hp : 0 < p) (hq : 0 < q) : sv2 e p q ≤ sv2 e' p q := by
  have h1 : e * q ≤ e' * q := Int.mul_le_mul_of_nonneg_right h (by omega)
  have h2 := upq_mono (b := 65536) (by omega) h1
  exact upq_mono hp (by omega)
theorem mul_pos {d e p q : Int} (hd : 0 ≤ d) (hde : d ≤ e) (hp : 0 ≤ p) (hpq : p ≤ q) : mn ⟨d, e, false⟩ ⟨p, q, false⟩ = d * p ∧ mx ⟨d, e, false⟩ ⟨p, q, false⟩ = e * q := by
  unfold mn mx min4 max4
  simp only
  have h1 : d * p ≤ d * q := Int.mul_le_mul_of_nonneg_left hpq hd
  have h2 : d * p ≤ e * p := Int.mul_le_mul_of_nonneg_right hde hp
  have h3 : d * q ≤ e * q := Int.mul_le_mul_of_nonneg_right hde (by omega)
  have h4 : e * p ≤ e * q := Int.mul_le_mul_of_nonneg_left hpq (by omega)
  omega
theorem dq_pos {x y : Int} (h : 0 < y) (up : Bool) : dq x y up = rq (x * 65536) y up := by
  unfold dq
  rw [decide_eq_false (by omega)]
  rfl
theorem quo_pos {m n p q : Int} (hm : 0 ≤ m) (hmn : m ≤ n) (hp : 0 < p) (hpq : p ≤ q) : qn ⟨m, n, false⟩ ⟨p, q, false⟩ = dn (m * 65536) q ∧ qx ⟨m, n, false⟩ ⟨p, q, false⟩ = upq (n * 65536) p := by
  have hq : 0 < q := by omega
  have a1 : dn (m * 65536) q ≤ dn (n * 65536) q := dn_mono hq (by omega)
  have a2 : dn (m * 65536) q ≤ dn (m * 65536) p := by
    refine (le_dn_iff hp).2 ?_
    have h1 := (dn_le (a := m * 65536) hq).1
    have h0 : 0 ≤ dn (m * 65536) q := dn_nonneg hq (by omega)
    have h2 : dn (m * 65536) q * p ≤ dn (m * 65536) q * q := Int.mul_le_mul_of_nonneg_left hpq h0
    omega
  have a3 : dn (m * 65536) p ≤ dn (n * 65536) p := dn_mono hp (by omega)
  have b1 : upq (m * 65536) p ≤ upq (n * 65536) p := upq_mono hp (by omega)
  have b2 : upq (n * 65536) q ≤ upq (n * 65536) p := by
    refine (upq_le_iff hq).2 ?_
    have h1 := (upq_ge (a := n * 65536) hp).1
    have h0 : 0 ≤ upq (n * 65536) p := Int.le_trans (dn_nonneg hp (by omega)) (dn_le_upq (a := n * 65536) hp)
    have h2 : upq (n * 65536) p * p ≤ upq (n * 65536) p * q := Int.mul_le_mul_of_nonneg_left hpq h0
    omega
  have b3 : upq (m * 65536) q ≤ upq (n * 65536) q := upq_mono hq (by omega)
  unfold qn qx min4 max4
  simp only [dq_pos hp, dq_pos hq, rq, cond_true, cond_false]
  omega
theorem zero_term {p q : Int} (hp : 6000 ≤ p) (hpq : p ≤ q) (hq : q ≤ 60000) : ivDiv (ivMul ⟨0, 0, false⟩ ⟨p, q, false⟩) (ivSub ⟨p, q, false⟩ ⟨589824, 589824, false⟩) = ⟨0, 0, false⟩ := by
  have r0 : R (⟨0, 0, false⟩ : Iv) := R_mk (by omega) (by omega) (by omega)
  have rl : R (⟨p, q, false⟩ : Iv) := R_mk (by omega) (by omega) (by omega)
  have r9 : R (⟨589824, 589824, false⟩ : Iv) := R_mk (by omega) (by omega) (by omega)
  have e1 : ivMul ⟨0, 0, false⟩ ⟨p, q, false⟩ = ⟨0, 0, false⟩ := by
    rw [ivMul_spec r0 rl, (mul_pos (d := 0) (e := 0) (by omega) (by omega) (by omega) hpq).1, (mul_pos (d := 0) (e := 0) (by omega) (by omega) (by omega) hpq).2, Int.zero_mul, Int.zero_mul]
    rfl
  rw [e1, ivSub_spec rl r9, ivOf_in (by simp only; omega)]
  simp only
  rw [ivDiv_val r0 (R_mk (by omega) (by omega) (by omega)) (by simp only; omega)]
  have z : ∀ y : Int, y < 0 → ∀ up, dq 0 y up = 0 := by
    intro y hy up
    unfold dq
    rw [decide_eq_true hy]
    cases up
    · show dn _ _ = 0
      unfold dn
      simp
    · show upq _ _ = 0
      unfold upq
      simp
  unfold qn qx
  simp only [z (p - 589824) (by omega), z (q - 589824) (by omega)]
  rfl
theorem one_term {p q d e : Int} (hp : 6000 ≤ p) (hpq : p ≤ q) (hq : q ≤ 60000) (hd : 0 ≤ d) (hde : d ≤ e) (he : e ≤ 1966080) : ivDiv (ivMul ⟨d, e, false⟩ ⟨p, q, false⟩) (ivSub ⟨p, q, false⟩ ⟨0, 0, false⟩) = ⟨sv1 d p q, sv2 e p q, false⟩ := by
  have r0 : R (⟨0, 0, false⟩ : Iv) := R_mk (by omega) (by omega) (by omega)
  have rl : R (⟨p, q, false⟩ : Iv) := R_mk (by omega) (by omega) (by omega)
  have rd : R (⟨d, e, false⟩ : Iv) := R_mk (by omega) (by omega) (by omega)
  have h3 : e * q ≤ 1966080 * 60000 := Int.mul_le_mul he hq (by omega) (by omega)
  have h4 : 0 ≤ d * p := Int.mul_nonneg hd (by omega)
  have h5 : d * p ≤ e * q := Int.mul_le_mul hde hpq (by omega) (by omega)
  have u1 : 0 ≤ dn (d * p) 65536 := dn_nonneg (by omega) h4
  have u2 : dn (d * p) 65536 ≤ upq (e * q) 65536 := Int.le_trans (dn_mono (by omega) h5) (dn_le_upq (by omega))
  have u3 : upq (e * q) 65536 ≤ 1800000 := (upq_le_iff (by omega)).2 (by omega)
  have v1 := sv1_le hd (show 0 < p by omega) hpq
  have v2 := sv2_ge (show 0 ≤ e by omega) (show 0 < p by omega) hpq
  have v3 := sv2_le (show 0 ≤ e by omega) he hp hpq hq
  rw [ivMul_spec rd rl, (mul_pos hd hde (by omega) hpq).1, (mul_pos hd hde (by omega) hpq).2, ivOf_in (by omega), ivSub_spec rl r0]
  simp only [Int.sub_zero]
  rw [ivOf_in (by omega), ivDiv_val (R_mk (by omega) (by omega) (by omega)) rl (by simp only; omega), (quo_pos u1 u2 (by omega) hpq).1, (quo_pos u1 u2 (by omega) hpq).2]
  exact ivOf_in (by show _ ≤ sv1 d p q ∧ sv1 d p q ≤ sv2 e p q ∧ sv2 e p q ≤ _; omega)
theorem sum_R {p q d e : Int} (hp : 6000 ≤ p) (hpq : p ≤ q) (hq : q ≤ 60000) (hd : 0 ≤ d) (hde : d ≤ e) (he : e ≤ 1966080) : ivRoot (ivAdd (ivAdd (ivAdd ⟨65536, 65536, false⟩ (ivDiv (ivMul ⟨d, e, false⟩ ⟨p, q, false⟩) (ivSub ⟨p, q, false⟩ ⟨0, 0, false⟩))) (ivDiv (ivMul ⟨0, 0, false⟩ ⟨p, q, false⟩) (ivSub ⟨p, q, false⟩ ⟨589824, 589824, false⟩))) (ivDiv (ivMul ⟨0, 0, false⟩ ⟨p, q, false⟩) (ivSub ⟨p, q, false⟩ ⟨589824, 589824, false⟩))) = ⟨rootf (65536 + sv1 d p q), rootc (65536 + sv2 e p q), false⟩ := by
  have v1 := sv1_le hd (show 0 < p by omega) hpq
  have v2 := sv2_ge (show 0 ≤ e by omega) (show 0 < p by omega) hpq
  have v3 := sv2_le (show 0 ≤ e by omega) he hp hpq hq
  have r0 : R (⟨0, 0, false⟩ : Iv) := R_mk (by omega) (by omega) (by omega)
  have r1 : R (⟨65536, 65536, false⟩ : Iv) := R_mk (by omega) (by omega) (by omega)
  rw [one_term hp hpq hq hd hde he, zero_term hp hpq hq]
  generalize sv1 d p q = a at *
  generalize sv2 e p q = b at *
  rw [ivAdd_spec r1 (R_mk (by omega) (by omega) (by omega)), ivOf_in (by simp only; omega)]
  simp only
  have r2 : R (⟨65536 + a, 65536 + b, false⟩ : Iv) := R_mk (by omega) (by omega) (by omega)
  rw [ivAdd_spec r2 r0]
  simp only [Int.add_zero]
  rw [ivOf_in (by omega), ivAdd_spec r2 r0]
  simp only [Int.add_zero]
  rw [ivOf_in (by omega), ivRoot_val r2 (by simp only; omega)]
theorem sqr_root {s t : Int} (h0 : 0 ≤ s) (hst : s ≤ t) (ht : t ≤ 1073741824) : R (⟨rootf s, rootc t, false⟩ : Iv) ∧ (ivSqr ⟨rootf s, rootc t, false⟩).lo ≤ s ∧ t ≤ (ivSqr ⟨rootf s, rootc t, false⟩).hi := by
  obtain ⟨k1, k2, k3⟩ := rootf_is h0 (show s ≤ 1073741824 by omega)
  have k4 := rootc_ge (a := t) (by omega) ht
  have k5 := rootc_le (a := t) (by omega) ht
  have k6 := rootf_mono h0 hst ht
  have k7 := rootf_le_rootc t
  have hR : R (⟨rootf s, rootc t, false⟩ : Iv) := R_mk (by omega) (by omega) (by omega)
  have e1 : near ⟨rootf s, rootc t, false⟩ = rootf s := by unfold near; simp only; omega
  have e2 : far ⟨rootf s, rootc t, false⟩ = rootc t := by unfold far; simp only; omega
  have m1 : rootf s * rootf s ≤ rootc t * rootc t := sq_mono k1 (by omega)
  have m2 : rootc t * rootc t ≤ 8388608 * 8388608 := sq_mono k5.1 k5.2
  have u1 := (dn_le (a := rootf s * rootf s) (b := 65536) (by omega)).1
  have u2 := (upq_ge (a := rootc t * rootc t) (b := 65536) (by omega)).1
  have u3 : upq (rootc t * rootc t) 65536 ≤ 1073741824 := (upq_le_iff (by omega)).2 (by omega)
  have u4 : 0 ≤ dn (rootf s * rootf s) 65536 := dn_nonneg (by omega) (Int.mul_nonneg k1 k1)
  refine ⟨hR, ?_⟩
  rw [ivSqr_spec hR, e1, e2, ivOf_in (by omega)]
  simp only
  omega
theorem sqr_light {A w : Int} (hA : 20000 ≤ A) (hA2 : A < 60000) (hw : 0 ≤ w) (hw2 : w < 9) : ∃ p q : Int, ivSqr (hWide A w) = ⟨p, q, false⟩ ∧ 6000 ≤ p ∧ p ≤ q ∧ q ≤ 60000 := by
  have e : hWide A w = ⟨A, A + w, false⟩ := by
    unfold hWide within
    rw [show max (-1073741824) (min 1073741824 A) = A by omega, w64_of (by omega) (by omega)]
    congr 1 <;> omega
  have hR : R (⟨A, A + w, false⟩ : Iv) := R_mk (by omega) (by omega) (by omega)
  have e1 : near ⟨A, A + w, false⟩ = A := by unfold near; simp only; omega
  have e2 : far ⟨A, A + w, false⟩ = A + w := by unfold far; simp only; omega
  have m0 : 20000 * 20000 ≤ A * A := sq_mono (by omega) hA
  have m1 : A * A ≤ (A + w) * (A + w) := sq_mono (by omega) (by omega)
  have m2 : (A + w) * (A + w) ≤ 60008 * 60008 := sq_mono (by omega) (by omega)
  have u0 : 6000 ≤ dn (A * A) 65536 := (le_dn_iff (by omega)).2 (by omega)
  have u1 : dn (A * A) 65536 ≤ upq ((A + w) * (A + w)) 65536 := Int.le_trans (dn_mono (by omega) m1) (dn_le_upq (by omega))
  have u2 : upq ((A + w) * (A + w)) 65536 ≤ 60000 := (upq_le_iff (by omega)).2 (by omega)
  exact ⟨_, _, by rw [e, ivSqr_spec hR, e1, e2, ivOf_in (by omega)], u0, u1, u2⟩
theorem dec1_nat : ∀ n : Nat, n < 300 → decOf (hDec1 (n : Int)) = ⟨dn ((n : Int) * 65536) 10, upq ((n : Int) * 65536) 10, false⟩ := by decide +kernel
theorem dec1_val {c : Int} (h0 : 0 ≤ c) (h : c < 300) : ∃ d e : Int, decOf (hDec1 c) = ⟨d, e, false⟩ ∧ 0 ≤ d ∧ d ≤ e ∧ e ≤ 1966080 ∧ d = dn (c * 65536) 10 ∧ e = upq (c * 65536) 10 := by
  have k := dec1_nat c.toNat (by omega)
  rw [Int.toNat_of_nonneg h0] at k
  exact ⟨_, _, k, dn_nonneg (by omega) (by omega), dn_le_upq (by omega), (upq_le_iff (by omega)).2 (by omega), rfl, rfl⟩
theorem dec_0 : decOf (⟨0, 0⟩ : Dec) = ⟨0, 0, false⟩ := by decide +kernel
theorem dec_9 : decOf (⟨9, 0⟩ : Dec) = ⟨589824, 589824, false⟩ := by decide +kernel
theorem pt_1 : ivPoint 65536 = ⟨65536, 65536, false⟩ := by decide +kernel
theorem sums_index {nm : ByteArray} (hn : sEq nm (⟨#[97, 105, 114]⟩ : ByteArray) = false) {b : Dec} {l : Iv} {p q d e : Int} (hl : ivSqr l = ⟨p, q, false⟩) (hb : decOf b = ⟨d, e, false⟩) (hp : 6000 ≤ p) (hpq : p ≤ q) (hq : q ≤ 60000) (hd : 0 ≤ d) (hde : d ≤ e) (he : e ≤ 1966080) :
    gIndex (⟨nm, (⟨b, (⟨0, 0⟩ : Dec), (⟨0, 0⟩ : Dec)⟩ : D3), (⟨(⟨0, 0⟩ : Dec), (⟨9, 0⟩ : Dec), (⟨9, 0⟩ : Dec)⟩ : D3)⟩ : Glass) l = ⟨rootf (65536 + sv1 d p q), rootc (65536 + sv2 e p q), false⟩ := by
  rw [gIndex]
  simp only
  rw [hn, cond_false, gIndex_e2, gIndex_e1, gIndex_e0, gIndex_e3]
  simp only
  rw [hl, hb, dec_0, dec_9, pt_1]
  exact sum_R hp hpq hq hd hde he
theorem sums_core {x y : Iv} {p q d e d' e' B : Int} (hp : 6000 ≤ p) (hpq : p ≤ q) (hq : q ≤ 60000) (hd : 0 ≤ d) (hde : d ≤ e) (he : e ≤ 1966080) (hd' : d ≤ d') (hde' : d' ≤ e') (hee : e ≤ e') (he' : e' ≤ 1966080)
    (hx : x = ⟨rootf (65536 + sv1 d p q), rootc (65536 + sv2 e p q), false⟩) (hy : y = ⟨rootf (65536 + sv1 d' p q), rootc (65536 + sv2 e' p q), false⟩) (h1 : d * 10 ≤ B * 65536) (h2 : B * 65536 ≤ e * 10) :
    R x ∧ R y ∧ (ivSqr x).lo * 10 ≤ (10 + B) * 65536 ∧ (10 + B) * 65536 ≤ (ivSqr x).hi * 10 ∧ x.hi ≤ y.hi ∧ x.lo ≤ y.lo ∧ R (ivSqr x) := by
  have v1 := sv1_le hd (show 0 < p by omega) hpq
  have v2 := sv2_ge (show 0 ≤ e by omega) (show 0 < p by omega) hpq
  have v3 := sv2_le (show 0 ≤ e by omega) he hp hpq hq
  have w1 := sv1_le (show 0 ≤ d' by omega) (show 0 < p by omega) hpq
  have w2 := sv2_ge (show 0 ≤ e' by omega) (show 0 < p by omega) hpq
  have w3 := sv2_le (show 0 ≤ e' by omega) he' hp hpq hq
  have m1 := sv1_mono hd' (show 0 < p by omega) (show 0 < q by omega)
  have m2 := sv2_mono hee (show 0 < p by omega) (show 0 < q by omega)
  generalize sv1 d p q = a at *
  generalize sv2 e p q = b at *
  generalize sv1 d' p q = a' at *
  generalize sv2 e' p q = b' at *
  obtain ⟨k1, k2, k3⟩ := sqr_root (s := 65536 + a) (t := 65536 + b) (by omega) (by omega) (by omega)
  obtain ⟨j1, _, _⟩ := sqr_root (s := 65536 + a') (t := 65536 + b') (by omega) (by omega) (by omega)
  have r1 := rootf_mono (a := 65536 + a) (b := 65536 + a') (by omega) (by omega) (by omega)
  have r2 := rootc_mono (a := 65536 + b) (b := 65536 + b') (by omega) (by omega) (by omega)
  rw [← hx] at k1 k2 k3
  rw [← hy] at j1
  have hRs : R (ivSqr x) := by
    have n := near_far k1
    have s1 := sq_mono n.1 n.2.1
    have e3 : far x ≤ 8388608 := by
      have := (rootc_le (a := 65536 + b) (by omega) (by omega)).2
      have := (rootf_is (a := 65536 + a) (by omega) (by omega)).1
      rw [hx]
      unfold far
      simp only
      omega
    have s2 := sq_mono (x := far x) (y := 8388608) (by omega) e3
    have u3 : upq (far x * far x) 65536 ≤ 1073741824 := (upq_le_iff (by omega)).2 (by omega)
    have u4 : 0 ≤ dn (near x * near x) 65536 := dn_nonneg (by omega) (Int.mul_nonneg n.1 n.1)
    have u5 : dn (near x * near x) 65536 ≤ upq (far x * far x) 65536 := Int.le_trans (dn_mono (by omega) s1) (dn_le_upq (by omega))
    rw [ivSqr_spec k1, R_of]
    omega
  refine ⟨k1, j1, by omega, by omega, ?_, ?_, hRs⟩
  · rw [hx, hy]; exact r2
  · rw [hx, hy]; exact r1
theorem lawGlassSums_true (b more a w : Int) : lawGlassSums b more a w = true := by
  have hb := hPick_lt b (m := 200) (by omega) (by omega)
  have hm := hPick_lt more (m := 100) (by omega) (by omega)
  have ha := hPick_lt a (m := 40000) (by omega) (by omega)
  have hw := hPick_lt w (m := 9) (by omega) (by omega)
  have eA : w64 (20000 + hPick a 40000) = 20000 + hPick a 40000 := w64_of (by omega) (by omega)
  have eB : w64 (hPick b 200 + hPick more 100) = hPick b 200 + hPick more 100 := w64_of (by omega) (by omega)
  have eC : w64 ((w64 (10 + (hPick b 200))) * 65536) = (10 + hPick b 200) * 65536 := by rw [w64_of (n := 10 + hPick b 200) (by omega) (by omega), w64_of (by omega) (by omega)]
  unfold lawGlassSums
  rw [eC]
  unfold lawGlassSums_e0 lawGlassSums_e1
  rw [eA, eB]
  generalize hPick b 200 = B at *
  generalize hPick more 100 = M at *
  generalize hPick a 40000 = A at *
  generalize hPick w 9 = v at *
  obtain ⟨p, q, hl, hp, hpq, hq⟩ := sqr_light (A := 20000 + A) (w := v) (by omega) (by omega) hw.1 hw.2
  obtain ⟨d, e, h1, h2, h3, h4, h5, h6⟩ := dec1_val (c := B) hb.1 (by omega)
  obtain ⟨d', e', k1, k2, k3, k4, k5, k6⟩ := dec1_val (c := B + M) (by omega) (by omega)
  have x1 := sums_index (nm := (⟨#[120]⟩ : ByteArray)) (by decide +kernel) hl h1 hp hpq hq h2 h3 h4
  have y1 := sums_index (nm := (⟨#[121]⟩ : ByteArray)) (by decide +kernel) hl k1 hp hpq hq k2 k3 k4
  have mo : d ≤ d' := by rw [h5, k5]; exact dn_mono (by omega) (by omega)
  have me : e ≤ e' := by rw [h6, k6]; exact upq_mono (by omega) (by omega)
  have q1 := (dn_le (a := B * 65536) (b := 10) (by omega)).1
  have q2 := (upq_ge (a := B * 65536) (b := 10) (by omega)).1
  rw [← h5] at q1
  rw [← h6] at q2
  have c := sums_core hp hpq hq h2 h3 h4 mo k3 me k4 x1 y1 q1 q2
  generalize gIndex (⟨(⟨#[120]⟩ : ByteArray), _, _⟩ : Glass) _ = X at c ⊢
  generalize gIndex (⟨(⟨#[121]⟩ : ByteArray), _, _⟩ : Glass) _ = Y at c ⊢
  obtain ⟨c1, c2, c3, c4, c5, c6, c7⟩ := c
  have c7 := c7.2
  rw [ivRight_t c1, ivRight_t c2, w64_of (n := (ivSqr X).lo * 10) (by omega) (by omega), w64_of (n := (ivSqr X).hi * 10) (by omega) (by omega), decide_eq_true c3, decide_eq_true (show (ivSqr X).hi * 10 ≥ (10 + B) * 65536 from c4), decide_eq_true (show Y.hi ≥ X.hi from c5), decide_eq_true (show Y.lo ≥ X.lo from c6)]
  rfl
end Go.Proofs.YtalffjplbhelcaaGreatDoor
namespace Go.Proofs.YtalffjplbhelcaaGreatDoor
open Go.RowKit
theorem glassSums_calls {W : World} {tP : Nat} (hT : At [powBox tP] W) (b more a w : Int) : Calls Tryz.prog 7 #[.int .i64 b, .int .i64 more, .int .i64 a, .int .i64 w] W fun e W' => e = .returned (.bool true) ∧ Below W.heap.size W W' :=
  (c_lawGlassSums b more a w tP (lawGlassSums_true b more a w) W hT (by simp)).mono fun e w' ⟨v, N', he, ⟨hv, _⟩, _, _, hb⟩ => ⟨by rw [he, hv], hb⟩
end Go.Proofs.YtalffjplbhelcaaGreatDoor
