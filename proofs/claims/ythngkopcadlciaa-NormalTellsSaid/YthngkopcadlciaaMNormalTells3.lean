import Derived.Test.YthngkopcadlciaaMNormalTells2
set_option linter.unusedVariables false
set_option linter.unusedSimpArgs false
namespace Go.Proofs.Ythngkopcadlciaa
theorem mul_bound {a b A B : Int} (ha : -A ≤ a ∧ a ≤ A) (hb : -B ≤ b ∧ b ≤ B) : -(A * B) ≤ a * b ∧ a * b ≤ A * B := by
  have h : (a * b).natAbs ≤ (A * B).natAbs := by
    rw [Int.natAbs_mul, Int.natAbs_mul]
    exact Nat.mul_le_mul (by omega) (by omega)
  have h2 : 0 ≤ A * B := Int.mul_nonneg (by omega) (by omega)
  omega
theorem told_in {q : Int} (h : -1073741824 ≤ q ∧ q ≤ 1073741824) : told q = (q, true) := by
  unfold told
  rw [(numIn_iff q).2 h]; rfl
theorem told_snd (q : Int) : (told q).2 = numIn q := by
  unfold told
  cases numIn q <;> rfl
theorem numRounded_neg (a : Int) {b : Int} (hb : b < 0) (hb' : -9223372036854775808 < b) (h : -9223372036854775808 < a ∧ a ≤ 9223372036854775807) (up : Bool) : numRounded a b up = numRounded (-a) (-b) up := by
  have h1 := (numFloor_spec a (Int.ne_of_lt hb) h).2 hb
  have h2 := (numFloor_spec (-a) (b := -b) (by omega) (by omega)).1 (by omega)
  have h3 : numFloor a b = numFloor (-a) (-b) := by rw [h1, h2]
  have h4 : (a.tmod b != 0) = ((-a).tmod (-b) != 0) := by
    rw [Int.tmod_neg, Int.neg_tmod]
    by_cases hz : a.tmod b = 0
    · rw [hz]; rfl
    · have e1 : (a.tmod b != 0) = true := by simpa using hz
      have e2 : (-(a.tmod b) != 0) = true := by simpa using hz
      rw [e1, e2]
  unfold numRounded numRounded_e0
  rw [h3, h4]
theorem numMul_spec {a b : Int} (ha : -1073741824 ≤ a ∧ a ≤ 1073741824) (hb : -1073741824 ≤ b ∧ b ≤ 1073741824) (up : Bool) : numMul a b up = told (rq (a * b) 65536 up) := by
  have h := mul_bound ha hb
  unfold numMul
  rw [(numIn_iff a).2 ha, (numIn_iff b).2 hb, w64_of (by omega) (by omega), numRounded_pos (a * b) (b := 65536) (by omega) (by omega)]
  rfl
def dq (a b : Int) (up : Bool) : Int := rq (bif decide (b < 0) then -(a * 65536) else a * 65536) (bif decide (b < 0) then -b else b) up
theorem numDiv_spec {a b : Int} (ha : -1073741824 ≤ a ∧ a ≤ 1073741824) (hb : -1073741824 ≤ b ∧ b ≤ 1073741824) (h0 : b ≠ 0) (up : Bool) : numDiv a b up = told (dq a b up) := by
  have h0' : (b == 0) = false := by simpa using h0
  unfold numDiv dq
  rw [(numIn_iff a).2 ha, (numIn_iff b).2 hb, w64_of (by omega) (by omega), h0']
  simp only [cond_true, cond_false]
  by_cases hn : b < 0
  · rw [numRounded_neg _ hn (by omega) (by omega), numRounded_pos (-(a * 65536)) (b := -b) (by omega) (by omega), decide_eq_true hn]
    rfl
  · rw [numRounded_pos (a * 65536) (b := b) (by omega) (by omega), decide_eq_false hn]
    rfl
theorem floor_mul (a : Int) {b : Int} (hb : b ≠ 0) (h : -4611686018427387904 ≤ a ∧ a ≤ 4611686018427387904) (hb' : -4611686018427387904 ≤ b ∧ b ≤ 4611686018427387904) :
    (w64 (numFloor a b * b) != a) = (a.tmod b != 0) := by
  have hs := numFloor_spec a hb (by omega)
  have key : ∀ q r : Int, q * b + r = a → (r = 0 ↔ a.tmod b = 0) → r.natAbs < b.natAbs → numFloor a b = q → (w64 (numFloor a b * b) != a) = (a.tmod b != 0) := by
    intro q r h1 h2 h3 h4
    have e : numFloor a b * b = a - r := by rw [h4]; omega
    rw [e, w64_of (by omega) (by omega)]
    by_cases hr : r = 0
    · rw [h2.1 hr, hr]; simp
    · have h5 : ¬ a.tmod b = 0 := fun e => hr (h2.2 e)
      have e1 : (a.tmod b != 0) = true := by simpa using h5
      rw [e1]
      simp only [bne_iff_ne, ne_eq]
      omega
  by_cases hp : 0 < b
  · have h1 := Int.mul_ediv_add_emod a b
    have h2 := Int.emod_nonneg a (Int.ne_of_gt hp)
    have h3 := Int.emod_lt_of_pos a hp
    exact key (a / b) (a % b) (by rw [Int.mul_comm]; omega) (tmod_zero_iff a b).symm (by omega) (hs.1 hp)
  · have hn : b < 0 := by omega
    have h1 := Int.mul_ediv_add_emod (-a) (-b)
    have h2 := Int.emod_nonneg (-a) (b := -b) (by omega)
    have h3 := Int.emod_lt_of_pos (-a) (b := -b) (by omega)
    refine key ((-a) / (-b)) (-((-a) % (-b))) (by rw [Int.neg_mul] at h1; rw [Int.mul_comm]; omega) ?_ (by omega) (hs.2 hn)
    have h4 := tmod_zero_iff (-a) (-b)
    rw [Int.tmod_neg, Int.neg_tmod] at h4
    omega
theorem rTold_eq (n : Int) : rTold n = told n := rfl
theorem rCeil_eq (a : Int) {b : Int} (hb : b ≠ 0) (h : -4611686018427387904 ≤ a ∧ a ≤ 4611686018427387904) (hb' : -4611686018427387904 ≤ b ∧ b ≤ 4611686018427387904) (up : Bool) : rCeil a b = numRounded_e0 a b up := by
  unfold rCeil rCeil_e0 numRounded_e0
  rw [rFloor_eq, floor_mul a hb h hb']
theorem rounded_told (a b : Int) (up : Bool) : numRounded a b up = told (bif up then numRounded_e0 a b up else numFloor a b) := by
  unfold numRounded told
  cases up <;> rfl
theorem rMul_eq (a b : Int) (up : Bool) : rMul a b up = numMul a b up := by
  unfold rMul numMul
  simp only [rIn_eq]
  cases ha : numIn a
  · rfl
  · cases hb : numIn b
    · rfl
    · have h := mul_bound ((numIn_iff a).1 ha) ((numIn_iff b).1 hb)
      simp only [cond_true, rTold_eq, rFloor_eq, w64_of (n := a * b) (by omega) (by omega), rounded_told]
      rw [rCeil_eq (a * b) (b := 65536) (by omega) (by omega) (by omega) up]
      cases up <;> rfl
theorem rDiv_eq (a b : Int) (up : Bool) : rDiv a b up = numDiv a b up := by
  unfold rDiv numDiv
  simp only [rIn_eq]
  cases ha : numIn a
  · rfl
  · cases hb : numIn b
    · rfl
    · cases h0 : b == 0
      · have ha := (numIn_iff a).1 ha
        have hb := (numIn_iff b).1 hb
        have h0' : b ≠ 0 := by simpa using h0
        simp only [cond_true, cond_false, rTold_eq, rFloor_eq, w64_of (n := a * 65536) (by omega) (by omega), rounded_told]
        rw [rCeil_eq (a * 65536) h0' (by omega) (by omega) up]
        cases up <;> rfl
      · rfl
def IsRoot (n s : Int) : Prop := 0 ≤ s ∧ s * s ≤ n ∧ n < (s + 1) * (s + 1)
theorem isRoot_unique {n s t : Int} (h : IsRoot n s) (k : IsRoot n t) : s = t := by
  obtain ⟨h1, h2, h3⟩ := h
  obtain ⟨k1, k2, k3⟩ := k
  refine Decidable.byContradiction fun hne => ?_
  rcases (by omega : s + 1 ≤ t ∨ t + 1 ≤ s) with h | h
  · have := Int.mul_le_mul h h (by omega) (by omega)
    omega
  · have := Int.mul_le_mul h h (by omega) (by omega)
    omega
theorem orI_add {r : Int} {j : Nat} (h0 : 0 ≤ r) (h1 : r < 4611686018427387904) (hj : j < 62) (hd : (2 : Int) ^ (j + 1) ∣ r) : orI r (2 ^ j) = r + 2 ^ j := by
  obtain ⟨q, rfl⟩ := hd
  have hp : (0 : Int) < 2 ^ (j + 1) := Int.pow_pos (by omega)
  have hq : 0 ≤ q := by
    refine Decidable.byContradiction fun hc => ?_
    have : (2 : Int) ^ (j + 1) * q ≤ 2 ^ (j + 1) * (-1) := Int.mul_le_mul_of_nonneg_left (by omega) (by omega)
    omega
  obtain ⟨k, rfl⟩ := Int.eq_ofNat_of_zero_le hq
  have e1 : ((2 : Int) ^ (j + 1) * (k : Int)) = ((2 ^ (j + 1) * k : Nat) : Int) := by push_cast; rfl
  have e2 : ((2 : Int) ^ j) = ((2 ^ j : Nat) : Int) := by push_cast; rfl
  have hj2 : (2 : Nat) ^ j < 2 ^ 62 := Nat.pow_lt_pow_right (by omega) hj
  have hlt : (2 : Nat) ^ j < 2 ^ (j + 1) := Nat.pow_lt_pow_right (by omega) (by omega)
  rw [e1] at h1
  have h1' : 2 ^ (j + 1) * k < 4611686018427387904 := by omega
  unfold orI
  rw [e1, e2, BitVec.ofInt_natCast, BitVec.ofInt_natCast, BitVec.toNat_or, BitVec.toNat_ofNat, BitVec.toNat_ofNat, Nat.mod_eq_of_lt (by omega), Nat.mod_eq_of_lt (by omega), ← Nat.two_pow_add_eq_or_of_lt hlt]
  rw [w64_of (by omega) (by omega)]
  push_cast
  rfl
theorem pow_min (j : Nat) (hj : j < 64) : w64 (1 * 2 ^ (min (Int.toNat (j : Int)) 64)) = w64 (2 ^ j) := by
  rw [Int.one_mul, Int.toNat_natCast, Nat.min_eq_left (by omega)]
theorem numRootLoop_spec (n : Int) : ∀ (j : Nat) (r : Int), j ≤ 30 → 0 ≤ r → r + 2 ^ j ≤ 2 ^ 30 → (2 : Int) ^ j ∣ r → r * r ≤ n → n < (r + 2 ^ j) * (r + 2 ^ j) → IsRoot n (numRootLoop n j r) := by
  intro j
  induction j with
  | zero =>
    intro r hj h0 h1 hd h2 h3
    show IsRoot n r
    exact ⟨h0, h2, by simpa using h3⟩
  | succ j ih =>
    intro r hj h0 h1 hd h2 h3
    have hp : (0 : Int) < 2 ^ j := Int.pow_pos (by omega)
    have hs : (2 : Int) ^ (j + 1) = 2 ^ j + 2 ^ j := by rw [Int.pow_succ]; omega
    have hd' : (2 : Int) ^ j ∣ r := Int.dvd_trans ⟨2, Int.pow_succ ..⟩ hd
    have hk : (2 : Int) ^ 30 = 1073741824 := by decide
    have e : orI r (w64 (1 * 2 ^ (min (Int.toNat (j : Int)) 64))) = r + 2 ^ j := by
      rw [pow_min j (by omega), w64_of (by omega) (by omega)]
      exact orI_add h0 (by omega) (by omega) hd
    have hm := mul_bound (a := r + 2 ^ j) (b := r + 2 ^ j) (A := 1073741824) (B := 1073741824) (by omega) (by omega)
    rw [numRootLoop, e, w64_of (by omega) (by omega)]
    by_cases hc : (r + 2 ^ j) * (r + 2 ^ j) ≤ n
    · rw [decide_eq_true hc]
      refine ih (r + 2 ^ j) (by omega) (by omega) (by omega) (Int.dvd_add hd' (Int.dvd_refl _)) hc ?_
      rw [Int.add_assoc, ← hs]; exact h3
    · rw [decide_eq_false hc]
      exact ih r (by omega) h0 (by omega) hd' h2 (by omega)
theorem rRootLoop_spec (n : Int) : ∀ (j : Nat) (r : Int), j ≤ 30 → 0 ≤ r → r + 2 ^ j ≤ 2 ^ 30 → r * r ≤ n → n < (r + 2 ^ j) * (r + 2 ^ j) → IsRoot n (rRootLoop n j r) := by
  intro j
  induction j with
  | zero =>
    intro r hj h0 h1 h2 h3
    show IsRoot n r
    exact ⟨h0, h2, by simpa using h3⟩
  | succ j ih =>
    intro r hj h0 h1 h2 h3
    have hp : (0 : Int) < 2 ^ j := Int.pow_pos (by omega)
    have hs : (2 : Int) ^ (j + 1) = 2 ^ j + 2 ^ j := by rw [Int.pow_succ]; omega
    have hk : (2 : Int) ^ 30 = 1073741824 := by decide
    have e0 : IntKind.u64.wrap (j : Int) = (j : Int) := by rw [IntKind.wrap_u64]; omega
    have e : w64 (r + w64 (1 * 2 ^ (min (Int.toNat (IntKind.u64.wrap (j : Int))) 64))) = r + 2 ^ j := by
      rw [e0, pow_min j (by omega), w64_of (n := 2 ^ j) (by omega) (by omega), w64_of (by omega) (by omega)]
    have hm := mul_bound (a := r + 2 ^ j) (b := r + 2 ^ j) (A := 1073741824) (B := 1073741824) (by omega) (by omega)
    rw [rRootLoop, e, w64_of (n := (r + 2 ^ j) * _) (by omega) (by omega)]
    by_cases hc : (r + 2 ^ j) * (r + 2 ^ j) ≤ n
    · rw [decide_eq_true hc]
      refine ih (r + 2 ^ j) (by omega) (by omega) (by omega) hc ?_
      rw [Int.add_assoc, ← hs]; exact h3
    · rw [decide_eq_false hc]
      exact ih r (by omega) h0 (by omega) h2 (by omega)
def rootf (a : Int) : Int := numRootLoop (a * 65536) 25 0
def rootc (a : Int) : Int := if rootf a * rootf a < a * 65536 then rootf a + 1 else rootf a
theorem rootf_is {a : Int} (h0 : 0 ≤ a) (h1 : a ≤ 1073741824) : IsRoot (a * 65536) (rootf a) :=
  numRootLoop_spec _ 25 0 (by omega) (by omega) (by decide) ⟨0, rfl⟩ (by omega) (by
    have : ((0 : Int) + 2 ^ 25) * (0 + 2 ^ 25) = 1125899906842624 := by decide
    omega)
theorem root_lt {n s B : Int} (h : s * s ≤ n) (hn : n < B * B) (hs : 0 ≤ s) (hB : 0 ≤ B) : s < B := by
  refine Decidable.byContradiction fun hc => ?_
  have := Int.mul_le_mul (show B ≤ s by omega) (show B ≤ s by omega) hB hs
  omega
theorem rootf_le {a : Int} (h0 : 0 ≤ a) (h1 : a ≤ 1073741824) : 0 ≤ rootf a ∧ rootf a ≤ 8388608 := by
  obtain ⟨k1, k2, k3⟩ := rootf_is h0 h1
  have := root_lt (B := 8388609) k2 (by omega) k1 (by omega)
  omega
theorem numRoot_spec {a : Int} (h0 : 0 ≤ a) (h1 : a ≤ 1073741824) (up : Bool) : numRoot a up = (bif up then rootc a else rootf a, true) := by
  have hr := rootf_le h0 h1
  have hm := mul_bound (a := rootf a) (b := rootf a) (A := 8388608) (B := 8388608) (by omega) (by omega)
  have e : numRootLoop (a * 65536) 25 0 = rootf a := rfl
  unfold numRoot numRoot_e0
  rw [decide_eq_false (by omega), (numIn_iff a).2 (by omega), w64_of (n := a * 65536) (by omega) (by omega), e, w64_of (n := rootf a * rootf a) (by omega) (by omega), w64_of (n := rootf a + 1) (by omega) (by omega)]
  unfold rootc
  cases up
  · rfl
  · simp only [cond_false, cond_true, Bool.cond_decide]
theorem numRoot_out {a : Int} (h : ¬ (0 ≤ a ∧ a ≤ 1073741824)) (up : Bool) : numRoot a up = (0, false) := by
  unfold numRoot
  by_cases h0 : a < 0
  · rw [decide_eq_true h0]; rfl
  · rw [decide_eq_false h0]
    cases hi : numIn a
    · rfl
    · have := (numIn_iff a).1 hi
      omega
theorem rRoot_eq (a : Int) (up : Bool) : rRoot a up = numRoot a up := by
  by_cases h : 0 ≤ a ∧ a ≤ 1073741824
  · rw [numRoot_spec h.1 h.2]
    have hs : IsRoot (a * 65536) (rRootLoop (a * 65536) 24 0) := rRootLoop_spec _ 24 0 (by omega) (by omega) (by decide) (by omega) (by
      have : ((0 : Int) + 2 ^ 24) * (0 + 2 ^ 24) = 281474976710656 := by decide
      omega)
    have e := isRoot_unique hs (rootf_is h.1 h.2)
    have hr := rootf_le h.1 h.2
    have hm := mul_bound (a := rootf a) (b := rootf a) (A := 8388608) (B := 8388608) (by omega) (by omega)
    unfold rRoot rRoot_e0
    rw [decide_eq_false (by omega), rIn_eq, (numIn_iff a).2 (by omega), w64_of (n := a * 65536) (by omega) (by omega), e, w64_of (n := rootf a * rootf a) (by omega) (by omega), w64_of (n := rootf a + 1) (by omega) (by omega)]
    unfold rootc
    cases up
    · simp only [cond_false, cond_true, rTold_eq]
      rw [told_in (by omega)]
    · simp only [cond_false, cond_true, rTold_eq]
      have h4 := (rootf_is h.1 h.2).2.1
      by_cases hc : rootf a * rootf a = a * 65536
      · rw [hc]
        simp only [bne_self_eq_false, cond_false]
        rw [told_in (by omega), if_neg (by omega)]
      · have : (rootf a * rootf a != a * 65536) = true := by simpa using hc
        rw [this, if_pos (by omega)]
        simp only [cond_true]
        rw [told_in (by omega)]
  · rw [numRoot_out h]
    unfold rRoot
    rw [rIn_eq]
    cases hi : numIn a
    · rfl
    · have := (numIn_iff a).1 hi
      rw [decide_eq_true (by omega)]
      rfl
end Go.Proofs.Ythngkopcadlciaa
namespace Go.Proofs.Ythngkopcadlciaa
open Go.RowKit
attribute [local irreducible] AC AR DWalk
def rRight (a : Iv) : Bool := (bif a.no then false else (bif rIn a.lo then (bif rIn a.hi then decide (a.lo ≤ a.hi) else false) else false))
set_option maxRecDepth 100000 in
theorem c_rRight (a : Iv) : Gets Try.prog 40 #[.agg #[.int .i64 a.lo, .int .i64 a.hi, .bool a.no]] ((fun (r : Bool) => (.bool r : Value)) (rRight a)) := by
 refine gets_fin Try.func40 rfl rfl rfl (aQ (aL (ao 1 rfl rfl (st_box (v := .agg #[.int .i64 a.lo, .int .i64 a.hi, .bool a.no]) (cs := [.int .i64 a.lo, .int .i64 a.hi, .bool a.no]) rfl rfl rfl fun g0 => (aA 2 (.bool false) rfl rfl (aN (aQ (aL (aF 3 fa26_2 rfl rfl (aD 4 (.bool a.no) cell4 0 rfl rfl rfl rfl (ao 5 rfl rfl (st_un (v := .bool (!a.no)) rfl rfl (un_not rfl) (aM 6 (.bool (!a.no)) rfl rfl ?_)))))))))))))
 refine bool_split (a.no) (fun h1 => ?_) (fun h1 => ?_)
 ·refine aK 7 (by show ((!a.no) == true) = false; rw [h1]; rfl) rfl (aK 8 (by show ((!a.no) == true) = false; rw [h1]; rfl) rfl (aK 9 (by show ((!a.no) == true) = false; rw [h1]; rfl) rfl (ao 10 rfl rfl (st_pkf' (b := !a.no) (v := .bool false) (by rw [h1]; rfl) rfl rfl rfl (aM 11 (.bool false) rfl rfl (aK 12 rfl rfl (aK 13 rfl rfl (aK 14 rfl rfl (ao 15 rfl rfl (st_pkf (v := .bool false) rfl rfl rfl (aM 16 (.bool false) rfl rfl (aK 17 rfl rfl (aK 18 rfl rfl (aK 19 rfl rfl (aK 20 rfl rfl (aK 21 rfl rfl (ao 22 rfl rfl (st_pkf (v := .bool false) rfl rfl rfl (aA 2 (.bool false) rfl rfl (aN (ac_ret ?_)))))))))))))))))))))
  exact fin_eq (v := .bool false) (by show _ = (fun (r : Bool) => (.bool r : Value)) (rRight a); rw [rRight, h1] <;> rfl) (fin_ret (res_tmp rfl rfl))
 ·refine ar_gd (d := (some 7)) (by show ((!a.no) == true) = true; rw [h1]; rfl) rfl (st_fa rfl fa26_0 rfl (ar_gd (d := (some 8)) (by show ((!a.no) == true) = true; rw [h1]; rfl) rfl (st_ldc (v := .int .i64 a.lo) cell3 0 rfl rfl rfl rfl rfl (ar_gd (d := (some 9)) (by show ((!a.no) == true) = true; rw [h1]; rfl) rfl (st_cf (c_rIn a.lo) Try.func92 rfl (by decide) rfl rfl rfl (ao 10 rfl rfl (st_pkt' (b := !a.no) (v := .bool (rIn a.lo)) (by rw [h1]; rfl) rfl rfl rfl (aM 11 (.bool (rIn a.lo)) rfl rfl ?_))))))))
  refine bool_split (rIn a.lo) (fun h2 => ?_) (fun h2 => ?_)
  ·refine ar_gd (d := (some 12)) (by show ((rIn a.lo) == true) = true; rw [h2]; rfl) rfl (st_fa rfl fa26_1 rfl (ar_gd (d := (some 13)) (by show ((rIn a.lo) == true) = true; rw [h2]; rfl) rfl (st_ldc (v := .int .i64 a.hi) cell3 0 rfl rfl rfl rfl rfl (ar_gd (d := (some 14)) (by show ((rIn a.lo) == true) = true; rw [h2]; rfl) rfl (st_cf (c_rIn a.hi) Try.func92 rfl (by decide) rfl rfl rfl (ao 15 rfl rfl (st_pkt' (b := rIn a.lo) (v := .bool (rIn a.hi)) h2 rfl rfl rfl (aM 16 (.bool (rIn a.hi)) rfl rfl ?_))))))))
   refine bool_split (rIn a.hi) (fun h3 => ?_) (fun h3 => ?_)
   ·refine ar_gd (d := (some 17)) (by show ((rIn a.hi) == true) = true; rw [h3]; rfl) rfl (st_fa rfl fa26_0 rfl (ar_gd (d := (some 18)) (by show ((rIn a.hi) == true) = true; rw [h3]; rfl) rfl (st_ldc (v := .int .i64 a.lo) cell3 0 rfl rfl rfl rfl rfl (ar_gd (d := (some 19)) (by show ((rIn a.hi) == true) = true; rw [h3]; rfl) rfl (st_fa rfl fa26_1 rfl (ar_gd (d := (some 20)) (by show ((rIn a.hi) == true) = true; rw [h3]; rfl) rfl (st_ldc (v := .int .i64 a.hi) cell3 0 rfl rfl rfl rfl rfl (ar_gd (d := (some 21)) (by show ((rIn a.hi) == true) = true; rw [h3]; rfl) rfl (st_bi (r := .bool (decide (a.lo ≤ a.hi))) rfl rfl rfl (bi_leq rfl) ?_)))))))))
    refine ao 22 rfl rfl (st_pkt' (b := rIn a.hi) (v := .bool (decide (a.lo ≤ a.hi))) h3 rfl rfl rfl (aA 2 (.bool (decide (a.lo ≤ a.hi))) rfl rfl (aN (ac_ret (fin_eq (v := .bool (decide (a.lo ≤ a.hi))) (by show _ = (fun (r : Bool) => (.bool r : Value)) (rRight a); rw [rRight, h3, h2, h1] <;> rfl) (fin_ret (res_tmp rfl rfl)))))))
   ·refine aK 17 (by show ((rIn a.hi) == true) = false; rw [h3]; rfl) rfl (aK 18 (by show ((rIn a.hi) == true) = false; rw [h3]; rfl) rfl (aK 19 (by show ((rIn a.hi) == true) = false; rw [h3]; rfl) rfl (aK 20 (by show ((rIn a.hi) == true) = false; rw [h3]; rfl) rfl (aK 21 (by show ((rIn a.hi) == true) = false; rw [h3]; rfl) rfl (ao 22 rfl rfl (st_pkf' (b := rIn a.hi) (v := .bool false) h3 rfl rfl rfl (aA 2 (.bool false) rfl rfl (aN (ac_ret (fin_eq (v := .bool false) (by show _ = (fun (r : Bool) => (.bool r : Value)) (rRight a); rw [rRight, h3, h2, h1] <;> rfl) (fin_ret (res_tmp rfl rfl))))))))))))
  ·refine aK 12 (by show ((rIn a.lo) == true) = false; rw [h2]; rfl) rfl (aK 13 (by show ((rIn a.lo) == true) = false; rw [h2]; rfl) rfl (aK 14 (by show ((rIn a.lo) == true) = false; rw [h2]; rfl) rfl (ao 15 rfl rfl (st_pkf' (b := rIn a.lo) (v := .bool false) h2 rfl rfl rfl (aM 16 (.bool false) rfl rfl (aK 17 rfl rfl (aK 18 rfl rfl (aK 19 rfl rfl (aK 20 rfl rfl (aK 21 rfl rfl (ao 22 rfl rfl (st_pkf (v := .bool false) rfl rfl rfl (aA 2 (.bool false) rfl rfl (aN (ac_ret (fin_eq (v := .bool false) (by show _ = (fun (r : Bool) => (.bool r : Value)) (rRight a); rw [rRight, h2, h1] <;> rfl) (fin_ret (res_tmp rfl rfl))))))))))))))))))
def rNone  : Iv := (⟨0, 0, true⟩ : Iv)
set_option maxRecDepth 100000 in
theorem c_rNone  : Gets Try.prog 111 #[] (Iv.v rNone) := by
 refine gets_fin Try.func111 rfl rfl rfl (aQ (aL (ao 0 rfl rfl (st_new zero26 rfl fun g0 => (aN (aQ (aL (ao 1 rfl rfl (st_bd (us := [(2, .bool true)]) (v := .agg #[.int .i64 0, .int .i64 0, .bool true]) rfl rfl (bd26_2 _) (aS [.int .i64 0, .int .i64 0, .bool true] agg26 0 rfl rfl rfl rfl rfl rfl (aN (ac_ret (fin_eq (v := .agg #[.int .i64 0, .int .i64 0, .bool true]) rfl (fin_ret (res_c (vs := [.int .i64 0, .int .i64 0, .bool true]) agg26 0 rfl rfl rfl rfl rfl rfl)))))))))))))))
def rOf (l : Int) (h : Int) : Iv := (bif rRight (⟨l, h, false⟩ : Iv) then (⟨l, h, false⟩ : Iv) else rNone)
set_option maxRecDepth 100000 in
theorem c_rOf (l : Int) (h : Int) : Gets Try.prog 112 #[.int .i64 l, .int .i64 h] (Iv.v (rOf l h)) := by
 refine gets_fin Try.func112 rfl rfl rfl (aQ (aL (ao 4 rfl rfl (st_new zero26 rfl fun g0 => (aN (aQ (aL (aM 6 (.int .i64 l) rfl rfl (aM 7 (.int .i64 h) rfl rfl (ao 8 rfl rfl (st_bd (us := [(0, .int .i64 l), (1, .int .i64 h)]) (v := .agg #[.int .i64 l, .int .i64 h, .bool false]) rfl rfl (bd26_0_1 _ _) (ao 5 rfl rfl (st_new zero26 rfl fun g1 => (aS [.int .i64 l, .int .i64 h, .bool false] agg26 0 rfl rfl rfl rfl rfl rfl (aN (aQ (aQ (aL (aG 9 [.int .i64 l, .int .i64 h, .bool false] agg26 0 rfl rfl rfl rfl rfl (aC 10 (c_rRight (⟨l, h, false⟩ : Iv)) Try.func40 ⟨rfl, by decide⟩ rfl rfl ?_))))))))))))))))))))
 refine ao 11 rfl rfl (st_un (v := .bool (!(rRight (⟨l, h, false⟩ : Iv)))) rfl rfl (un_not rfl) (aN ?_))
 refine bool_split (rRight (⟨l, h, false⟩ : Iv)) (fun h1 => ?_) (fun h1 => ?_)
 ·refine ac_else' (b := !(rRight (⟨l, h, false⟩ : Iv))) (by rw [h1]; rfl) rfl (ac_skip (aQ (aL (aG 13 [.int .i64 l, .int .i64 h, .bool false] agg26 0 rfl rfl rfl rfl rfl (aS [.int .i64 l, .int .i64 h, .bool false] agg26 1 rfl rfl rfl rfl rfl rfl (aN (ac_ret (fin_eq (v := .agg #[.int .i64 l, .int .i64 h, .bool false]) (by show _ = Iv.v (rOf l h); rw [rOf, h1] <;> rfl) (fin_ret (res_c (vs := [.int .i64 l, .int .i64 h, .bool false]) agg26 1 rfl rfl rfl rfl rfl rfl))))))))))
 ·refine ac_then' (b := !(rRight (⟨l, h, false⟩ : Iv))) (by rw [h1]; rfl) rfl (aQ (aL (aC 12 c_rNone Try.func111 ⟨rfl, by decide⟩ rfl rfl (aS [.int .i64 rNone.lo, .int .i64 rNone.hi, .bool rNone.no] agg26 1 rfl rfl rfl rfl rfl rfl (aN (ac_ret (fin_eq (v := .agg #[.int .i64 rNone.lo, .int .i64 rNone.hi, .bool rNone.no]) (by show _ = Iv.v (rOf l h); rw [rOf, h1] <;> rfl) (fin_ret (res_c (vs := [.int .i64 rNone.lo, .int .i64 rNone.hi, .bool rNone.no]) agg26 1 rfl rfl rfl rfl rfl rfl)))))))))
def rPoint (n : Int) : Iv := (rOf n n)
set_option maxRecDepth 100000 in
theorem c_rPoint (n : Int) : Gets Try.prog 80 #[.int .i64 n] (Iv.v (rPoint n)) := by
 refine gets_fin Try.func80 rfl rfl rfl (aQ (aL (ao 2 rfl rfl (st_new zero26 rfl fun g0 => (aN (aQ (aL (aM 3 (.int .i64 n) rfl rfl (aM 4 (.int .i64 n) rfl rfl (aC 5 (c_rOf n n) Try.func112 ⟨rfl, by decide⟩ rfl rfl (aS [.int .i64 ((rOf n n).lo), .int .i64 ((rOf n n).hi), .bool ((rOf n n).no)] agg26 0 rfl rfl rfl rfl rfl rfl (aN (ac_ret (fin_eq (v := .agg #[.int .i64 ((rOf n n).lo), .int .i64 ((rOf n n).hi), .bool ((rOf n n).no)]) rfl (fin_ret (res_c (vs := [.int .i64 ((rOf n n).lo), .int .i64 ((rOf n n).hi), .bool ((rOf n n).no)]) agg26 0 rfl rfl rfl rfl rfl rfl))))))))))))))))
def rWhole (n : Int) : Iv := (bif rIn n then (rPoint (w64 (n * 65536))) else rNone)
set_option maxRecDepth 100000 in
theorem c_rWhole (n : Int) : Gets Try.prog 88 #[.int .i64 n] (Iv.v (rWhole n)) := by
 refine gets_fin Try.func88 rfl rfl rfl (aQ (aL (ao 2 rfl rfl (st_new zero26 rfl fun g0 => (aN (aQ (aQ (aL (aM 3 (.int .i64 n) rfl rfl (aC 4 (c_rIn n) Try.func92 ⟨rfl, by decide⟩ rfl rfl (ao 5 rfl rfl (st_un (v := .bool (!(rIn n))) rfl rfl (un_not rfl) (aN ?_)))))))))))))
 refine bool_split (rIn n) (fun h1 => ?_) (fun h1 => ?_)
 ·refine ac_else' (b := !(rIn n)) (by rw [h1]; rfl) rfl (ac_skip (aQ (aL (aM 7 (.int .i64 n) rfl rfl (aB 8 (.int .i64 (w64 (n * 65536))) rfl rfl rfl (bi_mul rfl) (aC 9 (c_rPoint (w64 (n * 65536))) Try.func80 ⟨rfl, by decide⟩ rfl rfl (aS [.int .i64 ((rPoint (w64 (n * 65536))).lo), .int .i64 ((rPoint (w64 (n * 65536))).hi), .bool ((rPoint (w64 (n * 65536))).no)] agg26 0 rfl rfl rfl rfl rfl rfl (aN (ac_ret ?_)))))))))
  exact fin_eq (v := .agg #[.int .i64 ((rPoint (w64 (n * 65536))).lo), .int .i64 ((rPoint (w64 (n * 65536))).hi), .bool ((rPoint (w64 (n * 65536))).no)]) (by show _ = Iv.v (rWhole n); rw [rWhole, h1] <;> rfl) (fin_ret (res_c (vs := [.int .i64 ((rPoint (w64 (n * 65536))).lo), .int .i64 ((rPoint (w64 (n * 65536))).hi), .bool ((rPoint (w64 (n * 65536))).no)]) agg26 0 rfl rfl rfl rfl rfl rfl))
 ·refine ac_then' (b := !(rIn n)) (by rw [h1]; rfl) rfl (aQ (aL (aC 6 c_rNone Try.func111 ⟨rfl, by decide⟩ rfl rfl (aS [.int .i64 rNone.lo, .int .i64 rNone.hi, .bool rNone.no] agg26 0 rfl rfl rfl rfl rfl rfl (aN (ac_ret (fin_eq (v := .agg #[.int .i64 rNone.lo, .int .i64 rNone.hi, .bool rNone.no]) (by show _ = Iv.v (rWhole n); rw [rWhole, h1] <;> rfl) (fin_ret (res_c (vs := [.int .i64 rNone.lo, .int .i64 rNone.hi, .bool rNone.no]) agg26 0 rfl rfl rfl rfl rfl rfl)))))))))
def rAdd (a : Iv) (b : Iv) : Iv := (bif rRight a then (bif rRight b then (rOf (w64 (a.lo + b.lo)) (w64 (a.hi + b.hi))) else rNone) else rNone)
set_option maxRecDepth 100000 in
theorem c_rAdd (a : Iv) (b : Iv) : Gets Try.prog 86 #[.agg #[.int .i64 a.lo, .int .i64 a.hi, .bool a.no], .agg #[.int .i64 b.lo, .int .i64 b.hi, .bool b.no]] (Iv.v (rAdd a b)) := by
 refine gets_fin Try.func86 rfl rfl rfl (aQ (aL (ao 2 rfl rfl (st_box (v := .agg #[.int .i64 a.lo, .int .i64 a.hi, .bool a.no]) (cs := [.int .i64 a.lo, .int .i64 a.hi, .bool a.no]) rfl rfl rfl fun g0 => (ao 3 rfl rfl (st_box (v := .agg #[.int .i64 b.lo, .int .i64 b.hi, .bool b.no]) (cs := [.int .i64 b.lo, .int .i64 b.hi, .bool b.no]) rfl rfl rfl fun g1 => (ao 4 rfl rfl (st_new zero26 rfl fun g2 => (aN (aQ (aQ (aL (aG 5 [.int .i64 a.lo, .int .i64 a.hi, .bool a.no] agg26 2 rfl rfl rfl rfl rfl (aC 6 (c_rRight a) Try.func40 ⟨rfl, by decide⟩ rfl rfl (ao 7 rfl rfl (st_un (v := .bool (!(rRight a))) rfl rfl (un_not rfl) (aM 8 (.bool (!(rRight a))) rfl rfl ?_)))))))))))))))))
 refine bool_split (rRight a) (fun h1 => ?_) (fun h1 => ?_)
 ·refine ar_gd (d := (some 9)) (by show ((!(rRight a)) == false) = true; rw [h1]; rfl) rfl (st_lda (vs := [.int .i64 b.lo, .int .i64 b.hi, .bool b.no]) agg26 1 rfl rfl rfl rfl rfl rfl (ar_gd (d := (some 10)) (by show ((!(rRight a)) == false) = true; rw [h1]; rfl) rfl (st_cf (c_rRight b) Try.func40 rfl (by decide) rfl rfl rfl (ar_gd (d := (some 11)) (by show ((!(rRight a)) == false) = true; rw [h1]; rfl) rfl (st_un (v := .bool (!(rRight b))) rfl rfl (un_not rfl) (ao 12 rfl rfl (st_pkf' (b := !(rRight a)) (v := .bool (!(rRight b))) (by rw [h1]; rfl) rfl rfl rfl (aN ?_))))))))
  refine bool_split (rRight b) (fun h2 => ?_) (fun h2 => ?_)
  ·refine ac_else' (b := !(rRight b)) (by rw [h2]; rfl) rfl (ac_skip (aQ (aL (aF 14 fa26_0 rfl rfl (aD 15 (.int .i64 a.lo) cell3 2 rfl rfl rfl rfl (aF 16 fa26_0 rfl rfl (aD 17 (.int .i64 b.lo) cell3 1 rfl rfl rfl rfl (aB 18 (.int .i64 (w64 (a.lo + b.lo))) rfl rfl rfl (bi_add rfl) (aF 19 fa26_1 rfl rfl (aD 20 (.int .i64 a.hi) cell3 2 rfl rfl rfl rfl (aF 21 fa26_1 rfl rfl (aD 22 (.int .i64 b.hi) cell3 1 rfl rfl rfl rfl (aB 23 (.int .i64 (w64 (a.hi + b.hi))) rfl rfl rfl (bi_add rfl) (aC 24 (c_rOf (w64 (a.lo + b.lo)) (w64 (a.hi + b.hi))) Try.func112 ⟨rfl, by decide⟩ rfl rfl ?_))))))))))))))
   refine aS [.int .i64 ((rOf (w64 (a.lo + b.lo)) (w64 (a.hi + b.hi))).lo), .int .i64 ((rOf (w64 (a.lo + b.lo)) (w64 (a.hi + b.hi))).hi), .bool ((rOf (w64 (a.lo + b.lo)) (w64 (a.hi + b.hi))).no)] agg26 0 rfl rfl rfl rfl rfl rfl (aN (ac_ret ?_))
   exact fin_eq (v := .agg #[.int .i64 ((rOf (w64 (a.lo + b.lo)) (w64 (a.hi + b.hi))).lo), .int .i64 ((rOf (w64 (a.lo + b.lo)) (w64 (a.hi + b.hi))).hi), .bool ((rOf (w64 (a.lo + b.lo)) (w64 (a.hi + b.hi))).no)]) (by show _ = Iv.v (rAdd a b); rw [rAdd, h2, h1] <;> rfl) (fin_ret (res_c (vs := [.int .i64 ((rOf (w64 (a.lo + b.lo)) (w64 (a.hi + b.hi))).lo), .int .i64 ((rOf (w64 (a.lo + b.lo)) (w64 (a.hi + b.hi))).hi), .bool ((rOf (w64 (a.lo + b.lo)) (w64 (a.hi + b.hi))).no)]) agg26 0 rfl rfl rfl rfl rfl rfl))
  ·refine ac_then' (b := !(rRight b)) (by rw [h2]; rfl) rfl (aQ (aL (aC 13 c_rNone Try.func111 ⟨rfl, by decide⟩ rfl rfl (aS [.int .i64 rNone.lo, .int .i64 rNone.hi, .bool rNone.no] agg26 0 rfl rfl rfl rfl rfl rfl (aN (ac_ret (fin_eq (v := .agg #[.int .i64 rNone.lo, .int .i64 rNone.hi, .bool rNone.no]) (by show _ = Iv.v (rAdd a b); rw [rAdd, h2, h1] <;> rfl) (fin_ret (res_c (vs := [.int .i64 rNone.lo, .int .i64 rNone.hi, .bool rNone.no]) agg26 0 rfl rfl rfl rfl rfl rfl)))))))))
 ·refine aK 9 (by show ((!(rRight a)) == false) = false; rw [h1]; rfl) rfl (aK 10 (by show ((!(rRight a)) == false) = false; rw [h1]; rfl) rfl (aK 11 (by show ((!(rRight a)) == false) = false; rw [h1]; rfl) rfl (ao 12 rfl rfl (st_pkt' (b := !(rRight a)) (v := .bool true) (by rw [h1]; rfl) rfl rfl rfl (aN (ac_then rfl (aQ (aL (aC 13 c_rNone Try.func111 ⟨rfl, by decide⟩ rfl rfl (aS [.int .i64 rNone.lo, .int .i64 rNone.hi, .bool rNone.no] agg26 0 rfl rfl rfl rfl rfl rfl (aN (ac_ret ?_))))))))))))
  exact fin_eq (v := .agg #[.int .i64 rNone.lo, .int .i64 rNone.hi, .bool rNone.no]) (by show _ = Iv.v (rAdd a b); rw [rAdd, h1] <;> rfl) (fin_ret (res_c (vs := [.int .i64 rNone.lo, .int .i64 rNone.hi, .bool rNone.no]) agg26 0 rfl rfl rfl rfl rfl rfl))
def rNeg (a : Iv) : Iv := (bif rRight a then (rOf (w64 (0 - a.hi)) (w64 (0 - a.lo))) else rNone)
set_option maxRecDepth 100000 in
theorem c_rNeg (a : Iv) : Gets Try.prog 96 #[.agg #[.int .i64 a.lo, .int .i64 a.hi, .bool a.no]] (Iv.v (rNeg a)) := by
 refine gets_fin Try.func96 rfl rfl rfl (aQ (aL (ao 1 rfl rfl (st_box (v := .agg #[.int .i64 a.lo, .int .i64 a.hi, .bool a.no]) (cs := [.int .i64 a.lo, .int .i64 a.hi, .bool a.no]) rfl rfl rfl fun g0 => (ao 2 rfl rfl (st_new zero26 rfl fun g1 => (aN (aQ (aQ (aL (aG 3 [.int .i64 a.lo, .int .i64 a.hi, .bool a.no] agg26 1 rfl rfl rfl rfl rfl (aC 4 (c_rRight a) Try.func40 ⟨rfl, by decide⟩ rfl rfl (ao 5 rfl rfl (st_un (v := .bool (!(rRight a))) rfl rfl (un_not rfl) (aN ?_)))))))))))))))
 refine bool_split (rRight a) (fun h1 => ?_) (fun h1 => ?_)
 ·refine ac_else' (b := !(rRight a)) (by rw [h1]; rfl) rfl (ac_skip (aQ (aL (aF 7 fa26_1 rfl rfl (aD 8 (.int .i64 a.hi) cell3 1 rfl rfl rfl rfl (ao 9 rfl rfl (st_un (v := .int .i64 (w64 (0 - a.hi))) rfl rfl (un_neg rfl) (aF 10 fa26_0 rfl rfl (aD 11 (.int .i64 a.lo) cell3 1 rfl rfl rfl rfl (ao 12 rfl rfl (st_un (v := .int .i64 (w64 (0 - a.lo))) rfl rfl (un_neg rfl) (aC 13 (c_rOf (w64 (0 - a.hi)) (w64 (0 - a.lo))) Try.func112 ⟨rfl, by decide⟩ rfl rfl (aS [.int .i64 ((rOf (w64 (0 - a.hi)) (w64 (0 - a.lo))).lo), .int .i64 ((rOf (w64 (0 - a.hi)) (w64 (0 - a.lo))).hi), .bool ((rOf (w64 (0 - a.hi)) (w64 (0 - a.lo))).no)] agg26 0 rfl rfl rfl rfl rfl rfl (aN (ac_ret ?_)))))))))))))))
  exact fin_eq (v := .agg #[.int .i64 ((rOf (w64 (0 - a.hi)) (w64 (0 - a.lo))).lo), .int .i64 ((rOf (w64 (0 - a.hi)) (w64 (0 - a.lo))).hi), .bool ((rOf (w64 (0 - a.hi)) (w64 (0 - a.lo))).no)]) (by show _ = Iv.v (rNeg a); rw [rNeg, h1] <;> rfl) (fin_ret (res_c (vs := [.int .i64 ((rOf (w64 (0 - a.hi)) (w64 (0 - a.lo))).lo), .int .i64 ((rOf (w64 (0 - a.hi)) (w64 (0 - a.lo))).hi), .bool ((rOf (w64 (0 - a.hi)) (w64 (0 - a.lo))).no)]) agg26 0 rfl rfl rfl rfl rfl rfl))
 ·refine ac_then' (b := !(rRight a)) (by rw [h1]; rfl) rfl (aQ (aL (aC 6 c_rNone Try.func111 ⟨rfl, by decide⟩ rfl rfl (aS [.int .i64 rNone.lo, .int .i64 rNone.hi, .bool rNone.no] agg26 0 rfl rfl rfl rfl rfl rfl (aN (ac_ret (fin_eq (v := .agg #[.int .i64 rNone.lo, .int .i64 rNone.hi, .bool rNone.no]) (by show _ = Iv.v (rNeg a); rw [rNeg, h1] <;> rfl) (fin_ret (res_c (vs := [.int .i64 rNone.lo, .int .i64 rNone.hi, .bool rNone.no]) agg26 0 rfl rfl rfl rfl rfl rfl)))))))))
def rSub (a : Iv) (b : Iv) : Iv := (bif rRight a then (bif rRight b then (rOf (w64 (a.lo - b.hi)) (w64 (a.hi - b.lo))) else rNone) else rNone)
set_option maxRecDepth 100000 in
theorem c_rSub (a : Iv) (b : Iv) : Gets Try.prog 82 #[.agg #[.int .i64 a.lo, .int .i64 a.hi, .bool a.no], .agg #[.int .i64 b.lo, .int .i64 b.hi, .bool b.no]] (Iv.v (rSub a b)) := by
 refine gets_fin Try.func82 rfl rfl rfl (aQ (aL (ao 2 rfl rfl (st_box (v := .agg #[.int .i64 a.lo, .int .i64 a.hi, .bool a.no]) (cs := [.int .i64 a.lo, .int .i64 a.hi, .bool a.no]) rfl rfl rfl fun g0 => (ao 3 rfl rfl (st_box (v := .agg #[.int .i64 b.lo, .int .i64 b.hi, .bool b.no]) (cs := [.int .i64 b.lo, .int .i64 b.hi, .bool b.no]) rfl rfl rfl fun g1 => (ao 4 rfl rfl (st_new zero26 rfl fun g2 => (aN (aQ (aQ (aL (aG 5 [.int .i64 a.lo, .int .i64 a.hi, .bool a.no] agg26 2 rfl rfl rfl rfl rfl (aC 6 (c_rRight a) Try.func40 ⟨rfl, by decide⟩ rfl rfl (ao 7 rfl rfl (st_un (v := .bool (!(rRight a))) rfl rfl (un_not rfl) (aM 8 (.bool (!(rRight a))) rfl rfl ?_)))))))))))))))))
 refine bool_split (rRight a) (fun h1 => ?_) (fun h1 => ?_)
 ·refine ar_gd (d := (some 9)) (by show ((!(rRight a)) == false) = true; rw [h1]; rfl) rfl (st_lda (vs := [.int .i64 b.lo, .int .i64 b.hi, .bool b.no]) agg26 1 rfl rfl rfl rfl rfl rfl (ar_gd (d := (some 10)) (by show ((!(rRight a)) == false) = true; rw [h1]; rfl) rfl (st_cf (c_rRight b) Try.func40 rfl (by decide) rfl rfl rfl (ar_gd (d := (some 11)) (by show ((!(rRight a)) == false) = true; rw [h1]; rfl) rfl (st_un (v := .bool (!(rRight b))) rfl rfl (un_not rfl) (ao 12 rfl rfl (st_pkf' (b := !(rRight a)) (v := .bool (!(rRight b))) (by rw [h1]; rfl) rfl rfl rfl (aN ?_))))))))
  refine bool_split (rRight b) (fun h2 => ?_) (fun h2 => ?_)
  ·refine ac_else' (b := !(rRight b)) (by rw [h2]; rfl) rfl (ac_skip (aQ (aL (aF 14 fa26_0 rfl rfl (aD 15 (.int .i64 a.lo) cell3 2 rfl rfl rfl rfl (aF 16 fa26_1 rfl rfl (aD 17 (.int .i64 b.hi) cell3 1 rfl rfl rfl rfl (aB 18 (.int .i64 (w64 (a.lo - b.hi))) rfl rfl rfl (bi_sub rfl) (aF 19 fa26_1 rfl rfl (aD 20 (.int .i64 a.hi) cell3 2 rfl rfl rfl rfl (aF 21 fa26_0 rfl rfl (aD 22 (.int .i64 b.lo) cell3 1 rfl rfl rfl rfl (aB 23 (.int .i64 (w64 (a.hi - b.lo))) rfl rfl rfl (bi_sub rfl) (aC 24 (c_rOf (w64 (a.lo - b.hi)) (w64 (a.hi - b.lo))) Try.func112 ⟨rfl, by decide⟩ rfl rfl ?_))))))))))))))
   refine aS [.int .i64 ((rOf (w64 (a.lo - b.hi)) (w64 (a.hi - b.lo))).lo), .int .i64 ((rOf (w64 (a.lo - b.hi)) (w64 (a.hi - b.lo))).hi), .bool ((rOf (w64 (a.lo - b.hi)) (w64 (a.hi - b.lo))).no)] agg26 0 rfl rfl rfl rfl rfl rfl (aN (ac_ret ?_))
   exact fin_eq (v := .agg #[.int .i64 ((rOf (w64 (a.lo - b.hi)) (w64 (a.hi - b.lo))).lo), .int .i64 ((rOf (w64 (a.lo - b.hi)) (w64 (a.hi - b.lo))).hi), .bool ((rOf (w64 (a.lo - b.hi)) (w64 (a.hi - b.lo))).no)]) (by show _ = Iv.v (rSub a b); rw [rSub, h2, h1] <;> rfl) (fin_ret (res_c (vs := [.int .i64 ((rOf (w64 (a.lo - b.hi)) (w64 (a.hi - b.lo))).lo), .int .i64 ((rOf (w64 (a.lo - b.hi)) (w64 (a.hi - b.lo))).hi), .bool ((rOf (w64 (a.lo - b.hi)) (w64 (a.hi - b.lo))).no)]) agg26 0 rfl rfl rfl rfl rfl rfl))
  ·refine ac_then' (b := !(rRight b)) (by rw [h2]; rfl) rfl (aQ (aL (aC 13 c_rNone Try.func111 ⟨rfl, by decide⟩ rfl rfl (aS [.int .i64 rNone.lo, .int .i64 rNone.hi, .bool rNone.no] agg26 0 rfl rfl rfl rfl rfl rfl (aN (ac_ret (fin_eq (v := .agg #[.int .i64 rNone.lo, .int .i64 rNone.hi, .bool rNone.no]) (by show _ = Iv.v (rSub a b); rw [rSub, h2, h1] <;> rfl) (fin_ret (res_c (vs := [.int .i64 rNone.lo, .int .i64 rNone.hi, .bool rNone.no]) agg26 0 rfl rfl rfl rfl rfl rfl)))))))))
 ·refine aK 9 (by show ((!(rRight a)) == false) = false; rw [h1]; rfl) rfl (aK 10 (by show ((!(rRight a)) == false) = false; rw [h1]; rfl) rfl (aK 11 (by show ((!(rRight a)) == false) = false; rw [h1]; rfl) rfl (ao 12 rfl rfl (st_pkt' (b := !(rRight a)) (v := .bool true) (by rw [h1]; rfl) rfl rfl rfl (aN (ac_then rfl (aQ (aL (aC 13 c_rNone Try.func111 ⟨rfl, by decide⟩ rfl rfl (aS [.int .i64 rNone.lo, .int .i64 rNone.hi, .bool rNone.no] agg26 0 rfl rfl rfl rfl rfl rfl (aN (ac_ret ?_))))))))))))
  exact fin_eq (v := .agg #[.int .i64 rNone.lo, .int .i64 rNone.hi, .bool rNone.no]) (by show _ = Iv.v (rSub a b); rw [rSub, h1] <;> rfl) (fin_ret (res_c (vs := [.int .i64 rNone.lo, .int .i64 rNone.hi, .bool rNone.no]) agg26 0 rfl rfl rfl rfl rfl rfl))
def rTimes_e0 (a : Iv) (k : Int) : Iv := (rOf (min (w64 (k * a.lo)) (w64 (k * a.hi))) (max (w64 (k * a.lo)) (w64 (k * a.hi))))
def rTimes (a : Iv) (k : Int) : Iv := (bif rRight a then (bif rIn k then (rTimes_e0 a k) else rNone) else rNone)
set_option maxRecDepth 100000 in
theorem c_rTimes (a : Iv) (k : Int) : Gets Try.prog 87 #[.agg #[.int .i64 a.lo, .int .i64 a.hi, .bool a.no], .int .i64 k] (Iv.v (rTimes a k)) := by
 refine gets_fin Try.func87 rfl rfl rfl (aQ (aL (ao 2 rfl rfl (st_box (v := .agg #[.int .i64 a.lo, .int .i64 a.hi, .bool a.no]) (cs := [.int .i64 a.lo, .int .i64 a.hi, .bool a.no]) rfl rfl rfl fun g0 => (ao 4 rfl rfl (st_new zero26 rfl fun g1 => (aN (aQ (aQ (aL (aG 5 [.int .i64 a.lo, .int .i64 a.hi, .bool a.no] agg26 1 rfl rfl rfl rfl rfl (aC 6 (c_rRight a) Try.func40 ⟨rfl, by decide⟩ rfl rfl (ao 7 rfl rfl (st_un (v := .bool (!(rRight a))) rfl rfl (un_not rfl) (aM 8 (.bool (!(rRight a))) rfl rfl ?_)))))))))))))))
 refine bool_split (rRight a) (fun h1 => ?_) (fun h1 => ?_)
 ·refine ar_gd (d := (some 9)) (by show ((!(rRight a)) == false) = true; rw [h1]; rfl) rfl (st_move (v := .int .i64 k) rfl rfl (ar_gd (d := (some 10)) (by show ((!(rRight a)) == false) = true; rw [h1]; rfl) rfl (st_cf (c_rIn k) Try.func92 rfl (by decide) rfl rfl rfl (ar_gd (d := (some 11)) (by show ((!(rRight a)) == false) = true; rw [h1]; rfl) rfl (st_un (v := .bool (!(rIn k))) rfl rfl (un_not rfl) (ao 12 rfl rfl (st_pkf' (b := !(rRight a)) (v := .bool (!(rIn k))) (by rw [h1]; rfl) rfl rfl rfl (aN ?_))))))))
  refine bool_split (rIn k) (fun h2 => ?_) (fun h2 => ?_)
  ·refine ac_else' (b := !(rIn k)) (by rw [h2]; rfl) rfl (ac_skip (aQ (aL (aM 14 (.int .i64 k) rfl rfl (aF 15 fa26_0 rfl rfl (aD 16 (.int .i64 a.lo) cell3 1 rfl rfl rfl rfl (aB 17 (.int .i64 (w64 (k * a.lo))) rfl rfl rfl (bi_mul rfl) (aM 18 (.int .i64 k) rfl rfl (aF 19 fa26_1 rfl rfl (aD 20 (.int .i64 a.hi) cell3 1 rfl rfl rfl rfl (aB 21 (.int .i64 (w64 (k * a.hi))) rfl rfl rfl (bi_mul rfl) (ao 22 rfl rfl (st_mn (x := (w64 (k * a.lo))) (y := (w64 (k * a.hi))) (c := (min (w64 (k * a.lo)) (w64 (k * a.hi)))) rfl rfl rfl (aM 23 (.int .i64 k) rfl rfl (aF 24 fa26_0 rfl rfl (aD 25 (.int .i64 a.lo) cell3 1 rfl rfl rfl rfl ?_))))))))))))))))
   refine aB 26 (.int .i64 (w64 (k * a.lo))) rfl rfl rfl (bi_mul rfl) (aM 27 (.int .i64 k) rfl rfl (aF 28 fa26_1 rfl rfl (aD 29 (.int .i64 a.hi) cell3 1 rfl rfl rfl rfl (aB 30 (.int .i64 (w64 (k * a.hi))) rfl rfl rfl (bi_mul rfl) (ao 31 rfl rfl (st_mx (x := (w64 (k * a.lo))) (y := (w64 (k * a.hi))) (c := (max (w64 (k * a.lo)) (w64 (k * a.hi)))) rfl rfl rfl (aC 32 (c_rOf (min (w64 (k * a.lo)) (w64 (k * a.hi))) (max (w64 (k * a.lo)) (w64 (k * a.hi)))) Try.func112 ⟨rfl, by decide⟩ rfl rfl (aS [.int .i64 ((rTimes_e0 a k).lo), .int .i64 ((rTimes_e0 a k).hi), .bool ((rTimes_e0 a k).no)] agg26 0 rfl rfl rfl rfl rfl rfl (aN (ac_ret ?_))))))))))
   exact fin_eq (v := .agg #[.int .i64 ((rTimes_e0 a k).lo), .int .i64 ((rTimes_e0 a k).hi), .bool ((rTimes_e0 a k).no)]) (by show _ = Iv.v (rTimes a k); rw [rTimes, h2, h1] <;> rfl) (fin_ret (res_c (vs := [.int .i64 ((rTimes_e0 a k).lo), .int .i64 ((rTimes_e0 a k).hi), .bool ((rTimes_e0 a k).no)]) agg26 0 rfl rfl rfl rfl rfl rfl))
  ·refine ac_then' (b := !(rIn k)) (by rw [h2]; rfl) rfl (aQ (aL (aC 13 c_rNone Try.func111 ⟨rfl, by decide⟩ rfl rfl (aS [.int .i64 rNone.lo, .int .i64 rNone.hi, .bool rNone.no] agg26 0 rfl rfl rfl rfl rfl rfl (aN (ac_ret (fin_eq (v := .agg #[.int .i64 rNone.lo, .int .i64 rNone.hi, .bool rNone.no]) (by show _ = Iv.v (rTimes a k); rw [rTimes, h2, h1] <;> rfl) (fin_ret (res_c (vs := [.int .i64 rNone.lo, .int .i64 rNone.hi, .bool rNone.no]) agg26 0 rfl rfl rfl rfl rfl rfl)))))))))
 ·refine aK 9 (by show ((!(rRight a)) == false) = false; rw [h1]; rfl) rfl (aK 10 (by show ((!(rRight a)) == false) = false; rw [h1]; rfl) rfl (aK 11 (by show ((!(rRight a)) == false) = false; rw [h1]; rfl) rfl (ao 12 rfl rfl (st_pkt' (b := !(rRight a)) (v := .bool true) (by rw [h1]; rfl) rfl rfl rfl (aN (ac_then rfl (aQ (aL (aC 13 c_rNone Try.func111 ⟨rfl, by decide⟩ rfl rfl (aS [.int .i64 rNone.lo, .int .i64 rNone.hi, .bool rNone.no] agg26 0 rfl rfl rfl rfl rfl rfl (aN (ac_ret ?_))))))))))))
  exact fin_eq (v := .agg #[.int .i64 rNone.lo, .int .i64 rNone.hi, .bool rNone.no]) (by show _ = Iv.v (rTimes a k); rw [rTimes, h1] <;> rfl) (fin_ret (res_c (vs := [.int .i64 rNone.lo, .int .i64 rNone.hi, .bool rNone.no]) agg26 0 rfl rfl rfl rfl rfl rfl))
def rSqr_e0 (a : Iv) : Int := (bif decide (a.hi ≥ 0) then 0 else (min (max a.lo (w64 (0 - a.lo))) (max a.hi (w64 (0 - a.hi)))))
def rSqr_e1 (a : Iv) : Int × Bool := (rMul (max (max (max a.lo (w64 (0 - a.lo))) a.hi) (w64 (0 - a.hi))) (max (max (max a.lo (w64 (0 - a.lo))) a.hi) (w64 (0 - a.hi))) true)
def rSqr_e2 (a : Iv) : Iv := (rOf ((rMul (rSqr_e0 a) (rSqr_e0 a) false).1) ((rSqr_e1 a).1))
def rSqr_e3 (a : Iv) : Int × Bool := (rMul (min (max a.lo (w64 (0 - a.lo))) (max a.hi (w64 (0 - a.hi)))) (min (max a.lo (w64 (0 - a.lo))) (max a.hi (w64 (0 - a.hi)))) false)
def rSqr (a : Iv) : Iv := (bif rRight a then (bif decide (a.lo ≤ 0) then (bif (rSqr_e1 a).2 then (rSqr_e2 a) else rNone) else (bif (rSqr_e1 a).2 then (rOf ((rSqr_e3 a).1) ((rSqr_e1 a).1)) else rNone)) else rNone)
set_option maxRecDepth 100000 in
theorem c_rSqr (a : Iv) : Gets Try.prog 84 #[.agg #[.int .i64 a.lo, .int .i64 a.hi, .bool a.no]] (Iv.v (rSqr a)) := by
 refine gets_fin Try.func84 rfl rfl rfl (aQ (aL (ao 1 rfl rfl (st_box (v := .agg #[.int .i64 a.lo, .int .i64 a.hi, .bool a.no]) (cs := [.int .i64 a.lo, .int .i64 a.hi, .bool a.no]) rfl rfl rfl fun g0 => (ao 2 rfl rfl (st_new zero26 rfl fun g1 => (aN (aQ (aQ (aL (aG 9 [.int .i64 a.lo, .int .i64 a.hi, .bool a.no] agg26 1 rfl rfl rfl rfl rfl (aC 10 (c_rRight a) Try.func40 ⟨rfl, by decide⟩ rfl rfl (ao 11 rfl rfl (st_un (v := .bool (!(rRight a))) rfl rfl (un_not rfl) (aN ?_)))))))))))))))
 refine bool_split (rRight a) (fun h1 => ?_) (fun h1 => ?_)
 ·refine ac_else' (b := !(rRight a)) (by rw [h1]; rfl) rfl (ac_skip (aQ (aL (aF 13 fa26_0 rfl rfl (aD 14 (.int .i64 a.lo) cell3 1 rfl rfl rfl rfl (aF 15 fa26_0 rfl rfl (aD 16 (.int .i64 a.lo) cell3 1 rfl rfl rfl rfl (ao 17 rfl rfl (st_un (v := .int .i64 (w64 (0 - a.lo))) rfl rfl (un_neg rfl) (ao 18 rfl rfl (st_mx (x := a.lo) (y := (w64 (0 - a.lo))) (c := (max a.lo (w64 (0 - a.lo)))) rfl rfl rfl (aF 19 fa26_1 rfl rfl (aD 20 (.int .i64 a.hi) cell3 1 rfl rfl rfl rfl (aF 21 fa26_1 rfl rfl (aD 22 (.int .i64 a.hi) cell3 1 rfl rfl rfl rfl (ao 23 rfl rfl (st_un (v := .int .i64 (w64 (0 - a.hi))) rfl rfl (un_neg rfl) ?_)))))))))))))))))
  refine ao 24 rfl rfl (st_mx (x := a.hi) (y := (w64 (0 - a.hi))) (c := (max a.hi (w64 (0 - a.hi)))) rfl rfl rfl (ao 25 rfl rfl (st_mn (x := (max a.lo (w64 (0 - a.lo)))) (y := (max a.hi (w64 (0 - a.hi)))) (c := (min (max a.lo (w64 (0 - a.lo))) (max a.hi (w64 (0 - a.hi))))) rfl rfl rfl (aA 3 (.int .i64 (min (max a.lo (w64 (0 - a.lo))) (max a.hi (w64 (0 - a.hi))))) rfl rfl (aN (aQ (aL (aF 26 fa26_0 rfl rfl (aD 27 (.int .i64 a.lo) cell3 1 rfl rfl rfl rfl (aF 28 fa26_0 rfl rfl (aD 29 (.int .i64 a.lo) cell3 1 rfl rfl rfl rfl (ao 30 rfl rfl (st_un (v := .int .i64 (w64 (0 - a.lo))) rfl rfl (un_neg rfl) (aF 31 fa26_1 rfl rfl ?_))))))))))))))
  refine aD 32 (.int .i64 a.hi) cell3 1 rfl rfl rfl rfl (aF 33 fa26_1 rfl rfl (aD 34 (.int .i64 a.hi) cell3 1 rfl rfl rfl rfl (ao 35 rfl rfl (st_un (v := .int .i64 (w64 (0 - a.hi))) rfl rfl (un_neg rfl) (ao 36 rfl rfl (st_mx4 (x := a.lo) (y := (w64 (0 - a.lo))) (z := a.hi) (u := (w64 (0 - a.hi))) (c := (max (max (max a.lo (w64 (0 - a.lo))) a.hi) (w64 (0 - a.hi)))) rfl rfl rfl (aA 4 (.int .i64 (max (max (max a.lo (w64 (0 - a.lo))) a.hi) (w64 (0 - a.hi)))) rfl rfl (aN (aQ (aQ (aL (aF 37 fa26_0 rfl rfl (aD 38 (.int .i64 a.lo) cell3 1 rfl rfl rfl rfl (aB 39 (.bool (decide (a.lo ≤ 0))) rfl rfl rfl (bi_leq rfl) (aM 40 (.bool (decide (a.lo ≤ 0))) rfl rfl ?_)))))))))))))))
  refine bool_split (decide (a.lo ≤ 0)) (fun h2 => ?_) (fun h2 => ?_)
  ·refine ar_gd (d := (some 41)) (by show ((decide (a.lo ≤ 0)) == true) = true; rw [h2]; rfl) rfl (st_fa rfl fa26_1 rfl (ar_gd (d := (some 42)) (by show ((decide (a.lo ≤ 0)) == true) = true; rw [h2]; rfl) rfl (st_ldc (v := .int .i64 a.hi) cell3 1 rfl rfl rfl rfl rfl (ar_gd (d := (some 43)) (by show ((decide (a.lo ≤ 0)) == true) = true; rw [h2]; rfl) rfl (st_bi (r := .bool (decide (a.hi ≥ 0))) rfl rfl rfl (bi_geq rfl) (ao 44 rfl rfl (st_pkt' (b := decide (a.lo ≤ 0)) (v := .bool (decide (a.hi ≥ 0))) h2 rfl rfl rfl (aN ?_))))))))
   refine ac_mergeE (fun E9 => (Env.put E9 (some 3) (.int .i64 0))) (fun E9 => (Env.put E9 (some 3) (.int .i64 (rSqr_e0 a)))) (b := decide (a.hi ≥ 0)) rfl (fun hm => ?_) (fun hm => ?_) (fun hm => ?_) ?_
   ·refine aL (aA 3 (.int .i64 0) rfl rfl (aN ?_))
    exact ⟨rfl, rfl, rfl⟩
   ·unfold rSqr_e0; rw [hm]; rfl
   ·unfold rSqr_e0; rw [hm]; exact (put_self rfl)
   refine aQ (aL (aM 46 (.int .i64 (rSqr_e0 a)) rfl rfl (aM 47 (.int .i64 (rSqr_e0 a)) rfl rfl (aC 48 (c_rMul (rSqr_e0 a) (rSqr_e0 a) false) Try.func115 ⟨rfl, by decide⟩ rfl rfl (aM 45 (.tuple #[.int .i64 ((rMul (rSqr_e0 a) (rSqr_e0 a) false).1), .bool ((rMul (rSqr_e0 a) (rSqr_e0 a) false).2)]) rfl rfl (aX 49 (.int .i64 ((rMul (rSqr_e0 a) (rSqr_e0 a) false).1)) rfl rfl rfl (aX 50 (.bool ((rMul (rSqr_e0 a) (rSqr_e0 a) false).2)) rfl rfl rfl (aA 5 (.int .i64 ((rMul (rSqr_e0 a) (rSqr_e0 a) false).1)) rfl rfl (aA 6 (.bool ((rMul (rSqr_e0 a) (rSqr_e0 a) false).2)) rfl rfl (aN (aQ (aL ?_))))))))))))
   refine aM 52 (.int .i64 (max (max (max a.lo (w64 (0 - a.lo))) a.hi) (w64 (0 - a.hi)))) rfl rfl (aM 53 (.int .i64 (max (max (max a.lo (w64 (0 - a.lo))) a.hi) (w64 (0 - a.hi)))) rfl rfl (aC 54 (c_rMul (max (max (max a.lo (w64 (0 - a.lo))) a.hi) (w64 (0 - a.hi))) (max (max (max a.lo (w64 (0 - a.lo))) a.hi) (w64 (0 - a.hi))) true) Try.func115 ⟨rfl, by decide⟩ rfl rfl (aM 51 (.tuple #[.int .i64 ((rSqr_e1 a).1), .bool ((rSqr_e1 a).2)]) rfl rfl (aX 55 (.int .i64 ((rSqr_e1 a).1)) rfl rfl rfl (aX 56 (.bool ((rSqr_e1 a).2)) rfl rfl rfl (aA 7 (.int .i64 ((rSqr_e1 a).1)) rfl rfl (aA 8 (.bool ((rSqr_e1 a).2)) rfl rfl (aN (aQ (aQ (aL (aM 57 (.bool ((rSqr_e1 a).2)) rfl rfl ?_))))))))))))
   refine ao 58 rfl rfl (st_un (v := .bool (!((rSqr_e1 a).2))) rfl rfl (un_not rfl) (aN ?_))
   refine bool_split ((rSqr_e1 a).2) (fun h3 => ?_) (fun h3 => ?_)
   ·refine ac_else' (b := !((rSqr_e1 a).2)) (by rw [h3]; rfl) rfl (ac_skip (aQ (aL (aM 60 (.int .i64 ((rMul (rSqr_e0 a) (rSqr_e0 a) false).1)) rfl rfl (aM 61 (.int .i64 ((rSqr_e1 a).1)) rfl rfl (aC 62 (c_rOf ((rMul (rSqr_e0 a) (rSqr_e0 a) false).1) ((rSqr_e1 a).1)) Try.func112 ⟨rfl, by decide⟩ rfl rfl (aS [.int .i64 ((rSqr_e2 a).lo), .int .i64 ((rSqr_e2 a).hi), .bool ((rSqr_e2 a).no)] agg26 0 rfl rfl rfl rfl rfl rfl (aN (ac_ret ?_)))))))))
    exact fin_eq (v := .agg #[.int .i64 ((rSqr_e2 a).lo), .int .i64 ((rSqr_e2 a).hi), .bool ((rSqr_e2 a).no)]) (by show _ = Iv.v (rSqr a); rw [rSqr, h3, h2, h1] <;> rfl) (fin_ret (res_c (vs := [.int .i64 ((rSqr_e2 a).lo), .int .i64 ((rSqr_e2 a).hi), .bool ((rSqr_e2 a).no)]) agg26 0 rfl rfl rfl rfl rfl rfl))
   ·refine ac_then' (b := !((rSqr_e1 a).2)) (by rw [h3]; rfl) rfl (aQ (aL (aC 59 c_rNone Try.func111 ⟨rfl, by decide⟩ rfl rfl (aS [.int .i64 rNone.lo, .int .i64 rNone.hi, .bool rNone.no] agg26 0 rfl rfl rfl rfl rfl rfl (aN (ac_ret (fin_eq (v := .agg #[.int .i64 rNone.lo, .int .i64 rNone.hi, .bool rNone.no]) (by show _ = Iv.v (rSqr a); rw [rSqr, h3, h2, h1] <;> rfl) (fin_ret (res_c (vs := [.int .i64 rNone.lo, .int .i64 rNone.hi, .bool rNone.no]) agg26 0 rfl rfl rfl rfl rfl rfl)))))))))
  ·refine aK 41 (by show ((decide (a.lo ≤ 0)) == true) = false; rw [h2]; rfl) rfl (aK 42 (by show ((decide (a.lo ≤ 0)) == true) = false; rw [h2]; rfl) rfl (aK 43 (by show ((decide (a.lo ≤ 0)) == true) = false; rw [h2]; rfl) rfl (ao 44 rfl rfl (st_pkf' (b := decide (a.lo ≤ 0)) (v := .bool false) h2 rfl rfl rfl (aN (ac_else rfl (ac_skip (aQ (aL (aM 46 (.int .i64 (min (max a.lo (w64 (0 - a.lo))) (max a.hi (w64 (0 - a.hi))))) rfl rfl (aM 47 (.int .i64 (min (max a.lo (w64 (0 - a.lo))) (max a.hi (w64 (0 - a.hi))))) rfl rfl ?_)))))))))))
   refine aC 48 (c_rMul (min (max a.lo (w64 (0 - a.lo))) (max a.hi (w64 (0 - a.hi)))) (min (max a.lo (w64 (0 - a.lo))) (max a.hi (w64 (0 - a.hi)))) false) Try.func115 ⟨rfl, by decide⟩ rfl rfl (aM 45 (.tuple #[.int .i64 ((rSqr_e3 a).1), .bool ((rSqr_e3 a).2)]) rfl rfl (aX 49 (.int .i64 ((rSqr_e3 a).1)) rfl rfl rfl (aX 50 (.bool ((rSqr_e3 a).2)) rfl rfl rfl (aA 5 (.int .i64 ((rSqr_e3 a).1)) rfl rfl (aA 6 (.bool ((rSqr_e3 a).2)) rfl rfl (aN (aQ (aL (aM 52 (.int .i64 (max (max (max a.lo (w64 (0 - a.lo))) a.hi) (w64 (0 - a.hi)))) rfl rfl (aM 53 (.int .i64 (max (max (max a.lo (w64 (0 - a.lo))) a.hi) (w64 (0 - a.hi)))) rfl rfl ?_))))))))))
   refine aC 54 (c_rMul (max (max (max a.lo (w64 (0 - a.lo))) a.hi) (w64 (0 - a.hi))) (max (max (max a.lo (w64 (0 - a.lo))) a.hi) (w64 (0 - a.hi))) true) Try.func115 ⟨rfl, by decide⟩ rfl rfl (aM 51 (.tuple #[.int .i64 ((rSqr_e1 a).1), .bool ((rSqr_e1 a).2)]) rfl rfl (aX 55 (.int .i64 ((rSqr_e1 a).1)) rfl rfl rfl (aX 56 (.bool ((rSqr_e1 a).2)) rfl rfl rfl (aA 7 (.int .i64 ((rSqr_e1 a).1)) rfl rfl (aA 8 (.bool ((rSqr_e1 a).2)) rfl rfl (aN (aQ (aQ (aL (aM 57 (.bool ((rSqr_e1 a).2)) rfl rfl (ao 58 rfl rfl (st_un (v := .bool (!((rSqr_e1 a).2))) rfl rfl (un_not rfl) (aN ?_)))))))))))))
   refine bool_split ((rSqr_e1 a).2) (fun h3 => ?_) (fun h3 => ?_)
   ·refine ac_else' (b := !((rSqr_e1 a).2)) (by rw [h3]; rfl) rfl (ac_skip (aQ (aL (aM 60 (.int .i64 ((rSqr_e3 a).1)) rfl rfl (aM 61 (.int .i64 ((rSqr_e1 a).1)) rfl rfl (aC 62 (c_rOf ((rSqr_e3 a).1) ((rSqr_e1 a).1)) Try.func112 ⟨rfl, by decide⟩ rfl rfl (aS [.int .i64 ((rOf ((rSqr_e3 a).1) ((rSqr_e1 a).1)).lo), .int .i64 ((rOf ((rSqr_e3 a).1) ((rSqr_e1 a).1)).hi), .bool ((rOf ((rSqr_e3 a).1) ((rSqr_e1 a).1)).no)] agg26 0 rfl rfl rfl rfl rfl rfl (aN (ac_ret ?_)))))))))
    exact fin_eq (v := .agg #[.int .i64 ((rOf ((rSqr_e3 a).1) ((rSqr_e1 a).1)).lo), .int .i64 ((rOf ((rSqr_e3 a).1) ((rSqr_e1 a).1)).hi), .bool ((rOf ((rSqr_e3 a).1) ((rSqr_e1 a).1)).no)]) (by show _ = Iv.v (rSqr a); rw [rSqr, h3, h2, h1] <;> rfl) (fin_ret (res_c (vs := [.int .i64 ((rOf ((rSqr_e3 a).1) ((rSqr_e1 a).1)).lo), .int .i64 ((rOf ((rSqr_e3 a).1) ((rSqr_e1 a).1)).hi), .bool ((rOf ((rSqr_e3 a).1) ((rSqr_e1 a).1)).no)]) agg26 0 rfl rfl rfl rfl rfl rfl))
   ·refine ac_then' (b := !((rSqr_e1 a).2)) (by rw [h3]; rfl) rfl (aQ (aL (aC 59 c_rNone Try.func111 ⟨rfl, by decide⟩ rfl rfl (aS [.int .i64 rNone.lo, .int .i64 rNone.hi, .bool rNone.no] agg26 0 rfl rfl rfl rfl rfl rfl (aN (ac_ret (fin_eq (v := .agg #[.int .i64 rNone.lo, .int .i64 rNone.hi, .bool rNone.no]) (by show _ = Iv.v (rSqr a); rw [rSqr, h3, h2, h1] <;> rfl) (fin_ret (res_c (vs := [.int .i64 rNone.lo, .int .i64 rNone.hi, .bool rNone.no]) agg26 0 rfl rfl rfl rfl rfl rfl)))))))))
 ·refine ac_then' (b := !(rRight a)) (by rw [h1]; rfl) rfl (aQ (aL (aC 12 c_rNone Try.func111 ⟨rfl, by decide⟩ rfl rfl (aS [.int .i64 rNone.lo, .int .i64 rNone.hi, .bool rNone.no] agg26 0 rfl rfl rfl rfl rfl rfl (aN (ac_ret (fin_eq (v := .agg #[.int .i64 rNone.lo, .int .i64 rNone.hi, .bool rNone.no]) (by show _ = Iv.v (rSqr a); rw [rSqr, h1] <;> rfl) (fin_ret (res_c (vs := [.int .i64 rNone.lo, .int .i64 rNone.hi, .bool rNone.no]) agg26 0 rfl rfl rfl rfl rfl rfl)))))))))
def rRootIv (a : Iv) : Iv := (bif rRight a then (bif decide (a.lo < 0) then rNone else (rOf ((rRoot a.lo false).1) ((rRoot a.hi true).1))) else rNone)
set_option maxRecDepth 100000 in
theorem c_rRootIv (a : Iv) : Gets Try.prog 81 #[.agg #[.int .i64 a.lo, .int .i64 a.hi, .bool a.no]] (Iv.v (rRootIv a)) := by
 refine gets_fin Try.func81 rfl rfl rfl (aQ (aL (ao 1 rfl rfl (st_box (v := .agg #[.int .i64 a.lo, .int .i64 a.hi, .bool a.no]) (cs := [.int .i64 a.lo, .int .i64 a.hi, .bool a.no]) rfl rfl rfl fun g0 => (ao 2 rfl rfl (st_new zero26 rfl fun g1 => (aN (aQ (aQ (aL (aG 7 [.int .i64 a.lo, .int .i64 a.hi, .bool a.no] agg26 1 rfl rfl rfl rfl rfl (aC 8 (c_rRight a) Try.func40 ⟨rfl, by decide⟩ rfl rfl (ao 9 rfl rfl (st_un (v := .bool (!(rRight a))) rfl rfl (un_not rfl) (aM 10 (.bool (!(rRight a))) rfl rfl ?_)))))))))))))))
 refine bool_split (rRight a) (fun h1 => ?_) (fun h1 => ?_)
 ·refine ar_gd (d := (some 11)) (by show ((!(rRight a)) == false) = true; rw [h1]; rfl) rfl (st_fa rfl fa26_0 rfl (ar_gd (d := (some 12)) (by show ((!(rRight a)) == false) = true; rw [h1]; rfl) rfl (st_ldc (v := .int .i64 a.lo) cell3 1 rfl rfl rfl rfl rfl (ar_gd (d := (some 13)) (by show ((!(rRight a)) == false) = true; rw [h1]; rfl) rfl (st_bi (r := .bool (decide (a.lo < 0))) rfl rfl rfl (bi_lss rfl) (ao 14 rfl rfl (st_pkf' (b := !(rRight a)) (v := .bool (decide (a.lo < 0))) (by rw [h1]; rfl) rfl rfl rfl (aN ?_))))))))
  refine bool_split (decide (a.lo < 0)) (fun h2 => ?_) (fun h2 => ?_)
  ·refine ac_then' (b := decide (a.lo < 0)) h2 rfl (aQ (aL (aC 15 c_rNone Try.func111 ⟨rfl, by decide⟩ rfl rfl (aS [.int .i64 rNone.lo, .int .i64 rNone.hi, .bool rNone.no] agg26 0 rfl rfl rfl rfl rfl rfl (aN (ac_ret (fin_eq (v := .agg #[.int .i64 rNone.lo, .int .i64 rNone.hi, .bool rNone.no]) (by show _ = Iv.v (rRootIv a); rw [rRootIv, h2, h1] <;> rfl) (fin_ret (res_c (vs := [.int .i64 rNone.lo, .int .i64 rNone.hi, .bool rNone.no]) agg26 0 rfl rfl rfl rfl rfl rfl)))))))))
  ·refine ac_else' (b := decide (a.lo < 0)) h2 rfl (ac_skip (aQ (aL (aF 17 fa26_0 rfl rfl (aD 18 (.int .i64 a.lo) cell3 1 rfl rfl rfl rfl (aC 19 (c_rRoot a.lo false) Try.func113 ⟨rfl, by decide⟩ rfl rfl (aM 16 (.tuple #[.int .i64 ((rRoot a.lo false).1), .bool ((rRoot a.lo false).2)]) rfl rfl (aX 20 (.int .i64 ((rRoot a.lo false).1)) rfl rfl rfl (aX 21 (.bool ((rRoot a.lo false).2)) rfl rfl rfl (aA 3 (.int .i64 ((rRoot a.lo false).1)) rfl rfl (aA 4 (.bool ((rRoot a.lo false).2)) rfl rfl (aN (aQ (aL (aF 23 fa26_1 rfl rfl (aD 24 (.int .i64 a.hi) cell3 1 rfl rfl rfl rfl (aC 25 (c_rRoot a.hi true) Try.func113 ⟨rfl, by decide⟩ rfl rfl ?_)))))))))))))))))
   refine aM 22 (.tuple #[.int .i64 ((rRoot a.hi true).1), .bool ((rRoot a.hi true).2)]) rfl rfl (aX 26 (.int .i64 ((rRoot a.hi true).1)) rfl rfl rfl (aX 27 (.bool ((rRoot a.hi true).2)) rfl rfl rfl (aA 5 (.int .i64 ((rRoot a.hi true).1)) rfl rfl (aA 6 (.bool ((rRoot a.hi true).2)) rfl rfl (aN (aQ (aL (aM 28 (.int .i64 ((rRoot a.lo false).1)) rfl rfl (aM 29 (.int .i64 ((rRoot a.hi true).1)) rfl rfl (aC 30 (c_rOf ((rRoot a.lo false).1) ((rRoot a.hi true).1)) Try.func112 ⟨rfl, by decide⟩ rfl rfl ?_))))))))))
   refine aS [.int .i64 ((rOf ((rRoot a.lo false).1) ((rRoot a.hi true).1)).lo), .int .i64 ((rOf ((rRoot a.lo false).1) ((rRoot a.hi true).1)).hi), .bool ((rOf ((rRoot a.lo false).1) ((rRoot a.hi true).1)).no)] agg26 0 rfl rfl rfl rfl rfl rfl (aN (ac_ret ?_))
   exact fin_eq (v := .agg #[.int .i64 ((rOf ((rRoot a.lo false).1) ((rRoot a.hi true).1)).lo), .int .i64 ((rOf ((rRoot a.lo false).1) ((rRoot a.hi true).1)).hi), .bool ((rOf ((rRoot a.lo false).1) ((rRoot a.hi true).1)).no)]) (by show _ = Iv.v (rRootIv a); rw [rRootIv, h2, h1] <;> rfl) (fin_ret (res_c (vs := [.int .i64 ((rOf ((rRoot a.lo false).1) ((rRoot a.hi true).1)).lo), .int .i64 ((rOf ((rRoot a.lo false).1) ((rRoot a.hi true).1)).hi), .bool ((rOf ((rRoot a.lo false).1) ((rRoot a.hi true).1)).no)]) agg26 0 rfl rfl rfl rfl rfl rfl))
 ·refine aK 11 (by show ((!(rRight a)) == false) = false; rw [h1]; rfl) rfl (aK 12 (by show ((!(rRight a)) == false) = false; rw [h1]; rfl) rfl (aK 13 (by show ((!(rRight a)) == false) = false; rw [h1]; rfl) rfl (ao 14 rfl rfl (st_pkt' (b := !(rRight a)) (v := .bool true) (by rw [h1]; rfl) rfl rfl rfl (aN (ac_then rfl (aQ (aL (aC 15 c_rNone Try.func111 ⟨rfl, by decide⟩ rfl rfl (aS [.int .i64 rNone.lo, .int .i64 rNone.hi, .bool rNone.no] agg26 0 rfl rfl rfl rfl rfl rfl (aN (ac_ret ?_))))))))))))
  exact fin_eq (v := .agg #[.int .i64 rNone.lo, .int .i64 rNone.hi, .bool rNone.no]) (by show _ = Iv.v (rRootIv a); rw [rRootIv, h1] <;> rfl) (fin_ret (res_c (vs := [.int .i64 rNone.lo, .int .i64 rNone.hi, .bool rNone.no]) agg26 0 rfl rfl rfl rfl rfl rfl))
end Go.Proofs.Ythngkopcadlciaa
namespace Go.Proofs.Ythngkopcadlciaa
open Go.RowKit
attribute [local irreducible] AC AR DWalk
def hPick_e0 (n : Int) (m : Int) : Int := (bif decide ((Int.tmod n m) < 0) then (w64 ((Int.tmod n m) + m)) else (Int.tmod n m))
def hPick (n : Int) (m : Int) : Int := (hPick_e0 n m)
set_option maxRecDepth 100000 in
theorem c_hPick (n : Int) (m : Int) (hm : m ≠ 0) : Gets Try.prog 19 #[.int .i64 n, .int .i64 m] ((fun (r : Int) => (.int .i64 r : Value)) (hPick n m)) := by
 refine gets_fin Try.func19 rfl rfl rfl (aQ (aL (aA 4 (.int .i64 0) rfl rfl (aN (aQ (aL (aM 5 (.int .i64 n) rfl rfl (aM 6 (.int .i64 m) rfl rfl (aB 7 (.int .i64 (Int.tmod n m)) rfl rfl rfl (bi_rem hm rfl) (aA 0 (.int .i64 (Int.tmod n m)) rfl rfl (aN (aQ (aQ (aL (aM 8 (.int .i64 (Int.tmod n m)) rfl rfl (aB 9 (.bool (decide ((Int.tmod n m) < 0))) rfl rfl rfl (bi_lss rfl) (aN ?_)))))))))))))))))
 refine ac_mergeE (fun E9 => ((((Env.put E9 (some 10) (.int .i64 (Int.tmod n m))).put (some 11) (.int .i64 m)).put (some 12) (.int .i64 (w64 ((Int.tmod n m) + m)))).put (some 0) (.int .i64 (w64 ((Int.tmod n m) + m))))) (fun E9 => ((((Env.put E9 (some 10) (bif decide ((Int.tmod n m) < 0) then (.int .i64 (Int.tmod n m) : Value) else E9 10)).put (some 11) (bif decide ((Int.tmod n m) < 0) then (.int .i64 m : Value) else E9 11)).put (some 12) (bif decide ((Int.tmod n m) < 0) then (.int .i64 (w64 ((Int.tmod n m) + m)) : Value) else E9 12)).put (some 0) (.int .i64 (hPick_e0 n m)))) (b := decide ((Int.tmod n m) < 0)) rfl (fun hm => ?_) (fun hm => ?_) (fun hm => ?_) ?_
 ·refine aL (aM 10 (.int .i64 (Int.tmod n m)) rfl rfl (aM 11 (.int .i64 m) rfl rfl (aB 12 (.int .i64 (w64 ((Int.tmod n m) + m))) rfl rfl rfl (bi_add rfl) (aA 0 (.int .i64 (w64 ((Int.tmod n m) + m))) rfl rfl (aN ?_)))))
  exact ⟨rfl, rfl, rfl⟩
 ·unfold hPick_e0; rw [hm]; rfl
 ·unfold hPick_e0; rw [hm]; exact ((put_self rfl).trans ((put_self rfl).trans ((put_self rfl).trans (put_self rfl))))
 refine aQ (aL (aM 13 (.int .i64 (hPick_e0 n m)) rfl rfl (aA 4 (.int .i64 (hPick_e0 n m)) rfl rfl (aN (ac_ret (fin_eq (v := .int .i64 (hPick_e0 n m)) rfl (fin_ret (res_tmp rfl rfl))))))))
def hNum (n : Int) : Int := (bif (hPick n 9) == 0 then n else (bif (hPick n 9) == 1 then w64 ((w64 ((hPick (w64 (Int.tdiv n 9)) 201) - 100)) * 65536) else (bif (hPick n 9) == 2 then w64 ((hPick (w64 (Int.tdiv n 9)) 9) - 4) else (bif (hPick n 9) == 3 then w64 ((w64 ((hPick (w64 (Int.tdiv n 9)) 2147483657) - 1073741824)) - 4) else w64 ((hPick (w64 (Int.tdiv n 9)) 2621440) - 1310720)))))
set_option maxRecDepth 100000 in
theorem c_hNum (n : Int) : Gets Try.prog 79 #[.int .i64 n] ((fun (r : Int) => (.int .i64 r : Value)) (hNum n)) := by
 refine gets_fin Try.func79 rfl rfl rfl (aQ (aL (aA 2 (.int .i64 0) rfl rfl (aN (aQ (aQ (aL (aM 3 (.int .i64 n) rfl rfl (aC 4 (c_hPick n 9 (by decide)) Try.func19 ⟨rfl, by decide⟩ rfl rfl (aN (ac_block (aQ (aL (aB 6 (.bool ((hPick n 9) == 0)) rfl rfl rfl (bi_eql rfl) (aA 5 (.bool ((hPick n 9) == 0)) rfl rfl (aN ?_))))))))))))))))
 refine bool_split ((hPick n 9) == 0) (fun h1 => ?_) (fun h1 => ?_)
 ·refine ac_then' (b := (hPick n 9) == 0) h1 rfl (aQ (aL (aM 7 (.int .i64 n) rfl rfl (aA 2 (.int .i64 n) rfl rfl (aN (ac_ret (fin_eq (v := .int .i64 n) (by show _ = (fun (r : Int) => (.int .i64 r : Value)) (hNum n); rw [hNum, h1] <;> rfl) (fin_ret (res_tmp rfl rfl)))))))))
 ·refine ac_else' (b := (hPick n 9) == 0) h1 rfl (aQ (aL (aB 9 (.bool ((hPick n 9) == 1)) rfl rfl rfl (bi_eql rfl) (aA 8 (.bool ((hPick n 9) == 1)) rfl rfl (aN ?_)))))
  refine bool_split ((hPick n 9) == 1) (fun h2 => ?_) (fun h2 => ?_)
  ·refine ac_then' (b := (hPick n 9) == 1) h2 rfl (aQ (aL (aM 10 (.int .i64 n) rfl rfl (aB 11 (.int .i64 (w64 (Int.tdiv n 9))) rfl rfl rfl (bi_quo (by decide) rfl) (aC 12 (c_hPick (w64 (Int.tdiv n 9)) 201 (by decide)) Try.func19 ⟨rfl, by decide⟩ rfl rfl (aB 13 (.int .i64 (w64 ((hPick (w64 (Int.tdiv n 9)) 201) - 100))) rfl rfl rfl (bi_sub rfl) (aB 14 (.int .i64 (w64 ((w64 ((hPick (w64 (Int.tdiv n 9)) 201) - 100)) * 65536))) rfl rfl rfl (bi_mul rfl) (aA 2 (.int .i64 (w64 ((w64 ((hPick (w64 (Int.tdiv n 9)) 201) - 100)) * 65536))) rfl rfl (aN (ac_ret ?_))))))))))
   exact fin_eq (v := .int .i64 (w64 ((w64 ((hPick (w64 (Int.tdiv n 9)) 201) - 100)) * 65536))) (by show _ = (fun (r : Int) => (.int .i64 r : Value)) (hNum n); rw [hNum, h2, h1] <;> rfl) (fin_ret (res_tmp rfl rfl))
  ·refine ac_else' (b := (hPick n 9) == 1) h2 rfl (aQ (aL (aB 16 (.bool ((hPick n 9) == 2)) rfl rfl rfl (bi_eql rfl) (aA 15 (.bool ((hPick n 9) == 2)) rfl rfl (aN ?_)))))
   refine bool_split ((hPick n 9) == 2) (fun h3 => ?_) (fun h3 => ?_)
   ·refine ac_then' (b := (hPick n 9) == 2) h3 rfl (aQ (aL (aM 17 (.int .i64 n) rfl rfl (aB 18 (.int .i64 (w64 (Int.tdiv n 9))) rfl rfl rfl (bi_quo (by decide) rfl) (aC 19 (c_hPick (w64 (Int.tdiv n 9)) 9 (by decide)) Try.func19 ⟨rfl, by decide⟩ rfl rfl (aB 20 (.int .i64 (w64 ((hPick (w64 (Int.tdiv n 9)) 9) - 4))) rfl rfl rfl (bi_sub rfl) (aA 2 (.int .i64 (w64 ((hPick (w64 (Int.tdiv n 9)) 9) - 4))) rfl rfl (aN (ac_ret (fin_eq (v := .int .i64 (w64 ((hPick (w64 (Int.tdiv n 9)) 9) - 4))) (by show _ = (fun (r : Int) => (.int .i64 r : Value)) (hNum n); rw [hNum, h3, h2, h1] <;> rfl) (fin_ret (res_tmp rfl rfl))))))))))))
   ·refine ac_else' (b := (hPick n 9) == 2) h3 rfl (aQ (aL (aB 22 (.bool ((hPick n 9) == 3)) rfl rfl rfl (bi_eql rfl) (aA 21 (.bool ((hPick n 9) == 3)) rfl rfl (aN ?_)))))
    refine bool_split ((hPick n 9) == 3) (fun h4 => ?_) (fun h4 => ?_)
    ·refine ac_then' (b := (hPick n 9) == 3) h4 rfl (aQ (aL (aM 23 (.int .i64 n) rfl rfl (aB 24 (.int .i64 (w64 (Int.tdiv n 9))) rfl rfl rfl (bi_quo (by decide) rfl) (aC 25 (c_hPick (w64 (Int.tdiv n 9)) 2147483657 (by decide)) Try.func19 ⟨rfl, by decide⟩ rfl rfl (aB 26 (.int .i64 (w64 ((hPick (w64 (Int.tdiv n 9)) 2147483657) - 1073741824))) rfl rfl rfl (bi_sub rfl) (aB 27 (.int .i64 (w64 ((w64 ((hPick (w64 (Int.tdiv n 9)) 2147483657) - 1073741824)) - 4))) rfl rfl rfl (bi_sub rfl) (aA 2 (.int .i64 (w64 ((w64 ((hPick (w64 (Int.tdiv n 9)) 2147483657) - 1073741824)) - 4))) rfl rfl (aN (ac_ret ?_))))))))))
     exact fin_eq (v := .int .i64 (w64 ((w64 ((hPick (w64 (Int.tdiv n 9)) 2147483657) - 1073741824)) - 4))) (by show _ = (fun (r : Int) => (.int .i64 r : Value)) (hNum n); rw [hNum, h4, h3, h2, h1] <;> rfl) (fin_ret (res_tmp rfl rfl))
    ·refine ac_else' (b := (hPick n 9) == 3) h4 rfl (ac_skip (aQ (aL (aM 28 (.int .i64 n) rfl rfl (aB 29 (.int .i64 (w64 (Int.tdiv n 9))) rfl rfl rfl (bi_quo (by decide) rfl) (aC 30 (c_hPick (w64 (Int.tdiv n 9)) 2621440 (by decide)) Try.func19 ⟨rfl, by decide⟩ rfl rfl (aB 31 (.int .i64 (w64 ((hPick (w64 (Int.tdiv n 9)) 2621440) - 1310720))) rfl rfl rfl (bi_sub rfl) (aA 2 (.int .i64 (w64 ((hPick (w64 (Int.tdiv n 9)) 2621440) - 1310720))) rfl rfl (aN (ac_ret (fin_eq (v := .int .i64 (w64 ((hPick (w64 (Int.tdiv n 9)) 2621440) - 1310720))) (by show _ = (fun (r : Int) => (.int .i64 r : Value)) (hNum n); rw [hNum, h4, h3, h2, h1] <;> rfl) (fin_ret (res_tmp rfl rfl)))))))))))))
def within (n : Int) (low : Int) (high : Int) : Int := max low (min high n)
set_option maxRecDepth 100000 in
theorem c_within (n : Int) (low : Int) (high : Int) : Gets Try.prog 64 #[.int .i64 n, .int .i64 low, .int .i64 high] ((fun (r : Int) => (.int .i64 r : Value)) (within n low high)) := by
 refine gets_fin Try.func64 rfl rfl rfl (aQ (aL (aA 6 (.int .i64 0) rfl rfl (aN (aQ (aL (aM 7 (.int .i64 low) rfl rfl (aM 8 (.int .i64 high) rfl rfl (aM 9 (.int .i64 n) rfl rfl (ao 10 rfl rfl (st_mn (x := high) (y := n) (c := (min high n)) rfl rfl rfl (ao 11 rfl rfl (st_mx (x := low) (y := (min high n)) (c := (max low (min high n))) rfl rfl rfl (aA 6 (.int .i64 (max low (min high n))) rfl rfl (aN (ac_ret (fin_eq (v := .int .i64 (max low (min high n))) rfl (fin_ret (res_tmp rfl rfl)))))))))))))))))))
def hWide (x : Int) (w : Int) : Iv := (⟨(within x (-1073741824) 1073741824), min 1073741824 (w64 ((within x (-1073741824) 1073741824) + w)), false⟩ : Iv)
set_option maxRecDepth 100000 in
theorem c_hWide (x : Int) (w : Int) : Gets Try.prog 20 #[.int .i64 x, .int .i64 w] (Iv.v (hWide x w)) := by
 refine gets_fin Try.func20 rfl rfl rfl (aQ (aL (ao 4 rfl rfl (st_new zero26 rfl fun g0 => (aN (aQ (aL (aM 5 (.int .i64 x) rfl rfl (aC 6 (c_within x (-1073741824) 1073741824) Try.func64 ⟨rfl, by decide⟩ rfl rfl (aA 0 (.int .i64 (within x (-1073741824) 1073741824)) rfl rfl (aN (aQ (aL (aM 7 (.int .i64 (within x (-1073741824) 1073741824)) rfl rfl (aM 8 (.int .i64 (within x (-1073741824) 1073741824)) rfl rfl (aM 9 (.int .i64 w) rfl rfl (aB 10 (.int .i64 (w64 ((within x (-1073741824) 1073741824) + w))) rfl rfl rfl (bi_add rfl) ?_)))))))))))))))))
 refine ao 11 rfl rfl (st_mn (x := 1073741824) (y := (w64 ((within x (-1073741824) 1073741824) + w))) (c := (min 1073741824 (w64 ((within x (-1073741824) 1073741824) + w)))) rfl rfl rfl (ao 12 rfl rfl (st_bd (us := [(0, .int .i64 (within x (-1073741824) 1073741824)), (1, .int .i64 (min 1073741824 (w64 ((within x (-1073741824) 1073741824) + w))))]) (v := .agg #[.int .i64 (within x (-1073741824) 1073741824), .int .i64 (min 1073741824 (w64 ((within x (-1073741824) 1073741824) + w))), .bool false]) rfl rfl (bd26_0_1 _ _) ?_)))
 refine aS [.int .i64 (within x (-1073741824) 1073741824), .int .i64 (min 1073741824 (w64 ((within x (-1073741824) 1073741824) + w))), .bool false] agg26 0 rfl rfl rfl rfl rfl rfl (aN (ac_ret (fin_eq (v := .agg #[.int .i64 (within x (-1073741824) 1073741824), .int .i64 (min 1073741824 (w64 ((within x (-1073741824) 1073741824) + w))), .bool false]) rfl (fin_ret (res_c (vs := [.int .i64 (within x (-1073741824) 1073741824), .int .i64 (min 1073741824 (w64 ((within x (-1073741824) 1073741824) + w))), .bool false]) agg26 0 rfl rfl rfl rfl rfl rfl)))))
def hIv (n : Int) (w : Int) : Iv := (bif (hPick w 12) == 0 then (⟨(hNum n), (hNum (w64 (Int.tdiv w 12))), false⟩ : Iv) else (bif (hPick w 12) == 1 then (⟨(hNum n), (hNum n), (hPick (w64 (Int.tdiv w 12)) 5) == 4⟩ : Iv) else (bif (hPick w 12) == 2 then (⟨(hNum n), (hNum n), false⟩ : Iv) else (bif (hPick w 12) == 3 then (⟨(hNum n), (hNum n), false⟩ : Iv) else (hWide (hNum n) (hPick (w64 (Int.tdiv w 12)) 9000))))))
set_option maxRecDepth 100000 in
theorem c_hIv (n : Int) (w : Int) : Gets Try.prog 37 #[.int .i64 n, .int .i64 w] (Iv.v (hIv n w)) := by
 refine gets_fin Try.func37 rfl rfl rfl (aQ (aL (ao 4 rfl rfl (st_new zero26 rfl fun g0 => (aN (aQ (aL (aM 6 (.int .i64 n) rfl rfl (aC 7 (c_hNum n) Try.func79 ⟨rfl, by decide⟩ rfl rfl (aA 5 (.int .i64 (hNum n)) rfl rfl (aN (aQ (aQ (aL (aM 8 (.int .i64 w) rfl rfl (aC 9 (c_hPick w 12 (by decide)) Try.func19 ⟨rfl, by decide⟩ rfl rfl (aN (ac_block (aQ (aL (aB 11 (.bool ((hPick w 12) == 0)) rfl rfl rfl (bi_eql rfl) (aA 10 (.bool ((hPick w 12) == 0)) rfl rfl (aN ?_)))))))))))))))))))))))
 refine bool_split ((hPick w 12) == 0) (fun h1 => ?_) (fun h1 => ?_)
 ·refine ac_then' (b := (hPick w 12) == 0) h1 rfl (aQ (aL (aM 12 (.int .i64 (hNum n)) rfl rfl (aM 13 (.int .i64 w) rfl rfl (aB 14 (.int .i64 (w64 (Int.tdiv w 12))) rfl rfl rfl (bi_quo (by decide) rfl) (aC 15 (c_hNum (w64 (Int.tdiv w 12))) Try.func79 ⟨rfl, by decide⟩ rfl rfl (ao 16 rfl rfl (st_bd (us := [(0, .int .i64 (hNum n)), (1, .int .i64 (hNum (w64 (Int.tdiv w 12))))]) (v := .agg #[.int .i64 (hNum n), .int .i64 (hNum (w64 (Int.tdiv w 12))), .bool false]) rfl rfl (bd26_0_1 _ _) (aS [.int .i64 (hNum n), .int .i64 (hNum (w64 (Int.tdiv w 12))), .bool false] agg26 0 rfl rfl rfl rfl rfl rfl (aN (ac_ret ?_)))))))))))
  exact fin_eq (v := .agg #[.int .i64 (hNum n), .int .i64 (hNum (w64 (Int.tdiv w 12))), .bool false]) (by show _ = Iv.v (hIv n w); rw [hIv, h1] <;> rfl) (fin_ret (res_c (vs := [.int .i64 (hNum n), .int .i64 (hNum (w64 (Int.tdiv w 12))), .bool false]) agg26 0 rfl rfl rfl rfl rfl rfl))
 ·refine ac_else' (b := (hPick w 12) == 0) h1 rfl (aQ (aL (aB 18 (.bool ((hPick w 12) == 1)) rfl rfl rfl (bi_eql rfl) (aA 17 (.bool ((hPick w 12) == 1)) rfl rfl (aN ?_)))))
  refine bool_split ((hPick w 12) == 1) (fun h2 => ?_) (fun h2 => ?_)
  ·refine ac_then' (b := (hPick w 12) == 1) h2 rfl (aQ (aL (aM 19 (.int .i64 (hNum n)) rfl rfl (aM 20 (.int .i64 (hNum n)) rfl rfl (aM 21 (.int .i64 w) rfl rfl (aB 22 (.int .i64 (w64 (Int.tdiv w 12))) rfl rfl rfl (bi_quo (by decide) rfl) (aC 23 (c_hPick (w64 (Int.tdiv w 12)) 5 (by decide)) Try.func19 ⟨rfl, by decide⟩ rfl rfl (aB 24 (.bool ((hPick (w64 (Int.tdiv w 12)) 5) == 4)) rfl rfl rfl (bi_eql rfl) (ao 25 rfl rfl (st_bd (us := [(0, .int .i64 (hNum n)), (1, .int .i64 (hNum n)), (2, .bool ((hPick (w64 (Int.tdiv w 12)) 5) == 4))]) (v := .agg #[.int .i64 (hNum n), .int .i64 (hNum n), .bool ((hPick (w64 (Int.tdiv w 12)) 5) == 4)]) rfl rfl (bd26_0_1_2 _ _ _) ?_))))))))))
   refine aS [.int .i64 (hNum n), .int .i64 (hNum n), .bool ((hPick (w64 (Int.tdiv w 12)) 5) == 4)] agg26 0 rfl rfl rfl rfl rfl rfl (aN (ac_ret (fin_eq (v := .agg #[.int .i64 (hNum n), .int .i64 (hNum n), .bool ((hPick (w64 (Int.tdiv w 12)) 5) == 4)]) (by show _ = Iv.v (hIv n w); rw [hIv, h2, h1] <;> rfl) (fin_ret (res_c (vs := [.int .i64 (hNum n), .int .i64 (hNum n), .bool ((hPick (w64 (Int.tdiv w 12)) 5) == 4)]) agg26 0 rfl rfl rfl rfl rfl rfl)))))
  ·refine ac_else' (b := (hPick w 12) == 1) h2 rfl (aQ (aQ (aL (aB 27 (.bool ((hPick w 12) == 2)) rfl rfl rfl (bi_eql rfl) (aA 26 (.bool ((hPick w 12) == 2)) rfl rfl (aN ?_))))))
   refine bool_split ((hPick w 12) == 2) (fun h3 => ?_) (fun h3 => ?_)
   ·refine ac_then' (b := (hPick w 12) == 2) h3 rfl (ac_skip (ac_then' (b := (hPick w 12) == 2) h3 rfl (aQ (aL (aM 29 (.int .i64 (hNum n)) rfl rfl (aM 30 (.int .i64 (hNum n)) rfl rfl (ao 31 rfl rfl (st_bd (us := [(0, .int .i64 (hNum n)), (1, .int .i64 (hNum n))]) (v := .agg #[.int .i64 (hNum n), .int .i64 (hNum n), .bool false]) rfl rfl (bd26_0_1 _ _) (aS [.int .i64 (hNum n), .int .i64 (hNum n), .bool false] agg26 0 rfl rfl rfl rfl rfl rfl (aN (ac_ret ?_)))))))))))
    exact fin_eq (v := .agg #[.int .i64 (hNum n), .int .i64 (hNum n), .bool false]) (by show _ = Iv.v (hIv n w); rw [hIv, h3, h2, h1] <;> rfl) (fin_ret (res_c (vs := [.int .i64 (hNum n), .int .i64 (hNum n), .bool false]) agg26 0 rfl rfl rfl rfl rfl rfl))
   ·refine ac_else' (b := (hPick w 12) == 2) h3 rfl (aL (aB 28 (.bool ((hPick w 12) == 3)) rfl rfl rfl (bi_eql rfl) (aA 26 (.bool ((hPick w 12) == 3)) rfl rfl (aN ?_))))
    refine bool_split ((hPick w 12) == 3) (fun h4 => ?_) (fun h4 => ?_)
    ·refine ac_then' (b := (hPick w 12) == 3) h4 rfl (aQ (aL (aM 29 (.int .i64 (hNum n)) rfl rfl (aM 30 (.int .i64 (hNum n)) rfl rfl (ao 31 rfl rfl (st_bd (us := [(0, .int .i64 (hNum n)), (1, .int .i64 (hNum n))]) (v := .agg #[.int .i64 (hNum n), .int .i64 (hNum n), .bool false]) rfl rfl (bd26_0_1 _ _) (aS [.int .i64 (hNum n), .int .i64 (hNum n), .bool false] agg26 0 rfl rfl rfl rfl rfl rfl (aN (ac_ret (fin_eq (v := .agg #[.int .i64 (hNum n), .int .i64 (hNum n), .bool false]) (by show _ = Iv.v (hIv n w); rw [hIv, h4, h3, h2, h1] <;> rfl) (fin_ret (res_c (vs := [.int .i64 (hNum n), .int .i64 (hNum n), .bool false]) agg26 0 rfl rfl rfl rfl rfl rfl))))))))))))
    ·refine ac_else' (b := (hPick w 12) == 3) h4 rfl (ac_skip (aQ (aL (aM 32 (.int .i64 (hNum n)) rfl rfl (aM 33 (.int .i64 w) rfl rfl (aB 34 (.int .i64 (w64 (Int.tdiv w 12))) rfl rfl rfl (bi_quo (by decide) rfl) (aC 35 (c_hPick (w64 (Int.tdiv w 12)) 9000 (by decide)) Try.func19 ⟨rfl, by decide⟩ rfl rfl (aC 36 (c_hWide (hNum n) (hPick (w64 (Int.tdiv w 12)) 9000)) Try.func20 ⟨rfl, by decide⟩ rfl rfl (aS [.int .i64 ((hWide (hNum n) (hPick (w64 (Int.tdiv w 12)) 9000)).lo), .int .i64 ((hWide (hNum n) (hPick (w64 (Int.tdiv w 12)) 9000)).hi), .bool ((hWide (hNum n) (hPick (w64 (Int.tdiv w 12)) 9000)).no)] agg26 0 rfl rfl rfl rfl rfl rfl (aN (ac_ret ?_)))))))))))
     exact fin_eq (v := .agg #[.int .i64 ((hWide (hNum n) (hPick (w64 (Int.tdiv w 12)) 9000)).lo), .int .i64 ((hWide (hNum n) (hPick (w64 (Int.tdiv w 12)) 9000)).hi), .bool ((hWide (hNum n) (hPick (w64 (Int.tdiv w 12)) 9000)).no)]) (by show _ = Iv.v (hIv n w); rw [hIv, h4, h3, h2, h1] <;> rfl) (fin_ret (res_c (vs := [.int .i64 ((hWide (hNum n) (hPick (w64 (Int.tdiv w 12)) 9000)).lo), .int .i64 ((hWide (hNum n) (hPick (w64 (Int.tdiv w 12)) 9000)).hi), .bool ((hWide (hNum n) (hPick (w64 (Int.tdiv w 12)) 9000)).no)]) agg26 0 rfl rfl rfl rfl rfl rfl))
end Go.Proofs.Ythngkopcadlciaa
namespace Go.Proofs.Ythngkopcadlciaa
theorem hPick_spec (n : Int) {m : Int} (hm : 0 < m) (hm' : m ≤ 9223372036854775807) : hPick n m = n % m := by
  have h1 := Int.tmod_lt_of_pos n hm
  have h2 := Int.lt_tmod_of_pos n hm
  have he := Int.mul_tdiv_add_tmod n m
  unfold hPick hPick_e0
  by_cases h : n.tmod m < 0
  · rw [decide_eq_true h, w64_of (by omega) (by omega)]
    simp only [cond_true]
    refine (((Int.ediv_emod_unique (q := n.tdiv m - 1) hm).2 ⟨?_, by omega, by omega⟩).2).symm
    rw [Int.mul_sub, Int.mul_one]; omega
  · rw [decide_eq_false h]
    simp only [cond_false]
    exact (((Int.ediv_emod_unique (q := n.tdiv m) hm).2 ⟨by omega, by omega, by omega⟩).2).symm
theorem hPick_lt (n : Int) {m : Int} (hm : 0 < m) (hm' : m ≤ 9223372036854775807) : 0 ≤ hPick n m ∧ hPick n m < m := by
  rw [hPick_spec n hm hm']
  exact ⟨Int.emod_nonneg n (by omega), Int.emod_lt_of_pos n hm⟩
theorem rRight_iff (a : Iv) : rRight a = true ↔ a.no = false ∧ -1073741824 ≤ a.lo ∧ a.lo ≤ a.hi ∧ a.hi ≤ 1073741824 := by
  obtain ⟨lo, hi, no⟩ := a
  unfold rRight
  simp only [rIn_eq]
  cases no <;> simp [numIn_iff, Bool.cond_eq_ite, Bool.and_eq_true] <;> omega
theorem turn_mod (k : Int) : Int.tmod (w64 (Int.tmod k 4 + 4)) 4 = k % 4 := by
  have h1 := Int.tmod_lt_of_pos k (b := 4) (by omega)
  have h2 := Int.lt_tmod_of_pos k (b := 4) (by omega)
  have he := Int.mul_tdiv_add_tmod k 4
  rw [w64_of (by omega) (by omega), Int.tmod_eq_emod_of_nonneg (by omega)]
  omega
end Go.Proofs.Ythngkopcadlciaa
