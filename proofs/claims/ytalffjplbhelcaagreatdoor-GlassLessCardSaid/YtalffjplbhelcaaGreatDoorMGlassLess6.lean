import Derived.Test.YtalffjplbhelcaaGreatDoorMGlassLess5
import Derived.Test.YtalffjplbhelcaaGreatDoorMGlassLess4
import Derived.Test.YtalffjplbhelcaaGreatDoorMGlassLess2
set_option linter.unusedVariables false
set_option linter.unusedSimpArgs false
namespace Go.Proofs.YtalffjplbhelcaaGreatDoor
open Go.RowKit
attribute [local irreducible] AC AR DWalk
def numRootLoop (n : Int) : Nat → Int → Int
 | 0, r => r
 | j + 1, r => bif decide ((w64 ((orI r (w64 (1 * 2 ^ (min (Int.toNat (j : Int)) 64)))) * (orI r (w64 (1 * 2 ^ (min (Int.toNat (j : Int)) 64)))))) ≤ n) then numRootLoop n j (orI r (w64 (1 * 2 ^ (min (Int.toNat (j : Int)) 64)))) else numRootLoop n j r
set_option maxRecDepth 100000 in
theorem c_numRoot_loop (n : Int) (up : Bool) {Q : Exit → Env → List Box → Prop} {H : List Box} {c : Code} (hc : Tryz.f96.body.bind loopOf = some c) : ∀ (j : Nat) (r k : Int) (E : Env), j ≤ 64 → k = (j : Int) - 1 → E 1 = .bool up → E 6 = .int .i64 n → E 7 = .int .i64 r → E 8 = .int .i64 k →
  (∀ E' : Env, E' 1 = .bool up → E' 6 = .int .i64 n → E' 7 = .int .i64 (numRootLoop n j r) → Q (.exit 0) E' H) → ARounds Tryz.prog 44 c Q (j + 1) E H := by
 rw [show Tryz.f96.body.bind loopOf = some _ from rfl] at hc
 cases hc
 intro j
 induction j with
 | zero =>
  intro r k E hj hk h1 h6 h7 h8 hn
  obtain rfl : k = -1 := by omega
  obtain ⟨E0, rfl⟩ := env4 h1 h6 h7 h8
  refine ar_round (aQ (aQ (aL (aM 19 (.int .i64 (-1)) rfl rfl (aB 20 (.bool false) rfl rfl rfl (bi_geq (by decide)) (aN (ac_else rfl (ac_exit ?_))))))))
  exact hn _ rfl rfl rfl
 | succ j ih =>
  intro r k E hj hk h1 h6 h7 h8 hn
  obtain rfl : k = (j : Int) := by omega
  obtain ⟨E0, rfl⟩ := env4 h1 h6 h7 h8
  have h0 : decide ((j : Int) ≥ 0) = true := decide_eq_true (by omega)
  refine ar_round ?_
  cases h9 : decide ((w64 ((orI r (w64 (1 * 2 ^ (min (Int.toNat (j : Int)) 64)))) * (orI r (w64 (1 * 2 ^ (min (Int.toNat (j : Int)) 64)))))) ≤ n) with
  | false =>
   refine aQ (aQ (aL (aM 19 (.int .i64 (j : Int)) rfl rfl (aB 20 (.bool (decide ((j : Int) ≥ 0))) rfl rfl rfl (bi_geq rfl) (aN (ac_then' (b := decide ((j : Int) ≥ 0)) h0 rfl (ac_skip (aQ (ac_block (aQ (aL (aM 23 (.int .i64 r) rfl rfl (aM 24 (.int .i64 (j : Int)) rfl rfl (aB 25 (.int .i64 (w64 (1 * 2 ^ (min (Int.toNat (j : Int)) 64)))) rfl rfl rfl (bi_shl rfl (by omega)) (aB 26 (.int .i64 (orI r (w64 (1 * 2 ^ (min (Int.toNat (j : Int)) 64))))) rfl rfl rfl (bi_or rfl) (aA 9 (.int .i64 (orI r (w64 (1 * 2 ^ (min (Int.toNat (j : Int)) 64))))) rfl rfl (aN (aQ (aL (aM 27 (.int .i64 (orI r (w64 (1 * 2 ^ (min (Int.toNat (j : Int)) 64))))) rfl rfl ?_))))))))))))))))))))
   refine aM 28 (.int .i64 (orI r (w64 (1 * 2 ^ (min (Int.toNat (j : Int)) 64))))) rfl rfl (aB 29 (.int .i64 (w64 ((orI r (w64 (1 * 2 ^ (min (Int.toNat (j : Int)) 64)))) * (orI r (w64 (1 * 2 ^ (min (Int.toNat (j : Int)) 64))))))) rfl rfl rfl (bi_mul rfl) (aM 30 (.int .i64 n) rfl rfl (aB 31 (.bool (decide ((w64 ((orI r (w64 (1 * 2 ^ (min (Int.toNat (j : Int)) 64)))) * (orI r (w64 (1 * 2 ^ (min (Int.toNat (j : Int)) 64)))))) ≤ n))) rfl rfl rfl (bi_leq rfl) (aN (ac_else' (b := decide ((w64 ((orI r (w64 (1 * 2 ^ (min (Int.toNat (j : Int)) 64)))) * (orI r (w64 (1 * 2 ^ (min (Int.toNat (j : Int)) 64)))))) ≤ n)) h9 rfl (ac_skip (aL (aM 21 (.int .i64 (j : Int)) rfl rfl ?_))))))))
   refine aB 22 (.int .i64 (w64 ((j : Int) - 1))) rfl rfl rfl (bi_sub rfl) (aA 8 (.int .i64 (w64 ((j : Int) - 1))) rfl rfl (aN ?_))
   refine ih _ _ _ (by omega) (w64_id (by omega)) rfl rfl rfl rfl (fun E' a b c => hn E' a b ?_)
   rw [c, numRootLoop, h9]; rfl
  | true =>
   refine aQ (aQ (aL (aM 19 (.int .i64 (j : Int)) rfl rfl (aB 20 (.bool (decide ((j : Int) ≥ 0))) rfl rfl rfl (bi_geq rfl) (aN (ac_then' (b := decide ((j : Int) ≥ 0)) h0 rfl (ac_skip (aQ (ac_block (aQ (aL (aM 23 (.int .i64 r) rfl rfl (aM 24 (.int .i64 (j : Int)) rfl rfl (aB 25 (.int .i64 (w64 (1 * 2 ^ (min (Int.toNat (j : Int)) 64)))) rfl rfl rfl (bi_shl rfl (by omega)) (aB 26 (.int .i64 (orI r (w64 (1 * 2 ^ (min (Int.toNat (j : Int)) 64))))) rfl rfl rfl (bi_or rfl) (aA 9 (.int .i64 (orI r (w64 (1 * 2 ^ (min (Int.toNat (j : Int)) 64))))) rfl rfl (aN (aQ (aL (aM 27 (.int .i64 (orI r (w64 (1 * 2 ^ (min (Int.toNat (j : Int)) 64))))) rfl rfl ?_))))))))))))))))))))
   refine aM 28 (.int .i64 (orI r (w64 (1 * 2 ^ (min (Int.toNat (j : Int)) 64))))) rfl rfl (aB 29 (.int .i64 (w64 ((orI r (w64 (1 * 2 ^ (min (Int.toNat (j : Int)) 64)))) * (orI r (w64 (1 * 2 ^ (min (Int.toNat (j : Int)) 64))))))) rfl rfl rfl (bi_mul rfl) (aM 30 (.int .i64 n) rfl rfl (aB 31 (.bool (decide ((w64 ((orI r (w64 (1 * 2 ^ (min (Int.toNat (j : Int)) 64)))) * (orI r (w64 (1 * 2 ^ (min (Int.toNat (j : Int)) 64)))))) ≤ n))) rfl rfl rfl (bi_leq rfl) (aN (ac_then' (b := decide ((w64 ((orI r (w64 (1 * 2 ^ (min (Int.toNat (j : Int)) 64)))) * (orI r (w64 (1 * 2 ^ (min (Int.toNat (j : Int)) 64)))))) ≤ n)) h9 rfl (aL ?_))))))
   refine aM 32 (.int .i64 (orI r (w64 (1 * 2 ^ (min (Int.toNat (j : Int)) 64))))) rfl rfl (aA 7 (.int .i64 (orI r (w64 (1 * 2 ^ (min (Int.toNat (j : Int)) 64))))) rfl rfl (aN (aL (aM 21 (.int .i64 (j : Int)) rfl rfl (aB 22 (.int .i64 (w64 ((j : Int) - 1))) rfl rfl rfl (bi_sub rfl) (aA 8 (.int .i64 (w64 ((j : Int) - 1))) rfl rfl (aN ?_)))))))
   refine ih _ _ _ (by omega) (w64_id (by omega)) rfl rfl rfl rfl (fun E' a b c => hn E' a b ?_)
   rw [c, numRootLoop, h9]; rfl
def numRoot_e0 (a : Int) (up : Bool) : Int := (bif decide ((w64 ((numRootLoop (w64 (a * 65536)) 25 0) * (numRootLoop (w64 (a * 65536)) 25 0))) < (w64 (a * 65536))) then (w64 ((numRootLoop (w64 (a * 65536)) 25 0) + 1)) else (numRootLoop (w64 (a * 65536)) 25 0))
def numRoot (a : Int) (up : Bool) : Int × Bool := (bif decide (a < 0) then (0, false) else (bif numIn a then (bif up then ((numRoot_e0 a up), true) else (numRootLoop (w64 (a * 65536)) 25 0, true)) else (0, false)))
set_option maxRecDepth 100000 in
theorem c_numRoot (a : Int) (up : Bool) : Gets Tryz.prog 96 #[.int .i64 a, .bool up] ((fun (r : Int × Bool) => (.tuple #[.int .i64 r.1, .bool r.2] : Value)) (numRoot a up)) := by
 refine gets_fin Tryz.func96 rfl rfl rfl (aQ (aL (aA 4 (.int .i64 0) rfl rfl (aA 5 (.bool false) rfl rfl (aN (aQ (aQ (aL (aM 10 (.int .i64 a) rfl rfl (aB 11 (.bool (decide (a < 0))) rfl rfl rfl (bi_lss rfl) (aM 12 (.bool (decide (a < 0))) rfl rfl ?_)))))))))))
 refine bool_split (decide (a < 0)) (fun h1 => ?_) (fun h1 => ?_)
 ·refine aK 13 (by show ((decide (a < 0)) == false) = false; rw [h1]; rfl) rfl (aK 14 (by show ((decide (a < 0)) == false) = false; rw [h1]; rfl) rfl (aK 15 (by show ((decide (a < 0)) == false) = false; rw [h1]; rfl) rfl (ao 16 rfl rfl (st_pkt' (b := decide (a < 0)) (v := .bool true) h1 rfl rfl rfl (aN (ac_then rfl (aQ (aL (aA 4 (.int .i64 0) rfl rfl (aA 5 (.bool false) rfl rfl (aN (ac_ret (fin_eq (v := .tuple #[.int .i64 0, .bool false]) (by show _ = (fun (r : Int × Bool) => (.tuple #[.int .i64 r.1, .bool r.2] : Value)) (numRoot a up); rw [numRoot, h1] <;> rfl) (fin_ret (res_tt rfl rfl rfl)))))))))))))))
 ·refine ar_gd (d := (some 13)) (by show ((decide (a < 0)) == false) = true; rw [h1]; rfl) rfl (st_move (v := .int .i64 a) rfl rfl (ar_gd (d := (some 14)) (by show ((decide (a < 0)) == false) = true; rw [h1]; rfl) rfl (st_cf (c_numIn a) Tryz.func65 rfl (by decide) rfl rfl rfl (ar_gd (d := (some 15)) (by show ((decide (a < 0)) == false) = true; rw [h1]; rfl) rfl (st_un (v := .bool (!(numIn a))) rfl rfl (un_not rfl) (ao 16 rfl rfl (st_pkf' (b := decide (a < 0)) (v := .bool (!(numIn a))) h1 rfl rfl rfl (aN ?_))))))))
  refine bool_split (numIn a) (fun h2 => ?_) (fun h2 => ?_)
  ·refine ac_else' (b := !(numIn a)) (by rw [h2]; rfl) rfl (ac_skip (aQ (aL (aM 17 (.int .i64 a) rfl rfl (aB 18 (.int .i64 (w64 (a * 65536))) rfl rfl rfl (bi_mul rfl) (aA 6 (.int .i64 (w64 (a * 65536))) rfl rfl (aA 7 (.int .i64 0) rfl rfl (aN (aQ (aQ (aL (aA 8 (.int .i64 24) rfl rfl (aN (ac_block ?_))))))))))))))
   refine ac_rounds 26 ?_
   refine c_numRoot_loop (n := (w64 (a * 65536))) (up := up) rfl 25 0 _ _ (by decide) rfl rfl rfl rfl rfl (fun E1 q1 q6 q7 => ?_)
   obtain ⟨E0, rfl⟩ := env3 q1 q6 q7
   refine aQ (aQ (aL (aM 33 (.bool up) rfl rfl (aM 34 (.bool up) rfl rfl ?_))))
   refine bool_split (up) (fun h3 => ?_) (fun h3 => ?_)
   ·refine ar_gd (d := (some 35)) (by show (up == true) = true; rw [h3]; rfl) rfl (st_move (v := .int .i64 (numRootLoop (w64 (a * 65536)) 25 0)) rfl rfl (ar_gd (d := (some 36)) (by show (up == true) = true; rw [h3]; rfl) rfl (st_move (v := .int .i64 (numRootLoop (w64 (a * 65536)) 25 0)) rfl rfl (ar_gd (d := (some 37)) (by show (up == true) = true; rw [h3]; rfl) rfl (st_bi (r := .int .i64 (w64 ((numRootLoop (w64 (a * 65536)) 25 0) * (numRootLoop (w64 (a * 65536)) 25 0)))) rfl rfl rfl (bi_mul rfl) (ar_gd (d := (some 38)) (by show (up == true) = true; rw [h3]; rfl) rfl (st_move (v := .int .i64 (w64 (a * 65536))) rfl rfl ?_)))))))
    refine ar_gd (d := (some 39)) (by show (up == true) = true; rw [h3]; rfl) rfl (st_bi (r := .bool (decide ((w64 ((numRootLoop (w64 (a * 65536)) 25 0) * (numRootLoop (w64 (a * 65536)) 25 0))) < (w64 (a * 65536))))) rfl rfl rfl (bi_lss rfl) (ao 40 rfl rfl (st_pkt' (b := up) (v := .bool (decide ((w64 ((numRootLoop (w64 (a * 65536)) 25 0) * (numRootLoop (w64 (a * 65536)) 25 0))) < (w64 (a * 65536))))) h3 rfl rfl rfl (aN ?_))))
    refine ac_mergeE (fun E9 => (((Env.put E9 (some 41) (.int .i64 (numRootLoop (w64 (a * 65536)) 25 0))).put (some 42) (.int .i64 (w64 ((numRootLoop (w64 (a * 65536)) 25 0) + 1)))).put (some 7) (.int .i64 (w64 ((numRootLoop (w64 (a * 65536)) 25 0) + 1))))) (fun E9 => (((Env.put E9 (some 41) (bif decide ((w64 ((numRootLoop (w64 (a * 65536)) 25 0) * (numRootLoop (w64 (a * 65536)) 25 0))) < (w64 (a * 65536))) then (.int .i64 (numRootLoop (w64 (a * 65536)) 25 0) : Value) else E9 41)).put (some 42) (bif decide ((w64 ((numRootLoop (w64 (a * 65536)) 25 0) * (numRootLoop (w64 (a * 65536)) 25 0))) < (w64 (a * 65536))) then (.int .i64 (w64 ((numRootLoop (w64 (a * 65536)) 25 0) + 1)) : Value) else E9 42)).put (some 7) (.int .i64 (numRoot_e0 a up)))) (b := decide ((w64 ((numRootLoop (w64 (a * 65536)) 25 0) * (numRootLoop (w64 (a * 65536)) 25 0))) < (w64 (a * 65536)))) rfl (fun hm => ?_) (fun hm => ?_) (fun hm => ?_) ?_
    ·refine aL (aM 41 (.int .i64 (numRootLoop (w64 (a * 65536)) 25 0)) rfl rfl (aB 42 (.int .i64 (w64 ((numRootLoop (w64 (a * 65536)) 25 0) + 1))) rfl rfl rfl (bi_add rfl) (aA 7 (.int .i64 (w64 ((numRootLoop (w64 (a * 65536)) 25 0) + 1))) rfl rfl (aN ?_))))
     exact ⟨rfl, rfl, rfl⟩
    ·unfold numRoot_e0; rw [hm]; rfl
    ·unfold numRoot_e0; rw [hm]; exact ((put_self rfl).trans ((put_self rfl).trans (put_self rfl)))
    refine aQ (aL (aM 43 (.int .i64 (numRoot_e0 a up)) rfl rfl (aA 4 (.int .i64 (numRoot_e0 a up)) rfl rfl (aA 5 (.bool true) rfl rfl (aN (ac_ret (fin_eq (v := .tuple #[.int .i64 (numRoot_e0 a up), .bool true]) (by show _ = (fun (r : Int × Bool) => (.tuple #[.int .i64 r.1, .bool r.2] : Value)) (numRoot a up); rw [numRoot, h3, h2, h1] <;> rfl) (fin_ret (res_tt rfl rfl rfl)))))))))
   ·refine aK 35 (by show (up == true) = false; rw [h3]; rfl) rfl (aK 36 (by show (up == true) = false; rw [h3]; rfl) rfl (aK 37 (by show (up == true) = false; rw [h3]; rfl) rfl (aK 38 (by show (up == true) = false; rw [h3]; rfl) rfl (aK 39 (by show (up == true) = false; rw [h3]; rfl) rfl (ao 40 rfl rfl (st_pkf' (b := up) (v := .bool false) h3 rfl rfl rfl (aN (ac_else rfl (ac_skip (aQ (aL (aM 43 (.int .i64 (numRootLoop (w64 (a * 65536)) 25 0)) rfl rfl (aA 4 (.int .i64 (numRootLoop (w64 (a * 65536)) 25 0)) rfl rfl (aA 5 (.bool true) rfl rfl (aN (ac_ret ?_))))))))))))))))
    exact fin_eq (v := .tuple #[.int .i64 (numRootLoop (w64 (a * 65536)) 25 0), .bool true]) (by show _ = (fun (r : Int × Bool) => (.tuple #[.int .i64 r.1, .bool r.2] : Value)) (numRoot a up); rw [numRoot, h3, h2, h1] <;> rfl) (fin_ret (res_tt rfl rfl rfl))
  ·refine ac_then' (b := !(numIn a)) (by rw [h2]; rfl) rfl (aQ (aL (aA 4 (.int .i64 0) rfl rfl (aA 5 (.bool false) rfl rfl (aN (ac_ret (fin_eq (v := .tuple #[.int .i64 0, .bool false]) (by show _ = (fun (r : Int × Bool) => (.tuple #[.int .i64 r.1, .bool r.2] : Value)) (numRoot a up); rw [numRoot, h2, h1] <;> rfl) (fin_ret (res_tt rfl rfl rfl)))))))))
end Go.Proofs.YtalffjplbhelcaaGreatDoor
namespace Go.Proofs.YtalffjplbhelcaaGreatDoor
theorem w64_of {n : Int} (h : -9223372036854775808 ≤ n) (h' : n ≤ 9223372036854775807) : w64 n = n := w64_id ⟨h, h'⟩
theorem numIn_iff (n : Int) : numIn n = true ↔ -1073741824 ≤ n ∧ n ≤ 1073741824 := by
  unfold numIn
  by_cases h : n ≥ -1073741824 <;> simp [h] <;> omega
theorem rIn_eq (n : Int) : rIn n = numIn n := rfl
theorem tmod_lt_neg (a : Int) {b : Int} (hb : b < 0) : a.tmod b < -b ∧ b < a.tmod b := by
  have h1 := Int.tmod_lt_of_pos a (b := -b) (by omega)
  have h2 := Int.lt_tmod_of_pos a (b := -b) (by omega)
  rw [Int.tmod_neg] at h1 h2
  omega
theorem tmod_sign (a b : Int) : (0 ≤ a → 0 ≤ a.tmod b) ∧ (a ≤ 0 → a.tmod b ≤ 0) := by
  refine ⟨fun h => Int.tmod_nonneg b h, fun h => ?_⟩
  have := Int.tmod_nonneg b (a := -a) (by omega)
  rw [Int.neg_tmod] at this
  omega
theorem tdiv_abs (a : Int) {b : Int} (hb : b ≠ 0) (h : -9223372036854775808 < a ∧ a ≤ 9223372036854775807) : -9223372036854775807 ≤ a.tdiv b ∧ a.tdiv b ≤ 9223372036854775807 := by
  have h1 : (a.tdiv b).natAbs ≤ a.natAbs := by
    rw [Int.natAbs_tdiv]
    exact Nat.div_le_self _ _
  omega
theorem numFloor_spec (a : Int) {b : Int} (hb : b ≠ 0) (h : -9223372036854775808 < a ∧ a ≤ 9223372036854775807) :
    (0 < b → numFloor a b = a / b) ∧ (b < 0 → numFloor a b = (-a) / (-b)) := by
  have ht := tdiv_abs a hb h
  have he := Int.mul_tdiv_add_tmod a b
  have hs := tmod_sign a b
  have hne : (b == 0) = false := by simpa using hb
  have h0 : ∀ b' : Int, 0 < b' → ∀ a' q r : Int, b' * q + r = a' → 0 ≤ r → r < b' → a' / b' = q := fun b' hb' a' q r h1 h2 h3 =>
    ((Int.ediv_emod_unique (r := r) (q := q) hb').2 ⟨by omega, h2, h3⟩).1
  have hw1 : w64 (a.tdiv b) = a.tdiv b := w64_of (by omega) (by omega)
  have hw2 : w64 (a.tdiv b - 1) = a.tdiv b - 1 := w64_of (by omega) (by omega)
  unfold numFloor numFloor_e0
  rw [hne, hw1, hw2]
  simp only [cond_false]
  refine ⟨fun hp => ?_, fun hn => ?_⟩
  · have hl := Int.tmod_lt_of_pos a hp
    have hl' := Int.lt_tmod_of_pos a hp
    by_cases hr : a.tmod b = 0
    · simp only [hr, bne_self_eq_false, cond_false]
      exact (h0 b hp a _ _ he (by omega) (by omega)).symm
    · have hr' : (a.tmod b != 0) = true := by simpa using hr
      have hbn : decide (b < 0) = false := decide_eq_false (by omega)
      rw [hr', hbn]
      simp only [cond_true]
      by_cases ha : a < 0
      · simp only [ha, decide_true, Bool.bne_false, cond_true]
        refine (h0 b hp a (a.tdiv b - 1) (a.tmod b + b) ?_ (by omega) (by omega)).symm
        rw [Int.mul_sub, Int.mul_one]
        omega
      · simp only [ha, decide_false, bne_self_eq_false, cond_false]
        exact (h0 b hp a _ _ he (hs.1 (by omega)) hl).symm
  · obtain ⟨hl, hl'⟩ := tmod_lt_neg a hn
    have hpn : 0 < -b := by omega
    by_cases hr : a.tmod b = 0
    · simp only [hr, bne_self_eq_false, cond_false]
      refine (h0 (-b) hpn (-a) _ (-(a.tmod b)) ?_ (by omega) (by omega)).symm
      rw [Int.neg_mul]
      omega
    · have hr' : (a.tmod b != 0) = true := by simpa using hr
      have hbn : decide (b < 0) = true := decide_eq_true hn
      rw [hr', hbn]
      simp only [cond_true]
      by_cases ha : a < 0
      · simp only [ha, decide_true, bne_self_eq_false, cond_false]
        refine (h0 (-b) hpn (-a) _ (-(a.tmod b)) ?_ (by have := hs.2 (by omega); omega) (by omega)).symm
        rw [Int.neg_mul]
        omega
      · simp only [ha, decide_false, Bool.bne_true, Bool.not_false, cond_true]
        refine (h0 (-b) hpn (-a) (a.tdiv b - 1) (-(a.tmod b) - b) ?_ (by have := hs.1 (by omega); omega) (by have := hs.1 (by omega); omega)).symm
        rw [Int.mul_sub, Int.neg_mul, Int.mul_one]
        omega
def dn (a b : Int) : Int := a / b
def upq (a b : Int) : Int := -((-a) / b)
def rq (a b : Int) (up : Bool) : Int := bif up then upq a b else dn a b
theorem dn_le {a b : Int} (hb : 0 < b) : dn a b * b ≤ a ∧ a < (dn a b + 1) * b := by
  unfold dn
  have h1 := Int.mul_ediv_add_emod a b
  have h2 := Int.emod_nonneg a (Int.ne_of_gt hb)
  have h3 := Int.emod_lt_of_pos a hb
  rw [Int.add_mul, Int.one_mul, Int.mul_comm]
  omega
theorem upq_eq {a b : Int} (hb : 0 < b) : upq a b = if a % b = 0 then a / b else a / b + 1 := by
  have h1 := Int.mul_ediv_add_emod a b
  have h2 := Int.emod_nonneg a (Int.ne_of_gt hb)
  have h3 := Int.emod_lt_of_pos a hb
  unfold upq
  split
  · rename_i h
    have : (-a) / b = -(a / b) := ((Int.ediv_emod_unique (r := 0) hb).2 ⟨by rw [Int.mul_neg]; omega, by omega, hb⟩).1
    omega
  · rename_i h
    have : (-a) / b = -(a / b) - 1 := ((Int.ediv_emod_unique (r := b - a % b) hb).2 ⟨by rw [Int.mul_sub, Int.mul_neg, Int.mul_one]; omega, by omega, by omega⟩).1
    omega
def told (q : Int) : Int × Bool := bif numIn q then (q, true) else (0, false)
theorem tmod_zero_iff (a : Int) (b : Int) : a.tmod b = 0 ↔ a % b = 0 := by
  rw [← Int.dvd_iff_tmod_eq_zero, Int.dvd_iff_emod_eq_zero]
theorem numRounded_pos (a : Int) {b : Int} (hb : 0 < b) (h : -9223372036854775808 < a ∧ a < 9223372036854775807) (up : Bool) : numRounded a b up = told (rq a b up) := by
  have hf := (numFloor_spec a (Int.ne_of_gt hb) (by omega)).1 hb
  have hq : -9223372036854775808 ≤ a / b ∧ a / b < 9223372036854775807 := by
    have h1 := tdiv_abs a (Int.ne_of_gt hb) (by omega)
    have h2 := dn_le (a := a) hb
    unfold dn at h2
    constructor
    · have : -9223372036854775808 * b ≤ a := by
        have : -9223372036854775808 * b ≤ -9223372036854775808 * 1 := Int.mul_le_mul_of_nonpos_left (by omega) (by omega)
        omega
      refine Decidable.byContradiction fun hc => ?_
      have : (a / b + 1) * b ≤ -9223372036854775808 * b := Int.mul_le_mul_of_nonneg_right (by omega) (by omega)
      omega
    · refine Decidable.byContradiction fun hc => ?_
      have : 9223372036854775807 * 1 ≤ a / b * b := Int.mul_le_mul (by omega) (by omega) (by omega) (by omega)
      omega
  unfold numRounded numRounded_e0 rq
  rw [hf]
  have hw : w64 (a / b + 1) = a / b + 1 := w64_of (by omega) (by omega)
  rw [hw]
  cases up
  · rfl
  · simp only [cond_true]
    rw [upq_eq hb]
    by_cases hz : a % b = 0
    · have h1 := (tmod_zero_iff a b).2 hz
      simp only [h1, bne_self_eq_false, cond_false, hz, if_true]
      rfl
    · have h1 : ¬ a.tmod b = 0 := fun e => hz ((tmod_zero_iff a b).1 e)
      have h2 : (a.tmod b != 0) = true := by simpa using h1
      simp only [h2, cond_true, hz, if_false]
      rfl
end Go.Proofs.YtalffjplbhelcaaGreatDoor
namespace Go.Proofs.YtalffjplbhelcaaGreatDoor
open Go.RowKit
attribute [local irreducible] AC AR DWalk
def rPoint (n : Int) : Iv := (rOf n n)
set_option maxRecDepth 100000 in
theorem c_rPoint (n : Int) : Gets Tryz.prog 55 #[.int .i64 n] (Iv.v (rPoint n)) := by
 refine gets_fin Tryz.func55 rfl rfl rfl (aQ (aL (ao 2 rfl rfl (st_new zero32 rfl fun g0 => (aN (aQ (aL (aM 3 (.int .i64 n) rfl rfl (aM 4 (.int .i64 n) rfl rfl (aC 5 (c_rOf n n) Tryz.func78 ⟨rfl, by decide⟩ rfl rfl (aS [.int .i64 ((rOf n n).lo), .int .i64 ((rOf n n).hi), .bool ((rOf n n).no)] agg32 0 rfl rfl rfl rfl rfl rfl (aN (ac_ret (fin_eq (v := (Iv.v (rOf n n))) rfl (fin_ret (res_c (vs := [.int .i64 ((rOf n n).lo), .int .i64 ((rOf n n).hi), .bool ((rOf n n).no)]) agg32 0 rfl rfl rfl rfl rfl rfl))))))))))))))))
def rWhole (n : Int) : Iv := (bif rIn n then (rPoint (w64 (n * 65536))) else rNone)
set_option maxRecDepth 100000 in
theorem c_rWhole (n : Int) : Gets Tryz.prog 46 #[.int .i64 n] (Iv.v (rWhole n)) := by
 refine gets_fin Tryz.func46 rfl rfl rfl (aQ (aL (ao 2 rfl rfl (st_new zero32 rfl fun g0 => (aN (aQ (aQ (aL (aM 3 (.int .i64 n) rfl rfl (aC 4 (c_rIn n) Tryz.func91 ⟨rfl, by decide⟩ rfl rfl (ao 5 rfl rfl (st_un (v := .bool (!(rIn n))) rfl rfl (un_not rfl) (aN ?_)))))))))))))
 refine bool_split (rIn n) (fun h1 => ?_) (fun h1 => ?_)
 ·refine ac_else' (b := !(rIn n)) (by rw [h1]; rfl) rfl (ac_skip (aQ (aL (aM 7 (.int .i64 n) rfl rfl (aB 8 (.int .i64 (w64 (n * 65536))) rfl rfl rfl (bi_mul rfl) (aC 9 (c_rPoint (w64 (n * 65536))) Tryz.func55 ⟨rfl, by decide⟩ rfl rfl (aS [.int .i64 ((rPoint (w64 (n * 65536))).lo), .int .i64 ((rPoint (w64 (n * 65536))).hi), .bool ((rPoint (w64 (n * 65536))).no)] agg32 0 rfl rfl rfl rfl rfl rfl (aN (ac_ret ?_)))))))))
  exact fin_eq (v := (Iv.v (rPoint (w64 (n * 65536))))) (by show _ = Iv.v (rWhole n); rw [rWhole, h1] <;> rfl) (fin_ret (res_c (vs := [.int .i64 ((rPoint (w64 (n * 65536))).lo), .int .i64 ((rPoint (w64 (n * 65536))).hi), .bool ((rPoint (w64 (n * 65536))).no)]) agg32 0 rfl rfl rfl rfl rfl rfl))
 ·refine ac_then' (b := !(rIn n)) (by rw [h1]; rfl) rfl (aQ (aL (aC 6 c_rNone Tryz.func62 ⟨rfl, by decide⟩ rfl rfl (aS [.int .i64 rNone.lo, .int .i64 rNone.hi, .bool rNone.no] agg32 0 rfl rfl rfl rfl rfl rfl (aN (ac_ret (fin_eq (v := (Iv.v rNone)) (by show _ = Iv.v (rWhole n); rw [rWhole, h1] <;> rfl) (fin_ret (res_c (vs := [.int .i64 rNone.lo, .int .i64 rNone.hi, .bool rNone.no]) agg32 0 rfl rfl rfl rfl rfl rfl)))))))))
end Go.Proofs.YtalffjplbhelcaaGreatDoor
namespace Go.Proofs.YtalffjplbhelcaaGreatDoor
open Go.RowKit
attribute [local irreducible] AC AR DWalk
def within (n : Int) (low : Int) (high : Int) : Int := max low (min high n)
set_option maxRecDepth 100000 in
theorem c_within (n : Int) (low : Int) (high : Int) : Gets Tryz.prog 48 #[.int .i64 n, .int .i64 low, .int .i64 high] ((fun (r : Int) => (.int .i64 r : Value)) (within n low high)) := by
 refine gets_fin Tryz.func48 rfl rfl rfl (aQ (aL (aA 6 (.int .i64 0) rfl rfl (aN (aQ (aL (aM 7 (.int .i64 low) rfl rfl (aM 8 (.int .i64 high) rfl rfl (aM 9 (.int .i64 n) rfl rfl (ao 10 rfl rfl (st_mn (x := high) (y := n) (c := (min high n)) rfl rfl rfl (ao 11 rfl rfl (st_mx (x := low) (y := (min high n)) (c := (max low (min high n))) rfl rfl rfl (aA 6 (.int .i64 (max low (min high n))) rfl rfl (aN (ac_ret (fin_eq (v := .int .i64 (max low (min high n))) rfl (fin_ret (res_tmp rfl rfl)))))))))))))))))))
def hWide (x : Int) (w : Int) : Iv := (⟨(within x (-1073741824) 1073741824), min 1073741824 (w64 ((within x (-1073741824) 1073741824) + w)), false⟩ : Iv)
set_option maxRecDepth 100000 in
theorem c_hWide (x : Int) (w : Int) : Gets Tryz.prog 12 #[.int .i64 x, .int .i64 w] (Iv.v (hWide x w)) := by
 refine gets_fin Tryz.func12 rfl rfl rfl (aQ (aL (ao 4 rfl rfl (st_new zero32 rfl fun g0 => (aN (aQ (aL (aM 5 (.int .i64 x) rfl rfl (aC 6 (c_within x (-1073741824) 1073741824) Tryz.func48 ⟨rfl, by decide⟩ rfl rfl (aA 0 (.int .i64 (within x (-1073741824) 1073741824)) rfl rfl (aN (aQ (aL (aM 7 (.int .i64 (within x (-1073741824) 1073741824)) rfl rfl (aM 8 (.int .i64 (within x (-1073741824) 1073741824)) rfl rfl (aM 9 (.int .i64 w) rfl rfl (aB 10 (.int .i64 (w64 ((within x (-1073741824) 1073741824) + w))) rfl rfl rfl (bi_add rfl) ?_)))))))))))))))))
 refine ao 11 rfl rfl (st_mn (x := 1073741824) (y := (w64 ((within x (-1073741824) 1073741824) + w))) (c := (min 1073741824 (w64 ((within x (-1073741824) 1073741824) + w)))) rfl rfl rfl (ao 12 rfl rfl (st_bd (us := [(0, .int .i64 (within x (-1073741824) 1073741824)), (1, .int .i64 (min 1073741824 (w64 ((within x (-1073741824) 1073741824) + w))))]) (v := .agg #[.int .i64 (within x (-1073741824) 1073741824), .int .i64 (min 1073741824 (w64 ((within x (-1073741824) 1073741824) + w))), .bool false]) rfl rfl (bd32_0_1 _ _) ?_)))
 refine aS [.int .i64 (within x (-1073741824) 1073741824), .int .i64 (min 1073741824 (w64 ((within x (-1073741824) 1073741824) + w))), .bool false] agg32 0 rfl rfl rfl rfl rfl rfl (aN (ac_ret (fin_eq (v := .agg #[.int .i64 (within x (-1073741824) 1073741824), .int .i64 (min 1073741824 (w64 ((within x (-1073741824) 1073741824) + w))), .bool false]) rfl (fin_ret (res_c (vs := [.int .i64 (within x (-1073741824) 1073741824), .int .i64 (min 1073741824 (w64 ((within x (-1073741824) 1073741824) + w))), .bool false]) agg32 0 rfl rfl rfl rfl rfl rfl)))))
end Go.Proofs.YtalffjplbhelcaaGreatDoor
namespace Go.Proofs.YtalffjplbhelcaaGreatDoor
theorem rRight_iff (a : Iv) : rRight a = true ↔ a.no = false ∧ -1073741824 ≤ a.lo ∧ a.lo ≤ a.hi ∧ a.hi ≤ 1073741824 := by
  obtain ⟨lo, hi, no⟩ := a
  unfold rRight
  simp only [rIn_eq]
  cases no <;> simp [numIn_iff, Bool.cond_eq_ite, Bool.and_eq_true] <;> omega
theorem in_nz1 (a : Iv) (h : rRight a = true) : w64 (w64 (a.hi - a.lo) + 1) ≠ 0 := by
  have := (rRight_iff a).1 h
  rw [w64_of (n := a.hi - a.lo) (by omega) (by omega), w64_of (by omega) (by omega)]
  omega
theorem in_nz2 (a : Iv) (x : Int) (h : rRight a = true) : w64 (w64 (a.hi - w64 (a.lo + hPick x (w64 (w64 (a.hi - a.lo) + 1)))) + 1) ≠ 0 := by
  have := (rRight_iff a).1 h
  have h1 : w64 (w64 (a.hi - a.lo) + 1) = a.hi - a.lo + 1 := by
    rw [w64_of (n := a.hi - a.lo) (by omega) (by omega), w64_of (by omega) (by omega)]
  rw [h1]
  have h2 := hPick_lt x (m := a.hi - a.lo + 1) (by omega) (by omega)
  rw [w64_of (n := a.lo + hPick x (a.hi - a.lo + 1)) (by omega) (by omega)]
  rw [w64_of (n := a.hi - _) (by omega) (by omega), w64_of (by omega) (by omega)]
  omega
end Go.Proofs.YtalffjplbhelcaaGreatDoor
namespace Go.Proofs.YtalffjplbhelcaaGreatDoor
open Go.RowKit
end Go.Proofs.YtalffjplbhelcaaGreatDoor
namespace Go.Proofs.YtalffjplbhelcaaGreatDoor
open Go.RowKit
attribute [local irreducible] AC AR DWalk
def hIn_e0 (a : Iv) (x : Int) (y : Int) : Int := (hPick y (w64 ((w64 (a.hi - (w64 (a.lo + (hPick x (w64 ((w64 (a.hi - a.lo)) + 1))))))) + 1)))
def hIn (a : Iv) (x : Int) (y : Int) : Iv := (bif rRight a then (⟨w64 (a.lo + (hPick x (w64 ((w64 (a.hi - a.lo)) + 1)))), w64 ((w64 (a.lo + (hPick x (w64 ((w64 (a.hi - a.lo)) + 1))))) + (hIn_e0 a x y)), false⟩ : Iv) else a)
set_option maxRecDepth 100000 in
theorem c_hIn (a : Iv) (x : Int) (y : Int) : Gets Tryz.prog 44 #[.agg #[.int .i64 a.lo, .int .i64 a.hi, .bool a.no], .int .i64 x, .int .i64 y] (Iv.v (hIn a x y)) := by
 refine gets_fin Tryz.func44 rfl rfl rfl (aQ (aL (ao 3 rfl rfl (st_box (v := .agg #[.int .i64 a.lo, .int .i64 a.hi, .bool a.no]) (cs := [.int .i64 a.lo, .int .i64 a.hi, .bool a.no]) rfl rfl rfl fun g0 => (ao 6 rfl rfl (st_new zero32 rfl fun g1 => (aN (aQ (aQ (aL (aG 8 [.int .i64 a.lo, .int .i64 a.hi, .bool a.no] agg32 1 rfl rfl rfl rfl rfl (aC 9 (c_rRight a) Tryz.func89 ⟨rfl, by decide⟩ rfl rfl (ao 10 rfl rfl (st_un (v := .bool (!(rRight a))) rfl rfl (un_not rfl) (aN ?_)))))))))))))))
 refine bool_split (rRight a) (fun h1 => ?_) (fun h1 => ?_)
 ·refine ac_else' (b := !(rRight a)) (by rw [h1]; rfl) rfl (ac_skip (aQ ?_))
  refine ac_draw0 (id := 3) [0, 1, 2, 3, 4, 5, 6, 7, 8, 9, 10, 11] [] _ (by kernel_rfl) follows rfl  (dw_op (d := some 12) _ rfl rfl rfl (st_fa rfl fa32_0 rfl ⟨rfl, rfl⟩) (dw_op (d := some 13) _ rfl rfl rfl (st_ldc (v := .int .i64 a.lo) cell3 1 rfl rfl rfl rfl rfl ⟨rfl, rfl⟩) (dw_op (d := some 14) _ rfl rfl rfl (st_move (v := .int .i64 x) rfl rfl ⟨rfl, rfl⟩) (dw_op (d := some 15) _ rfl rfl rfl (st_fa rfl fa32_1 rfl ⟨rfl, rfl⟩) (dw_op (d := some 16) _ rfl rfl rfl (st_ldc (v := .int .i64 a.hi) cell3 1 rfl rfl rfl rfl rfl ⟨rfl, rfl⟩) (dw_op (d := some 17) _ rfl rfl rfl (st_fa rfl fa32_0 rfl ⟨rfl, rfl⟩) ?_))))))
  refine dw_op (d := some 18) _ rfl rfl rfl (st_ldc (v := .int .i64 a.lo) cell3 1 rfl rfl rfl rfl rfl ⟨rfl, rfl⟩) (dw_op (d := some 19) _ rfl rfl rfl (st_bi (r := .int .i64 (w64 (a.hi - a.lo))) rfl rfl rfl (bi_sub rfl) ⟨rfl, rfl⟩) (dw_op (d := some 20) _ rfl rfl rfl (st_bi (r := .int .i64 (w64 ((w64 (a.hi - a.lo)) + 1))) rfl rfl rfl (bi_add rfl) ⟨rfl, rfl⟩) (dw_op (d := some 21) _ rfl rfl rfl (st_cf (c_hPick x (w64 ((w64 (a.hi - a.lo)) + 1)) (in_nz1 a h1)) Tryz.func10 rfl (by decide) rfl rfl rfl ⟨rfl, rfl⟩) (dw_op (d := some 22) _ rfl rfl rfl (st_bi (r := .int .i64 (w64 (a.lo + (hPick x (w64 ((w64 (a.hi - a.lo)) + 1)))))) rfl rfl rfl (bi_add rfl) ⟨rfl, rfl⟩) ?_))))
  refine dw_op (d := some 7) _ rfl rfl rfl (st_assign (v := .int .i64 (w64 (a.lo + (hPick x (w64 ((w64 (a.hi - a.lo)) + 1)))))) rfl rfl ⟨rfl, rfl⟩) (dw_nil (aN (aQ (aL (aM 23 (.int .i64 (w64 (a.lo + (hPick x (w64 ((w64 (a.hi - a.lo)) + 1)))))) rfl rfl (aM 24 (.int .i64 (w64 (a.lo + (hPick x (w64 ((w64 (a.hi - a.lo)) + 1)))))) rfl rfl (aM 25 (.int .i64 y) rfl rfl (aF 26 fa32_1 rfl rfl (aD 27 (.int .i64 a.hi) cell3 1 rfl rfl rfl rfl (aM 28 (.int .i64 (w64 (a.lo + (hPick x (w64 ((w64 (a.hi - a.lo)) + 1)))))) rfl rfl (aB 29 (.int .i64 (w64 (a.hi - (w64 (a.lo + (hPick x (w64 ((w64 (a.hi - a.lo)) + 1)))))))) rfl rfl rfl (bi_sub rfl) ?_)))))))))))
  refine aB 30 (.int .i64 (w64 ((w64 (a.hi - (w64 (a.lo + (hPick x (w64 ((w64 (a.hi - a.lo)) + 1))))))) + 1))) rfl rfl rfl (bi_add rfl) (aC 31 (c_hPick y (w64 ((w64 (a.hi - (w64 (a.lo + (hPick x (w64 ((w64 (a.hi - a.lo)) + 1))))))) + 1)) (in_nz2 a x h1)) Tryz.func10 ⟨rfl, by decide⟩ rfl rfl (aB 32 (.int .i64 (w64 ((w64 (a.lo + (hPick x (w64 ((w64 (a.hi - a.lo)) + 1))))) + (hIn_e0 a x y)))) rfl rfl rfl (bi_add rfl) ?_))
  refine ao 33 rfl rfl (st_bd (us := [(0, .int .i64 (w64 (a.lo + (hPick x (w64 ((w64 (a.hi - a.lo)) + 1)))))), (1, .int .i64 (w64 ((w64 (a.lo + (hPick x (w64 ((w64 (a.hi - a.lo)) + 1))))) + (hIn_e0 a x y))))]) (v := .agg #[.int .i64 (w64 (a.lo + (hPick x (w64 ((w64 (a.hi - a.lo)) + 1))))), .int .i64 (w64 ((w64 (a.lo + (hPick x (w64 ((w64 (a.hi - a.lo)) + 1))))) + (hIn_e0 a x y))), .bool false]) rfl rfl (bd32_0_1 _ _) (aS [.int .i64 (w64 (a.lo + (hPick x (w64 ((w64 (a.hi - a.lo)) + 1))))), .int .i64 (w64 ((w64 (a.lo + (hPick x (w64 ((w64 (a.hi - a.lo)) + 1))))) + (hIn_e0 a x y))), .bool false] agg32 0 rfl rfl rfl rfl rfl rfl (aN (ac_ret ?_))))
  exact fin_eq (v := .agg #[.int .i64 (w64 (a.lo + (hPick x (w64 ((w64 (a.hi - a.lo)) + 1))))), .int .i64 (w64 ((w64 (a.lo + (hPick x (w64 ((w64 (a.hi - a.lo)) + 1))))) + (hIn_e0 a x y))), .bool false]) (by show _ = Iv.v (hIn a x y); rw [hIn, h1] <;> rfl) (fin_ret (res_c (vs := [.int .i64 (w64 (a.lo + (hPick x (w64 ((w64 (a.hi - a.lo)) + 1))))), .int .i64 (w64 ((w64 (a.lo + (hPick x (w64 ((w64 (a.hi - a.lo)) + 1))))) + (hIn_e0 a x y))), .bool false]) agg32 0 rfl rfl rfl rfl rfl rfl))
 ·refine ac_then' (b := !(rRight a)) (by rw [h1]; rfl) rfl (aQ (aL (aG 11 [.int .i64 a.lo, .int .i64 a.hi, .bool a.no] agg32 1 rfl rfl rfl rfl rfl (aS [.int .i64 a.lo, .int .i64 a.hi, .bool a.no] agg32 0 rfl rfl rfl rfl rfl rfl (aN (ac_ret (fin_eq (v := .agg #[.int .i64 a.lo, .int .i64 a.hi, .bool a.no]) (by show _ = Iv.v (hIn a x y); rw [hIn, h1] <;> rfl) (fin_ret (res_c (vs := [.int .i64 a.lo, .int .i64 a.hi, .bool a.no]) agg32 0 rfl rfl rfl rfl rfl rfl)))))))))
end Go.Proofs.YtalffjplbhelcaaGreatDoor
namespace Go.Proofs.YtalffjplbhelcaaGreatDoor
open Go.RowKit
attribute [local irreducible] AC AR DWalk
def ivRight (a : Iv) : Bool := (bif a.no then false else (bif numIn a.lo then (bif numIn a.hi then decide (a.lo ≤ a.hi) else false) else false))
set_option maxRecDepth 100000 in
theorem c_ivRight (a : Iv) : Gets Tryz.prog 24 #[.agg #[.int .i64 a.lo, .int .i64 a.hi, .bool a.no]] ((fun (r : Bool) => (.bool r : Value)) (ivRight a)) := by
 refine gets_fin Tryz.func24 rfl rfl rfl (aQ (aL (ao 1 rfl rfl (st_box (v := .agg #[.int .i64 a.lo, .int .i64 a.hi, .bool a.no]) (cs := [.int .i64 a.lo, .int .i64 a.hi, .bool a.no]) rfl rfl rfl fun g0 => (aA 2 (.bool false) rfl rfl (aN (aQ (aL (aF 3 fa32_2 rfl rfl (aD 4 (.bool a.no) cell4 0 rfl rfl rfl rfl (ao 5 rfl rfl (st_un (v := .bool (!a.no)) rfl rfl (un_not rfl) (aM 6 (.bool (!a.no)) rfl rfl ?_)))))))))))))
 refine bool_split (a.no) (fun h1 => ?_) (fun h1 => ?_)
 ·refine aK 7 (by show ((!a.no) == true) = false; rw [h1]; rfl) rfl (aK 8 (by show ((!a.no) == true) = false; rw [h1]; rfl) rfl (aK 9 (by show ((!a.no) == true) = false; rw [h1]; rfl) rfl (ao 10 rfl rfl (st_pkf' (b := !a.no) (v := .bool false) (by rw [h1]; rfl) rfl rfl rfl (aM 11 (.bool false) rfl rfl (aK 12 rfl rfl (aK 13 rfl rfl (aK 14 rfl rfl (ao 15 rfl rfl (st_pkf (v := .bool false) rfl rfl rfl (aM 16 (.bool false) rfl rfl (aK 17 rfl rfl (aK 18 rfl rfl (aK 19 rfl rfl (aK 20 rfl rfl (aK 21 rfl rfl (ao 22 rfl rfl (st_pkf (v := .bool false) rfl rfl rfl (aA 2 (.bool false) rfl rfl (aN (ac_ret ?_)))))))))))))))))))))
  exact fin_eq (v := .bool false) (by show _ = (fun (r : Bool) => (.bool r : Value)) (ivRight a); rw [ivRight, h1] <;> rfl) (fin_ret (res_tmp rfl rfl))
 ·refine ar_gd (d := (some 7)) (by show ((!a.no) == true) = true; rw [h1]; rfl) rfl (st_fa rfl fa32_0 rfl (ar_gd (d := (some 8)) (by show ((!a.no) == true) = true; rw [h1]; rfl) rfl (st_ldc (v := .int .i64 a.lo) cell3 0 rfl rfl rfl rfl rfl (ar_gd (d := (some 9)) (by show ((!a.no) == true) = true; rw [h1]; rfl) rfl (st_cf (c_numIn a.lo) Tryz.func65 rfl (by decide) rfl rfl rfl (ao 10 rfl rfl (st_pkt' (b := !a.no) (v := .bool (numIn a.lo)) (by rw [h1]; rfl) rfl rfl rfl (aM 11 (.bool (numIn a.lo)) rfl rfl ?_))))))))
  refine bool_split (numIn a.lo) (fun h2 => ?_) (fun h2 => ?_)
  ·refine ar_gd (d := (some 12)) (by show ((numIn a.lo) == true) = true; rw [h2]; rfl) rfl (st_fa rfl fa32_1 rfl (ar_gd (d := (some 13)) (by show ((numIn a.lo) == true) = true; rw [h2]; rfl) rfl (st_ldc (v := .int .i64 a.hi) cell3 0 rfl rfl rfl rfl rfl (ar_gd (d := (some 14)) (by show ((numIn a.lo) == true) = true; rw [h2]; rfl) rfl (st_cf (c_numIn a.hi) Tryz.func65 rfl (by decide) rfl rfl rfl (ao 15 rfl rfl (st_pkt' (b := numIn a.lo) (v := .bool (numIn a.hi)) h2 rfl rfl rfl (aM 16 (.bool (numIn a.hi)) rfl rfl ?_))))))))
   refine bool_split (numIn a.hi) (fun h3 => ?_) (fun h3 => ?_)
   ·refine ar_gd (d := (some 17)) (by show ((numIn a.hi) == true) = true; rw [h3]; rfl) rfl (st_fa rfl fa32_0 rfl (ar_gd (d := (some 18)) (by show ((numIn a.hi) == true) = true; rw [h3]; rfl) rfl (st_ldc (v := .int .i64 a.lo) cell3 0 rfl rfl rfl rfl rfl (ar_gd (d := (some 19)) (by show ((numIn a.hi) == true) = true; rw [h3]; rfl) rfl (st_fa rfl fa32_1 rfl (ar_gd (d := (some 20)) (by show ((numIn a.hi) == true) = true; rw [h3]; rfl) rfl (st_ldc (v := .int .i64 a.hi) cell3 0 rfl rfl rfl rfl rfl (ar_gd (d := (some 21)) (by show ((numIn a.hi) == true) = true; rw [h3]; rfl) rfl (st_bi (r := .bool (decide (a.lo ≤ a.hi))) rfl rfl rfl (bi_leq rfl) ?_)))))))))
    refine ao 22 rfl rfl (st_pkt' (b := numIn a.hi) (v := .bool (decide (a.lo ≤ a.hi))) h3 rfl rfl rfl (aA 2 (.bool (decide (a.lo ≤ a.hi))) rfl rfl (aN (ac_ret (fin_eq (v := .bool (decide (a.lo ≤ a.hi))) (by show _ = (fun (r : Bool) => (.bool r : Value)) (ivRight a); rw [ivRight, h3, h2, h1] <;> rfl) (fin_ret (res_tmp rfl rfl)))))))
   ·refine aK 17 (by show ((numIn a.hi) == true) = false; rw [h3]; rfl) rfl (aK 18 (by show ((numIn a.hi) == true) = false; rw [h3]; rfl) rfl (aK 19 (by show ((numIn a.hi) == true) = false; rw [h3]; rfl) rfl (aK 20 (by show ((numIn a.hi) == true) = false; rw [h3]; rfl) rfl (aK 21 (by show ((numIn a.hi) == true) = false; rw [h3]; rfl) rfl (ao 22 rfl rfl (st_pkf' (b := numIn a.hi) (v := .bool false) h3 rfl rfl rfl (aA 2 (.bool false) rfl rfl (aN (ac_ret (fin_eq (v := .bool false) (by show _ = (fun (r : Bool) => (.bool r : Value)) (ivRight a); rw [ivRight, h3, h2, h1] <;> rfl) (fin_ret (res_tmp rfl rfl))))))))))))
  ·refine aK 12 (by show ((numIn a.lo) == true) = false; rw [h2]; rfl) rfl (aK 13 (by show ((numIn a.lo) == true) = false; rw [h2]; rfl) rfl (aK 14 (by show ((numIn a.lo) == true) = false; rw [h2]; rfl) rfl (ao 15 rfl rfl (st_pkf' (b := numIn a.lo) (v := .bool false) h2 rfl rfl rfl (aM 16 (.bool false) rfl rfl (aK 17 rfl rfl (aK 18 rfl rfl (aK 19 rfl rfl (aK 20 rfl rfl (aK 21 rfl rfl (ao 22 rfl rfl (st_pkf (v := .bool false) rfl rfl rfl (aA 2 (.bool false) rfl rfl (aN (ac_ret (fin_eq (v := .bool false) (by show _ = (fun (r : Bool) => (.bool r : Value)) (ivRight a); rw [ivRight, h2, h1] <;> rfl) (fin_ret (res_tmp rfl rfl))))))))))))))))))
def ivNone  : Iv := (⟨0, 0, true⟩ : Iv)
set_option maxRecDepth 100000 in
theorem c_ivNone  : Gets Tryz.prog 25 #[] (Iv.v ivNone) := by
 refine gets_fin Tryz.func25 rfl rfl rfl (aQ (aL (ao 0 rfl rfl (st_new zero32 rfl fun g0 => (aN (aQ (aL (ao 1 rfl rfl (st_bd (us := [(2, .bool true)]) (v := .agg #[.int .i64 0, .int .i64 0, .bool true]) rfl rfl (bd32_2 _) (aS [.int .i64 0, .int .i64 0, .bool true] agg32 0 rfl rfl rfl rfl rfl rfl (aN (ac_ret (fin_eq (v := .agg #[.int .i64 0, .int .i64 0, .bool true]) rfl (fin_ret (res_c (vs := [.int .i64 0, .int .i64 0, .bool true]) agg32 0 rfl rfl rfl rfl rfl rfl)))))))))))))))
def ivOf (l : Int) (h : Int) : Iv := (bif ivRight (⟨l, h, false⟩ : Iv) then (⟨l, h, false⟩ : Iv) else ivNone)
set_option maxRecDepth 100000 in
theorem c_ivOf (l : Int) (h : Int) : Gets Tryz.prog 72 #[.int .i64 l, .int .i64 h] (Iv.v (ivOf l h)) := by
 refine gets_fin Tryz.func72 rfl rfl rfl (aQ (aL (ao 4 rfl rfl (st_new zero32 rfl fun g0 => (aN (aQ (aL (aM 6 (.int .i64 l) rfl rfl (aM 7 (.int .i64 h) rfl rfl (ao 8 rfl rfl (st_bd (us := [(0, .int .i64 l), (1, .int .i64 h)]) (v := .agg #[.int .i64 l, .int .i64 h, .bool false]) rfl rfl (bd32_0_1 _ _) (ao 5 rfl rfl (st_new zero32 rfl fun g1 => (aS [.int .i64 l, .int .i64 h, .bool false] agg32 0 rfl rfl rfl rfl rfl rfl (aN (aQ (aQ (aL (aG 9 [.int .i64 l, .int .i64 h, .bool false] agg32 0 rfl rfl rfl rfl rfl (aC 10 (c_ivRight (⟨l, h, false⟩ : Iv)) Tryz.func24 ⟨rfl, by decide⟩ rfl rfl ?_))))))))))))))))))))
 refine ao 11 rfl rfl (st_un (v := .bool (!(ivRight (⟨l, h, false⟩ : Iv)))) rfl rfl (un_not rfl) (aN ?_))
 refine bool_split (ivRight (⟨l, h, false⟩ : Iv)) (fun h1 => ?_) (fun h1 => ?_)
 ·refine ac_else' (b := !(ivRight (⟨l, h, false⟩ : Iv))) (by rw [h1]; rfl) rfl (ac_skip (aQ (aL (aG 13 [.int .i64 l, .int .i64 h, .bool false] agg32 0 rfl rfl rfl rfl rfl (aS [.int .i64 l, .int .i64 h, .bool false] agg32 1 rfl rfl rfl rfl rfl rfl (aN (ac_ret (fin_eq (v := .agg #[.int .i64 l, .int .i64 h, .bool false]) (by show _ = Iv.v (ivOf l h); rw [ivOf, h1] <;> rfl) (fin_ret (res_c (vs := [.int .i64 l, .int .i64 h, .bool false]) agg32 1 rfl rfl rfl rfl rfl rfl))))))))))
 ·refine ac_then' (b := !(ivRight (⟨l, h, false⟩ : Iv))) (by rw [h1]; rfl) rfl (aQ (aL (aC 12 c_ivNone Tryz.func25 ⟨rfl, by decide⟩ rfl rfl (aS [.int .i64 ivNone.lo, .int .i64 ivNone.hi, .bool ivNone.no] agg32 1 rfl rfl rfl rfl rfl rfl (aN (ac_ret (fin_eq (v := .agg #[.int .i64 ivNone.lo, .int .i64 ivNone.hi, .bool ivNone.no]) (by show _ = Iv.v (ivOf l h); rw [ivOf, h1] <;> rfl) (fin_ret (res_c (vs := [.int .i64 ivNone.lo, .int .i64 ivNone.hi, .bool ivNone.no]) agg32 1 rfl rfl rfl rfl rfl rfl)))))))))
end Go.Proofs.YtalffjplbhelcaaGreatDoor
namespace Go.Proofs.YtalffjplbhelcaaGreatDoor
open Go.RowKit
attribute [local irreducible] AC AR DWalk
def ivPoint (n : Int) : Iv := (ivOf n n)
set_option maxRecDepth 100000 in
theorem c_ivPoint (n : Int) : Gets Tryz.prog 49 #[.int .i64 n] (Iv.v (ivPoint n)) := by
 refine gets_fin Tryz.func49 rfl rfl rfl (aQ (aL (ao 2 rfl rfl (st_new zero32 rfl fun g0 => (aN (aQ (aL (aM 3 (.int .i64 n) rfl rfl (aM 4 (.int .i64 n) rfl rfl (aC 5 (c_ivOf n n) Tryz.func72 ⟨rfl, by decide⟩ rfl rfl (aS [.int .i64 ((ivOf n n).lo), .int .i64 ((ivOf n n).hi), .bool ((ivOf n n).no)] agg32 0 rfl rfl rfl rfl rfl rfl (aN (ac_ret (fin_eq (v := (Iv.v (ivOf n n))) rfl (fin_ret (res_c (vs := [.int .i64 ((ivOf n n).lo), .int .i64 ((ivOf n n).hi), .bool ((ivOf n n).no)]) agg32 0 rfl rfl rfl rfl rfl rfl))))))))))))))))
def ivBoth (a : Iv) (b : Iv) : Bool := (bif ivRight a then ivRight b else false)
set_option maxRecDepth 100000 in
theorem c_ivBoth (a : Iv) (b : Iv) : Gets Tryz.prog 90 #[(Iv.v a), (Iv.v b)] ((fun (r : Bool) => (.bool r : Value)) (ivBoth a b)) := by
 refine gets_fin Tryz.func90 rfl rfl rfl (aQ (aL (ao 2 rfl rfl (st_box (v := (Iv.v a)) (cs := [.int .i64 a.lo, .int .i64 a.hi, .bool a.no]) rfl rfl rfl fun g0 => (ao 3 rfl rfl (st_box (v := (Iv.v b)) (cs := [.int .i64 b.lo, .int .i64 b.hi, .bool b.no]) rfl rfl rfl fun g1 => (aA 4 (.bool false) rfl rfl (aN (aQ (aL (aG 5 [.int .i64 a.lo, .int .i64 a.hi, .bool a.no] agg32 1 rfl rfl rfl rfl rfl (aC 6 (c_ivRight a) Tryz.func24 ⟨rfl, by decide⟩ rfl rfl (aM 7 (.bool (ivRight a)) rfl rfl ?_)))))))))))))
 refine bool_split (ivRight a) (fun h1 => ?_) (fun h1 => ?_)
 ·refine ar_gd (d := (some 8)) (by show ((ivRight a) == true) = true; rw [h1]; rfl) rfl (st_lda (vs := [.int .i64 b.lo, .int .i64 b.hi, .bool b.no]) agg32 0 rfl rfl rfl rfl rfl rfl (ar_gd (d := (some 9)) (by show ((ivRight a) == true) = true; rw [h1]; rfl) rfl (st_cf (c_ivRight b) Tryz.func24 rfl (by decide) rfl rfl rfl (ao 10 rfl rfl (st_pkt' (b := ivRight a) (v := .bool (ivRight b)) h1 rfl rfl rfl (aA 4 (.bool (ivRight b)) rfl rfl (aN (ac_ret (fin_eq (v := .bool (ivRight b)) (by show _ = (fun (r : Bool) => (.bool r : Value)) (ivBoth a b); rw [ivBoth, h1] <;> rfl) (fin_ret (res_tmp rfl rfl)))))))))))
 ·refine aK 8 (by show ((ivRight a) == true) = false; rw [h1]; rfl) rfl (aK 9 (by show ((ivRight a) == true) = false; rw [h1]; rfl) rfl (ao 10 rfl rfl (st_pkf' (b := ivRight a) (v := .bool false) h1 rfl rfl rfl (aA 4 (.bool false) rfl rfl (aN (ac_ret (fin_eq (v := .bool false) (by show _ = (fun (r : Bool) => (.bool r : Value)) (ivBoth a b); rw [ivBoth, h1] <;> rfl) (fin_ret (res_tmp rfl rfl)))))))))
def ivAdd (a : Iv) (b : Iv) : Iv := (bif ivBoth a b then (ivOf (w64 (a.lo + b.lo)) (w64 (a.hi + b.hi))) else ivNone)
set_option maxRecDepth 100000 in
theorem c_ivAdd (a : Iv) (b : Iv) : Gets Tryz.prog 50 #[(Iv.v a), (Iv.v b)] (Iv.v (ivAdd a b)) := by
 refine gets_fin Tryz.func50 rfl rfl rfl (aQ (aL (ao 2 rfl rfl (st_box (v := (Iv.v a)) (cs := [.int .i64 a.lo, .int .i64 a.hi, .bool a.no]) rfl rfl rfl fun g0 => (ao 3 rfl rfl (st_box (v := (Iv.v b)) (cs := [.int .i64 b.lo, .int .i64 b.hi, .bool b.no]) rfl rfl rfl fun g1 => (ao 4 rfl rfl (st_new zero32 rfl fun g2 => (aN (aQ (aQ (aL (aG 5 [.int .i64 a.lo, .int .i64 a.hi, .bool a.no] agg32 2 rfl rfl rfl rfl rfl (aG 6 [.int .i64 b.lo, .int .i64 b.hi, .bool b.no] agg32 1 rfl rfl rfl rfl rfl (aC 7 (c_ivBoth a b) Tryz.func90 ⟨rfl, by decide⟩ rfl rfl (ao 8 rfl rfl (st_un (v := .bool (!(ivBoth a b))) rfl rfl (un_not rfl) (aN ?_))))))))))))))))))
 refine bool_split (ivBoth a b) (fun h1 => ?_) (fun h1 => ?_)
 ·refine ac_else' (b := !(ivBoth a b)) (by rw [h1]; rfl) rfl (ac_skip (aQ (aL (aF 10 fa32_0 rfl rfl (aD 11 (.int .i64 a.lo) cell3 2 rfl rfl rfl rfl (aF 12 fa32_0 rfl rfl (aD 13 (.int .i64 b.lo) cell3 1 rfl rfl rfl rfl (aB 14 (.int .i64 (w64 (a.lo + b.lo))) rfl rfl rfl (bi_add rfl) (aF 15 fa32_1 rfl rfl (aD 16 (.int .i64 a.hi) cell3 2 rfl rfl rfl rfl (aF 17 fa32_1 rfl rfl (aD 18 (.int .i64 b.hi) cell3 1 rfl rfl rfl rfl (aB 19 (.int .i64 (w64 (a.hi + b.hi))) rfl rfl rfl (bi_add rfl) (aC 20 (c_ivOf (w64 (a.lo + b.lo)) (w64 (a.hi + b.hi))) Tryz.func72 ⟨rfl, by decide⟩ rfl rfl ?_))))))))))))))
  refine aS [.int .i64 ((ivOf (w64 (a.lo + b.lo)) (w64 (a.hi + b.hi))).lo), .int .i64 ((ivOf (w64 (a.lo + b.lo)) (w64 (a.hi + b.hi))).hi), .bool ((ivOf (w64 (a.lo + b.lo)) (w64 (a.hi + b.hi))).no)] agg32 0 rfl rfl rfl rfl rfl rfl (aN (ac_ret (fin_eq (v := (Iv.v (ivOf (w64 (a.lo + b.lo)) (w64 (a.hi + b.hi))))) (by show _ = Iv.v (ivAdd a b); rw [ivAdd, h1] <;> rfl) (fin_ret (res_c (vs := [.int .i64 ((ivOf (w64 (a.lo + b.lo)) (w64 (a.hi + b.hi))).lo), .int .i64 ((ivOf (w64 (a.lo + b.lo)) (w64 (a.hi + b.hi))).hi), .bool ((ivOf (w64 (a.lo + b.lo)) (w64 (a.hi + b.hi))).no)]) agg32 0 rfl rfl rfl rfl rfl rfl)))))
 ·refine ac_then' (b := !(ivBoth a b)) (by rw [h1]; rfl) rfl (aQ (aL (aC 9 c_ivNone Tryz.func25 ⟨rfl, by decide⟩ rfl rfl (aS [.int .i64 ivNone.lo, .int .i64 ivNone.hi, .bool ivNone.no] agg32 0 rfl rfl rfl rfl rfl rfl (aN (ac_ret (fin_eq (v := (Iv.v ivNone)) (by show _ = Iv.v (ivAdd a b); rw [ivAdd, h1] <;> rfl) (fin_ret (res_c (vs := [.int .i64 ivNone.lo, .int .i64 ivNone.hi, .bool ivNone.no]) agg32 0 rfl rfl rfl rfl rfl rfl)))))))))
def ivNeg (a : Iv) : Iv := (bif ivRight a then (ivOf (w64 (0 - a.hi)) (w64 (0 - a.lo))) else ivNone)
set_option maxRecDepth 100000 in
theorem c_ivNeg (a : Iv) : Gets Tryz.prog 95 #[(Iv.v a)] (Iv.v (ivNeg a)) := by
 refine gets_fin Tryz.func95 rfl rfl rfl (aQ (aL (ao 1 rfl rfl (st_box (v := (Iv.v a)) (cs := [.int .i64 a.lo, .int .i64 a.hi, .bool a.no]) rfl rfl rfl fun g0 => (ao 2 rfl rfl (st_new zero32 rfl fun g1 => (aN (aQ (aQ (aL (aG 3 [.int .i64 a.lo, .int .i64 a.hi, .bool a.no] agg32 1 rfl rfl rfl rfl rfl (aC 4 (c_ivRight a) Tryz.func24 ⟨rfl, by decide⟩ rfl rfl (ao 5 rfl rfl (st_un (v := .bool (!(ivRight a))) rfl rfl (un_not rfl) (aN ?_)))))))))))))))
 refine bool_split (ivRight a) (fun h1 => ?_) (fun h1 => ?_)
 ·refine ac_else' (b := !(ivRight a)) (by rw [h1]; rfl) rfl (ac_skip (aQ (aL (aF 7 fa32_1 rfl rfl (aD 8 (.int .i64 a.hi) cell3 1 rfl rfl rfl rfl (ao 9 rfl rfl (st_un (v := .int .i64 (w64 (0 - a.hi))) rfl rfl (un_neg rfl) (aF 10 fa32_0 rfl rfl (aD 11 (.int .i64 a.lo) cell3 1 rfl rfl rfl rfl (ao 12 rfl rfl (st_un (v := .int .i64 (w64 (0 - a.lo))) rfl rfl (un_neg rfl) (aC 13 (c_ivOf (w64 (0 - a.hi)) (w64 (0 - a.lo))) Tryz.func72 ⟨rfl, by decide⟩ rfl rfl (aS [.int .i64 ((ivOf (w64 (0 - a.hi)) (w64 (0 - a.lo))).lo), .int .i64 ((ivOf (w64 (0 - a.hi)) (w64 (0 - a.lo))).hi), .bool ((ivOf (w64 (0 - a.hi)) (w64 (0 - a.lo))).no)] agg32 0 rfl rfl rfl rfl rfl rfl (aN ?_))))))))))))))
  refine ac_ret (fin_eq (v := (Iv.v (ivOf (w64 (0 - a.hi)) (w64 (0 - a.lo))))) (by show _ = Iv.v (ivNeg a); rw [ivNeg, h1] <;> rfl) (fin_ret (res_c (vs := [.int .i64 ((ivOf (w64 (0 - a.hi)) (w64 (0 - a.lo))).lo), .int .i64 ((ivOf (w64 (0 - a.hi)) (w64 (0 - a.lo))).hi), .bool ((ivOf (w64 (0 - a.hi)) (w64 (0 - a.lo))).no)]) agg32 0 rfl rfl rfl rfl rfl rfl)))
 ·refine ac_then' (b := !(ivRight a)) (by rw [h1]; rfl) rfl (aQ (aL (aC 6 c_ivNone Tryz.func25 ⟨rfl, by decide⟩ rfl rfl (aS [.int .i64 ivNone.lo, .int .i64 ivNone.hi, .bool ivNone.no] agg32 0 rfl rfl rfl rfl rfl rfl (aN (ac_ret (fin_eq (v := (Iv.v ivNone)) (by show _ = Iv.v (ivNeg a); rw [ivNeg, h1] <;> rfl) (fin_ret (res_c (vs := [.int .i64 ivNone.lo, .int .i64 ivNone.hi, .bool ivNone.no]) agg32 0 rfl rfl rfl rfl rfl rfl)))))))))
def ivSub (a : Iv) (b : Iv) : Iv := (ivAdd a (ivNeg b))
set_option maxRecDepth 100000 in
theorem c_ivSub (a : Iv) (b : Iv) : Gets Tryz.prog 53 #[(Iv.v a), (Iv.v b)] (Iv.v (ivSub a b)) := by
 refine gets_fin Tryz.func53 rfl rfl rfl (aQ (aL (ao 2 rfl rfl (st_box (v := (Iv.v a)) (cs := [.int .i64 a.lo, .int .i64 a.hi, .bool a.no]) rfl rfl rfl fun g0 => (ao 3 rfl rfl (st_box (v := (Iv.v b)) (cs := [.int .i64 b.lo, .int .i64 b.hi, .bool b.no]) rfl rfl rfl fun g1 => (ao 4 rfl rfl (st_new zero32 rfl fun g2 => (aN (aQ ?_))))))))))
 refine ac_draw0 (id := 1) [0, 1, 2, 3] [4] _ (by kernel_rfl) follows rfl  (dw_op (d := some 5) _ rfl rfl rfl (st_lda (vs := [.int .i64 a.lo, .int .i64 a.hi, .bool a.no]) agg32 2 rfl rfl rfl rfl rfl rfl ⟨rfl, rfl⟩) (dw_op (d := some 6) _ rfl rfl rfl (st_lda (vs := [.int .i64 b.lo, .int .i64 b.hi, .bool b.no]) agg32 1 rfl rfl rfl rfl rfl rfl ⟨rfl, rfl⟩) (dw_op (d := some 7) _ rfl rfl rfl (st_cf (c_ivNeg b) Tryz.func95 rfl (by decide) rfl rfl rfl ⟨rfl, rfl⟩) (dw_op (d := some 8) _ rfl rfl rfl (st_cf (c_ivAdd a (ivNeg b)) Tryz.func50 rfl (by decide) rfl rfl rfl ⟨rfl, rfl⟩) (dw_nil ?_)))))
 refine aS [.int .i64 ((ivAdd a (ivNeg b)).lo), .int .i64 ((ivAdd a (ivNeg b)).hi), .bool ((ivAdd a (ivNeg b)).no)] agg32 0 rfl rfl rfl rfl rfl rfl (aN (ac_ret (fin_eq (v := (Iv.v (ivAdd a (ivNeg b)))) rfl (fin_ret (res_c (vs := [.int .i64 ((ivAdd a (ivNeg b)).lo), .int .i64 ((ivAdd a (ivNeg b)).hi), .bool ((ivAdd a (ivNeg b)).no)]) agg32 0 rfl rfl rfl rfl rfl rfl)))))
def ivSqr_e0 (a : Iv) : Int × Bool := (numMul (max (w64 (0 - a.lo)) a.hi) (max (w64 (0 - a.lo)) a.hi) true)
def ivSqr_e1 (a : Iv) : Int × Bool := (numMul (max (max a.lo (w64 (0 - a.hi))) 0) (max (max a.lo (w64 (0 - a.hi))) 0) false)
def ivSqr (a : Iv) : Iv := (bif ivRight a then (bif (ivSqr_e0 a).2 then (ivOf ((ivSqr_e1 a).1) ((ivSqr_e0 a).1)) else ivNone) else ivNone)
set_option maxRecDepth 100000 in
theorem c_ivSqr (a : Iv) : Gets Tryz.prog 43 #[(Iv.v a)] (Iv.v (ivSqr a)) := by
 refine gets_fin Tryz.func43 rfl rfl rfl (aQ (aL (ao 1 rfl rfl (st_box (v := (Iv.v a)) (cs := [.int .i64 a.lo, .int .i64 a.hi, .bool a.no]) rfl rfl rfl fun g0 => (ao 2 rfl rfl (st_new zero32 rfl fun g1 => (aN (aQ (aQ (aL (aG 9 [.int .i64 a.lo, .int .i64 a.hi, .bool a.no] agg32 1 rfl rfl rfl rfl rfl (aC 10 (c_ivRight a) Tryz.func24 ⟨rfl, by decide⟩ rfl rfl (ao 11 rfl rfl (st_un (v := .bool (!(ivRight a))) rfl rfl (un_not rfl) (aN ?_)))))))))))))))
 refine bool_split (ivRight a) (fun h1 => ?_) (fun h1 => ?_)
 ·refine ac_else' (b := !(ivRight a)) (by rw [h1]; rfl) rfl (ac_skip (aQ ?_))
  refine ac_draw0 (id := 3) [0, 1, 2, 3, 4, 5, 6, 7, 8, 9, 10, 11, 12, 13] [] _ (by kernel_rfl) follows rfl  (dw_op (d := some 13) _ rfl rfl rfl (st_fa rfl fa32_0 rfl ⟨rfl, rfl⟩) (dw_op (d := some 14) _ rfl rfl rfl (st_ldc (v := .int .i64 a.lo) cell3 1 rfl rfl rfl rfl rfl ⟨rfl, rfl⟩) (dw_op (d := some 15) _ rfl rfl rfl (st_un (v := .int .i64 (w64 (0 - a.lo))) rfl rfl (un_neg rfl) ⟨rfl, rfl⟩) (dw_op (d := some 16) _ rfl rfl rfl (st_fa rfl fa32_1 rfl ⟨rfl, rfl⟩) (dw_op (d := some 17) _ rfl rfl rfl (st_ldc (v := .int .i64 a.hi) cell3 1 rfl rfl rfl rfl rfl ⟨rfl, rfl⟩) ?_)))))
  refine dw_op (d := some 18) _ rfl rfl rfl (st_mx (x := (w64 (0 - a.lo))) (y := a.hi) (c := (max (w64 (0 - a.lo)) a.hi)) rfl rfl rfl ⟨rfl, rfl⟩) (dw_op (d := some 19) _ rfl rfl rfl (st_fa rfl fa32_0 rfl ⟨rfl, rfl⟩) (dw_op (d := some 20) _ rfl rfl rfl (st_ldc (v := .int .i64 a.lo) cell3 1 rfl rfl rfl rfl rfl ⟨rfl, rfl⟩) (dw_op (d := some 21) _ rfl rfl rfl (st_fa rfl fa32_1 rfl ⟨rfl, rfl⟩) (dw_op (d := some 22) _ rfl rfl rfl (st_ldc (v := .int .i64 a.hi) cell3 1 rfl rfl rfl rfl rfl ⟨rfl, rfl⟩) (dw_op (d := some 23) _ rfl rfl rfl (st_un (v := .int .i64 (w64 (0 - a.hi))) rfl rfl (un_neg rfl) ⟨rfl, rfl⟩) ?_)))))
  refine dw_op (d := some 24) _ rfl rfl rfl (st_mx3 (x := a.lo) (y := (w64 (0 - a.hi))) (z := 0) (c := (max (max a.lo (w64 (0 - a.hi))) 0)) rfl rfl rfl ⟨rfl, rfl⟩) (dw_op (d := some 3) _ rfl rfl rfl (st_assign (v := .int .i64 (max (w64 (0 - a.lo)) a.hi)) rfl rfl ⟨rfl, rfl⟩) (dw_op (d := some 4) _ rfl rfl rfl (st_assign (v := .int .i64 (max (max a.lo (w64 (0 - a.hi))) 0)) rfl rfl ⟨rfl, rfl⟩) (dw_nil (aN (aQ (aL (aM 26 (.int .i64 (max (w64 (0 - a.lo)) a.hi)) rfl rfl (aM 27 (.int .i64 (max (w64 (0 - a.lo)) a.hi)) rfl rfl (aC 28 (c_numMul (max (w64 (0 - a.lo)) a.hi) (max (w64 (0 - a.lo)) a.hi) true) Tryz.func88 ⟨rfl, by decide⟩ rfl rfl ?_)))))))))
  refine aM 25 (.tuple #[.int .i64 ((ivSqr_e0 a).1), .bool ((ivSqr_e0 a).2)]) rfl rfl (aX 29 (.int .i64 ((ivSqr_e0 a).1)) rfl rfl rfl (aX 30 (.bool ((ivSqr_e0 a).2)) rfl rfl rfl (aA 5 (.int .i64 ((ivSqr_e0 a).1)) rfl rfl (aA 6 (.bool ((ivSqr_e0 a).2)) rfl rfl (aN (aQ (aL (aM 32 (.int .i64 (max (max a.lo (w64 (0 - a.hi))) 0)) rfl rfl (aM 33 (.int .i64 (max (max a.lo (w64 (0 - a.hi))) 0)) rfl rfl (aC 34 (c_numMul (max (max a.lo (w64 (0 - a.hi))) 0) (max (max a.lo (w64 (0 - a.hi))) 0) false) Tryz.func88 ⟨rfl, by decide⟩ rfl rfl (aM 31 (.tuple #[.int .i64 ((ivSqr_e1 a).1), .bool ((ivSqr_e1 a).2)]) rfl rfl (aX 35 (.int .i64 ((ivSqr_e1 a).1)) rfl rfl rfl ?_))))))))))))
  refine aX 36 (.bool ((ivSqr_e1 a).2)) rfl rfl rfl (aA 7 (.int .i64 ((ivSqr_e1 a).1)) rfl rfl (aA 8 (.bool ((ivSqr_e1 a).2)) rfl rfl (aN (aQ (aQ (aL (aM 37 (.bool ((ivSqr_e0 a).2)) rfl rfl (ao 38 rfl rfl (st_un (v := .bool (!((ivSqr_e0 a).2))) rfl rfl (un_not rfl) (aN ?_))))))))))
  refine bool_split ((ivSqr_e0 a).2) (fun h2 => ?_) (fun h2 => ?_)
  ·refine ac_else' (b := !((ivSqr_e0 a).2)) (by rw [h2]; rfl) rfl (ac_skip (aQ (aL (aM 40 (.int .i64 ((ivSqr_e1 a).1)) rfl rfl (aM 41 (.int .i64 ((ivSqr_e0 a).1)) rfl rfl (aC 42 (c_ivOf ((ivSqr_e1 a).1) ((ivSqr_e0 a).1)) Tryz.func72 ⟨rfl, by decide⟩ rfl rfl (aS [.int .i64 ((ivOf ((ivSqr_e1 a).1) ((ivSqr_e0 a).1)).lo), .int .i64 ((ivOf ((ivSqr_e1 a).1) ((ivSqr_e0 a).1)).hi), .bool ((ivOf ((ivSqr_e1 a).1) ((ivSqr_e0 a).1)).no)] agg32 0 rfl rfl rfl rfl rfl rfl (aN (ac_ret ?_)))))))))
   exact fin_eq (v := (Iv.v (ivOf ((ivSqr_e1 a).1) ((ivSqr_e0 a).1)))) (by show _ = Iv.v (ivSqr a); rw [ivSqr, h2, h1] <;> rfl) (fin_ret (res_c (vs := [.int .i64 ((ivOf ((ivSqr_e1 a).1) ((ivSqr_e0 a).1)).lo), .int .i64 ((ivOf ((ivSqr_e1 a).1) ((ivSqr_e0 a).1)).hi), .bool ((ivOf ((ivSqr_e1 a).1) ((ivSqr_e0 a).1)).no)]) agg32 0 rfl rfl rfl rfl rfl rfl))
  ·refine ac_then' (b := !((ivSqr_e0 a).2)) (by rw [h2]; rfl) rfl (aQ (aL (aC 39 c_ivNone Tryz.func25 ⟨rfl, by decide⟩ rfl rfl (aS [.int .i64 ivNone.lo, .int .i64 ivNone.hi, .bool ivNone.no] agg32 0 rfl rfl rfl rfl rfl rfl (aN (ac_ret (fin_eq (v := (Iv.v ivNone)) (by show _ = Iv.v (ivSqr a); rw [ivSqr, h2, h1] <;> rfl) (fin_ret (res_c (vs := [.int .i64 ivNone.lo, .int .i64 ivNone.hi, .bool ivNone.no]) agg32 0 rfl rfl rfl rfl rfl rfl)))))))))
 ·refine ac_then' (b := !(ivRight a)) (by rw [h1]; rfl) rfl (aQ (aL (aC 12 c_ivNone Tryz.func25 ⟨rfl, by decide⟩ rfl rfl (aS [.int .i64 ivNone.lo, .int .i64 ivNone.hi, .bool ivNone.no] agg32 0 rfl rfl rfl rfl rfl rfl (aN (ac_ret (fin_eq (v := (Iv.v ivNone)) (by show _ = Iv.v (ivSqr a); rw [ivSqr, h1] <;> rfl) (fin_ret (res_c (vs := [.int .i64 ivNone.lo, .int .i64 ivNone.hi, .bool ivNone.no]) agg32 0 rfl rfl rfl rfl rfl rfl)))))))))
def ivHas (a : Iv) (n : Int) : Bool := (bif ivRight a then (bif decide (a.lo ≤ n) then decide (n ≤ a.hi) else false) else false)
set_option maxRecDepth 100000 in
theorem c_ivHas (a : Iv) (n : Int) : Gets Tryz.prog 92 #[(Iv.v a), .int .i64 n] ((fun (r : Bool) => (.bool r : Value)) (ivHas a n)) := by
 refine gets_fin Tryz.func92 rfl rfl rfl (aQ (aL (ao 2 rfl rfl (st_box (v := (Iv.v a)) (cs := [.int .i64 a.lo, .int .i64 a.hi, .bool a.no]) rfl rfl rfl fun g0 => (aA 4 (.bool false) rfl rfl (aN (aQ (aL (aG 5 [.int .i64 a.lo, .int .i64 a.hi, .bool a.no] agg32 0 rfl rfl rfl rfl rfl (aC 6 (c_ivRight a) Tryz.func24 ⟨rfl, by decide⟩ rfl rfl (aM 7 (.bool (ivRight a)) rfl rfl ?_)))))))))))
 refine bool_split (ivRight a) (fun h1 => ?_) (fun h1 => ?_)
 ·refine ar_gd (d := (some 8)) (by show ((ivRight a) == true) = true; rw [h1]; rfl) rfl (st_fa rfl fa32_0 rfl (ar_gd (d := (some 9)) (by show ((ivRight a) == true) = true; rw [h1]; rfl) rfl (st_ldc (v := .int .i64 a.lo) cell3 0 rfl rfl rfl rfl rfl (ar_gd (d := (some 10)) (by show ((ivRight a) == true) = true; rw [h1]; rfl) rfl (st_move (v := .int .i64 n) rfl rfl (ar_gd (d := (some 11)) (by show ((ivRight a) == true) = true; rw [h1]; rfl) rfl (st_bi (r := .bool (decide (a.lo ≤ n))) rfl rfl rfl (bi_leq rfl) (ao 12 rfl rfl (st_pkt' (b := ivRight a) (v := .bool (decide (a.lo ≤ n))) h1 rfl rfl rfl (aM 13 (.bool (decide (a.lo ≤ n))) rfl rfl ?_))))))))))
  refine bool_split (decide (a.lo ≤ n)) (fun h2 => ?_) (fun h2 => ?_)
  ·refine ar_gd (d := (some 14)) (by show ((decide (a.lo ≤ n)) == true) = true; rw [h2]; rfl) rfl (st_move (v := .int .i64 n) rfl rfl (ar_gd (d := (some 15)) (by show ((decide (a.lo ≤ n)) == true) = true; rw [h2]; rfl) rfl (st_fa rfl fa32_1 rfl (ar_gd (d := (some 16)) (by show ((decide (a.lo ≤ n)) == true) = true; rw [h2]; rfl) rfl (st_ldc (v := .int .i64 a.hi) cell3 0 rfl rfl rfl rfl rfl (ar_gd (d := (some 17)) (by show ((decide (a.lo ≤ n)) == true) = true; rw [h2]; rfl) rfl (st_bi (r := .bool (decide (n ≤ a.hi))) rfl rfl rfl (bi_leq rfl) (ao 18 rfl rfl (st_pkt' (b := decide (a.lo ≤ n)) (v := .bool (decide (n ≤ a.hi))) h2 rfl rfl rfl ?_)))))))))
   refine aA 4 (.bool (decide (n ≤ a.hi))) rfl rfl (aN (ac_ret (fin_eq (v := .bool (decide (n ≤ a.hi))) (by show _ = (fun (r : Bool) => (.bool r : Value)) (ivHas a n); rw [ivHas, h2, h1] <;> rfl) (fin_ret (res_tmp rfl rfl)))))
  ·refine aK 14 (by show ((decide (a.lo ≤ n)) == true) = false; rw [h2]; rfl) rfl (aK 15 (by show ((decide (a.lo ≤ n)) == true) = false; rw [h2]; rfl) rfl (aK 16 (by show ((decide (a.lo ≤ n)) == true) = false; rw [h2]; rfl) rfl (aK 17 (by show ((decide (a.lo ≤ n)) == true) = false; rw [h2]; rfl) rfl (ao 18 rfl rfl (st_pkf' (b := decide (a.lo ≤ n)) (v := .bool false) h2 rfl rfl rfl (aA 4 (.bool false) rfl rfl (aN (ac_ret (fin_eq (v := .bool false) (by show _ = (fun (r : Bool) => (.bool r : Value)) (ivHas a n); rw [ivHas, h2, h1] <;> rfl) (fin_ret (res_tmp rfl rfl)))))))))))
 ·refine aK 8 (by show ((ivRight a) == true) = false; rw [h1]; rfl) rfl (aK 9 (by show ((ivRight a) == true) = false; rw [h1]; rfl) rfl (aK 10 (by show ((ivRight a) == true) = false; rw [h1]; rfl) rfl (aK 11 (by show ((ivRight a) == true) = false; rw [h1]; rfl) rfl (ao 12 rfl rfl (st_pkf' (b := ivRight a) (v := .bool false) h1 rfl rfl rfl (aM 13 (.bool false) rfl rfl (aK 14 rfl rfl (aK 15 rfl rfl (aK 16 rfl rfl (aK 17 rfl rfl (ao 18 rfl rfl (st_pkf (v := .bool false) rfl rfl rfl (aA 4 (.bool false) rfl rfl (aN (ac_ret (fin_eq (v := .bool false) (by show _ = (fun (r : Bool) => (.bool r : Value)) (ivHas a n); rw [ivHas, h1] <;> rfl) (fin_ret (res_tmp rfl rfl))))))))))))))))))
def ivInside (a : Iv) (b : Iv) : Bool := (bif ivBoth a b then (bif decide (b.lo ≤ a.lo) then decide (a.hi ≤ b.hi) else false) else false)
set_option maxRecDepth 100000 in
theorem c_ivInside (a : Iv) (b : Iv) : Gets Tryz.prog 45 #[(Iv.v a), (Iv.v b)] ((fun (r : Bool) => (.bool r : Value)) (ivInside a b)) := by
 refine gets_fin Tryz.func45 rfl rfl rfl (aQ (aL (ao 2 rfl rfl (st_box (v := (Iv.v a)) (cs := [.int .i64 a.lo, .int .i64 a.hi, .bool a.no]) rfl rfl rfl fun g0 => (ao 3 rfl rfl (st_box (v := (Iv.v b)) (cs := [.int .i64 b.lo, .int .i64 b.hi, .bool b.no]) rfl rfl rfl fun g1 => (aA 4 (.bool false) rfl rfl (aN (aQ (aL (aG 5 [.int .i64 a.lo, .int .i64 a.hi, .bool a.no] agg32 1 rfl rfl rfl rfl rfl (aG 6 [.int .i64 b.lo, .int .i64 b.hi, .bool b.no] agg32 0 rfl rfl rfl rfl rfl (aC 7 (c_ivBoth a b) Tryz.func90 ⟨rfl, by decide⟩ rfl rfl (aM 8 (.bool (ivBoth a b)) rfl rfl ?_))))))))))))))
 refine bool_split (ivBoth a b) (fun h1 => ?_) (fun h1 => ?_)
 ·refine ar_gd (d := (some 9)) (by show ((ivBoth a b) == true) = true; rw [h1]; rfl) rfl (st_fa rfl fa32_0 rfl (ar_gd (d := (some 10)) (by show ((ivBoth a b) == true) = true; rw [h1]; rfl) rfl (st_ldc (v := .int .i64 b.lo) cell3 0 rfl rfl rfl rfl rfl (ar_gd (d := (some 11)) (by show ((ivBoth a b) == true) = true; rw [h1]; rfl) rfl (st_fa rfl fa32_0 rfl (ar_gd (d := (some 12)) (by show ((ivBoth a b) == true) = true; rw [h1]; rfl) rfl (st_ldc (v := .int .i64 a.lo) cell3 1 rfl rfl rfl rfl rfl (ar_gd (d := (some 13)) (by show ((ivBoth a b) == true) = true; rw [h1]; rfl) rfl (st_bi (r := .bool (decide (b.lo ≤ a.lo))) rfl rfl rfl (bi_leq rfl) ?_)))))))))
  refine ao 14 rfl rfl (st_pkt' (b := ivBoth a b) (v := .bool (decide (b.lo ≤ a.lo))) h1 rfl rfl rfl (aM 15 (.bool (decide (b.lo ≤ a.lo))) rfl rfl ?_))
  refine bool_split (decide (b.lo ≤ a.lo)) (fun h2 => ?_) (fun h2 => ?_)
  ·refine ar_gd (d := (some 16)) (by show ((decide (b.lo ≤ a.lo)) == true) = true; rw [h2]; rfl) rfl (st_fa rfl fa32_1 rfl (ar_gd (d := (some 17)) (by show ((decide (b.lo ≤ a.lo)) == true) = true; rw [h2]; rfl) rfl (st_ldc (v := .int .i64 a.hi) cell3 1 rfl rfl rfl rfl rfl (ar_gd (d := (some 18)) (by show ((decide (b.lo ≤ a.lo)) == true) = true; rw [h2]; rfl) rfl (st_fa rfl fa32_1 rfl (ar_gd (d := (some 19)) (by show ((decide (b.lo ≤ a.lo)) == true) = true; rw [h2]; rfl) rfl (st_ldc (v := .int .i64 b.hi) cell3 0 rfl rfl rfl rfl rfl ?_)))))))
   refine ar_gd (d := (some 20)) (by show ((decide (b.lo ≤ a.lo)) == true) = true; rw [h2]; rfl) rfl (st_bi (r := .bool (decide (a.hi ≤ b.hi))) rfl rfl rfl (bi_leq rfl) (ao 21 rfl rfl (st_pkt' (b := decide (b.lo ≤ a.lo)) (v := .bool (decide (a.hi ≤ b.hi))) h2 rfl rfl rfl (aA 4 (.bool (decide (a.hi ≤ b.hi))) rfl rfl (aN (ac_ret (fin_eq (v := .bool (decide (a.hi ≤ b.hi))) (by show _ = (fun (r : Bool) => (.bool r : Value)) (ivInside a b); rw [ivInside, h2, h1] <;> rfl) (fin_ret (res_tmp rfl rfl)))))))))
  ·refine aK 16 (by show ((decide (b.lo ≤ a.lo)) == true) = false; rw [h2]; rfl) rfl (aK 17 (by show ((decide (b.lo ≤ a.lo)) == true) = false; rw [h2]; rfl) rfl (aK 18 (by show ((decide (b.lo ≤ a.lo)) == true) = false; rw [h2]; rfl) rfl (aK 19 (by show ((decide (b.lo ≤ a.lo)) == true) = false; rw [h2]; rfl) rfl (aK 20 (by show ((decide (b.lo ≤ a.lo)) == true) = false; rw [h2]; rfl) rfl (ao 21 rfl rfl (st_pkf' (b := decide (b.lo ≤ a.lo)) (v := .bool false) h2 rfl rfl rfl (aA 4 (.bool false) rfl rfl (aN (ac_ret (fin_eq (v := .bool false) (by show _ = (fun (r : Bool) => (.bool r : Value)) (ivInside a b); rw [ivInside, h2, h1] <;> rfl) (fin_ret (res_tmp rfl rfl))))))))))))
 ·refine aK 9 (by show ((ivBoth a b) == true) = false; rw [h1]; rfl) rfl (aK 10 (by show ((ivBoth a b) == true) = false; rw [h1]; rfl) rfl (aK 11 (by show ((ivBoth a b) == true) = false; rw [h1]; rfl) rfl (aK 12 (by show ((ivBoth a b) == true) = false; rw [h1]; rfl) rfl (aK 13 (by show ((ivBoth a b) == true) = false; rw [h1]; rfl) rfl (ao 14 rfl rfl (st_pkf' (b := ivBoth a b) (v := .bool false) h1 rfl rfl rfl (aM 15 (.bool false) rfl rfl (aK 16 rfl rfl (aK 17 rfl rfl (aK 18 rfl rfl (aK 19 rfl rfl (aK 20 rfl rfl (ao 21 rfl rfl (st_pkf (v := .bool false) rfl rfl rfl (aA 4 (.bool false) rfl rfl (aN (ac_ret ?_)))))))))))))))))
  exact fin_eq (v := .bool false) (by show _ = (fun (r : Bool) => (.bool r : Value)) (ivInside a b); rw [ivInside, h1] <;> rfl) (fin_ret (res_tmp rfl rfl))
end Go.Proofs.YtalffjplbhelcaaGreatDoor
namespace Go.Proofs.YtalffjplbhelcaaGreatDoor
open Go.RowKit
attribute [local irreducible] AC AR DWalk
def endsMul_e0 (a : Iv) (b : Iv) : Iv := (ivOf ((numMul a.lo b.lo false).1) ((numMul a.lo b.lo true).1))
def endsMul_e1 (a : Iv) (b : Iv) : Iv := (ivOf (min ((endsMul_e0 a b).lo) ((numMul a.lo b.lo false).1)) (max ((endsMul_e0 a b).hi) ((numMul a.lo b.lo true).1)))
def endsMul_e2 (a : Iv) (b : Iv) : Iv := (ivOf (min ((endsMul_e1 a b).lo) ((numMul a.lo b.hi false).1)) (max ((endsMul_e1 a b).hi) ((numMul a.lo b.hi true).1)))
def endsMul_e3 (a : Iv) (b : Iv) : Iv := (ivOf (min ((endsMul_e2 a b).lo) ((numMul a.hi b.lo false).1)) (max ((endsMul_e2 a b).hi) ((numMul a.hi b.lo true).1)))
def endsMul_e4 (a : Iv) (b : Iv) : Iv := (ivOf (min ((endsMul_e3 a b).lo) ((numMul a.hi b.hi false).1)) (max ((endsMul_e3 a b).hi) ((numMul a.hi b.hi true).1)))
def endsMul (a : Iv) (b : Iv) : Iv := (bif (numMul a.lo b.lo false).2 then (bif (numMul a.lo b.lo true).2 then (bif (numMul a.lo b.hi false).2 then (bif (numMul a.lo b.hi true).2 then (bif (numMul a.hi b.lo false).2 then (bif (numMul a.hi b.lo true).2 then (bif (numMul a.hi b.hi false).2 then (bif (numMul a.hi b.hi true).2 then (endsMul_e4 a b) else ivNone) else ivNone) else ivNone) else ivNone) else ivNone) else ivNone) else ivNone) else ivNone)
set_option maxRecDepth 100000 in
set_option maxHeartbeats 4000000 in
theorem c_endsMul (a : Iv) (b : Iv) : Gets Tryz.prog 93 #[.func (.func 88) #[] #[], (Iv.v a), (Iv.v b)] (Iv.v (endsMul a b)) := by
 refine gets_fin Tryz.func93 rfl rfl rfl (aQ (aL (ao 4 rfl rfl (st_box (v := (Iv.v a)) (cs := [.int .i64 a.lo, .int .i64 a.hi, .bool a.no]) rfl rfl rfl fun g0 => (ao 5 rfl rfl (st_box (v := (Iv.v b)) (cs := [.int .i64 b.lo, .int .i64 b.hi, .bool b.no]) rfl rfl rfl fun g1 => (ao 6 rfl rfl (st_new zero32 rfl fun g2 => (aN (aQ (aL (ao 7 rfl rfl (st_new zero32 rfl fun g3 => (aN (aQ (aL (aA 8 (.bool true) rfl rfl (aN (aQ (aQ (aL (aF 17 fa32_0 rfl rfl (aD 18 (.int .i64 a.lo) cell3 3 rfl rfl rfl rfl (aF 19 fa32_1 rfl rfl (aD 20 (.int .i64 a.hi) cell3 3 rfl rfl rfl rfl ?_)))))))))))))))))))))))))
 refine ao 21 rfl rfl (st_bd (us := [(0, .int .i64 a.lo), (1, .int .i64 a.hi)]) (v := .agg #[.int .i64 a.lo, .int .i64 a.hi]) rfl rfl (bd127_0_1 _ _) (aM 22 (.int .i64 0) rfl rfl (aN (ac_block ?_))))
 refine ac_rounds 61 (ar_round (aQ (aL (aB 23 (.bool true) rfl rfl rfl (bi_lss (by decide)) (aN (aQ (ac_then rfl (ac_skip (aQ (ac_block (aQ (aL (ao 24 rfl rfl (st_ix (v := .int .i64 a.lo) rfl rfl rfl (ix127_0 _ _) (aA 10 (.int .i64 a.lo) rfl rfl (aN (aQ (aL (aF 25 fa32_0 rfl rfl (aD 26 (.int .i64 b.lo) cell3 2 rfl rfl rfl rfl (aF 27 fa32_1 rfl rfl (aD 28 (.int .i64 b.hi) cell3 2 rfl rfl rfl rfl (ao 29 rfl rfl (st_bd (us := [(0, .int .i64 b.lo), (1, .int .i64 b.hi)]) (v := .agg #[.int .i64 b.lo, .int .i64 b.hi]) rfl rfl (bd127_0_1 _ _) (aM 30 (.int .i64 0) rfl rfl (aN (ac_block ?_)))))))))))))))))))))))))))
 refine ac_rounds 61 (ar_round (aQ (aL (aB 31 (.bool true) rfl rfl rfl (bi_lss (by decide)) (aN (aQ (ac_then rfl (ac_skip (aQ (ac_block (aQ (aL (ao 32 rfl rfl (st_ix (v := .int .i64 b.lo) rfl rfl rfl (ix127_0 _ _) (aA 12 (.int .i64 b.lo) rfl rfl (aN (aQ (aL (aM 34 (.func (.func 88) #[] #[]) rfl rfl (aM 35 (.int .i64 a.lo) rfl rfl (aM 36 (.int .i64 b.lo) rfl rfl (ao 37 rfl rfl (st_cv (c_numMul a.lo b.lo false) Tryz.func88 rfl (by decide) rfl rfl rfl (aM 33 (.tuple #[.int .i64 ((numMul a.lo b.lo false).1), .bool ((numMul a.lo b.lo false).2)]) rfl rfl (aX 38 (.int .i64 ((numMul a.lo b.lo false).1)) rfl rfl rfl ?_)))))))))))))))))))))))))
 refine aX 39 (.bool ((numMul a.lo b.lo false).2)) rfl rfl rfl (aA 13 (.int .i64 ((numMul a.lo b.lo false).1)) rfl rfl (aA 14 (.bool ((numMul a.lo b.lo false).2)) rfl rfl (aN (aQ (aL (aM 41 (.func (.func 88) #[] #[]) rfl rfl (aM 42 (.int .i64 a.lo) rfl rfl (aM 43 (.int .i64 b.lo) rfl rfl (ao 44 rfl rfl (st_cv (c_numMul a.lo b.lo true) Tryz.func88 rfl (by decide) rfl rfl rfl (aM 40 (.tuple #[.int .i64 ((numMul a.lo b.lo true).1), .bool ((numMul a.lo b.lo true).2)]) rfl rfl (aX 45 (.int .i64 ((numMul a.lo b.lo true).1)) rfl rfl rfl (aX 46 (.bool ((numMul a.lo b.lo true).2)) rfl rfl rfl (aA 15 (.int .i64 ((numMul a.lo b.lo true).1)) rfl rfl ?_))))))))))))))
 refine aA 16 (.bool ((numMul a.lo b.lo true).2)) rfl rfl (aN (aQ (aQ (aL (aM 47 (.bool ((numMul a.lo b.lo false).2)) rfl rfl (ao 48 rfl rfl (st_un (v := .bool (!((numMul a.lo b.lo false).2))) rfl rfl (un_not rfl) (aM 49 (.bool (!((numMul a.lo b.lo false).2))) rfl rfl ?_))))))))
 refine bool_split ((numMul a.lo b.lo false).2) (fun h1 => ?_) (fun h1 => ?_)
 ·refine ar_gd (d := (some 50)) (by show ((!((numMul a.lo b.lo false).2)) == false) = true; rw [h1]; rfl) rfl (st_move (v := .bool ((numMul a.lo b.lo true).2)) rfl rfl (ar_gd (d := (some 51)) (by show ((!((numMul a.lo b.lo false).2)) == false) = true; rw [h1]; rfl) rfl (st_un (v := .bool (!((numMul a.lo b.lo true).2))) rfl rfl (un_not rfl) (ao 52 rfl rfl (st_pkf' (b := !((numMul a.lo b.lo false).2)) (v := .bool (!((numMul a.lo b.lo true).2))) (by rw [h1]; rfl) rfl rfl rfl (aN ?_))))))
  refine bool_split ((numMul a.lo b.lo true).2) (fun h2 => ?_) (fun h2 => ?_)
  ·refine ac_else' (b := !((numMul a.lo b.lo true).2)) (by rw [h2]; rfl) rfl (ac_skip (aQ (aQ (aL (aM 54 (.bool true) rfl rfl (aN (ac_then rfl (aL (aM 55 (.int .i64 ((numMul a.lo b.lo false).1)) rfl rfl (aM 56 (.int .i64 ((numMul a.lo b.lo true).1)) rfl rfl (aC 57 (c_ivOf ((numMul a.lo b.lo false).1) ((numMul a.lo b.lo true).1)) Tryz.func72 ⟨rfl, by decide⟩ rfl rfl (aS [.int .i64 ((endsMul_e0 a b).lo), .int .i64 ((endsMul_e0 a b).hi), .bool ((endsMul_e0 a b).no)] agg32 0 rfl rfl rfl rfl rfl rfl (aA 8 (.bool false) rfl rfl (aN (aL (aF 58 fa32_0 rfl rfl (aD 59 (.int .i64 ((endsMul_e0 a b).lo)) cell3 0 rfl rfl rfl rfl ?_)))))))))))))))))
   refine aM 60 (.int .i64 ((numMul a.lo b.lo false).1)) rfl rfl (ao 61 rfl rfl (st_mn (x := ((endsMul_e0 a b).lo)) (y := ((numMul a.lo b.lo false).1)) (c := (min ((endsMul_e0 a b).lo) ((numMul a.lo b.lo false).1))) rfl rfl rfl (aF 62 fa32_1 rfl rfl (aD 63 (.int .i64 ((endsMul_e0 a b).hi)) cell3 0 rfl rfl rfl rfl (aM 64 (.int .i64 ((numMul a.lo b.lo true).1)) rfl rfl (ao 65 rfl rfl (st_mx (x := ((endsMul_e0 a b).hi)) (y := ((numMul a.lo b.lo true).1)) (c := (max ((endsMul_e0 a b).hi) ((numMul a.lo b.lo true).1))) rfl rfl rfl ?_)))))))
   refine aC 66 (c_ivOf (min ((endsMul_e0 a b).lo) ((numMul a.lo b.lo false).1)) (max ((endsMul_e0 a b).hi) ((numMul a.lo b.lo true).1))) Tryz.func72 ⟨rfl, by decide⟩ rfl rfl (aS [.int .i64 ((endsMul_e1 a b).lo), .int .i64 ((endsMul_e1 a b).hi), .bool ((endsMul_e1 a b).no)] agg32 0 rfl rfl rfl rfl rfl rfl (aN (aL (aB 67 (.int .i64 1) rfl rfl rfl (bi_add (by decide)) (aM 30 (.int .i64 1) rfl rfl (aN (ar_round (aQ (aL (aB 31 (.bool true) rfl rfl rfl (bi_lss (by decide)) (aN (aQ (ac_then rfl (ac_skip (aQ (ac_block (aQ (aL (ao 32 rfl rfl (st_ix (v := .int .i64 b.hi) rfl rfl rfl (ix127_1 _ _) (aA 12 (.int .i64 b.hi) rfl rfl (aN (aQ (aL ?_))))))))))))))))))))))))
   refine aM 34 (.func (.func 88) #[] #[]) rfl rfl (aM 35 (.int .i64 a.lo) rfl rfl (aM 36 (.int .i64 b.hi) rfl rfl (ao 37 rfl rfl (st_cv (c_numMul a.lo b.hi false) Tryz.func88 rfl (by decide) rfl rfl rfl (aM 33 (.tuple #[.int .i64 ((numMul a.lo b.hi false).1), .bool ((numMul a.lo b.hi false).2)]) rfl rfl (aX 38 (.int .i64 ((numMul a.lo b.hi false).1)) rfl rfl rfl (aX 39 (.bool ((numMul a.lo b.hi false).2)) rfl rfl rfl (aA 13 (.int .i64 ((numMul a.lo b.hi false).1)) rfl rfl (aA 14 (.bool ((numMul a.lo b.hi false).2)) rfl rfl (aN (aQ (aL (aM 41 (.func (.func 88) #[] #[]) rfl rfl (aM 42 (.int .i64 a.lo) rfl rfl (aM 43 (.int .i64 b.hi) rfl rfl ?_)))))))))))))))
   refine ao 44 rfl rfl (st_cv (c_numMul a.lo b.hi true) Tryz.func88 rfl (by decide) rfl rfl rfl (aM 40 (.tuple #[.int .i64 ((numMul a.lo b.hi true).1), .bool ((numMul a.lo b.hi true).2)]) rfl rfl (aX 45 (.int .i64 ((numMul a.lo b.hi true).1)) rfl rfl rfl (aX 46 (.bool ((numMul a.lo b.hi true).2)) rfl rfl rfl (aA 15 (.int .i64 ((numMul a.lo b.hi true).1)) rfl rfl (aA 16 (.bool ((numMul a.lo b.hi true).2)) rfl rfl (aN (aQ (aQ (aL (aM 47 (.bool ((numMul a.lo b.hi false).2)) rfl rfl (ao 48 rfl rfl (st_un (v := .bool (!((numMul a.lo b.hi false).2))) rfl rfl (un_not rfl) (aM 49 (.bool (!((numMul a.lo b.hi false).2))) rfl rfl ?_))))))))))))))
   refine bool_split ((numMul a.lo b.hi false).2) (fun h3 => ?_) (fun h3 => ?_)
   ·refine ar_gd (d := (some 50)) (by show ((!((numMul a.lo b.hi false).2)) == false) = true; rw [h3]; rfl) rfl (st_move (v := .bool ((numMul a.lo b.hi true).2)) rfl rfl (ar_gd (d := (some 51)) (by show ((!((numMul a.lo b.hi false).2)) == false) = true; rw [h3]; rfl) rfl (st_un (v := .bool (!((numMul a.lo b.hi true).2))) rfl rfl (un_not rfl) (ao 52 rfl rfl (st_pkf' (b := !((numMul a.lo b.hi false).2)) (v := .bool (!((numMul a.lo b.hi true).2))) (by rw [h3]; rfl) rfl rfl rfl (aN ?_))))))
    refine bool_split ((numMul a.lo b.hi true).2) (fun h4 => ?_) (fun h4 => ?_)
    ·refine ac_else' (b := !((numMul a.lo b.hi true).2)) (by rw [h4]; rfl) rfl (ac_skip (aQ (aQ (aL (aM 54 (.bool false) rfl rfl (aN (ac_else rfl (ac_skip (aL (aF 58 fa32_0 rfl rfl (aD 59 (.int .i64 ((endsMul_e1 a b).lo)) cell3 0 rfl rfl rfl rfl (aM 60 (.int .i64 ((numMul a.lo b.hi false).1)) rfl rfl (ao 61 rfl rfl (st_mn (x := ((endsMul_e1 a b).lo)) (y := ((numMul a.lo b.hi false).1)) (c := (min ((endsMul_e1 a b).lo) ((numMul a.lo b.hi false).1))) rfl rfl rfl (aF 62 fa32_1 rfl rfl (aD 63 (.int .i64 ((endsMul_e1 a b).hi)) cell3 0 rfl rfl rfl rfl (aM 64 (.int .i64 ((numMul a.lo b.hi true).1)) rfl rfl ?_)))))))))))))))))
     refine ao 65 rfl rfl (st_mx (x := ((endsMul_e1 a b).hi)) (y := ((numMul a.lo b.hi true).1)) (c := (max ((endsMul_e1 a b).hi) ((numMul a.lo b.hi true).1))) rfl rfl rfl (aC 66 (c_ivOf (min ((endsMul_e1 a b).lo) ((numMul a.lo b.hi false).1)) (max ((endsMul_e1 a b).hi) ((numMul a.lo b.hi true).1))) Tryz.func72 ⟨rfl, by decide⟩ rfl rfl (aS [.int .i64 ((endsMul_e2 a b).lo), .int .i64 ((endsMul_e2 a b).hi), .bool ((endsMul_e2 a b).no)] agg32 0 rfl rfl rfl rfl rfl rfl (aN (aL (aB 67 (.int .i64 2) rfl rfl rfl (bi_add (by decide)) (aM 30 (.int .i64 2) rfl rfl (aN (ar_round (aQ (aL (aB 31 (.bool false) rfl rfl rfl (bi_lss (by decide)) (aN (aQ (ac_else rfl ?_)))))))))))))))
     refine ac_exit (aL (aB 68 (.int .i64 1) rfl rfl rfl (bi_add (by decide)) (aM 22 (.int .i64 1) rfl rfl (aN (ar_round (aQ (aL (aB 23 (.bool true) rfl rfl rfl (bi_lss (by decide)) (aN (aQ (ac_then rfl (ac_skip (aQ (ac_block (aQ (aL (ao 24 rfl rfl (st_ix (v := .int .i64 a.hi) rfl rfl rfl (ix127_1 _ _) (aA 10 (.int .i64 a.hi) rfl rfl (aN (aQ (aL (aF 25 fa32_0 rfl rfl (aD 26 (.int .i64 b.lo) cell3 2 rfl rfl rfl rfl (aF 27 fa32_1 rfl rfl (aD 28 (.int .i64 b.hi) cell3 2 rfl rfl rfl rfl (ao 29 rfl rfl (st_bd (us := [(0, .int .i64 b.lo), (1, .int .i64 b.hi)]) (v := .agg #[.int .i64 b.lo, .int .i64 b.hi]) rfl rfl (bd127_0_1 _ _) ?_))))))))))))))))))))))))))))
     refine aM 30 (.int .i64 0) rfl rfl (aN (ac_block ?_))
     refine ac_rounds 61 (ar_round (aQ (aL (aB 31 (.bool true) rfl rfl rfl (bi_lss (by decide)) (aN (aQ (ac_then rfl (ac_skip (aQ (ac_block (aQ (aL (ao 32 rfl rfl (st_ix (v := .int .i64 b.lo) rfl rfl rfl (ix127_0 _ _) (aA 12 (.int .i64 b.lo) rfl rfl (aN (aQ (aL (aM 34 (.func (.func 88) #[] #[]) rfl rfl (aM 35 (.int .i64 a.hi) rfl rfl (aM 36 (.int .i64 b.lo) rfl rfl (ao 37 rfl rfl (st_cv (c_numMul a.hi b.lo false) Tryz.func88 rfl (by decide) rfl rfl rfl (aM 33 (.tuple #[.int .i64 ((numMul a.hi b.lo false).1), .bool ((numMul a.hi b.lo false).2)]) rfl rfl (aX 38 (.int .i64 ((numMul a.hi b.lo false).1)) rfl rfl rfl ?_)))))))))))))))))))))))))
     refine aX 39 (.bool ((numMul a.hi b.lo false).2)) rfl rfl rfl (aA 13 (.int .i64 ((numMul a.hi b.lo false).1)) rfl rfl (aA 14 (.bool ((numMul a.hi b.lo false).2)) rfl rfl (aN (aQ (aL (aM 41 (.func (.func 88) #[] #[]) rfl rfl (aM 42 (.int .i64 a.hi) rfl rfl (aM 43 (.int .i64 b.lo) rfl rfl (ao 44 rfl rfl (st_cv (c_numMul a.hi b.lo true) Tryz.func88 rfl (by decide) rfl rfl rfl (aM 40 (.tuple #[.int .i64 ((numMul a.hi b.lo true).1), .bool ((numMul a.hi b.lo true).2)]) rfl rfl (aX 45 (.int .i64 ((numMul a.hi b.lo true).1)) rfl rfl rfl (aX 46 (.bool ((numMul a.hi b.lo true).2)) rfl rfl rfl (aA 15 (.int .i64 ((numMul a.hi b.lo true).1)) rfl rfl ?_))))))))))))))
     refine aA 16 (.bool ((numMul a.hi b.lo true).2)) rfl rfl (aN (aQ (aQ (aL (aM 47 (.bool ((numMul a.hi b.lo false).2)) rfl rfl (ao 48 rfl rfl (st_un (v := .bool (!((numMul a.hi b.lo false).2))) rfl rfl (un_not rfl) (aM 49 (.bool (!((numMul a.hi b.lo false).2))) rfl rfl ?_))))))))
     refine bool_split ((numMul a.hi b.lo false).2) (fun h5 => ?_) (fun h5 => ?_)
     ·refine ar_gd (d := (some 50)) (by show ((!((numMul a.hi b.lo false).2)) == false) = true; rw [h5]; rfl) rfl (st_move (v := .bool ((numMul a.hi b.lo true).2)) rfl rfl (ar_gd (d := (some 51)) (by show ((!((numMul a.hi b.lo false).2)) == false) = true; rw [h5]; rfl) rfl (st_un (v := .bool (!((numMul a.hi b.lo true).2))) rfl rfl (un_not rfl) (ao 52 rfl rfl (st_pkf' (b := !((numMul a.hi b.lo false).2)) (v := .bool (!((numMul a.hi b.lo true).2))) (by rw [h5]; rfl) rfl rfl rfl (aN ?_))))))
      refine bool_split ((numMul a.hi b.lo true).2) (fun h6 => ?_) (fun h6 => ?_)
      ·refine ac_else' (b := !((numMul a.hi b.lo true).2)) (by rw [h6]; rfl) rfl (ac_skip (aQ (aQ (aL (aM 54 (.bool false) rfl rfl (aN (ac_else rfl (ac_skip (aL (aF 58 fa32_0 rfl rfl (aD 59 (.int .i64 ((endsMul_e2 a b).lo)) cell3 0 rfl rfl rfl rfl (aM 60 (.int .i64 ((numMul a.hi b.lo false).1)) rfl rfl (ao 61 rfl rfl (st_mn (x := ((endsMul_e2 a b).lo)) (y := ((numMul a.hi b.lo false).1)) (c := (min ((endsMul_e2 a b).lo) ((numMul a.hi b.lo false).1))) rfl rfl rfl (aF 62 fa32_1 rfl rfl (aD 63 (.int .i64 ((endsMul_e2 a b).hi)) cell3 0 rfl rfl rfl rfl (aM 64 (.int .i64 ((numMul a.hi b.lo true).1)) rfl rfl ?_)))))))))))))))))
       refine ao 65 rfl rfl (st_mx (x := ((endsMul_e2 a b).hi)) (y := ((numMul a.hi b.lo true).1)) (c := (max ((endsMul_e2 a b).hi) ((numMul a.hi b.lo true).1))) rfl rfl rfl (aC 66 (c_ivOf (min ((endsMul_e2 a b).lo) ((numMul a.hi b.lo false).1)) (max ((endsMul_e2 a b).hi) ((numMul a.hi b.lo true).1))) Tryz.func72 ⟨rfl, by decide⟩ rfl rfl (aS [.int .i64 ((endsMul_e3 a b).lo), .int .i64 ((endsMul_e3 a b).hi), .bool ((endsMul_e3 a b).no)] agg32 0 rfl rfl rfl rfl rfl rfl (aN (aL (aB 67 (.int .i64 1) rfl rfl rfl (bi_add (by decide)) (aM 30 (.int .i64 1) rfl rfl (aN (ar_round (aQ (aL (aB 31 (.bool true) rfl rfl rfl (bi_lss (by decide)) (aN (aQ ?_))))))))))))))
       refine ac_then rfl (ac_skip (aQ (ac_block (aQ (aL (ao 32 rfl rfl (st_ix (v := .int .i64 b.hi) rfl rfl rfl (ix127_1 _ _) (aA 12 (.int .i64 b.hi) rfl rfl (aN (aQ (aL (aM 34 (.func (.func 88) #[] #[]) rfl rfl (aM 35 (.int .i64 a.hi) rfl rfl (aM 36 (.int .i64 b.hi) rfl rfl (ao 37 rfl rfl (st_cv (c_numMul a.hi b.hi false) Tryz.func88 rfl (by decide) rfl rfl rfl (aM 33 (.tuple #[.int .i64 ((numMul a.hi b.hi false).1), .bool ((numMul a.hi b.hi false).2)]) rfl rfl (aX 38 (.int .i64 ((numMul a.hi b.hi false).1)) rfl rfl rfl (aX 39 (.bool ((numMul a.hi b.hi false).2)) rfl rfl rfl (aA 13 (.int .i64 ((numMul a.hi b.hi false).1)) rfl rfl ?_))))))))))))))))))))
       refine aA 14 (.bool ((numMul a.hi b.hi false).2)) rfl rfl (aN (aQ (aL (aM 41 (.func (.func 88) #[] #[]) rfl rfl (aM 42 (.int .i64 a.hi) rfl rfl (aM 43 (.int .i64 b.hi) rfl rfl (ao 44 rfl rfl (st_cv (c_numMul a.hi b.hi true) Tryz.func88 rfl (by decide) rfl rfl rfl (aM 40 (.tuple #[.int .i64 ((numMul a.hi b.hi true).1), .bool ((numMul a.hi b.hi true).2)]) rfl rfl (aX 45 (.int .i64 ((numMul a.hi b.hi true).1)) rfl rfl rfl (aX 46 (.bool ((numMul a.hi b.hi true).2)) rfl rfl rfl (aA 15 (.int .i64 ((numMul a.hi b.hi true).1)) rfl rfl (aA 16 (.bool ((numMul a.hi b.hi true).2)) rfl rfl (aN (aQ (aQ (aL ?_)))))))))))))))))
       refine aM 47 (.bool ((numMul a.hi b.hi false).2)) rfl rfl (ao 48 rfl rfl (st_un (v := .bool (!((numMul a.hi b.hi false).2))) rfl rfl (un_not rfl) (aM 49 (.bool (!((numMul a.hi b.hi false).2))) rfl rfl ?_)))
       refine bool_split ((numMul a.hi b.hi false).2) (fun h7 => ?_) (fun h7 => ?_)
       ·refine ar_gd (d := (some 50)) (by show ((!((numMul a.hi b.hi false).2)) == false) = true; rw [h7]; rfl) rfl (st_move (v := .bool ((numMul a.hi b.hi true).2)) rfl rfl (ar_gd (d := (some 51)) (by show ((!((numMul a.hi b.hi false).2)) == false) = true; rw [h7]; rfl) rfl (st_un (v := .bool (!((numMul a.hi b.hi true).2))) rfl rfl (un_not rfl) (ao 52 rfl rfl (st_pkf' (b := !((numMul a.hi b.hi false).2)) (v := .bool (!((numMul a.hi b.hi true).2))) (by rw [h7]; rfl) rfl rfl rfl (aN ?_))))))
        refine bool_split ((numMul a.hi b.hi true).2) (fun h8 => ?_) (fun h8 => ?_)
        ·refine ac_else' (b := !((numMul a.hi b.hi true).2)) (by rw [h8]; rfl) rfl (ac_skip (aQ (aQ (aL (aM 54 (.bool false) rfl rfl (aN (ac_else rfl (ac_skip (aL (aF 58 fa32_0 rfl rfl (aD 59 (.int .i64 ((endsMul_e3 a b).lo)) cell3 0 rfl rfl rfl rfl (aM 60 (.int .i64 ((numMul a.hi b.hi false).1)) rfl rfl (ao 61 rfl rfl (st_mn (x := ((endsMul_e3 a b).lo)) (y := ((numMul a.hi b.hi false).1)) (c := (min ((endsMul_e3 a b).lo) ((numMul a.hi b.hi false).1))) rfl rfl rfl (aF 62 fa32_1 rfl rfl (aD 63 (.int .i64 ((endsMul_e3 a b).hi)) cell3 0 rfl rfl rfl rfl (aM 64 (.int .i64 ((numMul a.hi b.hi true).1)) rfl rfl ?_)))))))))))))))))
         refine ao 65 rfl rfl (st_mx (x := ((endsMul_e3 a b).hi)) (y := ((numMul a.hi b.hi true).1)) (c := (max ((endsMul_e3 a b).hi) ((numMul a.hi b.hi true).1))) rfl rfl rfl (aC 66 (c_ivOf (min ((endsMul_e3 a b).lo) ((numMul a.hi b.hi false).1)) (max ((endsMul_e3 a b).hi) ((numMul a.hi b.hi true).1))) Tryz.func72 ⟨rfl, by decide⟩ rfl rfl (aS [.int .i64 ((endsMul_e4 a b).lo), .int .i64 ((endsMul_e4 a b).hi), .bool ((endsMul_e4 a b).no)] agg32 0 rfl rfl rfl rfl rfl rfl (aN (aL (aB 67 (.int .i64 2) rfl rfl rfl (bi_add (by decide)) (aM 30 (.int .i64 2) rfl rfl (aN (ar_round (aQ (aL (aB 31 (.bool false) rfl rfl rfl (bi_lss (by decide)) (aN (aQ ?_))))))))))))))
         refine ac_else rfl (ac_exit (aL (aB 68 (.int .i64 2) rfl rfl rfl (bi_add (by decide)) (aM 22 (.int .i64 2) rfl rfl (aN (ar_round (aQ (aL (aB 23 (.bool false) rfl rfl rfl (bi_lss (by decide)) (aN (aQ (ac_else rfl (ac_exit (aQ (aL (aG 69 [.int .i64 ((endsMul_e4 a b).lo), .int .i64 ((endsMul_e4 a b).hi), .bool ((endsMul_e4 a b).no)] agg32 0 rfl rfl rfl rfl rfl (aS [.int .i64 ((endsMul_e4 a b).lo), .int .i64 ((endsMul_e4 a b).hi), .bool ((endsMul_e4 a b).no)] agg32 1 rfl rfl rfl rfl rfl rfl (aN (ac_ret ?_)))))))))))))))))))
         exact fin_eq (v := (Iv.v (endsMul_e4 a b))) (by show _ = Iv.v (endsMul a b); rw [endsMul, h8, h7, h6, h5, h4, h3, h2, h1] <;> rfl) (fin_ret (res_c (vs := [.int .i64 ((endsMul_e4 a b).lo), .int .i64 ((endsMul_e4 a b).hi), .bool ((endsMul_e4 a b).no)]) agg32 1 rfl rfl rfl rfl rfl rfl))
        ·refine ac_then' (b := !((numMul a.hi b.hi true).2)) (by rw [h8]; rfl) rfl (aQ (aL (aC 53 c_ivNone Tryz.func25 ⟨rfl, by decide⟩ rfl rfl (aS [.int .i64 ivNone.lo, .int .i64 ivNone.hi, .bool ivNone.no] agg32 1 rfl rfl rfl rfl rfl rfl (aN (ac_ret (fin_eq (v := (Iv.v ivNone)) (by show _ = Iv.v (endsMul a b); rw [endsMul, h8, h7, h6, h5, h4, h3, h2, h1] <;> rfl) (fin_ret (res_c (vs := [.int .i64 ivNone.lo, .int .i64 ivNone.hi, .bool ivNone.no]) agg32 1 rfl rfl rfl rfl rfl rfl)))))))))
       ·refine aK 50 (by show ((!((numMul a.hi b.hi false).2)) == false) = false; rw [h7]; rfl) rfl (aK 51 (by show ((!((numMul a.hi b.hi false).2)) == false) = false; rw [h7]; rfl) rfl (ao 52 rfl rfl (st_pkt' (b := !((numMul a.hi b.hi false).2)) (v := .bool true) (by rw [h7]; rfl) rfl rfl rfl (aN (ac_then rfl (aQ (aL (aC 53 c_ivNone Tryz.func25 ⟨rfl, by decide⟩ rfl rfl (aS [.int .i64 ivNone.lo, .int .i64 ivNone.hi, .bool ivNone.no] agg32 1 rfl rfl rfl rfl rfl rfl (aN (ac_ret ?_)))))))))))
        exact fin_eq (v := (Iv.v ivNone)) (by show _ = Iv.v (endsMul a b); rw [endsMul, h7, h6, h5, h4, h3, h2, h1] <;> rfl) (fin_ret (res_c (vs := [.int .i64 ivNone.lo, .int .i64 ivNone.hi, .bool ivNone.no]) agg32 1 rfl rfl rfl rfl rfl rfl))
      ·refine ac_then' (b := !((numMul a.hi b.lo true).2)) (by rw [h6]; rfl) rfl (aQ (aL (aC 53 c_ivNone Tryz.func25 ⟨rfl, by decide⟩ rfl rfl (aS [.int .i64 ivNone.lo, .int .i64 ivNone.hi, .bool ivNone.no] agg32 1 rfl rfl rfl rfl rfl rfl (aN (ac_ret (fin_eq (v := (Iv.v ivNone)) (by show _ = Iv.v (endsMul a b); rw [endsMul, h6, h5, h4, h3, h2, h1] <;> rfl) (fin_ret (res_c (vs := [.int .i64 ivNone.lo, .int .i64 ivNone.hi, .bool ivNone.no]) agg32 1 rfl rfl rfl rfl rfl rfl)))))))))
     ·refine aK 50 (by show ((!((numMul a.hi b.lo false).2)) == false) = false; rw [h5]; rfl) rfl (aK 51 (by show ((!((numMul a.hi b.lo false).2)) == false) = false; rw [h5]; rfl) rfl (ao 52 rfl rfl (st_pkt' (b := !((numMul a.hi b.lo false).2)) (v := .bool true) (by rw [h5]; rfl) rfl rfl rfl (aN (ac_then rfl (aQ (aL (aC 53 c_ivNone Tryz.func25 ⟨rfl, by decide⟩ rfl rfl (aS [.int .i64 ivNone.lo, .int .i64 ivNone.hi, .bool ivNone.no] agg32 1 rfl rfl rfl rfl rfl rfl (aN (ac_ret ?_)))))))))))
      exact fin_eq (v := (Iv.v ivNone)) (by show _ = Iv.v (endsMul a b); rw [endsMul, h5, h4, h3, h2, h1] <;> rfl) (fin_ret (res_c (vs := [.int .i64 ivNone.lo, .int .i64 ivNone.hi, .bool ivNone.no]) agg32 1 rfl rfl rfl rfl rfl rfl))
    ·refine ac_then' (b := !((numMul a.lo b.hi true).2)) (by rw [h4]; rfl) rfl (aQ (aL (aC 53 c_ivNone Tryz.func25 ⟨rfl, by decide⟩ rfl rfl (aS [.int .i64 ivNone.lo, .int .i64 ivNone.hi, .bool ivNone.no] agg32 1 rfl rfl rfl rfl rfl rfl (aN (ac_ret (fin_eq (v := (Iv.v ivNone)) (by show _ = Iv.v (endsMul a b); rw [endsMul, h4, h3, h2, h1] <;> rfl) (fin_ret (res_c (vs := [.int .i64 ivNone.lo, .int .i64 ivNone.hi, .bool ivNone.no]) agg32 1 rfl rfl rfl rfl rfl rfl)))))))))
   ·refine aK 50 (by show ((!((numMul a.lo b.hi false).2)) == false) = false; rw [h3]; rfl) rfl (aK 51 (by show ((!((numMul a.lo b.hi false).2)) == false) = false; rw [h3]; rfl) rfl (ao 52 rfl rfl (st_pkt' (b := !((numMul a.lo b.hi false).2)) (v := .bool true) (by rw [h3]; rfl) rfl rfl rfl (aN (ac_then rfl (aQ (aL (aC 53 c_ivNone Tryz.func25 ⟨rfl, by decide⟩ rfl rfl (aS [.int .i64 ivNone.lo, .int .i64 ivNone.hi, .bool ivNone.no] agg32 1 rfl rfl rfl rfl rfl rfl (aN (ac_ret ?_)))))))))))
    exact fin_eq (v := (Iv.v ivNone)) (by show _ = Iv.v (endsMul a b); rw [endsMul, h3, h2, h1] <;> rfl) (fin_ret (res_c (vs := [.int .i64 ivNone.lo, .int .i64 ivNone.hi, .bool ivNone.no]) agg32 1 rfl rfl rfl rfl rfl rfl))
  ·refine ac_then' (b := !((numMul a.lo b.lo true).2)) (by rw [h2]; rfl) rfl (aQ (aL (aC 53 c_ivNone Tryz.func25 ⟨rfl, by decide⟩ rfl rfl (aS [.int .i64 ivNone.lo, .int .i64 ivNone.hi, .bool ivNone.no] agg32 1 rfl rfl rfl rfl rfl rfl (aN (ac_ret (fin_eq (v := (Iv.v ivNone)) (by show _ = Iv.v (endsMul a b); rw [endsMul, h2, h1] <;> rfl) (fin_ret (res_c (vs := [.int .i64 ivNone.lo, .int .i64 ivNone.hi, .bool ivNone.no]) agg32 1 rfl rfl rfl rfl rfl rfl)))))))))
 ·refine aK 50 (by show ((!((numMul a.lo b.lo false).2)) == false) = false; rw [h1]; rfl) rfl (aK 51 (by show ((!((numMul a.lo b.lo false).2)) == false) = false; rw [h1]; rfl) rfl (ao 52 rfl rfl (st_pkt' (b := !((numMul a.lo b.lo false).2)) (v := .bool true) (by rw [h1]; rfl) rfl rfl rfl (aN (ac_then rfl (aQ (aL (aC 53 c_ivNone Tryz.func25 ⟨rfl, by decide⟩ rfl rfl (aS [.int .i64 ivNone.lo, .int .i64 ivNone.hi, .bool ivNone.no] agg32 1 rfl rfl rfl rfl rfl rfl (aN (ac_ret ?_)))))))))))
  exact fin_eq (v := (Iv.v ivNone)) (by show _ = Iv.v (endsMul a b); rw [endsMul, h1] <;> rfl) (fin_ret (res_c (vs := [.int .i64 ivNone.lo, .int .i64 ivNone.hi, .bool ivNone.no]) agg32 1 rfl rfl rfl rfl rfl rfl))
def ivMul (a : Iv) (b : Iv) : Iv := (bif ivBoth a b then (endsMul a b) else ivNone)
set_option maxRecDepth 100000 in
theorem c_ivMul (a : Iv) (b : Iv) : Gets Tryz.prog 52 #[(Iv.v a), (Iv.v b)] (Iv.v (ivMul a b)) := by
 refine gets_fin Tryz.func52 rfl rfl rfl (aQ (aL (ao 2 rfl rfl (st_box (v := (Iv.v a)) (cs := [.int .i64 a.lo, .int .i64 a.hi, .bool a.no]) rfl rfl rfl fun g0 => (ao 3 rfl rfl (st_box (v := (Iv.v b)) (cs := [.int .i64 b.lo, .int .i64 b.hi, .bool b.no]) rfl rfl rfl fun g1 => (ao 4 rfl rfl (st_new zero32 rfl fun g2 => (aN (aQ (aQ (aL (aG 5 [.int .i64 a.lo, .int .i64 a.hi, .bool a.no] agg32 2 rfl rfl rfl rfl rfl (aG 6 [.int .i64 b.lo, .int .i64 b.hi, .bool b.no] agg32 1 rfl rfl rfl rfl rfl (aC 7 (c_ivBoth a b) Tryz.func90 ⟨rfl, by decide⟩ rfl rfl (ao 8 rfl rfl (st_un (v := .bool (!(ivBoth a b))) rfl rfl (un_not rfl) (aN ?_))))))))))))))))))
 refine bool_split (ivBoth a b) (fun h1 => ?_) (fun h1 => ?_)
 ·refine ac_else' (b := !(ivBoth a b)) (by rw [h1]; rfl) rfl (ac_skip (aQ (aL (aG 10 [.int .i64 a.lo, .int .i64 a.hi, .bool a.no] agg32 2 rfl rfl rfl rfl rfl (aG 11 [.int .i64 b.lo, .int .i64 b.hi, .bool b.no] agg32 1 rfl rfl rfl rfl rfl (aC 12 (c_endsMul a b) Tryz.func93 ⟨rfl, by decide⟩ rfl rfl (aS [.int .i64 ((endsMul a b).lo), .int .i64 ((endsMul a b).hi), .bool ((endsMul a b).no)] agg32 0 rfl rfl rfl rfl rfl rfl (aN (ac_ret (fin_eq (v := (Iv.v (endsMul a b))) (by show _ = Iv.v (ivMul a b); rw [ivMul, h1] <;> rfl) (fin_ret (res_c (vs := [.int .i64 ((endsMul a b).lo), .int .i64 ((endsMul a b).hi), .bool ((endsMul a b).no)]) agg32 0 rfl rfl rfl rfl rfl rfl))))))))))))
 ·refine ac_then' (b := !(ivBoth a b)) (by rw [h1]; rfl) rfl (aQ (aL (aC 9 c_ivNone Tryz.func25 ⟨rfl, by decide⟩ rfl rfl (aS [.int .i64 ivNone.lo, .int .i64 ivNone.hi, .bool ivNone.no] agg32 0 rfl rfl rfl rfl rfl rfl (aN (ac_ret (fin_eq (v := (Iv.v ivNone)) (by show _ = Iv.v (ivMul a b); rw [ivMul, h1] <;> rfl) (fin_ret (res_c (vs := [.int .i64 ivNone.lo, .int .i64 ivNone.hi, .bool ivNone.no]) agg32 0 rfl rfl rfl rfl rfl rfl)))))))))
end Go.Proofs.YtalffjplbhelcaaGreatDoor
