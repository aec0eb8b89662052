import Derived.Test.YthngkopcadlciaaPNum
import Derived.Test.YthngkopcadlciaaPick
set_option linter.unusedVariables false
set_option linter.unusedSimpArgs false
namespace Go.Proofs.Ythngkopcadlciaa

theorem hPick_spec (n : Int) {m : Int} (hm : 0 < m) (hm' : m ≤ 9223372036854775807) : hPick n m = n % m := by
  have h1 := Int.tmod_lt_of_pos n hm
  have h2 := Int.lt_tmod_of_pos n hm
  have he := Int.mul_tdiv_add_tmod n m
  unfold hPick hPick_e0
  by_cases h : n.tmod m < 0
  · rw [decide_eq_true h, w64_of (by omega) (by omega)]
    simp only [cond_true]
    refine (((Int.ediv_emod_unique (q := n.tdiv m - 1) hm).2 ⟨?_, by omega, by omega⟩).2).symm
    rw [Int.mul_sub, Int.mul_one]; omega
  · rw [decide_eq_false h]
    simp only [cond_false]
    exact (((Int.ediv_emod_unique (q := n.tdiv m) hm).2 ⟨by omega, by omega, by omega⟩).2).symm
theorem hPick_lt (n : Int) {m : Int} (hm : 0 < m) (hm' : m ≤ 9223372036854775807) : 0 ≤ hPick n m ∧ hPick n m < m := by
  rw [hPick_spec n hm hm']
  exact ⟨Int.emod_nonneg n (by omega), Int.emod_lt_of_pos n hm⟩
theorem rRight_iff (a : Iv) : rRight a = true ↔ a.no = false ∧ -1073741824 ≤ a.lo ∧ a.lo ≤ a.hi ∧ a.hi ≤ 1073741824 := by
  obtain ⟨lo, hi, no⟩ := a
  unfold rRight
  simp only [rIn_eq]
  cases no <;> simp [numIn_iff, Bool.cond_eq_ite, Bool.and_eq_true] <;> omega
theorem in_nz1 (a : Iv) (h : rRight a = true) : w64 (w64 (a.hi - a.lo) + 1) ≠ 0 := by
  have := (rRight_iff a).1 h
  rw [w64_of (n := a.hi - a.lo) (by omega) (by omega), w64_of (by omega) (by omega)]
  omega
theorem in_nz2 (a : Iv) (x : Int) (h : rRight a = true) : w64 (w64 (a.hi - w64 (a.lo + hPick x (w64 (w64 (a.hi - a.lo) + 1)))) + 1) ≠ 0 := by
  have := (rRight_iff a).1 h
  have h1 : w64 (w64 (a.hi - a.lo) + 1) = a.hi - a.lo + 1 := by
    rw [w64_of (n := a.hi - a.lo) (by omega) (by omega), w64_of (by omega) (by omega)]
  rw [h1]
  have h2 := hPick_lt x (m := a.hi - a.lo + 1) (by omega) (by omega)
  rw [w64_of (n := a.lo + hPick x (a.hi - a.lo + 1)) (by omega) (by omega)]
  rw [w64_of (n := a.hi - _) (by omega) (by omega), w64_of (by omega) (by omega)]
  omega
theorem wide_R (x : Int) {w : Int} (h : 0 ≤ w ∧ w ≤ 1073741824) : rRight (hWide x w) = true := by
  rw [rRight_iff]
  unfold hWide within
  simp only
  have e : w64 (max (-1073741824) (min 1073741824 x) + w) = max (-1073741824) (min 1073741824 x) + w := w64_of (by omega) (by omega)
  rw [e]
  exact ⟨trivial, by omega, by omega, by omega⟩
theorem tame_R (n w : Int) : rRight (hTame n w) = true := by
  unfold hTame
  have := hPick_lt w (m := 3000) (by omega) (by omega)
  exact wide_R _ (by omega)
theorem tame_nz (n w : Int) : w64 (w64 ((hTame n w).hi - (hTame n w).lo) + 1) ≠ 0 := in_nz1 _ (tame_R n w)
theorem tame_small (n w : Int) : -1310720 ≤ (hTame n w).lo ∧ (hTame n w).lo ≤ (hTame n w).hi ∧ (hTame n w).hi ≤ 1313719 := by
  have h1 := hPick_lt w (m := 3000) (by omega) (by omega)
  have h2 := hPick_lt n (m := 2621440) (by omega) (by omega)
  unfold hTame hWide within
  rw [w64_of (n := hPick n 2621440 - 1310720) (by omega) (by omega)]
  simp only
  rw [w64_of (by omega) (by omega)]
  omega
theorem turn_mod (k : Int) : Int.tmod (w64 (Int.tmod k 4 + 4)) 4 = k % 4 := by
  have h1 := Int.tmod_lt_of_pos k (b := 4) (by omega)
  have h2 := Int.lt_tmod_of_pos k (b := 4) (by omega)
  have he := Int.mul_tdiv_add_tmod k 4
  rw [w64_of (by omega) (by omega), Int.tmod_eq_emod_of_nonneg (by omega)]
  omega
theorem turn_lt (k : Int) : decide (4 < Int.tmod (w64 (Int.tmod k 4 + 4)) 4) = false := by
  rw [turn_mod]
  exact decide_eq_false (by omega)
theorem rturn_mod (k : Int) : (bif decide (Int.tmod k 4 < 0) then w64 (Int.tmod k 4 + 4) else Int.tmod k 4) = k % 4 := by
  have h1 := Int.tmod_lt_of_pos k (b := 4) (by omega)
  have h2 := Int.lt_tmod_of_pos k (b := 4) (by omega)
  have he := Int.mul_tdiv_add_tmod k 4
  by_cases h : Int.tmod k 4 < 0
  · rw [decide_eq_true h, w64_of (by omega) (by omega)]
    simp only [cond_true]
    omega
  · rw [decide_eq_false h]
    simp only [cond_false]
    omega
theorem rturn_lt (k : Int) : decide (w64 (w64 (w64 ((bif decide (Int.tmod k 4 < 0) then w64 (Int.tmod k 4 + 4) else Int.tmod k 4) - 1) - 1) - 1) > 0) = false := by
  rw [rturn_mod]
  refine decide_eq_false ?_
  rw [w64_of (n := k % 4 - 1) (by omega) (by omega), w64_of (n := k % 4 - 1 - 1) (by omega) (by omega), w64_of (by omega) (by omega)]
  omega
theorem units_nz (m : Int) : w64 (w64 (2 + hPick m 5) - 1) ≠ 0 := by
  have := hPick_lt m (m := 5) (by omega) (by omega)
  rw [w64_of (n := 2 + hPick m 5) (by omega) (by omega), w64_of (by omega) (by omega)]
  omega
end Go.Proofs.Ythngkopcadlciaa
