import Derived.Test.YthngkopcadlciaaPPick
import Derived.Test.YthngkopcadlciaaLNormalBalls
set_option linter.unusedVariables false
set_option linter.unusedSimpArgs false
namespace Go.Proofs.Ythngkopcadlciaa

theorem pick_idem (n : Int) {m : Int} (hm : 0 < m) (hm' : m ≤ 9223372036854775807) : hPick (hPick n m) m = hPick n m := by
  rw [hPick_spec (hPick n m) hm hm', hPick_spec n hm hm', Int.emod_emod_of_dvd n (Int.dvd_refl m)]
theorem normalBalls_all : ∀ M : _root_.Fin 3, ∀ N : _root_.Fin 3, ∀ h : Bool, lawNormalBalls (M.val : Int) (N.val : Int) h = true := by decide +kernel
theorem lawNormalBalls_true (m n : Int) (h : Bool) : lawNormalBalls m n h = true := by
  have hm := hPick_lt m (m := 3) (by decide) (by decide)
  have eD : w64 (w64 (2 + hPick m 3) - 1) = hPick m 3 + 1 := by
    rw [w64_of (n := 2 + hPick m 3) (by omega) (by omega), w64_of (by omega) (by omega)]
    omega
  have hn := hPick_lt n (m := hPick m 3 + 1) (by omega) (by omega)
  have i1 := pick_idem m (m := 3) (by decide) (by decide)
  have i2 := pick_idem n (m := hPick m 3 + 1) (by omega) (by omega)
  have e : lawNormalBalls m n h = lawNormalBalls (hPick m 3) (hPick n (hPick m 3 + 1)) h := by
    simp only [lawNormalBalls, lawNormalBalls_e0, lawNormalBalls_e1, lawNormalBalls_e2, lawNormalBalls_e3, lawNormalBalls_e4, lawNormalBalls_e5, lawNormalBalls_e6, i1, eD, i2]
  rw [e]
  have := normalBalls_all ⟨(hPick m 3).toNat, by omega⟩ ⟨(hPick n (hPick m 3 + 1)).toNat, by omega⟩ h
  simp only [Int.toNat_of_nonneg hm.1, Int.toNat_of_nonneg hn.1] at this
  exact this
end Go.Proofs.Ythngkopcadlciaa
