import Derived.Test.YthngkopcadlciaaPPick
import Derived.Test.YthngkopcadlciaaLSagBalls
set_option linter.unusedVariables false
set_option linter.unusedSimpArgs false
namespace Go.Proofs.Ythngkopcadlciaa

theorem pick_idem (n : Int) {m : Int} (hm : 0 < m) (hm' : m ≤ 9223372036854775807) : hPick (hPick n m) m = hPick n m := by
  rw [hPick_spec (hPick n m) hm hm', hPick_spec n hm hm', Int.emod_emod_of_dvd n (Int.dvd_refl m)]
theorem sagBalls_all : ∀ M : _root_.Fin 3, ∀ N : _root_.Fin 3, ∀ K : _root_.Fin 20, ∀ h : Bool, lawSagBalls (M.val : Int) (N.val : Int) (K.val : Int) h = true := by decide +kernel
theorem lawSagBalls_true (m n k : Int) (h : Bool) : lawSagBalls m n k h = true := by
  have hm := hPick_lt m (m := 3) (by decide) (by decide)
  have hk := hPick_lt k (m := 20) (by decide) (by decide)
  have eD : w64 (w64 (2 + hPick m 3) - 1) = hPick m 3 + 1 := by
    rw [w64_of (n := 2 + hPick m 3) (by omega) (by omega), w64_of (by omega) (by omega)]
    omega
  have hn := hPick_lt n (m := hPick m 3 + 1) (by omega) (by omega)
  have i1 := pick_idem m (m := 3) (by decide) (by decide)
  have i2 := pick_idem n (m := hPick m 3 + 1) (by omega) (by omega)
  have i3 := pick_idem k (m := 20) (by decide) (by decide)
  have e : lawSagBalls m n k h = lawSagBalls (hPick m 3) (hPick n (hPick m 3 + 1)) (hPick k 20) h := by
    simp only [lawSagBalls, lawSagBalls_e0, lawSagBalls_e1, lawSagBalls_e2, lawSagBalls_e3, lawSagBalls_e4, lawSagBalls_e5, lawSagBalls_e6, lawSagBalls_e7, lawSagBalls_e8, lawSagBalls_e9, i1, eD, i2, i3]
  rw [e]
  have := sagBalls_all ⟨(hPick m 3).toNat, by omega⟩ ⟨(hPick n (hPick m 3 + 1)).toNat, by omega⟩ ⟨(hPick k 20).toNat, by omega⟩ h
  simp only [Int.toNat_of_nonneg hm.1, Int.toNat_of_nonneg hn.1, Int.toNat_of_nonneg hk.1] at this
  exact this
end Go.Proofs.Ythngkopcadlciaa
