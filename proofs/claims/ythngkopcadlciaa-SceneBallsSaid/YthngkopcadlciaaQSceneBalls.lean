import Derived.Test.YthngkopcadlciaaPPick
import Derived.Test.YthngkopcadlciaaLSceneBalls
set_option linter.unusedVariables false
set_option linter.unusedSimpArgs false
namespace Go.Proofs.Ythngkopcadlciaa

theorem pick_idem (n : Int) {m : Int} (hm : 0 < m) (hm' : m ≤ 9223372036854775807) : hPick (hPick n m) m = hPick n m := by
  rw [hPick_spec (hPick n m) hm hm', hPick_spec n hm hm', Int.emod_emod_of_dvd n (Int.dvd_refl m)]
theorem sceneBalls_all : ∀ M : _root_.Fin 2, ∀ N : _root_.Fin 2, ∀ K : _root_.Fin 60, ∀ h : Bool, lawSceneBalls (M.val : Int) (N.val : Int) (K.val : Int) h = true := by decide +kernel
theorem lawSceneBalls_true (m n z : Int) (h : Bool) : lawSceneBalls m n z h = true := by
  have hm := hPick_lt m (m := 2) (by decide) (by decide)
  have hk := hPick_lt z (m := 60) (by decide) (by decide)
  have eD : w64 (w64 (2 + hPick m 2) - 1) = hPick m 2 + 1 := by
    rw [w64_of (n := 2 + hPick m 2) (by omega) (by omega), w64_of (by omega) (by omega)]
    omega
  have hn := hPick_lt n (m := hPick m 2 + 1) (by omega) (by omega)
  have i1 := pick_idem m (m := 2) (by decide) (by decide)
  have i2 := pick_idem n (m := hPick m 2 + 1) (by omega) (by omega)
  have i3 := pick_idem z (m := 60) (by decide) (by decide)
  have e : lawSceneBalls m n z h = lawSceneBalls (hPick m 2) (hPick n (hPick m 2 + 1)) (hPick z 60) h := by
    simp only [lawSceneBalls, lawSceneBalls_e0, lawSceneBalls_e1, lawSceneBalls_e2, lawSceneBalls_e3, lawSceneBalls_e4, lawSceneBalls_e5, i1, eD, i2, i3]
  rw [e]
  have := sceneBalls_all ⟨(hPick m 2).toNat, by omega⟩ ⟨(hPick n (hPick m 2 + 1)).toNat, by omega⟩ ⟨(hPick z 60).toNat, by omega⟩ h
  simp only [Int.toNat_of_nonneg hm.1, Int.toNat_of_nonneg hn.1, Int.toNat_of_nonneg hk.1] at this
  exact this
end Go.Proofs.Ythngkopcadlciaa
