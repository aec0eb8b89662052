import Derived.Test.YthngkopcadlciaaPPick
set_option linter.unusedVariables false
namespace Go.Proofs.Ythngkopcadlciaa
theorem balls_nz (m : Int) : w64 (w64 (2 + hPick m 3) - 1) ≠ 0 := by
  have := hPick_lt m (m := 3) (by decide) (by decide)
  rw [w64_of (n := 2 + hPick m 3) (by omega) (by omega), w64_of (by omega) (by omega)]
  omega
theorem balls_nz2 (m : Int) : w64 (w64 (2 + hPick m 2) - 1) ≠ 0 := by
  have := hPick_lt m (m := 2) (by decide) (by decide)
  rw [w64_of (n := 2 + hPick m 2) (by omega) (by omega), w64_of (by omega) (by omega)]
  omega
end Go.Proofs.Ythngkopcadlciaa
