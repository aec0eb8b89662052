import Derived.Test.YthngkopcadlciaaDec1
set_option linter.unusedVariables false
set_option linter.unusedSimpArgs false
namespace Go.Proofs.Ythngkopcadlciaa
def decPower (n : Int) : Int := 10 ^ n.toNat
theorem c_decPower (n : Int) (h : 0 ≤ n ∧ n ≤ 6) : Gets Try.prog 134 #[.int .i64 n] ((fun (r : Int) => (.int .i64 r : Value)) (decPower n)) := by
  rcases (by omega : n = 0 ∨ n = 1 ∨ n = 2 ∨ n = 3 ∨ n = 4 ∨ n = 5 ∨ n = 6) with rfl | rfl | rfl | rfl | rfl | rfl | rfl
  · exact c_decPow0
  · exact c_decPow1
  · exact c_decPow2
  · exact c_decPow3
  · exact c_decPow4
  · exact c_decPow5
  · exact c_decPow6
theorem pow_ok (d : Dec) (h : decRight d = true) : 0 ≤ d.scale ∧ d.scale ≤ 6 := by
  unfold decRight at h
  simp only [Bool.cond_eq_ite, Bool.ite_eq_true_distrib] at h
  simp at h
  omega
end Go.Proofs.Ythngkopcadlciaa
