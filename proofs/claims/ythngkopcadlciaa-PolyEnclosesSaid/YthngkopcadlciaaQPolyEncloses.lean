import Derived.Test.YthngkopcadlciaaPEncl
import Derived.Test.YthngkopcadlciaaLPolyEncloses0
import Derived.Test.YthngkopcadlciaaLPolyEncloses1
import Derived.Test.YthngkopcadlciaaLPolyEncloses2
import Derived.Test.YthngkopcadlciaaLPolyEncloses3
import Derived.Test.YthngkopcadlciaaLPolyEncloses4
import Derived.Test.YthngkopcadlciaaLPolyEncloses5
import Derived.Test.YthngkopcadlciaaLPolyEncloses6
set_option linter.unusedVariables false
set_option linter.unusedSimpArgs false
namespace Go.Proofs.Ythngkopcadlciaa
theorem small1 (z0 : Int) : Small [(w64 (hPick z0 21 - 10))] := by
  intro K hK
  simp only [List.mem_cons, List.not_mem_nil, or_false] at hK
  rcases hK with rfl <;> exact coef_small _
theorem lawPolyEncloses1_true (z0 x m n : Int) : lawPolyEncloses1 z0 x m n = true :=
  encl (at_small x) (w64 (hPick z0 21 - 10)) [] _ [] _ (small1 z0) (Nat.le_of_ble_eq_true rfl) (coef_le z0 _) trivial (at_le x n)
theorem small2 (z0 z1 : Int) : Small [(w64 (hPick z0 21 - 10)), (w64 (hPick z1 21 - 10))] := by
  intro K hK
  simp only [List.mem_cons, List.not_mem_nil, or_false] at hK
  rcases hK with rfl | rfl <;> exact coef_small _
theorem lawPolyEncloses2_true (z0 z1 x m n : Int) : lawPolyEncloses2 z0 z1 x m n = true :=
  encl (at_small x) (w64 (hPick z0 21 - 10)) [(w64 (hPick z1 21 - 10))] _ [_] _ (small2 z0 z1) (Nat.le_of_ble_eq_true rfl) (coef_le z0 _) ⟨coef_le z1 _, trivial⟩ (at_le x n)
theorem small3 (z0 z1 z2 : Int) : Small [(w64 (hPick z0 21 - 10)), (w64 (hPick z1 21 - 10)), (w64 (hPick z2 21 - 10))] := by
  intro K hK
  simp only [List.mem_cons, List.not_mem_nil, or_false] at hK
  rcases hK with rfl | rfl | rfl <;> exact coef_small _
theorem lawPolyEncloses3_true (z0 z1 z2 x m n : Int) : lawPolyEncloses3 z0 z1 z2 x m n = true :=
  encl (at_small x) (w64 (hPick z0 21 - 10)) [(w64 (hPick z1 21 - 10)), (w64 (hPick z2 21 - 10))] _ [_, _] _ (small3 z0 z1 z2) (Nat.le_of_ble_eq_true rfl) (coef_le z0 _) ⟨coef_le z1 _, ⟨coef_le z2 _, trivial⟩⟩ (at_le x n)
theorem small4 (z0 z1 z2 z3 : Int) : Small [(w64 (hPick z0 21 - 10)), (w64 (hPick z1 21 - 10)), (w64 (hPick z2 21 - 10)), (w64 (hPick z3 21 - 10))] := by
  intro K hK
  simp only [List.mem_cons, List.not_mem_nil, or_false] at hK
  rcases hK with rfl | rfl | rfl | rfl <;> exact coef_small _
theorem lawPolyEncloses4_true (z0 z1 z2 z3 x m n : Int) : lawPolyEncloses4 z0 z1 z2 z3 x m n = true :=
  encl (at_small x) (w64 (hPick z0 21 - 10)) [(w64 (hPick z1 21 - 10)), (w64 (hPick z2 21 - 10)), (w64 (hPick z3 21 - 10))] _ [_, _, _] _ (small4 z0 z1 z2 z3) (Nat.le_of_ble_eq_true rfl) (coef_le z0 _) ⟨coef_le z1 _, ⟨coef_le z2 _, ⟨coef_le z3 _, trivial⟩⟩⟩ (at_le x n)
theorem small5 (z0 z1 z2 z3 z4 : Int) : Small [(w64 (hPick z0 21 - 10)), (w64 (hPick z1 21 - 10)), (w64 (hPick z2 21 - 10)), (w64 (hPick z3 21 - 10)), (w64 (hPick z4 21 - 10))] := by
  intro K hK
  simp only [List.mem_cons, List.not_mem_nil, or_false] at hK
  rcases hK with rfl | rfl | rfl | rfl | rfl <;> exact coef_small _
theorem lawPolyEncloses5_true (z0 z1 z2 z3 z4 x m n : Int) : lawPolyEncloses5 z0 z1 z2 z3 z4 x m n = true :=
  encl (at_small x) (w64 (hPick z0 21 - 10)) [(w64 (hPick z1 21 - 10)), (w64 (hPick z2 21 - 10)), (w64 (hPick z3 21 - 10)), (w64 (hPick z4 21 - 10))] _ [_, _, _, _] _ (small5 z0 z1 z2 z3 z4) (Nat.le_of_ble_eq_true rfl) (coef_le z0 _) ⟨coef_le z1 _, ⟨coef_le z2 _, ⟨coef_le z3 _, ⟨coef_le z4 _, trivial⟩⟩⟩⟩ (at_le x n)
theorem lawPolyEncloses6_true (z0 z1 z2 z3 z4 x m n : Int) : lawPolyEncloses6 z0 z1 z2 z3 z4 x m n = true :=
  encl (at_small x) (w64 (hPick z0 21 - 10)) [(w64 (hPick z1 21 - 10)), (w64 (hPick z2 21 - 10)), (w64 (hPick z3 21 - 10)), (w64 (hPick z4 21 - 10))] _ [_, _, _, _] _ (small5 z0 z1 z2 z3 z4) (Nat.le_of_ble_eq_true rfl) (coef_le z0 _) ⟨coef_le z1 _, ⟨coef_le z2 _, ⟨coef_le z3 _, ⟨coef_le z4 _, trivial⟩⟩⟩⟩ (at_le x n)
theorem lawPolyEncloses0_true (x m n : Int) : lawPolyEncloses0 x m n = true := by
  show (bif known4 then (bif ivHas (ivPoint 0) 0 then (bif (ivPoint 0).lo == (ivPoint 0).hi then (bif ivRight (ivPoint 0) then ivInside (ivPoint 0) (ivPoint 0) else true) else false) else false) else false) = true
  decide +kernel
end Go.Proofs.Ythngkopcadlciaa
