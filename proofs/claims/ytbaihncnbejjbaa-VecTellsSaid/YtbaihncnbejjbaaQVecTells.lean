import Derived.Test.YtbaihncnbejjbaaPVec2
import Derived.Test.YtbaihncnbejjbaaLVecTells
set_option linter.unusedVariables false
set_option linter.unusedSimpArgs false
namespace Go.Proofs.Ytbaihncnbejjbaa

theorem lawVecTells_true (l m : A6) (k a b : Int) : lawVecTells l m k a b = true := by
  have e : vecOf (hV l).x (hV l).y (hV l).z = hV l := rfl
  unfold lawVecTells
  simp only [e, rVecRight_eq, rVecAdd_eq, rVecSub_eq, rVecScale_eq, rVecDot_eq, rVecLen2_eq, rVecUnit_eq, rVecAlong_eq, rVecHull_eq, rVecInside_eq, rVecTurn_eq, rVecMirror_eq, known5_true, decide_true, beq_self_eq_true, cond_true]
end Go.Proofs.Ytbaihncnbejjbaa
