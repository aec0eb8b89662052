import Derived.Test.YtbaihncnbejjbaaPIv3
import Derived.Test.YtbaihncnbejjbaaLIvTells
set_option linter.unusedVariables false
set_option linter.unusedSimpArgs false
namespace Go.Proofs.Ytbaihncnbejjbaa

theorem beqT (a : Bool) : (a == a) = true := by cases a <;> rfl
theorem lawIvTells_true (a b c d n : Int) (raw : Bool) : lawIvTells a b c d n raw = true := by
  unfold lawIvTells
  simp only [lawIvTells_e0, lawIvTells_e1, lawIvTells_e2, lawIvTells_e3, lawIvTells_e4, lawIvTells_e5, lawIvTells_e6, lawIvTells_e7, lawIvTells_e8, lawIvTells_e9, lawIvTells_e10, lawIvTells_e11, lawIvTells_e12, lawIvTells_e13]
  simp only [rAdd_eq, rSub_eq, rNeg_eq, rTimes_eq, rSqr_eq, rRootIv_eq, rHull_eq, rMeet_eq, rMid_eq, rHas_eq, rInside_eq, rSplit_eq, rMulIv_eq, rDivIv_eq, rRight_eq, rOf_eq, rPoint_eq, rWhole_eq, known2_true, decide_true, beq_self_eq_true, cond_true]
  cases raw <;> rfl
end Go.Proofs.Ytbaihncnbejjbaa
