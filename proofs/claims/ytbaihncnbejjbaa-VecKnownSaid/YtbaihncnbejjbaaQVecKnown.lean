import Derived.Test.YtbaihncnbejjbaaPVec2
import Derived.Test.YtbaihncnbejjbaaLVecKnown
set_option linter.unusedVariables false
set_option linter.unusedSimpArgs false
namespace Go.Proofs.Ytbaihncnbejjbaa

theorem lawVecKnown_true : lawVecKnown = true := by decide +kernel
end Go.Proofs.Ytbaihncnbejjbaa
