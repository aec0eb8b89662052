import Derived.Test.YtbaihncnbejjbaaPQuad
import Derived.Test.YtbaihncnbejjbaaLQuadKnown
set_option linter.unusedVariables false
set_option linter.unusedSimpArgs false
namespace Go.Proofs.Ytbaihncnbejjbaa

theorem lawQuadKnown_true : lawQuadKnown = true := by decide +kernel
end Go.Proofs.Ytbaihncnbejjbaa
