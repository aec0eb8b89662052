import Derived.Test.YtbaihncnbejjbaaPIv3
import Derived.Test.YtbaihncnbejjbaaLIvKnown
set_option linter.unusedVariables false
set_option linter.unusedSimpArgs false
namespace Go.Proofs.Ytbaihncnbejjbaa

theorem lawIvKnown_true : lawIvKnown = true := by decide +kernel
end Go.Proofs.Ytbaihncnbejjbaa
