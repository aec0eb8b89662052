import Derived.Test.YtbaihncnbejjbaaPSnell
import Derived.Test.YtbaihncnbejjbaaLSnellKnown
set_option linter.unusedVariables false
set_option linter.unusedSimpArgs false
namespace Go.Proofs.Ytbaihncnbejjbaa

theorem lawSnellKnown_true : lawSnellKnown = true := by decide +kernel
end Go.Proofs.Ytbaihncnbejjbaa
