import Derived.Test.YthngkopcadlciaaPIv3
import Derived.Test.YthngkopcadlciaaLPolyKnown
set_option linter.unusedVariables false
set_option linter.unusedSimpArgs false
namespace Go.Proofs.Ythngkopcadlciaa

theorem lawPolyKnown_true : lawPolyKnown = true := by decide +kernel
end Go.Proofs.Ythngkopcadlciaa
