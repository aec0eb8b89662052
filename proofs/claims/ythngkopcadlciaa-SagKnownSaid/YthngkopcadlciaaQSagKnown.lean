import Derived.Test.YthngkopcadlciaaPIv3
import Derived.Test.YthngkopcadlciaaLSagKnown
set_option linter.unusedVariables false
set_option linter.unusedSimpArgs false
namespace Go.Proofs.Ythngkopcadlciaa

theorem lawSagKnown_true : lawSagKnown = true := by decide +kernel
end Go.Proofs.Ythngkopcadlciaa
