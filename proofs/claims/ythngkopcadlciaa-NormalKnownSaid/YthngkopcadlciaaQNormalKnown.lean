import Derived.Test.YthngkopcadlciaaPIv3
import Derived.Test.YthngkopcadlciaaLNormalKnown
set_option linter.unusedVariables false
set_option linter.unusedSimpArgs false
namespace Go.Proofs.Ythngkopcadlciaa

theorem lawNormalKnown_true : lawNormalKnown = true := by decide +kernel
end Go.Proofs.Ythngkopcadlciaa
