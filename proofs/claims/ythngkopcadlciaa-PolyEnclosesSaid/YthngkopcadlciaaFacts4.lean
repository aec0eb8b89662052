import Derived.Test.YthngkopcadlciaaFacts3
import Derived.Test.YthngkopcadlciaaAny
set_option linter.unusedVariables false
set_option linter.unusedSimpArgs false
namespace Go.Proofs.Ythngkopcadlciaa
open Go.RowKit

end Go.Proofs.Ythngkopcadlciaa
