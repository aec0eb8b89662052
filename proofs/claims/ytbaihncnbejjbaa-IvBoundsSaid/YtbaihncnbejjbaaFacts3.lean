import Derived.Test.YtbaihncnbejjbaaFacts2
set_option linter.unusedVariables false
set_option linter.unusedSimpArgs false
namespace Go.Proofs.Ytbaihncnbejjbaa
open Go.RowKit

end Go.Proofs.Ytbaihncnbejjbaa
