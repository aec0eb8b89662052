import Derived.Test.YthngkopcadlciaaEndsD
set_option linter.unusedVariables false
set_option linter.unusedSimpArgs false
namespace Go.Proofs.Ythngkopcadlciaa
open Go.RowKit

attribute [local irreducible] AC AR DWalk

def known2  : Bool := (bif decide ((ivMul (ivOf (-1) 1) (ivOf 0 65537)) = (⟨(-2), 2, false⟩ : Iv)) then decide (ivNone = (⟨0, 0, true⟩ : Iv)) else false)
def in2 (a : Iv) (b : Iv) : Bool := (bif ivRight b then ivInside a b else true)
end Go.Proofs.Ythngkopcadlciaa
