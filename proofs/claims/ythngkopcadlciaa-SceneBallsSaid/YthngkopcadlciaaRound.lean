import Derived.Test.YthngkopcadlciaaDraw2
set_option linter.unusedVariables false
namespace Go.Proofs.Ythngkopcadlciaa
theorem ar_dropR {p : Program} {n k : Nat} {c : Code} {Q : Exit → Env → List Box → Prop} {E : Env} {H H' : List Box} (hs : List.Sublist H H') (h : ARounds p n c Q k E H) : ARounds p n c Q k E H' := by
  cases k with
  | zero => exact h
  | succ k => exact ac_drop hs h
end Go.Proofs.Ythngkopcadlciaa
