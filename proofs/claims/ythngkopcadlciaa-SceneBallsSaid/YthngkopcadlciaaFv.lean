import Derived.Test.YthngkopcadlciaaCut
set_option linter.unusedVariables false
namespace Go.Proofs.Ythngkopcadlciaa
open Go.RowKit
theorem run_fvc {p : Program} {xs : List Value} {t f : Nat} {fs : Array Field} {fd : Field} {off e : Nat} {v : Value} (hu : p.underlying t = some (.struct fs)) (hf : fs[f]? = some fd) (ho : fd.offset = off) (he : fd.type = e) (hc : IsCell p e) (hv : xs[off]? = some v) : Runs p (Instr.field t (.agg xs.toArray) f) v := ⟨fun w => by
  subst ho
  subst he
  have hp := part_c (w := w) (off := fd.offset) hc hv
  simp [Instr.field, Sem.run_bind, run_underlying hu w, hf, asAgg, hp]⟩
end Go.Proofs.Ythngkopcadlciaa
