import Derived.Test.YthngkopcadlciaaOps
set_option linter.unusedVariables false
namespace Go.Proofs.Ythngkopcadlciaa
/-- A function's code from its n-th part on. -/
def tailOf : Nat → Code → Option Code
  | 0, c => some c
  | n + 1, .seq _ b => tailOf n b
  | _, _ => none
theorem Own.sub {β : Base} {H H' : List Box} {w : World} (hs : List.Sublist H H') (h : Own β H' w) : Own β H w :=
  ⟨h.size, fun b hb => h.at_ b (hs.subset hb), h.apart.sublist (hs.map Box.g)⟩
theorem ac_drop {p : Program} {n : Nat} {c : Code} {Q : Exit → Env → List Box → Prop} {E : Env} {H H' : List Box} (hs : List.Sublist H H') (h : AC p n c Q E H) : AC p n c Q E H' := by
  intro β w a hO hB hse
  exact h β w a (hO.sub hs) hB hse
section
variable {p : Program} {xs : List Value} {m : Nat}
theorem run_fva {t f : Nat} {fs : Array Field} {fd : Field} {off e : Nat} {vs : List Value} (hu : p.underlying t = some (.struct fs)) (hf : fs[f]? = some fd) (ho : fd.offset = off) (he : fd.type = e) (hc : IsAgg p e m) (hv : (xs.drop off).take m = vs) : Runs p (Instr.field t (.agg xs.toArray) f) (.agg vs.toArray) := ⟨fun w => by
  subst ho
  subst he
  have hp := part_a (w := w) (off := fd.offset) hc hv
  simp [Instr.field, Sem.run_bind, run_underlying hu w, hf, asAgg, hp]⟩
end
end Go.Proofs.Ythngkopcadlciaa
