/- Chapter 16's example, a ball, a term, none. A closed sentence. No condition. -/
import Derived.Test.YthngkopcadlciaaRows
import Derived.Test.YthngkopcadlciaaHeadF
import Derived.Test.YthngkopcadlciaaQNormalKnown
import Derived.WalkKit
import Derived.ProofKit
import Derived.OpenShut
import Derived.ShutString
import Derived.ChangeOld
import Derived.Below
import Derived.SizedLaws
namespace Go.Proofs.Ythngkopcadlciaa.normalKnown
open Go.ChangeShapes Go.WideShapes Go.ChangeAt Go.RowKit
open Go.ChangeMaps (open_string shut_string)
set_option linter.unusedVariables false
theorem own : ownKnob Try.prog.godebug = none := by kernel_rfl
set_option maxRecDepth 100000 in
theorem lifted (os : Os) (started : os.Started) (H : Type) (enc : TypeId × Value → H) :
    ReturnsInHanded {} Try.checked os 11 .any (Rows.normalKnownSpec.pre6 enc Try.prog Try.f11 Rows.normalKnownRow.domain false) (Rows.normalKnownSpec.post enc Try.prog Try.f11 false true false false) := by
  refine returnsInHanded_of_change_sized (C := Try.checked) own started (by kernel_rfl) Try.func11
    (ChangeSpec.witness6 (enc := enc) (C := Try.checked) false ⟨#[], #[], []⟩ 8 (by kernel_rfl) (by kernel_rfl) (by kernel_rfl) (by kernel_rfl)) ?_
  intro W base args ds gs before hval0 hW hcnd hsz0 _
  have hsz : (DataW.weightsEach Try.prog (Try.f11.params.toList ++ Rows.normalKnownSpec.plain.varTypes Try.prog) (ds ++ gs)).all (· ≤ reachBytes) = true := hsz0
  have hval : ∀ (j : Nat) t v, Try.f11.params[j]? = some t → args[j]? = some v → Value.okWide Try.prog W .any base t v := hval0
  have hW' := hW
  obtain ⟨p, q, hA0, hV, rfl, hfz, hnd⟩ := hW
  have hA : DataW.TrodAll enc Try.prog W 0 (fun _ => true) true Try.f11.params.toList args.toList ds p := hA0
  rw [Try.params11] at hA hval hsz
  obtain ⟨rfl, rfl, rfl⟩ := trodAll_none hA
  obtain ⟨rfl, rfl⟩ := trodVars_none hV
  clear hA0 hval0 hsz0 hsz
  refine ((c_lawNormalKnown (lawNormalKnown_true)) W).mono fun e W' ⟨he, bel⟩ => ?_
  subst he
  exact ⟨_, rfl, _, _, _, [], _, [], hW', trodAll_mk1 (shut_bool Try.underlying4 _), trodAll_mk0, rfl, bel.frame _, fun h => by cases h⟩
theorem j0 : Rows.normalKnownRow.wf (OpenSpec.ofChange Rows.normalKnownSpec) = true := by kernel_rfl
theorem j1 : laidOutB Try.prog = true := by kernel_rfl
theorem j2 : mapsRowed Try.prog = true := by kernel_rfl
theorem j3 : Try.f11.params.all (Try.prog.readableRec ·) = true := by kernel_rfl
theorem j4 : namedTie Try.prog Rows.normalKnownRow.named Rows.normalKnownSpec.vars = true := by kernel_rfl
theorem j5 : (Rows.normalKnownRow.stops == []) = true := by kernel_rfl
theorem j6 : (Try.prog.stops == []) = true := by kernel_rfl
theorem j7 : (Rows.normalKnownRow.knobs == []) = true := by kernel_rfl
theorem j8 : (Try.prog.stopKnobs == []) = true := by kernel_rfl
theorem j9 : (Rows.normalKnownRow.inPlace == Try.prog.inPlace 11) = true := by kernel_rfl
theorem j10 : (Rows.normalKnownRow.unfollowed == Try.prog.unfollowed 11) = true := by kernel_rfl
theorem j11 : (Rows.normalKnownRow.recurses == Try.prog.recurses 11) = true := by kernel_rfl
theorem j12 : (Rows.normalKnownRow.named == Try.prog.varsNamed 11) = true := by kernel_rfl
theorem j13 : (Rows.normalKnownRow.maps == (Try.f11.params.toList ++ Rows.normalKnownSpec.plain.varTypes Try.prog).any (Try.prog.mapsRec ·)) = true := by kernel_rfl
theorem j14 : (Rows.normalKnownRow.ifaces == (Try.f11.params.toList ++ Rows.normalKnownSpec.plain.varTypes Try.prog).any (Try.prog.ifacesRec ·)) = true := by kernel_rfl
theorem j15 : (Rows.normalKnownRow.mapsOut == Try.prog.mapsAmong Try.f11.resultTypes.toList) = true := by kernel_rfl
theorem j16 : (Rows.normalKnownRow.loops == (Try.f11.params.toList ++ Rows.normalKnownSpec.plain.varTypes Try.prog).any (Try.prog.loopsFrom ·)) = true := by kernel_rfl
theorem j17 : (Rows.normalKnownRow.wideKeys == (Try.f11.params.toList ++ Rows.normalKnownSpec.plain.varTypes Try.prog ++ Try.f11.resultTypes.toList).any (Try.prog.wideKeysFrom ·)) = true := by kernel_rfl
theorem j18 : Rows.normalKnownSpec.vars.all (Try.prog.varReadable ·) = true := by kernel_rfl
theorem j19 : Try.f11.resultTypes.all (fun t => Try.prog.readableRec t && decide (t < Try.prog.types.size)) = true := by kernel_rfl
theorem j20 : (Rows.normalKnownRow.ifacesOut == Try.f11.resultTypes.toList.any (Try.prog.ifacesRec ·)) = true := by kernel_rfl
theorem j21 : (Rows.normalKnownRow.loopsOut == Try.f11.resultTypes.toList.any (Try.prog.loopsFrom ·)) = true := by kernel_rfl
theorem j22 : (Rows.normalKnownRow.plainKeys == Try.prog.plainKeys) = true := by kernel_rfl
theorem j23 : Rows.normalKnownRow.shortTexts.isNone = true := by kernel_rfl
theorem j24 : Try.prog.stopsHeard = true := by kernel_rfl
theorem j25 : Try.prog.mayEnter = true := head_enter
theorem j26 : (Rows.normalKnownRow.lifted == Try.prog.liftsFinal) = true := by rw [head_final]; rfl
theorem j27 : (Try.prog.make == some Rows.normalKnownRow.make) = true := by rw [head_make]; rfl
theorem j28 : (Rows.normalKnownRow.kinds == (if Rows.normalKnownRow.domain.isEmpty then [] else Try.f11.params.toList.map fun t => match Try.prog.underlying t with | some (.int k) => some k | _ => none)) = true := by kernel_rfl
theorem j29 : (Rows.normalKnownRow.pinned == Rows.normalKnownRow.pinnedBy) = true := by kernel_rfl
theorem j30 : (Rows.normalKnownRow.veiled == (Try.f11.params.toList ++ Rows.normalKnownSpec.plain.varTypes Try.prog ++ Try.f11.resultTypes.toList).any (Try.prog.veiledRec ·)) = true := by kernel_rfl
theorem j31 : Rows.normalKnownRow.veiledFits Try.prog Try.f11.params.toList (Try.f11.params.toList ++ Rows.normalKnownSpec.plain.varTypes Try.prog ++ Try.f11.resultTypes.toList) = true := by kernel_rfl
theorem aI {a b : Bool} (h : a = true) (k : b = true) : (a && b) = true := by rw [h, k]; rfl
set_option maxRecDepth 100000 in
theorem joined : joinedFacts Try.prog 11 Try.f11 Rows.normalKnownSpec Rows.normalKnownRow = true := by
  unfold joinedFacts
  exact (aI (aI (aI (aI (aI (aI (aI (aI (aI (aI (aI (aI (aI (aI (aI (aI (aI (aI (aI (aI (aI (aI (aI (aI (aI (aI (aI (aI (aI (aI (aI j0 j1) j2) j3) j4) j5) j6) j7) j8) j9) j10) j11) j12) j13) j14) j15) j16) j17) j18) j19) j20) j21) j22) j23) j24) j25) j26) j27) j28) j29) j30) j31)
theorem over : Rows.normalKnownRow.holds Try.pinned (OpenSpec.ofChange Rows.normalKnownSpec) :=
  OpenClaim.holds_of_wide 11 Try.f11 rfl rfl rfl rfl rfl rfl rfl ⟨rfl, rfl, rfl, rfl, rfl⟩ rfl rfl rfl rfl rfl (by kernel_rfl) Try.func11 joined
    (of_decide_eq_true (by kernel_rfl)) (by unfold Func.isWrapper; first | (rw [if_pos (by decide +kernel)]; kernel_rfl) | (rw [if_neg (by decide +kernel)]; exact ⟨rfl, rfl⟩))
    (fun os started H enc _ => lifted os started H enc)
theorem proved : Rows.NormalKnownSaid := over
#print axioms proved
end Go.Proofs.Ythngkopcadlciaa.normalKnown
namespace Go.Proofs.Ythngkopcadlciaa
theorem normalKnown_holds : Rows.NormalKnownSaid := normalKnown.proved
end Go.Proofs.Ythngkopcadlciaa
