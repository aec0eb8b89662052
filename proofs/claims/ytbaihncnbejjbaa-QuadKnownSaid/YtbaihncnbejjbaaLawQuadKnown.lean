/- Chapter 6's example, two roots, none, and what can't be said. No condition. -/
import Derived.Test.YtbaihncnbejjbaaRows
import Derived.Test.YtbaihncnbejjbaaHeadF
import Derived.Test.YtbaihncnbejjbaaQQuadKnown
import Derived.WalkKit
import Derived.ProofKit
import Derived.OpenShut
import Derived.ShutString
import Derived.ChangeOld
import Derived.Below
import Derived.SizedLaws
namespace Go.Proofs.Ytbaihncnbejjbaa.quadKnown
open Go.ChangeShapes Go.WideShapes Go.ChangeAt Go.RowKit
open Go.ChangeMaps (open_string shut_string)
set_option linter.unusedVariables false
theorem own : ownKnob Try.prog.godebug = none := by kernel_rfl
set_option maxRecDepth 100000 in
theorem lifted (os : Os) (started : os.Started) (H : Type) (enc : TypeId × Value → H) :
    ReturnsInHanded {} Try.checked os 16 .any (Rows.quadKnownSpec.pre6 enc Try.prog Try.f16 Rows.quadKnownRow.domain false) (Rows.quadKnownSpec.post enc Try.prog Try.f16 false true false false) := by
  refine returnsInHanded_of_change_sized (C := Try.checked) own started (by kernel_rfl) Try.func16
    (ChangeSpec.witness6 (enc := enc) (C := Try.checked) false ⟨#[], #[], []⟩ 8 (by kernel_rfl) (by kernel_rfl) (by kernel_rfl) (by kernel_rfl)) ?_
  intro W base args ds gs before hval0 hW hcnd hsz0 _
  have hsz : (DataW.weightsEach Try.prog (Try.f16.params.toList ++ Rows.quadKnownSpec.plain.varTypes Try.prog) (ds ++ gs)).all (· ≤ reachBytes) = true := hsz0
  have hval : ∀ (j : Nat) t v, Try.f16.params[j]? = some t → args[j]? = some v → Value.okWide Try.prog W .any base t v := hval0
  have hW' := hW
  obtain ⟨p, q, hA0, hV, rfl, hfz, hnd⟩ := hW
  have hA : DataW.TrodAll enc Try.prog W 0 (fun _ => true) true Try.f16.params.toList args.toList ds p := hA0
  rw [Try.params16] at hA hval hsz
  obtain ⟨rfl, rfl, rfl⟩ := trodAll_none hA
  obtain ⟨rfl, rfl⟩ := trodVars_none hV
  clear hA0 hval0 hsz0 hsz
  refine ((c_lawQuadKnown (lawQuadKnown_true)) W).mono fun e W' ⟨he, bel⟩ => ?_
  subst he
  exact ⟨_, rfl, _, _, _, [], _, [], hW', trodAll_mk1 (shut_bool Try.underlying4 _), trodAll_mk0, rfl, bel.frame _, fun h => by cases h⟩
theorem j0 : Rows.quadKnownRow.wf (OpenSpec.ofChange Rows.quadKnownSpec) = true := by kernel_rfl
theorem j1 : laidOutB Try.prog = true := by kernel_rfl
theorem j2 : mapsRowed Try.prog = true := by kernel_rfl
theorem j3 : Try.f16.params.all (Try.prog.readableRec ·) = true := by kernel_rfl
theorem j4 : namedTie Try.prog Rows.quadKnownRow.named Rows.quadKnownSpec.vars = true := by kernel_rfl
theorem j5 : (Rows.quadKnownRow.stops == []) = true := by kernel_rfl
theorem j6 : (Try.prog.stops == []) = true := by kernel_rfl
theorem j7 : (Rows.quadKnownRow.knobs == []) = true := by kernel_rfl
theorem j8 : (Try.prog.stopKnobs == []) = true := by kernel_rfl
theorem j9 : (Rows.quadKnownRow.inPlace == Try.prog.inPlace 16) = true := by kernel_rfl
theorem j10 : (Rows.quadKnownRow.unfollowed == Try.prog.unfollowed 16) = true := by kernel_rfl
theorem j11 : (Rows.quadKnownRow.recurses == Try.prog.recurses 16) = true := by kernel_rfl
theorem j12 : (Rows.quadKnownRow.named == Try.prog.varsNamed 16) = true := by kernel_rfl
theorem j13 : (Rows.quadKnownRow.maps == (Try.f16.params.toList ++ Rows.quadKnownSpec.plain.varTypes Try.prog).any (Try.prog.mapsRec ·)) = true := by kernel_rfl
theorem j14 : (Rows.quadKnownRow.ifaces == (Try.f16.params.toList ++ Rows.quadKnownSpec.plain.varTypes Try.prog).any (Try.prog.ifacesRec ·)) = true := by kernel_rfl
theorem j15 : (Rows.quadKnownRow.mapsOut == Try.prog.mapsAmong Try.f16.resultTypes.toList) = true := by kernel_rfl
theorem j16 : (Rows.quadKnownRow.loops == (Try.f16.params.toList ++ Rows.quadKnownSpec.plain.varTypes Try.prog).any (Try.prog.loopsFrom ·)) = true := by kernel_rfl
theorem j17 : (Rows.quadKnownRow.wideKeys == (Try.f16.params.toList ++ Rows.quadKnownSpec.plain.varTypes Try.prog ++ Try.f16.resultTypes.toList).any (Try.prog.wideKeysFrom ·)) = true := by kernel_rfl
theorem j18 : Rows.quadKnownSpec.vars.all (Try.prog.varReadable ·) = true := by kernel_rfl
theorem j19 : Try.f16.resultTypes.all (fun t => Try.prog.readableRec t && decide (t < Try.prog.types.size)) = true := by kernel_rfl
theorem j20 : (Rows.quadKnownRow.ifacesOut == Try.f16.resultTypes.toList.any (Try.prog.ifacesRec ·)) = true := by kernel_rfl
theorem j21 : (Rows.quadKnownRow.loopsOut == Try.f16.resultTypes.toList.any (Try.prog.loopsFrom ·)) = true := by kernel_rfl
theorem j22 : (Rows.quadKnownRow.plainKeys == Try.prog.plainKeys) = true := by kernel_rfl
theorem j23 : Rows.quadKnownRow.shortTexts.isNone = true := by kernel_rfl
theorem j24 : Try.prog.stopsHeard = true := by kernel_rfl
theorem j25 : Try.prog.mayEnter = true := head_enter
theorem j26 : (Rows.quadKnownRow.lifted == Try.prog.liftsFinal) = true := by rw [head_final]; rfl
theorem j27 : (Try.prog.make == some Rows.quadKnownRow.make) = true := by rw [head_make]; rfl
theorem j28 : (Rows.quadKnownRow.kinds == (if Rows.quadKnownRow.domain.isEmpty then [] else Try.f16.params.toList.map fun t => match Try.prog.underlying t with | some (.int k) => some k | _ => none)) = true := by kernel_rfl
theorem j29 : (Rows.quadKnownRow.pinned == Rows.quadKnownRow.pinnedBy) = true := by kernel_rfl
theorem j30 : (Rows.quadKnownRow.veiled == (Try.f16.params.toList ++ Rows.quadKnownSpec.plain.varTypes Try.prog ++ Try.f16.resultTypes.toList).any (Try.prog.veiledRec ·)) = true := by kernel_rfl
theorem j31 : Rows.quadKnownRow.veiledFits Try.prog Try.f16.params.toList (Try.f16.params.toList ++ Rows.quadKnownSpec.plain.varTypes Try.prog ++ Try.f16.resultTypes.toList) = true := by kernel_rfl
theorem aI {a b : Bool} (h : a = true) (k : b = true) : (a && b) = true := by rw [h, k]; rfl
set_option maxRecDepth 100000 in
theorem joined : joinedFacts Try.prog 16 Try.f16 Rows.quadKnownSpec Rows.quadKnownRow = true := by
  unfold joinedFacts
  exact (aI (aI (aI (aI (aI (aI (aI (aI (aI (aI (aI (aI (aI (aI (aI (aI (aI (aI (aI (aI (aI (aI (aI (aI (aI (aI (aI (aI (aI (aI (aI j0 j1) j2) j3) j4) j5) j6) j7) j8) j9) j10) j11) j12) j13) j14) j15) j16) j17) j18) j19) j20) j21) j22) j23) j24) j25) j26) j27) j28) j29) j30) j31)
theorem over : Rows.quadKnownRow.holds Try.pinned (OpenSpec.ofChange Rows.quadKnownSpec) :=
  OpenClaim.holds_of_wide 16 Try.f16 rfl rfl rfl rfl rfl rfl rfl ⟨rfl, rfl, rfl, rfl, rfl⟩ rfl rfl rfl rfl rfl (by kernel_rfl) Try.func16 joined
    (of_decide_eq_true (by kernel_rfl)) (by unfold Func.isWrapper; first | (rw [if_pos (by decide +kernel)]; kernel_rfl) | (rw [if_neg (by decide +kernel)]; exact ⟨rfl, rfl⟩))
    (fun os started H enc _ => lifted os started H enc)
theorem proved : Rows.QuadKnownSaid := over
#print axioms proved
end Go.Proofs.Ytbaihncnbejjbaa.quadKnown
namespace Go.Proofs.Ytbaihncnbejjbaa
theorem quadKnown_holds : Rows.QuadKnownSaid := quadKnown.proved
end Go.Proofs.Ytbaihncnbejjbaa
