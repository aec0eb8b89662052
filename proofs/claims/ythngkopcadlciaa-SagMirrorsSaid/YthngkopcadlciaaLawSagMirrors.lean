/- A face of the negated curve and terms is as deep the other way, with the negated slope. No condition. -/
import Derived.Test.YthngkopcadlciaaRows
import Derived.Test.YthngkopcadlciaaHeadF
import Derived.Test.YthngkopcadlciaaMSagMirrors15
import Derived.WalkKit
import Derived.ProofKit
import Derived.OpenShut
import Derived.ShutString
import Derived.ChangeOld
import Derived.Below
import Derived.SizedLaws
namespace Go.Proofs.Ythngkopcadlciaa.sagMirrors
open Go.ChangeShapes Go.WideShapes Go.ChangeAt Go.RowKit
open Go.ChangeMaps (open_string shut_string)
set_option linter.unusedVariables false
theorem own : ownKnob Try.prog.godebug = none := by kernel_rfl
set_option maxRecDepth 100000 in
theorem lifted (os : Os) (started : os.Started) (H : Type) (enc : TypeId × Value → H) :
    ReturnsInHanded {} Try.checked os 9 .any (Rows.sagMirrorsSpec.pre6 enc Try.prog Try.f9 Rows.sagMirrorsRow.domain false) (Rows.sagMirrorsSpec.post enc Try.prog Try.f9 false true false false) := by
  refine returnsInHanded_of_change_sized (C := Try.checked) own started (by kernel_rfl) Try.func9
    (ChangeSpec.witness6 (enc := enc) (C := Try.checked) false ⟨#[], #[.int .i64 0, .slice none 0 0, .int .i64 0, .int .i64 0], []⟩ 8 (by kernel_rfl) (by kernel_rfl) (by kernel_rfl) (by kernel_rfl)) ?_
  intro W base args ds gs before hval0 hW hcnd hsz0 _
  have hsz : (DataW.weightsEach Try.prog (Try.f9.params.toList ++ Rows.sagMirrorsSpec.plain.varTypes Try.prog) (ds ++ gs)).all (· ≤ reachBytes) = true := hsz0
  have hval : ∀ (j : Nat) t v, Try.f9.params[j]? = some t → args[j]? = some v → Value.okWide Try.prog W .any base t v := hval0
  have hW' := hW
  obtain ⟨p, q, hA0, hV, rfl, hfz, hnd⟩ := hW
  have hA : DataW.TrodAll enc Try.prog W 0 (fun _ => true) true Try.f9.params.toList args.toList ds p := hA0
  rw [Try.params9] at hA hval hsz
  obtain ⟨v0, vs0, d0, ds0, p0, q0, hargs, rfl, rfl, h0, r0⟩ := trodAll_cons hA
  obtain ⟨v1, vs1, d1, ds1, p1, q1, rfl, rfl, rfl, h1, r1⟩ := trodAll_cons r0
  obtain ⟨v2, vs2, d2, ds2, p2, q2, rfl, rfl, rfl, h2, r2⟩ := trodAll_cons r1
  obtain ⟨v3, vs3, d3, ds3, p3, q3, rfl, rfl, rfl, h3, r3⟩ := trodAll_cons r2
  obtain ⟨rfl, rfl, rfl⟩ := trodAll_nil r3
  obtain rfl : args = #[v0, v1, v2, v3] := by cases args; simp_all
  obtain ⟨rfl, rfl⟩ := trodVars_none hV
  obtain ⟨a0, rfl, rfl, rfl, w0⟩ := open_int Try.underlying3 (hval 0 3 v0 rfl rfl) h0
  obtain ⟨a1, n1, c1, rfl, i1, z1⟩ := open_rf (hval 1 45 v1 rfl rfl) h1
  obtain ⟨a2, rfl, rfl, rfl, w2⟩ := open_int Try.underlying3 (hval 2 3 v2 rfl rfl) h2
  obtain ⟨a3, rfl, rfl, rfl, w3⟩ := open_int Try.underlying3 (hval 3 3 v3 rfl rfl) h3
  clear hA0 hval0 hsz0 hsz
  refine (sagMirrors_calls W a0 a1 n1 c1 a2 a3 i1).mono fun e W' ⟨he, bel⟩ => ?_
  subst he
  exact ⟨_, rfl, _, _, _, [], _, [], hW', trodAll_mk1 (shut_bool Try.underlying4 _), (trodAll_cons_mk (shut_int Try.underlying3 w0) (trodAll_cons_mk (z1 W' bel) (trodAll_cons_mk (shut_int Try.underlying3 w2) (trodAll_cons_mk (shut_int Try.underlying3 w3) trodAll_mk0)))), rfl, bel.frame _, fun h => by cases h⟩
theorem j0 : Rows.sagMirrorsRow.wf (OpenSpec.ofChange Rows.sagMirrorsSpec) = true := by kernel_rfl
theorem j1 : laidOutB Try.prog = true := by kernel_rfl
theorem j2 : mapsRowed Try.prog = true := by kernel_rfl
theorem j3 : Try.f9.params.all (Try.prog.readableRec ·) = true := by kernel_rfl
theorem j4 : namedTie Try.prog Rows.sagMirrorsRow.named Rows.sagMirrorsSpec.vars = true := by kernel_rfl
theorem j5 : (Rows.sagMirrorsRow.stops == []) = true := by kernel_rfl
theorem j6 : (Try.prog.stops == []) = true := by kernel_rfl
theorem j7 : (Rows.sagMirrorsRow.knobs == []) = true := by kernel_rfl
theorem j8 : (Try.prog.stopKnobs == []) = true := by kernel_rfl
theorem j9 : (Rows.sagMirrorsRow.inPlace == Try.prog.inPlace 9) = true := by kernel_rfl
theorem j10 : (Rows.sagMirrorsRow.unfollowed == Try.prog.unfollowed 9) = true := by kernel_rfl
theorem j11 : (Rows.sagMirrorsRow.recurses == Try.prog.recurses 9) = true := by kernel_rfl
theorem j12 : (Rows.sagMirrorsRow.named == Try.prog.varsNamed 9) = true := by kernel_rfl
theorem j13 : (Rows.sagMirrorsRow.maps == (Try.f9.params.toList ++ Rows.sagMirrorsSpec.plain.varTypes Try.prog).any (Try.prog.mapsRec ·)) = true := by kernel_rfl
theorem j14 : (Rows.sagMirrorsRow.ifaces == (Try.f9.params.toList ++ Rows.sagMirrorsSpec.plain.varTypes Try.prog).any (Try.prog.ifacesRec ·)) = true := by kernel_rfl
theorem j15 : (Rows.sagMirrorsRow.mapsOut == Try.prog.mapsAmong Try.f9.resultTypes.toList) = true := by kernel_rfl
theorem j16 : (Rows.sagMirrorsRow.loops == (Try.f9.params.toList ++ Rows.sagMirrorsSpec.plain.varTypes Try.prog).any (Try.prog.loopsFrom ·)) = true := by kernel_rfl
theorem j17 : (Rows.sagMirrorsRow.wideKeys == (Try.f9.params.toList ++ Rows.sagMirrorsSpec.plain.varTypes Try.prog ++ Try.f9.resultTypes.toList).any (Try.prog.wideKeysFrom ·)) = true := by kernel_rfl
theorem j18 : Rows.sagMirrorsSpec.vars.all (Try.prog.varReadable ·) = true := by kernel_rfl
theorem j19 : Try.f9.resultTypes.all (fun t => Try.prog.readableRec t && decide (t < Try.prog.types.size)) = true := by kernel_rfl
theorem j20 : (Rows.sagMirrorsRow.ifacesOut == Try.f9.resultTypes.toList.any (Try.prog.ifacesRec ·)) = true := by kernel_rfl
theorem j21 : (Rows.sagMirrorsRow.loopsOut == Try.f9.resultTypes.toList.any (Try.prog.loopsFrom ·)) = true := by kernel_rfl
theorem j22 : (Rows.sagMirrorsRow.plainKeys == Try.prog.plainKeys) = true := by kernel_rfl
theorem j23 : Rows.sagMirrorsRow.shortTexts.isNone = true := by kernel_rfl
theorem j24 : Try.prog.stopsHeard = true := by kernel_rfl
theorem j25 : Try.prog.mayEnter = true := head_enter
theorem j26 : (Rows.sagMirrorsRow.lifted == Try.prog.liftsFinal) = true := by rw [head_final]; rfl
theorem j27 : (Try.prog.make == some Rows.sagMirrorsRow.make) = true := by rw [head_make]; rfl
theorem j28 : (Rows.sagMirrorsRow.kinds == (if Rows.sagMirrorsRow.domain.isEmpty then [] else Try.f9.params.toList.map fun t => match Try.prog.underlying t with | some (.int k) => some k | _ => none)) = true := by kernel_rfl
theorem j29 : (Rows.sagMirrorsRow.pinned == Rows.sagMirrorsRow.pinnedBy) = true := by kernel_rfl
theorem j30 : (Rows.sagMirrorsRow.veiled == (Try.f9.params.toList ++ Rows.sagMirrorsSpec.plain.varTypes Try.prog ++ Try.f9.resultTypes.toList).any (Try.prog.veiledRec ·)) = true := by kernel_rfl
theorem j31 : Rows.sagMirrorsRow.veiledFits Try.prog Try.f9.params.toList (Try.f9.params.toList ++ Rows.sagMirrorsSpec.plain.varTypes Try.prog ++ Try.f9.resultTypes.toList) = true := by kernel_rfl
theorem aI {a b : Bool} (h : a = true) (k : b = true) : (a && b) = true := by rw [h, k]; rfl
set_option maxRecDepth 100000 in
theorem joined : joinedFacts Try.prog 9 Try.f9 Rows.sagMirrorsSpec Rows.sagMirrorsRow = true := by
  unfold joinedFacts
  exact (aI (aI (aI (aI (aI (aI (aI (aI (aI (aI (aI (aI (aI (aI (aI (aI (aI (aI (aI (aI (aI (aI (aI (aI (aI (aI (aI (aI (aI (aI (aI j0 j1) j2) j3) j4) j5) j6) j7) j8) j9) j10) j11) j12) j13) j14) j15) j16) j17) j18) j19) j20) j21) j22) j23) j24) j25) j26) j27) j28) j29) j30) j31)
theorem over : Rows.sagMirrorsRow.holds Try.pinned (OpenSpec.ofChange Rows.sagMirrorsSpec) :=
  OpenClaim.holds_of_wide 9 Try.f9 rfl rfl rfl rfl rfl rfl rfl ⟨rfl, rfl, rfl, rfl, rfl⟩ rfl rfl rfl rfl rfl (by kernel_rfl) Try.func9 joined
    (of_decide_eq_true (by kernel_rfl)) (by unfold Func.isWrapper; first | (rw [if_pos (by decide +kernel)]; kernel_rfl) | (rw [if_neg (by decide +kernel)]; exact ⟨rfl, rfl⟩))
    (fun os started H enc _ => lifted os started H enc)
theorem proved : Rows.SagMirrorsSaid := over
#print axioms proved
end Go.Proofs.Ythngkopcadlciaa.sagMirrors
namespace Go.Proofs.Ythngkopcadlciaa
theorem sagMirrors_holds : Rows.SagMirrorsSaid := sagMirrors.proved
end Go.Proofs.Ythngkopcadlciaa
