/- Nearer to one distance the depth and slope lie in the wider one's; on the axis a face is 0 deep. No condition. -/
import Derived.Test.YthngkopcadlciaaRows
import Derived.Test.YthngkopcadlciaaHeadF
import Derived.Test.YthngkopcadlciaaMSagLess17
import Derived.WalkKit
import Derived.ProofKit
import Derived.OpenShut
import Derived.ShutString
import Derived.ChangeOld
import Derived.Below
import Derived.SizedLaws
namespace Go.Proofs.Ythngkopcadlciaa.sagLess
open Go.ChangeShapes Go.WideShapes Go.ChangeAt Go.RowKit
open Go.ChangeMaps (open_string shut_string)
set_option linter.unusedVariables false
theorem own : ownKnob Try.prog.godebug = none := by kernel_rfl
set_option maxRecDepth 100000 in
theorem lifted (os : Os) (started : os.Started) (H : Type) (enc : TypeId × Value → H) :
    ReturnsInHanded {} Try.checked os 10 .any (Rows.sagLessSpec.pre6 enc Try.prog Try.f10 Rows.sagLessRow.domain false) (Rows.sagLessSpec.post enc Try.prog Try.f10 false true false false) := by
  refine returnsInHanded_of_change_sized (C := Try.checked) own started (by kernel_rfl) Try.func10
    (ChangeSpec.witness6 (enc := enc) (C := Try.checked) false ⟨#[], #[.int .i64 0, .slice none 0 0, .int .i64 0, .int .i64 0, .int .i64 0, .int .i64 0], []⟩ 8 (by kernel_rfl) (by kernel_rfl) (by kernel_rfl) (by kernel_rfl)) ?_
  intro W base args ds gs before hval0 hW hcnd hsz0 _
  have hsz : (DataW.weightsEach Try.prog (Try.f10.params.toList ++ Rows.sagLessSpec.plain.varTypes Try.prog) (ds ++ gs)).all (· ≤ reachBytes) = true := hsz0
  have hval : ∀ (j : Nat) t v, Try.f10.params[j]? = some t → args[j]? = some v → Value.okWide Try.prog W .any base t v := hval0
  have hW' := hW
  obtain ⟨p, q, hA0, hV, rfl, hfz, hnd⟩ := hW
  have hA : DataW.TrodAll enc Try.prog W 0 (fun _ => true) true Try.f10.params.toList args.toList ds p := hA0
  rw [Try.params10] at hA hval hsz
  obtain ⟨v0, vs0, d0, ds0, p0, q0, hargs, rfl, rfl, h0, r0⟩ := trodAll_cons hA
  obtain ⟨v1, vs1, d1, ds1, p1, q1, rfl, rfl, rfl, h1, r1⟩ := trodAll_cons r0
  obtain ⟨v2, vs2, d2, ds2, p2, q2, rfl, rfl, rfl, h2, r2⟩ := trodAll_cons r1
  obtain ⟨v3, vs3, d3, ds3, p3, q3, rfl, rfl, rfl, h3, r3⟩ := trodAll_cons r2
  obtain ⟨v4, vs4, d4, ds4, p4, q4, rfl, rfl, rfl, h4, r4⟩ := trodAll_cons r3
  obtain ⟨v5, vs5, d5, ds5, p5, q5, rfl, rfl, rfl, h5, r5⟩ := trodAll_cons r4
  obtain ⟨rfl, rfl, rfl⟩ := trodAll_nil r5
  obtain rfl : args = #[v0, v1, v2, v3, v4, v5] := by cases args; simp_all
  obtain ⟨rfl, rfl⟩ := trodVars_none hV
  obtain ⟨a0, rfl, rfl, rfl, w0⟩ := open_int Try.underlying3 (hval 0 3 v0 rfl rfl) h0
  obtain ⟨a1, n1, c1, rfl, i1, z1⟩ := open_rf (hval 1 45 v1 rfl rfl) h1
  obtain ⟨a2, rfl, rfl, rfl, w2⟩ := open_int Try.underlying3 (hval 2 3 v2 rfl rfl) h2
  obtain ⟨a3, rfl, rfl, rfl, w3⟩ := open_int Try.underlying3 (hval 3 3 v3 rfl rfl) h3
  obtain ⟨a4, rfl, rfl, rfl, w4⟩ := open_int Try.underlying3 (hval 4 3 v4 rfl rfl) h4
  obtain ⟨a5, rfl, rfl, rfl, w5⟩ := open_int Try.underlying3 (hval 5 3 v5 rfl rfl) h5
  clear hA0 hval0 hsz0 hsz
  refine (sagLess_calls W a0 a1 n1 c1 a2 a3 a4 a5 i1).mono fun e W' ⟨he, bel⟩ => ?_
  subst he
  exact ⟨_, rfl, _, _, _, [], _, [], hW', trodAll_mk1 (shut_bool Try.underlying4 _), (trodAll_cons_mk (shut_int Try.underlying3 w0) (trodAll_cons_mk (z1 W' bel) (trodAll_cons_mk (shut_int Try.underlying3 w2) (trodAll_cons_mk (shut_int Try.underlying3 w3) (trodAll_cons_mk (shut_int Try.underlying3 w4) (trodAll_cons_mk (shut_int Try.underlying3 w5) trodAll_mk0)))))), rfl, bel.frame _, fun h => by cases h⟩
theorem j0 : Rows.sagLessRow.wf (OpenSpec.ofChange Rows.sagLessSpec) = true := by kernel_rfl
theorem j1 : laidOutB Try.prog = true := by kernel_rfl
theorem j2 : mapsRowed Try.prog = true := by kernel_rfl
theorem j3 : Try.f10.params.all (Try.prog.readableRec ·) = true := by kernel_rfl
theorem j4 : namedTie Try.prog Rows.sagLessRow.named Rows.sagLessSpec.vars = true := by kernel_rfl
theorem j5 : (Rows.sagLessRow.stops == []) = true := by kernel_rfl
theorem j6 : (Try.prog.stops == []) = true := by kernel_rfl
theorem j7 : (Rows.sagLessRow.knobs == []) = true := by kernel_rfl
theorem j8 : (Try.prog.stopKnobs == []) = true := by kernel_rfl
theorem j9 : (Rows.sagLessRow.inPlace == Try.prog.inPlace 10) = true := by kernel_rfl
theorem j10 : (Rows.sagLessRow.unfollowed == Try.prog.unfollowed 10) = true := by kernel_rfl
theorem j11 : (Rows.sagLessRow.recurses == Try.prog.recurses 10) = true := by kernel_rfl
theorem j12 : (Rows.sagLessRow.named == Try.prog.varsNamed 10) = true := by kernel_rfl
theorem j13 : (Rows.sagLessRow.maps == (Try.f10.params.toList ++ Rows.sagLessSpec.plain.varTypes Try.prog).any (Try.prog.mapsRec ·)) = true := by kernel_rfl
theorem j14 : (Rows.sagLessRow.ifaces == (Try.f10.params.toList ++ Rows.sagLessSpec.plain.varTypes Try.prog).any (Try.prog.ifacesRec ·)) = true := by kernel_rfl
theorem j15 : (Rows.sagLessRow.mapsOut == Try.prog.mapsAmong Try.f10.resultTypes.toList) = true := by kernel_rfl
theorem j16 : (Rows.sagLessRow.loops == (Try.f10.params.toList ++ Rows.sagLessSpec.plain.varTypes Try.prog).any (Try.prog.loopsFrom ·)) = true := by kernel_rfl
theorem j17 : (Rows.sagLessRow.wideKeys == (Try.f10.params.toList ++ Rows.sagLessSpec.plain.varTypes Try.prog ++ Try.f10.resultTypes.toList).any (Try.prog.wideKeysFrom ·)) = true := by kernel_rfl
theorem j18 : Rows.sagLessSpec.vars.all (Try.prog.varReadable ·) = true := by kernel_rfl
theorem j19 : Try.f10.resultTypes.all (fun t => Try.prog.readableRec t && decide (t < Try.prog.types.size)) = true := by kernel_rfl
theorem j20 : (Rows.sagLessRow.ifacesOut == Try.f10.resultTypes.toList.any (Try.prog.ifacesRec ·)) = true := by kernel_rfl
theorem j21 : (Rows.sagLessRow.loopsOut == Try.f10.resultTypes.toList.any (Try.prog.loopsFrom ·)) = true := by kernel_rfl
theorem j22 : (Rows.sagLessRow.plainKeys == Try.prog.plainKeys) = true := by kernel_rfl
theorem j23 : Rows.sagLessRow.shortTexts.isNone = true := by kernel_rfl
theorem j24 : Try.prog.stopsHeard = true := by kernel_rfl
theorem j25 : Try.prog.mayEnter = true := head_enter
theorem j26 : (Rows.sagLessRow.lifted == Try.prog.liftsFinal) = true := by rw [head_final]; rfl
theorem j27 : (Try.prog.make == some Rows.sagLessRow.make) = true := by rw [head_make]; rfl
theorem j28 : (Rows.sagLessRow.kinds == (if Rows.sagLessRow.domain.isEmpty then [] else Try.f10.params.toList.map fun t => match Try.prog.underlying t with | some (.int k) => some k | _ => none)) = true := by kernel_rfl
theorem j29 : (Rows.sagLessRow.pinned == Rows.sagLessRow.pinnedBy) = true := by kernel_rfl
theorem j30 : (Rows.sagLessRow.veiled == (Try.f10.params.toList ++ Rows.sagLessSpec.plain.varTypes Try.prog ++ Try.f10.resultTypes.toList).any (Try.prog.veiledRec ·)) = true := by kernel_rfl
theorem j31 : Rows.sagLessRow.veiledFits Try.prog Try.f10.params.toList (Try.f10.params.toList ++ Rows.sagLessSpec.plain.varTypes Try.prog ++ Try.f10.resultTypes.toList) = true := by kernel_rfl
theorem aI {a b : Bool} (h : a = true) (k : b = true) : (a && b) = true := by rw [h, k]; rfl
set_option maxRecDepth 100000 in
theorem joined : joinedFacts Try.prog 10 Try.f10 Rows.sagLessSpec Rows.sagLessRow = true := by
  unfold joinedFacts
  exact (aI (aI (aI (aI (aI (aI (aI (aI (aI (aI (aI (aI (aI (aI (aI (aI (aI (aI (aI (aI (aI (aI (aI (aI (aI (aI (aI (aI (aI (aI (aI j0 j1) j2) j3) j4) j5) j6) j7) j8) j9) j10) j11) j12) j13) j14) j15) j16) j17) j18) j19) j20) j21) j22) j23) j24) j25) j26) j27) j28) j29) j30) j31)
theorem over : Rows.sagLessRow.holds Try.pinned (OpenSpec.ofChange Rows.sagLessSpec) :=
  OpenClaim.holds_of_wide 10 Try.f10 rfl rfl rfl rfl rfl rfl rfl ⟨rfl, rfl, rfl, rfl, rfl⟩ rfl rfl rfl rfl rfl (by kernel_rfl) Try.func10 joined
    (of_decide_eq_true (by kernel_rfl)) (by unfold Func.isWrapper; first | (rw [if_pos (by decide +kernel)]; kernel_rfl) | (rw [if_neg (by decide +kernel)]; exact ⟨rfl, rfl⟩))
    (fun os started H enc _ => lifted os started H enc)
theorem proved : Rows.SagLessSaid := over
#print axioms proved
end Go.Proofs.Ythngkopcadlciaa.sagLess
namespace Go.Proofs.Ythngkopcadlciaa
theorem sagLess_holds : Rows.SagLessSaid := sagLess.proved
end Go.Proofs.Ythngkopcadlciaa
