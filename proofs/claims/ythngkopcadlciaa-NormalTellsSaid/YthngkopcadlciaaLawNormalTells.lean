/- Across any face, at any place, is as the document says. No condition. -/
import Derived.Test.YthngkopcadlciaaRows
import Derived.Test.YthngkopcadlciaaHeadF
import Derived.Test.YthngkopcadlciaaMNormalTells19
import Derived.WalkKit
import Derived.ProofKit
import Derived.OpenShut
import Derived.ShutString
import Derived.ChangeOld
import Derived.Below
import Derived.SizedLaws
namespace Go.Proofs.Ythngkopcadlciaa.normalTells
open Go.ChangeShapes Go.WideShapes Go.ChangeAt Go.RowKit
open Go.ChangeMaps (open_string shut_string)
set_option linter.unusedVariables false
theorem own : ownKnob Try.prog.godebug = none := by kernel_rfl
set_option maxRecDepth 100000 in
theorem lifted (os : Os) (started : os.Started) (H : Type) (enc : TypeId × Value → H) :
    ReturnsInHanded {} Try.checked os 12 .any (Rows.normalTellsSpec.pre6 enc Try.prog Try.f12 Rows.normalTellsRow.domain false) (Rows.normalTellsSpec.post enc Try.prog Try.f12 false true false false) := by
  refine returnsInHanded_of_change_sized (C := Try.checked) own started (by kernel_rfl) Try.func12
    (ChangeSpec.witness6 (enc := enc) (C := Try.checked) false ⟨#[], #[.int .i64 0, .slice none 0 0, .int .i64 0, .int .i64 0, .int .i64 0, .int .i64 0, .agg #[.int .i64 0, .int .i64 0, .int .i64 0, .int .i64 0, .int .i64 0, .int .i64 0], .bool false], []⟩ 8 (by kernel_rfl) (by kernel_rfl) (by kernel_rfl) (by kernel_rfl)) ?_
  intro W base args ds gs before hval0 hW hcnd hsz0 _
  have hsz : (DataW.weightsEach Try.prog (Try.f12.params.toList ++ Rows.normalTellsSpec.plain.varTypes Try.prog) (ds ++ gs)).all (· ≤ reachBytes) = true := hsz0
  have hval : ∀ (j : Nat) t v, Try.f12.params[j]? = some t → args[j]? = some v → Value.okWide Try.prog W .any base t v := hval0
  have hW' := hW
  obtain ⟨p, q, hA0, hV, rfl, hfz, hnd⟩ := hW
  have hA : DataW.TrodAll enc Try.prog W 0 (fun _ => true) true Try.f12.params.toList args.toList ds p := hA0
  rw [Try.params12] at hA hval hsz
  obtain ⟨v0, vs0, d0, ds0, p0, q0, hargs, rfl, rfl, h0, r0⟩ := trodAll_cons hA
  obtain ⟨v1, vs1, d1, ds1, p1, q1, rfl, rfl, rfl, h1, r1⟩ := trodAll_cons r0
  obtain ⟨v2, vs2, d2, ds2, p2, q2, rfl, rfl, rfl, h2, r2⟩ := trodAll_cons r1
  obtain ⟨v3, vs3, d3, ds3, p3, q3, rfl, rfl, rfl, h3, r3⟩ := trodAll_cons r2
  obtain ⟨v4, vs4, d4, ds4, p4, q4, rfl, rfl, rfl, h4, r4⟩ := trodAll_cons r3
  obtain ⟨v5, vs5, d5, ds5, p5, q5, rfl, rfl, rfl, h5, r5⟩ := trodAll_cons r4
  obtain ⟨v6, vs6, d6, ds6, p6, q6, rfl, rfl, rfl, h6, r6⟩ := trodAll_cons r5
  obtain ⟨v7, vs7, d7, ds7, p7, q7, rfl, rfl, rfl, h7, r7⟩ := trodAll_cons r6
  obtain ⟨rfl, rfl, rfl⟩ := trodAll_nil r7
  obtain rfl : args = #[v0, v1, v2, v3, v4, v5, v6, v7] := by cases args; simp_all
  obtain ⟨rfl, rfl⟩ := trodVars_none hV
  obtain ⟨a0, rfl, rfl, rfl, w0⟩ := open_int Try.underlying3 (hval 0 3 v0 rfl rfl) h0
  obtain ⟨a1, n1, c1, rfl, i1, z1⟩ := open_rf (hval 1 45 v1 rfl rfl) h1
  obtain ⟨a2, rfl, rfl, rfl, w2⟩ := open_int Try.underlying3 (hval 2 3 v2 rfl rfl) h2
  obtain ⟨a3, rfl, rfl, rfl, w3⟩ := open_int Try.underlying3 (hval 3 3 v3 rfl rfl) h3
  obtain ⟨a4, rfl, rfl, rfl, w4⟩ := open_int Try.underlying3 (hval 4 3 v4 rfl rfl) h4
  obtain ⟨a5, rfl, rfl, rfl, w5⟩ := open_int Try.underlying3 (hval 5 3 v5 rfl rfl) h5
  obtain ⟨a6, rfl, rfl, rfl, w6_0, w6_1, w6_2, w6_3, w6_4, w6_5⟩ := open_a6 Try.underlying60 Try.underlying3 (by kernel_rfl) (by kernel_rfl) (hval 6 60 v6 rfl rfl) h6
  obtain ⟨a7, rfl, rfl, rfl⟩ := open_bool Try.underlying4 (hval 7 4 v7 rfl rfl) h7
  clear hA0 hval0 hsz0 hsz
  refine (normalTells_calls W a0 a1 n1 c1 a2 a3 a4 a5 a6 a7 i1).mono fun e W' ⟨he, bel⟩ => ?_
  subst he
  exact ⟨_, rfl, _, _, _, [], _, [], hW', trodAll_mk1 (shut_bool Try.underlying4 _), (trodAll_cons_mk (shut_int Try.underlying3 w0) (trodAll_cons_mk (z1 W' bel) (trodAll_cons_mk (shut_int Try.underlying3 w2) (trodAll_cons_mk (shut_int Try.underlying3 w3) (trodAll_cons_mk (shut_int Try.underlying3 w4) (trodAll_cons_mk (shut_int Try.underlying3 w5) (trodAll_cons_mk (shut_a6 Try.underlying60 Try.underlying3 (by kernel_rfl) (by kernel_rfl) a6 w6_0 w6_1 w6_2 w6_3 w6_4 w6_5) (trodAll_cons_mk (shut_bool Try.underlying4 _) trodAll_mk0)))))))), rfl, bel.frame _, fun h => by cases h⟩
theorem j0 : Rows.normalTellsRow.wf (OpenSpec.ofChange Rows.normalTellsSpec) = true := by kernel_rfl
theorem j1 : laidOutB Try.prog = true := by kernel_rfl
theorem j2 : mapsRowed Try.prog = true := by kernel_rfl
theorem j3 : Try.f12.params.all (Try.prog.readableRec ·) = true := by kernel_rfl
theorem j4 : namedTie Try.prog Rows.normalTellsRow.named Rows.normalTellsSpec.vars = true := by kernel_rfl
theorem j5 : (Rows.normalTellsRow.stops == []) = true := by kernel_rfl
theorem j6 : (Try.prog.stops == []) = true := by kernel_rfl
theorem j7 : (Rows.normalTellsRow.knobs == []) = true := by kernel_rfl
theorem j8 : (Try.prog.stopKnobs == []) = true := by kernel_rfl
theorem j9 : (Rows.normalTellsRow.inPlace == Try.prog.inPlace 12) = true := by kernel_rfl
theorem j10 : (Rows.normalTellsRow.unfollowed == Try.prog.unfollowed 12) = true := by kernel_rfl
theorem j11 : (Rows.normalTellsRow.recurses == Try.prog.recurses 12) = true := by kernel_rfl
theorem j12 : (Rows.normalTellsRow.named == Try.prog.varsNamed 12) = true := by kernel_rfl
theorem j13 : (Rows.normalTellsRow.maps == (Try.f12.params.toList ++ Rows.normalTellsSpec.plain.varTypes Try.prog).any (Try.prog.mapsRec ·)) = true := by kernel_rfl
theorem j14 : (Rows.normalTellsRow.ifaces == (Try.f12.params.toList ++ Rows.normalTellsSpec.plain.varTypes Try.prog).any (Try.prog.ifacesRec ·)) = true := by kernel_rfl
theorem j15 : (Rows.normalTellsRow.mapsOut == Try.prog.mapsAmong Try.f12.resultTypes.toList) = true := by kernel_rfl
theorem j16 : (Rows.normalTellsRow.loops == (Try.f12.params.toList ++ Rows.normalTellsSpec.plain.varTypes Try.prog).any (Try.prog.loopsFrom ·)) = true := by kernel_rfl
theorem j17 : (Rows.normalTellsRow.wideKeys == (Try.f12.params.toList ++ Rows.normalTellsSpec.plain.varTypes Try.prog ++ Try.f12.resultTypes.toList).any (Try.prog.wideKeysFrom ·)) = true := by kernel_rfl
theorem j18 : Rows.normalTellsSpec.vars.all (Try.prog.varReadable ·) = true := by kernel_rfl
theorem j19 : Try.f12.resultTypes.all (fun t => Try.prog.readableRec t && decide (t < Try.prog.types.size)) = true := by kernel_rfl
theorem j20 : (Rows.normalTellsRow.ifacesOut == Try.f12.resultTypes.toList.any (Try.prog.ifacesRec ·)) = true := by kernel_rfl
theorem j21 : (Rows.normalTellsRow.loopsOut == Try.f12.resultTypes.toList.any (Try.prog.loopsFrom ·)) = true := by kernel_rfl
theorem j22 : (Rows.normalTellsRow.plainKeys == Try.prog.plainKeys) = true := by kernel_rfl
theorem j23 : Rows.normalTellsRow.shortTexts.isNone = true := by kernel_rfl
theorem j24 : Try.prog.stopsHeard = true := by kernel_rfl
theorem j25 : Try.prog.mayEnter = true := head_enter
theorem j26 : (Rows.normalTellsRow.lifted == Try.prog.liftsFinal) = true := by rw [head_final]; rfl
theorem j27 : (Try.prog.make == some Rows.normalTellsRow.make) = true := by rw [head_make]; rfl
theorem j28 : (Rows.normalTellsRow.kinds == (if Rows.normalTellsRow.domain.isEmpty then [] else Try.f12.params.toList.map fun t => match Try.prog.underlying t with | some (.int k) => some k | _ => none)) = true := by kernel_rfl
theorem j29 : (Rows.normalTellsRow.pinned == Rows.normalTellsRow.pinnedBy) = true := by kernel_rfl
theorem j30 : (Rows.normalTellsRow.veiled == (Try.f12.params.toList ++ Rows.normalTellsSpec.plain.varTypes Try.prog ++ Try.f12.resultTypes.toList).any (Try.prog.veiledRec ·)) = true := by kernel_rfl
theorem j31 : Rows.normalTellsRow.veiledFits Try.prog Try.f12.params.toList (Try.f12.params.toList ++ Rows.normalTellsSpec.plain.varTypes Try.prog ++ Try.f12.resultTypes.toList) = true := by kernel_rfl
theorem aI {a b : Bool} (h : a = true) (k : b = true) : (a && b) = true := by rw [h, k]; rfl
set_option maxRecDepth 100000 in
theorem joined : joinedFacts Try.prog 12 Try.f12 Rows.normalTellsSpec Rows.normalTellsRow = true := by
  unfold joinedFacts
  exact (aI (aI (aI (aI (aI (aI (aI (aI (aI (aI (aI (aI (aI (aI (aI (aI (aI (aI (aI (aI (aI (aI (aI (aI (aI (aI (aI (aI (aI (aI (aI j0 j1) j2) j3) j4) j5) j6) j7) j8) j9) j10) j11) j12) j13) j14) j15) j16) j17) j18) j19) j20) j21) j22) j23) j24) j25) j26) j27) j28) j29) j30) j31)
theorem over : Rows.normalTellsRow.holds Try.pinned (OpenSpec.ofChange Rows.normalTellsSpec) :=
  OpenClaim.holds_of_wide 12 Try.f12 rfl rfl rfl rfl rfl rfl rfl ⟨rfl, rfl, rfl, rfl, rfl⟩ rfl rfl rfl rfl rfl (by kernel_rfl) Try.func12 joined
    (of_decide_eq_true (by kernel_rfl)) (by unfold Func.isWrapper; first | (rw [if_pos (by decide +kernel)]; kernel_rfl) | (rw [if_neg (by decide +kernel)]; exact ⟨rfl, rfl⟩))
    (fun os started H enc _ => lifted os started H enc)
theorem proved : Rows.NormalTellsSaid := over
#print axioms proved
end Go.Proofs.Ythngkopcadlciaa.normalTells
namespace Go.Proofs.Ythngkopcadlciaa
theorem normalTells_holds : Rows.NormalTellsSaid := normalTells.proved
end Go.Proofs.Ythngkopcadlciaa
