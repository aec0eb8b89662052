/- What is printed is read the same; two texts of one number are one decimal; its interval has it, and is a step wide at most. The listed tables of Go's library hold what the program's text lays (the card ties them). No other condition. -/
import Derived.Test.YtalffjplbhelcaaDoorRows
import Derived.Test.YtalffjplbhelcaaDoorCards
import Derived.Test.YtalffjplbhelcaaDoorTie
import Derived.Test.YtalffjplbhelcaaDoorHeadF
import Derived.Test.YtalffjplbhelcaaDoorMDecBack10
import Derived.WalkKit
import Derived.ProofKit
import Derived.OpenShut
import Derived.ShutString
import Derived.ChangeOld
import Derived.Below
import Derived.SizedLaws
import Derived.LaidMore
import Derived.Lay
import Derived.SevenTiedAt
import Derived.Stop.Joined
import Derived.Stop.LaidErr
import Derived.Lib.LaidTab
namespace Go.Proofs.YtalffjplbhelcaaDoor.decBack
open Go.ChangeShapes Go.WideShapes Go.ChangeAt Go.RowKit
open Go.ChangeMaps (open_string shut_string)
set_option linter.unusedVariables false
theorem own : ownKnob Tryd.prog.godebug = none := by kernel_rfl
theorem plainL : True := trivial
theorem tab {W : World} (h : laidMetH Tryd.prog Rows.decBackRow.laid W) : Lib.TabIs Tryd.prog W "internal/strconv.uint64pow10" .u64 Lib.pow10Tab := by
  rw [MakeChecks.laidMetH_plain _ _ _ (by kernel_rfl)] at h
  exact Lib.tabIs_of_head (g := 3) (t := 143) (e := 115) (n := 20) (by kernel_rfl) (by kernel_rfl) Tryd.underlying143 Tryd.underlying115 (by kernel_rfl) (by kernel_rfl) (laidMet.tail (laidMet.tail h))
set_option maxRecDepth 100000 in
theorem lifted (os : Os) (started : os.Started) (H : Type) (enc : TypeId × Value → H) :
    ReturnsInHanded {} Tryd.checked os 7 .any (fun w args => (Rows.decBackSpec.pre enc Tryd.prog Tryd.f7 Rows.decBackRow.domain false w args ∧ laidMetH Tryd.prog Rows.decBackRow.laid w) ∧ sizedMet enc Tryd.prog Tryd.f7 (OpenSpec.ofChange Rows.decBackSpec) false w args)
      (Rows.decBackSpec.post enc Tryd.prog Tryd.f7 false true false false) := by
  refine returnsInHanded_of_change_and (C := Tryd.checked) (X := fun w _ => laidMetH Tryd.prog Rows.decBackRow.laid w) (fun _ _ _ hh h => h.of_heap hh) own started (by kernel_rfl) Tryd.func7
    (ChangeSpec.witness_shaped (enc := enc) (C := Tryd.checked) (os := os) (X := fun w _ => laidMetH Tryd.prog Rows.decBackRow.laid w) false (World.laidAll Tryd.prog os Rows.decBackRow.laid) #[.int .i64 0, .int .i64 0, .int .i64 0, .bool false] 8 (World.laidAll_os _ _ _)
      (World.shaped_of_ZipB (by kernel_rfl) (by kernel_rfl)) (by kernel_rfl) (by kernel_rfl) (by kernel_rfl)
      (by rw [MakeChecks.laidMetH_plain _ _ _ (by kernel_rfl)]; exact laidMet_laidAll _ (by kernel_rfl) (by kernel_rfl))) ?_
  intro W base args ds gs before hval0 hW hcnd hsz0 hL _
  have hval : ∀ (j : Nat) t v, Tryd.f7.params[j]? = some t → args[j]? = some v → Value.okWide Tryd.prog W .any base t v := hval0
  have hW' := hW
  obtain ⟨p, q, hA0, hV, rfl, hfz, hnd⟩ := hW
  have hA : DataW.TrodAll enc Tryd.prog W 0 (fun _ => true) true Tryd.f7.params.toList args.toList ds p := hA0
  rw [Tryd.params7] at hA hval
  obtain ⟨tP, hT⟩ := at_tab (tab hL)
  obtain ⟨v0, vs0, d0, ds0, p0, q0, hargs, rfl, rfl, h0, r0⟩ := trodAll_cons hA
  obtain ⟨v1, vs1, d1, ds1, p1, q1, rfl, rfl, rfl, h1, r1⟩ := trodAll_cons r0
  obtain ⟨v2, vs2, d2, ds2, p2, q2, rfl, rfl, rfl, h2, r2⟩ := trodAll_cons r1
  obtain ⟨v3, vs3, d3, ds3, p3, q3, rfl, rfl, rfl, h3, r3⟩ := trodAll_cons r2
  obtain ⟨rfl, rfl, rfl⟩ := trodAll_nil r3
  obtain rfl : args = #[v0, v1, v2, v3] := by cases args; simp_all
  obtain ⟨rfl, rfl⟩ := trodVars_none hV
  obtain ⟨a0, rfl, rfl, rfl, w0⟩ := open_int Tryd.underlying3 (hval 0 3 v0 rfl rfl) h0
  obtain ⟨a1, rfl, rfl, rfl, w1⟩ := open_int Tryd.underlying3 (hval 1 3 v1 rfl rfl) h1
  obtain ⟨a2, rfl, rfl, rfl, w2⟩ := open_int Tryd.underlying3 (hval 2 3 v2 rfl rfl) h2
  obtain ⟨a3, rfl, rfl, rfl⟩ := open_bool Tryd.underlying4 (hval 3 4 v3 rfl rfl) h3
  clear hA0 hval0
  refine (decBack_calls hT a0 a1 a2 a3).mono fun e W' ⟨he, bel⟩ => ?_
  subst he
  exact ⟨_, rfl, _, _, _, [], _, [], hW', trodAll_mk1 (shut_bool Tryd.underlying4 _), (trodAll_cons_mk (shut_int Tryd.underlying3 w0) (trodAll_cons_mk (shut_int Tryd.underlying3 w1) (trodAll_cons_mk (shut_int Tryd.underlying3 w2) (trodAll_cons_mk (shut_bool Tryd.underlying4 _) trodAll_mk0)))), rfl, bel.frame _, fun h => by cases h⟩
theorem j0 : Rows.decBackRow.wf (OpenSpec.ofChange Rows.decBackSpec) = true := by kernel_rfl
theorem j1 : laidOutB Tryd.prog = true := by kernel_rfl
theorem j2 : mapsRowed Tryd.prog = true := by kernel_rfl
theorem j3 : Tryd.f7.params.all (Tryd.prog.readableRec ·) = true := by kernel_rfl
theorem j4 : namedTie Tryd.prog Rows.decBackRow.named Rows.decBackSpec.vars = true := by kernel_rfl
theorem j5 : (Rows.decBackRow.stops == []) = true := by kernel_rfl
theorem j6 : (Tryd.prog.stops == []) = true := by kernel_rfl
theorem j7 : (Rows.decBackRow.knobs == []) = true := by kernel_rfl
theorem j8 : (Tryd.prog.stopKnobs == []) = true := by kernel_rfl
theorem j9 : (Rows.decBackRow.inPlace == Tryd.prog.inPlace 7) = true := by kernel_rfl
theorem j10 : (Rows.decBackRow.unfollowed == Tryd.prog.unfollowed 7) = true := by kernel_rfl
theorem j11 : (Rows.decBackRow.recurses == Tryd.prog.recurses 7) = true := by kernel_rfl
theorem j12 : (Rows.decBackRow.named == Tryd.prog.varsNamed 7) = true := by kernel_rfl
theorem j13 : (Rows.decBackRow.maps == (Tryd.f7.params.toList ++ Rows.decBackSpec.plain.varTypes Tryd.prog).any (Tryd.prog.mapsRec ·)) = true := by kernel_rfl
theorem j14 : (Rows.decBackRow.ifaces == (Tryd.f7.params.toList ++ Rows.decBackSpec.plain.varTypes Tryd.prog).any (Tryd.prog.ifacesRec ·)) = true := by kernel_rfl
theorem j15 : (Rows.decBackRow.mapsOut == Tryd.prog.mapsAmong Tryd.f7.resultTypes.toList) = true := by kernel_rfl
theorem j16 : (Rows.decBackRow.loops == (Tryd.f7.params.toList ++ Rows.decBackSpec.plain.varTypes Tryd.prog).any (Tryd.prog.loopsFrom ·)) = true := by kernel_rfl
theorem j17 : (Rows.decBackRow.wideKeys == (Tryd.f7.params.toList ++ Rows.decBackSpec.plain.varTypes Tryd.prog ++ Tryd.f7.resultTypes.toList).any (Tryd.prog.wideKeysFrom ·)) = true := by kernel_rfl
theorem j18 : Rows.decBackSpec.vars.all (Tryd.prog.varReadable ·) = true := by kernel_rfl
theorem j19 : Tryd.f7.resultTypes.all (fun t => Tryd.prog.readableRec t && decide (t < Tryd.prog.types.size)) = true := by kernel_rfl
theorem j20 : (Rows.decBackRow.ifacesOut == Tryd.f7.resultTypes.toList.any (Tryd.prog.ifacesRec ·)) = true := by kernel_rfl
theorem j21 : (Rows.decBackRow.loopsOut == Tryd.f7.resultTypes.toList.any (Tryd.prog.loopsFrom ·)) = true := by kernel_rfl
theorem j22 : (Rows.decBackRow.plainKeys == Tryd.prog.plainKeys) = true := by kernel_rfl
theorem j23 : Rows.decBackRow.shortTexts.isNone = true := by kernel_rfl
theorem j24 : Tryd.prog.stopsHeard = true := by kernel_rfl
theorem j25 : Tryd.prog.mayEnter = true := head_enter
theorem j26 : (Rows.decBackRow.lifted == Tryd.prog.liftsFinal) = true := by rw [head_final]; rfl
theorem j27 : (Tryd.prog.make == some Rows.decBackRow.make) = true := by rw [head_make]; rfl
theorem j28 : (Rows.decBackRow.kinds == (if Rows.decBackRow.domain.isEmpty then [] else Tryd.f7.params.toList.map fun t => match Tryd.prog.underlying t with | some (.int k) => some k | _ => none)) = true := by kernel_rfl
theorem j29 : (Rows.decBackRow.pinned == Rows.decBackRow.pinnedBy) = true := by kernel_rfl
theorem j30 : (Rows.decBackRow.veiled == (Tryd.f7.params.toList ++ Rows.decBackSpec.plain.varTypes Tryd.prog ++ Tryd.f7.resultTypes.toList).any (Tryd.prog.veiledRec ·)) = true := by kernel_rfl
theorem j31 : Rows.decBackRow.veiledFits Tryd.prog Tryd.f7.params.toList (Tryd.f7.params.toList ++ Rows.decBackSpec.plain.varTypes Tryd.prog ++ Tryd.f7.resultTypes.toList) = true := by kernel_rfl
theorem aI {a b : Bool} (h : a = true) (k : b = true) : (a && b) = true := by rw [h, k]; rfl
set_option maxRecDepth 100000 in
theorem joined : joinedFacts Tryd.prog 7 Tryd.f7 Rows.decBackSpec Rows.decBackRow = true := by
  unfold joinedFacts
  exact (aI (aI (aI (aI (aI (aI (aI (aI (aI (aI (aI (aI (aI (aI (aI (aI (aI (aI (aI (aI (aI (aI (aI (aI (aI (aI (aI (aI (aI (aI (aI j0 j1) j2) j3) j4) j5) j6) j7) j8) j9) j10) j11) j12) j13) j14) j15) j16) j17) j18) j19) j20) j21) j22) j23) j24) j25) j26) j27) j28) j29) j30) j31)
theorem over : Rows.decBackRow.holds Tryd.pinned (OpenSpec.ofChange Rows.decBackSpec) :=
  OpenClaim.holds_of_wide 7 Tryd.f7 rfl rfl rfl rfl rfl rfl rfl ⟨rfl, rfl, rfl, rfl, rfl⟩ rfl rfl rfl rfl rfl (by kernel_rfl) Tryd.func7 joined
    (of_decide_eq_true (by kernel_rfl)) (by unfold Func.isWrapper; first | (rw [if_pos (by decide +kernel)]; kernel_rfl) | (rw [if_neg (by decide +kernel)]; exact ⟨rfl, rfl⟩))
    (fun os started H enc _ => lifted os started H enc)
theorem card : Rows.DecBackCardSaid :=
  Claim7.holds_tied_plain_at .later [] [.data, .data, .data, .data, .sentinel, .sentinel, .pinned] true (true, "3413a95a961652af1b973bc03f355f2775bd80a0b327d81fd940ecaad6a7f710") true over (fun _ h => by cases h) (by kernel_rfl) (fun _ h => by cases h) decBack_row_tie rfl ⟨rfl, rfl⟩ (by kernel_rfl) rfl
    (fun f fn hf hfn => by
      obtain rfl : f = 7 := Option.some.inj ((show Tryd.prog.funcNamed "meniscus/meniscuslaw9.DecBack" = some 7 by kernel_rfl).symm.trans hf) |>.symm
      obtain rfl : fn = Tryd.f7 := (Option.some.inj (Tryd.func7.symm.trans hfn)).symm
      exact ⟨by kernel_rfl, fun j t ht => by
        rw [Tryd.params7] at ht
        have hm : t ∈ [3, 4] := by have := Array.mem_of_getElem? ht; first | (simpa using this) | (simp only [List.mem_toArray, List.mem_cons, List.not_mem_nil, or_false] at this ⊢; grind)
        have hall : ([3, 4].all fun u => !Tryd.prog.wantsStandIn u) = true := by kernel_rfl
        exact (show Tryd.prog.wantsStandIn t = false by simpa using List.all_eq_true.1 hall t hm)⟩)
    (by kernel_rfl)
#print axioms card
end Go.Proofs.YtalffjplbhelcaaDoor.decBack
namespace Go.Proofs.YtalffjplbhelcaaDoor
theorem decBack_holds : Rows.DecBackCardSaid := decBack.card
end Go.Proofs.YtalffjplbhelcaaDoor
