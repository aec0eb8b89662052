/- Chapter 10's example, lines, remarks, each refusal and its place: a closed sentence. The listed tables of Go's library hold what the program's text lays (the card ties them). No other condition. -/
import Derived.Test.YtalffjplbhelcaaDoorRows
import Derived.Test.YtalffjplbhelcaaDoorCards
import Derived.Test.YtalffjplbhelcaaDoorTie
import Derived.Test.YtalffjplbhelcaaDoorHeadF
import Derived.Test.YtalffjplbhelcaaDoorMLexKnown4
import Derived.WalkKit
import Derived.ProofKit
import Derived.OpenShut
import Derived.ShutString
import Derived.ChangeOld
import Derived.Below
import Derived.SizedLaws
import Derived.LaidMore
import Derived.Lay
import Derived.SevenTiedAt
import Derived.Stop.Joined
import Derived.Stop.LaidErr
import Derived.Lib.LaidTab
namespace Go.Proofs.YtalffjplbhelcaaDoor.lexKnown
open Go.ChangeShapes Go.WideShapes Go.ChangeAt Go.RowKit
open Go.ChangeMaps (open_string shut_string)
set_option linter.unusedVariables false
theorem own : ownKnob Tryd.prog.godebug = none := by kernel_rfl
theorem plainL : True := trivial
theorem tab {W : World} (h : laidMetH Tryd.prog Rows.lexKnownRow.laid W) : Lib.TabIs Tryd.prog W "internal/strconv.uint64pow10" .u64 Lib.pow10Tab := by
  rw [MakeChecks.laidMetH_plain _ _ _ (by kernel_rfl)] at h
  exact Lib.tabIs_of_head (g := 3) (t := 143) (e := 115) (n := 20) (by kernel_rfl) (by kernel_rfl) Tryd.underlying143 Tryd.underlying115 (by kernel_rfl) (by kernel_rfl) (laidMet.tail (laidMet.tail h))
set_option maxRecDepth 100000 in
theorem lifted (os : Os) (started : os.Started) (H : Type) (enc : TypeId × Value → H) :
    ReturnsInHanded {} Tryd.checked os 3 .any (fun w args => (Rows.lexKnownSpec.pre enc Tryd.prog Tryd.f3 Rows.lexKnownRow.domain false w args ∧ laidMetH Tryd.prog Rows.lexKnownRow.laid w) ∧ sizedMet enc Tryd.prog Tryd.f3 (OpenSpec.ofChange Rows.lexKnownSpec) false w args)
      (Rows.lexKnownSpec.post enc Tryd.prog Tryd.f3 false true false false) := by
  refine returnsInHanded_of_change_and (C := Tryd.checked) (X := fun w _ => laidMetH Tryd.prog Rows.lexKnownRow.laid w) (fun _ _ _ hh h => h.of_heap hh) own started (by kernel_rfl) Tryd.func3
    (ChangeSpec.witness_shaped (enc := enc) (C := Tryd.checked) (os := os) (X := fun w _ => laidMetH Tryd.prog Rows.lexKnownRow.laid w) false (World.laidAll Tryd.prog os Rows.lexKnownRow.laid) #[] 8 (World.laidAll_os _ _ _)
      (World.shaped_of_ZipB (by kernel_rfl) (by kernel_rfl)) (by kernel_rfl) (by kernel_rfl) (by kernel_rfl)
      (by rw [MakeChecks.laidMetH_plain _ _ _ (by kernel_rfl)]; exact laidMet_laidAll _ (by kernel_rfl) (by kernel_rfl))) ?_
  intro W base args ds gs before hval0 hW hcnd hsz0 hL _
  have hval : ∀ (j : Nat) t v, Tryd.f3.params[j]? = some t → args[j]? = some v → Value.okWide Tryd.prog W .any base t v := hval0
  have hW' := hW
  obtain ⟨p, q, hA0, hV, rfl, hfz, hnd⟩ := hW
  have hA : DataW.TrodAll enc Tryd.prog W 0 (fun _ => true) true Tryd.f3.params.toList args.toList ds p := hA0
  rw [Tryd.params3] at hA hval
  obtain ⟨tP, hT⟩ := at_tab (tab hL)
  obtain ⟨rfl, rfl, rfl⟩ := trodAll_none hA
  obtain ⟨rfl, rfl⟩ := trodVars_none hV
  clear hA0 hval0
  refine (lexKnown_calls).mono fun e W' ⟨he, bel⟩ => ?_
  subst he
  exact ⟨_, rfl, _, _, _, [], _, [], hW', trodAll_mk1 (shut_bool Tryd.underlying4 _), trodAll_mk0, rfl, bel.frame _, fun h => by cases h⟩
theorem j0 : Rows.lexKnownRow.wf (OpenSpec.ofChange Rows.lexKnownSpec) = true := by kernel_rfl
theorem j1 : laidOutB Tryd.prog = true := by kernel_rfl
theorem j2 : mapsRowed Tryd.prog = true := by kernel_rfl
theorem j3 : Tryd.f3.params.all (Tryd.prog.readableRec ·) = true := by kernel_rfl
theorem j4 : namedTie Tryd.prog Rows.lexKnownRow.named Rows.lexKnownSpec.vars = true := by kernel_rfl
theorem j5 : (Rows.lexKnownRow.stops == []) = true := by kernel_rfl
theorem j6 : (Tryd.prog.stops == []) = true := by kernel_rfl
theorem j7 : (Rows.lexKnownRow.knobs == []) = true := by kernel_rfl
theorem j8 : (Tryd.prog.stopKnobs == []) = true := by kernel_rfl
theorem j9 : (Rows.lexKnownRow.inPlace == Tryd.prog.inPlace 3) = true := by kernel_rfl
theorem j10 : (Rows.lexKnownRow.unfollowed == Tryd.prog.unfollowed 3) = true := by kernel_rfl
theorem j11 : (Rows.lexKnownRow.recurses == Tryd.prog.recurses 3) = true := by kernel_rfl
theorem j12 : (Rows.lexKnownRow.named == Tryd.prog.varsNamed 3) = true := by kernel_rfl
theorem j13 : (Rows.lexKnownRow.maps == (Tryd.f3.params.toList ++ Rows.lexKnownSpec.plain.varTypes Tryd.prog).any (Tryd.prog.mapsRec ·)) = true := by kernel_rfl
theorem j14 : (Rows.lexKnownRow.ifaces == (Tryd.f3.params.toList ++ Rows.lexKnownSpec.plain.varTypes Tryd.prog).any (Tryd.prog.ifacesRec ·)) = true := by kernel_rfl
theorem j15 : (Rows.lexKnownRow.mapsOut == Tryd.prog.mapsAmong Tryd.f3.resultTypes.toList) = true := by kernel_rfl
theorem j16 : (Rows.lexKnownRow.loops == (Tryd.f3.params.toList ++ Rows.lexKnownSpec.plain.varTypes Tryd.prog).any (Tryd.prog.loopsFrom ·)) = true := by kernel_rfl
theorem j17 : (Rows.lexKnownRow.wideKeys == (Tryd.f3.params.toList ++ Rows.lexKnownSpec.plain.varTypes Tryd.prog ++ Tryd.f3.resultTypes.toList).any (Tryd.prog.wideKeysFrom ·)) = true := by kernel_rfl
theorem j18 : Rows.lexKnownSpec.vars.all (Tryd.prog.varReadable ·) = true := by kernel_rfl
theorem j19 : Tryd.f3.resultTypes.all (fun t => Tryd.prog.readableRec t && decide (t < Tryd.prog.types.size)) = true := by kernel_rfl
theorem j20 : (Rows.lexKnownRow.ifacesOut == Tryd.f3.resultTypes.toList.any (Tryd.prog.ifacesRec ·)) = true := by kernel_rfl
theorem j21 : (Rows.lexKnownRow.loopsOut == Tryd.f3.resultTypes.toList.any (Tryd.prog.loopsFrom ·)) = true := by kernel_rfl
theorem j22 : (Rows.lexKnownRow.plainKeys == Tryd.prog.plainKeys) = true := by kernel_rfl
theorem j23 : Rows.lexKnownRow.shortTexts.isNone = true := by kernel_rfl
theorem j24 : Tryd.prog.stopsHeard = true := by kernel_rfl
theorem j25 : Tryd.prog.mayEnter = true := head_enter
theorem j26 : (Rows.lexKnownRow.lifted == Tryd.prog.liftsFinal) = true := by rw [head_final]; rfl
theorem j27 : (Tryd.prog.make == some Rows.lexKnownRow.make) = true := by rw [head_make]; rfl
theorem j28 : (Rows.lexKnownRow.kinds == (if Rows.lexKnownRow.domain.isEmpty then [] else Tryd.f3.params.toList.map fun t => match Tryd.prog.underlying t with | some (.int k) => some k | _ => none)) = true := by kernel_rfl
theorem j29 : (Rows.lexKnownRow.pinned == Rows.lexKnownRow.pinnedBy) = true := by kernel_rfl
theorem j30 : (Rows.lexKnownRow.veiled == (Tryd.f3.params.toList ++ Rows.lexKnownSpec.plain.varTypes Tryd.prog ++ Tryd.f3.resultTypes.toList).any (Tryd.prog.veiledRec ·)) = true := by kernel_rfl
theorem j31 : Rows.lexKnownRow.veiledFits Tryd.prog Tryd.f3.params.toList (Tryd.f3.params.toList ++ Rows.lexKnownSpec.plain.varTypes Tryd.prog ++ Tryd.f3.resultTypes.toList) = true := by kernel_rfl
theorem aI {a b : Bool} (h : a = true) (k : b = true) : (a && b) = true := by rw [h, k]; rfl
set_option maxRecDepth 100000 in
theorem joined : joinedFacts Tryd.prog 3 Tryd.f3 Rows.lexKnownSpec Rows.lexKnownRow = true := by
  unfold joinedFacts
  exact (aI (aI (aI (aI (aI (aI (aI (aI (aI (aI (aI (aI (aI (aI (aI (aI (aI (aI (aI (aI (aI (aI (aI (aI (aI (aI (aI (aI (aI (aI (aI j0 j1) j2) j3) j4) j5) j6) j7) j8) j9) j10) j11) j12) j13) j14) j15) j16) j17) j18) j19) j20) j21) j22) j23) j24) j25) j26) j27) j28) j29) j30) j31)
theorem over : Rows.lexKnownRow.holds Tryd.pinned (OpenSpec.ofChange Rows.lexKnownSpec) :=
  OpenClaim.holds_of_wide 3 Tryd.f3 rfl rfl rfl rfl rfl rfl rfl ⟨rfl, rfl, rfl, rfl, rfl⟩ rfl rfl rfl rfl rfl (by kernel_rfl) Tryd.func3 joined
    (of_decide_eq_true (by kernel_rfl)) (by unfold Func.isWrapper; first | (rw [if_pos (by decide +kernel)]; kernel_rfl) | (rw [if_neg (by decide +kernel)]; exact ⟨rfl, rfl⟩))
    (fun os started H enc _ => lifted os started H enc)
theorem card : Rows.LexKnownCardSaid :=
  Claim7.holds_tied_plain_at .later [] [.data, .data, .data, .data, .sentinel, .sentinel, .pinned] true (true, "3413a95a961652af1b973bc03f355f2775bd80a0b327d81fd940ecaad6a7f710") true over (fun _ h => by cases h) (by kernel_rfl) (fun _ h => by cases h) lexKnown_row_tie rfl ⟨rfl, rfl⟩ (by kernel_rfl) rfl
    (fun f fn hf hfn => by
      obtain rfl : f = 3 := Option.some.inj ((show Tryd.prog.funcNamed "meniscus/meniscuslaw10.LexKnown" = some 3 by kernel_rfl).symm.trans hf) |>.symm
      obtain rfl : fn = Tryd.f3 := (Option.some.inj (Tryd.func3.symm.trans hfn)).symm
      exact ⟨by kernel_rfl, fun j t ht => by
        rw [Tryd.params3] at ht
        simp at ht⟩)
    (by kernel_rfl)
#print axioms card
end Go.Proofs.YtalffjplbhelcaaDoor.lexKnown
namespace Go.Proofs.YtalffjplbhelcaaDoor
theorem lexKnown_holds : Rows.LexKnownCardSaid := lexKnown.card
end Go.Proofs.YtalffjplbhelcaaDoor
