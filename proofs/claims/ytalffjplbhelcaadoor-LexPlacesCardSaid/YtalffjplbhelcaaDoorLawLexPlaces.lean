/- Each token stands in the text where it is told: at its line and column; they come in order, each line's ends. The listed tables of Go's library hold what the program's text lays (the card ties them). No other condition. -/
import Derived.Test.YtalffjplbhelcaaDoorRows
import Derived.Test.YtalffjplbhelcaaDoorCards
import Derived.Test.YtalffjplbhelcaaDoorTie
import Derived.Test.YtalffjplbhelcaaDoorHeadF
import Derived.Test.YtalffjplbhelcaaDoorMLexPlaces6
import Derived.WalkKit
import Derived.ProofKit
import Derived.OpenShut
import Derived.ShutString
import Derived.ChangeOld
import Derived.Below
import Derived.SizedLaws
import Derived.LaidMore
import Derived.Lay
import Derived.SevenTiedAt
import Derived.Stop.Joined
import Derived.Stop.LaidErr
import Derived.Lib.LaidTab
namespace Go.Proofs.YtalffjplbhelcaaDoor.lexPlaces
open Go.ChangeShapes Go.WideShapes Go.ChangeAt Go.RowKit
open Go.ChangeMaps (open_string shut_string)
set_option linter.unusedVariables false
theorem own : ownKnob Tryd.prog.godebug = none := by kernel_rfl
theorem plainL : True := trivial
theorem tab {W : World} (h : laidMetH Tryd.prog Rows.lexPlacesRow.laid W) : Lib.TabIs Tryd.prog W "internal/strconv.uint64pow10" .u64 Lib.pow10Tab := by
  rw [MakeChecks.laidMetH_plain _ _ _ (by kernel_rfl)] at h
  exact Lib.tabIs_of_head (g := 3) (t := 143) (e := 115) (n := 20) (by kernel_rfl) (by kernel_rfl) Tryd.underlying143 Tryd.underlying115 (by kernel_rfl) (by kernel_rfl) (laidMet.tail (laidMet.tail h))
set_option maxRecDepth 100000 in
theorem lifted (os : Os) (started : os.Started) (H : Type) (enc : TypeId × Value → H) :
    ReturnsInHanded {} Tryd.checked os 5 .any (fun w args => (Rows.lexPlacesSpec.pre enc Tryd.prog Tryd.f5 Rows.lexPlacesRow.domain false w args ∧ laidMetH Tryd.prog Rows.lexPlacesRow.laid w) ∧ sizedMet enc Tryd.prog Tryd.f5 (OpenSpec.ofChange Rows.lexPlacesSpec) false w args)
      (Rows.lexPlacesSpec.post enc Tryd.prog Tryd.f5 false true false false) := by
  refine returnsInHanded_of_change_and (C := Tryd.checked) (X := fun w _ => laidMetH Tryd.prog Rows.lexPlacesRow.laid w) (fun _ _ _ hh h => h.of_heap hh) own started (by kernel_rfl) Tryd.func5
    (ChangeSpec.witness_shaped (enc := enc) (C := Tryd.checked) (os := os) (X := fun w _ => laidMetH Tryd.prog Rows.lexPlacesRow.laid w) false (World.laidAll Tryd.prog os Rows.lexPlacesRow.laid) #[.slice none 0 0] 8 (World.laidAll_os _ _ _)
      (World.shaped_of_ZipB (by kernel_rfl) (by kernel_rfl)) (by kernel_rfl) (by kernel_rfl) (by kernel_rfl)
      (by rw [MakeChecks.laidMetH_plain _ _ _ (by kernel_rfl)]; exact laidMet_laidAll _ (by kernel_rfl) (by kernel_rfl))) ?_
  intro W base args ds gs before hval0 hW hcnd hsz0 hL _
  have hval : ∀ (j : Nat) t v, Tryd.f5.params[j]? = some t → args[j]? = some v → Value.okWide Tryd.prog W .any base t v := hval0
  have hW' := hW
  obtain ⟨p, q, hA0, hV, rfl, hfz, hnd⟩ := hW
  have hA : DataW.TrodAll enc Tryd.prog W 0 (fun _ => true) true Tryd.f5.params.toList args.toList ds p := hA0
  rw [Tryd.params5] at hA hval
  obtain ⟨tP, hT⟩ := at_tab (tab hL)
  obtain ⟨v0, vs0, d0, ds0, p0, q0, hargs, rfl, rfl, h0, r0⟩ := trodAll_cons hA
  obtain ⟨rfl, rfl, rfl⟩ := trodAll_nil r0
  obtain rfl : args = #[v0] := by cases args; simp_all
  obtain ⟨rfl, rfl⟩ := trodVars_none hV
  have hsz := hsz0
  obtain ⟨a0, n0, c0, rfl, i0, z0⟩ := open_il Tryd.underlying33 Tryd.underlying3 (by kernel_rfl) (hval 0 33 v0 rfl rfl) h0
  clear hA0 hval0
  refine (lexPlaces_calls a0 n0 c0 i0).mono fun e W' ⟨he, bel⟩ => ?_
  subst he
  exact ⟨_, rfl, _, _, _, [], _, [], hW', trodAll_mk1 (shut_bool Tryd.underlying4 _), (trodAll_cons_mk (z0 W' bel) trodAll_mk0), rfl, bel.frame _, fun h => by cases h⟩
theorem j0 : Rows.lexPlacesRow.wf (OpenSpec.ofChange Rows.lexPlacesSpec) = true := by kernel_rfl
theorem j1 : laidOutB Tryd.prog = true := by kernel_rfl
theorem j2 : mapsRowed Tryd.prog = true := by kernel_rfl
theorem j3 : Tryd.f5.params.all (Tryd.prog.readableRec ·) = true := by kernel_rfl
theorem j4 : namedTie Tryd.prog Rows.lexPlacesRow.named Rows.lexPlacesSpec.vars = true := by kernel_rfl
theorem j5 : (Rows.lexPlacesRow.stops == []) = true := by kernel_rfl
theorem j6 : (Tryd.prog.stops == []) = true := by kernel_rfl
theorem j7 : (Rows.lexPlacesRow.knobs == []) = true := by kernel_rfl
theorem j8 : (Tryd.prog.stopKnobs == []) = true := by kernel_rfl
theorem j9 : (Rows.lexPlacesRow.inPlace == Tryd.prog.inPlace 5) = true := by kernel_rfl
theorem j10 : (Rows.lexPlacesRow.unfollowed == Tryd.prog.unfollowed 5) = true := by kernel_rfl
theorem j11 : (Rows.lexPlacesRow.recurses == Tryd.prog.recurses 5) = true := by kernel_rfl
theorem j12 : (Rows.lexPlacesRow.named == Tryd.prog.varsNamed 5) = true := by kernel_rfl
theorem j13 : (Rows.lexPlacesRow.maps == (Tryd.f5.params.toList ++ Rows.lexPlacesSpec.plain.varTypes Tryd.prog).any (Tryd.prog.mapsRec ·)) = true := by kernel_rfl
theorem j14 : (Rows.lexPlacesRow.ifaces == (Tryd.f5.params.toList ++ Rows.lexPlacesSpec.plain.varTypes Tryd.prog).any (Tryd.prog.ifacesRec ·)) = true := by kernel_rfl
theorem j15 : (Rows.lexPlacesRow.mapsOut == Tryd.prog.mapsAmong Tryd.f5.resultTypes.toList) = true := by kernel_rfl
theorem j16 : (Rows.lexPlacesRow.loops == (Tryd.f5.params.toList ++ Rows.lexPlacesSpec.plain.varTypes Tryd.prog).any (Tryd.prog.loopsFrom ·)) = true := by kernel_rfl
theorem j17 : (Rows.lexPlacesRow.wideKeys == (Tryd.f5.params.toList ++ Rows.lexPlacesSpec.plain.varTypes Tryd.prog ++ Tryd.f5.resultTypes.toList).any (Tryd.prog.wideKeysFrom ·)) = true := by kernel_rfl
theorem j18 : Rows.lexPlacesSpec.vars.all (Tryd.prog.varReadable ·) = true := by kernel_rfl
theorem j19 : Tryd.f5.resultTypes.all (fun t => Tryd.prog.readableRec t && decide (t < Tryd.prog.types.size)) = true := by kernel_rfl
theorem j20 : (Rows.lexPlacesRow.ifacesOut == Tryd.f5.resultTypes.toList.any (Tryd.prog.ifacesRec ·)) = true := by kernel_rfl
theorem j21 : (Rows.lexPlacesRow.loopsOut == Tryd.f5.resultTypes.toList.any (Tryd.prog.loopsFrom ·)) = true := by kernel_rfl
theorem j22 : (Rows.lexPlacesRow.plainKeys == Tryd.prog.plainKeys) = true := by kernel_rfl
theorem j23 : Rows.lexPlacesRow.shortTexts.isNone = true := by kernel_rfl
theorem j24 : Tryd.prog.stopsHeard = true := by kernel_rfl
theorem j25 : Tryd.prog.mayEnter = true := head_enter
theorem j26 : (Rows.lexPlacesRow.lifted == Tryd.prog.liftsFinal) = true := by rw [head_final]; rfl
theorem j27 : (Tryd.prog.make == some Rows.lexPlacesRow.make) = true := by rw [head_make]; rfl
theorem j28 : (Rows.lexPlacesRow.kinds == (if Rows.lexPlacesRow.domain.isEmpty then [] else Tryd.f5.params.toList.map fun t => match Tryd.prog.underlying t with | some (.int k) => some k | _ => none)) = true := by kernel_rfl
theorem j29 : (Rows.lexPlacesRow.pinned == Rows.lexPlacesRow.pinnedBy) = true := by kernel_rfl
theorem j30 : (Rows.lexPlacesRow.veiled == (Tryd.f5.params.toList ++ Rows.lexPlacesSpec.plain.varTypes Tryd.prog ++ Tryd.f5.resultTypes.toList).any (Tryd.prog.veiledRec ·)) = true := by kernel_rfl
theorem j31 : Rows.lexPlacesRow.veiledFits Tryd.prog Tryd.f5.params.toList (Tryd.f5.params.toList ++ Rows.lexPlacesSpec.plain.varTypes Tryd.prog ++ Tryd.f5.resultTypes.toList) = true := by kernel_rfl
theorem aI {a b : Bool} (h : a = true) (k : b = true) : (a && b) = true := by rw [h, k]; rfl
set_option maxRecDepth 100000 in
theorem joined : joinedFacts Tryd.prog 5 Tryd.f5 Rows.lexPlacesSpec Rows.lexPlacesRow = true := by
  unfold joinedFacts
  exact (aI (aI (aI (aI (aI (aI (aI (aI (aI (aI (aI (aI (aI (aI (aI (aI (aI (aI (aI (aI (aI (aI (aI (aI (aI (aI (aI (aI (aI (aI (aI j0 j1) j2) j3) j4) j5) j6) j7) j8) j9) j10) j11) j12) j13) j14) j15) j16) j17) j18) j19) j20) j21) j22) j23) j24) j25) j26) j27) j28) j29) j30) j31)
theorem over : Rows.lexPlacesRow.holds Tryd.pinned (OpenSpec.ofChange Rows.lexPlacesSpec) :=
  OpenClaim.holds_of_wide 5 Tryd.f5 rfl rfl rfl rfl rfl rfl rfl ⟨rfl, rfl, rfl, rfl, rfl⟩ rfl rfl rfl rfl rfl (by kernel_rfl) Tryd.func5 joined
    (of_decide_eq_true (by kernel_rfl)) (by unfold Func.isWrapper; first | (rw [if_pos (by decide +kernel)]; kernel_rfl) | (rw [if_neg (by decide +kernel)]; exact ⟨rfl, rfl⟩))
    (fun os started H enc _ => lifted os started H enc)
theorem card : Rows.LexPlacesCardSaid :=
  Claim7.holds_tied_plain_at .later [] [.data, .data, .data, .data, .sentinel, .sentinel, .pinned] true (true, "3413a95a961652af1b973bc03f355f2775bd80a0b327d81fd940ecaad6a7f710") true over (fun _ h => by cases h) (by kernel_rfl) (fun _ h => by cases h) lexPlaces_row_tie rfl ⟨rfl, rfl⟩ (by kernel_rfl) rfl
    (fun f fn hf hfn => by
      obtain rfl : f = 5 := Option.some.inj ((show Tryd.prog.funcNamed "meniscus/meniscuslaw10.LexPlaces" = some 5 by kernel_rfl).symm.trans hf) |>.symm
      obtain rfl : fn = Tryd.f5 := (Option.some.inj (Tryd.func5.symm.trans hfn)).symm
      exact ⟨by kernel_rfl, fun j t ht => by
        rw [Tryd.params5] at ht
        have hm : t ∈ [33] := by have := Array.mem_of_getElem? ht; first | (simpa using this) | (simp only [List.mem_toArray, List.mem_cons, List.not_mem_nil, or_false] at this ⊢; grind)
        have hall : ([33].all fun u => !Tryd.prog.wantsStandIn u) = true := by kernel_rfl
        exact (show Tryd.prog.wantsStandIn t = false by simpa using List.all_eq_true.1 hall t hm)⟩)
    (by kernel_rfl)
#print axioms card
end Go.Proofs.YtalffjplbhelcaaDoor.lexPlaces
namespace Go.Proofs.YtalffjplbhelcaaDoor
theorem lexPlaces_holds : Rows.LexPlacesCardSaid := lexPlaces.card
end Go.Proofs.YtalffjplbhelcaaDoor
