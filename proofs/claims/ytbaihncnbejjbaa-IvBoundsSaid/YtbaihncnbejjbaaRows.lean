/-
  No cell of these rows narrows 'for every input' (looked for: loops, veiled, ifaces, maps, wideKeys, modest, calm, conditions, laid).
  DERIVED. THE GIVEN ROWS OF THIS SEAT. 33 by the template 'for every input the law returns true; each argument reads behind the call as it read before'; 0 by the template 'total and deterministic' (their statements: YtbaihncnbejjbaaTotals.lean).
  GIVEN WITH THE SEED: the statements are not yours to turn. If you find one false, say at which input.
  Laid BY PROGRAM, IN A SANDBOX (cutbox-rows.mjs): the forced cells as the released guide's own fill.sh prints them over the translation e732a0e052656dea… (all of the seat's roots in one cut). By AI agents, Wed Nov 11 2026. No macro, syntax, notation, axiom, sorry.
-/
import Derived.Test.YtbaihncnbejjbaaChecked
import GoSem.Claim
import GoSem.ClaimJoined
import GoSem.ClaimMapViews
import Derived.JoinedTies
import Derived.KernelRfl
namespace Go.Proofs.Ytbaihncnbejjbaa
/- THE CELL 'sum', in the pinned program and in every row, IS THE sha256 OF THE DUMP (.gsa) THAT YtbaihncnbejjbaaProg.lean LOADS. Nothing in Lean hashes anything: it is a label: what it is worth is what the hold of that sum in a sandbox is worth. -/
noncomputable def Try.pinned : Pinned := { name := "ytbaihncnbejjbaa", sum := "e732a0e052656deae0e0999e08ea5ba4a02d8f092789cbb0d01e79d4489520d3", checked := Try.checked }
namespace Rows
def none {H : Type} : Left H := { results := [], args := [] }

/-- 'meniscuslaw1.NumSigns': WHATEVER THE INPUT: true; the input reads as it did. -/
def numSignsSpec : ChangeSpec := { name := "numSigns", fn := fun _ => fun
  | [d1, d2, d3] => { results := [.lit (.bool true)], args := [d1, d2, d3] }
  | _ => none }
def numSignsRow : OpenClaim := { program := "ytbaihncnbejjbaa", sum := "e732a0e052656deae0e0999e08ea5ba4a02d8f092789cbb0d01e79d4489520d3", func := "meniscus/meniscuslaw1.NumSigns", spec := "numSigns", apart := false }
def NumSignsSaid : Prop := numSignsRow.holds Try.pinned (OpenSpec.ofChange numSignsSpec)

/-- ITS FALSE NEIGHBOUR: 'it returns false'. Refute it at one input. -/
def numSignsWrong : ChangeSpec := { name := "numSigns", fn := fun _ => fun
  | [d1, d2, d3] => { results := [.lit (.bool false)], args := [d1, d2, d3] }
  | _ => none }
def NumSignsWrongFalsely : Prop := numSignsRow.holds Try.pinned (OpenSpec.ofChange numSignsWrong)

/-- 'meniscuslaw1.NumKnown': WHATEVER THE INPUT: true; the input reads as it did. -/
def numKnownSpec : ChangeSpec := { name := "numKnown", fn := fun _ => fun
  | [] => { results := [.lit (.bool true)], args := [] }
  | _ => none }
def numKnownRow : OpenClaim := { program := "ytbaihncnbejjbaa", sum := "e732a0e052656deae0e0999e08ea5ba4a02d8f092789cbb0d01e79d4489520d3", func := "meniscus/meniscuslaw1.NumKnown", spec := "numKnown", apart := false }
def NumKnownSaid : Prop := numKnownRow.holds Try.pinned (OpenSpec.ofChange numKnownSpec)

/-- ITS FALSE NEIGHBOUR: 'it returns false'. Refute it at one input. -/
def numKnownWrong : ChangeSpec := { name := "numKnown", fn := fun _ => fun
  | [] => { results := [.lit (.bool false)], args := [] }
  | _ => none }
def NumKnownWrongFalsely : Prop := numKnownRow.holds Try.pinned (OpenSpec.ofChange numKnownWrong)

/-- 'meniscuslaw1.NumTells': WHATEVER THE INPUT: true; the input reads as it did. -/
def numTellsSpec : ChangeSpec := { name := "numTells", fn := fun _ => fun
  | [d1, d2, d3, d4] => { results := [.lit (.bool true)], args := [d1, d2, d3, d4] }
  | _ => none }
def numTellsRow : OpenClaim := { program := "ytbaihncnbejjbaa", sum := "e732a0e052656deae0e0999e08ea5ba4a02d8f092789cbb0d01e79d4489520d3", func := "meniscus/meniscuslaw1.NumTells", spec := "numTells", apart := false }
def NumTellsSaid : Prop := numTellsRow.holds Try.pinned (OpenSpec.ofChange numTellsSpec)

/-- ITS FALSE NEIGHBOUR: 'it returns false'. Refute it at one input. -/
def numTellsWrong : ChangeSpec := { name := "numTells", fn := fun _ => fun
  | [d1, d2, d3, d4] => { results := [.lit (.bool false)], args := [d1, d2, d3, d4] }
  | _ => none }
def NumTellsWrongFalsely : Prop := numTellsRow.holds Try.pinned (OpenSpec.ofChange numTellsWrong)

/-- 'meniscuslaw1.NumEncloses': WHATEVER THE INPUT: true; the input reads as it did. -/
def numEnclosesSpec : ChangeSpec := { name := "numEncloses", fn := fun _ => fun
  | [d1, d2] => { results := [.lit (.bool true)], args := [d1, d2] }
  | _ => none }
def numEnclosesRow : OpenClaim := { program := "ytbaihncnbejjbaa", sum := "e732a0e052656deae0e0999e08ea5ba4a02d8f092789cbb0d01e79d4489520d3", func := "meniscus/meniscuslaw1.NumEncloses", spec := "numEncloses", apart := false }
def NumEnclosesSaid : Prop := numEnclosesRow.holds Try.pinned (OpenSpec.ofChange numEnclosesSpec)

/-- ITS FALSE NEIGHBOUR: 'it returns false'. Refute it at one input. -/
def numEnclosesWrong : ChangeSpec := { name := "numEncloses", fn := fun _ => fun
  | [d1, d2] => { results := [.lit (.bool false)], args := [d1, d2] }
  | _ => none }
def NumEnclosesWrongFalsely : Prop := numEnclosesRow.holds Try.pinned (OpenSpec.ofChange numEnclosesWrong)

/-- 'meniscuslaw4.PolyEncloses': WHATEVER THE INPUT: true; the input reads as it did. -/
def polyEnclosesSpec : ChangeSpec := { name := "polyEncloses", fn := fun _ => fun
  | [d1, d2, d3, d4] => { results := [.lit (.bool true)], args := [d1, d2, d3, d4] }
  | _ => none }
def polyEnclosesRow : OpenClaim := { program := "ytbaihncnbejjbaa", sum := "e732a0e052656deae0e0999e08ea5ba4a02d8f092789cbb0d01e79d4489520d3", func := "meniscus/meniscuslaw4.PolyEncloses", spec := "polyEncloses", unfollowed := true, recurses := true, apart := false }
def PolyEnclosesSaid : Prop := polyEnclosesRow.holds Try.pinned (OpenSpec.ofChange polyEnclosesSpec)

/-- ITS FALSE NEIGHBOUR: 'it returns false'. Refute it at one input. -/
def polyEnclosesWrong : ChangeSpec := { name := "polyEncloses", fn := fun _ => fun
  | [d1, d2, d3, d4] => { results := [.lit (.bool false)], args := [d1, d2, d3, d4] }
  | _ => none }
def PolyEnclosesWrongFalsely : Prop := polyEnclosesRow.holds Try.pinned (OpenSpec.ofChange polyEnclosesWrong)

/-- 'meniscuslaw2.IvParts': WHATEVER THE INPUT: true; the input reads as it did. -/
def ivPartsSpec : ChangeSpec := { name := "ivParts", fn := fun _ => fun
  | [d1, d2, d3, d4] => { results := [.lit (.bool true)], args := [d1, d2, d3, d4] }
  | _ => none }
def ivPartsRow : OpenClaim := { program := "ytbaihncnbejjbaa", sum := "e732a0e052656deae0e0999e08ea5ba4a02d8f092789cbb0d01e79d4489520d3", func := "meniscus/meniscuslaw2.IvParts", spec := "ivParts", unfollowed := true, recurses := true, apart := false }
def IvPartsSaid : Prop := ivPartsRow.holds Try.pinned (OpenSpec.ofChange ivPartsSpec)

/-- ITS FALSE NEIGHBOUR: 'it returns false'. Refute it at one input. -/
def ivPartsWrong : ChangeSpec := { name := "ivParts", fn := fun _ => fun
  | [d1, d2, d3, d4] => { results := [.lit (.bool false)], args := [d1, d2, d3, d4] }
  | _ => none }
def IvPartsWrongFalsely : Prop := ivPartsRow.holds Try.pinned (OpenSpec.ofChange ivPartsWrong)

/-- 'meniscuslaw4.PolyKnown': WHATEVER THE INPUT: true; the input reads as it did. -/
def polyKnownSpec : ChangeSpec := { name := "polyKnown", fn := fun _ => fun
  | [] => { results := [.lit (.bool true)], args := [] }
  | _ => none }
def polyKnownRow : OpenClaim := { program := "ytbaihncnbejjbaa", sum := "e732a0e052656deae0e0999e08ea5ba4a02d8f092789cbb0d01e79d4489520d3", func := "meniscus/meniscuslaw4.PolyKnown", spec := "polyKnown", unfollowed := true, recurses := true, apart := false }
def PolyKnownSaid : Prop := polyKnownRow.holds Try.pinned (OpenSpec.ofChange polyKnownSpec)

/-- ITS FALSE NEIGHBOUR: 'it returns false'. Refute it at one input. -/
def polyKnownWrong : ChangeSpec := { name := "polyKnown", fn := fun _ => fun
  | [] => { results := [.lit (.bool false)], args := [] }
  | _ => none }
def PolyKnownWrongFalsely : Prop := polyKnownRow.holds Try.pinned (OpenSpec.ofChange polyKnownWrong)

/-- 'meniscuslaw4.PolySlopes': WHATEVER THE INPUT: true; the input reads as it did. -/
def polySlopesSpec : ChangeSpec := { name := "polySlopes", fn := fun _ => fun
  | [d1, d2, d3, d4] => { results := [.lit (.bool true)], args := [d1, d2, d3, d4] }
  | _ => none }
def polySlopesRow : OpenClaim := { program := "ytbaihncnbejjbaa", sum := "e732a0e052656deae0e0999e08ea5ba4a02d8f092789cbb0d01e79d4489520d3", func := "meniscus/meniscuslaw4.PolySlopes", spec := "polySlopes", unfollowed := true, recurses := true, apart := false }
def PolySlopesSaid : Prop := polySlopesRow.holds Try.pinned (OpenSpec.ofChange polySlopesSpec)

/-- ITS FALSE NEIGHBOUR: 'it returns false'. Refute it at one input. -/
def polySlopesWrong : ChangeSpec := { name := "polySlopes", fn := fun _ => fun
  | [d1, d2, d3, d4] => { results := [.lit (.bool false)], args := [d1, d2, d3, d4] }
  | _ => none }
def PolySlopesWrongFalsely : Prop := polySlopesRow.holds Try.pinned (OpenSpec.ofChange polySlopesWrong)

/-- 'meniscuslaw2.IvEncloses': WHATEVER THE INPUT: true; the input reads as it did. -/
def ivEnclosesSpec : ChangeSpec := { name := "ivEncloses", fn := fun _ => fun
  | [d1, d2, d3, d4, d5, d6] => { results := [.lit (.bool true)], args := [d1, d2, d3, d4, d5, d6] }
  | _ => none }
def ivEnclosesRow : OpenClaim := { program := "ytbaihncnbejjbaa", sum := "e732a0e052656deae0e0999e08ea5ba4a02d8f092789cbb0d01e79d4489520d3", func := "meniscus/meniscuslaw2.IvEncloses", spec := "ivEncloses", unfollowed := true, recurses := true, apart := false }
def IvEnclosesSaid : Prop := ivEnclosesRow.holds Try.pinned (OpenSpec.ofChange ivEnclosesSpec)

/-- ITS FALSE NEIGHBOUR: 'it returns false'. Refute it at one input. -/
def ivEnclosesWrong : ChangeSpec := { name := "ivEncloses", fn := fun _ => fun
  | [d1, d2, d3, d4, d5, d6] => { results := [.lit (.bool false)], args := [d1, d2, d3, d4, d5, d6] }
  | _ => none }
def IvEnclosesWrongFalsely : Prop := ivEnclosesRow.holds Try.pinned (OpenSpec.ofChange ivEnclosesWrong)

/-- 'meniscuslaw2.IvBacks': WHATEVER THE INPUT: true; the input reads as it did. -/
def ivBacksSpec : ChangeSpec := { name := "ivBacks", fn := fun _ => fun
  | [d1, d2, d3, d4] => { results := [.lit (.bool true)], args := [d1, d2, d3, d4] }
  | _ => none }
def ivBacksRow : OpenClaim := { program := "ytbaihncnbejjbaa", sum := "e732a0e052656deae0e0999e08ea5ba4a02d8f092789cbb0d01e79d4489520d3", func := "meniscus/meniscuslaw2.IvBacks", spec := "ivBacks", unfollowed := true, recurses := true, apart := false }
def IvBacksSaid : Prop := ivBacksRow.holds Try.pinned (OpenSpec.ofChange ivBacksSpec)

/-- ITS FALSE NEIGHBOUR: 'it returns false'. Refute it at one input. -/
def ivBacksWrong : ChangeSpec := { name := "ivBacks", fn := fun _ => fun
  | [d1, d2, d3, d4] => { results := [.lit (.bool false)], args := [d1, d2, d3, d4] }
  | _ => none }
def IvBacksWrongFalsely : Prop := ivBacksRow.holds Try.pinned (OpenSpec.ofChange ivBacksWrong)

/-- 'meniscuslaw2.IvBounds': WHATEVER THE INPUT: true; the input reads as it did. -/
def ivBoundsSpec : ChangeSpec := { name := "ivBounds", fn := fun _ => fun
  | [d1, d2, d3, d4, d5] => { results := [.lit (.bool true)], args := [d1, d2, d3, d4, d5] }
  | _ => none }
def ivBoundsRow : OpenClaim := { program := "ytbaihncnbejjbaa", sum := "e732a0e052656deae0e0999e08ea5ba4a02d8f092789cbb0d01e79d4489520d3", func := "meniscus/meniscuslaw2.IvBounds", spec := "ivBounds", unfollowed := true, recurses := true, apart := false }
def IvBoundsSaid : Prop := ivBoundsRow.holds Try.pinned (OpenSpec.ofChange ivBoundsSpec)

/-- ITS FALSE NEIGHBOUR: 'it returns false'. Refute it at one input. -/
def ivBoundsWrong : ChangeSpec := { name := "ivBounds", fn := fun _ => fun
  | [d1, d2, d3, d4, d5] => { results := [.lit (.bool false)], args := [d1, d2, d3, d4, d5] }
  | _ => none }
def IvBoundsWrongFalsely : Prop := ivBoundsRow.holds Try.pinned (OpenSpec.ofChange ivBoundsWrong)

/-- 'meniscuslaw2.IvLess': WHATEVER THE INPUT: true; the input reads as it did. -/
def ivLessSpec : ChangeSpec := { name := "ivLess", fn := fun _ => fun
  | [d1, d2, d3, d4, d5, d6, d7] => { results := [.lit (.bool true)], args := [d1, d2, d3, d4, d5, d6, d7] }
  | _ => none }
def ivLessRow : OpenClaim := { program := "ytbaihncnbejjbaa", sum := "e732a0e052656deae0e0999e08ea5ba4a02d8f092789cbb0d01e79d4489520d3", func := "meniscus/meniscuslaw2.IvLess", spec := "ivLess", unfollowed := true, recurses := true, apart := false }
def IvLessSaid : Prop := ivLessRow.holds Try.pinned (OpenSpec.ofChange ivLessSpec)

/-- ITS FALSE NEIGHBOUR: 'it returns false'. Refute it at one input. -/
def ivLessWrong : ChangeSpec := { name := "ivLess", fn := fun _ => fun
  | [d1, d2, d3, d4, d5, d6, d7] => { results := [.lit (.bool false)], args := [d1, d2, d3, d4, d5, d6, d7] }
  | _ => none }
def IvLessWrongFalsely : Prop := ivLessRow.holds Try.pinned (OpenSpec.ofChange ivLessWrong)

/-- 'meniscuslaw5.VecUnits': WHATEVER THE INPUT: true; the input reads as it did. -/
def vecUnitsSpec : ChangeSpec := { name := "vecUnits", fn := fun _ => fun
  | [d1, d2, d3, d4] => { results := [.lit (.bool true)], args := [d1, d2, d3, d4] }
  | _ => none }
def vecUnitsRow : OpenClaim := { program := "ytbaihncnbejjbaa", sum := "e732a0e052656deae0e0999e08ea5ba4a02d8f092789cbb0d01e79d4489520d3", func := "meniscus/meniscuslaw5.VecUnits", spec := "vecUnits", unfollowed := true, recurses := true, apart := false }
def VecUnitsSaid : Prop := vecUnitsRow.holds Try.pinned (OpenSpec.ofChange vecUnitsSpec)

/-- ITS FALSE NEIGHBOUR: 'it returns false'. Refute it at one input. -/
def vecUnitsWrong : ChangeSpec := { name := "vecUnits", fn := fun _ => fun
  | [d1, d2, d3, d4] => { results := [.lit (.bool false)], args := [d1, d2, d3, d4] }
  | _ => none }
def VecUnitsWrongFalsely : Prop := vecUnitsRow.holds Try.pinned (OpenSpec.ofChange vecUnitsWrong)

/-- 'meniscuslaw6.QuadKnown': WHATEVER THE INPUT: true; the input reads as it did. -/
def quadKnownSpec : ChangeSpec := { name := "quadKnown", fn := fun _ => fun
  | [] => { results := [.lit (.bool true)], args := [] }
  | _ => none }
def quadKnownRow : OpenClaim := { program := "ytbaihncnbejjbaa", sum := "e732a0e052656deae0e0999e08ea5ba4a02d8f092789cbb0d01e79d4489520d3", func := "meniscus/meniscuslaw6.QuadKnown", spec := "quadKnown", unfollowed := true, recurses := true, apart := false }
def QuadKnownSaid : Prop := quadKnownRow.holds Try.pinned (OpenSpec.ofChange quadKnownSpec)

/-- ITS FALSE NEIGHBOUR: 'it returns false'. Refute it at one input. -/
def quadKnownWrong : ChangeSpec := { name := "quadKnown", fn := fun _ => fun
  | [] => { results := [.lit (.bool false)], args := [] }
  | _ => none }
def QuadKnownWrongFalsely : Prop := quadKnownRow.holds Try.pinned (OpenSpec.ofChange quadKnownWrong)

/-- 'meniscuslaw6.QuadTells': WHATEVER THE INPUT: true; the input reads as it did. -/
def quadTellsSpec : ChangeSpec := { name := "quadTells", fn := fun _ => fun
  | [d1, d2, d3, d4, d5, d6, d7] => { results := [.lit (.bool true)], args := [d1, d2, d3, d4, d5, d6, d7] }
  | _ => none }
def quadTellsRow : OpenClaim := { program := "ytbaihncnbejjbaa", sum := "e732a0e052656deae0e0999e08ea5ba4a02d8f092789cbb0d01e79d4489520d3", func := "meniscus/meniscuslaw6.QuadTells", spec := "quadTells", unfollowed := true, recurses := true, apart := false }
def QuadTellsSaid : Prop := quadTellsRow.holds Try.pinned (OpenSpec.ofChange quadTellsSpec)

/-- ITS FALSE NEIGHBOUR: 'it returns false'. Refute it at one input. -/
def quadTellsWrong : ChangeSpec := { name := "quadTells", fn := fun _ => fun
  | [d1, d2, d3, d4, d5, d6, d7] => { results := [.lit (.bool false)], args := [d1, d2, d3, d4, d5, d6, d7] }
  | _ => none }
def QuadTellsWrongFalsely : Prop := quadTellsRow.holds Try.pinned (OpenSpec.ofChange quadTellsWrong)

/-- 'meniscuslaw6.QuadRoots': WHATEVER THE INPUT: true; the input reads as it did. -/
def quadRootsSpec : ChangeSpec := { name := "quadRoots", fn := fun _ => fun
  | [d1, d2, d3, d4, d5] => { results := [.lit (.bool true)], args := [d1, d2, d3, d4, d5] }
  | _ => none }
def quadRootsRow : OpenClaim := { program := "ytbaihncnbejjbaa", sum := "e732a0e052656deae0e0999e08ea5ba4a02d8f092789cbb0d01e79d4489520d3", func := "meniscus/meniscuslaw6.QuadRoots", spec := "quadRoots", unfollowed := true, recurses := true, apart := false }
def QuadRootsSaid : Prop := quadRootsRow.holds Try.pinned (OpenSpec.ofChange quadRootsSpec)

/-- ITS FALSE NEIGHBOUR: 'it returns false'. Refute it at one input. -/
def quadRootsWrong : ChangeSpec := { name := "quadRoots", fn := fun _ => fun
  | [d1, d2, d3, d4, d5] => { results := [.lit (.bool false)], args := [d1, d2, d3, d4, d5] }
  | _ => none }
def QuadRootsWrongFalsely : Prop := quadRootsRow.holds Try.pinned (OpenSpec.ofChange quadRootsWrong)

/-- 'meniscuslaw6.QuadLess': WHATEVER THE INPUT: true; the input reads as it did. -/
def quadLessSpec : ChangeSpec := { name := "quadLess", fn := fun _ => fun
  | [d1, d2, d3, d4, d5, d6, d7, d8] => { results := [.lit (.bool true)], args := [d1, d2, d3, d4, d5, d6, d7, d8] }
  | _ => none }
def quadLessRow : OpenClaim := { program := "ytbaihncnbejjbaa", sum := "e732a0e052656deae0e0999e08ea5ba4a02d8f092789cbb0d01e79d4489520d3", func := "meniscus/meniscuslaw6.QuadLess", spec := "quadLess", unfollowed := true, recurses := true, apart := false }
def QuadLessSaid : Prop := quadLessRow.holds Try.pinned (OpenSpec.ofChange quadLessSpec)

/-- ITS FALSE NEIGHBOUR: 'it returns false'. Refute it at one input. -/
def quadLessWrong : ChangeSpec := { name := "quadLess", fn := fun _ => fun
  | [d1, d2, d3, d4, d5, d6, d7, d8] => { results := [.lit (.bool false)], args := [d1, d2, d3, d4, d5, d6, d7, d8] }
  | _ => none }
def QuadLessWrongFalsely : Prop := quadLessRow.holds Try.pinned (OpenSpec.ofChange quadLessWrong)

/-- 'meniscuslaw5.VecLess': WHATEVER THE INPUT: true; the input reads as it did. -/
def vecLessSpec : ChangeSpec := { name := "vecLess", fn := fun _ => fun
  | [d1, d2, d3, d4, d5] => { results := [.lit (.bool true)], args := [d1, d2, d3, d4, d5] }
  | _ => none }
def vecLessRow : OpenClaim := { program := "ytbaihncnbejjbaa", sum := "e732a0e052656deae0e0999e08ea5ba4a02d8f092789cbb0d01e79d4489520d3", func := "meniscus/meniscuslaw5.VecLess", spec := "vecLess", unfollowed := true, recurses := true, apart := false }
def VecLessSaid : Prop := vecLessRow.holds Try.pinned (OpenSpec.ofChange vecLessSpec)

/-- ITS FALSE NEIGHBOUR: 'it returns false'. Refute it at one input. -/
def vecLessWrong : ChangeSpec := { name := "vecLess", fn := fun _ => fun
  | [d1, d2, d3, d4, d5] => { results := [.lit (.bool false)], args := [d1, d2, d3, d4, d5] }
  | _ => none }
def VecLessWrongFalsely : Prop := vecLessRow.holds Try.pinned (OpenSpec.ofChange vecLessWrong)

/-- 'meniscuslaw5.VecAlong': WHATEVER THE INPUT: true; the input reads as it did. -/
def vecAlongSpec : ChangeSpec := { name := "vecAlong", fn := fun _ => fun
  | [d1, d2, d3, d4, d5, d6] => { results := [.lit (.bool true)], args := [d1, d2, d3, d4, d5, d6] }
  | _ => none }
def vecAlongRow : OpenClaim := { program := "ytbaihncnbejjbaa", sum := "e732a0e052656deae0e0999e08ea5ba4a02d8f092789cbb0d01e79d4489520d3", func := "meniscus/meniscuslaw5.VecAlong", spec := "vecAlong", unfollowed := true, recurses := true, apart := false }
def VecAlongSaid : Prop := vecAlongRow.holds Try.pinned (OpenSpec.ofChange vecAlongSpec)

/-- ITS FALSE NEIGHBOUR: 'it returns false'. Refute it at one input. -/
def vecAlongWrong : ChangeSpec := { name := "vecAlong", fn := fun _ => fun
  | [d1, d2, d3, d4, d5, d6] => { results := [.lit (.bool false)], args := [d1, d2, d3, d4, d5, d6] }
  | _ => none }
def VecAlongWrongFalsely : Prop := vecAlongRow.holds Try.pinned (OpenSpec.ofChange vecAlongWrong)

/-- 'meniscuslaw6.QuadIsNothing': WHATEVER THE INPUT: true; the input reads as it did. -/
def quadIsNothingSpec : ChangeSpec := { name := "quadIsNothing", fn := fun _ => fun
  | [d1, d2, d3, d4, d5, d6] => { results := [.lit (.bool true)], args := [d1, d2, d3, d4, d5, d6] }
  | _ => none }
def quadIsNothingRow : OpenClaim := { program := "ytbaihncnbejjbaa", sum := "e732a0e052656deae0e0999e08ea5ba4a02d8f092789cbb0d01e79d4489520d3", func := "meniscus/meniscuslaw6.QuadIsNothing", spec := "quadIsNothing", unfollowed := true, recurses := true, apart := false }
def QuadIsNothingSaid : Prop := quadIsNothingRow.holds Try.pinned (OpenSpec.ofChange quadIsNothingSpec)

/-- ITS FALSE NEIGHBOUR: 'it returns false'. Refute it at one input. -/
def quadIsNothingWrong : ChangeSpec := { name := "quadIsNothing", fn := fun _ => fun
  | [d1, d2, d3, d4, d5, d6] => { results := [.lit (.bool false)], args := [d1, d2, d3, d4, d5, d6] }
  | _ => none }
def QuadIsNothingWrongFalsely : Prop := quadIsNothingRow.holds Try.pinned (OpenSpec.ofChange quadIsNothingWrong)

/-- 'meniscuslaw17.SnellKnown': WHATEVER THE INPUT: true; the input reads as it did. -/
def snellKnownSpec : ChangeSpec := { name := "snellKnown", fn := fun _ => fun
  | [] => { results := [.lit (.bool true)], args := [] }
  | _ => none }
def snellKnownRow : OpenClaim := { program := "ytbaihncnbejjbaa", sum := "e732a0e052656deae0e0999e08ea5ba4a02d8f092789cbb0d01e79d4489520d3", func := "meniscus/meniscuslaw17.SnellKnown", spec := "snellKnown", unfollowed := true, recurses := true, apart := false }
def SnellKnownSaid : Prop := snellKnownRow.holds Try.pinned (OpenSpec.ofChange snellKnownSpec)

/-- ITS FALSE NEIGHBOUR: 'it returns false'. Refute it at one input. -/
def snellKnownWrong : ChangeSpec := { name := "snellKnown", fn := fun _ => fun
  | [] => { results := [.lit (.bool false)], args := [] }
  | _ => none }
def SnellKnownWrongFalsely : Prop := snellKnownRow.holds Try.pinned (OpenSpec.ofChange snellKnownWrong)

/-- 'meniscuslaw2.IvKnown': WHATEVER THE INPUT: true; the input reads as it did. -/
def ivKnownSpec : ChangeSpec := { name := "ivKnown", fn := fun _ => fun
  | [] => { results := [.lit (.bool true)], args := [] }
  | _ => none }
def ivKnownRow : OpenClaim := { program := "ytbaihncnbejjbaa", sum := "e732a0e052656deae0e0999e08ea5ba4a02d8f092789cbb0d01e79d4489520d3", func := "meniscus/meniscuslaw2.IvKnown", spec := "ivKnown", unfollowed := true, recurses := true, apart := false }
def IvKnownSaid : Prop := ivKnownRow.holds Try.pinned (OpenSpec.ofChange ivKnownSpec)

/-- ITS FALSE NEIGHBOUR: 'it returns false'. Refute it at one input. -/
def ivKnownWrong : ChangeSpec := { name := "ivKnown", fn := fun _ => fun
  | [] => { results := [.lit (.bool false)], args := [] }
  | _ => none }
def IvKnownWrongFalsely : Prop := ivKnownRow.holds Try.pinned (OpenSpec.ofChange ivKnownWrong)

/-- 'meniscuslaw2.IvTells': WHATEVER THE INPUT: true; the input reads as it did. -/
def ivTellsSpec : ChangeSpec := { name := "ivTells", fn := fun _ => fun
  | [d1, d2, d3, d4, d5, d6] => { results := [.lit (.bool true)], args := [d1, d2, d3, d4, d5, d6] }
  | _ => none }
def ivTellsRow : OpenClaim := { program := "ytbaihncnbejjbaa", sum := "e732a0e052656deae0e0999e08ea5ba4a02d8f092789cbb0d01e79d4489520d3", func := "meniscus/meniscuslaw2.IvTells", spec := "ivTells", unfollowed := true, recurses := true, apart := false }
def IvTellsSaid : Prop := ivTellsRow.holds Try.pinned (OpenSpec.ofChange ivTellsSpec)

/-- ITS FALSE NEIGHBOUR: 'it returns false'. Refute it at one input. -/
def ivTellsWrong : ChangeSpec := { name := "ivTells", fn := fun _ => fun
  | [d1, d2, d3, d4, d5, d6] => { results := [.lit (.bool false)], args := [d1, d2, d3, d4, d5, d6] }
  | _ => none }
def IvTellsWrongFalsely : Prop := ivTellsRow.holds Try.pinned (OpenSpec.ofChange ivTellsWrong)

/-- 'meniscuslaw17.SnellTells': WHATEVER THE INPUT: true; the input reads as it did. -/
def snellTellsSpec : ChangeSpec := { name := "snellTells", fn := fun _ => fun
  | [d1, d2, d3, d4, d5, d6, d7, d8, d9, d10] => { results := [.lit (.bool true)], args := [d1, d2, d3, d4, d5, d6, d7, d8, d9, d10] }
  | _ => none }
def snellTellsRow : OpenClaim := { program := "ytbaihncnbejjbaa", sum := "e732a0e052656deae0e0999e08ea5ba4a02d8f092789cbb0d01e79d4489520d3", func := "meniscus/meniscuslaw17.SnellTells", spec := "snellTells", unfollowed := true, recurses := true, apart := false }
def SnellTellsSaid : Prop := snellTellsRow.holds Try.pinned (OpenSpec.ofChange snellTellsSpec)

/-- ITS FALSE NEIGHBOUR: 'it returns false'. Refute it at one input. -/
def snellTellsWrong : ChangeSpec := { name := "snellTells", fn := fun _ => fun
  | [d1, d2, d3, d4, d5, d6, d7, d8, d9, d10] => { results := [.lit (.bool false)], args := [d1, d2, d3, d4, d5, d6, d7, d8, d9, d10] }
  | _ => none }
def SnellTellsWrongFalsely : Prop := snellTellsRow.holds Try.pinned (OpenSpec.ofChange snellTellsWrong)

/-- 'meniscuslaw5.VecKnown': WHATEVER THE INPUT: true; the input reads as it did. -/
def vecKnownSpec : ChangeSpec := { name := "vecKnown", fn := fun _ => fun
  | [] => { results := [.lit (.bool true)], args := [] }
  | _ => none }
def vecKnownRow : OpenClaim := { program := "ytbaihncnbejjbaa", sum := "e732a0e052656deae0e0999e08ea5ba4a02d8f092789cbb0d01e79d4489520d3", func := "meniscus/meniscuslaw5.VecKnown", spec := "vecKnown", unfollowed := true, recurses := true, apart := false }
def VecKnownSaid : Prop := vecKnownRow.holds Try.pinned (OpenSpec.ofChange vecKnownSpec)

/-- ITS FALSE NEIGHBOUR: 'it returns false'. Refute it at one input. -/
def vecKnownWrong : ChangeSpec := { name := "vecKnown", fn := fun _ => fun
  | [] => { results := [.lit (.bool false)], args := [] }
  | _ => none }
def VecKnownWrongFalsely : Prop := vecKnownRow.holds Try.pinned (OpenSpec.ofChange vecKnownWrong)

/-- 'meniscuslaw5.VecTells': WHATEVER THE INPUT: true; the input reads as it did. -/
def vecTellsSpec : ChangeSpec := { name := "vecTells", fn := fun _ => fun
  | [d1, d2, d3, d4, d5] => { results := [.lit (.bool true)], args := [d1, d2, d3, d4, d5] }
  | _ => none }
def vecTellsRow : OpenClaim := { program := "ytbaihncnbejjbaa", sum := "e732a0e052656deae0e0999e08ea5ba4a02d8f092789cbb0d01e79d4489520d3", func := "meniscus/meniscuslaw5.VecTells", spec := "vecTells", unfollowed := true, recurses := true, apart := false }
def VecTellsSaid : Prop := vecTellsRow.holds Try.pinned (OpenSpec.ofChange vecTellsSpec)

/-- ITS FALSE NEIGHBOUR: 'it returns false'. Refute it at one input. -/
def vecTellsWrong : ChangeSpec := { name := "vecTells", fn := fun _ => fun
  | [d1, d2, d3, d4, d5] => { results := [.lit (.bool false)], args := [d1, d2, d3, d4, d5] }
  | _ => none }
def VecTellsWrongFalsely : Prop := vecTellsRow.holds Try.pinned (OpenSpec.ofChange vecTellsWrong)

/-- 'meniscuslaw17.SnellKeeps': WHATEVER THE INPUT: true; the input reads as it did. -/
def snellKeepsSpec : ChangeSpec := { name := "snellKeeps", fn := fun _ => fun
  | [d1, d2, d3] => { results := [.lit (.bool true)], args := [d1, d2, d3] }
  | _ => none }
def snellKeepsRow : OpenClaim := { program := "ytbaihncnbejjbaa", sum := "e732a0e052656deae0e0999e08ea5ba4a02d8f092789cbb0d01e79d4489520d3", func := "meniscus/meniscuslaw17.SnellKeeps", spec := "snellKeeps", unfollowed := true, recurses := true, apart := false }
def SnellKeepsSaid : Prop := snellKeepsRow.holds Try.pinned (OpenSpec.ofChange snellKeepsSpec)

/-- ITS FALSE NEIGHBOUR: 'it returns false'. Refute it at one input. -/
def snellKeepsWrong : ChangeSpec := { name := "snellKeeps", fn := fun _ => fun
  | [d1, d2, d3] => { results := [.lit (.bool false)], args := [d1, d2, d3] }
  | _ => none }
def SnellKeepsWrongFalsely : Prop := snellKeepsRow.holds Try.pinned (OpenSpec.ofChange snellKeepsWrong)

/-- 'meniscuslaw17.SnellBacks': WHATEVER THE INPUT: true; the input reads as it did. -/
def snellBacksSpec : ChangeSpec := { name := "snellBacks", fn := fun _ => fun
  | [d1, d2, d3, d4] => { results := [.lit (.bool true)], args := [d1, d2, d3, d4] }
  | _ => none }
def snellBacksRow : OpenClaim := { program := "ytbaihncnbejjbaa", sum := "e732a0e052656deae0e0999e08ea5ba4a02d8f092789cbb0d01e79d4489520d3", func := "meniscus/meniscuslaw17.SnellBacks", spec := "snellBacks", unfollowed := true, recurses := true, apart := false }
def SnellBacksSaid : Prop := snellBacksRow.holds Try.pinned (OpenSpec.ofChange snellBacksSpec)

/-- ITS FALSE NEIGHBOUR: 'it returns false'. Refute it at one input. -/
def snellBacksWrong : ChangeSpec := { name := "snellBacks", fn := fun _ => fun
  | [d1, d2, d3, d4] => { results := [.lit (.bool false)], args := [d1, d2, d3, d4] }
  | _ => none }
def SnellBacksWrongFalsely : Prop := snellBacksRow.holds Try.pinned (OpenSpec.ofChange snellBacksWrong)

/-- 'meniscuslaw17.SnellLess': WHATEVER THE INPUT: true; the input reads as it did. -/
def snellLessSpec : ChangeSpec := { name := "snellLess", fn := fun _ => fun
  | [d1, d2, d3, d4, d5, d6, d7, d8, d9, d10, d11] => { results := [.lit (.bool true)], args := [d1, d2, d3, d4, d5, d6, d7, d8, d9, d10, d11] }
  | _ => none }
def snellLessRow : OpenClaim := { program := "ytbaihncnbejjbaa", sum := "e732a0e052656deae0e0999e08ea5ba4a02d8f092789cbb0d01e79d4489520d3", func := "meniscus/meniscuslaw17.SnellLess", spec := "snellLess", unfollowed := true, recurses := true, apart := false }
def SnellLessSaid : Prop := snellLessRow.holds Try.pinned (OpenSpec.ofChange snellLessSpec)

/-- ITS FALSE NEIGHBOUR: 'it returns false'. Refute it at one input. -/
def snellLessWrong : ChangeSpec := { name := "snellLess", fn := fun _ => fun
  | [d1, d2, d3, d4, d5, d6, d7, d8, d9, d10, d11] => { results := [.lit (.bool false)], args := [d1, d2, d3, d4, d5, d6, d7, d8, d9, d10, d11] }
  | _ => none }
def SnellLessWrongFalsely : Prop := snellLessRow.holds Try.pinned (OpenSpec.ofChange snellLessWrong)

/-- 'meniscuslaw14.SagKnown': WHATEVER THE INPUT: true; the input reads as it did. -/
def sagKnownSpec : ChangeSpec := { name := "sagKnown", fn := fun _ => fun
  | [] => { results := [.lit (.bool true)], args := [] }
  | _ => none }
def sagKnownRow : OpenClaim := { program := "ytbaihncnbejjbaa", sum := "e732a0e052656deae0e0999e08ea5ba4a02d8f092789cbb0d01e79d4489520d3", func := "meniscus/meniscuslaw14.SagKnown", spec := "sagKnown", unfollowed := true, recurses := true, apart := false }
def SagKnownSaid : Prop := sagKnownRow.holds Try.pinned (OpenSpec.ofChange sagKnownSpec)

/-- ITS FALSE NEIGHBOUR: 'it returns false'. Refute it at one input. -/
def sagKnownWrong : ChangeSpec := { name := "sagKnown", fn := fun _ => fun
  | [] => { results := [.lit (.bool false)], args := [] }
  | _ => none }
def SagKnownWrongFalsely : Prop := sagKnownRow.holds Try.pinned (OpenSpec.ofChange sagKnownWrong)

/-- 'meniscuslaw14.SagBalls': WHATEVER THE INPUT: true; the input reads as it did. -/
def sagBallsSpec : ChangeSpec := { name := "sagBalls", fn := fun _ => fun
  | [d1, d2, d3, d4] => { results := [.lit (.bool true)], args := [d1, d2, d3, d4] }
  | _ => none }
def sagBallsRow : OpenClaim := { program := "ytbaihncnbejjbaa", sum := "e732a0e052656deae0e0999e08ea5ba4a02d8f092789cbb0d01e79d4489520d3", func := "meniscus/meniscuslaw14.SagBalls", spec := "sagBalls", unfollowed := true, recurses := true, apart := false }
def SagBallsSaid : Prop := sagBallsRow.holds Try.pinned (OpenSpec.ofChange sagBallsSpec)

/-- ITS FALSE NEIGHBOUR: 'it returns false'. Refute it at one input. -/
def sagBallsWrong : ChangeSpec := { name := "sagBalls", fn := fun _ => fun
  | [d1, d2, d3, d4] => { results := [.lit (.bool false)], args := [d1, d2, d3, d4] }
  | _ => none }
def SagBallsWrongFalsely : Prop := sagBallsRow.holds Try.pinned (OpenSpec.ofChange sagBallsWrong)

/-- 'meniscuslaw16.NormalKnown': WHATEVER THE INPUT: true; the input reads as it did. -/
def normalKnownSpec : ChangeSpec := { name := "normalKnown", fn := fun _ => fun
  | [] => { results := [.lit (.bool true)], args := [] }
  | _ => none }
def normalKnownRow : OpenClaim := { program := "ytbaihncnbejjbaa", sum := "e732a0e052656deae0e0999e08ea5ba4a02d8f092789cbb0d01e79d4489520d3", func := "meniscus/meniscuslaw16.NormalKnown", spec := "normalKnown", unfollowed := true, recurses := true, apart := false }
def NormalKnownSaid : Prop := normalKnownRow.holds Try.pinned (OpenSpec.ofChange normalKnownSpec)

/-- ITS FALSE NEIGHBOUR: 'it returns false'. Refute it at one input. -/
def normalKnownWrong : ChangeSpec := { name := "normalKnown", fn := fun _ => fun
  | [] => { results := [.lit (.bool false)], args := [] }
  | _ => none }
def NormalKnownWrongFalsely : Prop := normalKnownRow.holds Try.pinned (OpenSpec.ofChange normalKnownWrong)

/-- 'meniscuslaw16.NormalBalls': WHATEVER THE INPUT: true; the input reads as it did. -/
def normalBallsSpec : ChangeSpec := { name := "normalBalls", fn := fun _ => fun
  | [d1, d2, d3] => { results := [.lit (.bool true)], args := [d1, d2, d3] }
  | _ => none }
def normalBallsRow : OpenClaim := { program := "ytbaihncnbejjbaa", sum := "e732a0e052656deae0e0999e08ea5ba4a02d8f092789cbb0d01e79d4489520d3", func := "meniscus/meniscuslaw16.NormalBalls", spec := "normalBalls", unfollowed := true, recurses := true, apart := false }
def NormalBallsSaid : Prop := normalBallsRow.holds Try.pinned (OpenSpec.ofChange normalBallsSpec)

/-- ITS FALSE NEIGHBOUR: 'it returns false'. Refute it at one input. -/
def normalBallsWrong : ChangeSpec := { name := "normalBalls", fn := fun _ => fun
  | [d1, d2, d3] => { results := [.lit (.bool false)], args := [d1, d2, d3] }
  | _ => none }
def NormalBallsWrongFalsely : Prop := normalBallsRow.holds Try.pinned (OpenSpec.ofChange normalBallsWrong)

/- THE SECOND FORM. 'bulk': how many values and letters a reading holds, each counted each time it is reached (what is shared counts as often as it is met; a slice's spare places count too). A statement '..UptoSaid' is the law's where the arguments, and the package variables that the reading takes, are together of bulk at most 1048576: NARROWER than '..Said'. Prove '..Said' where nothing that the law and all that it calls make is longer than what came in: it says more and counts as full. Else prove '..UptoSaid'. A law counts once. -/
mutual
def uptoBulk {H : Type} : DataW H → Nat
  | .lit (.string bytes) => bytes.length + 1
  | .lit _ => 1
  | .nil => 1
  | .ptr d => uptoBulk d + 1
  | .slice elems spare => uptoBulkAll elems + uptoBulkAll spare + 1
  | .agg parts => uptoBulkAll parts + 1
  | .iface _ d => uptoBulk d + 1
  | .map entries => uptoBulkEntries entries + 1
  | .held _ => 1
def uptoBulkAll {H : Type} : List (DataW H) → Nat
  | [] => 0
  | d :: r => uptoBulk d + uptoBulkAll r
def uptoBulkEntries {H : Type} : List (Lit × DataW H) → Nat
  | [] => 0
  | x :: r => uptoBulkEntry x + uptoBulkEntries r
def uptoBulkEntry {H : Type} : Lit × DataW H → Nat
  | (.string bytes, d) => bytes.length + uptoBulk d + 1
  | (_, d) => uptoBulk d + 1
 end
def uptoSmall : (H : Type) → List (DataW H) → Bool := fun _ ds => decide (uptoBulkAll ds ≤ 1048576)
def OpenSpec.upto (s : _root_.Go.ChangeSpec) : _root_.Go.OpenSpec := { _root_.Go.OpenSpec.ofChange s with cond := some uptoSmall }

/-- 'meniscuslaw1.NumSigns', WHERE WHAT IT READS IS OF BULK AT MOST 1048576: true; the input reads as it did. -/
def numSignsUptoRow : OpenClaim := { program := "ytbaihncnbejjbaa", sum := "e732a0e052656deae0e0999e08ea5ba4a02d8f092789cbb0d01e79d4489520d3", func := "meniscus/meniscuslaw1.NumSigns", spec := "numSigns", apart := false, narrowed := true }
def NumSignsUptoSaid : Prop := numSignsUptoRow.holds Try.pinned (OpenSpec.upto numSignsSpec)

/-- 'meniscuslaw1.NumKnown', WHERE WHAT IT READS IS OF BULK AT MOST 1048576: true; the input reads as it did. -/
def numKnownUptoRow : OpenClaim := { program := "ytbaihncnbejjbaa", sum := "e732a0e052656deae0e0999e08ea5ba4a02d8f092789cbb0d01e79d4489520d3", func := "meniscus/meniscuslaw1.NumKnown", spec := "numKnown", apart := false, narrowed := true }
def NumKnownUptoSaid : Prop := numKnownUptoRow.holds Try.pinned (OpenSpec.upto numKnownSpec)

/-- 'meniscuslaw1.NumTells', WHERE WHAT IT READS IS OF BULK AT MOST 1048576: true; the input reads as it did. -/
def numTellsUptoRow : OpenClaim := { program := "ytbaihncnbejjbaa", sum := "e732a0e052656deae0e0999e08ea5ba4a02d8f092789cbb0d01e79d4489520d3", func := "meniscus/meniscuslaw1.NumTells", spec := "numTells", apart := false, narrowed := true }
def NumTellsUptoSaid : Prop := numTellsUptoRow.holds Try.pinned (OpenSpec.upto numTellsSpec)

/-- 'meniscuslaw1.NumEncloses', WHERE WHAT IT READS IS OF BULK AT MOST 1048576: true; the input reads as it did. -/
def numEnclosesUptoRow : OpenClaim := { program := "ytbaihncnbejjbaa", sum := "e732a0e052656deae0e0999e08ea5ba4a02d8f092789cbb0d01e79d4489520d3", func := "meniscus/meniscuslaw1.NumEncloses", spec := "numEncloses", apart := false, narrowed := true }
def NumEnclosesUptoSaid : Prop := numEnclosesUptoRow.holds Try.pinned (OpenSpec.upto numEnclosesSpec)

/-- 'meniscuslaw4.PolyEncloses', WHERE WHAT IT READS IS OF BULK AT MOST 1048576: true; the input reads as it did. -/
def polyEnclosesUptoRow : OpenClaim := { program := "ytbaihncnbejjbaa", sum := "e732a0e052656deae0e0999e08ea5ba4a02d8f092789cbb0d01e79d4489520d3", func := "meniscus/meniscuslaw4.PolyEncloses", spec := "polyEncloses", unfollowed := true, recurses := true, apart := false, narrowed := true }
def PolyEnclosesUptoSaid : Prop := polyEnclosesUptoRow.holds Try.pinned (OpenSpec.upto polyEnclosesSpec)

/-- 'meniscuslaw2.IvParts', WHERE WHAT IT READS IS OF BULK AT MOST 1048576: true; the input reads as it did. -/
def ivPartsUptoRow : OpenClaim := { program := "ytbaihncnbejjbaa", sum := "e732a0e052656deae0e0999e08ea5ba4a02d8f092789cbb0d01e79d4489520d3", func := "meniscus/meniscuslaw2.IvParts", spec := "ivParts", unfollowed := true, recurses := true, apart := false, narrowed := true }
def IvPartsUptoSaid : Prop := ivPartsUptoRow.holds Try.pinned (OpenSpec.upto ivPartsSpec)

/-- 'meniscuslaw4.PolyKnown', WHERE WHAT IT READS IS OF BULK AT MOST 1048576: true; the input reads as it did. -/
def polyKnownUptoRow : OpenClaim := { program := "ytbaihncnbejjbaa", sum := "e732a0e052656deae0e0999e08ea5ba4a02d8f092789cbb0d01e79d4489520d3", func := "meniscus/meniscuslaw4.PolyKnown", spec := "polyKnown", unfollowed := true, recurses := true, apart := false, narrowed := true }
def PolyKnownUptoSaid : Prop := polyKnownUptoRow.holds Try.pinned (OpenSpec.upto polyKnownSpec)

/-- 'meniscuslaw4.PolySlopes', WHERE WHAT IT READS IS OF BULK AT MOST 1048576: true; the input reads as it did. -/
def polySlopesUptoRow : OpenClaim := { program := "ytbaihncnbejjbaa", sum := "e732a0e052656deae0e0999e08ea5ba4a02d8f092789cbb0d01e79d4489520d3", func := "meniscus/meniscuslaw4.PolySlopes", spec := "polySlopes", unfollowed := true, recurses := true, apart := false, narrowed := true }
def PolySlopesUptoSaid : Prop := polySlopesUptoRow.holds Try.pinned (OpenSpec.upto polySlopesSpec)

/-- 'meniscuslaw2.IvEncloses', WHERE WHAT IT READS IS OF BULK AT MOST 1048576: true; the input reads as it did. -/
def ivEnclosesUptoRow : OpenClaim := { program := "ytbaihncnbejjbaa", sum := "e732a0e052656deae0e0999e08ea5ba4a02d8f092789cbb0d01e79d4489520d3", func := "meniscus/meniscuslaw2.IvEncloses", spec := "ivEncloses", unfollowed := true, recurses := true, apart := false, narrowed := true }
def IvEnclosesUptoSaid : Prop := ivEnclosesUptoRow.holds Try.pinned (OpenSpec.upto ivEnclosesSpec)

/-- 'meniscuslaw2.IvBacks', WHERE WHAT IT READS IS OF BULK AT MOST 1048576: true; the input reads as it did. -/
def ivBacksUptoRow : OpenClaim := { program := "ytbaihncnbejjbaa", sum := "e732a0e052656deae0e0999e08ea5ba4a02d8f092789cbb0d01e79d4489520d3", func := "meniscus/meniscuslaw2.IvBacks", spec := "ivBacks", unfollowed := true, recurses := true, apart := false, narrowed := true }
def IvBacksUptoSaid : Prop := ivBacksUptoRow.holds Try.pinned (OpenSpec.upto ivBacksSpec)

/-- 'meniscuslaw2.IvBounds', WHERE WHAT IT READS IS OF BULK AT MOST 1048576: true; the input reads as it did. -/
def ivBoundsUptoRow : OpenClaim := { program := "ytbaihncnbejjbaa", sum := "e732a0e052656deae0e0999e08ea5ba4a02d8f092789cbb0d01e79d4489520d3", func := "meniscus/meniscuslaw2.IvBounds", spec := "ivBounds", unfollowed := true, recurses := true, apart := false, narrowed := true }
def IvBoundsUptoSaid : Prop := ivBoundsUptoRow.holds Try.pinned (OpenSpec.upto ivBoundsSpec)

/-- 'meniscuslaw2.IvLess', WHERE WHAT IT READS IS OF BULK AT MOST 1048576: true; the input reads as it did. -/
def ivLessUptoRow : OpenClaim := { program := "ytbaihncnbejjbaa", sum := "e732a0e052656deae0e0999e08ea5ba4a02d8f092789cbb0d01e79d4489520d3", func := "meniscus/meniscuslaw2.IvLess", spec := "ivLess", unfollowed := true, recurses := true, apart := false, narrowed := true }
def IvLessUptoSaid : Prop := ivLessUptoRow.holds Try.pinned (OpenSpec.upto ivLessSpec)

/-- 'meniscuslaw5.VecUnits', WHERE WHAT IT READS IS OF BULK AT MOST 1048576: true; the input reads as it did. -/
def vecUnitsUptoRow : OpenClaim := { program := "ytbaihncnbejjbaa", sum := "e732a0e052656deae0e0999e08ea5ba4a02d8f092789cbb0d01e79d4489520d3", func := "meniscus/meniscuslaw5.VecUnits", spec := "vecUnits", unfollowed := true, recurses := true, apart := false, narrowed := true }
def VecUnitsUptoSaid : Prop := vecUnitsUptoRow.holds Try.pinned (OpenSpec.upto vecUnitsSpec)

/-- 'meniscuslaw6.QuadKnown', WHERE WHAT IT READS IS OF BULK AT MOST 1048576: true; the input reads as it did. -/
def quadKnownUptoRow : OpenClaim := { program := "ytbaihncnbejjbaa", sum := "e732a0e052656deae0e0999e08ea5ba4a02d8f092789cbb0d01e79d4489520d3", func := "meniscus/meniscuslaw6.QuadKnown", spec := "quadKnown", unfollowed := true, recurses := true, apart := false, narrowed := true }
def QuadKnownUptoSaid : Prop := quadKnownUptoRow.holds Try.pinned (OpenSpec.upto quadKnownSpec)

/-- 'meniscuslaw6.QuadTells', WHERE WHAT IT READS IS OF BULK AT MOST 1048576: true; the input reads as it did. -/
def quadTellsUptoRow : OpenClaim := { program := "ytbaihncnbejjbaa", sum := "e732a0e052656deae0e0999e08ea5ba4a02d8f092789cbb0d01e79d4489520d3", func := "meniscus/meniscuslaw6.QuadTells", spec := "quadTells", unfollowed := true, recurses := true, apart := false, narrowed := true }
def QuadTellsUptoSaid : Prop := quadTellsUptoRow.holds Try.pinned (OpenSpec.upto quadTellsSpec)

/-- 'meniscuslaw6.QuadRoots', WHERE WHAT IT READS IS OF BULK AT MOST 1048576: true; the input reads as it did. -/
def quadRootsUptoRow : OpenClaim := { program := "ytbaihncnbejjbaa", sum := "e732a0e052656deae0e0999e08ea5ba4a02d8f092789cbb0d01e79d4489520d3", func := "meniscus/meniscuslaw6.QuadRoots", spec := "quadRoots", unfollowed := true, recurses := true, apart := false, narrowed := true }
def QuadRootsUptoSaid : Prop := quadRootsUptoRow.holds Try.pinned (OpenSpec.upto quadRootsSpec)

/-- 'meniscuslaw6.QuadLess', WHERE WHAT IT READS IS OF BULK AT MOST 1048576: true; the input reads as it did. -/
def quadLessUptoRow : OpenClaim := { program := "ytbaihncnbejjbaa", sum := "e732a0e052656deae0e0999e08ea5ba4a02d8f092789cbb0d01e79d4489520d3", func := "meniscus/meniscuslaw6.QuadLess", spec := "quadLess", unfollowed := true, recurses := true, apart := false, narrowed := true }
def QuadLessUptoSaid : Prop := quadLessUptoRow.holds Try.pinned (OpenSpec.upto quadLessSpec)

/-- 'meniscuslaw5.VecLess', WHERE WHAT IT READS IS OF BULK AT MOST 1048576: true; the input reads as it did. -/
def vecLessUptoRow : OpenClaim := { program := "ytbaihncnbejjbaa", sum := "e732a0e052656deae0e0999e08ea5ba4a02d8f092789cbb0d01e79d4489520d3", func := "meniscus/meniscuslaw5.VecLess", spec := "vecLess", unfollowed := true, recurses := true, apart := false, narrowed := true }
def VecLessUptoSaid : Prop := vecLessUptoRow.holds Try.pinned (OpenSpec.upto vecLessSpec)

/-- 'meniscuslaw5.VecAlong', WHERE WHAT IT READS IS OF BULK AT MOST 1048576: true; the input reads as it did. -/
def vecAlongUptoRow : OpenClaim := { program := "ytbaihncnbejjbaa", sum := "e732a0e052656deae0e0999e08ea5ba4a02d8f092789cbb0d01e79d4489520d3", func := "meniscus/meniscuslaw5.VecAlong", spec := "vecAlong", unfollowed := true, recurses := true, apart := false, narrowed := true }
def VecAlongUptoSaid : Prop := vecAlongUptoRow.holds Try.pinned (OpenSpec.upto vecAlongSpec)

/-- 'meniscuslaw6.QuadIsNothing', WHERE WHAT IT READS IS OF BULK AT MOST 1048576: true; the input reads as it did. -/
def quadIsNothingUptoRow : OpenClaim := { program := "ytbaihncnbejjbaa", sum := "e732a0e052656deae0e0999e08ea5ba4a02d8f092789cbb0d01e79d4489520d3", func := "meniscus/meniscuslaw6.QuadIsNothing", spec := "quadIsNothing", unfollowed := true, recurses := true, apart := false, narrowed := true }
def QuadIsNothingUptoSaid : Prop := quadIsNothingUptoRow.holds Try.pinned (OpenSpec.upto quadIsNothingSpec)

/-- 'meniscuslaw17.SnellKnown', WHERE WHAT IT READS IS OF BULK AT MOST 1048576: true; the input reads as it did. -/
def snellKnownUptoRow : OpenClaim := { program := "ytbaihncnbejjbaa", sum := "e732a0e052656deae0e0999e08ea5ba4a02d8f092789cbb0d01e79d4489520d3", func := "meniscus/meniscuslaw17.SnellKnown", spec := "snellKnown", unfollowed := true, recurses := true, apart := false, narrowed := true }
def SnellKnownUptoSaid : Prop := snellKnownUptoRow.holds Try.pinned (OpenSpec.upto snellKnownSpec)

/-- 'meniscuslaw2.IvKnown', WHERE WHAT IT READS IS OF BULK AT MOST 1048576: true; the input reads as it did. -/
def ivKnownUptoRow : OpenClaim := { program := "ytbaihncnbejjbaa", sum := "e732a0e052656deae0e0999e08ea5ba4a02d8f092789cbb0d01e79d4489520d3", func := "meniscus/meniscuslaw2.IvKnown", spec := "ivKnown", unfollowed := true, recurses := true, apart := false, narrowed := true }
def IvKnownUptoSaid : Prop := ivKnownUptoRow.holds Try.pinned (OpenSpec.upto ivKnownSpec)

/-- 'meniscuslaw2.IvTells', WHERE WHAT IT READS IS OF BULK AT MOST 1048576: true; the input reads as it did. -/
def ivTellsUptoRow : OpenClaim := { program := "ytbaihncnbejjbaa", sum := "e732a0e052656deae0e0999e08ea5ba4a02d8f092789cbb0d01e79d4489520d3", func := "meniscus/meniscuslaw2.IvTells", spec := "ivTells", unfollowed := true, recurses := true, apart := false, narrowed := true }
def IvTellsUptoSaid : Prop := ivTellsUptoRow.holds Try.pinned (OpenSpec.upto ivTellsSpec)

/-- 'meniscuslaw17.SnellTells', WHERE WHAT IT READS IS OF BULK AT MOST 1048576: true; the input reads as it did. -/
def snellTellsUptoRow : OpenClaim := { program := "ytbaihncnbejjbaa", sum := "e732a0e052656deae0e0999e08ea5ba4a02d8f092789cbb0d01e79d4489520d3", func := "meniscus/meniscuslaw17.SnellTells", spec := "snellTells", unfollowed := true, recurses := true, apart := false, narrowed := true }
def SnellTellsUptoSaid : Prop := snellTellsUptoRow.holds Try.pinned (OpenSpec.upto snellTellsSpec)

/-- 'meniscuslaw5.VecKnown', WHERE WHAT IT READS IS OF BULK AT MOST 1048576: true; the input reads as it did. -/
def vecKnownUptoRow : OpenClaim := { program := "ytbaihncnbejjbaa", sum := "e732a0e052656deae0e0999e08ea5ba4a02d8f092789cbb0d01e79d4489520d3", func := "meniscus/meniscuslaw5.VecKnown", spec := "vecKnown", unfollowed := true, recurses := true, apart := false, narrowed := true }
def VecKnownUptoSaid : Prop := vecKnownUptoRow.holds Try.pinned (OpenSpec.upto vecKnownSpec)

/-- 'meniscuslaw5.VecTells', WHERE WHAT IT READS IS OF BULK AT MOST 1048576: true; the input reads as it did. -/
def vecTellsUptoRow : OpenClaim := { program := "ytbaihncnbejjbaa", sum := "e732a0e052656deae0e0999e08ea5ba4a02d8f092789cbb0d01e79d4489520d3", func := "meniscus/meniscuslaw5.VecTells", spec := "vecTells", unfollowed := true, recurses := true, apart := false, narrowed := true }
def VecTellsUptoSaid : Prop := vecTellsUptoRow.holds Try.pinned (OpenSpec.upto vecTellsSpec)

/-- 'meniscuslaw17.SnellKeeps', WHERE WHAT IT READS IS OF BULK AT MOST 1048576: true; the input reads as it did. -/
def snellKeepsUptoRow : OpenClaim := { program := "ytbaihncnbejjbaa", sum := "e732a0e052656deae0e0999e08ea5ba4a02d8f092789cbb0d01e79d4489520d3", func := "meniscus/meniscuslaw17.SnellKeeps", spec := "snellKeeps", unfollowed := true, recurses := true, apart := false, narrowed := true }
def SnellKeepsUptoSaid : Prop := snellKeepsUptoRow.holds Try.pinned (OpenSpec.upto snellKeepsSpec)

/-- 'meniscuslaw17.SnellBacks', WHERE WHAT IT READS IS OF BULK AT MOST 1048576: true; the input reads as it did. -/
def snellBacksUptoRow : OpenClaim := { program := "ytbaihncnbejjbaa", sum := "e732a0e052656deae0e0999e08ea5ba4a02d8f092789cbb0d01e79d4489520d3", func := "meniscus/meniscuslaw17.SnellBacks", spec := "snellBacks", unfollowed := true, recurses := true, apart := false, narrowed := true }
def SnellBacksUptoSaid : Prop := snellBacksUptoRow.holds Try.pinned (OpenSpec.upto snellBacksSpec)

/-- 'meniscuslaw17.SnellLess', WHERE WHAT IT READS IS OF BULK AT MOST 1048576: true; the input reads as it did. -/
def snellLessUptoRow : OpenClaim := { program := "ytbaihncnbejjbaa", sum := "e732a0e052656deae0e0999e08ea5ba4a02d8f092789cbb0d01e79d4489520d3", func := "meniscus/meniscuslaw17.SnellLess", spec := "snellLess", unfollowed := true, recurses := true, apart := false, narrowed := true }
def SnellLessUptoSaid : Prop := snellLessUptoRow.holds Try.pinned (OpenSpec.upto snellLessSpec)

/-- 'meniscuslaw14.SagKnown', WHERE WHAT IT READS IS OF BULK AT MOST 1048576: true; the input reads as it did. -/
def sagKnownUptoRow : OpenClaim := { program := "ytbaihncnbejjbaa", sum := "e732a0e052656deae0e0999e08ea5ba4a02d8f092789cbb0d01e79d4489520d3", func := "meniscus/meniscuslaw14.SagKnown", spec := "sagKnown", unfollowed := true, recurses := true, apart := false, narrowed := true }
def SagKnownUptoSaid : Prop := sagKnownUptoRow.holds Try.pinned (OpenSpec.upto sagKnownSpec)

/-- 'meniscuslaw14.SagBalls', WHERE WHAT IT READS IS OF BULK AT MOST 1048576: true; the input reads as it did. -/
def sagBallsUptoRow : OpenClaim := { program := "ytbaihncnbejjbaa", sum := "e732a0e052656deae0e0999e08ea5ba4a02d8f092789cbb0d01e79d4489520d3", func := "meniscus/meniscuslaw14.SagBalls", spec := "sagBalls", unfollowed := true, recurses := true, apart := false, narrowed := true }
def SagBallsUptoSaid : Prop := sagBallsUptoRow.holds Try.pinned (OpenSpec.upto sagBallsSpec)

/-- 'meniscuslaw16.NormalKnown', WHERE WHAT IT READS IS OF BULK AT MOST 1048576: true; the input reads as it did. -/
def normalKnownUptoRow : OpenClaim := { program := "ytbaihncnbejjbaa", sum := "e732a0e052656deae0e0999e08ea5ba4a02d8f092789cbb0d01e79d4489520d3", func := "meniscus/meniscuslaw16.NormalKnown", spec := "normalKnown", unfollowed := true, recurses := true, apart := false, narrowed := true }
def NormalKnownUptoSaid : Prop := normalKnownUptoRow.holds Try.pinned (OpenSpec.upto normalKnownSpec)

/-- 'meniscuslaw16.NormalBalls', WHERE WHAT IT READS IS OF BULK AT MOST 1048576: true; the input reads as it did. -/
def normalBallsUptoRow : OpenClaim := { program := "ytbaihncnbejjbaa", sum := "e732a0e052656deae0e0999e08ea5ba4a02d8f092789cbb0d01e79d4489520d3", func := "meniscus/meniscuslaw16.NormalBalls", spec := "normalBalls", unfollowed := true, recurses := true, apart := false, narrowed := true }
def NormalBallsUptoSaid : Prop := normalBallsUptoRow.holds Try.pinned (OpenSpec.upto normalBallsSpec)

end Rows
end Go.Proofs.Ytbaihncnbejjbaa
