/-
  No cell of these rows narrows 'for every input' (looked for: loops, veiled, ifaces, maps, wideKeys, modest, calm, conditions, laid).
  DERIVED. THE GIVEN ROWS OF THIS SEAT. 16 by the template 'for every input the law returns true; each argument reads behind the call as it read before'; 0 by the template 'total and deterministic' (their statements: YthngkopcadlciaaTotals.lean).
  GIVEN WITH THE SEED: the statements are not yours to turn. If you find one false, say at which input.
  Laid BY PROGRAM, IN A SANDBOX (cutbox-rows.mjs): the forced cells as the released guide's own fill.sh prints them over the translation 25a003bf1cfe4cd1… (all of the seat's roots in one cut). By AI agents, Wed Nov 11 2026. No macro, syntax, notation, axiom, sorry.
-/
import Derived.Test.YthngkopcadlciaaChecked
import GoSem.Claim
import GoSem.ClaimJoined
import GoSem.ClaimMapViews
import Derived.JoinedTies
import Derived.KernelRfl
namespace Go.Proofs.Ythngkopcadlciaa
/- THE CELL 'sum', in the pinned program and in every row, IS THE sha256 OF THE DUMP (.gsa) THAT YthngkopcadlciaaProg.lean LOADS. Nothing in Lean hashes anything: it is a label: what it is worth is what the hold of that sum in a sandbox is worth. -/
noncomputable def Try.pinned : Pinned := { name := "ythngkopcadlciaa", sum := "25a003bf1cfe4cd1329974f6fb4e46c7354817c5d8092418eb01c30b9230ae9c", checked := Try.checked }
namespace Rows
def none {H : Type} : Left H := { results := [], args := [] }

/-- 'meniscuslaw4.PolyEncloses': WHATEVER THE INPUT: true; the input reads as it did. -/
def polyEnclosesSpec : ChangeSpec := { name := "polyEncloses", fn := fun _ => fun
  | [d1, d2, d3, d4] => { results := [.lit (.bool true)], args := [d1, d2, d3, d4] }
  | _ => none }
def polyEnclosesRow : OpenClaim := { program := "ythngkopcadlciaa", sum := "25a003bf1cfe4cd1329974f6fb4e46c7354817c5d8092418eb01c30b9230ae9c", func := "meniscus/meniscuslaw4.PolyEncloses", spec := "polyEncloses", unfollowed := true, recurses := true, apart := false }
def PolyEnclosesSaid : Prop := polyEnclosesRow.holds Try.pinned (OpenSpec.ofChange polyEnclosesSpec)

/-- ITS FALSE NEIGHBOUR: 'it returns false'. Refute it at one input. -/
def polyEnclosesWrong : ChangeSpec := { name := "polyEncloses", fn := fun _ => fun
  | [d1, d2, d3, d4] => { results := [.lit (.bool false)], args := [d1, d2, d3, d4] }
  | _ => none }
def PolyEnclosesWrongFalsely : Prop := polyEnclosesRow.holds Try.pinned (OpenSpec.ofChange polyEnclosesWrong)

/-- 'meniscuslaw4.PolyKnown': WHATEVER THE INPUT: true; the input reads as it did. -/
def polyKnownSpec : ChangeSpec := { name := "polyKnown", fn := fun _ => fun
  | [] => { results := [.lit (.bool true)], args := [] }
  | _ => none }
def polyKnownRow : OpenClaim := { program := "ythngkopcadlciaa", sum := "25a003bf1cfe4cd1329974f6fb4e46c7354817c5d8092418eb01c30b9230ae9c", func := "meniscus/meniscuslaw4.PolyKnown", spec := "polyKnown", unfollowed := true, recurses := true, apart := false }
def PolyKnownSaid : Prop := polyKnownRow.holds Try.pinned (OpenSpec.ofChange polyKnownSpec)

/-- ITS FALSE NEIGHBOUR: 'it returns false'. Refute it at one input. -/
def polyKnownWrong : ChangeSpec := { name := "polyKnown", fn := fun _ => fun
  | [] => { results := [.lit (.bool false)], args := [] }
  | _ => none }
def PolyKnownWrongFalsely : Prop := polyKnownRow.holds Try.pinned (OpenSpec.ofChange polyKnownWrong)

/-- 'meniscuslaw4.PolySlopes': WHATEVER THE INPUT: true; the input reads as it did. -/
def polySlopesSpec : ChangeSpec := { name := "polySlopes", fn := fun _ => fun
  | [d1, d2, d3, d4] => { results := [.lit (.bool true)], args := [d1, d2, d3, d4] }
  | _ => none }
def polySlopesRow : OpenClaim := { program := "ythngkopcadlciaa", sum := "25a003bf1cfe4cd1329974f6fb4e46c7354817c5d8092418eb01c30b9230ae9c", func := "meniscus/meniscuslaw4.PolySlopes", spec := "polySlopes", unfollowed := true, recurses := true, apart := false }
def PolySlopesSaid : Prop := polySlopesRow.holds Try.pinned (OpenSpec.ofChange polySlopesSpec)

/-- ITS FALSE NEIGHBOUR: 'it returns false'. Refute it at one input. -/
def polySlopesWrong : ChangeSpec := { name := "polySlopes", fn := fun _ => fun
  | [d1, d2, d3, d4] => { results := [.lit (.bool false)], args := [d1, d2, d3, d4] }
  | _ => none }
def PolySlopesWrongFalsely : Prop := polySlopesRow.holds Try.pinned (OpenSpec.ofChange polySlopesWrong)

/-- 'meniscuslaw14.SagKnown': WHATEVER THE INPUT: true; the input reads as it did. -/
def sagKnownSpec : ChangeSpec := { name := "sagKnown", fn := fun _ => fun
  | [] => { results := [.lit (.bool true)], args := [] }
  | _ => none }
def sagKnownRow : OpenClaim := { program := "ythngkopcadlciaa", sum := "25a003bf1cfe4cd1329974f6fb4e46c7354817c5d8092418eb01c30b9230ae9c", func := "meniscus/meniscuslaw14.SagKnown", spec := "sagKnown", unfollowed := true, recurses := true, apart := false }
def SagKnownSaid : Prop := sagKnownRow.holds Try.pinned (OpenSpec.ofChange sagKnownSpec)

/-- ITS FALSE NEIGHBOUR: 'it returns false'. Refute it at one input. -/
def sagKnownWrong : ChangeSpec := { name := "sagKnown", fn := fun _ => fun
  | [] => { results := [.lit (.bool false)], args := [] }
  | _ => none }
def SagKnownWrongFalsely : Prop := sagKnownRow.holds Try.pinned (OpenSpec.ofChange sagKnownWrong)

/-- 'meniscuslaw14.SagTells': WHATEVER THE INPUT: true; the input reads as it did. -/
def sagTellsSpec : ChangeSpec := { name := "sagTells", fn := fun _ => fun
  | [d1, d2, d3, d4, d5, d6, d7] => { results := [.lit (.bool true)], args := [d1, d2, d3, d4, d5, d6, d7] }
  | _ => none }
def sagTellsRow : OpenClaim := { program := "ythngkopcadlciaa", sum := "25a003bf1cfe4cd1329974f6fb4e46c7354817c5d8092418eb01c30b9230ae9c", func := "meniscus/meniscuslaw14.SagTells", spec := "sagTells", unfollowed := true, recurses := true, apart := false }
def SagTellsSaid : Prop := sagTellsRow.holds Try.pinned (OpenSpec.ofChange sagTellsSpec)

/-- ITS FALSE NEIGHBOUR: 'it returns false'. Refute it at one input. -/
def sagTellsWrong : ChangeSpec := { name := "sagTells", fn := fun _ => fun
  | [d1, d2, d3, d4, d5, d6, d7] => { results := [.lit (.bool false)], args := [d1, d2, d3, d4, d5, d6, d7] }
  | _ => none }
def SagTellsWrongFalsely : Prop := sagTellsRow.holds Try.pinned (OpenSpec.ofChange sagTellsWrong)

/-- 'meniscuslaw14.SagBalls': WHATEVER THE INPUT: true; the input reads as it did. -/
def sagBallsSpec : ChangeSpec := { name := "sagBalls", fn := fun _ => fun
  | [d1, d2, d3, d4] => { results := [.lit (.bool true)], args := [d1, d2, d3, d4] }
  | _ => none }
def sagBallsRow : OpenClaim := { program := "ythngkopcadlciaa", sum := "25a003bf1cfe4cd1329974f6fb4e46c7354817c5d8092418eb01c30b9230ae9c", func := "meniscus/meniscuslaw14.SagBalls", spec := "sagBalls", unfollowed := true, recurses := true, apart := false }
def SagBallsSaid : Prop := sagBallsRow.holds Try.pinned (OpenSpec.ofChange sagBallsSpec)

/-- ITS FALSE NEIGHBOUR: 'it returns false'. Refute it at one input. -/
def sagBallsWrong : ChangeSpec := { name := "sagBalls", fn := fun _ => fun
  | [d1, d2, d3, d4] => { results := [.lit (.bool false)], args := [d1, d2, d3, d4] }
  | _ => none }
def SagBallsWrongFalsely : Prop := sagBallsRow.holds Try.pinned (OpenSpec.ofChange sagBallsWrong)

/-- 'meniscuslaw14.SagMirrors': WHATEVER THE INPUT: true; the input reads as it did. -/
def sagMirrorsSpec : ChangeSpec := { name := "sagMirrors", fn := fun _ => fun
  | [d1, d2, d3, d4] => { results := [.lit (.bool true)], args := [d1, d2, d3, d4] }
  | _ => none }
def sagMirrorsRow : OpenClaim := { program := "ythngkopcadlciaa", sum := "25a003bf1cfe4cd1329974f6fb4e46c7354817c5d8092418eb01c30b9230ae9c", func := "meniscus/meniscuslaw14.SagMirrors", spec := "sagMirrors", unfollowed := true, recurses := true, apart := false }
def SagMirrorsSaid : Prop := sagMirrorsRow.holds Try.pinned (OpenSpec.ofChange sagMirrorsSpec)

/-- ITS FALSE NEIGHBOUR: 'it returns false'. Refute it at one input. -/
def sagMirrorsWrong : ChangeSpec := { name := "sagMirrors", fn := fun _ => fun
  | [d1, d2, d3, d4] => { results := [.lit (.bool false)], args := [d1, d2, d3, d4] }
  | _ => none }
def SagMirrorsWrongFalsely : Prop := sagMirrorsRow.holds Try.pinned (OpenSpec.ofChange sagMirrorsWrong)

/-- 'meniscuslaw14.SagLess': WHATEVER THE INPUT: true; the input reads as it did. -/
def sagLessSpec : ChangeSpec := { name := "sagLess", fn := fun _ => fun
  | [d1, d2, d3, d4, d5, d6] => { results := [.lit (.bool true)], args := [d1, d2, d3, d4, d5, d6] }
  | _ => none }
def sagLessRow : OpenClaim := { program := "ythngkopcadlciaa", sum := "25a003bf1cfe4cd1329974f6fb4e46c7354817c5d8092418eb01c30b9230ae9c", func := "meniscus/meniscuslaw14.SagLess", spec := "sagLess", unfollowed := true, recurses := true, apart := false }
def SagLessSaid : Prop := sagLessRow.holds Try.pinned (OpenSpec.ofChange sagLessSpec)

/-- ITS FALSE NEIGHBOUR: 'it returns false'. Refute it at one input. -/
def sagLessWrong : ChangeSpec := { name := "sagLess", fn := fun _ => fun
  | [d1, d2, d3, d4, d5, d6] => { results := [.lit (.bool false)], args := [d1, d2, d3, d4, d5, d6] }
  | _ => none }
def SagLessWrongFalsely : Prop := sagLessRow.holds Try.pinned (OpenSpec.ofChange sagLessWrong)

/-- 'meniscuslaw16.NormalKnown': WHATEVER THE INPUT: true; the input reads as it did. -/
def normalKnownSpec : ChangeSpec := { name := "normalKnown", fn := fun _ => fun
  | [] => { results := [.lit (.bool true)], args := [] }
  | _ => none }
def normalKnownRow : OpenClaim := { program := "ythngkopcadlciaa", sum := "25a003bf1cfe4cd1329974f6fb4e46c7354817c5d8092418eb01c30b9230ae9c", func := "meniscus/meniscuslaw16.NormalKnown", spec := "normalKnown", unfollowed := true, recurses := true, apart := false }
def NormalKnownSaid : Prop := normalKnownRow.holds Try.pinned (OpenSpec.ofChange normalKnownSpec)

/-- ITS FALSE NEIGHBOUR: 'it returns false'. Refute it at one input. -/
def normalKnownWrong : ChangeSpec := { name := "normalKnown", fn := fun _ => fun
  | [] => { results := [.lit (.bool false)], args := [] }
  | _ => none }
def NormalKnownWrongFalsely : Prop := normalKnownRow.holds Try.pinned (OpenSpec.ofChange normalKnownWrong)

/-- 'meniscuslaw16.NormalTells': WHATEVER THE INPUT: true; the input reads as it did. -/
def normalTellsSpec : ChangeSpec := { name := "normalTells", fn := fun _ => fun
  | [d1, d2, d3, d4, d5, d6, d7, d8] => { results := [.lit (.bool true)], args := [d1, d2, d3, d4, d5, d6, d7, d8] }
  | _ => none }
def normalTellsRow : OpenClaim := { program := "ythngkopcadlciaa", sum := "25a003bf1cfe4cd1329974f6fb4e46c7354817c5d8092418eb01c30b9230ae9c", func := "meniscus/meniscuslaw16.NormalTells", spec := "normalTells", unfollowed := true, recurses := true, apart := false }
def NormalTellsSaid : Prop := normalTellsRow.holds Try.pinned (OpenSpec.ofChange normalTellsSpec)

/-- ITS FALSE NEIGHBOUR: 'it returns false'. Refute it at one input. -/
def normalTellsWrong : ChangeSpec := { name := "normalTells", fn := fun _ => fun
  | [d1, d2, d3, d4, d5, d6, d7, d8] => { results := [.lit (.bool false)], args := [d1, d2, d3, d4, d5, d6, d7, d8] }
  | _ => none }
def NormalTellsWrongFalsely : Prop := normalTellsRow.holds Try.pinned (OpenSpec.ofChange normalTellsWrong)

/-- 'meniscuslaw16.NormalBalls': WHATEVER THE INPUT: true; the input reads as it did. -/
def normalBallsSpec : ChangeSpec := { name := "normalBalls", fn := fun _ => fun
  | [d1, d2, d3] => { results := [.lit (.bool true)], args := [d1, d2, d3] }
  | _ => none }
def normalBallsRow : OpenClaim := { program := "ythngkopcadlciaa", sum := "25a003bf1cfe4cd1329974f6fb4e46c7354817c5d8092418eb01c30b9230ae9c", func := "meniscus/meniscuslaw16.NormalBalls", spec := "normalBalls", unfollowed := true, recurses := true, apart := false }
def NormalBallsSaid : Prop := normalBallsRow.holds Try.pinned (OpenSpec.ofChange normalBallsSpec)

/-- ITS FALSE NEIGHBOUR: 'it returns false'. Refute it at one input. -/
def normalBallsWrong : ChangeSpec := { name := "normalBalls", fn := fun _ => fun
  | [d1, d2, d3] => { results := [.lit (.bool false)], args := [d1, d2, d3] }
  | _ => none }
def NormalBallsWrongFalsely : Prop := normalBallsRow.holds Try.pinned (OpenSpec.ofChange normalBallsWrong)

/-- 'meniscuslaw16.NormalLess': WHATEVER THE INPUT: true; the input reads as it did. -/
def normalLessSpec : ChangeSpec := { name := "normalLess", fn := fun _ => fun
  | [d1, d2, d3, d4, d5, d6, d7, d8, d9] => { results := [.lit (.bool true)], args := [d1, d2, d3, d4, d5, d6, d7, d8, d9] }
  | _ => none }
def normalLessRow : OpenClaim := { program := "ythngkopcadlciaa", sum := "25a003bf1cfe4cd1329974f6fb4e46c7354817c5d8092418eb01c30b9230ae9c", func := "meniscus/meniscuslaw16.NormalLess", spec := "normalLess", unfollowed := true, recurses := true, apart := false }
def NormalLessSaid : Prop := normalLessRow.holds Try.pinned (OpenSpec.ofChange normalLessSpec)

/-- ITS FALSE NEIGHBOUR: 'it returns false'. Refute it at one input. -/
def normalLessWrong : ChangeSpec := { name := "normalLess", fn := fun _ => fun
  | [d1, d2, d3, d4, d5, d6, d7, d8, d9] => { results := [.lit (.bool false)], args := [d1, d2, d3, d4, d5, d6, d7, d8, d9] }
  | _ => none }
def NormalLessWrongFalsely : Prop := normalLessRow.holds Try.pinned (OpenSpec.ofChange normalLessWrong)

/-- 'meniscuslaw26.SceneFirst': WHATEVER THE INPUT: true; the input reads as it did. -/
def sceneFirstSpec : ChangeSpec := { name := "sceneFirst", fn := fun _ => fun
  | [d1, d2, d3] => { results := [.lit (.bool true)], args := [d1, d2, d3] }
  | _ => none }
def sceneFirstRow : OpenClaim := { program := "ythngkopcadlciaa", sum := "25a003bf1cfe4cd1329974f6fb4e46c7354817c5d8092418eb01c30b9230ae9c", func := "meniscus/meniscuslaw26.SceneFirst", spec := "sceneFirst", unfollowed := true, recurses := true, apart := false }
def SceneFirstSaid : Prop := sceneFirstRow.holds Try.pinned (OpenSpec.ofChange sceneFirstSpec)

/-- ITS FALSE NEIGHBOUR: 'it returns false'. Refute it at one input. -/
def sceneFirstWrong : ChangeSpec := { name := "sceneFirst", fn := fun _ => fun
  | [d1, d2, d3] => { results := [.lit (.bool false)], args := [d1, d2, d3] }
  | _ => none }
def SceneFirstWrongFalsely : Prop := sceneFirstRow.holds Try.pinned (OpenSpec.ofChange sceneFirstWrong)

/-- 'meniscuslaw26.SceneBalls': WHATEVER THE INPUT: true; the input reads as it did. -/
def sceneBallsSpec : ChangeSpec := { name := "sceneBalls", fn := fun _ => fun
  | [d1, d2, d3, d4] => { results := [.lit (.bool true)], args := [d1, d2, d3, d4] }
  | _ => none }
def sceneBallsRow : OpenClaim := { program := "ythngkopcadlciaa", sum := "25a003bf1cfe4cd1329974f6fb4e46c7354817c5d8092418eb01c30b9230ae9c", func := "meniscus/meniscuslaw26.SceneBalls", spec := "sceneBalls", unfollowed := true, recurses := true, apart := false }
def SceneBallsSaid : Prop := sceneBallsRow.holds Try.pinned (OpenSpec.ofChange sceneBallsSpec)

/-- ITS FALSE NEIGHBOUR: 'it returns false'. Refute it at one input. -/
def sceneBallsWrong : ChangeSpec := { name := "sceneBalls", fn := fun _ => fun
  | [d1, d2, d3, d4] => { results := [.lit (.bool false)], args := [d1, d2, d3, d4] }
  | _ => none }
def SceneBallsWrongFalsely : Prop := sceneBallsRow.holds Try.pinned (OpenSpec.ofChange sceneBallsWrong)

/-- 'meniscuslaw26.SceneLess': WHATEVER THE INPUT: true; the input reads as it did. -/
def sceneLessSpec : ChangeSpec := { name := "sceneLess", fn := fun _ => fun
  | [d1, d2, d3, d4] => { results := [.lit (.bool true)], args := [d1, d2, d3, d4] }
  | _ => none }
def sceneLessRow : OpenClaim := { program := "ythngkopcadlciaa", sum := "25a003bf1cfe4cd1329974f6fb4e46c7354817c5d8092418eb01c30b9230ae9c", func := "meniscus/meniscuslaw26.SceneLess", spec := "sceneLess", unfollowed := true, recurses := true, apart := false }
def SceneLessSaid : Prop := sceneLessRow.holds Try.pinned (OpenSpec.ofChange sceneLessSpec)

/-- ITS FALSE NEIGHBOUR: 'it returns false'. Refute it at one input. -/
def sceneLessWrong : ChangeSpec := { name := "sceneLess", fn := fun _ => fun
  | [d1, d2, d3, d4] => { results := [.lit (.bool false)], args := [d1, d2, d3, d4] }
  | _ => none }
def SceneLessWrongFalsely : Prop := sceneLessRow.holds Try.pinned (OpenSpec.ofChange sceneLessWrong)

/-- 'meniscuslaw26.SceneTurns': WHATEVER THE INPUT: true; the input reads as it did. -/
def sceneTurnsSpec : ChangeSpec := { name := "sceneTurns", fn := fun _ => fun
  | [d1, d2, d3, d4, d5] => { results := [.lit (.bool true)], args := [d1, d2, d3, d4, d5] }
  | _ => none }
def sceneTurnsRow : OpenClaim := { program := "ythngkopcadlciaa", sum := "25a003bf1cfe4cd1329974f6fb4e46c7354817c5d8092418eb01c30b9230ae9c", func := "meniscus/meniscuslaw26.SceneTurns", spec := "sceneTurns", unfollowed := true, recurses := true, apart := false }
def SceneTurnsSaid : Prop := sceneTurnsRow.holds Try.pinned (OpenSpec.ofChange sceneTurnsSpec)

/-- ITS FALSE NEIGHBOUR: 'it returns false'. Refute it at one input. -/
def sceneTurnsWrong : ChangeSpec := { name := "sceneTurns", fn := fun _ => fun
  | [d1, d2, d3, d4, d5] => { results := [.lit (.bool false)], args := [d1, d2, d3, d4, d5] }
  | _ => none }
def SceneTurnsWrongFalsely : Prop := sceneTurnsRow.holds Try.pinned (OpenSpec.ofChange sceneTurnsWrong)

/- THE SECOND FORM. 'bulk': how many values and letters a reading holds, each counted each time it is reached (what is shared counts as often as it is met; a slice's spare places count too). A statement '..UptoSaid' is the law's where the arguments, and the package variables that the reading takes, are together of bulk at most 1048576: NARROWER than '..Said'. Prove '..Said' where nothing that the law and all that it calls make is longer than what came in: it says more and counts as full. Else prove '..UptoSaid'. A law counts once. -/
mutual
def uptoBulk {H : Type} : DataW H → Nat
  | .lit (.string bytes) => bytes.length + 1
  | .lit _ => 1
  | .nil => 1
  | .ptr d => uptoBulk d + 1
  | .slice elems spare => uptoBulkAll elems + uptoBulkAll spare + 1
  | .agg parts => uptoBulkAll parts + 1
  | .iface _ d => uptoBulk d + 1
  | .map entries => uptoBulkEntries entries + 1
  | .held _ => 1
def uptoBulkAll {H : Type} : List (DataW H) → Nat
  | [] => 0
  | d :: r => uptoBulk d + uptoBulkAll r
def uptoBulkEntries {H : Type} : List (Lit × DataW H) → Nat
  | [] => 0
  | x :: r => uptoBulkEntry x + uptoBulkEntries r
def uptoBulkEntry {H : Type} : Lit × DataW H → Nat
  | (.string bytes, d) => bytes.length + uptoBulk d + 1
  | (_, d) => uptoBulk d + 1
 end
def uptoSmall : (H : Type) → List (DataW H) → Bool := fun _ ds => decide (uptoBulkAll ds ≤ 1048576)
def OpenSpec.upto (s : _root_.Go.ChangeSpec) : _root_.Go.OpenSpec := { _root_.Go.OpenSpec.ofChange s with cond := some uptoSmall }

/-- 'meniscuslaw4.PolyEncloses', WHERE WHAT IT READS IS OF BULK AT MOST 1048576: true; the input reads as it did. -/
def polyEnclosesUptoRow : OpenClaim := { program := "ythngkopcadlciaa", sum := "25a003bf1cfe4cd1329974f6fb4e46c7354817c5d8092418eb01c30b9230ae9c", func := "meniscus/meniscuslaw4.PolyEncloses", spec := "polyEncloses", unfollowed := true, recurses := true, apart := false, narrowed := true }
def PolyEnclosesUptoSaid : Prop := polyEnclosesUptoRow.holds Try.pinned (OpenSpec.upto polyEnclosesSpec)

/-- 'meniscuslaw4.PolyKnown', WHERE WHAT IT READS IS OF BULK AT MOST 1048576: true; the input reads as it did. -/
def polyKnownUptoRow : OpenClaim := { program := "ythngkopcadlciaa", sum := "25a003bf1cfe4cd1329974f6fb4e46c7354817c5d8092418eb01c30b9230ae9c", func := "meniscus/meniscuslaw4.PolyKnown", spec := "polyKnown", unfollowed := true, recurses := true, apart := false, narrowed := true }
def PolyKnownUptoSaid : Prop := polyKnownUptoRow.holds Try.pinned (OpenSpec.upto polyKnownSpec)

/-- 'meniscuslaw4.PolySlopes', WHERE WHAT IT READS IS OF BULK AT MOST 1048576: true; the input reads as it did. -/
def polySlopesUptoRow : OpenClaim := { program := "ythngkopcadlciaa", sum := "25a003bf1cfe4cd1329974f6fb4e46c7354817c5d8092418eb01c30b9230ae9c", func := "meniscus/meniscuslaw4.PolySlopes", spec := "polySlopes", unfollowed := true, recurses := true, apart := false, narrowed := true }
def PolySlopesUptoSaid : Prop := polySlopesUptoRow.holds Try.pinned (OpenSpec.upto polySlopesSpec)

/-- 'meniscuslaw14.SagKnown', WHERE WHAT IT READS IS OF BULK AT MOST 1048576: true; the input reads as it did. -/
def sagKnownUptoRow : OpenClaim := { program := "ythngkopcadlciaa", sum := "25a003bf1cfe4cd1329974f6fb4e46c7354817c5d8092418eb01c30b9230ae9c", func := "meniscus/meniscuslaw14.SagKnown", spec := "sagKnown", unfollowed := true, recurses := true, apart := false, narrowed := true }
def SagKnownUptoSaid : Prop := sagKnownUptoRow.holds Try.pinned (OpenSpec.upto sagKnownSpec)

/-- 'meniscuslaw14.SagTells', WHERE WHAT IT READS IS OF BULK AT MOST 1048576: true; the input reads as it did. -/
def sagTellsUptoRow : OpenClaim := { program := "ythngkopcadlciaa", sum := "25a003bf1cfe4cd1329974f6fb4e46c7354817c5d8092418eb01c30b9230ae9c", func := "meniscus/meniscuslaw14.SagTells", spec := "sagTells", unfollowed := true, recurses := true, apart := false, narrowed := true }
def SagTellsUptoSaid : Prop := sagTellsUptoRow.holds Try.pinned (OpenSpec.upto sagTellsSpec)

/-- 'meniscuslaw14.SagBalls', WHERE WHAT IT READS IS OF BULK AT MOST 1048576: true; the input reads as it did. -/
def sagBallsUptoRow : OpenClaim := { program := "ythngkopcadlciaa", sum := "25a003bf1cfe4cd1329974f6fb4e46c7354817c5d8092418eb01c30b9230ae9c", func := "meniscus/meniscuslaw14.SagBalls", spec := "sagBalls", unfollowed := true, recurses := true, apart := false, narrowed := true }
def SagBallsUptoSaid : Prop := sagBallsUptoRow.holds Try.pinned (OpenSpec.upto sagBallsSpec)

/-- 'meniscuslaw14.SagMirrors', WHERE WHAT IT READS IS OF BULK AT MOST 1048576: true; the input reads as it did. -/
def sagMirrorsUptoRow : OpenClaim := { program := "ythngkopcadlciaa", sum := "25a003bf1cfe4cd1329974f6fb4e46c7354817c5d8092418eb01c30b9230ae9c", func := "meniscus/meniscuslaw14.SagMirrors", spec := "sagMirrors", unfollowed := true, recurses := true, apart := false, narrowed := true }
def SagMirrorsUptoSaid : Prop := sagMirrorsUptoRow.holds Try.pinned (OpenSpec.upto sagMirrorsSpec)

/-- 'meniscuslaw14.SagLess', WHERE WHAT IT READS IS OF BULK AT MOST 1048576: true; the input reads as it did. -/
def sagLessUptoRow : OpenClaim := { program := "ythngkopcadlciaa", sum := "25a003bf1cfe4cd1329974f6fb4e46c7354817c5d8092418eb01c30b9230ae9c", func := "meniscus/meniscuslaw14.SagLess", spec := "sagLess", unfollowed := true, recurses := true, apart := false, narrowed := true }
def SagLessUptoSaid : Prop := sagLessUptoRow.holds Try.pinned (OpenSpec.upto sagLessSpec)

/-- 'meniscuslaw16.NormalKnown', WHERE WHAT IT READS IS OF BULK AT MOST 1048576: true; the input reads as it did. -/
def normalKnownUptoRow : OpenClaim := { program := "ythngkopcadlciaa", sum := "25a003bf1cfe4cd1329974f6fb4e46c7354817c5d8092418eb01c30b9230ae9c", func := "meniscus/meniscuslaw16.NormalKnown", spec := "normalKnown", unfollowed := true, recurses := true, apart := false, narrowed := true }
def NormalKnownUptoSaid : Prop := normalKnownUptoRow.holds Try.pinned (OpenSpec.upto normalKnownSpec)

/-- 'meniscuslaw16.NormalTells', WHERE WHAT IT READS IS OF BULK AT MOST 1048576: true; the input reads as it did. -/
def normalTellsUptoRow : OpenClaim := { program := "ythngkopcadlciaa", sum := "25a003bf1cfe4cd1329974f6fb4e46c7354817c5d8092418eb01c30b9230ae9c", func := "meniscus/meniscuslaw16.NormalTells", spec := "normalTells", unfollowed := true, recurses := true, apart := false, narrowed := true }
def NormalTellsUptoSaid : Prop := normalTellsUptoRow.holds Try.pinned (OpenSpec.upto normalTellsSpec)

/-- 'meniscuslaw16.NormalBalls', WHERE WHAT IT READS IS OF BULK AT MOST 1048576: true; the input reads as it did. -/
def normalBallsUptoRow : OpenClaim := { program := "ythngkopcadlciaa", sum := "25a003bf1cfe4cd1329974f6fb4e46c7354817c5d8092418eb01c30b9230ae9c", func := "meniscus/meniscuslaw16.NormalBalls", spec := "normalBalls", unfollowed := true, recurses := true, apart := false, narrowed := true }
def NormalBallsUptoSaid : Prop := normalBallsUptoRow.holds Try.pinned (OpenSpec.upto normalBallsSpec)

/-- 'meniscuslaw16.NormalLess', WHERE WHAT IT READS IS OF BULK AT MOST 1048576: true; the input reads as it did. -/
def normalLessUptoRow : OpenClaim := { program := "ythngkopcadlciaa", sum := "25a003bf1cfe4cd1329974f6fb4e46c7354817c5d8092418eb01c30b9230ae9c", func := "meniscus/meniscuslaw16.NormalLess", spec := "normalLess", unfollowed := true, recurses := true, apart := false, narrowed := true }
def NormalLessUptoSaid : Prop := normalLessUptoRow.holds Try.pinned (OpenSpec.upto normalLessSpec)

/-- 'meniscuslaw26.SceneFirst', WHERE WHAT IT READS IS OF BULK AT MOST 1048576: true; the input reads as it did. -/
def sceneFirstUptoRow : OpenClaim := { program := "ythngkopcadlciaa", sum := "25a003bf1cfe4cd1329974f6fb4e46c7354817c5d8092418eb01c30b9230ae9c", func := "meniscus/meniscuslaw26.SceneFirst", spec := "sceneFirst", unfollowed := true, recurses := true, apart := false, narrowed := true }
def SceneFirstUptoSaid : Prop := sceneFirstUptoRow.holds Try.pinned (OpenSpec.upto sceneFirstSpec)

/-- 'meniscuslaw26.SceneBalls', WHERE WHAT IT READS IS OF BULK AT MOST 1048576: true; the input reads as it did. -/
def sceneBallsUptoRow : OpenClaim := { program := "ythngkopcadlciaa", sum := "25a003bf1cfe4cd1329974f6fb4e46c7354817c5d8092418eb01c30b9230ae9c", func := "meniscus/meniscuslaw26.SceneBalls", spec := "sceneBalls", unfollowed := true, recurses := true, apart := false, narrowed := true }
def SceneBallsUptoSaid : Prop := sceneBallsUptoRow.holds Try.pinned (OpenSpec.upto sceneBallsSpec)

/-- 'meniscuslaw26.SceneLess', WHERE WHAT IT READS IS OF BULK AT MOST 1048576: true; the input reads as it did. -/
def sceneLessUptoRow : OpenClaim := { program := "ythngkopcadlciaa", sum := "25a003bf1cfe4cd1329974f6fb4e46c7354817c5d8092418eb01c30b9230ae9c", func := "meniscus/meniscuslaw26.SceneLess", spec := "sceneLess", unfollowed := true, recurses := true, apart := false, narrowed := true }
def SceneLessUptoSaid : Prop := sceneLessUptoRow.holds Try.pinned (OpenSpec.upto sceneLessSpec)

/-- 'meniscuslaw26.SceneTurns', WHERE WHAT IT READS IS OF BULK AT MOST 1048576: true; the input reads as it did. -/
def sceneTurnsUptoRow : OpenClaim := { program := "ythngkopcadlciaa", sum := "25a003bf1cfe4cd1329974f6fb4e46c7354817c5d8092418eb01c30b9230ae9c", func := "meniscus/meniscuslaw26.SceneTurns", spec := "sceneTurns", unfollowed := true, recurses := true, apart := false, narrowed := true }
def SceneTurnsUptoSaid : Prop := sceneTurnsUptoRow.holds Try.pinned (OpenSpec.upto sceneTurnsSpec)

end Rows
end Go.Proofs.Ythngkopcadlciaa
