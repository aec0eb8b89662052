/-
  DERIVED. GIVEN WITH THE SEED: THE CARDS: each row of YtalffjplbhelcaaGreatDoorRows.lean that lists a variable, with what it lists TIED to the program's text (the seventh form; the later family's looks); each row that meets fmt, with fmt's text TOLD by the authors' own Lean function (tested against real Go, not proved from fmt's source: count such statements apart). THE CARD IS WHAT COUNTS. Prove the row's statement (the work); the ties are given (YtalffjplbhelcaaGreatDoorTie.lean); close each card by the builder's one call (the guide's Derived/Test/ToyasCard.lean, 'card_holds'). Laid BY PROGRAM, IN A SANDBOX (cutbox-door.mjs). By AI agents, Wed Nov 11 2026. No macro, syntax, notation, axiom, sorry.
-/
import Derived.Test.YtalffjplbhelcaaGreatDoorRows
import GoSem.ClaimSeven
namespace Go.Proofs.YtalffjplbhelcaaGreatDoor
namespace Rows

/-- THE TIED CARD OF 'meniscuslaw11.GlassIndex'. -/
def glassIndexCard : Claim7 := { stood := { row := glassIndexRow, standIns := [], harness := (true, "1970e973bf568725bea6f84a017a240106a936c70aa5cb199c1a145bb06729f4"), looks := true }, kinds := [], alts := [], laidByText := true, laidKinds := [.data, .data, .data, .data, .sentinel, .sentinel, .pinned], laidTests := true, laidLooks := .later }
def GlassIndexCardSaid : Prop := Claim7.holds Tryz.pinned (.plain (OpenSpec.ofChange glassIndexSpec)) glassIndexCard

/-- THE TIED CARD OF 'meniscuslaw11.GlassKnown'. -/
def glassKnownCard : Claim7 := { stood := { row := glassKnownRow, standIns := [], harness := (true, "1970e973bf568725bea6f84a017a240106a936c70aa5cb199c1a145bb06729f4"), looks := true }, kinds := [], alts := [], laidByText := true, laidKinds := [.data, .data, .data, .data, .sentinel, .sentinel, .pinned], laidTests := true, laidLooks := .later }
def GlassKnownCardSaid : Prop := Claim7.holds Tryz.pinned (.plain (OpenSpec.ofChange glassKnownSpec)) glassKnownCard

/-- THE TIED CARD OF 'meniscuslaw9.DecTells'. -/
def decTellsCard : Claim7 := { stood := { row := decTellsRow, standIns := [], harness := (true, "1970e973bf568725bea6f84a017a240106a936c70aa5cb199c1a145bb06729f4"), looks := true }, kinds := [], alts := [], laidByText := true, laidKinds := [.data, .data, .data, .data, .sentinel, .sentinel, .pinned], laidTests := true, laidLooks := .later }
def DecTellsCardSaid : Prop := Claim7.holds Tryz.pinned (.plain (OpenSpec.ofChange decTellsSpec)) decTellsCard

/-- THE TIED CARD OF 'meniscuslaw11.GlassBack'. -/
def glassBackCard : Claim7 := { stood := { row := glassBackRow, standIns := [], harness := (true, "1970e973bf568725bea6f84a017a240106a936c70aa5cb199c1a145bb06729f4"), looks := true }, kinds := [], alts := [], laidByText := true, laidKinds := [.data, .data, .data, .data, .sentinel, .sentinel, .pinned], laidTests := true, laidLooks := .later }
def GlassBackCardSaid : Prop := Claim7.holds Tryz.pinned (.plain (OpenSpec.ofChange glassBackSpec)) glassBackCard

/-- THE TIED CARD OF 'meniscuslaw11.GlassSums'. -/
def glassSumsCard : Claim7 := { stood := { row := glassSumsRow, standIns := [], harness := (true, "1970e973bf568725bea6f84a017a240106a936c70aa5cb199c1a145bb06729f4"), looks := true }, kinds := [], alts := [], laidByText := true, laidKinds := [.data, .data, .data, .data, .sentinel, .sentinel, .pinned], laidTests := true, laidLooks := .later }
def GlassSumsCardSaid : Prop := Claim7.holds Tryz.pinned (.plain (OpenSpec.ofChange glassSumsSpec)) glassSumsCard

/-- THE TIED CARD OF 'meniscuslaw11.GlassLess'. -/
def glassLessCard : Claim7 := { stood := { row := glassLessRow, standIns := [], harness := (true, "1970e973bf568725bea6f84a017a240106a936c70aa5cb199c1a145bb06729f4"), looks := true }, kinds := [], alts := [], laidByText := true, laidKinds := [.data, .data, .data, .data, .sentinel, .sentinel, .pinned], laidTests := true, laidLooks := .later }
def GlassLessCardSaid : Prop := Claim7.holds Tryz.pinned (.plain (OpenSpec.ofChange glassLessSpec)) glassLessCard

/-- THE SECOND FORM's CARD OF 'meniscuslaw11.GlassIndex'. -/
def glassIndexUptoCard : Claim7 := { stood := { row := glassIndexUptoRow, standIns := [], harness := (true, "1970e973bf568725bea6f84a017a240106a936c70aa5cb199c1a145bb06729f4"), looks := true }, kinds := [], alts := [], laidByText := true, laidKinds := [.data, .data, .data, .data, .sentinel, .sentinel, .pinned], laidTests := true, laidLooks := .later }
def GlassIndexUptoCardSaid : Prop := Claim7.holds Tryz.pinned (.plain (OpenSpec.upto glassIndexSpec)) glassIndexUptoCard

/-- THE SECOND FORM's CARD OF 'meniscuslaw11.GlassKnown'. -/
def glassKnownUptoCard : Claim7 := { stood := { row := glassKnownUptoRow, standIns := [], harness := (true, "1970e973bf568725bea6f84a017a240106a936c70aa5cb199c1a145bb06729f4"), looks := true }, kinds := [], alts := [], laidByText := true, laidKinds := [.data, .data, .data, .data, .sentinel, .sentinel, .pinned], laidTests := true, laidLooks := .later }
def GlassKnownUptoCardSaid : Prop := Claim7.holds Tryz.pinned (.plain (OpenSpec.upto glassKnownSpec)) glassKnownUptoCard

/-- THE SECOND FORM's CARD OF 'meniscuslaw9.DecTells'. -/
def decTellsUptoCard : Claim7 := { stood := { row := decTellsUptoRow, standIns := [], harness := (true, "1970e973bf568725bea6f84a017a240106a936c70aa5cb199c1a145bb06729f4"), looks := true }, kinds := [], alts := [], laidByText := true, laidKinds := [.data, .data, .data, .data, .sentinel, .sentinel, .pinned], laidTests := true, laidLooks := .later }
def DecTellsUptoCardSaid : Prop := Claim7.holds Tryz.pinned (.plain (OpenSpec.upto decTellsSpec)) decTellsUptoCard

/-- THE SECOND FORM's CARD OF 'meniscuslaw11.GlassBack'. -/
def glassBackUptoCard : Claim7 := { stood := { row := glassBackUptoRow, standIns := [], harness := (true, "1970e973bf568725bea6f84a017a240106a936c70aa5cb199c1a145bb06729f4"), looks := true }, kinds := [], alts := [], laidByText := true, laidKinds := [.data, .data, .data, .data, .sentinel, .sentinel, .pinned], laidTests := true, laidLooks := .later }
def GlassBackUptoCardSaid : Prop := Claim7.holds Tryz.pinned (.plain (OpenSpec.upto glassBackSpec)) glassBackUptoCard

/-- THE SECOND FORM's CARD OF 'meniscuslaw11.GlassSums'. -/
def glassSumsUptoCard : Claim7 := { stood := { row := glassSumsUptoRow, standIns := [], harness := (true, "1970e973bf568725bea6f84a017a240106a936c70aa5cb199c1a145bb06729f4"), looks := true }, kinds := [], alts := [], laidByText := true, laidKinds := [.data, .data, .data, .data, .sentinel, .sentinel, .pinned], laidTests := true, laidLooks := .later }
def GlassSumsUptoCardSaid : Prop := Claim7.holds Tryz.pinned (.plain (OpenSpec.upto glassSumsSpec)) glassSumsUptoCard

/-- THE SECOND FORM's CARD OF 'meniscuslaw11.GlassLess'. -/
def glassLessUptoCard : Claim7 := { stood := { row := glassLessUptoRow, standIns := [], harness := (true, "1970e973bf568725bea6f84a017a240106a936c70aa5cb199c1a145bb06729f4"), looks := true }, kinds := [], alts := [], laidByText := true, laidKinds := [.data, .data, .data, .data, .sentinel, .sentinel, .pinned], laidTests := true, laidLooks := .later }
def GlassLessUptoCardSaid : Prop := Claim7.holds Tryz.pinned (.plain (OpenSpec.upto glassLessSpec)) glassLessUptoCard
end Rows
end Go.Proofs.YtalffjplbhelcaaGreatDoor
