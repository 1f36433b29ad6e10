/-
  DERIVED. GIVEN WITH THE SEED: THE CARDS: each row of YtoeinhlmkpgjhaaGreatDoorRows.lean that lists a variable, with what it lists TIED to the program's text (the seventh form; the later family's looks); each row that meets fmt, with fmt's text TOLD by the authors' own Lean function (tested against real Go, not proved from fmt's source: count such statements apart). THE CARD IS WHAT COUNTS. Prove the row's statement (the work); the ties are given (YtoeinhlmkpgjhaaGreatDoorTie.lean); close each card by the builder's one call (the guide's Derived/Test/ToyasCard.lean, 'card_holds'). Laid BY PROGRAM, IN A SANDBOX (cutbox-door.mjs). By AI agents, Wed Nov 11 2026. No macro, syntax, notation, axiom, sorry.
-/
import Derived.Test.YtoeinhlmkpgjhaaGreatDoorRows
import GoSem.ClaimSeven
namespace Go.Proofs.YtoeinhlmkpgjhaaGreatDoor
namespace Rows

/-- THE TIED CARD OF 'horariumlaw25.LinesRead'. -/
def linesReadCard : Claim7 := { stood := { row := linesReadRow, standIns := [], harness := (true, "78f1395e34f5c279091c847fdd341ee41611f0f998ef5fa1a350f8aac508c01a"), looks := false }, kinds := [], alts := [], laidByText := true, laidKinds := [.data, .data, .data, .data, .pinned], laidTests := true, laidLooks := .later }
def LinesReadCardSaid : Prop := Claim7.holds Tryz.pinned (.plain (OpenSpec.ofChange linesReadSpec)) linesReadCard

/-- THE TIED CARD OF 'horariumlaw25.LinesWrite'. -/
def linesWriteCard : Claim7 := { stood := { row := linesWriteRow, standIns := [], harness := (true, "78f1395e34f5c279091c847fdd341ee41611f0f998ef5fa1a350f8aac508c01a"), looks := false }, kinds := [], alts := [], laidByText := true, laidKinds := [.data, .data, .data, .data, .pinned], laidTests := true, laidLooks := .later }
def LinesWriteCardSaid : Prop := Claim7.holds Tryz.pinned (.plain (OpenSpec.ofChange linesWriteSpec)) linesWriteCard

/-- THE SECOND FORM's CARD OF 'horariumlaw25.LinesRead'. -/
def linesReadUptoCard : Claim7 := { stood := { row := linesReadUptoRow, standIns := [], harness := (true, "78f1395e34f5c279091c847fdd341ee41611f0f998ef5fa1a350f8aac508c01a"), looks := false }, kinds := [], alts := [], laidByText := true, laidKinds := [.data, .data, .data, .data, .pinned], laidTests := true, laidLooks := .later }
def LinesReadUptoCardSaid : Prop := Claim7.holds Tryz.pinned (.plain (OpenSpec.upto linesReadSpec)) linesReadUptoCard

/-- THE SECOND FORM's CARD OF 'horariumlaw25.LinesWrite'. -/
def linesWriteUptoCard : Claim7 := { stood := { row := linesWriteUptoRow, standIns := [], harness := (true, "78f1395e34f5c279091c847fdd341ee41611f0f998ef5fa1a350f8aac508c01a"), looks := false }, kinds := [], alts := [], laidByText := true, laidKinds := [.data, .data, .data, .data, .pinned], laidTests := true, laidLooks := .later }
def LinesWriteUptoCardSaid : Prop := Claim7.holds Tryz.pinned (.plain (OpenSpec.upto linesWriteSpec)) linesWriteUptoCard
end Rows
end Go.Proofs.YtoeinhlmkpgjhaaGreatDoor
