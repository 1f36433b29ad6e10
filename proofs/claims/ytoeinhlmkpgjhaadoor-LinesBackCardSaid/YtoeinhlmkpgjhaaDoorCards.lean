/-
  DERIVED. GIVEN WITH THE SEED: THE CARDS: each row of YtoeinhlmkpgjhaaDoorRows.lean that lists a variable, with what it lists TIED to the program's text (the seventh form; the later family's looks); each row that meets fmt, with fmt's text TOLD by the authors' own Lean function (tested against real Go, not proved from fmt's source: count such statements apart). THE CARD IS WHAT COUNTS. Prove the row's statement (the work); the ties are given (YtoeinhlmkpgjhaaDoorTie.lean); close each card by the builder's one call (the guide's Derived/Test/ToyasCard.lean, 'card_holds'). Laid BY PROGRAM, IN A SANDBOX (cutbox-door.mjs). By AI agents, Wed Nov 11 2026. No macro, syntax, notation, axiom, sorry.
-/
import Derived.Test.YtoeinhlmkpgjhaaDoorRows
import GoSem.ClaimSeven
namespace Go.Proofs.YtoeinhlmkpgjhaaDoor
namespace Rows

/-- THE TIED CARD OF 'horariumlaw25.LinesWrong'. -/
def linesWrongCard : Claim7 := { stood := { row := linesWrongRow, standIns := [], harness := (true, "f7e7f052372244e64a96a3981d81ebf28dba3c587d25495dff29e20285cf12ba"), looks := false }, kinds := [], alts := [], laidByText := true, laidKinds := [.data, .data, .data, .data, .pinned], laidTests := true, laidLooks := .later }
def LinesWrongCardSaid : Prop := Claim7.holds Tryd.pinned (.plain (OpenSpec.ofChange linesWrongSpec)) linesWrongCard

/-- THE TIED CARD OF 'horariumlaw25.LinesTasks'. -/
def linesTasksCard : Claim7 := { stood := { row := linesTasksRow, standIns := [], harness := (true, "f7e7f052372244e64a96a3981d81ebf28dba3c587d25495dff29e20285cf12ba"), looks := false }, kinds := [], alts := [], laidByText := true, laidKinds := [.data, .data, .data, .data, .pinned], laidTests := true, laidLooks := .later }
def LinesTasksCardSaid : Prop := Claim7.holds Tryd.pinned (.plain (OpenSpec.ofChange linesTasksSpec)) linesTasksCard

/-- THE TIED CARD OF 'horariumlaw25.LinesBack'. -/
def linesBackCard : Claim7 := { stood := { row := linesBackRow, standIns := [], harness := (true, "f7e7f052372244e64a96a3981d81ebf28dba3c587d25495dff29e20285cf12ba"), looks := false }, kinds := [], alts := [], laidByText := true, laidKinds := [.data, .data, .data, .data, .pinned], laidTests := true, laidLooks := .later }
def LinesBackCardSaid : Prop := Claim7.holds Tryd.pinned (.plain (OpenSpec.ofChange linesBackSpec)) linesBackCard

/-- THE SECOND FORM's CARD OF 'horariumlaw25.LinesWrong'. -/
def linesWrongUptoCard : Claim7 := { stood := { row := linesWrongUptoRow, standIns := [], harness := (true, "f7e7f052372244e64a96a3981d81ebf28dba3c587d25495dff29e20285cf12ba"), looks := false }, kinds := [], alts := [], laidByText := true, laidKinds := [.data, .data, .data, .data, .pinned], laidTests := true, laidLooks := .later }
def LinesWrongUptoCardSaid : Prop := Claim7.holds Tryd.pinned (.plain (OpenSpec.upto linesWrongSpec)) linesWrongUptoCard

/-- THE SECOND FORM's CARD OF 'horariumlaw25.LinesTasks'. -/
def linesTasksUptoCard : Claim7 := { stood := { row := linesTasksUptoRow, standIns := [], harness := (true, "f7e7f052372244e64a96a3981d81ebf28dba3c587d25495dff29e20285cf12ba"), looks := false }, kinds := [], alts := [], laidByText := true, laidKinds := [.data, .data, .data, .data, .pinned], laidTests := true, laidLooks := .later }
def LinesTasksUptoCardSaid : Prop := Claim7.holds Tryd.pinned (.plain (OpenSpec.upto linesTasksSpec)) linesTasksUptoCard

/-- THE SECOND FORM's CARD OF 'horariumlaw25.LinesBack'. -/
def linesBackUptoCard : Claim7 := { stood := { row := linesBackUptoRow, standIns := [], harness := (true, "f7e7f052372244e64a96a3981d81ebf28dba3c587d25495dff29e20285cf12ba"), looks := false }, kinds := [], alts := [], laidByText := true, laidKinds := [.data, .data, .data, .data, .pinned], laidTests := true, laidLooks := .later }
def LinesBackUptoCardSaid : Prop := Claim7.holds Tryd.pinned (.plain (OpenSpec.upto linesBackSpec)) linesBackUptoCard
end Rows
end Go.Proofs.YtoeinhlmkpgjhaaDoor
