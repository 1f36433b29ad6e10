/-
  DERIVED. GIVEN WITH THE SEED: THE CARDS: each row of YtdoenmokahbeaaaGreatDoorRows.lean that lists a variable, with what it lists TIED to the program's text (the seventh form; the later family's looks); each row that meets fmt, with fmt's text TOLD by the authors' own Lean function (tested against real Go, not proved from fmt's source: count such statements apart). THE CARD IS WHAT COUNTS. Prove the row's statement (the work); the ties are given (YtdoenmokahbeaaaGreatDoorTie.lean); close each card by the builder's one call (the guide's Derived/Test/ToyasCard.lean, 'card_holds'). Laid BY PROGRAM, IN A SANDBOX (cutbox-door.mjs). By AI agents, Wed Nov 11 2026. No macro, syntax, notation, axiom, sorry.
-/
import Derived.Test.YtdoenmokahbeaaaGreatDoorRows
import GoSem.ClaimSeven
namespace Go.Proofs.YtdoenmokahbeaaaGreatDoor
namespace Rows

/-- THE TIED CARD OF 'horariumlaw07.WalCuts'. -/
def walCutsCard : Claim7 := { stood := { row := walCutsRow, standIns := [], harness := (true, "1d553da12136f007e1a5c3cd656c9ed3a4383eb6acdc72c6a33d772ab2ad6350"), looks := true }, kinds := [], alts := [], laidByText := true, laidKinds := [.data, .pinned], laidTests := true, laidLooks := .later }
def WalCutsCardSaid : Prop := Claim7.holds Tryz.pinned (.plain (OpenSpec.ofChange walCutsSpec)) walCutsCard

/-- THE TIED CARD OF 'horariumlaw07.WalSafe'. -/
def walSafeCard : Claim7 := { stood := { row := walSafeRow, standIns := [], harness := (true, "1d553da12136f007e1a5c3cd656c9ed3a4383eb6acdc72c6a33d772ab2ad6350"), looks := true }, kinds := [], alts := [], laidByText := true, laidKinds := [.data, .pinned], laidTests := true, laidLooks := .later }
def WalSafeCardSaid : Prop := Claim7.holds Tryz.pinned (.plain (OpenSpec.ofChange walSafeSpec)) walSafeCard

/-- THE TIED CARD OF 'horariumlaw07.WalPlays'. -/
def walPlaysCard : Claim7 := { stood := { row := walPlaysRow, standIns := [], harness := (true, "1d553da12136f007e1a5c3cd656c9ed3a4383eb6acdc72c6a33d772ab2ad6350"), looks := true }, kinds := [], alts := [], laidByText := true, laidKinds := [.data, .pinned], laidTests := true, laidLooks := .later }
def WalPlaysCardSaid : Prop := Claim7.holds Tryz.pinned (.plain (OpenSpec.ofChange walPlaysSpec)) walPlaysCard

/-- THE TIED CARD OF 'horariumlaw06.SlotsSafe'. -/
def slotsSafeCard : Claim7 := { stood := { row := slotsSafeRow, standIns := [], harness := (true, "1d553da12136f007e1a5c3cd656c9ed3a4383eb6acdc72c6a33d772ab2ad6350"), looks := true }, kinds := [], alts := [], laidByText := true, laidKinds := [.data, .pinned], laidTests := true, laidLooks := .later }
def SlotsSafeCardSaid : Prop := Claim7.holds Tryz.pinned (.plain (OpenSpec.ofChange slotsSafeSpec)) slotsSafeCard

/-- THE SECOND FORM's CARD OF 'horariumlaw07.WalCuts'. -/
def walCutsUptoCard : Claim7 := { stood := { row := walCutsUptoRow, standIns := [], harness := (true, "1d553da12136f007e1a5c3cd656c9ed3a4383eb6acdc72c6a33d772ab2ad6350"), looks := true }, kinds := [], alts := [], laidByText := true, laidKinds := [.data, .pinned], laidTests := true, laidLooks := .later }
def WalCutsUptoCardSaid : Prop := Claim7.holds Tryz.pinned (.plain (OpenSpec.upto walCutsSpec)) walCutsUptoCard

/-- THE SECOND FORM's CARD OF 'horariumlaw07.WalSafe'. -/
def walSafeUptoCard : Claim7 := { stood := { row := walSafeUptoRow, standIns := [], harness := (true, "1d553da12136f007e1a5c3cd656c9ed3a4383eb6acdc72c6a33d772ab2ad6350"), looks := true }, kinds := [], alts := [], laidByText := true, laidKinds := [.data, .pinned], laidTests := true, laidLooks := .later }
def WalSafeUptoCardSaid : Prop := Claim7.holds Tryz.pinned (.plain (OpenSpec.upto walSafeSpec)) walSafeUptoCard

/-- THE SECOND FORM's CARD OF 'horariumlaw07.WalPlays'. -/
def walPlaysUptoCard : Claim7 := { stood := { row := walPlaysUptoRow, standIns := [], harness := (true, "1d553da12136f007e1a5c3cd656c9ed3a4383eb6acdc72c6a33d772ab2ad6350"), looks := true }, kinds := [], alts := [], laidByText := true, laidKinds := [.data, .pinned], laidTests := true, laidLooks := .later }
def WalPlaysUptoCardSaid : Prop := Claim7.holds Tryz.pinned (.plain (OpenSpec.upto walPlaysSpec)) walPlaysUptoCard

/-- THE SECOND FORM's CARD OF 'horariumlaw06.SlotsSafe'. -/
def slotsSafeUptoCard : Claim7 := { stood := { row := slotsSafeUptoRow, standIns := [], harness := (true, "1d553da12136f007e1a5c3cd656c9ed3a4383eb6acdc72c6a33d772ab2ad6350"), looks := true }, kinds := [], alts := [], laidByText := true, laidKinds := [.data, .pinned], laidTests := true, laidLooks := .later }
def SlotsSafeUptoCardSaid : Prop := Claim7.holds Tryz.pinned (.plain (OpenSpec.upto slotsSafeSpec)) slotsSafeUptoCard
end Rows
end Go.Proofs.YtdoenmokahbeaaaGreatDoor
