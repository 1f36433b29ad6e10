/-
  DERIVED. GIVEN WITH THE SEED: THE CARDS: each row of YtdoenmokahbeaaaDoorRows.lean that lists a variable, with what it lists TIED to the program's text (the seventh form; the later family's looks); each row that meets fmt, with fmt's text TOLD by the authors' own Lean function (tested against real Go, not proved from fmt's source: count such statements apart). THE CARD IS WHAT COUNTS. Prove the row's statement (the work); the ties are given (YtdoenmokahbeaaaDoorTie.lean); close each card by the builder's one call (the guide's Derived/Test/ToyasCard.lean, 'card_holds'). Laid BY PROGRAM, IN A SANDBOX (cutbox-door.mjs). By AI agents, Wed Nov 11 2026. No macro, syntax, notation, axiom, sorry.
-/
import Derived.Test.YtdoenmokahbeaaaDoorRows
import GoSem.ClaimSeven
namespace Go.Proofs.YtdoenmokahbeaaaDoor
namespace Rows

/-- THE TIED CARD OF 'horariumlaw04.FrameReads'. -/
def frameReadsCard : Claim7 := { stood := { row := frameReadsRow, standIns := [], harness := (true, "c0f50f26981ca63f888eec87570f4ba22fa1d2a0978415efdb2b3dec2380966a"), looks := true }, kinds := [], alts := [], laidByText := true, laidKinds := [.data, .pinned], laidTests := true, laidLooks := .later }
def FrameReadsCardSaid : Prop := Claim7.holds Tryd.pinned (.plain (OpenSpec.ofChange frameReadsSpec)) frameReadsCard

/-- THE TIED CARD OF 'horariumlaw04.FrameBack'. -/
def frameBackCard : Claim7 := { stood := { row := frameBackRow, standIns := [], harness := (true, "c0f50f26981ca63f888eec87570f4ba22fa1d2a0978415efdb2b3dec2380966a"), looks := true }, kinds := [], alts := [], laidByText := true, laidKinds := [.data, .pinned], laidTests := true, laidLooks := .later }
def FrameBackCardSaid : Prop := Claim7.holds Tryd.pinned (.plain (OpenSpec.ofChange frameBackSpec)) frameBackCard

/-- THE TIED CARD OF 'horariumlaw04.FrameTorn'. -/
def frameTornCard : Claim7 := { stood := { row := frameTornRow, standIns := [], harness := (true, "c0f50f26981ca63f888eec87570f4ba22fa1d2a0978415efdb2b3dec2380966a"), looks := true }, kinds := [], alts := [], laidByText := true, laidKinds := [.data, .pinned], laidTests := true, laidLooks := .later }
def FrameTornCardSaid : Prop := Claim7.holds Tryd.pinned (.plain (OpenSpec.ofChange frameTornSpec)) frameTornCard

/-- THE TIED CARD OF 'horariumlaw04.FrameMakes'. -/
def frameMakesCard : Claim7 := { stood := { row := frameMakesRow, standIns := [], harness := (true, "c0f50f26981ca63f888eec87570f4ba22fa1d2a0978415efdb2b3dec2380966a"), looks := true }, kinds := [], alts := [], laidByText := true, laidKinds := [.data, .pinned], laidTests := true, laidLooks := .later }
def FrameMakesCardSaid : Prop := Claim7.holds Tryd.pinned (.plain (OpenSpec.ofChange frameMakesSpec)) frameMakesCard

/-- THE TIED CARD OF 'horariumlaw04.FrameChunks'. -/
def frameChunksCard : Claim7 := { stood := { row := frameChunksRow, standIns := [], harness := (true, "c0f50f26981ca63f888eec87570f4ba22fa1d2a0978415efdb2b3dec2380966a"), looks := true }, kinds := [], alts := [], laidByText := true, laidKinds := [.data, .pinned], laidTests := true, laidLooks := .later }
def FrameChunksCardSaid : Prop := Claim7.holds Tryd.pinned (.plain (OpenSpec.ofChange frameChunksSpec)) frameChunksCard

/-- THE TIED CARD OF 'horariumlaw07.WalEpochs'. -/
def walEpochsCard : Claim7 := { stood := { row := walEpochsRow, standIns := [], harness := (true, "c0f50f26981ca63f888eec87570f4ba22fa1d2a0978415efdb2b3dec2380966a"), looks := true }, kinds := [], alts := [], laidByText := true, laidKinds := [.data, .pinned], laidTests := true, laidLooks := .later }
def WalEpochsCardSaid : Prop := Claim7.holds Tryd.pinned (.plain (OpenSpec.ofChange walEpochsSpec)) walEpochsCard

/-- THE TIED CARD OF 'horariumlaw07.WalFull'. -/
def walFullCard : Claim7 := { stood := { row := walFullRow, standIns := [], harness := (true, "c0f50f26981ca63f888eec87570f4ba22fa1d2a0978415efdb2b3dec2380966a"), looks := true }, kinds := [], alts := [], laidByText := true, laidKinds := [.data, .pinned], laidTests := true, laidLooks := .later }
def WalFullCardSaid : Prop := Claim7.holds Tryd.pinned (.plain (OpenSpec.ofChange walFullSpec)) walFullCard

/-- THE TIED CARD OF 'horariumlaw07.WalNil'. -/
def walNilCard : Claim7 := { stood := { row := walNilRow, standIns := [], harness := (true, "c0f50f26981ca63f888eec87570f4ba22fa1d2a0978415efdb2b3dec2380966a"), looks := true }, kinds := [], alts := [], laidByText := true, laidKinds := [.data, .pinned], laidTests := true, laidLooks := .later }
def WalNilCardSaid : Prop := Claim7.holds Tryd.pinned (.plain (OpenSpec.ofChange walNilSpec)) walNilCard

/-- THE TIED CARD OF 'horariumlaw06.SlotsState'. -/
def slotsStateCard : Claim7 := { stood := { row := slotsStateRow, standIns := [], harness := (true, "c0f50f26981ca63f888eec87570f4ba22fa1d2a0978415efdb2b3dec2380966a"), looks := true }, kinds := [], alts := [], laidByText := true, laidKinds := [.data, .pinned], laidTests := true, laidLooks := .later }
def SlotsStateCardSaid : Prop := Claim7.holds Tryd.pinned (.plain (OpenSpec.ofChange slotsStateSpec)) slotsStateCard

/-- THE TIED CARD OF 'horariumlaw06.SlotsTurn'. -/
def slotsTurnCard : Claim7 := { stood := { row := slotsTurnRow, standIns := [], harness := (true, "c0f50f26981ca63f888eec87570f4ba22fa1d2a0978415efdb2b3dec2380966a"), looks := true }, kinds := [], alts := [], laidByText := true, laidKinds := [.data, .pinned], laidTests := true, laidLooks := .later }
def SlotsTurnCardSaid : Prop := Claim7.holds Tryd.pinned (.plain (OpenSpec.ofChange slotsTurnSpec)) slotsTurnCard

/-- THE TIED CARD OF 'horariumlaw06.SlotsNil'. -/
def slotsNilCard : Claim7 := { stood := { row := slotsNilRow, standIns := [], harness := (true, "c0f50f26981ca63f888eec87570f4ba22fa1d2a0978415efdb2b3dec2380966a"), looks := true }, kinds := [], alts := [], laidByText := true, laidKinds := [.data, .pinned], laidTests := true, laidLooks := .later }
def SlotsNilCardSaid : Prop := Claim7.holds Tryd.pinned (.plain (OpenSpec.ofChange slotsNilSpec)) slotsNilCard

/-- THE SECOND FORM's CARD OF 'horariumlaw04.FrameReads'. -/
def frameReadsUptoCard : Claim7 := { stood := { row := frameReadsUptoRow, standIns := [], harness := (true, "c0f50f26981ca63f888eec87570f4ba22fa1d2a0978415efdb2b3dec2380966a"), looks := true }, kinds := [], alts := [], laidByText := true, laidKinds := [.data, .pinned], laidTests := true, laidLooks := .later }
def FrameReadsUptoCardSaid : Prop := Claim7.holds Tryd.pinned (.plain (OpenSpec.upto frameReadsSpec)) frameReadsUptoCard

/-- THE SECOND FORM's CARD OF 'horariumlaw04.FrameBack'. -/
def frameBackUptoCard : Claim7 := { stood := { row := frameBackUptoRow, standIns := [], harness := (true, "c0f50f26981ca63f888eec87570f4ba22fa1d2a0978415efdb2b3dec2380966a"), looks := true }, kinds := [], alts := [], laidByText := true, laidKinds := [.data, .pinned], laidTests := true, laidLooks := .later }
def FrameBackUptoCardSaid : Prop := Claim7.holds Tryd.pinned (.plain (OpenSpec.upto frameBackSpec)) frameBackUptoCard

/-- THE SECOND FORM's CARD OF 'horariumlaw04.FrameTorn'. -/
def frameTornUptoCard : Claim7 := { stood := { row := frameTornUptoRow, standIns := [], harness := (true, "c0f50f26981ca63f888eec87570f4ba22fa1d2a0978415efdb2b3dec2380966a"), looks := true }, kinds := [], alts := [], laidByText := true, laidKinds := [.data, .pinned], laidTests := true, laidLooks := .later }
def FrameTornUptoCardSaid : Prop := Claim7.holds Tryd.pinned (.plain (OpenSpec.upto frameTornSpec)) frameTornUptoCard

/-- THE SECOND FORM's CARD OF 'horariumlaw04.FrameMakes'. -/
def frameMakesUptoCard : Claim7 := { stood := { row := frameMakesUptoRow, standIns := [], harness := (true, "c0f50f26981ca63f888eec87570f4ba22fa1d2a0978415efdb2b3dec2380966a"), looks := true }, kinds := [], alts := [], laidByText := true, laidKinds := [.data, .pinned], laidTests := true, laidLooks := .later }
def FrameMakesUptoCardSaid : Prop := Claim7.holds Tryd.pinned (.plain (OpenSpec.upto frameMakesSpec)) frameMakesUptoCard

/-- THE SECOND FORM's CARD OF 'horariumlaw04.FrameChunks'. -/
def frameChunksUptoCard : Claim7 := { stood := { row := frameChunksUptoRow, standIns := [], harness := (true, "c0f50f26981ca63f888eec87570f4ba22fa1d2a0978415efdb2b3dec2380966a"), looks := true }, kinds := [], alts := [], laidByText := true, laidKinds := [.data, .pinned], laidTests := true, laidLooks := .later }
def FrameChunksUptoCardSaid : Prop := Claim7.holds Tryd.pinned (.plain (OpenSpec.upto frameChunksSpec)) frameChunksUptoCard

/-- THE SECOND FORM's CARD OF 'horariumlaw07.WalEpochs'. -/
def walEpochsUptoCard : Claim7 := { stood := { row := walEpochsUptoRow, standIns := [], harness := (true, "c0f50f26981ca63f888eec87570f4ba22fa1d2a0978415efdb2b3dec2380966a"), looks := true }, kinds := [], alts := [], laidByText := true, laidKinds := [.data, .pinned], laidTests := true, laidLooks := .later }
def WalEpochsUptoCardSaid : Prop := Claim7.holds Tryd.pinned (.plain (OpenSpec.upto walEpochsSpec)) walEpochsUptoCard

/-- THE SECOND FORM's CARD OF 'horariumlaw07.WalFull'. -/
def walFullUptoCard : Claim7 := { stood := { row := walFullUptoRow, standIns := [], harness := (true, "c0f50f26981ca63f888eec87570f4ba22fa1d2a0978415efdb2b3dec2380966a"), looks := true }, kinds := [], alts := [], laidByText := true, laidKinds := [.data, .pinned], laidTests := true, laidLooks := .later }
def WalFullUptoCardSaid : Prop := Claim7.holds Tryd.pinned (.plain (OpenSpec.upto walFullSpec)) walFullUptoCard

/-- THE SECOND FORM's CARD OF 'horariumlaw07.WalNil'. -/
def walNilUptoCard : Claim7 := { stood := { row := walNilUptoRow, standIns := [], harness := (true, "c0f50f26981ca63f888eec87570f4ba22fa1d2a0978415efdb2b3dec2380966a"), looks := true }, kinds := [], alts := [], laidByText := true, laidKinds := [.data, .pinned], laidTests := true, laidLooks := .later }
def WalNilUptoCardSaid : Prop := Claim7.holds Tryd.pinned (.plain (OpenSpec.upto walNilSpec)) walNilUptoCard

/-- THE SECOND FORM's CARD OF 'horariumlaw06.SlotsState'. -/
def slotsStateUptoCard : Claim7 := { stood := { row := slotsStateUptoRow, standIns := [], harness := (true, "c0f50f26981ca63f888eec87570f4ba22fa1d2a0978415efdb2b3dec2380966a"), looks := true }, kinds := [], alts := [], laidByText := true, laidKinds := [.data, .pinned], laidTests := true, laidLooks := .later }
def SlotsStateUptoCardSaid : Prop := Claim7.holds Tryd.pinned (.plain (OpenSpec.upto slotsStateSpec)) slotsStateUptoCard

/-- THE SECOND FORM's CARD OF 'horariumlaw06.SlotsTurn'. -/
def slotsTurnUptoCard : Claim7 := { stood := { row := slotsTurnUptoRow, standIns := [], harness := (true, "c0f50f26981ca63f888eec87570f4ba22fa1d2a0978415efdb2b3dec2380966a"), looks := true }, kinds := [], alts := [], laidByText := true, laidKinds := [.data, .pinned], laidTests := true, laidLooks := .later }
def SlotsTurnUptoCardSaid : Prop := Claim7.holds Tryd.pinned (.plain (OpenSpec.upto slotsTurnSpec)) slotsTurnUptoCard

/-- THE SECOND FORM's CARD OF 'horariumlaw06.SlotsNil'. -/
def slotsNilUptoCard : Claim7 := { stood := { row := slotsNilUptoRow, standIns := [], harness := (true, "c0f50f26981ca63f888eec87570f4ba22fa1d2a0978415efdb2b3dec2380966a"), looks := true }, kinds := [], alts := [], laidByText := true, laidKinds := [.data, .pinned], laidTests := true, laidLooks := .later }
def SlotsNilUptoCardSaid : Prop := Claim7.holds Tryd.pinned (.plain (OpenSpec.upto slotsNilSpec)) slotsNilUptoCard
end Rows
end Go.Proofs.YtdoenmokahbeaaaDoor
