
/- Chapter 07's walks: what was told as done is there. -/
import Derived.Test.YtdoenmokahbeaaaGreatDoorCkB
import Derived.Test.YtdoenmokahbeaaaGreatDoorTry
namespace Go.Proofs.YtdoenmokahbeaaaGreatDoor
open Go.RowKit
set_option linter.unusedVariables false

theorem WalSafe_walk (x0 : Int) (sa1 : Option Addr) (sl1 sc1 : Nat) (w : World) (h0 : IsInt .u8 [.int .u8 x0]) (h1 : IsSl 3 (fun w c => IsTry w c) w [.slice sa1 sl1 sc1]) :
    Calls Tryz.prog 4 #[.int .u8 x0, .slice sa1 sl1 sc1] w fun e w' => e = .returned (.bool true) ∧ Below w.heap.size w w' := by
  obtain ⟨u, rfl⟩ := u8_wf (isInt h0)
  obtain ⟨tr, rfl, hA, hT, hl⟩ := isTries (E := 41) h1
  exact (lWalSafe_c u hA hT hl).mono fun _ _ h => ⟨h.1, h.2.below⟩

end Go.Proofs.YtdoenmokahbeaaaGreatDoor
