
/- Chapter 06's walk: one is always whole. -/
import Derived.Test.YtdoenmokahbeaaaGreatDoorSvC
import Derived.Test.YtdoenmokahbeaaaGreatDoorTry
namespace Go.Proofs.YtdoenmokahbeaaaGreatDoor
open Go.RowKit
set_option linter.unusedVariables false

theorem SlotsSafe_walk (x0 : Int) (sa1 : Option Addr) (sl1 sc1 : Nat) (w : World) (h0 : IsInt .i64 [.int .i64 x0]) (h1 : IsSl 3 (fun w c => IsTry w c) w [.slice sa1 sl1 sc1]) :
    Calls Tryz.prog 6 #[.int .i64 x0, .slice sa1 sl1 sc1] w fun e w' => e = .returned (.bool true) ∧ Below w.heap.size w w' := by
  obtain ⟨tr, rfl, hA, hT, hl⟩ := isTries (E := 57) h1
  exact (lSlotsSafe_c x0 hA hT hl).mono fun _ _ h => ⟨h.1, h.2.below⟩

end Go.Proofs.YtdoenmokahbeaaaGreatDoor
