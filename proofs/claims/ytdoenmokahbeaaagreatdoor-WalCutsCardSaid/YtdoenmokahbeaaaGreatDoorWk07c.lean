
/- Chapter 07's walks: a write cut off. -/
import Derived.Test.YtdoenmokahbeaaaGreatDoorCk3
import Derived.Test.YtdoenmokahbeaaaGreatDoorArgs0
namespace Go.Proofs.YtdoenmokahbeaaaGreatDoor
open Go.RowKit
set_option linter.unusedVariables false

theorem WalCuts_walk (x0 : Int) (s0 : ByteArray) (s1 : ByteArray) (w : World) (h0 : IsInt .i64 [.int .i64 x0]) (h1 : IsStr [.string s0]) (h2 : IsStr [.string s1]) :
    Calls Tryz.prog 3 #[.int .i64 x0, .string s0, .string s1] w fun e w' => e = .returned (.bool true) ∧ Below w.heap.size w w' := by
  obtain ⟨a, rfl, ha⟩ := isStr h1
  obtain ⟨b, rfl, hb⟩ := isStr h2
  exact (lWalCuts_c x0 ha hb w).mono fun _ _ h => ⟨h.1, h.2.below⟩

end Go.Proofs.YtdoenmokahbeaaaGreatDoor
