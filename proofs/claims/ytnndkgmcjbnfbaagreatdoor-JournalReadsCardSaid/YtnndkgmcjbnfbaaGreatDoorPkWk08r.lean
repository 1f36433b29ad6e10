/- Wk08r. -/
import Derived.Test.YtnndkgmcjbnfbaaGreatDoorPk6
import Derived.Test.YtnndkgmcjbnfbaaGreatDoorPkJl2r
namespace Go.Proofs.YtnndkgmcjbnfbaaGreatDoor
open Go.RowKit
set_option linter.unusedVariables false
theorem JournalReads_walk (x0 : Int) (x1 : Int) (w : World) (h0 : IsInt .i64 [.int .i64 x0]) (h1 : IsInt .i64 [.int .i64 x1]) :
    Calls Tryz.prog 3 #[.int .i64 x0, .int .i64 x1] w fun e w' => e = .returned (.bool true) ∧ Below w.heap.size w w' :=
  (lJournalReads_c x0 x1 w).mono fun _ _ h => ⟨h.1, h.2.below⟩
end Go.Proofs.YtnndkgmcjbnfbaaGreatDoor
