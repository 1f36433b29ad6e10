/- Wk08l. -/
import Derived.Test.YtnndkgmcjbnfbaaGreatDoorPk6
import Derived.Test.YtnndkgmcjbnfbaaGreatDoorPkJl2l
namespace Go.Proofs.YtnndkgmcjbnfbaaGreatDoor
open Go.RowKit
set_option linter.unusedVariables false
theorem JournalLinear_walk (x0 : Int) (x1 : Int) (x2 : Int) (w : World) (h0 : IsInt .i64 [.int .i64 x0]) (h1 : IsInt .i64 [.int .i64 x1]) (h2 : IsInt .i64 [.int .i64 x2]) :
    Calls Tryz.prog 4 #[.int .i64 x0, .int .i64 x1, .int .i64 x2] w fun e w' => e = .returned (.bool true) ∧ Below w.heap.size w w' :=
  (lJournalLinear_c x0 x1 x2 w).mono fun _ _ h => ⟨h.1, h.2.below⟩
end Go.Proofs.YtnndkgmcjbnfbaaGreatDoor
