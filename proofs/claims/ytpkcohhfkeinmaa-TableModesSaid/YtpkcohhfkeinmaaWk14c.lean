
/- TableModes' walk. -/
import Derived.Test.YtpkcohhfkeinmaaStM
import Derived.Test.YtpkcohhfkeinmaaTabArgs
namespace Go.Proofs.Ytpkcohhfkeinmaa
open Go.RowKit
set_option linter.unusedVariables false

theorem TableModes_walk (sa0 : Option Addr) (sl0 sc0 : Nat) (x1 : Int) (w : World) (h0 : IsSl 10 (fun w c => IsOp w c) w [.slice sa0 sl0 sc0]) (h1 : IsInt .i64 [.int .i64 x1]) :
    Calls Try.prog 6 #[.slice sa0 sl0 sc0, .int .i64 x1] w fun e w' => e = .returned (.bool true) ∧ Below w.heap.size w w' := by
  obtain ⟨l, rfl, hL, hl⟩ := isOps h0
  exact (tableModes_any hL hl x1).mono fun _ _ h => ⟨h.1, h.2.below⟩

end Go.Proofs.Ytpkcohhfkeinmaa
