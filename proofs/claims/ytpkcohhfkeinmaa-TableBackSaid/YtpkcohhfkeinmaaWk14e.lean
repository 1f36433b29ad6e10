
/- TableBack's walk. -/
import Derived.Test.YtpkcohhfkeinmaaStB
import Derived.Test.YtpkcohhfkeinmaaTabArgs
namespace Go.Proofs.Ytpkcohhfkeinmaa
open Go.RowKit
set_option linter.unusedVariables false

theorem TableBack_walk (sa0 : Option Addr) (sl0 sc0 : Nat) (c1 : Array Value) (w : World) (h0 : IsSl 10 (fun w c => IsOp w c) w [.slice sa0 sl0 sc0]) (h1 : IsOp w c1.toList) :
    Calls Try.prog 8 #[.slice sa0 sl0 sc0, .agg c1] w fun e w' => e = .returned (.bool true) ∧ Below w.heap.size w w' := by
  obtain ⟨l, rfl, hL, hl⟩ := isOps h0
  obtain ⟨o, _, e1⟩ := isOp h1
  rw [e1]
  exact (tableBack_any hL hl o).mono fun _ _ h => ⟨h.1, h.2.below⟩

end Go.Proofs.Ytpkcohhfkeinmaa
