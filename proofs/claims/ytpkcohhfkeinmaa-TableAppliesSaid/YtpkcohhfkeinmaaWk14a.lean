
/- TableApplies' walk. -/
import Derived.Test.YtpkcohhfkeinmaaSt6
import Derived.Test.YtpkcohhfkeinmaaTabArgs
namespace Go.Proofs.Ytpkcohhfkeinmaa
open Go.RowKit
set_option linter.unusedVariables false

theorem TableApplies_walk (c0 : Array Value) (sa1 : Option Addr) (sl1 sc1 : Nat) (c2 : Array Value) (w : World) (h0 : IsTable w c0.toList) (h1 : IsSl 10 (fun w c => IsOp w c) w [.slice sa1 sl1 sc1]) (h2 : IsOp w c2.toList) :
    Calls Try.prog 5 #[.agg c0, .slice sa1 sl1 sc1, .agg c2] w fun e w' => e = .returned (.bool true) ∧ Below w.heap.size w w' := by
  obtain ⟨A, cp, rows, md, e0, hA, hc⟩ := isTable h0
  obtain ⟨l, rfl, hL, hl⟩ := isOps h1
  obtain ⟨o, _, e2⟩ := isOp h2
  rw [e0, e2]
  exact (tableApplies_any hA hc hL hl o).mono fun _ _ h => ⟨h.1, h.2.below⟩

end Go.Proofs.Ytpkcohhfkeinmaa
