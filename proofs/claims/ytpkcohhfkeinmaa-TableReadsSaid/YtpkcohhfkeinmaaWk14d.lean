
/- TableReads' walk. -/
import Derived.Test.YtpkcohhfkeinmaaStW
import Derived.Test.YtpkcohhfkeinmaaTabArgs
namespace Go.Proofs.Ytpkcohhfkeinmaa
open Go.RowKit
set_option linter.unusedVariables false

theorem TableReads_walk (sa0 : Option Addr) (sl0 sc0 : Nat) (x1 : ByteArray) (c2 : Array Value) (w : World) (h0 : IsSl 10 (fun w c => IsOp w c) w [.slice sa0 sl0 sc0]) (h1 : IsStr [.string x1]) (h2 : IsArr3int w c2.toList) :
    Calls Try.prog 4 #[.slice sa0 sl0 sc0, .string x1, .agg c2] w fun e w' => e = .returned (.bool true) ∧ Below w.heap.size w w' := by
  obtain ⟨l, rfl, hL, hl⟩ := isOps h0
  obtain ⟨t, rfl, ht⟩ := isStr h1
  obtain ⟨a, b, c, hq⟩ := isArr3 h2
  rw [hq]
  exact (tableReads_any hL hl t ht a b c).mono fun _ _ h => ⟨h.1, h.2.below⟩

end Go.Proofs.Ytpkcohhfkeinmaa
