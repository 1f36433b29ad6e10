
/- TableTells' walk. -/
import Derived.Test.YtpkcohhfkeinmaaStT
import Derived.Test.YtpkcohhfkeinmaaTabArgs
namespace Go.Proofs.Ytpkcohhfkeinmaa
open Go.RowKit
set_option linter.unusedVariables false

theorem isArr2 {w : World} {cs : Array Value} (h : IsArr2int w cs.toList) : ∃ a b : Int, Value.agg cs = .agg #[.int .i64 a, .int .i64 b] := by
  obtain ⟨l⟩ := cs
  obtain ⟨c0, c1, rfl, ⟨k, rfl, hk⟩, ⟨a, rfl, ha⟩⟩ := h
  exact ⟨k, a, rfl⟩
theorem TableTells_walk (c0 : Array Value) (sa1 : Option Addr) (sl1 sc1 : Nat) (c2 : Array Value) (w : World) (h0 : IsTable w c0.toList) (h1 : IsSl 10 (fun w c => IsOp w c) w [.slice sa1 sl1 sc1]) (h2 : IsArr2int w c2.toList) :
    Calls Try.prog 3 #[.agg c0, .slice sa1 sl1 sc1, .agg c2] w fun e w' => e = .returned (.bool true) ∧ Below w.heap.size w w' := by
  obtain ⟨A, cp, rows, md, e0, hA, hc⟩ := isTable h0
  obtain ⟨l, rfl, hL, hl⟩ := isOps h1
  obtain ⟨q0, q1, e2⟩ := isArr2 h2
  rw [e0, e2]
  exact (tableTells_any hA hc hL hl q0 q1).mono fun _ _ h => ⟨h.1, h.2.below⟩

end Go.Proofs.Ytpkcohhfkeinmaa
