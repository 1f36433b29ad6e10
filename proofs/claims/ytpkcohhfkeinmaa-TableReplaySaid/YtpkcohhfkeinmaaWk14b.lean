
/- TableReplays' and TableReplay's walks. -/
import Derived.Test.YtpkcohhfkeinmaaSt8
import Derived.Test.YtpkcohhfkeinmaaTabArgs
namespace Go.Proofs.Ytpkcohhfkeinmaa
open Go.RowKit
set_option linter.unusedVariables false

theorem isArr2 {w : World} {cs : Array Value} (h : IsArr2int w cs.toList) : ∃ a b : Int, Value.agg cs = .agg #[.int .i64 a, .int .i64 b] := by
  obtain ⟨l⟩ := cs
  obtain ⟨c0, c1, rfl, ⟨k, rfl, hk⟩, ⟨a, rfl, ha⟩⟩ := h
  exact ⟨k, a, rfl⟩
theorem TableReplays_walk (sa0 : Option Addr) (sl0 sc0 : Nat) (sa1 : Option Addr) (sl1 sc1 : Nat) (c2 : Array Value) (w : World) (h0 : IsSl 10 (fun w c => IsOp w c) w [.slice sa0 sl0 sc0]) (h1 : IsSl 10 (fun w c => IsOp w c) w [.slice sa1 sl1 sc1]) (h2 : IsArr2int w c2.toList) :
    Calls Try.prog 7 #[.slice sa0 sl0 sc0, .slice sa1 sl1 sc1, .agg c2] w fun e w' => e = .returned (.bool true) ∧ Below w.heap.size w w' := by
  obtain ⟨l, rfl, hL, hl⟩ := isOps h0
  obtain ⟨m, rfl, hM, hm⟩ := isOps h1
  obtain ⟨q0, q1, e2⟩ := isArr2 h2
  rw [e2]
  exact (tableReplays_any hL hl hM hm q0 q1).mono fun _ _ h => ⟨h.1, h.2.below⟩
theorem TableReplay_walk (sa0 : Option Addr) (sl0 sc0 : Nat) (w : World) (h0 : IsSl 10 (fun w c => IsOp w c) w [.slice sa0 sl0 sc0]) :
    Calls Try.prog 9 #[.slice sa0 sl0 sc0] w fun e w' => e = .returned (.bool true) ∧ Below w.heap.size w w' := by
  obtain ⟨l, rfl, hL, hl⟩ := isOps h0
  exact (tableReplay_any hL hl).mono fun _ _ h => ⟨h.1, h.2.below⟩

end Go.Proofs.Ytpkcohhfkeinmaa
