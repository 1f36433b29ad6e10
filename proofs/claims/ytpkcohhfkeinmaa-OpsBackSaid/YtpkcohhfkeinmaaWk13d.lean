
/- The rows' walks of chapter 13. -/
import Derived.Test.YtpkcohhfkeinmaaSy3
import Derived.Test.YtpkcohhfkeinmaaOpArgs
namespace Go.Proofs.Ytpkcohhfkeinmaa
open Go.RowKit
set_option linter.unusedVariables false

theorem OpsWrite_walk (c0 : Array Value) (x1 : Int) (w : World) (h0 : IsOp w c0.toList) (h1 : IsInt .i64 [.int .i64 x1]) :
    Calls Try.prog 10 #[.agg c0, .int .i64 x1] w fun e w' => e = .returned (.bool true) ∧ Below w.heap.size w w' := by
  obtain ⟨o, _, he⟩ := isOp h0
  rw [he]
  exact (opsWrite_any o x1 w).mono fun _ _ h => ⟨h.1, h.2.below⟩
theorem OpsOne_walk (c0 : Array Value) (c1 : Array Value) (w : World) (h0 : IsOp w c0.toList) (h1 : IsOp w c1.toList) :
    Calls Try.prog 11 #[.agg c0, .agg c1] w fun e w' => e = .returned (.bool true) ∧ Below w.heap.size w w' := by
  obtain ⟨o, _, he⟩ := isOp h0
  obtain ⟨p, _, hp⟩ := isOp h1
  rw [he, hp]
  exact (opsOne_any o p w).mono fun _ _ h => ⟨h.1, h.2.below⟩
theorem OpsRead_walk (c0 : Array Value) (x1 : ByteArray) (c2 : Array Value) (w : World) (h0 : IsOp w c0.toList) (h1 : IsStr [.string x1]) (h2 : IsArr3int w c2.toList) :
    Calls Try.prog 14 #[.agg c0, .string x1, .agg c2] w fun e w' => e = .returned (.bool true) ∧ Below w.heap.size w w' := by
  obtain ⟨o, _, he⟩ := isOp h0
  obtain ⟨l, rfl, hl⟩ := isStr h1
  obtain ⟨a, b, c, hq⟩ := isArr3 h2
  rw [he, hq]
  exact (opsRead_any o l hl a b c w).mono fun _ _ h => ⟨h.1, h.2.below⟩
theorem OpsBack_walk (c0 : Array Value) (x1 : Int) (w : World) (h0 : IsOp w c0.toList) (h1 : IsInt .u8 [.int .u8 x1]) :
    Calls Try.prog 15 #[.agg c0, .int .u8 x1] w fun e w' => e = .returned (.bool true) ∧ Below w.heap.size w w' := by
  obtain ⟨o, _, he⟩ := isOp h0
  obtain ⟨u, rfl⟩ := u8_wf (isInt h1)
  rw [he]
  exact (opsBack_any o u w).mono fun _ _ h => ⟨h.1, h.2.below⟩

end Go.Proofs.Ytpkcohhfkeinmaa
