
/- Chapter 07's walks: none comes of none. -/
import Derived.Test.YtdoenmokahbeaaaDoorWlB
import Derived.Test.YtdoenmokahbeaaaDoorArgs0
namespace Go.Proofs.YtdoenmokahbeaaaDoor
open Go.RowKit
set_option linter.unusedVariables false

theorem i64_rng {x : Int} (h2 : (Lit.int .i64 x).wf = true) : -9223372036854775808 ≤ x ∧ x ≤ 9223372036854775807 := by
  simp [Lit.wf, IntKind.min, IntKind.max, IntKind.signed, IntKind.bits] at h2
  exact ⟨by omega, by omega⟩
theorem WalNil_walk (x0 : Int) (x1 : Int) (x2 : Int) (w : World) (h0 : IsInt .i64 [.int .i64 x0]) (h1 : IsInt .i64 [.int .i64 x1]) (h2 : IsInt .i64 [.int .i64 x2]) :
    Calls Tryd.prog 10 #[.int .i64 x0, .int .i64 x1, .int .i64 x2] w fun e w' => e = .returned (.bool true) ∧ Below w.heap.size w w' :=
  (lWalNil_c x0 x1 x2 (i64_rng (isInt h1)) (i64_rng (isInt h2)) w).mono fun _ _ h => ⟨h.1, h.2.below⟩

theorem WalFull_walk (x0 : Int) (x1 : Int) (w : World) (h0 : IsInt .i64 [.int .i64 x0]) (h1 : IsInt .i64 [.int .i64 x1]) :
    Calls Tryd.prog 9 #[.int .i64 x0, .int .i64 x1] w fun e w' => e = .returned (.bool true) ∧ Below w.heap.size w w' :=
  (lWalFull_c x0 x1 w).mono fun _ _ h => ⟨h.1, h.2.below⟩

end Go.Proofs.YtdoenmokahbeaaaDoor
