/- Wk25t. -/
import Derived.Test.YtoeinhlmkpgjhaaDoorPk4
namespace Go.Proofs.YtoeinhlmkpgjhaaDoor
open Go.RowKit
set_option linter.unusedVariables false
theorem LinesTasks_walk (c0 : Array Value) (w : World) (hsh : w.ShapedOpen Tryd.prog) (hL : laidMetH Tryd.prog Rows.linesTasksRow.laid w) (h0 : IsArr5int w c0.toList) :
    Calls Tryd.prog 4 #[.agg c0] w fun e w' => e = .returned (.bool true) ∧ Below w.heap.size w w' := by
  obtain ⟨x0, x1, x2, x3, x4, he, ⟨n0, rfl, _⟩, ⟨n1, rfl, _⟩, ⟨n2, rfl, _⟩, ⟨n3, rfl, _⟩, ⟨n4, rfl, _⟩⟩ := h0
  have hc : c0 = #[.int .i64 n0, .int .i64 n1, .int .i64 n2, .int .i64 n3, .int .i64 n4] := Array.toList_inj.1 he
  subst hc
  exact (linesTasks_any (gb_of hsh hL)).mono fun _ _ h => ⟨h.1, h.2.below⟩
end Go.Proofs.YtoeinhlmkpgjhaaDoor
