
/- The document's answer for octet, walked. -/
import Derived.Test.YtdoenmokahbeaaaGreatDoorOctR3
import Derived.Lib.ConvBytes
import Derived.Laws.BytesString
import Derived.Laws.BytesArg
import Derived.Deep.RegionHeld3
namespace Go.Proofs.YtdoenmokahbeaaaGreatDoor
open Go.RowKit
set_option linter.unusedVariables false

theorem run_str1 (w : World) (n : Int) : (convert 87 9 (.slice (some ⟨w.heap.size, 0, none⟩) 1 1)).run Tryz.prog (w.alloc (.cells #[.int .u8 n] 5)) =
    .ok (.string ⟨[UInt8.ofNat n.toNat].toArray⟩) (w.alloc (.cells #[.int .u8 n] 5)) := by
  rw [run_convert_bytes_arg (w.alloc (.cells #[.int .u8 n] 5)) 87 5 Tryz.underlying87 Tryz.underlying5 w.heap.size 0 1 1 [n] rfl ?_ 9 Tryz.underlying9]
  · rfl
  · intro i hi
    obtain rfl : i = 0 := by omega
    exact cell_at (heap_alloc_new' w _) 0 rfl

attribute [local go_sem] str_get str_cut run_str1 str_app str_app1 str_app0

end Go.Proofs.YtdoenmokahbeaaaGreatDoor
