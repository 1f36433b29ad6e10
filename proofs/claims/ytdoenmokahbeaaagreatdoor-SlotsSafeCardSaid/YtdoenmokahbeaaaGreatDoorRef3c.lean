
/- The document's reader: Num at a length that fits. -/
import Derived.Test.YtdoenmokahbeaaaGreatDoorRef3b
import Derived.Test.YtdoenmokahbeaaaGreatDoorMem2
import Derived.Lib.Hide
namespace Go.Proofs.YtdoenmokahbeaaaGreatDoor
open Go.RowKit
set_option linter.unusedVariables false
attribute [local go_sem] str_get str_cut run_str1 str_app str_app1 str_app0

theorem mul_step (a : Nat) (c : UInt8) (h : a < 72057594037927936) : IntKind.u64.wrap (IntKind.u64.wrap ((a : Int) * 256) + IntKind.u64.wrap (c.toNat : Int)) = ((a * 256 + c.toNat : Nat) : Int) := by
  have hc := c.toNat_lt
  have e1 : IntKind.u64.wrap ((a : Int) * 256) = (a : Int) * 256 := IntWalk.u64_in _ (by omega)
  have e2 : IntKind.u64.wrap (c.toNat : Int) = (c.toNat : Int) := IntWalk.u64_in _ (by omega)
  rw [e1, e2, IntWalk.u64_in _ (by omega)]
  omega

end Go.Proofs.YtdoenmokahbeaaaGreatDoor
