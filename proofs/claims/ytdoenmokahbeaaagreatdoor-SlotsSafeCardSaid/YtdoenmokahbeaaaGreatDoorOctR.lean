
/- octet.Reader: what each of its methods takes. -/
import Derived.Test.YtdoenmokahbeaaaGreatDoorOctW
import Derived.Deep.QuietTactic
namespace Go.Proofs.YtdoenmokahbeaaaGreatDoor
open Go.RowKit
set_option linter.unusedVariables false
attribute [local go_sem] str_get str_cut

/-- The first test of Num. -/
def numBad (st : Option (List UInt8)) : Prop :=
  match st with
  | none => True
  | some [] => True
  | some (k :: t) => 8 < k.toNat ∨ t.length < k.toNat

end Go.Proofs.YtdoenmokahbeaaaGreatDoor
