
/- octet.Reader.Num at a length that fits. -/
import Derived.Test.YtdoenmokahbeaaaGreatDoorOctR
import Derived.Laws.BitsAllLaws
namespace Go.Proofs.YtdoenmokahbeaaaGreatDoor
open Go.RowKit
set_option linter.unusedVariables false
attribute [local go_sem] str_get str_cut

theorem or_step (a : Nat) (c : UInt8) (h : a < 72057594037927936) : bits BinOp.or IntKind.u64 (IntKind.u64.wrap ((a : Int) * 256)) (IntKind.u64.wrap (c.toNat : Int)) = ((a * 256 + c.toNat : Nat) : Int) := by
  have hc := c.toNat_lt
  have e1 : IntKind.u64.wrap ((a : Int) * 256) = ((a * 256 : Nat) : Int) := by
    rw [show ((a * 256 : Nat) : Int) = (a : Int) * 256 from by omega]
    exact IntWalk.u64_in _ (by omega)
  have e2 : IntKind.u64.wrap (c.toNat : Int) = (c.toNat : Int) := IntWalk.u64_in _ (by omega)
  rw [e1, e2, u64_or_nat _ _ (by omega) (by omega), nat_join 8 _ _ (by omega) (by omega)]

theorem beval_take_succ (t : List UInt8) (i : Nat) (h : i < t.length) : beval (t.take (i + 1)) = beval (t.take i) * 256 + t[i].toNat := by
  rw [List.take_add_one, List.getElem?_eq_getElem h]
  exact beval_snoc _ _

theorem beval_small (t : List UInt8) (i : Nat) (h : i < 8) : beval (t.take i) < 72057594037927936 := by
  have := beval_lt (t.take i)
  have h2 : 256 ^ (t.take i).length ≤ 256 ^ 7 := Nat.pow_le_pow_right (by omega) (by rw [List.length_take]; omega)
  exact Nat.lt_of_lt_of_le this h2

end Go.Proofs.YtdoenmokahbeaaaGreatDoor
