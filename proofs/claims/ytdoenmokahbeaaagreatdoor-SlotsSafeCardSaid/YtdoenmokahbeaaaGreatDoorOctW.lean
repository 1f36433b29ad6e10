
/- octet.Writer: what each of its methods puts. -/
import Derived.Test.YtdoenmokahbeaaaGreatDoorBu
import Derived.Test.YtdoenmokahbeaaaGreatDoorPure3
import Derived.Shelf.Strconv.Itoa0
import Derived.StillTailTactics
import Derived.BigQuiet
namespace Go.Proofs
open Go.Shelf
namespace YtdoenmokahbeaaaGreatDoor
open Go.RowKit
set_option linter.unusedVariables false

def encText (s : List UInt8) : List UInt8 := encNum s.length ++ s
def encFlag (f : Bool) : List UInt8 := encNum (if f then 1 else 0)

theorem encNum_len (n : Nat) (h : n < 18446744073709551616) : (encNum n).length ≤ 9 := by
  have := beb_len8 n h
  simp [encNum]; omega

end YtdoenmokahbeaaaGreatDoor
end Go.Proofs
