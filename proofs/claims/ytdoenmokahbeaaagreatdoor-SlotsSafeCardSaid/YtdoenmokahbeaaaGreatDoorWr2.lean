
/- octet.Writer's other methods, block by block. -/
import Derived.Test.YtdoenmokahbeaaaGreatDoorWr
namespace Go.Proofs.YtdoenmokahbeaaaGreatDoor
open Go.RowKit
set_option linter.unusedVariables false

end Go.Proofs.YtdoenmokahbeaaaGreatDoor
