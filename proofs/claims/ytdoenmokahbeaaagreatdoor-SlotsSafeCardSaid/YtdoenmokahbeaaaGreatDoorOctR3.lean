
/- octet.Reader's methods, whatever is left. -/
import Derived.Test.YtdoenmokahbeaaaGreatDoorOctR2
namespace Go.Proofs.YtdoenmokahbeaaaGreatDoor
open Go.RowKit
set_option linter.unusedVariables false
attribute [local go_sem] str_get str_cut

end Go.Proofs.YtdoenmokahbeaaaGreatDoor
