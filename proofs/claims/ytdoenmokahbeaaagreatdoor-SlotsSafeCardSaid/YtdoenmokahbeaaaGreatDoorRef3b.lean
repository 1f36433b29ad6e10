
/- The document's reader: Num where it fails at once. -/
import Derived.Test.YtdoenmokahbeaaaGreatDoorRef3
namespace Go.Proofs.YtdoenmokahbeaaaGreatDoor
open Go.RowKit
set_option linter.unusedVariables false
attribute [local go_sem] str_get str_cut run_str1 str_app str_app1 str_app0

end Go.Proofs.YtdoenmokahbeaaaGreatDoor
