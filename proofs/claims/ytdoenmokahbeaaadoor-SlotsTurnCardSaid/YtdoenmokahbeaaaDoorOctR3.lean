
/- octet.Reader's methods, whatever is left. -/
import Derived.Test.YtdoenmokahbeaaaDoorOctR2
namespace Go.Proofs.YtdoenmokahbeaaaDoor
open Go.RowKit
set_option linter.unusedVariables false
attribute [local go_sem] str_get str_cut

end Go.Proofs.YtdoenmokahbeaaaDoor
