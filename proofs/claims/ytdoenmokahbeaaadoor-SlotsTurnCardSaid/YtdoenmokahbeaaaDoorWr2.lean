
/- octet.Writer's other methods, block by block. -/
import Derived.Test.YtdoenmokahbeaaaDoorWr
namespace Go.Proofs.YtdoenmokahbeaaaDoor
open Go.RowKit
set_option linter.unusedVariables false

end Go.Proofs.YtdoenmokahbeaaaDoor
