
/- The document's side of ops. -/
import Derived.Test.YtfpdfjbooalgjaaOp8
namespace Go.Proofs.Ytfpdfjbooalgjaa
open Go.RowKit
set_option linter.unusedVariables false
set_option linter.unusedSimpArgs false

end Go.Proofs.Ytfpdfjbooalgjaa
