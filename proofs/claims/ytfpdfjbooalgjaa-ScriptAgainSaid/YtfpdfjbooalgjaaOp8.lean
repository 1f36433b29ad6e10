
/- The chapter's example. -/
import Derived.Test.YtfpdfjbooalgjaaOp7
namespace Go.Proofs.Ytfpdfjbooalgjaa
open Go.RowKit
set_option linter.unusedVariables false
set_option linter.unusedSimpArgs false

end Go.Proofs.Ytfpdfjbooalgjaa
