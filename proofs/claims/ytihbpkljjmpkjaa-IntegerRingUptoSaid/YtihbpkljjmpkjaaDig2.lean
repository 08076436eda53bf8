/- The walks of package digits, second part: Plain, Parse. -/
import Derived.Test.YtihbpkljjmpkjaaDig
import Derived.Test.YtihbpkljjmpkjaaKI
import Derived.Test.YtihbpkljjmpkjaaKD
set_option linter.unusedVariables false
set_option linter.unusedSimpArgs false
namespace Go.Proofs.Ytihbpkljjmpkjaa
open Go.RowKit
set_option maxRecDepth 100000
end Go.Proofs.Ytihbpkljjmpkjaa
