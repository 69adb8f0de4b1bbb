/- Proved here: what some functions of the program take and give: walks with the words of VA..VQ. Printed by program. -/
import Derived.Test.YtcaeabgfgofefaaDoorWT
import Derived.Test.YtcaeabgfgofefaaDoorPH
import Derived.Test.YtcaeabgfgofefaaDoorWK
import Derived.Test.YtcaeabgfgofefaaDoorWD
set_option linter.unusedVariables false
set_option linter.unusedSimpArgs false
set_option maxRecDepth 4000
namespace Go.Proofs.YtcaeabgfgofefaaDoor.VL
open Go
end Go.Proofs.YtcaeabgfgofefaaDoor.VL
