/- Proved here: what some functions of the program take and give: walks with the words of VA..VQ. Printed by program. -/
import Derived.Test.YtfnkphllkbkfaaaDoorWT
import Derived.Test.YtfnkphllkbkfaaaDoorBpa
import Derived.Test.YtfnkphllkbkfaaaDoorWN
import Derived.Test.YtfnkphllkbkfaaaDoorWB
import Derived.Test.YtfnkphllkbkfaaaDoorWL
import Derived.Test.YtfnkphllkbkfaaaDoorWX
import Derived.Test.YtfnkphllkbkfaaaDoorWM
import Derived.Test.YtfnkphllkbkfaaaDoorWY
set_option linter.unusedVariables false
set_option linter.unusedSimpArgs false
set_option maxRecDepth 4000
namespace Go.Proofs.YtfnkphllkbkfaaaDoor.VL
open Go
end Go.Proofs.YtfnkphllkbkfaaaDoor.VL
