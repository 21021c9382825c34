/- Inverses, and that what is signed is right. Conditions: none but that keys are keys. -/
import Derived.Test.YtemiampgjgenhaaGreatQb
set_option linter.unusedSimpArgs false
set_option linter.unusedVariables false
set_option maxHeartbeats 2000000
set_option maxRecDepth 100000
namespace Go.Proofs.YtemiampgjgenhaaGreat
open Go Go.Gw

end Go.Proofs.YtemiampgjgenhaaGreat
