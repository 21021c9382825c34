/- The document's examples, by calculation. Conditions: none. -/
import Derived.Test.YtohipjalgccmnaaDoorWkF
import Derived.KernelRfl
set_option linter.unusedSimpArgs false
set_option linter.unusedVariables false
set_option maxHeartbeats 20000000
set_option maxRecDepth 100000
namespace Go.Proofs.YtohipjalgccmnaaDoor
open Go Go.Gw
theorem live_true : m_law08_live = some true := by kernel_rfl
end Go.Proofs.YtohipjalgccmnaaDoor
