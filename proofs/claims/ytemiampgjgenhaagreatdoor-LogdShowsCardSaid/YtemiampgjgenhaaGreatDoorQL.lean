/- The chapter's example, by calculation. Conditions: none. -/
import Derived.Test.YtemiampgjgenhaaGreatDoorWkD
import Derived.KernelRfl
set_option linter.unusedSimpArgs false
set_option linter.unusedVariables false
set_option maxHeartbeats 20000000
set_option maxRecDepth 100000
namespace Go.Proofs.YtemiampgjgenhaaGreatDoor
open Go Go.Gw
theorem live24_true : m_law24_live = some true := by kernel_rfl
end Go.Proofs.YtemiampgjgenhaaGreatDoor
