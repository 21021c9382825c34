/- The law TopTwice: it tells true of every input, and leaves its arguments as they were. Conditions: none. -/
import Derived.Test.YtlahakpgjlmeaaaGreatDoorZa
import Derived.Test.YtlahakpgjlmeaaaGreatDoorZb
import Derived.Test.YtlahakpgjlmeaaaGreatDoorCards
import Derived.Test.YtlahakpgjlmeaaaGreatDoorTie
import Derived.WalkKit
import Derived.ProofKit
import Derived.OpenShut
import Derived.Deep.DeepHandedRow
import Derived.Lib.LaidTab
import Derived.SevenTiedAt
import Derived.Stop.LaidErr
set_option linter.unusedSimpArgs false
set_option linter.unusedVariables false
set_option maxHeartbeats 2000000
set_option maxRecDepth 100000
namespace Go.Proofs.YtlahakpgjlmeaaaGreatDoor.lawTopTwice
open Go Go.Gw Go.ChangeShapes Go.WideShapes Go.ChangeAt Go.RowKit
theorem j0:laidOutB Tryz.prog=true:=by kernel_rfl
theorem j1:mapsRowed Tryz.prog=true:=by kernel_rfl
theorem j2:(Rows.topTwiceRow.inPlace==Tryz.prog.inPlace 3)=true:=by kernel_rfl
end Go.Proofs.YtlahakpgjlmeaaaGreatDoor.lawTopTwice
