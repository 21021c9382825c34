/- The law ClientMakes: it tells true of every input, and leaves its arguments as they were. Conditions: none. -/
import Derived.Test.YtnhdojckpcbjeaaGreatDoorZb
import Derived.Test.YtnhdojckpcbjeaaGreatDoorCards
import Derived.Test.YtnhdojckpcbjeaaGreatDoorTie
import Derived.Test.YtnhdojckpcbjeaaGreatDoorZs
import Derived.Test.YtnhdojckpcbjeaaGreatDoorZt
import Derived.WalkKit
import Derived.ProofKit
import Derived.OpenShut
import Derived.Deep.DeepHandedRow
import Derived.Lib.LaidTab
import Derived.SevenTiedAt
import Derived.Stop.LaidErr
set_option linter.unusedSimpArgs false
set_option linter.unusedVariables false
set_option maxHeartbeats 2000000
set_option maxRecDepth 100000
namespace Go.Proofs.YtnhdojckpcbjeaaGreatDoor.lawClientMakes
open Go Go.Gw Go.ChangeShapes Go.WideShapes Go.ChangeAt Go.RowKit
theorem joined:joinedFacts Tryz.prog 3 Tryz.f3 (OpenSpec.ofChange Rows.clientMakesSpec).bare Rows.clientMakesRow=true:=by
 unfold joinedFacts;rw[j0,j1,j2,j3,j4,j5];kernel_rfl
theorem s1:Tryz.pinned.checked.prog.funcNamed Rows.clientMakesRow.func=some 3:=by kernel_rfl
theorem s2:Tryz.f3.isInstance Tryz.pinned.checked.prog Rows.clientMakesRow.origin Rows.clientMakesRow.targs:=AoN (by kernel_rfl)
theorem s3:Tryz.f3.isWrapper Tryz.pinned.checked.prog Rows.clientMakesRow.wrapper Rows.clientMakesRow.mainSum:=by unfold Func.isWrapper; first|(rw[AnT (by decide+kernel)]; kernel_rfl)|(rw[AnW (by decide+kernel)]; exact⟨rfl,rfl⟩)
theorem s4:joinedFacts Tryz.pinned.checked.prog 3 Tryz.f3 (OpenSpec.ofChange Rows.clientMakesSpec).bare Rows.clientMakesRow=true:=joined
end Go.Proofs.YtnhdojckpcbjeaaGreatDoor.lawClientMakes
