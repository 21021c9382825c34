/- The law ClientViews: it tells true of every input, and leaves its arguments as they were. Conditions: none. -/
import Derived.Test.YtnhdojckpcbjeaaGreatDoorZb
import Derived.Test.YtnhdojckpcbjeaaGreatDoorCards
import Derived.Test.YtnhdojckpcbjeaaGreatDoorTie
import Derived.Test.YtnhdojckpcbjeaaGreatDoorZr
import Derived.Test.YtnhdojckpcbjeaaGreatDoorZs
import Derived.WalkKit
import Derived.ProofKit
import Derived.OpenShut
import Derived.Deep.DeepHandedRow
import Derived.Lib.LaidTab
import Derived.SevenTiedAt
import Derived.Stop.LaidErr
set_option linter.unusedSimpArgs false
set_option linter.unusedVariables false
set_option maxHeartbeats 2000000
set_option maxRecDepth 100000
namespace Go.Proofs.YtnhdojckpcbjeaaGreatDoor.lawClientViews
open Go Go.Gw Go.ChangeShapes Go.WideShapes Go.ChangeAt Go.RowKit
theorem joined:joinedFacts Tryz.prog 9 Tryz.f9 (OpenSpec.ofChange Rows.clientViewsSpec).bare Rows.clientViewsRow=true:=by
 unfold joinedFacts;rw[j0,j1,j2,j3,j4,j5];kernel_rfl
theorem s1:Tryz.pinned.checked.prog.funcNamed Rows.clientViewsRow.func=some 9:=by kernel_rfl
theorem s2:Tryz.f9.isInstance Tryz.pinned.checked.prog Rows.clientViewsRow.origin Rows.clientViewsRow.targs:=AlW (by kernel_rfl)
theorem s3:Tryz.f9.isWrapper Tryz.pinned.checked.prog Rows.clientViewsRow.wrapper Rows.clientViewsRow.mainSum:=by unfold Func.isWrapper; first|(rw[Ak3 (by decide+kernel)]; kernel_rfl)|(rw[Ak1 (by decide+kernel)]; exact⟨rfl,rfl⟩)
theorem s4:joinedFacts Tryz.pinned.checked.prog 9 Tryz.f9 (OpenSpec.ofChange Rows.clientViewsSpec).bare Rows.clientViewsRow=true:=joined
end Go.Proofs.YtnhdojckpcbjeaaGreatDoor.lawClientViews
