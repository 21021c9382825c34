/- The law ClientMore: it tells true of every input, and leaves its arguments as they were. Conditions: none. -/
import Derived.Test.YtnhdojckpcbjeaaGreatDoorZb
import Derived.Test.YtnhdojckpcbjeaaGreatDoorCards
import Derived.Test.YtnhdojckpcbjeaaGreatDoorTie
import Derived.Test.YtnhdojckpcbjeaaGreatDoorZq
import Derived.Test.YtnhdojckpcbjeaaGreatDoorZr
import Derived.WalkKit
import Derived.ProofKit
import Derived.OpenShut
import Derived.Deep.DeepHandedRow
import Derived.Lib.LaidTab
import Derived.SevenTiedAt
import Derived.Stop.LaidErr
set_option linter.unusedSimpArgs false
set_option linter.unusedVariables false
set_option maxHeartbeats 2000000
set_option maxRecDepth 100000
namespace Go.Proofs.YtnhdojckpcbjeaaGreatDoor.lawClientMore
open Go Go.Gw Go.ChangeShapes Go.WideShapes Go.ChangeAt Go.RowKit
theorem joined:joinedFacts Tryz.prog 5 Tryz.f5 (OpenSpec.ofChange Rows.clientMoreSpec).bare Rows.clientMoreRow=true:=by
 unfold joinedFacts;rw[j0,j1,j2,j3,j4,j5];kernel_rfl
theorem s1:Tryz.pinned.checked.prog.funcNamed Rows.clientMoreRow.func=some 5:=by kernel_rfl
theorem s2:Tryz.f5.isInstance Tryz.pinned.checked.prog Rows.clientMoreRow.origin Rows.clientMoreRow.targs:=AiS (by kernel_rfl)
theorem s3:Tryz.f5.isWrapper Tryz.pinned.checked.prog Rows.clientMoreRow.wrapper Rows.clientMoreRow.mainSum:=by unfold Func.isWrapper; first|(rw[AhZ (by decide+kernel)]; kernel_rfl)|(rw[AhX (by decide+kernel)]; exact⟨rfl,rfl⟩)
theorem s4:joinedFacts Tryz.pinned.checked.prog 5 Tryz.f5 (OpenSpec.ofChange Rows.clientMoreSpec).bare Rows.clientMoreRow=true:=joined
end Go.Proofs.YtnhdojckpcbjeaaGreatDoor.lawClientMore
