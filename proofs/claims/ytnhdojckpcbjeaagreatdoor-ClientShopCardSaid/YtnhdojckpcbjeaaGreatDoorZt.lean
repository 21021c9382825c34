/- The law ClientShop: it tells true of every input, and leaves its arguments as they were. Conditions: none. -/
import Derived.Test.YtnhdojckpcbjeaaGreatDoorZb
import Derived.Test.YtnhdojckpcbjeaaGreatDoorCards
import Derived.Test.YtnhdojckpcbjeaaGreatDoorTie
import Derived.Test.YtnhdojckpcbjeaaGreatDoorZr
import Derived.Test.YtnhdojckpcbjeaaGreatDoorZs
import Derived.WalkKit
import Derived.ProofKit
import Derived.OpenShut
import Derived.Deep.DeepHandedRow
import Derived.Lib.LaidTab
import Derived.SevenTiedAt
import Derived.Stop.LaidErr
set_option linter.unusedSimpArgs false
set_option linter.unusedVariables false
set_option maxHeartbeats 2000000
set_option maxRecDepth 100000
namespace Go.Proofs.YtnhdojckpcbjeaaGreatDoor.lawClientShop
open Go Go.Gw Go.ChangeShapes Go.WideShapes Go.ChangeAt Go.RowKit
theorem joined:joinedFacts Tryz.prog 6 Tryz.f6 (OpenSpec.ofChange Rows.clientShopSpec).bare Rows.clientShopRow=true:=by
 unfold joinedFacts;rw[j0,j1,j2,j3,j4,j5];kernel_rfl
theorem s1:Tryz.pinned.checked.prog.funcNamed Rows.clientShopRow.func=some 6:=by kernel_rfl
theorem s2:Tryz.f6.isInstance Tryz.pinned.checked.prog Rows.clientShopRow.origin Rows.clientShopRow.targs:=Amx (by kernel_rfl)
theorem s3:Tryz.f6.isWrapper Tryz.pinned.checked.prog Rows.clientShopRow.wrapper Rows.clientShopRow.mainSum:=by unfold Func.isWrapper; first|(rw[AlH (by decide+kernel)]; kernel_rfl)|(rw[AlG (by decide+kernel)]; exact⟨rfl,rfl⟩)
theorem s4:joinedFacts Tryz.pinned.checked.prog 6 Tryz.f6 (OpenSpec.ofChange Rows.clientShopSpec).bare Rows.clientShopRow=true:=joined
end Go.Proofs.YtnhdojckpcbjeaaGreatDoor.lawClientShop
