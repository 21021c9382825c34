/- The law ClientProves: it tells true of every input, and leaves its arguments as they were. Conditions: none. -/
import Derived.Test.YtnhdojckpcbjeaaGreatDoorZb
import Derived.Test.YtnhdojckpcbjeaaGreatDoorZo
import Derived.Test.YtnhdojckpcbjeaaGreatDoorZq
import Derived.Test.YtnhdojckpcbjeaaGreatDoorCards
import Derived.Test.YtnhdojckpcbjeaaGreatDoorTie
import Derived.Test.YtnhdojckpcbjeaaGreatDoorZr
import Derived.WalkKit
import Derived.ProofKit
import Derived.OpenShut
import Derived.Deep.DeepHandedRow
import Derived.Lib.LaidTab
import Derived.SevenTiedAt
import Derived.Stop.LaidErr
set_option linter.unusedSimpArgs false
set_option linter.unusedVariables false
set_option maxHeartbeats 2000000
set_option maxRecDepth 100000
namespace Go.Proofs.YtnhdojckpcbjeaaGreatDoor.lawClientProves
open Go Go.Gw Go.ChangeShapes Go.WideShapes Go.ChangeAt Go.RowKit
theorem j0:laidOutB Tryz.prog=true:=by kernel_rfl
theorem j1:mapsRowed Tryz.prog=true:=by kernel_rfl
theorem j2:(Rows.clientProvesRow.inPlace==Tryz.prog.inPlace 4)=true:=by kernel_rfl
theorem j3:(Rows.clientProvesRow.unfollowed==Tryz.prog.unfollowed 4)=true:=by kernel_rfl
theorem j4:(Rows.clientProvesRow.recurses==Tryz.prog.recurses 4)=true:=by kernel_rfl
theorem j5:(Rows.clientProvesRow.named==Tryz.prog.varsNamed 4)=true:=by kernel_rfl
theorem joined:joinedFacts Tryz.prog 4 Tryz.f4 (OpenSpec.ofChange Rows.clientProvesSpec).bare Rows.clientProvesRow=true:=by
 unfold joinedFacts;rw[j0,j1,j2,j3,j4,j5];kernel_rfl
theorem s1:Tryz.pinned.checked.prog.funcNamed Rows.clientProvesRow.func=some 4:=by kernel_rfl
theorem s2:Tryz.f4.isInstance Tryz.pinned.checked.prog Rows.clientProvesRow.origin Rows.clientProvesRow.targs:=AiO (by kernel_rfl)
theorem s3:Tryz.f4.isWrapper Tryz.pinned.checked.prog Rows.clientProvesRow.wrapper Rows.clientProvesRow.mainSum:=by unfold Func.isWrapper; first|(rw[Air (by decide+kernel)]; kernel_rfl)|(rw[Aip (by decide+kernel)]; exact⟨rfl,rfl⟩)
theorem s4:joinedFacts Tryz.pinned.checked.prog 4 Tryz.f4 (OpenSpec.ofChange Rows.clientProvesSpec).bare Rows.clientProvesRow=true:=joined
end Go.Proofs.YtnhdojckpcbjeaaGreatDoor.lawClientProves
