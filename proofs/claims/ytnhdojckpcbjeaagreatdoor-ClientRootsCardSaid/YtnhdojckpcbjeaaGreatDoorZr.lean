/- The law ClientRoots: it tells true of every input, and leaves its arguments as they were. Conditions: none. -/
import Derived.Test.YtnhdojckpcbjeaaGreatDoorZb
import Derived.Test.YtnhdojckpcbjeaaGreatDoorCards
import Derived.Test.YtnhdojckpcbjeaaGreatDoorTie
import Derived.WalkKit
import Derived.ProofKit
import Derived.OpenShut
import Derived.Deep.DeepHandedRow
import Derived.Lib.LaidTab
import Derived.SevenTiedAt
import Derived.Stop.LaidErr
set_option linter.unusedSimpArgs false
set_option linter.unusedVariables false
set_option maxHeartbeats 2000000
set_option maxRecDepth 100000
namespace Go.Proofs.YtnhdojckpcbjeaaGreatDoor.lawClientRoots
open Go Go.Gw Go.ChangeShapes Go.WideShapes Go.ChangeAt Go.RowKit
theorem j0:laidOutB Tryz.prog=true:=by kernel_rfl
theorem j1:mapsRowed Tryz.prog=true:=by kernel_rfl
theorem j2:(Rows.clientRootsRow.inPlace==Tryz.prog.inPlace 7)=true:=by kernel_rfl
theorem j3:(Rows.clientRootsRow.unfollowed==Tryz.prog.unfollowed 7)=true:=by kernel_rfl
theorem j4:(Rows.clientRootsRow.recurses==Tryz.prog.recurses 7)=true:=by kernel_rfl
theorem j5:(Rows.clientRootsRow.named==Tryz.prog.varsNamed 7)=true:=by kernel_rfl
theorem joined:joinedFacts Tryz.prog 7 Tryz.f7 (OpenSpec.ofChange Rows.clientRootsSpec).bare Rows.clientRootsRow=true:=by
 unfold joinedFacts;rw[j0,j1,j2,j3,j4,j5];kernel_rfl
theorem s1:Tryz.pinned.checked.prog.funcNamed Rows.clientRootsRow.func=some 7:=by kernel_rfl
theorem s2:Tryz.f7.isInstance Tryz.pinned.checked.prog Rows.clientRootsRow.origin Rows.clientRootsRow.targs:=AiU (by kernel_rfl)
theorem s3:Tryz.f7.isWrapper Tryz.pinned.checked.prog Rows.clientRootsRow.wrapper Rows.clientRootsRow.mainSum:=by unfold Func.isWrapper; first|(rw[Ain (by decide+kernel)]; kernel_rfl)|(rw[Ail (by decide+kernel)]; exact⟨rfl,rfl⟩)
theorem s4:joinedFacts Tryz.pinned.checked.prog 7 Tryz.f7 (OpenSpec.ofChange Rows.clientRootsSpec).bare Rows.clientRootsRow=true:=joined
end Go.Proofs.YtnhdojckpcbjeaaGreatDoor.lawClientRoots
