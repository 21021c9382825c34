/- The law ClientMakes: it tells true of every input, and leaves its arguments as they were. Conditions: none. -/
import Derived.Test.YtnhdojckpcbjeaaGreatDoorZb
import Derived.Test.YtnhdojckpcbjeaaGreatDoorZo
import Derived.Test.YtnhdojckpcbjeaaGreatDoorZq
import Derived.Test.YtnhdojckpcbjeaaGreatDoorCards
import Derived.Test.YtnhdojckpcbjeaaGreatDoorTie
import Derived.Test.YtnhdojckpcbjeaaGreatDoorZr
import Derived.Test.YtnhdojckpcbjeaaGreatDoorZu
import Derived.WalkKit
import Derived.ProofKit
import Derived.OpenShut
import Derived.Deep.DeepHandedRow
import Derived.Lib.LaidTab
import Derived.SevenTiedAt
import Derived.Stop.LaidErr
set_option linter.unusedSimpArgs false
set_option linter.unusedVariables false
set_option maxHeartbeats 2000000
set_option maxRecDepth 100000
namespace Go.Proofs.YtnhdojckpcbjeaaGreatDoor.lawClientMakes
open Go Go.Gw Go.ChangeShapes Go.WideShapes Go.ChangeAt Go.RowKit
theorem s5 (os:Os)(started:os.Started)(H:Type)(enc:TypeId×Value->H)(F:Stop.Interp):ReturnsInHanded Rows.clientMakesRow.assume Tryz.pinned.checked os 3 .any (Rows.clientMakesRow.pre enc Tryz.pinned.checked.prog Tryz.f3 (OpenSpec.ofChange Rows.clientMakesSpec)) (((OpenSpec.ofChange Rows.clientMakesSpec).at F).post enc Tryz.pinned.checked.prog Tryz.f3 Rows.clientMakesRow.apart Rows.clientMakesRow.fresh Rows.clientMakesRow.handsOn Rows.clientMakesRow.again):=by rw[OpenClaim.pre_eq_preRow]; exact lifted os started H enc F
theorem said:Rows.ClientMakesSaid:=
 OpenClaim.holds_of_cond 3 Tryz.f3 rfl rfl rfl rfl rfl rfl rfl ⟨rfl,rfl,rfl,rfl,rfl⟩ rfl rfl rfl rfl rfl s1 Tryz.func3 s4 s2 s3 (λos started H enc _ F=>s5 os started H enc F)
end Go.Proofs.YtnhdojckpcbjeaaGreatDoor.lawClientMakes
