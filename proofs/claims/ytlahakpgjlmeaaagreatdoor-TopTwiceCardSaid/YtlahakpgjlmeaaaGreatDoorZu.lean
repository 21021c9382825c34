/- The law TopTwice: it tells true of every input, and leaves its arguments as they were. Conditions: none. -/
import Derived.Test.YtlahakpgjlmeaaaGreatDoorZa
import Derived.Test.YtlahakpgjlmeaaaGreatDoorZb
import Derived.Test.YtlahakpgjlmeaaaGreatDoorZn
import Derived.Test.YtlahakpgjlmeaaaGreatDoorZp
import Derived.Test.YtlahakpgjlmeaaaGreatDoorCards
import Derived.Test.YtlahakpgjlmeaaaGreatDoorTie
import Derived.Test.YtlahakpgjlmeaaaGreatDoorZq
import Derived.Test.YtlahakpgjlmeaaaGreatDoorZt
import Derived.WalkKit
import Derived.ProofKit
import Derived.OpenShut
import Derived.Deep.DeepHandedRow
import Derived.Lib.LaidTab
import Derived.SevenTiedAt
import Derived.Stop.LaidErr
set_option linter.unusedSimpArgs false
set_option linter.unusedVariables false
set_option maxHeartbeats 2000000
set_option maxRecDepth 100000
namespace Go.Proofs.YtlahakpgjlmeaaaGreatDoor.lawTopTwice
open Go Go.Gw Go.ChangeShapes Go.WideShapes Go.ChangeAt Go.RowKit
theorem s5 (os:Os)(started:os.Started)(H:Type)(enc:TypeId×Value→H)(F:Stop.Interp):ReturnsInHanded Rows.topTwiceRow.assume Tryz.pinned.checked os 3 .any (Rows.topTwiceRow.pre enc Tryz.pinned.checked.prog Tryz.f3 (OpenSpec.ofChange Rows.topTwiceSpec)) (((OpenSpec.ofChange Rows.topTwiceSpec).at F).post enc Tryz.pinned.checked.prog Tryz.f3 Rows.topTwiceRow.apart Rows.topTwiceRow.fresh Rows.topTwiceRow.handsOn Rows.topTwiceRow.again):=by rw[OpenClaim.pre_eq_preRow]; exact lifted os started H enc F
theorem said:Rows.TopTwiceSaid:=
 OpenClaim.holds_of_cond 3 Tryz.f3 rfl rfl rfl rfl rfl rfl rfl ⟨rfl,rfl,rfl,rfl,rfl⟩ rfl rfl rfl rfl rfl s1 Tryz.func3 s4 s2 s3 (fun os started H enc _ F=>s5 os started H enc F)
end Go.Proofs.YtlahakpgjlmeaaaGreatDoor.lawTopTwice
