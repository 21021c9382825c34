/- The law TopTwice: it tells true of every input, and leaves its arguments as they were. Conditions: none. -/
import Derived.Test.YtlahakpgjlmeaaaGreatDoorZa
import Derived.Test.YtlahakpgjlmeaaaGreatDoorZb
import Derived.Test.YtlahakpgjlmeaaaGreatDoorCards
import Derived.Test.YtlahakpgjlmeaaaGreatDoorTie
import Derived.Test.YtlahakpgjlmeaaaGreatDoorZr
import Derived.Test.YtlahakpgjlmeaaaGreatDoorZs
import Derived.WalkKit
import Derived.ProofKit
import Derived.OpenShut
import Derived.Deep.DeepHandedRow
import Derived.Lib.LaidTab
import Derived.SevenTiedAt
import Derived.Stop.LaidErr
set_option linter.unusedSimpArgs false
set_option linter.unusedVariables false
set_option maxHeartbeats 2000000
set_option maxRecDepth 100000
namespace Go.Proofs.YtlahakpgjlmeaaaGreatDoor.lawTopTwice
open Go Go.Gw Go.ChangeShapes Go.WideShapes Go.ChangeAt Go.RowKit
theorem joined:joinedFacts Tryz.prog 3 Tryz.f3 (OpenSpec.ofChange Rows.topTwiceSpec).bare Rows.topTwiceRow=true:=by
 unfold joinedFacts;rw[j0,j1,j2,j3,j4,j5];kernel_rfl
theorem s1:Tryz.pinned.checked.prog.funcNamed Rows.topTwiceRow.func=some 3:=by kernel_rfl
theorem s2:Tryz.f3.isInstance Tryz.pinned.checked.prog Rows.topTwiceRow.origin Rows.topTwiceRow.targs:=of_decide_eq_true (by kernel_rfl)
theorem s3:Tryz.f3.isWrapper Tryz.pinned.checked.prog Rows.topTwiceRow.wrapper Rows.topTwiceRow.mainSum:=by unfold Func.isWrapper; first|(rw[AkA (by decide+kernel)]; kernel_rfl)|(rw[Aky (by decide+kernel)]; exact⟨rfl,rfl⟩)
theorem s4:joinedFacts Tryz.pinned.checked.prog 3 Tryz.f3 (OpenSpec.ofChange Rows.topTwiceSpec).bare Rows.topTwiceRow=true:=joined
end Go.Proofs.YtlahakpgjlmeaaaGreatDoor.lawTopTwice
