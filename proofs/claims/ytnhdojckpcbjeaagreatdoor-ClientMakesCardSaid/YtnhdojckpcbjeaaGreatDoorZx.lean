/- The law ClientMakes: it tells true of every input, and leaves its arguments as they were. Conditions: none. -/
import Derived.Test.YtnhdojckpcbjeaaGreatDoorZb
import Derived.Test.YtnhdojckpcbjeaaGreatDoorZo
import Derived.Test.YtnhdojckpcbjeaaGreatDoorZq
import Derived.Test.YtnhdojckpcbjeaaGreatDoorCards
import Derived.Test.YtnhdojckpcbjeaaGreatDoorTie
import Derived.Test.YtnhdojckpcbjeaaGreatDoorZr
import Derived.Test.YtnhdojckpcbjeaaGreatDoorZv
import Derived.Test.YtnhdojckpcbjeaaGreatDoorZw
import Derived.Test.YtnhdojckpcbjeaaGreatDoorZu
import Derived.WalkKit
import Derived.ProofKit
import Derived.OpenShut
import Derived.Deep.DeepHandedRow
import Derived.Lib.LaidTab
import Derived.SevenTiedAt
import Derived.Stop.LaidErr
set_option linter.unusedSimpArgs false
set_option linter.unusedVariables false
set_option maxHeartbeats 2000000
set_option maxRecDepth 100000
namespace Go.Proofs.YtnhdojckpcbjeaaGreatDoor.lawClientMakes
open Go Go.Gw Go.ChangeShapes Go.WideShapes Go.ChangeAt Go.RowKit
theorem plain (f:FuncId)(fn:Func)(hf:Tryz.pinned.checked.prog.funcNamed "greatseal/greatseallaw29.ClientMakes" =some f)(hfn:Tryz.pinned.checked.prog.funcs[f]? =some fn):
  false=Tryz.pinned.checked.prog.looks []/\∀(j:Nat) t,fn.params[j]? =some t->Tryz.pinned.checked.prog.wantsStandIn t=false:=by
 obtain rfl:f=3:=AnO ((show Tryz.prog.funcNamed "greatseal/greatseallaw29.ClientMakes" =some 3 by kernel_rfl).symm.trans hf)|>.symm;obtain rfl:fn=Tryz.f3:=(AnO (Tryz.func3.symm.trans hfn)).symm;refine⟨by kernel_rfl,λj t ht=> ?_⟩;rw[Tryz.params3]at ht;have hm:t∈[31,38,29,9,3]:=by simpa using Array.mem_of_getElem? ht
 have hall:([31,38,29,9,3].all λu=> !Tryz.prog.wantsStandIn u)=true:=by kernel_rfl
 exact(show Tryz.prog.wantsStandIn t=false by simpa using Aoj.1 hall t hm)
theorem card:Rows.ClientMakesCardSaid:=
 Claim7.holds_tied_plain_at .later [] _ _ _ _ said (λ_ h=>by cases h) (by kernel_rfl) (λ_ h=>by cases h) clientMakes_row_tie rfl ⟨rfl,rfl⟩ (by kernel_rfl) rfl plain c3
end Go.Proofs.YtnhdojckpcbjeaaGreatDoor.lawClientMakes
