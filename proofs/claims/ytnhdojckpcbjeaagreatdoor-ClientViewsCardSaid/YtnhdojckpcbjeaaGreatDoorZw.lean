/- The law ClientViews: it tells true of every input, and leaves its arguments as they were. Conditions: none. -/
import Derived.Test.YtnhdojckpcbjeaaGreatDoorZb
import Derived.Test.YtnhdojckpcbjeaaGreatDoorZn
import Derived.Test.YtnhdojckpcbjeaaGreatDoorZp
import Derived.Test.YtnhdojckpcbjeaaGreatDoorCards
import Derived.Test.YtnhdojckpcbjeaaGreatDoorTie
import Derived.Test.YtnhdojckpcbjeaaGreatDoorZq
import Derived.Test.YtnhdojckpcbjeaaGreatDoorZu
import Derived.Test.YtnhdojckpcbjeaaGreatDoorZv
import Derived.Test.YtnhdojckpcbjeaaGreatDoorZt
import Derived.WalkKit
import Derived.ProofKit
import Derived.OpenShut
import Derived.Deep.DeepHandedRow
import Derived.Lib.LaidTab
import Derived.SevenTiedAt
import Derived.Stop.LaidErr
set_option linter.unusedSimpArgs false
set_option linter.unusedVariables false
set_option maxHeartbeats 2000000
set_option maxRecDepth 100000
namespace Go.Proofs.YtnhdojckpcbjeaaGreatDoor.lawClientViews
open Go Go.Gw Go.ChangeShapes Go.WideShapes Go.ChangeAt Go.RowKit
theorem plain (f:FuncId)(fn:Func)(hf:Tryz.pinned.checked.prog.funcNamed "greatseal/greatseallaw29.ClientViews" =some f)(hfn:Tryz.pinned.checked.prog.funcs[f]? =some fn):
  false=Tryz.pinned.checked.prog.looks []∧∀(j:Nat) t,fn.params[j]? =some t→Tryz.pinned.checked.prog.wantsStandIn t=false:=by
 obtain rfl:f=9:=AkY ((show Tryz.prog.funcNamed "greatseal/greatseallaw29.ClientViews" =some 9 by kernel_rfl).symm.trans hf)|>.symm;obtain rfl:fn=Tryz.f9:=(AkY (Tryz.func9.symm.trans hfn)).symm;refine⟨by kernel_rfl,fun j t ht=> ?_⟩;rw[Tryz.params9]at ht;have hm:t∈[5,5]:=by simpa using Array.mem_of_getElem? ht
 have hall:([5,5].all fun u=> !Tryz.prog.wantsStandIn u)=true:=by kernel_rfl
 exact(show Tryz.prog.wantsStandIn t=false by simpa using Alj.1 hall t hm)
theorem card:Rows.ClientViewsCardSaid:=
 Claim7.holds_tied_plain_at .later [] _ _ _ _ said (fun _ h=>by cases h) (by kernel_rfl) (fun _ h=>by cases h) clientViews_row_tie rfl ⟨rfl,rfl⟩ (by kernel_rfl) rfl plain c3
end Go.Proofs.YtnhdojckpcbjeaaGreatDoor.lawClientViews
