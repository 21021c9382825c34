/- The law TopTwice: it tells true of every input, and leaves its arguments as they were. Conditions: none. -/
import Derived.Test.YtlahakpgjlmeaaaGreatDoorZa
import Derived.Test.YtlahakpgjlmeaaaGreatDoorZb
import Derived.Test.YtlahakpgjlmeaaaGreatDoorZn
import Derived.Test.YtlahakpgjlmeaaaGreatDoorZp
import Derived.Test.YtlahakpgjlmeaaaGreatDoorCards
import Derived.Test.YtlahakpgjlmeaaaGreatDoorTie
import Derived.Test.YtlahakpgjlmeaaaGreatDoorZq
import Derived.Test.YtlahakpgjlmeaaaGreatDoorZu
import Derived.Test.YtlahakpgjlmeaaaGreatDoorZv
import Derived.Test.YtlahakpgjlmeaaaGreatDoorZt
import Derived.WalkKit
import Derived.ProofKit
import Derived.OpenShut
import Derived.Deep.DeepHandedRow
import Derived.Lib.LaidTab
import Derived.SevenTiedAt
import Derived.Stop.LaidErr
set_option linter.unusedSimpArgs false
set_option linter.unusedVariables false
set_option maxHeartbeats 2000000
set_option maxRecDepth 100000
namespace Go.Proofs.YtlahakpgjlmeaaaGreatDoor.lawTopTwice
open Go Go.Gw Go.ChangeShapes Go.WideShapes Go.ChangeAt Go.RowKit
theorem plain (f:FuncId)(fn:Func)(hf:Tryz.pinned.checked.prog.funcNamed "greatseal/greatsealtop.TopTwice" =some f)(hfn:Tryz.pinned.checked.prog.funcs[f]? =some fn):
  true=Tryz.pinned.checked.prog.looks []∧∀(j:Nat) t,fn.params[j]? =some t→Tryz.pinned.checked.prog.wantsStandIn t=false:=by
 obtain rfl:f=3:=Akr ((show Tryz.prog.funcNamed "greatseal/greatsealtop.TopTwice" =some 3 by kernel_rfl).symm.trans hf)|>.symm;obtain rfl:fn=Tryz.f3:=(Akr (Tryz.func3.symm.trans hfn)).symm;refine⟨by kernel_rfl,fun j t ht=> ?_⟩;rw[Tryz.params3]at ht;have hm:t∈[22,26,24,3]:=by simpa using Array.mem_of_getElem? ht
 have hall:([22,26,24,3].all fun u=> !Tryz.prog.wantsStandIn u)=true:=by kernel_rfl
 exact(show Tryz.prog.wantsStandIn t=false by simpa using AkI.1 hall t hm)
theorem card:Rows.TopTwiceCardSaid:=
 Claim7.holds_tied_plain_at .later [] _ _ _ _ said (fun _ h=>by cases h) (by kernel_rfl) (fun _ h=>by cases h) topTwice_row_tie rfl ⟨rfl,rfl⟩ (by kernel_rfl) rfl plain c3
end Go.Proofs.YtlahakpgjlmeaaaGreatDoor.lawTopTwice
