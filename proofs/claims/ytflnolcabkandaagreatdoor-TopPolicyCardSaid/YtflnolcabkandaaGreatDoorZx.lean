/- The law TopPolicy: it tells true of every input, and leaves its arguments as they were. Conditions: none. -/
import Derived.Test.YtflnolcabkandaaGreatDoorZb
import Derived.Test.YtflnolcabkandaaGreatDoorZo
import Derived.Test.YtflnolcabkandaaGreatDoorZq
import Derived.Test.YtflnolcabkandaaGreatDoorCards
import Derived.Test.YtflnolcabkandaaGreatDoorTie
import Derived.Test.YtflnolcabkandaaGreatDoorZr
import Derived.Test.YtflnolcabkandaaGreatDoorZv
import Derived.Test.YtflnolcabkandaaGreatDoorZw
import Derived.Test.YtflnolcabkandaaGreatDoorZu
import Derived.WalkKit
import Derived.ProofKit
import Derived.OpenShut
import Derived.Deep.DeepHandedRow
import Derived.Lib.LaidTab
import Derived.SevenTiedAt
import Derived.Stop.LaidErr
set_option linter.unusedSimpArgs false
set_option linter.unusedVariables false
set_option maxHeartbeats 2000000
set_option maxRecDepth 100000
namespace Go.Proofs.YtflnolcabkandaaGreatDoor.lawTopPolicy
open Go Go.Gw Go.ChangeShapes Go.WideShapes Go.ChangeAt Go.RowKit
theorem plain (f:FuncId)(fn:Func)(hf:Tryz.pinned.checked.prog.funcNamed "greatseal/greatsealtop.TopPolicy" =some f)(hfn:Tryz.pinned.checked.prog.funcs[f]? =some fn):
  true=Tryz.pinned.checked.prog.looks []∧∀(j:Nat) t,fn.params[j]? =some t→Tryz.pinned.checked.prog.wantsStandIn t=false:=by
 obtain rfl:f=3:=AcO ((show Tryz.prog.funcNamed "greatseal/greatsealtop.TopPolicy" =some 3 by kernel_rfl).symm.trans hf)|>.symm;obtain rfl:fn=Tryz.f3:=(AcO (Tryz.func3.symm.trans hfn)).symm;refine⟨by kernel_rfl,fun j t ht=> ?_⟩;rw[Tryz.params3]at ht;have hm:t∈[22,26]:=by simpa using Array.mem_of_getElem? ht
 have hall:([22,26].all fun u=> !Tryz.prog.wantsStandIn u)=true:=by kernel_rfl
 exact(show Tryz.prog.wantsStandIn t=false by simpa using Adf.1 hall t hm)
theorem card:Rows.TopPolicyCardSaid:=
 Claim7.holds_tied_plain_at .later [] _ _ _ _ said (fun _ h=>by cases h) (by kernel_rfl) (fun _ h=>by cases h) topPolicy_row_tie rfl ⟨rfl,rfl⟩ (by kernel_rfl) rfl plain c3
end Go.Proofs.YtflnolcabkandaaGreatDoor.lawTopPolicy
