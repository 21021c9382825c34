/- The walks of the laws, in the form in which they are asked for, written by program. Conditions: none. -/
import Derived.Test.YtflnolcabkandaaGreatDoorZk
import Derived.Test.YtflnolcabkandaaGreatDoorZl
import Derived.Test.YtflnolcabkandaaGreatDoorZm
import Derived.Test.YtflnolcabkandaaGreatDoorZn
set_option linter.unusedSimpArgs false
set_option linter.unusedVariables false
set_option maxHeartbeats 20000000
set_option maxRecDepth 100000
namespace Go.Proofs.YtflnolcabkandaaGreatDoor
open Go Go.Gw Go.Ax Tryz Go.RowKit
attribute [local irreducible] Go.Ax.Go
theorem LR {m:Mem}{As:List Ow}{w:World}{a0:List UInt8}{a0v0:Value}{a1:AG}{a1v1:Value}{r:Bool}(S:St m As w)(a0h0:SlR m a0v0 a0)(a1h1:SlR m a1v1 a1.Names)(hm:Dn a0 a1=some r):
  A6 prog 3 #[a0v0,.agg #[vI a1.Account,a1v1,vU a1.Key,vI a1.Life]] w fun v w'=> ∃(M:Mem),m≤M∧St M (As) w'∧v=vb r:=by
 refine A6.mono ((LF hm).2 none0 m As w [a0v0,.agg #[vI a1.Account,a1v1,vU a1.Key,vI a1.Life]] (.cons (.d (Br.toS Br.b a0h0)) (.cons (Br.toA UD (O3 a1h1)) .nil)) (fun n h=>absurd rfl h) S) ?_;rintro v w' ⟨M,η',r',obs',n1,hle,_,⟨rfl,rfl,rfl⟩,hdom,hR,S'⟩;obtain rfl:=hR.t_inv;exact⟨M,hle,S',rfl⟩
end Go.Proofs.YtflnolcabkandaaGreatDoor
