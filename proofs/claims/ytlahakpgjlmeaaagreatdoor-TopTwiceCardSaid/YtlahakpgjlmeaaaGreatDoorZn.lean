/- The walks of the laws, in the form in which they are asked for, written by program. Conditions: none. -/
import Derived.Test.YtlahakpgjlmeaaaGreatDoorZi
import Derived.Test.YtlahakpgjlmeaaaGreatDoorZj
import Derived.Test.YtlahakpgjlmeaaaGreatDoorZk
import Derived.Test.YtlahakpgjlmeaaaGreatDoorZl
import Derived.Test.YtlahakpgjlmeaaaGreatDoorZm
set_option linter.unusedSimpArgs false
set_option linter.unusedVariables false
set_option maxHeartbeats 20000000
set_option maxRecDepth 100000
namespace Go.Proofs.YtlahakpgjlmeaaaGreatDoor
open Go Go.Gw Go.Ax Tryz Go.RowKit
attribute [local irreducible] Go.Ax.Go
theorem SZ {m:Mem}{As:List Ow}{w:World}{a0:List UInt8}{a0v0:Value}{a1:Ba}{a1v1:Value}{a2:UInt64}{a3:Int}{r:Bool}(S:St m As w)(a0h0:SlR m a0v0 a0)(a1h1:SlR m a1v1 a1.Names)(hm:Iy a0 a1 a2 a3=some r):
  Ft prog 3 #[a0v0,.agg #[vI a1.Account,a1v1,vU a1.Key,vI a1.Life],vU a2,vI a3] w fun v w'=> ∃(M:Mem),m≤M∧St M (As) w'∧v=vb r:=by
 refine Ft.mono ((SM hm).2 none0 m As w [a0v0,.agg #[vI a1.Account,a1v1,vU a1.Key,vI a1.Life],vU a2,vI a3] (.cons (.d (Br.toS Br.b a0h0)) (.cons (Br.toA AaY (U4 a1h1)) (.cons (.d (.u _)) (.cons (.d (.i _)) .nil)))) (fun n h=>absurd rfl h) S) ?_;rintro v w' ⟨M,η',r',obs',n1,hle,_,⟨rfl,rfl,rfl⟩,hdom,hR,S'⟩;obtain rfl:=hR.t_inv;exact⟨M,hle,S',rfl⟩
end Go.Proofs.YtlahakpgjlmeaaaGreatDoor
