/- The walks of the laws, in the form in which they are asked for, written by program. Conditions: none. -/
import Derived.Test.YtnhdojckpcbjeaaGreatDoorZi
import Derived.Test.YtnhdojckpcbjeaaGreatDoorZj
import Derived.Test.YtnhdojckpcbjeaaGreatDoorZk
import Derived.Test.YtnhdojckpcbjeaaGreatDoorZl
set_option linter.unusedSimpArgs false
set_option linter.unusedVariables false
set_option maxHeartbeats 20000000
set_option maxRecDepth 100000
namespace Go.Proofs.YtnhdojckpcbjeaaGreatDoor
open Go Go.Gw Go.Ax Tryz
attribute [local irreducible] Go.Ax.Go
theorem ND {m:Mem}{As:List Ow}{w:World}{a0:g_api_Client}{a0v1:Value}{a0v2:Value}{a0v3:Value}{a0v5:Value}{a1:g_api_Offer}{a1v0:Value}{a1v1:Value}{a2:ByteArray}{a3:Int}{a4:g_api_Head}{a5:g_api_Place}{a5v3:Value}{r:Bool}(S:St m As w)(a0h1:SlR m a0v1 a0.Roots)(a0h2:SlR m a0v2 a0.Logs)(a0h3:SlR m a0v3 a0.Pool.L)(a0h5:SlR m a0v5 a0.Cascade.Levels)(a1h0:SlR m a1v0 a1.Path)(a1h1:SlR m a1v1 a1.Where)(a5h3:SlR m a5v3 a5.Proof)(hm:E2 a0 a1 a2 a3 a4 a5=some r):
  CH prog 5 #[.agg #[vS a0.Who,a0v1,a0v2,a0v3,vI a0.Cascade.Day,a0v5,vI a0.View],.agg #[a1v0,a1v1],vS a2,vI a3,.agg #[vI a4.Log,vI a4.Size,vU a4.Root.1,vU a4.Root.2,vI a4.At,vU a4.Sig.E,vU a4.Sig.S],.agg #[vI a5.Log,vI a5.At,vI a5.Size,a5v3]] w fun v w'=> ∃(M:Mem),m≤M∧St M (As) w'∧v=vb r:=by
 refine CH.mono ((Nv hm).2 none0 m As w [.agg #[vS a0.Who,a0v1,a0v2,a0v3,vI a0.Cascade.Day,a0v5,vI a0.View],.agg #[a1v0,a1v1],vS a2,vI a3,.agg #[vI a4.Log,vI a4.Size,vU a4.Root.1,vU a4.Root.2,vI a4.At,vU a4.Sig.E,vU a4.Sig.S],.agg #[vI a5.Log,vI a5.At,vI a5.Size,a5v3]] (.cons (Br.toA VC (QF a0h1 a0h2 a0h3 a0h5)) (.cons (Br.toA WR (RD a1h0 a1h1)) (.cons (.d (.s _)) (.cons (.d (.i _)) (.cons (Br.toA Kk (TK)) (.cons (Br.toA Rc (RC a5h3)) .nil)))))) (fun n h=>absurd rfl h) S) ?_;rintro v w' ⟨M,η',r',obs',n1,hle,_,⟨rfl,rfl,rfl⟩,hdom,hR,S'⟩;obtain rfl:=hR.t_inv;exact⟨M,hle,S',rfl⟩
end Go.Proofs.YtnhdojckpcbjeaaGreatDoor
