/- The walks of the laws, in the form in which they are asked for, written by program. Conditions: none. -/
import Derived.Test.YtnhdojckpcbjeaaGreatDoorZi
import Derived.Test.YtnhdojckpcbjeaaGreatDoorZj
import Derived.Test.YtnhdojckpcbjeaaGreatDoorZk
import Derived.Test.YtnhdojckpcbjeaaGreatDoorZl
import Derived.Test.YtnhdojckpcbjeaaGreatDoorZm
set_option linter.unusedSimpArgs false
set_option linter.unusedVariables false
set_option maxHeartbeats 20000000
set_option maxRecDepth 100000
namespace Go.Proofs.YtnhdojckpcbjeaaGreatDoor
open Go Go.Gw Go.Ax Tryz
attribute [local irreducible] Go.Ax.Go
theorem NF {m:Mem}{As:List Ow}{w:World}{a0:g_api_Client}{a0v1:Value}{a0v2:Value}{a0v3:Value}{a0v5:Value}{a1:g_api_Cascade}{a1v1:Value}{a2:g_api_Head}{r:Bool}(S:St m As w)(a0h1:SlR m a0v1 a0.Roots)(a0h2:SlR m a0v2 a0.Logs)(a0h3:SlR m a0v3 a0.Pool.L)(a0h5:SlR m a0v5 a0.Cascade.Levels)(a1h1:SlR m a1v1 a1.Levels)(hm:Eo a0 a1 a2=some r):
  Cm prog 8 #[.agg #[vS a0.Who,a0v1,a0v2,a0v3,vI a0.Cascade.Day,a0v5,vI a0.View],.agg #[vI a1.Day,a1v1],.agg #[vI a2.Log,vI a2.Size,vU a2.Root.1,vU a2.Root.2,vI a2.At,vU a2.Sig.E,vU a2.Sig.S]] w fun v w'=> ∃(M:Mem),m≤M∧St M (As) w'∧v=vb r:=by
 refine Cm.mono ((Nw hm).2 none0 m As w [.agg #[vS a0.Who,a0v1,a0v2,a0v3,vI a0.Cascade.Day,a0v5,vI a0.View],.agg #[vI a1.Day,a1v1],.agg #[vI a2.Log,vI a2.Size,vU a2.Root.1,vU a2.Root.2,vI a2.At,vU a2.Sig.E,vU a2.Sig.S]] (.cons (Br.toA Vd (QD a0h1 a0h2 a0h3 a0h5)) (.cons (Br.toA Ob (PD a1h1)) (.cons (Br.toA JY (Tx)) .nil))) (fun n h=>absurd rfl h) S) ?_;rintro v w' ⟨M,η',r',obs',n1,hle,_,⟨rfl,rfl,rfl⟩,hdom,hR,S'⟩;obtain rfl:=hR.t_inv;exact⟨M,hle,S',rfl⟩
end Go.Proofs.YtnhdojckpcbjeaaGreatDoor
