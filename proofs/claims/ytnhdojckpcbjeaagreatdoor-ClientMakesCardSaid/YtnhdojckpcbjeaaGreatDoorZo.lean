/- The walks of the laws, in the form in which they are asked for, written by program. Conditions: none. -/
import Derived.Test.YtnhdojckpcbjeaaGreatDoorZi
import Derived.Test.YtnhdojckpcbjeaaGreatDoorZj
import Derived.Test.YtnhdojckpcbjeaaGreatDoorZk
import Derived.Test.YtnhdojckpcbjeaaGreatDoorZl
import Derived.Test.YtnhdojckpcbjeaaGreatDoorZm
import Derived.Test.YtnhdojckpcbjeaaGreatDoorZn
set_option linter.unusedSimpArgs false
set_option linter.unusedVariables false
set_option maxHeartbeats 20000000
set_option maxRecDepth 100000
namespace Go.Proofs.YtnhdojckpcbjeaaGreatDoor
open Go Go.Gw Go.Ax Tryz
attribute [local irreducible] Go.Ax.Go
theorem PV {m:Mem}{As:List Ow}{w:World}{a0:g_api_Client}{a0v1:Value}{a0v2:Value}{a0v3:Value}{a0v5:Value}{a1:g_api_Head}{a2:g_api_Cascade}{a2v1:Value}{a3:ByteArray}{a4:Int}{r:Bool}(S:St m As w)(a0h1:SlR m a0v1 a0.Roots)(a0h2:SlR m a0v2 a0.Logs)(a0h3:SlR m a0v3 a0.Pool.L)(a0h5:SlR m a0v5 a0.Cascade.Levels)(a2h1:SlR m a2v1 a2.Levels)(hm:EW a0 a1 a2 a3 a4=some r):
  C0 prog 3 #[.agg #[vS a0.Who,a0v1,a0v2,a0v3,vI a0.Cascade.Day,a0v5,vI a0.View],.agg #[vI a1.Log,vI a1.Size,vU a1.Root.1,vU a1.Root.2,vI a1.At,vU a1.Sig.E,vU a1.Sig.S],.agg #[vI a2.Day,a2v1],vS a3,vI a4] w λv w'=> ∃(M:Mem),m<=M/\St M (As) w'/\v=vb r:=by
 refine C0.mono ((PM hm).2 none0 m As w [.agg #[vS a0.Who,a0v1,a0v2,a0v3,vI a0.Cascade.Day,a0v5,vI a0.View],.agg #[vI a1.Log,vI a1.Size,vU a1.Root.1,vU a1.Root.2,vI a1.At,vU a1.Sig.E,vU a1.Sig.S],.agg #[vI a2.Day,a2v1],vS a3,vI a4] (.cons (Br.toA Aay (UN a0h1 a0h2 a0h3 a0h5)) (.cons (Br.toA Ms (Ya)) (.cons (Br.toA Ry (Tn a2h1)) (.cons (.d (.s _)) (.cons (.d (.i _)) .nil))))) (λn h=>absurd rfl h) S) ?_;rintro v w' ⟨M,u5,r',obs',n1,hle,_,⟨rfl,rfl,rfl⟩,hdom,hR,S'⟩;obtain rfl:=hR.t_inv;exact⟨M,hle,S',rfl⟩
end Go.Proofs.YtnhdojckpcbjeaaGreatDoor
