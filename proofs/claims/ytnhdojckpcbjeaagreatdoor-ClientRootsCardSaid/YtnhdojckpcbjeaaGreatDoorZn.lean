/- The walks of the laws, in the form in which they are asked for, written by program. Conditions: none. -/
import Derived.Test.YtnhdojckpcbjeaaGreatDoorZi
import Derived.Test.YtnhdojckpcbjeaaGreatDoorZj
import Derived.Test.YtnhdojckpcbjeaaGreatDoorZk
import Derived.Test.YtnhdojckpcbjeaaGreatDoorZl
import Derived.Test.YtnhdojckpcbjeaaGreatDoorZm
set_option linter.unusedSimpArgs false
set_option linter.unusedVariables false
set_option maxHeartbeats 20000000
set_option maxRecDepth 100000
namespace Go.Proofs.YtnhdojckpcbjeaaGreatDoor
open Go Go.Gw Go.Ax Tryz
attribute [local irreducible] Go.Ax.Go
theorem NX {m:Mem}{As:List Ow}{w:World}{a0:g_api_Client}{a0v1:Value}{a0v2:Value}{a0v3:Value}{a0v5:Value}{a1:g_api_Offer}{a1v0:Value}{a1v1:Value}{a2:ByteArray}{a3:Int}{a4:g_api_Cert}{a4v4:Value}{a4v9:Value}{a4v10:Value}{r:Bool}(S:St m As w)(a0h1:SlR m a0v1 a0.Roots)(a0h2:SlR m a0v2 a0.Logs)(a0h3:SlR m a0v3 a0.Pool.L)(a0h5:SlR m a0v5 a0.Cascade.Levels)(a1h0:SlR m a1v0 a1.Path)(a1h1:SlR m a1v1 a1.Where)(a4h4:SlR m a4v4 a4.Names)(a4h9:SlR m a4v9 a4.Permit)(a4h10:SlR m a4v10 a4.Proms)(hm:EJ a0 a1 a2 a3 a4=some r):
  AK prog 7 #[.agg #[vS a0.Who,a0v1,a0v2,a0v3,vI a0.Cascade.Day,a0v5,vI a0.View],.agg #[a1v0,a1v1],vS a2,vI a3,.agg #[vI a4.Serial,vS a4.Issuer,vS a4.Subject,vU a4.Key,a4v4,vI a4.From,vI a4.Until,vb a4.Ca,vI a4.Depth,a4v9,a4v10,vU a4.Sig.E,vU a4.Sig.S]] w fun v w'=> ∃(M:Mem),m≤M∧St M (As) w'∧v=vb r:=by
 refine AK.mono ((NP hm).2 none0 m As w [.agg #[vS a0.Who,a0v1,a0v2,a0v3,vI a0.Cascade.Day,a0v5,vI a0.View],.agg #[a1v0,a1v1],vS a2,vI a3,.agg #[vI a4.Serial,vS a4.Issuer,vS a4.Subject,vU a4.Key,a4v4,vI a4.From,vI a4.Until,vb a4.Ca,vI a4.Depth,a4v9,a4v10,vU a4.Sig.E,vU a4.Sig.S]] (.cons (Br.toA Wp (Rw a0h1 a0h2 a0h3 a0h5)) (.cons (Br.toA XK (Sw a1h0 a1h1)) (.cons (.d (.s _)) (.cons (.d (.i _)) (.cons (Br.toA Ik (UC a4h4 a4h9 a4h10)) .nil))))) (fun n h=>absurd rfl h) S) ?_;rintro v w' ⟨M,η',r',obs',n1,hle,_,⟨rfl,rfl,rfl⟩,hdom,hR,S'⟩;obtain rfl:=hR.t_inv;exact⟨M,hle,S',rfl⟩
end Go.Proofs.YtnhdojckpcbjeaaGreatDoor
