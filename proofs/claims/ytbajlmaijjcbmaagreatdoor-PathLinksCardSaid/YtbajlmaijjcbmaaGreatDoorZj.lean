/- The walks of the laws, in the form in which they are asked for, written by program. Conditions: none. -/
import Derived.Test.YtbajlmaijjcbmaaGreatDoorZg
import Derived.Test.YtbajlmaijjcbmaaGreatDoorZh
import Derived.Test.YtbajlmaijjcbmaaGreatDoorZi
set_option linter.unusedSimpArgs false
set_option linter.unusedVariables false
set_option maxHeartbeats 20000000
set_option maxRecDepth 100000
namespace Go.Proofs.YtbajlmaijjcbmaaGreatDoor
open Go Go.Gw Go.Ax Tryz
theorem LP {m:Mem}{As:List Ow}{w:World}{a0:g_api_Cert}{a0v4:Value}{a0v9:Value}{a0v10:Value}{a1:g_api_Cert}{a1v4:Value}{a1v9:Value}{a1v10:Value}{r:Bool}(S:St m As w)(a0h4:SlR m a0v4 a0.Names)(a0h9:SlR m a0v9 a0.Permit)(a0h10:SlR m a0v10 a0.Proms)(a1h4:SlR m a1v4 a1.Names)(a1h9:SlR m a1v9 a1.Permit)(a1h10:SlR m a1v10 a1.Proms)(hm:Dp a0 a1=some r):
  Aw prog 3 #[.agg #[vI a0.Serial,vS a0.Issuer,vS a0.Subject,vU a0.Key,a0v4,vI a0.From,vI a0.Until,vb a0.Ca,vI a0.Depth,a0v9,a0v10,vU a0.Sig.E,vU a0.Sig.S],.agg #[vI a1.Serial,vS a1.Issuer,vS a1.Subject,vU a1.Key,a1v4,vI a1.From,vI a1.Until,vb a1.Ca,vI a1.Depth,a1v9,a1v10,vU a1.Sig.E,vU a1.Sig.S]] w fun v w'=> ∃(M:Mem),m≤M∧St M (As) w'∧v=vb r:=by
 refine Aw.mono ((LL hm).2 none0 m As w [.agg #[vI a0.Serial,vS a0.Issuer,vS a0.Subject,vU a0.Key,a0v4,vI a0.From,vI a0.Until,vb a0.Ca,vI a0.Depth,a0v9,a0v10,vU a0.Sig.E,vU a0.Sig.S],.agg #[vI a1.Serial,vS a1.Issuer,vS a1.Subject,vU a1.Key,a1v4,vI a1.From,vI a1.Until,vb a1.Ca,vI a1.Depth,a1v9,a1v10,vU a1.Sig.E,vU a1.Sig.S]] (.cons (Br.toA Hv (Lo a0h4 a0h9 a0h10)) (.cons (Br.toA Hv (Lo a1h4 a1h9 a1h10)) .nil)) (fun n h=>absurd rfl h) S) ?_;rintro v w' ⟨M,η',r',obs',n1,hle,_,⟨rfl,rfl,rfl⟩,hdom,hR,S'⟩;obtain rfl:=hR.t_inv;exact⟨M,hle,S',rfl⟩
end Go.Proofs.YtbajlmaijjcbmaaGreatDoor
