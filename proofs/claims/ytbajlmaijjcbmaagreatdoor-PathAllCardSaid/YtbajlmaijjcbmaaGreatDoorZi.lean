/- The walks of the laws, in the form in which they are asked for, written by program. Conditions: none. -/
import Derived.Test.YtbajlmaijjcbmaaGreatDoorZg
import Derived.Test.YtbajlmaijjcbmaaGreatDoorZh
set_option linter.unusedSimpArgs false
set_option linter.unusedVariables false
set_option maxHeartbeats 20000000
set_option maxRecDepth 100000
namespace Go.Proofs.YtbajlmaijjcbmaaGreatDoor
open Go Go.Gw Go.Ax Tryz
attribute [local irreducible] Go.Ax.Go
theorem KA {m:Mem}{As:List Ow}{w:World}{a0:List g_api_Cert}{a0v0:Value}{a1:List g_api_Cert}{a1v0:Value}{a2:g_api_Cert}{a2v4:Value}{a2v9:Value}{a2v10:Value}{a3:ByteArray}{a4:Int}{a5:Int}{a6:Int}{r:Bool}(S:St m As w)(a0h0:SlR m a0v0 a0)(a1h0:SlR m a1v0 a1)(a2h4:SlR m a2v4 a2.Names)(a2h9:SlR m a2v9 a2.Permit)(a2h10:SlR m a2v10 a2.Proms)(hm:DL a0 a1 a2 a3 a4 a5 a6=some r):
  Az prog 7 #[a0v0,a1v0,.agg #[vI a2.Serial,vS a2.Issuer,vS a2.Subject,vU a2.Key,a2v4,vI a2.From,vI a2.Until,vb a2.Ca,vI a2.Depth,a2v9,a2v10,vU a2.Sig.E,vU a2.Sig.S],vS a3,vI a4,vI a5,vI a6] w fun v w'=> ∃(M:Mem),m≤M∧St M (As) w'∧v=vb r:=by
 refine Az.mono ((Kk hm).2 none0 m As w [a0v0,a1v0,.agg #[vI a2.Serial,vS a2.Issuer,vS a2.Subject,vU a2.Key,a2v4,vI a2.From,vI a2.Until,vb a2.Ca,vI a2.Depth,a2v9,a2v10,vU a2.Sig.E,vU a2.Sig.S],vS a3,vI a4,vI a5,vI a6] (.cons (.d (Br.toS Ft a0h0)) (.cons (.d (Br.toS Ft a1h0)) (.cons (Br.toA Ft (Ng a2h4 a2h9 a2h10)) (.cons (.d (.s _)) (.cons (.d (.i _)) (.cons (.d (.i _)) (.cons (.d (.i _)) .nil))))))) (fun n h=>absurd rfl h) S) ?_;rintro v w' ⟨M,η',r',obs',n1,hle,_,⟨rfl,rfl,rfl⟩,hdom,hR,S'⟩;obtain rfl:=hR.t_inv;exact⟨M,hle,S',rfl⟩
end Go.Proofs.YtbajlmaijjcbmaaGreatDoor
