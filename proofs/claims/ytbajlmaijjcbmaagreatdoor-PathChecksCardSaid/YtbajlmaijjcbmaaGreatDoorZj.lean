/- The walks of the laws, in the form in which they are asked for, written by program. Conditions: none. -/
import Derived.Test.YtbajlmaijjcbmaaGreatDoorZg
import Derived.Test.YtbajlmaijjcbmaaGreatDoorZh
import Derived.Test.YtbajlmaijjcbmaaGreatDoorZi
set_option linter.unusedSimpArgs false
set_option linter.unusedVariables false
set_option maxHeartbeats 20000000
set_option maxRecDepth 100000
namespace Go.Proofs.YtbajlmaijjcbmaaGreatDoor
open Go Go.Gw Go.Ax Tryz
attribute [local irreducible] Go.Ax.Go
theorem LG {m:Mem}{As:List Ow}{w:World}{a0:List g_api_Cert}{a0v0:Value}{a1:List g_api_Cert}{a1v0:Value}{a2:ByteArray}{a3:Int}{r:Bool}(S:St m As w)(a0h0:SlR m a0v0 a0)(a1h0:SlR m a1v0 a1)(hm:DG a0 a1 a2 a3=some r):
  AB prog 4 #[a0v0,a1v0,vS a2,vI a3] w fun v w'=> ∃(M:Mem),m≤M∧St M (As) w'∧v=vb r:=by
 refine AB.mono ((LC hm).2 none0 m As w [a0v0,a1v0,vS a2,vI a3] (.cons (.d (Br.toS HY a0h0)) (.cons (.d (Br.toS HY a1h0)) (.cons (.d (.s _)) (.cons (.d (.i _)) .nil)))) (fun n h=>absurd rfl h) S) ?_;rintro v w' ⟨M,η',r',obs',n1,hle,_,⟨rfl,rfl,rfl⟩,hdom,hR,S'⟩;obtain rfl:=hR.t_inv;exact⟨M,hle,S',rfl⟩
end Go.Proofs.YtbajlmaijjcbmaaGreatDoor
