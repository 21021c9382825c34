/- The walks of the laws, in the form in which they are asked for, written by program. Conditions: none. -/
import Derived.Test.YtibojdgdjhngiaaGreatDoorZg
import Derived.Test.YtibojdgdjhngiaaGreatDoorZh
import Derived.Test.YtibojdgdjhngiaaGreatDoorZi
set_option linter.unusedSimpArgs false
set_option linter.unusedVariables false
set_option maxHeartbeats 20000000
set_option maxRecDepth 100000
namespace Go.Proofs.YtibojdgdjhngiaaGreatDoor
open Go Go.Gw Go.Ax Tryz
theorem I8 {m:Mem}{As:List Ow}{w:World}{a0:List g_api_Promise}{a0v0:Value}{a1:AA}{a2:List (UInt64×UInt64)}{a2v0:Value}{a3:AN}{a4:Int}{a5:List (UInt64×UInt64)}{a5v0:Value}{r:Bool}(S:St m As w)(a0h0:SlR m a0v0 a0)(a2h0:SlR m a2v0 a2)(a5h0:SlR m a5v0 a5)(hm:Cb a0 a1 a2 a3 a4 a5=some r):
  Ay prog 9 #[a0v0,.agg #[vI a1.Log,vI a1.Size,vU a1.Root.1,vU a1.Root.2,vI a1.At,vU a1.Sig.E,vU a1.Sig.S],a2v0,.agg #[vI a3.Log,vU a3.Key,vI a3.Delay],vI a4,a5v0] w fun v w'=> ∃(M:Mem),m≤M∧St M (As) w'∧v=vb r:=by
 refine Ay.mono ((I6 hm).2 none0 m As w [a0v0,.agg #[vI a1.Log,vI a1.Size,vU a1.Root.1,vU a1.Root.2,vI a1.At,vU a1.Sig.E,vU a1.Sig.S],a2v0,.agg #[vI a3.Log,vU a3.Key,vI a3.Delay],vI a4,a5v0] (.cons (.d (Br.toS Ol a0h0)) (.cons (Br.toA Rz (N3)) (.cons (.d (Br.toS E2 a2h0)) (.cons (Br.toA Ty (O9)) (.cons (.d (.i _)) (.cons (.d (Br.toS E2 a5h0)) .nil)))))) (fun n h=>absurd rfl h) S) ?_;rintro v w' ⟨M,η',r',obs',n1,hle,_,⟨rfl,rfl,rfl⟩,hdom,hR,S'⟩;obtain rfl:=hR.t_inv;exact⟨M,hle,S',rfl⟩
end Go.Proofs.YtibojdgdjhngiaaGreatDoor
