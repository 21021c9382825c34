/- The walks of the laws, in the form in which they are asked for, written by program. Conditions: none. -/
import Derived.Test.YtibojdgdjhngiaaGreatDoorZg
import Derived.Test.YtibojdgdjhngiaaGreatDoorZh
import Derived.Test.YtibojdgdjhngiaaGreatDoorZi
set_option linter.unusedSimpArgs false
set_option linter.unusedVariables false
set_option maxHeartbeats 20000000
set_option maxRecDepth 100000
namespace Go.Proofs.YtibojdgdjhngiaaGreatDoor
open Go Go.Gw Go.Ax Tryz
theorem Jo {m:Mem}{As:List Ow}{w:World}{a0:List Ag}{a0v0:Value}{a1:List Aj}{a1v0:Value}{a2:List g_api_Promise}{a2v0:Value}{a3:AE}{a4:List (UInt64×UInt64)}{a4v0:Value}{a5:AO}{r:Bool}(S:St m As w)(a0h0:SlR m a0v0 a0)(a1h0:SlR m a1v0 a1)(a2h0:SlR m a2v0 a2)(a4h0:SlR m a4v0 a4)(hm:Cj a0 a1 a2 a3 a4 a5=some r):
  AD prog 4 #[a0v0,a1v0,a2v0,.agg #[vI a3.Log,vI a3.Size,vU a3.Root.1,vU a3.Root.2,vI a3.At,vU a3.Sig.E,vU a3.Sig.S],a4v0,.agg #[vI a5.Log,vU a5.Key,vI a5.Delay]] w fun v w'=> ∃(M:Mem),m≤M∧St M (As) w'∧v=vb r:=by
 refine AD.mono ((Jm hm).2 none0 m As w [a0v0,a1v0,a2v0,.agg #[vI a3.Log,vI a3.Size,vU a3.Root.1,vU a3.Root.2,vI a3.At,vU a3.Sig.E,vU a3.Sig.S],a4v0,.agg #[vI a5.Log,vU a5.Key,vI a5.Delay]] (.cons (.d (Br.toS RS a0h0)) (.cons (.d (Br.toS PO a1h0)) (.cons (.d (Br.toS Ks a2h0)) (.cons (Br.toA RR (Ot)) (.cons (.d (Br.toS FZ a4h0)) (.cons (Br.toA TU (Pv)) .nil)))))) (fun n h=>absurd rfl h) S) ?_;rintro v w' ⟨M,η',r',obs',n1,hle,_,⟨rfl,rfl,rfl⟩,hdom,hR,S'⟩;obtain rfl:=hR.t_inv;exact⟨M,hle,S',rfl⟩
end Go.Proofs.YtibojdgdjhngiaaGreatDoor
