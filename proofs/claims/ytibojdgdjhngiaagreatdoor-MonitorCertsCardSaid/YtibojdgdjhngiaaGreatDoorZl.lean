/- The walks of the laws, in the form in which they are asked for, written by program. Conditions: none. -/
import Derived.Test.YtibojdgdjhngiaaGreatDoorZg
import Derived.Test.YtibojdgdjhngiaaGreatDoorZh
import Derived.Test.YtibojdgdjhngiaaGreatDoorZi
import Derived.Test.YtibojdgdjhngiaaGreatDoorZj
import Derived.Test.YtibojdgdjhngiaaGreatDoorZk
set_option linter.unusedSimpArgs false
set_option linter.unusedVariables false
set_option maxHeartbeats 20000000
set_option maxRecDepth 100000
namespace Go.Proofs.YtibojdgdjhngiaaGreatDoor
open Go Go.Gw Go.Ax Tryz
attribute [local irreducible] Go.Ax.Go
theorem MK {m:Mem}{As:List Ow}{w:World}{a0:Ah}{a0v3:Value}{a0v4:Value}{a0v5:Value}{a1:Int}{r:Bool}(S:St m As w)(a0h3:SlR m a0v3 a0.L)(a0h4:SlR m a0v4 a0.Hide)(a0h5:SlR m a0v5 a0.Wait)(hm:DT a0 a1=some r):
  By prog 3 #[.agg #[vI a0.Id,vU a0.Key,vI a0.Delay,a0v3,a0v4,a0v5],vI a1] w fun v w'=> ∃(M:Mem),m≤M∧St M (As) w'∧v=vb r:=by
 refine By.mono ((MI hm).2 none0 m As w [.agg #[vI a0.Id,vU a0.Key,vI a0.Delay,a0v3,a0v4,a0v5],vI a1] (.cons (Br.toA RC (Py a0h3 a0h4 a0h5)) (.cons (.d (.i _)) .nil)) (fun n h=>absurd rfl h) S) ?_;rintro v w' ⟨M,η',r',obs',n1,hle,_,⟨rfl,rfl,rfl⟩,hdom,hR,S'⟩;obtain rfl:=hR.t_inv;exact⟨M,hle,S',rfl⟩
end Go.Proofs.YtibojdgdjhngiaaGreatDoor
