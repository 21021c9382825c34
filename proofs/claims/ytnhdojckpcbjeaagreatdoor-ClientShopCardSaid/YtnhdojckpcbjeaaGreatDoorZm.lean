/- The walks of the laws, in the form in which they are asked for, written by program. Conditions: none. -/
import Derived.Test.YtnhdojckpcbjeaaGreatDoorZi
import Derived.Test.YtnhdojckpcbjeaaGreatDoorZj
import Derived.Test.YtnhdojckpcbjeaaGreatDoorZk
import Derived.Test.YtnhdojckpcbjeaaGreatDoorZl
set_option linter.unusedSimpArgs false
set_option linter.unusedVariables false
set_option maxHeartbeats 20000000
set_option maxRecDepth 100000
namespace Go.Proofs.YtnhdojckpcbjeaaGreatDoor
open Go Go.Gw Go.Ax Tryz
attribute [local irreducible] Go.Ax.Go
theorem OH {m:Mem}{As:List Ow}{w:World}{a0:UInt8}{a1:UInt8}{a2:UInt8}{a3:Int}{r:Bool}(S:St m As w)(hm:D7 a0 a1 a2 a3=some r):
  C4 prog 6 #[vB a0,vB a1,vB a2,vI a3] w fun v w'=> ∃(M:Mem),m≤M∧St M (As) w'∧v=vb r:=by
 refine C4.mono ((OA hm).2 none0 m As w [vB a0,vB a1,vB a2,vI a3] (.cons (.d (.b _)) (.cons (.d (.b _)) (.cons (.d (.b _)) (.cons (.d (.i _)) .nil)))) (fun n h=>absurd rfl h) S) ?_;rintro v w' ⟨M,η',r',obs',n1,hle,_,⟨rfl,rfl,rfl⟩,hdom,hR,S'⟩;obtain rfl:=hR.t_inv;exact⟨M,hle,S',rfl⟩
end Go.Proofs.YtnhdojckpcbjeaaGreatDoor
