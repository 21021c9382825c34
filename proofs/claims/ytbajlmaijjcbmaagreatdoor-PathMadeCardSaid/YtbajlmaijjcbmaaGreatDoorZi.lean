/- The walks of the laws, in the form in which they are asked for, written by program. Conditions: none. -/
import Derived.Test.YtbajlmaijjcbmaaGreatDoorZg
import Derived.Test.YtbajlmaijjcbmaaGreatDoorZh
set_option linter.unusedSimpArgs false
set_option linter.unusedVariables false
set_option maxHeartbeats 20000000
set_option maxRecDepth 100000
namespace Go.Proofs.YtbajlmaijjcbmaaGreatDoor
open Go Go.Gw Go.Ax Tryz
attribute [local irreducible] Go.Ax.Go
theorem JW {m:Mem}{As:List Ow}{w:World}{a0:ByteArray}{a1:Int}{a2:ByteArray}{a3:Int}{a4:Int}{a5:Int}{r:Bool}(S:St m As w)(hm:C9 a0 a1 a2 a3 a4 a5=some r):
  Az prog 6 #[vS a0,vI a1,vS a2,vI a3,vI a4,vI a5] w fun v w'=> ∃(M:Mem),m≤M∧St M (As) w'∧v=vb r:=by
 refine Az.mono ((JT hm).2 none0 m As w [vS a0,vI a1,vS a2,vI a3,vI a4,vI a5] (.cons (.d (.s _)) (.cons (.d (.i _)) (.cons (.d (.s _)) (.cons (.d (.i _)) (.cons (.d (.i _)) (.cons (.d (.i _)) .nil)))))) (fun n h=>absurd rfl h) S) ?_;rintro v w' ⟨M,η',r',obs',n1,hle,_,⟨rfl,rfl,rfl⟩,hdom,hR,S'⟩;obtain rfl:=hR.t_inv;exact⟨M,hle,S',rfl⟩
end Go.Proofs.YtbajlmaijjcbmaaGreatDoor
