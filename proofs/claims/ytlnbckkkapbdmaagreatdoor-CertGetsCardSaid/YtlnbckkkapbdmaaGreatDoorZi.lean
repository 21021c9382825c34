/- The walks of the laws, in the form in which they are asked for, written by program. Conditions: none. -/
import Derived.Test.YtlnbckkkapbdmaaGreatDoorZg
import Derived.Test.YtlnbckkkapbdmaaGreatDoorZh
set_option linter.unusedSimpArgs false
set_option linter.unusedVariables false
set_option maxHeartbeats 20000000
set_option maxRecDepth 100000
namespace Go.Proofs.YtlnbckkkapbdmaaGreatDoor
open Go Go.Gw Go.Ax Tryz
theorem K9 {m:Mem}{As:List Ow}{w:World}{a0:List UInt8}{a0v0:Value}{r:Bool}(S:St m As w)(a0h0:SlR m a0v0 a0)(hm:Dy a0=some r):
  Bw prog 5 #[a0v0] w fun v w'=> ∃(M:Mem),m≤M∧St M (As) w'∧v=vb r:=by
 refine Bw.mono ((K4 hm).2 none0 m As w [a0v0] (.cons (.d (Br.toS Br.b a0h0)) .nil) (fun n h=>absurd rfl h) S) ?_;rintro v w' ⟨M,η',r',obs',n1,hle,_,⟨rfl,rfl,rfl⟩,hdom,hR,S'⟩;obtain rfl:=hR.t_inv;exact⟨M,hle,S',rfl⟩
end Go.Proofs.YtlnbckkkapbdmaaGreatDoor
