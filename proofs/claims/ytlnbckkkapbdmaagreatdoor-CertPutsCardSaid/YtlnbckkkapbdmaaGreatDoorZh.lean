/- The walks of the laws, in the form in which they are asked for, written by program. Conditions: none. -/
import Derived.Test.YtlnbckkkapbdmaaGreatDoorZf
import Derived.Test.YtlnbckkkapbdmaaGreatDoorZg
set_option linter.unusedSimpArgs false
set_option linter.unusedVariables false
set_option maxHeartbeats 20000000
set_option maxRecDepth 100000
namespace Go.Proofs.YtlnbckkkapbdmaaGreatDoor
open Go Go.Gw Go.Ax Tryz
theorem v_law18_CertPuts {m : Mem} {As : List Ow} {w : World} {a0 : g_api_Cert} {a0v4 : Value} {a0v9 : Value} {a0v10 : Value} {r : Bool} (S : St m As w) (a0h4 : SlR m a0v4 a0.Names) (a0h9 : SlR m a0v9 a0.Permit) (a0h10 : SlR m a0v10 a0.Proms) (hm : m_law18_CertPuts a0 = some r) :
    CallsR prog 4 #[.agg #[vI a0.Serial,vS a0.Issuer,vS a0.Subject,vU a0.Key,a0v4,vI a0.From,vI a0.Until,vb a0.Ca,vI a0.Depth,a0v9,a0v10,vU a0.Sig.E,vU a0.Sig.S]] w fun v w'=> ∃ (M : Mem),m ≤ M ∧ St M (As) w' ∧ v = vb r:= by
  refine CallsR.mono ((w_law18_CertPuts hm).2 none0 m As w [.agg #[vI a0.Serial,vS a0.Issuer,vS a0.Subject,vU a0.Key,a0v4,vI a0.From,vI a0.Until,vb a0.Ca,vI a0.Depth,a0v9,a0v10,vU a0.Sig.E,vU a0.Sig.S]] (.cons (Br.toA b_api_Cert (mk_g_api_Cert a0h4 a0h9 a0h10)) .nil) (fun n h=> absurd rfl h) S) ?_
  rintro v w' ⟨M,η',r',obs',n1,hle,_,⟨rfl,rfl,rfl⟩,hdom,hR,S'⟩
  obtain rfl:= hR.t_inv
  exact ⟨M,hle,S',rfl⟩
end Go.Proofs.YtlnbckkkapbdmaaGreatDoor
