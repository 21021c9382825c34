/- The walks of the laws, in the form in which they are asked for, written by program. Conditions: none. -/
import Derived.Test.YtgnklegamndglaaGreatZh
import Derived.Test.YtgnklegamndglaaGreatZi
set_option linter.unusedSimpArgs false
set_option linter.unusedVariables false
set_option maxHeartbeats 20000000
set_option maxRecDepth 100000
namespace Go.Proofs.YtgnklegamndglaaGreat
open Go Go.Gw Go.Ax Tryz
theorem v_law28_GossipRight {m : Mem} {As : List Ow} {w : World} {a0 : g_api_Pool} {a0v0 : Value} {a1 : g_api_Pool} {a1v0 : Value} {a2 : g_api_Head} {a3 : List g_api_Key} {a3v0 : Value} {r : Bool} (S : St m As w) (a0h0 : SlR m a0v0 a0.L) (a1h0 : SlR m a1v0 a1.L) (a3h0 : SlR m a3v0 a3) (hm : m_law28_GossipRight a0 a1 a2 a3 = some r) :
    CallsR prog 10 #[.agg #[a0v0], .agg #[a1v0], .agg #[vI a2.Log, vI a2.Size, vU a2.Root.1, vU a2.Root.2, vI a2.At, vU a2.Sig.E, vU a2.Sig.S], a3v0] w fun v w' => ∃ (M : Mem), m ≤ M ∧ St M (As) w' ∧ v = vb r := by
  refine CallsR.mono ((w_law28_GossipRight hm).2 none0 m As w [.agg #[a0v0], .agg #[a1v0], .agg #[vI a2.Log, vI a2.Size, vU a2.Root.1, vU a2.Root.2, vI a2.At, vU a2.Sig.E, vU a2.Sig.S], a3v0] (.cons (Br.toA b_api_Pool (mk_g_api_Pool a0h0)) (.cons (Br.toA b_api_Pool (mk_g_api_Pool a1h0)) (.cons (Br.toA b_api_Head (mk_g_api_Head)) (.cons (.d (Br.toS b_api_Key a3h0)) .nil)))) (fun n h => absurd rfl h) S) ?_
  rintro v w' ⟨M, η', r', obs', n1, hle, _, ⟨rfl, rfl, rfl⟩, hdom, hR, S'⟩
  obtain rfl := hR.t_inv
  exact ⟨M, hle, S', rfl⟩
end Go.Proofs.YtgnklegamndglaaGreat
