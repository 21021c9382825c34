/- The walks of the laws, in the form in which they are asked for, written by program. Conditions: none. -/
import Derived.Test.YtojlmhmiknocmaaGreatZf
import Derived.Test.YtojlmhmiknocmaaGreatZg
import Derived.Test.YtojlmhmiknocmaaGreatZh
set_option linter.unusedSimpArgs false
set_option linter.unusedVariables false
set_option maxHeartbeats 20000000
set_option maxRecDepth 100000
namespace Go.Proofs.YtojlmhmiknocmaaGreat
open Go Go.Gw Go.Ax Tryz
theorem v_law24_LogdViews {m : Mem} {As : List Ow} {w : World} {a0 : g_api_Log} {a0v3 : Value} {a0v4 : Value} {a0v5 : Value} {a1 : Int} {a2 : Int} {a3 : Int} {a4 : Int} {r : Bool} (S : St m As w) (a0h3 : SlR m a0v3 a0.L) (a0h4 : SlR m a0v4 a0.Hide) (a0h5 : SlR m a0v5 a0.Wait) (hm : m_law24_LogdViews a0 a1 a2 a3 a4 = some r) :
    CallsR prog 3 #[.agg #[vI a0.Id, vU a0.Key, vI a0.Delay, a0v3, a0v4, a0v5], vI a1, vI a2, vI a3, vI a4] w fun v w' => ∃ (M : Mem), m ≤ M ∧ St M (As) w' ∧ v = vb r := by
  refine CallsR.mono ((w_law24_LogdViews hm).2 none0 m As w [.agg #[vI a0.Id, vU a0.Key, vI a0.Delay, a0v3, a0v4, a0v5], vI a1, vI a2, vI a3, vI a4] (.cons (Br.toA b_api_Log (mk_g_api_Log a0h3 a0h4 a0h5)) (.cons (.d (.i _)) (.cons (.d (.i _)) (.cons (.d (.i _)) (.cons (.d (.i _)) .nil))))) (fun n h => absurd rfl h) S) ?_
  rintro v w' ⟨M, η', r', obs', n1, hle, _, ⟨rfl, rfl, rfl⟩, hdom, hR, S'⟩
  obtain rfl := hR.t_inv
  exact ⟨M, hle, S', rfl⟩
end Go.Proofs.YtojlmhmiknocmaaGreat
