/- The bytes of a head, by the reference. Conditions: none. -/
import Derived.Test.YtemiampgjgenhaaGreatRf
import Derived.Test.YtemiampgjgenhaaGreatWkK
set_option linter.unusedSimpArgs false
set_option linter.unusedVariables false
set_option maxHeartbeats 4000000
set_option maxRecDepth 100000
namespace Go.Proofs.YtemiampgjgenhaaGreat
open Go Go.Gw

theorem headBytes_eq (p : g_api_Head) : m_ref24_HeadBytes p = some (headB p) := by
  unfold m_ref24_HeadBytes
  rw [eight04_eq, obind_some', e8_eq, app_eq 1 (by simp [e8_len]) (by simp [e8_len]), obind_some', eight04_eq, obind_some', e8_eq, app_eq 1 (by simp [e8_len]) (by simp [e8_len]), obind_some', bytes02_eq, obind_some', app_eq 1 (by simp [e8_len, pbytes_len]) (by simp [e8_len, pbytes_len]), obind_some', eight04_eq, obind_some', e8_eq, app_eq 1 (by simp [e8_len, pbytes_len]) (by simp [e8_len, pbytes_len]), obind_some']
  simp [headB]
end Go.Proofs.YtemiampgjgenhaaGreat
