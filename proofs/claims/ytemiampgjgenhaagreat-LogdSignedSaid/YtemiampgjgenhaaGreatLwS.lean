/- The law LogdSigned, in plain terms. Conditions: none. -/
import Derived.Test.YtemiampgjgenhaaGreatRg
import Derived.Test.YtemiampgjgenhaaGreatRc
import Derived.Test.YtemiampgjgenhaaGreatQL
set_option linter.unusedSimpArgs false
set_option linter.unusedVariables false
set_option maxHeartbeats 4000000
set_option maxRecDepth 100000
namespace Go.Proofs.YtemiampgjgenhaaGreat
open Go Go.Gw

theorem obind_id {α : Type} (x : Option α) : (obind x fun a => some a) = x := by cases x <;> rfl
theorem cprom_eq (k : g_api_Key) (p : g_api_Promise) : m_ref24_CheckPromise k p = m_logd_CheckPromise k p := by
  unfold m_ref24_CheckPromise m_logd_CheckPromise m_logd_signed
  rw [show m_ref24_num p.Log = some (okNum p.Log) from rfl, show m_ref24_num p.At = some (okNum p.At) from rfl, obind_some', number_eq, obind_some', ofPromise_eq, obind_some', number_eq, obind_some', obind_some', promBytes_eq, obind_some', check04_eq _ _ (promB_len p)]
  cases okNum p.Log with
  | false => rw [Bool.not_false, if_pos rfl, obind_some', if_pos rfl, Bool.true_or, if_pos rfl, obind_some']
  | true =>
    rw [Bool.not_true, if_neg Bool.false_ne_true, obind_some', Bool.false_or]
    cases okNum p.At with
    | false => rw [Bool.not_false, if_pos rfl, obind_some']
    | true =>
      rw [Bool.not_true, if_neg Bool.false_ne_true]
      exact (obind_id _).symm
theorem chead_eq (k : g_api_Key) (p : g_api_Head) : m_ref24_CheckHead k p = m_logd_CheckHead k p := by
  unfold m_ref24_CheckHead m_logd_CheckHead m_logd_signed
  rw [show m_ref24_num p.Log = some (okNum p.Log) from rfl, show m_ref24_num p.At = some (okNum p.At) from rfl, obind_some', number_eq, obind_some', ofHead_eq, obind_some', number_eq, obind_some', obind_some', headBytes_eq, obind_some', check04_eq _ _ (headB_len p)]
  have hs : decide (p.Size < 0) = !decide (p.Size ≥ 0) := by
    rw [Bool.eq_iff_iff]; simp
  have hs2 : decide (p.Size > 256) = !decide (p.Size ≤ 256) := by
    rw [Bool.eq_iff_iff]; simp
  rw [hs, hs2]
  cases okNum p.Log with
  | false => rw [Bool.not_false, if_pos rfl, obind_some', Bool.true_or, Bool.true_or, if_pos rfl, Bool.true_or, if_pos rfl, obind_some']
  | true =>
    rw [Bool.not_true, if_neg Bool.false_ne_true, obind_some', Bool.false_or]
    have hb : ((!okNum p.At || !decide (p.Size ≥ 0)) || !decide (p.Size ≤ 256)) = (!(okNum p.At && decide (p.Size ≥ 0) && decide (p.Size ≤ 256))) := by
      cases okNum p.At <;> cases decide (p.Size ≥ 0) <;> cases decide (p.Size ≤ 256) <;> rfl
    rw [hb]
    cases (okNum p.At && decide (p.Size ≥ 0) && decide (p.Size ≤ 256)) with
    | false => rw [Bool.not_false, if_pos rfl, obind_some']
    | true =>
      rw [Bool.not_true, if_neg Bool.false_ne_true]
      exact (obind_id _).symm
theorem check_tot (p : UInt64) {msg : List UInt8} (s : g_api_Sig) (hm : msg.length ≤ 600000) : ∃ e, m_sign_Check p msg s = some e := by
  rw [← check04_eq p s hm]
  unfold m_ref04_Check m_ref03_In
  by_cases h0 : ((decide ((p.toNat : Int) > 0)) && (decide ((p.toNat : Int) < 2305843009213691579))) = true
  · rw [if_pos h0, power03_eq _ _ (by decide) (by decide), obind_some', obind_some', obind_some']
    split
    · exact ⟨_, rfl⟩
    · split
      · exact ⟨_, rfl⟩
      · rw [refRest p s hm]
        split <;> exact ⟨_, rfl⟩
  · rw [if_neg h0, obind_some', obind_some', Bool.not_false, if_pos rfl]
    exact ⟨_, rfl⟩
theorem signed_tot (k : g_api_Key) (log : Int) (ok : Bool) {msg : List UInt8} (s : g_api_Sig) (hm : msg.length ≤ 600000) : ∃ e, m_logd_signed k log ok msg s = some e := by
  unfold m_logd_signed
  rw [number_eq, obind_some']
  split
  · exact ⟨_, rfl⟩
  · split
    · exact ⟨_, rfl⟩
    · obtain ⟨e, he⟩ := check_tot k.Key s hm
      rw [he, obind_some']
      exact ⟨_, rfl⟩
theorem cprom_tot (k : g_api_Key) (p : g_api_Promise) : ∃ e, m_logd_CheckPromise k p = some e := by
  unfold m_logd_CheckPromise
  rw [number_eq, obind_some', ofPromise_eq, obind_some']
  obtain ⟨e, he⟩ := signed_tot k p.Log (okNum p.At) p.Sig (promB_len p)
  rw [he, obind_some']
  exact ⟨_, rfl⟩
theorem chead_tot (k : g_api_Key) (p : g_api_Head) : ∃ e, m_logd_CheckHead k p = some e := by
  unfold m_logd_CheckHead
  rw [number_eq, obind_some', ofHead_eq, obind_some']
  obtain ⟨e, he⟩ := signed_tot k p.Log ((okNum p.At && (decide (p.Size ≥ 0))) && (decide (p.Size ≤ 256))) p.Sig (headB_len p)
  rw [he, obind_some']
  exact ⟨_, rfl⟩
theorem signed_true (k : g_api_Key) (p : g_api_Promise) (h : g_api_Head) : m_law24_LogdSigned k p h = some true := by
  obtain ⟨e, he⟩ := cprom_tot k p
  obtain ⟨g, hg⟩ := chead_tot k h
  unfold m_law24_LogdSigned
  rw [live24_true, obind_some', Bool.not_true, if_neg Bool.false_ne_true, cprom_eq, chead_eq, he, obind_some', obind_some', beq_self_eq_true, hg, gu, cond_true, obind_some', obind_some', beq_self_eq_true]
  rfl
end Go.Proofs.YtemiampgjgenhaaGreat
