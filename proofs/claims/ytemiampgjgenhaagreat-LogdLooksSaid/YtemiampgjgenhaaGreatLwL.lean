/- The law LogdLooks, in plain terms. Conditions: none. -/
import Derived.Test.YtemiampgjgenhaaGreatRe
import Derived.Test.YtemiampgjgenhaaGreatQL
import Derived.Test.YtemiampgjgenhaaGreatWkL
set_option linter.unusedSimpArgs false
set_option linter.unusedVariables false
set_option maxHeartbeats 4000000
set_option maxRecDepth 100000
namespace Go.Proofs.YtemiampgjgenhaaGreat
open Go Go.Gw

theorem secret04_eq {seed : List UInt8} (h : seed.length ≤ 600000) : m_ref04_Secret seed = m_sign_Secret seed := by
  unfold m_ref04_Secret m_sign_Secret
  rw [tagged02_eq _ _ (by simp [plen]; omega) (by simp), obind_some', num02_eq dvR1 (by decide), obind_some', some_eq' (by simp [plen]; omega), obind_some']
  congr 1
  exact UInt64.add_comm _ _
theorem secret_tot {seed : List UInt8} (h : seed.length ≤ 600000) : ∃ k, m_sign_Secret seed = some k := by
  unfold m_sign_Secret
  rw [some_eq' (by simp [plen]; omega), obind_some']
  exact ⟨_, rfl⟩
theorem new_eq (id d : Int) {seed : List UInt8} (h : seed.length ≤ 600000) : ∃ l e, m_logd_New id seed d = some (l, e) ∧ m_ref24_New id seed d = some (l, e) ∧ l.L = [] ∧ l.Wait = [] ∧ l.Hide = [] := by
  obtain ⟨k, hk⟩ := secret_tot h
  unfold m_logd_New m_ref24_New
  rw [secret04_eq h, hk, obind_some', obind_some', chkL_eq (by simp), obind_some', check24_eq (by simp) (by simp), obind_some']
  by_cases hc : chk (⟨id, k, d, [], [], []⟩ : g_api_Log) = 0
  · rw [hc, if_neg (by decide)]
    exact ⟨_, _, rfl, rfl, rfl, rfl, rfl⟩
  · rw [if_pos (by simpa using hc)]
    exact ⟨_, _, rfl, rfl, rfl, rfl, rfl⟩
theorem public_tot (k : UInt64) : ∃ r, m_ref04_Public k = some r ∧ m_sign_Public k = some r := by
  unfold m_ref04_Public m_ref04_right m_sign_Public m_sign_odd
  rw [bnd_def, obind_some', bnd_def, obind_some']
  have hc : (!((decide ((k.toNat : Int) ≥ 1)) && (decide ((k.toNat : Int) < 1152921504606845789)))) = (((k.toNat : Int) == 0) || (decide ((k.toNat : Int) ≥ 1152921504606845789))) := by
    rw [Bool.eq_iff_iff]; simp; omega
  rw [hc]
  cases (((k.toNat : Int) == 0) || (decide ((k.toNat : Int) ≥ 1152921504606845789))) with
  | true => rw [if_pos rfl, if_pos rfl]; exact ⟨_, rfl, rfl⟩
  | false => rw [if_neg Bool.false_ne_true, if_neg Bool.false_ne_true, base03_eq, obind_some', base_eq, obind_some']; exact ⟨_, rfl, rfl⟩
theorem publicL24_eq {l : g_api_Log} (h : l.L.length + l.Wait.length ≤ 100000) (hh : l.Hide.length ≤ 100000) : ∃ k e, m_logd_Public l = some (k, e) ∧ m_ref24_Public l = some (k, e) := by
  unfold m_logd_Public m_ref24_Public
  rw [chkL_eq h, obind_some', check24_eq h hh, obind_some']
  by_cases hc : chk l = 0
  · rw [hc, if_neg (by decide), if_neg (by decide)]
    have hk : okHd l = true := by
      unfold chk at hc
      cases h0 : okHd l with
      | true => rfl
      | false => rw [h0] at hc; simp at hc
    unfold okHd at hk
    simp only [Bool.and_eq_true, Bool.not_eq_true', decide_eq_true_eq, decide_eq_false_iff_not] at hk
    obtain ⟨⟨⟨⟨_, h2⟩, h3⟩, _⟩, _⟩ := hk
    have hp : m_sign_Public l.Key = some (pubK l.Key, 0) := public_eq (by omega) h3
    obtain ⟨r, r1, r2⟩ := public_tot l.Key
    rw [hp] at r2
    cases r2
    rw [hp, r1, obind_some', obind_some']
    exact ⟨_, _, rfl, rfl⟩
  · rw [if_pos (by simpa using hc), if_pos (by simpa using hc)]
    exact ⟨_, _, rfl, rfl⟩
theorem eqKey_self (p : g_api_Key) : eq_api_Key p p = true := by simp [eq_api_Key]
theorem looks_true (l : g_api_Log) (id : Int) (seed : List UInt8) (d : Int) : m_law24_LogdLooks l id seed d = some true := by
  unfold m_law24_LogdLooks
  rw [live24_true, obind_some', Bool.not_true, if_neg Bool.false_ne_true]
  obtain ⟨r, hr, hf⟩ := few24 l seed
  rw [hr, obind_some']
  cases r with
  | false => rw [Bool.not_false, if_pos rfl]
  | true =>
    obtain ⟨f1, f2, f3, f4⟩ := hf rfl
    have hl : l.L.length + l.Wait.length ≤ 100000 := by omega
    obtain ⟨x, e, x1, x2, x3, x4, x5⟩ := new_eq id d (seed := seed) (by omega)
    obtain ⟨k, g, k1, k2⟩ := publicL24_eq hl (by omega)
    rw [Bool.not_true, if_neg Bool.false_ne_true, x1, obind_some', x2, obind_some', k1, obind_some', k2, obind_some', chkL_eq hl, obind_some', check24_eq hl (by omega), obind_some']
    dsimp only
    rw [same_self _ (by rw [x3]; simp) (by rw [x4]; simp) (by rw [x5]; simp), beq_self_eq_true, beq_self_eq_true, beq_self_eq_true, eqKey_self]
    rfl
end Go.Proofs.YtemiampgjgenhaaGreat
