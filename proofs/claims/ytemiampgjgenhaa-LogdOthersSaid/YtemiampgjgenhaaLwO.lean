/- The law LogdOthers, in plain terms. Conditions: none. -/
import Derived.Test.YtemiampgjgenhaaQh
import Derived.Test.YtemiampgjgenhaaQL
import Derived.Test.YtemiampgjgenhaaWkJ
set_option linter.unusedSimpArgs false
set_option linter.unusedVariables false
set_option maxHeartbeats 4000000
set_option maxRecDepth 100000
namespace Go.Proofs.Ytemiampgjgenhaa
open Go Go.Gw

theorem checkProm_other {l : g_api_Log} {t id : Int} {b : List UInt8} (h : okNum l.Id = true) (ht : okNum t = true) (hid : id ≠ l.Id) : m_logd_CheckPromise ⟨id, (pubOf l).Key, (pubOf l).Delay⟩ (promOf l t b) = some 240 := by
  have e1 : (promOf l t b).Log = l.Id := by simp only [promOf]
  have e2 : (promOf l t b).At = t := by simp only [promOf]
  unfold m_logd_CheckPromise m_logd_signed
  rw [ofPromise_eq, e1, e2, number_eq, obind_some', obind_some', number_eq, obind_some', h, ht, if_neg (by decide), if_pos (by simpa using Ne.symm hid), obind_some']
theorem checkHead_other {l : g_api_Log} {n t id : Int} {r : UInt64 × UInt64} (h : okNum l.Id = true) (ht : okNum t = true) (hn : 0 ≤ n ∧ n ≤ 256) (hid : id ≠ l.Id) : m_logd_CheckHead ⟨id, (pubOf l).Key, (pubOf l).Delay⟩ (headOf l n r t) = some 240 := by
  have e1 : (headOf l n r t).Log = l.Id := by simp only [headOf]
  have e2 : (headOf l n r t).At = t := by simp only [headOf]
  have e4 : (headOf l n r t).Size = n := by simp only [headOf]
  unfold m_logd_CheckHead m_logd_signed
  rw [ofHead_eq, e1, e2, e4, number_eq, obind_some', obind_some', number_eq, obind_some', h, ht, decide_eq_true hn.2, decide_eq_true (show n ≥ 0 from hn.1), if_neg (by decide), if_pos (by simpa using Ne.symm hid), obind_some']
theorem checkProm_neg (k : g_api_Key) (p : g_api_Promise) (hp : p.At = -1) : m_logd_CheckPromise k p = some 1 := by
  unfold m_logd_CheckPromise m_logd_signed
  have hn : okNum (-1) = false := by decide
  rw [ofPromise_eq, hp, number_eq, obind_some', obind_some', number_eq, obind_some', hn, if_pos (by simp), obind_some']
theorem checkHead_neg (k : g_api_Key) (p : g_api_Head) (hp : p.Size = -1) : m_logd_CheckHead k p = some 1 := by
  unfold m_logd_CheckHead m_logd_signed
  rw [ofHead_eq, hp, number_eq, obind_some', obind_some', number_eq, obind_some', if_pos (by simp), obind_some']
theorem others_true (l : g_api_Log) (b : List UInt8) (now id : Int) : m_law24_LogdOthers l b now id = some true := by
  unfold m_law24_LogdOthers
  rw [live24_true, obind_some', if_neg (by decide)]
  obtain ⟨r, hr, hf⟩ := few24 l b
  rw [hr, obind_some']
  cases r with
  | false => rfl
  | true =>
    obtain ⟨f1, f2, f3, f4⟩ := hf rfl
    rw [if_neg (by decide)]
    have hl : l.L.length + l.Wait.length ≤ 90000 := by omega
    rcases add_cases (b := b) (now := now) hl with ⟨e, he, ha⟩ | ⟨l', t, ha, A⟩
    · rw [ha, obind_some']
      dsimp only
      rw [if_pos (by simpa using he)]
    · have hfew := A.few
      have hl' : l'.L.length + l'.Wait.length ≤ 100000 := by rw [A.L]; omega
      have h256 : l'.L.length ≤ 256 := by have := (chk_zero A.holds).2.2.2; simp at this; omega
      have hh := (chk_zero A.holds).1
      have hid := (key_of hh).2.2
      rw [ha, obind_some']
      dsimp only
      rw [if_neg (by decide), publicL_eq hl' A.holds, obind_some', head0_eq hl' A.holds (Nat.le_refl _) A.num, obind_some']
      dsimp only
      rw [if_neg (by decide), checkHead_eq hh A.num ⟨by omega, by omega⟩, obind_some', obind_some', if_neg (by decide), ← A.prom]
      have hI : l.Id = l'.Id := A.Id.symm
      rw [hI]
      by_cases hi : id = l'.Id
      · rw [if_neg (by simp [hi]), obind_some', if_neg (by decide), checkProm_neg _ _ rfl, obind_some', if_pos (by decide), checkHead_neg _ _ rfl, obind_some', obind_some']; rfl
      · rw [if_pos (by simpa using hi), checkProm_other hid A.at_ hi, obind_some', if_neg (by decide), checkHead_other hid A.num ⟨by omega, by omega⟩ hi, obind_some', obind_some', if_neg (by decide), checkProm_neg _ _ rfl, obind_some', if_pos (by decide), checkHead_neg _ _ rfl, obind_some', obind_some']; rfl
end Go.Proofs.Ytemiampgjgenhaa
