/- The law LogdAgain, in plain terms. Conditions: none. -/
import Derived.Test.YtemiampgjgenhaaQh
import Derived.Test.YtemiampgjgenhaaQL
import Derived.Test.YtemiampgjgenhaaWkH
set_option linter.unusedSimpArgs false
set_option linter.unusedVariables false
set_option maxHeartbeats 4000000
set_option maxRecDepth 100000
namespace Go.Proofs.Ytemiampgjgenhaa
open Go Go.Gw

theorem sameLeaves_self (xs : List g_api_Leaf) (h : xs.length ≤ 100000) : m_ref24_SameLeaves xs xs = some true := by
  obtain ⟨y, h1, h2⟩ := iter_ends (step := m_ref24_SameLeaves_b1 xs xs) (T := fun y => y = .inl ()) (s0 := 0) (fun i s => s = (i : Int) ∧ i ≤ xs.length) xs.length (by omega) ⟨rfl, by omega⟩ (by
    rintro i s hi ⟨rfl, _⟩
    unfold m_ref24_SameLeaves_b1
    by_cases hlt : i < xs.length
    · right
      refine ⟨hlt, ((i + 1 : Nat) : Int), ?_, rfl, by omega⟩
      rw [if_pos (by simpa using hlt), idx_lt hlt, obind_some', obind_some', bne_self_eq_false, Bool.not_false]
      simp only [gu, cond_true, obind_some']
      rw [if_neg (by simp [eqS]), w64_sucN (by omega)]
    · left
      exact ⟨.inl (), by rw [if_neg (by simpa using hlt)], rfl⟩)
  unfold m_ref24_SameLeaves
  rw [if_neg (by simp), h1, h2, obind_some']
theorem same_self (l : g_api_Log) (hl : l.L.length ≤ 100000) (hw : l.Wait.length ≤ 100000) (hh : l.Hide.length ≤ 100000) : m_ref24_Same l l = some true := by
  obtain ⟨y, h1, h2⟩ := iter_ends (step := m_ref24_Same_b3 l l) (T := fun y => y = .inl ()) (s0 := 0) (fun i s => s = (i : Int) ∧ i ≤ l.Hide.length) l.Hide.length (by omega) ⟨rfl, by omega⟩ (by
    rintro i s hi ⟨rfl, _⟩
    unfold m_ref24_Same_b3
    by_cases hlt : i < l.Hide.length
    · right
      refine ⟨hlt, ((i + 1 : Nat) : Int), ?_, rfl, by omega⟩
      rw [if_pos (by simpa using hlt), idx_lt hlt, obind_some', obind_some', if_neg (by simp), w64_sucN (by omega)]
    · left
      exact ⟨.inl (), by rw [if_neg (by simpa using hlt)], rfl⟩)
  unfold m_ref24_Same
  rw [if_neg (by simp), h1, h2, obind_some']
  dsimp only
  rw [sameLeaves_self _ hl, obind_some', if_pos rfl, sameLeaves_self _ hw]; rfl
theorem eqProm_self (p : g_api_Promise) : eq_api_Promise p p = true := by
  simp [eq_api_Promise, eq_api_Sig, eqSum]
theorem again_true (l : g_api_Log) (b : List UInt8) (now then_ : Int) : m_law24_LogdAgain l b now then_ = some true := by
  unfold m_law24_LogdAgain
  rw [live24_true, obind_some', if_neg (by decide)]
  obtain ⟨r, hr, hf⟩ := few24 l b
  rw [hr, obind_some']
  by_cases hc : (((!r) || (decide (then_ < 0))) || (decide (then_ > 1099511627776))) = true
  · rw [if_pos hc]
  · rw [if_neg hc]
    simp only [Bool.or_eq_true, Bool.not_eq_true', decide_eq_true_eq, not_or, Bool.not_eq_false] at hc
    obtain ⟨⟨rfl, h2⟩, h3⟩ := hc
    have ht : okNum then_ = true := by unfold okNum; simp; omega
    obtain ⟨f1, f2, f3, f4⟩ := hf rfl
    have hl : l.L.length + l.Wait.length ≤ 90000 := by omega
    rcases add_cases (b := b) (now := now) hl with ⟨e, he, ha⟩ | ⟨l', t, ha, A⟩
    · rw [ha, obind_some']
      dsimp only
      rw [if_pos (by simpa using he)]
    · have hfew := A.few
      have hl' : l'.L.length + l'.Wait.length ≤ 100000 := by rw [A.L]; omega
      have hh : l'.Hide.length ≤ 100000 := by rw [A.Hide]; omega
      rw [ha, obind_some']
      dsimp only
      rw [if_neg (by decide), A.again hl ht, obind_some', merge_eq hl' A.holds, obind_some', A.merged hl ht, obind_some']
      dsimp only
      rw [if_pos (by rw [eqProm_self]; rfl), same_self _ (by omega) (by omega) hh, obind_some', obind_some', if_pos rfl, same_self _ (by simp [merged]; omega) (by simp [merged]) (by simpa [merged] using hh)]; rfl
end Go.Proofs.Ytemiampgjgenhaa
