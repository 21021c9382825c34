/- Logs that are compared with themselves. Conditions: not too great. -/
import Derived.Test.YtemiampgjgenhaaGreatRd
import Derived.Test.YtemiampgjgenhaaGreatWkH
set_option linter.unusedSimpArgs false
set_option linter.unusedVariables false
set_option maxHeartbeats 4000000
set_option maxRecDepth 100000
namespace Go.Proofs.YtemiampgjgenhaaGreat
open Go Go.Gw

theorem sameLeaves_self (xs : List g_api_Leaf) (h : xs.length ≤ 200000) : m_ref24_SameLeaves xs xs = some true := by
  obtain ⟨y, h1, h2⟩ := iter_ends (step := m_ref24_SameLeaves_b1 xs xs) (T := fun y => y = .inl ()) (s0 := 0) (fun i s => s = (i : Int) ∧ i ≤ xs.length) xs.length (by omega) ⟨rfl, by omega⟩ (by
    rintro i s hi ⟨rfl, _⟩
    unfold m_ref24_SameLeaves_b1
    by_cases hlt : i < xs.length
    · right
      refine ⟨hlt, ((i + 1 : Nat) : Int), ?_, rfl, by omega⟩
      rw [if_pos (by simpa using hlt), idx_lt hlt, obind_some', obind_some', bne_self_eq_false, Bool.not_false]
      simp only [gu, cond_true, obind_some']
      rw [if_neg (by simp [eqS]), w64_sucN (by omega)]
    · left
      exact ⟨.inl (), by rw [if_neg (by simpa using hlt)], rfl⟩)
  unfold m_ref24_SameLeaves
  rw [if_neg (by simp), h1, h2, obind_some']
theorem same_self (l : g_api_Log) (hl : l.L.length ≤ 100000) (hw : l.Wait.length ≤ 200000) (hh : l.Hide.length ≤ 100000) : m_ref24_Same l l = some true := by
  obtain ⟨y, h1, h2⟩ := iter_ends (step := m_ref24_Same_b3 l l) (T := fun y => y = .inl ()) (s0 := 0) (fun i s => s = (i : Int) ∧ i ≤ l.Hide.length) l.Hide.length (by omega) ⟨rfl, by omega⟩ (by
    rintro i s hi ⟨rfl, _⟩
    unfold m_ref24_Same_b3
    by_cases hlt : i < l.Hide.length
    · right
      refine ⟨hlt, ((i + 1 : Nat) : Int), ?_, rfl, by omega⟩
      rw [if_pos (by simpa using hlt), idx_lt hlt, obind_some', obind_some', if_neg (by simp), w64_sucN (by omega)]
    · left
      exact ⟨.inl (), by rw [if_neg (by simpa using hlt)], rfl⟩)
  unfold m_ref24_Same
  rw [if_neg (by simp), h1, h2, obind_some']
  dsimp only
  rw [sameLeaves_self _ (by omega), obind_some', if_pos rfl, sameLeaves_self _ hw]; rfl
end Go.Proofs.YtemiampgjgenhaaGreat
