/- A proof leads to one root alone: in plain terms. Conditions: none. -/
import Derived.Test.YtohipjalgccmnaaDoorPb
import Derived.Test.YtohipjalgccmnaaDoorL1
import Derived.Test.YtohipjalgccmnaaDoorWkJ
set_option linter.unusedSimpArgs false
set_option linter.unusedVariables false
set_option maxHeartbeats 2000000
namespace Go.Proofs.YtohipjalgccmnaaDoor
open Go Go.Gw
theorem eqSum_eq {a b : UInt64 × UInt64} : eqSum a b = true ↔ a = b := by
  obtain ⟨a, a'⟩ := a; obtain ⟨b, b'⟩ := b
  simp [eqSum]
theorem told_true (leaf : UInt64 × UInt64) (a s : Int) (p : List (UInt64 × UInt64)) (root other : UInt64 × UInt64) : m_law08_MerkleTold leaf a s p root other = some true := by
  simp only [m_law08_MerkleTold, live_true, obind_some']
  rw [if_neg (by decide)]
  split
  · rfl
  · rcases check_cases leaf a s p with h | h | ⟨x, h⟩
    · obtain ⟨h1, hh⟩ := h root
      rw [h1, (h other).1]
      by_cases h0 : a < 0
      · simp [h0]
      · by_cases h2 : s ≤ a
        · simp [h0, h2]
        · have h3 : 256 < s := by omega
          simp [h0, h2, h3]
    · rw [h root, h other]; rfl
    · rw [h root, h other]
      simp only [obind_some']
      by_cases h1 : eqSum x root = true
      · rw [if_pos h1]
        have := eqSum_eq.1 h1
        subst this
        by_cases h2 : eqSum x other = true
        · have := eqSum_eq.1 h2
          subst this
          simp [h1]
        · have h3 : eqSum other x = false := by
            rw [← Bool.not_eq_true]; intro e; exact h2 (eqSum_eq.2 (eqSum_eq.1 e).symm)
          simp [h2, h3]
      · simp [h1]
end Go.Proofs.YtohipjalgccmnaaDoor
