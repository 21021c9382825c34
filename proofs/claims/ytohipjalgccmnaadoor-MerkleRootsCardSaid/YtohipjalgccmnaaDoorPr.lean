/- Roots are just what the document says: in plain terms. Conditions: none. -/
import Derived.Test.YtohipjalgccmnaaDoorPn
import Derived.Test.YtohipjalgccmnaaDoorL1
import Derived.Test.YtohipjalgccmnaaDoorWkK
set_option linter.unusedSimpArgs false
set_option linter.unusedVariables false
set_option maxHeartbeats 2000000
set_option maxRecDepth 100000
namespace Go.Proofs.YtohipjalgccmnaaDoor
open Go Go.Gw

theorem leafM_eq (b : List UInt8) (h : b.length ≤ 300) : m_merkle_Leaf b = some (ptag ⟨#[108, 101, 97, 102]⟩ [b]) := by
  unfold m_merkle_Leaf
  rw [tagged_eq _ _ (by simp [plen]; omega), obind_some']
theorem leafE_eq (b : List UInt8) (h : b.length ≤ 300) : m_ref08_Leaf b = some (ptag ⟨#[108, 101, 97, 102]⟩ [b]) := by
  unfold m_ref08_Leaf
  rw [tagged02_eq _ _ (by simp [plen]; omega) (by simp), obind_some']
theorem roots_true (l : List Sm) (b : List UInt8) : m_law08_MerkleRoots l b = some true := by
  unfold m_law08_MerkleRoots
  rw [live_true, obind_some', if_neg (by decide)]
  by_cases hc : l.length ≤ 40 ∧ b.length ≤ 300
  · rw [if_neg (by simp; omega), if_pos rfl, root_eq _ (by omega), obind_some', rootE_eq _ (by omega), obind_some', obind_some', eqSum_self, if_pos rfl, leafM_eq b hc.2, obind_some', leafE_eq b hc.2, obind_some', obind_some', eqSum_self]
  · rw [if_pos (by simp; omega)]
end Go.Proofs.YtohipjalgccmnaaDoor
