/- Growth is just what the document says: in plain terms. Conditions: none. -/
import Derived.Test.YtohipjalgccmnaaDoorPq
import Derived.Test.YtohipjalgccmnaaDoorL1
import Derived.Test.YtohipjalgccmnaaDoorWkQ
set_option linter.unusedSimpArgs false
set_option linter.unusedVariables false
set_option maxHeartbeats 2000000
set_option maxRecDepth 100000
namespace Go.Proofs.YtohipjalgccmnaaDoor
open Go Go.Gw

theorem sums_it (l : List Sm) (h : l.length ≤ 1000) : ∀ (n i : Nat), i + n = l.length → iter (m_ref08_Sums_b1 l l) (n + 1) (i : Int) = some (.inl ()) := by
  intro n
  induction n with
  | zero =>
    intro i hi
    refine iter_end ?_
    unfold m_ref08_Sums_b1
    rw [if_neg (by simp; omega)]
  | succ n ih =>
    intro i hi
    have hw : w64 ((i : Int) + 1) = ((i + 1 : Nat) : Int) := by rw [w64_in (by omega) (by omega)]; omega
    have hx : idx l (i : Int) = some (l[i]'(by omega)) := idx_nat (by simp)
    rw [iter_step (s' := ((i + 1 : Nat) : Int))]
    · exact ih (i + 1) (by omega)
    · unfold m_ref08_Sums_b1
      rw [if_pos (by simp; omega), hx, obind_some', obind_some', eqSum_self, if_neg (by decide), hw]
theorem sums_self (l : List Sm) (h : l.length ≤ 1000) : m_ref08_Sums l l = some true := by
  have h1 := iter_up _ (sums_it l h l.length 0 (by omega)) (by omega)
  unfold m_ref08_Sums
  rw [if_neg (by simp), show (0 : Int) = ((0 : Nat) : Int) from rfl, h1, obind_some']
theorem few_eq (l : List Sm) : m_law08_few l = some (decide (l.length ≤ 40 ∨ 256 < l.length)) := by
  unfold m_law08_few
  rw [bnd_def]
  by_cases h : l.length ≤ 40 ∨ 256 < l.length
  · rw [decide_eq_true h]; congr 1; simp; omega
  · rw [decide_eq_false h]; congr 1; simp; omega
theorem checkGrow_some (f s : Int) (a b : Sm) (ps : List Sm) (hl : ps.length < 1000000) : ∃ r, m_merkle_CheckGrow f s a b ps = some r := by
  by_cases hc : f < 0 ∨ s < f ∨ 256 < s
  · exact ⟨_, checkGrow_arg hc a b ps⟩
  · by_cases h0 : f = 0 ∨ f = s
    · exact ⟨_, checkGrow_end (by omega) (by omega) (by omega) h0 a b ps⟩
    · obtain ⟨f, rfl⟩ := Int.eq_ofNat_of_zero_le (show 0 ≤ f by omega)
      obtain ⟨s, rfl⟩ := Int.eq_ofNat_of_zero_le (show 0 ≤ s by omega)
      exact ⟨_, checkGrow_eq (by omega) (by omega) (by omega) a b ps hl⟩
theorem grow_some (l : List Sm) (f : Int) (h : l.length ≤ 40 ∨ 256 < l.length) : ∃ p e, m_merkle_Grow l f = some (p, e) ∧ p.length ≤ 1000 := by
  by_cases hc : 256 < l.length ∨ f < 0 ∨ (l.length : Int) < f
  · exact ⟨_, _, grow_no hc, by simp⟩
  · obtain ⟨f, rfl⟩ := Int.eq_ofNat_of_zero_le (show 0 ≤ f by omega)
    by_cases h0 : f = 0
    · subst h0; exact ⟨_, _, grow_zero (by omega), by simp⟩
    · refine ⟨_, _, grow_eq (by omega) (by omega) (by omega), ?_⟩
      have := shows_len l.length l f true (Nat.le_refl _)
      omega
theorem grows_true (l : List Sm) (from1 size : Int) (a b : Sm) (proof : List Sm) : m_law08_MerkleGrows l from1 size a b proof = some true := by
  unfold m_law08_MerkleGrows
  rw [live_true, obind_some', if_neg (by decide), few_eq, obind_some']
  by_cases hc : (l.length ≤ 40 ∨ 256 < l.length) ∧ proof.length ≤ 40
  · rw [decide_eq_true hc.1, if_neg (by simp; omega)]
    obtain ⟨p, e, hp', hl⟩ := grow_some l from1 hc.1
    obtain ⟨r, hr⟩ := checkGrow_some from1 size a b proof (by omega)
    rw [growE_eq, hp', obind_some', obind_some', sums_self p hl, obind_some', checkGrowE_eq _ _ _ _ _ (by omega), hr]
    simp [gu, bnd_def]
  · rw [if_pos (by simp; omega)]
end Go.Proofs.YtohipjalgccmnaaDoor
