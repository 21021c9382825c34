/- The first part of a tree, unlike pairs: in plain terms. Conditions: sizes as the program allows. -/
import Derived.Test.YtohipjalgccmnaaDoorPi
import Derived.Test.YtohipjalgccmnaaDoorWkM
set_option linter.unusedSimpArgs false
set_option linter.unusedVariables false
set_option maxHeartbeats 2000000
set_option maxRecDepth 100000
namespace Go.Proofs.YtohipjalgccmnaaDoor
open Go Go.Gw

theorem first_it {n j : Nat} (h1 : 2 ^ j < n) (h2 : n ≤ 2 ^ (j + 1)) (hn : n ≤ 300) : ∀ d i : Nat, i + d = j → iter (m_law08_first_b1 (n : Int)) (d + 1) ((2 ^ i : Nat) : Int) = some ((2 ^ j : Nat) : Int) := by
  intro d
  induction d with
  | zero =>
    intro i h
    have : i = j := by omega
    subst this
    have e1 : 2 ^ (i + 1) = 2 * 2 ^ i := by rw [Nat.pow_succ]; omega
    refine iter_end ?_
    unfold m_law08_first_b1
    have hw : w64 (2 * ((2 ^ i : Nat) : Int)) = ((2 ^ (i + 1) : Nat) : Int) := by rw [w64_in (by omega) (by omega)]; omega
    rw [hw, if_neg (by simp only [decide_eq_true_eq]; omega)]
  | succ d ih =>
    intro i h
    have e1 : 2 ^ (i + 1) = 2 * 2 ^ i := by rw [Nat.pow_succ]; omega
    have e2 : 2 ^ (i + 1) ≤ 2 ^ j := Nat.pow_le_pow_right (by omega) (by omega)
    have hw : w64 (2 * ((2 ^ i : Nat) : Int)) = ((2 ^ (i + 1) : Nat) : Int) := by rw [w64_in (by omega) (by omega)]; omega
    rw [iter_step (s' := ((2 ^ (i + 1) : Nat) : Int))]
    · exact ih (i + 1) (by omega)
    · unfold m_law08_first_b1
      rw [hw, if_pos (by simp only [decide_eq_true_eq]; omega)]
theorem first_eq {n : Nat} (h1 : 2 ≤ n) (h2 : n ≤ 300) : m_law08_first (n : Int) = some ((hp n : Nat) : Int) := by
  obtain ⟨j, hj, j1, j2⟩ := hp_spec h1
  have hj9 : j < 9 := pow_lt_of (b := 9) (by omega)
  have h := first_it j1 j2 h2 j 0 (by omega)
  have h' := iter_up _ h (by omega)
  unfold m_law08_first
  rw [show (1 : Int) = ((2 ^ 0 : Nat) : Int) from rfl, h', obind_some', obind_some', hj]
def unl (a b c d : Sm) : Bool := ((!eqSum a c) || (!eqSum b d)) && eqSum (ppair a b) (ppair c d)
theorem unlike_eq (a b c d : Sm) : m_law08_unlike a b c d = some (unl a b c d) := by
  unfold m_law08_unlike unl
  cases h : ((!eqSum a c) || (!eqSum b d)) with
  | true => rw [gu_t _ rfl, pair_eq, obind_some', gu_t _ rfl, pair_eq, obind_some', bnd_def]
  | false => rw [gu_f _ rfl, obind_some', gu_f _ rfl, obind_some', bnd_def, Bool.false_and, Bool.false_and]
theorem unl_or {a b c d : Sm} (h : ppair a b = ppair c d) : unl a b c d = true ∨ (a = c ∧ b = d) := by
  unfold unl
  by_cases h1 : a = c
  · by_cases h2 : b = d
    · exact .inr ⟨h1, h2⟩
    · left; rw [eqSum_ne h2, h, eqSum_self]; simp
  · left; rw [eqSum_ne h1, h, eqSum_self]; simp
theorem lastI {ps : List Sm} {n : Nat} (h : ps.length = n + 1) : ∃ qs p, ps = qs ++ [p] ∧ qs.length = n ∧ idx ps (n : Int) = some p ∧ cut ps 0 (n : Int) = some qs := by
  have hne : ps ≠ [] := by intro e; subst e; cases h
  refine ⟨ps.dropLast, ps.getLast hne, (List.dropLast_concat_getLast hne).symm, by simp [h], idx_nat ?_, ?_⟩
  · rw [List.getLast_eq_getElem]; simp [h]
  · rw [cutL (by omega), List.dropLast_eq_take, h]; rfl
end Go.Proofs.YtohipjalgccmnaaDoor
