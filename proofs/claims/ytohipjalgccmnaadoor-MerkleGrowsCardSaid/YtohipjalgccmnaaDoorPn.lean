/- What the reference computes of roots is what the program computes. Conditions: sizes as the program allows. -/
import Derived.Test.YtohipjalgccmnaaDoorPm
import Derived.Test.YtohipjalgccmnaaDoorPo
import Derived.Test.YtohipjalgccmnaaDoorWkE
set_option linter.unusedSimpArgs false
set_option linter.unusedVariables false
set_option maxHeartbeats 2000000
set_option maxRecDepth 100000
namespace Go.Proofs.YtohipjalgccmnaaDoor
open Go Go.Gw

theorem firstR_it {n j : Nat} (h1 : 2 ^ j < n) (h2 : n ≤ 2 ^ (j + 1)) (hn : n ≤ 300) : ∀ d i : Nat, i + d = j → iter (m_ref08_First_b1 (n : Int)) (d + 1) ((2 ^ i : Nat) : Int) = some ((2 ^ j : Nat) : Int) := by
  intro d
  induction d with
  | zero =>
    intro i h
    have : i = j := by omega
    subst this
    have e1 : 2 ^ (i + 1) = 2 * 2 ^ i := by rw [Nat.pow_succ]; omega
    refine iter_end ?_
    unfold m_ref08_First_b1
    have hw : w64 (2 * ((2 ^ i : Nat) : Int)) = ((2 ^ (i + 1) : Nat) : Int) := by rw [w64_in (by omega) (by omega)]; omega
    rw [hw, if_neg (by simp only [decide_eq_true_eq]; omega)]
  | succ d ih =>
    intro i h
    have e1 : 2 ^ (i + 1) = 2 * 2 ^ i := by rw [Nat.pow_succ]; omega
    have e2 : 2 ^ (i + 1) ≤ 2 ^ j := Nat.pow_le_pow_right (by omega) (by omega)
    have hw : w64 (2 * ((2 ^ i : Nat) : Int)) = ((2 ^ (i + 1) : Nat) : Int) := by rw [w64_in (by omega) (by omega)]; omega
    rw [iter_step (s' := ((2 ^ (i + 1) : Nat) : Int))]
    · exact ih (i + 1) (by omega)
    · unfold m_ref08_First_b1
      rw [hw, if_pos (by simp only [decide_eq_true_eq]; omega)]
theorem firstR_eq {n : Nat} (h1 : 2 ≤ n) (h2 : n ≤ 300) : m_ref08_First (n : Int) = some ((hp n : Nat) : Int) := by
  obtain ⟨j, hj, j1, j2⟩ := hp_spec h1
  have hj9 : j < 9 := pow_lt_of (b := 9) (by omega)
  have h := firstR_it j1 j2 h2 j 0 (by omega)
  have h' := iter_up _ h (by omega)
  unfold m_ref08_First
  rw [show (1 : Int) = ((2 ^ 0 : Nat) : Int) from rfl, h', obind_some', obind_some', hj]
theorem rootP_R2 {l : List Sm} (h : 2 ≤ l.length) : rootP l = ppair (rootP (l.take (hp l.length))) (rootP (l.drop (hp l.length))) := by
  have hlt := hp_lt h
  have hpos := hp_pos l.length
  rw [rootP_R (by omega), rootP_R (l := l.take (hp l.length)) (by simp; omega), rootP_R (l := l.drop (hp l.length)) (by simp; omega), rootR_two h]
theorem rootE_rec : ∀ (n : Nat) (l : List Sm), l.length < n → l.length ≤ 300 → r_ref08_Root n l = some (rootP l) := by
  intro n
  induction n with
  | zero => intro l h; omega
  | succ n ih =>
    intro l h h3
    simp only [r_ref08_Root]
    by_cases h0 : l.length = 0
    · have : l = [] := List.eq_nil_of_length_eq_zero h0
      subst this
      rw [if_pos (by simp), tagged02_eq _ _ (by decide) (by simp), obind_some']; rfl
    · rw [if_neg (by rw [beq_iff_eq]; omega)]
      by_cases h1 : l.length = 1
      · match l, h1 with
        | [x], _ =>
          rw [if_pos (by simp), show idx [x] 0 = some x from rfl, obind_some', rootP_R (by simp), rootR_one]
      · have h2 : 2 ≤ l.length := by omega
        have hlt := hp_lt h2
        have hpos := hp_pos l.length
        rw [if_neg (by rw [beq_iff_eq]; omega), firstR_eq h2 h3, obind_some', cutL (by omega), obind_some', ih _ (by simp; omega) (by simp; omega), obind_some', cutR (by omega), obind_some', ih _ (by simp; omega) (by simp; omega), obind_some', pair02_eq, obind_some', ← rootP_R2 h2]
theorem rootE_eq (l : List Sm) (h : l.length ≤ 300) : m_ref08_Root l = some (rootP l) := by
  have hF : l.length < FUEL := by unfold FUEL; omega
  unfold m_ref08_Root
  revert hF
  generalize FUEL = n
  exact fun hF => rootE_rec n l hF h
theorem last_of {ps : List Sm} {n : Nat} (h : ps.length = n + 1) : ∃ qs p, ps = qs ++ [p] ∧ qs.length = n ∧ idx ps (n : Int) = some p ∧ cut ps 0 (n : Int) = some qs := by
  have hne : ps ≠ [] := by intro e; subst e; cases h
  refine ⟨ps.dropLast, ps.getLast hne, (List.dropLast_concat_getLast hne).symm, by simp [h], idx_nat ?_, ?_⟩
  · rw [List.getLast_eq_getElem]; simp [h]
  · rw [cutL (by omega), List.dropLast_eq_take, h]; rfl
end Go.Proofs.YtohipjalgccmnaaDoor
