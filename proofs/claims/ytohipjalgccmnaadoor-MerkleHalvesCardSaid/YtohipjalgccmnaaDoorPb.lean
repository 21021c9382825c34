/- Climbing a tree ends, and so does the look at a proof. Conditions: sizes as the program allows. -/
import Derived.Test.YtohipjalgccmnaaDoorPa
import Derived.Test.YtohipjalgccmnaaDoorWkC
import Derived.KernelRfl
set_option linter.unusedSimpArgs false
set_option linter.unusedVariables false
set_option maxHeartbeats 2000000
set_option maxRecDepth 100000
namespace Go.Proofs.YtohipjalgccmnaaDoor
open Go Go.Gw

theorem shr1 {n : Int} (h : 0 ≤ n) : shr64 n 1 = n / 2 := by
  show n.fdiv (2 ^ (min 1 64)) = n / 2
  rw [Int.fdiv_eq_ediv_of_nonneg _ (by decide)]; rfl

/-- Lengths in bits are told of all numbers. -/
theorem tab_le : (str_0.data.toList.all fun b => decide (b.toNat ≤ 8)) = true := by kernel_rfl
theorem tab_len : str_0.data.toList.length = 256 := by kernel_rfl
theorem tab_idx (x : UInt64) : ∃ b, idx str_0.data.toList ((toB (x.toNat : Int)).toNat : Int) = some b ∧ b.toNat ≤ 8 := by
  have hlt : (toB (x.toNat : Int)).toNat < str_0.data.toList.length := by rw [tab_len]; exact (toB (x.toNat : Int)).toNat_lt
  refine ⟨str_0.data.toList[(toB (x.toNat : Int)).toNat], idx_nat (by simp), ?_⟩
  exact of_decide_eq_true (List.all_eq_true.1 tab_le _ (List.getElem_mem hlt))
theorem len_tot (a : UInt64) : ∃ r, m_bits_Len a = some r ∧ 0 ≤ r ∧ r ≤ 64 := by
  have h1 : ∃ x n, (if (decide ((a.toNat : Int) ≥ 4294967296)) = true then some ((shrU a 32), (32 : Int)) else some (a, 0)) = some (x, n) ∧ 0 ≤ n ∧ n ≤ 32 := by
    split
    · exact ⟨_, _, rfl, by omega, by omega⟩
    · exact ⟨_, _, rfl, by omega, by omega⟩
  obtain ⟨x, n, e1, n0, n1⟩ := h1
  have h2 : ∃ y k, (if (decide ((x.toNat : Int) ≥ 65536)) = true then some ((shrU x 16), (w64 (n + 16))) else some (x, n)) = some (y, k) ∧ 0 ≤ k ∧ k ≤ 48 := by
    split
    · refine ⟨_, _, rfl, ?_, ?_⟩ <;> rw [w64_in (by omega) (by omega)] <;> omega
    · exact ⟨_, _, rfl, by omega, by omega⟩
  obtain ⟨y, k, e2, k0, k1⟩ := h2
  have h3 : ∃ z j, (if (decide ((y.toNat : Int) ≥ 256)) = true then some ((shrU y 8), (w64 (k + 8))) else some (y, k)) = some (z, j) ∧ 0 ≤ j ∧ j ≤ 56 := by
    split
    · refine ⟨_, _, rfl, ?_, ?_⟩ <;> rw [w64_in (by omega) (by omega)] <;> omega
    · exact ⟨_, _, rfl, by omega, by omega⟩
  obtain ⟨z, j, e3, j0, j1⟩ := h3
  obtain ⟨b, e4, b1⟩ := tab_idx z
  refine ⟨j + b.toNat, ?_, by omega, by omega⟩
  simp only [m_bits_Len, m_bits_Len64, e1, obind_some', e2, e3, e4, bnd_def]
  rw [w64_in (n := (b.toNat : Int)) (by omega) (by omega), w64_in (by omega) (by omega)]
theorem ones_tot (a : UInt64) : ∃ r, m_bits_OnesCount a = some r := ⟨_, rfl⟩
theorem steps_tot (a s : Int) : ∃ r, m_merkle_steps a s = some r := by
  obtain ⟨x, hx, x0, _⟩ := len_tot (toU (xor64 a (w64 (s - 1))))
  obtain ⟨y, hy⟩ := ones_tot (toU (shr64 a x.toNat))
  exact ⟨(x, y), by simp only [m_merkle_steps, hx, obind_some']; rw [if_pos x0, hy]; rfl⟩

theorem climb3 : ∀ (n : Nat) (a l : Int), 0 ≤ a → a < 2 ^ n → ∃ r, iter m_merkle_climb_b3 (n + 1) (a, l) = some r ∧ 0 ≤ r.1 ∧ r.1 ≤ a := by
  intro n
  induction n with
  | zero =>
    intro a l h0 h1
    have : a = 0 := by have : (2 : Int) ^ 0 = 1 := rfl; omega
    subst this
    refine ⟨(0, l), iter_end ?_, by simp, by simp⟩
    simp only [m_merkle_climb_b3]
    rw [if_neg (by simp)]
  | succ n ih =>
    intro a l h0 h1
    by_cases hc : ((and64 a 1 == 0) && (a != 0)) = true
    · have h2 : a / 2 < 2 ^ n := by
        have : (2 : Int) ^ (n + 1) = 2 * 2 ^ n := by rw [Int.pow_succ]; omega
        omega
      obtain ⟨r, hr, e1, e2⟩ := ih (a / 2) (shr64 l 1) (by omega) h2
      refine ⟨r, ?_, e1, by omega⟩
      rw [iter_step (s' := (a / 2, shr64 l 1))]
      · exact hr
      · simp only [m_merkle_climb_b3, hc, if_true, shr1 h0]
    · refine ⟨(a, l), iter_end ?_, h0, by simp⟩
      simp only [m_merkle_climb_b3]
      rw [if_neg hc]

theorem climb1 {σ : Type} {p3 p4 : σ → (UInt64 × UInt64) → Option σ} (h3 : ∀ s x, ∃ r, p3 s x = some r) (h4 : ∀ s x, ∃ r, p4 s x = some r) (i : Int) (x : UInt64 × UInt64) (s : Int × Int × σ) (h0 : 0 ≤ s.1) (h1 : s.1 ≤ 256) :
    ∃ r, m_merkle_climb_b1 p3 p4 i x s = some r ∧ 0 ≤ r.1 ∧ r.1 ≤ 256 := by
  obtain ⟨a, l, s⟩ := s
  simp only at h0 h1
  unfold m_merkle_climb_b1
  by_cases hc : ((and64 a 1 == 0) && (a != l)) = true
  · obtain ⟨r, hr⟩ := h4 s x
    refine ⟨(shr64 a 1, shr64 l 1, r), ?_, by rw [shr1 h0]; simp; omega, by rw [shr1 h0]; simp; omega⟩
    simp only [hc, if_true, hr, obind_some']
  · obtain ⟨r, hr⟩ := h3 s x
    obtain ⟨q, hq, q0, q1⟩ := climb3 9 a l h0 (by omega)
    have hq' := iter_up _ hq (by omega)
    refine ⟨(shr64 q.1 1, shr64 q.2 1, r), ?_, by rw [shr1 q0]; simp; omega, by rw [shr1 q0]; simp; omega⟩
    simp only [hr, obind_some', hq']
    rw [if_neg hc]
    rfl

theorem climb_each {σ : Type} {p3 p4 : σ → (UInt64 × UInt64) → Option σ} (h3 : ∀ s x, ∃ r, p3 s x = some r) (h4 : ∀ s x, ∃ r, p4 s x = some r) : ∀ (l : List (UInt64 × UInt64)) (i : Int) (s : Int × Int × σ), 0 ≤ s.1 → s.1 ≤ 256 →
    ∃ r, each0 (m_merkle_climb_b1 p3 p4) l i s = some r := by
  intro l
  induction l with
  | nil => intro i s _ _; exact ⟨s, rfl⟩
  | cons x l ih =>
    intro i s h0 h1
    obtain ⟨r, hr, r0, r1⟩ := climb1 h3 h4 i x s h0 h1
    obtain ⟨t, ht⟩ := ih (i + 1) r r0 r1
    exact ⟨t, by simp only [each0, hr, obind_some', ht]⟩
theorem climb_tot {σ : Type} {p3 p4 : σ → (UInt64 × UInt64) → Option σ} (h3 : ∀ s x, ∃ r, p3 s x = some r) (h4 : ∀ s x, ∃ r, p4 s x = some r) (a s : Int) (l : List (UInt64 × UInt64)) (s0 : σ) (h0 : 0 ≤ a) (h1 : a ≤ 256) : ∃ r, m_merkle_climb a s l p3 p4 s0 = some r := by
  obtain ⟨r, hr⟩ := climb_each h3 h4 l 0 (a, w64 (s - 1), s0) h0 h1
  exact ⟨r.2.2, by simp only [m_merkle_climb, hr, obind_some']⟩

/-- What the look at a proof tells hangs on the root in one way alone. -/
theorem check_cases (leaf : UInt64 × UInt64) (a s : Int) (p : List (UInt64 × UInt64)) :
    (∀ root, m_merkle_Check leaf a s p root = some 1 ∧ (a < 0 ∨ s ≤ a ∨ 256 < s)) ∨ (∀ root, m_merkle_Check leaf a s p root = some 80) ∨ ∃ x, ∀ root, m_merkle_Check leaf a s p root = some (if eqSum x root = true then 0 else 71) := by
  by_cases hc : (((decide (a < 0)) || (decide (a ≥ s))) || (decide (s > 256))) = true
  · refine .inl fun root => ⟨?_, ?_⟩
    · simp only [m_merkle_Check]; rw [if_pos hc]
    · simp at hc; omega
  · have hn : 0 ≤ a ∧ a < s ∧ s ≤ 256 := by simp at hc; omega
    obtain ⟨r, hr⟩ := steps_tot a s
    by_cases hl : ((p.length : Int) != (w64 (r.1 + r.2))) = true
    · refine .inr (.inl fun root => ?_)
      simp only [m_merkle_Check]; rw [if_neg hc, hr]; simp only [obind_some']; rw [if_pos hl]
    · refine .inr (.inr ?_)
      obtain ⟨x, hx⟩ := climb_tot (p3 := fun (s1 : (UInt64 × UInt64)) (b4 : UInt64 × UInt64) => obind (m_merkle_Check_1 b4 (s1)) fun x2 => some x2) (p4 := fun (s2 : (UInt64 × UInt64)) (b5 : UInt64 × UInt64) => obind (m_merkle_Check_2 b5 (s2)) fun x3 => some x3)
        (fun s x => ⟨ppair x s, by simp only [m_merkle_Check_1, pair_eq, obind_some']⟩) (fun s x => ⟨ppair s x, by simp only [m_merkle_Check_2, pair_eq, obind_some']⟩) a s p leaf hn.1 (by omega)
      refine ⟨x, fun root => ?_⟩
      simp only [m_merkle_Check]; rw [if_neg hc, hr]; simp only [obind_some']; rw [if_neg hl, hx]; simp only [obind_some']
      cases eqSum x root <;> rfl
end Go.Proofs.YtohipjalgccmnaaDoor
