/- A root is that of its parts: in plain terms. Conditions: none. -/
import Derived.Test.YtohipjalgccmnaaDoorPe
import Derived.Test.YtohipjalgccmnaaDoorL1
import Derived.Test.YtohipjalgccmnaaDoorWkJ
set_option linter.unusedSimpArgs false
set_option linter.unusedVariables false
set_option maxHeartbeats 2000000
set_option maxRecDepth 100000
namespace Go.Proofs.YtohipjalgccmnaaDoor
open Go Go.Gw
theorem eqSum_rfl (a : Sm) : eqSum a a = true := by obtain ⟨a, b⟩ := a; simp [eqSum]
theorem rootP_app {l m : List Sm} {k : Nat} (hl : l.length = 2 ^ k) (h1 : 1 ≤ m.length) (h2 : m.length ≤ 2 ^ k) : rootP (l ++ m) = ppair (rootP l) (rootP m) := by
  have hpw := Nat.two_pow_pos k
  have hh : hp (l ++ m).length = 2 ^ k := hp_eq (by rw [List.length_append]; omega) (by rw [List.length_append, Nat.pow_succ]; omega)
  unfold rootP
  rw [if_neg (by rw [List.length_append]; omega), if_neg (by omega), if_neg (by omega), rootR_two (l := l ++ m) (by rw [List.length_append]; omega), hh, ← hl, List.take_left, List.drop_left]
theorem shl_all : ((List.range 6).all fun k => decide (shl64 1 ((toU (k : Int)).toNat) = ((2 ^ k : Nat) : Int))) = true := by decide
theorem shl_eq {k : Nat} (h : k ≤ 5) : shl64 1 ((toU (k : Int)).toNat) = ((2 ^ k : Nat) : Int) :=
  of_decide_eq_true (List.all_eq_true.1 shl_all k (List.mem_range.2 (by omega)))
theorem halves_true (l m : List Sm) (k : Int) : m_law08_MerkleHalves l m k = some true := by
  unfold m_law08_MerkleHalves
  rw [live_true, obind_some', if_neg (by decide)]
  by_cases hc : (((((decide (k < 0)) || (decide (k > 5))) || ((m.length : Int) == 0)) || (decide ((m.length : Int) > (shl64 1 ((toU k).toNat))))) || (decide ((l.length : Int) < (shl64 1 ((toU k).toNat))))) = true
  · rw [if_pos hc]
  · rw [if_neg hc]
    have hk : 0 ≤ k ∧ k ≤ 5 := by simp at hc; omega
    obtain ⟨k, rfl⟩ := Int.eq_ofNat_of_zero_le hk.1
    have hk5 : k ≤ 5 := by omega
    have hs := shl_eq hk5
    have h2 : 1 ≤ m.length ∧ m.length ≤ 2 ^ k ∧ 2 ^ k ≤ l.length := by
      rw [hs] at hc
      simp only [Bool.or_eq_true, decide_eq_true_eq, beq_iff_eq, not_or] at hc
      omega
    have hpw : 2 ^ k ≤ 2 ^ 5 := Nat.pow_le_pow_right (by omega) hk5
    have h32 : 2 ^ k ≤ 32 := hpw
    have hc1 : cut l 0 ((2 ^ k : Nat) : Int) = some (l.take (2 ^ k)) := by
      have := cut_eq (xs := l) (lo := 0) (hi := 2 ^ k) (Nat.zero_le _) h2.2.2
      simpa using this
    have hlt : (l.take (2 ^ k)).length = 2 ^ k := by simp; omega
    rw [hs, hc1, obind_some', app_eq 16 (by simp; omega) (by simp; omega), obind_some', app_eq 16 (by simp; omega) (by simp; omega), obind_some', if_pos rfl, List.nil_append]
    rw [root_eq _ (by simp; omega), obind_some', root_eq _ (by omega), obind_some', root_eq _ (by omega), obind_some', pair_eq, obind_some', rootP_app hlt h2.1 h2.2.1, eqSum_rfl]
    rfl
end Go.Proofs.YtohipjalgccmnaaDoor
