/- Plain helps: loops that count, lists by place, comparisons. Conditions: none. -/
import Derived.Test.YtemiampgjgenhaaGreatDoorGwK
set_option linter.unusedSimpArgs false
set_option linter.unusedVariables false
set_option maxHeartbeats 2000000
set_option maxRecDepth 10000
namespace Go.Gw
open Go

/-- A loop with an invariant: it ends, and what it ends with is as it should be. -/
theorem iter_goes {σ τ : Type} {step : σ → Option (σ ⊕ τ)} {T : τ → Prop} (I : Nat → σ → Prop) (n : Nat) (h : ∀ i s, i ≤ n → I i s → (∃ t, step s = some (.inr t) ∧ T t) ∨ (i < n ∧ ∃ s', step s = some (.inl s') ∧ I (i + 1) s')) :
    ∀ k i s, i + k = n → I i s → ∃ t, iter step (k + 1) s = some t ∧ T t := by
  intro k
  induction k with
  | zero =>
    intro i s hk hi
    rcases h i s (by omega) hi with ⟨t, h1, h2⟩ | ⟨h1, _⟩
    · exact ⟨t, by simp only [iter, h1, obind_some'], h2⟩
    · omega
  | succ k ih =>
    intro i s hk hi
    rcases h i s (by omega) hi with ⟨t, h1, h2⟩ | ⟨_, s', h1, h2⟩
    · exact ⟨t, by simp only [iter, h1, obind_some'], h2⟩
    · obtain ⟨t, h3, h4⟩ := ih (i + 1) s' (by omega) h2
      exact ⟨t, by rw [iter, h1, obind_some']; exact h3, h4⟩
theorem iter_ends {σ τ : Type} {step : σ → Option (σ ⊕ τ)} {T : τ → Prop} (I : Nat → σ → Prop) (n : Nat) (hn : n < 1000000000000000000) {s0 : σ} (h0 : I 0 s0) (h : ∀ i s, i ≤ n → I i s → (∃ t, step s = some (.inr t) ∧ T t) ∨ (i < n ∧ ∃ s', step s = some (.inl s') ∧ I (i + 1) s')) :
    ∃ t, iter step FUEL s0 = some t ∧ T t := by
  obtain ⟨t, h1, h2⟩ := iter_goes I n h n 0 s0 (by omega) h0
  exact ⟨t, iter_mono h1 (by unfold FUEL; omega), h2⟩
theorem idx_lt {α : Type} {xs : List α} {i : Nat} (h : i < xs.length) : idx xs (i : Int) = some xs[i] := by
  unfold idx; rw [if_pos (Int.natCast_nonneg i), Int.toNat_natCast]; simp [h]
theorem idx_of {α : Type} {xs : List α} {i : Nat} {x : α} (h : xs[i]? = some x) : idx xs (i : Int) = some x := by
  unfold idx; rw [if_pos (Int.natCast_nonneg i), Int.toNat_natCast]; exact h
theorem idx_get {α : Type} {xs : List α} {i : Int} {x : α} (h : idx xs i = some x) : ∃ n : Nat, i = (n : Int) ∧ xs[n]? = some x := by
  unfold idx at h
  by_cases hi : 0 ≤ i
  · rw [if_pos hi] at h; exact ⟨i.toNat, by omega, h⟩
  · rw [if_neg hi] at h; cases h
theorem w64_id {n : Int} (h : -9223372036854775808 ≤ n) (h' : n ≤ 9223372036854775807) : w64 n = n := w64_in h h'
theorem w64_sucN {i : Nat} (h : i < 9223372036854775807) : w64 ((i : Int) + 1) = ((i + 1 : Nat) : Int) := by rw [w64_in (by omega) (by omega)]; omega
theorem eqSumI {p q : UInt64 × UInt64} : eqSum p q = true ↔ p = q := by
  obtain ⟨a, b⟩ := p; obtain ⟨c, d⟩ := q
  simp [eqSum]
theorem eqSum_dec (p q : UInt64 × UInt64) : eqSum p q = decide (p = q) := by
  rw [Bool.eq_iff_iff, eqSumI, decide_eq_true_eq]
theorem bs_eq {a b : List UInt8} : eqS (bs a) (bs b) = decide (a = b) := by
  rw [Bool.eq_iff_iff, decide_eq_true_eq]; simp [eqS, bs]
theorem gu_ok {α : Type} [Inhabited α] {c : Bool} {o : Option α} {x : α} (h : c = true → o = some x) : ∃ y, gu c o = some y ∧ (c = true → y = x) := by
  cases c with
  | true => exact ⟨x, h rfl, fun _ => rfl⟩
  | false => exact ⟨default, rfl, fun h => by cases h⟩
theorem gu_tot {α : Type} [Inhabited α] {c : Bool} {o : Option α} (h : c = true → ∃ x, o = some x) : ∃ y, gu c o = some y ∧ (c = true → o = some y) := by
  cases c with
  | true => obtain ⟨x, hx⟩ := h rfl; exact ⟨x, hx, fun _ => hx⟩
  | false => exact ⟨default, rfl, fun h => by cases h⟩
end Go.Gw
