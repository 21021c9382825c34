/- The bytes of a promise, by the reference. Conditions: none. -/
import Derived.Test.YtemiampgjgenhaaGreatQf
import Derived.Test.YtemiampgjgenhaaGreatRb
import Derived.Test.YtemiampgjgenhaaGreatWkI
set_option linter.unusedSimpArgs false
set_option linter.unusedVariables false
set_option maxHeartbeats 4000000
set_option maxRecDepth 100000
namespace Go.Proofs.YtemiampgjgenhaaGreat
open Go Go.Gw

theorem e8_eq (n : Int) : pput 8 (toU n) = e8 n := by
  have key : ∀ k : Nat, k ≤ 56 → toB ((shrU (toU n) k).toNat : Int) = toB (shr64 n k) := by
    intro k hk
    refine toB_mod ?_
    have h1 := toU_nat n
    have h2 : ((shrU (toU n) k).toNat : Int) = (n % 18446744073709551616) / 2 ^ k := by
      rw [shrU_toNat _ _ (by omega), Int.natCast_ediv, h1]; simp
    rw [h2]
    unfold shr64
    rw [Nat.min_eq_left (by omega), Int.fdiv_eq_ediv_of_nonneg _ (by exact Int.le_of_lt (Int.pow_pos (by decide)))]
    obtain ⟨c, hc⟩ : ∃ c : Nat, (18446744073709551616 : Int) = 2 ^ k * (256 * (c : Int)) := by
      refine ⟨2 ^ (56 - k), ?_⟩
      have : (18446744073709551616 : Nat) = 2 ^ k * (256 * 2 ^ (56 - k)) := by
        rw [Nat.mul_left_comm, ← Nat.pow_add, show k + (56 - k) = 56 from by omega]
      have h3 := congrArg (fun z : Nat => (z : Int)) this
      simpa using h3
    have hk0 : (2 : Int) ^ k ≠ 0 := Int.ne_of_gt (Int.pow_pos (by decide))
    have e : n = (n % 18446744073709551616) + 2 ^ k * (256 * (c : Int) * (n / 18446744073709551616)) := by
      have h4 : n % 18446744073709551616 + 18446744073709551616 * (n / 18446744073709551616) = n := by omega
      conv => lhs; rw [← h4]
      conv => lhs; arg 2; arg 1; rw [hc]
      rw [Int.mul_assoc]
    conv => rhs; rw [e]
    rw [Int.add_mul_ediv_left _ _ hk0, Int.mul_assoc, Int.add_mul_emod_self_left]
  simp only [pput, e8]
  rw [key 56 (by omega), key 48 (by omega), key 40 (by omega), key 32 (by omega), key 24 (by omega), key 16 (by omega), key 8 (by omega), key 0 (by omega)]
theorem promBytes_eq (p : g_api_Promise) : m_ref24_PromBytes p = some (promB p) := by
  unfold m_ref24_PromBytes
  rw [eight04_eq, obind_some', e8_eq, app_eq 1 (by simp [e8_len]) (by simp [e8_len]), obind_some', eight04_eq, obind_some', e8_eq, app_eq 1 (by simp [e8_len]) (by simp [e8_len]), obind_some', bytes02_eq, obind_some', app_eq 1 (by simp [e8_len, pbytes_len]) (by simp [e8_len, pbytes_len]), obind_some']
  simp [promB]
end Go.Proofs.YtemiampgjgenhaaGreat
