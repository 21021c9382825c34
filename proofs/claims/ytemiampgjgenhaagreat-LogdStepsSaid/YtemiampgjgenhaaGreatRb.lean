/- Bytes of numbers, and what is hashed of a commitment, by the reference. Conditions: the message is not too long. -/
import Derived.Test.YtemiampgjgenhaaGreatRa
import Derived.Test.YtemiampgjgenhaaGreatWkG
set_option linter.unusedSimpArgs false
set_option linter.unusedVariables false
set_option maxHeartbeats 4000000
set_option maxRecDepth 100000
namespace Go.Proofs.YtemiampgjgenhaaGreat
open Go Go.Gw

theorem bytes02_eq (s : UInt64 × UInt64) : m_ref02_Bytes s = some (pbytes s) := by
  unfold m_ref02_Bytes
  rw [eight_eq, obind_some', eight_eq, obind_some', app_eq 1 (by simp [pput_len]) (by simp [pput_len]), obind_some']; rfl
/-! ### bytes of a number -/
theorem toB_mod {a b : Int} (h : a % 256 = b % 256) : toB a = toB b := by unfold toB; rw [h]
theorem div_256 (n : UInt64) : (n / 256).toNat = n.toNat / 256 := by rw [UInt64.toNat_div]; rfl
theorem eight04_it (n : UInt64) : iter m_ref04_Eight_b1 9 (n, 7, List.replicate 8 (0 : UInt8)) = some [toB ((n / 256 / 256 / 256 / 256 / 256 / 256 / 256 % 256).toNat : Int), toB ((n / 256 / 256 / 256 / 256 / 256 / 256 % 256).toNat : Int), toB ((n / 256 / 256 / 256 / 256 / 256 % 256).toNat : Int), toB ((n / 256 / 256 / 256 / 256 % 256).toNat : Int), toB ((n / 256 / 256 / 256 % 256).toNat : Int), toB ((n / 256 / 256 % 256).toNat : Int), toB ((n / 256 % 256).toNat : Int), toB ((n % 256).toNat : Int)] := by
  simp [iter, m_ref04_Eight_b1, idx, bnd_def, w64, List.replicate]
theorem eight04_eq (n : UInt64) : m_ref04_Eight n = some (pput 8 n) := by
  have h := iter_up _ (eight04_it n) (by omega)
  unfold m_ref04_Eight
  rw [h, obind_some', obind_some']
  simp only [pput]
  congr 1
  have key : ∀ (k : Nat) (x : UInt64), k ≤ 56 → x.toNat = n.toNat / 2 ^ k → toB ((x % 256).toNat : Int) = toB ((shrU n k).toNat : Int) := by
    intro k x hk hx
    refine toB_mod ?_
    rw [shrU_toNat _ _ (by omega), UInt64.toNat_mod, hx, show (256 : UInt64).toNat = 256 from rfl]
    omega
  rw [key 56 _ (by omega) (by simp only [div_256, Nat.div_div_eq_div_mul]), key 48 _ (by omega) (by simp only [div_256, Nat.div_div_eq_div_mul]), key 40 _ (by omega) (by simp only [div_256, Nat.div_div_eq_div_mul]), key 32 _ (by omega) (by simp only [div_256, Nat.div_div_eq_div_mul]), key 24 _ (by omega) (by simp only [div_256, Nat.div_div_eq_div_mul]), key 16 _ (by omega) (by simp only [div_256, Nat.div_div_eq_div_mul]), key 8 _ (by omega) (by simp only [div_256, Nat.div_div_eq_div_mul]), key 0 _ (by omega) (by simp)]

/-! ### signatures -/
theorem challenge04_eq (c p : UInt64) {msg : List UInt8} (h : msg.length ≤ 600000) : m_ref04_Challenge c p msg = some (chal c p msg) := by
  unfold m_ref04_Challenge
  rw [eight04_eq, obind_some', eight04_eq, obind_some', tagged02_eq _ _ (by simp [plen, pput_len]; omega) (by simp), obind_some', num02_eq dvR (by decide), obind_some']; rfl
end Go.Proofs.YtemiampgjgenhaaGreat
