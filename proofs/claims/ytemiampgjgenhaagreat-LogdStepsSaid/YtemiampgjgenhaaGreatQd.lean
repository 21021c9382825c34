/- What is signed with a key is right by its public key. Conditions: the message is not too long. -/
import Derived.Test.YtemiampgjgenhaaGreatQc
set_option linter.unusedSimpArgs false
set_option linter.unusedVariables false
set_option maxHeartbeats 4000000
set_option maxRecDepth 100000
namespace Go.Proofs.YtemiampgjgenhaaGreat
open Go Go.Gw

theorem bytes8_eq (n : UInt64) : m_sign_bytes n = some (pput 8 n) := by
  unfold m_sign_bytes
  simp [eachN0, m_sign_bytes_b2, idx, w64, bnd_def, pput]
def pubK (k : UInt64) : UInt64 := powN 2305843009213691579 4 k
theorem public_eq {k : UInt64} (h1 : 1 ≤ k.toNat) (h2 : k.toNat < GR) : m_sign_Public k = some (pubK k, 0) := by
  simp only [GR] at h2
  unfold m_sign_Public m_sign_odd
  rw [bnd_def, obind_some', if_neg (by simp; omega), base_eq, obind_some']; rfl
def chal (c p : UInt64) (msg : List UInt8) : UInt64 := numM (ptag ⟨#[115, 105, 103, 110]⟩ [pput 8 c, pput 8 p, msg]) 1152921504606845789
theorem chal_eq (c p : UInt64) {msg : List UInt8} (h : msg.length ≤ 600000) : m_sign_Challenge c p msg = some (chal c p msg) := by
  unfold m_sign_Challenge
  rw [bytes8_eq, obind_some', bytes8_eq, obind_some', tagged_eq _ _ (by simp [plen, pput_len]; omega), obind_some', num_eq dvR, obind_some']; rfl
def nonceK (k : UInt64) (msg : List UInt8) : UInt64 := numM (ptag ⟨#[110, 111, 110, 99, 101]⟩ [pput 8 k, msg]) 1152921504606845788 + 1
theorem some_eq' {t : ByteArray} {ps : List (List UInt8)} (h : t.data.toList.length + plen ps ≤ 700000) : m_sign_some t ps = some (numM (ptag t ps) 1152921504606845788 + 1) := by
  unfold m_sign_some
  rw [tagged_eq _ _ h, obind_some', num_eq dvR1, obind_some']
def signE (k : UInt64) (msg : List UInt8) : UInt64 := chal (pubK (nonceK k msg)) (pubK k) msg
def signS (k : UInt64) (msg : List UInt8) : g_api_Sig := ⟨signE k msg, addM 1152921504606845789 (mulM 1152921504606845789 (signE k msg) k) (nonceK k msg)⟩
theorem sign_eq {k : UInt64} {msg : List UInt8} (h1 : 1 ≤ k.toNat) (h2 : k.toNat < GR) (hm : msg.length ≤ 600000) : m_sign_Sign k msg = some (signS k msg, 0) := by
  unfold m_sign_Sign
  rw [public_eq h1 h2, obind_some', if_neg (by simp), bytes8_eq, obind_some', some_eq' (by simp [plen, pput_len]; omega), obind_some', base_eq, obind_some']
  dsimp only
  rw [show powN 2305843009213691579 4 (numM (ptag ⟨#[110, 111, 110, 99, 101]⟩ [pput 8 k, msg]) 1152921504606845788 + 1) = pubK (nonceK k msg) from rfl, chal_eq _ _ hm, obind_some']
  unfold m_cyclic_MulR m_cyclic_AddR
  rw [ringMul_eq dvR, obind_some', obind_some', ringAdd_eq dvR, obind_some', obind_some']; rfl

/-! ### the group -/
/-- How many elements the group has: a name, so that no power of it is ever worked out. -/
def gr : Nat := GR
end Go.Proofs.YtemiampgjgenhaaGreat
