/- What is signed with a key is right by its public key. Conditions: the message is not too long. -/
import Derived.Test.YtemiampgjgenhaaGreatDoorQc
set_option linter.unusedSimpArgs false
set_option linter.unusedVariables false
set_option maxHeartbeats 4000000
set_option maxRecDepth 100000
namespace Go.Proofs.YtemiampgjgenhaaGreatDoor
open Go Go.Gw

theorem bytes8_eq (n : UInt64) : m_sign_bytes n = some (pput 8 n) := by
  unfold m_sign_bytes
  simp [eachN0, m_sign_bytes_b2, idx, w64, bnd_def, pput]
def pubK (k : UInt64) : UInt64 := powN 2305843009213691579 4 k
theorem pubK_nat (k : UInt64) : (pubK k).toNat = 4 ^ k.toNat % GQ := powN_nat dvQ 4 k
theorem public_eq {k : UInt64} (h1 : 1 ≤ k.toNat) (h2 : k.toNat < GR) : m_sign_Public k = some (pubK k, 0) := by
  simp only [GR] at h2
  unfold m_sign_Public m_sign_odd
  rw [bnd_def, obind_some', if_neg (by simp; omega), base_eq, obind_some']; rfl
def chal (c p : UInt64) (msg : List UInt8) : UInt64 := numM (ptag ⟨#[115, 105, 103, 110]⟩ [pput 8 c, pput 8 p, msg]) 1152921504606845789
theorem chal_eq (c p : UInt64) {msg : List UInt8} (h : msg.length ≤ 600000) : m_sign_Challenge c p msg = some (chal c p msg) := by
  unfold m_sign_Challenge
  rw [bytes8_eq, obind_some', bytes8_eq, obind_some', tagged_eq _ _ (by simp [plen, pput_len]; omega), obind_some', num_eq dvR, obind_some']; rfl
theorem chal_lt (c p : UInt64) (msg : List UInt8) : (chal c p msg).toNat < GR := by
  unfold chal; rw [numM_nat dvR]; exact Nat.mod_lt _ (by decide)
def nonceK (k : UInt64) (msg : List UInt8) : UInt64 := numM (ptag ⟨#[110, 111, 110, 99, 101]⟩ [pput 8 k, msg]) 1152921504606845788 + 1
theorem some_eq' {t : ByteArray} {ps : List (List UInt8)} (h : t.data.toList.length + plen ps ≤ 700000) : m_sign_some t ps = some (numM (ptag t ps) 1152921504606845788 + 1) := by
  unfold m_sign_some
  rw [tagged_eq _ _ h, obind_some', num_eq dvR1, obind_some']
def signE (k : UInt64) (msg : List UInt8) : UInt64 := chal (pubK (nonceK k msg)) (pubK k) msg
def signS (k : UInt64) (msg : List UInt8) : g_api_Sig := ⟨signE k msg, addM 1152921504606845789 (mulM 1152921504606845789 (signE k msg) k) (nonceK k msg)⟩
theorem sign_eq {k : UInt64} {msg : List UInt8} (h1 : 1 ≤ k.toNat) (h2 : k.toNat < GR) (hm : msg.length ≤ 600000) : m_sign_Sign k msg = some (signS k msg, 0) := by
  unfold m_sign_Sign
  rw [public_eq h1 h2, obind_some', if_neg (by simp), bytes8_eq, obind_some', some_eq' (by simp [plen, pput_len]; omega), obind_some', base_eq, obind_some']
  dsimp only
  rw [show powN 2305843009213691579 4 (numM (ptag ⟨#[110, 111, 110, 99, 101]⟩ [pput 8 k, msg]) 1152921504606845788 + 1) = pubK (nonceK k msg) from rfl, chal_eq _ _ hm, obind_some']
  unfold m_cyclic_MulR m_cyclic_AddR
  rw [ringMul_eq dvR, obind_some', obind_some', ringAdd_eq dvR, obind_some', obind_some']; rfl

/-! ### the group -/
/-- How many elements the group has: a name, so that no power of it is ever worked out. -/
def gr : Nat := GR
theorem gr_pos : 0 < gr := by unfold gr; decide
theorem gen_one : 4 ^ gr % GQ = 1 := by
  have h : (powN 2305843009213691579 4 1152921504606845789).toNat = (4 : UInt64).toNat ^ (1152921504606845789 : UInt64).toNat % (2305843009213691579 : UInt64).toNat := powN_nat dvQ 4 1152921504606845789
  have hR : (1152921504606845789 : UInt64).toNat = gr := rfl
  have h4 : (4 : UInt64).toNat = 4 := rfl
  have hQ : (2305843009213691579 : UInt64).toNat = GQ := rfl
  rw [hR, h4, hQ] at h
  have hc : (match m_cyclic_Pow 4 1152921504606845789 with | some r => decide (r = 1) | none => false) = true := by kernel_rfl
  rw [pow_eq] at hc
  have := of_decide_eq_true hc
  rw [← h, this]; rfl
theorem pow_red (n : Nat) : 4 ^ (n % gr) % GQ = 4 ^ n % GQ := by
  have hn := Nat.div_add_mod n gr
  conv => rhs; rw [← hn]
  rw [Nat.pow_add, Nat.pow_mul, Nat.mul_mod, Nat.pow_mod (4 ^ gr), gen_one, Nat.one_pow, show 1 % GQ = 1 from rfl, Nat.one_mul, Nat.mod_mod]
theorem pub_order (k : UInt64) : (pubK k).toNat ^ gr % GQ = 1 := by
  rw [pubK_nat, ← Nat.pow_mod, ← Nat.pow_mul, Nat.mul_comm, Nat.pow_mul, Nat.pow_mod, gen_one, Nat.one_pow]; rfl
theorem pub_lt (k : UInt64) : (pubK k).toNat < GQ := by rw [pubK_nat]; exact Nat.mod_lt _ (by decide)
theorem pub_pos (k : UInt64) : 0 < (pubK k).toNat := by
  have h' := gr_pos
  have h2 := pub_order k
  generalize gr = r at *
  by_cases h : (pubK k).toNat = 0
  · rw [h, Nat.zero_pow h'] at h2
    cases h2
  · omega
theorem powQ_nat (a n : UInt64) : (powN 2305843009213691579 a n).toNat = a.toNat ^ n.toNat % GQ := powN_nat dvQ a n
theorem in_eq (k : UInt64) : m_cyclic_In (pubK k) = some true := by
  have h1 := pub_lt k
  have h2 := pub_pos k
  simp only [GQ] at h1
  have hR : (1152921504606845789 : UInt64).toNat = gr := rfl
  have hp : (powN 2305843009213691579 (pubK k) 1152921504606845789).toNat = 1 := by
    rw [powQ_nat, hR]; exact pub_order k
  unfold m_cyclic_In
  rw [if_pos (by simp; omega), pow_eq, obind_some', obind_some', hp]; rfl
/-- The sum in the group of exponents, and its inverse, in plain numbers. -/
theorem group_law {p e s k n z : Nat} (hp : p = 4 ^ k % GQ) (hs : s = (e * k + n) % gr) (hz : z * (p ^ e % GQ) % GQ = 1) : 4 ^ s % GQ * z % GQ = 4 ^ n % GQ := by
  have e1 : 4 ^ (e * k) * z % GQ = 1 := by
    rw [← hz, hp, ← Nat.pow_mod, ← Nat.pow_mul, Nat.mul_comm k e, Nat.mul_mod_mod, Nat.mul_comm z]
  rw [hs, pow_red, Nat.mod_mul_mod, Nat.pow_add, Nat.mul_right_comm, Nat.mul_mod, e1, Nat.one_mul, Nat.mod_mod]
theorem inv_law {p e k : Nat} (hp : p ^ gr % GQ = 1) (he : e ≤ gr) : p ^ e % GQ * p ^ (gr - e) % GQ = 1 := by
  rw [Nat.mod_mul_mod, ← Nat.pow_add, Nat.add_sub_cancel' he]; exact hp
theorem num_not {n : Nat} (h : n < GR) : ¬ ((n : Int) ≥ 1152921504606845789) := by simp only [GR] at h; omega
theorem maxU_lt {a b : UInt64} {n : Nat} (ha : a.toNat < n) (hb : b.toNat < n) : (maxU a b).toNat < n := by
  unfold maxU; split
  · exact hb
  · exact ha
theorem gu_tt {α : Type} [Inhabited α] (o : Option α) : gu true o = o := rfl
theorem check_end {k s : UInt64} {msg : List UInt8} (z : UInt64) (hceq : mulM 2305843009213691579 (powN 2305843009213691579 4 s) z = pubK (nonceK k msg)) (hm : msg.length ≤ 600000) :
    (obind (gu (!((z, (0 : Int)).2 != 0)) (m_cyclic_Base s)) fun x4 => obind (gu (!((z, (0 : Int)).2 != 0)) (m_cyclic_Mul x4 (z, (0 : Int)).1)) fun x5 => obind (gu (!((z, (0 : Int)).2 != 0)) (m_sign_Challenge x5 (pubK k) msg)) fun x6 =>
      if (((z, (0 : Int)).2 != 0) || ((x6.toNat : Int) != ((signE k msg).toNat : Int))) = true then some (40 : Int) else some 0) = some 0 := by
  have e1 : ((z, (0 : Int)).2 != 0) = false := rfl
  rw [e1, Bool.not_false, gu_tt, base_eq, obind_some', gu_tt]
  unfold m_cyclic_Mul
  rw [ringMul_eq dvQ, obind_some', obind_some', gu_tt, hceq, chal_eq _ _ hm, obind_some']
  have e2 : (((chal (pubK (nonceK k msg)) (pubK k) msg).toNat : Int) != ((signE k msg).toNat : Int)) = false := by
    unfold signE
    rw [bne_eq_false_iff_eq]
  rw [e2]
  rfl
theorem check_sign {k : UInt64} {msg : List UInt8} (h1 : 1 ≤ k.toNat) (h2 : k.toNat < GR) (hm : msg.length ≤ 600000) : m_sign_Check (pubK k) msg (signS k msg) = some 0 := by
  have hE : (signE k msg).toNat < GR := chal_lt _ _ _
  have hS : (signS k msg).S.toNat = ((signE k msg).toNat * k.toNat + (nonceK k msg).toNat) % GR := by
    show (addM _ _ _).toNat = _
    rw [addM_nat dvR, mulM_nat dvR]
    exact Nat.mod_add_mod _ _ _
  have hSl : (signS k msg).S.toNat < GR := by rw [hS]; exact Nat.mod_lt _ (by decide)
  have hEe : (signS k msg).E = signE k msg := rfl
  have hX := powQ_nat (pubK k) (signE k msg)
  have hinv : (powN 2305843009213691579 (pubK k) (signE k msg)).toNat * (pubK k).toNat ^ (gr - (signE k msg).toNat) % GQ = 1 := by
    rw [hX]; exact inv_law (k := 0) (pub_order k) (Nat.le_of_lt hE)
  obtain ⟨z, z1, z2⟩ := inv_eq hinv
  rw [hX] at z2
  have hcom : (mulM 2305843009213691579 (powN 2305843009213691579 4 (signS k msg).S) z).toNat = (pubK (nonceK k msg)).toNat := by
    rw [pubK_nat, mulM_nat dvQ, powQ_nat]
    exact group_law (pubK_nat k) hS z2
  have hceq : mulM 2305843009213691579 (powN 2305843009213691579 4 (signS k msg).S) z = pubK (nonceK k msg) := u_ext hcom
  have hmax : (maxU (signE k msg) (signS k msg).S).toNat < GR := maxU_lt hE hSl
  have hmx : ¬ (((maxU (signE k msg) (signS k msg).S).toNat : Int) ≥ 1152921504606845789) := num_not hmax
  clear hS hSl hX hinv hcom z2 hE
  unfold m_sign_Check
  rw [in_eq, obind_some', if_neg (by simp), hEe, if_neg (by rw [decide_eq_true_eq]; exact hmx), pow_eq, obind_some', z1, obind_some']
  exact check_end z hceq hm
end Go.Proofs.YtemiampgjgenhaaGreatDoor
