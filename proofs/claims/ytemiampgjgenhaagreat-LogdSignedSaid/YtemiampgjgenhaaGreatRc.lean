/- Whether a signature is right, by the reference: as the program says. Conditions: the message is not too long. -/
import Derived.Test.YtemiampgjgenhaaGreatRb
import Derived.Test.YtemiampgjgenhaaGreatWkN
set_option linter.unusedSimpArgs false
set_option linter.unusedVariables false
set_option maxHeartbeats 4000000
set_option maxRecDepth 100000
namespace Go.Proofs.YtemiampgjgenhaaGreat
open Go Go.Gw

theorem inv_uniq {z e f : Nat} (h1 : z * e % GQ = 1) (h2 : e * f % GQ = 1) : z % GQ = f % GQ := by
  have h3 : z * (e * f % GQ) % GQ = z % GQ := by rw [h2, Nat.mul_one]
  have h4 : z * e % GQ * f % GQ = f % GQ := by rw [h1, Nat.one_mul]
  rw [Nat.mul_mod_mod, ← Nat.mul_assoc] at h3
  rw [Nat.mod_mul_mod] at h4
  rw [← h3, h4]
theorem refRest (p : UInt64) {msg : List UInt8} (s : g_api_Sig) (hm : msg.length ≤ 600000) :
    (obind (m_ref03_Base s.S) fun x2 => obind (m_ref03_Pow p (1152921504606845789 - s.E)) fun x3 => obind (m_ref03_Mul x2 x3) fun x4 => obind (m_ref04_Challenge x4 p msg) fun x5 => if ((x5.toNat : Int) != (s.E.toNat : Int)) = true then some (40 : Int) else some 0)
      = if (((chal (mulM 2305843009213691579 (pubK s.S) (powN 2305843009213691579 p (1152921504606845789 - s.E))) p msg).toNat : Int) != (s.E.toNat : Int)) = true then some 40 else some 0 := by
  unfold m_ref03_Pow m_ref03_Mul
  rw [base03_eq, obind_some', power03_eq _ _ (by decide) (by decide), obind_some', obind_some', times_eq _ _ (by decide) (by decide), obind_some', obind_some', challenge04_eq _ _ hm, obind_some']
theorem progRest (p z : UInt64) {msg : List UInt8} (s : g_api_Sig) (hm : msg.length ≤ 600000) (hz : m_cyclic_Inv (powN 2305843009213691579 p s.E) = some (z, 0)) :
    (obind (m_cyclic_Pow p s.E) fun x2 => obind (m_cyclic_Inv x2) fun x3 => obind (gu (!(x3.2 != 0)) (m_cyclic_Base s.S)) fun x4 => obind (gu (!(x3.2 != 0)) (m_cyclic_Mul x4 x3.1)) fun x5 => obind (gu (!(x3.2 != 0)) (m_sign_Challenge x5 p msg)) fun x6 =>
      if ((x3.2 != 0) || ((x6.toNat : Int) != (s.E.toNat : Int))) = true then some (40 : Int) else some 0)
      = if (((chal (mulM 2305843009213691579 (pubK s.S) z) p msg).toNat : Int) != (s.E.toNat : Int)) = true then some 40 else some 0 := by
  have e1 : ((z, (0 : Int)).2 != 0) = false := rfl
  unfold m_cyclic_Mul
  rw [pow_eq, obind_some', hz, obind_some', e1, Bool.not_false, gu_tt, base_eq, obind_some', gu_tt, ringMul_eq dvQ, obind_some', obind_some', gu_tt]
  dsimp only
  rw [show powN 2305843009213691579 4 s.S = pubK s.S from rfl, chal_eq _ _ hm, obind_some', Bool.false_or]
theorem mul_same {p z : UInt64} {e : Nat} (x : UInt64) {E : UInt64} (hpow : p.toNat ^ gr % GQ = 1) (hE : E.toNat ≤ gr) (hsub : (1152921504606845789 - E : UInt64).toNat = gr - E.toNat) (hz : z.toNat * (powN 2305843009213691579 p E).toNat % GQ = 1) :
    mulM 2305843009213691579 x (powN 2305843009213691579 p (1152921504606845789 - E)) = mulM 2305843009213691579 x z := by
  have hinv : (powN 2305843009213691579 p E).toNat * p.toNat ^ (gr - E.toNat) % GQ = 1 := by
    rw [powQ_nat]; exact inv_law (k := 0) hpow hE
  have hzf := inv_uniq hz hinv
  refine u_ext ?_
  rw [mulM_nat dvQ, mulM_nat dvQ, show (2305843009213691579 : UInt64).toNat = GQ from rfl, powQ_nat, hsub, Nat.mul_mod_mod, Nat.mul_mod, ← hzf, ← Nat.mul_mod]
theorem inv_of {p E : UInt64} (hpow : p.toNat ^ gr % GQ = 1) (hE : E.toNat ≤ gr) : ∃ z : UInt64, m_cyclic_Inv (powN 2305843009213691579 p E) = some (z, 0) ∧ z.toNat * (powN 2305843009213691579 p E).toNat % GQ = 1 := by
  have hinv : (powN 2305843009213691579 p E).toNat * p.toNat ^ (gr - E.toNat) % GQ = 1 := by
    rw [powQ_nat]; exact inv_law (k := 0) hpow hE
  exact inv_eq hinv
theorem sub_gr {E : UInt64} (hE : E.toNat < 1152921504606845789) : (1152921504606845789 - E : UInt64).toNat = gr - E.toNat := by
  rw [UInt64.toNat_sub_of_le _ _ (UInt64.le_iff_toNat_le.2 (Nat.le_of_lt hE)), show (1152921504606845789 : UInt64).toNat = gr from rfl]
theorem le_gr {E : UInt64} (hE : E.toNat < 1152921504606845789) : E.toNat ≤ gr := Nat.le_of_lt hE
theorem max_ge {a b : UInt64} : decide (((maxU a b).toNat : Int) ≥ 1152921504606845789) = (decide ((a.toNat : Int) ≥ 1152921504606845789) || decide ((b.toNat : Int) ≥ 1152921504606845789)) := by
  rw [Bool.eq_iff_iff, Bool.or_eq_true, decide_eq_true_eq, decide_eq_true_eq, decide_eq_true_eq]
  unfold maxU
  split
  · rename_i hlt
    have := UInt64.lt_iff_toNat_lt.1 hlt
    omega
  · rename_i hlt
    have := mt UInt64.lt_iff_toNat_lt.2 hlt
    omega
theorem pow_one {p : UInt64} (h : ((powN 2305843009213691579 p 1152921504606845789).toNat : Int) = 1) : p.toNat ^ gr % GQ = 1 := by
  have h1 := powQ_nat p 1152921504606845789
  rw [show (1152921504606845789 : UInt64).toNat = gr from rfl] at h1
  rw [← h1]
  exact Int.ofNat.inj h
theorem both_lt {a b : UInt64} (h : (decide ((a.toNat : Int) ≥ 1152921504606845789) || decide ((b.toNat : Int) ≥ 1152921504606845789)) = false) : a.toNat < 1152921504606845789 := by
  rw [Bool.or_eq_false_iff, decide_eq_false_iff_not] at h
  have := h.1
  omega
theorem rest_same {p : UInt64} {msg : List UInt8} (s : g_api_Sig) (hm : msg.length ≤ 600000) (h1 : ((powN 2305843009213691579 p 1152921504606845789).toNat : Int) = 1) (hE : s.E.toNat < 1152921504606845789) :
    (obind (m_ref03_Base s.S) fun x2 => obind (m_ref03_Pow p (1152921504606845789 - s.E)) fun x3 => obind (m_ref03_Mul x2 x3) fun x4 => obind (m_ref04_Challenge x4 p msg) fun x5 => if ((x5.toNat : Int) != (s.E.toNat : Int)) = true then some (40 : Int) else some 0)
      = (obind (m_cyclic_Pow p s.E) fun x2 => obind (m_cyclic_Inv x2) fun x3 => obind (gu (!(x3.2 != 0)) (m_cyclic_Base s.S)) fun x4 => obind (gu (!(x3.2 != 0)) (m_cyclic_Mul x4 x3.1)) fun x5 => obind (gu (!(x3.2 != 0)) (m_sign_Challenge x5 p msg)) fun x6 =>
      if ((x3.2 != 0) || ((x6.toNat : Int) != (s.E.toNat : Int))) = true then some (40 : Int) else some 0) := by
  obtain ⟨z, z1, z2⟩ := inv_of (pow_one h1) (le_gr hE)
  rw [refRest p s hm, progRest p z s hm z1, mul_same (e := 0) _ (pow_one h1) (le_gr hE) (sub_gr hE) z2]
theorem check04_eq (p : UInt64) {msg : List UInt8} (s : g_api_Sig) (hm : msg.length ≤ 600000) : m_ref04_Check p msg s = m_sign_Check p msg s := by
  unfold m_ref04_Check m_sign_Check m_ref03_In m_cyclic_In
  by_cases h0 : ((decide ((p.toNat : Int) > 0)) && (decide ((p.toNat : Int) < 2305843009213691579))) = true
  · rw [if_pos h0, if_pos h0, power03_eq _ _ (by decide) (by decide), pow_eq, obind_some', obind_some', obind_some', obind_some', max_ge]
    by_cases h1 : ((powN 2305843009213691579 p 1152921504606845789).toNat : Int) = 1
    · have hb : (!(((powN 2305843009213691579 p 1152921504606845789).toNat : Int) == 1)) = false := by rw [h1]; rfl
      rw [hb, if_neg Bool.false_ne_true, if_neg Bool.false_ne_true]
      cases h2 : (decide ((s.E.toNat : Int) ≥ 1152921504606845789) || decide ((s.S.toNat : Int) ≥ 1152921504606845789)) with
      | true => rw [if_pos rfl, if_pos rfl]
      | false => rw [if_neg Bool.false_ne_true, if_neg Bool.false_ne_true, rest_same s hm h1 (both_lt h2)]
    · have hb : (!(((powN 2305843009213691579 p 1152921504606845789).toNat : Int) == 1)) = true := by simpa using h1
      rw [hb, if_pos rfl, if_pos rfl]
  · rw [if_neg h0, if_neg h0, obind_some', obind_some', Bool.not_false, if_pos rfl, obind_some', Bool.not_false, if_pos rfl]
end Go.Proofs.YtemiampgjgenhaaGreat
