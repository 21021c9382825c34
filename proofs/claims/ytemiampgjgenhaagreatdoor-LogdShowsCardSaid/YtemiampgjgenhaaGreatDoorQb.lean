/- Sums, products and powers modulo a number, inverses: what the program computes, as numbers. Conditions: the modulus' place is known. -/
import Derived.Test.YtemiampgjgenhaaGreatDoorQa
import Derived.KernelRfl
set_option linter.unusedSimpArgs false
set_option linter.unusedVariables false
set_option maxHeartbeats 2000000
set_option maxRecDepth 100000
namespace Go.Proofs.YtemiampgjgenhaaGreatDoor
open Go Go.Gw

abbrev GQ : Nat := 2305843009213691579
abbrev GR : Nat := 1152921504606845789
/-- A number by which one can divide. -/
def Dv (y : UInt64) : Prop := ∃ s : Nat, s ≤ 63 ∧ m_bits_LeadingZeros64 y = some (s : Int) ∧ 9223372036854775808 ≤ y.toNat * 2 ^ s ∧ y.toNat * 2 ^ s < 18446744073709551616
theorem dvQ : Dv 2305843009213691579 := ⟨3, by omega, by kernel_rfl, by decide, by decide⟩
theorem dvR : Dv 1152921504606845789 := ⟨4, by omega, by kernel_rfl, by decide, by decide⟩
theorem dvR1 : Dv 1152921504606845788 := ⟨4, by omega, by kernel_rfl, by decide, by decide⟩
theorem Dv.pos {y : UInt64} (h : Dv y) : 0 < y.toNat := by
  obtain ⟨s, _, _, h1, _⟩ := h
  by_cases e : y.toNat = 0
  · rw [e] at h1; simp at h1
  · omega
theorem rem_eq {y : UInt64} (h : Dv y) (hi lo : UInt64) : ∃ z, m_bits_Rem64 hi lo y = some z ∧ z.toNat = (hi.toNat * 18446744073709551616 + lo.toNat) % y.toNat := by
  have hpos := h.pos
  obtain ⟨s, h1, h2, h3, h4⟩ := h
  have hyne : y ≠ 0 := fun e => by rw [e] at hpos; simp at hpos
  have hm : (hi % y).toNat = hi.toNat % y.toNat := UInt64.toNat_mod _ _
  obtain ⟨q, r, e1, e2⟩ := div64_eq (hi := hi % y) (lo := lo) h1 h2 h3 h4 (by rw [hm]; exact Nat.mod_lt _ hpos)
  refine ⟨r, ?_, ?_⟩
  · unfold m_bits_Rem64
    rw [if_pos hyne, e1, obind_some']
  · rw [e2, hm, Nat.add_mod, Nat.mod_mul_mod, ← Nat.add_mod]
def ofN (n : Nat) : UInt64 := UInt64.ofNat n
theorem ofN_nat {n : Nat} (h : n < 18446744073709551616) : (ofN n).toNat = n := by
  unfold ofN; rw [UInt64.toNat_ofNat']; exact Nat.mod_eq_of_lt h
theorem ofN_mod (n : Nat) {y : UInt64} (h : 0 < y.toNat) : (ofN (n % y.toNat)).toNat = n % y.toNat := ofN_nat (Nat.lt_of_lt_of_le (Nat.mod_lt _ h) (Nat.le_of_lt y.toNat_lt))
theorem of_nat {z : UInt64} {n : Nat} (h : z.toNat = n) : z = ofN n := by
  rw [← h]; exact u_ext (ofN_nat z.toNat_lt).symm
def mulM (y a b : UInt64) : UInt64 := ofN ((a.toNat * b.toNat) % y.toNat)
theorem mulM_nat {y : UInt64} (h : Dv y) (a b : UInt64) : (mulM y a b).toNat = (a.toNat * b.toNat) % y.toNat := ofN_mod _ h.pos
theorem ringMul_eq {y : UInt64} (h : Dv y) (a b : UInt64) : m_cyclic_ring_mul y a b = some (mulM y a b) := by
  obtain ⟨z, e1, e2⟩ := rem_eq h (phi a b) (a * b)
  unfold m_cyclic_ring_mul
  rw [mul64_eq, obind_some', e1, obind_some']
  rw [phi_nat, UInt64.toNat_mul, Nat.div_add_mod'] at e2
  rw [of_nat e2]; rfl
def addM (y a b : UInt64) : UInt64 := ofN ((a.toNat + b.toNat) % y.toNat)
theorem addM_nat {y : UInt64} (h : Dv y) (a b : UInt64) : (addM y a b).toNat = (a.toNat + b.toNat) % y.toNat := ofN_mod _ h.pos
theorem carry_nat (a b : UInt64) : (carryU a b).toNat * 18446744073709551616 + (a + b).toNat = a.toNat + b.toNat := by
  have := a.toNat_lt
  have := b.toNat_lt
  unfold carryU
  rw [UInt64.toNat_ofNat', UInt64.toNat_add]
  omega
theorem ringAdd_eq {y : UInt64} (h : Dv y) (a b : UInt64) : m_cyclic_ring_add y a b = some (addM y a b) := by
  have hpos := h.pos
  have hyne : y ≠ 0 := fun e => by rw [e] at hpos; simp at hpos
  obtain ⟨z, e1, e2⟩ := rem_eq h (carryU (a % y) (b % y)) ((a % y) + (b % y))
  unfold m_cyclic_ring_add
  rw [if_pos hyne, if_pos hyne, e1, obind_some']
  rw [carry_nat, UInt64.toNat_mod, UInt64.toNat_mod, ← Nat.add_mod] at e2
  rw [of_nat e2]; rfl
theorem num_aux {P d r c sm t : Nat} (hP : d * 18446744073709551616 + r = P) (hr : r < 18446744073709551616) (hd : d < 2305843009213693952) (hc : c * 18446744073709551616 + sm = r + t) (ht : t < 18446744073709551616) :
    ((d + c) % 18446744073709551616) * 18446744073709551616 + sm = P + t := by
  have h1 : c ≤ 1 := by omega
  rw [Nat.mod_eq_of_lt (show d + c < 18446744073709551616 by omega), Nat.add_mul, ← hP, Nat.add_assoc, hc, Nat.add_assoc]
/-- A hash as a number. -/
def numM (s : UInt64 × UInt64) (y : UInt64) : UInt64 := ofN ((s.1.toNat * 2305843009213693952 + s.2.toNat) % y.toNat)
theorem numM_nat {y : UInt64} (h : Dv y) (s : UInt64 × UInt64) : (numM s y).toNat = (s.1.toNat * 2305843009213693952 + s.2.toNat) % y.toNat := ofN_mod _ h.pos
theorem num_eq {y : UInt64} (h : Dv y) (s : UInt64 × UInt64) : m_hash_Num s y = some (numM s y) := by
  have hpos := h.pos
  have hyne : y ≠ 0 := fun e => by rw [e] at hpos; simp at hpos
  obtain ⟨t, h1, h2, h3, h4⟩ := h
  have hp : (phi s.1 2305843009213693952).toNat = s.1.toNat * 2305843009213693952 / 18446744073709551616 := phi_nat _ _
  have hl : (s.1 * 2305843009213693952).toNat = s.1.toNat * 2305843009213693952 % 18446744073709551616 := UInt64.toNat_mul _ _
  have hs1 := s.1.toNat_lt
  have hs2 := s.2.toNat_lt
  have hc := carry_nat (s.1 * 2305843009213693952) s.2
  have hsum : (phi s.1 2305843009213693952 + carryU (s.1 * 2305843009213693952) s.2).toNat * 18446744073709551616 + (s.1 * 2305843009213693952 + s.2).toNat = s.1.toNat * 2305843009213693952 + s.2.toNat := by
    rw [UInt64.toNat_add, hp]
    rw [hl] at hc
    have hdl : s.1.toNat * 2305843009213693952 / 18446744073709551616 < 2305843009213693952 := by
      rw [Nat.div_lt_iff_lt_mul (by decide), Nat.mul_comm (2305843009213693952)]
      exact Nat.mul_lt_mul_of_pos_right hs1 (by decide)
    exact num_aux (Nat.div_add_mod' _ _) (Nat.mod_lt _ (by decide)) hdl hc hs2
  have hm : ((phi s.1 2305843009213693952 + carryU (s.1 * 2305843009213693952) s.2) % y).toNat = (phi s.1 2305843009213693952 + carryU (s.1 * 2305843009213693952) s.2).toNat % y.toNat := UInt64.toNat_mod _ _
  obtain ⟨q, r, e1, e2⟩ := div64_eq (hi := (phi s.1 2305843009213693952 + carryU (s.1 * 2305843009213693952) s.2) % y) (lo := s.1 * 2305843009213693952 + s.2) h1 h2 h3 h4 (by rw [hm]; exact Nat.mod_lt _ hpos)
  unfold m_hash_Num
  rw [if_neg (by rw [beq_iff_eq]; omega), mul64_eq, obind_some', if_pos hyne]
  dsimp only
  rw [e1, obind_some']
  rw [hm, Nat.add_mod, Nat.mod_mul_mod, ← Nat.add_mod, hsum] at e2
  rw [of_nat e2]; rfl

/-! ### powers -/
theorem tabL_all : ((List.range 256).all fun n => decide (n < 2 ^ (str_0.data.toList.getD n 0).toNat) && decide ((str_0.data.toList.getD n 0).toNat ≤ 8)) = true := by kernel_rfl
theorem tabL_len : str_0.data.toList.length = 256 := by kernel_rfl
theorem tabL (x : UInt64) (hx : x.toNat < 256) : ∃ b, idx str_0.data.toList ((toB (x.toNat : Int)).toNat : Int) = some b ∧ x.toNat < 2 ^ b.toNat ∧ b.toNat ≤ 8 := by
  have hb : (toB (x.toNat : Int)).toNat = x.toNat := by unfold toB; rw [UInt8.toNat_ofNat']; omega
  have h := List.all_eq_true.1 tabL_all x.toNat (List.mem_range.2 hx)
  rw [Bool.and_eq_true, decide_eq_true_eq, decide_eq_true_eq] at h
  have hlt : x.toNat < str_0.data.toList.length := by rw [tabL_len]; exact hx
  rw [List.getD_eq_getElem?_getD, List.getElem?_eq_getElem hlt, Option.getD_some] at h
  rw [hb]
  exact ⟨str_0.data.toList[x.toNat], idx_nat (by simp), h.1, h.2⟩
/-- A number is told shorter than what the length says. -/
theorem len64_eq (a : UInt64) : ∃ L : Nat, m_bits_Len64 a = some (L : Int) ∧ a.toNat < 2 ^ L ∧ L ≤ 64 := by
  have ha := a.toNat_lt
  have h1 : ∃ (x : UInt64) (n : Nat), (if (decide ((a.toNat : Int) ≥ 4294967296)) = true then some ((shrU a 32), (32 : Int)) else some (a, 0)) = some (x, (n : Int)) ∧ n ≤ 32 ∧ x.toNat < 4294967296 ∧ a.toNat < (x.toNat + 1) * 2 ^ n := by
    split
    · refine ⟨shrU a 32, 32, rfl, by omega, ?_, ?_⟩ <;> rw [shrU_toNat a 32 (by omega)] <;> omega
    · rename_i h; rw [decide_eq_true_eq] at h; exact ⟨a, 0, rfl, by omega, by omega, by omega⟩
  obtain ⟨x, n, e1, n1, hx, hn⟩ := h1
  have h2 : ∃ (y : UInt64) (k : Nat), (if (decide ((x.toNat : Int) ≥ 65536)) = true then some ((shrU x 16), (w64 ((n : Int) + 16))) else some (x, (n : Int))) = some (y, (k : Int)) ∧ k ≤ 48 ∧ y.toNat < 65536 ∧ a.toNat < (y.toNat + 1) * 2 ^ k := by
    split
    · refine ⟨shrU x 16, n + 16, by rw [w64_in (by omega) (by omega)]; rfl, by omega, ?_, ?_⟩
      · rw [shrU_toNat x 16 (by omega)]; omega
      · rw [shrU_toNat x 16 (by omega), Nat.pow_add]
        refine Nat.lt_of_lt_of_le hn ?_
        have : x.toNat + 1 ≤ (x.toNat / 2 ^ 16 + 1) * 2 ^ 16 := by omega
        calc (x.toNat + 1) * 2 ^ n ≤ ((x.toNat / 2 ^ 16 + 1) * 2 ^ 16) * 2 ^ n := Nat.mul_le_mul_right _ this
          _ = (x.toNat / 2 ^ 16 + 1) * (2 ^ n * 2 ^ 16) := by rw [Nat.mul_assoc, Nat.mul_comm (2 ^ 16)]
    · rename_i h; rw [decide_eq_true_eq] at h; exact ⟨x, n, rfl, by omega, by omega, hn⟩
  obtain ⟨y, k, e2, k1, hy, hk⟩ := h2
  have h3 : ∃ (z : UInt64) (j : Nat), (if (decide ((y.toNat : Int) ≥ 256)) = true then some ((shrU y 8), (w64 ((k : Int) + 8))) else some (y, (k : Int))) = some (z, (j : Int)) ∧ j ≤ 56 ∧ z.toNat < 256 ∧ a.toNat < (z.toNat + 1) * 2 ^ j := by
    split
    · refine ⟨shrU y 8, k + 8, by rw [w64_in (by omega) (by omega)]; rfl, by omega, ?_, ?_⟩
      · rw [shrU_toNat y 8 (by omega)]; omega
      · rw [shrU_toNat y 8 (by omega), Nat.pow_add]
        refine Nat.lt_of_lt_of_le hk ?_
        have : y.toNat + 1 ≤ (y.toNat / 2 ^ 8 + 1) * 2 ^ 8 := by omega
        calc (y.toNat + 1) * 2 ^ k ≤ ((y.toNat / 2 ^ 8 + 1) * 2 ^ 8) * 2 ^ k := Nat.mul_le_mul_right _ this
          _ = (y.toNat / 2 ^ 8 + 1) * (2 ^ k * 2 ^ 8) := by rw [Nat.mul_assoc, Nat.mul_comm (2 ^ 8)]
    · rename_i h; rw [decide_eq_true_eq] at h; exact ⟨y, k, rfl, by omega, by omega, hk⟩
  obtain ⟨z, j, e3, j1, hz, hj⟩ := h3
  obtain ⟨b, e4, b1, b2⟩ := tabL z hz
  refine ⟨j + b.toNat, ?_, ?_, by omega⟩
  · unfold m_bits_Len64
    rw [e1, obind_some']
    dsimp only
    rw [e2, obind_some']
    dsimp only
    rw [e3, obind_some', e4, obind_some', bnd_def, w64_in (n := (b.toNat : Int)) (by omega) (by omega), w64_in (by omega) (by omega)]; rfl
  · refine Nat.lt_of_lt_of_le hj ?_
    rw [Nat.add_comm j, Nat.pow_add]
    exact Nat.mul_le_mul_right _ b1
def powN (y a n : UInt64) : UInt64 := ofN (a.toNat ^ n.toNat % y.toNat)
theorem powN_nat {y : UInt64} (h : Dv y) (a n : UInt64) : (powN y a n).toNat = a.toNat ^ n.toNat % y.toNat := ofN_mod _ h.pos
theorem and_pow (n j : Nat) : n &&& 2 ^ j = (n.testBit j).toNat * 2 ^ j := by
  apply Nat.eq_of_testBit_eq
  intro i
  rw [Nat.testBit_and, Nat.testBit_two_pow]
  by_cases h : j = i
  · subst h
    cases hb : n.testBit j <;> simp [hb, Nat.testBit_two_pow_self]
  · cases hb : n.testBit j <;> simp [h, Nat.testBit_two_pow]
theorem bit_eq (n : UInt64) {j : Nat} (hj : j ≤ 63) : (((n &&& (shlU 1 j)).toNat : Int) != 0) = decide (n.toNat / 2 ^ j % 2 = 1) := by
  have h1 : (shlU 1 j).toNat = 2 ^ j := by
    rw [shlU_nat hj, show (1 : UInt64).toNat = 1 from rfl, Nat.one_mul]
    exact Nat.mod_eq_of_lt (Nat.lt_of_le_of_lt (Nat.pow_le_pow_right (by omega) hj) (by decide))
  have h2 : (n &&& (shlU 1 j)).toNat = (n.toNat.testBit j).toNat * 2 ^ j := by rw [UInt64.toNat_and, h1, and_pow]
  rw [h2]
  have hp := Nat.two_pow_pos j
  rw [Nat.testBit_eq_decide_div_mod_eq]
  by_cases hb : n.toNat / 2 ^ j % 2 = 1
  · simp only [hb, decide_true, Bool.toNat_true, Nat.one_mul]
    rw [bne_iff_ne]; omega
  · simp only [hb, decide_false, Bool.toNat_false, Nat.zero_mul]; rfl
def mulF (y : UInt64) : Unit → UInt64 → UInt64 → Option (UInt64 × Unit) := fun (s1 : Unit) (b1 : UInt64) (b2 : UInt64) => obind (m_cyclic_ring_mul y b1 b2) fun x1 => some (x1, ())
theorem pow_it {y : UInt64} (h : Dv y) (a n : UInt64) : ∀ (j : Nat) (out : UInt64), j ≤ 64 → out.toNat = a.toNat ^ (n.toNat / 2 ^ j) % y.toNat →
    ∃ r, iter (m_cyclic_places_1_b1 (fun (s : UInt64 × Unit) (b0 : Bool) => obind (m_cyclic_power_b5 (mulF y) a b0 s) fun z => some (true, z)) n) (j + 1) ((j : Int) - 1, (out, ())) = some (.inl (r, ())) ∧ r.toNat = a.toNat ^ n.toNat % y.toNat := by
  intro j
  induction j with
  | zero =>
    intro out _ ho
    refine ⟨out, iter_end ?_, by rw [ho]; simp⟩
    unfold m_cyclic_places_1_b1
    rw [if_neg (by simp)]
  | succ j ih =>
    intro out hj ho
    have hw : w64 ((((j + 1 : Nat) : Int) - 1) - 1) = (j : Int) - 1 := by rw [w64_in (by omega) (by omega)]; omega
    have hk : (((j + 1 : Nat) : Int) - 1).toNat = j := by omega
    have hbit := bit_eq n (j := j) (by omega)
    have hdiv : n.toNat / 2 ^ (j + 1) = n.toNat / 2 ^ j / 2 := by rw [Nat.pow_succ, Nat.div_div_eq_div_mul]
    have hsq : (mulM y out out).toNat = a.toNat ^ (2 * (n.toNat / 2 ^ (j + 1))) % y.toNat := by
      rw [mulM_nat h, ho, ← Nat.mul_mod, ← Nat.pow_add, ← Nat.two_mul]
    by_cases hb : n.toNat / 2 ^ j % 2 = 1
    · have hn : (mulM y (mulM y out out) a).toNat = a.toNat ^ (n.toNat / 2 ^ j) % y.toNat := by
        rw [mulM_nat h, hsq, Nat.mod_mul_mod, ← Nat.pow_succ]
        congr 2; omega
      obtain ⟨r, r1, r2⟩ := ih (mulM y (mulM y out out) a) (by omega) hn
      refine ⟨r, ?_, r2⟩
      rw [iter_step (s' := ((j : Int) - 1, (mulM y (mulM y out out) a, ()))), r1]
      unfold m_cyclic_places_1_b1
      dsimp only
      rw [if_pos (by rw [decide_eq_true_eq]; omega), if_pos (by omega), hk, hbit]
      simp only [m_cyclic_power_b5, mulF, ringMul_eq h, obind_some', hb, decide_true, if_true, Bool.not_true, Bool.false_eq_true, if_false, hw]
    · have hn : (mulM y out out).toNat = a.toNat ^ (n.toNat / 2 ^ j) % y.toNat := by
        rw [hsq]; congr 2; omega
      obtain ⟨r, r1, r2⟩ := ih (mulM y out out) (by omega) hn
      refine ⟨r, ?_, r2⟩
      rw [iter_step (s' := ((j : Int) - 1, (mulM y out out, ()))), r1]
      unfold m_cyclic_places_1_b1
      dsimp only
      rw [if_pos (by rw [decide_eq_true_eq]; omega), if_pos (by omega), hk, hbit]
      simp only [m_cyclic_power_b5, mulF, ringMul_eq h, obind_some', hb, decide_false, Bool.not_true, Bool.false_eq_true, if_false, hw]
theorem power_eq {y : UInt64} (h : Dv y) (a n : UInt64) (h1 : 1 < y.toNat) : m_cyclic_power (mulF y) a n () = some (powN y a n, ()) := by
  obtain ⟨L, e1, e2, e3⟩ := len64_eq n
  have hw : w64 ((L : Int) - 1) = (L : Int) - 1 := w64_in (by omega) (by omega)
  obtain ⟨r, r1, r2⟩ := pow_it h a n L 1 e3 (by rw [Nat.div_eq_of_lt e2]; simp; exact (Nat.mod_eq_of_lt h1).symm)
  have r1' := iter_up _ r1 (by omega)
  unfold m_cyclic_power m_cyclic_places_1
  rw [show m_cyclic_places n = some n from rfl, obind_some', e1, obind_some', hw, r1', obind_some']
  simp only [obind_some']
  rw [of_nat r2]; rfl
theorem pow_eq (a n : UInt64) : m_cyclic_Pow a n = some (powN 2305843009213691579 a n) := by
  unfold m_cyclic_Pow
  have := power_eq dvQ a n (by decide)
  unfold mulF at this
  rw [this, obind_some']
theorem base_eq (n : UInt64) : m_cyclic_Base n = some (powN 2305843009213691579 4 n) := by
  unfold m_cyclic_Base
  rw [pow_eq, obind_some']
end Go.Proofs.YtemiampgjgenhaaGreatDoor
