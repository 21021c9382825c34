/- Inverses, and that what is signed is right. Conditions: none but that keys are keys. -/
import Derived.Test.YtemiampgjgenhaaGreatDoorQb
set_option linter.unusedSimpArgs false
set_option linter.unusedVariables false
set_option maxHeartbeats 2000000
set_option maxRecDepth 100000
namespace Go.Proofs.YtemiampgjgenhaaGreatDoor
open Go Go.Gw

/-! ### inverses -/
theorem inv_abs {u v : Int} {q : Nat} (hs : 0 ≤ u ∧ v ≤ 0 ∨ u ≤ 0 ∧ 0 ≤ v) : (u - (q : Int) * v).natAbs = u.natAbs + q * v.natAbs ∧ ((q : Int) * v).natAbs = q * v.natAbs ∧ (0 ≤ v ∧ u - (q : Int) * v ≤ 0 ∨ v ≤ 0 ∧ 0 ≤ u - (q : Int) * v) := by
  have hqv : ((q : Int) * v).natAbs = q * v.natAbs := by rw [Int.natAbs_mul, Int.natAbs_natCast]
  have h1 : 0 ≤ v → 0 ≤ (q : Int) * v := fun h => Int.mul_nonneg (Int.natCast_nonneg q) h
  have h2 : v ≤ 0 → (q : Int) * v ≤ 0 := fun h => Int.mul_nonpos_of_nonneg_of_nonpos (Int.natCast_nonneg q) h
  refine ⟨?_, hqv, ?_⟩
  · rw [← hqv]
    generalize (q : Int) * v = z at *
    omega
  · generalize (q : Int) * v = z at *
    omega
theorem inv_it (m : Nat) (a : Int) (hm2 : m < 2305843009213693952) : ∀ (n : Nat) (x y : UInt64) (u v : Int), y.toNat ≤ n → (∃ k, u * a = x.toNat + k * m) → (∃ k, v * a = y.toNat + k * m) → u.natAbs * y.toNat + v.natAbs * x.toNat = m →
    (0 ≤ u ∧ v ≤ 0 ∨ u ≤ 0 ∧ 0 ≤ v) → x.toNat ≤ m → u.natAbs ≤ m → v.natAbs ≤ m → y.toNat ≤ m →
    ∃ r : Int, iter m_cyclic_ring_inverse_b1 (n + 1) (x, y, u, v) = some r ∧ (∃ k, r * a = Nat.gcd x.toNat y.toNat + k * m) ∧ r.natAbs ≤ m := by
  intro n
  induction n with
  | zero =>
    intro x y u v hy hu hv hb hs hx hul hvl hyl
    have hy0 : y.toNat = 0 := by omega
    refine ⟨u, iter_end ?_, by rw [hy0, Nat.gcd_zero_right]; exact hu, hul⟩
    unfold m_cyclic_ring_inverse_b1
    rw [if_neg (by simp [hy0])]
  | succ n ih =>
    intro x y u v hy hu hv hb hs hx hul hvl hyl
    by_cases hy0 : y.toNat = 0
    · refine ⟨u, iter_end ?_, by rw [hy0, Nat.gcd_zero_right]; exact hu, hul⟩
      unfold m_cyclic_ring_inverse_b1
      rw [if_neg (by simp [hy0])]
    · have hyne : y ≠ 0 := fun e => hy0 (by rw [e]; rfl)
      have hdm := Nat.div_add_mod' x.toNat y.toNat
      have hmod := Nat.mod_lt x.toNat (show 0 < y.toNat by omega)
      have hql : x.toNat / y.toNat ≤ x.toNat := Nat.div_le_self _ _
      have hmul : x.toNat / y.toNat * y.toNat ≤ x.toNat := Nat.div_mul_le_self _ _
      have hxl := x.toNat_lt
      have hgcd : Nat.gcd x.toNat y.toNat = Nat.gcd y.toNat (x.toNat % y.toNat) := by rw [Nat.gcd_comm, Nat.gcd_rec, Nat.gcd_comm]
      have eq1 : (x / y).toNat = x.toNat / y.toNat := UInt64.toNat_div _ _
      have eq2 : ((x / y) * y).toNat = x.toNat / y.toNat * y.toNat := by rw [UInt64.toNat_mul, eq1]; exact Nat.mod_eq_of_lt (Nat.lt_of_le_of_lt hmul hxl)
      have eq3 : (x - (x / y) * y).toNat = x.toNat % y.toNat := by
        rw [UInt64.toNat_sub_of_le _ _ (by rw [UInt64.le_iff_toNat_le, eq2]; exact hmul), eq2]
        omega
      generalize hq : x.toNat / y.toNat = q at *
      generalize hr : x.toNat % y.toNat = r at *
      obtain ⟨habs, hqv, hs'⟩ := inv_abs (q := q) hs
      have hbal : v.natAbs * r + (u - (q : Int) * v).natAbs * y.toNat = m := by
        rw [habs, ← hb, ← hdm]; grind
      have hvm : (u - (q : Int) * v).natAbs ≤ m := by
        have : (u - (q : Int) * v).natAbs * 1 ≤ (u - (q : Int) * v).natAbs * y.toNat := Nat.mul_le_mul_left _ (by omega)
        omega
      have hqb : ((q : Int) * v).natAbs ≤ m := by omega
      have w1 : w64 (q : Int) = (q : Int) := w64_in (by omega) (by omega)
      have w2 : w64 ((q : Int) * v) = (q : Int) * v := by
        generalize (q : Int) * v = z at *
        exact w64_in (by omega) (by omega)
      have w3 : w64 (u - (q : Int) * v) = u - (q : Int) * v := by
        generalize u - (q : Int) * v = z at *
        exact w64_in (by omega) (by omega)
      have hdmI : (q : Int) * (y.toNat : Int) + (r : Int) = (x.toNat : Int) := by exact_mod_cast hdm
      obtain ⟨t, t1, t2, t3⟩ := ih y (x - (x / y) * y) v (u - (q : Int) * v) (by rw [eq3]; omega) hv (by
        obtain ⟨k, hk⟩ := hu
        obtain ⟨l, hl⟩ := hv
        refine ⟨k - q * l, ?_⟩
        rw [eq3]
        grind) (by rw [eq3]; exact hbal) (by omega) hyl hvl hvm (by rw [eq3]; omega)
      rw [eq3, ← hgcd] at t2
      refine ⟨t, ?_, t2, t3⟩
      rw [iter_step (s' := (y, x - (x / y) * y, v, u - (q : Int) * v)), t1]
      unfold m_cyclic_ring_inverse_b1
      dsimp only
      rw [if_pos (by simp; omega), if_pos hyne, eq1, bnd_def, w1, w2, w3, bnd_def]
theorem inv_eq {a : UInt64} {b : Nat} (h : a.toNat * b % GQ = 1) : ∃ z : UInt64, m_cyclic_Inv a = some (z, 0) ∧ z.toNat * a.toNat % GQ = 1 := by
  have hm : (a % 2305843009213691579).toNat = a.toNat % GQ := UInt64.toNat_mod _ _
  have hml := Nat.mod_lt a.toNat (show 0 < GQ by decide)
  have hne : a.toNat % GQ ≠ 0 := fun e => by
    rw [Nat.mul_mod, e, Nat.zero_mul, Nat.zero_mod] at h; cases h
  have hg : Nat.gcd (a.toNat % GQ) GQ = 1 := by
    have d1 := Nat.gcd_dvd_left (a.toNat % GQ) GQ
    have d2 := Nat.gcd_dvd_right (a.toNat % GQ) GQ
    have h' : a.toNat % GQ * b % GQ = 1 := by rw [Nat.mod_mul_mod]; exact h
    have h2 := Nat.div_add_mod (a.toNat % GQ * b) GQ
    rw [h'] at h2
    have d3 : Nat.gcd (a.toNat % GQ) GQ ∣ GQ * (a.toNat % GQ * b / GQ) + 1 := by rw [h2]; exact Nat.dvd_trans d1 (Nat.dvd_mul_right _ _)
    have d4 := (Nat.dvd_add_right (Nat.dvd_trans d2 (Nat.dvd_mul_right GQ (a.toNat % GQ * b / GQ)))).1 d3
    exact Nat.dvd_one.1 d4
  obtain ⟨r, r1, ⟨k, r2⟩, r3⟩ := inv_it GQ (a.toNat % GQ : Nat) (by decide) GQ (a % 2305843009213691579) 2305843009213691579 1 0 (by decide) ⟨0, by rw [hm]; simp⟩ ⟨-1, by
    rw [show (2305843009213691579 : UInt64).toNat = GQ from rfl]; simp⟩ (by rw [show (2305843009213691579 : UInt64).toNat = GQ from rfl]; simp) (by omega) (by rw [hm]; omega) (by decide) (by decide) (by decide)
  rw [hm, show (2305843009213691579 : UInt64).toNat = GQ from rfl, hg] at r2
  have r1' := iter_up _ r1 (by decide)
  have hw : w64 (((2305843009213691579 : UInt64).toNat : Int)) = (GQ : Int) := w64_in (by decide) (by decide)
  have hz : ∃ z : Nat, (if (decide (r < 0)) = true then bnd ((w64 (r + (w64 (((2305843009213691579 : UInt64).toNat : Int)))))) fun x7 => some x7 else some r) = some (z : Int) ∧ z ≤ GQ ∧ ∃ l : Int, (z : Int) * (a.toNat % GQ : Nat) = 1 + l * GQ := by
    simp only [GQ] at *
    by_cases hneg : r < 0
    · rw [if_pos (by simpa using hneg), hw, bnd_def, w64_in (by omega) (by omega)]
      obtain ⟨z, hz⟩ := Int.eq_ofNat_of_zero_le (show 0 ≤ r + 2305843009213691579 by omega)
      refine ⟨z, by rw [← hz]; rfl, by omega, k + (a.toNat % 2305843009213691579 : Nat), ?_⟩
      rw [← hz, Int.add_mul, r2]
      grind
    · rw [if_neg (by simpa using hneg)]
      obtain ⟨z, hz⟩ := Int.eq_ofNat_of_zero_le (show 0 ≤ r by omega)
      exact ⟨z, by rw [hz], by omega, k, by rw [← hz]; exact r2⟩
  obtain ⟨z, z1, z2, l, z3⟩ := hz
  have hzn : (toU (z : Int)).toNat = z := toU_toNat (by simp only [GQ] at z2; omega)
  refine ⟨toU (z : Int), ?_, ?_⟩
  · unfold m_cyclic_Inv m_cyclic_ring_inverse
    rw [if_pos (by decide), if_neg (by rw [beq_iff_eq, hm]; omega), r1', obind_some', obind_some', z1, obind_some', obind_some']
  · rw [hzn, ← Nat.mul_mod_mod]
    have : ((z * (a.toNat % GQ) : Nat) : Int) = 1 + l * GQ := by rw [Int.natCast_mul]; exact z3
    generalize z * (a.toNat % GQ) = w at *
    simp only [GQ] at *
    omega
end Go.Proofs.YtemiampgjgenhaaGreatDoor
