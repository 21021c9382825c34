/- Sums and products in the field, as numbers. Conditions: none. -/
import Derived.Test.YtemiampgjgenhaaGreatDoorPa
import Derived.KernelRfl
set_option linter.unusedSimpArgs false
set_option linter.unusedVariables false
set_option maxHeartbeats 2000000
set_option maxRecDepth 100000
namespace Go.Proofs.YtemiampgjgenhaaGreatDoor
open Go Go.Gw

/-! ### the field -/
abbrev FP : Nat := 2305843009213693951
theorem litP : (2305843009213693951 : UInt64).toNat = FP := rfl
theorem and_P (n : Nat) : n &&& 2305843009213693951 = n % 2305843009213693952 := Nat.and_two_pow_sub_one_eq_mod n 61
theorem toU_toNat {n : Nat} (h : n < 18446744073709551616) : (toU (n : Int)).toNat = n := by
  unfold toU
  rw [UInt64.toNat_ofNat']
  omega
theorem shlU3 {h : UInt64} (hh : h.toNat < 288230376151711744) : (shlU h 3).toNat = 8 * h.toNat := by
  unfold shlU
  rw [show (h.toNat : Int) * 2 ^ (min 3 64) = ((8 * h.toNat : Nat) : Int) from by
    rw [show min 3 64 = 3 from rfl]; omega]
  exact toU_toNat (by omega)
theorem shrU_toNat (x : UInt64) (k : Nat) (hk : k ≤ 64) : (shrU x k).toNat = x.toNat / 2 ^ k := by
  unfold shrU
  rw [UInt64.toNat_ofNat', Nat.min_eq_left hk]
  exact Nat.mod_eq_of_lt (Nat.lt_of_le_of_lt (Nat.div_le_self _ _) x.toNat_lt)
theorem or_add {a b : Nat} (h : b < 8) : 8 * a ||| b = 8 * a + b := (Nat.two_pow_add_eq_or_of_lt (i := 3) h a).symm
theorem pfold_nat {h l : UInt64} (hh : h.toNat < 288230376151711744) : (pfold h l).toNat = (h.toNat * 18446744073709551616 + l.toNat) % FP := by
  have hl := l.toNat_lt
  have e1 : (l &&& 2305843009213693951).toNat = l.toNat % 2305843009213693952 := by rw [UInt64.toNat_and, litP]; exact and_P _
  have e2 : (shrU l 61).toNat = l.toNat / 2305843009213693952 := shrU_toNat l 61 (by omega)
  have e3 : ((shlU h 3) ||| (shrU l 61)).toNat = 8 * h.toNat + l.toNat / 2305843009213693952 := by
    rw [UInt64.toNat_or, shlU3 hh, e2]; exact or_add (by omega)
  have e4 : ((l &&& 2305843009213693951) + ((shlU h 3) ||| (shrU l 61))).toNat = l.toNat % 2305843009213693952 + (8 * h.toNat + l.toNat / 2305843009213693952) := by
    rw [UInt64.toNat_add, e1, e3]; omega
  unfold pfold
  generalize hn : (l &&& 2305843009213693951) + ((shlU h 3) ||| (shrU l 61)) = n at *
  have e5 : (n &&& 2305843009213693951).toNat = n.toNat % 2305843009213693952 := by rw [UInt64.toNat_and, litP]; exact and_P _
  have e6 : (shrU n 61).toNat = n.toNat / 2305843009213693952 := shrU_toNat n 61 (by omega)
  have e7 : ((n &&& 2305843009213693951) + shrU n 61).toNat = n.toNat % 2305843009213693952 + n.toNat / 2305843009213693952 := by rw [UInt64.toNat_add, e5, e6]; omega
  dsimp only
  generalize (n &&& 2305843009213693951) + shrU n 61 = k at *
  split
  · rename_i hk
    rw [UInt64.toNat_sub_of_le _ _ (by rw [UInt64.le_iff_toNat_le]; exact hk), litP]
    simp only [FP] at *
    omega
  · simp only [FP] at *
    omega
theorem pone_nat (a : UInt64) : (pone a).toNat = a.toNat % FP := by
  unfold pone
  rw [pfold_nat (by decide)]
  simp
theorem padd_nat (a b : UInt64) : (padd a b).toNat = (a.toNat % FP + b.toNat % FP) % FP := by
  unfold padd
  rw [pone_nat, UInt64.toNat_add, pone_nat, pone_nat]
  simp only [FP]
  omega
theorem mul_high {p q r s : Nat} (hp : p < 4294967296) (hq : q < 4294967296) (hr : r < 4294967296) (hs : s < 4294967296) :
    (p * r + ((p * s + q * s / 4294967296) / 4294967296) + (((p * s + q * s / 4294967296) % 4294967296 + q * r) / 4294967296)) = ((p * 4294967296 + q) * (r * 4294967296 + s)) / 18446744073709551616 := by
  have h1 : (p * 4294967296 + q) * (r * 4294967296 + s) = (p * r) * 18446744073709551616 + (p * s + q * r) * 4294967296 + q * s := by
    rw [Nat.add_mul, Nat.mul_add, Nat.mul_add, Nat.add_mul]
    have a1 : p * 4294967296 * (r * 4294967296) = p * r * 18446744073709551616 := by rw [Nat.mul_assoc, Nat.mul_left_comm 4294967296, ← Nat.mul_assoc p]
    have a2 : p * 4294967296 * s = p * s * 4294967296 := Nat.mul_right_comm _ _ _
    have a3 : q * (r * 4294967296) = q * r * 4294967296 := (Nat.mul_assoc _ _ _).symm
    rw [a1, a2, a3]; omega
  rw [h1]
  generalize p * r = A
  generalize p * s = B
  generalize q * r = C
  generalize q * s = D
  omega
theorem phi_nat (a b : UInt64) : (phi a b).toNat = (a.toNat * b.toNat) / 18446744073709551616 := by
  have ha := a.toNat_lt
  have hb := b.toNat_lt
  have m32 : ∀ x : UInt64, (x &&& 4294967295).toNat = x.toNat % 4294967296 := fun x => by
    rw [UInt64.toNat_and]; exact Nat.and_two_pow_sub_one_eq_mod _ 32
  have s32 : ∀ x : UInt64, (shrU x 32).toNat = x.toNat / 4294967296 := fun x => shrU_toNat x 32 (by omega)
  have hp : a.toNat / 4294967296 < 4294967296 := by omega
  have hq : a.toNat % 4294967296 < 4294967296 := by omega
  have hr : b.toNat / 4294967296 < 4294967296 := by omega
  have hs : b.toNat % 4294967296 < 4294967296 := by omega
  have ea : a.toNat / 4294967296 * 4294967296 + a.toNat % 4294967296 = a.toNat := Nat.div_add_mod' _ _
  have eb : b.toNat / 4294967296 * 4294967296 + b.toNat % 4294967296 = b.toNat := Nat.div_add_mod' _ _
  have key := mul_high hp hq hr hs
  rw [ea, eb] at key
  have bd : ∀ x y : Nat, x < 4294967296 → y < 4294967296 → x * y ≤ 18446744065119617025 := fun x y hx hy => Nat.mul_le_mul (show x ≤ 4294967295 by omega) (show y ≤ 4294967295 by omega)
  have b1 := bd _ _ hp hr
  have b2 := bd _ _ hp hs
  have b3 := bd _ _ hq hr
  have b4 := bd _ _ hq hs
  have ab : a.toNat * b.toNat / 18446744073709551616 < 18446744073709551616 := by
    rw [Nat.div_lt_iff_lt_mul (by omega)]
    exact Nat.lt_of_le_of_lt (Nat.mul_le_mul (show a.toNat ≤ 18446744073709551615 by omega) (show b.toNat ≤ 18446744073709551615 by omega)) (by omega)
  unfold phi
  dsimp only
  rw [← key] at ab ⊢
  simp only [UInt64.toNat_add, UInt64.toNat_mul, s32, m32]
  generalize a.toNat / 4294967296 * (b.toNat / 4294967296) = A at *
  generalize a.toNat / 4294967296 * (b.toNat % 4294967296) = B at *
  generalize a.toNat % 4294967296 * (b.toNat / 4294967296) = C at *
  generalize a.toNat % 4294967296 * (b.toNat % 4294967296) = D at *
  omega
theorem pmul_nat (a b : UInt64) : (pmul a b).toNat = (a.toNat * b.toNat) % FP := by
  have h1 : (pone a).toNat < FP := by rw [pone_nat]; exact Nat.mod_lt _ (by decide)
  have h2 : (pone b).toNat < FP := by rw [pone_nat]; exact Nat.mod_lt _ (by decide)
  simp only [FP] at h1 h2
  have hm : (pone a).toNat * (pone b).toNat < 5316911983139663491615228241121378304 := Nat.lt_of_le_of_lt (Nat.mul_le_mul (show (pone a).toNat ≤ 2305843009213693950 by omega) (show (pone b).toNat ≤ 2305843009213693950 by omega)) (by omega)
  unfold pmul
  rw [pfold_nat (by rw [phi_nat]; omega), phi_nat, UInt64.toNat_mul]
  have : (pone a).toNat * (pone b).toNat / 18446744073709551616 * 18446744073709551616 + (pone a).toNat * (pone b).toNat % 2 ^ 64 = (pone a).toNat * (pone b).toNat := by omega
  rw [this, pone_nat, pone_nat, ← Nat.mul_mod]
theorem psev_nat (a : UInt64) : (psev a).toNat = a.toNat ^ 17 % FP := by
  unfold psev
  dsimp only
  simp only [pmul_nat, Nat.mul_mod_mod, Nat.mod_mul_mod]
  congr 1
  rw [show (17 : Nat) = 1 + 16 from rfl, Nat.pow_add, Nat.pow_one]
  congr 1
  generalize a.toNat = x
  rw [show (16 : Nat) = 2 * 2 * 2 * 2 from rfl, Nat.pow_mul, Nat.pow_mul, Nat.pow_mul]
  simp only [Nat.pow_two]
theorem u_ext {a b : UInt64} (h : a.toNat = b.toNat) : a = b := UInt64.toNat_inj.1 h
end Go.Proofs.YtemiampgjgenhaaGreatDoor
