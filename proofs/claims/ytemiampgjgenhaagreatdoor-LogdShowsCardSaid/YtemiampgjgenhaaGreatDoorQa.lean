/- Division of a number of two halves, as the library does it. Conditions: the divisor's place is known. -/
import Derived.Test.YtemiampgjgenhaaGreatDoorWkC
import Derived.Test.YtemiampgjgenhaaGreatDoorPa
import Derived.Test.YtemiampgjgenhaaGreatDoorPm0
import Derived.KernelRfl
set_option linter.unusedSimpArgs false
set_option linter.unusedVariables false
set_option maxHeartbeats 2000000
set_option maxRecDepth 100000
namespace Go.Proofs.YtemiampgjgenhaaGreatDoor
open Go Go.Gw

section
variable {x4 x5 x7 y u : UInt64}
theorem dq_lt (hd : x7.toNat < 4294967296) (hu : u.toNat < y.toNat) : (u.toNat * 4294967296 + x7.toNat) / y.toNat < 4294967296 := by
  rw [Nat.div_lt_iff_lt_mul (by omega)]
  have : (u.toNat + 1) * 4294967296 ≤ y.toNat * 4294967296 := Nat.mul_le_mul_right _ hu
  omega
theorem dcond {q r : UInt64} (h1 : 2147483648 ≤ x4.toNat ∧ x4.toNat < 4294967296) (h0 : x5.toNat < 4294967296) (hd : x7.toNat < 4294967296) (hy : y.toNat = x4.toNat * 4294967296 + x5.toNat) (hu : u.toNat < y.toNat)
    (hq : q.toNat * x4.toNat + r.toNat = u.toNat) (hr : r.toNat < 4294967296) :
    (((decide ((q.toNat : Int) ≥ 4294967296)) || (decide (((q * x5).toNat : Int) > (((4294967296 * r) + x7).toNat : Int)))) = true ↔ (u.toNat * 4294967296 + x7.toNat) / y.toNat < q.toNat) := by
  have hlt := dq_lt hd hu
  have e1 : ((4294967296 * r) + x7).toNat = 4294967296 * r.toNat + x7.toNat := by
    rw [UInt64.toNat_add, UInt64.toNat_mul, show (4294967296 : UInt64).toNat = 4294967296 from rfl]; omega
  rw [Bool.or_eq_true, decide_eq_true_eq, decide_eq_true_eq, e1]
  by_cases hb : 4294967296 ≤ q.toNat
  · constructor
    · intro _; omega
    · intro _; left; omega
  · have hB : q.toNat * x5.toNat ≤ 4294967295 * 4294967295 := Nat.mul_le_mul (by omega) (by omega)
    have e2 : (q * x5).toNat = q.toNat * x5.toNat := by rw [UInt64.toNat_mul]; omega
    have e3 : q.toNat * y.toNat = q.toNat * x4.toNat * 4294967296 + q.toNat * x5.toNat := by rw [hy, Nat.mul_add, Nat.mul_assoc]
    rw [e2, Nat.div_lt_iff_lt_mul (by omega), e3]
    generalize q.toNat * x4.toNat = A at *
    generalize q.toNat * x5.toNat = B at *
    omega
theorem dstep {q r : UInt64} (h1 : 2147483648 ≤ x4.toNat ∧ x4.toNat < 4294967296) (h0 : x5.toNat < 4294967296) (hd : x7.toNat < 4294967296) (hy : y.toNat = x4.toNat * 4294967296 + x5.toNat) (hu : u.toNat < y.toNat)
    (hq : q.toNat * x4.toNat + r.toNat = u.toNat) (hr : r.toNat < 4294967296) (hq2 : q.toNat ≤ 4294967297) (hc : (u.toNat * 4294967296 + x7.toNat) / y.toNat < q.toNat) :
    (q - 1).toNat = q.toNat - 1 ∧ (r + x4).toNat = r.toNat + x4.toNat ∧ (q - 1).toNat * x4.toNat + (r + x4).toNat = u.toNat ∧ (u.toNat * 4294967296 + x7.toNat) / y.toNat ≤ (q - 1).toNat ∧
    (4294967296 ≤ (r + x4).toNat → (q - 1).toNat = (u.toNat * 4294967296 + x7.toNat) / y.toNat) := by
  have q1 : 1 ≤ q.toNat := Nat.lt_of_le_of_lt (Nat.zero_le _) hc
  have e1 : (q - 1).toNat = q.toNat - 1 := by rw [UInt64.toNat_sub_of_le _ _ (by rw [UInt64.le_iff_toNat_le]; exact q1)]; rfl
  have e2 : (r + x4).toNat = r.toNat + x4.toNat := by rw [UInt64.toNat_add]; omega
  have e3 : (q.toNat - 1) * x4.toNat + x4.toNat = q.toNat * x4.toNat := by
    rw [← Nat.succ_mul]; congr 1; omega
  refine ⟨e1, e2, by rw [e1, e2, Nat.add_comm r.toNat, ← Nat.add_assoc, e3, hq], by rw [e1]; exact Nat.le_sub_one_of_lt hc, fun hb => ?_⟩
  rw [e2] at hb
  refine Nat.le_antisymm ?_ (by rw [e1]; exact Nat.le_sub_one_of_lt hc)
  rw [e1, Nat.le_div_iff_mul_le (Nat.lt_of_le_of_lt (Nat.zero_le _) hu)]
  clear hc e1 e2
  have hB : (q.toNat - 1) * x5.toNat ≤ 4294967296 * 4294967295 := Nat.mul_le_mul (by omega) (by omega)
  have e4 : (q.toNat - 1) * y.toNat = (q.toNat - 1) * x4.toNat * 4294967296 + (q.toNat - 1) * x5.toNat := by rw [hy, Nat.mul_add, Nat.mul_assoc]
  rw [e4]
  generalize (q.toNat - 1) * x4.toNat = A at *
  generalize (q.toNat - 1) * x5.toNat = B at *
  generalize q.toNat * x4.toNat = C at *
  omega
theorem dloop1 (h1 : 2147483648 ≤ x4.toNat ∧ x4.toNat < 4294967296) (h0 : x5.toNat < 4294967296) (hd : x7.toNat < 4294967296) (hy : y.toNat = x4.toNat * 4294967296 + x5.toNat) (hu : u.toNat < y.toNat) :
    ∀ (n : Nat) (q r : UInt64), q.toNat * x4.toNat + r.toNat = u.toNat → r.toNat < 4294967296 → q.toNat ≤ 4294967297 → (u.toNat * 4294967296 + x7.toNat) / y.toNat ≤ q.toNat → 4294967296 ≤ r.toNat + n * 2147483648 →
      ∃ p, iter (m_bits_Div64_b1 x4 x5 x7) (n + 1) (q, r) = some p ∧ p.toNat = (u.toNat * 4294967296 + x7.toNat) / y.toNat := by
  intro n
  induction n with
  | zero => intro q r _ hr _ _ hn; omega
  | succ n ih =>
    intro q r hq hr hq2 hle hn
    have hc := dcond h1 h0 hd hy hu hq hr
    by_cases hcc : (u.toNat * 4294967296 + x7.toNat) / y.toNat < q.toNat
    · obtain ⟨s1, s2, s3, s4, s5⟩ := dstep h1 h0 hd hy hu hq hr hq2 hcc
      by_cases hb : 4294967296 ≤ (r + x4).toNat
      · refine ⟨q - 1, iter_end ?_, s5 hb⟩
        unfold m_bits_Div64_b1
        rw [if_pos (hc.2 hcc), if_pos (by rw [decide_eq_true_eq]; dsimp only; omega)]
      · obtain ⟨p, p1, p2⟩ := ih (q - 1) (r + x4) s3 (by omega) (by omega) s4 (by omega)
        refine ⟨p, ?_, p2⟩
        rw [iter_step (s' := (q - 1, r + x4)), p1]
        unfold m_bits_Div64_b1
        rw [if_pos (hc.2 hcc), if_neg (by rw [decide_eq_true_eq]; dsimp only; omega)]
    · refine ⟨q, iter_end ?_, by omega⟩
      unfold m_bits_Div64_b1
      rw [if_neg (fun h => hcc (hc.1 h))]
theorem dloop2 (h1 : 2147483648 ≤ x4.toNat ∧ x4.toNat < 4294967296) (h0 : x5.toNat < 4294967296) (hd : x7.toNat < 4294967296) (hy : y.toNat = x4.toNat * 4294967296 + x5.toNat) (hu : u.toNat < y.toNat) :
    ∀ (n : Nat) (q r : UInt64), q.toNat * x4.toNat + r.toNat = u.toNat → r.toNat < 4294967296 → q.toNat ≤ 4294967297 → (u.toNat * 4294967296 + x7.toNat) / y.toNat ≤ q.toNat → 4294967296 ≤ r.toNat + n * 2147483648 →
      ∃ p, iter (m_bits_Div64_b2 x4 x5 x7) (n + 1) (r, q) = some p ∧ p.toNat = (u.toNat * 4294967296 + x7.toNat) / y.toNat := by
  intro n
  induction n with
  | zero => intro q r _ hr _ _ hn; omega
  | succ n ih =>
    intro q r hq hr hq2 hle hn
    have hc := dcond h1 h0 hd hy hu hq hr
    by_cases hcc : (u.toNat * 4294967296 + x7.toNat) / y.toNat < q.toNat
    · obtain ⟨s1, s2, s3, s4, s5⟩ := dstep h1 h0 hd hy hu hq hr hq2 hcc
      by_cases hb : 4294967296 ≤ (r + x4).toNat
      · refine ⟨q - 1, iter_end ?_, s5 hb⟩
        unfold m_bits_Div64_b2
        rw [if_pos (hc.2 hcc), if_pos (by rw [decide_eq_true_eq]; dsimp only; omega)]
      · obtain ⟨p, p1, p2⟩ := ih (q - 1) (r + x4) s3 (by omega) (by omega) s4 (by omega)
        refine ⟨p, ?_, p2⟩
        rw [iter_step (s' := (r + x4, q - 1)), p1]
        unfold m_bits_Div64_b2
        rw [if_pos (hc.2 hcc), if_neg (by rw [decide_eq_true_eq]; dsimp only; omega)]
    · refine ⟨q, iter_end ?_, by omega⟩
      unfold m_bits_Div64_b2
      rw [if_neg (fun h => hcc (hc.1 h))]
/-- What a half of the division begins with. -/
theorem dstart (h1 : 2147483648 ≤ x4.toNat ∧ x4.toNat < 4294967296) (h0 : x5.toNat < 4294967296) (hd : x7.toNat < 4294967296) (hy : y.toNat = x4.toNat * 4294967296 + x5.toNat) (hu : u.toNat < y.toNat) :
    (u / x4).toNat * x4.toNat + (u - (u / x4) * x4).toNat = u.toNat ∧ (u - (u / x4) * x4).toNat < 4294967296 ∧ (u / x4).toNat ≤ 4294967297 ∧ (u.toNat * 4294967296 + x7.toNat) / y.toNat ≤ (u / x4).toNat := by
  have e1 : (u / x4).toNat = u.toNat / x4.toNat := UInt64.toNat_div _ _
  have hmul : u.toNat / x4.toNat * x4.toNat ≤ u.toNat := Nat.div_mul_le_self _ _
  have hul := u.toNat_lt
  have e2 : ((u / x4) * x4).toNat = u.toNat / x4.toNat * x4.toNat := by rw [UInt64.toNat_mul, e1]; omega
  have e3 : (u - (u / x4) * x4).toNat = u.toNat - u.toNat / x4.toNat * x4.toNat := by
    rw [UInt64.toNat_sub_of_le _ _ (by rw [UInt64.le_iff_toNat_le, e2]; exact hmul), e2]
  have e4 : u.toNat - u.toNat / x4.toNat * x4.toNat = u.toNat % x4.toNat := by
    have := Nat.div_add_mod' u.toNat x4.toNat; omega
  have e5 := Nat.mod_lt u.toNat (show 0 < x4.toNat by omega)
  refine ⟨by rw [e1, e3]; omega, by rw [e3, e4]; omega, ?_, ?_⟩
  · rw [e1]
    have : u.toNat / x4.toNat < 4294967298 := by
      rw [Nat.div_lt_iff_lt_mul (by omega)]
      omega
    omega
  · rw [e1, Nat.le_div_iff_mul_le (by omega)]
    have h2 : (u.toNat * 4294967296 + x7.toNat) / y.toNat * y.toNat ≤ u.toNat * 4294967296 + x7.toNat := Nat.div_mul_le_self _ _
    generalize (u.toNat * 4294967296 + x7.toNat) / y.toNat = Q at *
    have h3 : Q * y.toNat = Q * x4.toNat * 4294967296 + Q * x5.toNat := by rw [hy, Nat.mul_add, Nat.mul_assoc]
    rw [h3] at h2
    generalize Q * x4.toNat = A at *
    generalize Q * x5.toNat = B at *
    omega
/-- What is left behind a half. -/
theorem drest {q : UInt64} (hu : u.toNat < y.toNat) (hq : q.toNat = (u.toNat * 4294967296 + x7.toNat) / y.toNat) : (((u * 4294967296) + x7) - (q * y)).toNat = (u.toNat * 4294967296 + x7.toNat) % y.toNat := by
  have hyl := y.toNat_lt
  have hm := Nat.mod_lt (u.toNat * 4294967296 + x7.toNat) (show 0 < y.toNat by omega)
  have hdm := Nat.div_add_mod' (u.toNat * 4294967296 + x7.toNat) y.toNat
  rw [UInt64.toNat_sub, UInt64.toNat_add, UInt64.toNat_mul, UInt64.toNat_mul, hq, show (4294967296 : UInt64).toNat = 4294967296 from rfl]
  generalize (u.toNat * 4294967296 + x7.toNat) / y.toNat * y.toNat = Z at *
  omega
end
theorem shlU_nat {x : UInt64} {k : Nat} (hk : k ≤ 63) : (shlU x k).toNat = (x.toNat * 2 ^ k) % 18446744073709551616 := by
  unfold shlU
  rw [Nat.min_eq_left (by omega), show (x.toNat : Int) * 2 ^ k = ((x.toNat * 2 ^ k : Nat) : Int) from by simp]
  unfold toU
  rw [UInt64.toNat_ofNat']
  generalize x.toNat * 2 ^ k = z
  omega
theorem or_nat {a b k : Nat} (h : b < 2 ^ k) : a * 2 ^ k ||| b = a * 2 ^ k + b := by
  rw [Nat.mul_comm]; exact (Nat.two_pow_add_eq_or_of_lt h a).symm
theorem div64_eq {hi lo y0 : UInt64} {s : Nat} (hs : s ≤ 63) (hlz : m_bits_LeadingZeros64 y0 = some (s : Int)) (hn1 : 9223372036854775808 ≤ y0.toNat * 2 ^ s) (hn2 : y0.toNat * 2 ^ s < 18446744073709551616) (hh : hi.toNat < y0.toNat) :
    ∃ q r, m_bits_Div64 hi lo y0 = some (q, r) ∧ r.toNat = (hi.toNat * 18446744073709551616 + lo.toNat) % y0.toNat := by
  have hyne : y0 ≠ 0 := fun e => by rw [e] at hh; simp at hh
  unfold m_bits_Div64
  rw [if_neg (by rw [beq_iff_eq]; omega), obind_some', if_neg (by rw [decide_eq_true_eq]; omega), obind_some']
  by_cases hz : hi.toNat = 0
  · rw [if_pos (by rw [beq_iff_eq]; omega), if_pos hyne, if_pos hyne]
    refine ⟨_, _, rfl, ?_⟩
    rw [UInt64.toNat_mod, hz]; simp
  · have hts : (toU (s : Int)).toNat = s := toU_toNat (by omega)
    have h64 : (64 - toU (s : Int)).toNat = 64 - s := by
      rw [UInt64.toNat_sub_of_le _ _ (by rw [UInt64.le_iff_toNat_le, hts]; show s ≤ 64; omega), hts]; rfl
    rw [if_neg (by rw [beq_iff_eq]; omega), hlz, obind_some', hts, h64]
    simp only [bnd_def]
    have hps : 0 < 2 ^ s := Nat.two_pow_pos s
    have hpp : 2 ^ s * 2 ^ (64 - s) = 18446744073709551616 := by rw [← Nat.pow_add, show s + (64 - s) = 64 from by omega]
    have hY : (shlU y0 s).toNat = y0.toNat * 2 ^ s := by rw [shlU_nat (by omega)]; exact Nat.mod_eq_of_lt hn2
    have hlo := lo.toNat_lt
    have hlod : lo.toNat / 2 ^ (64 - s) < 2 ^ s := by rw [Nat.div_lt_iff_lt_mul (Nat.two_pow_pos _), hpp]; omega
    have hhs : hi.toNat * 2 ^ s + 2 ^ s ≤ y0.toNat * 2 ^ s := by rw [← Nat.succ_mul]; exact Nat.mul_le_mul_right _ hh
    have hU : ((shlU hi s) ||| (shrU lo (64 - s))).toNat = hi.toNat * 2 ^ s + lo.toNat / 2 ^ (64 - s) := by
      rw [UInt64.toNat_or, shlU_nat (by omega), shrU_toNat _ _ (by omega), Nat.mod_eq_of_lt (by omega), or_nat hlod]
    have hL : (shlU lo s).toNat = (lo.toNat * 2 ^ s) % 18446744073709551616 := shlU_nat (by omega)
    have m32 : ∀ x : UInt64, (x &&& 4294967295).toNat = x.toNat % 4294967296 := fun x => by
      rw [UInt64.toNat_and]; exact Nat.and_two_pow_sub_one_eq_mod _ 32
    have s32 : ∀ x : UInt64, (shrU x 32).toNat = x.toNat / 4294967296 := fun x => shrU_toNat x 32 (by omega)
    -- the number, moved
    have hlos : lo.toNat * 2 ^ s = lo.toNat / 2 ^ (64 - s) * 18446744073709551616 + (lo.toNat * 2 ^ s) % 18446744073709551616 := by
      have e1 : lo.toNat * 2 ^ s / 18446744073709551616 = lo.toNat / 2 ^ (64 - s) := by
        rw [← hpp, Nat.mul_comm, Nat.mul_div_mul_left _ _ hps]
      rw [← e1]; exact (Nat.div_add_mod' _ _).symm
    have hN : (hi.toNat * 18446744073709551616 + lo.toNat) * 2 ^ s = (hi.toNat * 2 ^ s + lo.toNat / 2 ^ (64 - s)) * 18446744073709551616 + (lo.toNat * 2 ^ s) % 18446744073709551616 := by
      rw [Nat.add_mul, hlos, Nat.add_mul, Nat.mul_right_comm]
      omega
    generalize hgy : shlU y0 s = y at *
    generalize hgu : (shlU hi s) ||| (shrU lo (64 - s)) = u at *
    generalize hgl : shlU lo s = l at *
    have hyl := y.toNat_lt
    have a1 : 2147483648 ≤ (shrU y 32).toNat ∧ (shrU y 32).toNat < 4294967296 := by rw [s32]; omega
    have a0 : (y &&& 4294967295).toNat < 4294967296 := by rw [m32]; omega
    have ay : y.toNat = (shrU y 32).toNat * 4294967296 + (y &&& 4294967295).toNat := by rw [s32, m32]; omega
    have ad : (shrU l 32).toNat < 4294967296 := by rw [s32]; have := l.toNat_lt; omega
    have ae : (l &&& 4294967295).toNat < 4294967296 := by rw [m32]; omega
    have au : u.toNat < y.toNat := by rw [hU, hY]; omega
    have hx4 : shrU y 32 ≠ 0 := fun e => by rw [e] at a1; simp at a1
    obtain ⟨b1, b2, b3, b4⟩ := dstart a1 a0 ad ay au
    obtain ⟨q1, c1, c2⟩ := dloop1 a1 a0 ad ay au 2 _ _ b1 b2 b3 b4 (by omega)
    have hr1 := drest au c2
    have hr1l := Nat.mod_lt (u.toNat * 4294967296 + (shrU l 32).toNat) (show 0 < y.toNat by omega)
    rw [if_pos hx4, iter_up _ c1 (by omega), obind_some', obind_some', if_pos hx4]
    generalize hgv : ((u * 4294967296) + (shrU l 32)) - (q1 * y) = v at *
    have av : v.toNat < y.toNat := by omega
    obtain ⟨d1, d2, d3, d4⟩ := dstart a1 a0 ae ay av
    obtain ⟨q0, e1, e2⟩ := dloop2 a1 a0 ae ay av 2 _ _ d1 d2 d3 d4 (by omega)
    have hr0 := drest av e2
    rw [iter_up _ e1 (by omega), obind_some', obind_some']
    refine ⟨_, _, rfl, ?_⟩
    rw [shrU_toNat _ _ (by omega), hr0, hr1]
    have f1 : (((u.toNat * 4294967296 + (shrU l 32).toNat) % y.toNat) * 4294967296 + (l &&& 4294967295).toNat) % y.toNat = ((hi.toNat * 18446744073709551616 + lo.toNat) * 2 ^ s) % y.toNat := by
      rw [Nat.add_mod, Nat.mod_mul_mod, ← Nat.add_mod, hN, ← hU, ← hL, s32, m32]
      have e9 : (u.toNat * 4294967296 + l.toNat / 4294967296) * 4294967296 + l.toNat % 4294967296 = u.toNat * 18446744073709551616 + l.toNat := by omega
      rw [e9]
    rw [f1, hY, Nat.mul_mod_mul_right, Nat.mul_div_cancel _ hps]
end Go.Proofs.YtemiampgjgenhaaGreatDoor
