/- What the reference counts and signs is what the program counts and signs. Conditions: the message is not too long. -/
import Derived.Test.YtemiampgjgenhaaGreatQd
import Derived.Test.YtemiampgjgenhaaGreatPm
import Derived.Test.YtemiampgjgenhaaGreatUa
set_option linter.unusedSimpArgs false
set_option linter.unusedVariables false
set_option maxHeartbeats 4000000
set_option maxRecDepth 100000
namespace Go.Proofs.YtemiampgjgenhaaGreat
open Go Go.Gw

theorem plus_nat {a b m : UInt64} (hm : m.toNat ≤ 4611686018427387904) (ha : a.toNat < m.toNat) (hb : b.toNat < m.toNat) :
    (if (decide ((a.toNat : Int) ≥ ((m - b).toNat : Int))) = true then some (a - (m - b)) else some (a + b)) = some (addM m a b) := by
  have h1 : (m - b).toNat = m.toNat - b.toNat := by rw [UInt64.toNat_sub_of_le]; exact UInt64.le_iff_toNat_le.2 (Nat.le_of_lt hb)
  by_cases h : m.toNat - b.toNat ≤ a.toNat
  · have h2 : (a - (m - b)).toNat = a.toNat - (m.toNat - b.toNat) := by rw [UInt64.toNat_sub_of_le, h1]; exact UInt64.le_iff_toNat_le.2 (by omega)
    rw [if_pos (by rw [h1]; simpa using h)]
    congr 1
    refine of_nat ?_
    rw [h2, show a.toNat + b.toNat = (a.toNat - (m.toNat - b.toNat)) + m.toNat from by omega, Nat.add_mod_right, Nat.mod_eq_of_lt (by omega)]
  · rw [if_neg (by rw [h1]; simpa using h)]
    congr 1
    refine of_nat ?_
    rw [UInt64.toNat_add, Nat.mod_eq_of_lt (by omega), Nat.mod_eq_of_lt (by omega)]
theorem sum03_eq {a b m : UInt64} (hm : m.toNat ≤ 4611686018427387904) (ha : a.toNat < m.toNat) (hb : b.toNat < m.toNat) : m_ref03_sum a b m = some (addM m a b) := plus_nat hm ha hb
theorem plus02_eq {a b m : UInt64} (hm : m.toNat ≤ 4611686018427387904) (ha : a.toNat < m.toNat) (hb : b.toNat < m.toNat) : m_ref02_plus a b m = some (addM m a b) := plus_nat hm ha hb
theorem addM_nat' {y : UInt64} (h : 0 < y.toNat) (a b : UInt64) : (addM y a b).toNat = (a.toNat + b.toNat) % y.toNat := ofN_mod _ h
theorem bit1 (x : UInt64) {i : Nat} (hi : i ≤ 63) : ((((shrU x ((toU (i : Int)).toNat)) &&& 1).toNat : Int) == 1) = decide (x.toNat / 2 ^ i % 2 = 1) := by
  rw [toU_toNat (by omega), UInt64.toNat_and, shrU_toNat _ _ (by omega), show (1 : UInt64).toNat = 1 from rfl, Nat.and_one_is_mod, Bool.eq_iff_iff, beq_iff_eq, decide_eq_true_eq]
  omega
theorem div_two (n i : Nat) : n / 2 ^ i = 2 * (n / 2 ^ (i + 1)) + n / 2 ^ i % 2 := by
  rw [Nat.pow_succ, ← Nat.div_div_eq_div_mul]
  omega
theorem times_mod {A B C m r : Nat} (hr : r = A * B % m) : (r + r) % m = A * (2 * B) % m := by
  rw [hr, ← Nat.add_mod, ← Nat.two_mul, Nat.mul_left_comm]
theorem times_it (a b : UInt64) {m : UInt64} (hp : 0 < m.toNat) (hm : m.toNat ≤ 4611686018427387904) : ∀ (j : Nat) (out : UInt64), j ≤ 64 → out.toNat = (a.toNat % m.toNat) * ((b.toNat % m.toNat) / 2 ^ j) % m.toNat →
    ∃ r, iter (m_ref03_times_b1 a b m) (j + 1) (out, (j : Int) - 1) = some r ∧ r.toNat = (a.toNat % m.toNat) * (b.toNat % m.toNat) % m.toNat := by
  intro j
  induction j with
  | zero =>
    intro out _ ho
    refine ⟨out, iter_end ?_, by rw [ho, Nat.pow_zero, Nat.div_one]⟩
    unfold m_ref03_times_b1
    rw [if_neg (by simp)]
  | succ j ih =>
    intro out hj ho
    have ham : (a % m).toNat = a.toNat % m.toNat := UInt64.toNat_mod _ _
    have hbm : (b % m).toNat = b.toNat % m.toNat := UInt64.toNat_mod _ _
    have hol : out.toNat < m.toNat := by rw [ho]; exact Nat.mod_lt _ hp
    have hdl : (addM m out out).toNat < m.toNat := by rw [addM_nat' hp]; exact Nat.mod_lt _ hp
    have hd : (addM m out out).toNat = (a.toNat % m.toNat) * (2 * ((b.toNat % m.toNat) / 2 ^ (j + 1))) % m.toNat := by
      rw [addM_nat' hp]; exact times_mod (C := 0) ho
    have hw : (((j + 1 : Nat) : Int) - 1) = (j : Int) := by omega
    have hw2 : w64 ((j : Int) - 1) = (j : Int) - 1 := w64_in (by omega) (by omega)
    have hst : ∃ o, m_ref03_times_b1 a b m (out, ((j + 1 : Nat) : Int) - 1) = some (.inl (o, (j : Int) - 1)) ∧ o.toNat = (a.toNat % m.toNat) * ((b.toNat % m.toNat) / 2 ^ j) % m.toNat := by
      unfold m_ref03_times_b1
      dsimp only
      rw [hw, if_pos (by simp), sum03_eq hm hol hol, obind_some', bit1 _ (by omega), hbm, hw2]
      by_cases hb : (b.toNat % m.toNat) / 2 ^ j % 2 = 1
      · rw [if_pos (by simpa using hb), sum03_eq hm hdl (by rw [ham]; exact Nat.mod_lt _ hp), obind_some', obind_some']
        refine ⟨_, rfl, ?_⟩
        rw [addM_nat' hp, hd, ham, Nat.mod_add_mod, div_two _ j, hb, Nat.mul_add, Nat.mul_one]
      · rw [if_neg (by simpa using hb), obind_some']
        refine ⟨_, rfl, ?_⟩
        have hdt := div_two (b.toNat % m.toNat) j
        rw [show (b.toNat % m.toNat) / 2 ^ j % 2 = 0 from by omega, Nat.add_zero] at hdt
        rw [hd, hdt]
    obtain ⟨o, e1, e2⟩ := hst
    obtain ⟨r, e3, e4⟩ := ih o (by omega) e2
    exact ⟨r, by rw [iter_step e1]; exact e3, e4⟩
theorem times_eq (a b : UInt64) {m : UInt64} (hp : 0 < m.toNat) (hm : m.toNat ≤ 4611686018427387904) : m_ref03_times a b m = some (mulM m a b) := by
  have hne : m ≠ 0 := fun e => by rw [e] at hp; simp at hp
  have hbl : b.toNat % m.toNat < 2 ^ 64 := Nat.lt_of_lt_of_le (Nat.mod_lt _ hp) (by omega)
  obtain ⟨r, e1, e2⟩ := times_it a b hp hm 64 0 (by omega) (by rw [Nat.div_eq_of_lt hbl, Nat.mul_zero, Nat.zero_mod]; rfl)
  have e1' : iter (m_ref03_times_b1 a b m) FUEL (0, 63) = some r := iter_up _ e1 (by omega)
  unfold m_ref03_times
  rw [if_pos hne, if_pos hne, e1', obind_some', obind_some']
  rw [← Nat.mul_mod] at e2
  rw [of_nat e2]; rfl
theorem power_it (a n : UInt64) {m : UInt64} (hp : 0 < m.toNat) (hm : m.toNat ≤ 4611686018427387904) : ∀ (j : Nat) (out : UInt64), j ≤ 64 → out.toNat = a.toNat ^ (n.toNat / 2 ^ j) % m.toNat →
    ∃ r, iter (m_ref03_power_b1 a n m) (j + 1) (out, (j : Int) - 1) = some r ∧ r.toNat = a.toNat ^ n.toNat % m.toNat := by
  intro j
  induction j with
  | zero =>
    intro out _ ho
    refine ⟨out, iter_end ?_, by rw [ho, Nat.pow_zero, Nat.div_one]⟩
    unfold m_ref03_power_b1
    rw [if_neg (by simp)]
  | succ j ih =>
    intro out hj ho
    have hd : (mulM m out out).toNat = a.toNat ^ (2 * (n.toNat / 2 ^ (j + 1))) % m.toNat := by
      have : (mulM m out out).toNat = (out.toNat * out.toNat) % m.toNat := ofN_mod _ hp
      rw [this, ho, ← Nat.mul_mod, ← Nat.pow_add, ← Nat.two_mul]
    have hw : (((j + 1 : Nat) : Int) - 1) = (j : Int) := by omega
    have hw2 : w64 ((j : Int) - 1) = (j : Int) - 1 := w64_in (by omega) (by omega)
    have hst : ∃ o, m_ref03_power_b1 a n m (out, ((j + 1 : Nat) : Int) - 1) = some (.inl (o, (j : Int) - 1)) ∧ o.toNat = a.toNat ^ (n.toNat / 2 ^ j) % m.toNat := by
      unfold m_ref03_power_b1
      dsimp only
      rw [hw, if_pos (by simp), times_eq _ _ hp hm, obind_some', bit1 _ (by omega), hw2]
      by_cases hb : n.toNat / 2 ^ j % 2 = 1
      · rw [if_pos (by simpa using hb), times_eq _ _ hp hm, obind_some', obind_some']
        refine ⟨_, rfl, ?_⟩
        have : (mulM m (mulM m out out) a).toNat = ((mulM m out out).toNat * a.toNat) % m.toNat := ofN_mod _ hp
        have hdt := div_two n.toNat j
        rw [hb] at hdt
        rw [this, hd, Nat.mod_mul_mod, ← Nat.pow_succ, hdt]
      · rw [if_neg (by simpa using hb), obind_some']
        have hdt := div_two n.toNat j
        rw [show n.toNat / 2 ^ j % 2 = 0 from by omega, Nat.add_zero] at hdt
        refine ⟨_, rfl, ?_⟩
        rw [hd, hdt]
    obtain ⟨o, e1, e2⟩ := hst
    obtain ⟨r, e3, e4⟩ := ih o (by omega) e2
    exact ⟨r, by rw [iter_step e1]; exact e3, e4⟩
theorem power03_eq (a n : UInt64) {m : UInt64} (hp : 1 < m.toNat) (hm : m.toNat ≤ 4611686018427387904) : m_ref03_power a n m = some (powN m a n) := by
  have hnl : n.toNat < 2 ^ 64 := n.toNat_lt
  obtain ⟨r, e1, e2⟩ := power_it a n (by omega) hm 64 1 (by omega) (by rw [Nat.div_eq_of_lt hnl, Nat.pow_zero, Nat.mod_eq_of_lt hp]; rfl)
  have e1' : iter (m_ref03_power_b1 a n m) FUEL (1, 63) = some r := iter_up _ e1 (by omega)
  unfold m_ref03_power
  rw [e1', obind_some', obind_some', of_nat e2]; rfl
theorem base03_eq (n : UInt64) : m_ref03_Base n = some (pubK n) := by
  unfold m_ref03_Base
  rw [power03_eq _ _ (by decide) (by decide), obind_some']; rfl
theorem num02_it (s : UInt64) {m : UInt64} (hp : 0 < m.toNat) (hm : m.toNat ≤ 4611686018427387904) : ∀ (k i : Nat) (x : UInt64), i + k = 61 → x.toNat = s.toNat * 2 ^ i % m.toNat → ∃ r, iter (m_ref02_Num_b2 m) (k + 1) (x, (i : Int)) = some r ∧ r.toNat = s.toNat * 2 ^ 61 % m.toNat := by
  intro k
  induction k with
  | zero =>
    intro i x hi hx
    obtain rfl : i = 61 := by omega
    exact ⟨x, iter_end (by unfold m_ref02_Num_b2; rw [if_neg (by simp)]), hx⟩
  | succ k ih =>
    intro i x hi hx
    have hxl : x.toNat < m.toNat := by rw [hx]; exact Nat.mod_lt _ hp
    have hn : (addM m x x).toNat = s.toNat * 2 ^ (i + 1) % m.toNat := by
      rw [addM_nat' hp, hx, ← Nat.add_mod, ← Nat.two_mul, Nat.mul_left_comm, Nat.pow_succ, Nat.mul_comm 2]
    obtain ⟨r, e1, e2⟩ := ih (i + 1) _ (by omega) hn
    refine ⟨r, ?_, e2⟩
    rw [iter_step (s' := (addM m x x, ((i + 1 : Nat) : Int)))]
    · exact e1
    · unfold m_ref02_Num_b2
      dsimp only
      rw [if_pos (by simp; omega), plus02_eq hm hxl hxl, obind_some', w64_sucN (by omega)]
theorem num02_eq {y : UInt64} (h : Dv y) (hm : y.toNat ≤ 4611686018427387904) (s : UInt64 × UInt64) : m_ref02_Num s y = some (numM s y) := by
  have hp := h.pos
  have hne : y ≠ 0 := fun e => by rw [e] at hp; simp at hp
  obtain ⟨r, e1, e2⟩ := num02_it s.1 hp hm 61 0 (s.1 % y) (by omega) (by rw [UInt64.toNat_mod, Nat.pow_zero, Nat.mul_one])
  have e1' : iter (m_ref02_Num_b2 y) FUEL (s.1 % y, 0) = some r := iter_up _ e1 (by omega)
  have hr : r.toNat < y.toNat := by rw [e2]; exact Nat.mod_lt _ hp
  have h2 : (s.2 % y).toNat = s.2.toNat % y.toNat := UInt64.toNat_mod _ _
  unfold m_ref02_Num
  rw [if_neg (by rw [beq_iff_eq]; omega), if_pos hne, e1', obind_some', obind_some', if_pos hne, plus02_eq hm hr (by rw [h2]; exact Nat.mod_lt _ hp), obind_some']
  congr 1
  refine of_nat ?_
  rw [addM_nat' hp, h2, e2, ← Nat.add_mod]

end Go.Proofs.YtemiampgjgenhaaGreat
