/- Who is shown that a tree has grown out of another one than it did holds two unlike pairs: in plain terms. Conditions: none. -/
import Derived.Test.YtohipjalgccmnaaDoorPk
import Derived.Test.YtohipjalgccmnaaDoorWkL
set_option linter.unusedSimpArgs false
set_option linter.unusedVariables false
set_option maxHeartbeats 2000000
set_option maxRecDepth 100000
namespace Go.Proofs.YtohipjalgccmnaaDoor
open Go Go.Gw

theorem grown_rec : ∀ (n : Nat) (l : List Sm) (f : Nat) (known : Bool) (a : Sm) (ps : List Sm), l.length ≤ n → 1 ≤ f → f ≤ l.length → l.length ≤ 256 → ps.length = (gd f l.length known).2.length + (if (gd f l.length known).1 then 1 else 0) →
    ∃ is, r_law08_grown n l (f : Int) known a ps = some ((bothG f l.length known a ps).2, is) ∧ ((bothG f l.length known a ps).2 = rootR l → is = true ∨ (bothG f l.length known a ps).1 = rootR (l.take f)) := by
  intro n
  induction n with
  | zero => intro l f known a ps h h1 h2; omega
  | succ n ih =>
    intro l f known a ps h h1 h2 h3 hl
    simp only [r_law08_grown]
    by_cases he : f = l.length
    · have ht : l.take f = l := List.take_of_length_le (by omega)
      have hb : ((f : Int) == (l.length : Int)) = true := by rw [beq_iff_eq]; omega
      unfold bothG
      rw [he, gd_all] at hl
      rw [hb, ht, he]
      simp only [gd_all]
      cases known with
      | true =>
        exact ⟨false, rfl, fun hr => .inr hr⟩
      | false =>
        match ps, hl with
        | [p], hl =>
          have e1 : w64 (([p].length : Int) - 1) = 0 := by rw [w64_in (by simp) (by simp)]; simp
          have e2 : idx [p] 0 = some p := rfl
          have e3 : ((l.length : Int) != (l.length : Int)) = false := by simp
          have e5 : (([p].length : Int) == 0) = false := rfl
          have e4 : (if decide ((l.length : Int) < 2) = true then some false else some false) = some false := by split <;> rfl
          rw [e3, e1, e5]
          simp only [Bool.and_false, Bool.false_eq_true, if_false, bnd_def, e2, obind_some', if_true, e4]
          exact ⟨false, rfl, fun hr => .inr hr⟩
    · have h4 : 2 ≤ l.length := by omega
      have hlt := hp_lt h4
      have hpos := hp_pos l.length
      have hgl := gd_len l.length f l.length known (Nat.le_refl _)
      have hif : (if (gd f l.length known).1 = true then 1 else 0) ≤ 1 := by split <;> omega
      have hex : ∃ k, ps.length = k + 1 := by
        by_cases hf : f ≤ hp l.length
        · rw [gd_lo h4 hf] at hl; exact ⟨_, by rw [hl, List.length_append, List.length_singleton, Nat.add_right_comm]⟩
        · rw [gd_hi h4 (by omega) he] at hl; exact ⟨_, by rw [hl, List.length_append, List.length_singleton, Nat.add_right_comm]⟩
      obtain ⟨k, hk⟩ := hex
      obtain ⟨qs, p, e, hq, hix, hcut⟩ := lastI hk
      have hwk : w64 ((ps.length : Int) - 1) = (k : Int) := by rw [w64_in (by omega) (by omega)]; omega
      have htl : (l.take (hp l.length)).length = hp l.length := by simp; omega
      have hdl2 : (l.drop (hp l.length)).length = l.length - hp l.length := by simp
      have hb : ((f : Int) == (l.length : Int)) = false := by rw [← Bool.not_eq_true, beq_iff_eq]; omega
      have hp0 : ((ps.length : Int) == 0) = false := by rw [← Bool.not_eq_true, beq_iff_eq]; omega
      have hl2 : decide ((l.length : Int) < 2) = false := decide_eq_false (by omega)
      rw [hb, hp0, hl2]
      simp only [Bool.false_and, Bool.false_eq_true, if_false, obind_some']
      rw [hwk, bnd_def, first_eq h4 (by omega), obind_some', cutL (by omega), obind_some', root_eq _ (by omega), obind_some', cutR (by omega), obind_some', root_eq _ (by omega), obind_some', rootP_R (l := l.take (hp l.length)) (by omega), rootP_R (l := l.drop (hp l.length)) (by omega)]
      by_cases hf : f ≤ hp l.length
      · have hqd : qs.length = (gd f (hp l.length) known).2.length + (if (gd f (hp l.length) known).1 then 1 else 0) := by
          rw [gd_lo h4 hf] at hl; simp only [List.length_append, List.length_singleton] at hl; omega
        obtain ⟨is, i1, i2⟩ := ih (l.take (hp l.length)) f known a qs (by omega) h1 (by omega) (by omega) (by rw [htl]; exact hqd)
        rw [htl] at i1 i2
        rw [if_pos (by rw [decide_eq_true_eq]; omega), obind_some', hcut, obind_some', i1, obind_some', hix, obind_some', pair_eq, obind_some']
        rw [e, bothG_lo h4 hf known a hqd]
        refine ⟨is || unl (bothG f (hp l.length) known a qs).2 p (rootR (l.take (hp l.length))) (rootR (l.drop (hp l.length))), ?_, fun hr => ?_⟩
        · cases is with
          | true => rfl
          | false => simp only [Bool.not_false, gu, cond_true, obind_some', unlike_eq, Bool.false_or]
        · rw [rootR_two h4] at hr
          rcases unl_or hr with q | ⟨q, _⟩
          · left; rw [q]; simp
          · rcases i2 q with z | z
            · left; rw [z]; rfl
            · right; rw [List.take_take, Nat.min_eq_left hf] at z; exact z
      · have hqd : qs.length = (gd (f - hp l.length) (l.length - hp l.length) false).2.length + (if (gd (f - hp l.length) (l.length - hp l.length) false).1 then 1 else 0) := by
          rw [gd_hi h4 (by omega) he] at hl; simp only [List.length_append, List.length_singleton] at hl; omega
        obtain ⟨is, i1, i2⟩ := ih (l.drop (hp l.length)) (f - hp l.length) false a qs (by omega) (by omega) (by omega) (by omega) (by rw [hdl2]; exact hqd)
        have hwi : w64 ((f : Int) - (hp l.length : Nat)) = ((f - hp l.length : Nat) : Int) := by rw [w64_in (by omega) (by omega)]; omega
        rw [hdl2] at i1 i2
        rw [if_neg (by rw [decide_eq_true_eq]; omega), obind_some', hcut, obind_some', hwi, i1, obind_some', hix, obind_some', pair_eq, obind_some']
        rw [e, bothG_hi h4 (by omega) he known a hqd]
        refine ⟨is || unl p (bothG (f - hp l.length) (l.length - hp l.length) false a qs).2 (rootR (l.take (hp l.length))) (rootR (l.drop (hp l.length))), ?_, fun hr => ?_⟩
        · cases is with
          | true => rfl
          | false => simp only [Bool.not_false, gu, cond_true, obind_some', unlike_eq, Bool.false_or]
        · rw [rootR_two h4] at hr
          rcases unl_or hr with q | ⟨q1, q⟩
          · left; rw [q]; simp
          · rcases i2 q with z | z
            · left; rw [z]; rfl
            · right; show ppair p (bothG (f - hp l.length) (l.length - hp l.length) false a qs).1 = _
              rw [z, q1, root_take h4 (by omega) h2]
theorem same_true (l : List Sm) (f : Int) (a : Sm) (ps : List Sm) : m_law08_MerkleSame l f a ps = some true := by
  unfold m_law08_MerkleSame
  rw [live_true, obind_some', if_neg (by decide)]
  by_cases hc : l.length ≤ 40 ∧ ps.length ≤ 40 ∧ 0 ≤ f ∧ f ≤ l.length
  · obtain ⟨h40, hps, h0, h1⟩ := hc
    obtain ⟨f, rfl⟩ := Int.eq_ofNat_of_zero_le h0
    have hfl : f ≤ l.length := by omega
    have hn0 : ((0 : Int) != 0) = false := rfl
    rw [if_neg (by simp; omega), root_eq _ (by omega), obind_some']
    by_cases hend : f = 0 ∨ f = l.length
    · rw [checkGrow_end (by omega) (by omega) (by omega) (by omega), obind_some']
      by_cases hp0 : ps.length = 0
      · rw [if_pos hp0]
        by_cases hq : (((f : Int) = 0 ∧ a ≠ rootP []) ∨ (0 < (f : Int) ∧ a ≠ rootP l))
        · rw [if_pos hq]; rfl
        · rw [if_neg hq, hn0]
          have ha : a = rootP (l.take f) := by
            by_cases f0 : f = 0
            · subst f0
              have : ¬ (a ≠ rootP []) := fun e => hq (.inl ⟨rfl, e⟩)
              simpa using this
            · have h5 : ¬ (a ≠ rootP l) := fun e => hq (.inr ⟨by omega, e⟩)
              have ht : l.take f = l := List.take_of_length_le (by omega)
              rw [ht]; simpa using h5
          simp only [Bool.not_false, gu, cond_true, cutL hfl, obind_some', root_eq (l.take f) (by simp; omega), Bool.false_or]
          rw [if_pos (by rw [ha]; exact eqSum_self _)]
      · rw [if_neg hp0]; rfl
    · rw [checkGrow_eq (by omega) (by omega) (by omega) _ _ _ (by omega), obind_some']
      unfold growC
      by_cases hl : ps.length = (gd f l.length true).2.length + (if (gd f l.length true).1 then 1 else 0)
      · rw [if_pos hl]
        by_cases hb : both (gd f l.length true).2 (restG (gd f l.length true).1 ps) (startG (gd f l.length true).1 a ps, startG (gd f l.length true).1 a ps) = (a, rootP l)
        · rw [if_pos hb, hn0]
          simp only [Bool.not_false, gu, cond_true, cutL hfl, obind_some', root_eq (l.take f) (by simp; omega), Bool.false_or]
          have hF : l.length ≤ FUEL := by unfold FUEL; omega
          have hrec : ∃ is, m_law08_grown l (f : Int) true a ps = some ((bothG f l.length true a ps).2, is) ∧ ((bothG f l.length true a ps).2 = rootR l → is = true ∨ (bothG f l.length true a ps).1 = rootR (l.take f)) := by
            unfold m_law08_grown
            revert hF
            generalize FUEL = n
            intro hF
            exact grown_rec n l f true a ps hF (by omega) hfl (by omega) hl
          obtain ⟨is, e1, e2⟩ := hrec
          have hb' : bothG f l.length true a ps = (a, rootP l) := hb
          rw [hb', rootP_R (l := l) (by omega)] at e1 e2
          by_cases hle : a = rootP (l.take f)
          · rw [if_pos (by rw [hle]; exact eqSum_self _)]
          · rw [if_neg (by rw [eqSum_ne hle]; simp), e1, obind_some']
            rcases e2 rfl with z | z
            · rw [z]; rfl
            · exact absurd (z.trans (rootP_R (l := l.take f) (by simp; omega)).symm) hle
        · rw [if_neg hb]; rfl
      · rw [if_neg hl]; rfl
  · rw [if_pos (by simp; omega)]
end Go.Proofs.YtohipjalgccmnaaDoor
