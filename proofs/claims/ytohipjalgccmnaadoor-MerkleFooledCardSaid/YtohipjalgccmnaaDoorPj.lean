/- Who is fooled by a proof holds two unlike pairs of which the same is told: in plain terms. Conditions: none. -/
import Derived.Test.YtohipjalgccmnaaDoorPk
import Derived.Test.YtohipjalgccmnaaDoorWkI
set_option linter.unusedSimpArgs false
set_option linter.unusedVariables false
set_option maxHeartbeats 2000000
set_option maxRecDepth 100000
namespace Go.Proofs.YtohipjalgccmnaaDoor
open Go Go.Gw

theorem fooled_rec : ∀ (n : Nat) (l : List Sm) (leaf : Sm) (a : Nat) (ps : List Sm), l.length ≤ n → a < l.length → l.length ≤ 256 → ps.length = (dirs a (l.length - 1)).length →
    ∃ is, r_law08_fooled n l leaf (a : Int) ps = some (lead (dirs a (l.length - 1)) ps leaf, is) ∧ (lead (dirs a (l.length - 1)) ps leaf = rootR l → is = true ∨ l[a]? = some leaf) := by
  intro n
  induction n with
  | zero => intro l leaf a ps h h1; omega
  | succ n ih =>
    intro l leaf a ps h h1 h3 hp'
    by_cases h2 : 2 ≤ l.length
    · have hlt := hp_lt h2
      have hpos := hp_pos l.length
      have hdl := dirs_len a (l.length - 1) (by omega)
      have hex : ∃ k, ps.length = k + 1 := by
        by_cases ha : a < hp l.length
        · rw [dirs_left h2 ha] at hp'; exact ⟨_, by rw [hp', List.length_append]; rfl⟩
        · rw [dirs_rest h2 (by omega) h1] at hp'; exact ⟨_, by rw [hp', List.length_append]; rfl⟩
      obtain ⟨k, hk⟩ := hex
      obtain ⟨qs, p, e, hq, hix, hcut⟩ := lastI hk
      have hwk : w64 ((ps.length : Int) - 1) = (k : Int) := by rw [w64_in (by omega) (by omega)]; omega
      have htl : (l.take (hp l.length)).length = hp l.length := by simp; omega
      have hdl2 : (l.drop (hp l.length)).length = l.length - hp l.length := by simp
      simp only [r_law08_fooled]
      rw [if_neg (by rw [Bool.or_eq_true, decide_eq_true_eq, beq_iff_eq]; omega), first_eq h2 (by omega), obind_some', hwk, bnd_def, cutL (by omega), obind_some', root_eq _ (by omega), obind_some', cutR (by omega), obind_some', root_eq _ (by omega), obind_some', rootP_R (l := l.take (hp l.length)) (by omega), rootP_R (l := l.drop (hp l.length)) (by omega)]
      by_cases ha : a < hp l.length
      · rw [dirs_left h2 ha] at hp' ⊢
        have hqd : (dirs a (hp l.length - 1)).length = qs.length := by rw [List.length_append, hk] at hp'; simp at hp'; omega
        obtain ⟨is, i1, i2⟩ := ih (l.take (hp l.length)) leaf a qs (by omega) (by omega) (by omega) (by rw [htl]; exact hqd.symm)
        rw [htl] at i1 i2
        rw [if_pos (by simp; omega), obind_some', hcut, obind_some', i1, obind_some', hix, obind_some', pair_eq, obind_some']
        rw [e, lead_app hqd]
        refine ⟨is || unl (lead (dirs a (hp l.length - 1)) qs leaf) p (rootR (l.take (hp l.length))) (rootR (l.drop (hp l.length))), ?_, fun hr => ?_⟩
        · cases is with
          | true => rfl
          | false => simp only [Bool.not_false, gu, cond_true, obind_some', unlike_eq, Bool.false_or]; rfl
        · rw [rootR_two h2] at hr
          rcases unl_or hr with q | ⟨q, _⟩
          · left; rw [q]; simp
          · rcases i2 q with z | z
            · left; rw [z]; rfl
            · right; rw [List.getElem?_take_of_lt ha] at z; exact z
      · rw [dirs_rest h2 (by omega) h1] at hp' ⊢
        have hqd : (dirs (a - hp l.length) (l.length - hp l.length - 1)).length = qs.length := by rw [List.length_append, hk] at hp'; simp at hp'; omega
        obtain ⟨is, i1, i2⟩ := ih (l.drop (hp l.length)) leaf (a - hp l.length) qs (by omega) (by omega) (by omega) (by rw [hdl2]; exact hqd.symm)
        have hwi : w64 ((a : Int) - (hp l.length : Nat)) = ((a - hp l.length : Nat) : Int) := by rw [w64_in (by omega) (by omega)]; omega
        rw [hdl2] at i1 i2
        rw [if_neg (by simp; omega), obind_some', hcut, obind_some', hwi, i1, obind_some', hix, obind_some', pair_eq, obind_some']
        rw [e, lead_app hqd]
        refine ⟨is || unl p (lead (dirs (a - hp l.length) (l.length - hp l.length - 1)) qs leaf) (rootR (l.take (hp l.length))) (rootR (l.drop (hp l.length))), ?_, fun hr => ?_⟩
        · cases is with
          | true => rfl
          | false => simp only [Bool.not_false, gu, cond_true, obind_some', unlike_eq, Bool.false_or]; rfl
        · rw [rootR_two h2] at hr
          rcases unl_or hr with q | ⟨_, q⟩
          · left; rw [q]; simp
          · rcases i2 q with z | z
            · left; rw [z]; rfl
            · right; rw [List.getElem?_drop, show hp l.length + (a - hp l.length) = a from by omega] at z; exact z
    · match l, h1, h2 with
      | [y], h1, _ =>
        have : a = 0 := by simp at h1; omega
        subst this
        rw [show [y].length - 1 = 0 from rfl, dirs_zero] at hp' ⊢
        refine ⟨false, ?_, fun hr => ?_⟩
        · simp only [r_law08_fooled]
          rw [if_pos (by simp)]; rfl
        · right
          rw [rootR_one] at hr
          have : leaf = y := hr
          rw [this]; rfl
      | y :: z :: l, _, h2 => simp at h2
theorem fooled_true (l : List Sm) (a : Int) (leaf : Sm) (ps : List Sm) : m_law08_MerkleFooled l a leaf ps = some true := by
  unfold m_law08_MerkleFooled
  rw [live_true, obind_some', if_neg (by decide)]
  by_cases hc : l.length ≤ 40 ∧ ps.length ≤ 40 ∧ 0 ≤ a ∧ a < l.length
  · obtain ⟨h40, hps, h0, h1⟩ := hc
    obtain ⟨a, rfl⟩ := Int.eq_ofNat_of_zero_le h0
    have hal : a < l.length := by omega
    have hx : l[a]? = some l[a] := by simp [hal]
    have hi : idx l (a : Int) = some l[a] := idx_nat hx
    rw [if_neg (by simp; omega), root_eq _ (by omega), obind_some', rootP_R (by omega), check_eq hal (by omega) _ _ _ (by omega), obind_some', hi]
    by_cases hl : ps.length = (dirs a (l.length - 1)).length
    · rw [if_pos hl]
      by_cases hr : lead (dirs a (l.length - 1)) ps leaf = rootR l
      · rw [if_pos hr]
        have hF : l.length ≤ FUEL := by unfold FUEL; omega
        have hrec : ∃ is, m_law08_fooled l leaf (a : Int) ps = some (lead (dirs a (l.length - 1)) ps leaf, is) ∧ (lead (dirs a (l.length - 1)) ps leaf = rootR l → is = true ∨ l[a]? = some leaf) := by
          unfold m_law08_fooled
          revert hF
          generalize FUEL = n
          intro hF
          exact fooled_rec n l leaf a ps hF hal (by omega) hl
        obtain ⟨is, e1, e2⟩ := hrec
        have e0 : ((0 : Int) != 0) = false := rfl
        rw [e0]
        simp only [Bool.not_false, gu, cond_true, obind_some', Bool.false_or]
        by_cases hle : leaf = l[a]
        · rw [if_pos (by rw [hle]; exact eqSum_self _)]
        · rw [if_neg (by rw [eqSum_ne hle]; simp), e1, obind_some']
          rcases e2 hr with z | z
          · rw [z]; rfl
          · rw [hx] at z; exact absurd (Option.some.inj z).symm hle
      · rw [if_neg hr]; rfl
    · rw [if_neg hl]; rfl
  · rw [if_pos (by simp; omega)]
end Go.Proofs.YtohipjalgccmnaaDoor
