/- What the reference computes of proofs is what the program computes. Conditions: sizes as the program allows. -/
import Derived.Test.YtohipjalgccmnaaDoorPn
import Derived.Test.YtohipjalgccmnaaDoorWkN
set_option linter.unusedSimpArgs false
set_option linter.unusedVariables false
set_option maxHeartbeats 2000000
set_option maxRecDepth 100000
namespace Go.Proofs.YtohipjalgccmnaaDoor
open Go Go.Gw

theorem wayE_rec : ∀ (n : Nat) (l : List Sm) (a : Nat), l.length < n → a < l.length → l.length ≤ 256 → r_ref08_way n l (a : Int) = some (wayR l a) := by
  intro n
  induction n with
  | zero => intro l a h; omega
  | succ n ih =>
    intro l a h ha h3
    simp only [r_ref08_way]
    by_cases h1 : l.length = 1
    · rw [if_pos (by rw [beq_iff_eq]; omega), wayR_one (by omega)]
    · have h2 : 2 ≤ l.length := by omega
      have hlt := hp_lt h2
      have hpos := hp_pos l.length
      rw [if_neg (by rw [beq_iff_eq]; omega), firstR_eq h2 (by omega), obind_some']
      by_cases hh : a < hp l.length
      · have hw := way_len _ _ a (Nat.le_refl (l.take (hp l.length)).length) (by simp; omega)
        have hwl : (wayR (l.take (hp l.length)) a).length ≤ 400 := by rw [hw]; exact dirs_len _ _ (by simp; omega)
        rw [if_pos (by rw [decide_eq_true_eq]; omega), cutL (by omega), obind_some', ih _ a (by simp; omega) (by simp; omega) (by simp; omega), obind_some', cutR (by omega), obind_some', rootE_eq _ (by simp; omega), obind_some', rootP_R (by simp; omega), app_eq 16 (by simp; omega) (by simp; omega), obind_some', wayR_lo h2 hh]
      · have hwi : w64 ((a : Int) - (hp l.length : Nat)) = ((a - hp l.length : Nat) : Int) := by rw [w64_in (by omega) (by omega)]; omega
        have hw := way_len _ _ (a - hp l.length) (Nat.le_refl (l.drop (hp l.length)).length) (by simp; omega)
        have hwl : (wayR (l.drop (hp l.length)) (a - hp l.length)).length ≤ 400 := by rw [hw]; exact dirs_len _ _ (by simp; omega)
        rw [if_neg (by rw [decide_eq_true_eq]; omega), cutR (by omega), obind_some', hwi, ih _ (a - hp l.length) (by simp; omega) (by simp; omega) (by simp; omega), obind_some', cutL (by omega), obind_some', rootE_eq _ (by simp; omega), obind_some', rootP_R (by simp; omega), app_eq 16 (by simp; omega) (by simp; omega), obind_some', wayR_hi h2 (by omega)]
theorem proveE_eq (l : List Sm) (a : Int) : m_ref08_Prove l a = m_merkle_Prove l a := by
  by_cases hc : 256 < l.length ∨ a < 0 ∨ (l.length : Int) ≤ a
  · rw [prove_no hc]
    unfold m_ref08_Prove
    rw [if_pos (by simp; omega)]
  · obtain ⟨a, rfl⟩ := Int.eq_ofNat_of_zero_le (show 0 ≤ a by omega)
    rw [prove_eq (by omega) (by omega)]
    have hF : l.length < FUEL := by unfold FUEL; omega
    have hw : m_ref08_way l (a : Int) = some (wayR l a) := by
      unfold m_ref08_way
      revert hF
      generalize FUEL = n
      exact fun hF => wayE_rec n l a hF (by omega) (by omega)
    unfold m_ref08_Prove
    rw [if_neg (by simp; omega), hw, obind_some']
theorem longE_rec : ∀ (n a s : Nat), s < n → a < s → s ≤ 256 → r_ref08_long n (a : Int) (s : Int) = some (((dirs a (s - 1)).length : Nat) : Int) := by
  intro n
  induction n with
  | zero => intro a s h; omega
  | succ n ih =>
    intro a s h ha h3
    simp only [r_ref08_long]
    by_cases h1 : s = 1
    · subst h1
      rw [if_pos (by simp), dirs_zero]; rfl
    · have h2 : 2 ≤ s := by omega
      have hlt := hp_lt h2
      have hpos := hp_pos s
      have hsi : w64 ((s : Int) - (hp s : Nat)) = ((s - hp s : Nat) : Int) := by rw [w64_in (by omega) (by omega)]; omega
      rw [if_neg (by rw [beq_iff_eq]; omega), firstR_eq h2 (by omega), obind_some']
      by_cases hh : a < hp s
      · have hd := dirs_len a (hp s - 1) (by omega)
        rw [if_pos (by rw [decide_eq_true_eq]; omega), ih a (hp s) (by omega) hh (by omega), obind_some', dirs_left h2 hh, w64_in (by omega) (by omega), List.length_append, List.length_singleton]; rfl
      · have hwi : w64 ((a : Int) - (hp s : Nat)) = ((a - hp s : Nat) : Int) := by rw [w64_in (by omega) (by omega)]; omega
        have hd := dirs_len (a - hp s) (s - hp s - 1) (by omega)
        rw [if_neg (by rw [decide_eq_true_eq]; omega), hwi, hsi, ih (a - hp s) (s - hp s) (by omega) (by omega) (by omega), obind_some', dirs_rest h2 (by omega) ha, w64_in (by omega) (by omega), List.length_append, List.length_singleton]; rfl
theorem leadsE_rec : ∀ (n a s : Nat) (leaf : Sm) (ps : List Sm), s < n → a < s → s ≤ 256 → ps.length = (dirs a (s - 1)).length → r_ref08_leads n leaf (a : Int) (s : Int) ps = some (lead (dirs a (s - 1)) ps leaf) := by
  intro n
  induction n with
  | zero => intro a s leaf ps h; omega
  | succ n ih =>
    intro a s leaf ps h ha h3 hp'
    simp only [r_ref08_leads]
    by_cases h1 : s = 1
    · subst h1
      rw [if_pos (by simp), show 1 - 1 = 0 from rfl, dirs_zero]; rfl
    · have h2 : 2 ≤ s := by omega
      have hlt := hp_lt h2
      have hpos := hp_pos s
      have hdl := dirs_len a (s - 1) (by omega)
      have hsi : w64 ((s : Int) - (hp s : Nat)) = ((s - hp s : Nat) : Int) := by rw [w64_in (by omega) (by omega)]; omega
      have hex : ∃ k, ps.length = k + 1 := by
        by_cases hh : a < hp s
        · rw [dirs_left h2 hh] at hp'; exact ⟨_, by rw [hp', List.length_append]; rfl⟩
        · rw [dirs_rest h2 (by omega) ha] at hp'; exact ⟨_, by rw [hp', List.length_append]; rfl⟩
      obtain ⟨k, hk⟩ := hex
      obtain ⟨qs, p, e, hq, hix, hcut⟩ := last_of hk
      have hwk : w64 ((ps.length : Int) - 1) = (k : Int) := by rw [w64_in (by omega) (by omega)]; omega
      rw [if_neg (by rw [beq_iff_eq]; omega), firstR_eq h2 (by omega), obind_some', hwk, bnd_def]
      by_cases hh : a < hp s
      · rw [dirs_left h2 hh] at hp' ⊢
        have hqd : (dirs a (hp s - 1)).length = qs.length := by rw [List.length_append, hk] at hp'; simp at hp'; omega
        rw [if_pos (by rw [decide_eq_true_eq]; omega), hcut, obind_some', ih a (hp s) leaf qs (by omega) hh (by omega) hqd.symm, obind_some', hix, obind_some', pair02_eq, obind_some', e, lead_app hqd]; rfl
      · have hwi : w64 ((a : Int) - (hp s : Nat)) = ((a - hp s : Nat) : Int) := by rw [w64_in (by omega) (by omega)]; omega
        rw [dirs_rest h2 (by omega) ha] at hp' ⊢
        have hqd : (dirs (a - hp s) (s - hp s - 1)).length = qs.length := by rw [List.length_append, hk] at hp'; simp at hp'; omega
        rw [if_neg (by rw [decide_eq_true_eq]; omega), hix, obind_some', hcut, obind_some', hwi, hsi, ih (a - hp s) (s - hp s) leaf qs (by omega) (by omega) (by omega) hqd.symm, obind_some', pair02_eq, obind_some', e, lead_app hqd]; rfl
theorem checkE_eq (leaf : Sm) (a s : Int) (ps : List Sm) (root : Sm) (hl : ps.length < 1000000) : m_ref08_Check leaf a s ps root = m_merkle_Check leaf a s ps root := by
  by_cases hc : a < 0 ∨ s ≤ a ∨ 256 < s
  · rw [check_arg hc]
    unfold m_ref08_Check
    rw [if_pos (by simp; omega)]
  · obtain ⟨a, rfl⟩ := Int.eq_ofNat_of_zero_le (show 0 ≤ a by omega)
    obtain ⟨s, rfl⟩ := Int.eq_ofNat_of_zero_le (show 0 ≤ s by omega)
    have ha : a < s := by omega
    have h3 : s ≤ 256 := by omega
    rw [check_eq ha h3 leaf ps root hl]
    have hF : s < FUEL := by unfold FUEL; omega
    have hlo : m_ref08_long (a : Int) (s : Int) = some (((dirs a (s - 1)).length : Nat) : Int) := by
      unfold m_ref08_long
      revert hF
      generalize FUEL = n
      exact fun hF => longE_rec n a s hF ha h3
    have hle : ps.length = (dirs a (s - 1)).length → m_ref08_leads leaf (a : Int) (s : Int) ps = some (lead (dirs a (s - 1)) ps leaf) := by
      intro hp'
      unfold m_ref08_leads
      revert hF
      generalize FUEL = n
      exact fun hF => leadsE_rec n a s leaf ps hF ha h3 hp'
    unfold m_ref08_Check
    rw [if_neg (by simp; omega), hlo, obind_some']
    by_cases hp' : ps.length = (dirs a (s - 1)).length
    · rw [if_neg (by rw [bne_iff_ne]; omega), hle hp', obind_some', if_pos hp']
      by_cases hr : lead (dirs a (s - 1)) ps leaf = root
      · rw [if_pos hr, hr, eqSum_self]; rfl
      · rw [if_neg hr, eqSum_ne hr]; rfl
    · rw [if_pos (by rw [bne_iff_ne]; omega), if_neg hp']

end Go.Proofs.YtohipjalgccmnaaDoor
