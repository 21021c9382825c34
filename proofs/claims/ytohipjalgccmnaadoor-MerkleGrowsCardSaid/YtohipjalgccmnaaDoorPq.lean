/- What the reference computes of growth is what the program computes. Conditions: sizes as the program allows. -/
import Derived.Test.YtohipjalgccmnaaDoorPn
import Derived.Test.YtohipjalgccmnaaDoorWkO
set_option linter.unusedSimpArgs false
set_option linter.unusedVariables false
set_option maxHeartbeats 2000000
set_option maxRecDepth 100000
namespace Go.Proofs.YtohipjalgccmnaaDoor
open Go Go.Gw

/-! ### growth -/
theorem showsE_rec : ∀ (n : Nat) (l : List Sm) (f : Nat) (known : Bool), l.length < n → 1 ≤ f → f ≤ l.length → l.length ≤ 256 → r_ref08_shows n l (f : Int) known = some (showsR l f known) := by
  intro n
  induction n with
  | zero => intro l f known h; omega
  | succ n ih =>
    intro l f known h h1 h2 h3
    simp only [r_ref08_shows]
    by_cases he : f = l.length
    · rw [if_pos (by rw [beq_iff_eq]; omega), showsR_all he]
      cases known with
      | true => rfl
      | false => rw [if_neg (by decide), rootE_eq _ (by omega), obind_some', rootP_R (by omega)]; rfl
    · have h4 : 2 ≤ l.length := by omega
      have hlt := hp_lt h4
      have hpos := hp_pos l.length
      rw [if_neg (by rw [beq_iff_eq]; omega), firstR_eq h4 (by omega), obind_some']
      by_cases hf : f ≤ hp l.length
      · have hs := shows_len _ _ f known (Nat.le_refl (l.take (hp l.length)).length)
        simp only [List.length_take] at hs
        rw [if_pos (by rw [decide_eq_true_eq]; omega), cutL (by omega), obind_some', ih _ f known (by simp; omega) h1 (by simp; omega) (by simp; omega), obind_some', cutR (by omega), obind_some', rootE_eq _ (by simp; omega), obind_some', rootP_R (by simp; omega), app_eq 16 (by simp; omega) (by simp; omega), obind_some', showsR_lo h4 hf]
      · have hwi : w64 ((f : Int) - (hp l.length : Nat)) = ((f - hp l.length : Nat) : Int) := by rw [w64_in (by omega) (by omega)]; omega
        have hs := shows_len _ _ (f - hp l.length) false (Nat.le_refl (l.drop (hp l.length)).length)
        simp only [List.length_drop] at hs
        rw [if_neg (by rw [decide_eq_true_eq]; omega), cutR (by omega), obind_some', hwi, ih _ (f - hp l.length) false (by simp; omega) (by omega) (by simp; omega) (by simp; omega), obind_some', cutL (by omega), obind_some', rootE_eq _ (by simp; omega), obind_some', rootP_R (by simp; omega), app_eq 16 (by simp; omega) (by simp; omega), obind_some', showsR_hi h4 (by omega) he]
theorem growE_eq (l : List Sm) (f : Int) : m_ref08_Grow l f = m_merkle_Grow l f := by
  by_cases hc : 256 < l.length ∨ f < 0 ∨ (l.length : Int) < f
  · rw [grow_no hc]
    unfold m_ref08_Grow
    rw [if_pos (by simp; omega)]
  · obtain ⟨f, rfl⟩ := Int.eq_ofNat_of_zero_le (show 0 ≤ f by omega)
    unfold m_ref08_Grow
    rw [if_neg (by simp; omega)]
    by_cases h0 : f = 0
    · subst h0
      rw [if_pos (by simp), show ((0 : Nat) : Int) = 0 from rfl, grow_zero (by omega)]
    · rw [if_neg (by rw [beq_iff_eq]; omega), grow_eq (by omega) (by omega) (by omega)]
      have hF : l.length < FUEL := by unfold FUEL; omega
      have hs : m_ref08_shows l (f : Int) true = some (showsR l f true) := by
        unfold m_ref08_shows
        revert hF
        generalize FUEL = n
        exact fun hF => showsE_rec n l f true hF (by omega) (by omega) (by omega)
      rw [hs, obind_some']
def gdn (f s : Nat) (known : Bool) : Nat := (gd f s known).2.length + (if (gd f s known).1 then 1 else 0)
theorem gdn_lo {f s : Nat} (h : 2 ≤ s) (hf : f ≤ hp s) (known : Bool) : gdn f s known = gdn f (hp s) known + 1 := by
  unfold gdn; rw [gd_lo h hf]; simp only [List.length_append, List.length_singleton]; omega
theorem gdn_hi {f s : Nat} (h : 2 ≤ s) (hf : hp s < f) (hn : f ≠ s) (known : Bool) : gdn f s known = gdn (f - hp s) (s - hp s) false + 1 := by
  unfold gdn; rw [gd_hi h hf hn]; simp only [List.length_append, List.length_singleton]; omega
theorem gdn_le {f s : Nat} (known : Bool) : gdn f s known ≤ s + 1 := by
  have := gd_len s f s known (Nat.le_refl _)
  unfold gdn
  split <;> omega
theorem grownE_rec : ∀ (n f s : Nat) (known : Bool), s < n → 1 ≤ f → f ≤ s → s ≤ 256 → r_ref08_grown n (f : Int) (s : Int) known = some ((gdn f s known : Nat) : Int) := by
  intro n
  induction n with
  | zero => intro f s known h; omega
  | succ n ih =>
    intro f s known h h1 h2 h3
    simp only [r_ref08_grown]
    rw [if_neg (by rw [beq_iff_eq]; omega)]
    by_cases he : f = s
    · subst he
      rw [if_pos (by rw [beq_iff_eq]), obind_some']
      unfold gdn
      rw [gd_all]
      cases known with
      | true => rfl
      | false => rw [if_neg (by decide), if_pos (by rw [beq_iff_eq])]; rfl
    · have h4 : 2 ≤ s := by omega
      have hlt := hp_lt h4
      have hpos := hp_pos s
      have hsi : w64 ((s : Int) - (hp s : Nat)) = ((s - hp s : Nat) : Int) := by rw [w64_in (by omega) (by omega)]; omega
      rw [if_neg (by rw [beq_iff_eq]; omega), obind_some', if_neg (by decide), if_neg (by rw [beq_iff_eq]; omega), firstR_eq h4 (by omega), obind_some']
      by_cases hf : f ≤ hp s
      · have hl := gdn_le (f := f) (s := hp s) known
        rw [if_pos (by rw [decide_eq_true_eq]; omega), ih f (hp s) known (by omega) h1 hf (by omega), obind_some', gdn_lo h4 hf, w64_in (by omega) (by omega)]; rfl
      · have hwi : w64 ((f : Int) - (hp s : Nat)) = ((f - hp s : Nat) : Int) := by rw [w64_in (by omega) (by omega)]; omega
        have hl := gdn_le (f := f - hp s) (s := s - hp s) false
        rw [if_neg (by rw [decide_eq_true_eq]; omega), hwi, hsi, ih (f - hp s) (s - hp s) false (by omega) (by omega) (by omega) (by omega), obind_some', gdn_hi h4 (by omega) he, w64_in (by omega) (by omega)]; rfl
theorem bothE_rec : ∀ (n f s : Nat) (known : Bool) (a : Sm) (ps : List Sm), s < n → 1 ≤ f → f ≤ s → s ≤ 256 → ps.length = gdn f s known → r_ref08_both n (f : Int) (s : Int) known a ps = some (bothG f s known a ps) := by
  intro n
  induction n with
  | zero => intro f s known a ps h; omega
  | succ n ih =>
    intro f s known a ps h h1 h2 h3 hp'
    simp only [r_ref08_both]
    by_cases he : f = s
    · subst he
      have hb : ((f : Int) == (f : Int)) = true := by rw [beq_iff_eq]
      rw [hb]
      unfold gdn at hp'
      rw [gd_all] at hp'
      unfold bothG
      rw [gd_all]
      cases known with
      | true => rfl
      | false =>
        match ps, hp' with
        | [p], _ =>
          have e1 : w64 (([p].length : Int) - 1) = 0 := by rw [w64_in (by simp) (by simp)]; simp
          rw [if_neg (by decide), e1, bnd_def, if_pos rfl, show idx [p] 0 = some p from rfl]; rfl
    · have h4 : 2 ≤ s := by omega
      have hlt := hp_lt h4
      have hpos := hp_pos s
      have hb : ((f : Int) == (s : Int)) = false := by rw [← Bool.not_eq_true, beq_iff_eq]; omega
      have hsi : w64 ((s : Int) - (hp s : Nat)) = ((s - hp s : Nat) : Int) := by rw [w64_in (by omega) (by omega)]; omega
      have hex : ∃ k, ps.length = k + 1 := by
        by_cases hf : f ≤ hp s
        · rw [gdn_lo h4 hf] at hp'; exact ⟨_, hp'⟩
        · rw [gdn_hi h4 (by omega) he] at hp'; exact ⟨_, hp'⟩
      obtain ⟨k, hk⟩ := hex
      have hgl := gdn_le (f := f) (s := s) known
      obtain ⟨qs, p, e, hq, hix, hcut⟩ := last_of hk
      have hwk : w64 ((ps.length : Int) - 1) = (k : Int) := by rw [w64_in (by omega) (by omega)]; omega
      rw [hb, Bool.false_and, if_neg (by decide), hwk, bnd_def, if_neg (by decide), firstR_eq h4 (by omega), obind_some']
      by_cases hf : f ≤ hp s
      · have hqd : qs.length = gdn f (hp s) known := by rw [gdn_lo h4 hf] at hp'; omega
        rw [if_pos (by rw [decide_eq_true_eq]; omega), hcut, obind_some', ih f (hp s) known a qs (by omega) h1 hf (by omega) hqd, obind_some', hix, obind_some', pair02_eq, obind_some', e, bothG_lo h4 hf known a hqd]
      · have hwi : w64 ((f : Int) - (hp s : Nat)) = ((f - hp s : Nat) : Int) := by rw [w64_in (by omega) (by omega)]; omega
        have hqd : qs.length = gdn (f - hp s) (s - hp s) false := by rw [gdn_hi h4 (by omega) he] at hp'; omega
        rw [if_neg (by rw [decide_eq_true_eq]; omega), hcut, obind_some', hwi, hsi, ih (f - hp s) (s - hp s) false a qs (by omega) (by omega) (by omega) (by omega) hqd, obind_some', hix, obind_some', pair02_eq, obind_some', obind_some', pair02_eq, obind_some', e, bothG_hi h4 (by omega) he known a hqd]
theorem checkGrowE_eq (f s : Int) (a b : Sm) (ps : List Sm) (hl : ps.length < 1000000) : m_ref08_CheckGrow f s a b ps = m_merkle_CheckGrow f s a b ps := by
  by_cases hc : f < 0 ∨ s < f ∨ 256 < s
  · rw [checkGrow_arg hc]
    unfold m_ref08_CheckGrow
    rw [if_pos (by simp; omega)]
  · obtain ⟨f, rfl⟩ := Int.eq_ofNat_of_zero_le (show 0 ≤ f by omega)
    obtain ⟨s, rfl⟩ := Int.eq_ofNat_of_zero_le (show 0 ≤ s by omega)
    have hfs : f ≤ s := by omega
    have h3 : s ≤ 256 := by omega
    have hF : s < FUEL := by unfold FUEL; omega
    have fin : ∀ z : Sm × Sm, (if ((!eqSum z.1 a) || (!eqSum z.2 b)) = true then some (71 : Int) else some 0) = some (if z = (a, b) then 0 else 71) := by
      intro z
      obtain ⟨x, y⟩ := z
      by_cases e1 : x = a
      · by_cases e2 : y = b
        · subst e1; subst e2; simp [eqSum_self]
        · subst e1; simp [eqSum_self, eqSum_ne e2, e2]
      · simp [eqSum_ne e1, e1]
    unfold m_ref08_CheckGrow
    rw [if_neg (by simp; omega)]
    by_cases h0 : f = 0
    · subst h0
      have hg : m_ref08_grown ((0 : Nat) : Int) (s : Int) true = some 0 := by
        unfold m_ref08_grown
        revert hF
        generalize FUEL = n
        intro hF
        match n, hF with
        | n + 1, _ => rfl
      rw [hg, obind_some', checkGrow_end (f := ((0 : Nat) : Int)) (s := (s : Int)) (by omega) (by omega) (by omega) (.inl rfl)]
      by_cases hp' : ps.length = 0
      · rw [if_neg (by rw [bne_iff_ne]; omega), if_pos (by simp), rootE_eq [] (by simp), obind_some', if_pos hp']
        by_cases he : a = rootP []
        · rw [he, eqSum_self]; simp
        · rw [eqSum_ne he]; simp [he]
      · rw [if_pos (by rw [bne_iff_ne]; omega), if_neg hp']
    · have hg : m_ref08_grown (f : Int) (s : Int) true = some ((gdn f s true : Nat) : Int) := by
        unfold m_ref08_grown
        revert hF
        generalize FUEL = n
        exact fun hF => grownE_rec n f s true hF (by omega) hfs h3
      have hb : ps.length = gdn f s true → m_ref08_both (f : Int) (s : Int) true a ps = some (bothG f s true a ps) := by
        intro hp'
        unfold m_ref08_both
        revert hF
        generalize FUEL = n
        exact fun hF => bothE_rec n f s true a ps hF (by omega) hfs h3 hp'
      rw [hg, obind_some', if_neg (c := ((f : Int) == 0) = true) (by rw [beq_iff_eq]; omega)]
      by_cases he : f = s
      · subst he
        have hn : gdn f f true = 0 := by unfold gdn; rw [gd_all]; rfl
        rw [checkGrow_end (by omega) (by omega) (by omega) (.inr rfl), hn]
        by_cases hp' : ps.length = 0
        · have hbg : bothG f f true a ps = (a, a) := by unfold bothG; rw [gd_all]; rfl
          rw [if_neg (by rw [bne_iff_ne]; omega), hb (by omega), obind_some', if_pos hp', fin, hbg]
          by_cases hab : a = b
          · subst hab; simp; omega
          · have : ((a, a) : Sm × Sm) ≠ (a, b) := fun q => hab (Prod.mk.inj q).2
            rw [if_neg this, if_pos (.inr ⟨by omega, hab⟩)]
        · rw [if_pos (by rw [bne_iff_ne]; omega), if_neg hp']
      · rw [checkGrow_eq (by omega) (by omega) h3 a b ps hl]
        have hgc : growC f s a b ps = if ps.length = gdn f s true then (if bothG f s true a ps = (a, b) then 0 else 71) else 80 := rfl
        rw [hgc]
        by_cases hp' : ps.length = gdn f s true
        · rw [if_neg (by rw [bne_iff_ne]; omega), hb hp', obind_some', if_pos hp', fin]
        · rw [if_pos (by rw [bne_iff_ne]; omega), if_neg hp']
end Go.Proofs.YtohipjalgccmnaaDoor
