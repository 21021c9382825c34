/- What is proved is in the tree, and a tree has grown out of each that it began with: in plain terms. Conditions: none. -/
import Derived.Test.YtemiampgjgenhaaGreatDoorPo
set_option linter.unusedSimpArgs false
set_option linter.unusedVariables false
set_option maxHeartbeats 2000000
set_option maxRecDepth 100000
namespace Go.Proofs.YtemiampgjgenhaaGreatDoor
open Go Go.Gw

theorem shows_good : ∀ (n : Nat) (l : List Sm) (f : Nat) (known : Bool), l.length ≤ n → 1 ≤ f → f ≤ l.length →
    (showsR l f known).length = (gd f l.length known).2.length + (if (gd f l.length known).1 then 1 else 0) ∧
    both (gd f l.length known).2 (restG (gd f l.length known).1 (showsR l f known)) (startG (gd f l.length known).1 (rootR (l.take f)) (showsR l f known), startG (gd f l.length known).1 (rootR (l.take f)) (showsR l f known)) = (rootR (l.take f), rootR l) ∧
    (known = false → (gd f l.length known).1 = true) := by
  intro n
  induction n with
  | zero => intro l f known h h1 h2; omega
  | succ n ih =>
    intro l f known h h1 h2
    by_cases he : f = l.length
    · have ht : l.take f = l := List.take_of_length_le (by omega)
      rw [showsR_all he, he, gd_all, ← he, ht]
      cases known <;> simp [restG, startG, both, goD]
    · have h3 : 2 ≤ l.length := by omega
      have hlt := hp_lt h3
      have hpos := hp_pos l.length
      have tl : ∀ (e : Bool) (xs : List Sm) (p : Sm), (e = true → xs ≠ []) → restG e (xs ++ [p]) = restG e xs ++ [p] := by
        intro e xs p hx
        cases e with
        | false => rfl
        | true =>
          match xs, hx with
          | [], hx => exact absurd rfl (hx rfl)
          | y :: ys, _ => rfl
      have st : ∀ (e : Bool) (a : Sm) (xs : List Sm) (p : Sm), (e = true → xs ≠ []) → startG e a (xs ++ [p]) = startG e a xs := by
        intro e a xs p hx
        cases e with
        | false => rfl
        | true =>
          match xs, hx with
          | [], hx => exact absurd rfl (hx rfl)
          | y :: ys, _ => rfl
      have rl : ∀ (e : Bool) (xs : List Sm) (m : Nat), xs.length = m + (if e then 1 else 0) → m = (restG e xs).length := by
        intro e xs m hx
        cases e with
        | false => simpa [restG] using hx.symm
        | true => simp [restG, hx]
      by_cases hf : f ≤ hp l.length
      · obtain ⟨i1, i2, i3⟩ := ih (l.take (hp l.length)) f known (by simp; omega) h1 (by simp; omega)
        have hl1 : (l.take (hp l.length)).length = hp l.length := by simp; omega
        have ht : (l.take (hp l.length)).take f = l.take f := by rw [List.take_take, Nat.min_eq_left hf]
        rw [hl1, ht] at i2
        rw [hl1] at i1 i3
        rw [showsR_lo h3 hf, gd_lo h3 hf]
        dsimp only
        have hne : (gd f (hp l.length) known).1 = true → showsR (l.take (hp l.length)) f known ≠ [] := by
          intro e q; rw [q, e] at i1; simp at i1
        refine ⟨by simp [i1]; omega, ?_, i3⟩
        rw [tl _ _ _ hne, st _ _ _ _ hne, both_app (rl _ _ _ i1), i2, rootR_two (l := l) h3]
        rfl
      · obtain ⟨i1, i2, i3⟩ := ih (l.drop (hp l.length)) (f - hp l.length) false (by simp; omega) (by omega) (by simp; omega)
        have hl1 : (l.drop (hp l.length)).length = l.length - hp l.length := by simp
        rw [hl1] at i1 i2 i3
        have i4 := i3 rfl
        rw [showsR_hi h3 (by omega) he, gd_hi h3 (by omega) he]
        dsimp only
        rw [i4] at i1 i2 ⊢
        have hne : (true : Bool) = true → showsR (l.drop (hp l.length)) (f - hp l.length) false ≠ [] := by
          intro e q; rw [q] at i1; simp at i1
        have hft : rootR (l.take f) = ppair (rootR (l.take (hp l.length))) (rootR ((l.drop (hp l.length)).take (f - hp l.length))) := by
          obtain ⟨j, hj, j1, j2⟩ := hp_spec h3
          have hlf : (l.take f).length = f := by simp; omega
          have hh : hp f = hp l.length := by rw [hj]; exact hp_eq (by omega) (by omega)
          have e1 : (l.take f).take (hp l.length) = l.take (hp l.length) := by rw [List.take_take, Nat.min_eq_left (by omega)]
          have e2 : (l.take f).drop (hp l.length) = (l.drop (hp l.length)).take (f - hp l.length) := by rw [List.drop_take]
          rw [rootR_two (l := l.take f) (by omega), hlf, hh, e1, e2]
        refine ⟨by simp [i1] <;> omega, ?_, fun _ => rfl⟩
        have i2' : both (gd (f - hp l.length) (l.length - hp l.length) false).2 (restG true (showsR (l.drop (hp l.length)) (f - hp l.length) false)) (startG true (rootR (l.take f)) (showsR (l.drop (hp l.length)) (f - hp l.length) false), startG true (rootR (l.take f)) (showsR (l.drop (hp l.length)) (f - hp l.length) false)) = (rootR ((l.drop (hp l.length)).take (f - hp l.length)), rootR (l.drop (hp l.length))) := i2
        rw [tl _ _ _ hne, st _ _ _ _ hne, both_app (rl _ _ _ i1), i2', rootR_two (l := l) h3, hft]
        rfl
theorem grown_ok {l : List Sm} {f : Nat} (h : f ≤ l.length) (h3 : l.length ≤ 256) {ps : List Sm} (hg : m_merkle_Grow l (f : Int) = some (ps, 0)) : m_merkle_CheckGrow (f : Int) (l.length : Int) (rootP (l.take f)) (rootP l) ps = some 0 := by
  by_cases h0 : f = 0
  · subst h0
    have : ps = [] := by
      have := grow_zero (l := l) h3
      rw [show ((0 : Nat) : Int) = 0 from rfl, this] at hg
      simp at hg; exact hg
    subst this
    rw [checkGrow_end (by omega) (by omega) (by omega) (by omega)]
    simp
  · rw [grow_eq (by omega) h h3] at hg
    have hps : showsR l f true = ps := by simpa using hg
    subst hps
    by_cases he : f = l.length
    · rw [checkGrow_end (by omega) (by omega) (by omega) (by omega), showsR_all he]
      have ht : l.take f = l := List.take_of_length_le (by omega)
      rw [ht]
      simp; omega
    · have hlen := shows_len l.length l f true (Nat.le_refl _)
      obtain ⟨g1, g2, _⟩ := shows_good l.length l f true (Nat.le_refl _) (by omega) h
      rw [checkGrow_eq (by omega) (by omega) h3 _ _ _ (by omega)]
      unfold growC
      rw [if_pos g1, rootP_R (l := l.take f) (by simp; omega), rootP_R (l := l) (by omega), if_pos g2]
end Go.Proofs.YtemiampgjgenhaaGreatDoor
