/- What a log hides: in plain terms. Conditions: a log that may be. -/
import Derived.Test.YtemiampgjgenhaaGreatQg
import Derived.Test.YtemiampgjgenhaaGreatUa
set_option linter.unusedSimpArgs false
set_option linter.unusedVariables false
set_option maxHeartbeats 4000000
set_option maxRecDepth 100000
namespace Go.Proofs.YtemiampgjgenhaaGreat
open Go Go.Gw

/-! ### what is hidden -/
theorem okH_cons {x : Int} {r : List Int} {last n : Int} : okH (x :: r) last n = true ↔ last < x ∧ x < n ∧ okH r x n = true := by
  show ((!decide (x ≤ last) && !decide (n ≤ x)) && okH r x n) = true ↔ _
  rw [Bool.and_eq_true, Bool.and_eq_true]
  simp only [Bool.not_eq_true', decide_eq_false_iff_not, Int.not_le]
  exact and_assoc
theorem okH_all : ∀ {xs : List Int} {last n : Int}, okH xs last n = true → (∀ x ∈ xs, last < x ∧ x < n) ∧ xs.Pairwise (· < ·) := by
  intro xs
  induction xs with
  | nil => intro last n _; exact ⟨fun x hx => absurd hx (by simp), List.Pairwise.nil⟩
  | cons y xs ih =>
    intro last n h
    obtain ⟨h1, h2, h3⟩ := okH_cons.1 h
    obtain ⟨i1, i2⟩ := ih h3
    refine ⟨fun x hx => ?_, List.Pairwise.cons (fun a ha => (i1 a ha).1) i2⟩
    rcases List.mem_cons.1 hx with rfl | hx
    · exact ⟨h1, h2⟩
    · have := i1 x hx; omega
theorem okH_snoc : ∀ {xs : List Int} {last n t : Int}, okH xs last n = true → (∀ x ∈ xs, x < t) → last < t → t < n → okH (xs ++ [t]) last n = true := by
  intro xs
  induction xs with
  | nil => intro last n t _ _ h1 h2; exact okH_cons.2 ⟨h1, h2, rfl⟩
  | cons y xs ih =>
    intro last n t h hx h1 h2
    obtain ⟨a1, a2, a3⟩ := okH_cons.1 h
    exact okH_cons.2 ⟨a1, a2, ih a3 (fun x hx' => hx x (List.mem_cons_of_mem _ hx')) (hx y (List.mem_cons_self ..)) h2⟩
theorem nan_eq (x : Int) : m_slices_isNaN_int x = some false := by unfold m_slices_isNaN_int; rw [bne_self_eq_false]
theorem less_eq (x y : Int) : m_cmp_Less_int x y = some (decide (x < y)) := by
  unfold m_cmp_Less_int m_cmp_isNaN_int
  rw [bne_self_eq_false, obind_some', if_neg (by decide), obind_some', Bool.false_or]
theorem half_eq {i j : Nat} (h : i + j ≤ 1000000) : w64 ((shrU (toU (w64 ((i : Int) + (j : Int)))) 1).toNat : Int) = (((i + j) / 2 : Nat) : Int) := by
  rw [w64_in (n := (i : Int) + (j : Int)) (by omega) (by omega), show (i : Int) + (j : Int) = ((i + j : Nat) : Int) from by omega, shrU_toNat _ _ (by decide), toU_toNat (by omega), w64_in (by omega) (by omega)]
theorem search_eq {xs : List Int} {t : Int} (hn : xs.length ≤ 100000) (p : Nat) (hp : p ≤ xs.length) (h1 : ∀ (k : Nat) (x : Int), xs[k]? = some x → k < p → x < t) (h2 : ∀ (k : Nat) (x : Int), xs[k]? = some x → p ≤ k → t ≤ x) :
    m_slices_BinarySearch_int_int xs t = some ((p : Int), decide (xs[p]? = some t)) := by
  obtain ⟨y, e1, e2⟩ := iter_ends (step := m_slices_BinarySearch_int_int_b1 xs t) (T := fun y => y = (p : Int)) (s0 := (0, (xs.length : Int))) (fun c s => ∃ i j : Nat, s = ((i : Int), (j : Int)) ∧ i ≤ p ∧ p ≤ j ∧ j ≤ xs.length ∧ j - i + c ≤ xs.length) xs.length (by omega)
    ⟨0, xs.length, rfl, by omega, hp, by omega, by omega⟩ (by
      rintro c s hc ⟨i, j, rfl, i1, i2, i3, i4⟩
      unfold m_slices_BinarySearch_int_int_b1
      dsimp only
      by_cases hij : i < j
      · right
        have hm : (i + j) / 2 < xs.length := by omega
        rw [if_pos (by simpa using hij), half_eq (by omega), bnd_def, idx_lt hm, obind_some', less_eq, obind_some']
        have hx : xs[(i + j) / 2]? = some xs[(i + j) / 2] := by simp [hm]
        by_cases hlt : xs[(i + j) / 2] < t
        · rw [if_pos (by simpa using hlt), w64_sucN (by omega)]
          have : (i + j) / 2 < p := by
            by_cases hq : p ≤ (i + j) / 2
            · have := h2 _ _ hx hq; omega
            · omega
          exact ⟨by omega, _, rfl, (i + j) / 2 + 1, j, rfl, by omega, i2, i3, by omega⟩
        · rw [if_neg (by simpa using hlt)]
          have : p ≤ (i + j) / 2 := by
            by_cases hq : (i + j) / 2 < p
            · exact absurd (h1 _ _ hx hq) hlt
            · omega
          exact ⟨by omega, _, rfl, i, (i + j) / 2, rfl, i1, this, by omega, by omega⟩
      · left
        rw [if_neg (by simpa using hij)]
        exact ⟨_, rfl, by omega⟩)
  subst e2
  unfold m_slices_BinarySearch_int_int
  rw [e1, obind_some', obind_some']
  by_cases hlt : p < xs.length
  · rw [if_pos (by simpa using hlt), idx_lt hlt, obind_some', obind_some', nan_eq, obind_some']
    have hx : xs[p]? = some xs[p] := by simp [hlt]
    rw [hx]
    by_cases he : xs[p] = t
    · rw [if_pos (by simpa using he), obind_some']; simp [he]
    · rw [if_neg (by simpa using he), if_neg (by decide), obind_some']; simp [he]
  · rw [if_neg (by simpa using hlt), obind_some']
    have hx : xs[p]? = none := by simp; omega
    rw [hx]; simp
def withH (l : g_api_Log) (h : List Int) : g_api_Log := ⟨l.Id, l.Key, l.Delay, l.L, h, l.Wait⟩
theorem chk_withH {l : g_api_Log} {h : List Int} (hc : chk l = 0) (hh : okH h (-1) (l.L.length : Int) = true) : chk (withH l h) = 0 := by
  obtain ⟨h0, h1, h2, h3⟩ := chk_zero hc
  exact chk_of h0 h1 hh h3
theorem hide_eq {l : g_api_Log} (hl : l.L.length + l.Wait.length ≤ 100000) (hc : chk l = 0) (h0 : l.L ≠ []) : ∃ h, m_logd_Hide l = some (withH l h, 0) ∧ chk (withH l h) = 0 ∧ h = (if ((l.L.length - 1 : Nat) : Int) ∈ l.Hide then l.Hide else l.Hide ++ [((l.L.length - 1 : Nat) : Int)]) := by
  obtain ⟨c0, c1, c2, c3⟩ := chk_zero hc
  have hpos : 0 < l.L.length := List.length_pos_iff.2 h0
  have hlen : l.L.length ≤ 256 := by simp at c3; omega
  obtain ⟨a1, a2⟩ := okH_all c2
  have hlast : w64 ((l.L.length : Int) - 1) = ((l.L.length - 1 : Nat) : Int) := by rw [w64_in (by omega) (by omega)]; omega
  have hsz : ∀ (xs : List Int) (last : Int) (n : Nat), xs.Pairwise (· < ·) → (∀ x ∈ xs, last < x ∧ x < last + 1 + (n : Int)) → xs.length ≤ n := by
    intro xs
    induction xs with
    | nil => intro last n _ _; simp
    | cons y xs ih =>
      intro last n hp hx
      have hy := hx y (List.mem_cons_self ..)
      obtain ⟨p1, p2⟩ := List.pairwise_cons.1 hp
      have hn1 : ((n - 1 : Nat) : Int) = (n : Int) - 1 := by omega
      have := ih (last + 1) (n - 1) p2 (fun x hx' => by
        have h3 := p1 x hx'
        have h4 := hx x (List.mem_cons_of_mem _ hx')
        rw [hn1]; omega)
      simp only [List.length_cons]; omega
  have hhl : l.Hide.length ≤ l.L.length := hsz _ (-1) _ a2 (fun x hx => by have := a1 x hx; omega)
  generalize hT : ((l.L.length - 1 : Nat) : Int) = T at *
  by_cases hm : T ∈ l.Hide
  · obtain ⟨p, hp⟩ := List.getElem?_of_mem hm
    obtain ⟨hp1, hp2⟩ := List.getElem?_eq_some_iff.1 hp
    refine ⟨l.Hide, ?_, chk_withH hc c2, (if_pos hm).symm⟩
    have hs := search_eq (xs := l.Hide) (t := T) (by omega) p (by omega) (fun k x hk hkp => by
      obtain ⟨hk1, hk2⟩ := List.getElem?_eq_some_iff.1 hk
      have := List.pairwise_iff_getElem.1 a2 k p hk1 hp1 hkp
      omega) (fun k x hk hkp => by
      obtain ⟨hk1, hk2⟩ := List.getElem?_eq_some_iff.1 hk
      by_cases hkq : k = p
      · subst hkq; omega
      · have := List.pairwise_iff_getElem.1 a2 p k hp1 hk1 (by omega)
        omega)
    rw [hp, decide_eq_true rfl] at hs
    unfold m_logd_Hide
    rw [chkL_eq hl, obind_some', hc, if_neg (by decide), hlast, bnd_def, if_neg (by rw [← hT]; simp), hs, obind_some']
    dsimp only
    rw [if_neg (by decide), obind_some']; rfl
  · have hb : ∀ x ∈ l.Hide, x < T := fun x hx => by
      have := a1 x hx
      by_cases he : x = T
      · subst he; exact absurd hx hm
      · omega
    refine ⟨l.Hide ++ [T], ?_, chk_withH hc (okH_snoc c2 hb (by omega) (by omega)), (if_neg hm).symm⟩
    have hs := search_eq (xs := l.Hide) (t := T) (by omega) l.Hide.length (Nat.le_refl _) (fun k x hk _ => hb x (List.mem_of_getElem? hk)) (fun k x hk hkp => by
      have := (List.getElem?_eq_some_iff.1 hk).1; omega)
    have hnone : l.Hide[l.Hide.length]? = none := by simp
    rw [hnone, decide_eq_false (by simp)] at hs
    unfold m_logd_Hide
    rw [chkL_eq hl, obind_some', hc, if_neg (by decide), hlast, bnd_def, if_neg (by rw [← hT]; simp), hs, obind_some']
    dsimp only
    rw [if_pos (by decide)]
    unfold m_slices_Clone_int_int m_slices_Insert_int_int
    rw [app_eq 8 (by simp; omega) (by simp; omega), obind_some', obind_some', List.nil_append, if_pos ⟨by omega, by omega⟩, if_neg (by simp), if_pos (by simp), app_eq 8 (by simp; omega) (by simp; omega), obind_some', obind_some', obind_some']; rfl
theorem hide_none {l : g_api_Log} (hl : l.L.length + l.Wait.length ≤ 100000) (hc : chk l = 0) (h0 : l.L = []) : m_logd_Hide l = some (zeroL, 240) := by
  unfold m_logd_Hide
  rw [chkL_eq hl, obind_some', hc, if_neg (by decide), h0, show w64 (((([] : List g_api_Leaf)).length : Int) - 1) = -1 from by rw [w64_in (by simp) (by simp)]; rfl, bnd_def, if_pos (by decide)]; rfl
end Go.Proofs.YtemiampgjgenhaaGreat
