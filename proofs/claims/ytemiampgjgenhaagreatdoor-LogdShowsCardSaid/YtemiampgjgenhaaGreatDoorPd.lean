/- The root of a tree, as the program computes it, is that of its two parts. Conditions: sizes as the program allows. -/
import Derived.Test.YtemiampgjgenhaaGreatDoorPa
import Derived.Test.YtemiampgjgenhaaGreatDoorWkC
import Derived.KernelRfl
set_option linter.unusedSimpArgs false
set_option linter.unusedVariables false
set_option maxHeartbeats 2000000
set_option maxRecDepth 100000
namespace Go.Proofs.YtemiampgjgenhaaGreatDoor
open Go Go.Gw

abbrev Sm := UInt64 × UInt64
/-- The greatest power of two below a number that is greater than 1. -/
def hp (n : Nat) : Nat := 2 ^ Nat.log2 (n - 1)
theorem hp_lt {n : Nat} (h : 2 ≤ n) : hp n < n := by
  have := Nat.log2_self_le (n := n - 1) (by omega)
  unfold hp; omega
theorem hp_pos (n : Nat) : 0 < hp n := Nat.two_pow_pos _
theorem hp_eq {n j : Nat} (h1 : 2 ^ j < n) (h2 : n ≤ 2 ^ (j + 1)) : hp n = 2 ^ j := by
  unfold hp
  have : Nat.log2 (n - 1) = j := by
    rw [Nat.log2_eq_iff (by have := Nat.two_pow_pos j; omega)]
    omega
  rw [this]
def rootR (l : List Sm) : Sm :=
  if h : l.length ≤ 1 then l.headD default else ppair (rootR (l.take (hp l.length))) (rootR (l.drop (hp l.length)))
termination_by l.length
decreasing_by
  · have := hp_lt (n := l.length) (by omega); simp; omega
  · have := hp_pos l.length; simp; omega
theorem rootR_one (x : Sm) : rootR [x] = x := by rw [rootR]; simp
theorem rootR_two {l : List Sm} (h : 2 ≤ l.length) : rootR l = ppair (rootR (l.take (hp l.length))) (rootR (l.drop (hp l.length))) := by
  rw [rootR]; rw [dif_neg (by omega)]

def pairsL : List Sm → List Sm
  | x :: y :: l => ppair x y :: pairsL l
  | _ => []
theorem pairsL_len : ∀ (n : Nat) (l : List Sm), l.length = 2 * n → (pairsL l).length = n := by
  intro n
  induction n with
  | zero => intro l h; have : l = [] := List.eq_nil_of_length_eq_zero (by omega); subst this; rfl
  | succ n ih =>
    intro l h
    match l, h with
    | x :: y :: l, h => simp only [pairsL, List.length_cons]; rw [ih l (by simp at h; omega)]
theorem pairsL_get : ∀ (n : Nat) (l : List Sm), l.length = 2 * n → ∀ (i : Nat) (a b : Sm), l[2 * i]? = some a → l[2 * i + 1]? = some b → (pairsL l)[i]? = some (ppair a b) := by
  intro n
  induction n with
  | zero => intro l h i a b ha; have : l = [] := List.eq_nil_of_length_eq_zero (by omega); subst this; simp at ha
  | succ n ih =>
    intro l h i a b ha hb
    match l, h with
    | x :: y :: l, h =>
      cases i with
      | zero => simp at ha hb; subst ha; subst hb; rfl
      | succ i =>
        simp only [pairsL, List.getElem?_cons_succ]
        exact ih l (by simp at h; omega) i a b (by simpa [Nat.mul_succ] using ha) (by simpa [Nat.mul_succ] using hb)
theorem pairsL_app : ∀ (n : Nat) (a b : List Sm), a.length = 2 * n → pairsL (a ++ b) = pairsL a ++ pairsL b := by
  intro n
  induction n with
  | zero => intro a b h; have : a = [] := List.eq_nil_of_length_eq_zero (by omega); subst this; rfl
  | succ n ih =>
    intro a b h
    match a, h with
    | x :: y :: l, h => simp only [pairsL, List.cons_append]; rw [ih l b (by simp at h; omega)]

theorem b3_step {n : Nat} {l : List Sm} (hl : l.length = 2 * n) (hn : n ≤ 1000) {i : Nat} (hi : i < n) :
    m_merkle_parts_1_b3 (i : Int) ((pairsL l).take i ++ l.drop i) = some ((pairsL l).take (i + 1) ++ l.drop (i + 1)) := by
  have hp := pairsL_len n l hl
  have ht : ((pairsL l).take i).length = i := by simp; omega
  have w1 : w64 (2 * (i : Int)) = ((2 * i : Nat) : Int) := by rw [w64_in (by omega) (by omega)]; omega
  have w2 : w64 (((2 * i : Nat) : Int) + 1) = ((2 * i + 1 : Nat) : Int) := by rw [w64_in (by omega) (by omega)]; omega
  obtain ⟨a, ha⟩ : ∃ a, l[2 * i]? = some a := ⟨l[2 * i]'(by omega), by simp⟩
  obtain ⟨b, hb⟩ : ∃ b, l[2 * i + 1]? = some b := ⟨l[2 * i + 1]'(by omega), by simp⟩
  have g : ∀ k x, l[i + k]? = some x → ((pairsL l).take i ++ l.drop i)[i + k]? = some x := fun k x hx => by
    rw [List.getElem?_append_right (by omega), ht, Nat.add_sub_cancel_left, List.getElem?_drop]; exact hx
  have i1 : idx ((pairsL l).take i ++ l.drop i) (((2 * i : Nat)) : Int) = some a := idx_nat (by rw [show 2 * i = i + i from by omega] at ha ⊢; exact g i a ha)
  have i2 : idx ((pairsL l).take i ++ l.drop i) (((2 * i + 1 : Nat)) : Int) = some b := idx_nat (by rw [show 2 * i + 1 = i + (i + 1) from by omega] at hb ⊢; exact g (i + 1) b hb)
  obtain ⟨c, hc⟩ : ∃ c, l[i]? = some c := ⟨l[i]'(by omega), by simp⟩
  have i3 : idx ((pairsL l).take i ++ l.drop i) (i : Int) = some c := idx_nat (by have := g 0 c (by simpa using hc); simpa using this)
  have hpg := pairsL_get n l hl i a b ha hb
  simp only [m_merkle_parts_1_b3, w1, i1, obind_some', w2, i2, pair_eq, i3, bnd_def, Int.toNat_natCast]
  refine congrArg some ?_
  rw [List.set_append_right _ _ (by omega), ht, Nat.sub_self]
  have hd : l.drop i = c :: l.drop (i + 1) := by
    have hlt : i < l.length := by omega
    rw [List.drop_eq_getElem_cons hlt]
    rw [List.getElem?_eq_getElem hlt] at hc
    rw [Option.some.inj hc]
  rw [hd, List.set_cons_zero, List.take_add_one, hpg]
  simp
theorem b3_all {n : Nat} {l : List Sm} (hl : l.length = 2 * n) (hn : n ≤ 1000) : ∀ (k i : Nat), i + k = n → eachN0 m_merkle_parts_1_b3 k (i : Int) ((pairsL l).take i ++ l.drop i) = some (pairsL l ++ l.drop n) := by
  intro k
  induction k with
  | zero =>
    intro i h
    have := pairsL_len n l hl
    have e : i = n := by omega
    subst e
    simp only [eachN0]
    rw [List.take_of_length_le (by omega)]
  | succ k ih =>
    intro i h
    simp only [eachN0, b3_step hl hn (show i < n by omega), obind_some']
    have := ih (i + 1) (by omega)
    simpa using this
theorem b2_of {l s : List Sm} {x y : Int} (h1 : (l.length : Int) > 1) (h2 : w64 (Int.tdiv (l.length : Int) 2) = x) (h3 : eachN0 m_merkle_parts_1_b3 x.toNat 0 l = some s) (h4 : w64 (Int.tdiv (s.length : Int) 2) = y) (h5 : 0 ≤ y ∧ y ≤ (s.length : Int)) :
    m_merkle_parts_1_b2 l = some (.inl (s.take y.toNat)) := by
  unfold m_merkle_parts_1_b2
  rw [if_pos (decide_eq_true h1), h2, bnd_def, h3, obind_some', obind_some', h4, bnd_def, if_pos h5]
theorem half_of {n m : Nat} (h : m = 2 * n) (hn : n ≤ 1000) : w64 (Int.tdiv (m : Int) 2) = (n : Int) := by
  subst h
  have : Int.tdiv ((2 * n : Nat) : Int) 2 = (n : Int) := by
    rw [Int.tdiv_eq_ediv_of_nonneg (by omega)]; omega
  rw [this, w64_in (by omega) (by omega)]
theorem b2_step {n : Nat} {l : List Sm} (hl : l.length = 2 * n) (h1 : 1 ≤ n) (hn : n ≤ 1000) : m_merkle_parts_1_b2 l = some (.inl (pairsL l)) := by
  have hp := pairsL_len n l hl
  have hb : eachN0 m_merkle_parts_1_b3 ((n : Int)).toNat 0 l = some (pairsL l ++ l.drop n) := by
    have := b3_all hl hn n 0 (by omega)
    rw [List.take_zero, List.drop_zero, List.nil_append] at this
    rw [Int.toNat_natCast]; exact this
  have hs : (pairsL l ++ l.drop n).length = 2 * n := by rw [List.length_append, hp, List.length_drop]; omega
  have := b2_of (by omega) (half_of hl hn) hb (half_of hs hn) ⟨by omega, by omega⟩
  rw [this, Int.toNat_natCast, List.take_append_of_le_length (by omega), List.take_of_length_le (by omega)]
def red : Nat → List Sm → List Sm
  | 0, l => l
  | j + 1, l => red j (pairsL l)
theorem red_out : ∀ (j : Nat) (l : List Sm), red (j + 1) l = pairsL (red j l) := by
  intro j
  induction j with
  | zero => intro l; rfl
  | succ j ih => intro l; rw [red, ih (pairsL l)]; rfl
theorem red_len : ∀ (j k : Nat) (l : List Sm), l.length = 2 ^ j * k → (red j l).length = k := by
  intro j
  induction j with
  | zero => intro k l h; simpa [red] using h
  | succ j ih =>
    intro k l h
    rw [red]
    exact ih k _ (pairsL_len _ _ (by rw [h, Nat.pow_succ]; rw [Nat.mul_assoc, Nat.mul_comm 2 k, ← Nat.mul_assoc, Nat.mul_comm _ 2]))
theorem red_app : ∀ (j : Nat) (k : Nat) (a b : List Sm), a.length = 2 ^ j * k → red j (a ++ b) = red j a ++ red j b := by
  intro j
  induction j with
  | zero => intro k a b _; rfl
  | succ j ih =>
    intro k a b h
    have h' : a.length = 2 * (2 ^ j * k) := by rw [h, Nat.pow_succ]; rw [Nat.mul_assoc, Nat.mul_comm 2 k, ← Nat.mul_assoc, Nat.mul_comm _ 2]
    rw [red, red, red, pairsL_app _ a b h', ih k _ _ (pairsL_len _ _ h')]
theorem red_root : ∀ (j : Nat) (l : List Sm), l.length = 2 ^ j → red j l = [rootR l] := by
  intro j
  induction j with
  | zero =>
    intro l h
    match l, h with
    | [x], _ => rw [rootR_one]; rfl
  | succ j ih =>
    intro l h
    have hpw := Nat.two_pow_pos j
    have h2 : l.length = 2 ^ j + 2 ^ j := by rw [h, Nat.pow_succ]; omega
    have hh : hp l.length = 2 ^ j := hp_eq (by omega) (by omega)
    rw [rootR_two (by omega), hh, red_out]
    have ea : (l.take (2 ^ j)).length = 2 ^ j := by simp; omega
    have eb : (l.drop (2 ^ j)).length = 2 ^ j := by simp; omega
    have := red_app j 1 (l.take (2 ^ j)) (l.drop (2 ^ j)) (by rw [ea]; omega)
    rw [List.take_append_drop] at this
    rw [this, ih _ ea, ih _ eb]
    rfl
theorem b2_iter : ∀ (j : Nat) (l : List Sm), l.length = 2 ^ j → j ≤ 9 → iter m_merkle_parts_1_b2 (j + 1) l = some (red j l) := by
  intro j
  induction j with
  | zero =>
    intro l h _
    refine iter_end ?_
    simp only [m_merkle_parts_1_b2]
    rw [if_neg (by simp; omega)]; rfl
  | succ j ih =>
    intro l h hj
    have hpw : 2 ^ j ≤ 2 ^ 8 := Nat.pow_le_pow_right (by omega) (by omega)
    have hpos := Nat.two_pow_pos j
    have h' : l.length = 2 * 2 ^ j := by rw [h, Nat.pow_succ]; omega
    rw [iter_step (b2_step h' (by omega) (by omega)), red]
    exact ih _ (pairsL_len _ _ h') (by omega)
end Go.Proofs.YtemiampgjgenhaaGreatDoor
