/- What proves that a leaf is in a tree, and that a tree has grown: what the program computes. Conditions: sizes as the program allows. -/
import Derived.Test.YtemiampgjgenhaaGreatDoorPg
set_option linter.unusedSimpArgs false
set_option linter.unusedVariables false
set_option maxHeartbeats 2000000
set_option maxRecDepth 100000
namespace Go.Proofs.YtemiampgjgenhaaGreatDoor
open Go Go.Gw

theorem revS_eq (xs : List Sm) (hn : xs.length ≤ 1000000) : m_slices_Reverse_api_Sum_api_Sum xs = some xs.reverse := by
  have h := rev_of (b1 := m_slices_Reverse_api_Sum_api_Sum_b1) (fun _ => rfl) xs hn xs.length 0 xs rfl (by omega) (fun q hq => by rw [if_neg (by omega)])
  have h' := iter_up _ h (by omega)
  have w : w64 ((xs.length : Int) - 1) = (xs.length : Int) - 1 - ((0 : Nat) : Int) := by rw [w64_in (by omega) (by omega)]; omega
  unfold m_slices_Reverse_api_Sum_api_Sum
  rw [bnd_def, w]
  rw [show ((0 : Int), (xs.length : Int) - 1 - ((0 : Nat) : Int), xs) = (((0 : Nat) : Int), (xs.length : Int) - 1 - ((0 : Nat) : Int), xs) from rfl, h', obind_some']
theorem half_eq {n : Nat} (h1 : 2 ≤ n) (h2 : n ≤ 300) : m_merkle_half (n : Int) = some ((hp n : Nat) : Int) := by
  have hw : w64 ((n : Int) - 1) = ((n - 1 : Nat) : Int) := by rw [w64_in (by omega) (by omega)]; omega
  have hl := log_le (n := n - 1) (by omega) (by omega)
  have hw2 : w64 (((Nat.log2 (n - 1) + 1 : Nat) : Int) - 1) = ((Nat.log2 (n - 1) : Nat) : Int) := by rw [w64_in (by omega) (by omega)]; omega
  unfold m_merkle_half
  rw [hw, len_eq (by omega) (by omega), obind_some', hw2, if_pos (by omega), bnd_def, Int.toNat_natCast, shl_one hl]; rfl
theorem cutL {l : List Sm} {k : Nat} (h : k ≤ l.length) : cut l 0 (k : Int) = some (l.take k) := by
  have := cut_eq (xs := l) (lo := 0) (hi := k) (Nat.zero_le _) h
  simpa using this
theorem cutR {l : List Sm} {k : Nat} (h : k ≤ l.length) : cut l (k : Int) (l.length : Int) = some (l.drop k) := by
  rw [cut_eq h (by omega)]; refine congrArg some ?_; rw [List.take_of_length_le (by simp)]
theorem rootP_R {l : List Sm} (h : 1 ≤ l.length) : rootP l = rootR l := by unfold rootP; rw [if_neg (by omega)]

/-! ### in a tree -/
def wayR (l : List Sm) (a : Nat) : List Sm :=
  if h : l.length ≤ 1 then [] else
  if a < hp l.length then wayR (l.take (hp l.length)) a ++ [rootR (l.drop (hp l.length))]
  else wayR (l.drop (hp l.length)) (a - hp l.length) ++ [rootR (l.take (hp l.length))]
termination_by l.length
decreasing_by
  · have := hp_lt (n := l.length) (by omega); simp; omega
  · have := hp_pos l.length; simp; omega
theorem wayR_one {l : List Sm} (h : l.length ≤ 1) (a : Nat) : wayR l a = [] := by rw [wayR, dif_pos h]
theorem wayR_lo {l : List Sm} {a : Nat} (h : 2 ≤ l.length) (ha : a < hp l.length) : wayR l a = wayR (l.take (hp l.length)) a ++ [rootR (l.drop (hp l.length))] := by rw [wayR, dif_neg (by omega), if_pos ha]
theorem wayR_hi {l : List Sm} {a : Nat} (h : 2 ≤ l.length) (ha : hp l.length ≤ a) : wayR l a = wayR (l.drop (hp l.length)) (a - hp l.length) ++ [rootR (l.take (hp l.length))] := by rw [wayR, dif_neg (by omega), if_neg (by omega)]
theorem way_len : ∀ (n : Nat) (l : List Sm) (a : Nat), l.length ≤ n → a < l.length → (wayR l a).length = (dirs a (l.length - 1)).length := by
  intro n
  induction n with
  | zero => intro l a h h1; omega
  | succ n ih =>
    intro l a h h1
    by_cases h2 : 2 ≤ l.length
    · have hlt := hp_lt h2
      have hpos := hp_pos l.length
      by_cases ha : a < hp l.length
      · have := ih (l.take (hp l.length)) a (by first | omega | (simp; omega)) (by first | omega | (simp; omega))
        rw [wayR_lo h2 ha, dirs_left h2 ha]
        simp only [List.length_append, List.length_singleton, this, List.length_take]
        rw [Nat.min_eq_left (by omega)]
      · have := ih (l.drop (hp l.length)) (a - hp l.length) (by first | omega | (simp; omega)) (by first | omega | (simp; omega))
        rw [wayR_hi h2 (by omega), dirs_rest h2 (by omega) h1]
        simp only [List.length_append, List.length_singleton, this, List.length_drop]
    · rw [wayR_one (by omega), show l.length - 1 = 0 from by omega, dirs_zero]; rfl
theorem lead_app {ds : List Bool} {ps : List Sm} (h : ds.length = ps.length) (d : Bool) (p x : Sm) : lead (ds ++ [d]) (ps ++ [p]) x = if d then ppair p (lead ds ps x) else ppair (lead ds ps x) p := goD_app _ _ d p ds ps x h
theorem lead_way : ∀ (n : Nat) (l : List Sm) (a : Nat) (x : Sm), l.length ≤ n → l[a]? = some x → lead (dirs a (l.length - 1)) (wayR l a) x = rootR l := by
  intro n
  induction n with
  | zero => intro l a x h h1; have : l = [] := List.eq_nil_of_length_eq_zero (by omega); subst this; cases h1
  | succ n ih =>
    intro l a x h h1
    have hal : a < l.length := by
      by_cases q : a < l.length
      · exact q
      · rw [List.getElem?_eq_none (by omega)] at h1; cases h1
    by_cases h2 : 2 ≤ l.length
    · have hlt := hp_lt h2
      have hpos := hp_pos l.length
      by_cases ha : a < hp l.length
      · have e := ih (l.take (hp l.length)) a x (by first | omega | (simp; omega)) (by rw [List.getElem?_take_of_lt ha]; exact h1)
        have el := way_len (l.take (hp l.length)).length (l.take (hp l.length)) a (Nat.le_refl _) (by first | omega | (simp; omega))
        rw [show (l.take (hp l.length)).length = hp l.length from by simp; omega] at e el
        rw [wayR_lo h2 ha, dirs_left h2 ha, lead_app el.symm, e, rootR_two h2]; rfl
      · have e := ih (l.drop (hp l.length)) (a - hp l.length) x (by first | omega | (simp; omega)) (by rw [List.getElem?_drop, show hp l.length + (a - hp l.length) = a from by omega]; exact h1)
        have el := way_len (l.drop (hp l.length)).length (l.drop (hp l.length)) (a - hp l.length) (Nat.le_refl _) (by first | omega | (simp; omega))
        rw [show (l.drop (hp l.length)).length = l.length - hp l.length from by simp] at e el
        rw [wayR_hi h2 (by omega), dirs_rest h2 (by omega) hal, lead_app el.symm, e, rootR_two h2]; rfl
    · match l, hal, h1 with
      | [y], hal, h1 =>
        have : a = 0 := by simp at hal; omega
        subst this
        simp at h1
        subst h1
        rw [show [y].length - 1 = 0 from rfl, dirs_zero, rootR_one, wayR_one (by simp)]
        rfl
      | y :: z :: l, _, _ => simp at h2
theorem prove_rec : ∀ (n : Nat) (l : List Sm) (a : Nat) (k : List Sm), l.length ≤ n → a < l.length → l.length ≤ 256 → k.length + l.length ≤ 1000 → r_merkle_Prove_1 n l (a : Int) k = some (k ++ wayR l a) := by
  intro n
  induction n with
  | zero => intro l a k h h1; omega
  | succ n ih =>
    intro l a k h h1 h3 hk
    simp only [r_merkle_Prove_1]
    by_cases h2 : 2 ≤ l.length
    · have hlt := hp_lt h2
      have hpos := hp_pos l.length
      rw [if_neg (by first | omega | (simp; omega)), half_eq h2 (by omega), obind_some', cutL (by omega), obind_some', cutR (by omega), obind_some']
      by_cases ha : a < hp l.length
      · have := ih (l.take (hp l.length)) a k (by first | omega | (simp; omega)) (by first | omega | (simp; omega)) (by first | omega | (simp; omega)) (by first | omega | (simp; omega))
        have hw := way_len _ _ a (Nat.le_refl (l.take (hp l.length)).length) (by first | omega | (simp; omega))
        have hwl : (wayR (l.take (hp l.length)) a).length ≤ 400 := by
          rw [hw]; exact dirs_len _ _ (by first | omega | (simp; omega))
        rw [if_neg (by first | omega | (simp; omega)), obind_some', this, obind_some', root_eq _ (by first | omega | (simp; omega)), obind_some', rootP_R (by first | omega | (simp; omega)), app_eq 16 (by first | omega | (simp; omega)) (by first | omega | (simp; omega)), obind_some', wayR_lo h2 ha]
        simp
      · have := ih (l.drop (hp l.length)) (a - hp l.length) k (by first | omega | (simp; omega)) (by first | omega | (simp; omega)) (by first | omega | (simp; omega)) (by first | omega | (simp; omega))
        have hw := way_len _ _ (a - hp l.length) (Nat.le_refl (l.drop (hp l.length)).length) (by first | omega | (simp; omega))
        have hwl : (wayR (l.drop (hp l.length)) (a - hp l.length)).length ≤ 400 := by
          rw [hw]; exact dirs_len _ _ (by first | omega | (simp; omega))
        have hwi : w64 ((a : Int) - (hp l.length : Nat)) = ((a - hp l.length : Nat) : Int) := by rw [w64_in (by omega) (by omega)]; omega
        rw [if_pos (by first | omega | (simp; omega)), obind_some', hwi, this, obind_some', root_eq _ (by first | omega | (simp; omega)), obind_some', rootP_R (by first | omega | (simp; omega)), app_eq 16 (by first | omega | (simp; omega)) (by first | omega | (simp; omega)), obind_some', wayR_hi h2 (by omega)]
        simp
    · rw [if_pos (by first | omega | (simp; omega)), wayR_one (by omega)]; simp
theorem prove_eq {l : List Sm} {a : Nat} (h : a < l.length) (h3 : l.length ≤ 256) : m_merkle_Prove l (a : Int) = some (wayR l a, 0) := by
  unfold m_merkle_Prove
  rw [if_neg (by first | omega | (simp; omega))]
  have hF : l.length ≤ FUEL := by unfold FUEL; omega
  have hr : m_merkle_Prove_1 l (a : Int) [] = some ([] ++ wayR l a) := by
    unfold m_merkle_Prove_1
    revert hF
    generalize FUEL = n
    intro hF
    exact prove_rec n l a [] hF h h3 (by first | omega | (simp; omega))
  rw [hr, obind_some', List.nil_append]
theorem prove_no {l : List Sm} {a : Int} (h : 256 < l.length ∨ a < 0 ∨ (l.length : Int) ≤ a) : m_merkle_Prove l a = some ([], 80) := by
  unfold m_merkle_Prove
  rw [if_pos (by first | omega | (simp; omega))]

/-! ### it has grown -/
def showsR (l : List Sm) (f : Nat) (known : Bool) : List Sm :=
  if f = l.length then (if known then [] else [rootR l]) else
  if h : l.length ≤ 1 then [] else
  if f ≤ hp l.length then showsR (l.take (hp l.length)) f known ++ [rootR (l.drop (hp l.length))]
  else showsR (l.drop (hp l.length)) (f - hp l.length) false ++ [rootR (l.take (hp l.length))]
termination_by l.length
decreasing_by
  · have := hp_lt (n := l.length) (by omega); simp; omega
  · have := hp_pos l.length; simp; omega
theorem showsR_all {l : List Sm} {f : Nat} (h : f = l.length) (known : Bool) : showsR l f known = if known then [] else [rootR l] := by rw [showsR, if_pos h]
theorem showsR_lo {l : List Sm} {f : Nat} (h : 2 ≤ l.length) (hf : f ≤ hp l.length) (known : Bool) : showsR l f known = showsR (l.take (hp l.length)) f known ++ [rootR (l.drop (hp l.length))] := by
  have := hp_lt h
  rw [showsR, if_neg (by omega), dif_neg (by omega), if_pos hf]
theorem showsR_hi {l : List Sm} {f : Nat} (h : 2 ≤ l.length) (hf : hp l.length < f) (hn : f ≠ l.length) (known : Bool) : showsR l f known = showsR (l.drop (hp l.length)) (f - hp l.length) false ++ [rootR (l.take (hp l.length))] := by
  rw [showsR, if_neg hn, dif_neg (by omega), if_neg (by omega)]
theorem shows_len : ∀ (n : Nat) (l : List Sm) (f : Nat) (known : Bool), l.length ≤ n → (showsR l f known).length ≤ l.length + 1 := by
  intro n
  induction n with
  | zero =>
    intro l f known h
    rw [showsR]
    split
    · split <;> simp
    · rw [dif_pos (by omega)]; simp
  | succ n ih =>
    intro l f known h
    by_cases he : f = l.length
    · rw [showsR_all he]; split <;> simp
    · by_cases h2 : 2 ≤ l.length
      · have hlt := hp_lt h2
        have hpos := hp_pos l.length
        by_cases hf : f ≤ hp l.length
        · have := ih (l.take (hp l.length)) f known (by first | omega | (simp; omega))
          rw [showsR_lo h2 hf]; simp at this ⊢; omega
        · have := ih (l.drop (hp l.length)) (f - hp l.length) false (by first | omega | (simp; omega))
          rw [showsR_hi h2 (by omega) he]; simp at this ⊢; omega
      · rw [showsR, if_neg he, dif_pos (by omega)]; simp
theorem grow_loop : ∀ (n : Nat) (l : List Sm) (f : Nat) (ps : List Sm) (known : Bool), l.length ≤ n → 1 ≤ f → f ≤ l.length → l.length ≤ 256 → ps.length + n ≤ 1000 →
    iter m_merkle_Grow_b1 n (l, (f : Int), ps, known) = some (.inr (showsR l f known ++ ps.reverse, 0)) := by
  intro n
  induction n with
  | zero => intro l f ps known h h1 h2; omega
  | succ n ih =>
    intro l f ps known h h1 h2 h3 hp'
    by_cases he : f = l.length
    · refine iter_end ?_
      unfold m_merkle_Grow_b1
      dsimp only
      rw [if_pos (by first | omega | (simp; omega)), showsR_all he]
      cases known with
      | true =>
        rw [if_neg (by simp), obind_some', revS_eq _ (by first | omega | (simp; omega)), obind_some']; rfl
      | false =>
        simp only [Bool.not_false, if_true, Bool.false_eq_true, if_false]
        rw [root_eq _ (by first | omega | (simp; omega)), obind_some', app_eq 16 (by first | omega | (simp; omega)) (by first | omega | (simp; omega)), obind_some', obind_some', revS_eq _ (by first | omega | (simp; omega)), obind_some', rootP_R (by first | omega | (simp; omega))]
        simp
    · have h4 : 2 ≤ l.length := by omega
      have hlt := hp_lt h4
      have hpos := hp_pos l.length
      by_cases hf : f ≤ hp l.length
      · rw [iter_step (s' := (l.take (hp l.length), (f : Int), ps ++ [rootR (l.drop (hp l.length))], known))]
        · rw [ih _ f _ known (by first | omega | (simp; omega)) h1 (by first | omega | (simp; omega)) (by first | omega | (simp; omega)) (by first | omega | (simp; omega)), showsR_lo h4 hf]
          simp
        · unfold m_merkle_Grow_b1
          dsimp only
          rw [if_neg (by first | omega | (simp; omega)), half_eq h4 (by omega), obind_some', if_pos (by first | omega | (simp; omega)), cutR (by first | omega | (simp; omega)), obind_some', root_eq _ (by first | omega | (simp; omega)), obind_some', rootP_R (by first | omega | (simp; omega)), app_eq 16 (by first | omega | (simp; omega)) (by first | omega | (simp; omega)), obind_some', cutL (by first | omega | (simp; omega)), obind_some']
      · have hwi : w64 ((f : Int) - (hp l.length : Nat)) = ((f - hp l.length : Nat) : Int) := by rw [w64_in (by omega) (by omega)]; omega
        rw [iter_step (s' := (l.drop (hp l.length), ((f - hp l.length : Nat) : Int), ps ++ [rootR (l.take (hp l.length))], false))]
        · rw [ih _ (f - hp l.length) _ false (by first | omega | (simp; omega)) (by omega) (by first | omega | (simp; omega)) (by first | omega | (simp; omega)) (by first | omega | (simp; omega)), showsR_hi h4 (by omega) he]
          simp
        · unfold m_merkle_Grow_b1
          dsimp only
          rw [if_neg (by first | omega | (simp; omega)), half_eq h4 (by omega), obind_some', if_neg (by first | omega | (simp; omega)), cutL (by first | omega | (simp; omega)), obind_some', root_eq _ (by first | omega | (simp; omega)), obind_some', rootP_R (by first | omega | (simp; omega)), app_eq 16 (by first | omega | (simp; omega)) (by first | omega | (simp; omega)), obind_some', cutR (by first | omega | (simp; omega)), obind_some']
          simp only [hwi]
theorem grow_eq {l : List Sm} {f : Nat} (h1 : 1 ≤ f) (h : f ≤ l.length) (h3 : l.length ≤ 256) : m_merkle_Grow l (f : Int) = some (showsR l f true, 0) := by
  unfold m_merkle_Grow
  rw [if_neg (by first | omega | (simp; omega)), if_neg (by first | omega | (simp; omega)), iter_up _ (grow_loop l.length l f [] true (Nat.le_refl _) h1 h h3 (by first | omega | (simp; omega))) (by omega), obind_some']
  simp
theorem grow_zero {l : List Sm} (h3 : l.length ≤ 256) : m_merkle_Grow l 0 = some ([], 0) := by
  unfold m_merkle_Grow
  rw [if_neg (by first | omega | (simp; omega)), if_pos (by simp)]
theorem grow_no {l : List Sm} {f : Int} (h : 256 < l.length ∨ f < 0 ∨ (l.length : Int) < f) : m_merkle_Grow l f = some ([], 80) := by
  unfold m_merkle_Grow
  rw [if_pos (by first | omega | (simp; omega))]

/-! ### a look at what shows it -/
def gd (f s : Nat) (known : Bool) : Bool × List Bool :=
  if h : s ≤ 1 ∨ f = s then (!known, []) else
  if f ≤ hp s then ((gd f (hp s) known).1, (gd f (hp s) known).2 ++ [false])
  else ((gd (f - hp s) (s - hp s) false).1, (gd (f - hp s) (s - hp s) false).2 ++ [true])
termination_by s
decreasing_by
  all_goals first | exact hp_lt (by omega) | (have := hp_pos s; omega)
theorem gd_all (f : Nat) (known : Bool) : gd f f known = (!known, []) := by rw [gd, dif_pos (.inr rfl)]
theorem gd_lo {f s : Nat} (h : 2 ≤ s) (hf : f ≤ hp s) (known : Bool) : gd f s known = ((gd f (hp s) known).1, (gd f (hp s) known).2 ++ [false]) := by
  have := hp_lt h
  rw [gd, dif_neg (by omega), if_pos hf]
theorem gd_hi {f s : Nat} (h : 2 ≤ s) (hf : hp s < f) (hn : f ≠ s) (known : Bool) : gd f s known = ((gd (f - hp s) (s - hp s) false).1, (gd (f - hp s) (s - hp s) false).2 ++ [true]) := by
  rw [gd, dif_neg (by omega), if_neg (by omega)]
theorem pow_lt_of {a b : Nat} (h : 2 ^ a < 2 ^ b) : a < b := (Nat.pow_lt_pow_iff_right (by omega)).1 h
theorem gd_eq : ∀ (n s f low c : Nat) (known : Bool), s ≤ n → f = 2 ^ low * (2 * c + 1) → f < s → gd f s known = (!(known && decide (c = 0)), dirs (2 * c) ((s - 1) / 2 ^ low)) := by
  intro n
  induction n with
  | zero => intro s f low c known h h1 h2; omega
  | succ n ih =>
    intro s f low c known h h1 h2
    have hpl := Nat.two_pow_pos low
    have hf1 : 2 ^ low ≤ f := by rw [h1]; exact Nat.le_mul_of_pos_right _ (by omega)
    have hs2 : 2 ≤ s := by omega
    obtain ⟨j, hj, j1, j2⟩ := hp_spec hs2
    have hlow : low ≤ j := by
      have : 2 ^ low < 2 ^ (j + 1) := by omega
      have := pow_lt_of this
      omega
    obtain ⟨d, rfl⟩ : ∃ d, j = low + d := ⟨j - low, by omega⟩
    have e1 : 2 ^ (low + d) = 2 ^ low * 2 ^ d := Nat.pow_add 2 low d
    have e2 : 2 ^ (low + d + 1) = 2 ^ low * 2 ^ (d + 1) := by rw [Nat.add_assoc, Nat.pow_add]
    have t1 : 2 ^ d ≤ (s - 1) / 2 ^ low := by rw [Nat.le_div_iff_mul_le hpl, Nat.mul_comm, ← e1]; omega
    have t2 : (s - 1) / 2 ^ low < 2 ^ (d + 1) := by rw [Nat.div_lt_iff_lt_mul hpl, Nat.mul_comm, ← e2]; omega
    by_cases hf : f ≤ hp s
    · rw [gd_lo hs2 hf, hj]
      by_cases he : f = 2 ^ (low + d)
      · have hc : 2 * c + 1 = 2 ^ d := by
          rw [h1, e1] at he
          exact Nat.eq_of_mul_eq_mul_left hpl he
        have hd : d = 0 := by
          cases d with
          | zero => rfl
          | succ d => rw [Nat.pow_succ] at hc; omega
        subst hd
        have hc0 : c = 0 := by simp at hc; omega
        subst hc0
        simp only [Nat.add_zero] at he
        rw [he, Nat.add_zero, gd_all]
        have : (s - 1) / 2 ^ low = 1 := by simp at t1 t2; omega
        rw [this, dirs_right (by omega) (by omega) (by omega)]
        simp [dirs_zero]
      · have hlt : f < 2 ^ (low + d) := by omega
        rw [ih (2 ^ (low + d)) f low c known (by omega) h1 hlt]
        have hc : 2 * c + 1 < 2 ^ d := by
          rw [h1, e1] at hlt
          exact Nat.lt_of_mul_lt_mul_left hlt
        have hdiv : (2 ^ (low + d) - 1) / 2 ^ low = 2 ^ d - 1 := by
          have hpd := Nat.two_pow_pos d
          rw [e1]
          have : 2 ^ low * 2 ^ d - 1 = (2 ^ low - 1) + 2 ^ low * (2 ^ d - 1) := by
            rw [Nat.mul_sub, Nat.mul_one]
            have : 2 ^ low ≤ 2 ^ low * 2 ^ d := Nat.le_mul_of_pos_right _ hpd
            omega
          rw [this, Nat.add_mul_div_left _ _ hpl, Nat.div_eq_of_lt (by omega), Nat.zero_add]
        simp only [hdiv]
        rw [← dirs_lo d (2 * c) ((s - 1) / 2 ^ low) (by omega) t1 t2]
    · rw [hj] at hf
      have hd : d ≠ 0 := by
        intro e
        subst e
        have hlt : 2 ^ low * (2 * c + 1) < 2 ^ low * 2 := by
          have : 2 ^ (low + 0 + 1) = 2 ^ low * 2 := by rw [Nat.add_zero, Nat.pow_succ]
          rw [← h1, ← this]; omega
        have := Nat.lt_of_mul_lt_mul_left hlt
        have hc0 : c = 0 := by omega
        subst hc0
        simp at h1 hf
        omega
      obtain ⟨b, rfl⟩ : ∃ b, d = b + 1 := ⟨d - 1, by omega⟩
      have hb : 2 ^ (b + 1) = 2 * 2 ^ b := by rw [Nat.pow_succ]; omega
      have hcb : 2 ^ b ≤ c := by
        have : 2 ^ low * (2 * 2 ^ b) < 2 ^ low * (2 * c + 1) := by rw [← h1, ← hb, ← e1]; omega
        have := Nat.lt_of_mul_lt_mul_left this
        omega
      have hfk : f - 2 ^ (low + (b + 1)) = 2 ^ low * (2 * (c - 2 ^ b) + 1) := by
        rw [h1, e1, ← Nat.mul_sub, hb]
        congr 1
        omega
      rw [gd_hi hs2 (by omega) (by omega), hj, ih (s - 2 ^ (low + (b + 1))) (f - 2 ^ (low + (b + 1))) low (c - 2 ^ b) false (by omega) hfk (by omega)]
      have hc0 : decide (c = 0) = false := by have := Nat.two_pow_pos b; simp; omega
      have hdv : (s - 2 ^ (low + (b + 1)) - 1) / 2 ^ low = (s - 1) / 2 ^ low - 2 ^ (b + 1) := by
        rw [show s - 2 ^ (low + (b + 1)) - 1 = s - 1 - 2 ^ low * 2 ^ (b + 1) from by omega, Nat.sub_mul_div]
      have hcc : 2 * c ≤ (s - 1) / 2 ^ low := by
        rw [Nat.le_div_iff_mul_le hpl]
        have : 2 ^ low * (2 * c + 1) = 2 * c * 2 ^ low + 2 ^ low := by rw [Nat.mul_add, Nat.mul_one, Nat.mul_comm]
        omega
      simp only [hc0, Bool.and_false, Bool.false_and]
      rw [hdv, dirs_hi (b + 1) (2 * c) ((s - 1) / 2 ^ low) (by omega) hcc t2, show 2 * (c - 2 ^ b) = 2 * c - 2 ^ (b + 1) from by omega]
/-- the low places -/
theorem dirs_ones : ∀ (low c l : Nat), 2 * c ≤ l / 2 ^ low → 0 < l / 2 ^ low → dirs (2 ^ low * (2 * c + 1) - 1) l = List.replicate low true ++ dirs (2 * c) (l / 2 ^ low) := by
  intro low
  induction low with
  | zero => intro c l _ _; simp
  | succ low ih =>
    intro c l h hl
    have hpl := Nat.two_pow_pos low
    have e1 : 2 ^ (low + 1) = 2 * 2 ^ low := by rw [Nat.pow_succ]; omega
    have ed : l / 2 ^ (low + 1) = (l / 2) / 2 ^ low := by rw [e1, Nat.div_div_eq_div_mul]
    rw [ed] at h hl ⊢
    have e3 : 2 ^ (low + 1) * (2 * c + 1) = 2 * (2 ^ low * (2 * c + 1)) := by rw [e1, Nat.mul_assoc]
    have hpos : 0 < 2 ^ low * (2 * c + 1) := Nat.mul_pos hpl (by omega)
    have hl0 : l ≠ 0 := by intro e; subst e; simp at hl
    rw [e3, dirs_odd hl0 (by omega), show (2 * (2 ^ low * (2 * c + 1)) - 1) / 2 = 2 ^ low * (2 * c + 1) - 1 from by omega, ih c (l / 2) h hl]
    rfl
theorem tz_all : ((List.range 301).all fun n => decide (n = 0) || match m_bits_TrailingZeros (toU (n : Int)) with | some r => decide (0 ≤ r) && decide (r.toNat ≤ 8) && decide (n % 2 ^ r.toNat = 0) && decide ((n / 2 ^ r.toNat) % 2 = 1) | none => false) = true := by kernel_rfl
theorem tz_eq {n : Nat} (h1 : 1 ≤ n) (h2 : n ≤ 300) : ∃ low c : Nat, m_bits_TrailingZeros (toU (n : Int)) = some (low : Int) ∧ n = 2 ^ low * (2 * c + 1) ∧ low ≤ 8 := by
  have h := List.all_eq_true.1 tz_all n (List.mem_range.2 (by omega))
  rw [Bool.or_eq_true] at h
  rcases h with h | h
  · have := of_decide_eq_true h; omega
  · split at h
    · rename_i r hr
      simp only [Bool.and_eq_true, decide_eq_true_eq] at h
      obtain ⟨⟨⟨h3, h4⟩, h5⟩, h6⟩ := h
      obtain ⟨low, rfl⟩ := Int.eq_ofNat_of_zero_le h3
      simp only [Int.toNat_natCast] at h4 h5 h6
      refine ⟨low, (n / 2 ^ low) / 2, hr, ?_, h4⟩
      have : 2 * (n / 2 ^ low / 2) + 1 = n / 2 ^ low := by omega
      rw [this, Nat.mul_div_cancel' (Nat.dvd_of_mod_eq_zero h5)]
    · cases h
def both (ds : List Bool) (ps : List Sm) (x : Sm × Sm) : Sm × Sm := goD (fun x p => (ppair p x.1, ppair p x.2)) (fun x p => (x.1, ppair x.2 p)) ds ps x
def startG (e : Bool) (a : Sm) (ps : List Sm) : Sm := if e then ps.headD default else a
def restG (e : Bool) (ps : List Sm) : List Sm := if e then ps.tail else ps
def growC (f s : Nat) (a b : Sm) (ps : List Sm) : Int :=
  if ps.length = (gd f s true).2.length + (if (gd f s true).1 then 1 else 0) then
    (if both (gd f s true).2 (restG (gd f s true).1 ps) (startG (gd f s true).1 a ps, startG (gd f s true).1 a ps) = (a, b) then 0 else 71)
  else 80
theorem shr_low {f low c : Nat} (hf : f = 2 ^ low * (2 * c + 1)) : (f - 1) >>> low = 2 * c := by
  have hpl := Nat.two_pow_pos low
  have e1 : 2 ^ low * (2 * c + 1) = 2 ^ low * (2 * c) + 2 ^ low := by rw [Nat.mul_add, Nat.mul_one]
  have e2 : f - 1 = (2 ^ low - 1) + 2 ^ low * (2 * c) := by
    rw [hf, e1]
    clear hf e1
    generalize 2 ^ low * (2 * c) = z
    revert hpl
    generalize 2 ^ low = y
    intro hpl
    omega
  rw [Nat.shiftRight_eq_div_pow, e2, Nat.add_mul_div_left _ _ hpl, Nat.div_eq_of_lt (Nat.sub_lt hpl Nat.one_pos), Nat.zero_add]
theorem cg_fin (low : Nat) (e : Bool) (D : List Bool) (hD : D.length ≤ 20) (ps : List Sm) (a b : Sm) (hl : ps.length < 1000000) (cl : List Sm → Sm × Sm → Option (Sm × Sm)) (hcl : ∀ q x, q.length = D.length → cl q (x, x) = some (both D q (x, x))) :
    (obind (if (0 : Int) ≤ (low : Int) then if e = true then some (w64 ((D.length : Int) + 1)) else some (D.length : Int) else none) fun x9 =>
      if ((ps.length : Int) != x9) = true then some (80 : Int) else
      obind (if (0 : Int) ≤ (low : Int) then if e = true then obind (idx ps 0) fun x11 => obind (cut ps 1 (ps.length : Int)) fun x12 => some (x12, x11.1, x11.2) else some (ps, a.1, a.2) else none) fun x10 =>
      if (0 : Int) ≤ (low : Int) then if (0 : Int) ≤ (low : Int) then obind (cl x10.1 (x10.2, x10.2)) fun x15 => if ((!eqSum x15.1 a) || (!eqSum x15.2 b)) = true then some 71 else some 0 else none else none) =
    some (if ps.length = D.length + (if e then 1 else 0) then (if both D (restG e ps) (startG e a ps, startG e a ps) = (a, b) then 0 else 71) else 80) := by
  have fin : ∀ z : Sm × Sm, (if ((!eqSum z.1 a) || (!eqSum z.2 b)) = true then some (71 : Int) else some 0) = some (if z = (a, b) then 0 else 71) := by
    intro z
    obtain ⟨x, y⟩ := z
    by_cases e1 : x = a
    · by_cases e2 : y = b
      · subst e1; subst e2; simp [eqSum_self]
      · subst e1; simp [eqSum_self, eqSum_ne e2, e2]
    · simp [eqSum_ne e1, e1]
  have hz : (0 : Int) ≤ (low : Int) := Int.natCast_nonneg low
  cases e with
  | false =>
    simp only [if_pos hz, Bool.false_eq_true, if_false, obind_some', restG, startG, Nat.add_zero]
    by_cases hp' : ps.length = D.length
    · rw [if_neg (by simp [hp']), if_pos hp', hcl ps (a.1, a.2) hp', obind_some', fin]
    · rw [if_neg hp', if_pos (by rw [bne_iff_ne]; omega)]
  | true =>
    have hw9 : w64 ((D.length : Int) + 1) = ((D.length + 1 : Nat) : Int) := by rw [w64_in (by omega) (by omega)]; omega
    simp only [if_pos hz, if_true, obind_some', restG, startG, hw9]
    by_cases hp' : ps.length = D.length + 1
    · match ps, hp', hl with
      | p :: ps, hp', hl =>
        have e1 : idx (p :: ps) 0 = some p := rfl
        have e2 : cut (p :: ps) 1 ((p :: ps).length : Int) = some ps := by
          have := cut_eq (xs := p :: ps) (lo := 1) (hi := (p :: ps).length) (by simp) (by omega)
          rw [show ((1 : Nat) : Int) = 1 from rfl] at this
          rw [this]; simp [List.take_of_length_le]
        rw [if_neg (by rw [bne_iff_ne]; omega), if_pos hp', e1, obind_some', e2, obind_some', obind_some', hcl ps (p.1, p.2) (by simpa using hp'), obind_some', fin]
        rfl
    · rw [if_neg hp', if_pos (by rw [bne_iff_ne]; omega)]
theorem checkGrow_eq {f s : Nat} (h1 : 0 < f) (h2 : f < s) (h3 : s ≤ 256) (a b : Sm) (ps : List Sm) (hl : ps.length < 1000000) : m_merkle_CheckGrow (f : Int) (s : Int) a b ps = some (growC f s a b ps) := by
  obtain ⟨low, c, ht, hf, hlow⟩ := tz_eq (n := f) (by omega) (by omega)
  obtain ⟨i, bo, hs1, hs2, hs3, hs4, _⟩ := steps_eq (a := f - 1) (s := s) (by omega) h3
  have hpl := Nat.two_pow_pos low
  have hg := gd_eq s s f low c true (Nat.le_refl _) hf h2
  have hw1 : w64 ((f : Int) - 1) = ((f - 1 : Nat) : Int) := by rw [w64_in (by omega) (by omega)]; omega
  have hws : w64 ((s : Int) - 1) = ((s - 1 : Nat) : Int) := by rw [w64_in (by omega) (by omega)]; omega
  have hcc : 2 * c ≤ (s - 1) / 2 ^ low := by
    rw [Nat.le_div_iff_mul_le hpl]
    have : 2 ^ low * (2 * c + 1) = 2 * c * 2 ^ low + 2 ^ low := by rw [Nat.mul_add, Nat.mul_one, Nat.mul_comm]
    omega
  have hpos : 0 < (s - 1) / 2 ^ low := by
    apply Nat.div_pos _ hpl
    have : 2 ^ low ≤ f := by rw [hf]; exact Nat.le_mul_of_pos_right _ (by omega)
    omega
  have hdo := dirs_ones low c (s - 1) hcc hpos
  rw [← hf] at hdo
  have hlen := congrArg List.length hdo
  rw [List.length_append, List.length_replicate, ← hs2] at hlen
  have hw8 : w64 ((w64 ((i : Int) - (low : Int))) + (bo : Int)) = (((dirs (2 * c) ((s - 1) / 2 ^ low)).length : Nat) : Int) := by
    rw [w64_in (n := (i : Int) - (low : Int)) (by omega) (by omega), w64_in (by omega) (by omega)]; omega
  have hsl : shl64 1 low = ((2 ^ low : Nat) : Int) := shl_one hlow
  have hne : ((f : Int) != ((2 ^ low : Nat) : Int)) = !decide (c = 0) := by
    by_cases hc : c = 0
    · subst hc
      have : f = 2 ^ low := by rw [hf]; simp
      rw [← this]; simp
    · have : f ≠ 2 ^ low := by
        intro e
        have : 2 ^ low * (2 * c + 1) = 2 ^ low * 1 := by rw [← hf, e]; simp
        have := Nat.eq_of_mul_eq_mul_left hpl this
        omega
      have h' : ((f : Int) != ((2 ^ low : Nat) : Int)) = true := by
        rw [bne_iff_ne]; intro e; exact this (by exact_mod_cast e)
      rw [h']; simp [hc]
  have hq1 : (f - 1) >>> low = 2 * c := shr_low hf
  have hq2 : (s - 1) >>> low = (s - 1) / 2 ^ low := Nat.shiftRight_eq_div_pow _ _
  have hsm : (s - 1) / 2 ^ low ≤ 255 := Nat.le_trans (Nat.div_le_self _ _) (by omega)
  have hwc : w64 ((((s - 1) / 2 ^ low : Nat) : Int) + 1) = (((s - 1) / 2 ^ low + 1 : Nat) : Int) := by rw [w64_in (by omega) (by omega)]; omega
  have hd20 : (dirs (2 * c) ((s - 1) / 2 ^ low)).length ≤ 20 := by omega
  have cl : ∀ (q : List Sm) (x : Sm), q.length = (dirs (2 * c) ((s - 1) / 2 ^ low)).length → m_merkle_climb (shr64 ((f - 1 : Nat) : Int) low) (w64 ((shr64 (w64 ((s : Int) - 1)) low) + 1)) q (fun (s1 : (UInt64 × UInt64) × (UInt64 × UInt64)) (b10 : UInt64 × UInt64) => obind (m_merkle_CheckGrow_1 b10 ((s1).1) ((s1).2)) fun x13 => some (x13.1, x13.2)) (fun (s2 : (UInt64 × UInt64) × (UInt64 × UInt64)) (b11 : UInt64 × UInt64) => obind (m_merkle_CheckGrow_2 b11 ((s2).2)) fun x14 => some (((s2).1), x14)) (x, x) = some (both (dirs (2 * c) ((s - 1) / 2 ^ low)) q (x, x)) := by
    intro q x hq
    rw [hws, shr64_eq (by omega), shr64_eq (by omega), hq1, hq2, hwc]
    have hk : 2 * c < (s - 1) / 2 ^ low + 1 := Nat.lt_succ_of_le hcc
    have hk2 : (s - 1) / 2 ^ low + 1 ≤ 256 := Nat.succ_le_succ hsm
    have hk3 : q.length = (dirs (2 * c) ((s - 1) / 2 ^ low + 1 - 1)).length := by rw [Nat.add_sub_cancel]; exact hq
    have hk4 := climb_eq (p3 := fun (s1 : (UInt64 × UInt64) × (UInt64 × UInt64)) (b10 : UInt64 × UInt64) => obind (m_merkle_CheckGrow_1 b10 ((s1).1) ((s1).2)) fun x13 => some (x13.1, x13.2)) (p4 := fun (s2 : (UInt64 × UInt64) × (UInt64 × UInt64)) (b11 : UInt64 × UInt64) => obind (m_merkle_CheckGrow_2 b11 ((s2).2)) fun x14 => some (((s2).1), x14)) (f := fun x p => (ppair p x.1, ppair p x.2)) (g := fun x p => (x.1, ppair x.2 p)) (fun s x => by simp only [m_merkle_CheckGrow_1, pair_eq, obind_some']) (fun s x => by simp only [m_merkle_CheckGrow_2, pair_eq, obind_some']) hk hk2 q hk3 (x, x)
    rw [Nat.add_sub_cancel] at hk4
    exact hk4
  unfold m_merkle_CheckGrow growC
  rw [hg, if_neg (by first | omega | (simp; omega)), if_neg (by first | omega | (simp; omega)), hw1, hs1, obind_some', ht, obind_some', bnd_def, hw8, Int.toNat_natCast, hsl, hne]
  exact cg_fin low (!decide (c = 0)) (dirs (2 * c) ((s - 1) / 2 ^ low)) hd20 ps a b hl (fun q x => m_merkle_climb (shr64 ((f - 1 : Nat) : Int) low) (w64 ((shr64 (w64 ((s : Int) - 1)) low) + 1)) q (fun (s1 : (UInt64 × UInt64) × (UInt64 × UInt64)) (b10 : UInt64 × UInt64) => obind (m_merkle_CheckGrow_1 b10 ((s1).1) ((s1).2)) fun x13 => some (x13.1, x13.2)) (fun (s2 : (UInt64 × UInt64) × (UInt64 × UInt64)) (b11 : UInt64 × UInt64) => obind (m_merkle_CheckGrow_2 b11 ((s2).2)) fun x14 => some (((s2).1), x14)) x) cl
theorem checkGrow_arg {f s : Int} (h : f < 0 ∨ s < f ∨ 256 < s) (a b : Sm) (ps : List Sm) : m_merkle_CheckGrow f s a b ps = some 1 := by
  unfold m_merkle_CheckGrow
  rw [if_pos (by first | omega | (simp; omega))]
theorem checkGrow_end {f s : Int} (h : 0 ≤ f) (h1 : f ≤ s) (h2 : s ≤ 256) (h3 : f = 0 ∨ f = s) (a b : Sm) (ps : List Sm) :
    m_merkle_CheckGrow f s a b ps = some (if ps.length = 0 then (if (f = 0 ∧ a ≠ rootP []) ∨ (0 < f ∧ a ≠ b) then 71 else 0) else 80) := by
  unfold m_merkle_CheckGrow
  rw [if_neg (by first | omega | (simp; omega)), if_pos (by first | omega | (simp; omega)), bnd_def]
  by_cases hp' : ps.length = 0
  · rw [if_neg (by simp [hp']), if_pos hp']
    have hr := root_eq [] (by simp)
    by_cases hf : f = 0
    · subst hf
      have e0 : ((0 : Int) == 0) = true := rfl
      simp only [e0, gu, cond_true, hr, obind_some', bnd_def, Bool.true_and]
      by_cases he : a = rootP []
      · rw [he, eqSum_self]; simp
      · rw [eqSum_ne he]; simp [he]
    · have e0 : (f == 0) = false := by simpa using hf
      simp only [e0, gu, cond_false, obind_some', bnd_def, Bool.false_and]
      have hf1 : 0 < f := by omega
      by_cases he : a = b
      · rw [he, eqSum_self]; simp [hf]
      · rw [eqSum_ne he]; simp [hf1, he]
  · rw [if_pos (by first | omega | (simp; omega)), if_neg hp']
end Go.Proofs.YtemiampgjgenhaaGreatDoor
