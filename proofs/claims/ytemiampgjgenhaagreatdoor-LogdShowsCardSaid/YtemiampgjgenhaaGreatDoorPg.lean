/- Ways from a leaf to the root: what the program's steps and climbs are. Conditions: sizes as the program allows. -/
import Derived.Test.YtemiampgjgenhaaGreatDoorPe
import Derived.Test.YtemiampgjgenhaaGreatDoorWkE
set_option linter.unusedSimpArgs false
set_option linter.unusedVariables false
set_option maxHeartbeats 2000000
set_option maxRecDepth 100000
namespace Go.Proofs.YtemiampgjgenhaaGreatDoor
open Go Go.Gw

theorem shr1 {n : Int} (h : 0 ≤ n) : shr64 n 1 = n / 2 := by
  show n.fdiv (2 ^ (min 1 64)) = n / 2
  rw [Int.fdiv_eq_ediv_of_nonneg _ (by decide)]; rfl

/-- From the bottom on: on which side the hashes stand (left: true), of a place and the last place. -/
def dirs (a l : Nat) : List Bool :=
  if h : l = 0 then [] else
  if a % 2 = 1 then true :: dirs (a / 2) (l / 2)
  else if a = l then dirs (a / 2) (l / 2) else false :: dirs (a / 2) (l / 2)
termination_by l
decreasing_by all_goals omega
theorem dirs_zero (a : Nat) : dirs a 0 = [] := by rw [dirs]; simp
theorem dirs_odd {a l : Nat} (h : l ≠ 0) (h1 : a % 2 = 1) : dirs a l = true :: dirs (a / 2) (l / 2) := by rw [dirs, dif_neg h, if_pos h1]
theorem dirs_skip {a : Nat} (h : a ≠ 0) (h1 : a % 2 = 0) : dirs a a = dirs (a / 2) (a / 2) := by rw [dirs, dif_neg h, if_neg (by omega), if_pos rfl]
theorem dirs_right {a l : Nat} (h : l ≠ 0) (h1 : a % 2 = 0) (h2 : a ≠ l) : dirs a l = false :: dirs (a / 2) (l / 2) := by rw [dirs, dif_neg h, if_neg (by omega), if_neg h2]
theorem dirs_lo : ∀ (j a l : Nat), a < 2 ^ j → 2 ^ j ≤ l → l < 2 ^ (j + 1) → dirs a l = dirs a (2 ^ j - 1) ++ [false] := by
  intro j
  induction j with
  | zero =>
    intro a l h1 h2 h3
    have ha : a = 0 := by simp at h1; omega
    have hl : l = 1 := by simp at h2 h3; omega
    subst ha; subst hl
    rw [dirs_right (by omega) (by omega) (by omega)]
    simp [dirs_zero]
  | succ j ih =>
    intro a l h1 h2 h3
    have e1 : 2 ^ (j + 1) = 2 * 2 ^ j := by rw [Nat.pow_succ]; omega
    have e2 : 2 ^ (j + 1 + 1) = 2 * (2 * 2 ^ j) := by rw [Nat.pow_succ, e1]; omega
    have hp := Nat.two_pow_pos j
    have := ih (a / 2) (l / 2) (by omega) (by omega) (by rw [e1]; omega)
    by_cases ho : a % 2 = 1
    · rw [dirs_odd (l := l) (by omega) ho, dirs_odd (l := 2 ^ (j + 1) - 1) (by omega) ho, this, show (2 ^ (j + 1) - 1) / 2 = 2 ^ j - 1 from by omega]; rfl
    · rw [dirs_right (l := l) (by omega) (by omega) (by omega), dirs_right (l := 2 ^ (j + 1) - 1) (by omega) (by omega) (by omega), this, show (2 ^ (j + 1) - 1) / 2 = 2 ^ j - 1 from by omega]; rfl
theorem dirs_hi : ∀ (j a l : Nat), 2 ^ j ≤ a → a ≤ l → l < 2 ^ (j + 1) → dirs a l = dirs (a - 2 ^ j) (l - 2 ^ j) ++ [true] := by
  intro j
  induction j with
  | zero =>
    intro a l h1 h2 h3
    have ha : a = 1 := by simp at h1 h3; omega
    have hl : l = 1 := by simp at h3; omega
    subst ha; subst hl
    rw [dirs_odd (by omega) (by omega)]
    simp [dirs_zero]
  | succ j ih =>
    intro a l h1 h2 h3
    have e1 : 2 ^ (j + 1) = 2 * 2 ^ j := by rw [Nat.pow_succ]; omega
    have e2 : 2 ^ (j + 1 + 1) = 2 * (2 * 2 ^ j) := by rw [Nat.pow_succ, e1]; omega
    have hp := Nat.two_pow_pos j
    have := ih (a / 2) (l / 2) (by omega) (by omega) (by rw [e1]; omega)
    have q1 : (a - 2 ^ (j + 1)) / 2 = a / 2 - 2 ^ j := by omega
    have q2 : (l - 2 ^ (j + 1)) / 2 = l / 2 - 2 ^ j := by omega
    by_cases hz : l = 2 ^ (j + 1)
    · have : a = l := by omega
      subst this
      rw [dirs_skip (by omega) (by omega), this, ← q1]
      rw [show (a - 2 ^ (j + 1)) = 0 from by omega]
    · by_cases ho : a % 2 = 1
      · rw [dirs_odd (l := l) (by omega) ho, dirs_odd (l := l - 2 ^ (j + 1)) (by omega) (by omega), this, q1, q2]; rfl
      · by_cases he : a = l
        · subst he
          rw [dirs_skip (by omega) (by omega), dirs_skip (a := a - 2 ^ (j + 1)) (by omega) (by omega), this, q1]
        · rw [dirs_right (l := l) (by omega) (by omega) he, dirs_right (l := l - 2 ^ (j + 1)) (by omega) (by omega) (by omega), this, q1, q2]; rfl
theorem hp_spec {s : Nat} (h : 2 ≤ s) : ∃ j, hp s = 2 ^ j ∧ 2 ^ j < s ∧ s ≤ 2 ^ (j + 1) := by
  have h1 := Nat.log2_self_le (n := s - 1) (by omega)
  have h2 := Nat.lt_log2_self (n := s - 1)
  exact ⟨Nat.log2 (s - 1), rfl, by omega, by omega⟩
theorem dirs_left {a s : Nat} (h : 2 ≤ s) (ha : a < hp s) : dirs a (s - 1) = dirs a (hp s - 1) ++ [false] := by
  obtain ⟨j, e, h1, h2⟩ := hp_spec h
  rw [e] at ha ⊢
  exact dirs_lo j a (s - 1) ha (by omega) (by omega)
theorem dirs_rest {a s : Nat} (h : 2 ≤ s) (ha : hp s ≤ a) (h' : a < s) : dirs a (s - 1) = dirs (a - hp s) (s - hp s - 1) ++ [true] := by
  obtain ⟨j, e, h1, h2⟩ := hp_spec h
  rw [e] at ha ⊢
  rw [dirs_hi j a (s - 1) ha (by omega) (by omega), show s - 1 - 2 ^ j = s - 2 ^ j - 1 from by omega]

/-! ### how many -/
def pop : Nat → Nat → Nat
  | 0, _ => 0
  | k + 1, n => n % 2 + pop k (n / 2)
theorem pop_up : ∀ (k n : Nat), n < 2 ^ k → pop (k + 1) n = pop k n := by
  intro k
  induction k with
  | zero => intro n h; have : n = 0 := by simp at h; omega
            subst this; rfl
  | succ k ih =>
    intro n h
    have e1 : 2 ^ (k + 1) = 2 * 2 ^ k := by rw [Nat.pow_succ]; omega
    have := ih (n / 2) (by omega)
    rw [pop, this, pop]
def bits (n : Nat) : Nat := if n = 0 then 0 else Nat.log2 n + 1
theorem bits_half {n : Nat} (h : n ≠ 0) : bits n = bits (n / 2) + 1 := by
  unfold bits
  rw [if_neg h]
  by_cases h1 : n / 2 = 0
  · have : n = 1 := by omega
    subst this; rfl
  · rw [if_neg h1, Nat.log2_def, if_pos (by omega)]
theorem xor_half (a b : Nat) : (a ^^^ b) / 2 = a / 2 ^^^ b / 2 := by
  have := Nat.shiftRight_xor_distrib (a := a) (b := b) (i := 1)
  rw [Nat.shiftRight_eq_div_pow, Nat.shiftRight_eq_div_pow, Nat.shiftRight_eq_div_pow] at this
  exact this
theorem xor_zero {a b : Nat} : a ^^^ b = 0 ↔ a = b := by
  constructor
  · intro h
    apply Nat.eq_of_testBit_eq
    intro i
    have := congrArg (fun x => Nat.testBit x i) h
    simp at this
    exact this
  · intro h; subst h; simp
theorem count : ∀ (k a l : Nat), a ≤ l → l < 2 ^ k → bits (a ^^^ l) + pop k (a >>> bits (a ^^^ l)) = (dirs a l).length := by
  intro k
  induction k with
  | zero =>
    intro a l h1 h2
    have : l = 0 := by simp at h2; omega
    have : a = 0 := by omega
    subst this
    subst l
    simp [dirs_zero, pop, bits]
  | succ k ih =>
    intro a l h1 h2
    have e1 : 2 ^ (k + 1) = 2 * 2 ^ k := by rw [Nat.pow_succ]; omega
    have := ih (a / 2) (l / 2) (by omega) (by omega)
    by_cases hl : l = 0
    · have : a = 0 := by omega
      subst this
      subst l
      have hz : ∀ k, pop k 0 = 0 := by intro k; induction k with | zero => rfl | succ k ih => simp [pop, ih]
      simp [dirs_zero, bits, hz]
    · by_cases he : a = l
      · subst he
        simp only [Nat.xor_self] at this ⊢
        rw [show bits 0 = 0 from rfl] at this ⊢
        simp only [Nat.shiftRight_zero, Nat.zero_add] at this ⊢
        rw [pop]
        by_cases ho : a % 2 = 1
        · rw [dirs_odd hl ho, List.length_cons, ← this]; omega
        · rw [dirs_skip hl (by omega), ← this]; omega
      · have hx : a ^^^ l ≠ 0 := fun h => he (xor_zero.1 h)
        rw [bits_half hx, xor_half]
        have hsh : a >>> (bits (a / 2 ^^^ l / 2) + 1) = (a / 2) >>> bits (a / 2 ^^^ l / 2) := by
          rw [Nat.add_comm, Nat.shiftRight_add, Nat.shiftRight_eq_div_pow a 1]
        have hlt : (a / 2) >>> bits (a / 2 ^^^ l / 2) < 2 ^ k := by
          have : (a / 2) >>> bits (a / 2 ^^^ l / 2) ≤ a / 2 := by rw [Nat.shiftRight_eq_div_pow]; exact Nat.div_le_self _ _
          omega
        rw [hsh, pop_up _ _ hlt]
        by_cases ho : a % 2 = 1
        · rw [dirs_odd hl ho, List.length_cons, ← this]; omega
        · rw [dirs_right hl (by omega) he, List.length_cons, ← this]; omega

theorem ones_all : ((List.range 301).all fun n => match m_bits_OnesCount (toU (n : Int)) with | some r => decide (r = ((pop 9 n : Nat) : Int)) | none => false) = true := by kernel_rfl
theorem ones_eq {n : Nat} (h2 : n ≤ 300) : m_bits_OnesCount (toU (n : Int)) = some ((pop 9 n : Nat) : Int) := by
  have h := List.all_eq_true.1 ones_all n (List.mem_range.2 (by omega))
  split at h
  · rename_i r hr
    rw [hr, of_decide_eq_true h]
  · cases h
theorem len_bits {n : Nat} (h2 : n ≤ 300) : m_bits_Len (toU (n : Int)) = some ((bits n : Nat) : Int) := by
  by_cases h : n = 0
  · subst h
    have h := List.all_eq_true.1 len_all 0 (List.mem_range.2 (by omega))
    split at h
    · rename_i r hr
      rw [hr, of_decide_eq_true h]; rfl
    · cases h
  · rw [len_eq (by omega) h2]; unfold bits; rw [if_neg h]
theorem bv_of {a : Nat} (h : a < 18446744073709551616) : (BitVec.ofInt 64 (a : Int)).toNat = a := by
  rw [BitVec.toNat_ofInt]; omega
theorem xor64_eq {a b : Nat} (ha : a < 512) (hb : b < 512) : xor64 (a : Int) (b : Int) = ((a ^^^ b : Nat) : Int) := by
  have := Nat.xor_lt_two_pow (n := 9) ha hb
  unfold xor64
  rw [BitVec.toNat_xor, bv_of (by omega), bv_of (by omega), w64_in (by omega) (by omega)]
theorem and64_one {a : Nat} (ha : a < 512) : and64 (a : Int) 1 = ((a % 2 : Nat) : Int) := by
  unfold and64
  rw [BitVec.toNat_and, bv_of (by omega), show (BitVec.ofInt 64 1).toNat = 1 from rfl, Nat.and_one_is_mod, w64_in (by omega) (by omega)]
theorem shr64_eq {a k : Nat} (hk : k ≤ 64) : shr64 (a : Int) k = ((a >>> k : Nat) : Int) := by
  unfold shr64
  rw [Nat.min_eq_left hk, Int.fdiv_eq_ediv_of_nonneg _ (Int.pow_nonneg (by omega)), Nat.shiftRight_eq_div_pow]
  simp
theorem bits_le {n : Nat} (h : n < 512) : bits n ≤ 9 := by
  unfold bits
  split
  · omega
  · have : Nat.log2 n < 9 := (Nat.log2_lt (by omega)).2 (by omega)
    omega
theorem xor_lt {a b : Nat} (ha : a ≤ 255) (hb : b ≤ 255) : a ^^^ b ≤ 255 := by
  have := Nat.xor_lt_two_pow (n := 8) (show a < 2 ^ 8 by omega) (show b < 2 ^ 8 by omega)
  omega
theorem steps_eq {a s : Nat} (h : a < s) (hs : s ≤ 256) : ∃ i b : Nat, m_merkle_steps (a : Int) (s : Int) = some ((i : Int), (b : Int)) ∧ i + b = (dirs a (s - 1)).length ∧ i ≤ 9 ∧ b ≤ 9 ∧ i = bits (a ^^^ (s - 1)) := by
  have hw : w64 ((s : Int) - 1) = ((s - 1 : Nat) : Int) := by rw [w64_in (by omega) (by omega)]; omega
  have hx := xor_lt (a := a) (b := s - 1) (by omega) (by omega)
  have hb := bits_le (n := a ^^^ (s - 1)) (by omega)
  have hle : a >>> bits (a ^^^ (s - 1)) ≤ a := by rw [Nat.shiftRight_eq_div_pow]; exact Nat.div_le_self _ _
  have hpop : ∀ k n, pop k n ≤ k := by intro k; induction k with | zero => intro n; simp [pop] | succ k ih => intro n; have := ih (n / 2); simp only [pop]; omega
  have hp9 := hpop 9 (a >>> bits (a ^^^ (s - 1)))
  refine ⟨bits (a ^^^ (s - 1)), pop 9 (a >>> bits (a ^^^ (s - 1))), ?_, count 9 a (s - 1) (by omega) (by omega), hb, hp9, rfl⟩
  unfold m_merkle_steps
  rw [hw, xor64_eq (by omega) (by omega), len_bits (by omega), obind_some', if_pos (by omega), Int.toNat_natCast, shr64_eq (by omega), ones_eq (by omega), obind_some']

theorem dirs_len : ∀ (a l : Nat), l ≤ 300 → (dirs a l).length ≤ 400 := by
  have : ∀ (n a l : Nat), l ≤ n → (dirs a l).length ≤ n := by
    intro n
    induction n with
    | zero => intro a l h; have : l = 0 := by omega
              subst this; simp [dirs_zero]
    | succ n ih =>
      intro a l h
      have := ih (a / 2) (l / 2) (by omega)
      rw [dirs]
      split
      · simp
      · split
        · simp; omega
        · split
          · omega
          · simp; omega
  intro a l h
  have := this l a l (Nat.le_refl _)
  omega

/-! ### climbing -/
def goD {σ : Type} (f g : σ → Sm → σ) : List Bool → List Sm → σ → σ
  | d :: ds, p :: ps, x => goD f g ds ps (if d then f x p else g x p)
  | _, _, x => x
theorem goD_app {σ : Type} (f g : σ → Sm → σ) (d : Bool) (p : Sm) : ∀ (ds : List Bool) (ps : List Sm) (x : σ), ds.length = ps.length → goD f g (ds ++ [d]) (ps ++ [p]) x = if d then f (goD f g ds ps x) p else g (goD f g ds ps x) p := by
  intro ds
  induction ds with
  | nil => intro ps x h; have : ps = [] := List.eq_nil_of_length_eq_zero (by simp at h; exact h.symm); subst this; simp [goD]
  | cons e ds ih =>
    intro ps x h
    match ps, h with
    | q :: ps, h => simp only [List.cons_append, goD]; exact ih ps _ (by simp at h; exact h)
theorem climb3_eq : ∀ (n a l : Nat), a ≠ 0 → a < 2 ^ n → n ≤ 9 → a ≤ l → l < 512 →
    ∃ a' l' : Nat, iter m_merkle_climb_b3 (n + 1) ((a : Int), (l : Int)) = some ((a' : Int), (l' : Int)) ∧ a' % 2 = 1 ∧ a' ≤ l' ∧ l' < 512 ∧ (a = l → a' = l' ∧ dirs a l = dirs a' l') ∧ (a % 2 = 1 → a' = a ∧ l' = l) := by
  intro n
  induction n with
  | zero => intro a l h h1; simp at h1; omega
  | succ n ih =>
    intro a l h h1 hn hle hl
    have e1 : 2 ^ (n + 1) = 2 * 2 ^ n := by rw [Nat.pow_succ]; omega
    by_cases ho : a % 2 = 1
    · refine ⟨a, l, iter_end ?_, ho, hle, hl, fun e => ⟨e, rfl⟩, fun _ => ⟨rfl, rfl⟩⟩
      simp only [m_merkle_climb_b3, and64_one (show a < 512 by omega)]
      rw [if_neg (by simp; omega)]
    · obtain ⟨a', l', h2, h3, h4, h5, h6, h7⟩ := ih (a / 2) (l / 2) (by omega) (by omega) (by omega) (by omega) (by omega)
      refine ⟨a', l', ?_, h3, h4, h5, fun e => ?_, fun e => absurd e ho⟩
      · rw [iter_step (s' := (((a / 2 : Nat) : Int), ((l / 2 : Nat) : Int)))]
        · exact h2
        · simp only [m_merkle_climb_b3, and64_one (show a < 512 by omega)]
          rw [if_pos (by simp; omega), shr1 (by omega), shr1 (by omega)]; rfl
      · subst e
        obtain ⟨q1, q2⟩ := h6 rfl
        exact ⟨q1, by rw [dirs_skip h (by omega)]; exact q2⟩
theorem climb1_eq {σ : Type} {p3 p4 : σ → Sm → Option σ} {f g : σ → Sm → σ} (h3 : ∀ s x, p3 s x = some (f s x)) (h4 : ∀ s x, p4 s x = some (g s x)) (i : Int) (x : Sm) (a l : Nat) (s : σ) (ha : a ≤ l) (hl : l < 512) (hd : dirs a l ≠ []) :
    ∃ (a' l' : Nat) (d : Bool), m_merkle_climb_b1 p3 p4 i x ((a : Int), (l : Int), s) = some ((a' : Int), (l' : Int), if d then f s x else g s x) ∧ a' ≤ l' ∧ l' < 512 ∧ dirs a l = d :: dirs a' l' := by
  have hl0 : l ≠ 0 := fun e => hd (by subst e; exact dirs_zero a)
  unfold m_merkle_climb_b1
  by_cases hc : a % 2 = 0 ∧ a ≠ l
  · refine ⟨a / 2, l / 2, false, ?_, by omega, by omega, dirs_right hl0 hc.1 hc.2⟩
    simp only [and64_one (show a < 512 by omega)]
    rw [if_pos (by simp; omega), h4, obind_some', obind_some', shr1 (by omega), shr1 (by omega)]; rfl
  · have ha0 : a ≠ 0 := fun e => by
      subst e
      have : (0 : Nat) = l := by
        by_cases e : (0 : Nat) = l
        · exact e
        · exact absurd ⟨rfl, e⟩ hc
      omega
    obtain ⟨a', l', h5, h6, h7, h8, h9, h10⟩ := climb3_eq 9 a l ha0 (by omega) (by omega) ha hl
    refine ⟨a' / 2, l' / 2, true, ?_, by omega, by omega, ?_⟩
    · simp only [and64_one (show a < 512 by omega)]
      rw [if_neg (by simp; omega), h3, obind_some', iter_up _ h5 (by omega), obind_some', obind_some', obind_some', shr1 (by omega), shr1 (by omega)]; rfl
    · by_cases ho : a % 2 = 1
      · obtain ⟨q1, q2⟩ := h10 ho
        subst q1; subst q2
        exact dirs_odd hl0 ho
      · obtain ⟨q1, q2⟩ := h9 (by omega)
        rw [q2]; exact dirs_odd (by omega) h6
theorem climb_each_eq {σ : Type} {p3 p4 : σ → Sm → Option σ} {f g : σ → Sm → σ} (h3 : ∀ s x, p3 s x = some (f s x)) (h4 : ∀ s x, p4 s x = some (g s x)) : ∀ (ps : List Sm) (i : Int) (a l : Nat) (s : σ), a ≤ l → l < 512 → ps.length = (dirs a l).length →
    ∃ q1 q2, each0 (m_merkle_climb_b1 p3 p4) ps i ((a : Int), (l : Int), s) = some (q1, q2, goD f g (dirs a l) ps s) := by
  intro ps
  induction ps with
  | nil => intro i a l s _ _ h; have : dirs a l = [] := List.eq_nil_of_length_eq_zero h.symm; rw [this]; exact ⟨_, _, rfl⟩
  | cons p ps ih =>
    intro i a l s ha hl h
    obtain ⟨a', l', d, h5, h6, h7, h8⟩ := climb1_eq h3 h4 i p a l s ha hl (fun e => by rw [e] at h; cases h)
    rw [h8] at h ⊢
    obtain ⟨q1, q2, hq⟩ := ih (i + 1) a' l' (if d then f s p else g s p) h6 h7 (by simpa using h)
    exact ⟨q1, q2, by simp only [each0, h5, obind_some', hq, goD]⟩
theorem climb_eq {σ : Type} {p3 p4 : σ → Sm → Option σ} {f g : σ → Sm → σ} (h3 : ∀ s x, p3 s x = some (f s x)) (h4 : ∀ s x, p4 s x = some (g s x)) {a s : Nat} (h : a < s) (hs : s ≤ 256) (ps : List Sm) (hl : ps.length = (dirs a (s - 1)).length) (s0 : σ) :
    m_merkle_climb (a : Int) (s : Int) ps p3 p4 s0 = some (goD f g (dirs a (s - 1)) ps s0) := by
  have hw : w64 ((s : Int) - 1) = ((s - 1 : Nat) : Int) := by rw [w64_in (by omega) (by omega)]; omega
  obtain ⟨q1, q2, hq⟩ := climb_each_eq h3 h4 ps 0 a (s - 1) s0 (by omega) (by omega) hl
  simp only [m_merkle_climb, hw, hq, obind_some']

/-! ### a look at a proof -/
def lead (ds : List Bool) (ps : List Sm) (x : Sm) : Sm := goD (fun x p => ppair p x) (fun x p => ppair x p) ds ps x
theorem eqSum_iff {a b : Sm} : eqSum a b = true ↔ a = b := by
  obtain ⟨a, a'⟩ := a; obtain ⟨b, b'⟩ := b
  simp [eqSum]
theorem eqSum_self (a : Sm) : eqSum a a = true := eqSum_iff.2 rfl
theorem eqSum_ne {a b : Sm} (h : a ≠ b) : eqSum a b = false := by rw [← Bool.not_eq_true]; exact fun e => h (eqSum_iff.1 e)
theorem check_eq {a s : Nat} (h : a < s) (hs : s ≤ 256) (leaf : Sm) (ps : List Sm) (root : Sm) (hl : ps.length < 1000000) :
    m_merkle_Check leaf (a : Int) (s : Int) ps root = some (if ps.length = (dirs a (s - 1)).length then (if lead (dirs a (s - 1)) ps leaf = root then 0 else 71) else 80) := by
  obtain ⟨i, b, h1, h2, h3, h4, _⟩ := steps_eq h hs
  have hw : w64 ((i : Int) + (b : Int)) = (((dirs a (s - 1)).length : Nat) : Int) := by rw [w64_in (by omega) (by omega)]; omega
  unfold m_merkle_Check
  rw [if_neg (by simp; omega), h1, obind_some', hw]
  by_cases hp : ps.length = (dirs a (s - 1)).length
  · rw [if_neg (by simp; omega), if_pos hp]
    rw [climb_eq (f := fun x p => ppair p x) (g := fun x p => ppair x p) (fun s x => by simp only [m_merkle_Check_1, pair_eq, obind_some']) (fun s x => by simp only [m_merkle_Check_2, pair_eq, obind_some']) h hs ps hp leaf, obind_some']
    show (if (!eqSum (lead (dirs a (s - 1)) ps leaf) root) = true then some 71 else some 0) = _
    by_cases hr : lead (dirs a (s - 1)) ps leaf = root
    · rw [if_pos hr, hr, eqSum_self]; rfl
    · rw [if_neg hr, eqSum_ne hr]; rfl
  · rw [if_neg hp, if_pos (by simp; omega)]
theorem check_arg {a s : Int} (h : a < 0 ∨ s ≤ a ∨ 256 < s) (leaf : Sm) (ps : List Sm) (root : Sm) : m_merkle_Check leaf a s ps root = some 1 := by
  unfold m_merkle_Check
  rw [if_pos (by simp; omega)]
end Go.Proofs.YtemiampgjgenhaaGreatDoor
