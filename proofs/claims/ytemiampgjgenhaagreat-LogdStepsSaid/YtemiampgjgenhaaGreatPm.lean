/- What the references compute of bytes is what the program computes. Conditions: lengths below a bound. -/
import Derived.Test.YtemiampgjgenhaaGreatPm0
import Derived.Test.YtemiampgjgenhaaGreatWkE
import Derived.KernelRfl
set_option linter.unusedSimpArgs false
set_option linter.unusedVariables false
set_option maxHeartbeats 2000000
set_option maxRecDepth 100000
namespace Go.Proofs.YtemiampgjgenhaaGreat
open Go Go.Gw

def radd (a b : UInt64) : UInt64 := ((a % 2305843009213693951) + (b % 2305843009213693951)) % 2305843009213693951
theorem radd_nat (a b : UInt64) : (radd a b).toNat = (a.toNat % FP + b.toNat % FP) % FP := by
  unfold radd
  rw [UInt64.toNat_mod, UInt64.toNat_add, UInt64.toNat_mod, UInt64.toNat_mod, litP]
  simp only [FP]
  omega
theorem radd_eq (a b : UInt64) : radd a b = padd a b := u_ext (by rw [radd_nat, padd_nat])
theorem add01_eq (a b : UInt64) : m_ref01_Add a b = some (padd a b) := by rw [← radd_eq]; rfl
theorem mul01_it : ∀ (n : Nat) (a b o : UInt64), b.toNat < 2 ^ n → o.toNat < FP → ∃ r, iter m_ref01_Mul_b1 (n + 1) (a, b, o) = some r ∧ r.toNat = (o.toNat + a.toNat * b.toNat) % FP := by
  intro n
  induction n with
  | zero =>
    intro a b o h ho
    have hb : b.toNat = 0 := by simp at h; omega
    refine ⟨o, iter_end ?_, by rw [hb]; simp; exact (Nat.mod_eq_of_lt ho).symm⟩
    unfold m_ref01_Mul_b1
    rw [if_neg (by simp [hb])]
  | succ n ih =>
    intro a b o h ho
    by_cases hb : b.toNat = 0
    · refine ⟨o, iter_end ?_, by rw [hb]; simp; exact (Nat.mod_eq_of_lt ho).symm⟩
      unfold m_ref01_Mul_b1
      rw [if_neg (by simp [hb])]
    · have e1 : 2 ^ (n + 1) = 2 * 2 ^ n := by rw [Nat.pow_succ]; omega
      have hb2 : (b / 2).toNat = b.toNat / 2 := by rw [UInt64.toNat_div]; rfl
      have hbm : ((b % 2).toNat : Int) = ((b.toNat % 2 : Nat) : Int) := by rw [UInt64.toNat_mod]; rfl
      have hp0 : ∀ x y, (padd x y).toNat < FP := fun x y => by rw [padd_nat]; exact Nat.mod_lt _ (by decide)
      by_cases ho1 : b.toNat % 2 = 1
      · obtain ⟨r, h1, h2⟩ := ih (padd a a) (b / 2) (padd o a) (by rw [hb2]; omega) (hp0 _ _)
        refine ⟨r, ?_, ?_⟩
        · rw [iter_step (s' := (padd a a, b / 2, padd o a)), h1]
          unfold m_ref01_Mul_b1
          rw [if_pos (by simp; omega), if_pos (by rw [hbm, ho1]; rfl), add01_eq, obind_some', obind_some', add01_eq, obind_some']
        · rw [h2, padd_nat, padd_nat, hb2]
          simp only [Nat.mod_add_mod, Nat.add_mod_mod]
          rw [Nat.add_mod, Nat.mod_mul_mod, ← Nat.add_mod, ← Nat.two_mul]
          congr 1
          have : b.toNat = 2 * (b.toNat / 2) + 1 := by omega
          conv => rhs; rw [this]
          rw [Nat.mul_add, Nat.mul_one, ← Nat.mul_assoc, Nat.mul_comm a.toNat 2]; omega
      · obtain ⟨r, h1, h2⟩ := ih (padd a a) (b / 2) o (by rw [hb2]; omega) ho
        refine ⟨r, ?_, ?_⟩
        · rw [iter_step (s' := (padd a a, b / 2, o)), h1]
          unfold m_ref01_Mul_b1
          rw [if_pos (by simp; omega), if_neg (by rw [hbm]; simp; omega), obind_some', add01_eq, obind_some']
        · rw [h2, padd_nat, hb2]
          simp only [Nat.mod_add_mod, Nat.add_mod_mod]
          rw [Nat.add_mod, Nat.mod_mul_mod, ← Nat.add_mod, ← Nat.two_mul]
          congr 1
          have : b.toNat = 2 * (b.toNat / 2) := by omega
          conv => rhs; rw [this]
          rw [← Nat.mul_assoc, Nat.mul_comm a.toNat 2]
theorem mul01_eq (a b : UInt64) : m_ref01_Mul a b = some (pmul a b) := by
  have hb : (b % 2305843009213693951).toNat < 2 ^ 64 := (b % 2305843009213693951).toNat_lt
  obtain ⟨r, h1, h2⟩ := mul01_it 64 (a % 2305843009213693951) (b % 2305843009213693951) 0 hb (by decide)
  have hr : r = pmul a b := u_ext (by
    rw [h2, pmul_nat, UInt64.toNat_mod, UInt64.toNat_mod, litP]
    simp only [UInt64.toNat_zero, Nat.zero_add]
    rw [← Nat.mul_mod])
  unfold m_ref01_Mul
  rw [iter_up _ h1 (by omega), obind_some', obind_some', hr]

/-! ### mixing -/
theorem raised_it (a : UInt64) (n : Nat) (hn : n ≤ 1000) : ∀ (k i : Nat) (x : UInt64), i + k = n → x.toNat = a.toNat ^ i % FP → ∃ y, iter (m_ref02_raised_b1 a (n : Int)) (k + 1) (x, (i : Int)) = some y ∧ y.toNat = a.toNat ^ n % FP := by
  intro k
  induction k with
  | zero =>
    intro i x h hx
    refine ⟨x, iter_end ?_, by rw [hx, show i = n from by omega]⟩
    unfold m_ref02_raised_b1
    rw [if_neg (by simp; omega)]
  | succ k ih =>
    intro i x h hx
    have hw : w64 ((i : Int) + 1) = ((i + 1 : Nat) : Int) := by rw [w64_in (by omega) (by omega)]; omega
    obtain ⟨y, h1, h2⟩ := ih (i + 1) (pmul x a) (by omega) (by rw [pmul_nat, hx, Nat.mod_mul_mod, Nat.pow_succ])
    refine ⟨y, ?_, h2⟩
    rw [iter_step (s' := (pmul x a, ((i + 1 : Nat) : Int)))]
    · exact h1
    · unfold m_ref02_raised_b1
      rw [if_pos (by simp; omega), mul01_eq, obind_some']
      simp only [hw]
theorem raised_gen (a : UInt64) (n : Nat) (hn : n ≤ 1000) : ∃ y, m_ref02_raised a (n : Int) = some y ∧ y.toNat = a.toNat ^ n % FP := by
  obtain ⟨y, h1, h2⟩ := raised_it a n hn n 0 1 (by omega) (by simp)
  have h1' := iter_up _ h1 (by omega)
  refine ⟨y, ?_, h2⟩
  unfold m_ref02_raised
  rw [show ((0 : Int)) = ((0 : Nat) : Int) from rfl, h1', obind_some', obind_some']
theorem raised_eq {a : UInt64} : m_ref02_raised a 17 = some (psev a) := by
  obtain ⟨y, h1, h2⟩ := raised_gen a 17 (by omega)
  have : y = psev a := u_ext (by rw [h2, psev_nat])
  rw [← this]; exact h1
theorem con_eq {r i : Nat} (hr : r < 8) (hi : i < 3) : (obind (m_ref02_raised (toU (w64 ((w64 ((w64 (3 * (r : Int))) + (i : Int))) + 1))) 3) fun x4 => m_ref01_Add x4 7) = some (pcon (r : Int) (i : Int)) := by
  have hw : w64 ((w64 ((w64 (3 * (r : Int))) + (i : Int))) + 1) = ((3 * r + i + 1 : Nat) : Int) := by
    rw [w64_in (n := 3 * (r : Int)) (by omega) (by omega), w64_in (n := 3 * (r : Int) + (i : Int)) (by omega) (by omega), w64_in (by omega) (by omega)]; omega
  have hN : (toU ((3 * r + i + 1 : Nat) : Int)).toNat = 3 * r + i + 1 := toU_toNat (by omega)
  unfold pcon
  rw [hw]
  generalize toU ((3 * r + i + 1 : Nat) : Int) = N at *
  obtain ⟨y, h1, h2⟩ := raised_gen N 3 (by omega)
  have h1' : m_ref02_raised N 3 = some y := h1
  rw [h1', obind_some', add01_eq]
  refine congrArg some (u_ext ?_)
  have hle : N.toNat ≤ 24 := by omega
  have h2' : N.toNat * N.toNat ≤ 24 * 24 := Nat.mul_le_mul hle hle
  have h3' : N.toNat * N.toNat * N.toNat ≤ 24 * 24 * 24 := Nat.mul_le_mul h2' hle
  have e3 : N.toNat ^ 3 = N.toNat * N.toNat * N.toNat := by rw [Nat.pow_succ, Nat.pow_two]
  dsimp only
  rw [padd_nat, h2, e3, UInt64.toNat_add, UInt64.toNat_mul, UInt64.toNat_mul, show (7 : UInt64).toNat = 7 from rfl]
  have e4 : N.toNat * N.toNat % 2 ^ 64 = N.toNat * N.toNat := Nat.mod_eq_of_lt (by omega)
  rw [e4]
  clear e4 e3 h2 h1 h1' hw hN
  generalize N.toNat * N.toNat * N.toNat = z at *
  rw [Nat.mod_eq_of_lt (show z < 2 ^ 64 by omega), Nat.mod_eq_of_lt (show z < FP by simp only [FP]; omega), Nat.mod_eq_of_lt (show z < FP by simp only [FP]; omega), Nat.mod_eq_of_lt (show 7 < FP by decide), Nat.mod_eq_of_lt (show z + 7 < FP by simp only [FP]; omega), Nat.mod_eq_of_lt (show z + 7 < 2 ^ 64 by omega)]
theorem obind_obind {α β γ : Type} (x : Option α) (f : α → Option β) (g : β → Option γ) : obind x (fun a => obind (f a) g) = obind (obind x f) g := by cases x <;> rfl
theorem round_b4 {s : UInt64 × UInt64 × UInt64} {r : Nat} (hr : r < 8) (a b c : UInt64) :
    m_ref02_round_b4 s (r : Int) (0, a, b, c) = some (.inl (1, psev (padd s.1 (pcon r 0)), b, c)) ∧
    m_ref02_round_b4 s (r : Int) (1, a, b, c) = some (.inl (2, a, psev (padd s.2.1 (pcon r 1)), c)) ∧
    m_ref02_round_b4 s (r : Int) (2, a, b, c) = some (.inl (3, a, b, psev (padd s.2.2 (pcon r 2)))) := by
  have c0 := con_eq hr (i := 0) (by omega)
  have c1 := con_eq hr (i := 1) (by omega)
  have c2 := con_eq hr (i := 2) (by omega)
  refine ⟨?_, ?_, ?_⟩
  · unfold m_ref02_round_b4
    dsimp only
    rw [if_pos (by simp), obind_obind, show ((0 : Nat) : Int) = 0 from rfl] at *
    rw [c0, obind_some', show idx [s.1, s.2.1, s.2.2] 0 = some s.1 from rfl, obind_some', add01_eq, obind_some', raised_eq, obind_some', show idx [a, b, c] 0 = some a from rfl, obind_some']
    simp [bnd_def, w64]
  · unfold m_ref02_round_b4
    dsimp only
    rw [if_pos (by simp), obind_obind, show ((1 : Nat) : Int) = 1 from rfl] at *
    rw [c1, obind_some', show idx [s.1, s.2.1, s.2.2] 1 = some s.2.1 from rfl, obind_some', add01_eq, obind_some', raised_eq, obind_some', show idx [a, b, c] 1 = some b from rfl, obind_some']
    simp [bnd_def, w64]
  · unfold m_ref02_round_b4
    dsimp only
    rw [if_pos (by simp), obind_obind, show ((2 : Nat) : Int) = 2 from rfl] at *
    rw [c2, obind_some', show idx [s.1, s.2.1, s.2.2] 2 = some s.2.2 from rfl, obind_some', add01_eq, obind_some', raised_eq, obind_some', show idx [a, b, c] 2 = some c from rfl, obind_some']
    simp [bnd_def, w64]
theorem padd3 (x y z : UInt64) : padd (padd (padd 0 x) y) z = padd (padd x y) z := u_ext (by
  simp only [padd_nat, UInt64.toNat_zero]
  simp only [FP]
  omega)
theorem round_b5 (x : UInt64) (a b c : UInt64) :
    m_ref02_round_b5 x (0, a, b, c) = some (.inl (1, padd a x, b, c)) ∧ m_ref02_round_b5 x (1, a, b, c) = some (.inl (2, a, padd b x, c)) ∧ m_ref02_round_b5 x (2, a, b, c) = some (.inl (3, a, b, padd c x)) := by
  refine ⟨?_, ?_, ?_⟩
  · unfold m_ref02_round_b5
    dsimp only
    rw [if_pos (by simp), show idx [a, b, c] 0 = some a from rfl, obind_some', add01_eq, obind_some', obind_some']; simp [bnd_def, w64]
  · unfold m_ref02_round_b5
    dsimp only
    rw [if_pos (by simp), show idx [a, b, c] 1 = some b from rfl, obind_some', add01_eq, obind_some', obind_some']; simp [bnd_def, w64]
  · unfold m_ref02_round_b5
    dsimp only
    rw [if_pos (by simp), show idx [a, b, c] 2 = some c from rfl, obind_some', add01_eq, obind_some', obind_some']; simp [bnd_def, w64]
theorem round_eq {r : Nat} (hr : r < 8) (s : UInt64 × UInt64 × UInt64) : m_ref02_round s (r : Int) = some (pround (r : Int) s) := by
  have h4 : iter (m_ref02_round_b4 s (r : Int)) 4 (0, 0, 0, 0) = some (psev (padd s.1 (pcon r 0)), psev (padd s.2.1 (pcon r 1)), psev (padd s.2.2 (pcon r 2))) := by
    rw [iter_step (round_b4 hr 0 0 0).1, iter_step (round_b4 hr _ 0 0).2.1, iter_step (round_b4 hr _ _ 0).2.2]
    exact iter_end rfl
  have h5 : ∀ x a b c : UInt64, iter (m_ref02_round_b5 x) 4 (0, a, b, c) = some (padd a x, padd b x, padd c x) := fun x a b c => by
    rw [iter_step (round_b5 x a b c).1, iter_step (round_b5 x _ b c).2.1, iter_step (round_b5 x _ _ c).2.2]
    exact iter_end rfl
  unfold m_ref02_round
  rw [iter_up _ h4 (by omega), obind_some', obind_some', add01_eq, obind_some', add01_eq, obind_some', iter_up _ (h5 _ _ _ _) (by omega), obind_some', obind_some']
  unfold pround pall
  rw [padd3]
theorem mix02_it (s : UInt64 × UInt64 × UInt64) {r : Nat} (hr : r < 8) : m_ref02_Mix_b3 ((r : Int), s.1, s.2.1, s.2.2) = some (.inl (((r + 1 : Nat) : Int), (pround (r : Int) s).1, (pround (r : Int) s).2.1, (pround (r : Int) s).2.2)) := by
  have hw : w64 ((r : Int) + 1) = ((r + 1 : Nat) : Int) := by rw [w64_in (by omega) (by omega)]; omega
  unfold m_ref02_Mix_b3
  rw [if_pos (by simp; omega), round_eq hr, obind_some']
  simp only [hw]
theorem mix02_eq (s : UInt64 × UInt64 × UInt64) : m_ref02_Mix s = some (pmix s) := by
  have h : iter m_ref02_Mix_b3 9 (((0 : Nat) : Int), s.1, s.2.1, s.2.2) = some (pmix s) := by
    rw [iter_step (mix02_it s (by omega)), iter_step (mix02_it _ (by omega)), iter_step (mix02_it _ (by omega)), iter_step (mix02_it _ (by omega)), iter_step (mix02_it _ (by omega)), iter_step (mix02_it _ (by omega)), iter_step (mix02_it _ (by omega)), iter_step (mix02_it _ (by omega))]
    exact iter_end rfl
  unfold m_ref02_Mix
  rw [show ((0 : Int)) = ((0 : Nat) : Int) from rfl, iter_up _ h (by omega), obind_some', obind_some']

/-! ### bytes as elements -/
theorem or_shl {s : UInt64} {b : UInt8} {i : Nat} (hi : i < 7) (hs : s.toNat < 256 ^ i) (u : UInt64) (hu : u.toNat = 256 ^ i) :
    s ||| shlU (toU (b.toNat : Int)) (8 * i) = s + u * (toU (b.toNat : Int)) ∧ (s + u * (toU (b.toNat : Int))).toNat < 256 ^ (i + 1) := by
  have hb := b.toNat_lt
  have e1 : (toU (b.toNat : Int)).toNat = b.toNat := toU_toNat (by omega)
  have e2 : (2 : Nat) ^ (8 * i) = 256 ^ i := by rw [Nat.pow_mul]
  have hpow : 256 ^ i ≤ 256 ^ 6 := Nat.pow_le_pow_right (by omega) (by omega)
  have hpos : 0 < 256 ^ i := Nat.pow_pos (by omega)
  have e256 : (256 : Nat) ^ 6 = 281474976710656 := by decide
  have hmul : 256 ^ i * b.toNat ≤ 256 ^ i * 255 := Nat.mul_le_mul_left _ (by omega)
  have esh : (shlU (toU (b.toNat : Int)) (8 * i)).toNat = 256 ^ i * b.toNat := by
    unfold shlU
    rw [e1, Nat.min_eq_left (by omega), show (b.toNat : Int) * 2 ^ (8 * i) = ((256 ^ i * b.toNat : Nat) : Int) from by
      rw [← e2, Nat.mul_comm]; simp [Nat.mul_comm, Int.mul_comm]]
    exact toU_toNat (by omega)
  have ese : (u * (toU (b.toNat : Int))).toNat = 256 ^ i * b.toNat := by
    rw [UInt64.toNat_mul, e1, hu]; omega
  have eadd : (s + u * (toU (b.toNat : Int))).toNat = s.toNat + 256 ^ i * b.toNat := by
    rw [UInt64.toNat_add, ese]; omega
  refine ⟨u_ext ?_, ?_⟩
  · rw [eadd, UInt64.toNat_or, esh, Nat.or_comm, ← e2, ← Nat.two_pow_add_eq_or_of_lt (by rw [e2]; exact hs)]; omega
  · rw [eadd, Nat.pow_succ]; omega
theorem of2_it (a0 : List UInt8) (hb : a0.length ≤ 1000000) (st : (List UInt64) × Int) (i : Nat) (hi : st.2 = (i : Int)) (hi2 : i ≤ 1000000) :
    ∀ (l : List UInt8) (k : Nat) (s u : UInt64), k + l.length ≤ 7 → ((a0.drop i).take 7).drop k = l → ((a0.drop i).take 7).length = k + l.length → s.toNat < 256 ^ k → (k < 7 → u.toNat = 256 ^ k) →
      iter (m_ref01_Of_b2 a0 st) (l.length + 1) (s, u, ((i + k : Nat) : Int)) = some (ple l k s) := by
  intro l
  induction l with
  | nil =>
    intro k s u h1 h2 h3 hs hu
    refine iter_end ?_
    have hw : w64 ((i : Int) + 7) = ((i + 7 : Nat) : Int) := by rw [w64_in (by omega) (by omega)]; omega
    simp only [List.length_take, List.length_drop, List.length_nil] at h3
    unfold m_ref01_Of_b2
    dsimp only
    rw [hi, hw, if_neg (by simp; omega)]
    rfl
  | cons b l ih =>
    intro k s u h1 h2 h3 hs hu
    have hw : w64 ((i : Int) + 7) = ((i + 7 : Nat) : Int) := by rw [w64_in (by omega) (by omega)]; omega
    have hw1 : w64 (((i + k : Nat) : Int) + 1) = ((i + (k + 1) : Nat) : Int) := by rw [w64_in (by omega) (by omega)]; omega
    simp only [List.length_cons] at h1 h3
    have h3' := h3
    simp only [List.length_take, List.length_drop] at h3'
    have hx : a0[i + k]? = some b := by
      have : (((a0.drop i).take 7).drop k)[0]? = some b := by rw [h2]; rfl
      rw [List.getElem?_drop, List.getElem?_take_of_lt (by omega), List.getElem?_drop] at this
      simpa using this
    obtain ⟨o1, o2⟩ := or_shl (b := b) (show k < 7 by omega) hs u (hu (by omega))
    rw [List.length_cons, iter_step (s' := (s + u * (toU (b.toNat : Int)), u * 256, ((i + (k + 1) : Nat) : Int)))]
    · have hd : ((a0.drop i).take 7).drop (k + 1) = l := by rw [← List.drop_drop, h2]; rfl
      rw [ih (k + 1) _ (u * 256) (by omega) hd (by omega) o2 (fun hk => by
        rw [UInt64.toNat_mul, hu (by omega), show (256 : UInt64).toNat = 256 from rfl, Nat.pow_succ]
        have : 256 ^ k ≤ 256 ^ 6 := Nat.pow_le_pow_right (by omega) (by omega)
        have e256 : (256 : Nat) ^ 6 = 281474976710656 := by decide
        omega)]
      rw [ple, o1]
    · unfold m_ref01_Of_b2
      dsimp only
      rw [hi, hw, if_pos (by simp; omega), idx_nat hx, obind_some', bnd_def]
      simp only [hw1]
theorem of1_it (a0 : List UInt8) (hb : a0.length ≤ 900000) : ∀ (n i : Nat) (out : List UInt64), a0.length ≤ i + n → i ≤ 900007 → out.length + n ≤ 1000000 →
    iter (m_ref01_Of_b1 a0) (n + 1) (out, (i : Int)) = some (out ++ pof n (a0.drop i)) := by
  intro n
  induction n with
  | zero =>
    intro i out h _ _
    have : a0.drop i = [] := List.drop_eq_nil_of_le (by omega)
    refine iter_end ?_
    unfold m_ref01_Of_b1
    rw [if_neg (by simp; omega), this]; simp [pof]
  | succ n ih =>
    intro i out h hi ho
    by_cases hlt : i < a0.length
    · obtain ⟨b, l, hl⟩ : ∃ b l, a0.drop i = b :: l := ⟨a0[i], a0.drop (i + 1), List.drop_eq_getElem_cons hlt⟩
      have hw : w64 ((i : Int) + 7) = ((i + 7 : Nat) : Int) := by rw [w64_in (by omega) (by omega)]; omega
      have h2 := of2_it a0 (by omega) (out, (i : Int)) i rfl (by omega) ((a0.drop i).take 7) 0 0 1 (by simp; omega) (by simp) (by simp) (by decide) (fun _ => by decide)
      have h2' := iter_up _ h2 (by simp; omega)
      rw [Nat.add_zero] at h2'
      rw [iter_step (s' := (out ++ [ple ((a0.drop i).take 7) 0 0], ((i + 7 : Nat) : Int)))]
      · rw [ih (i + 7) _ (by omega) (by omega) (by simp; omega), hl]
        simp only [pof]
        rw [← hl, List.drop_drop]
        simp
      · unfold m_ref01_Of_b1
        dsimp only
        rw [if_pos (by simp; omega), h2', obind_some', obind_some', app_eq 8 (by simp; omega) (by simp; omega), obind_some']
        simp only [hw]
    · have : a0.drop i = [] := List.drop_eq_nil_of_le (by omega)
      refine iter_end ?_
      unfold m_ref01_Of_b1
      rw [if_neg (by simp; omega), this]; simp [pof]
theorem of01_eq (a0 : List UInt8) (hb : a0.length ≤ 900000) : m_ref01_Of a0 = some (pof a0.length a0) := by
  have h := of1_it a0 hb a0.length 0 [] (by omega) (by omega) (by simp; omega)
  have h' := iter_up _ h (by omega)
  unfold m_ref01_Of
  rw [show ((0 : Int)) = ((0 : Nat) : Int) from rfl, h', obind_some', obind_some']
  simp

/-! ### a hash -/
theorem sum02_it (l : List UInt64) (hl : l.length ≤ 1000000) : ∀ (n i : Nat) (s : UInt64 × UInt64 × UInt64), l.length ≤ i + n → 1 ≤ i → i ≤ 1000002 →
    iter (m_ref02_Sum_b3 l) (n + 1) ((i : Int), s.1, s.2.1, s.2.2) = some (psumL n (l.drop i) s) := by
  intro n
  induction n with
  | zero =>
    intro i s h h1 _
    have : l.drop i = [] := List.drop_eq_nil_of_le (by omega)
    refine iter_end ?_
    unfold m_ref02_Sum_b3
    rw [if_neg (by simp; omega), this]; simp [psumL]
  | succ n ih =>
    intro i s h h1 h2
    by_cases hlt : i < l.length
    · have hw : w64 ((i : Int) + 1) = ((i + 1 : Nat) : Int) := by rw [w64_in (by omega) (by omega)]; omega
      have hw2 : w64 ((i : Int) + 2) = ((i + 2 : Nat) : Int) := by rw [w64_in (by omega) (by omega)]; omega
      have hx : idx l (i : Int) = some l[i] := idx_nat (by simp [hlt])
      by_cases hlt2 : i + 1 < l.length
      · have hy : idx l ((i + 1 : Nat) : Int) = some l[i + 1] := idx_nat (by simp [hlt2])
        have hd : l.drop i = l[i] :: l[i + 1] :: l.drop (i + 2) := by rw [List.drop_eq_getElem_cons hlt, List.drop_eq_getElem_cons hlt2]
        rw [iter_step (s' := (((i + 2 : Nat) : Int), (pmix (padd s.1 l[i], padd s.2.1 l[i + 1], s.2.2)).1, (pmix (padd s.1 l[i], padd s.2.1 l[i + 1], s.2.2)).2.1, (pmix (padd s.1 l[i], padd s.2.1 l[i + 1], s.2.2)).2.2))]
        · rw [ih (i + 2) (pmix (padd s.1 l[i], padd s.2.1 l[i + 1], s.2.2)) (by omega) (by omega) (by omega), hd]; rfl
        · unfold m_ref02_Sum_b3
          dsimp only
          rw [if_pos (by simp; omega), if_pos (by simp; omega), hx, obind_some', add01_eq, obind_some', obind_some', hw, if_pos (by simp; omega), hy, obind_some', add01_eq, obind_some', obind_some', mix02_eq, obind_some']
          simp only [hw2]
      · have hd : l.drop i = [l[i]] := by rw [List.drop_eq_getElem_cons hlt, List.drop_eq_nil_of_le (by omega)]
        rw [iter_step (s' := (((i + 2 : Nat) : Int), (pmix (padd s.1 l[i], s.2.1, s.2.2)).1, (pmix (padd s.1 l[i], s.2.1, s.2.2)).2.1, (pmix (padd s.1 l[i], s.2.1, s.2.2)).2.2))]
        · rw [ih (i + 2) (pmix (padd s.1 l[i], s.2.1, s.2.2)) (by omega) (by omega) (by omega), hd, List.drop_eq_nil_of_le (by omega)]
          cases n <;> simp [psumL]
        · unfold m_ref02_Sum_b3
          dsimp only
          rw [if_pos (by simp; omega), if_pos (by simp; omega), hx, obind_some', add01_eq, obind_some', obind_some', hw, if_neg (by simp; omega), obind_some', mix02_eq, obind_some']
          simp only [hw2]
    · have : l.drop i = [] := List.drop_eq_nil_of_le (by omega)
      refine iter_end ?_
      unfold m_ref02_Sum_b3
      rw [if_neg (by simp; omega), this]; simp [psumL]
theorem psumL_len : ∀ (n k : Nat) (l : List UInt64) (s : UInt64 × UInt64 × UInt64), l.length ≤ n → l.length ≤ k → psumL n l s = psumL k l s := by
  intro n
  induction n with
  | zero => intro k l s h _; have : l = [] := List.eq_nil_of_length_eq_zero (by omega); subst this; simp [psumL]
  | succ n ih =>
    intro k l s h hk
    match l, k, h, hk with
    | [], k, _, _ => cases k <;> simp [psumL]
    | [x], k + 1, _, _ => simp [psumL]
    | x :: y :: l, k + 1, h, hk => simp only [psumL]; exact ih k l _ (by simp at h; omega) (by simp at hk; omega)
theorem sum02_eq (b : List UInt8) (hb : b.length ≤ 900000) : m_ref02_Sum b = some (hsum b) := by
  have hl := pof_len b.length b
  unfold m_ref02_Sum
  rw [of01_eq b hb, obind_some']
  have hk : hsum b = ((pend (pof b.length b) (0, 0, toU (b.length : Int))).1, (pend (pof b.length b) (0, 0, toU (b.length : Int))).2.1) := rfl
  rw [hk]
  clear hk
  generalize pof b.length b = l at *
  have h : iter (m_ref02_Sum_b3 l) (l.length + 2) (0, 0, 0, toU (b.length : Int)) = some (pend l (0, 0, toU (b.length : Int))) := by
    match l, hl with
    | [], hl =>
      rw [show ([] : List UInt64).length + 2 = 1 + 1 from rfl, iter_step (s' := (((2 : Nat) : Int), (pmix (0, 0, toU (b.length : Int))).1, (pmix (0, 0, toU (b.length : Int))).2.1, (pmix (0, 0, toU (b.length : Int))).2.2))]
      · exact iter_end rfl
      · unfold m_ref02_Sum_b3
        dsimp only
        rw [if_pos (by simp), if_neg (by simp), obind_some', if_neg (by rw [w64_in (by omega) (by omega)]; simp), obind_some', mix02_eq, obind_some']; rfl
    | [x], hl =>
      rw [show [x].length + 2 = 2 + 1 from rfl, iter_step (s' := (((2 : Nat) : Int), (pmix (padd 0 x, 0, toU (b.length : Int))).1, (pmix (padd 0 x, 0, toU (b.length : Int))).2.1, (pmix (padd 0 x, 0, toU (b.length : Int))).2.2))]
      · exact iter_end rfl
      · have e : idx [x] 0 = some x := rfl
        unfold m_ref02_Sum_b3
        dsimp only
        rw [if_pos (by simp), if_pos (by simp), e, obind_some', add01_eq, obind_some', obind_some', if_neg (by rw [w64_in (by omega) (by omega)]; simp), obind_some', mix02_eq, obind_some']; rfl
    | x :: y :: l, hl =>
      rw [iter_step (s' := (((2 : Nat) : Int), (pmix (padd 0 x, padd 0 y, toU (b.length : Int))).1, (pmix (padd 0 x, padd 0 y, toU (b.length : Int))).2.1, (pmix (padd 0 x, padd 0 y, toU (b.length : Int))).2.2))]
      · rw [sum02_it (x :: y :: l) (by simp at hl ⊢; omega) _ 2 _ (by simp) (by omega) (by omega)]
        refine congrArg some ?_
        simp only [List.drop_succ_cons, List.drop_zero, pend, List.length_cons, psumL]
        exact psumL_len _ _ _ _ (by omega) (by omega)
      · have e : idx (x :: y :: l) 0 = some x := rfl
        have e1 : idx (x :: y :: l) (w64 (0 + 1)) = some y := rfl
        unfold m_ref02_Sum_b3
        dsimp only
        rw [if_pos (by simp), if_pos (by simp; omega), e, obind_some', add01_eq, obind_some', obind_some', if_pos (by rw [show w64 (0 + 1) = 1 from rfl]; simp; omega), e1, obind_some', add01_eq, obind_some', obind_some', mix02_eq, obind_some']; rfl
  rw [iter_up _ h (by omega), obind_some', obind_some']

/-! ### under a tag -/
theorem eight_it (n : UInt64) : ∀ (k : Nat) (b : List UInt8), k ≤ 8 → b.length + k ≤ 1000000 → iter (m_ref02_Eight_b1 n) (k + 1) (b, (k : Int) - 1) = some (b ++ pput k n) := by
  intro k
  induction k with
  | zero => intro b _ _; refine iter_end ?_; unfold m_ref02_Eight_b1; rw [if_neg (by simp)]; simp [pput]
  | succ k ih =>
    intro b hk hb
    have hw : w64 (8 * (((k + 1 : Nat) : Int) - 1)) = ((8 * k : Nat) : Int) := by rw [w64_in (by omega) (by omega)]; omega
    have hw2 : w64 ((((k + 1 : Nat) : Int) - 1) - 1) = (k : Int) - 1 := by rw [w64_in (by omega) (by omega)]; omega
    rw [iter_step (s' := (b ++ [toB ((shrU n (8 * k)).toNat : Int)], (k : Int) - 1))]
    · rw [ih _ (by omega) (by simp; omega)]; simp [pput]
    · unfold m_ref02_Eight_b1
      dsimp only
      rw [hw, hw2, toU_toNat (by omega), if_pos (decide_eq_true (by omega)), app_eq 1 (by simp; omega) (by simp; omega), obind_some']
theorem eight_eq (n : UInt64) : m_ref02_Eight n = some (pput 8 n) := by
  have h := iter_up _ (eight_it n 8 [] (by omega) (by simp)) (by omega)
  unfold m_ref02_Eight
  rw [show (7 : Int) = ((8 : Nat) : Int) - 1 from rfl, h, obind_some', obind_some']; rfl
theorem coded_it (ps : List (List UInt8)) : ∀ (n i : Nat) (b : List UInt8), i + n = ps.length → i ≤ 1000000 → ps.length ≤ 1000000 → b.length + plen (ps.drop i) ≤ 800000 → iter (m_ref02_Coded_b1 ps) (n + 1) (b, (i : Int)) = some (pcode b (ps.drop i)) := by
  intro n
  induction n with
  | zero =>
    intro i b h _ _ _
    have : ps.drop i = [] := List.drop_eq_nil_of_le (by omega)
    refine iter_end ?_
    unfold m_ref02_Coded_b1
    rw [if_neg (by simp; omega), this]; rfl
  | succ n ih =>
    intro i b h hi hps hb
    have hlt : i < ps.length := by omega
    have hx : idx ps (i : Int) = some ps[i] := idx_nat (by simp [hlt])
    have hd : ps.drop i = ps[i] :: ps.drop (i + 1) := List.drop_eq_getElem_cons hlt
    have hw : w64 ((i : Int) + 1) = ((i + 1 : Nat) : Int) := by rw [w64_in (by omega) (by omega)]; omega
    rw [hd] at hb ⊢
    simp only [plen] at hb
    have hc : cut (pput 8 (toU (ps[i].length : Int))) 4 ((pput 8 (toU (ps[i].length : Int))).length : Int) = some (pput 4 (toU (ps[i].length : Int))) := by
      rw [pput_len]
      have := cut_eq (xs := pput 8 (toU (ps[i].length : Int))) (lo := 4) (hi := 8) (by omega) (by rw [pput_len]; omega)
      rw [show ((4 : Nat) : Int) = 4 from rfl] at this
      rw [this]; rfl
    rw [iter_step (s' := (b ++ pput 4 (toU (ps[i].length : Int)) ++ ps[i], ((i + 1 : Nat) : Int)))]
    · rw [ih (i + 1) _ (by omega) (by omega) hps (by simp [pput_len]; omega)]; rfl
    · unfold m_ref02_Coded_b1
      dsimp only
      rw [if_pos (by simp; omega), hx, obind_some', eight_eq, obind_some', hc, obind_some', app_eq 1 (by simp [pput_len]; omega) (by simp [pput_len]; omega), obind_some', obind_some', app_eq 1 (by simp [pput_len]; omega) (by simp [pput_len]; omega), obind_some']
      simp only [hw]
theorem tagged02_eq (t : ByteArray) (ps : List (List UInt8)) (h : t.data.toList.length + plen ps ≤ 700000) (hp : ps.length ≤ 1000000) : m_ref02_Tagged t ps = some (ptag t ps) := by
  have hc := coded_it ps ps.length 0 (toB (t.size : Int) :: t.data.toList) (by omega) (by omega) hp (by simp at h ⊢; omega)
  have hc' := iter_up _ hc (by omega)
  unfold m_ref02_Tagged m_ref02_Coded
  rw [app_eq 1 (by simp at h ⊢; omega) (by simp at h ⊢; omega), obind_some']
  rw [show ((0 : Int)) = ((0 : Nat) : Int) from rfl]
  rw [show [toB (t.size : Int)] ++ t.data.toList = toB (t.size : Int) :: t.data.toList from rfl, hc', obind_some', obind_some', obind_some']
  rw [sum02_eq _ (by rw [pcode_len]; simp at h ⊢; omega), obind_some']
  rfl
end Go.Proofs.YtemiampgjgenhaaGreat
