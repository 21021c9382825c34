/- What the program's hash computes, as total functions. Conditions: lengths below a bound. -/
import Derived.Test.YtemiampgjgenhaaGreatDoorWkB
set_option linter.unusedSimpArgs false
set_option linter.unusedVariables false
set_option maxHeartbeats 2000000
set_option maxRecDepth 10000
namespace Go.Proofs.YtemiampgjgenhaaGreatDoor
open Go Go.Gw

theorem bnd_def {α β : Type} (a : α) (k : α → β) : bnd a k = k a := rfl
theorem iter_up {σ τ : Type} {step : σ → Option (σ ⊕ τ)} {s : σ} {t : τ} (n : Nat) (h : iter step n s = some t) (hn : n ≤ 18446744073709551616) : iter step FUEL s = some t := iter_mono h hn
theorem iter_step {σ τ : Type} {step : σ → Option (σ ⊕ τ)} {n : Nat} {s s' : σ} (h : step s = some (.inl s')) : iter step (n + 1) s = iter step n s' := by simp only [iter, h, obind_some']
theorem iter_end {σ τ : Type} {step : σ → Option (σ ⊕ τ)} {n : Nat} {s : σ} {t : τ} (h : step s = some (.inr t)) : iter step (n + 1) s = some t := by simp only [iter, h, obind_some']
theorem app_eq {α : Type} (b : Nat) {xs ys : List α} (h : (xs.length + ys.length) * b ≤ 140737488355328) (h1 : xs.length + ys.length ≤ 140737488355328) : app b xs ys = some (xs ++ ys) := by unfold app; rw [if_pos ⟨h, h1⟩]
theorem cut_eq {α : Type} {xs : List α} {lo hi : Nat} (h1 : lo ≤ hi) (h2 : hi ≤ xs.length) : cut xs (lo : Int) (hi : Int) = some ((xs.drop lo).take (hi - lo)) := by
  unfold cut; rw [if_pos ⟨by omega, by omega, by omega⟩]; simp

/-! ### the field -/
def pfold (hi lo : UInt64) : UInt64 :=
  let n := (lo &&& 2305843009213693951) + ((shlU hi 3) ||| (shrU lo 61))
  let k := (n &&& 2305843009213693951) + shrU n 61
  if 2305843009213693951 ≤ k.toNat then k - 2305843009213693951 else k
theorem fold_eq (a b : UInt64) : m_field_fold a b = some (pfold a b) := by
  unfold m_field_fold pfold
  simp only [bnd_def]
  generalize (b &&& 2305843009213693951) + ((shlU a 3) ||| (shrU b 61)) = n
  generalize (n &&& 2305843009213693951) + shrU n 61 = k
  by_cases h : 2305843009213693951 ≤ k.toNat
  · rw [if_pos h, if_pos (decide_eq_true (by omega))]; rfl
  · rw [if_neg h, if_neg (by simp; omega)]; rfl
def pone (a : UInt64) : UInt64 := pfold 0 a
theorem one_eq (a : UInt64) : m_field_one a = some (pone a) := by simp only [m_field_one, fold_eq, obind_some']; rfl
def padd (a b : UInt64) : UInt64 := pone (pone a + pone b)
theorem add_eq (a b : UInt64) : m_field_Add a b = some (padd a b) := by simp only [m_field_Add, one_eq, obind_some']; rfl
def phi (a0 a1 : UInt64) : UInt64 :=
  let x1 := (a0 &&& 4294967295) * (a1 &&& 4294967295)
  let x2 := ((shrU a0 32) * (a1 &&& 4294967295)) + (shrU x1 32)
  let x3 := (x2 &&& 4294967295) + ((a0 &&& 4294967295) * (shrU a1 32))
  (((shrU a0 32) * (shrU a1 32)) + (shrU x2 32)) + (shrU x3 32)
theorem mul64_eq (a b : UInt64) : m_bits_Mul64 a b = some (phi a b, a * b) := rfl
def pmul (a b : UInt64) : UInt64 := pfold (phi (pone a) (pone b)) (pone a * pone b)
theorem mul_eq (a b : UInt64) : m_field_Mul a b = some (pmul a b) := by simp only [m_field_Mul, one_eq, mul64_eq, fold_eq, obind_some']; rfl
def psev (a : UInt64) : UInt64 :=
  let b := pmul a a
  let c := pmul b b
  let d := pmul c c
  pmul a (pmul d d)
theorem sev_eq (a : UInt64) : m_hash_seventeen a = some (psev a) := by
  simp only [m_hash_seventeen, eachN0, m_hash_seventeen_b1, mul_eq, obind_some']; rfl

/-! ### mixing -/
def pcon (r i : Int) : UInt64 := let n := toU (w64 ((w64 ((w64 (3 * r)) + i)) + 1)); n * n * n + 7
def pall (r : Int) (s : UInt64 × UInt64 × UInt64) : UInt64 := padd (padd (padd 0 (psev (padd s.1 (pcon r 0)))) (psev (padd s.2.1 (pcon r 1)))) (psev (padd s.2.2 (pcon r 2)))
def pround (r : Int) (s : UInt64 × UInt64 × UInt64) : UInt64 × UInt64 × UInt64 :=
  (padd (psev (padd s.1 (pcon r 0))) (pall r s), padd (psev (padd s.2.1 (pcon r 1))) (pall r s), padd (psev (padd s.2.2 (pcon r 2))) (pall r s))
theorem mix1_eq (i : Int) (a : UInt64) (r : Int) (all : UInt64) : m_hash_Mix_1 i a r all = some (psev (padd a (pcon r i)), r, padd all (psev (padd a (pcon r i)))) := by
  simp only [m_hash_Mix_1, bnd_def, add_eq, sev_eq, obind_some']; rfl
theorem mix2_eq (i : Int) (a : UInt64) (all : UInt64) : m_hash_Mix_2 i a all = some (padd a all, all) := by
  simp only [m_hash_Mix_2, add_eq, obind_some']
theorem each_eq {σ : Type} {p : σ → Int → UInt64 → Option (UInt64 × σ)} {a b c a' b' c' : UInt64} {s0 s1 s2 s3 : σ} (h0 : p s0 0 a = some (a', s1)) (h1 : p s1 1 b = some (b', s2)) (h2 : p s2 2 c = some (c', s3)) :
    m_hash_state_each (a, b, c) p s0 = some ((a', b', c'), s3) := by
  have e0 : idx [a, b, c] 0 = some a := rfl
  have e1 : idx [a', b, c] 1 = some b := rfl
  have e2 : idx [a', b', c] 2 = some c := rfl
  simp [m_hash_state_each, eachN0, m_hash_state_each_b1, bnd_def, h0, e0, h1, e1, h2, e2]
theorem mixb_eq (r : Int) (s : UInt64 × UInt64 × UInt64) : m_hash_Mix_b4 r s = some (pround r s) := by
  obtain ⟨a, b, c⟩ := s
  unfold m_hash_Mix_b4
  rw [each_eq (a' := psev (padd a (pcon r 0))) (b' := psev (padd b (pcon r 1))) (c' := psev (padd c (pcon r 2))) (s1 := (r, padd 0 (psev (padd a (pcon r 0))))) (s2 := (r, padd (padd 0 (psev (padd a (pcon r 0)))) (psev (padd b (pcon r 1)))))
    (s3 := (r, padd (padd (padd 0 (psev (padd a (pcon r 0)))) (psev (padd b (pcon r 1)))) (psev (padd c (pcon r 2))))) (by simp only [mix1_eq, obind_some']) (by simp only [mix1_eq, obind_some']) (by simp only [mix1_eq, obind_some'])]
  simp only [obind_some']
  change obind (m_hash_state_each _ _ (pall r (a, b, c))) _ = some (padd _ (pall r (a, b, c)), padd _ (pall r (a, b, c)), padd _ (pall r (a, b, c)))
  generalize pall r (a, b, c) = all
  rw [each_eq (s1 := all) (s2 := all) (s3 := all) (a' := padd (psev (padd a (pcon r 0))) all) (b' := padd (psev (padd b (pcon r 1))) all) (c' := padd (psev (padd c (pcon r 2))) all) (by simp only [mix2_eq, obind_some']) (by simp only [mix2_eq, obind_some']) (by simp only [mix2_eq, obind_some'])]
  rfl
def pmix (s : UInt64 × UInt64 × UInt64) : UInt64 × UInt64 × UInt64 := pround 7 (pround 6 (pround 5 (pround 4 (pround 3 (pround 2 (pround 1 (pround 0 s)))))))
theorem mix_eq (s : UInt64 × UInt64 × UInt64) : m_hash_Mix s = some (pmix s) := by
  simp only [m_hash_Mix, eachN0, mixb_eq, obind_some']
  rfl

/-! ### bytes as elements -/
def ple : List UInt8 → Nat → UInt64 → UInt64
  | [], _, s => s
  | b :: bs, i, s => ple bs (i + 1) (s ||| shlU (toU (b.toNat : Int)) (8 * i))
theorem b6_eq (b5 : List UInt8) : ∀ (l : List UInt8) (i : Nat) (s : UInt64), b5.drop i = l → i + l.length ≤ 1000000 → eachN0 (m_field_Of_b6 b5) l.length (i : Int) s = some (ple l i s) := by
  intro l
  induction l with
  | nil => intro i s _ _; rfl
  | cons b l ih =>
    intro i s h hb
    have hx : idx b5 (i : Int) = some b := idx_nat (by
      have : (b5.drop i)[0]? = some b := by rw [h]; rfl
      simpa using this)
    simp only [List.length_cons] at hb
    have hw : w64 (8 * (i : Int)) = ((8 * i : Nat) : Int) := by rw [w64_in (by omega) (by omega)]; omega
    have hstep : m_field_Of_b6 b5 (i : Int) s = some (s ||| shlU (toU (b.toNat : Int)) (8 * i)) := by
      simp only [m_field_Of_b6, hx, obind_some', hw, bnd_def]
      rw [if_pos (by omega)]; rfl
    show eachN0 (m_field_Of_b6 b5) (l.length + 1) _ _ = _
    simp only [eachN0, hstep, obind_some', ple]
    have := ih (i + 1) (s ||| shlU (toU (b.toNat : Int)) (8 * i)) (by rw [← List.drop_drop, h]; rfl) (by omega)
    simpa using this
def pof (n : Nat) (l : List UInt8) : List UInt64 :=
  match n, l with
  | _, [] => []
  | 0, _ => []
  | n + 1, l => ple (l.take 7) 0 0 :: pof n (l.drop 7)
theorem pof_len (n : Nat) : ∀ l, (pof n l).length ≤ n := by
  induction n with
  | zero => intro l; cases l <;> simp [pof]
  | succ n ih => intro l; cases l with
    | nil => simp [pof]
    | cons a l => simp only [pof, List.length_cons]; have := ih ((a :: l).drop 7); omega
theorem chunk_eq (a0 : List UInt8) (hb : a0.length ≤ 1000000) : ∀ (n i : Nat) (out : List UInt64), a0.length ≤ i + n → i ≤ 1000000 + 7 → out.length + n ≤ 1000000 →
    iter (m_slices_Chunk_byte_byte_1_b1 (fun (s : (List UInt64)) (b0 : List UInt8) => obind (m_field_Of_b4 b0 s) fun y => some (true, y)) a0 7) (n + 1) ((i : Int), out) = some (.inl (out ++ pof n (a0.drop i))) := by
  intro n
  induction n with
  | zero =>
    intro i out h _ _
    have : a0.drop i = [] := List.drop_eq_nil_of_le (by omega)
    refine iter_end ?_
    simp only [m_slices_Chunk_byte_byte_1_b1, this]
    rw [if_neg (by simp; omega)]
    simp [pof]
  | succ n ih =>
    intro i out h hi ho
    by_cases hlt : i < a0.length
    · obtain ⟨b, l, hl⟩ : ∃ b l, a0.drop i = b :: l := ⟨a0[i], a0.drop (i + 1), List.drop_eq_getElem_cons hlt⟩
      have hc1 : cut a0 (i : Int) (a0.length : Int) = some (a0.drop i) := by
        rw [cut_eq (by omega) (by omega)]; congr 1; rw [List.take_of_length_le (by simp)]
      have hlen : (a0.drop i).length = a0.length - i := by simp
      have hm : w64 ((i : Int) + minI 7 ((a0.drop i).length : Int)) = ((i + min 7 (a0.length - i) : Nat) : Int) := by
        rw [w64_in] <;> unfold minI <;> split <;> omega
      have hc2 : cut a0 (i : Int) ((i + min 7 (a0.length - i) : Nat) : Int) = some ((a0.drop i).take 7) := by
        rw [cut_eq (by omega) (by omega)]; congr 1
        rw [Nat.add_sub_cancel_left]
        by_cases h7 : 7 ≤ a0.length - i
        · rw [Nat.min_eq_left h7]
        · rw [Nat.min_eq_right (by omega), List.take_of_length_le (by simp), List.take_of_length_le (by simp; omega)]
      have hw : w64 ((i : Int) + 7) = ((i + 7 : Nat) : Int) := by rw [w64_in (by omega) (by omega)]; omega
      have hb4 : m_field_Of_b4 ((a0.drop i).take 7) out = some (out ++ [ple ((a0.drop i).take 7) 0 0]) := by
        have := b6_eq ((a0.drop i).take 7) ((a0.drop i).take 7) 0 0 rfl (by simp; omega)
        simp only [m_field_Of_b4]
        rw [show ((0 : Int)) = ((0 : Nat) : Int) from rfl, this]
        simp only [obind_some']
        rw [app_eq 8 (by simp; omega) (by simp; omega)]
        rfl
      rw [iter_step (s' := (((i + 7 : Nat) : Int), out ++ [ple ((a0.drop i).take 7) 0 0]))]
      · rw [ih (i + 7) _ (by omega) (by omega) (by simp; omega)]
        rw [hl]
        simp only [pof]
        rw [← hl, List.drop_drop]
        simp
      · simp only [m_slices_Chunk_byte_byte_1_b1]
        rw [if_pos (decide_eq_true (by omega)), hc1]
        simp only [obind_some', hm, hc2, hb4, hw]
        rfl
    · have : a0.drop i = [] := List.drop_eq_nil_of_le (by omega)
      refine iter_end ?_
      simp only [m_slices_Chunk_byte_byte_1_b1, this]
      rw [if_neg (by simp; omega)]
      simp [pof]
theorem of_eq (a0 : List UInt8) (hb : a0.length ≤ 900000) : m_field_Of a0 = some (pof a0.length a0) := by
  have h := chunk_eq a0 (by omega) a0.length 0 [] (by omega) (by omega) (by simp; omega)
  have h' := iter_up _ h (by omega)
  simp only [m_field_Of, m_slices_Chunk_byte_byte, m_slices_Chunk_byte_byte_1]
  rw [if_neg (by decide)]
  simp only [obind_some', List.drop_zero, List.nil_append] at h' ⊢
  rw [show ((0 : Int)) = ((0 : Nat) : Int) from rfl, h']
  simp only [obind_some']

/-! ### a hash -/
def psumL (n : Nat) (l : List UInt64) (s : UInt64 × UInt64 × UInt64) : UInt64 × UInt64 × UInt64 :=
  match n, l with
  | _, [] => s
  | 0, _ => s
  | _ + 1, [x] => pmix (padd s.1 x, s.2.1, s.2.2)
  | n + 1, x :: y :: l => psumL n l (pmix (padd s.1 x, padd s.2.1 y, s.2.2))
theorem b4_eq1 (x : UInt64) (s : UInt64 × UInt64 × UInt64) : eachN0 (m_hash_Sum_b4 [x]) 1 0 s = some (padd s.1 x, s.2.1, s.2.2) := by
  have e0 : idx [x] (0 : Int) = some x := rfl
  have e1 : idx [s.1, s.2.1, s.2.2] (0 : Int) = some s.1 := rfl
  simp [eachN0, m_hash_Sum_b4, e0, e1, add_eq, bnd_def]
theorem b4_eq2 (x y : UInt64) (s : UInt64 × UInt64 × UInt64) : eachN0 (m_hash_Sum_b4 [x, y]) 2 0 s = some (padd s.1 x, padd s.2.1 y, s.2.2) := by
  have e0 : idx [x, y] (0 : Int) = some x := rfl
  have e1 : idx [s.1, s.2.1, s.2.2] (0 : Int) = some s.1 := rfl
  have e2 : idx [x, y] 1 = some y := rfl
  have e3 : idx [padd s.1 x, s.2.1, s.2.2] 1 = some s.2.1 := rfl
  simp [eachN0, m_hash_Sum_b4, e0, e1, e2, e3, add_eq, bnd_def]
theorem b3_nil (fst : Bool) (hf : fst = true) (s : UInt64 × UInt64 × UInt64) : m_hash_Sum_b3 ([], fst, s.1, s.2.1, s.2.2) = some (.inl ([], false, pmix s)) := by
  subst hf
  have hc : cut ([] : List UInt64) 0 0 = some [] := rfl
  have hmin : minI 2 (([] : List UInt64).length : Int) = 0 := rfl
  simp only [m_hash_Sum_b3, Bool.true_or, if_true, hmin]
  rw [show ((([] : List UInt64).length : Int)) = 0 from rfl, hc]
  simp only [obind_some', eachN0, List.length_nil, mix_eq]
theorem b3_end (s : UInt64 × UInt64 × UInt64) : m_hash_Sum_b3 ([], false, s.1, s.2.1, s.2.2) = some (.inr s) := rfl
theorem b3_one (fst : Bool) (x : UInt64) (s : UInt64 × UInt64 × UInt64) : m_hash_Sum_b3 ([x], fst, s.1, s.2.1, s.2.2) = some (.inl ([], false, pmix (padd s.1 x, s.2.1, s.2.2))) := by
  have hmin : minI 2 (([x] : List UInt64).length : Int) = 1 := rfl
  have h0 : (fst || decide ((([x] : List UInt64).length : Int) > 0)) = true := by simp
  have hc : cut [x] 0 1 = some [x] := rfl
  have hc2 : cut [x] 1 1 = some [] := rfl
  simp only [m_hash_Sum_b3, h0, if_true, hmin]
  rw [show ((([x] : List UInt64).length : Int)) = 1 from rfl, hc, hc2]
  simp only [obind_some', List.length_cons, List.length_nil]
  rw [b4_eq1]
  simp only [obind_some', mix_eq]
theorem b3_two (fst : Bool) (x y : UInt64) (l : List UInt64) (s : UInt64 × UInt64 × UInt64) : m_hash_Sum_b3 (x :: y :: l, fst, s.1, s.2.1, s.2.2) = some (.inl (l, false, pmix (padd s.1 x, padd s.2.1 y, s.2.2))) := by
  have hmin : minI 2 ((x :: y :: l).length : Int) = ((2 : Nat) : Int) := by unfold minI; rw [if_neg (by simp; omega)]; rfl
  have h0 : (fst || decide (((x :: y :: l).length : Int) > 0)) = true := by simp; right; omega
  have hc : cut (x :: y :: l) ((0 : Nat) : Int) ((2 : Nat) : Int) = some [x, y] := by rw [cut_eq (by omega) (by simp)]; rfl
  have hc2 : cut (x :: y :: l) ((2 : Nat) : Int) ((x :: y :: l).length : Int) = some l := by rw [cut_eq (by simp) (by omega)]; simp
  simp only [m_hash_Sum_b3, h0, if_true, hmin]
  rw [show ((0 : Int)) = ((0 : Nat) : Int) from rfl, hc, hc2]
  simp only [obind_some', List.length_cons, List.length_nil]
  rw [show ((0 : Nat) : Int) = 0 from rfl, b4_eq2]
  simp only [obind_some', mix_eq]
theorem b3_iter : ∀ (n : Nat) (l : List UInt64) (s : UInt64 × UInt64 × UInt64), l.length ≤ n → iter m_hash_Sum_b3 (n + 1) (l, false, s.1, s.2.1, s.2.2) = some (psumL n l s) := by
  intro n
  induction n with
  | zero =>
    intro l s h
    have : l = [] := List.eq_nil_of_length_eq_zero (by omega)
    subst this
    rw [iter_end (b3_end s)]; simp [psumL]
  | succ n ih =>
    intro l s h
    match l, h with
    | [], _ => rw [iter_end (b3_end s)]; simp [psumL]
    | [x], _ =>
      rw [iter_step (b3_one false x s)]
      have := ih [] (pmix (padd s.1 x, s.2.1, s.2.2)) (by simp)
      rw [this]; simp [psumL]
    | x :: y :: l, h =>
      rw [iter_step (b3_two false x y l s)]
      have := ih l (pmix (padd s.1 x, padd s.2.1 y, s.2.2)) (by simp at h; omega)
      rw [this]; simp [psumL]
def pend (l : List UInt64) (s : UInt64 × UInt64 × UInt64) : UInt64 × UInt64 × UInt64 :=
  match l with
  | [] => pmix s
  | l => psumL l.length l s
/-- The hash of bytes. -/
def hsum (b : List UInt8) : UInt64 × UInt64 :=
  ((pend (pof b.length b) (0, 0, toU (b.length : Int))).1, (pend (pof b.length b) (0, 0, toU (b.length : Int))).2.1)
theorem sum_eq (b : List UInt8) (hb : b.length ≤ 900000) : m_hash_Sum b = some (hsum b) := by
  simp only [m_hash_Sum, of_eq b hb, obind_some']
  have hl := pof_len b.length b
  have hk : hsum b = ((pend (pof b.length b) (0, 0, toU (b.length : Int))).1, (pend (pof b.length b) (0, 0, toU (b.length : Int))).2.1) := rfl
  rw [hk]
  clear hk
  generalize pof b.length b = l at *
  have h : iter m_hash_Sum_b3 FUEL (l, true, 0, 0, toU (b.length : Int)) = some (pend l (0, 0, toU (b.length : Int))) := by
    refine iter_up (l.length + 2) ?_ (by omega)
    match l with
    | [] =>
      rw [show ([] : List UInt64).length + 2 = 1 + 1 from rfl, iter_step (b3_nil true rfl (0, 0, toU (b.length : Int)))]
      have := b3_iter 0 [] (pmix (0, 0, toU (b.length : Int))) (by simp)
      rw [this]; simp [psumL, pend]
    | [x] =>
      rw [show ([x] : List UInt64).length + 2 = 2 + 1 from rfl, iter_step (b3_one true x (0, 0, toU (b.length : Int)))]
      have := b3_iter 1 [] (pmix (padd 0 x, 0, toU (b.length : Int))) (by simp)
      rw [this]; simp [psumL, pend]
    | x :: y :: l =>
      rw [iter_step (b3_two true x y l (0, 0, toU (b.length : Int)))]
      have := b3_iter (l.length + 2) l (pmix (padd 0 x, padd 0 y, toU (b.length : Int))) (by omega)
      have e : (x :: y :: l).length + 1 = l.length + 2 + 1 := rfl
      rw [e, this]
      simp only [psumL, pend, List.length_cons]
      congr 1
      clear this hl
      have : ∀ (n k : Nat) (l : List UInt64) (s : UInt64 × UInt64 × UInt64), l.length ≤ n → l.length ≤ k → psumL n l s = psumL k l s := by
        intro n
        induction n with
        | zero => intro k l s h _; have : l = [] := List.eq_nil_of_length_eq_zero (by omega); subst this; simp [psumL]
        | succ n ih =>
          intro k l s h hk
          match l, k, h, hk with
          | [], k, _, _ => cases k <;> simp [psumL]
          | [x], k + 1, _, _ => simp [psumL]
          | x :: y :: l, k + 1, h, hk => simp only [psumL]; exact ih k l _ (by simp at h; omega) (by simp at hk; omega)
      exact this _ _ _ _ (by omega) (by omega)
  rw [h]
  simp only [obind_some']

/-! ### numbers as bytes -/
def pput : Nat → UInt64 → List UInt8
  | 0, _ => []
  | k + 1, n => toB ((shrU n (8 * k)).toNat : Int) :: pput k n
theorem pput_len (k : Nat) (n : UInt64) : (pput k n).length = k := by induction k with | zero => rfl | succ k ih => simp [pput, ih]
theorem put_iter (n : UInt64) : ∀ (k : Nat) (b : List UInt8), k ≤ 8 → b.length + k ≤ 1000000 → iter (m_hash_put_b1 n) (k + 1) (b, (k : Int) - 1) = some (b ++ pput k n) := by
  intro k
  induction k with
  | zero => intro b _ _; refine iter_end ?_; simp only [m_hash_put_b1, pput, List.append_nil]; rw [if_neg (by simp)]
  | succ k ih =>
    intro b hk hb
    have hw : w64 (8 * (((k + 1 : Nat) : Int) - 1)) = ((8 * k : Nat) : Int) := by rw [w64_in (by omega) (by omega)]; omega
    have hw2 : w64 ((((k + 1 : Nat) : Int) - 1) - 1) = (k : Int) - 1 := by rw [w64_in (by omega) (by omega)]; omega
    rw [iter_step (s' := (b ++ [toB ((shrU n (8 * k)).toNat : Int)], (k : Int) - 1))]
    · rw [ih _ (by omega) (by simp; omega)]; simp [pput]
    · simp only [m_hash_put_b1, hw, hw2]
      rw [if_pos (decide_eq_true (by omega)), if_pos (by omega), app_eq 1 (by simp; omega) (by simp; omega)]
      simp only [obind_some', Int.toNat_natCast]
theorem put_eq (n : UInt64) (k : Nat) (b : List UInt8) (hk : k ≤ 8) (hb : b.length ≤ 900000) : m_hash_put b n (k : Int) = some (b ++ pput k n) := by
  have hw : w64 ((k : Int) - 1) = (k : Int) - 1 := w64_in (by omega) (by omega)
  simp only [m_hash_put, hw, iter_up (k + 1) (put_iter n k b hk (by omega)) (by omega), obind_some']
def pbytes (s : UInt64 × UInt64) : List UInt8 := pput 8 s.1 ++ pput 8 s.2
theorem pbytes_len (s : UInt64 × UInt64) : (pbytes s).length = 16 := by simp [pbytes, pput_len]
theorem bytes_eq (s : UInt64 × UInt64) : m_hash_Bytes s = some (pbytes s) := by
  have e0 : idx [s.1, s.2] 0 = some s.1 := rfl
  have e1 : idx [s.1, s.2] 1 = some s.2 := rfl
  have h0 : m_hash_put [] s.1 8 = some ([] ++ pput 8 s.1) := put_eq s.1 8 [] (by omega) (by simp)
  have h1 : m_hash_put (pput 8 s.1) s.2 8 = some (pput 8 s.1 ++ pput 8 s.2) := put_eq s.2 8 _ (by omega) (by rw [pput_len]; omega)
  simp [m_hash_Bytes, eachN0, m_hash_Bytes_b2, e0, e1, h0, h1, pbytes]

/-! ### under a tag -/
def pcode : List UInt8 → List (List UInt8) → List UInt8
  | b, [] => b
  | b, p :: ps => pcode (b ++ pput 4 (toU (p.length : Int)) ++ p) ps
def plen : List (List UInt8) → Nat
  | [] => 0
  | p :: ps => 4 + p.length + plen ps
theorem pcode_len : ∀ (ps : List (List UInt8)) (b : List UInt8), (pcode b ps).length = b.length + plen ps := by
  intro ps
  induction ps with
  | nil => intro b; rfl
  | cons p ps ih => intro b; simp only [pcode, ih, plen, List.length_append, pput_len]; omega
theorem tag_each : ∀ (ps : List (List UInt8)) (i : Int) (b : List UInt8), b.length + plen ps ≤ 800000 → each0 m_hash_Tagged_b2 ps i b = some (pcode b ps) := by
  intro ps
  induction ps with
  | nil => intro i b _; rfl
  | cons p ps ih =>
    intro i b h
    simp only [plen] at h
    have h0 : m_hash_put b (toU (p.length : Int)) 4 = some (b ++ pput 4 (toU (p.length : Int))) := put_eq _ 4 b (by omega) (by omega)
    simp only [each0, m_hash_Tagged_b2, h0, obind_some']
    rw [app_eq 1 (by simp [pput_len]; omega) (by simp [pput_len]; omega)]
    simp only [obind_some']
    rw [ih _ _ (by simp [pput_len]; omega)]
    rfl
def ptag (t : ByteArray) (ps : List (List UInt8)) : UInt64 × UInt64 := hsum (pcode (toB (t.size : Int) :: t.data.toList) ps)
theorem tagged_eq (t : ByteArray) (ps : List (List UInt8)) (h : t.data.toList.length + plen ps ≤ 700000) : m_hash_Tagged t ps = some (ptag t ps) := by
  simp only [m_hash_Tagged]
  rw [app_eq 1 (by simp at h ⊢; omega) (by simp at h ⊢; omega)]
  simp only [obind_some']
  rw [tag_each _ _ _ (by simp at h ⊢; omega)]
  simp only [obind_some']
  rw [sum_eq _ (by rw [pcode_len]; simp at h ⊢; omega)]
  rfl
def ppair (a b : UInt64 × UInt64) : UInt64 × UInt64 := ptag ⟨#[110, 111, 100, 101]⟩ [pbytes a, pbytes b]
theorem pair_eq (a b : UInt64 × UInt64) : m_hash_Pair a b = some (ppair a b) := by
  simp only [m_hash_Pair, bytes_eq, obind_some']
  rw [tagged_eq _ _ (by simp [plen, pbytes_len])]
  rfl
end Go.Proofs.YtemiampgjgenhaaGreatDoor
