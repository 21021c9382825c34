/- Several texts, one behind the other. Conditions: none. -/
import Derived.Test.YtojlmhmiknocmaaGreatZf
import Derived.Test.YtojlmhmiknocmaaGreatZg
import Derived.Test.YtojlmhmiknocmaaGreatZh
import Derived.KernelRfl
import Derived.Test.YtojlmhmiknocmaaGreatZb
set_option linter.unusedSimpArgs false
set_option linter.unusedVariables false
set_option maxHeartbeats 20000000
set_option maxRecDepth 100000
section
namespace Go.Proofs.YtojlmhmiknocmaaGreat
open Go Go.Gw
theorem bnd_def {α β : Type} (a : α) (k : α → β) : bnd a k = k a := rfl
theorem iter_up {σ τ : Type} {step : σ → Option (σ ⊕ τ)} {s : σ} {t : τ} (n : Nat) (h : iter step n s = some t) (hn : n ≤ 18446744073709551616) : iter step FUEL s = some t := iter_mono h hn
theorem iter_step {σ τ : Type} {step : σ → Option (σ ⊕ τ)} {n : Nat} {s s' : σ} (h : step s = some (.inl s')) : iter step (n + 1) s = iter step n s' := by simp only [iter, h, obind_some']
theorem iter_end {σ τ : Type} {step : σ → Option (σ ⊕ τ)} {n : Nat} {s : σ} {t : τ} (h : step s = some (.inr t)) : iter step (n + 1) s = some t := by simp only [iter, h, obind_some']
theorem app_eq {α : Type} (b : Nat) {xs ys : List α} (h : (xs.length + ys.length) * b ≤ 140737488355328) (h1 : xs.length + ys.length ≤ 140737488355328) : app b xs ys = some (xs ++ ys) := by unfold app; rw [if_pos ⟨h, h1⟩]
theorem cut_eq {α : Type} {xs : List α} {lo hi : Nat} (h1 : lo ≤ hi) (h2 : hi ≤ xs.length) : cut xs (lo : Int) (hi : Int) = some ((xs.drop lo).take (hi - lo)) := by
  unfold cut; rw [if_pos ⟨by omega, by omega, by omega⟩]; simp
def pfold (hi lo : UInt64) : UInt64 :=
  let n := (lo &&& 2305843009213693951) + ((shlU hi 3) ||| (shrU lo 61))
  let k := (n &&& 2305843009213693951) + shrU n 61
  if 2305843009213693951 ≤ k.toNat then k - 2305843009213693951 else k
theorem fold_eq (a b : UInt64) : m_field_fold a b = some (pfold a b) := by
  unfold m_field_fold pfold
  simp only [bnd_def]
  generalize (b &&& 2305843009213693951) + ((shlU a 3) ||| (shrU b 61)) = n
  generalize (n &&& 2305843009213693951) + shrU n 61 = k
  by_cases h : 2305843009213693951 ≤ k.toNat
  · rw [if_pos h, if_pos (decide_eq_true (by omega))]; rfl
  · rw [if_neg h, if_neg (by simp; omega)]; rfl
def pone (a : UInt64) : UInt64 := pfold 0 a
theorem one_eq (a : UInt64) : m_field_one a = some (pone a) := by simp only [m_field_one, fold_eq, obind_some']; rfl
def padd (a b : UInt64) : UInt64 := pone (pone a + pone b)
theorem add_eq (a b : UInt64) : m_field_Add a b = some (padd a b) := by simp only [m_field_Add, one_eq, obind_some']; rfl
def phi (a0 a1 : UInt64) : UInt64 :=
  let x1 := (a0 &&& 4294967295) * (a1 &&& 4294967295)
  let x2 := ((shrU a0 32) * (a1 &&& 4294967295)) + (shrU x1 32)
  let x3 := (x2 &&& 4294967295) + ((a0 &&& 4294967295) * (shrU a1 32))
  (((shrU a0 32) * (shrU a1 32)) + (shrU x2 32)) + (shrU x3 32)
theorem mul64_eq (a b : UInt64) : m_bits_Mul64 a b = some (phi a b, a * b) := rfl
def pmul (a b : UInt64) : UInt64 := pfold (phi (pone a) (pone b)) (pone a * pone b)
theorem mul_eq (a b : UInt64) : m_field_Mul a b = some (pmul a b) := by simp only [m_field_Mul, one_eq, mul64_eq, fold_eq, obind_some']; rfl
def psev (a : UInt64) : UInt64 :=
  let b := pmul a a
  let c := pmul b b
  let d := pmul c c
  pmul a (pmul d d)
theorem sev_eq (a : UInt64) : m_hash_seventeen a = some (psev a) := by
  simp only [m_hash_seventeen, eachN0, m_hash_seventeen_b1, mul_eq, obind_some']; rfl
def pcon (r i : Int) : UInt64 := let n := toU (w64 ((w64 ((w64 (3 * r)) + i)) + 1)); n * n * n + 7
def pall (r : Int) (s : UInt64 × UInt64 × UInt64) : UInt64 := padd (padd (padd 0 (psev (padd s.1 (pcon r 0)))) (psev (padd s.2.1 (pcon r 1)))) (psev (padd s.2.2 (pcon r 2)))
def pround (r : Int) (s : UInt64 × UInt64 × UInt64) : UInt64 × UInt64 × UInt64 :=
  (padd (psev (padd s.1 (pcon r 0))) (pall r s), padd (psev (padd s.2.1 (pcon r 1))) (pall r s), padd (psev (padd s.2.2 (pcon r 2))) (pall r s))
theorem mix1_eq (i : Int) (a : UInt64) (r : Int) (all : UInt64) : m_hash_Mix_1 i a r all = some (psev (padd a (pcon r i)), r, padd all (psev (padd a (pcon r i)))) := by
  simp only [m_hash_Mix_1, bnd_def, add_eq, sev_eq, obind_some']; rfl
theorem mix2_eq (i : Int) (a : UInt64) (all : UInt64) : m_hash_Mix_2 i a all = some (padd a all, all) := by
  simp only [m_hash_Mix_2, add_eq, obind_some']
theorem each_eq {σ : Type} {p : σ → Int → UInt64 → Option (UInt64 × σ)} {a b c a' b' c' : UInt64} {s0 s1 s2 s3 : σ} (h0 : p s0 0 a = some (a', s1)) (h1 : p s1 1 b = some (b', s2)) (h2 : p s2 2 c = some (c', s3)) :
    m_hash_state_each (a, b, c) p s0 = some ((a', b', c'), s3) := by
  have e0 : idx [a, b, c] 0 = some a := rfl
  have e1 : idx [a', b, c] 1 = some b := rfl
  have e2 : idx [a', b', c] 2 = some c := rfl
  simp [m_hash_state_each, eachN0, m_hash_state_each_b1, bnd_def, h0, e0, h1, e1, h2, e2]
theorem mixb_eq (r : Int) (s : UInt64 × UInt64 × UInt64) : m_hash_Mix_b4 r s = some (pround r s) := by
  obtain ⟨a, b, c⟩ := s
  unfold m_hash_Mix_b4
  rw [each_eq (a' := psev (padd a (pcon r 0))) (b' := psev (padd b (pcon r 1))) (c' := psev (padd c (pcon r 2))) (s1 := (r, padd 0 (psev (padd a (pcon r 0))))) (s2 := (r, padd (padd 0 (psev (padd a (pcon r 0)))) (psev (padd b (pcon r 1)))))
    (s3 := (r, padd (padd (padd 0 (psev (padd a (pcon r 0)))) (psev (padd b (pcon r 1)))) (psev (padd c (pcon r 2))))) (by simp only [mix1_eq, obind_some']) (by simp only [mix1_eq, obind_some']) (by simp only [mix1_eq, obind_some'])]
  simp only [obind_some']
  change obind (m_hash_state_each _ _ (pall r (a, b, c))) _ = some (padd _ (pall r (a, b, c)), padd _ (pall r (a, b, c)), padd _ (pall r (a, b, c)))
  generalize pall r (a, b, c) = all
  rw [each_eq (s1 := all) (s2 := all) (s3 := all) (a' := padd (psev (padd a (pcon r 0))) all) (b' := padd (psev (padd b (pcon r 1))) all) (c' := padd (psev (padd c (pcon r 2))) all) (by simp only [mix2_eq, obind_some']) (by simp only [mix2_eq, obind_some']) (by simp only [mix2_eq, obind_some'])]
  rfl
def pmix (s : UInt64 × UInt64 × UInt64) : UInt64 × UInt64 × UInt64 := pround 7 (pround 6 (pround 5 (pround 4 (pround 3 (pround 2 (pround 1 (pround 0 s)))))))
theorem mix_eq (s : UInt64 × UInt64 × UInt64) : m_hash_Mix s = some (pmix s) := by
  simp only [m_hash_Mix, eachN0, mixb_eq, obind_some']
  rfl
def ple : List UInt8 → Nat → UInt64 → UInt64
  | [], _, s => s
  | b :: bs, i, s => ple bs (i + 1) (s ||| shlU (toU (b.toNat : Int)) (8 * i))
theorem b6_eq (b5 : List UInt8) : ∀ (l : List UInt8) (i : Nat) (s : UInt64), b5.drop i = l → i + l.length ≤ 1000000 → eachN0 (m_field_Of_b6 b5) l.length (i : Int) s = some (ple l i s) := by
  intro l
  induction l with
  | nil => intro i s _ _; rfl
  | cons b l ih =>
    intro i s h hb
    have hx : idx b5 (i : Int) = some b := idx_nat (by
      have : (b5.drop i)[0]? = some b := by rw [h]; rfl
      simpa using this)
    simp only [List.length_cons] at hb
    have hw : w64 (8 * (i : Int)) = ((8 * i : Nat) : Int) := by rw [w64_in (by omega) (by omega)]; omega
    have hstep : m_field_Of_b6 b5 (i : Int) s = some (s ||| shlU (toU (b.toNat : Int)) (8 * i)) := by
      simp only [m_field_Of_b6, hx, obind_some', hw, bnd_def]
      rw [if_pos (by omega)]; rfl
    show eachN0 (m_field_Of_b6 b5) (l.length + 1) _ _ = _
    simp only [eachN0, hstep, obind_some', ple]
    have := ih (i + 1) (s ||| shlU (toU (b.toNat : Int)) (8 * i)) (by rw [← List.drop_drop, h]; rfl) (by omega)
    simpa using this
def pof (n : Nat) (l : List UInt8) : List UInt64 :=
  match n, l with
  | _, [] => []
  | 0, _ => []
  | n + 1, l => ple (l.take 7) 0 0 :: pof n (l.drop 7)
theorem pof_len (n : Nat) : ∀ l, (pof n l).length ≤ n := by
  induction n with
  | zero => intro l; cases l <;> simp [pof]
  | succ n ih => intro l; cases l with
    | nil => simp [pof]
    | cons a l => simp only [pof, List.length_cons]; have := ih ((a :: l).drop 7); omega
theorem chunk_eq (a0 : List UInt8) (hb : a0.length ≤ 1000000) : ∀ (n i : Nat) (out : List UInt64), a0.length ≤ i + n → i ≤ 1000000 + 7 → out.length + n ≤ 1000000 →
    iter (m_slices_Chunk_byte_byte_1_b1 (fun (s : (List UInt64)) (b0 : List UInt8) => obind (m_field_Of_b4 b0 s) fun y => some (true, y)) a0 7) (n + 1) ((i : Int), out) = some (.inl (out ++ pof n (a0.drop i))) := by
  intro n
  induction n with
  | zero =>
    intro i out h _ _
    have : a0.drop i = [] := List.drop_eq_nil_of_le (by omega)
    refine iter_end ?_
    simp only [m_slices_Chunk_byte_byte_1_b1, this]
    rw [if_neg (by simp; omega)]
    simp [pof]
  | succ n ih =>
    intro i out h hi ho
    by_cases hlt : i < a0.length
    · obtain ⟨b, l, hl⟩ : ∃ b l, a0.drop i = b :: l := ⟨a0[i], a0.drop (i + 1), List.drop_eq_getElem_cons hlt⟩
      have hc1 : cut a0 (i : Int) (a0.length : Int) = some (a0.drop i) := by
        rw [cut_eq (by omega) (by omega)]; congr 1; rw [List.take_of_length_le (by simp)]
      have hlen : (a0.drop i).length = a0.length - i := by simp
      have hm : w64 ((i : Int) + minI 7 ((a0.drop i).length : Int)) = ((i + min 7 (a0.length - i) : Nat) : Int) := by
        rw [w64_in] <;> unfold minI <;> split <;> omega
      have hc2 : cut a0 (i : Int) ((i + min 7 (a0.length - i) : Nat) : Int) = some ((a0.drop i).take 7) := by
        rw [cut_eq (by omega) (by omega)]; congr 1
        rw [Nat.add_sub_cancel_left]
        by_cases h7 : 7 ≤ a0.length - i
        · rw [Nat.min_eq_left h7]
        · rw [Nat.min_eq_right (by omega), List.take_of_length_le (by simp), List.take_of_length_le (by simp; omega)]
      have hw : w64 ((i : Int) + 7) = ((i + 7 : Nat) : Int) := by rw [w64_in (by omega) (by omega)]; omega
      have hb4 : m_field_Of_b4 ((a0.drop i).take 7) out = some (out ++ [ple ((a0.drop i).take 7) 0 0]) := by
        have := b6_eq ((a0.drop i).take 7) ((a0.drop i).take 7) 0 0 rfl (by simp; omega)
        simp only [m_field_Of_b4]
        rw [show ((0 : Int)) = ((0 : Nat) : Int) from rfl, this]
        simp only [obind_some']
        rw [app_eq 8 (by simp; omega) (by simp; omega)]
        rfl
      rw [iter_step (s' := (((i + 7 : Nat) : Int), out ++ [ple ((a0.drop i).take 7) 0 0]))]
      · rw [ih (i + 7) _ (by omega) (by omega) (by simp; omega)]
        rw [hl]
        simp only [pof]
        rw [← hl, List.drop_drop]
        simp
      · simp only [m_slices_Chunk_byte_byte_1_b1]
        rw [if_pos (decide_eq_true (by omega)), hc1]
        simp only [obind_some', hm, hc2, hb4, hw]
        rfl
    · have : a0.drop i = [] := List.drop_eq_nil_of_le (by omega)
      refine iter_end ?_
      simp only [m_slices_Chunk_byte_byte_1_b1, this]
      rw [if_neg (by simp; omega)]
      simp [pof]
theorem of_eq (a0 : List UInt8) (hb : a0.length ≤ 900000) : m_field_Of a0 = some (pof a0.length a0) := by
  have h := chunk_eq a0 (by omega) a0.length 0 [] (by omega) (by omega) (by simp; omega)
  have h' := iter_up _ h (by omega)
  simp only [m_field_Of, m_slices_Chunk_byte_byte, m_slices_Chunk_byte_byte_1]
  rw [if_neg (by decide)]
  simp only [obind_some', List.drop_zero, List.nil_append] at h' ⊢
  rw [show ((0 : Int)) = ((0 : Nat) : Int) from rfl, h']
  simp only [obind_some']
def psumL (n : Nat) (l : List UInt64) (s : UInt64 × UInt64 × UInt64) : UInt64 × UInt64 × UInt64 :=
  match n, l with
  | _, [] => s
  | 0, _ => s
  | _ + 1, [x] => pmix (padd s.1 x, s.2.1, s.2.2)
  | n + 1, x :: y :: l => psumL n l (pmix (padd s.1 x, padd s.2.1 y, s.2.2))
theorem b4_eq1 (x : UInt64) (s : UInt64 × UInt64 × UInt64) : eachN0 (m_hash_Sum_b4 [x]) 1 0 s = some (padd s.1 x, s.2.1, s.2.2) := by
  have e0 : idx [x] (0 : Int) = some x := rfl
  have e1 : idx [s.1, s.2.1, s.2.2] (0 : Int) = some s.1 := rfl
  simp [eachN0, m_hash_Sum_b4, e0, e1, add_eq, bnd_def]
theorem b4_eq2 (x y : UInt64) (s : UInt64 × UInt64 × UInt64) : eachN0 (m_hash_Sum_b4 [x, y]) 2 0 s = some (padd s.1 x, padd s.2.1 y, s.2.2) := by
  have e0 : idx [x, y] (0 : Int) = some x := rfl
  have e1 : idx [s.1, s.2.1, s.2.2] (0 : Int) = some s.1 := rfl
  have e2 : idx [x, y] 1 = some y := rfl
  have e3 : idx [padd s.1 x, s.2.1, s.2.2] 1 = some s.2.1 := rfl
  simp [eachN0, m_hash_Sum_b4, e0, e1, e2, e3, add_eq, bnd_def]
theorem b3_nil (fst : Bool) (hf : fst = true) (s : UInt64 × UInt64 × UInt64) : m_hash_Sum_b3 ([], fst, s.1, s.2.1, s.2.2) = some (.inl ([], false, pmix s)) := by
  subst hf
  have hc : cut ([] : List UInt64) 0 0 = some [] := rfl
  have hmin : minI 2 (([] : List UInt64).length : Int) = 0 := rfl
  simp only [m_hash_Sum_b3, Bool.true_or, if_true, hmin]
  rw [show ((([] : List UInt64).length : Int)) = 0 from rfl, hc]
  simp only [obind_some', eachN0, List.length_nil, mix_eq]
theorem b3_end (s : UInt64 × UInt64 × UInt64) : m_hash_Sum_b3 ([], false, s.1, s.2.1, s.2.2) = some (.inr s) := rfl
theorem b3_one (fst : Bool) (x : UInt64) (s : UInt64 × UInt64 × UInt64) : m_hash_Sum_b3 ([x], fst, s.1, s.2.1, s.2.2) = some (.inl ([], false, pmix (padd s.1 x, s.2.1, s.2.2))) := by
  have hmin : minI 2 (([x] : List UInt64).length : Int) = 1 := rfl
  have h0 : (fst || decide ((([x] : List UInt64).length : Int) > 0)) = true := by simp
  have hc : cut [x] 0 1 = some [x] := rfl
  have hc2 : cut [x] 1 1 = some [] := rfl
  simp only [m_hash_Sum_b3, h0, if_true, hmin]
  rw [show ((([x] : List UInt64).length : Int)) = 1 from rfl, hc, hc2]
  simp only [obind_some', List.length_cons, List.length_nil]
  rw [b4_eq1]
  simp only [obind_some', mix_eq]
theorem b3_two (fst : Bool) (x y : UInt64) (l : List UInt64) (s : UInt64 × UInt64 × UInt64) : m_hash_Sum_b3 (x :: y :: l, fst, s.1, s.2.1, s.2.2) = some (.inl (l, false, pmix (padd s.1 x, padd s.2.1 y, s.2.2))) := by
  have hmin : minI 2 ((x :: y :: l).length : Int) = ((2 : Nat) : Int) := by unfold minI; rw [if_neg (by simp; omega)]; rfl
  have h0 : (fst || decide (((x :: y :: l).length : Int) > 0)) = true := by simp; right; omega
  have hc : cut (x :: y :: l) ((0 : Nat) : Int) ((2 : Nat) : Int) = some [x, y] := by rw [cut_eq (by omega) (by simp)]; rfl
  have hc2 : cut (x :: y :: l) ((2 : Nat) : Int) ((x :: y :: l).length : Int) = some l := by rw [cut_eq (by simp) (by omega)]; simp
  simp only [m_hash_Sum_b3, h0, if_true, hmin]
  rw [show ((0 : Int)) = ((0 : Nat) : Int) from rfl, hc, hc2]
  simp only [obind_some', List.length_cons, List.length_nil]
  rw [show ((0 : Nat) : Int) = 0 from rfl, b4_eq2]
  simp only [obind_some', mix_eq]
theorem b3_iter : ∀ (n : Nat) (l : List UInt64) (s : UInt64 × UInt64 × UInt64), l.length ≤ n → iter m_hash_Sum_b3 (n + 1) (l, false, s.1, s.2.1, s.2.2) = some (psumL n l s) := by
  intro n
  induction n with
  | zero =>
    intro l s h
    have : l = [] := List.eq_nil_of_length_eq_zero (by omega)
    subst this
    rw [iter_end (b3_end s)]; simp [psumL]
  | succ n ih =>
    intro l s h
    match l, h with
    | [], _ => rw [iter_end (b3_end s)]; simp [psumL]
    | [x], _ =>
      rw [iter_step (b3_one false x s)]
      have := ih [] (pmix (padd s.1 x, s.2.1, s.2.2)) (by simp)
      rw [this]; simp [psumL]
    | x :: y :: l, h =>
      rw [iter_step (b3_two false x y l s)]
      have := ih l (pmix (padd s.1 x, padd s.2.1 y, s.2.2)) (by simp at h; omega)
      rw [this]; simp [psumL]
def pend (l : List UInt64) (s : UInt64 × UInt64 × UInt64) : UInt64 × UInt64 × UInt64 :=
  match l with
  | [] => pmix s
  | l => psumL l.length l s
def hsum (b : List UInt8) : UInt64 × UInt64 :=
  ((pend (pof b.length b) (0, 0, toU (b.length : Int))).1, (pend (pof b.length b) (0, 0, toU (b.length : Int))).2.1)
theorem sum_eq (b : List UInt8) (hb : b.length ≤ 900000) : m_hash_Sum b = some (hsum b) := by
  simp only [m_hash_Sum, of_eq b hb, obind_some']
  have hl := pof_len b.length b
  have hk : hsum b = ((pend (pof b.length b) (0, 0, toU (b.length : Int))).1, (pend (pof b.length b) (0, 0, toU (b.length : Int))).2.1) := rfl
  rw [hk]
  clear hk
  generalize pof b.length b = l at *
  have h : iter m_hash_Sum_b3 FUEL (l, true, 0, 0, toU (b.length : Int)) = some (pend l (0, 0, toU (b.length : Int))) := by
    refine iter_up (l.length + 2) ?_ (by omega)
    match l with
    | [] =>
      rw [show ([] : List UInt64).length + 2 = 1 + 1 from rfl, iter_step (b3_nil true rfl (0, 0, toU (b.length : Int)))]
      have := b3_iter 0 [] (pmix (0, 0, toU (b.length : Int))) (by simp)
      rw [this]; simp [psumL, pend]
    | [x] =>
      rw [show ([x] : List UInt64).length + 2 = 2 + 1 from rfl, iter_step (b3_one true x (0, 0, toU (b.length : Int)))]
      have := b3_iter 1 [] (pmix (padd 0 x, 0, toU (b.length : Int))) (by simp)
      rw [this]; simp [psumL, pend]
    | x :: y :: l =>
      rw [iter_step (b3_two true x y l (0, 0, toU (b.length : Int)))]
      have := b3_iter (l.length + 2) l (pmix (padd 0 x, padd 0 y, toU (b.length : Int))) (by omega)
      have e : (x :: y :: l).length + 1 = l.length + 2 + 1 := rfl
      rw [e, this]
      simp only [psumL, pend, List.length_cons]
      congr 1
      clear this hl
      have : ∀ (n k : Nat) (l : List UInt64) (s : UInt64 × UInt64 × UInt64), l.length ≤ n → l.length ≤ k → psumL n l s = psumL k l s := by
        intro n
        induction n with
        | zero => intro k l s h _; have : l = [] := List.eq_nil_of_length_eq_zero (by omega); subst this; simp [psumL]
        | succ n ih =>
          intro k l s h hk
          match l, k, h, hk with
          | [], k, _, _ => cases k <;> simp [psumL]
          | [x], k + 1, _, _ => simp [psumL]
          | x :: y :: l, k + 1, h, hk => simp only [psumL]; exact ih k l _ (by simp at h; omega) (by simp at hk; omega)
      exact this _ _ _ _ (by omega) (by omega)
  rw [h]
  simp only [obind_some']
def pput : Nat → UInt64 → List UInt8
  | 0, _ => []
  | k + 1, n => toB ((shrU n (8 * k)).toNat : Int) :: pput k n
theorem pput_len (k : Nat) (n : UInt64) : (pput k n).length = k := by induction k with | zero => rfl | succ k ih => simp [pput, ih]
theorem put_iter (n : UInt64) : ∀ (k : Nat) (b : List UInt8), k ≤ 8 → b.length + k ≤ 1000000 → iter (m_hash_put_b1 n) (k + 1) (b, (k : Int) - 1) = some (b ++ pput k n) := by
  intro k
  induction k with
  | zero => intro b _ _; refine iter_end ?_; simp only [m_hash_put_b1, pput, List.append_nil]; rw [if_neg (by simp)]
  | succ k ih =>
    intro b hk hb
    have hw : w64 (8 * (((k + 1 : Nat) : Int) - 1)) = ((8 * k : Nat) : Int) := by rw [w64_in (by omega) (by omega)]; omega
    have hw2 : w64 ((((k + 1 : Nat) : Int) - 1) - 1) = (k : Int) - 1 := by rw [w64_in (by omega) (by omega)]; omega
    rw [iter_step (s' := (b ++ [toB ((shrU n (8 * k)).toNat : Int)], (k : Int) - 1))]
    · rw [ih _ (by omega) (by simp; omega)]; simp [pput]
    · simp only [m_hash_put_b1, hw, hw2]
      rw [if_pos (decide_eq_true (by omega)), if_pos (by omega), app_eq 1 (by simp; omega) (by simp; omega)]
      simp only [obind_some', Int.toNat_natCast]
theorem put_eq (n : UInt64) (k : Nat) (b : List UInt8) (hk : k ≤ 8) (hb : b.length ≤ 900000) : m_hash_put b n (k : Int) = some (b ++ pput k n) := by
  have hw : w64 ((k : Int) - 1) = (k : Int) - 1 := w64_in (by omega) (by omega)
  simp only [m_hash_put, hw, iter_up (k + 1) (put_iter n k b hk (by omega)) (by omega), obind_some']
def pbytes (s : UInt64 × UInt64) : List UInt8 := pput 8 s.1 ++ pput 8 s.2
theorem pbytes_len (s : UInt64 × UInt64) : (pbytes s).length = 16 := by simp [pbytes, pput_len]
theorem bytes_eq (s : UInt64 × UInt64) : m_hash_Bytes s = some (pbytes s) := by
  have e0 : idx [s.1, s.2] 0 = some s.1 := rfl
  have e1 : idx [s.1, s.2] 1 = some s.2 := rfl
  have h0 : m_hash_put [] s.1 8 = some ([] ++ pput 8 s.1) := put_eq s.1 8 [] (by omega) (by simp)
  have h1 : m_hash_put (pput 8 s.1) s.2 8 = some (pput 8 s.1 ++ pput 8 s.2) := put_eq s.2 8 _ (by omega) (by rw [pput_len]; omega)
  simp [m_hash_Bytes, eachN0, m_hash_Bytes_b2, e0, e1, h0, h1, pbytes]
def pcode : List UInt8 → List (List UInt8) → List UInt8
  | b, [] => b
  | b, p :: ps => pcode (b ++ pput 4 (toU (p.length : Int)) ++ p) ps
def plen : List (List UInt8) → Nat
  | [] => 0
  | p :: ps => 4 + p.length + plen ps
theorem pcode_len : ∀ (ps : List (List UInt8)) (b : List UInt8), (pcode b ps).length = b.length + plen ps := by
  intro ps
  induction ps with
  | nil => intro b; rfl
  | cons p ps ih => intro b; simp only [pcode, ih, plen, List.length_append, pput_len]; omega
theorem tag_each : ∀ (ps : List (List UInt8)) (i : Int) (b : List UInt8), b.length + plen ps ≤ 800000 → each0 m_hash_Tagged_b2 ps i b = some (pcode b ps) := by
  intro ps
  induction ps with
  | nil => intro i b _; rfl
  | cons p ps ih =>
    intro i b h
    simp only [plen] at h
    have h0 : m_hash_put b (toU (p.length : Int)) 4 = some (b ++ pput 4 (toU (p.length : Int))) := put_eq _ 4 b (by omega) (by omega)
    simp only [each0, m_hash_Tagged_b2, h0, obind_some']
    rw [app_eq 1 (by simp [pput_len]; omega) (by simp [pput_len]; omega)]
    simp only [obind_some']
    rw [ih _ _ (by simp [pput_len]; omega)]
    rfl
def ptag (t : ByteArray) (ps : List (List UInt8)) : UInt64 × UInt64 := hsum (pcode (toB (t.size : Int) :: t.data.toList) ps)
theorem tagged_eq (t : ByteArray) (ps : List (List UInt8)) (h : t.data.toList.length + plen ps ≤ 700000) : m_hash_Tagged t ps = some (ptag t ps) := by
  simp only [m_hash_Tagged]
  rw [app_eq 1 (by simp at h ⊢; omega) (by simp at h ⊢; omega)]
  simp only [obind_some']
  rw [tag_each _ _ _ (by simp at h ⊢; omega)]
  simp only [obind_some']
  rw [sum_eq _ (by rw [pcode_len]; simp at h ⊢; omega)]
  rfl
def ppair (a b : UInt64 × UInt64) : UInt64 × UInt64 := ptag ⟨#[110, 111, 100, 101]⟩ [pbytes a, pbytes b]
theorem pair_eq (a b : UInt64 × UInt64) : m_hash_Pair a b = some (ppair a b) := by
  simp only [m_hash_Pair, bytes_eq, obind_some']
  rw [tagged_eq _ _ (by simp [plen, pbytes_len])]
  rfl
end Go.Proofs.YtojlmhmiknocmaaGreat
end
section
namespace Go.Proofs.YtojlmhmiknocmaaGreat
open Go Go.Gw
abbrev FP : Nat := 2305843009213693951
theorem litP : (2305843009213693951 : UInt64).toNat = FP := rfl
theorem and_P (n : Nat) : n &&& 2305843009213693951 = n % 2305843009213693952 := Nat.and_two_pow_sub_one_eq_mod n 61
theorem toU_toNat {n : Nat} (h : n < 18446744073709551616) : (toU (n : Int)).toNat = n := by
  unfold toU
  rw [UInt64.toNat_ofNat']
  omega
theorem shlU3 {h : UInt64} (hh : h.toNat < 288230376151711744) : (shlU h 3).toNat = 8 * h.toNat := by
  unfold shlU
  rw [show (h.toNat : Int) * 2 ^ (min 3 64) = ((8 * h.toNat : Nat) : Int) from by
    rw [show min 3 64 = 3 from rfl]; omega]
  exact toU_toNat (by omega)
theorem shrU_toNat (x : UInt64) (k : Nat) (hk : k ≤ 64) : (shrU x k).toNat = x.toNat / 2 ^ k := by
  unfold shrU
  rw [UInt64.toNat_ofNat', Nat.min_eq_left hk]
  exact Nat.mod_eq_of_lt (Nat.lt_of_le_of_lt (Nat.div_le_self _ _) x.toNat_lt)
theorem or_add {a b : Nat} (h : b < 8) : 8 * a ||| b = 8 * a + b := (Nat.two_pow_add_eq_or_of_lt (i := 3) h a).symm
theorem pfold_nat {h l : UInt64} (hh : h.toNat < 288230376151711744) : (pfold h l).toNat = (h.toNat * 18446744073709551616 + l.toNat) % FP := by
  have hl := l.toNat_lt
  have e1 : (l &&& 2305843009213693951).toNat = l.toNat % 2305843009213693952 := by rw [UInt64.toNat_and, litP]; exact and_P _
  have e2 : (shrU l 61).toNat = l.toNat / 2305843009213693952 := shrU_toNat l 61 (by omega)
  have e3 : ((shlU h 3) ||| (shrU l 61)).toNat = 8 * h.toNat + l.toNat / 2305843009213693952 := by
    rw [UInt64.toNat_or, shlU3 hh, e2]; exact or_add (by omega)
  have e4 : ((l &&& 2305843009213693951) + ((shlU h 3) ||| (shrU l 61))).toNat = l.toNat % 2305843009213693952 + (8 * h.toNat + l.toNat / 2305843009213693952) := by
    rw [UInt64.toNat_add, e1, e3]; omega
  unfold pfold
  generalize hn : (l &&& 2305843009213693951) + ((shlU h 3) ||| (shrU l 61)) = n at *
  have e5 : (n &&& 2305843009213693951).toNat = n.toNat % 2305843009213693952 := by rw [UInt64.toNat_and, litP]; exact and_P _
  have e6 : (shrU n 61).toNat = n.toNat / 2305843009213693952 := shrU_toNat n 61 (by omega)
  have e7 : ((n &&& 2305843009213693951) + shrU n 61).toNat = n.toNat % 2305843009213693952 + n.toNat / 2305843009213693952 := by rw [UInt64.toNat_add, e5, e6]; omega
  dsimp only
  generalize (n &&& 2305843009213693951) + shrU n 61 = k at *
  split
  · rename_i hk
    rw [UInt64.toNat_sub_of_le _ _ (by rw [UInt64.le_iff_toNat_le]; exact hk), litP]
    simp only [FP] at *
    omega
  · simp only [FP] at *
    omega
theorem pone_nat (a : UInt64) : (pone a).toNat = a.toNat % FP := by
  unfold pone
  rw [pfold_nat (by decide)]
  simp
theorem padd_nat (a b : UInt64) : (padd a b).toNat = (a.toNat % FP + b.toNat % FP) % FP := by
  unfold padd
  rw [pone_nat, UInt64.toNat_add, pone_nat, pone_nat]
  simp only [FP]
  omega
theorem mul_high {p q r s : Nat} (hp : p < 4294967296) (hq : q < 4294967296) (hr : r < 4294967296) (hs : s < 4294967296) :
    (p * r + ((p * s + q * s / 4294967296) / 4294967296) + (((p * s + q * s / 4294967296) % 4294967296 + q * r) / 4294967296)) = ((p * 4294967296 + q) * (r * 4294967296 + s)) / 18446744073709551616 := by
  have h1 : (p * 4294967296 + q) * (r * 4294967296 + s) = (p * r) * 18446744073709551616 + (p * s + q * r) * 4294967296 + q * s := by
    rw [Nat.add_mul, Nat.mul_add, Nat.mul_add, Nat.add_mul]
    have a1 : p * 4294967296 * (r * 4294967296) = p * r * 18446744073709551616 := by rw [Nat.mul_assoc, Nat.mul_left_comm 4294967296, ← Nat.mul_assoc p]
    have a2 : p * 4294967296 * s = p * s * 4294967296 := Nat.mul_right_comm _ _ _
    have a3 : q * (r * 4294967296) = q * r * 4294967296 := (Nat.mul_assoc _ _ _).symm
    rw [a1, a2, a3]; omega
  rw [h1]
  generalize p * r = A
  generalize p * s = B
  generalize q * r = C
  generalize q * s = D
  omega
theorem phi_nat (a b : UInt64) : (phi a b).toNat = (a.toNat * b.toNat) / 18446744073709551616 := by
  have ha := a.toNat_lt
  have hb := b.toNat_lt
  have m32 : ∀ x : UInt64, (x &&& 4294967295).toNat = x.toNat % 4294967296 := fun x => by
    rw [UInt64.toNat_and]; exact Nat.and_two_pow_sub_one_eq_mod _ 32
  have s32 : ∀ x : UInt64, (shrU x 32).toNat = x.toNat / 4294967296 := fun x => shrU_toNat x 32 (by omega)
  have hp : a.toNat / 4294967296 < 4294967296 := by omega
  have hq : a.toNat % 4294967296 < 4294967296 := by omega
  have hr : b.toNat / 4294967296 < 4294967296 := by omega
  have hs : b.toNat % 4294967296 < 4294967296 := by omega
  have ea : a.toNat / 4294967296 * 4294967296 + a.toNat % 4294967296 = a.toNat := Nat.div_add_mod' _ _
  have eb : b.toNat / 4294967296 * 4294967296 + b.toNat % 4294967296 = b.toNat := Nat.div_add_mod' _ _
  have key := mul_high hp hq hr hs
  rw [ea, eb] at key
  have bd : ∀ x y : Nat, x < 4294967296 → y < 4294967296 → x * y ≤ 18446744065119617025 := fun x y hx hy => Nat.mul_le_mul (show x ≤ 4294967295 by omega) (show y ≤ 4294967295 by omega)
  have b1 := bd _ _ hp hr
  have b2 := bd _ _ hp hs
  have b3 := bd _ _ hq hr
  have b4 := bd _ _ hq hs
  have ab : a.toNat * b.toNat / 18446744073709551616 < 18446744073709551616 := by
    rw [Nat.div_lt_iff_lt_mul (by omega)]
    exact Nat.lt_of_le_of_lt (Nat.mul_le_mul (show a.toNat ≤ 18446744073709551615 by omega) (show b.toNat ≤ 18446744073709551615 by omega)) (by omega)
  unfold phi
  dsimp only
  rw [← key] at ab ⊢
  simp only [UInt64.toNat_add, UInt64.toNat_mul, s32, m32]
  generalize a.toNat / 4294967296 * (b.toNat / 4294967296) = A at *
  generalize a.toNat / 4294967296 * (b.toNat % 4294967296) = B at *
  generalize a.toNat % 4294967296 * (b.toNat / 4294967296) = C at *
  generalize a.toNat % 4294967296 * (b.toNat % 4294967296) = D at *
  omega
theorem pmul_nat (a b : UInt64) : (pmul a b).toNat = (a.toNat * b.toNat) % FP := by
  have h1 : (pone a).toNat < FP := by rw [pone_nat]; exact Nat.mod_lt _ (by decide)
  have h2 : (pone b).toNat < FP := by rw [pone_nat]; exact Nat.mod_lt _ (by decide)
  simp only [FP] at h1 h2
  have hm : (pone a).toNat * (pone b).toNat < 5316911983139663491615228241121378304 := Nat.lt_of_le_of_lt (Nat.mul_le_mul (show (pone a).toNat ≤ 2305843009213693950 by omega) (show (pone b).toNat ≤ 2305843009213693950 by omega)) (by omega)
  unfold pmul
  rw [pfold_nat (by rw [phi_nat]; omega), phi_nat, UInt64.toNat_mul]
  have : (pone a).toNat * (pone b).toNat / 18446744073709551616 * 18446744073709551616 + (pone a).toNat * (pone b).toNat % 2 ^ 64 = (pone a).toNat * (pone b).toNat := by omega
  rw [this, pone_nat, pone_nat, ← Nat.mul_mod]
theorem psev_nat (a : UInt64) : (psev a).toNat = a.toNat ^ 17 % FP := by
  unfold psev
  dsimp only
  simp only [pmul_nat, Nat.mul_mod_mod, Nat.mod_mul_mod]
  congr 1
  rw [show (17 : Nat) = 1 + 16 from rfl, Nat.pow_add, Nat.pow_one]
  congr 1
  generalize a.toNat = x
  rw [show (16 : Nat) = 2 * 2 * 2 * 2 from rfl, Nat.pow_mul, Nat.pow_mul, Nat.pow_mul]
  simp only [Nat.pow_two]
theorem u_ext {a b : UInt64} (h : a.toNat = b.toNat) : a = b := UInt64.toNat_inj.1 h
end Go.Proofs.YtojlmhmiknocmaaGreat
end
section
namespace Go.Proofs.YtojlmhmiknocmaaGreat
open Go Go.Gw
section
variable {x4 x5 x7 y u : UInt64}
theorem dq_lt (hd : x7.toNat < 4294967296) (hu : u.toNat < y.toNat) : (u.toNat * 4294967296 + x7.toNat) / y.toNat < 4294967296 := by
  rw [Nat.div_lt_iff_lt_mul (by omega)]
  have : (u.toNat + 1) * 4294967296 ≤ y.toNat * 4294967296 := Nat.mul_le_mul_right _ hu
  omega
theorem dcond {q r : UInt64} (h1 : 2147483648 ≤ x4.toNat ∧ x4.toNat < 4294967296) (h0 : x5.toNat < 4294967296) (hd : x7.toNat < 4294967296) (hy : y.toNat = x4.toNat * 4294967296 + x5.toNat) (hu : u.toNat < y.toNat)
    (hq : q.toNat * x4.toNat + r.toNat = u.toNat) (hr : r.toNat < 4294967296) :
    (((decide ((q.toNat : Int) ≥ 4294967296)) || (decide (((q * x5).toNat : Int) > (((4294967296 * r) + x7).toNat : Int)))) = true ↔ (u.toNat * 4294967296 + x7.toNat) / y.toNat < q.toNat) := by
  have hlt := dq_lt hd hu
  have e1 : ((4294967296 * r) + x7).toNat = 4294967296 * r.toNat + x7.toNat := by
    rw [UInt64.toNat_add, UInt64.toNat_mul, show (4294967296 : UInt64).toNat = 4294967296 from rfl]; omega
  rw [Bool.or_eq_true, decide_eq_true_eq, decide_eq_true_eq, e1]
  by_cases hb : 4294967296 ≤ q.toNat
  · constructor
    · intro _; omega
    · intro _; left; omega
  · have hB : q.toNat * x5.toNat ≤ 4294967295 * 4294967295 := Nat.mul_le_mul (by omega) (by omega)
    have e2 : (q * x5).toNat = q.toNat * x5.toNat := by rw [UInt64.toNat_mul]; omega
    have e3 : q.toNat * y.toNat = q.toNat * x4.toNat * 4294967296 + q.toNat * x5.toNat := by rw [hy, Nat.mul_add, Nat.mul_assoc]
    rw [e2, Nat.div_lt_iff_lt_mul (by omega), e3]
    generalize q.toNat * x4.toNat = A at *
    generalize q.toNat * x5.toNat = B at *
    omega
theorem dstep {q r : UInt64} (h1 : 2147483648 ≤ x4.toNat ∧ x4.toNat < 4294967296) (h0 : x5.toNat < 4294967296) (hd : x7.toNat < 4294967296) (hy : y.toNat = x4.toNat * 4294967296 + x5.toNat) (hu : u.toNat < y.toNat)
    (hq : q.toNat * x4.toNat + r.toNat = u.toNat) (hr : r.toNat < 4294967296) (hq2 : q.toNat ≤ 4294967297) (hc : (u.toNat * 4294967296 + x7.toNat) / y.toNat < q.toNat) :
    (q - 1).toNat = q.toNat - 1 ∧ (r + x4).toNat = r.toNat + x4.toNat ∧ (q - 1).toNat * x4.toNat + (r + x4).toNat = u.toNat ∧ (u.toNat * 4294967296 + x7.toNat) / y.toNat ≤ (q - 1).toNat ∧
    (4294967296 ≤ (r + x4).toNat → (q - 1).toNat = (u.toNat * 4294967296 + x7.toNat) / y.toNat) := by
  have q1 : 1 ≤ q.toNat := Nat.lt_of_le_of_lt (Nat.zero_le _) hc
  have e1 : (q - 1).toNat = q.toNat - 1 := by rw [UInt64.toNat_sub_of_le _ _ (by rw [UInt64.le_iff_toNat_le]; exact q1)]; rfl
  have e2 : (r + x4).toNat = r.toNat + x4.toNat := by rw [UInt64.toNat_add]; omega
  have e3 : (q.toNat - 1) * x4.toNat + x4.toNat = q.toNat * x4.toNat := by
    rw [← Nat.succ_mul]; congr 1; omega
  refine ⟨e1, e2, by rw [e1, e2, Nat.add_comm r.toNat, ← Nat.add_assoc, e3, hq], by rw [e1]; exact Nat.le_sub_one_of_lt hc, fun hb => ?_⟩
  rw [e2] at hb
  refine Nat.le_antisymm ?_ (by rw [e1]; exact Nat.le_sub_one_of_lt hc)
  rw [e1, Nat.le_div_iff_mul_le (Nat.lt_of_le_of_lt (Nat.zero_le _) hu)]
  clear hc e1 e2
  have hB : (q.toNat - 1) * x5.toNat ≤ 4294967296 * 4294967295 := Nat.mul_le_mul (by omega) (by omega)
  have e4 : (q.toNat - 1) * y.toNat = (q.toNat - 1) * x4.toNat * 4294967296 + (q.toNat - 1) * x5.toNat := by rw [hy, Nat.mul_add, Nat.mul_assoc]
  rw [e4]
  generalize (q.toNat - 1) * x4.toNat = A at *
  generalize (q.toNat - 1) * x5.toNat = B at *
  generalize q.toNat * x4.toNat = C at *
  omega
theorem dloop1 (h1 : 2147483648 ≤ x4.toNat ∧ x4.toNat < 4294967296) (h0 : x5.toNat < 4294967296) (hd : x7.toNat < 4294967296) (hy : y.toNat = x4.toNat * 4294967296 + x5.toNat) (hu : u.toNat < y.toNat) :
    ∀ (n : Nat) (q r : UInt64), q.toNat * x4.toNat + r.toNat = u.toNat → r.toNat < 4294967296 → q.toNat ≤ 4294967297 → (u.toNat * 4294967296 + x7.toNat) / y.toNat ≤ q.toNat → 4294967296 ≤ r.toNat + n * 2147483648 →
      ∃ p, iter (m_bits_Div64_b1 x4 x5 x7) (n + 1) (q, r) = some p ∧ p.toNat = (u.toNat * 4294967296 + x7.toNat) / y.toNat := by
  intro n
  induction n with
  | zero => intro q r _ hr _ _ hn; omega
  | succ n ih =>
    intro q r hq hr hq2 hle hn
    have hc := dcond h1 h0 hd hy hu hq hr
    by_cases hcc : (u.toNat * 4294967296 + x7.toNat) / y.toNat < q.toNat
    · obtain ⟨s1, s2, s3, s4, s5⟩ := dstep h1 h0 hd hy hu hq hr hq2 hcc
      by_cases hb : 4294967296 ≤ (r + x4).toNat
      · refine ⟨q - 1, iter_end ?_, s5 hb⟩
        unfold m_bits_Div64_b1
        rw [if_pos (hc.2 hcc), if_pos (by rw [decide_eq_true_eq]; dsimp only; omega)]
      · obtain ⟨p, p1, p2⟩ := ih (q - 1) (r + x4) s3 (by omega) (by omega) s4 (by omega)
        refine ⟨p, ?_, p2⟩
        rw [iter_step (s' := (q - 1, r + x4)), p1]
        unfold m_bits_Div64_b1
        rw [if_pos (hc.2 hcc), if_neg (by rw [decide_eq_true_eq]; dsimp only; omega)]
    · refine ⟨q, iter_end ?_, by omega⟩
      unfold m_bits_Div64_b1
      rw [if_neg (fun h => hcc (hc.1 h))]
theorem dloop2 (h1 : 2147483648 ≤ x4.toNat ∧ x4.toNat < 4294967296) (h0 : x5.toNat < 4294967296) (hd : x7.toNat < 4294967296) (hy : y.toNat = x4.toNat * 4294967296 + x5.toNat) (hu : u.toNat < y.toNat) :
    ∀ (n : Nat) (q r : UInt64), q.toNat * x4.toNat + r.toNat = u.toNat → r.toNat < 4294967296 → q.toNat ≤ 4294967297 → (u.toNat * 4294967296 + x7.toNat) / y.toNat ≤ q.toNat → 4294967296 ≤ r.toNat + n * 2147483648 →
      ∃ p, iter (m_bits_Div64_b2 x4 x5 x7) (n + 1) (r, q) = some p ∧ p.toNat = (u.toNat * 4294967296 + x7.toNat) / y.toNat := by
  intro n
  induction n with
  | zero => intro q r _ hr _ _ hn; omega
  | succ n ih =>
    intro q r hq hr hq2 hle hn
    have hc := dcond h1 h0 hd hy hu hq hr
    by_cases hcc : (u.toNat * 4294967296 + x7.toNat) / y.toNat < q.toNat
    · obtain ⟨s1, s2, s3, s4, s5⟩ := dstep h1 h0 hd hy hu hq hr hq2 hcc
      by_cases hb : 4294967296 ≤ (r + x4).toNat
      · refine ⟨q - 1, iter_end ?_, s5 hb⟩
        unfold m_bits_Div64_b2
        rw [if_pos (hc.2 hcc), if_pos (by rw [decide_eq_true_eq]; dsimp only; omega)]
      · obtain ⟨p, p1, p2⟩ := ih (q - 1) (r + x4) s3 (by omega) (by omega) s4 (by omega)
        refine ⟨p, ?_, p2⟩
        rw [iter_step (s' := (r + x4, q - 1)), p1]
        unfold m_bits_Div64_b2
        rw [if_pos (hc.2 hcc), if_neg (by rw [decide_eq_true_eq]; dsimp only; omega)]
    · refine ⟨q, iter_end ?_, by omega⟩
      unfold m_bits_Div64_b2
      rw [if_neg (fun h => hcc (hc.1 h))]
theorem dstart (h1 : 2147483648 ≤ x4.toNat ∧ x4.toNat < 4294967296) (h0 : x5.toNat < 4294967296) (hd : x7.toNat < 4294967296) (hy : y.toNat = x4.toNat * 4294967296 + x5.toNat) (hu : u.toNat < y.toNat) :
    (u / x4).toNat * x4.toNat + (u - (u / x4) * x4).toNat = u.toNat ∧ (u - (u / x4) * x4).toNat < 4294967296 ∧ (u / x4).toNat ≤ 4294967297 ∧ (u.toNat * 4294967296 + x7.toNat) / y.toNat ≤ (u / x4).toNat := by
  have e1 : (u / x4).toNat = u.toNat / x4.toNat := UInt64.toNat_div _ _
  have hmul : u.toNat / x4.toNat * x4.toNat ≤ u.toNat := Nat.div_mul_le_self _ _
  have hul := u.toNat_lt
  have e2 : ((u / x4) * x4).toNat = u.toNat / x4.toNat * x4.toNat := by rw [UInt64.toNat_mul, e1]; omega
  have e3 : (u - (u / x4) * x4).toNat = u.toNat - u.toNat / x4.toNat * x4.toNat := by
    rw [UInt64.toNat_sub_of_le _ _ (by rw [UInt64.le_iff_toNat_le, e2]; exact hmul), e2]
  have e4 : u.toNat - u.toNat / x4.toNat * x4.toNat = u.toNat % x4.toNat := by
    have := Nat.div_add_mod' u.toNat x4.toNat; omega
  have e5 := Nat.mod_lt u.toNat (show 0 < x4.toNat by omega)
  refine ⟨by rw [e1, e3]; omega, by rw [e3, e4]; omega, ?_, ?_⟩
  · rw [e1]
    have : u.toNat / x4.toNat < 4294967298 := by
      rw [Nat.div_lt_iff_lt_mul (by omega)]
      omega
    omega
  · rw [e1, Nat.le_div_iff_mul_le (by omega)]
    have h2 : (u.toNat * 4294967296 + x7.toNat) / y.toNat * y.toNat ≤ u.toNat * 4294967296 + x7.toNat := Nat.div_mul_le_self _ _
    generalize (u.toNat * 4294967296 + x7.toNat) / y.toNat = Q at *
    have h3 : Q * y.toNat = Q * x4.toNat * 4294967296 + Q * x5.toNat := by rw [hy, Nat.mul_add, Nat.mul_assoc]
    rw [h3] at h2
    generalize Q * x4.toNat = A at *
    generalize Q * x5.toNat = B at *
    omega
theorem drest {q : UInt64} (hu : u.toNat < y.toNat) (hq : q.toNat = (u.toNat * 4294967296 + x7.toNat) / y.toNat) : (((u * 4294967296) + x7) - (q * y)).toNat = (u.toNat * 4294967296 + x7.toNat) % y.toNat := by
  have hyl := y.toNat_lt
  have hm := Nat.mod_lt (u.toNat * 4294967296 + x7.toNat) (show 0 < y.toNat by omega)
  have hdm := Nat.div_add_mod' (u.toNat * 4294967296 + x7.toNat) y.toNat
  rw [UInt64.toNat_sub, UInt64.toNat_add, UInt64.toNat_mul, UInt64.toNat_mul, hq, show (4294967296 : UInt64).toNat = 4294967296 from rfl]
  generalize (u.toNat * 4294967296 + x7.toNat) / y.toNat * y.toNat = Z at *
  omega
end
theorem shlU_nat {x : UInt64} {k : Nat} (hk : k ≤ 63) : (shlU x k).toNat = (x.toNat * 2 ^ k) % 18446744073709551616 := by
  unfold shlU
  rw [Nat.min_eq_left (by omega), show (x.toNat : Int) * 2 ^ k = ((x.toNat * 2 ^ k : Nat) : Int) from by simp]
  unfold toU
  rw [UInt64.toNat_ofNat']
  generalize x.toNat * 2 ^ k = z
  omega
theorem or_nat {a b k : Nat} (h : b < 2 ^ k) : a * 2 ^ k ||| b = a * 2 ^ k + b := by
  rw [Nat.mul_comm]; exact (Nat.two_pow_add_eq_or_of_lt h a).symm
theorem div64_eq {hi lo y0 : UInt64} {s : Nat} (hs : s ≤ 63) (hlz : m_bits_LeadingZeros64 y0 = some (s : Int)) (hn1 : 9223372036854775808 ≤ y0.toNat * 2 ^ s) (hn2 : y0.toNat * 2 ^ s < 18446744073709551616) (hh : hi.toNat < y0.toNat) :
    ∃ q r, m_bits_Div64 hi lo y0 = some (q, r) ∧ r.toNat = (hi.toNat * 18446744073709551616 + lo.toNat) % y0.toNat := by
  have hyne : y0 ≠ 0 := fun e => by rw [e] at hh; simp at hh
  unfold m_bits_Div64
  rw [if_neg (by rw [beq_iff_eq]; omega), obind_some', if_neg (by rw [decide_eq_true_eq]; omega), obind_some']
  by_cases hz : hi.toNat = 0
  · rw [if_pos (by rw [beq_iff_eq]; omega), if_pos hyne, if_pos hyne]
    refine ⟨_, _, rfl, ?_⟩
    rw [UInt64.toNat_mod, hz]; simp
  · have hts : (toU (s : Int)).toNat = s := toU_toNat (by omega)
    have h64 : (64 - toU (s : Int)).toNat = 64 - s := by
      rw [UInt64.toNat_sub_of_le _ _ (by rw [UInt64.le_iff_toNat_le, hts]; show s ≤ 64; omega), hts]; rfl
    rw [if_neg (by rw [beq_iff_eq]; omega), hlz, obind_some', hts, h64]
    simp only [bnd_def]
    have hps : 0 < 2 ^ s := Nat.two_pow_pos s
    have hpp : 2 ^ s * 2 ^ (64 - s) = 18446744073709551616 := by rw [← Nat.pow_add, show s + (64 - s) = 64 from by omega]
    have hY : (shlU y0 s).toNat = y0.toNat * 2 ^ s := by rw [shlU_nat (by omega)]; exact Nat.mod_eq_of_lt hn2
    have hlo := lo.toNat_lt
    have hlod : lo.toNat / 2 ^ (64 - s) < 2 ^ s := by rw [Nat.div_lt_iff_lt_mul (Nat.two_pow_pos _), hpp]; omega
    have hhs : hi.toNat * 2 ^ s + 2 ^ s ≤ y0.toNat * 2 ^ s := by rw [← Nat.succ_mul]; exact Nat.mul_le_mul_right _ hh
    have hU : ((shlU hi s) ||| (shrU lo (64 - s))).toNat = hi.toNat * 2 ^ s + lo.toNat / 2 ^ (64 - s) := by
      rw [UInt64.toNat_or, shlU_nat (by omega), shrU_toNat _ _ (by omega), Nat.mod_eq_of_lt (by omega), or_nat hlod]
    have hL : (shlU lo s).toNat = (lo.toNat * 2 ^ s) % 18446744073709551616 := shlU_nat (by omega)
    have m32 : ∀ x : UInt64, (x &&& 4294967295).toNat = x.toNat % 4294967296 := fun x => by
      rw [UInt64.toNat_and]; exact Nat.and_two_pow_sub_one_eq_mod _ 32
    have s32 : ∀ x : UInt64, (shrU x 32).toNat = x.toNat / 4294967296 := fun x => shrU_toNat x 32 (by omega)
    -- the number, moved
    have hlos : lo.toNat * 2 ^ s = lo.toNat / 2 ^ (64 - s) * 18446744073709551616 + (lo.toNat * 2 ^ s) % 18446744073709551616 := by
      have e1 : lo.toNat * 2 ^ s / 18446744073709551616 = lo.toNat / 2 ^ (64 - s) := by
        rw [← hpp, Nat.mul_comm, Nat.mul_div_mul_left _ _ hps]
      rw [← e1]; exact (Nat.div_add_mod' _ _).symm
    have hN : (hi.toNat * 18446744073709551616 + lo.toNat) * 2 ^ s = (hi.toNat * 2 ^ s + lo.toNat / 2 ^ (64 - s)) * 18446744073709551616 + (lo.toNat * 2 ^ s) % 18446744073709551616 := by
      rw [Nat.add_mul, hlos, Nat.add_mul, Nat.mul_right_comm]
      omega
    generalize hgy : shlU y0 s = y at *
    generalize hgu : (shlU hi s) ||| (shrU lo (64 - s)) = u at *
    generalize hgl : shlU lo s = l at *
    have hyl := y.toNat_lt
    have a1 : 2147483648 ≤ (shrU y 32).toNat ∧ (shrU y 32).toNat < 4294967296 := by rw [s32]; omega
    have a0 : (y &&& 4294967295).toNat < 4294967296 := by rw [m32]; omega
    have ay : y.toNat = (shrU y 32).toNat * 4294967296 + (y &&& 4294967295).toNat := by rw [s32, m32]; omega
    have ad : (shrU l 32).toNat < 4294967296 := by rw [s32]; have := l.toNat_lt; omega
    have ae : (l &&& 4294967295).toNat < 4294967296 := by rw [m32]; omega
    have au : u.toNat < y.toNat := by rw [hU, hY]; omega
    have hx4 : shrU y 32 ≠ 0 := fun e => by rw [e] at a1; simp at a1
    obtain ⟨b1, b2, b3, b4⟩ := dstart a1 a0 ad ay au
    obtain ⟨q1, c1, c2⟩ := dloop1 a1 a0 ad ay au 2 _ _ b1 b2 b3 b4 (by omega)
    have hr1 := drest au c2
    have hr1l := Nat.mod_lt (u.toNat * 4294967296 + (shrU l 32).toNat) (show 0 < y.toNat by omega)
    rw [if_pos hx4, iter_up _ c1 (by omega), obind_some', obind_some', if_pos hx4]
    generalize hgv : ((u * 4294967296) + (shrU l 32)) - (q1 * y) = v at *
    have av : v.toNat < y.toNat := by omega
    obtain ⟨d1, d2, d3, d4⟩ := dstart a1 a0 ae ay av
    obtain ⟨q0, e1, e2⟩ := dloop2 a1 a0 ae ay av 2 _ _ d1 d2 d3 d4 (by omega)
    have hr0 := drest av e2
    rw [iter_up _ e1 (by omega), obind_some', obind_some']
    refine ⟨_, _, rfl, ?_⟩
    rw [shrU_toNat _ _ (by omega), hr0, hr1]
    have f1 : (((u.toNat * 4294967296 + (shrU l 32).toNat) % y.toNat) * 4294967296 + (l &&& 4294967295).toNat) % y.toNat = ((hi.toNat * 18446744073709551616 + lo.toNat) * 2 ^ s) % y.toNat := by
      rw [Nat.add_mod, Nat.mod_mul_mod, ← Nat.add_mod, hN, ← hU, ← hL, s32, m32]
      have e9 : (u.toNat * 4294967296 + l.toNat / 4294967296) * 4294967296 + l.toNat % 4294967296 = u.toNat * 18446744073709551616 + l.toNat := by omega
      rw [e9]
    rw [f1, hY, Nat.mul_mod_mul_right, Nat.mul_div_cancel _ hps]
end Go.Proofs.YtojlmhmiknocmaaGreat
end
section
namespace Go.Proofs.YtojlmhmiknocmaaGreat
open Go Go.Gw
abbrev GQ : Nat := 2305843009213691579
abbrev GR : Nat := 1152921504606845789
def Dv (y : UInt64) : Prop := ∃ s : Nat, s ≤ 63 ∧ m_bits_LeadingZeros64 y = some (s : Int) ∧ 9223372036854775808 ≤ y.toNat * 2 ^ s ∧ y.toNat * 2 ^ s < 18446744073709551616
theorem dvQ : Dv 2305843009213691579 := ⟨3, by omega, by kernel_rfl, by decide, by decide⟩
theorem dvR : Dv 1152921504606845789 := ⟨4, by omega, by kernel_rfl, by decide, by decide⟩
theorem dvR1 : Dv 1152921504606845788 := ⟨4, by omega, by kernel_rfl, by decide, by decide⟩
theorem Dv.pos {y : UInt64} (h : Dv y) : 0 < y.toNat := by
  obtain ⟨s, _, _, h1, _⟩ := h
  by_cases e : y.toNat = 0
  · rw [e] at h1; simp at h1
  · omega
theorem rem_eq {y : UInt64} (h : Dv y) (hi lo : UInt64) : ∃ z, m_bits_Rem64 hi lo y = some z ∧ z.toNat = (hi.toNat * 18446744073709551616 + lo.toNat) % y.toNat := by
  have hpos := h.pos
  obtain ⟨s, h1, h2, h3, h4⟩ := h
  have hyne : y ≠ 0 := fun e => by rw [e] at hpos; simp at hpos
  have hm : (hi % y).toNat = hi.toNat % y.toNat := UInt64.toNat_mod _ _
  obtain ⟨q, r, e1, e2⟩ := div64_eq (hi := hi % y) (lo := lo) h1 h2 h3 h4 (by rw [hm]; exact Nat.mod_lt _ hpos)
  refine ⟨r, ?_, ?_⟩
  · unfold m_bits_Rem64
    rw [if_pos hyne, e1, obind_some']
  · rw [e2, hm, Nat.add_mod, Nat.mod_mul_mod, ← Nat.add_mod]
def ofN (n : Nat) : UInt64 := UInt64.ofNat n
theorem ofN_nat {n : Nat} (h : n < 18446744073709551616) : (ofN n).toNat = n := by
  unfold ofN; rw [UInt64.toNat_ofNat']; exact Nat.mod_eq_of_lt h
theorem ofN_mod (n : Nat) {y : UInt64} (h : 0 < y.toNat) : (ofN (n % y.toNat)).toNat = n % y.toNat := ofN_nat (Nat.lt_of_lt_of_le (Nat.mod_lt _ h) (Nat.le_of_lt y.toNat_lt))
theorem of_nat {z : UInt64} {n : Nat} (h : z.toNat = n) : z = ofN n := by
  rw [← h]; exact u_ext (ofN_nat z.toNat_lt).symm
def mulM (y a b : UInt64) : UInt64 := ofN ((a.toNat * b.toNat) % y.toNat)
theorem mulM_nat {y : UInt64} (h : Dv y) (a b : UInt64) : (mulM y a b).toNat = (a.toNat * b.toNat) % y.toNat := ofN_mod _ h.pos
theorem ringMul_eq {y : UInt64} (h : Dv y) (a b : UInt64) : m_cyclic_ring_mul y a b = some (mulM y a b) := by
  obtain ⟨z, e1, e2⟩ := rem_eq h (phi a b) (a * b)
  unfold m_cyclic_ring_mul
  rw [mul64_eq, obind_some', e1, obind_some']
  rw [phi_nat, UInt64.toNat_mul, Nat.div_add_mod'] at e2
  rw [of_nat e2]; rfl
def addM (y a b : UInt64) : UInt64 := ofN ((a.toNat + b.toNat) % y.toNat)
theorem addM_nat {y : UInt64} (h : Dv y) (a b : UInt64) : (addM y a b).toNat = (a.toNat + b.toNat) % y.toNat := ofN_mod _ h.pos
theorem carry_nat (a b : UInt64) : (carryU a b).toNat * 18446744073709551616 + (a + b).toNat = a.toNat + b.toNat := by
  have := a.toNat_lt
  have := b.toNat_lt
  unfold carryU
  rw [UInt64.toNat_ofNat', UInt64.toNat_add]
  omega
theorem ringAdd_eq {y : UInt64} (h : Dv y) (a b : UInt64) : m_cyclic_ring_add y a b = some (addM y a b) := by
  have hpos := h.pos
  have hyne : y ≠ 0 := fun e => by rw [e] at hpos; simp at hpos
  obtain ⟨z, e1, e2⟩ := rem_eq h (carryU (a % y) (b % y)) ((a % y) + (b % y))
  unfold m_cyclic_ring_add
  rw [if_pos hyne, if_pos hyne, e1, obind_some']
  rw [carry_nat, UInt64.toNat_mod, UInt64.toNat_mod, ← Nat.add_mod] at e2
  rw [of_nat e2]; rfl
theorem num_aux {P d r c sm t : Nat} (hP : d * 18446744073709551616 + r = P) (hr : r < 18446744073709551616) (hd : d < 2305843009213693952) (hc : c * 18446744073709551616 + sm = r + t) (ht : t < 18446744073709551616) :
    ((d + c) % 18446744073709551616) * 18446744073709551616 + sm = P + t := by
  have h1 : c ≤ 1 := by omega
  rw [Nat.mod_eq_of_lt (show d + c < 18446744073709551616 by omega), Nat.add_mul, ← hP, Nat.add_assoc, hc, Nat.add_assoc]
def numM (s : UInt64 × UInt64) (y : UInt64) : UInt64 := ofN ((s.1.toNat * 2305843009213693952 + s.2.toNat) % y.toNat)
theorem num_eq {y : UInt64} (h : Dv y) (s : UInt64 × UInt64) : m_hash_Num s y = some (numM s y) := by
  have hpos := h.pos
  have hyne : y ≠ 0 := fun e => by rw [e] at hpos; simp at hpos
  obtain ⟨t, h1, h2, h3, h4⟩ := h
  have hp : (phi s.1 2305843009213693952).toNat = s.1.toNat * 2305843009213693952 / 18446744073709551616 := phi_nat _ _
  have hl : (s.1 * 2305843009213693952).toNat = s.1.toNat * 2305843009213693952 % 18446744073709551616 := UInt64.toNat_mul _ _
  have hs1 := s.1.toNat_lt
  have hs2 := s.2.toNat_lt
  have hc := carry_nat (s.1 * 2305843009213693952) s.2
  have hsum : (phi s.1 2305843009213693952 + carryU (s.1 * 2305843009213693952) s.2).toNat * 18446744073709551616 + (s.1 * 2305843009213693952 + s.2).toNat = s.1.toNat * 2305843009213693952 + s.2.toNat := by
    rw [UInt64.toNat_add, hp]
    rw [hl] at hc
    have hdl : s.1.toNat * 2305843009213693952 / 18446744073709551616 < 2305843009213693952 := by
      rw [Nat.div_lt_iff_lt_mul (by decide), Nat.mul_comm (2305843009213693952)]
      exact Nat.mul_lt_mul_of_pos_right hs1 (by decide)
    exact num_aux (Nat.div_add_mod' _ _) (Nat.mod_lt _ (by decide)) hdl hc hs2
  have hm : ((phi s.1 2305843009213693952 + carryU (s.1 * 2305843009213693952) s.2) % y).toNat = (phi s.1 2305843009213693952 + carryU (s.1 * 2305843009213693952) s.2).toNat % y.toNat := UInt64.toNat_mod _ _
  obtain ⟨q, r, e1, e2⟩ := div64_eq (hi := (phi s.1 2305843009213693952 + carryU (s.1 * 2305843009213693952) s.2) % y) (lo := s.1 * 2305843009213693952 + s.2) h1 h2 h3 h4 (by rw [hm]; exact Nat.mod_lt _ hpos)
  unfold m_hash_Num
  rw [if_neg (by rw [beq_iff_eq]; omega), mul64_eq, obind_some', if_pos hyne]
  dsimp only
  rw [e1, obind_some']
  rw [hm, Nat.add_mod, Nat.mod_mul_mod, ← Nat.add_mod, hsum] at e2
  rw [of_nat e2]; rfl
theorem tabL_all : ((List.range 256).all fun n => decide (n < 2 ^ (str_0.data.toList.getD n 0).toNat) && decide ((str_0.data.toList.getD n 0).toNat ≤ 8)) = true := by kernel_rfl
theorem tabL_len : str_0.data.toList.length = 256 := by kernel_rfl
theorem tabL (x : UInt64) (hx : x.toNat < 256) : ∃ b, idx str_0.data.toList ((toB (x.toNat : Int)).toNat : Int) = some b ∧ x.toNat < 2 ^ b.toNat ∧ b.toNat ≤ 8 := by
  have hb : (toB (x.toNat : Int)).toNat = x.toNat := by unfold toB; rw [UInt8.toNat_ofNat']; omega
  have h := List.all_eq_true.1 tabL_all x.toNat (List.mem_range.2 hx)
  rw [Bool.and_eq_true, decide_eq_true_eq, decide_eq_true_eq] at h
  have hlt : x.toNat < str_0.data.toList.length := by rw [tabL_len]; exact hx
  rw [List.getD_eq_getElem?_getD, List.getElem?_eq_getElem hlt, Option.getD_some] at h
  rw [hb]
  exact ⟨str_0.data.toList[x.toNat], idx_nat (by simp), h.1, h.2⟩
theorem len64_eq (a : UInt64) : ∃ L : Nat, m_bits_Len64 a = some (L : Int) ∧ a.toNat < 2 ^ L ∧ L ≤ 64 := by
  have ha := a.toNat_lt
  have h1 : ∃ (x : UInt64) (n : Nat), (if (decide ((a.toNat : Int) ≥ 4294967296)) = true then some ((shrU a 32), (32 : Int)) else some (a, 0)) = some (x, (n : Int)) ∧ n ≤ 32 ∧ x.toNat < 4294967296 ∧ a.toNat < (x.toNat + 1) * 2 ^ n := by
    split
    · refine ⟨shrU a 32, 32, rfl, by omega, ?_, ?_⟩ <;> rw [shrU_toNat a 32 (by omega)] <;> omega
    · rename_i h; rw [decide_eq_true_eq] at h; exact ⟨a, 0, rfl, by omega, by omega, by omega⟩
  obtain ⟨x, n, e1, n1, hx, hn⟩ := h1
  have h2 : ∃ (y : UInt64) (k : Nat), (if (decide ((x.toNat : Int) ≥ 65536)) = true then some ((shrU x 16), (w64 ((n : Int) + 16))) else some (x, (n : Int))) = some (y, (k : Int)) ∧ k ≤ 48 ∧ y.toNat < 65536 ∧ a.toNat < (y.toNat + 1) * 2 ^ k := by
    split
    · refine ⟨shrU x 16, n + 16, by rw [w64_in (by omega) (by omega)]; rfl, by omega, ?_, ?_⟩
      · rw [shrU_toNat x 16 (by omega)]; omega
      · rw [shrU_toNat x 16 (by omega), Nat.pow_add]
        refine Nat.lt_of_lt_of_le hn ?_
        have : x.toNat + 1 ≤ (x.toNat / 2 ^ 16 + 1) * 2 ^ 16 := by omega
        calc (x.toNat + 1) * 2 ^ n ≤ ((x.toNat / 2 ^ 16 + 1) * 2 ^ 16) * 2 ^ n := Nat.mul_le_mul_right _ this
          _ = (x.toNat / 2 ^ 16 + 1) * (2 ^ n * 2 ^ 16) := by rw [Nat.mul_assoc, Nat.mul_comm (2 ^ 16)]
    · rename_i h; rw [decide_eq_true_eq] at h; exact ⟨x, n, rfl, by omega, by omega, hn⟩
  obtain ⟨y, k, e2, k1, hy, hk⟩ := h2
  have h3 : ∃ (z : UInt64) (j : Nat), (if (decide ((y.toNat : Int) ≥ 256)) = true then some ((shrU y 8), (w64 ((k : Int) + 8))) else some (y, (k : Int))) = some (z, (j : Int)) ∧ j ≤ 56 ∧ z.toNat < 256 ∧ a.toNat < (z.toNat + 1) * 2 ^ j := by
    split
    · refine ⟨shrU y 8, k + 8, by rw [w64_in (by omega) (by omega)]; rfl, by omega, ?_, ?_⟩
      · rw [shrU_toNat y 8 (by omega)]; omega
      · rw [shrU_toNat y 8 (by omega), Nat.pow_add]
        refine Nat.lt_of_lt_of_le hk ?_
        have : y.toNat + 1 ≤ (y.toNat / 2 ^ 8 + 1) * 2 ^ 8 := by omega
        calc (y.toNat + 1) * 2 ^ k ≤ ((y.toNat / 2 ^ 8 + 1) * 2 ^ 8) * 2 ^ k := Nat.mul_le_mul_right _ this
          _ = (y.toNat / 2 ^ 8 + 1) * (2 ^ k * 2 ^ 8) := by rw [Nat.mul_assoc, Nat.mul_comm (2 ^ 8)]
    · rename_i h; rw [decide_eq_true_eq] at h; exact ⟨y, k, rfl, by omega, by omega, hk⟩
  obtain ⟨z, j, e3, j1, hz, hj⟩ := h3
  obtain ⟨b, e4, b1, b2⟩ := tabL z hz
  refine ⟨j + b.toNat, ?_, ?_, by omega⟩
  · unfold m_bits_Len64
    rw [e1, obind_some']
    dsimp only
    rw [e2, obind_some']
    dsimp only
    rw [e3, obind_some', e4, obind_some', bnd_def, w64_in (n := (b.toNat : Int)) (by omega) (by omega), w64_in (by omega) (by omega)]; rfl
  · refine Nat.lt_of_lt_of_le hj ?_
    rw [Nat.add_comm j, Nat.pow_add]
    exact Nat.mul_le_mul_right _ b1
def powN (y a n : UInt64) : UInt64 := ofN (a.toNat ^ n.toNat % y.toNat)
theorem and_pow (n j : Nat) : n &&& 2 ^ j = (n.testBit j).toNat * 2 ^ j := by
  apply Nat.eq_of_testBit_eq
  intro i
  rw [Nat.testBit_and, Nat.testBit_two_pow]
  by_cases h : j = i
  · subst h
    cases hb : n.testBit j <;> simp [hb, Nat.testBit_two_pow_self]
  · cases hb : n.testBit j <;> simp [h, Nat.testBit_two_pow]
theorem bit_eq (n : UInt64) {j : Nat} (hj : j ≤ 63) : (((n &&& (shlU 1 j)).toNat : Int) != 0) = decide (n.toNat / 2 ^ j % 2 = 1) := by
  have h1 : (shlU 1 j).toNat = 2 ^ j := by
    rw [shlU_nat hj, show (1 : UInt64).toNat = 1 from rfl, Nat.one_mul]
    exact Nat.mod_eq_of_lt (Nat.lt_of_le_of_lt (Nat.pow_le_pow_right (by omega) hj) (by decide))
  have h2 : (n &&& (shlU 1 j)).toNat = (n.toNat.testBit j).toNat * 2 ^ j := by rw [UInt64.toNat_and, h1, and_pow]
  rw [h2]
  have hp := Nat.two_pow_pos j
  rw [Nat.testBit_eq_decide_div_mod_eq]
  by_cases hb : n.toNat / 2 ^ j % 2 = 1
  · simp only [hb, decide_true, Bool.toNat_true, Nat.one_mul]
    rw [bne_iff_ne]; omega
  · simp only [hb, decide_false, Bool.toNat_false, Nat.zero_mul]; rfl
def mulF (y : UInt64) : Unit → UInt64 → UInt64 → Option (UInt64 × Unit) := fun (s1 : Unit) (b1 : UInt64) (b2 : UInt64) => obind (m_cyclic_ring_mul y b1 b2) fun x1 => some (x1, ())
theorem pow_it {y : UInt64} (h : Dv y) (a n : UInt64) : ∀ (j : Nat) (out : UInt64), j ≤ 64 → out.toNat = a.toNat ^ (n.toNat / 2 ^ j) % y.toNat →
    ∃ r, iter (m_cyclic_places_1_b1 (fun (s : UInt64 × Unit) (b0 : Bool) => obind (m_cyclic_power_b5 (mulF y) a b0 s) fun z => some (true, z)) n) (j + 1) ((j : Int) - 1, (out, ())) = some (.inl (r, ())) ∧ r.toNat = a.toNat ^ n.toNat % y.toNat := by
  intro j
  induction j with
  | zero =>
    intro out _ ho
    refine ⟨out, iter_end ?_, by rw [ho]; simp⟩
    unfold m_cyclic_places_1_b1
    rw [if_neg (by simp)]
  | succ j ih =>
    intro out hj ho
    have hw : w64 ((((j + 1 : Nat) : Int) - 1) - 1) = (j : Int) - 1 := by rw [w64_in (by omega) (by omega)]; omega
    have hk : (((j + 1 : Nat) : Int) - 1).toNat = j := by omega
    have hbit := bit_eq n (j := j) (by omega)
    have hdiv : n.toNat / 2 ^ (j + 1) = n.toNat / 2 ^ j / 2 := by rw [Nat.pow_succ, Nat.div_div_eq_div_mul]
    have hsq : (mulM y out out).toNat = a.toNat ^ (2 * (n.toNat / 2 ^ (j + 1))) % y.toNat := by
      rw [mulM_nat h, ho, ← Nat.mul_mod, ← Nat.pow_add, ← Nat.two_mul]
    by_cases hb : n.toNat / 2 ^ j % 2 = 1
    · have hn : (mulM y (mulM y out out) a).toNat = a.toNat ^ (n.toNat / 2 ^ j) % y.toNat := by
        rw [mulM_nat h, hsq, Nat.mod_mul_mod, ← Nat.pow_succ]
        congr 2; omega
      obtain ⟨r, r1, r2⟩ := ih (mulM y (mulM y out out) a) (by omega) hn
      refine ⟨r, ?_, r2⟩
      rw [iter_step (s' := ((j : Int) - 1, (mulM y (mulM y out out) a, ()))), r1]
      unfold m_cyclic_places_1_b1
      dsimp only
      rw [if_pos (by rw [decide_eq_true_eq]; omega), if_pos (by omega), hk, hbit]
      simp only [m_cyclic_power_b5, mulF, ringMul_eq h, obind_some', hb, decide_true, if_true, Bool.not_true, Bool.false_eq_true, if_false, hw]
    · have hn : (mulM y out out).toNat = a.toNat ^ (n.toNat / 2 ^ j) % y.toNat := by
        rw [hsq]; congr 2; omega
      obtain ⟨r, r1, r2⟩ := ih (mulM y out out) (by omega) hn
      refine ⟨r, ?_, r2⟩
      rw [iter_step (s' := ((j : Int) - 1, (mulM y out out, ()))), r1]
      unfold m_cyclic_places_1_b1
      dsimp only
      rw [if_pos (by rw [decide_eq_true_eq]; omega), if_pos (by omega), hk, hbit]
      simp only [m_cyclic_power_b5, mulF, ringMul_eq h, obind_some', hb, decide_false, Bool.not_true, Bool.false_eq_true, if_false, hw]
theorem power_eq {y : UInt64} (h : Dv y) (a n : UInt64) (h1 : 1 < y.toNat) : m_cyclic_power (mulF y) a n () = some (powN y a n, ()) := by
  obtain ⟨L, e1, e2, e3⟩ := len64_eq n
  have hw : w64 ((L : Int) - 1) = (L : Int) - 1 := w64_in (by omega) (by omega)
  obtain ⟨r, r1, r2⟩ := pow_it h a n L 1 e3 (by rw [Nat.div_eq_of_lt e2]; simp; exact (Nat.mod_eq_of_lt h1).symm)
  have r1' := iter_up _ r1 (by omega)
  unfold m_cyclic_power m_cyclic_places_1
  rw [show m_cyclic_places n = some n from rfl, obind_some', e1, obind_some', hw, r1', obind_some']
  simp only [obind_some']
  rw [of_nat r2]; rfl
theorem pow_eq (a n : UInt64) : m_cyclic_Pow a n = some (powN 2305843009213691579 a n) := by
  unfold m_cyclic_Pow
  have := power_eq dvQ a n (by decide)
  unfold mulF at this
  rw [this, obind_some']
theorem base_eq (n : UInt64) : m_cyclic_Base n = some (powN 2305843009213691579 4 n) := by
  unfold m_cyclic_Base
  rw [pow_eq, obind_some']
end Go.Proofs.YtojlmhmiknocmaaGreat
end
section
namespace Go.Proofs.YtojlmhmiknocmaaGreat
open Go Go.Gw
end Go.Proofs.YtojlmhmiknocmaaGreat
end
section
namespace Go.Proofs.YtojlmhmiknocmaaGreat
open Go Go.Gw
theorem bytes8_eq (n : UInt64) : m_sign_bytes n = some (pput 8 n) := by
  unfold m_sign_bytes
  simp [eachN0, m_sign_bytes_b2, idx, w64, bnd_def, pput]
def pubK (k : UInt64) : UInt64 := powN 2305843009213691579 4 k
theorem public_eq {k : UInt64} (h1 : 1 ≤ k.toNat) (h2 : k.toNat < GR) : m_sign_Public k = some (pubK k, 0) := by
  simp only [GR] at h2
  unfold m_sign_Public m_sign_odd
  rw [bnd_def, obind_some', if_neg (by simp; omega), base_eq, obind_some']; rfl
def chal (c p : UInt64) (msg : List UInt8) : UInt64 := numM (ptag ⟨#[115, 105, 103, 110]⟩ [pput 8 c, pput 8 p, msg]) 1152921504606845789
theorem chal_eq (c p : UInt64) {msg : List UInt8} (h : msg.length ≤ 600000) : m_sign_Challenge c p msg = some (chal c p msg) := by
  unfold m_sign_Challenge
  rw [bytes8_eq, obind_some', bytes8_eq, obind_some', tagged_eq _ _ (by simp [plen, pput_len]; omega), obind_some', num_eq dvR, obind_some']; rfl
def nonceK (k : UInt64) (msg : List UInt8) : UInt64 := numM (ptag ⟨#[110, 111, 110, 99, 101]⟩ [pput 8 k, msg]) 1152921504606845788 + 1
theorem some_eq' {t : ByteArray} {ps : List (List UInt8)} (h : t.data.toList.length + plen ps ≤ 700000) : m_sign_some t ps = some (numM (ptag t ps) 1152921504606845788 + 1) := by
  unfold m_sign_some
  rw [tagged_eq _ _ h, obind_some', num_eq dvR1, obind_some']
def signE (k : UInt64) (msg : List UInt8) : UInt64 := chal (pubK (nonceK k msg)) (pubK k) msg
def signS (k : UInt64) (msg : List UInt8) : g_api_Sig := ⟨signE k msg, addM 1152921504606845789 (mulM 1152921504606845789 (signE k msg) k) (nonceK k msg)⟩
theorem sign_eq {k : UInt64} {msg : List UInt8} (h1 : 1 ≤ k.toNat) (h2 : k.toNat < GR) (hm : msg.length ≤ 600000) : m_sign_Sign k msg = some (signS k msg, 0) := by
  unfold m_sign_Sign
  rw [public_eq h1 h2, obind_some', if_neg (by simp), bytes8_eq, obind_some', some_eq' (by simp [plen, pput_len]; omega), obind_some', base_eq, obind_some']
  dsimp only
  rw [show powN 2305843009213691579 4 (numM (ptag ⟨#[110, 111, 110, 99, 101]⟩ [pput 8 k, msg]) 1152921504606845788 + 1) = pubK (nonceK k msg) from rfl, chal_eq _ _ hm, obind_some']
  unfold m_cyclic_MulR m_cyclic_AddR
  rw [ringMul_eq dvR, obind_some', obind_some', ringAdd_eq dvR, obind_some', obind_some']; rfl
def gr : Nat := GR
end Go.Proofs.YtojlmhmiknocmaaGreat
end
section
namespace Go.Proofs.YtojlmhmiknocmaaGreat
open Go Go.Gw
theorem growL_eq (n : Nat) (h : n ≤ 1000000) : m_slices_Grow_api_Leaf_api_Leaf_nil (n : Int) = some [] := by
  have hw : w64 ((n : Int) - (w64 (0 - ((0 : Nat) : Int)))) = (n : Int) := by rw [w64_in (n := 0 - ((0 : Nat) : Int)) (by omega) (by omega), w64_in (by omega) (by omega)]; omega
  unfold m_slices_Grow_api_Leaf_api_Leaf_nil
  rw [if_neg (by rw [decide_eq_true_eq]; omega), obind_some', hw, bnd_def]
  by_cases h0 : n = 0
  · rw [if_neg (by simp; omega), obind_some']
  · rw [if_pos (by simp; omega), if_pos (by omega), obind_some']
theorem concatL_eq {xs ys : List g_api_Leaf} (h : xs.length + ys.length ≤ 100000) : m_slices_Concat_api_Leaf_api_Leaf [xs, ys] = some (xs ++ ys) := by
  have w1 : w64 (0 + (xs.length : Int)) = (xs.length : Int) := by rw [w64_in (by omega) (by omega)]; omega
  have w2 : w64 ((xs.length : Int) + (ys.length : Int)) = ((xs.length + ys.length : Nat) : Int) := by rw [w64_in (by omega) (by omega)]; omega
  have b1 : ∀ (i : Int) (x : List g_api_Leaf) (s : Int), 0 ≤ w64 (s + (x.length : Int)) → m_slices_Concat_api_Leaf_api_Leaf_b1 i x s = some (w64 (s + (x.length : Int))) := by
    intro i x s hs
    unfold m_slices_Concat_api_Leaf_api_Leaf_b1
    rw [bnd_def, if_neg (by rw [decide_eq_true_eq]; omega), obind_some']
  have b2 : ∀ (i : Int) (x s : List g_api_Leaf), s.length + x.length ≤ 100000 → m_slices_Concat_api_Leaf_api_Leaf_b2 i x s = some (s ++ x) := by
    intro i x s hs
    unfold m_slices_Concat_api_Leaf_api_Leaf_b2
    rw [app_eq 32 (by omega) (by omega), obind_some']
  unfold m_slices_Concat_api_Leaf_api_Leaf
  simp only [each0]
  rw [b1 _ _ _ (by rw [w1]; omega), obind_some', w1, b1 _ _ _ (by rw [w2]; omega), obind_some', w2, obind_some', obind_some', growL_eq _ (by omega), obind_some', b2 _ _ _ (by simp; omega), obind_some', List.nil_append, b2 _ _ _ h, obind_some', obind_some', obind_some']
theorem all_eq {l : g_api_Log} (h : l.L.length + l.Wait.length ≤ 100000) : m_logd_all l = some (l.L ++ l.Wait) := by
  unfold m_logd_all
  rw [concatL_eq h, obind_some']
def okBody (b : List UInt8) : Bool := decide (0 < b.length) && decide (b.length ≤ 2048)
def okNum (n : Int) : Bool := decide (0 ≤ n) && decide (n ≤ 1099511627776)
theorem number_eq (n : Int) : m_logd_number n = some (okNum n) := rfl
theorem isBody_eq (b : List UInt8) : m_logd_isBody b = some (okBody b) := by
  unfold m_logd_isBody okBody
  rw [bnd_def]
  congr 2
  · rw [decide_eq_decide]; omega
  · rw [decide_eq_decide]; omega
def kvOf (ks : List (List UInt8)) : List (ByteArray × Bool) := ks.map fun b => (bs b, true)
theorem bs_inj {a b : List UInt8} : eqS (bs a) (bs b) = true ↔ a = b := by simp [eqS, bs]
theorem lkI_kv (b : List UInt8) : ∀ (ks : List (List UInt8)) (i : Nat), (b ∈ ks → ∃ j, lkI (kvOf ks) (bs b) i = some (j, true)) ∧ (b ∉ ks → lkI (kvOf ks) (bs b) i = none) := by
  intro ks
  induction ks with
  | nil => intro i; exact ⟨fun h => absurd h (by simp), fun _ => rfl⟩
  | cons k ks ih =>
    intro i
    simp only [kvOf, List.map_cons, lkI]
    by_cases hk : b = k
    · subst hk
      rw [if_pos (bs_inj.2 rfl)]
      exact ⟨fun _ => ⟨i, rfl⟩, fun h => absurd (List.mem_cons_self ..) h⟩
    · rw [if_neg (fun h => hk (bs_inj.1 h))]
      refine ⟨fun h => (ih (i + 1)).1 ((List.mem_cons.1 h).resolve_left hk), fun h => (ih (i + 1)).2 fun h' => h (List.mem_cons_of_mem _ h')⟩
theorem lkB_kv (b : List UInt8) (ks : List (List UInt8)) : lkB (kvOf ks) (bs b) = decide (b ∈ ks) := by
  unfold lkB
  by_cases h : b ∈ ks
  · obtain ⟨j, hj⟩ := (lkI_kv b ks 0).1 h
    rw [hj, decide_eq_true h]; rfl
  · rw [(lkI_kv b ks 0).2 h, decide_eq_false h]; rfl
def okL : List g_api_Leaf → List (List UInt8) → Bool
  | [], _ => true
  | x :: r, ks => (okBody x.Body && okNum x.At && !decide (x.Body ∈ ks)) && okL r (ks ++ [x.Body])
theorem check_b3 : ∀ (xs : List g_api_Leaf) (ks : List (List UInt8)) (i : Int), eachR m_logd_Check_b3 xs i (kvOf ks) = some (if okL xs ks = true then .inl (kvOf (ks ++ xs.map (·.Body))) else .inr 1) := by
  intro xs
  induction xs with
  | nil => intro ks i; simp [eachR, okL]
  | cons x xs ih =>
    intro ks i
    have hb : m_logd_Check_b3 i x (kvOf ks) = some (if (okBody x.Body && okNum x.At && !decide (x.Body ∈ ks)) = true then .inl (kvOf (ks ++ [x.Body])) else .inr 1) := by
      unfold m_logd_Check_b3
      rw [isBody_eq, obind_some', number_eq, obind_some', lkB_kv]
      cases h1 : okBody x.Body with
      | false => rfl
      | true =>
        cases h2 : okNum x.At with
        | false => rfl
        | true =>
          by_cases h3 : x.Body ∈ ks
          · rw [decide_eq_true h3]; rfl
          · rw [decide_eq_false h3]
            simp only [Bool.not_true, Bool.false_eq_true, if_false, obind_some', Bool.or_self, Bool.and_self, Bool.not_false, if_true]
            rw [(lkI_kv x.Body ks 0).2 h3]
            simp [kvOf]
    have hc : okL (x :: xs) ks = ((okBody x.Body && okNum x.At && !decide (x.Body ∈ ks)) && okL xs (ks ++ [x.Body])) := rfl
    simp only [eachR, hb, obind_some']
    by_cases h : (okBody x.Body && okNum x.At && !decide (x.Body ∈ ks)) = true
    · have e : okL (x :: xs) ks = okL xs (ks ++ [x.Body]) := by rw [hc, h, Bool.true_and]
      rw [if_pos h, e]
      dsimp only
      rw [ih]
      simp
    · have e : okL (x :: xs) ks = false := by rw [hc, Bool.not_eq_true _ |>.mp h, Bool.false_and]
      rw [if_neg h, e]; rfl
def okH : List Int → Int → Int → Bool
  | [], _, _ => true
  | x :: r, last, n => (!decide (x ≤ last) && !decide (n ≤ x)) && okH r x n
theorem check_b5 (l : g_api_Log) : ∀ (xs : List Int) (last : Int) (i : Int), ∃ z, eachR (m_logd_Check_b5 l) xs i last = some (if okH xs last (l.L.length : Int) = true then .inl z else .inr 1) := by
  intro xs
  induction xs with
  | nil => intro last i; exact ⟨last, by simp [eachR, okH]⟩
  | cons x xs ih =>
    intro last i
    obtain ⟨z, hz⟩ := ih x (i + 1)
    refine ⟨z, ?_⟩
    have hb : m_logd_Check_b5 l i x last = some (if (!decide (x ≤ last) && !decide ((l.L.length : Int) ≤ x)) = true then .inl x else .inr 1) := by
      unfold m_logd_Check_b5
      by_cases h1 : x ≤ last
      · simp [h1]
      · by_cases h2 : (l.L.length : Int) ≤ x
        · simp [h2]
        · have h2' : ¬ (x ≥ (l.L.length : Int)) := h2
          simp [h1, h2, h2']
    have hc : okH (x :: xs) last (l.L.length : Int) = ((!decide (x ≤ last) && !decide ((l.L.length : Int) ≤ x)) && okH xs x (l.L.length : Int)) := rfl
    simp only [eachR, hb, obind_some']
    by_cases h : (!decide (x ≤ last) && !decide ((l.L.length : Int) ≤ x)) = true
    · have e : okH (x :: xs) last (l.L.length : Int) = okH xs x (l.L.length : Int) := by rw [hc, h, Bool.true_and]
      rw [if_pos h, e]
      exact hz
    · have e : okH (x :: xs) last (l.L.length : Int) = false := by rw [hc, Bool.not_eq_true _ |>.mp h, Bool.false_and]
      rw [if_neg h, e]; rfl
def okHd (l : g_api_Log) : Bool := okNum l.Id && !decide (l.Key.toNat = 0) && decide (l.Key.toNat < 1152921504606845789) && decide (0 ≤ l.Delay) && decide (l.Delay ≤ 1000)
def chk (l : g_api_Log) : Int :=
  if okHd l = true then (if okL (l.L ++ l.Wait) [] = true then (if okH l.Hide (-1) (l.L.length : Int) = true then (if 256 < (l.L ++ l.Wait).length then 2 else 0) else 1) else 1) else 1
theorem chkL_eq {l : g_api_Log} (h : l.L.length + l.Wait.length ≤ 100000) : m_logd_Check l = some (chk l) := by
  unfold m_logd_Check
  rw [number_eq, obind_some']
  have hc : (((((!okNum l.Id) || ((l.Key.toNat : Int) == 0)) || (decide ((l.Key.toNat : Int) ≥ 1152921504606845789))) || (decide (l.Delay < 0))) || (decide (l.Delay > 1000))) = !okHd l := by
    unfold okHd
    rw [Bool.eq_iff_iff]
    cases okNum l.Id <;> simp <;> omega
  rw [hc]
  unfold chk
  cases h0 : okHd l with
  | false => rfl
  | true =>
    rw [Bool.not_true, if_neg (by decide), if_pos rfl, all_eq h, obind_some']
    have h3 := check_b3 (l.L ++ l.Wait) [] 0
    rw [show kvOf [] = ([] : List (ByteArray × Bool)) from rfl] at h3
    rw [h3, obind_some']
    cases h1 : okL (l.L ++ l.Wait) [] with
    | false => simp
    | true =>
      simp only [if_true]
      obtain ⟨z, hz⟩ := check_b5 l l.Hide (-1) 0
      rw [hz, obind_some']
      cases h2 : okH l.Hide (-1) (l.L.length : Int) with
      | false => simp
      | true =>
        simp only [if_true]
        have hl : (kvOf ([] ++ (l.L ++ l.Wait).map (·.Body))).length = (l.L ++ l.Wait).length := by simp [kvOf]
        rw [hl]
        by_cases h4 : 256 < (l.L ++ l.Wait).length
        · rw [if_pos h4, if_pos (by rw [decide_eq_true_eq]; omega)]
        · rw [if_neg h4, if_neg (by rw [decide_eq_true_eq]; omega)]
end Go.Proofs.YtojlmhmiknocmaaGreat
end
section
namespace Go.Proofs.YtojlmhmiknocmaaGreat
open Go Go.Gw
theorem growB_eq (n : Nat) (h : n ≤ 1000000) : m_slices_Grow_byte_byte_nil (n : Int) = some [] := by
  have hw : w64 ((n : Int) - (w64 (0 - ((0 : Nat) : Int)))) = (n : Int) := by rw [w64_in (n := 0 - ((0 : Nat) : Int)) (by omega) (by omega), w64_in (by omega) (by omega)]; omega
  unfold m_slices_Grow_byte_byte_nil
  rw [if_neg (by rw [decide_eq_true_eq]; omega), obind_some', hw, bnd_def]
  by_cases h0 : n = 0
  · rw [if_neg (by simp; omega), obind_some']
  · rw [if_pos (by simp; omega), if_pos (by omega), obind_some']
theorem concatB_sum : ∀ (xs : List (List UInt8)) (i : Int) (n : Nat), n + xs.flatten.length ≤ 1000000 → each0 m_slices_Concat_byte_byte_b1 xs i (n : Int) = some ((n + xs.flatten.length : Nat) : Int) := by
  intro xs
  induction xs with
  | nil => intro i n _; simp [each0]
  | cons x xs ih =>
    intro i n h
    simp only [List.flatten_cons, List.length_append] at h
    have hw : w64 ((n : Int) + (x.length : Int)) = ((n + x.length : Nat) : Int) := by rw [w64_in (by omega) (by omega)]; omega
    have hb : m_slices_Concat_byte_byte_b1 i x (n : Int) = some ((n + x.length : Nat) : Int) := by
      unfold m_slices_Concat_byte_byte_b1
      rw [bnd_def, hw, if_neg (by rw [decide_eq_true_eq]; omega), obind_some']
    simp only [each0, hb, obind_some']
    rw [ih _ _ (by omega), List.flatten_cons, List.length_append, Nat.add_assoc]
theorem concatB_app : ∀ (xs : List (List UInt8)) (i : Int) (s : List UInt8), s.length + xs.flatten.length ≤ 1000000 → each0 m_slices_Concat_byte_byte_b2 xs i s = some (s ++ xs.flatten) := by
  intro xs
  induction xs with
  | nil => intro i s _; simp [each0]
  | cons x xs ih =>
    intro i s h
    simp only [List.flatten_cons, List.length_append] at h
    have hb : m_slices_Concat_byte_byte_b2 i x s = some (s ++ x) := by
      unfold m_slices_Concat_byte_byte_b2
      rw [app_eq 1 (by omega) (by omega), obind_some']
    simp only [each0, hb, obind_some']
    rw [ih _ _ (by rw [List.length_append]; omega), List.flatten_cons, List.append_assoc]
theorem concatB_eq {xs : List (List UInt8)} (h : xs.flatten.length ≤ 1000000) : m_slices_Concat_byte_byte xs = some xs.flatten := by
  have h1 := concatB_sum xs 0 0 (by omega)
  rw [show ((0 : Nat) : Int) = 0 from rfl, Nat.zero_add] at h1
  unfold m_slices_Concat_byte_byte
  rw [h1, obind_some', obind_some', growB_eq _ h, obind_some', concatB_app xs 0 [] (by simpa using h), obind_some', obind_some', List.nil_append]
theorem msg_eq {w : ByteArray} {ps : List (List UInt8)} (hw : w.data.toList.length ≤ 100) (h : ps.flatten.length ≤ 100000) : m_logd_msg w ps = some (w.data.toList ++ ps.flatten) := by
  unfold m_logd_msg
  have h0 : ([] : List UInt8).length = 0 := rfl
  rw [app_eq 1 (by omega) (by omega), obind_some', concatB_eq (by omega), obind_some', List.nil_append, app_eq 1 (by omega) (by omega), obind_some']
def e8 (n : Int) : List UInt8 := [toB (shr64 n 56), toB (shr64 n 48), toB (shr64 n 40), toB (shr64 n 32), toB (shr64 n 24), toB (shr64 n 16), toB (shr64 n 8), toB (shr64 n 0)]
theorem eight_eq' (n : Int) : m_logd_eight n = some (e8 n) := by
  unfold m_logd_eight
  simp [eachN0, m_logd_eight_b2, idx, w64, bnd_def, e8]
def promB (p : g_api_Promise) : List UInt8 := [112, 114, 111, 109, 105, 115, 101] ++ [e8 p.Log, e8 p.At, pbytes p.Leaf].flatten
def headB (h : g_api_Head) : List UInt8 := [104, 101, 97, 100] ++ [e8 h.Log, e8 h.Size, pbytes h.Root, e8 h.At].flatten
theorem e8_len (n : Int) : (e8 n).length = 8 := rfl
theorem ofHead_eq (h : g_api_Head) : m_logd_ofHead h = some (headB h) := by
  unfold m_logd_ofHead
  rw [eight_eq', obind_some', eight_eq', obind_some', bytes_eq, obind_some', eight_eq', obind_some', msg_eq (by decide) (by simp [e8_len, pbytes_len]), obind_some']; rfl
theorem headB_len (h : g_api_Head) : (headB h).length ≤ 600000 := by simp [headB, e8_len, pbytes_len]
def pleaf (b : List UInt8) : UInt64 × UInt64 := ptag ⟨#[108, 101, 97, 102]⟩ [b]
theorem leaf_eq {b : List UInt8} (h : b.length ≤ 600000) : m_merkle_Leaf b = some (pleaf b) := by
  unfold m_merkle_Leaf
  rw [tagged_eq _ _ (by simp [plen]; omega), obind_some']; rfl
def findB : List g_api_Leaf → List UInt8 → Nat → Option Nat
  | [], _, _ => none
  | x :: r, b, i => if x.Body = b then some i else findB r b (i + 1)
end Go.Proofs.YtojlmhmiknocmaaGreat
end
section
namespace Go.Proofs.YtojlmhmiknocmaaGreat
open Go Go.Gw
theorem chk_zero {l : g_api_Log} (h : chk l = 0) : okHd l = true ∧ okL (l.L ++ l.Wait) [] = true ∧ okH l.Hide (-1) (l.L.length : Int) = true ∧ (l.L ++ l.Wait).length ≤ 256 := by
  unfold chk at h
  cases h0 : okHd l with
  | false => rw [h0] at h; simp at h
  | true =>
    cases h1 : okL (l.L ++ l.Wait) [] with
    | false => rw [h0, h1] at h; simp at h
    | true =>
      cases h2 : okH l.Hide (-1) (l.L.length : Int) with
      | false => rw [h0, h1, h2] at h; simp at h
      | true =>
        rw [h0, h1, h2] at h
        simp only [if_true] at h
        by_cases h3 : 256 < (l.L ++ l.Wait).length
        · rw [if_pos h3] at h; cases h
        · exact ⟨rfl, rfl, rfl, by omega⟩
theorem key_of {l : g_api_Log} (h : okHd l = true) : 1 ≤ l.Key.toNat ∧ l.Key.toNat < GR ∧ okNum l.Id = true := by
  unfold okHd at h
  simp only [Bool.and_eq_true, Bool.not_eq_true', decide_eq_true_eq, decide_eq_false_iff_not] at h
  simp only [GR]
  exact ⟨by omega, by omega, h.1.1.1.1⟩
theorem okL_body : ∀ {xs : List g_api_Leaf} {ks : List (List UInt8)}, okL xs ks = true → ∀ x ∈ xs, x.Body.length ≤ 2048 := by
  intro xs
  induction xs with
  | nil => intro ks _ x hx; cases hx
  | cons y xs ih =>
    intro ks h x hx
    have h' : ((okBody y.Body && okNum y.At && !decide (y.Body ∈ ks)) && okL xs (ks ++ [y.Body])) = true := h
    rw [Bool.and_eq_true, Bool.and_eq_true, Bool.and_eq_true] at h'
    rcases List.mem_cons.1 hx with rfl | hx
    · have := h'.1.1.1
      unfold okBody at this
      simp at this
      exact this.2
    · exact ih h'.2 x hx
def pubOf (l : g_api_Log) : g_api_Key := ⟨l.Id, pubK l.Key, l.Delay⟩
def promOf (l : g_api_Log) (t : Int) (b : List UInt8) : g_api_Promise := ⟨l.Id, t, pleaf b, signS l.Key (promB ⟨l.Id, t, pleaf b, ⟨0, 0⟩⟩)⟩
def withW (l : g_api_Log) (b : List UInt8) (t : Int) : g_api_Log := ⟨l.Id, l.Key, l.Delay, l.L, l.Hide, l.Wait ++ [⟨b, t⟩]⟩
def merged (l : g_api_Log) : g_api_Log := ⟨l.Id, l.Key, l.Delay, l.L ++ l.Wait, l.Hide, []⟩
def zeroL : g_api_Log := ⟨0, 0, 0, [], [], []⟩
def zeroP : g_api_Promise := ⟨0, 0, (0, 0), ⟨0, 0⟩⟩
def headOf (l : g_api_Log) (n : Int) (r : UInt64 × UInt64) (t : Int) : g_api_Head := ⟨l.Id, n, r, t, signS l.Key (headB ⟨l.Id, n, r, t, ⟨0, 0⟩⟩)⟩
end Go.Proofs.YtojlmhmiknocmaaGreat
end
section
namespace Go.Proofs.YtojlmhmiknocmaaGreat
open Go Go.Gw
abbrev Sm := UInt64 × UInt64
def hp (n : Nat) : Nat := 2 ^ Nat.log2 (n - 1)
theorem hp_lt {n : Nat} (h : 2 ≤ n) : hp n < n := by
  have := Nat.log2_self_le (n := n - 1) (by omega)
  unfold hp; omega
theorem hp_pos (n : Nat) : 0 < hp n := Nat.two_pow_pos _
theorem hp_eq {n j : Nat} (h1 : 2 ^ j < n) (h2 : n ≤ 2 ^ (j + 1)) : hp n = 2 ^ j := by
  unfold hp
  have : Nat.log2 (n - 1) = j := by
    rw [Nat.log2_eq_iff (by have := Nat.two_pow_pos j; omega)]
    omega
  rw [this]
def rootR (l : List Sm) : Sm :=
  if h : l.length ≤ 1 then l.headD default else ppair (rootR (l.take (hp l.length))) (rootR (l.drop (hp l.length)))
termination_by l.length
decreasing_by
  · have := hp_lt (n := l.length) (by omega); simp; omega
  · have := hp_pos l.length; simp; omega
theorem rootR_one (x : Sm) : rootR [x] = x := by rw [rootR]; simp
theorem rootR_two {l : List Sm} (h : 2 ≤ l.length) : rootR l = ppair (rootR (l.take (hp l.length))) (rootR (l.drop (hp l.length))) := by
  rw [rootR]; rw [dif_neg (by omega)]
def pairsL : List Sm → List Sm
  | x :: y :: l => ppair x y :: pairsL l
  | _ => []
theorem pairsL_len : ∀ (n : Nat) (l : List Sm), l.length = 2 * n → (pairsL l).length = n := by
  intro n
  induction n with
  | zero => intro l h; have : l = [] := List.eq_nil_of_length_eq_zero (by omega); subst this; rfl
  | succ n ih =>
    intro l h
    match l, h with
    | x :: y :: l, h => simp only [pairsL, List.length_cons]; rw [ih l (by simp at h; omega)]
theorem pairsL_get : ∀ (n : Nat) (l : List Sm), l.length = 2 * n → ∀ (i : Nat) (a b : Sm), l[2 * i]? = some a → l[2 * i + 1]? = some b → (pairsL l)[i]? = some (ppair a b) := by
  intro n
  induction n with
  | zero => intro l h i a b ha; have : l = [] := List.eq_nil_of_length_eq_zero (by omega); subst this; simp at ha
  | succ n ih =>
    intro l h i a b ha hb
    match l, h with
    | x :: y :: l, h =>
      cases i with
      | zero => simp at ha hb; subst ha; subst hb; rfl
      | succ i =>
        simp only [pairsL, List.getElem?_cons_succ]
        exact ih l (by simp at h; omega) i a b (by simpa [Nat.mul_succ] using ha) (by simpa [Nat.mul_succ] using hb)
theorem pairsL_app : ∀ (n : Nat) (a b : List Sm), a.length = 2 * n → pairsL (a ++ b) = pairsL a ++ pairsL b := by
  intro n
  induction n with
  | zero => intro a b h; have : a = [] := List.eq_nil_of_length_eq_zero (by omega); subst this; rfl
  | succ n ih =>
    intro a b h
    match a, h with
    | x :: y :: l, h => simp only [pairsL, List.cons_append]; rw [ih l b (by simp at h; omega)]
theorem b3_step {n : Nat} {l : List Sm} (hl : l.length = 2 * n) (hn : n ≤ 1000) {i : Nat} (hi : i < n) :
    m_merkle_parts_1_b3 (i : Int) ((pairsL l).take i ++ l.drop i) = some ((pairsL l).take (i + 1) ++ l.drop (i + 1)) := by
  have hp := pairsL_len n l hl
  have ht : ((pairsL l).take i).length = i := by simp; omega
  have w1 : w64 (2 * (i : Int)) = ((2 * i : Nat) : Int) := by rw [w64_in (by omega) (by omega)]; omega
  have w2 : w64 (((2 * i : Nat) : Int) + 1) = ((2 * i + 1 : Nat) : Int) := by rw [w64_in (by omega) (by omega)]; omega
  obtain ⟨a, ha⟩ : ∃ a, l[2 * i]? = some a := ⟨l[2 * i]'(by omega), by simp⟩
  obtain ⟨b, hb⟩ : ∃ b, l[2 * i + 1]? = some b := ⟨l[2 * i + 1]'(by omega), by simp⟩
  have g : ∀ k x, l[i + k]? = some x → ((pairsL l).take i ++ l.drop i)[i + k]? = some x := fun k x hx => by
    rw [List.getElem?_append_right (by omega), ht, Nat.add_sub_cancel_left, List.getElem?_drop]; exact hx
  have i1 : idx ((pairsL l).take i ++ l.drop i) (((2 * i : Nat)) : Int) = some a := idx_nat (by rw [show 2 * i = i + i from by omega] at ha ⊢; exact g i a ha)
  have i2 : idx ((pairsL l).take i ++ l.drop i) (((2 * i + 1 : Nat)) : Int) = some b := idx_nat (by rw [show 2 * i + 1 = i + (i + 1) from by omega] at hb ⊢; exact g (i + 1) b hb)
  obtain ⟨c, hc⟩ : ∃ c, l[i]? = some c := ⟨l[i]'(by omega), by simp⟩
  have i3 : idx ((pairsL l).take i ++ l.drop i) (i : Int) = some c := idx_nat (by have := g 0 c (by simpa using hc); simpa using this)
  have hpg := pairsL_get n l hl i a b ha hb
  simp only [m_merkle_parts_1_b3, w1, i1, obind_some', w2, i2, pair_eq, i3, bnd_def, Int.toNat_natCast]
  refine congrArg some ?_
  rw [List.set_append_right _ _ (by omega), ht, Nat.sub_self]
  have hd : l.drop i = c :: l.drop (i + 1) := by
    have hlt : i < l.length := by omega
    rw [List.drop_eq_getElem_cons hlt]
    rw [List.getElem?_eq_getElem hlt] at hc
    rw [Option.some.inj hc]
  rw [hd, List.set_cons_zero, List.take_add_one, hpg]
  simp
theorem b3_all {n : Nat} {l : List Sm} (hl : l.length = 2 * n) (hn : n ≤ 1000) : ∀ (k i : Nat), i + k = n → eachN0 m_merkle_parts_1_b3 k (i : Int) ((pairsL l).take i ++ l.drop i) = some (pairsL l ++ l.drop n) := by
  intro k
  induction k with
  | zero =>
    intro i h
    have := pairsL_len n l hl
    have e : i = n := by omega
    subst e
    simp only [eachN0]
    rw [List.take_of_length_le (by omega)]
  | succ k ih =>
    intro i h
    simp only [eachN0, b3_step hl hn (show i < n by omega), obind_some']
    have := ih (i + 1) (by omega)
    simpa using this
theorem b2_of {l s : List Sm} {x y : Int} (h1 : (l.length : Int) > 1) (h2 : w64 (Int.tdiv (l.length : Int) 2) = x) (h3 : eachN0 m_merkle_parts_1_b3 x.toNat 0 l = some s) (h4 : w64 (Int.tdiv (s.length : Int) 2) = y) (h5 : 0 ≤ y ∧ y ≤ (s.length : Int)) :
    m_merkle_parts_1_b2 l = some (.inl (s.take y.toNat)) := by
  unfold m_merkle_parts_1_b2
  rw [if_pos (decide_eq_true h1), h2, bnd_def, h3, obind_some', obind_some', h4, bnd_def, if_pos h5]
theorem half_of {n m : Nat} (h : m = 2 * n) (hn : n ≤ 1000) : w64 (Int.tdiv (m : Int) 2) = (n : Int) := by
  subst h
  have : Int.tdiv ((2 * n : Nat) : Int) 2 = (n : Int) := by
    rw [Int.tdiv_eq_ediv_of_nonneg (by omega)]; omega
  rw [this, w64_in (by omega) (by omega)]
theorem b2_step {n : Nat} {l : List Sm} (hl : l.length = 2 * n) (h1 : 1 ≤ n) (hn : n ≤ 1000) : m_merkle_parts_1_b2 l = some (.inl (pairsL l)) := by
  have hp := pairsL_len n l hl
  have hb : eachN0 m_merkle_parts_1_b3 ((n : Int)).toNat 0 l = some (pairsL l ++ l.drop n) := by
    have := b3_all hl hn n 0 (by omega)
    rw [List.take_zero, List.drop_zero, List.nil_append] at this
    rw [Int.toNat_natCast]; exact this
  have hs : (pairsL l ++ l.drop n).length = 2 * n := by rw [List.length_append, hp, List.length_drop]; omega
  have := b2_of (by omega) (half_of hl hn) hb (half_of hs hn) ⟨by omega, by omega⟩
  rw [this, Int.toNat_natCast, List.take_append_of_le_length (by omega), List.take_of_length_le (by omega)]
def red : Nat → List Sm → List Sm
  | 0, l => l
  | j + 1, l => red j (pairsL l)
theorem red_out : ∀ (j : Nat) (l : List Sm), red (j + 1) l = pairsL (red j l) := by
  intro j
  induction j with
  | zero => intro l; rfl
  | succ j ih => intro l; rw [red, ih (pairsL l)]; rfl
theorem red_app : ∀ (j : Nat) (k : Nat) (a b : List Sm), a.length = 2 ^ j * k → red j (a ++ b) = red j a ++ red j b := by
  intro j
  induction j with
  | zero => intro k a b _; rfl
  | succ j ih =>
    intro k a b h
    have h' : a.length = 2 * (2 ^ j * k) := by rw [h, Nat.pow_succ]; rw [Nat.mul_assoc, Nat.mul_comm 2 k, ← Nat.mul_assoc, Nat.mul_comm _ 2]
    rw [red, red, red, pairsL_app _ a b h', ih k _ _ (pairsL_len _ _ h')]
theorem red_root : ∀ (j : Nat) (l : List Sm), l.length = 2 ^ j → red j l = [rootR l] := by
  intro j
  induction j with
  | zero =>
    intro l h
    match l, h with
    | [x], _ => rw [rootR_one]; rfl
  | succ j ih =>
    intro l h
    have hpw := Nat.two_pow_pos j
    have h2 : l.length = 2 ^ j + 2 ^ j := by rw [h, Nat.pow_succ]; omega
    have hh : hp l.length = 2 ^ j := hp_eq (by omega) (by omega)
    rw [rootR_two (by omega), hh, red_out]
    have ea : (l.take (2 ^ j)).length = 2 ^ j := by simp; omega
    have eb : (l.drop (2 ^ j)).length = 2 ^ j := by simp; omega
    have := red_app j 1 (l.take (2 ^ j)) (l.drop (2 ^ j)) (by rw [ea]; omega)
    rw [List.take_append_drop] at this
    rw [this, ih _ ea, ih _ eb]
    rfl
theorem b2_iter : ∀ (j : Nat) (l : List Sm), l.length = 2 ^ j → j ≤ 9 → iter m_merkle_parts_1_b2 (j + 1) l = some (red j l) := by
  intro j
  induction j with
  | zero =>
    intro l h _
    refine iter_end ?_
    simp only [m_merkle_parts_1_b2]
    rw [if_neg (by simp; omega)]; rfl
  | succ j ih =>
    intro l h hj
    have hpw : 2 ^ j ≤ 2 ^ 8 := Nat.pow_le_pow_right (by omega) (by omega)
    have hpos := Nat.two_pow_pos j
    have h' : l.length = 2 * 2 ^ j := by rw [h, Nat.pow_succ]; omega
    rw [iter_step (b2_step h' (by omega) (by omega)), red]
    exact ih _ (pairsL_len _ _ h') (by omega)
end Go.Proofs.YtojlmhmiknocmaaGreat
end
section
namespace Go.Proofs.YtojlmhmiknocmaaGreat
open Go Go.Gw
theorem rev_of {α : Type} {b1 : Int × Int × List α → Option ((Int × Int × List α) ⊕ List α)}
    (hb : ∀ s1, b1 s1 = if (decide (s1.1 < s1.2.1)) = true then
      obind (idx s1.2.2 s1.2.1) fun x4 => obind (idx s1.2.2 s1.1) fun x5 => obind (idx s1.2.2 s1.1) fun x6 => bnd (s1.2.2.set s1.1.toNat x4) fun x7 =>
      obind (idx x7 s1.2.1) fun x8 => bnd (x7.set s1.2.1.toNat x5) fun x9 => some (.inl ((w64 (s1.1 + 1)), (w64 (s1.2.1 - 1)), x9))
      else some (.inr s1.2.2)) (xs : List α) (hn : xs.length ≤ 1000000) :
    ∀ (k i : Nat) (s : List α), s.length = xs.length → xs.length ≤ k + i → (∀ q, q < xs.length → s[q]? = if q < i ∨ xs.length ≤ q + i then xs[xs.length - 1 - q]? else xs[q]?) →
      iter b1 (k + 1) ((i : Int), (xs.length : Int) - 1 - i, s) = some xs.reverse := by
  intro k
  induction k with
  | zero =>
    intro i s hl hk hq
    rw [iter_end (t := s)]
    · refine congrArg some (List.ext_getElem? fun q => ?_)
      by_cases h : q < xs.length
      · rw [hq q h, if_pos (by omega), List.getElem?_reverse h]
      · rw [List.getElem?_eq_none (by omega), List.getElem?_eq_none (by simp; omega)]
    · rw [hb, if_neg (by simp; omega)]
  | succ k ih =>
    intro i s hl hk hq
    by_cases hlt : (i : Int) < (xs.length : Int) - 1 - i
    · have hj : ((xs.length : Int) - 1 - i) = ((xs.length - 1 - i : Nat) : Int) := by omega
      obtain ⟨a, ha⟩ : ∃ a, s[xs.length - 1 - i]? = some a := ⟨s[xs.length - 1 - i]'(by omega), by simp⟩
      obtain ⟨b, hb'⟩ : ∃ b, s[i]? = some b := ⟨s[i]'(by omega), by simp⟩
      have ia : idx s ((xs.length - 1 - i : Nat) : Int) = some a := idx_nat ha
      have ib : idx s (i : Int) = some b := idx_nat hb'
      have ha2 : (s.set i a)[xs.length - 1 - i]? = some a := by rw [List.getElem?_set_ne (by omega)]; exact ha
      have ia2 : idx (s.set i a) ((xs.length - 1 - i : Nat) : Int) = some a := idx_nat ha2
      have w1 : w64 ((i : Int) + 1) = ((i + 1 : Nat) : Int) := by rw [w64_in (by omega) (by omega)]; omega
      have w2 : w64 (((xs.length - 1 - i : Nat) : Int) - 1) = (xs.length : Int) - 1 - ((i + 1 : Nat) : Int) := by rw [w64_in (by omega) (by omega)]; omega
      rw [iter_step (s' := (((i + 1 : Nat) : Int), (xs.length : Int) - 1 - ((i + 1 : Nat) : Int), (s.set i a).set (xs.length - 1 - i) b))]
      · refine ih (i + 1) _ (by simp [hl]) (by omega) fun q hqq => ?_
        have hqi := hq i (by omega)
        have hqj := hq (xs.length - 1 - i) (by omega)
        rw [if_neg (by omega)] at hqi hqj
        by_cases e1 : q = xs.length - 1 - i
        · subst e1
          rw [List.getElem?_set_self (by simp; omega), if_pos (by omega)]
          rw [show xs.length - 1 - (xs.length - 1 - i) = i from by omega, ← hqi, hb']
        · rw [List.getElem?_set_ne (Ne.symm e1)]
          by_cases e2 : q = i
          · subst e2
            rw [List.getElem?_set_self (by omega), if_pos (by omega)]
            rw [← ha, hqj]
          · rw [List.getElem?_set_ne (Ne.symm e2), hq q hqq]
            by_cases e3 : q < i ∨ xs.length ≤ q + i
            · rw [if_pos e3, if_pos (by omega)]
            · rw [if_neg e3, if_neg (by omega)]
      · rw [hb, if_pos (decide_eq_true hlt)]
        simp only [hj, ia, ib, obind_some', bnd_def, Int.toNat_natCast, ia2, w1, w2]
    · rw [iter_end (t := s)]
      · refine congrArg some (List.ext_getElem? fun q => ?_)
        by_cases h : q < xs.length
        · rw [hq q h, List.getElem?_reverse h]
          by_cases e3 : q < i ∨ xs.length ≤ q + i
          · rw [if_pos e3]
          · rw [if_neg e3, show xs.length - 1 - q = q from by omega]
        · rw [List.getElem?_eq_none (by omega), List.getElem?_eq_none (by simp; omega)]
      · rw [hb, if_neg (by simpa using hlt)]
theorem revP_eq (xs : List g_merkle_part) (hn : xs.length ≤ 1000000) : m_slices_Reverse_merkle_part_merkle_part xs = some xs.reverse := by
  have h := rev_of (b1 := m_slices_Reverse_merkle_part_merkle_part_b1) (fun _ => rfl) xs hn xs.length 0 xs rfl (by omega) (fun q hq => by rw [if_neg (by omega)])
  have h' := iter_up _ h (by omega)
  have w : w64 ((xs.length : Int) - 1) = (xs.length : Int) - 1 - ((0 : Nat) : Int) := by rw [w64_in (by omega) (by omega)]; omega
  unfold m_slices_Reverse_merkle_part_merkle_part
  rw [bnd_def, w]
  rw [show ((0 : Int), (xs.length : Int) - 1 - ((0 : Nat) : Int), xs) = (((0 : Nat) : Int), (xs.length : Int) - 1 - ((0 : Nat) : Int), xs) from rfl, h', obind_some']
theorem len_all : ((List.range 301).all fun n => match m_bits_Len (toU (n : Int)) with | some r => decide (r = (if n = 0 then 0 else ((Nat.log2 n + 1 : Nat) : Int))) | none => false) = true := by kernel_rfl
theorem len_eq {n : Nat} (h1 : 1 ≤ n) (h2 : n ≤ 300) : m_bits_Len (toU (n : Int)) = some ((Nat.log2 n + 1 : Nat) : Int) := by
  have h := List.all_eq_true.1 len_all n (List.mem_range.2 (by omega))
  split at h
  · rename_i r hr
    have := of_decide_eq_true h
    rw [if_neg (by omega)] at this
    rw [hr, this]
  · cases h
theorem log_le {n : Nat} (h1 : 1 ≤ n) (h2 : n ≤ 300) : Nat.log2 n ≤ 8 := by
  have : Nat.log2 n < 9 := (Nat.log2_lt (by omega)).2 (by omega)
  omega
theorem shl_one {j : Nat} (h : j ≤ 8) : shl64 1 j = ((2 ^ j : Nat) : Int) := by
  have e : ∀ j, j ≤ 8 → shl64 1 j = ((2 ^ j : Nat) : Int) := by decide
  exact e j h
def partsL : Nat → List Sm → List g_merkle_part
  | 0, _ => []
  | n + 1, l => if l.length = 0 then [] else ⟨((2 ^ Nat.log2 l.length : Nat) : Int), rootR (l.take (2 ^ Nat.log2 l.length))⟩ :: partsL n (l.drop (2 ^ Nat.log2 l.length))
def pcoll : List g_merkle_part → g_merkle_part → Option (Bool × List g_merkle_part) := fun s b0 => obind (m_slices_AppendSeq_merkle_part_merkle_part_104_b2 b0 s) fun y => some (true, y)
theorem pcoll_eq {s : List g_merkle_part} {b : g_merkle_part} (h : s.length ≤ 100000) : pcoll s b = some (true, s ++ [b]) := by
  simp only [pcoll, m_slices_AppendSeq_merkle_part_merkle_part_104_b2]
  rw [app_eq 24 (by simp; omega) (by simp; omega)]; rfl
theorem b1_step {l : List Sm} {out : List g_merkle_part} (h1 : 1 ≤ l.length) (h2 : l.length ≤ 300) (ho : out.length ≤ 100000) :
    m_merkle_parts_1_b1 pcoll (l, out) = some (.inl (l.drop (2 ^ Nat.log2 l.length), out ++ [⟨((2 ^ Nat.log2 l.length : Nat) : Int), rootR (l.take (2 ^ Nat.log2 l.length))⟩])) := by
  have hj := log_le h1 h2
  have hle := Nat.log2_self_le (n := l.length) (by omega)
  have w1 : w64 (((Nat.log2 l.length + 1 : Nat) : Int) - 1) = ((Nat.log2 l.length : Nat) : Int) := by rw [w64_in (by omega) (by omega)]; omega
  have hc1 : cut l 0 ((2 ^ Nat.log2 l.length : Nat) : Int) = some (l.take (2 ^ Nat.log2 l.length)) := by
    have := cut_eq (xs := l) (lo := 0) (hi := 2 ^ Nat.log2 l.length) (Nat.zero_le _) hle
    simpa using this
  have hc2 : cut l ((2 ^ Nat.log2 l.length : Nat) : Int) (l.length : Int) = some (l.drop (2 ^ Nat.log2 l.length)) := by
    rw [cut_eq hle (by omega)]; refine congrArg some ?_; rw [List.take_of_length_le (by simp)]
  have hcl : m_slices_Clone_api_Sum_api_Sum (l.take (2 ^ Nat.log2 l.length)) = some (l.take (2 ^ Nat.log2 l.length)) := by
    simp only [m_slices_Clone_api_Sum_api_Sum]
    rw [app_eq 16 (by simp; omega) (by simp; omega)]; rfl
  have hlt : (l.take (2 ^ Nat.log2 l.length)).length = 2 ^ Nat.log2 l.length := by simp; omega
  have hit := iter_up _ (b2_iter _ _ hlt (by omega)) (by omega)
  rw [red_root _ _ hlt] at hit
  have hix : idx [rootR (l.take (2 ^ Nat.log2 l.length))] 0 = some (rootR (l.take (2 ^ Nat.log2 l.length))) := rfl
  unfold m_merkle_parts_1_b1
  rw [if_pos (decide_eq_true (by simp; omega))]
  rw [len_eq h1 h2, obind_some', w1, if_pos (by omega), bnd_def, Int.toNat_natCast, shl_one hj, hc1, obind_some', hcl, obind_some', hit, obind_some', obind_some', hix, obind_some', pcoll_eq ho, obind_some', if_neg (by simp), hc2, obind_some']
theorem b1_iter : ∀ (n : Nat) (l : List Sm) (out : List g_merkle_part), l.length ≤ n → l.length ≤ 300 → out.length + n ≤ 100000 →
    iter (m_merkle_parts_1_b1 pcoll) (n + 1) (l, out) = some (.inl ([], out ++ partsL n l)) := by
  intro n
  induction n with
  | zero =>
    intro l out h _ _
    have : l = [] := List.eq_nil_of_length_eq_zero (by omega)
    subst this
    refine iter_end ?_
    simp only [m_merkle_parts_1_b1, partsL, List.append_nil]
    rfl
  | succ n ih =>
    intro l out h h2 ho
    by_cases h0 : l.length = 0
    · have : l = [] := List.eq_nil_of_length_eq_zero h0
      subst this
      refine iter_end ?_
      simp only [m_merkle_parts_1_b1, partsL, List.length_nil, if_true, List.append_nil]
      rfl
    · have hp := Nat.two_pow_pos (Nat.log2 l.length)
      rw [iter_step (b1_step (by omega) h2 (by omega)), ih _ _ (by simp; omega) (by simp; omega) (by simp; omega)]
      simp only [partsL]
      rw [if_neg h0]
      simp
theorem collect_eq (l : List Sm) (h : l.length ≤ 300) : ∃ q, m_slices_Collect_merkle_part_104 l = some (partsL l.length l, q) := by
  have hi := iter_up _ (b1_iter l.length l [] (by omega) h (by simp; omega)) (by omega)
  refine ⟨[], ?_⟩
  have hp : m_merkle_parts_1 pcoll l [] = some ([], partsL l.length l) := by
    unfold m_merkle_parts_1
    rw [hi, obind_some']
    simp
  have ha : m_slices_AppendSeq_merkle_part_merkle_part_104 [] l = some (partsL l.length l, []) := by
    unfold m_slices_AppendSeq_merkle_part_merkle_part_104
    show obind (m_merkle_parts_1 pcoll l []) _ = _
    rw [hp, obind_some']
  unfold m_slices_Collect_merkle_part_104
  rw [ha, obind_some']
def foldP : List g_merkle_part → Sm
  | [] => default
  | [p] => p.root_
  | p :: q :: ps => ppair p.root_ (foldP (q :: ps))
theorem foldP_app (p : g_merkle_part) : ∀ ps : List g_merkle_part, foldP (ps ++ [p]) = ps.foldr (fun q s => ppair q.root_ s) p.root_ := by
  intro ps
  induction ps with
  | nil => rfl
  | cons q ps ih =>
    cases ps with
    | nil => rfl
    | cons r ps => simp only [List.cons_append, foldP, List.foldr_cons] at ih ⊢; rw [ih]
theorem root_b4 : ∀ (ps : List g_merkle_part) (i : Int) (s : Sm), each0 m_merkle_Root_b4 ps i s = some (ps.foldl (fun s q => ppair q.root_ s) s) := by
  intro ps
  induction ps with
  | nil => intro i s; rfl
  | cons p ps ih => intro i s; simp only [each0, m_merkle_Root_b4, pair_eq, obind_some', List.foldl_cons]; exact ih _ _
theorem partsL_fold : ∀ (n : Nat) (l : List Sm), l.length ≤ n → 1 ≤ l.length → foldP (partsL n l) = rootR l := by
  intro n
  induction n with
  | zero => intro l h h1; omega
  | succ n ih =>
    intro l h h1
    have hle := Nat.log2_self_le (n := l.length) (by omega)
    have hlt := Nat.lt_log2_self (n := l.length)
    have hpw := Nat.two_pow_pos (Nat.log2 l.length)
    simp only [partsL]
    rw [if_neg (by omega)]
    by_cases he : l.length = 2 ^ Nat.log2 l.length
    · have hd : l.drop (2 ^ Nat.log2 l.length) = [] := List.drop_eq_nil_of_le (by omega)
      have ht : l.take (2 ^ Nat.log2 l.length) = l := List.take_of_length_le (by omega)
      rw [hd, ht]
      have : partsL n ([] : List Sm) = [] := by cases n <;> simp [partsL]
      rw [this]; rfl
    · have hh : hp l.length = 2 ^ Nat.log2 l.length := hp_eq (by omega) (by omega)
      have ih' := ih (l.drop (2 ^ Nat.log2 l.length)) (by simp; omega) (by simp; omega)
      have hne : partsL n (l.drop (2 ^ Nat.log2 l.length)) ≠ [] := by
        cases n with
        | zero => omega
        | succ n => simp only [partsL]; rw [if_neg (by simp; omega)]; simp
      rw [rootR_two (l := l) (by omega), hh]
      obtain ⟨q, qs, hq⟩ := List.exists_cons_of_ne_nil hne
      rw [hq] at ih' ⊢
      simp only [foldP]
      rw [ih']
def rootP (l : List Sm) : Sm := if l.length = 0 then ptag ⟨#[101, 109, 112, 116, 121]⟩ [] else rootR l
theorem partsL_len : ∀ (n : Nat) (l : List Sm), (partsL n l).length ≤ n := by
  intro n
  induction n with
  | zero => intro l; simp [partsL]
  | succ n ih => intro l; simp only [partsL]; split <;> simp; exact ih _
theorem root_eq (l : List Sm) (h : l.length ≤ 300) : m_merkle_Root l = some (rootP l) := by
  obtain ⟨q, hc⟩ := collect_eq l h
  have hlen := partsL_len l.length l
  unfold m_merkle_Root rootP
  rw [show m_merkle_parts l = some l from rfl, obind_some', hc, obind_some']
  by_cases h0 : l.length = 0
  · have hl : l = [] := List.eq_nil_of_length_eq_zero h0
    subst hl
    rw [if_pos (by rfl), if_pos (show ([] : List Sm).length = 0 from rfl), tagged_eq _ _ (by decide), obind_some']
  · have hf := partsL_fold l.length l (by omega) (by omega)
    have hne : partsL l.length l ≠ [] := by
      intro e
      have hh : ∃ n, l.length = n + 1 := ⟨l.length - 1, by omega⟩
      obtain ⟨n, hn⟩ := hh
      rw [hn] at e
      simp only [partsL] at e
      rw [if_neg h0] at e; cases e
    rw [if_neg h0]
    obtain ⟨init, last, hil⟩ : ∃ init last, partsL l.length l = init ++ [last] := ⟨_, _, (List.dropLast_concat_getLast hne).symm⟩
    rw [hil] at hf hlen ⊢
    rw [if_neg (by simp; omega), revP_eq _ (show (init ++ [last]).length ≤ 1000000 from by omega), obind_some', List.reverse_append, List.reverse_singleton, List.singleton_append]
    have e1 : idx (last :: init.reverse) 0 = some last := rfl
    have e2 : cut (last :: init.reverse) 1 ((last :: init.reverse).length : Int) = some init.reverse := by
      have := cut_eq (xs := last :: init.reverse) (lo := 1) (hi := (last :: init.reverse).length) (by simp) (by omega)
      rw [show ((1 : Nat) : Int) = 1 from rfl] at this
      rw [this]; simp [List.take_of_length_le]
    rw [e1, obind_some', e2, obind_some', show (last.root_.1, last.root_.2) = last.root_ from rfl, root_b4, obind_some', obind_some', List.foldl_reverse]
    rw [foldP_app] at hf
    rw [← hf]
end Go.Proofs.YtojlmhmiknocmaaGreat
end
section
namespace Go.Proofs.YtojlmhmiknocmaaGreat
open Go Go.Gw
def dirs (a l : Nat) : List Bool :=
  if h : l = 0 then [] else
  if a % 2 = 1 then true :: dirs (a / 2) (l / 2)
  else if a = l then dirs (a / 2) (l / 2) else false :: dirs (a / 2) (l / 2)
termination_by l
decreasing_by all_goals omega
theorem dirs_zero (a : Nat) : dirs a 0 = [] := by rw [dirs]; simp
theorem dirs_odd {a l : Nat} (h : l ≠ 0) (h1 : a % 2 = 1) : dirs a l = true :: dirs (a / 2) (l / 2) := by rw [dirs, dif_neg h, if_pos h1]
theorem dirs_skip {a : Nat} (h : a ≠ 0) (h1 : a % 2 = 0) : dirs a a = dirs (a / 2) (a / 2) := by rw [dirs, dif_neg h, if_neg (by omega), if_pos rfl]
theorem dirs_right {a l : Nat} (h : l ≠ 0) (h1 : a % 2 = 0) (h2 : a ≠ l) : dirs a l = false :: dirs (a / 2) (l / 2) := by rw [dirs, dif_neg h, if_neg (by omega), if_neg h2]
theorem dirs_lo : ∀ (j a l : Nat), a < 2 ^ j → 2 ^ j ≤ l → l < 2 ^ (j + 1) → dirs a l = dirs a (2 ^ j - 1) ++ [false] := by
  intro j
  induction j with
  | zero =>
    intro a l h1 h2 h3
    have ha : a = 0 := by simp at h1; omega
    have hl : l = 1 := by simp at h2 h3; omega
    subst ha; subst hl
    rw [dirs_right (by omega) (by omega) (by omega)]
    simp [dirs_zero]
  | succ j ih =>
    intro a l h1 h2 h3
    have e1 : 2 ^ (j + 1) = 2 * 2 ^ j := by rw [Nat.pow_succ]; omega
    have e2 : 2 ^ (j + 1 + 1) = 2 * (2 * 2 ^ j) := by rw [Nat.pow_succ, e1]; omega
    have hp := Nat.two_pow_pos j
    have := ih (a / 2) (l / 2) (by omega) (by omega) (by rw [e1]; omega)
    by_cases ho : a % 2 = 1
    · rw [dirs_odd (l := l) (by omega) ho, dirs_odd (l := 2 ^ (j + 1) - 1) (by omega) ho, this, show (2 ^ (j + 1) - 1) / 2 = 2 ^ j - 1 from by omega]; rfl
    · rw [dirs_right (l := l) (by omega) (by omega) (by omega), dirs_right (l := 2 ^ (j + 1) - 1) (by omega) (by omega) (by omega), this, show (2 ^ (j + 1) - 1) / 2 = 2 ^ j - 1 from by omega]; rfl
theorem dirs_hi : ∀ (j a l : Nat), 2 ^ j ≤ a → a ≤ l → l < 2 ^ (j + 1) → dirs a l = dirs (a - 2 ^ j) (l - 2 ^ j) ++ [true] := by
  intro j
  induction j with
  | zero =>
    intro a l h1 h2 h3
    have ha : a = 1 := by simp at h1 h3; omega
    have hl : l = 1 := by simp at h3; omega
    subst ha; subst hl
    rw [dirs_odd (by omega) (by omega)]
    simp [dirs_zero]
  | succ j ih =>
    intro a l h1 h2 h3
    have e1 : 2 ^ (j + 1) = 2 * 2 ^ j := by rw [Nat.pow_succ]; omega
    have e2 : 2 ^ (j + 1 + 1) = 2 * (2 * 2 ^ j) := by rw [Nat.pow_succ, e1]; omega
    have hp := Nat.two_pow_pos j
    have := ih (a / 2) (l / 2) (by omega) (by omega) (by rw [e1]; omega)
    have q1 : (a - 2 ^ (j + 1)) / 2 = a / 2 - 2 ^ j := by omega
    have q2 : (l - 2 ^ (j + 1)) / 2 = l / 2 - 2 ^ j := by omega
    by_cases hz : l = 2 ^ (j + 1)
    · have : a = l := by omega
      subst this
      rw [dirs_skip (by omega) (by omega), this, ← q1]
      rw [show (a - 2 ^ (j + 1)) = 0 from by omega]
    · by_cases ho : a % 2 = 1
      · rw [dirs_odd (l := l) (by omega) ho, dirs_odd (l := l - 2 ^ (j + 1)) (by omega) (by omega), this, q1, q2]; rfl
      · by_cases he : a = l
        · subst he
          rw [dirs_skip (by omega) (by omega), dirs_skip (a := a - 2 ^ (j + 1)) (by omega) (by omega), this, q1]
        · rw [dirs_right (l := l) (by omega) (by omega) he, dirs_right (l := l - 2 ^ (j + 1)) (by omega) (by omega) (by omega), this, q1, q2]; rfl
theorem hp_spec {s : Nat} (h : 2 ≤ s) : ∃ j, hp s = 2 ^ j ∧ 2 ^ j < s ∧ s ≤ 2 ^ (j + 1) := by
  have h1 := Nat.log2_self_le (n := s - 1) (by omega)
  have h2 := Nat.lt_log2_self (n := s - 1)
  exact ⟨Nat.log2 (s - 1), rfl, by omega, by omega⟩
theorem dirs_left {a s : Nat} (h : 2 ≤ s) (ha : a < hp s) : dirs a (s - 1) = dirs a (hp s - 1) ++ [false] := by
  obtain ⟨j, e, h1, h2⟩ := hp_spec h
  rw [e] at ha ⊢
  exact dirs_lo j a (s - 1) ha (by omega) (by omega)
theorem dirs_rest {a s : Nat} (h : 2 ≤ s) (ha : hp s ≤ a) (h' : a < s) : dirs a (s - 1) = dirs (a - hp s) (s - hp s - 1) ++ [true] := by
  obtain ⟨j, e, h1, h2⟩ := hp_spec h
  rw [e] at ha ⊢
  rw [dirs_hi j a (s - 1) ha (by omega) (by omega), show s - 1 - 2 ^ j = s - 2 ^ j - 1 from by omega]
def pop : Nat → Nat → Nat
  | 0, _ => 0
  | k + 1, n => n % 2 + pop k (n / 2)
def bits (n : Nat) : Nat := if n = 0 then 0 else Nat.log2 n + 1
theorem dirs_len : ∀ (a l : Nat), l ≤ 300 → (dirs a l).length ≤ 400 := by
  have : ∀ (n a l : Nat), l ≤ n → (dirs a l).length ≤ n := by
    intro n
    induction n with
    | zero => intro a l h; have : l = 0 := by omega
              subst this; simp [dirs_zero]
    | succ n ih =>
      intro a l h
      have := ih (a / 2) (l / 2) (by omega)
      rw [dirs]
      split
      · simp
      · split
        · simp; omega
        · split
          · omega
          · simp; omega
  intro a l h
  have := this l a l (Nat.le_refl _)
  omega
def goD {σ : Type} (f g : σ → Sm → σ) : List Bool → List Sm → σ → σ
  | d :: ds, p :: ps, x => goD f g ds ps (if d then f x p else g x p)
  | _, _, x => x
def lead (ds : List Bool) (ps : List Sm) (x : Sm) : Sm := goD (fun x p => ppair p x) (fun x p => ppair x p) ds ps x
end Go.Proofs.YtojlmhmiknocmaaGreat
end
section
namespace Go.Proofs.YtojlmhmiknocmaaGreat
open Go Go.Gw
theorem revS_eq (xs : List Sm) (hn : xs.length ≤ 1000000) : m_slices_Reverse_api_Sum_api_Sum xs = some xs.reverse := by
  have h := rev_of (b1 := m_slices_Reverse_api_Sum_api_Sum_b1) (fun _ => rfl) xs hn xs.length 0 xs rfl (by omega) (fun q hq => by rw [if_neg (by omega)])
  have h' := iter_up _ h (by omega)
  have w : w64 ((xs.length : Int) - 1) = (xs.length : Int) - 1 - ((0 : Nat) : Int) := by rw [w64_in (by omega) (by omega)]; omega
  unfold m_slices_Reverse_api_Sum_api_Sum
  rw [bnd_def, w]
  rw [show ((0 : Int), (xs.length : Int) - 1 - ((0 : Nat) : Int), xs) = (((0 : Nat) : Int), (xs.length : Int) - 1 - ((0 : Nat) : Int), xs) from rfl, h', obind_some']
theorem half_eq {n : Nat} (h1 : 2 ≤ n) (h2 : n ≤ 300) : m_merkle_half (n : Int) = some ((hp n : Nat) : Int) := by
  have hw : w64 ((n : Int) - 1) = ((n - 1 : Nat) : Int) := by rw [w64_in (by omega) (by omega)]; omega
  have hl := log_le (n := n - 1) (by omega) (by omega)
  have hw2 : w64 (((Nat.log2 (n - 1) + 1 : Nat) : Int) - 1) = ((Nat.log2 (n - 1) : Nat) : Int) := by rw [w64_in (by omega) (by omega)]; omega
  unfold m_merkle_half
  rw [hw, len_eq (by omega) (by omega), obind_some', hw2, if_pos (by omega), bnd_def, Int.toNat_natCast, shl_one hl]; rfl
theorem cutL {l : List Sm} {k : Nat} (h : k ≤ l.length) : cut l 0 (k : Int) = some (l.take k) := by
  have := cut_eq (xs := l) (lo := 0) (hi := k) (Nat.zero_le _) h
  simpa using this
theorem cutR {l : List Sm} {k : Nat} (h : k ≤ l.length) : cut l (k : Int) (l.length : Int) = some (l.drop k) := by
  rw [cut_eq h (by omega)]; refine congrArg some ?_; rw [List.take_of_length_le (by simp)]
theorem rootP_R {l : List Sm} (h : 1 ≤ l.length) : rootP l = rootR l := by unfold rootP; rw [if_neg (by omega)]
def wayR (l : List Sm) (a : Nat) : List Sm :=
  if h : l.length ≤ 1 then [] else
  if a < hp l.length then wayR (l.take (hp l.length)) a ++ [rootR (l.drop (hp l.length))]
  else wayR (l.drop (hp l.length)) (a - hp l.length) ++ [rootR (l.take (hp l.length))]
termination_by l.length
decreasing_by
  · have := hp_lt (n := l.length) (by omega); simp; omega
  · have := hp_pos l.length; simp; omega
theorem wayR_one {l : List Sm} (h : l.length ≤ 1) (a : Nat) : wayR l a = [] := by rw [wayR, dif_pos h]
theorem wayR_lo {l : List Sm} {a : Nat} (h : 2 ≤ l.length) (ha : a < hp l.length) : wayR l a = wayR (l.take (hp l.length)) a ++ [rootR (l.drop (hp l.length))] := by rw [wayR, dif_neg (by omega), if_pos ha]
theorem wayR_hi {l : List Sm} {a : Nat} (h : 2 ≤ l.length) (ha : hp l.length ≤ a) : wayR l a = wayR (l.drop (hp l.length)) (a - hp l.length) ++ [rootR (l.take (hp l.length))] := by rw [wayR, dif_neg (by omega), if_neg (by omega)]
theorem way_len : ∀ (n : Nat) (l : List Sm) (a : Nat), l.length ≤ n → a < l.length → (wayR l a).length = (dirs a (l.length - 1)).length := by
  intro n
  induction n with
  | zero => intro l a h h1; omega
  | succ n ih =>
    intro l a h h1
    by_cases h2 : 2 ≤ l.length
    · have hlt := hp_lt h2
      have hpos := hp_pos l.length
      by_cases ha : a < hp l.length
      · have := ih (l.take (hp l.length)) a (by first | omega | (simp; omega)) (by first | omega | (simp; omega))
        rw [wayR_lo h2 ha, dirs_left h2 ha]
        simp only [List.length_append, List.length_singleton, this, List.length_take]
        rw [Nat.min_eq_left (by omega)]
      · have := ih (l.drop (hp l.length)) (a - hp l.length) (by first | omega | (simp; omega)) (by first | omega | (simp; omega))
        rw [wayR_hi h2 (by omega), dirs_rest h2 (by omega) h1]
        simp only [List.length_append, List.length_singleton, this, List.length_drop]
    · rw [wayR_one (by omega), show l.length - 1 = 0 from by omega, dirs_zero]; rfl
theorem prove_rec : ∀ (n : Nat) (l : List Sm) (a : Nat) (k : List Sm), l.length ≤ n → a < l.length → l.length ≤ 256 → k.length + l.length ≤ 1000 → r_merkle_Prove_1 n l (a : Int) k = some (k ++ wayR l a) := by
  intro n
  induction n with
  | zero => intro l a k h h1; omega
  | succ n ih =>
    intro l a k h h1 h3 hk
    simp only [r_merkle_Prove_1]
    by_cases h2 : 2 ≤ l.length
    · have hlt := hp_lt h2
      have hpos := hp_pos l.length
      rw [if_neg (by first | omega | (simp; omega)), half_eq h2 (by omega), obind_some', cutL (by omega), obind_some', cutR (by omega), obind_some']
      by_cases ha : a < hp l.length
      · have := ih (l.take (hp l.length)) a k (by first | omega | (simp; omega)) (by first | omega | (simp; omega)) (by first | omega | (simp; omega)) (by first | omega | (simp; omega))
        have hw := way_len _ _ a (Nat.le_refl (l.take (hp l.length)).length) (by first | omega | (simp; omega))
        have hwl : (wayR (l.take (hp l.length)) a).length ≤ 400 := by
          rw [hw]; exact dirs_len _ _ (by first | omega | (simp; omega))
        rw [if_neg (by first | omega | (simp; omega)), obind_some', this, obind_some', root_eq _ (by first | omega | (simp; omega)), obind_some', rootP_R (by first | omega | (simp; omega)), app_eq 16 (by first | omega | (simp; omega)) (by first | omega | (simp; omega)), obind_some', wayR_lo h2 ha]
        simp
      · have := ih (l.drop (hp l.length)) (a - hp l.length) k (by first | omega | (simp; omega)) (by first | omega | (simp; omega)) (by first | omega | (simp; omega)) (by first | omega | (simp; omega))
        have hw := way_len _ _ (a - hp l.length) (Nat.le_refl (l.drop (hp l.length)).length) (by first | omega | (simp; omega))
        have hwl : (wayR (l.drop (hp l.length)) (a - hp l.length)).length ≤ 400 := by
          rw [hw]; exact dirs_len _ _ (by first | omega | (simp; omega))
        have hwi : w64 ((a : Int) - (hp l.length : Nat)) = ((a - hp l.length : Nat) : Int) := by rw [w64_in (by omega) (by omega)]; omega
        rw [if_pos (by first | omega | (simp; omega)), obind_some', hwi, this, obind_some', root_eq _ (by first | omega | (simp; omega)), obind_some', rootP_R (by first | omega | (simp; omega)), app_eq 16 (by first | omega | (simp; omega)) (by first | omega | (simp; omega)), obind_some', wayR_hi h2 (by omega)]
        simp
    · rw [if_pos (by first | omega | (simp; omega)), wayR_one (by omega)]; simp
theorem prove_eq {l : List Sm} {a : Nat} (h : a < l.length) (h3 : l.length ≤ 256) : m_merkle_Prove l (a : Int) = some (wayR l a, 0) := by
  unfold m_merkle_Prove
  rw [if_neg (by first | omega | (simp; omega))]
  have hF : l.length ≤ FUEL := by unfold FUEL; omega
  have hr : m_merkle_Prove_1 l (a : Int) [] = some ([] ++ wayR l a) := by
    unfold m_merkle_Prove_1
    revert hF
    generalize FUEL = n
    intro hF
    exact prove_rec n l a [] hF h h3 (by first | omega | (simp; omega))
  rw [hr, obind_some', List.nil_append]
theorem prove_no {l : List Sm} {a : Int} (h : 256 < l.length ∨ a < 0 ∨ (l.length : Int) ≤ a) : m_merkle_Prove l a = some ([], 80) := by
  unfold m_merkle_Prove
  rw [if_pos (by first | omega | (simp; omega))]
def showsR (l : List Sm) (f : Nat) (known : Bool) : List Sm :=
  if f = l.length then (if known then [] else [rootR l]) else
  if h : l.length ≤ 1 then [] else
  if f ≤ hp l.length then showsR (l.take (hp l.length)) f known ++ [rootR (l.drop (hp l.length))]
  else showsR (l.drop (hp l.length)) (f - hp l.length) false ++ [rootR (l.take (hp l.length))]
termination_by l.length
decreasing_by
  · have := hp_lt (n := l.length) (by omega); simp; omega
  · have := hp_pos l.length; simp; omega
theorem showsR_all {l : List Sm} {f : Nat} (h : f = l.length) (known : Bool) : showsR l f known = if known then [] else [rootR l] := by rw [showsR, if_pos h]
theorem showsR_lo {l : List Sm} {f : Nat} (h : 2 ≤ l.length) (hf : f ≤ hp l.length) (known : Bool) : showsR l f known = showsR (l.take (hp l.length)) f known ++ [rootR (l.drop (hp l.length))] := by
  have := hp_lt h
  rw [showsR, if_neg (by omega), dif_neg (by omega), if_pos hf]
theorem showsR_hi {l : List Sm} {f : Nat} (h : 2 ≤ l.length) (hf : hp l.length < f) (hn : f ≠ l.length) (known : Bool) : showsR l f known = showsR (l.drop (hp l.length)) (f - hp l.length) false ++ [rootR (l.take (hp l.length))] := by
  rw [showsR, if_neg hn, dif_neg (by omega), if_neg (by omega)]
theorem shows_len : ∀ (n : Nat) (l : List Sm) (f : Nat) (known : Bool), l.length ≤ n → (showsR l f known).length ≤ l.length + 1 := by
  intro n
  induction n with
  | zero =>
    intro l f known h
    rw [showsR]
    split
    · split <;> simp
    · rw [dif_pos (by omega)]; simp
  | succ n ih =>
    intro l f known h
    by_cases he : f = l.length
    · rw [showsR_all he]; split <;> simp
    · by_cases h2 : 2 ≤ l.length
      · have hlt := hp_lt h2
        have hpos := hp_pos l.length
        by_cases hf : f ≤ hp l.length
        · have := ih (l.take (hp l.length)) f known (by first | omega | (simp; omega))
          rw [showsR_lo h2 hf]; simp at this ⊢; omega
        · have := ih (l.drop (hp l.length)) (f - hp l.length) false (by first | omega | (simp; omega))
          rw [showsR_hi h2 (by omega) he]; simp at this ⊢; omega
      · rw [showsR, if_neg he, dif_pos (by omega)]; simp
theorem grow_loop : ∀ (n : Nat) (l : List Sm) (f : Nat) (ps : List Sm) (known : Bool), l.length ≤ n → 1 ≤ f → f ≤ l.length → l.length ≤ 256 → ps.length + n ≤ 1000 →
    iter m_merkle_Grow_b1 n (l, (f : Int), ps, known) = some (.inr (showsR l f known ++ ps.reverse, 0)) := by
  intro n
  induction n with
  | zero => intro l f ps known h h1 h2; omega
  | succ n ih =>
    intro l f ps known h h1 h2 h3 hp'
    by_cases he : f = l.length
    · refine iter_end ?_
      unfold m_merkle_Grow_b1
      dsimp only
      rw [if_pos (by first | omega | (simp; omega)), showsR_all he]
      cases known with
      | true =>
        rw [if_neg (by simp), obind_some', revS_eq _ (by first | omega | (simp; omega)), obind_some']; rfl
      | false =>
        simp only [Bool.not_false, if_true, Bool.false_eq_true, if_false]
        rw [root_eq _ (by first | omega | (simp; omega)), obind_some', app_eq 16 (by first | omega | (simp; omega)) (by first | omega | (simp; omega)), obind_some', obind_some', revS_eq _ (by first | omega | (simp; omega)), obind_some', rootP_R (by first | omega | (simp; omega))]
        simp
    · have h4 : 2 ≤ l.length := by omega
      have hlt := hp_lt h4
      have hpos := hp_pos l.length
      by_cases hf : f ≤ hp l.length
      · rw [iter_step (s' := (l.take (hp l.length), (f : Int), ps ++ [rootR (l.drop (hp l.length))], known))]
        · rw [ih _ f _ known (by first | omega | (simp; omega)) h1 (by first | omega | (simp; omega)) (by first | omega | (simp; omega)) (by first | omega | (simp; omega)), showsR_lo h4 hf]
          simp
        · unfold m_merkle_Grow_b1
          dsimp only
          rw [if_neg (by first | omega | (simp; omega)), half_eq h4 (by omega), obind_some', if_pos (by first | omega | (simp; omega)), cutR (by first | omega | (simp; omega)), obind_some', root_eq _ (by first | omega | (simp; omega)), obind_some', rootP_R (by first | omega | (simp; omega)), app_eq 16 (by first | omega | (simp; omega)) (by first | omega | (simp; omega)), obind_some', cutL (by first | omega | (simp; omega)), obind_some']
      · have hwi : w64 ((f : Int) - (hp l.length : Nat)) = ((f - hp l.length : Nat) : Int) := by rw [w64_in (by omega) (by omega)]; omega
        rw [iter_step (s' := (l.drop (hp l.length), ((f - hp l.length : Nat) : Int), ps ++ [rootR (l.take (hp l.length))], false))]
        · rw [ih _ (f - hp l.length) _ false (by first | omega | (simp; omega)) (by omega) (by first | omega | (simp; omega)) (by first | omega | (simp; omega)) (by first | omega | (simp; omega)), showsR_hi h4 (by omega) he]
          simp
        · unfold m_merkle_Grow_b1
          dsimp only
          rw [if_neg (by first | omega | (simp; omega)), half_eq h4 (by omega), obind_some', if_neg (by first | omega | (simp; omega)), cutL (by first | omega | (simp; omega)), obind_some', root_eq _ (by first | omega | (simp; omega)), obind_some', rootP_R (by first | omega | (simp; omega)), app_eq 16 (by first | omega | (simp; omega)) (by first | omega | (simp; omega)), obind_some', cutR (by first | omega | (simp; omega)), obind_some']
          simp only [hwi]
theorem grow_eq {l : List Sm} {f : Nat} (h1 : 1 ≤ f) (h : f ≤ l.length) (h3 : l.length ≤ 256) : m_merkle_Grow l (f : Int) = some (showsR l f true, 0) := by
  unfold m_merkle_Grow
  rw [if_neg (by first | omega | (simp; omega)), if_neg (by first | omega | (simp; omega)), iter_up _ (grow_loop l.length l f [] true (Nat.le_refl _) h1 h h3 (by first | omega | (simp; omega))) (by omega), obind_some']
  simp
theorem grow_zero {l : List Sm} (h3 : l.length ≤ 256) : m_merkle_Grow l 0 = some ([], 0) := by
  unfold m_merkle_Grow
  rw [if_neg (by first | omega | (simp; omega)), if_pos (by simp)]
theorem grow_no {l : List Sm} {f : Int} (h : 256 < l.length ∨ f < 0 ∨ (l.length : Int) < f) : m_merkle_Grow l f = some ([], 80) := by
  unfold m_merkle_Grow
  rw [if_pos (by first | omega | (simp; omega))]
def gd (f s : Nat) (known : Bool) : Bool × List Bool :=
  if h : s ≤ 1 ∨ f = s then (!known, []) else
  if f ≤ hp s then ((gd f (hp s) known).1, (gd f (hp s) known).2 ++ [false])
  else ((gd (f - hp s) (s - hp s) false).1, (gd (f - hp s) (s - hp s) false).2 ++ [true])
termination_by s
decreasing_by
  all_goals first | exact hp_lt (by omega) | (have := hp_pos s; omega)
theorem pow_lt_of {a b : Nat} (h : 2 ^ a < 2 ^ b) : a < b := (Nat.pow_lt_pow_iff_right (by omega)).1 h
def both (ds : List Bool) (ps : List Sm) (x : Sm × Sm) : Sm × Sm := goD (fun x p => (ppair p x.1, ppair p x.2)) (fun x p => (x.1, ppair x.2 p)) ds ps x
def startG (e : Bool) (a : Sm) (ps : List Sm) : Sm := if e then ps.headD default else a
def restG (e : Bool) (ps : List Sm) : List Sm := if e then ps.tail else ps
def growC (f s : Nat) (a b : Sm) (ps : List Sm) : Int :=
  if ps.length = (gd f s true).2.length + (if (gd f s true).1 then 1 else 0) then
    (if both (gd f s true).2 (restG (gd f s true).1 ps) (startG (gd f s true).1 a ps, startG (gd f s true).1 a ps) = (a, b) then 0 else 71)
  else 80
end Go.Proofs.YtojlmhmiknocmaaGreat
end
section
namespace Go.Proofs.YtojlmhmiknocmaaGreat
open Go Go.Gw
theorem gu_t {α : Type} [Inhabited α] {c : Bool} (o : Option α) (h : c = true) : gu c o = o := by rw [h]; rfl
theorem gu_f {α : Type} [Inhabited α] {c : Bool} (o : Option α) (h : c = false) : gu c o = some default := by rw [h]; rfl
def bothG (f s : Nat) (known : Bool) (a : Sm) (ps : List Sm) : Sm × Sm :=
  both (gd f s known).2 (restG (gd f s known).1 ps) (startG (gd f s known).1 a ps, startG (gd f s known).1 a ps)
end Go.Proofs.YtojlmhmiknocmaaGreat
end
section
namespace Go.Gw
open Go
theorem iter_goes {σ τ : Type} {step : σ → Option (σ ⊕ τ)} {T : τ → Prop} (I : Nat → σ → Prop) (n : Nat) (h : ∀ i s, i ≤ n → I i s → (∃ t, step s = some (.inr t) ∧ T t) ∨ (i < n ∧ ∃ s', step s = some (.inl s') ∧ I (i + 1) s')) :
    ∀ k i s, i + k = n → I i s → ∃ t, iter step (k + 1) s = some t ∧ T t := by
  intro k
  induction k with
  | zero =>
    intro i s hk hi
    rcases h i s (by omega) hi with ⟨t, h1, h2⟩ | ⟨h1, _⟩
    · exact ⟨t, by simp only [iter, h1, obind_some'], h2⟩
    · omega
  | succ k ih =>
    intro i s hk hi
    rcases h i s (by omega) hi with ⟨t, h1, h2⟩ | ⟨_, s', h1, h2⟩
    · exact ⟨t, by simp only [iter, h1, obind_some'], h2⟩
    · obtain ⟨t, h3, h4⟩ := ih (i + 1) s' (by omega) h2
      exact ⟨t, by rw [iter, h1, obind_some']; exact h3, h4⟩
theorem iter_ends {σ τ : Type} {step : σ → Option (σ ⊕ τ)} {T : τ → Prop} (I : Nat → σ → Prop) (n : Nat) (hn : n < 1000000000000000000) {s0 : σ} (h0 : I 0 s0) (h : ∀ i s, i ≤ n → I i s → (∃ t, step s = some (.inr t) ∧ T t) ∨ (i < n ∧ ∃ s', step s = some (.inl s') ∧ I (i + 1) s')) :
    ∃ t, iter step FUEL s0 = some t ∧ T t := by
  obtain ⟨t, h1, h2⟩ := iter_goes I n h n 0 s0 (by omega) h0
  exact ⟨t, iter_mono h1 (by unfold FUEL; omega), h2⟩
theorem idx_lt {α : Type} {xs : List α} {i : Nat} (h : i < xs.length) : idx xs (i : Int) = some xs[i] := by
  unfold idx; rw [if_pos (Int.natCast_nonneg i), Int.toNat_natCast]; simp [h]
theorem idx_of {α : Type} {xs : List α} {i : Nat} {x : α} (h : xs[i]? = some x) : idx xs (i : Int) = some x := by
  unfold idx; rw [if_pos (Int.natCast_nonneg i), Int.toNat_natCast]; exact h
theorem w64_sucN {i : Nat} (h : i < 9223372036854775807) : w64 ((i : Int) + 1) = ((i + 1 : Nat) : Int) := by rw [w64_in (by omega) (by omega)]; omega
theorem bs_eq {a b : List UInt8} : eqS (bs a) (bs b) = decide (a = b) := by
  rw [Bool.eq_iff_iff, decide_eq_true_eq]; simp [eqS, bs]
theorem gu_ok {α : Type} [Inhabited α] {c : Bool} {o : Option α} {x : α} (h : c = true → o = some x) : ∃ y, gu c o = some y ∧ (c = true → y = x) := by
  cases c with
  | true => exact ⟨x, h rfl, fun _ => rfl⟩
  | false => exact ⟨default, rfl, fun h => by cases h⟩
theorem gu_tot {α : Type} [Inhabited α] {c : Bool} {o : Option α} (h : c = true → ∃ x, o = some x) : ∃ y, gu c o = some y ∧ (c = true → o = some y) := by
  cases c with
  | true => obtain ⟨x, hx⟩ := h rfl; exact ⟨x, hx, fun _ => hx⟩
  | false => exact ⟨default, rfl, fun h => by cases h⟩
end Go.Gw
end
section
namespace Go.Proofs.YtojlmhmiknocmaaGreat
open Go Go.Gw
def hid (hd : List Int) (i : Nat) : Bool := match hd with | [] => false | h :: _ => decide (h = (i : Int))
def cur (v h : Bool) (b : List UInt8) : UInt64 × UInt64 := if (v && h) = true then pleaf (0 :: b) else pleaf b
def nxt (hd : List Int) (i : Nat) : List Int := if hid hd i = true then hd.tail else hd
def lv (v : Bool) : List Int → List g_api_Leaf → Nat → List (UInt64 × UInt64)
  | _, [], _ => []
  | hd, x :: xs, i => cur v (hid hd i) x.Body :: lv v (nxt hd i) xs (i + 1)
theorem lv_len (v : Bool) : ∀ (xs : List g_api_Leaf) (hd : List Int) (i : Nat), (lv v hd xs i).length = xs.length := by
  intro xs
  induction xs with
  | nil => intro hd i; rfl
  | cons x xs ih => intro hd i; simp [lv, ih]
theorem leaves_step {l : g_api_Log} {v : Bool} {a1 : Int} (hv : (a1 == 1) = v) {i : Nat} {x : g_api_Leaf} (hx : l.L[i]? = some x) (hb : x.Body.length ≤ 2048) {hd : List Int} {out : List (UInt64 × UInt64)} (ho : out.length ≤ 100000) :
    m_logd_Leaves_b2 l a1 (i : Int) (hd, out) = some (nxt hd i, out ++ [cur v (hid hd i) x.Body]) := by
  have hbl : x.Body.length ≤ 600000 := by omega
  have hnil : ∀ y : UInt64 × UInt64, app 16 out [y] = some (out ++ [y]) := fun y => app_eq 16 (by simp; omega) (by simp; omega)
  unfold m_logd_Leaves_b2
  rw [idx_of hx, obind_some']
  dsimp only
  cases hd with
  | nil =>
    have e0 : decide ((([] : List Int).length : Int) > 0) = false := rfl
    rw [e0, gu_f _ rfl, obind_some', Bool.false_and, if_neg Bool.false_ne_true, obind_some', leaf_eq hbl, obind_some', hnil, obind_some']
    simp [nxt, hid, cur]
  | cons a hd =>
    have e1 : idx (a :: hd) 0 = some a := rfl
    have e0 : decide (((a :: hd).length : Int) > 0) = true := by first | (simp; done) | (simp; omega)
    rw [e0, gu_t _ rfl, e1, obind_some', Bool.true_and]
    by_cases ha : a = (i : Int)
    · have hc : cut (a :: hd) 1 ((a :: hd).length : Int) = some hd := by
        have := cut_eq (xs := a :: hd) (lo := 1) (hi := (a :: hd).length) (by simp) (by omega)
        rw [show ((1 : Nat) : Int) = 1 from rfl] at this
        rw [this]; simp [List.take_of_length_le]
      rw [if_pos (by simpa using ha), hc, obind_some', hv]
      have hh : hid (a :: hd) i = true := by simp [hid, ha]
      cases v with
      | true =>
        rw [if_pos rfl, concatB_eq (by simp; omega), obind_some', obind_some']
        dsimp only
        have : ([[0], x.Body] : List (List UInt8)).flatten = 0 :: x.Body := by simp
        rw [this, leaf_eq (by simp; omega), obind_some', hnil, obind_some']
        simp [nxt, hh, cur]
      | false =>
        rw [if_neg (by decide), obind_some']
        dsimp only
        rw [leaf_eq hbl, obind_some', hnil, obind_some']
        simp [nxt, hh, cur]
    · rw [if_neg (by simpa using ha), obind_some']
      dsimp only
      have hh : hid (a :: hd) i = false := by simp [hid, ha]
      rw [leaf_eq hbl, obind_some', hnil, obind_some']
      simp [nxt, hh, cur]
theorem leavesV_it {l : g_api_Log} {v : Bool} {a1 : Int} (hv : (a1 == 1) = v) (hb : ∀ x ∈ l.L, x.Body.length ≤ 2048) (hl : l.L.length ≤ 100000) : ∀ (k i : Nat) (hd : List Int) (out : List (UInt64 × UInt64)), i + k = l.L.length → out.length = i →
    ∃ hd', eachN0 (m_logd_Leaves_b2 l a1) k (i : Int) (hd, out) = some (hd', out ++ lv v hd (l.L.drop i) i) := by
  intro k
  induction k with
  | zero =>
    intro i hd out h ho
    have : l.L.drop i = [] := List.drop_eq_nil_of_le (by omega)
    exact ⟨hd, by rw [this]; simp [eachN0, lv]⟩
  | succ k ih =>
    intro i hd out h ho
    have hlt : i < l.L.length := by omega
    have hs := leaves_step (l := l) hv (i := i) (x := l.L[i]) (by simp [hlt]) (hb _ (List.getElem_mem hlt)) (hd := hd) (out := out) (by omega)
    obtain ⟨hd2, h2⟩ := ih (i + 1) (nxt hd i) (out ++ [cur v (hid hd i) l.L[i].Body]) (by omega) (by simp; omega)
    refine ⟨hd2, ?_⟩
    simp only [eachN0, hs, obind_some']
    rw [show (i : Int) + 1 = ((i + 1 : Nat) : Int) from rfl, h2, List.drop_eq_getElem_cons hlt, lv, List.append_assoc]; rfl
def leavesV (v : Bool) (l : g_api_Log) : List (UInt64 × UInt64) := lv v l.Hide l.L 0
theorem leavesV_eq {l : g_api_Log} (hl : l.L.length + l.Wait.length ≤ 100000) (h : chk l = 0) (v : Bool) : m_logd_Leaves l (if v = true then 1 else 0) = some (leavesV v l, 0) := by
  obtain ⟨h0, h1, h2, h3⟩ := chk_zero h
  have hv : ((if v = true then (1 : Int) else 0) == 1) = v := by cases v <;> rfl
  obtain ⟨hd, he⟩ := leavesV_it (l := l) hv (fun x hx => okL_body h1 x (List.mem_append_left _ hx)) (by omega) l.L.length 0 l.Hide [] (by omega) rfl
  have he' : eachN0 (m_logd_Leaves_b2 l (if v = true then 1 else 0)) l.L.length 0 (l.Hide, []) = _ := he
  unfold m_logd_Leaves
  rw [chkL_eq hl, obind_some', h, if_neg (by decide), if_neg (by cases v <;> decide), he', obind_some', obind_some']
  simp [leavesV]
theorem okH_up {a b n : Int} : ∀ {xs : List Int}, okH xs a n = true → (∀ x, xs.head? = some x → b < x) → okH xs b n = true := by
  intro xs h hb
  cases xs with
  | nil => rfl
  | cons x r =>
    simp only [okH, Bool.and_eq_true, Bool.not_eq_true', decide_eq_false_iff_not] at h ⊢
    have := hb x rfl
    exact ⟨⟨by omega, h.1.2⟩, h.2⟩
theorem okH_gt {n : Int} : ∀ {xs : List Int} {a : Int}, okH xs a n = true → ∀ x ∈ xs, a < x := by
  intro xs
  induction xs with
  | nil => intro a _ x hx; cases hx
  | cons y r ih =>
    intro a h x hx
    simp only [okH, Bool.and_eq_true, Bool.not_eq_true', decide_eq_false_iff_not] at h
    rcases List.mem_cons.1 hx with e | e
    · subst e; omega
    · have := ih h.2 x e; omega
theorem hid_mem {n : Int} {hd : List Int} {i : Nat} (h : okH hd ((i : Int) - 1) n = true) : hid hd i = decide ((i : Int) ∈ hd) := by
  cases hd with
  | nil => simp [hid]
  | cons x r =>
    simp only [okH, Bool.and_eq_true, Bool.not_eq_true', decide_eq_false_iff_not] at h
    simp only [hid]
    by_cases e : x = (i : Int)
    · rw [decide_eq_true e, decide_eq_true (by rw [e]; exact List.mem_cons_self)]
    · rw [decide_eq_false e, decide_eq_false]
      intro hm
      rcases List.mem_cons.1 hm with q | q
      · exact e q.symm
      · have := okH_gt h.2 _ q; omega
theorem nxt_ok {n : Int} {hd : List Int} {i : Nat} (h : okH hd ((i : Int) - 1) n = true) : okH (nxt hd i) (((i + 1 : Nat) : Int) - 1) n = true := by
  have e1 : ((i + 1 : Nat) : Int) - 1 = (i : Int) := by omega
  rw [e1]
  unfold nxt
  cases hd with
  | nil => simp [hid, okH]
  | cons x r =>
    have h' := h
    simp only [okH, Bool.and_eq_true, Bool.not_eq_true', decide_eq_false_iff_not] at h'
    by_cases e : x = (i : Int)
    · rw [if_pos (by simp [hid, e]), List.tail_cons, ← e]; exact h'.2
    · rw [if_neg (by simp [hid, e])]
      exact okH_up h fun y hy => by simp at hy; subst hy; omega
theorem nxt_mem {n : Int} {hd : List Int} {i : Nat} (h : okH hd ((i : Int) - 1) n = true) {j : Nat} (hj : i < j) : (j : Int) ∈ nxt hd i ↔ (j : Int) ∈ hd := by
  unfold nxt
  cases hd with
  | nil => simp [hid]
  | cons x r =>
    by_cases e : x = (i : Int)
    · rw [if_pos (by simp [hid, e]), List.tail_cons, List.mem_cons]
      constructor
      · exact fun h => .inr h
      · rintro (q | q)
        · omega
        · exact q
    · rw [if_neg (by simp [hid, e])]
theorem lv_get (v : Bool) {n : Int} : ∀ (xs : List g_api_Leaf) (hd : List Int) (i k : Nat) (x : g_api_Leaf), okH hd ((i : Int) - 1) n = true → xs[k]? = some x → (lv v hd xs i)[k]? = some (cur v (decide (((i + k : Nat) : Int) ∈ hd)) x.Body) := by
  intro xs
  induction xs with
  | nil => intro hd i k x _ hx; simp at hx
  | cons y xs ih =>
    intro hd i k x h hx
    cases k with
    | zero =>
      simp at hx; subst hx
      show some (cur v (hid hd i) y.Body) = _
      rw [hid_mem h]; rfl
    | succ k =>
      have := ih (nxt hd i) (i + 1) k x (nxt_ok h) (by simpa using hx)
      show (lv v (nxt hd i) xs (i + 1))[k]? = _
      rw [this]
      have e1 : i + 1 + k = i + (k + 1) := by omega
      rw [e1]
      have := nxt_mem h (j := i + (k + 1)) (by omega)
      simp only [this]
theorem leavesV_get (v : Bool) {l : g_api_Log} (h : okH l.Hide (-1) (l.L.length : Int) = true) {k : Nat} {x : g_api_Leaf} (hx : l.L[k]? = some x) : (leavesV v l)[k]? = some (cur v (decide ((k : Int) ∈ l.Hide)) x.Body) := by
  have := lv_get v l.L l.Hide 0 k x (n := (l.L.length : Int)) h hx
  rw [Nat.zero_add] at this
  exact this
theorem leavesV_len (v : Bool) (l : g_api_Log) : (leavesV v l).length = l.L.length := lv_len _ _ _ _
end Go.Proofs.YtojlmhmiknocmaaGreat
end
section
namespace Go.Proofs.YtojlmhmiknocmaaGreat
open Go Go.Gw
def radd (a b : UInt64) : UInt64 := ((a % 2305843009213693951) + (b % 2305843009213693951)) % 2305843009213693951
theorem radd_nat (a b : UInt64) : (radd a b).toNat = (a.toNat % FP + b.toNat % FP) % FP := by
  unfold radd
  rw [UInt64.toNat_mod, UInt64.toNat_add, UInt64.toNat_mod, UInt64.toNat_mod, litP]
  simp only [FP]
  omega
theorem radd_eq (a b : UInt64) : radd a b = padd a b := u_ext (by rw [radd_nat, padd_nat])
theorem add01_eq (a b : UInt64) : m_ref01_Add a b = some (padd a b) := by rw [← radd_eq]; rfl
theorem mul01_it : ∀ (n : Nat) (a b o : UInt64), b.toNat < 2 ^ n → o.toNat < FP → ∃ r, iter m_ref01_Mul_b1 (n + 1) (a, b, o) = some r ∧ r.toNat = (o.toNat + a.toNat * b.toNat) % FP := by
  intro n
  induction n with
  | zero =>
    intro a b o h ho
    have hb : b.toNat = 0 := by simp at h; omega
    refine ⟨o, iter_end ?_, by rw [hb]; simp; exact (Nat.mod_eq_of_lt ho).symm⟩
    unfold m_ref01_Mul_b1
    rw [if_neg (by simp [hb])]
  | succ n ih =>
    intro a b o h ho
    by_cases hb : b.toNat = 0
    · refine ⟨o, iter_end ?_, by rw [hb]; simp; exact (Nat.mod_eq_of_lt ho).symm⟩
      unfold m_ref01_Mul_b1
      rw [if_neg (by simp [hb])]
    · have e1 : 2 ^ (n + 1) = 2 * 2 ^ n := by rw [Nat.pow_succ]; omega
      have hb2 : (b / 2).toNat = b.toNat / 2 := by rw [UInt64.toNat_div]; rfl
      have hbm : ((b % 2).toNat : Int) = ((b.toNat % 2 : Nat) : Int) := by rw [UInt64.toNat_mod]; rfl
      have hp0 : ∀ x y, (padd x y).toNat < FP := fun x y => by rw [padd_nat]; exact Nat.mod_lt _ (by decide)
      by_cases ho1 : b.toNat % 2 = 1
      · obtain ⟨r, h1, h2⟩ := ih (padd a a) (b / 2) (padd o a) (by rw [hb2]; omega) (hp0 _ _)
        refine ⟨r, ?_, ?_⟩
        · rw [iter_step (s' := (padd a a, b / 2, padd o a)), h1]
          unfold m_ref01_Mul_b1
          rw [if_pos (by simp; omega), if_pos (by rw [hbm, ho1]; rfl), add01_eq, obind_some', obind_some', add01_eq, obind_some']
        · rw [h2, padd_nat, padd_nat, hb2]
          simp only [Nat.mod_add_mod, Nat.add_mod_mod]
          rw [Nat.add_mod, Nat.mod_mul_mod, ← Nat.add_mod, ← Nat.two_mul]
          congr 1
          have : b.toNat = 2 * (b.toNat / 2) + 1 := by omega
          conv => rhs; rw [this]
          rw [Nat.mul_add, Nat.mul_one, ← Nat.mul_assoc, Nat.mul_comm a.toNat 2]; omega
      · obtain ⟨r, h1, h2⟩ := ih (padd a a) (b / 2) o (by rw [hb2]; omega) ho
        refine ⟨r, ?_, ?_⟩
        · rw [iter_step (s' := (padd a a, b / 2, o)), h1]
          unfold m_ref01_Mul_b1
          rw [if_pos (by simp; omega), if_neg (by rw [hbm]; simp; omega), obind_some', add01_eq, obind_some']
        · rw [h2, padd_nat, hb2]
          simp only [Nat.mod_add_mod, Nat.add_mod_mod]
          rw [Nat.add_mod, Nat.mod_mul_mod, ← Nat.add_mod, ← Nat.two_mul]
          congr 1
          have : b.toNat = 2 * (b.toNat / 2) := by omega
          conv => rhs; rw [this]
          rw [← Nat.mul_assoc, Nat.mul_comm a.toNat 2]
theorem mul01_eq (a b : UInt64) : m_ref01_Mul a b = some (pmul a b) := by
  have hb : (b % 2305843009213693951).toNat < 2 ^ 64 := (b % 2305843009213693951).toNat_lt
  obtain ⟨r, h1, h2⟩ := mul01_it 64 (a % 2305843009213693951) (b % 2305843009213693951) 0 hb (by decide)
  have hr : r = pmul a b := u_ext (by
    rw [h2, pmul_nat, UInt64.toNat_mod, UInt64.toNat_mod, litP]
    simp only [UInt64.toNat_zero, Nat.zero_add]
    rw [← Nat.mul_mod])
  unfold m_ref01_Mul
  rw [iter_up _ h1 (by omega), obind_some', obind_some', hr]
theorem raised_it (a : UInt64) (n : Nat) (hn : n ≤ 1000) : ∀ (k i : Nat) (x : UInt64), i + k = n → x.toNat = a.toNat ^ i % FP → ∃ y, iter (m_ref02_raised_b1 a (n : Int)) (k + 1) (x, (i : Int)) = some y ∧ y.toNat = a.toNat ^ n % FP := by
  intro k
  induction k with
  | zero =>
    intro i x h hx
    refine ⟨x, iter_end ?_, by rw [hx, show i = n from by omega]⟩
    unfold m_ref02_raised_b1
    rw [if_neg (by simp; omega)]
  | succ k ih =>
    intro i x h hx
    have hw : w64 ((i : Int) + 1) = ((i + 1 : Nat) : Int) := by rw [w64_in (by omega) (by omega)]; omega
    obtain ⟨y, h1, h2⟩ := ih (i + 1) (pmul x a) (by omega) (by rw [pmul_nat, hx, Nat.mod_mul_mod, Nat.pow_succ])
    refine ⟨y, ?_, h2⟩
    rw [iter_step (s' := (pmul x a, ((i + 1 : Nat) : Int)))]
    · exact h1
    · unfold m_ref02_raised_b1
      rw [if_pos (by simp; omega), mul01_eq, obind_some']
      simp only [hw]
theorem raised_gen (a : UInt64) (n : Nat) (hn : n ≤ 1000) : ∃ y, m_ref02_raised a (n : Int) = some y ∧ y.toNat = a.toNat ^ n % FP := by
  obtain ⟨y, h1, h2⟩ := raised_it a n hn n 0 1 (by omega) (by simp)
  have h1' := iter_up _ h1 (by omega)
  refine ⟨y, ?_, h2⟩
  unfold m_ref02_raised
  rw [show ((0 : Int)) = ((0 : Nat) : Int) from rfl, h1', obind_some', obind_some']
theorem raised_eq {a : UInt64} : m_ref02_raised a 17 = some (psev a) := by
  obtain ⟨y, h1, h2⟩ := raised_gen a 17 (by omega)
  have : y = psev a := u_ext (by rw [h2, psev_nat])
  rw [← this]; exact h1
theorem con_eq {r i : Nat} (hr : r < 8) (hi : i < 3) : (obind (m_ref02_raised (toU (w64 ((w64 ((w64 (3 * (r : Int))) + (i : Int))) + 1))) 3) fun x4 => m_ref01_Add x4 7) = some (pcon (r : Int) (i : Int)) := by
  have hw : w64 ((w64 ((w64 (3 * (r : Int))) + (i : Int))) + 1) = ((3 * r + i + 1 : Nat) : Int) := by
    rw [w64_in (n := 3 * (r : Int)) (by omega) (by omega), w64_in (n := 3 * (r : Int) + (i : Int)) (by omega) (by omega), w64_in (by omega) (by omega)]; omega
  have hN : (toU ((3 * r + i + 1 : Nat) : Int)).toNat = 3 * r + i + 1 := toU_toNat (by omega)
  unfold pcon
  rw [hw]
  generalize toU ((3 * r + i + 1 : Nat) : Int) = N at *
  obtain ⟨y, h1, h2⟩ := raised_gen N 3 (by omega)
  have h1' : m_ref02_raised N 3 = some y := h1
  rw [h1', obind_some', add01_eq]
  refine congrArg some (u_ext ?_)
  have hle : N.toNat ≤ 24 := by omega
  have h2' : N.toNat * N.toNat ≤ 24 * 24 := Nat.mul_le_mul hle hle
  have h3' : N.toNat * N.toNat * N.toNat ≤ 24 * 24 * 24 := Nat.mul_le_mul h2' hle
  have e3 : N.toNat ^ 3 = N.toNat * N.toNat * N.toNat := by rw [Nat.pow_succ, Nat.pow_two]
  dsimp only
  rw [padd_nat, h2, e3, UInt64.toNat_add, UInt64.toNat_mul, UInt64.toNat_mul, show (7 : UInt64).toNat = 7 from rfl]
  have e4 : N.toNat * N.toNat % 2 ^ 64 = N.toNat * N.toNat := Nat.mod_eq_of_lt (by omega)
  rw [e4]
  clear e4 e3 h2 h1 h1' hw hN
  generalize N.toNat * N.toNat * N.toNat = z at *
  rw [Nat.mod_eq_of_lt (show z < 2 ^ 64 by omega), Nat.mod_eq_of_lt (show z < FP by simp only [FP]; omega), Nat.mod_eq_of_lt (show z < FP by simp only [FP]; omega), Nat.mod_eq_of_lt (show 7 < FP by decide), Nat.mod_eq_of_lt (show z + 7 < FP by simp only [FP]; omega), Nat.mod_eq_of_lt (show z + 7 < 2 ^ 64 by omega)]
theorem obind_obind {α β γ : Type} (x : Option α) (f : α → Option β) (g : β → Option γ) : obind x (fun a => obind (f a) g) = obind (obind x f) g := by cases x <;> rfl
theorem round_b4 {s : UInt64 × UInt64 × UInt64} {r : Nat} (hr : r < 8) (a b c : UInt64) :
    m_ref02_round_b4 s (r : Int) (0, a, b, c) = some (.inl (1, psev (padd s.1 (pcon r 0)), b, c)) ∧
    m_ref02_round_b4 s (r : Int) (1, a, b, c) = some (.inl (2, a, psev (padd s.2.1 (pcon r 1)), c)) ∧
    m_ref02_round_b4 s (r : Int) (2, a, b, c) = some (.inl (3, a, b, psev (padd s.2.2 (pcon r 2)))) := by
  have c0 := con_eq hr (i := 0) (by omega)
  have c1 := con_eq hr (i := 1) (by omega)
  have c2 := con_eq hr (i := 2) (by omega)
  refine ⟨?_, ?_, ?_⟩
  · unfold m_ref02_round_b4
    dsimp only
    rw [if_pos (by simp), obind_obind, show ((0 : Nat) : Int) = 0 from rfl] at *
    rw [c0, obind_some', show idx [s.1, s.2.1, s.2.2] 0 = some s.1 from rfl, obind_some', add01_eq, obind_some', raised_eq, obind_some', show idx [a, b, c] 0 = some a from rfl, obind_some']
    simp [bnd_def, w64]
  · unfold m_ref02_round_b4
    dsimp only
    rw [if_pos (by simp), obind_obind, show ((1 : Nat) : Int) = 1 from rfl] at *
    rw [c1, obind_some', show idx [s.1, s.2.1, s.2.2] 1 = some s.2.1 from rfl, obind_some', add01_eq, obind_some', raised_eq, obind_some', show idx [a, b, c] 1 = some b from rfl, obind_some']
    simp [bnd_def, w64]
  · unfold m_ref02_round_b4
    dsimp only
    rw [if_pos (by simp), obind_obind, show ((2 : Nat) : Int) = 2 from rfl] at *
    rw [c2, obind_some', show idx [s.1, s.2.1, s.2.2] 2 = some s.2.2 from rfl, obind_some', add01_eq, obind_some', raised_eq, obind_some', show idx [a, b, c] 2 = some c from rfl, obind_some']
    simp [bnd_def, w64]
theorem padd3 (x y z : UInt64) : padd (padd (padd 0 x) y) z = padd (padd x y) z := u_ext (by
  simp only [padd_nat, UInt64.toNat_zero]
  simp only [FP]
  omega)
theorem round_b5 (x : UInt64) (a b c : UInt64) :
    m_ref02_round_b5 x (0, a, b, c) = some (.inl (1, padd a x, b, c)) ∧ m_ref02_round_b5 x (1, a, b, c) = some (.inl (2, a, padd b x, c)) ∧ m_ref02_round_b5 x (2, a, b, c) = some (.inl (3, a, b, padd c x)) := by
  refine ⟨?_, ?_, ?_⟩
  · unfold m_ref02_round_b5
    dsimp only
    rw [if_pos (by simp), show idx [a, b, c] 0 = some a from rfl, obind_some', add01_eq, obind_some', obind_some']; simp [bnd_def, w64]
  · unfold m_ref02_round_b5
    dsimp only
    rw [if_pos (by simp), show idx [a, b, c] 1 = some b from rfl, obind_some', add01_eq, obind_some', obind_some']; simp [bnd_def, w64]
  · unfold m_ref02_round_b5
    dsimp only
    rw [if_pos (by simp), show idx [a, b, c] 2 = some c from rfl, obind_some', add01_eq, obind_some', obind_some']; simp [bnd_def, w64]
theorem round_eq {r : Nat} (hr : r < 8) (s : UInt64 × UInt64 × UInt64) : m_ref02_round s (r : Int) = some (pround (r : Int) s) := by
  have h4 : iter (m_ref02_round_b4 s (r : Int)) 4 (0, 0, 0, 0) = some (psev (padd s.1 (pcon r 0)), psev (padd s.2.1 (pcon r 1)), psev (padd s.2.2 (pcon r 2))) := by
    rw [iter_step (round_b4 hr 0 0 0).1, iter_step (round_b4 hr _ 0 0).2.1, iter_step (round_b4 hr _ _ 0).2.2]
    exact iter_end rfl
  have h5 : ∀ x a b c : UInt64, iter (m_ref02_round_b5 x) 4 (0, a, b, c) = some (padd a x, padd b x, padd c x) := fun x a b c => by
    rw [iter_step (round_b5 x a b c).1, iter_step (round_b5 x _ b c).2.1, iter_step (round_b5 x _ _ c).2.2]
    exact iter_end rfl
  unfold m_ref02_round
  rw [iter_up _ h4 (by omega), obind_some', obind_some', add01_eq, obind_some', add01_eq, obind_some', iter_up _ (h5 _ _ _ _) (by omega), obind_some', obind_some']
  unfold pround pall
  rw [padd3]
theorem mix02_it (s : UInt64 × UInt64 × UInt64) {r : Nat} (hr : r < 8) : m_ref02_Mix_b3 ((r : Int), s.1, s.2.1, s.2.2) = some (.inl (((r + 1 : Nat) : Int), (pround (r : Int) s).1, (pround (r : Int) s).2.1, (pround (r : Int) s).2.2)) := by
  have hw : w64 ((r : Int) + 1) = ((r + 1 : Nat) : Int) := by rw [w64_in (by omega) (by omega)]; omega
  unfold m_ref02_Mix_b3
  rw [if_pos (by simp; omega), round_eq hr, obind_some']
  simp only [hw]
theorem mix02_eq (s : UInt64 × UInt64 × UInt64) : m_ref02_Mix s = some (pmix s) := by
  have h : iter m_ref02_Mix_b3 9 (((0 : Nat) : Int), s.1, s.2.1, s.2.2) = some (pmix s) := by
    rw [iter_step (mix02_it s (by omega)), iter_step (mix02_it _ (by omega)), iter_step (mix02_it _ (by omega)), iter_step (mix02_it _ (by omega)), iter_step (mix02_it _ (by omega)), iter_step (mix02_it _ (by omega)), iter_step (mix02_it _ (by omega)), iter_step (mix02_it _ (by omega))]
    exact iter_end rfl
  unfold m_ref02_Mix
  rw [show ((0 : Int)) = ((0 : Nat) : Int) from rfl, iter_up _ h (by omega), obind_some', obind_some']
theorem or_shl {s : UInt64} {b : UInt8} {i : Nat} (hi : i < 7) (hs : s.toNat < 256 ^ i) (u : UInt64) (hu : u.toNat = 256 ^ i) :
    s ||| shlU (toU (b.toNat : Int)) (8 * i) = s + u * (toU (b.toNat : Int)) ∧ (s + u * (toU (b.toNat : Int))).toNat < 256 ^ (i + 1) := by
  have hb := b.toNat_lt
  have e1 : (toU (b.toNat : Int)).toNat = b.toNat := toU_toNat (by omega)
  have e2 : (2 : Nat) ^ (8 * i) = 256 ^ i := by rw [Nat.pow_mul]
  have hpow : 256 ^ i ≤ 256 ^ 6 := Nat.pow_le_pow_right (by omega) (by omega)
  have hpos : 0 < 256 ^ i := Nat.pow_pos (by omega)
  have e256 : (256 : Nat) ^ 6 = 281474976710656 := by decide
  have hmul : 256 ^ i * b.toNat ≤ 256 ^ i * 255 := Nat.mul_le_mul_left _ (by omega)
  have esh : (shlU (toU (b.toNat : Int)) (8 * i)).toNat = 256 ^ i * b.toNat := by
    unfold shlU
    rw [e1, Nat.min_eq_left (by omega), show (b.toNat : Int) * 2 ^ (8 * i) = ((256 ^ i * b.toNat : Nat) : Int) from by
      rw [← e2, Nat.mul_comm]; simp [Nat.mul_comm, Int.mul_comm]]
    exact toU_toNat (by omega)
  have ese : (u * (toU (b.toNat : Int))).toNat = 256 ^ i * b.toNat := by
    rw [UInt64.toNat_mul, e1, hu]; omega
  have eadd : (s + u * (toU (b.toNat : Int))).toNat = s.toNat + 256 ^ i * b.toNat := by
    rw [UInt64.toNat_add, ese]; omega
  refine ⟨u_ext ?_, ?_⟩
  · rw [eadd, UInt64.toNat_or, esh, Nat.or_comm, ← e2, ← Nat.two_pow_add_eq_or_of_lt (by rw [e2]; exact hs)]; omega
  · rw [eadd, Nat.pow_succ]; omega
theorem of2_it (a0 : List UInt8) (hb : a0.length ≤ 1000000) (st : (List UInt64) × Int) (i : Nat) (hi : st.2 = (i : Int)) (hi2 : i ≤ 1000000) :
    ∀ (l : List UInt8) (k : Nat) (s u : UInt64), k + l.length ≤ 7 → ((a0.drop i).take 7).drop k = l → ((a0.drop i).take 7).length = k + l.length → s.toNat < 256 ^ k → (k < 7 → u.toNat = 256 ^ k) →
      iter (m_ref01_Of_b2 a0 st) (l.length + 1) (s, u, ((i + k : Nat) : Int)) = some (ple l k s) := by
  intro l
  induction l with
  | nil =>
    intro k s u h1 h2 h3 hs hu
    refine iter_end ?_
    have hw : w64 ((i : Int) + 7) = ((i + 7 : Nat) : Int) := by rw [w64_in (by omega) (by omega)]; omega
    simp only [List.length_take, List.length_drop, List.length_nil] at h3
    unfold m_ref01_Of_b2
    dsimp only
    rw [hi, hw, if_neg (by simp; omega)]
    rfl
  | cons b l ih =>
    intro k s u h1 h2 h3 hs hu
    have hw : w64 ((i : Int) + 7) = ((i + 7 : Nat) : Int) := by rw [w64_in (by omega) (by omega)]; omega
    have hw1 : w64 (((i + k : Nat) : Int) + 1) = ((i + (k + 1) : Nat) : Int) := by rw [w64_in (by omega) (by omega)]; omega
    simp only [List.length_cons] at h1 h3
    have h3' := h3
    simp only [List.length_take, List.length_drop] at h3'
    have hx : a0[i + k]? = some b := by
      have : (((a0.drop i).take 7).drop k)[0]? = some b := by rw [h2]; rfl
      rw [List.getElem?_drop, List.getElem?_take_of_lt (by omega), List.getElem?_drop] at this
      simpa using this
    obtain ⟨o1, o2⟩ := or_shl (b := b) (show k < 7 by omega) hs u (hu (by omega))
    rw [List.length_cons, iter_step (s' := (s + u * (toU (b.toNat : Int)), u * 256, ((i + (k + 1) : Nat) : Int)))]
    · have hd : ((a0.drop i).take 7).drop (k + 1) = l := by rw [← List.drop_drop, h2]; rfl
      rw [ih (k + 1) _ (u * 256) (by omega) hd (by omega) o2 (fun hk => by
        rw [UInt64.toNat_mul, hu (by omega), show (256 : UInt64).toNat = 256 from rfl, Nat.pow_succ]
        have : 256 ^ k ≤ 256 ^ 6 := Nat.pow_le_pow_right (by omega) (by omega)
        have e256 : (256 : Nat) ^ 6 = 281474976710656 := by decide
        omega)]
      rw [ple, o1]
    · unfold m_ref01_Of_b2
      dsimp only
      rw [hi, hw, if_pos (by simp; omega), idx_nat hx, obind_some', bnd_def]
      simp only [hw1]
theorem of1_it (a0 : List UInt8) (hb : a0.length ≤ 900000) : ∀ (n i : Nat) (out : List UInt64), a0.length ≤ i + n → i ≤ 900007 → out.length + n ≤ 1000000 →
    iter (m_ref01_Of_b1 a0) (n + 1) (out, (i : Int)) = some (out ++ pof n (a0.drop i)) := by
  intro n
  induction n with
  | zero =>
    intro i out h _ _
    have : a0.drop i = [] := List.drop_eq_nil_of_le (by omega)
    refine iter_end ?_
    unfold m_ref01_Of_b1
    rw [if_neg (by simp; omega), this]; simp [pof]
  | succ n ih =>
    intro i out h hi ho
    by_cases hlt : i < a0.length
    · obtain ⟨b, l, hl⟩ : ∃ b l, a0.drop i = b :: l := ⟨a0[i], a0.drop (i + 1), List.drop_eq_getElem_cons hlt⟩
      have hw : w64 ((i : Int) + 7) = ((i + 7 : Nat) : Int) := by rw [w64_in (by omega) (by omega)]; omega
      have h2 := of2_it a0 (by omega) (out, (i : Int)) i rfl (by omega) ((a0.drop i).take 7) 0 0 1 (by simp; omega) (by simp) (by simp) (by decide) (fun _ => by decide)
      have h2' := iter_up _ h2 (by simp; omega)
      rw [Nat.add_zero] at h2'
      rw [iter_step (s' := (out ++ [ple ((a0.drop i).take 7) 0 0], ((i + 7 : Nat) : Int)))]
      · rw [ih (i + 7) _ (by omega) (by omega) (by simp; omega), hl]
        simp only [pof]
        rw [← hl, List.drop_drop]
        simp
      · unfold m_ref01_Of_b1
        dsimp only
        rw [if_pos (by simp; omega), h2', obind_some', obind_some', app_eq 8 (by simp; omega) (by simp; omega), obind_some']
        simp only [hw]
    · have : a0.drop i = [] := List.drop_eq_nil_of_le (by omega)
      refine iter_end ?_
      unfold m_ref01_Of_b1
      rw [if_neg (by simp; omega), this]; simp [pof]
theorem of01_eq (a0 : List UInt8) (hb : a0.length ≤ 900000) : m_ref01_Of a0 = some (pof a0.length a0) := by
  have h := of1_it a0 hb a0.length 0 [] (by omega) (by omega) (by simp; omega)
  have h' := iter_up _ h (by omega)
  unfold m_ref01_Of
  rw [show ((0 : Int)) = ((0 : Nat) : Int) from rfl, h', obind_some', obind_some']
  simp
theorem sum02_it (l : List UInt64) (hl : l.length ≤ 1000000) : ∀ (n i : Nat) (s : UInt64 × UInt64 × UInt64), l.length ≤ i + n → 1 ≤ i → i ≤ 1000002 →
    iter (m_ref02_Sum_b3 l) (n + 1) ((i : Int), s.1, s.2.1, s.2.2) = some (psumL n (l.drop i) s) := by
  intro n
  induction n with
  | zero =>
    intro i s h h1 _
    have : l.drop i = [] := List.drop_eq_nil_of_le (by omega)
    refine iter_end ?_
    unfold m_ref02_Sum_b3
    rw [if_neg (by simp; omega), this]; simp [psumL]
  | succ n ih =>
    intro i s h h1 h2
    by_cases hlt : i < l.length
    · have hw : w64 ((i : Int) + 1) = ((i + 1 : Nat) : Int) := by rw [w64_in (by omega) (by omega)]; omega
      have hw2 : w64 ((i : Int) + 2) = ((i + 2 : Nat) : Int) := by rw [w64_in (by omega) (by omega)]; omega
      have hx : idx l (i : Int) = some l[i] := idx_nat (by simp [hlt])
      by_cases hlt2 : i + 1 < l.length
      · have hy : idx l ((i + 1 : Nat) : Int) = some l[i + 1] := idx_nat (by simp [hlt2])
        have hd : l.drop i = l[i] :: l[i + 1] :: l.drop (i + 2) := by rw [List.drop_eq_getElem_cons hlt, List.drop_eq_getElem_cons hlt2]
        rw [iter_step (s' := (((i + 2 : Nat) : Int), (pmix (padd s.1 l[i], padd s.2.1 l[i + 1], s.2.2)).1, (pmix (padd s.1 l[i], padd s.2.1 l[i + 1], s.2.2)).2.1, (pmix (padd s.1 l[i], padd s.2.1 l[i + 1], s.2.2)).2.2))]
        · rw [ih (i + 2) (pmix (padd s.1 l[i], padd s.2.1 l[i + 1], s.2.2)) (by omega) (by omega) (by omega), hd]; rfl
        · unfold m_ref02_Sum_b3
          dsimp only
          rw [if_pos (by simp; omega), if_pos (by simp; omega), hx, obind_some', add01_eq, obind_some', obind_some', hw, if_pos (by simp; omega), hy, obind_some', add01_eq, obind_some', obind_some', mix02_eq, obind_some']
          simp only [hw2]
      · have hd : l.drop i = [l[i]] := by rw [List.drop_eq_getElem_cons hlt, List.drop_eq_nil_of_le (by omega)]
        rw [iter_step (s' := (((i + 2 : Nat) : Int), (pmix (padd s.1 l[i], s.2.1, s.2.2)).1, (pmix (padd s.1 l[i], s.2.1, s.2.2)).2.1, (pmix (padd s.1 l[i], s.2.1, s.2.2)).2.2))]
        · rw [ih (i + 2) (pmix (padd s.1 l[i], s.2.1, s.2.2)) (by omega) (by omega) (by omega), hd, List.drop_eq_nil_of_le (by omega)]
          cases n <;> simp [psumL]
        · unfold m_ref02_Sum_b3
          dsimp only
          rw [if_pos (by simp; omega), if_pos (by simp; omega), hx, obind_some', add01_eq, obind_some', obind_some', hw, if_neg (by simp; omega), obind_some', mix02_eq, obind_some']
          simp only [hw2]
    · have : l.drop i = [] := List.drop_eq_nil_of_le (by omega)
      refine iter_end ?_
      unfold m_ref02_Sum_b3
      rw [if_neg (by simp; omega), this]; simp [psumL]
theorem psumL_len : ∀ (n k : Nat) (l : List UInt64) (s : UInt64 × UInt64 × UInt64), l.length ≤ n → l.length ≤ k → psumL n l s = psumL k l s := by
  intro n
  induction n with
  | zero => intro k l s h _; have : l = [] := List.eq_nil_of_length_eq_zero (by omega); subst this; simp [psumL]
  | succ n ih =>
    intro k l s h hk
    match l, k, h, hk with
    | [], k, _, _ => cases k <;> simp [psumL]
    | [x], k + 1, _, _ => simp [psumL]
    | x :: y :: l, k + 1, h, hk => simp only [psumL]; exact ih k l _ (by simp at h; omega) (by simp at hk; omega)
theorem sum02_eq (b : List UInt8) (hb : b.length ≤ 900000) : m_ref02_Sum b = some (hsum b) := by
  have hl := pof_len b.length b
  unfold m_ref02_Sum
  rw [of01_eq b hb, obind_some']
  have hk : hsum b = ((pend (pof b.length b) (0, 0, toU (b.length : Int))).1, (pend (pof b.length b) (0, 0, toU (b.length : Int))).2.1) := rfl
  rw [hk]
  clear hk
  generalize pof b.length b = l at *
  have h : iter (m_ref02_Sum_b3 l) (l.length + 2) (0, 0, 0, toU (b.length : Int)) = some (pend l (0, 0, toU (b.length : Int))) := by
    match l, hl with
    | [], hl =>
      rw [show ([] : List UInt64).length + 2 = 1 + 1 from rfl, iter_step (s' := (((2 : Nat) : Int), (pmix (0, 0, toU (b.length : Int))).1, (pmix (0, 0, toU (b.length : Int))).2.1, (pmix (0, 0, toU (b.length : Int))).2.2))]
      · exact iter_end rfl
      · unfold m_ref02_Sum_b3
        dsimp only
        rw [if_pos (by simp), if_neg (by simp), obind_some', if_neg (by rw [w64_in (by omega) (by omega)]; simp), obind_some', mix02_eq, obind_some']; rfl
    | [x], hl =>
      rw [show [x].length + 2 = 2 + 1 from rfl, iter_step (s' := (((2 : Nat) : Int), (pmix (padd 0 x, 0, toU (b.length : Int))).1, (pmix (padd 0 x, 0, toU (b.length : Int))).2.1, (pmix (padd 0 x, 0, toU (b.length : Int))).2.2))]
      · exact iter_end rfl
      · have e : idx [x] 0 = some x := rfl
        unfold m_ref02_Sum_b3
        dsimp only
        rw [if_pos (by simp), if_pos (by simp), e, obind_some', add01_eq, obind_some', obind_some', if_neg (by rw [w64_in (by omega) (by omega)]; simp), obind_some', mix02_eq, obind_some']; rfl
    | x :: y :: l, hl =>
      rw [iter_step (s' := (((2 : Nat) : Int), (pmix (padd 0 x, padd 0 y, toU (b.length : Int))).1, (pmix (padd 0 x, padd 0 y, toU (b.length : Int))).2.1, (pmix (padd 0 x, padd 0 y, toU (b.length : Int))).2.2))]
      · rw [sum02_it (x :: y :: l) (by simp at hl ⊢; omega) _ 2 _ (by simp) (by omega) (by omega)]
        refine congrArg some ?_
        simp only [List.drop_succ_cons, List.drop_zero, pend, List.length_cons, psumL]
        exact psumL_len _ _ _ _ (by omega) (by omega)
      · have e : idx (x :: y :: l) 0 = some x := rfl
        have e1 : idx (x :: y :: l) (w64 (0 + 1)) = some y := rfl
        unfold m_ref02_Sum_b3
        dsimp only
        rw [if_pos (by simp), if_pos (by simp; omega), e, obind_some', add01_eq, obind_some', obind_some', if_pos (by rw [show w64 (0 + 1) = 1 from rfl]; simp; omega), e1, obind_some', add01_eq, obind_some', obind_some', mix02_eq, obind_some']; rfl
  rw [iter_up _ h (by omega), obind_some', obind_some']
theorem eight_it (n : UInt64) : ∀ (k : Nat) (b : List UInt8), k ≤ 8 → b.length + k ≤ 1000000 → iter (m_ref02_Eight_b1 n) (k + 1) (b, (k : Int) - 1) = some (b ++ pput k n) := by
  intro k
  induction k with
  | zero => intro b _ _; refine iter_end ?_; unfold m_ref02_Eight_b1; rw [if_neg (by simp)]; simp [pput]
  | succ k ih =>
    intro b hk hb
    have hw : w64 (8 * (((k + 1 : Nat) : Int) - 1)) = ((8 * k : Nat) : Int) := by rw [w64_in (by omega) (by omega)]; omega
    have hw2 : w64 ((((k + 1 : Nat) : Int) - 1) - 1) = (k : Int) - 1 := by rw [w64_in (by omega) (by omega)]; omega
    rw [iter_step (s' := (b ++ [toB ((shrU n (8 * k)).toNat : Int)], (k : Int) - 1))]
    · rw [ih _ (by omega) (by simp; omega)]; simp [pput]
    · unfold m_ref02_Eight_b1
      dsimp only
      rw [hw, hw2, toU_toNat (by omega), if_pos (decide_eq_true (by omega)), app_eq 1 (by simp; omega) (by simp; omega), obind_some']
theorem eight_eq (n : UInt64) : m_ref02_Eight n = some (pput 8 n) := by
  have h := iter_up _ (eight_it n 8 [] (by omega) (by simp)) (by omega)
  unfold m_ref02_Eight
  rw [show (7 : Int) = ((8 : Nat) : Int) - 1 from rfl, h, obind_some', obind_some']; rfl
theorem coded_it (ps : List (List UInt8)) : ∀ (n i : Nat) (b : List UInt8), i + n = ps.length → i ≤ 1000000 → ps.length ≤ 1000000 → b.length + plen (ps.drop i) ≤ 800000 → iter (m_ref02_Coded_b1 ps) (n + 1) (b, (i : Int)) = some (pcode b (ps.drop i)) := by
  intro n
  induction n with
  | zero =>
    intro i b h _ _ _
    have : ps.drop i = [] := List.drop_eq_nil_of_le (by omega)
    refine iter_end ?_
    unfold m_ref02_Coded_b1
    rw [if_neg (by simp; omega), this]; rfl
  | succ n ih =>
    intro i b h hi hps hb
    have hlt : i < ps.length := by omega
    have hx : idx ps (i : Int) = some ps[i] := idx_nat (by simp [hlt])
    have hd : ps.drop i = ps[i] :: ps.drop (i + 1) := List.drop_eq_getElem_cons hlt
    have hw : w64 ((i : Int) + 1) = ((i + 1 : Nat) : Int) := by rw [w64_in (by omega) (by omega)]; omega
    rw [hd] at hb ⊢
    simp only [plen] at hb
    have hc : cut (pput 8 (toU (ps[i].length : Int))) 4 ((pput 8 (toU (ps[i].length : Int))).length : Int) = some (pput 4 (toU (ps[i].length : Int))) := by
      rw [pput_len]
      have := cut_eq (xs := pput 8 (toU (ps[i].length : Int))) (lo := 4) (hi := 8) (by omega) (by rw [pput_len]; omega)
      rw [show ((4 : Nat) : Int) = 4 from rfl] at this
      rw [this]; rfl
    rw [iter_step (s' := (b ++ pput 4 (toU (ps[i].length : Int)) ++ ps[i], ((i + 1 : Nat) : Int)))]
    · rw [ih (i + 1) _ (by omega) (by omega) hps (by simp [pput_len]; omega)]; rfl
    · unfold m_ref02_Coded_b1
      dsimp only
      rw [if_pos (by simp; omega), hx, obind_some', eight_eq, obind_some', hc, obind_some', app_eq 1 (by simp [pput_len]; omega) (by simp [pput_len]; omega), obind_some', obind_some', app_eq 1 (by simp [pput_len]; omega) (by simp [pput_len]; omega), obind_some']
      simp only [hw]
theorem tagged02_eq (t : ByteArray) (ps : List (List UInt8)) (h : t.data.toList.length + plen ps ≤ 700000) (hp : ps.length ≤ 1000000) : m_ref02_Tagged t ps = some (ptag t ps) := by
  have hc := coded_it ps ps.length 0 (toB (t.size : Int) :: t.data.toList) (by omega) (by omega) hp (by simp at h ⊢; omega)
  have hc' := iter_up _ hc (by omega)
  unfold m_ref02_Tagged m_ref02_Coded
  rw [app_eq 1 (by simp at h ⊢; omega) (by simp at h ⊢; omega), obind_some']
  rw [show ((0 : Int)) = ((0 : Nat) : Int) from rfl]
  rw [show [toB (t.size : Int)] ++ t.data.toList = toB (t.size : Int) :: t.data.toList from rfl, hc', obind_some', obind_some', obind_some']
  rw [sum02_eq _ (by rw [pcode_len]; simp at h ⊢; omega), obind_some']
  rfl
end Go.Proofs.YtojlmhmiknocmaaGreat
end
section
namespace Go.Proofs.YtojlmhmiknocmaaGreat
open Go Go.Gw
theorem plus_nat {a b m : UInt64} (hm : m.toNat ≤ 4611686018427387904) (ha : a.toNat < m.toNat) (hb : b.toNat < m.toNat) :
    (if (decide ((a.toNat : Int) ≥ ((m - b).toNat : Int))) = true then some (a - (m - b)) else some (a + b)) = some (addM m a b) := by
  have h1 : (m - b).toNat = m.toNat - b.toNat := by rw [UInt64.toNat_sub_of_le]; exact UInt64.le_iff_toNat_le.2 (Nat.le_of_lt hb)
  by_cases h : m.toNat - b.toNat ≤ a.toNat
  · have h2 : (a - (m - b)).toNat = a.toNat - (m.toNat - b.toNat) := by rw [UInt64.toNat_sub_of_le, h1]; exact UInt64.le_iff_toNat_le.2 (by omega)
    rw [if_pos (by rw [h1]; simpa using h)]
    congr 1
    refine of_nat ?_
    rw [h2, show a.toNat + b.toNat = (a.toNat - (m.toNat - b.toNat)) + m.toNat from by omega, Nat.add_mod_right, Nat.mod_eq_of_lt (by omega)]
  · rw [if_neg (by rw [h1]; simpa using h)]
    congr 1
    refine of_nat ?_
    rw [UInt64.toNat_add, Nat.mod_eq_of_lt (by omega), Nat.mod_eq_of_lt (by omega)]
theorem sum03_eq {a b m : UInt64} (hm : m.toNat ≤ 4611686018427387904) (ha : a.toNat < m.toNat) (hb : b.toNat < m.toNat) : m_ref03_sum a b m = some (addM m a b) := plus_nat hm ha hb
theorem plus02_eq {a b m : UInt64} (hm : m.toNat ≤ 4611686018427387904) (ha : a.toNat < m.toNat) (hb : b.toNat < m.toNat) : m_ref02_plus a b m = some (addM m a b) := plus_nat hm ha hb
theorem addM_nat' {y : UInt64} (h : 0 < y.toNat) (a b : UInt64) : (addM y a b).toNat = (a.toNat + b.toNat) % y.toNat := ofN_mod _ h
theorem bit1 (x : UInt64) {i : Nat} (hi : i ≤ 63) : ((((shrU x ((toU (i : Int)).toNat)) &&& 1).toNat : Int) == 1) = decide (x.toNat / 2 ^ i % 2 = 1) := by
  rw [toU_toNat (by omega), UInt64.toNat_and, shrU_toNat _ _ (by omega), show (1 : UInt64).toNat = 1 from rfl, Nat.and_one_is_mod, Bool.eq_iff_iff, beq_iff_eq, decide_eq_true_eq]
  omega
theorem div_two (n i : Nat) : n / 2 ^ i = 2 * (n / 2 ^ (i + 1)) + n / 2 ^ i % 2 := by
  rw [Nat.pow_succ, ← Nat.div_div_eq_div_mul]
  omega
theorem times_mod {A B C m r : Nat} (hr : r = A * B % m) : (r + r) % m = A * (2 * B) % m := by
  rw [hr, ← Nat.add_mod, ← Nat.two_mul, Nat.mul_left_comm]
theorem times_it (a b : UInt64) {m : UInt64} (hp : 0 < m.toNat) (hm : m.toNat ≤ 4611686018427387904) : ∀ (j : Nat) (out : UInt64), j ≤ 64 → out.toNat = (a.toNat % m.toNat) * ((b.toNat % m.toNat) / 2 ^ j) % m.toNat →
    ∃ r, iter (m_ref03_times_b1 a b m) (j + 1) (out, (j : Int) - 1) = some r ∧ r.toNat = (a.toNat % m.toNat) * (b.toNat % m.toNat) % m.toNat := by
  intro j
  induction j with
  | zero =>
    intro out _ ho
    refine ⟨out, iter_end ?_, by rw [ho, Nat.pow_zero, Nat.div_one]⟩
    unfold m_ref03_times_b1
    rw [if_neg (by simp)]
  | succ j ih =>
    intro out hj ho
    have ham : (a % m).toNat = a.toNat % m.toNat := UInt64.toNat_mod _ _
    have hbm : (b % m).toNat = b.toNat % m.toNat := UInt64.toNat_mod _ _
    have hol : out.toNat < m.toNat := by rw [ho]; exact Nat.mod_lt _ hp
    have hdl : (addM m out out).toNat < m.toNat := by rw [addM_nat' hp]; exact Nat.mod_lt _ hp
    have hd : (addM m out out).toNat = (a.toNat % m.toNat) * (2 * ((b.toNat % m.toNat) / 2 ^ (j + 1))) % m.toNat := by
      rw [addM_nat' hp]; exact times_mod (C := 0) ho
    have hw : (((j + 1 : Nat) : Int) - 1) = (j : Int) := by omega
    have hw2 : w64 ((j : Int) - 1) = (j : Int) - 1 := w64_in (by omega) (by omega)
    have hst : ∃ o, m_ref03_times_b1 a b m (out, ((j + 1 : Nat) : Int) - 1) = some (.inl (o, (j : Int) - 1)) ∧ o.toNat = (a.toNat % m.toNat) * ((b.toNat % m.toNat) / 2 ^ j) % m.toNat := by
      unfold m_ref03_times_b1
      dsimp only
      rw [hw, if_pos (by simp), sum03_eq hm hol hol, obind_some', bit1 _ (by omega), hbm, hw2]
      by_cases hb : (b.toNat % m.toNat) / 2 ^ j % 2 = 1
      · rw [if_pos (by simpa using hb), sum03_eq hm hdl (by rw [ham]; exact Nat.mod_lt _ hp), obind_some', obind_some']
        refine ⟨_, rfl, ?_⟩
        rw [addM_nat' hp, hd, ham, Nat.mod_add_mod, div_two _ j, hb, Nat.mul_add, Nat.mul_one]
      · rw [if_neg (by simpa using hb), obind_some']
        refine ⟨_, rfl, ?_⟩
        have hdt := div_two (b.toNat % m.toNat) j
        rw [show (b.toNat % m.toNat) / 2 ^ j % 2 = 0 from by omega, Nat.add_zero] at hdt
        rw [hd, hdt]
    obtain ⟨o, e1, e2⟩ := hst
    obtain ⟨r, e3, e4⟩ := ih o (by omega) e2
    exact ⟨r, by rw [iter_step e1]; exact e3, e4⟩
theorem times_eq (a b : UInt64) {m : UInt64} (hp : 0 < m.toNat) (hm : m.toNat ≤ 4611686018427387904) : m_ref03_times a b m = some (mulM m a b) := by
  have hne : m ≠ 0 := fun e => by rw [e] at hp; simp at hp
  have hbl : b.toNat % m.toNat < 2 ^ 64 := Nat.lt_of_lt_of_le (Nat.mod_lt _ hp) (by omega)
  obtain ⟨r, e1, e2⟩ := times_it a b hp hm 64 0 (by omega) (by rw [Nat.div_eq_of_lt hbl, Nat.mul_zero, Nat.zero_mod]; rfl)
  have e1' : iter (m_ref03_times_b1 a b m) FUEL (0, 63) = some r := iter_up _ e1 (by omega)
  unfold m_ref03_times
  rw [if_pos hne, if_pos hne, e1', obind_some', obind_some']
  rw [← Nat.mul_mod] at e2
  rw [of_nat e2]; rfl
theorem power_it (a n : UInt64) {m : UInt64} (hp : 0 < m.toNat) (hm : m.toNat ≤ 4611686018427387904) : ∀ (j : Nat) (out : UInt64), j ≤ 64 → out.toNat = a.toNat ^ (n.toNat / 2 ^ j) % m.toNat →
    ∃ r, iter (m_ref03_power_b1 a n m) (j + 1) (out, (j : Int) - 1) = some r ∧ r.toNat = a.toNat ^ n.toNat % m.toNat := by
  intro j
  induction j with
  | zero =>
    intro out _ ho
    refine ⟨out, iter_end ?_, by rw [ho, Nat.pow_zero, Nat.div_one]⟩
    unfold m_ref03_power_b1
    rw [if_neg (by simp)]
  | succ j ih =>
    intro out hj ho
    have hd : (mulM m out out).toNat = a.toNat ^ (2 * (n.toNat / 2 ^ (j + 1))) % m.toNat := by
      have : (mulM m out out).toNat = (out.toNat * out.toNat) % m.toNat := ofN_mod _ hp
      rw [this, ho, ← Nat.mul_mod, ← Nat.pow_add, ← Nat.two_mul]
    have hw : (((j + 1 : Nat) : Int) - 1) = (j : Int) := by omega
    have hw2 : w64 ((j : Int) - 1) = (j : Int) - 1 := w64_in (by omega) (by omega)
    have hst : ∃ o, m_ref03_power_b1 a n m (out, ((j + 1 : Nat) : Int) - 1) = some (.inl (o, (j : Int) - 1)) ∧ o.toNat = a.toNat ^ (n.toNat / 2 ^ j) % m.toNat := by
      unfold m_ref03_power_b1
      dsimp only
      rw [hw, if_pos (by simp), times_eq _ _ hp hm, obind_some', bit1 _ (by omega), hw2]
      by_cases hb : n.toNat / 2 ^ j % 2 = 1
      · rw [if_pos (by simpa using hb), times_eq _ _ hp hm, obind_some', obind_some']
        refine ⟨_, rfl, ?_⟩
        have : (mulM m (mulM m out out) a).toNat = ((mulM m out out).toNat * a.toNat) % m.toNat := ofN_mod _ hp
        have hdt := div_two n.toNat j
        rw [hb] at hdt
        rw [this, hd, Nat.mod_mul_mod, ← Nat.pow_succ, hdt]
      · rw [if_neg (by simpa using hb), obind_some']
        have hdt := div_two n.toNat j
        rw [show n.toNat / 2 ^ j % 2 = 0 from by omega, Nat.add_zero] at hdt
        refine ⟨_, rfl, ?_⟩
        rw [hd, hdt]
    obtain ⟨o, e1, e2⟩ := hst
    obtain ⟨r, e3, e4⟩ := ih o (by omega) e2
    exact ⟨r, by rw [iter_step e1]; exact e3, e4⟩
theorem power03_eq (a n : UInt64) {m : UInt64} (hp : 1 < m.toNat) (hm : m.toNat ≤ 4611686018427387904) : m_ref03_power a n m = some (powN m a n) := by
  have hnl : n.toNat < 2 ^ 64 := n.toNat_lt
  obtain ⟨r, e1, e2⟩ := power_it a n (by omega) hm 64 1 (by omega) (by rw [Nat.div_eq_of_lt hnl, Nat.pow_zero, Nat.mod_eq_of_lt hp]; rfl)
  have e1' : iter (m_ref03_power_b1 a n m) FUEL (1, 63) = some r := iter_up _ e1 (by omega)
  unfold m_ref03_power
  rw [e1', obind_some', obind_some', of_nat e2]; rfl
theorem base03_eq (n : UInt64) : m_ref03_Base n = some (pubK n) := by
  unfold m_ref03_Base
  rw [power03_eq _ _ (by decide) (by decide), obind_some']; rfl
theorem num02_it (s : UInt64) {m : UInt64} (hp : 0 < m.toNat) (hm : m.toNat ≤ 4611686018427387904) : ∀ (k i : Nat) (x : UInt64), i + k = 61 → x.toNat = s.toNat * 2 ^ i % m.toNat → ∃ r, iter (m_ref02_Num_b2 m) (k + 1) (x, (i : Int)) = some r ∧ r.toNat = s.toNat * 2 ^ 61 % m.toNat := by
  intro k
  induction k with
  | zero =>
    intro i x hi hx
    obtain rfl : i = 61 := by omega
    exact ⟨x, iter_end (by unfold m_ref02_Num_b2; rw [if_neg (by simp)]), hx⟩
  | succ k ih =>
    intro i x hi hx
    have hxl : x.toNat < m.toNat := by rw [hx]; exact Nat.mod_lt _ hp
    have hn : (addM m x x).toNat = s.toNat * 2 ^ (i + 1) % m.toNat := by
      rw [addM_nat' hp, hx, ← Nat.add_mod, ← Nat.two_mul, Nat.mul_left_comm, Nat.pow_succ, Nat.mul_comm 2]
    obtain ⟨r, e1, e2⟩ := ih (i + 1) _ (by omega) hn
    refine ⟨r, ?_, e2⟩
    rw [iter_step (s' := (addM m x x, ((i + 1 : Nat) : Int)))]
    · exact e1
    · unfold m_ref02_Num_b2
      dsimp only
      rw [if_pos (by simp; omega), plus02_eq hm hxl hxl, obind_some', w64_sucN (by omega)]
theorem num02_eq {y : UInt64} (h : Dv y) (hm : y.toNat ≤ 4611686018427387904) (s : UInt64 × UInt64) : m_ref02_Num s y = some (numM s y) := by
  have hp := h.pos
  have hne : y ≠ 0 := fun e => by rw [e] at hp; simp at hp
  obtain ⟨r, e1, e2⟩ := num02_it s.1 hp hm 61 0 (s.1 % y) (by omega) (by rw [UInt64.toNat_mod, Nat.pow_zero, Nat.mul_one])
  have e1' : iter (m_ref02_Num_b2 y) FUEL (s.1 % y, 0) = some r := iter_up _ e1 (by omega)
  have hr : r.toNat < y.toNat := by rw [e2]; exact Nat.mod_lt _ hp
  have h2 : (s.2 % y).toNat = s.2.toNat % y.toNat := UInt64.toNat_mod _ _
  unfold m_ref02_Num
  rw [if_neg (by rw [beq_iff_eq]; omega), if_pos hne, e1', obind_some', obind_some', if_pos hne, plus02_eq hm hr (by rw [h2]; exact Nat.mod_lt _ hp), obind_some']
  congr 1
  refine of_nat ?_
  rw [addM_nat' hp, h2, e2, ← Nat.add_mod]
end Go.Proofs.YtojlmhmiknocmaaGreat
end
section
namespace Go.Proofs.YtojlmhmiknocmaaGreat
open Go Go.Gw
theorem bytes02_eq (s : UInt64 × UInt64) : m_ref02_Bytes s = some (pbytes s) := by
  unfold m_ref02_Bytes
  rw [eight_eq, obind_some', eight_eq, obind_some', app_eq 1 (by simp [pput_len]) (by simp [pput_len]), obind_some']; rfl
theorem toB_mod {a b : Int} (h : a % 256 = b % 256) : toB a = toB b := by unfold toB; rw [h]
theorem div_256 (n : UInt64) : (n / 256).toNat = n.toNat / 256 := by rw [UInt64.toNat_div]; rfl
theorem eight04_it (n : UInt64) : iter m_ref04_Eight_b1 9 (n, 7, List.replicate 8 (0 : UInt8)) = some [toB ((n / 256 / 256 / 256 / 256 / 256 / 256 / 256 % 256).toNat : Int), toB ((n / 256 / 256 / 256 / 256 / 256 / 256 % 256).toNat : Int), toB ((n / 256 / 256 / 256 / 256 / 256 % 256).toNat : Int), toB ((n / 256 / 256 / 256 / 256 % 256).toNat : Int), toB ((n / 256 / 256 / 256 % 256).toNat : Int), toB ((n / 256 / 256 % 256).toNat : Int), toB ((n / 256 % 256).toNat : Int), toB ((n % 256).toNat : Int)] := by
  simp [iter, m_ref04_Eight_b1, idx, bnd_def, w64, List.replicate]
theorem eight04_eq (n : UInt64) : m_ref04_Eight n = some (pput 8 n) := by
  have h := iter_up _ (eight04_it n) (by omega)
  unfold m_ref04_Eight
  rw [h, obind_some', obind_some']
  simp only [pput]
  congr 1
  have key : ∀ (k : Nat) (x : UInt64), k ≤ 56 → x.toNat = n.toNat / 2 ^ k → toB ((x % 256).toNat : Int) = toB ((shrU n k).toNat : Int) := by
    intro k x hk hx
    refine toB_mod ?_
    rw [shrU_toNat _ _ (by omega), UInt64.toNat_mod, hx, show (256 : UInt64).toNat = 256 from rfl]
    omega
  rw [key 56 _ (by omega) (by simp only [div_256, Nat.div_div_eq_div_mul]), key 48 _ (by omega) (by simp only [div_256, Nat.div_div_eq_div_mul]), key 40 _ (by omega) (by simp only [div_256, Nat.div_div_eq_div_mul]), key 32 _ (by omega) (by simp only [div_256, Nat.div_div_eq_div_mul]), key 24 _ (by omega) (by simp only [div_256, Nat.div_div_eq_div_mul]), key 16 _ (by omega) (by simp only [div_256, Nat.div_div_eq_div_mul]), key 8 _ (by omega) (by simp only [div_256, Nat.div_div_eq_div_mul]), key 0 _ (by omega) (by simp)]
theorem challenge04_eq (c p : UInt64) {msg : List UInt8} (h : msg.length ≤ 600000) : m_ref04_Challenge c p msg = some (chal c p msg) := by
  unfold m_ref04_Challenge
  rw [eight04_eq, obind_some', eight04_eq, obind_some', tagged02_eq _ _ (by simp [plen, pput_len]; omega) (by simp), obind_some', num02_eq dvR (by decide), obind_some']; rfl
end Go.Proofs.YtojlmhmiknocmaaGreat
end
section
namespace Go.Proofs.YtojlmhmiknocmaaGreat
open Go Go.Gw
theorem e8_eq (n : Int) : pput 8 (toU n) = e8 n := by
  have key : ∀ k : Nat, k ≤ 56 → toB ((shrU (toU n) k).toNat : Int) = toB (shr64 n k) := by
    intro k hk
    refine toB_mod ?_
    have h1 := toU_nat n
    have h2 : ((shrU (toU n) k).toNat : Int) = (n % 18446744073709551616) / 2 ^ k := by
      rw [shrU_toNat _ _ (by omega), Int.natCast_ediv, h1]; simp
    rw [h2]
    unfold shr64
    rw [Nat.min_eq_left (by omega), Int.fdiv_eq_ediv_of_nonneg _ (by exact Int.le_of_lt (Int.pow_pos (by decide)))]
    obtain ⟨c, hc⟩ : ∃ c : Nat, (18446744073709551616 : Int) = 2 ^ k * (256 * (c : Int)) := by
      refine ⟨2 ^ (56 - k), ?_⟩
      have : (18446744073709551616 : Nat) = 2 ^ k * (256 * 2 ^ (56 - k)) := by
        rw [Nat.mul_left_comm, ← Nat.pow_add, show k + (56 - k) = 56 from by omega]
      have h3 := congrArg (fun z : Nat => (z : Int)) this
      simpa using h3
    have hk0 : (2 : Int) ^ k ≠ 0 := Int.ne_of_gt (Int.pow_pos (by decide))
    have e : n = (n % 18446744073709551616) + 2 ^ k * (256 * (c : Int) * (n / 18446744073709551616)) := by
      have h4 : n % 18446744073709551616 + 18446744073709551616 * (n / 18446744073709551616) = n := by omega
      conv => lhs; rw [← h4]
      conv => lhs; arg 2; arg 1; rw [hc]
      rw [Int.mul_assoc]
    conv => rhs; rw [e]
    rw [Int.add_mul_ediv_left _ _ hk0, Int.mul_assoc, Int.add_mul_emod_self_left]
  simp only [pput, e8]
  rw [key 56 (by omega), key 48 (by omega), key 40 (by omega), key 32 (by omega), key 24 (by omega), key 16 (by omega), key 8 (by omega), key 0 (by omega)]
end Go.Proofs.YtojlmhmiknocmaaGreat
end
section
namespace Go.Proofs.YtojlmhmiknocmaaGreat
open Go Go.Gw
theorem few24 (l : g_api_Log) (b : List UInt8) : ∃ r, m_law24_few l b = some r ∧ (r = true → l.L.length ≤ 40 ∧ l.Wait.length ≤ 40 ∧ l.Hide.length ≤ 60 ∧ b.length ≤ 3000) := by
  obtain ⟨t1, h1, _⟩ := iter_ends (step := m_ref24_Few_b2 l) (T := fun _ => True) (s0 := (0, 0)) (fun i s => s.2 = (i : Int) ∧ i ≤ 40) 40 (by omega) ⟨rfl, by omega⟩ (by
    rintro i ⟨n, j⟩ hi ⟨h, _⟩
    obtain rfl : j = (i : Int) := h
    unfold m_ref24_Few_b2
    by_cases h1 : i < l.L.length ∧ i < 40
    · right
      refine ⟨by omega, (w64 (n + (l.L[i].Body.length : Int)), ((i + 1 : Nat) : Int)), ?_, rfl, by omega⟩
      dsimp only
      rw [if_pos (by simp; omega), idx_lt h1.1, obind_some', bnd, w64_sucN (by omega)]
    · left
      exact ⟨_, by dsimp only; rw [if_neg (by simp; omega)], trivial⟩)
  obtain ⟨t2, h2, _⟩ := iter_ends (step := m_ref24_Few_b3 l) (T := fun _ => True) (s0 := (t1, 0)) (fun i s => s.2 = (i : Int) ∧ i ≤ 40) 40 (by omega) ⟨rfl, by omega⟩ (by
    rintro i ⟨n, j⟩ hi ⟨h, _⟩
    obtain rfl : j = (i : Int) := h
    unfold m_ref24_Few_b3
    by_cases h1 : i < l.Wait.length ∧ i < 40
    · right
      refine ⟨by omega, (w64 (n + (l.Wait[i].Body.length : Int)), ((i + 1 : Nat) : Int)), ?_, rfl, by omega⟩
      dsimp only
      rw [if_pos (by simp; omega), idx_lt h1.1, obind_some', bnd, w64_sucN (by omega)]
    · left
      exact ⟨_, by dsimp only; rw [if_neg (by simp; omega)], trivial⟩)
  unfold m_law24_few m_ref24_Few
  rw [h1, obind_some', obind_some', h2, obind_some', obind_some', bnd, obind_some', bnd]
  refine ⟨_, rfl, fun h => ?_⟩
  simp only [Bool.and_eq_true, decide_eq_true_eq] at h
  omega
theorem num24_eq (n : Int) : m_ref24_num n = some (okNum n) := rfl
theorem isBody24_eq (b : List UInt8) : m_ref24_isBody b = some (okBody b) := by
  unfold m_ref24_isBody okBody
  rw [bnd_def]
  congr 2
  · rw [decide_eq_decide]; omega
  · rw [decide_eq_decide]; omega
theorem all24_eq {l : g_api_Log} (h : l.L.length + l.Wait.length ≤ 100000) : m_ref24_All l = some (l.L ++ l.Wait) := by
  unfold m_ref24_All
  rw [app_eq 32 (by simp; omega) (by simp; omega), obind_some', List.nil_append, app_eq 32 (by omega) (by omega), obind_some']
def pos : List g_api_Leaf → List UInt8 → Option Nat
  | [], _ => none
  | x :: r, b => if x.Body = b then some 0 else (pos r b).map (· + 1)
theorem find24_it (all : List g_api_Leaf) (b : List UInt8) (hl : all.length ≤ 100000) : ∀ (xs : List g_api_Leaf) (i : Nat), all.drop i = xs →
    iter (m_ref24_find_b1 all b) (xs.length + 1) (i : Int) = some (match pos xs b with | some j => .inr ((i + j : Nat) : Int) | none => .inl ()) := by
  intro xs
  induction xs with
  | nil =>
    intro i hd
    have : all.length ≤ i := List.drop_eq_nil_iff.1 hd
    refine iter_end ?_
    unfold m_ref24_find_b1
    rw [if_neg (by simp; omega)]; rfl
  | cons x xs ih =>
    intro i hd
    have hx : all[i]? = some x := by
      have : (all.drop i)[0]? = some x := by rw [hd]; rfl
      simpa using this
    have hlt : i < all.length := (List.getElem?_eq_some_iff.1 hx).1
    have hd' : all.drop (i + 1) = xs := by rw [← List.drop_drop, hd]; rfl
    by_cases h : x.Body = b
    · refine iter_end ?_
      unfold m_ref24_find_b1
      rw [if_pos (by simp; omega), idx_of hx, obind_some', bs_eq, if_pos (by simpa using h)]
      simp [pos, h]
    · rw [List.length_cons, iter_step (s' := ((i + 1 : Nat) : Int)), ih (i + 1) hd']
      · simp only [pos, if_neg h]
        cases pos xs b with
        | none => rfl
        | some j => simp only [Option.map_some]; congr 3; omega
      · unfold m_ref24_find_b1
        rw [if_pos (by simp; omega), idx_of hx, obind_some', bs_eq, if_neg (by simpa using h), w64_sucN (by omega)]
theorem find24_eq {all : List g_api_Leaf} (b : List UInt8) (hl : all.length ≤ 100000) : m_ref24_find all b = some (match pos all b with | some j => (j : Int) | none => -1) := by
  have h := iter_up _ (find24_it all b hl all 0 rfl) (by omega)
  have h' : iter (m_ref24_find_b1 all b) FUEL 0 = _ := h
  unfold m_ref24_find
  rw [h', obind_some']
  cases pos all b with
  | none => rfl
  | some j => simp
theorem pos_first : ∀ {xs : List g_api_Leaf} {i : Nat} {x : g_api_Leaf}, xs[i]? = some x → ((match pos xs x.Body with | some j => (j : Int) | none => -1) != (i : Int)) = decide (x.Body ∈ (xs.take i).map (·.Body)) := by
  intro xs
  induction xs with
  | nil => intro i x h; simp at h
  | cons y ys ih =>
    intro i x h
    cases i with
    | zero => simp at h; subst h; simp [pos]
    | succ i =>
      have h' : ys[i]? = some x := by simpa using h
      by_cases hy : y.Body = x.Body
      · simp only [pos, if_pos hy, List.take_succ_cons, List.map_cons]
        rw [decide_eq_true (by simp [hy])]
        simp; omega
      · have := ih h'
        simp only [pos, if_neg hy, List.take_succ_cons, List.map_cons]
        have e : decide (x.Body ∈ y.Body :: (ys.take i).map (·.Body)) = decide (x.Body ∈ (ys.take i).map (·.Body)) := by
          rw [decide_eq_decide, List.mem_cons]
          exact ⟨fun q => q.resolve_left (fun z => hy z.symm), .inr⟩
        rw [e, ← this, Bool.eq_iff_iff]
        cases pos ys x.Body with
        | none => simp; omega
        | some j => simp
theorem okL_at : ∀ (xs : List g_api_Leaf) (ks : List (List UInt8)), okL xs ks = true ↔ ∀ (i : Nat) (x : g_api_Leaf), xs[i]? = some x → okBody x.Body = true ∧ okNum x.At = true ∧ x.Body ∉ ks ++ (xs.take i).map (·.Body) := by
  intro xs
  induction xs with
  | nil => intro ks; simp [okL]
  | cons y ys ih =>
    intro ks
    show ((okBody y.Body && okNum y.At && !decide (y.Body ∈ ks)) && okL ys (ks ++ [y.Body])) = true ↔ _
    rw [Bool.and_eq_true, ih]
    constructor
    · rintro ⟨h1, h2⟩ i x hx
      cases i with
      | zero =>
        simp at hx; subst hx
        simp only [Bool.and_eq_true, Bool.not_eq_true', decide_eq_false_iff_not] at h1
        simpa using ⟨h1.1.1, h1.1.2, h1.2⟩
      | succ i =>
        have := h2 i x (by simpa using hx)
        simpa using this
    · intro h
      refine ⟨?_, fun i x hx => ?_⟩
      · have := h 0 y rfl
        simp only [Bool.and_eq_true, Bool.not_eq_true', decide_eq_false_iff_not]
        simpa [and_assoc] using this
      · have := h (i + 1) x (by simpa using hx)
        simpa using this
theorem check24_b2 {xs : List g_api_Leaf} (hl : xs.length ≤ 100000) : iter (m_ref24_Check_b2 xs) FUEL 0 = some (if okL xs [] = true then .inl () else .inr 1) := by
  obtain ⟨y, h1, h2⟩ := iter_ends (step := m_ref24_Check_b2 xs) (T := fun y => y = if okL xs [] = true then .inl () else .inr 1) (s0 := 0)
    (fun i s => s = (i : Int) ∧ i ≤ xs.length ∧ ∀ (j : Nat) (x : g_api_Leaf), j < i → xs[j]? = some x → okBody x.Body = true ∧ okNum x.At = true ∧ x.Body ∉ (xs.take j).map (·.Body)) xs.length (by omega) ⟨rfl, by omega, fun j _ h => by omega⟩ (by
      rintro i s hi ⟨rfl, h0, hI⟩
      unfold m_ref24_Check_b2
      by_cases hlt : i < xs.length
      · have hx : xs[i]? = some xs[i] := by simp [hlt]
        rw [if_pos (by simpa using hlt), idx_of hx, obind_some', isBody24_eq, obind_some']
        have bad : ¬ (okBody xs[i].Body = true ∧ okNum xs[i].At = true ∧ xs[i].Body ∉ (xs.take i).map (·.Body)) → (.inr 1 : Unit ⊕ Int) = if okL xs [] = true then .inl () else .inr 1 := by
          intro hb
          rw [if_neg]
          intro hok
          have := (okL_at xs []).1 hok i _ hx
          exact hb (by simpa using this)
        cases ha : okBody xs[i].Body with
        | false =>
          left
          refine ⟨.inr 1, ?_, bad (fun q => by rw [ha] at q; exact Bool.noConfusion q.1)⟩
          simp only [gu, Bool.not_false, Bool.not_true, cond_false, obind_some', Bool.true_or, if_true]
        | true =>
          simp only [gu, Bool.not_true, Bool.not_false, cond_true, idx_of hx, obind_some', num24_eq, Bool.false_or]
          cases hb : okNum xs[i].At with
          | false =>
            left
            refine ⟨.inr 1, ?_, bad (fun q => by rw [hb] at q; exact Bool.noConfusion q.2.1)⟩
            simp only [Bool.not_false, Bool.not_true, cond_false, obind_some', Bool.true_or, if_true]
          | true =>
            simp only [Bool.not_true, Bool.not_false, cond_true, idx_of hx, obind_some', find24_eq _ hl, Bool.false_or]
            rw [pos_first hx]
            by_cases hc : xs[i].Body ∈ (xs.take i).map (·.Body)
            · left
              refine ⟨.inr 1, ?_, bad (fun q => q.2.2 hc)⟩
              rw [if_pos (by simpa using hc)]
            · right
              refine ⟨hlt, ((i + 1 : Nat) : Int), ?_, rfl, by omega, fun j x hj hxj => ?_⟩
              · rw [if_neg (by simpa using hc), w64_sucN (by omega)]
              · by_cases hji : j = i
                · subst hji
                  rw [hx] at hxj; cases hxj
                  exact ⟨ha, hb, hc⟩
                · exact hI j x (by omega) hxj
      · left
        refine ⟨.inl (), by rw [if_neg (by simpa using hlt)], ?_⟩
        rw [if_pos]
        refine (okL_at xs []).2 fun j x hx => ?_
        have hj := (List.getElem?_eq_some_iff.1 hx).1
        simpa using hI j x (by omega) hx)
  rw [h1, h2]
theorem okH_at : ∀ (xs : List Int) (last n : Int), okH xs last n = true ↔ ∀ (i : Nat) (x : Int), xs[i]? = some x → x < n ∧ (match i with | 0 => last < x | j + 1 => ∀ y, xs[j]? = some y → y < x) := by
  intro xs
  induction xs with
  | nil => intro last n; simp [okH]
  | cons a xs ih =>
    intro last n
    show ((!decide (a ≤ last) && !decide (n ≤ a)) && okH xs a n) = true ↔ _
    rw [Bool.and_eq_true, Bool.and_eq_true, ih]
    simp only [Bool.not_eq_true', decide_eq_false_iff_not, Int.not_le]
    constructor
    · rintro ⟨⟨h1, h2⟩, h3⟩ i x hx
      cases i with
      | zero => simp at hx; subst hx; exact ⟨h2, h1⟩
      | succ i =>
        obtain ⟨h4, h5⟩ := h3 i x (by simpa using hx)
        refine ⟨h4, ?_⟩
        cases i with
        | zero => intro y hy; simp at hy; subst hy; exact h5
        | succ i => intro y hy; exact h5 y (by simpa using hy)
    · intro h
      obtain ⟨h1, h2⟩ := h 0 a rfl
      refine ⟨⟨h2, h1⟩, fun i x hx => ?_⟩
      obtain ⟨h3, h4⟩ := h (i + 1) x (by simpa using hx)
      refine ⟨h3, ?_⟩
      cases i with
      | zero => exact h4 a rfl
      | succ i => intro y hy; exact h4 y (by simpa using hy)
theorem okH_low {xs : List Int} {n : Int} (h : ∀ (i : Nat) (x : Int), xs[i]? = some x → 0 ≤ x ∧ x < n ∧ ∀ j y, i = j + 1 → xs[j]? = some y → y < x) : okH xs (-1) n = true := by
  refine (okH_at xs (-1) n).2 fun i x hx => ?_
  obtain ⟨h1, h2, h3⟩ := h i x hx
  refine ⟨h2, ?_⟩
  cases i with
  | zero => show (-1 : Int) < x; omega
  | succ i => intro y hy; exact h3 i y rfl hy
theorem okH_nonneg : ∀ {xs : List Int} {last n : Int}, okH xs last n = true → ∀ x ∈ xs, last < x := by
  intro xs
  induction xs with
  | nil => intro last n _ x hx; cases hx
  | cons y xs ih =>
    intro last n h x hx
    have h' : ((!decide (y ≤ last) && !decide (n ≤ y)) && okH xs y n) = true := h
    rw [Bool.and_eq_true, Bool.and_eq_true] at h'
    have h1 := h'.1.1
    simp at h1
    rcases List.mem_cons.1 hx with rfl | hx
    · exact h1
    · have := ih h'.2 x hx; omega
theorem check24_b3 {l : g_api_Log} (hl : l.Hide.length ≤ 100000) : iter (m_ref24_Check_b3 l) FUEL 0 = some (if okH l.Hide (-1) (l.L.length : Int) = true then .inl () else .inr 1) := by
  obtain ⟨y, h1, h2⟩ := iter_ends (step := m_ref24_Check_b3 l) (T := fun y => y = if okH l.Hide (-1) (l.L.length : Int) = true then .inl () else .inr 1) (s0 := 0)
    (fun i s => s = (i : Int) ∧ i ≤ l.Hide.length ∧ ∀ (j : Nat) (x : Int), j < i → l.Hide[j]? = some x → 0 ≤ x ∧ x < (l.L.length : Int) ∧ ∀ k y, j = k + 1 → l.Hide[k]? = some y → y < x) l.Hide.length (by omega) ⟨rfl, by omega, fun j _ h => by omega⟩ (by
      rintro i s hi ⟨rfl, h0, hI⟩
      unfold m_ref24_Check_b3
      by_cases hlt : i < l.Hide.length
      · have hx : l.Hide[i]? = some l.Hide[i] := by simp [hlt]
        generalize hv : l.Hide[i] = v at hx
        rw [if_pos (by simpa using hlt), idx_of hx, obind_some']
        have bad : ¬ (0 ≤ v ∧ v < (l.L.length : Int) ∧ ∀ k y, i = k + 1 → l.Hide[k]? = some y → y < v) → (.inr 1 : Unit ⊕ Int) = if okH l.Hide (-1) (l.L.length : Int) = true then .inl () else .inr 1 := by
          intro hb
          rw [if_neg]
          intro hok
          have h3 := okH_nonneg hok v (List.mem_of_getElem? hx)
          obtain ⟨h4, h5⟩ := (okH_at _ _ _).1 hok i v hx
          refine hb ⟨by omega, h4, fun k y hk hy => ?_⟩
          subst hk
          exact h5 y hy
        obtain ⟨a, e1, e2⟩ := gu_ok (c := !(decide (v < 0))) (o := some v) (x := v) (fun _ => rfl)
        rw [e1, obind_some']
        obtain ⟨b, e3, e4⟩ := gu_tot (c := (!((decide (v < 0)) || (decide (a ≥ (l.L.length : Int))))) && (decide ((i : Int) > 0))) (o := idx l.Hide (w64 ((i : Int) - 1))) (fun hc => by
          have hi0 : 0 < i := by
            rw [Bool.and_eq_true, decide_eq_true_eq] at hc
            have := hc.2; omega
          have hw : w64 ((i : Int) - 1) = ((i - 1 : Nat) : Int) := by rw [w64_in (by omega) (by omega)]; omega
          exact ⟨l.Hide[i - 1], by rw [hw]; exact idx_lt (by omega)⟩)
        rw [e3, obind_some']
        obtain ⟨d, e5, e6⟩ := gu_ok (c := (!((decide (v < 0)) || (decide (a ≥ (l.L.length : Int))))) && (decide ((i : Int) > 0))) (o := some v) (x := v) (fun _ => rfl)
        rw [e5, obind_some']
        by_cases hv0 : v < 0
        · left
          refine ⟨.inr 1, ?_, bad (fun q => by omega)⟩
          rw [decide_eq_true hv0, Bool.true_or, Bool.true_or, if_pos rfl]
        · have ha : a = v := e2 (by simpa using hv0)
          subst ha
          by_cases hvl : a ≥ (l.L.length : Int)
          · left
            refine ⟨.inr 1, ?_, bad (fun q => by omega)⟩
            rw [decide_eq_true hvl, Bool.or_true, Bool.true_or, if_pos rfl]
          · rw [decide_eq_false hv0, decide_eq_false hvl, Bool.or_self, Bool.not_false, Bool.true_and] at e4 e6
            rw [decide_eq_false hv0, decide_eq_false hvl, Bool.or_self, Bool.false_or]
            by_cases hi0 : 0 < i
            · have hw : w64 ((i : Int) - 1) = ((i - 1 : Nat) : Int) := by rw [w64_in (by omega) (by omega)]; omega
              have hd := e6 (by simpa using hi0)
              have hb := e4 (by simpa using hi0)
              subst hd
              rw [hw, idx_lt (by omega)] at hb
              have hb' : l.Hide[i - 1]? = some b := by
                rw [List.getElem?_eq_getElem (by omega)]; exact hb
              by_cases hbd : b ≥ d
              · left
                refine ⟨.inr 1, ?_, bad (fun q => ?_)⟩
                · rw [decide_eq_true hbd, decide_eq_true (by omega), Bool.and_self, if_pos rfl]
                · have := q.2.2 (i - 1) b (by omega) hb'; omega
              · right
                refine ⟨hlt, ((i + 1 : Nat) : Int), ?_, rfl, by omega, fun j x hj hxj => ?_⟩
                · rw [decide_eq_false hbd, Bool.and_false, if_neg Bool.false_ne_true, w64_sucN (by omega)]
                · by_cases hji : j = i
                  · subst hji
                    rw [hx] at hxj; cases hxj
                    refine ⟨by omega, by omega, fun k y hk hy => ?_⟩
                    subst hk
                    rw [Nat.add_sub_cancel] at hb'
                    rw [hb'] at hy; cases hy; omega
                  · exact hI j x (by omega) hxj
            · right
              refine ⟨hlt, ((i + 1 : Nat) : Int), ?_, rfl, by omega, fun j x hj hxj => ?_⟩
              · rw [decide_eq_false (show ¬ ((i : Int) > 0) by omega), Bool.false_and, if_neg Bool.false_ne_true, w64_sucN (by omega)]
              · by_cases hji : j = i
                · subst hji
                  rw [hx] at hxj; cases hxj
                  exact ⟨by omega, by omega, fun k y hk hy => by omega⟩
                · exact hI j x (by omega) hxj
      · left
        refine ⟨.inl (), by rw [if_neg (by simpa using hlt)], ?_⟩
        rw [if_pos]
        refine okH_low fun j x hx => ?_
        have hj := (List.getElem?_eq_some_iff.1 hx).1
        exact hI j x (by omega) hx)
  rw [h1, h2]
theorem check24_eq {l : g_api_Log} (h : l.L.length + l.Wait.length ≤ 100000) (hh : l.Hide.length ≤ 100000) : m_ref24_Check l = some (chk l) := by
  unfold m_ref24_Check
  rw [num24_eq, obind_some']
  have hc : (((((!okNum l.Id) || (decide ((l.Key.toNat : Int) < 1))) || (decide ((l.Key.toNat : Int) ≥ 1152921504606845789))) || (decide (l.Delay < 0))) || (decide (l.Delay > 1000))) = !okHd l := by
    unfold okHd
    rw [Bool.eq_iff_iff]
    cases okNum l.Id <;> simp <;> omega
  rw [hc]
  unfold chk
  cases h0 : okHd l with
  | false => rw [Bool.not_false, if_pos rfl, if_neg (by decide)]
  | true =>
    rw [Bool.not_true, if_neg Bool.false_ne_true, if_pos rfl, all24_eq h, obind_some', check24_b2 (by simp; omega), obind_some']
    cases h1 : okL (l.L ++ l.Wait) [] with
    | false => rw [if_neg Bool.false_ne_true, if_neg Bool.false_ne_true]
    | true =>
      rw [if_pos rfl, if_pos rfl]
      dsimp only
      rw [check24_b3 hh, obind_some']
      cases h2 : okH l.Hide (-1) (l.L.length : Int) with
      | false => rw [if_neg Bool.false_ne_true, if_neg Bool.false_ne_true]
      | true =>
        rw [if_pos rfl, if_pos rfl]
        dsimp only
        by_cases h4 : 256 < (l.L ++ l.Wait).length
        · rw [if_pos h4, if_pos (by rw [decide_eq_true_eq]; omega)]
        · rw [if_neg h4, if_neg (by rw [decide_eq_true_eq]; omega)]
end Go.Proofs.YtojlmhmiknocmaaGreat
end
section
namespace Go.Proofs.YtojlmhmiknocmaaGreat
open Go Go.Gw
theorem leaf08_eq {b : List UInt8} (h : b.length ≤ 600000) : m_ref08_Leaf b = some (pleaf b) := by
  unfold m_ref08_Leaf
  rw [tagged02_eq _ _ (by simp [plen]; omega) (by simp), obind_some']; rfl
theorem addR04_eq (a b : UInt64) : m_ref03_AddR a b = some (addM 1152921504606845789 a b) := by
  have h1 : (a % 1152921504606845789).toNat = a.toNat % (1152921504606845789 : UInt64).toNat := UInt64.toNat_mod _ _
  have h2 : (b % 1152921504606845789).toNat = b.toNat % (1152921504606845789 : UInt64).toNat := UInt64.toNat_mod _ _
  unfold m_ref03_AddR
  rw [sum03_eq (by decide) (by rw [h1]; exact Nat.mod_lt _ (by decide)) (by rw [h2]; exact Nat.mod_lt _ (by decide)), obind_some']
  congr 1
  refine u_ext ?_
  rw [addM_nat dvR, addM_nat dvR, h1, h2, ← Nat.add_mod]
theorem addM_comm (m a b : UInt64) : addM m a b = addM m b a := by unfold addM; rw [Nat.add_comm]
theorem public04_eq {k : UInt64} (h1 : 1 ≤ k.toNat) (h2 : k.toNat < GR) : m_ref04_Public k = some (pubK k, 0) := by
  have h2' : k.toNat < 1152921504606845789 := h2
  unfold m_ref04_Public m_ref04_right
  rw [bnd_def, obind_some', if_neg (by simp; omega), base03_eq, obind_some']
theorem sign04_eq {k : UInt64} {msg : List UInt8} (h1 : 1 ≤ k.toNat) (h2 : k.toNat < GR) (hm : msg.length ≤ 600000) : m_ref04_Sign k msg = some (signS k msg, 0) := by
  have hn : (1 : UInt64) + numM (ptag ⟨#[110, 111, 110, 99, 101]⟩ [pput 8 k, msg]) 1152921504606845788 = nonceK k msg := UInt64.add_comm _ _
  have hs : signS k msg = ⟨signE k msg, addM 1152921504606845789 (nonceK k msg) (mulM 1152921504606845789 (signE k msg) k)⟩ := by
    unfold signS
    rw [addM_comm]
  unfold m_ref04_Sign
  rw [public04_eq h1 h2, obind_some', if_neg (by simp), eight04_eq, obind_some', tagged02_eq _ _ (by simp [plen, pput_len]; omega) (by simp), obind_some', num02_eq dvR1 (by decide), obind_some', hn, base03_eq, obind_some', challenge04_eq _ _ hm, obind_some']
  unfold m_ref03_MulR
  rw [times_eq _ _ (by decide) (by decide), obind_some', obind_some', addR04_eq, obind_some', hs]
  rfl
theorem hidden_eq {l : g_api_Log} (hl : l.Hide.length ≤ 100000) (t : Int) : m_ref24_hidden l t = some (decide (t ∈ l.Hide)) := by
  obtain ⟨y, h1, h2⟩ := iter_ends (step := m_ref24_hidden_b2 l t) (T := fun y => y = if t ∈ l.Hide then .inr true else .inl ()) (s0 := 0)
    (fun i s => s = (i : Int) ∧ i ≤ l.Hide.length ∧ ∀ (j : Nat) (x : Int), j < i → l.Hide[j]? = some x → x ≠ t) l.Hide.length (by omega) ⟨rfl, by omega, fun j _ h => by omega⟩ (by
      rintro i s hi ⟨rfl, h0, hI⟩
      unfold m_ref24_hidden_b2
      by_cases hlt : i < l.Hide.length
      · have hx : l.Hide[i]? = some l.Hide[i] := by simp [hlt]
        rw [if_pos (by simpa using hlt), idx_of hx, obind_some']
        by_cases he : l.Hide[i] = t
        · left
          refine ⟨.inr true, by rw [if_pos (by simpa using he)], ?_⟩
          rw [if_pos (he ▸ List.getElem_mem hlt)]
        · right
          refine ⟨hlt, ((i + 1 : Nat) : Int), ?_, rfl, by omega, fun j x hj hxj => ?_⟩
          · rw [if_neg (by simpa using he), w64_sucN (by omega)]
          · by_cases hji : j = i
            · subst hji; rw [hx] at hxj; cases hxj; exact he
            · exact hI j x (by omega) hxj
      · left
        refine ⟨.inl (), by rw [if_neg (by simpa using hlt)], ?_⟩
        rw [if_neg]
        intro hm
        obtain ⟨j, hj⟩ := List.getElem?_of_mem hm
        have := (List.getElem?_eq_some_iff.1 hj).1
        exact hI j t (by omega) hj rfl)
  unfold m_ref24_hidden
  rw [h1, h2, obind_some']
  by_cases hm : t ∈ l.Hide
  · rw [if_pos hm, decide_eq_true hm]
  · rw [if_neg hm, decide_eq_false hm]
end Go.Proofs.YtojlmhmiknocmaaGreat
end
section
namespace Go.Proofs.YtojlmhmiknocmaaGreat
open Go Go.Gw
theorem headBytes_eq (p : g_api_Head) : m_ref24_HeadBytes p = some (headB p) := by
  unfold m_ref24_HeadBytes
  rw [eight04_eq, obind_some', e8_eq, app_eq 1 (by simp [e8_len]) (by simp [e8_len]), obind_some', eight04_eq, obind_some', e8_eq, app_eq 1 (by simp [e8_len]) (by simp [e8_len]), obind_some', bytes02_eq, obind_some', app_eq 1 (by simp [e8_len, pbytes_len]) (by simp [e8_len, pbytes_len]), obind_some', eight04_eq, obind_some', e8_eq, app_eq 1 (by simp [e8_len, pbytes_len]) (by simp [e8_len, pbytes_len]), obind_some']
  simp [headB]
end Go.Proofs.YtojlmhmiknocmaaGreat
end
section
namespace Go.Proofs.YtojlmhmiknocmaaGreat
open Go Go.Gw
theorem pair02_eq (a b : UInt64 × UInt64) : m_ref02_Pair a b = some (ppair a b) := by
  unfold m_ref02_Pair
  rw [bytes02_eq, obind_some', bytes02_eq, obind_some', tagged02_eq _ _ (by simp [plen, pbytes_len]) (by simp), obind_some']
  rfl
end Go.Proofs.YtojlmhmiknocmaaGreat
end
section
namespace Go.Proofs.YtojlmhmiknocmaaGreat
open Go Go.Gw
theorem firstR_it {n j : Nat} (h1 : 2 ^ j < n) (h2 : n ≤ 2 ^ (j + 1)) (hn : n ≤ 300) : ∀ d i : Nat, i + d = j → iter (m_ref08_First_b1 (n : Int)) (d + 1) ((2 ^ i : Nat) : Int) = some ((2 ^ j : Nat) : Int) := by
  intro d
  induction d with
  | zero =>
    intro i h
    have : i = j := by omega
    subst this
    have e1 : 2 ^ (i + 1) = 2 * 2 ^ i := by rw [Nat.pow_succ]; omega
    refine iter_end ?_
    unfold m_ref08_First_b1
    have hw : w64 (2 * ((2 ^ i : Nat) : Int)) = ((2 ^ (i + 1) : Nat) : Int) := by rw [w64_in (by omega) (by omega)]; omega
    rw [hw, if_neg (by simp only [decide_eq_true_eq]; omega)]
  | succ d ih =>
    intro i h
    have e1 : 2 ^ (i + 1) = 2 * 2 ^ i := by rw [Nat.pow_succ]; omega
    have e2 : 2 ^ (i + 1) ≤ 2 ^ j := Nat.pow_le_pow_right (by omega) (by omega)
    have hw : w64 (2 * ((2 ^ i : Nat) : Int)) = ((2 ^ (i + 1) : Nat) : Int) := by rw [w64_in (by omega) (by omega)]; omega
    rw [iter_step (s' := ((2 ^ (i + 1) : Nat) : Int))]
    · exact ih (i + 1) (by omega)
    · unfold m_ref08_First_b1
      rw [hw, if_pos (by simp only [decide_eq_true_eq]; omega)]
theorem firstR_eq {n : Nat} (h1 : 2 ≤ n) (h2 : n ≤ 300) : m_ref08_First (n : Int) = some ((hp n : Nat) : Int) := by
  obtain ⟨j, hj, j1, j2⟩ := hp_spec h1
  have hj9 : j < 9 := pow_lt_of (b := 9) (by omega)
  have h := firstR_it j1 j2 h2 j 0 (by omega)
  have h' := iter_up _ h (by omega)
  unfold m_ref08_First
  rw [show (1 : Int) = ((2 ^ 0 : Nat) : Int) from rfl, h', obind_some', obind_some', hj]
theorem rootP_R2 {l : List Sm} (h : 2 ≤ l.length) : rootP l = ppair (rootP (l.take (hp l.length))) (rootP (l.drop (hp l.length))) := by
  have hlt := hp_lt h
  have hpos := hp_pos l.length
  rw [rootP_R (by omega), rootP_R (l := l.take (hp l.length)) (by simp; omega), rootP_R (l := l.drop (hp l.length)) (by simp; omega), rootR_two h]
theorem rootE_rec : ∀ (n : Nat) (l : List Sm), l.length < n → l.length ≤ 300 → r_ref08_Root n l = some (rootP l) := by
  intro n
  induction n with
  | zero => intro l h; omega
  | succ n ih =>
    intro l h h3
    simp only [r_ref08_Root]
    by_cases h0 : l.length = 0
    · have : l = [] := List.eq_nil_of_length_eq_zero h0
      subst this
      rw [if_pos (by simp), tagged02_eq _ _ (by decide) (by simp), obind_some']; rfl
    · rw [if_neg (by rw [beq_iff_eq]; omega)]
      by_cases h1 : l.length = 1
      · match l, h1 with
        | [x], _ =>
          rw [if_pos (by simp), show idx [x] 0 = some x from rfl, obind_some', rootP_R (by simp), rootR_one]
      · have h2 : 2 ≤ l.length := by omega
        have hlt := hp_lt h2
        have hpos := hp_pos l.length
        rw [if_neg (by rw [beq_iff_eq]; omega), firstR_eq h2 h3, obind_some', cutL (by omega), obind_some', ih _ (by simp; omega) (by simp; omega), obind_some', cutR (by omega), obind_some', ih _ (by simp; omega) (by simp; omega), obind_some', pair02_eq, obind_some', ← rootP_R2 h2]
theorem rootE_eq (l : List Sm) (h : l.length ≤ 300) : m_ref08_Root l = some (rootP l) := by
  have hF : l.length < FUEL := by unfold FUEL; omega
  unfold m_ref08_Root
  revert hF
  generalize FUEL = n
  exact fun hF => rootE_rec n l hF h
end Go.Proofs.YtojlmhmiknocmaaGreat
end
section
namespace Go.Proofs.YtojlmhmiknocmaaGreat
open Go Go.Gw
theorem wayE_rec : ∀ (n : Nat) (l : List Sm) (a : Nat), l.length < n → a < l.length → l.length ≤ 256 → r_ref08_way n l (a : Int) = some (wayR l a) := by
  intro n
  induction n with
  | zero => intro l a h; omega
  | succ n ih =>
    intro l a h ha h3
    simp only [r_ref08_way]
    by_cases h1 : l.length = 1
    · rw [if_pos (by rw [beq_iff_eq]; omega), wayR_one (by omega)]
    · have h2 : 2 ≤ l.length := by omega
      have hlt := hp_lt h2
      have hpos := hp_pos l.length
      rw [if_neg (by rw [beq_iff_eq]; omega), firstR_eq h2 (by omega), obind_some']
      by_cases hh : a < hp l.length
      · have hw := way_len _ _ a (Nat.le_refl (l.take (hp l.length)).length) (by simp; omega)
        have hwl : (wayR (l.take (hp l.length)) a).length ≤ 400 := by rw [hw]; exact dirs_len _ _ (by simp; omega)
        rw [if_pos (by rw [decide_eq_true_eq]; omega), cutL (by omega), obind_some', ih _ a (by simp; omega) (by simp; omega) (by simp; omega), obind_some', cutR (by omega), obind_some', rootE_eq _ (by simp; omega), obind_some', rootP_R (by simp; omega), app_eq 16 (by simp; omega) (by simp; omega), obind_some', wayR_lo h2 hh]
      · have hwi : w64 ((a : Int) - (hp l.length : Nat)) = ((a - hp l.length : Nat) : Int) := by rw [w64_in (by omega) (by omega)]; omega
        have hw := way_len _ _ (a - hp l.length) (Nat.le_refl (l.drop (hp l.length)).length) (by simp; omega)
        have hwl : (wayR (l.drop (hp l.length)) (a - hp l.length)).length ≤ 400 := by rw [hw]; exact dirs_len _ _ (by simp; omega)
        rw [if_neg (by rw [decide_eq_true_eq]; omega), cutR (by omega), obind_some', hwi, ih _ (a - hp l.length) (by simp; omega) (by simp; omega) (by simp; omega), obind_some', cutL (by omega), obind_some', rootE_eq _ (by simp; omega), obind_some', rootP_R (by simp; omega), app_eq 16 (by simp; omega) (by simp; omega), obind_some', wayR_hi h2 (by omega)]
theorem proveE_eq (l : List Sm) (a : Int) : m_ref08_Prove l a = m_merkle_Prove l a := by
  by_cases hc : 256 < l.length ∨ a < 0 ∨ (l.length : Int) ≤ a
  · rw [prove_no hc]
    unfold m_ref08_Prove
    rw [if_pos (by simp; omega)]
  · obtain ⟨a, rfl⟩ := Int.eq_ofNat_of_zero_le (show 0 ≤ a by omega)
    rw [prove_eq (by omega) (by omega)]
    have hF : l.length < FUEL := by unfold FUEL; omega
    have hw : m_ref08_way l (a : Int) = some (wayR l a) := by
      unfold m_ref08_way
      revert hF
      generalize FUEL = n
      exact fun hF => wayE_rec n l a hF (by omega) (by omega)
    unfold m_ref08_Prove
    rw [if_neg (by simp; omega), hw, obind_some']
end Go.Proofs.YtojlmhmiknocmaaGreat
end
section
namespace Go.Proofs.YtojlmhmiknocmaaGreat
open Go Go.Gw
theorem showsE_rec : ∀ (n : Nat) (l : List Sm) (f : Nat) (known : Bool), l.length < n → 1 ≤ f → f ≤ l.length → l.length ≤ 256 → r_ref08_shows n l (f : Int) known = some (showsR l f known) := by
  intro n
  induction n with
  | zero => intro l f known h; omega
  | succ n ih =>
    intro l f known h h1 h2 h3
    simp only [r_ref08_shows]
    by_cases he : f = l.length
    · rw [if_pos (by rw [beq_iff_eq]; omega), showsR_all he]
      cases known with
      | true => rfl
      | false => rw [if_neg (by decide), rootE_eq _ (by omega), obind_some', rootP_R (by omega)]; rfl
    · have h4 : 2 ≤ l.length := by omega
      have hlt := hp_lt h4
      have hpos := hp_pos l.length
      rw [if_neg (by rw [beq_iff_eq]; omega), firstR_eq h4 (by omega), obind_some']
      by_cases hf : f ≤ hp l.length
      · have hs := shows_len _ _ f known (Nat.le_refl (l.take (hp l.length)).length)
        simp only [List.length_take] at hs
        rw [if_pos (by rw [decide_eq_true_eq]; omega), cutL (by omega), obind_some', ih _ f known (by simp; omega) h1 (by simp; omega) (by simp; omega), obind_some', cutR (by omega), obind_some', rootE_eq _ (by simp; omega), obind_some', rootP_R (by simp; omega), app_eq 16 (by simp; omega) (by simp; omega), obind_some', showsR_lo h4 hf]
      · have hwi : w64 ((f : Int) - (hp l.length : Nat)) = ((f - hp l.length : Nat) : Int) := by rw [w64_in (by omega) (by omega)]; omega
        have hs := shows_len _ _ (f - hp l.length) false (Nat.le_refl (l.drop (hp l.length)).length)
        simp only [List.length_drop] at hs
        rw [if_neg (by rw [decide_eq_true_eq]; omega), cutR (by omega), obind_some', hwi, ih _ (f - hp l.length) false (by simp; omega) (by omega) (by simp; omega) (by simp; omega), obind_some', cutL (by omega), obind_some', rootE_eq _ (by simp; omega), obind_some', rootP_R (by simp; omega), app_eq 16 (by simp; omega) (by simp; omega), obind_some', showsR_hi h4 (by omega) he]
theorem growE_eq (l : List Sm) (f : Int) : m_ref08_Grow l f = m_merkle_Grow l f := by
  by_cases hc : 256 < l.length ∨ f < 0 ∨ (l.length : Int) < f
  · rw [grow_no hc]
    unfold m_ref08_Grow
    rw [if_pos (by simp; omega)]
  · obtain ⟨f, rfl⟩ := Int.eq_ofNat_of_zero_le (show 0 ≤ f by omega)
    unfold m_ref08_Grow
    rw [if_neg (by simp; omega)]
    by_cases h0 : f = 0
    · subst h0
      rw [if_pos (by simp), show ((0 : Nat) : Int) = 0 from rfl, grow_zero (by omega)]
    · rw [if_neg (by rw [beq_iff_eq]; omega), grow_eq (by omega) (by omega) (by omega)]
      have hF : l.length < FUEL := by unfold FUEL; omega
      have hs : m_ref08_shows l (f : Int) true = some (showsR l f true) := by
        unfold m_ref08_shows
        revert hF
        generalize FUEL = n
        exact fun hF => showsE_rec n l f true hF (by omega) (by omega) (by omega)
      rw [hs, obind_some']
def gdn (f s : Nat) (known : Bool) : Nat := (gd f s known).2.length + (if (gd f s known).1 then 1 else 0)
end Go.Proofs.YtojlmhmiknocmaaGreat
end
section
namespace Go.Proofs.YtojlmhmiknocmaaGreat
open Go Go.Gw
theorem live24_true : m_law24_live = some true := by kernel_rfl
end Go.Proofs.YtojlmhmiknocmaaGreat
end
section
namespace Go.Proofs.YtojlmhmiknocmaaGreat
open Go Go.Gw
theorem sums_self (xs : List (UInt64 × UInt64)) (h : xs.length ≤ 100000) : m_ref08_Sums xs xs = some true := by
  obtain ⟨y, h1, h2⟩ := iter_ends (step := m_ref08_Sums_b1 xs xs) (T := fun y => y = .inl ()) (s0 := 0) (fun i s => s = (i : Int) ∧ i ≤ xs.length) xs.length (by omega) ⟨rfl, by omega⟩ (by
    rintro i s hi ⟨rfl, _⟩
    unfold m_ref08_Sums_b1
    by_cases hlt : i < xs.length
    · right
      refine ⟨hlt, ((i + 1 : Nat) : Int), ?_, rfl, by omega⟩
      rw [if_pos (by simpa using hlt), idx_lt hlt, obind_some', obind_some', if_neg (by simp [eqSum]), w64_sucN (by omega)]
    · left
      exact ⟨.inl (), by rw [if_neg (by simpa using hlt)], rfl⟩)
  unfold m_ref08_Sums
  rw [if_neg (by simp), h1, h2, obind_some']
theorem leaves24_eq {l : g_api_Log} (hl : l.L.length + l.Wait.length ≤ 100000) (hh : l.Hide.length ≤ 100000) (h : chk l = 0) (v : Bool) : m_ref24_Leaves l (if v = true then 1 else 0) = some (leavesV v l, 0) := by
  obtain ⟨h0, h1, h2, h3⟩ := chk_zero h
  have hlen := leavesV_len v l
  obtain ⟨y, e1, e2⟩ := iter_ends (step := m_ref24_Leaves_b2 l (if v = true then 1 else 0)) (T := fun y => y = leavesV v l) (s0 := ([], 0)) (fun i s => s = ((leavesV v l).take i, (i : Int)) ∧ i ≤ l.L.length) l.L.length (by omega) ⟨by simp, by omega⟩ (by
    rintro i s hi ⟨rfl, _⟩
    unfold m_ref24_Leaves_b2
    dsimp only
    by_cases hlt : i < l.L.length
    · right
      have hx : l.L[i]? = some l.L[i] := by simp [hlt]
      have hg := leavesV_get v h2 hx
      have hbl : l.L[i].Body.length ≤ 2048 := okL_body h1 _ (List.mem_append_left _ (List.getElem_mem hlt))
      have htk : (leavesV v l).take (i + 1) = (leavesV v l).take i ++ [cur v (decide ((i : Int) ∈ l.Hide)) l.L[i].Body] := by
        rw [List.take_add_one, hg]; rfl
      have hap : ∀ y : UInt64 × UInt64, app 16 ((leavesV v l).take i) [y] = some ((leavesV v l).take i ++ [y]) := fun y => app_eq 16 (by rw [List.length_take]; simp; omega) (by rw [List.length_take]; simp; omega)
      refine ⟨hlt, ((leavesV v l).take (i + 1), ((i + 1 : Nat) : Int)), ?_, rfl, by omega⟩
      rw [if_pos (by simpa using hlt)]
      have body : ∀ (p : List UInt8), p.length ≤ 1 → pleaf (p ++ l.L[i].Body) = cur v (decide ((i : Int) ∈ l.Hide)) l.L[i].Body →
          (obind (idx l.L (i : Int)) fun x8 => obind (app 1 p x8.Body) fun x9 => obind (m_ref08_Leaf x9) fun x10 => obind (app 16 ((leavesV v l).take i) ([x10] : List (UInt64 × UInt64))) fun x11 => some (Sum.inl (β := List (UInt64 × UInt64)) (x11, (w64 ((i : Int) + 1))))) = some (.inl ((leavesV v l).take (i + 1), ((i + 1 : Nat) : Int))) := by
        intro p hp he
        rw [idx_of hx, obind_some', app_eq 1 (by omega) (by omega), obind_some', leaf08_eq (by rw [List.length_append]; omega), obind_some', hap, obind_some', he, htk, w64_sucN (by omega)]
      cases v with
      | true =>
        rw [gu_t _ (by decide), hidden_eq hh, obind_some']
        by_cases hm : (i : Int) ∈ l.Hide
        · rw [if_pos (by simp [hm]), app_eq 1 (by simp) (by simp), obind_some', obind_some']
          exact body _ (by simp) (by simp [cur, hm])
        · rw [if_neg (by simp [hm]), obind_some']
          exact body _ (by simp) (by simp [cur, hm])
      | false =>
        rw [gu_f _ (by decide), obind_some', if_neg (by simp), obind_some']
        exact body _ (by simp) (by simp [cur])
    · left
      refine ⟨(leavesV v l).take i, by rw [if_neg (by simpa using hlt)], ?_⟩
      rw [List.take_of_length_le (by omega)])
  unfold m_ref24_Leaves
  rw [check24_eq hl hh, obind_some', h, if_neg (by decide), if_neg (by cases v <;> decide), e1, e2, obind_some', obind_some']
theorem leaves_both {l : g_api_Log} (hl : l.L.length + l.Wait.length ≤ 100000) (hh : l.Hide.length ≤ 100000) (a : Int) : ∃ xs e, m_logd_Leaves l a = some (xs, e) ∧ m_ref24_Leaves l a = some (xs, e) ∧ xs.length ≤ 256 ∧ (e = 0 → chk l = 0) ∧ (e = 0 ∨ e = 1 ∨ e = 2 ∨ e = 240) := by
  by_cases hc : chk l = 0
  · by_cases ha : a = 0 ∨ a = 1
    · obtain ⟨v, rfl⟩ : ∃ v : Bool, a = if v = true then 1 else 0 := by
        rcases ha with rfl | rfl
        · exact ⟨false, rfl⟩
        · exact ⟨true, rfl⟩
      have h3 := (chk_zero hc).2.2.2
      refine ⟨leavesV v l, 0, leavesV_eq hl hc v, leaves24_eq hl hh hc v, ?_, fun _ => hc, .inl rfl⟩
      rw [leavesV_len]; simp at h3; omega
    · refine ⟨[], 240, ?_, ?_, by simp, fun h => by omega, by omega⟩
      · unfold m_logd_Leaves
        rw [chkL_eq hl, obind_some', hc, if_neg (by decide), if_pos (by simp; omega)]
      · unfold m_ref24_Leaves
        rw [check24_eq hl hh, obind_some', hc, if_neg (by decide), if_pos (by simp; omega)]
  · refine ⟨[], chk l, ?_, ?_, by simp, fun h => absurd h hc, ?_⟩
    · unfold m_logd_Leaves
      rw [chkL_eq hl, obind_some', if_pos (by simpa using hc)]
    · unfold m_ref24_Leaves
      rw [check24_eq hl hh, obind_some', if_pos (by simpa using hc)]
    · unfold chk at hc ⊢
      split <;> (try split) <;> (try split) <;> (try split) <;> simp
theorem first_same {l : g_api_Log} (hl : l.L.length + l.Wait.length ≤ 100000) (hh : l.Hide.length ≤ 100000) (a n : Int) : m_ref24_some l a n = m_logd_first l a n := by
  obtain ⟨xs, e, h1, h2, h3, _, _⟩ := leaves_both hl hh a
  unfold m_logd_first m_ref24_some
  rw [h1, h2]
theorem first_tot {l : g_api_Log} (hl : l.L.length + l.Wait.length ≤ 100000) (hh : l.Hide.length ≤ 100000) (a n : Int) : ∃ xs e, m_logd_first l a n = some (xs, e) ∧ xs.length ≤ 256 := by
  obtain ⟨xs, e, h1, h2, h3, _, _⟩ := leaves_both hl hh a
  unfold m_logd_first
  rw [h1, obind_some']
  dsimp only
  by_cases he : e = 0
  · subst he
    rw [if_neg (by decide)]
    by_cases hn : n < 0 ∨ (xs.length : Int) < n
    · rw [if_pos (by simp; omega)]
      exact ⟨_, _, rfl, by simp⟩
    · rw [if_neg (by simp; omega), if_pos (by omega)]
      exact ⟨_, _, rfl, by rw [List.length_take]; omega⟩
  · rw [if_pos (by simpa using he)]
    exact ⟨_, _, rfl, by simp⟩
theorem merkle_prove_tot {xs : List Sm} (h : xs.length ≤ 256) (a : Int) : ∃ ps e, m_merkle_Prove xs a = some (ps, e) ∧ ps.length ≤ 100000 := by
  by_cases hc : 256 < xs.length ∨ a < 0 ∨ (xs.length : Int) ≤ a
  · exact ⟨_, _, prove_no hc, by simp⟩
  · obtain ⟨k, rfl⟩ := Int.eq_ofNat_of_zero_le (show 0 ≤ a by omega)
    refine ⟨_, _, prove_eq (by omega) h, ?_⟩
    rw [way_len _ _ k (Nat.le_refl _) (by omega)]
    have := dirs_len k (xs.length - 1) (by omega)
    omega
theorem merkle_grow_tot {xs : List Sm} (h : xs.length ≤ 256) (a : Int) : ∃ ps e, m_merkle_Grow xs a = some (ps, e) ∧ ps.length ≤ 100000 := by
  by_cases hc : 256 < xs.length ∨ a < 0 ∨ (xs.length : Int) < a
  · exact ⟨_, _, grow_no hc, by simp⟩
  · obtain ⟨k, rfl⟩ := Int.eq_ofNat_of_zero_le (show 0 ≤ a by omega)
    by_cases h0 : k = 0
    · subst h0
      exact ⟨_, _, grow_zero h, by simp⟩
    · refine ⟨_, _, grow_eq (by omega) (by omega) h, ?_⟩
      have := shows_len _ xs k true (Nat.le_refl _)
      omega
theorem prove_both {l : g_api_Log} (hl : l.L.length + l.Wait.length ≤ 100000) (hh : l.Hide.length ≤ 100000) (a i n : Int) : ∃ p e, m_logd_Prove l a i n = some (p, e) ∧ m_ref24_Prove l a i n = some (p, e) ∧ p.Proof.length ≤ 100000 := by
  obtain ⟨xs, e, h1, h3⟩ := first_tot hl hh a n
  have hsame : m_ref24_Prove l a i n = m_logd_Prove l a i n := by
    unfold m_logd_Prove m_ref24_Prove
    rw [first_same hl hh, h1]
    simp only [obind_some', proveE_eq]
  rw [hsame]
  have : ∃ p e, m_logd_Prove l a i n = some (p, e) ∧ p.Proof.length ≤ 100000 := by
    unfold m_logd_Prove
    rw [h1, obind_some']
    dsimp only
    by_cases he : e = 0
    · subst he
      obtain ⟨ps, e2, h4, h5⟩ := merkle_prove_tot h3 i
      rw [if_neg (by decide), h4, obind_some']
      dsimp only
      by_cases he2 : e2 = 0
      · subst he2
        rw [if_neg (by decide)]
        exact ⟨_, _, rfl, h5⟩
      · rw [if_pos (by simpa using he2)]
        exact ⟨_, _, rfl, by simp⟩
    · rw [if_pos (by simpa using he)]
      exact ⟨_, _, rfl, by simp⟩
  obtain ⟨p, e', h4, h5⟩ := this
  exact ⟨p, e', h4, h4, h5⟩
theorem grow_both {l : g_api_Log} (hl : l.L.length + l.Wait.length ≤ 100000) (hh : l.Hide.length ≤ 100000) (a i n : Int) : ∃ ps e, m_logd_Grow l a i n = some (ps, e) ∧ m_ref24_Grow l a i n = some (ps, e) ∧ ps.length ≤ 100000 := by
  obtain ⟨xs, e, h1, h3⟩ := first_tot hl hh a n
  have hsame : m_ref24_Grow l a i n = m_logd_Grow l a i n := by
    unfold m_logd_Grow m_ref24_Grow
    rw [first_same hl hh, h1]
    simp only [obind_some', growE_eq]
  rw [hsame]
  have : ∃ ps e, m_logd_Grow l a i n = some (ps, e) ∧ ps.length ≤ 100000 := by
    unfold m_logd_Grow
    rw [h1, obind_some']
    dsimp only
    by_cases he : e = 0
    · subst he
      obtain ⟨ps, e2, h4, h5⟩ := merkle_grow_tot h3 i
      rw [if_neg (by decide), h4, obind_some']
      exact ⟨_, _, rfl, h5⟩
    · rw [if_pos (by simpa using he)]
      exact ⟨_, _, rfl, by simp⟩
  obtain ⟨p, e', h4, h5⟩ := this
  exact ⟨p, e', h4, h4, h5⟩
theorem head_both {l : g_api_Log} (hl : l.L.length + l.Wait.length ≤ 100000) (hh : l.Hide.length ≤ 100000) (a n t : Int) : ∃ p e, m_logd_Head l a n t = some (p, e) ∧ m_ref24_Head l a n t = some (p, e) := by
  obtain ⟨xs, e, h1, h2, h3, h4, h5⟩ := leaves_both hl hh a
  have hs := first_same hl hh a n
  by_cases he : e = 0
  · subst he
    have hc := h4 rfl
    obtain ⟨h0, _, _, _⟩ := chk_zero hc
    obtain ⟨k1, k2, k3⟩ := key_of h0
    by_cases hn : n < 0 ∨ (xs.length : Int) < n
    · have hf : m_logd_first l a n = some ([], 80) := by
        unfold m_logd_first
        rw [h1, obind_some']
        dsimp only
        rw [if_neg (by decide), if_pos (by simp; omega)]
      have hA : m_logd_Head l a n t = some (⟨0, 0, (0, 0), 0, ⟨0, 0⟩⟩, if okNum t = true then 80 else 1) := by
        unfold m_logd_Head
        rw [hf, obind_some']
        dsimp only
        rw [gu_t _ (by decide), number_eq, obind_some']
        cases okNum t with
        | false => rw [if_pos (by decide), obind_some', if_pos (by decide)]; rfl
        | true => rw [if_neg (by decide), obind_some', if_pos (by decide)]; rfl
      have hB : m_ref24_Head l a n t = some (⟨0, 0, (0, 0), 0, ⟨0, 0⟩⟩, if okNum t = true then 80 else 1) := by
        unfold m_ref24_Head
        rw [h2, obind_some']
        dsimp only
        rw [if_neg (by decide), num24_eq, obind_some', hs, hf]
        cases okNum t with
        | false => rw [if_pos (by decide)]; rfl
        | true => rw [if_neg (by decide), obind_some']; dsimp only; rw [if_pos (by decide)]; rfl
      exact ⟨_, _, hA, hB⟩
    · have hf : m_logd_first l a n = some (xs.take n.toNat, 0) := by
        unfold m_logd_first
        rw [h1, obind_some']
        dsimp only
        rw [if_neg (by decide), if_neg (by simp; omega), if_pos (by omega)]
      have hlen : (xs.take n.toNat).length ≤ 300 := by rw [List.length_take]; omega
      cases ht : okNum t with
      | false =>
        have hA : m_logd_Head l a n t = some (⟨0, 0, (0, 0), 0, ⟨0, 0⟩⟩, 1) := by
          unfold m_logd_Head
          rw [hf, obind_some']
          dsimp only
          rw [gu_t _ (by decide), number_eq, obind_some', ht, if_pos (by decide), obind_some', if_pos (by decide)]
        have hB : m_ref24_Head l a n t = some (⟨0, 0, (0, 0), 0, ⟨0, 0⟩⟩, 1) := by
          unfold m_ref24_Head
          rw [h2, obind_some']
          dsimp only
          rw [if_neg (by decide), num24_eq, obind_some', ht, if_pos (by decide)]
        exact ⟨_, _, hA, hB⟩
      | true =>
        have hA : m_logd_Head l a n t = some (headOf l n (rootP (xs.take n.toNat)) t, 0) := by
          unfold m_logd_Head
          rw [hf, obind_some']
          dsimp only
          rw [gu_t _ (by decide), number_eq, obind_some', ht, if_neg (by decide), obind_some', if_neg (by decide), root_eq _ hlen, obind_some', ofHead_eq, obind_some', sign_eq k1 k2 (headB_len _), obind_some']
          rfl
        have hB : m_ref24_Head l a n t = some (headOf l n (rootP (xs.take n.toNat)) t, 0) := by
          unfold m_ref24_Head
          rw [h2, obind_some']
          dsimp only
          rw [if_neg (by decide), num24_eq, obind_some', ht, if_neg (by decide), hs, hf, obind_some']
          dsimp only
          rw [if_neg (by decide), rootE_eq _ hlen, obind_some', headBytes_eq, obind_some', sign04_eq k1 k2 (headB_len _), obind_some']
          rfl
        exact ⟨_, _, hA, hB⟩
  · have hf : m_logd_first l a n = some ([], e) := by
      unfold m_logd_first
      rw [h1, obind_some']
      dsimp only
      rw [if_pos (by simpa using he)]
    have e80 : ((e == 0) || (e == 80)) = false := by simp; omega
    have hA : m_logd_Head l a n t = some (⟨0, 0, (0, 0), 0, ⟨0, 0⟩⟩, e) := by
      unfold m_logd_Head
      rw [hf, obind_some']
      dsimp only
      rw [e80, gu_f _ rfl, obind_some', Bool.false_and, if_neg Bool.false_ne_true, obind_some', if_pos (by simpa using he)]
    have hB : m_ref24_Head l a n t = some (⟨0, 0, (0, 0), 0, ⟨0, 0⟩⟩, e) := by
      unfold m_ref24_Head
      rw [h2, obind_some']
      dsimp only
      rw [if_pos (by simpa using he)]
    exact ⟨_, _, hA, hB⟩
theorem views_true (l : g_api_Log) (view at_ size now : Int) : m_law24_LogdViews l view at_ size now = some true := by
  obtain ⟨r, hr, hf⟩ := few24 l []
  unfold m_law24_LogdViews
  rw [live24_true, obind_some', if_neg (by decide), hr, obind_some']
  cases hrt : r with
  | false => rw [if_pos (by decide)]
  | true =>
    obtain ⟨f1, f2, f3, _⟩ := hf hrt
    have hl : l.L.length + l.Wait.length ≤ 100000 := by omega
    have hh : l.Hide.length ≤ 100000 := by omega
    obtain ⟨xs, e1, a1, a2, a3, _, _⟩ := leaves_both hl hh view
    obtain ⟨p, e2, b1, b2⟩ := head_both hl hh view size now
    obtain ⟨q, e3, c1, c2, c3⟩ := prove_both hl hh view at_ size
    obtain ⟨g, e4, d1, d2, d3⟩ := grow_both hl hh view at_ size
    rw [if_neg (by decide), a1, obind_some', a2, obind_some', b1, obind_some', b2, obind_some', c1, obind_some', c2, obind_some', d1, obind_some', d2, obind_some']
    dsimp only
    have s1 := sums_self xs (by omega)
    have s2 := sums_self q.Proof c3
    have s3 := sums_self g d3
    have sp : m_ref24_SamePlace q q = some true := by
      unfold m_ref24_SamePlace
      rw [gu_t _ (by simp), s2, obind_some', bnd_def]
      simp
    have sh : eq_api_Head p p = true := by simp [eq_api_Head, eq_api_Sig, eqSum]
    simp only [s1, s3, sp, sh, obind_some', bnd_def, gu, beq_self_eq_true, Bool.and_self, Bool.true_and, Bool.and_true, cond_true, if_true]
end Go.Proofs.YtojlmhmiknocmaaGreat
end
