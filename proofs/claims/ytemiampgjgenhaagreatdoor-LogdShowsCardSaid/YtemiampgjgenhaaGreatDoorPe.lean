/- The root of a tree: what the program computes. Conditions: at most 300 leaves. -/
import Derived.Test.YtemiampgjgenhaaGreatDoorPd
set_option linter.unusedSimpArgs false
set_option linter.unusedVariables false
set_option maxHeartbeats 2000000
set_option maxRecDepth 100000
namespace Go.Proofs.YtemiampgjgenhaaGreatDoor
open Go Go.Gw

/-! ### a list turned round in place -/
theorem rev_of {α : Type} {b1 : Int × Int × List α → Option ((Int × Int × List α) ⊕ List α)}
    (hb : ∀ s1, b1 s1 = if (decide (s1.1 < s1.2.1)) = true then
      obind (idx s1.2.2 s1.2.1) fun x4 => obind (idx s1.2.2 s1.1) fun x5 => obind (idx s1.2.2 s1.1) fun x6 => bnd (s1.2.2.set s1.1.toNat x4) fun x7 =>
      obind (idx x7 s1.2.1) fun x8 => bnd (x7.set s1.2.1.toNat x5) fun x9 => some (.inl ((w64 (s1.1 + 1)), (w64 (s1.2.1 - 1)), x9))
      else some (.inr s1.2.2)) (xs : List α) (hn : xs.length ≤ 1000000) :
    ∀ (k i : Nat) (s : List α), s.length = xs.length → xs.length ≤ k + i → (∀ q, q < xs.length → s[q]? = if q < i ∨ xs.length ≤ q + i then xs[xs.length - 1 - q]? else xs[q]?) →
      iter b1 (k + 1) ((i : Int), (xs.length : Int) - 1 - i, s) = some xs.reverse := by
  intro k
  induction k with
  | zero =>
    intro i s hl hk hq
    rw [iter_end (t := s)]
    · refine congrArg some (List.ext_getElem? fun q => ?_)
      by_cases h : q < xs.length
      · rw [hq q h, if_pos (by omega), List.getElem?_reverse h]
      · rw [List.getElem?_eq_none (by omega), List.getElem?_eq_none (by simp; omega)]
    · rw [hb, if_neg (by simp; omega)]
  | succ k ih =>
    intro i s hl hk hq
    by_cases hlt : (i : Int) < (xs.length : Int) - 1 - i
    · have hj : ((xs.length : Int) - 1 - i) = ((xs.length - 1 - i : Nat) : Int) := by omega
      obtain ⟨a, ha⟩ : ∃ a, s[xs.length - 1 - i]? = some a := ⟨s[xs.length - 1 - i]'(by omega), by simp⟩
      obtain ⟨b, hb'⟩ : ∃ b, s[i]? = some b := ⟨s[i]'(by omega), by simp⟩
      have ia : idx s ((xs.length - 1 - i : Nat) : Int) = some a := idx_nat ha
      have ib : idx s (i : Int) = some b := idx_nat hb'
      have ha2 : (s.set i a)[xs.length - 1 - i]? = some a := by rw [List.getElem?_set_ne (by omega)]; exact ha
      have ia2 : idx (s.set i a) ((xs.length - 1 - i : Nat) : Int) = some a := idx_nat ha2
      have w1 : w64 ((i : Int) + 1) = ((i + 1 : Nat) : Int) := by rw [w64_in (by omega) (by omega)]; omega
      have w2 : w64 (((xs.length - 1 - i : Nat) : Int) - 1) = (xs.length : Int) - 1 - ((i + 1 : Nat) : Int) := by rw [w64_in (by omega) (by omega)]; omega
      rw [iter_step (s' := (((i + 1 : Nat) : Int), (xs.length : Int) - 1 - ((i + 1 : Nat) : Int), (s.set i a).set (xs.length - 1 - i) b))]
      · refine ih (i + 1) _ (by simp [hl]) (by omega) fun q hqq => ?_
        have hqi := hq i (by omega)
        have hqj := hq (xs.length - 1 - i) (by omega)
        rw [if_neg (by omega)] at hqi hqj
        by_cases e1 : q = xs.length - 1 - i
        · subst e1
          rw [List.getElem?_set_self (by simp; omega), if_pos (by omega)]
          rw [show xs.length - 1 - (xs.length - 1 - i) = i from by omega, ← hqi, hb']
        · rw [List.getElem?_set_ne (Ne.symm e1)]
          by_cases e2 : q = i
          · subst e2
            rw [List.getElem?_set_self (by omega), if_pos (by omega)]
            rw [← ha, hqj]
          · rw [List.getElem?_set_ne (Ne.symm e2), hq q hqq]
            by_cases e3 : q < i ∨ xs.length ≤ q + i
            · rw [if_pos e3, if_pos (by omega)]
            · rw [if_neg e3, if_neg (by omega)]
      · rw [hb, if_pos (decide_eq_true hlt)]
        simp only [hj, ia, ib, obind_some', bnd_def, Int.toNat_natCast, ia2, w1, w2]
    · rw [iter_end (t := s)]
      · refine congrArg some (List.ext_getElem? fun q => ?_)
        by_cases h : q < xs.length
        · rw [hq q h, List.getElem?_reverse h]
          by_cases e3 : q < i ∨ xs.length ≤ q + i
          · rw [if_pos e3]
          · rw [if_neg e3, show xs.length - 1 - q = q from by omega]
        · rw [List.getElem?_eq_none (by omega), List.getElem?_eq_none (by simp; omega)]
      · rw [hb, if_neg (by simpa using hlt)]
theorem revP_eq (xs : List g_merkle_part) (hn : xs.length ≤ 1000000) : m_slices_Reverse_merkle_part_merkle_part xs = some xs.reverse := by
  have h := rev_of (b1 := m_slices_Reverse_merkle_part_merkle_part_b1) (fun _ => rfl) xs hn xs.length 0 xs rfl (by omega) (fun q hq => by rw [if_neg (by omega)])
  have h' := iter_up _ h (by omega)
  have w : w64 ((xs.length : Int) - 1) = (xs.length : Int) - 1 - ((0 : Nat) : Int) := by rw [w64_in (by omega) (by omega)]; omega
  unfold m_slices_Reverse_merkle_part_merkle_part
  rw [bnd_def, w]
  rw [show ((0 : Int), (xs.length : Int) - 1 - ((0 : Nat) : Int), xs) = (((0 : Nat) : Int), (xs.length : Int) - 1 - ((0 : Nat) : Int), xs) from rfl, h', obind_some']

/-! ### the parts -/
theorem len_all : ((List.range 301).all fun n => match m_bits_Len (toU (n : Int)) with | some r => decide (r = (if n = 0 then 0 else ((Nat.log2 n + 1 : Nat) : Int))) | none => false) = true := by kernel_rfl
theorem len_eq {n : Nat} (h1 : 1 ≤ n) (h2 : n ≤ 300) : m_bits_Len (toU (n : Int)) = some ((Nat.log2 n + 1 : Nat) : Int) := by
  have h := List.all_eq_true.1 len_all n (List.mem_range.2 (by omega))
  split at h
  · rename_i r hr
    have := of_decide_eq_true h
    rw [if_neg (by omega)] at this
    rw [hr, this]
  · cases h
theorem log_le {n : Nat} (h1 : 1 ≤ n) (h2 : n ≤ 300) : Nat.log2 n ≤ 8 := by
  have : Nat.log2 n < 9 := (Nat.log2_lt (by omega)).2 (by omega)
  omega
theorem shl_one {j : Nat} (h : j ≤ 8) : shl64 1 j = ((2 ^ j : Nat) : Int) := by
  have e : ∀ j, j ≤ 8 → shl64 1 j = ((2 ^ j : Nat) : Int) := by decide
  exact e j h
def partsL : Nat → List Sm → List g_merkle_part
  | 0, _ => []
  | n + 1, l => if l.length = 0 then [] else ⟨((2 ^ Nat.log2 l.length : Nat) : Int), rootR (l.take (2 ^ Nat.log2 l.length))⟩ :: partsL n (l.drop (2 ^ Nat.log2 l.length))
def pcoll : List g_merkle_part → g_merkle_part → Option (Bool × List g_merkle_part) := fun s b0 => obind (m_slices_AppendSeq_merkle_part_merkle_part_85_b2 b0 s) fun y => some (true, y)
theorem pcoll_eq {s : List g_merkle_part} {b : g_merkle_part} (h : s.length ≤ 100000) : pcoll s b = some (true, s ++ [b]) := by
  simp only [pcoll, m_slices_AppendSeq_merkle_part_merkle_part_85_b2]
  rw [app_eq 24 (by simp; omega) (by simp; omega)]; rfl
theorem b1_step {l : List Sm} {out : List g_merkle_part} (h1 : 1 ≤ l.length) (h2 : l.length ≤ 300) (ho : out.length ≤ 100000) :
    m_merkle_parts_1_b1 pcoll (l, out) = some (.inl (l.drop (2 ^ Nat.log2 l.length), out ++ [⟨((2 ^ Nat.log2 l.length : Nat) : Int), rootR (l.take (2 ^ Nat.log2 l.length))⟩])) := by
  have hj := log_le h1 h2
  have hle := Nat.log2_self_le (n := l.length) (by omega)
  have w1 : w64 (((Nat.log2 l.length + 1 : Nat) : Int) - 1) = ((Nat.log2 l.length : Nat) : Int) := by rw [w64_in (by omega) (by omega)]; omega
  have hc1 : cut l 0 ((2 ^ Nat.log2 l.length : Nat) : Int) = some (l.take (2 ^ Nat.log2 l.length)) := by
    have := cut_eq (xs := l) (lo := 0) (hi := 2 ^ Nat.log2 l.length) (Nat.zero_le _) hle
    simpa using this
  have hc2 : cut l ((2 ^ Nat.log2 l.length : Nat) : Int) (l.length : Int) = some (l.drop (2 ^ Nat.log2 l.length)) := by
    rw [cut_eq hle (by omega)]; refine congrArg some ?_; rw [List.take_of_length_le (by simp)]
  have hcl : m_slices_Clone_api_Sum_api_Sum (l.take (2 ^ Nat.log2 l.length)) = some (l.take (2 ^ Nat.log2 l.length)) := by
    simp only [m_slices_Clone_api_Sum_api_Sum]
    rw [app_eq 16 (by simp; omega) (by simp; omega)]; rfl
  have hlt : (l.take (2 ^ Nat.log2 l.length)).length = 2 ^ Nat.log2 l.length := by simp; omega
  have hit := iter_up _ (b2_iter _ _ hlt (by omega)) (by omega)
  rw [red_root _ _ hlt] at hit
  have hix : idx [rootR (l.take (2 ^ Nat.log2 l.length))] 0 = some (rootR (l.take (2 ^ Nat.log2 l.length))) := rfl
  unfold m_merkle_parts_1_b1
  rw [if_pos (decide_eq_true (by simp; omega))]
  rw [len_eq h1 h2, obind_some', w1, if_pos (by omega), bnd_def, Int.toNat_natCast, shl_one hj, hc1, obind_some', hcl, obind_some', hit, obind_some', obind_some', hix, obind_some', pcoll_eq ho, obind_some', if_neg (by simp), hc2, obind_some']
theorem b1_iter : ∀ (n : Nat) (l : List Sm) (out : List g_merkle_part), l.length ≤ n → l.length ≤ 300 → out.length + n ≤ 100000 →
    iter (m_merkle_parts_1_b1 pcoll) (n + 1) (l, out) = some (.inl ([], out ++ partsL n l)) := by
  intro n
  induction n with
  | zero =>
    intro l out h _ _
    have : l = [] := List.eq_nil_of_length_eq_zero (by omega)
    subst this
    refine iter_end ?_
    simp only [m_merkle_parts_1_b1, partsL, List.append_nil]
    rfl
  | succ n ih =>
    intro l out h h2 ho
    by_cases h0 : l.length = 0
    · have : l = [] := List.eq_nil_of_length_eq_zero h0
      subst this
      refine iter_end ?_
      simp only [m_merkle_parts_1_b1, partsL, List.length_nil, if_true, List.append_nil]
      rfl
    · have hp := Nat.two_pow_pos (Nat.log2 l.length)
      rw [iter_step (b1_step (by omega) h2 (by omega)), ih _ _ (by simp; omega) (by simp; omega) (by simp; omega)]
      simp only [partsL]
      rw [if_neg h0]
      simp
theorem collect_eq (l : List Sm) (h : l.length ≤ 300) : ∃ q, m_slices_Collect_merkle_part_85 l = some (partsL l.length l, q) := by
  have hi := iter_up _ (b1_iter l.length l [] (by omega) h (by simp; omega)) (by omega)
  refine ⟨[], ?_⟩
  have hp : m_merkle_parts_1 pcoll l [] = some ([], partsL l.length l) := by
    unfold m_merkle_parts_1
    rw [hi, obind_some']
    simp
  have ha : m_slices_AppendSeq_merkle_part_merkle_part_85 [] l = some (partsL l.length l, []) := by
    unfold m_slices_AppendSeq_merkle_part_merkle_part_85
    show obind (m_merkle_parts_1 pcoll l []) _ = _
    rw [hp, obind_some']
  unfold m_slices_Collect_merkle_part_85
  rw [ha, obind_some']

/-! ### the root -/
def foldP : List g_merkle_part → Sm
  | [] => default
  | [p] => p.root_
  | p :: q :: ps => ppair p.root_ (foldP (q :: ps))
theorem foldP_app (p : g_merkle_part) : ∀ ps : List g_merkle_part, foldP (ps ++ [p]) = ps.foldr (fun q s => ppair q.root_ s) p.root_ := by
  intro ps
  induction ps with
  | nil => rfl
  | cons q ps ih =>
    cases ps with
    | nil => rfl
    | cons r ps => simp only [List.cons_append, foldP, List.foldr_cons] at ih ⊢; rw [ih]
theorem root_b4 : ∀ (ps : List g_merkle_part) (i : Int) (s : Sm), each0 m_merkle_Root_b4 ps i s = some (ps.foldl (fun s q => ppair q.root_ s) s) := by
  intro ps
  induction ps with
  | nil => intro i s; rfl
  | cons p ps ih => intro i s; simp only [each0, m_merkle_Root_b4, pair_eq, obind_some', List.foldl_cons]; exact ih _ _
theorem partsL_fold : ∀ (n : Nat) (l : List Sm), l.length ≤ n → 1 ≤ l.length → foldP (partsL n l) = rootR l := by
  intro n
  induction n with
  | zero => intro l h h1; omega
  | succ n ih =>
    intro l h h1
    have hle := Nat.log2_self_le (n := l.length) (by omega)
    have hlt := Nat.lt_log2_self (n := l.length)
    have hpw := Nat.two_pow_pos (Nat.log2 l.length)
    simp only [partsL]
    rw [if_neg (by omega)]
    by_cases he : l.length = 2 ^ Nat.log2 l.length
    · have hd : l.drop (2 ^ Nat.log2 l.length) = [] := List.drop_eq_nil_of_le (by omega)
      have ht : l.take (2 ^ Nat.log2 l.length) = l := List.take_of_length_le (by omega)
      rw [hd, ht]
      have : partsL n ([] : List Sm) = [] := by cases n <;> simp [partsL]
      rw [this]; rfl
    · have hh : hp l.length = 2 ^ Nat.log2 l.length := hp_eq (by omega) (by omega)
      have ih' := ih (l.drop (2 ^ Nat.log2 l.length)) (by simp; omega) (by simp; omega)
      have hne : partsL n (l.drop (2 ^ Nat.log2 l.length)) ≠ [] := by
        cases n with
        | zero => omega
        | succ n => simp only [partsL]; rw [if_neg (by simp; omega)]; simp
      rw [rootR_two (l := l) (by omega), hh]
      obtain ⟨q, qs, hq⟩ := List.exists_cons_of_ne_nil hne
      rw [hq] at ih' ⊢
      simp only [foldP]
      rw [ih']
def rootP (l : List Sm) : Sm := if l.length = 0 then ptag ⟨#[101, 109, 112, 116, 121]⟩ [] else rootR l
theorem partsL_len : ∀ (n : Nat) (l : List Sm), (partsL n l).length ≤ n := by
  intro n
  induction n with
  | zero => intro l; simp [partsL]
  | succ n ih => intro l; simp only [partsL]; split <;> simp; exact ih _
theorem root_eq (l : List Sm) (h : l.length ≤ 300) : m_merkle_Root l = some (rootP l) := by
  obtain ⟨q, hc⟩ := collect_eq l h
  have hlen := partsL_len l.length l
  unfold m_merkle_Root rootP
  rw [show m_merkle_parts l = some l from rfl, obind_some', hc, obind_some']
  by_cases h0 : l.length = 0
  · have hl : l = [] := List.eq_nil_of_length_eq_zero h0
    subst hl
    rw [if_pos (by rfl), if_pos (show ([] : List Sm).length = 0 from rfl), tagged_eq _ _ (by decide), obind_some']
  · have hf := partsL_fold l.length l (by omega) (by omega)
    have hne : partsL l.length l ≠ [] := by
      intro e
      have hh : ∃ n, l.length = n + 1 := ⟨l.length - 1, by omega⟩
      obtain ⟨n, hn⟩ := hh
      rw [hn] at e
      simp only [partsL] at e
      rw [if_neg h0] at e; cases e
    rw [if_neg h0]
    obtain ⟨init, last, hil⟩ : ∃ init last, partsL l.length l = init ++ [last] := ⟨_, _, (List.dropLast_concat_getLast hne).symm⟩
    rw [hil] at hf hlen ⊢
    rw [if_neg (by simp; omega), revP_eq _ (show (init ++ [last]).length ≤ 1000000 from by omega), obind_some', List.reverse_append, List.reverse_singleton, List.singleton_append]
    have e1 : idx (last :: init.reverse) 0 = some last := rfl
    have e2 : cut (last :: init.reverse) 1 ((last :: init.reverse).length : Int) = some init.reverse := by
      have := cut_eq (xs := last :: init.reverse) (lo := 1) (hi := (last :: init.reverse).length) (by simp) (by omega)
      rw [show ((1 : Nat) : Int) = 1 from rfl] at this
      rw [this]; simp [List.take_of_length_le]
    rw [e1, obind_some', e2, obind_some', show (last.root_.1, last.root_.2) = last.root_ from rfl, root_b4, obind_some', obind_some', List.foldl_reverse]
    rw [foldP_app] at hf
    rw [← hf]
end Go.Proofs.YtemiampgjgenhaaGreatDoor
