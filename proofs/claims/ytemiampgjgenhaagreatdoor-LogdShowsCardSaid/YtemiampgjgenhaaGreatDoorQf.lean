/- What a log promises and shows: in plain terms. Conditions: a log that may be, not too great. -/
import Derived.Test.YtemiampgjgenhaaGreatDoorQe
set_option linter.unusedSimpArgs false
set_option linter.unusedVariables false
set_option maxHeartbeats 4000000
set_option maxRecDepth 100000
namespace Go.Proofs.YtemiampgjgenhaaGreatDoor
open Go Go.Gw

/-! ### bytes -/
theorem growB_eq (n : Nat) (h : n ≤ 1000000) : m_slices_Grow_byte_byte_nil (n : Int) = some [] := by
  have hw : w64 ((n : Int) - (w64 (0 - ((0 : Nat) : Int)))) = (n : Int) := by rw [w64_in (n := 0 - ((0 : Nat) : Int)) (by omega) (by omega), w64_in (by omega) (by omega)]; omega
  unfold m_slices_Grow_byte_byte_nil
  rw [if_neg (by rw [decide_eq_true_eq]; omega), obind_some', hw, bnd_def]
  by_cases h0 : n = 0
  · rw [if_neg (by simp; omega), obind_some']
  · rw [if_pos (by simp; omega), if_pos (by omega), obind_some']
theorem concatB_sum : ∀ (xs : List (List UInt8)) (i : Int) (n : Nat), n + xs.flatten.length ≤ 1000000 → each0 m_slices_Concat_byte_byte_b1 xs i (n : Int) = some ((n + xs.flatten.length : Nat) : Int) := by
  intro xs
  induction xs with
  | nil => intro i n _; simp [each0]
  | cons x xs ih =>
    intro i n h
    simp only [List.flatten_cons, List.length_append] at h
    have hw : w64 ((n : Int) + (x.length : Int)) = ((n + x.length : Nat) : Int) := by rw [w64_in (by omega) (by omega)]; omega
    have hb : m_slices_Concat_byte_byte_b1 i x (n : Int) = some ((n + x.length : Nat) : Int) := by
      unfold m_slices_Concat_byte_byte_b1
      rw [bnd_def, hw, if_neg (by rw [decide_eq_true_eq]; omega), obind_some']
    simp only [each0, hb, obind_some']
    rw [ih _ _ (by omega), List.flatten_cons, List.length_append, Nat.add_assoc]
theorem concatB_app : ∀ (xs : List (List UInt8)) (i : Int) (s : List UInt8), s.length + xs.flatten.length ≤ 1000000 → each0 m_slices_Concat_byte_byte_b2 xs i s = some (s ++ xs.flatten) := by
  intro xs
  induction xs with
  | nil => intro i s _; simp [each0]
  | cons x xs ih =>
    intro i s h
    simp only [List.flatten_cons, List.length_append] at h
    have hb : m_slices_Concat_byte_byte_b2 i x s = some (s ++ x) := by
      unfold m_slices_Concat_byte_byte_b2
      rw [app_eq 1 (by omega) (by omega), obind_some']
    simp only [each0, hb, obind_some']
    rw [ih _ _ (by rw [List.length_append]; omega), List.flatten_cons, List.append_assoc]
theorem concatB_eq {xs : List (List UInt8)} (h : xs.flatten.length ≤ 1000000) : m_slices_Concat_byte_byte xs = some xs.flatten := by
  have h1 := concatB_sum xs 0 0 (by omega)
  rw [show ((0 : Nat) : Int) = 0 from rfl, Nat.zero_add] at h1
  unfold m_slices_Concat_byte_byte
  rw [h1, obind_some', obind_some', growB_eq _ h, obind_some', concatB_app xs 0 [] (by simpa using h), obind_some', obind_some', List.nil_append]
theorem msg_eq {w : ByteArray} {ps : List (List UInt8)} (hw : w.data.toList.length ≤ 100) (h : ps.flatten.length ≤ 100000) : m_logd_msg w ps = some (w.data.toList ++ ps.flatten) := by
  unfold m_logd_msg
  have h0 : ([] : List UInt8).length = 0 := rfl
  rw [app_eq 1 (by omega) (by omega), obind_some', concatB_eq (by omega), obind_some', List.nil_append, app_eq 1 (by omega) (by omega), obind_some']
def e8 (n : Int) : List UInt8 := [toB (shr64 n 56), toB (shr64 n 48), toB (shr64 n 40), toB (shr64 n 32), toB (shr64 n 24), toB (shr64 n 16), toB (shr64 n 8), toB (shr64 n 0)]
theorem eight_eq' (n : Int) : m_logd_eight n = some (e8 n) := by
  unfold m_logd_eight
  simp [eachN0, m_logd_eight_b2, idx, w64, bnd_def, e8]
def promB (p : g_api_Promise) : List UInt8 := [112, 114, 111, 109, 105, 115, 101] ++ [e8 p.Log, e8 p.At, pbytes p.Leaf].flatten
def headB (h : g_api_Head) : List UInt8 := [104, 101, 97, 100] ++ [e8 h.Log, e8 h.Size, pbytes h.Root, e8 h.At].flatten
theorem e8_len (n : Int) : (e8 n).length = 8 := rfl
theorem ofPromise_eq (p : g_api_Promise) : m_logd_ofPromise p = some (promB p) := by
  unfold m_logd_ofPromise
  rw [eight_eq', obind_some', eight_eq', obind_some', bytes_eq, obind_some', msg_eq (by decide) (by simp [e8_len, pbytes_len]), obind_some']; rfl
theorem ofHead_eq (h : g_api_Head) : m_logd_ofHead h = some (headB h) := by
  unfold m_logd_ofHead
  rw [eight_eq', obind_some', eight_eq', obind_some', bytes_eq, obind_some', eight_eq', obind_some', msg_eq (by decide) (by simp [e8_len, pbytes_len]), obind_some']; rfl
theorem promB_len (p : g_api_Promise) : (promB p).length ≤ 600000 := by simp [promB, e8_len, pbytes_len]
theorem headB_len (h : g_api_Head) : (headB h).length ≤ 600000 := by simp [headB, e8_len, pbytes_len]

/-! ### promises -/
def pleaf (b : List UInt8) : UInt64 × UInt64 := ptag ⟨#[108, 101, 97, 102]⟩ [b]
theorem leaf_eq {b : List UInt8} (h : b.length ≤ 600000) : m_merkle_Leaf b = some (pleaf b) := by
  unfold m_merkle_Leaf
  rw [tagged_eq _ _ (by simp [plen]; omega), obind_some']; rfl
def findB : List g_api_Leaf → List UInt8 → Nat → Option Nat
  | [], _, _ => none
  | x :: r, b, i => if x.Body = b then some i else findB r b (i + 1)
theorem index_it (all : List g_api_Leaf) (b : List UInt8) (hl : all.length ≤ 100000) : ∀ (xs : List g_api_Leaf) (i : Nat), all.drop i = xs →
    eachN (m_slices_IndexFunc_api_Leaf_api_Leaf_b1 all (fun (s1 : (List UInt8)) (b5 : g_api_Leaf) => obind (m_logd_Add_1 b5 s1) fun x7 => some (x7.1, x7.2))) xs.length (i : Int) b =
      some (match findB xs b i with | some j => .inr ((j : Int), b) | none => .inl b) := by
  intro xs
  induction xs with
  | nil => intro i _; rfl
  | cons x xs ih =>
    intro i hd
    have hx : idx all (i : Int) = some x := idx_nat (by
      have : (all.drop i)[0]? = some x := by rw [hd]; rfl
      simpa using this)
    have hd' : all.drop (i + 1) = xs := by rw [← List.drop_drop, hd]; rfl
    have hb : m_slices_IndexFunc_api_Leaf_api_Leaf_b1 all (fun (s1 : (List UInt8)) (b5 : g_api_Leaf) => obind (m_logd_Add_1 b5 s1) fun x7 => some (x7.1, x7.2)) (i : Int) b = some (if x.Body = b then .inr ((i : Int), b) else .inl b) := by
      unfold m_slices_IndexFunc_api_Leaf_api_Leaf_b1 m_logd_Add_1 m_bytes_Equal
      rw [hx]
      simp only [obind_some']
      by_cases h : x.Body = b
      · rw [if_pos h, if_pos (bs_inj.2 h)]
      · rw [if_neg h, if_neg (fun q => h (bs_inj.1 q))]
    simp only [List.length_cons, eachN, hb, obind_some', findB]
    by_cases h : x.Body = b
    · rw [if_pos h, if_pos h]
    · rw [if_neg h, if_neg h]
      exact ih (i + 1) hd'
theorem index_eq {all : List g_api_Leaf} {b : List UInt8} (hl : all.length ≤ 100000) :
    m_slices_IndexFunc_api_Leaf_api_Leaf all (fun (s1 : (List UInt8)) (b5 : g_api_Leaf) => obind (m_logd_Add_1 b5 s1) fun x7 => some (x7.1, x7.2)) b = some (match findB all b 0 with | some j => (j : Int) | none => -1, b) := by
  have h := index_it all b hl all 0 rfl
  unfold m_slices_IndexFunc_api_Leaf_api_Leaf
  rw [show (0 : Int) = ((0 : Nat) : Int) from rfl, h, obind_some']
  cases findB all b 0 <;> rfl
theorem findB_some : ∀ {xs : List g_api_Leaf} {b : List UInt8} {i j : Nat}, findB xs b i = some j → ∃ x, i ≤ j ∧ xs[j - i]? = some x ∧ x.Body = b := by
  intro xs
  induction xs with
  | nil => intro b i j h; cases h
  | cons y xs ih =>
    intro b i j h
    simp only [findB] at h
    by_cases hy : y.Body = b
    · rw [if_pos hy] at h
      cases h
      exact ⟨y, Nat.le_refl _, by simp, hy⟩
    · rw [if_neg hy] at h
      obtain ⟨x, h1, h2, h3⟩ := ih h
      refine ⟨x, by omega, ?_, h3⟩
      rw [show j - i = (j - (i + 1)) + 1 from by omega]
      exact h2
theorem findB_none : ∀ {xs : List g_api_Leaf} {b : List UInt8} {i : Nat}, findB xs b i = none → ∀ x ∈ xs, x.Body ≠ b := by
  intro xs
  induction xs with
  | nil => intro b i _ x hx; cases hx
  | cons y xs ih =>
    intro b i h x hx
    simp only [findB] at h
    by_cases hy : y.Body = b
    · rw [if_pos hy] at h; cases h
    · rw [if_neg hy] at h
      rcases List.mem_cons.1 hx with rfl | hx
      · exact hy
      · exact ih h x hx
end Go.Proofs.YtemiampgjgenhaaGreatDoor
