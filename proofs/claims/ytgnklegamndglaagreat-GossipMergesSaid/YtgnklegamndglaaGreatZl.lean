/- Several texts, one behind the other. Conditions: none. -/
import Derived.Test.YtgnklegamndglaaGreatZh
import Derived.Test.YtgnklegamndglaaGreatZi
import Derived.Test.YtgnklegamndglaaGreatZj
import Derived.KernelRfl
import Derived.Test.YtgnklegamndglaaGreatZb
import Derived.Test.YtgnklegamndglaaGreatZk
import Derived.Test.YtgnklegamndglaaGreatRows
import Derived.WalkKit
import Derived.ProofKit
import Derived.OpenShut
import Derived.Deep.DeepHandedRow
import Derived.Lib.LaidTab
import Derived.SevenTiedAt
import Derived.Stop.LaidErr
set_option linter.unusedSimpArgs false
set_option linter.unusedVariables false
set_option maxHeartbeats 20000000
set_option maxRecDepth 100000
section
namespace Go.Proofs.YtgnklegamndglaaGreat
open Go Go.Gw
def sgn (a b : Int) : Int := if a < b then -1 else if b < a then 1 else 0
theorem cmp_int_eq (a b : Int) : m_cmp_Compare_int a b = some (sgn a b) := by
  unfold m_cmp_Compare_int m_cmp_isNaN_int sgn
  by_cases h1 : a < b
  · simp [obind, bnd, h1]
  · by_cases h2 : b < a
    · simp [obind, bnd, h1, h2]
    · simp [obind, bnd, h1, h2]
end Go.Proofs.YtgnklegamndglaaGreat
end
section
namespace Go.Proofs.YtgnklegamndglaaGreat
open Go Go.Gw
abbrev S8 : Type := Bool × Int × Int × UInt64 × UInt64 × Int × UInt64 × UInt64
def pk8 (p : Bool × g_api_Head) : S8 := (p.1, p.2.Log, p.2.Size, p.2.Root.1, p.2.Root.2, p.2.At, p.2.Sig.E, p.2.Sig.S)
def lateB (x h : g_api_Head) : Bool := decide ((if sgn x.Size h.Size = 0 then sgn x.At h.At else sgn x.Size h.Size) ≥ 0)
def lastF (a : Int) (p : Bool × g_api_Head) (x : g_api_Head) : Bool × g_api_Head := bif (x.Log == a) && (!p.1 || lateB x p.2) then (true, x) else p
def noHead : g_api_Head := ⟨0, 0, (0, 0), 0, (⟨0, 0⟩ : g_api_Sig)⟩
def lastV (l : List g_api_Head) (a : Int) : Bool × g_api_Head := l.foldl (lastF a) (false, noHead)
def later (x h : g_api_Head) : Prop := h.Size < x.Size ∨ (h.Size = x.Size ∧ h.At < x.At)
end Go.Proofs.YtgnklegamndglaaGreat
end
section
namespace Go.Proofs.YtgnklegamndglaaGreat
open Go Go.Gw
def fst0 (a b : Int) : Int := if a = 0 then b else a
theorem row4_eq (a b c d : Int) : m_gossip_row [a, b, c, d] = some (fst0 a (fst0 b (fst0 c d))) := by
  unfold m_gossip_row m_cmp_Or_int fst0
  by_cases h1 : a = 0
  · by_cases h2 : b = 0
    · by_cases h3 : c = 0
      · by_cases h4 : d = 0 <;> simp [eachR, m_cmp_Or_int_b1, obind, h1, h2, h3, h4]
      · simp [eachR, m_cmp_Or_int_b1, obind, h1, h2, h3]
    · simp [eachR, m_cmp_Or_int_b1, obind, h1, h2]
  · simp [eachR, m_cmp_Or_int_b1, obind, h1]
theorem cmp_u_eq (a b : UInt64) : m_cmp_Compare_uint64 a b = some (sgn (a.toNat : Int) (b.toNat : Int)) := by
  unfold m_cmp_Compare_uint64 m_cmp_isNaN_uint64 sgn
  by_cases h1 : (a.toNat : Int) < (b.toNat : Int)
  · simp only [obind, bnd, bne_self_eq_false, Bool.false_eq_true, if_false, h1, decide_true, if_true]
  · by_cases h2 : (b.toNat : Int) < (a.toNat : Int)
    · simp only [obind, bnd, bne_self_eq_false, Bool.false_eq_true, if_false, h1, h2, decide_true, decide_false, gt_iff_lt, if_true]
    · simp only [obind, bnd, bne_self_eq_false, Bool.false_eq_true, if_false, h1, h2, decide_true, decide_false, gt_iff_lt, if_true]
theorem cmp_sum_eq (a b c d : UInt64) : m_slices_Compare_uint64_uint64 [a, b] [c, d] = some (fst0 (sgn (a.toNat : Int) (c.toNat : Int)) (sgn (b.toNat : Int) (d.toNat : Int))) := by
  have i0 : idx [a, b] (0 : Int) = some a := rfl
  have i1 : idx [a, b] (1 : Int) = some b := rfl
  have j0 : idx [c, d] (0 : Int) = some c := rfl
  have j1 : idx [c, d] (1 : Int) = some d := rfl
  unfold m_slices_Compare_uint64_uint64 fst0
  by_cases h1 : sgn (a.toNat : Int) (c.toNat : Int) = 0
  · by_cases h2 : sgn (b.toNat : Int) (d.toNat : Int) = 0
    · simp [eachN, m_slices_Compare_uint64_uint64_b1, i0, i1, j0, j1, cmp_u_eq, obind, h1, h2]
    · simp [eachN, m_slices_Compare_uint64_uint64_b1, i0, i1, j0, j1, cmp_u_eq, obind, h1, h2]
  · simp [eachN, m_slices_Compare_uint64_uint64_b1, i0, i1, j0, j1, cmp_u_eq, obind, h1]
def ordH (a b : g_api_Head) : Int :=
  fst0 (sgn a.Log b.Log) (fst0 (sgn a.Size b.Size) (fst0 (fst0 (sgn (a.Root.1.toNat : Int) (b.Root.1.toNat : Int)) (sgn (a.Root.2.toNat : Int) (b.Root.2.toNat : Int))) (sgn a.At b.At)))
theorem against_eq (a b : g_api_Head) : m_gossip_head_against a b = some (ordH a b) := by
  simp only [m_gossip_head_against, cmp_int_eq, cmp_sum_eq, obind_some', row4_eq, ordH]
theorem order_eq (a b : g_api_Head) : m_gossip_order a b = some (ordH a b) := by
  simp only [m_gossip_order, against_eq, obind_some']
theorem ahead_eq (a b : g_api_Head) : m_ref28_ahead a b = some (decide (ordH a b < 0)) := by
  unfold m_ref28_ahead ordH fst0 sgn bnd
  by_cases h1 : a.Log = b.Log
  · rw [if_neg (by simpa using h1)]
    by_cases h2 : a.Size = b.Size
    · rw [if_neg (by simpa using h2)]
      by_cases h3 : (a.Root.1.toNat : Int) = (b.Root.1.toNat : Int)
      · rw [if_neg (by simpa using h3)]
        by_cases h4 : (a.Root.2.toNat : Int) = (b.Root.2.toNat : Int)
        · rw [if_neg (by simpa using h4)]
          simp only [h1, h2, h3, h4, Int.lt_irrefl, if_false, if_true]
          by_cases h5 : a.At < b.At
          · simp [h5]
          · by_cases h6 : b.At < a.At <;> simp [h5, h6]
        · rw [if_pos (by simpa using h4)]
          simp only [h1, h2, h3, Int.lt_irrefl, if_false, if_true]
          by_cases h5 : (a.Root.2.toNat : Int) < (b.Root.2.toNat : Int)
          · simp [h5]
          · have h6 : (b.Root.2.toNat : Int) < (a.Root.2.toNat : Int) := by omega
            simp [h5, h6]
      · rw [if_pos (by simpa using h3)]
        simp only [h1, h2, Int.lt_irrefl, if_false, if_true]
        by_cases h5 : (a.Root.1.toNat : Int) < (b.Root.1.toNat : Int)
        · simp [h5]
        · have h6 : (b.Root.1.toNat : Int) < (a.Root.1.toNat : Int) := by omega
          simp [h5, h6]
    · rw [if_pos (by simpa using h2)]
      simp only [h1, Int.lt_irrefl, if_false, if_true]
      by_cases h5 : a.Size < b.Size
      · simp [h5]
      · have h6 : b.Size < a.Size := by omega
        simp [h5, h6]
  · rw [if_pos (by simpa using h1)]
    by_cases h5 : a.Log < b.Log
    · simp [h5]
    · have h6 : b.Log < a.Log := by omega
      simp [h5, h6]
end Go.Proofs.YtgnklegamndglaaGreat
end
section
namespace Go.Proofs.YtgnklegamndglaaGreat
open Go Go.Gw
theorem fst0_neg {a b : Int} : fst0 a b < 0 ↔ a < 0 ∨ (a = 0 ∧ b < 0) := by unfold fst0; split <;> omega
theorem fst0_pos {a b : Int} : 0 < fst0 a b ↔ 0 < a ∨ (a = 0 ∧ 0 < b) := by unfold fst0; split <;> omega
theorem fst0_zero {a b : Int} : fst0 a b = 0 ↔ a = 0 ∧ b = 0 := by unfold fst0; split <;> omega
theorem sgn_neg {a b : Int} : sgn a b < 0 ↔ a < b := by unfold sgn; split <;> (try split) <;> omega
theorem sgn_pos {a b : Int} : 0 < sgn a b ↔ b < a := by unfold sgn; split <;> (try split) <;> omega
theorem sgn_zero {a b : Int} : sgn a b = 0 ↔ a = b := by unfold sgn; split <;> (try split) <;> omega
def ltH (a b : g_api_Head) : Prop :=
  a.Log < b.Log ∨ (a.Log = b.Log ∧ (a.Size < b.Size ∨ (a.Size = b.Size ∧ (((a.Root.1.toNat : Int) < (b.Root.1.toNat : Int) ∨ ((a.Root.1.toNat : Int) = (b.Root.1.toNat : Int) ∧ (a.Root.2.toNat : Int) < (b.Root.2.toNat : Int))) ∨ (((a.Root.1.toNat : Int) = (b.Root.1.toNat : Int) ∧ (a.Root.2.toNat : Int) = (b.Root.2.toNat : Int)) ∧ a.At < b.At)))))
def eqH (a b : g_api_Head) : Prop := a.Log = b.Log ∧ a.Size = b.Size ∧ ((a.Root.1.toNat : Int) = (b.Root.1.toNat : Int) ∧ (a.Root.2.toNat : Int) = (b.Root.2.toNat : Int)) ∧ a.At = b.At
theorem ordH_neg {a b : g_api_Head} : ordH a b < 0 ↔ ltH a b := by unfold ordH ltH; simp only [fst0_neg, fst0_zero, sgn_neg, sgn_zero]
theorem ordH_zero {a b : g_api_Head} : ordH a b = 0 ↔ eqH a b := by unfold ordH eqH; simp only [fst0_zero, sgn_zero]
theorem ltH_irrefl (a : g_api_Head) : ¬ ltH a a := by unfold ltH; omega
theorem ltH_trans {a b c : g_api_Head} (h : ltH a b) (k : ltH b c) : ltH a c := by unfold ltH at *; omega
theorem ordH_pos {a b : g_api_Head} : 0 < ordH a b ↔ ltH b a := by
  unfold ordH ltH; simp only [fst0_pos, fst0_zero, sgn_pos, sgn_zero]; omega
theorem eqH_refl (a : g_api_Head) : eqH a a := ⟨rfl, rfl, ⟨rfl, rfl⟩, rfl⟩
theorem ltH_eq {a b c : g_api_Head} (h : ltH a b) (k : eqH b c) : ltH a c := by unfold ltH eqH at *; omega
theorem eq_ltH {a b c : g_api_Head} (h : eqH a b) (k : ltH b c) : ltH a c := by unfold ltH eqH at *; omega
end Go.Proofs.YtgnklegamndglaaGreat
end
section
namespace Go.Proofs.YtgnklegamndglaaGreat
open Go Go.Gw
theorem live28_true : m_law28_live = some true := by kernel_rfl
end Go.Proofs.YtgnklegamndglaaGreat
end
section
namespace Go.Proofs.YtgnklegamndglaaGreat
open Go Go.Gw
theorem idx_at {α : Type} {l : List α} {i : Nat} (h : i < l.length) : idx l (i : Int) = some l[i] := idx_nat (List.getElem?_eq_getElem h)
theorem w64_suc {i n : Nat} (h : i < n) (hn : n ≤ 1099511627776) : w64 ((i : Int) + 1) = ((i + 1 : Nat) : Int) := by rw [w64_in (by omega) (by omega)]; omega
def placeB (h x : g_api_Head) : Bool := (((x.Log == h.Log) && (x.Size == h.Size)) && (eqSum x.Root h.Root)) && (x.At == h.At)
def anyB (a : Int) (l : List g_api_Head) (i : Nat) : Bool := (l.take i).any fun x => x.Log == a
end Go.Proofs.YtgnklegamndglaaGreat
end
section
namespace Go.Proofs.YtgnklegamndglaaGreat
open Go Go.Gw
def chB : List g_api_Head → Bool
  | a :: b :: l => decide (ordH a b < 0) && chB (b :: l)
  | _ => true
theorem w64_pre {i n : Nat} (h : i < n) (h1 : 1 ≤ i) (hn : n ≤ 1099511627776) : w64 ((i : Int) - 1) = ((i - 1 : Nat) : Int) := by rw [w64_in (by omega) (by omega)]; omega
theorem drop2 {l : List g_api_Head} {i : Nat} (h1 : 1 ≤ i) (h : i < l.length) : l.drop (i - 1) = l[i - 1] :: l[i] :: l.drop (i + 1) := by
  rw [List.drop_eq_getElem_cons (show i - 1 < l.length by omega)]
  congr 1
  rw [show i - 1 + 1 = i from by omega, List.drop_eq_getElem_cons h]
theorem chB_drop {l : List g_api_Head} {i : Nat} (h1 : 1 ≤ i) (h : i < l.length) : chB (l.drop (i - 1)) = (decide (ordH l[i - 1] l[i] < 0) && chB (l.drop i)) := by
  rw [drop2 h1 h, chB, List.drop_eq_getElem_cons h]
theorem chB_end {l : List g_api_Head} {i : Nat} (h : l.length ≤ i) : chB (l.drop (i - 1)) = true := by
  have hl : (l.drop (i - 1)).length ≤ 1 := by rw [List.length_drop]; omega
  match hd : l.drop (i - 1), hl with
  | [], _ => rfl
  | [a], _ => rfl
  | a :: b :: l', hl => simp at hl
theorem inOrder_from {a0 : g_api_Pool} (hn : a0.L.length ≤ 1099511627776) : ∀ (k i n : Nat), 1 ≤ i → a0.L.length ≤ i + k → k < n →
    iter (m_ref28_InOrder_b2 a0) n (i : Int) = some (if chB (a0.L.drop (i - 1)) = true then .inl () else .inr false) := by
  intro k
  induction k with
  | zero =>
    intro i n h1 hk hn'
    obtain ⟨n, rfl⟩ : ∃ q, n = q + 1 := ⟨n - 1, by omega⟩
    have : m_ref28_InOrder_b2 a0 (i : Int) = some (.inr (.inl ())) := by
      unfold m_ref28_InOrder_b2; rw [if_neg (by simp; omega)]
    simp only [iter, this, obind_some']
    rw [if_pos (chB_end (by omega))]
  | succ k ih =>
    intro i n h1 hk hn'
    obtain ⟨n, rfl⟩ : ∃ q, n = q + 1 := ⟨n - 1, by omega⟩
    by_cases hi : i < a0.L.length
    · have hs : m_ref28_InOrder_b2 a0 (i : Int) = some (if ordH a0.L[i - 1] a0.L[i] < 0 then .inl ((i + 1 : Nat) : Int) else .inr (.inr false)) := by
        unfold m_ref28_InOrder_b2
        rw [if_pos (by simpa using hi), w64_pre hi h1 hn, idx_at (show i - 1 < a0.L.length by omega), obind_some', idx_at hi, obind_some', ahead_eq, obind_some', w64_suc hi hn]
        by_cases h : ordH a0.L[i - 1] a0.L[i] < 0 <;> simp [h]
      rw [chB_drop h1 hi]
      by_cases h : ordH a0.L[i - 1] a0.L[i] < 0
      · rw [if_pos h] at hs
        simp only [iter, hs, obind_some', h, decide_true, Bool.true_and]
        have := ih (i + 1) n (by omega) (by omega) (by omega)
        rw [Nat.add_sub_cancel] at this
        exact this
      · rw [if_neg h] at hs
        simp only [iter, hs, obind_some', h, decide_false, Bool.false_and]
        rfl
    · have : m_ref28_InOrder_b2 a0 (i : Int) = some (.inr (.inl ())) := by
        unfold m_ref28_InOrder_b2; rw [if_neg (by simp; omega)]
      simp only [iter, this, obind_some']
      rw [if_pos (chB_end (by omega))]
theorem inOrder_eq {a0 : g_api_Pool} (hn : a0.L.length ≤ 1099511627776) : m_ref28_InOrder a0 = some (chB a0.L) := by
  unfold m_ref28_InOrder
  have := inOrder_from hn a0.L.length 1 FUEL (by omega) (by omega) (by unfold FUEL; omega)
  rw [show ((1 : Nat) : Int) = 1 from rfl] at this
  rw [this, obind_some', show 1 - 1 = 0 from rfl, List.drop_zero]
  cases chB a0.L <;> rfl
theorem ord_step {a0 : g_api_Pool} (hn : a0.L.length ≤ 1099511627776) {i : Nat} (h1 : 1 ≤ i) (hi : i < a0.L.length) : m_gossip_ordered_b2 a0 (i : Int) () = some (if ordH a0.L[i - 1] a0.L[i] < 0 then .inl () else .inr false) := by
  unfold m_gossip_ordered_b2
  have hp : decide ((i : Int) > 0) = true := by simp; omega
  rw [w64_pre hi h1 hn, hp, idx_at (show i - 1 < a0.L.length by omega), idx_at hi]
  simp only [gu, cond_true, obind_some', order_eq, Bool.true_and]
  by_cases h : ordH a0.L[i - 1] a0.L[i] < 0
  · rw [if_neg (by simp; omega), if_pos h]
  · rw [if_pos (by simp; omega), if_neg h]
theorem ord_from {a0 : g_api_Pool} (hn : a0.L.length ≤ 1099511627776) : ∀ (k i : Nat), 1 ≤ i → a0.L.length = i + k →
    eachN (m_gossip_ordered_b2 a0) k (i : Int) () = some (if chB (a0.L.drop (i - 1)) = true then .inl () else .inr false) := by
  intro k
  induction k with
  | zero => intro i h1 hk; rw [if_pos (chB_end (by omega))]; rfl
  | succ k ih =>
    intro i h1 hk
    have hi : i < a0.L.length := by omega
    rw [chB_drop h1 hi]
    by_cases h : ordH a0.L[i - 1] a0.L[i] < 0
    · simp only [eachN, ord_step hn h1 hi, if_pos h, obind_some', h, decide_true, Bool.true_and]
      have := ih (i + 1) (by omega) (by omega)
      rw [Nat.add_sub_cancel] at this
      exact this
    · simp only [eachN, ord_step hn h1 hi, if_neg h, obind_some', h, decide_false, Bool.false_and]
      rfl
theorem ordered_eq {a0 : g_api_Pool} (hn : a0.L.length ≤ 1099511627776) : m_gossip_ordered a0 = some (chB a0.L) := by
  unfold m_gossip_ordered
  cases hl : a0.L.length with
  | zero =>
    have : a0.L = [] := List.eq_nil_of_length_eq_zero hl
    rw [this]; rfl
  | succ k =>
    have h0 : m_gossip_ordered_b2 a0 0 () = some (.inl ()) := by
      unfold m_gossip_ordered_b2; simp [gu, obind]
    simp only [eachN, h0, obind_some']
    have := ord_from hn k 1 (by omega) (by omega)
    rw [show ((1 : Nat) : Int) = 0 + 1 from rfl, show 1 - 1 = 0 from rfl, List.drop_zero] at this
    rw [this]
    cases chB a0.L <;> rfl
end Go.Proofs.YtgnklegamndglaaGreat
end
section
namespace Go.Proofs.YtgnklegamndglaaGreat
open Go Go.Gw
theorem srt_iff : ∀ (l : List g_api_Head), chB l = true ↔ l.Pairwise ltH
  | [] => by simp [chB]
  | [a] => by simp [chB]
  | a :: b :: l => by
    rw [chB, Bool.and_eq_true, decide_eq_true_eq, ordH_neg, srt_iff (b :: l), List.pairwise_cons (a := a)]
    constructor
    · rintro ⟨h, k⟩
      refine ⟨fun x hx => ?_, k⟩
      rcases List.mem_cons.1 hx with rfl | hx
      · exact h
      · exact ltH_trans h ((List.pairwise_cons.1 k).1 x hx)
    · rintro ⟨h, k⟩; exact ⟨h b (by simp), k⟩
theorem eqH_symm {a b : g_api_Head} (h : eqH a b) : eqH b a := by unfold eqH at *; omega
theorem eqH_trans {a b c : g_api_Head} (h : eqH a b) (k : eqH b c) : eqH a c := by unfold eqH at *; omega
theorem lt_ne {a b : g_api_Head} (h : ltH a b) (k : eqH a b) : False := ltH_irrefl b (eq_ltH (eqH_symm k) h)
theorem lt_ne' {a b : g_api_Head} (h : ltH a b) (k : eqH b a) : False := lt_ne h (eqH_symm k)
def hasH (l : List g_api_Head) (z : g_api_Head) : Prop := ∃ x ∈ l, eqH x z
theorem hasH_mem {l : List g_api_Head} {z : g_api_Head} (h : z ∈ l) : hasH l z := ⟨z, h, eqH_refl z⟩
def zipH : List g_api_Head → List g_api_Head → List g_api_Head
  | [], b => b
  | x :: a, [] => x :: a
  | x :: a, y :: b => if 0 < ordH x y then y :: zipH (x :: a) b else x :: zipH a (if ordH x y = 0 then b else y :: b)
termination_by a b => a.length + b.length
decreasing_by
  · simp only [List.length_cons]; omega
  · split <;> simp only [List.length_cons] <;> omega
theorem zip_nil (a : List g_api_Head) : zipH a [] = a := by cases a <;> simp [zipH]
theorem nil_zip (b : List g_api_Head) : zipH [] b = b := by simp [zipH]
theorem zip_cons (x y : g_api_Head) (a b : List g_api_Head) : zipH (x :: a) (y :: b) = if 0 < ordH x y then y :: zipH (x :: a) b else x :: zipH a (if ordH x y = 0 then b else y :: b) := by rw [zipH]
theorem zip_spec : ∀ (n : Nat) (a b : List g_api_Head), a.length + b.length ≤ n → a.Pairwise ltH → b.Pairwise ltH →
    (zipH a b).Pairwise ltH ∧ ∀ z, z ∈ zipH a b ↔ z ∈ a ∨ (z ∈ b ∧ ¬ hasH a z) := by
  intro n
  induction n with
  | zero =>
    intro a b h ha hb
    have h1 : a = [] := List.eq_nil_of_length_eq_zero (by omega)
    have h2 : b = [] := List.eq_nil_of_length_eq_zero (by omega)
    subst h1; subst h2
    rw [nil_zip]
    simp
  | succ n ih =>
    intro a b h ha hb
    match a, b with
    | [], b => rw [nil_zip]; exact ⟨hb, fun z => by simp [hasH]⟩
    | x :: a, [] => rw [zip_nil]; exact ⟨ha, fun z => by simp⟩
    | x :: a, y :: b =>
      have hxa := (List.pairwise_cons.1 ha).1
      have hyb := (List.pairwise_cons.1 hb).1
      simp only [List.length_cons] at h
      rw [zip_cons]
      by_cases h1 : 0 < ordH x y
      · rw [if_pos h1]
        have hyx := ordH_pos.1 h1
        obtain ⟨k1, k2⟩ := ih (x :: a) b (by simp only [List.length_cons]; omega) ha (List.pairwise_cons.1 hb).2
        have hlow : ∀ z ∈ x :: a, ltH y z := fun z hz => by
          rcases List.mem_cons.1 hz with rfl | hz
          · exact hyx
          · exact ltH_trans hyx (hxa z hz)
        refine ⟨List.pairwise_cons.2 ⟨fun z hz => ?_, k1⟩, fun z => ?_⟩
        · rcases (k2 z).1 hz with q | q
          · exact hlow z q
          · exact hyb z q.1
        · rw [List.mem_cons, k2 z, List.mem_cons (a := z) (b := y)]
          constructor
          · rintro (rfl | q | q)
            · exact .inr ⟨.inl rfl, fun ⟨w, hw, he⟩ => lt_ne' (hlow w hw) he⟩
            · exact .inl q
            · exact .inr ⟨.inr q.1, q.2⟩
          · rintro (q | ⟨rfl | q, r⟩)
            · exact .inr (.inl q)
            · exact .inl rfl
            · exact .inr (.inr ⟨q, r⟩)
      · rw [if_neg h1]
        by_cases h0 : ordH x y = 0
        · rw [if_pos h0]
          have he := ordH_zero.1 h0
          obtain ⟨k1, k2⟩ := ih a b (by omega) (List.pairwise_cons.1 ha).2 (List.pairwise_cons.1 hb).2
          refine ⟨List.pairwise_cons.2 ⟨fun z hz => ?_, k1⟩, fun z => ?_⟩
          · rcases (k2 z).1 hz with q | q
            · exact hxa z q
            · exact eq_ltH he (hyb z q.1)
          · rw [List.mem_cons, k2 z, List.mem_cons (a := z) (b := x), List.mem_cons (a := z) (b := y)]
            constructor
            · rintro (rfl | q | q)
              · exact .inl (.inl rfl)
              · exact .inl (.inr q)
              · refine .inr ⟨.inr q.1, fun ⟨w, hw, hq⟩ => ?_⟩
                rcases List.mem_cons.1 hw with rfl | hw
                · exact lt_ne (eq_ltH he (hyb z q.1)) hq
                · exact q.2 ⟨w, hw, hq⟩
            · rintro ((rfl | q) | ⟨rfl | q, r⟩)
              · exact .inl rfl
              · exact .inr (.inl q)
              · exact absurd ⟨x, by simp, he⟩ r
              · exact .inr (.inr ⟨q, fun ⟨w, hw, hq⟩ => r ⟨w, List.mem_cons_of_mem _ hw, hq⟩⟩)
        · rw [if_neg h0]
          have hxy : ltH x y := ordH_neg.1 (by omega)
          obtain ⟨k1, k2⟩ := ih a (y :: b) (by simp only [List.length_cons]; omega) (List.pairwise_cons.1 ha).2 hb
          have hlow : ∀ z ∈ y :: b, ltH x z := fun z hz => by
            rcases List.mem_cons.1 hz with rfl | hz
            · exact hxy
            · exact ltH_trans hxy (hyb z hz)
          refine ⟨List.pairwise_cons.2 ⟨fun z hz => ?_, k1⟩, fun z => ?_⟩
          · rcases (k2 z).1 hz with q | q
            · exact hxa z q
            · exact hlow z q.1
          · rw [List.mem_cons, k2 z, List.mem_cons (a := z) (b := x)]
            constructor
            · rintro (rfl | q | q)
              · exact .inl (.inl rfl)
              · exact .inl (.inr q)
              · refine .inr ⟨q.1, fun ⟨w, hw, hq⟩ => ?_⟩
                rcases List.mem_cons.1 hw with rfl | hw
                · exact lt_ne (hlow z q.1) hq
                · exact q.2 ⟨w, hw, hq⟩
            · rintro ((rfl | q) | ⟨q, r⟩)
              · exact .inl rfl
              · exact .inr (.inl q)
              · exact .inr (.inr ⟨q, fun ⟨w, hw, hq⟩ => r ⟨w, List.mem_cons_of_mem _ hw, hq⟩⟩)
theorem zip_srt {a b : List g_api_Head} (ha : a.Pairwise ltH) (hb : b.Pairwise ltH) : (zipH a b).Pairwise ltH := (zip_spec _ a b (Nat.le_refl _) ha hb).1
theorem zip_mem {a b : List g_api_Head} (ha : a.Pairwise ltH) (hb : b.Pairwise ltH) (z : g_api_Head) : z ∈ zipH a b ↔ z ∈ a ∨ (z ∈ b ∧ ¬ hasH a z) := (zip_spec _ a b (Nat.le_refl _) ha hb).2 z
theorem zip_has {a b : List g_api_Head} (ha : a.Pairwise ltH) (hb : b.Pairwise ltH) (z : g_api_Head) : hasH (zipH a b) z ↔ hasH a z ∨ hasH b z := by
  constructor
  · rintro ⟨x, hx, he⟩
    rcases (zip_mem ha hb x).1 hx with q | q
    · exact .inl ⟨x, q, he⟩
    · exact .inr ⟨x, q.1, he⟩
  · rintro (⟨x, hx, he⟩ | ⟨x, hx, he⟩)
    · exact ⟨x, (zip_mem ha hb x).2 (.inl hx), he⟩
    · by_cases hq : hasH a x
      · obtain ⟨w, hw, hwe⟩ := hq
        exact ⟨w, (zip_mem ha hb w).2 (.inl hw), eqH_trans hwe he⟩
      · exact ⟨x, (zip_mem ha hb x).2 (.inr ⟨hx, hq⟩), he⟩
theorem zip_len : ∀ (n : Nat) (a b : List g_api_Head), a.length + b.length ≤ n → (zipH a b).length ≤ a.length + b.length := by
  intro n
  induction n with
  | zero =>
    intro a b h
    have h1 : a = [] := List.eq_nil_of_length_eq_zero (by omega)
    have h2 : b = [] := List.eq_nil_of_length_eq_zero (by omega)
    subst h1; subst h2
    rw [nil_zip]; simp
  | succ n ih =>
    intro a b h
    match a, b with
    | [], b => rw [nil_zip]; simp
    | x :: a, [] => rw [zip_nil]; simp
    | x :: a, y :: b =>
      simp only [List.length_cons] at h
      rw [zip_cons]
      split
      · have := ih (x :: a) b (by simp only [List.length_cons]; omega)
        simp only [List.length_cons] at *; omega
      · split
        · have := ih a b (by omega)
          simp only [List.length_cons] at *; omega
        · have := ih a (y :: b) (by simp only [List.length_cons]; omega)
          simp only [List.length_cons] at *; omega
theorem srt_ext : ∀ {l m : List g_api_Head}, l.Pairwise ltH → m.Pairwise ltH → (∀ z, z ∈ l ↔ z ∈ m) → l = m := by
  intro l
  induction l with
  | nil =>
    intro m _ _ h
    cases m with
    | nil => rfl
    | cons y m => exact absurd ((h y).2 (by simp)) (by simp)
  | cons x l ih =>
    intro m hl hm h
    cases m with
    | nil => exact absurd ((h x).1 (by simp)) (by simp)
    | cons y m =>
      have hxl := (List.pairwise_cons.1 hl).1
      have hym := (List.pairwise_cons.1 hm).1
      have hxy : x = y := by
        rcases List.mem_cons.1 ((h x).1 (by simp)) with q | q
        · exact q
        · rcases List.mem_cons.1 ((h y).2 (by simp)) with r | r
          · exact r.symm
          · exact absurd (ltH_trans (hym x q) (hxl y r)) (ltH_irrefl y)
      subst hxy
      congr 1
      refine ih (List.pairwise_cons.1 hl).2 (List.pairwise_cons.1 hm).2 fun z => ⟨fun hz => ?_, fun hz => ?_⟩
      · rcases List.mem_cons.1 ((h z).1 (List.mem_cons_of_mem _ hz)) with q | q
        · exact absurd (q ▸ hxl z hz) (ltH_irrefl _)
        · exact q
      · rcases List.mem_cons.1 ((h z).2 (List.mem_cons_of_mem _ hz)) with q | q
        · exact absurd (q ▸ hym z hz) (ltH_irrefl _)
        · exact q
def alikeH : List g_api_Head → List g_api_Head → Prop
  | [], [] => True
  | x :: a, y :: b => eqH x y ∧ alikeH a b
  | _, _ => False
theorem srt_alike : ∀ {l m : List g_api_Head}, l.Pairwise ltH → m.Pairwise ltH → (∀ z ∈ l, hasH m z) → (∀ z ∈ m, hasH l z) → alikeH l m := by
  intro l
  induction l with
  | nil =>
    intro m _ _ _ h
    cases m with
    | nil => trivial
    | cons y m => obtain ⟨w, hw, _⟩ := h y (by simp); cases hw
  | cons x l ih =>
    intro m hl hm h1 h2
    cases m with
    | nil => obtain ⟨w, hw, _⟩ := h1 x (by simp); cases hw
    | cons y m =>
      have hxl := (List.pairwise_cons.1 hl).1
      have hym := (List.pairwise_cons.1 hm).1
      have hxy : eqH x y := by
        obtain ⟨w, hw, he⟩ := h1 x (by simp)
        rcases List.mem_cons.1 hw with rfl | q
        · exact eqH_symm he
        · obtain ⟨v, hv, hf⟩ := h2 y (by simp)
          rcases List.mem_cons.1 hv with rfl | r
          · exact hf
          · exact absurd (ltH_trans (ltH_eq (hym w q) he) (ltH_eq (hxl v r) hf)) (ltH_irrefl y)
      refine ⟨hxy, ih (List.pairwise_cons.1 hl).2 (List.pairwise_cons.1 hm).2 (fun z hz => ?_) fun z hz => ?_⟩
      · obtain ⟨w, hw, he⟩ := h1 z (List.mem_cons_of_mem _ hz)
        rcases List.mem_cons.1 hw with rfl | q
        · exact absurd (eqH_trans hxy he) (fun hc => lt_ne (hxl z hz) hc)
        · exact ⟨w, q, he⟩
      · obtain ⟨w, hw, he⟩ := h2 z (List.mem_cons_of_mem _ hz)
        rcases List.mem_cons.1 hw with rfl | q
        · exact absurd (eqH_trans (eqH_symm hxy) he) (fun hc => lt_ne (hym z hz) hc)
        · exact ⟨w, q, he⟩
def withH : List g_api_Head → g_api_Head → List g_api_Head
  | [], h => [h]
  | x :: l, h => if ordH x h < 0 then x :: withH l h else h :: x :: l
instance eqH_dec (a b : g_api_Head) : Decidable (eqH a b) := by unfold eqH; infer_instance
def hasB (l : List g_api_Head) (z : g_api_Head) : Bool := l.any fun x => decide (eqH x z)
def defF (p : List g_api_Head) (out : List g_api_Head) (y : g_api_Head) : List g_api_Head := if hasB p y then out else withH out y
theorem zip_self {p : List g_api_Head} (hp : p.Pairwise ltH) : zipH p p = p :=
  srt_ext (zip_srt hp hp) hp fun z => by
    rw [zip_mem hp hp]
    exact ⟨fun h => h.elim id (fun q => q.1), .inl⟩
theorem zip_sub {p q : List g_api_Head} (hp : p.Pairwise ltH) (hq : q.Pairwise ltH) (h : ∀ z ∈ q, hasH p z) : zipH p q = p :=
  srt_ext (zip_srt hp hq) hp fun z => by
    rw [zip_mem hp hq]
    exact ⟨fun h' => h'.elim id (fun r => absurd (h z r.1) r.2), .inl⟩
theorem zip_assoc {p q r : List g_api_Head} (hp : p.Pairwise ltH) (hq : q.Pairwise ltH) (hr : r.Pairwise ltH) : zipH (zipH p q) r = zipH p (zipH q r) :=
  srt_ext (zip_srt (zip_srt hp hq) hr) (zip_srt hp (zip_srt hq hr)) fun z => by
    rw [zip_mem (zip_srt hp hq) hr, zip_mem hp hq, zip_mem hp (zip_srt hq hr), zip_mem hq hr, zip_has hp hq]
    constructor
    · rintro ((a | ⟨a, b⟩) | ⟨a, b⟩)
      · exact .inl a
      · exact .inr ⟨.inl a, b⟩
      · exact .inr ⟨.inr ⟨a, fun c => b (.inr c)⟩, fun c => b (.inl c)⟩
    · rintro (a | ⟨a | ⟨a, b⟩, c⟩)
      · exact .inl (.inl a)
      · exact .inl (.inr ⟨a, c⟩)
      · exact .inr ⟨a, fun d => d.elim c b⟩
theorem zip_comm {p q : List g_api_Head} (hp : p.Pairwise ltH) (hq : q.Pairwise ltH) : alikeH (zipH p q) (zipH q p) :=
  srt_alike (zip_srt hp hq) (zip_srt hq hp)
    (fun z hz => (zip_has hq hp z).2 (((zip_has hp hq z).1 (hasH_mem hz)).symm))
    (fun z hz => (zip_has hp hq z).2 (((zip_has hq hp z).1 (hasH_mem hz)).symm))
end Go.Proofs.YtgnklegamndglaaGreat
end
section
namespace Go.Proofs.YtgnklegamndglaaGreat
open Go Go.Gw
def unlB (a b : g_api_Head) : Bool := (a.Log == b.Log) && (a.Size == b.Size) && (a.Root != b.Root)
def forkL : List g_api_Head → Option (g_api_Head × g_api_Head)
  | [] => none
  | x :: l => match l.find? (unlB x) with
    | some y => some (x, y)
    | none => forkL l
def mrg (p q : List g_api_Head) : List g_api_Head := if (chB p && chB q) = true then zipH p q else []
theorem mrg_srt {p q : List g_api_Head} (hp : p.Pairwise ltH) (hq : q.Pairwise ltH) : mrg p q = zipH p q := by
  unfold mrg; rw [if_pos (by rw [(srt_iff p).2 hp, (srt_iff q).2 hq]; rfl)]
def okP (out : List (List g_api_Head)) (p : Int × Int) : Bool := !(p.1 == p.2) && decide (0 ≤ p.1) && decide (0 ≤ p.2) && decide (p.1 < out.length) && decide (p.2 < out.length)
def tellS (out : List (List g_api_Head)) (p : Int × Int) : List (List g_api_Head) :=
  if okP out p = true then (out.set p.1.toNat (mrg (out.getD p.1.toNat []) (out.getD p.2.toNat []))).set p.2.toNat (mrg (out.getD p.1.toNat []) (out.getD p.2.toNat [])) else out
def accH (l : List (List g_api_Head)) : Nat → List g_api_Head
  | 0 => l.getD 0 []
  | j + 1 => zipH (accH l j) (l.getD (j + 1) [])
def upP (n : Nat) : List (Int × Int) := (List.range (n - 1)).map fun (i : Nat) => ((i : Int), ((i + 1 : Nat) : Int))
def dnP (n : Nat) : List (Int × Int) := (List.range (n - 1)).map fun (i : Nat) => (((n - 1 - i : Nat) : Int), ((n - 2 - i : Nat) : Int))
end Go.Proofs.YtgnklegamndglaaGreat
end
section
namespace Go.Proofs.YtgnklegamndglaaGreat
open Go Go.Gw
theorem appL {α : Type} {b : Nat} {xs ys : List α} (h : xs.length + ys.length ≤ 2199023255552) (hb : b ≤ 56) : app b xs ys = some (xs ++ ys) := by
  unfold app
  have : (xs.length + ys.length) * b ≤ 2199023255552 * 56 := Nat.mul_le_mul h hb
  rw [if_pos ⟨by omega, by omega⟩]
theorem cutL {α : Type} {xs : List α} {lo hi : Nat} (h1 : lo ≤ hi) (h2 : hi ≤ xs.length) : cut xs (lo : Int) (hi : Int) = some ((xs.drop lo).take (hi - lo)) := by
  unfold cut; rw [if_pos ⟨by omega, by omega, by omega⟩]; simp
theorem cut_tl {α : Type} (x : α) (xs : List α) : cut (x :: xs) 1 (((x :: xs).length : Nat) : Int) = some xs := by
  have := cutL (xs := x :: xs) (lo := 1) (hi := (x :: xs).length) (by simp) (Nat.le_refl _)
  rw [show ((1 : Nat) : Int) = 1 from rfl] at this
  rw [this]; simp
theorem idx_hd {α : Type} (x : α) (xs : List α) : idx (x :: xs) 0 = some x := rfl
theorem iter_rng {τ : Type} {step : Int → Option (Int ⊕ (Unit ⊕ τ))} {good : Nat → Bool} {bad : τ} {len : Nat} (hn : len ≤ 1099511627776) (hs : ∀ i, i < len → step (i : Int) = some (if good i = true then .inl (w64 ((i : Int) + 1)) else .inr (.inr bad))) (he : step (len : Int) = some (.inr (.inl ()))) :
    ∀ (k i n : Nat), i + k = len → k < n → iter step n (i : Int) = some (if (List.range' i k).all good = true then .inl () else .inr bad) := by
  intro k
  induction k with
  | zero =>
    intro i n hi hn'
    obtain ⟨n, rfl⟩ : ∃ q, n = q + 1 := ⟨n - 1, by omega⟩
    have : i = len := by omega
    subst this
    simp only [iter, he, obind_some']
    rfl
  | succ k ih =>
    intro i n hi hn'
    obtain ⟨n, rfl⟩ : ∃ q, n = q + 1 := ⟨n - 1, by omega⟩
    have h := hs i (by omega)
    rw [w64_suc (show i < len by omega) hn] at h
    rw [List.range'_succ, List.all_cons]
    cases hg : good i
    · rw [hg] at h
      simp only [iter, h, obind_some', Bool.false_and]
      rfl
    · rw [hg] at h
      simp only [iter, h, obind_some', Bool.true_and, if_pos]
      exact ih (i + 1) n (by omega) (by omega)
theorem iter_all {τ : Type} {step : Int → Option (Int ⊕ (Unit ⊕ τ))} {good : Nat → Bool} {bad : τ} (len : Nat) (hn : len ≤ 1099511627776) (hs : ∀ i, i < len → step (i : Int) = some (if good i = true then .inl (w64 ((i : Int) + 1)) else .inr (.inr bad))) (he : step (len : Int) = some (.inr (.inl ()))) :
    iter step FUEL 0 = some (if (List.range len).all good = true then .inl () else .inr bad) := by
  have := iter_rng hn hs he len 0 FUEL (by omega) (by unfold FUEL; omega)
  rw [List.range_eq_range']
  exact this
theorem rng_all {α : Type} {l : List α} {p : α → Bool} {good : Nat → Bool} (h : ∀ i (hi : i < l.length), good i = p l[i]) : (List.range l.length).all good = l.all p := by
  rw [Bool.eq_iff_iff, List.all_eq_true, List.all_eq_true]
  constructor
  · intro k x hx
    obtain ⟨i, hi, he⟩ := List.mem_iff_getElem.1 hx
    rw [← he, ← h i hi]; exact k i (List.mem_range.2 hi)
  · intro k i hi
    have hi := List.mem_range.1 hi
    rw [h i hi]; exact k _ (List.getElem_mem hi)
theorem iter_list {α τ : Type} {step : Int → Option (Int ⊕ (Unit ⊕ τ))} (l : List α) (p : α → Bool) {bad : τ} (hn : l.length ≤ 1099511627776) (hs : ∀ i (hi : i < l.length), step (i : Int) = some (if p l[i] = true then .inl (w64 ((i : Int) + 1)) else .inr (.inr bad))) (he : step (l.length : Int) = some (.inr (.inl ()))) :
    iter step FUEL 0 = some (if l.all p = true then .inl () else .inr bad) := by
  have h2 := rng_all (l := l) (p := p) (good := fun i => if h : i < l.length then p l[i] else true) (fun i hi => by simp [hi])
  rw [← h2]
  refine iter_all l.length hn (fun i hi => ?_) he
  rw [hs i hi]
  simp [hi]
theorem zip_it : ∀ (n : Nat) (a b out : List g_api_Head) (m : Nat), a.length + b.length ≤ n → n < m → out.length + a.length + b.length ≤ 2199023255552 →
    ∃ a' b' o', iter m_gossip_zip_gossip_head_50x_b1 m (a, b, out) = some (a', b', o') ∧ o' ++ a' ++ b' = out ++ zipH a b ∧ o'.length + a'.length + b'.length ≤ 2199023255552 := by
  intro n
  induction n with
  | zero =>
    intro a b out m h hm hl
    have h1 : a = [] := List.eq_nil_of_length_eq_zero (by omega)
    have h2 : b = [] := List.eq_nil_of_length_eq_zero (by omega)
    subst h1; subst h2
    obtain ⟨m, rfl⟩ : ∃ q, m = q + 1 := ⟨m - 1, by omega⟩
    exact ⟨[], [], out, rfl, by rw [nil_zip]; simp, by simpa using hl⟩
  | succ n ih =>
    intro a b out m h hm hl
    obtain ⟨m, rfl⟩ : ∃ q, m = q + 1 := ⟨m - 1, by omega⟩
    match a, b with
    | [], b => exact ⟨[], b, out, rfl, by rw [nil_zip]; simp, hl⟩
    | x :: a, [] =>
      refine ⟨x :: a, [], out, ?_, by rw [zip_nil]; simp, hl⟩
      have : m_gossip_zip_gossip_head_50x_b1 (x :: a, [], out) = some (.inr (x :: a, [], out)) := by
        unfold m_gossip_zip_gossip_head_50x_b1; rw [if_neg (by simp)]
      simp only [iter, this, obind_some']
    | x :: a, y :: b =>
      simp only [List.length_cons] at h hl
      have ha1 : ∀ z : g_api_Head, app 56 out [z] = some (out ++ [z]) := fun z => appL (by simp only [List.length_cons, List.length_nil]; omega) (by decide)
      have hs : m_gossip_zip_gossip_head_50x_b1 (x :: a, y :: b, out) = some (.inl (if 0 < ordH x y then (x :: a, b, out ++ [y]) else if ordH x y = 0 then (a, b, out ++ [x]) else (a, y :: b, out ++ [x]))) := by
        unfold m_gossip_zip_gossip_head_50x_b1
        rw [if_pos (by simp)]
        simp only [idx_hd, obind_some', against_eq, ha1, cut_tl]
        by_cases c1 : 0 < ordH x y
        · simp [c1]
        · by_cases c2 : ordH x y = 0 <;> simp [c1, c2]
      rw [zip_cons]
      simp only [iter, hs, obind_some']
      by_cases c1 : 0 < ordH x y
      · simp only [if_pos c1]
        obtain ⟨a', b', o', k1, k2, k3⟩ := ih (x :: a) b (out ++ [y]) m (by simp only [List.length_cons]; omega) (by omega) (by simp only [List.length_append, List.length_cons, List.length_nil]; omega)
        exact ⟨a', b', o', k1, by rw [k2]; simp, k3⟩
      · by_cases c2 : ordH x y = 0
        · simp only [if_neg c1, if_pos c2]
          obtain ⟨a', b', o', k1, k2, k3⟩ := ih a b (out ++ [x]) m (by omega) (by omega) (by simp only [List.length_append, List.length_cons, List.length_nil]; omega)
          exact ⟨a', b', o', k1, by rw [k2]; simp, k3⟩
        · simp only [if_neg c1, if_neg c2]
          obtain ⟨a', b', o', k1, k2, k3⟩ := ih a (y :: b) (out ++ [x]) m (by simp only [List.length_cons]; omega) (by omega) (by simp only [List.length_append, List.length_cons, List.length_nil]; omega)
          exact ⟨a', b', o', k1, by rw [k2]; simp, k3⟩
theorem zip_eq {a b : List g_api_Head} (h : a.length + b.length ≤ 2199023255552) : m_gossip_zip_gossip_head_50x a b = some (zipH a b) := by
  obtain ⟨a', b', o', k1, k2, k3⟩ := zip_it (a.length + b.length) a b [] FUEL (Nat.le_refl _) (by unfold FUEL; omega) (by simpa using h)
  unfold m_gossip_zip_gossip_head_50x
  rw [k1]
  simp only [obind_some']
  rw [appL (by omega) (by decide), obind_some', appL (by rw [List.length_append]; omega) (by decide), obind_some', k2, List.nil_append]
theorem as_it : ∀ (l out : List g_api_Head) (i : Int), out.length + l.length ≤ 2199023255552 → each0 m_gossip_as_api_Head_gossip_head_47x_b1 l i out = some (out ++ l)
  | [], out, i, _ => by simp [each0]
  | x :: l, out, i, h => by
    simp only [List.length_cons] at h
    simp only [each0, m_gossip_as_api_Head_gossip_head_47x_b1, m_gossip_Merge_1, obind_some']
    rw [appL (by simp only [List.length_cons, List.length_nil]; omega) (by decide), obind_some', obind_some', as_it l _ _ (by simp only [List.length_append, List.length_cons, List.length_nil]; omega)]
    simp
theorem as_eq {l : List g_api_Head} (h : l.length ≤ 2199023255552) : m_gossip_as_api_Head_gossip_head_47x l = some l := by
  unfold m_gossip_as_api_Head_gossip_head_47x
  rw [as_it l [] 0 (by simpa using h)]; rfl
theorem as2_it : ∀ (l out : List g_api_Head) (i : Int), out.length + l.length ≤ 2199023255552 → each0 m_gossip_as_gossip_head_api_Head_52x_b1 l i out = some (out ++ l)
  | [], out, i, _ => by simp [each0]
  | x :: l, out, i, h => by
    simp only [List.length_cons] at h
    simp only [each0, m_gossip_as_gossip_head_api_Head_52x_b1, m_gossip_Merge_2, obind_some']
    rw [appL (by simp only [List.length_cons, List.length_nil]; omega) (by decide), obind_some', obind_some', as2_it l _ _ (by simp only [List.length_append, List.length_cons, List.length_nil]; omega)]
    simp
theorem as2_eq {l : List g_api_Head} (h : l.length ≤ 2199023255552) : m_gossip_as_gossip_head_api_Head_52x l = some l := by
  unfold m_gossip_as_gossip_head_api_Head_52x
  rw [as2_it l [] 0 (by simpa using h)]; rfl
theorem merge_eq {p q : g_api_Pool} (hp : p.L.length ≤ 1099511627776) (hq : q.L.length ≤ 1099511627776) : m_gossip_Merge p q = some ⟨mrg p.L q.L⟩ := by
  unfold m_gossip_Merge mrg
  rw [ordered_eq hp, obind_some', ordered_eq hq]
  cases chB p.L
  · simp [gu, obind]
  · cases chB q.L
    · simp [gu, obind]
    · have := zip_len _ p.L q.L (Nat.le_refl _)
      simp only [gu, Bool.not_true, Bool.not_false, cond_true, obind_some', Bool.or_self, Bool.false_eq_true, if_false, Bool.and_self, if_true]
      rw [as_eq (by omega), obind_some', as_eq (by omega), obind_some', zip_eq (by omega), obind_some', as2_eq (by omega), obind_some']
theorem eqSum_iff (a b : UInt64 × UInt64) : eqSum a b = true ↔ (a.1.toNat : Int) = (b.1.toNat : Int) ∧ (a.2.toNat : Int) = (b.2.toNat : Int) := by
  have h : eqSum a b = true ↔ a.1 = b.1 ∧ a.2 = b.2 := by unfold eqSum; simp
  rw [h]
  constructor
  · rintro ⟨h1, h2⟩; rw [h1, h2]; exact ⟨rfl, rfl⟩
  · rintro ⟨h1, h2⟩
    exact ⟨UInt64.toNat_inj.1 (by omega), UInt64.toNat_inj.1 (by omega)⟩
def cntH (h : g_api_Head) : List g_api_Head → Nat
  | [] => 0
  | x :: l => if ordH x h < 0 then cntH h l + 1 else 0
theorem eqHead_self (h : g_api_Head) : eq_api_Head h h = true := by simp [eq_api_Head, eq_api_Sig, eqSum]
theorem same_self (p : g_api_Pool) (hn : p.L.length ≤ 1099511627776) : m_ref28_Same p p = some true := by
  unfold m_ref28_Same
  have hit := iter_list (step := m_ref28_Same_b3 p p) p.L (fun _ => true) (bad := false) hn (fun i hi => ?_) ?_
  · rw [if_neg (by simp), hit, obind_some']
    rw [show (p.L.all fun _ => true) = true from List.all_eq_true.2 fun _ _ => rfl]; rfl
  · unfold m_ref28_Same_b3
    rw [if_pos (by simpa using hi), idx_at hi, obind_some', obind_some', eqHead_self]; rfl
  · unfold m_ref28_Same_b3; rw [if_neg (by simp)]
end Go.Proofs.YtgnklegamndglaaGreat
end
section
namespace Go.Proofs.YtgnklegamndglaaGreat
open Go Go.Gw
def fnd {α : Type} (p : α → Bool) : List α → Nat → Option (Nat × α)
  | [], _ => none
  | x :: xs, i => if p x = true then some (i, x) else fnd p xs (i + 1)
abbrev T9 : Type := Bool × Int × Int × Int × UInt64 × UInt64 × Int × UInt64 × UInt64
def pk9 (p : Bool × g_api_Head) (i : Int) : T9 := (p.1, i, p.2.Log, p.2.Size, p.2.Root.1, p.2.Root.2, p.2.At, p.2.Sig.E, p.2.Sig.S)
def pk7 (h : g_api_Head) : Int × Int × UInt64 × UInt64 × Int × UInt64 × UInt64 := (h.Log, h.Size, h.Root.1, h.Root.2, h.At, h.Sig.E, h.Sig.S)
def forkV (l : List g_api_Head) : g_api_Head × g_api_Head × Bool := match forkL l with
  | some p => (p.1, p.2, true)
  | none => (noHead, noHead, false)
end Go.Proofs.YtgnklegamndglaaGreat
end
section
namespace Go.Proofs.YtgnklegamndglaaGreat
open Go Go.Gw
def mkP (o : List (List g_api_Head)) : List g_api_Pool := o.map fun l => (⟨l⟩ : g_api_Pool)
def unP (l : List g_api_Pool) : List (List g_api_Head) := l.map (·.L)
theorem lawOrd_eq {l : List g_api_Pool} (hl : l.length ≤ 1000000) (h : ∀ p ∈ l, p.L.length ≤ 1099511627776) : m_law28_ordered l = some (l.all fun p => chB p.L) := by
  unfold m_law28_ordered
  have hit := iter_list (step := m_law28_ordered_b1 l) l (fun p => chB p.L) (bad := false) (by omega) (fun i hi => ?_) ?_
  · rw [hit, obind_some']
    cases l.all fun p => chB p.L <;> rfl
  · unfold m_law28_ordered_b1
    rw [if_pos (by simpa using hi), idx_at hi, obind_some', inOrder_eq (h _ (List.getElem_mem hi)), obind_some']
    cases chB l[i].L <;> rfl
  · unfold m_law28_ordered_b1; rw [if_neg (by simp)]
end Go.Proofs.YtgnklegamndglaaGreat
end
section
namespace Go.Proofs.YtgnklegamndglaaGreat
open Go Go.Gw
theorem alike_at : ∀ {l m : List g_api_Head}, alikeH l m → l.length = m.length ∧ ∀ i (h : i < l.length) (h' : i < m.length), eqH l[i] m[i]
  | [], [], _ => ⟨rfl, fun i h => by simp at h⟩
  | x :: l, y :: m, h => by
    obtain ⟨h1, h2⟩ := alike_at h.2
    refine ⟨by simp [h1], fun i hi hi' => ?_⟩
    cases i with
    | zero => exact h.1
    | succ i => exact h2 i (by simpa using hi) (by simpa using hi')
  | [], _ :: _, h => h.elim
  | _ :: _, [], h => h.elim
theorem alike_true {p q : g_api_Pool} (hn : p.L.length ≤ 1099511627776) (h : alikeH p.L q.L) : m_law28_alike p q = some true := by
  obtain ⟨h1, h2⟩ := alike_at h
  have hit := iter_list (step := m_law28_alike_b3 p q) p.L (fun _ => true) (bad := false) hn (fun i hi => ?_) ?_
  · unfold m_law28_alike
    rw [if_neg (by simp [h1]), hit, obind_some', show (p.L.all fun _ => true) = true from List.all_eq_true.2 fun _ _ => rfl]; rfl
  · have hi' : i < q.L.length := by omega
    unfold m_law28_alike_b3
    rw [if_pos (by simpa using hi), idx_at hi, obind_some', idx_at hi', obind_some', obind_some']
    have he := h2 i hi hi'
    unfold eqH at he
    have : eq_api_Head (⟨p.L[i].Log, p.L[i].Size, p.L[i].Root, p.L[i].At, q.L[i].Sig⟩ : g_api_Head) q.L[i] = true := by
      have hr : eqSum p.L[i].Root q.L[i].Root = true := (eqSum_iff _ _).2 he.2.2.1
      simp [eq_api_Head, eq_api_Sig, he.1, he.2.1, he.2.2.2, hr]
    rw [this]; rfl
  · unfold m_law28_alike_b3; rw [if_neg (by simp)]
theorem merges_true (a0 a1 a2 : g_api_Pool) : m_law28_GossipMerges a0 a1 a2 = some true := by
  unfold m_law28_GossipMerges
  rw [live28_true, obind_some', if_neg (by decide)]
  by_cases hl : a0.L.length ≤ 20 ∧ a1.L.length ≤ 20 ∧ a2.L.length ≤ 20
  · obtain ⟨l0, l1, l2⟩ := hl
    have hd : (((decide ((a0.L.length : Int) > 20)) || (decide ((a1.L.length : Int) > 20))) || (decide ((a2.L.length : Int) > 20))) = false := by simp; omega
    rw [hd, lawOrd_eq (by simp) (by intro p hp; simp only [List.mem_cons, List.not_mem_nil, or_false] at hp; rcases hp with rfl | rfl | rfl <;> omega)]
    simp only [gu, Bool.not_false, cond_true, obind_some', Bool.false_or, List.all_cons, List.all_nil, Bool.and_true]
    cases c0 : chB a0.L
    · simp only [Bool.false_and, Bool.not_false, if_true]
    cases c1 : chB a1.L
    · simp only [Bool.false_and, Bool.and_false, Bool.not_false, if_true]
    cases c2 : chB a2.L
    · simp only [Bool.false_and, Bool.and_false, Bool.not_false, if_true]
    have s0 := (srt_iff _).1 c0
    have s1 := (srt_iff _).1 c1
    have s2 := (srt_iff _).1 c2
    have k01 := zip_len _ a0.L a1.L (Nat.le_refl _)
    have k10 := zip_len _ a1.L a0.L (Nat.le_refl _)
    have k12 := zip_len _ a1.L a2.L (Nat.le_refl _)
    have k012 := zip_len _ (zipH a0.L a1.L) a2.L (Nat.le_refl _)
    have e1 : zipH a0.L (zipH a1.L a2.L) = zipH (zipH a0.L a1.L) a2.L := (zip_assoc s0 s1 s2).symm
    have e2 : zipH (zipH a0.L a1.L) a1.L = zipH a0.L a1.L := zip_sub (zip_srt s0 s1) s1 fun z hz => (zip_has s0 s1 z).2 (.inr (hasH_mem hz))
    simp only [Bool.and_self, Bool.not_true, Bool.false_eq_true, if_false]
    rw [merge_eq (by omega) (by omega), mrg_srt s0 s1, obind_some', merge_eq (by dsimp only; omega) (by omega), mrg_srt (zip_srt s0 s1) s2, obind_some', merge_eq (by omega) (by omega), mrg_srt s1 s2, obind_some', merge_eq (by omega) (by dsimp only; omega), mrg_srt s0 (zip_srt s1 s2), obind_some', merge_eq (by omega) (by omega), mrg_srt s0 s0, zip_self s0, obind_some', e1]
    rw [show (⟨a0.L⟩ : g_api_Pool) = a0 from rfl, same_self _ (by omega), obind_some']
    simp only [cond_true]
    rw [same_self _ (by dsimp only; omega), obind_some']
    simp only [Bool.and_self, cond_true]
    rw [merge_eq (by dsimp only; omega) (by omega), mrg_srt (zip_srt s0 s1) s1, e2, obind_some', same_self _ (by dsimp only; omega), obind_some']
    simp only [Bool.and_self, cond_true]
    rw [merge_eq (by omega) (by omega), mrg_srt s1 s0, obind_some', alike_true (by dsimp only; omega) (zip_comm s0 s1), obind_some']
    rfl
  · have hd : (((decide ((a0.L.length : Int) > 20)) || (decide ((a1.L.length : Int) > 20))) || (decide ((a2.L.length : Int) > 20))) = true := by
      simp only [Bool.or_eq_true, decide_eq_true_eq]; omega
    rw [hd]
    simp only [gu, Bool.not_true, cond_false, obind_some', Bool.true_or, if_true]
end Go.Proofs.YtgnklegamndglaaGreat
end
section
namespace Go.Proofs.YtgnklegamndglaaGreat.lawGossipMerges
open Go Go.Gw Go.ChangeShapes Go.WideShapes Go.ChangeAt Go.RowKit
theorem own : ownKnob Tryz.prog.godebug = none := by kernel_rfl
theorem rd3 : Rd Tryz.prog 3 (Int) := Rd.int Tryz.underlying3
theorem rd25 : Rd Tryz.prog 25 (UInt64) := Rd.u64 Tryz.underlying25
theorem rd27 : Rd Tryz.prog 27 (UInt64 × UInt64) := Rd.arr2 Tryz.underlying27 rd25 (by kernel_rfl) (by kernel_rfl)
theorem rd29 : Rd Tryz.prog 29 (g_api_Sig) := Rd.struct Tryz.underlying29 (RdFs.more rfl rd25 (by kernel_rfl) (RdFs.last rfl rd25 (by kernel_rfl))) (by kernel_rfl) (fun b => ⟨b.1, b.2⟩) (fun h => h)
theorem rd31 : Rd Tryz.prog 31 (g_api_Head) := Rd.struct Tryz.underlying31 (RdFs.more rfl rd3 (by kernel_rfl) (RdFs.more rfl rd3 (by kernel_rfl) (RdFs.more rfl rd27 (by kernel_rfl) (RdFs.more rfl rd3 (by kernel_rfl) (RdFs.last rfl rd29 (by kernel_rfl)))))) (by kernel_rfl) (fun b => ⟨b.1, b.2.1, b.2.2.1, b.2.2.2.1, b.2.2.2.2⟩) (fun h => h)
theorem rd22 : Rd Tryz.prog 22 (List g_api_Head) := Rd.slice Tryz.underlying22 rd31 (by kernel_rfl) (by decide)
theorem rd24 : Rd Tryz.prog 24 (g_api_Pool) := Rd.struct Tryz.underlying24 (RdFs.last rfl rd22 (by kernel_rfl)) (by kernel_rfl) (fun b => ⟨b⟩) (fun h => h)
theorem rp_g_api_Pool {m : Mem} {cs : List Value} {x : g_api_Pool} (h : GoT.rep m cs x) : ∃ v1, cs = [v1] ∧ SlR m v1 x.L := by
  obtain ⟨v1, rfl, h1⟩ := h
  exact ⟨v1, rfl, h1⟩
theorem contract (H : Type) (enc : TypeId × Value → H) (W : World) (base : Nat) (args : Array Value) (ds gs : List (DataW H)) (before : List MemPlace)
    (hval : ∀ (j : Nat) t v, Tryz.f8.params[j]? = some t → args[j]? = some v → Value.okWide Tryz.prog W .any base t v)
    (hW : DataW.Whole enc Tryz.prog Tryz.f8.params.toList Rows.gossipMergesSpec.vars false W args.toList ds gs before) (hL : laidMetH Tryz.prog Rows.gossipMergesRow.laid W) :
    Calls Tryz.prog 8 args W fun e W' => ∃ v, e = .returned v ∧ Rows.gossipMergesSpec.post enc Tryz.prog Tryz.f8 false true false false W args v W' := by
  have hW' := hW
  obtain ⟨p, q, hA0, hV, rfl, hfz, hnd⟩ := hW
  obtain ⟨rfl, rfl⟩ := trodVars_none hV
  rw [List.append_nil] at hW'
  have hA : DataW.TrodAll enc Tryz.prog W 0 (fun _ => true) true Tryz.f8.params.toList args.toList ds p := hA0
  have hA1 := hA
  have hpl : Tryz.f8.params.toList = [24, 24, 24] := by rw [Tryz.params8]
  rw [hpl] at hA1
  obtain ⟨v0, w0, d0, e0, p0, q0, ha0, he0, hp0, h0, r0⟩ := trodAll_cons hA1
  obtain ⟨v1, w1, d1, e1, p1, q1, ha1, he1, hp1, h1, r1⟩ := trodAll_cons r0
  obtain ⟨v2, w2, d2, e2, p2, q2, ha2, he2, hp2, h2, r2⟩ := trodAll_cons r1
  obtain ⟨z1, z2, z3⟩ := trodAll_nil r2
  obtain rfl : args = #[v0, v1, v2] := by
    apply Array.ext'; rw [ha0, ha1, ha2, z1]
  obtain rfl : ds = [d0, d1, d2] := by rw [he0, he1, he2, z2]
  rw [Tryz.params8] at hval
  obtain ⟨c0, rfl, _⟩ := okWide_struct Tryz.underlying24 (hval 0 24 v0 rfl rfl)
  obtain ⟨a0, s0⟩ := rd24.openA h0
  obtain ⟨z0_0, o0, y0_0⟩ := rp_g_api_Pool s0
  obtain rfl := arr_of o0
  obtain ⟨c1, rfl, _⟩ := okWide_struct Tryz.underlying24 (hval 1 24 v1 rfl rfl)
  obtain ⟨a1, s1⟩ := rd24.openA h1
  obtain ⟨z1_0, o1, y1_0⟩ := rp_g_api_Pool s1
  obtain rfl := arr_of o1
  obtain ⟨c2, rfl, _⟩ := okWide_struct Tryz.underlying24 (hval 2 24 v2 rfl rfl)
  obtain ⟨a2, s2⟩ := rd24.openA h2
  obtain ⟨z2_0, o2, y2_0⟩ := rp_g_api_Pool s2
  obtain rfl := arr_of o2
  have hc := v_law28_GossipMerges (St.of W) y0_0 y1_0 y2_0 (merges_true a0 a1 a2)
  refine Calls.mono hc ?_
  rintro e W' ⟨v, rfl, hk, M, hle, S, rfl⟩
  refine ⟨.bool true, rfl, post_true (tb := 4) (by kernel_rfl) (by kernel_rfl) rfl (by kernel_rfl) Tryz.underlying4 hW' hA rfl rfl rfl hle S hk⟩
noncomputable def laidWorld (os : Os) : World :=
  { World.holding Tryz.prog os ⟨#[], #[], []⟩ with heap := (World.holding Tryz.prog os ⟨#[], #[], []⟩).heap }
theorem laid_met (os : Os) : laidMet Tryz.prog Rows.gossipMergesRow.laid ((laidWorld os).forCall (fun _ _ => 0) ⟨#[], #[(.agg #[.slice none 0 0] : Value), (.agg #[.slice none 0 0] : Value), (.agg #[.slice none 0 0] : Value)], []⟩).memory :=
  laidMet_of_run' 8 (by kernel_rfl) (by kernel_rfl)
theorem reads (os : Os) {H : Type} (enc : TypeId × Value → H) : ∃ places, DataW.whole enc Tryz.prog ((laidWorld os).forCall (fun _ _ => 0) ⟨#[], #[(.agg #[.slice none 0 0] : Value), (.agg #[.slice none 0 0] : Value), (.agg #[.slice none 0 0] : Value)], []⟩).memory Tryz.f8.params.toList Rows.gossipMergesSpec.vars false #[(.agg #[.slice none 0 0] : Value), (.agg #[.slice none 0 0] : Value), (.agg #[.slice none 0 0] : Value)].toList 8 = some ([.agg [.nil], .agg [.nil], .agg [.nil]], [], places) :=
  ⟨[], by kernel_rfl⟩
theorem lifted (os : Os) (started : os.Started) (H : Type) (enc : TypeId × Value → H) (F : Stop.Interp) :
    ReturnsInHanded {} Tryz.checked os 8 .any ((OpenSpec.ofChange Rows.gossipMergesSpec).preRow enc Tryz.prog Tryz.f8 Rows.gossipMergesRow.domain false Rows.gossipMergesRow.laid) (((OpenSpec.ofChange Rows.gossipMergesSpec).at F).post enc Tryz.prog Tryz.f8 false true false false) := by
  obtain ⟨places, hx⟩ := reads os enc
  refine returnsInHanded_of_row (C := Tryz.checked) (s := OpenSpec.ofChange Rows.gossipMergesSpec) own started (by kernel_rfl) Tryz.func8
    (witness_row_at (enc := enc) (C := Tryz.checked) false (laidWorld os) #[(.agg #[.slice none 0 0] : Value), (.agg #[.slice none 0 0] : Value), (.agg #[.slice none 0 0] : Value)] rfl (by kernel_rfl) (by kernel_rfl) (by kernel_rfl)
      (OpenSpec.preRow_of_cond 8 hx (by kernel_rfl) (fun k hk => by cases hk) (by kernel_rfl) (laid_met os))) ?_
  intro W base args ds gs before hval hW _ _ _ hL _ _
  exact contract H enc W base args ds gs before hval hW hL
theorem said : Rows.GossipMergesSaid :=
  OpenClaim.holds_of_cond 8 Tryz.f8 rfl rfl rfl rfl rfl rfl rfl ⟨rfl, rfl, rfl, rfl, rfl⟩ rfl rfl rfl rfl rfl (by kernel_rfl) Tryz.func8 (by kernel_rfl)
    (of_decide_eq_true (by kernel_rfl)) (by unfold Func.isWrapper; first | (rw [if_pos (by decide +kernel)]; kernel_rfl) | (rw [if_neg (by decide +kernel)]; exact ⟨rfl, rfl⟩))
    (fun os started H enc _ F => by rw [OpenClaim.pre_eq_preRow]; exact lifted os started H enc F)
end Go.Proofs.YtgnklegamndglaaGreat.lawGossipMerges
end
