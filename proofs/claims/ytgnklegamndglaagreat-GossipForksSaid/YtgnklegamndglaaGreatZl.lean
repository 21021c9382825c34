/- Several texts, one behind the other. Conditions: none. -/
import Derived.Test.YtgnklegamndglaaGreatZh
import Derived.Test.YtgnklegamndglaaGreatZi
import Derived.Test.YtgnklegamndglaaGreatZj
import Derived.KernelRfl
import Derived.Test.YtgnklegamndglaaGreatZb
import Derived.Test.YtgnklegamndglaaGreatZk
import Derived.Test.YtgnklegamndglaaGreatRows
import Derived.WalkKit
import Derived.ProofKit
import Derived.OpenShut
import Derived.Deep.DeepHandedRow
import Derived.Lib.LaidTab
import Derived.SevenTiedAt
import Derived.Stop.LaidErr
set_option linter.unusedSimpArgs false
set_option linter.unusedVariables false
set_option maxHeartbeats 20000000
set_option maxRecDepth 100000
section
namespace Go.Proofs.YtgnklegamndglaaGreat
open Go Go.Gw
def sgn (a b : Int) : Int := if a < b then -1 else if b < a then 1 else 0
theorem cmp_int_eq (a b : Int) : m_cmp_Compare_int a b = some (sgn a b) := by
  unfold m_cmp_Compare_int m_cmp_isNaN_int sgn
  by_cases h1 : a < b
  · simp [obind, bnd, h1]
  · by_cases h2 : b < a
    · simp [obind, bnd, h1, h2]
    · simp [obind, bnd, h1, h2]
end Go.Proofs.YtgnklegamndglaaGreat
end
section
namespace Go.Proofs.YtgnklegamndglaaGreat
open Go Go.Gw
abbrev S8 : Type := Bool × Int × Int × UInt64 × UInt64 × Int × UInt64 × UInt64
def pk8 (p : Bool × g_api_Head) : S8 := (p.1, p.2.Log, p.2.Size, p.2.Root.1, p.2.Root.2, p.2.At, p.2.Sig.E, p.2.Sig.S)
def lateB (x h : g_api_Head) : Bool := decide ((if sgn x.Size h.Size = 0 then sgn x.At h.At else sgn x.Size h.Size) ≥ 0)
def lastF (a : Int) (p : Bool × g_api_Head) (x : g_api_Head) : Bool × g_api_Head := bif (x.Log == a) && (!p.1 || lateB x p.2) then (true, x) else p
def noHead : g_api_Head := ⟨0, 0, (0, 0), 0, (⟨0, 0⟩ : g_api_Sig)⟩
def lastV (l : List g_api_Head) (a : Int) : Bool × g_api_Head := l.foldl (lastF a) (false, noHead)
def later (x h : g_api_Head) : Prop := h.Size < x.Size ∨ (h.Size = x.Size ∧ h.At < x.At)
end Go.Proofs.YtgnklegamndglaaGreat
end
section
namespace Go.Proofs.YtgnklegamndglaaGreat
open Go Go.Gw
def fst0 (a b : Int) : Int := if a = 0 then b else a
theorem row4_eq (a b c d : Int) : m_gossip_row [a, b, c, d] = some (fst0 a (fst0 b (fst0 c d))) := by
  unfold m_gossip_row m_cmp_Or_int fst0
  by_cases h1 : a = 0
  · by_cases h2 : b = 0
    · by_cases h3 : c = 0
      · by_cases h4 : d = 0 <;> simp [eachR, m_cmp_Or_int_b1, obind, h1, h2, h3, h4]
      · simp [eachR, m_cmp_Or_int_b1, obind, h1, h2, h3]
    · simp [eachR, m_cmp_Or_int_b1, obind, h1, h2]
  · simp [eachR, m_cmp_Or_int_b1, obind, h1]
theorem cmp_u_eq (a b : UInt64) : m_cmp_Compare_uint64 a b = some (sgn (a.toNat : Int) (b.toNat : Int)) := by
  unfold m_cmp_Compare_uint64 m_cmp_isNaN_uint64 sgn
  by_cases h1 : (a.toNat : Int) < (b.toNat : Int)
  · simp only [obind, bnd, bne_self_eq_false, Bool.false_eq_true, if_false, h1, decide_true, if_true]
  · by_cases h2 : (b.toNat : Int) < (a.toNat : Int)
    · simp only [obind, bnd, bne_self_eq_false, Bool.false_eq_true, if_false, h1, h2, decide_true, decide_false, gt_iff_lt, if_true]
    · simp only [obind, bnd, bne_self_eq_false, Bool.false_eq_true, if_false, h1, h2, decide_true, decide_false, gt_iff_lt, if_true]
theorem cmp_sum_eq (a b c d : UInt64) : m_slices_Compare_uint64_uint64 [a, b] [c, d] = some (fst0 (sgn (a.toNat : Int) (c.toNat : Int)) (sgn (b.toNat : Int) (d.toNat : Int))) := by
  have i0 : idx [a, b] (0 : Int) = some a := rfl
  have i1 : idx [a, b] (1 : Int) = some b := rfl
  have j0 : idx [c, d] (0 : Int) = some c := rfl
  have j1 : idx [c, d] (1 : Int) = some d := rfl
  unfold m_slices_Compare_uint64_uint64 fst0
  by_cases h1 : sgn (a.toNat : Int) (c.toNat : Int) = 0
  · by_cases h2 : sgn (b.toNat : Int) (d.toNat : Int) = 0
    · simp [eachN, m_slices_Compare_uint64_uint64_b1, i0, i1, j0, j1, cmp_u_eq, obind, h1, h2]
    · simp [eachN, m_slices_Compare_uint64_uint64_b1, i0, i1, j0, j1, cmp_u_eq, obind, h1, h2]
  · simp [eachN, m_slices_Compare_uint64_uint64_b1, i0, i1, j0, j1, cmp_u_eq, obind, h1]
def ordH (a b : g_api_Head) : Int :=
  fst0 (sgn a.Log b.Log) (fst0 (sgn a.Size b.Size) (fst0 (fst0 (sgn (a.Root.1.toNat : Int) (b.Root.1.toNat : Int)) (sgn (a.Root.2.toNat : Int) (b.Root.2.toNat : Int))) (sgn a.At b.At)))
theorem against_eq (a b : g_api_Head) : m_gossip_head_against a b = some (ordH a b) := by
  simp only [m_gossip_head_against, cmp_int_eq, cmp_sum_eq, obind_some', row4_eq, ordH]
theorem order_eq (a b : g_api_Head) : m_gossip_order a b = some (ordH a b) := by
  simp only [m_gossip_order, against_eq, obind_some']
theorem ahead_eq (a b : g_api_Head) : m_ref28_ahead a b = some (decide (ordH a b < 0)) := by
  unfold m_ref28_ahead ordH fst0 sgn bnd
  by_cases h1 : a.Log = b.Log
  · rw [if_neg (by simpa using h1)]
    by_cases h2 : a.Size = b.Size
    · rw [if_neg (by simpa using h2)]
      by_cases h3 : (a.Root.1.toNat : Int) = (b.Root.1.toNat : Int)
      · rw [if_neg (by simpa using h3)]
        by_cases h4 : (a.Root.2.toNat : Int) = (b.Root.2.toNat : Int)
        · rw [if_neg (by simpa using h4)]
          simp only [h1, h2, h3, h4, Int.lt_irrefl, if_false, if_true]
          by_cases h5 : a.At < b.At
          · simp [h5]
          · by_cases h6 : b.At < a.At <;> simp [h5, h6]
        · rw [if_pos (by simpa using h4)]
          simp only [h1, h2, h3, Int.lt_irrefl, if_false, if_true]
          by_cases h5 : (a.Root.2.toNat : Int) < (b.Root.2.toNat : Int)
          · simp [h5]
          · have h6 : (b.Root.2.toNat : Int) < (a.Root.2.toNat : Int) := by omega
            simp [h5, h6]
      · rw [if_pos (by simpa using h3)]
        simp only [h1, h2, Int.lt_irrefl, if_false, if_true]
        by_cases h5 : (a.Root.1.toNat : Int) < (b.Root.1.toNat : Int)
        · simp [h5]
        · have h6 : (b.Root.1.toNat : Int) < (a.Root.1.toNat : Int) := by omega
          simp [h5, h6]
    · rw [if_pos (by simpa using h2)]
      simp only [h1, Int.lt_irrefl, if_false, if_true]
      by_cases h5 : a.Size < b.Size
      · simp [h5]
      · have h6 : b.Size < a.Size := by omega
        simp [h5, h6]
  · rw [if_pos (by simpa using h1)]
    by_cases h5 : a.Log < b.Log
    · simp [h5]
    · have h6 : b.Log < a.Log := by omega
      simp [h5, h6]
end Go.Proofs.YtgnklegamndglaaGreat
end
section
namespace Go.Proofs.YtgnklegamndglaaGreat
open Go Go.Gw
theorem fst0_neg {a b : Int} : fst0 a b < 0 ↔ a < 0 ∨ (a = 0 ∧ b < 0) := by unfold fst0; split <;> omega
theorem fst0_pos {a b : Int} : 0 < fst0 a b ↔ 0 < a ∨ (a = 0 ∧ 0 < b) := by unfold fst0; split <;> omega
theorem fst0_zero {a b : Int} : fst0 a b = 0 ↔ a = 0 ∧ b = 0 := by unfold fst0; split <;> omega
theorem sgn_neg {a b : Int} : sgn a b < 0 ↔ a < b := by unfold sgn; split <;> (try split) <;> omega
theorem sgn_pos {a b : Int} : 0 < sgn a b ↔ b < a := by unfold sgn; split <;> (try split) <;> omega
theorem sgn_zero {a b : Int} : sgn a b = 0 ↔ a = b := by unfold sgn; split <;> (try split) <;> omega
def ltH (a b : g_api_Head) : Prop :=
  a.Log < b.Log ∨ (a.Log = b.Log ∧ (a.Size < b.Size ∨ (a.Size = b.Size ∧ (((a.Root.1.toNat : Int) < (b.Root.1.toNat : Int) ∨ ((a.Root.1.toNat : Int) = (b.Root.1.toNat : Int) ∧ (a.Root.2.toNat : Int) < (b.Root.2.toNat : Int))) ∨ (((a.Root.1.toNat : Int) = (b.Root.1.toNat : Int) ∧ (a.Root.2.toNat : Int) = (b.Root.2.toNat : Int)) ∧ a.At < b.At)))))
def eqH (a b : g_api_Head) : Prop := a.Log = b.Log ∧ a.Size = b.Size ∧ ((a.Root.1.toNat : Int) = (b.Root.1.toNat : Int) ∧ (a.Root.2.toNat : Int) = (b.Root.2.toNat : Int)) ∧ a.At = b.At
theorem ordH_neg {a b : g_api_Head} : ordH a b < 0 ↔ ltH a b := by unfold ordH ltH; simp only [fst0_neg, fst0_zero, sgn_neg, sgn_zero]
theorem ordH_zero {a b : g_api_Head} : ordH a b = 0 ↔ eqH a b := by unfold ordH eqH; simp only [fst0_zero, sgn_zero]
theorem ltH_irrefl (a : g_api_Head) : ¬ ltH a a := by unfold ltH; omega
theorem ltH_trans {a b c : g_api_Head} (h : ltH a b) (k : ltH b c) : ltH a c := by unfold ltH at *; omega
theorem ordH_pos {a b : g_api_Head} : 0 < ordH a b ↔ ltH b a := by
  unfold ordH ltH; simp only [fst0_pos, fst0_zero, sgn_pos, sgn_zero]; omega
theorem eqH_refl (a : g_api_Head) : eqH a a := ⟨rfl, rfl, ⟨rfl, rfl⟩, rfl⟩
theorem eq_ltH {a b c : g_api_Head} (h : eqH a b) (k : ltH b c) : ltH a c := by unfold ltH eqH at *; omega
end Go.Proofs.YtgnklegamndglaaGreat
end
section
namespace Go.Proofs.YtgnklegamndglaaGreat
open Go Go.Gw
theorem live28_true : m_law28_live = some true := by kernel_rfl
end Go.Proofs.YtgnklegamndglaaGreat
end
section
namespace Go.Proofs.YtgnklegamndglaaGreat
open Go Go.Gw
theorem idx_at {α : Type} {l : List α} {i : Nat} (h : i < l.length) : idx l (i : Int) = some l[i] := idx_nat (List.getElem?_eq_getElem h)
theorem w64_suc {i n : Nat} (h : i < n) (hn : n ≤ 1099511627776) : w64 ((i : Int) + 1) = ((i + 1 : Nat) : Int) := by rw [w64_in (by omega) (by omega)]; omega
def placeB (h x : g_api_Head) : Bool := (((x.Log == h.Log) && (x.Size == h.Size)) && (eqSum x.Root h.Root)) && (x.At == h.At)
theorem place_step {l : List g_api_Head} {h : g_api_Head} {i : Nat} (hi : i < l.length) (hn : l.length ≤ 1099511627776) : m_law28_place_b2 l h (i : Int) = some (if placeB h l[i] = true then .inr (.inr true) else .inl ((i + 1 : Nat) : Int)) := by
  unfold m_law28_place_b2 placeB
  rw [if_pos (by simpa using hi), idx_at hi, obind_some', w64_suc hi hn]
  cases h1 : l[i].Log == h.Log
  · simp [gu, obind]
  cases h2 : l[i].Size == h.Size
  · simp [gu, obind, h2]
  cases h3 : eqSum l[i].Root h.Root
  · simp [gu, obind, h2, h3]
  cases h4 : l[i].At == h.At <;> simp [gu, obind, h2, h3, h4]
def anyB (a : Int) (l : List g_api_Head) (i : Nat) : Bool := (l.take i).any fun x => x.Log == a
end Go.Proofs.YtgnklegamndglaaGreat
end
section
namespace Go.Proofs.YtgnklegamndglaaGreat
open Go Go.Gw
def chB : List g_api_Head → Bool
  | a :: b :: l => decide (ordH a b < 0) && chB (b :: l)
  | _ => true
theorem w64_pre {i n : Nat} (h : i < n) (h1 : 1 ≤ i) (hn : n ≤ 1099511627776) : w64 ((i : Int) - 1) = ((i - 1 : Nat) : Int) := by rw [w64_in (by omega) (by omega)]; omega
theorem drop2 {l : List g_api_Head} {i : Nat} (h1 : 1 ≤ i) (h : i < l.length) : l.drop (i - 1) = l[i - 1] :: l[i] :: l.drop (i + 1) := by
  rw [List.drop_eq_getElem_cons (show i - 1 < l.length by omega)]
  congr 1
  rw [show i - 1 + 1 = i from by omega, List.drop_eq_getElem_cons h]
theorem chB_drop {l : List g_api_Head} {i : Nat} (h1 : 1 ≤ i) (h : i < l.length) : chB (l.drop (i - 1)) = (decide (ordH l[i - 1] l[i] < 0) && chB (l.drop i)) := by
  rw [drop2 h1 h, chB, List.drop_eq_getElem_cons h]
theorem chB_end {l : List g_api_Head} {i : Nat} (h : l.length ≤ i) : chB (l.drop (i - 1)) = true := by
  have hl : (l.drop (i - 1)).length ≤ 1 := by rw [List.length_drop]; omega
  match hd : l.drop (i - 1), hl with
  | [], _ => rfl
  | [a], _ => rfl
  | a :: b :: l', hl => simp at hl
theorem inOrder_from {a0 : g_api_Pool} (hn : a0.L.length ≤ 1099511627776) : ∀ (k i n : Nat), 1 ≤ i → a0.L.length ≤ i + k → k < n →
    iter (m_ref28_InOrder_b2 a0) n (i : Int) = some (if chB (a0.L.drop (i - 1)) = true then .inl () else .inr false) := by
  intro k
  induction k with
  | zero =>
    intro i n h1 hk hn'
    obtain ⟨n, rfl⟩ : ∃ q, n = q + 1 := ⟨n - 1, by omega⟩
    have : m_ref28_InOrder_b2 a0 (i : Int) = some (.inr (.inl ())) := by
      unfold m_ref28_InOrder_b2; rw [if_neg (by simp; omega)]
    simp only [iter, this, obind_some']
    rw [if_pos (chB_end (by omega))]
  | succ k ih =>
    intro i n h1 hk hn'
    obtain ⟨n, rfl⟩ : ∃ q, n = q + 1 := ⟨n - 1, by omega⟩
    by_cases hi : i < a0.L.length
    · have hs : m_ref28_InOrder_b2 a0 (i : Int) = some (if ordH a0.L[i - 1] a0.L[i] < 0 then .inl ((i + 1 : Nat) : Int) else .inr (.inr false)) := by
        unfold m_ref28_InOrder_b2
        rw [if_pos (by simpa using hi), w64_pre hi h1 hn, idx_at (show i - 1 < a0.L.length by omega), obind_some', idx_at hi, obind_some', ahead_eq, obind_some', w64_suc hi hn]
        by_cases h : ordH a0.L[i - 1] a0.L[i] < 0 <;> simp [h]
      rw [chB_drop h1 hi]
      by_cases h : ordH a0.L[i - 1] a0.L[i] < 0
      · rw [if_pos h] at hs
        simp only [iter, hs, obind_some', h, decide_true, Bool.true_and]
        have := ih (i + 1) n (by omega) (by omega) (by omega)
        rw [Nat.add_sub_cancel] at this
        exact this
      · rw [if_neg h] at hs
        simp only [iter, hs, obind_some', h, decide_false, Bool.false_and]
        rfl
    · have : m_ref28_InOrder_b2 a0 (i : Int) = some (.inr (.inl ())) := by
        unfold m_ref28_InOrder_b2; rw [if_neg (by simp; omega)]
      simp only [iter, this, obind_some']
      rw [if_pos (chB_end (by omega))]
theorem inOrder_eq {a0 : g_api_Pool} (hn : a0.L.length ≤ 1099511627776) : m_ref28_InOrder a0 = some (chB a0.L) := by
  unfold m_ref28_InOrder
  have := inOrder_from hn a0.L.length 1 FUEL (by omega) (by omega) (by unfold FUEL; omega)
  rw [show ((1 : Nat) : Int) = 1 from rfl] at this
  rw [this, obind_some', show 1 - 1 = 0 from rfl, List.drop_zero]
  cases chB a0.L <;> rfl
theorem ord_step {a0 : g_api_Pool} (hn : a0.L.length ≤ 1099511627776) {i : Nat} (h1 : 1 ≤ i) (hi : i < a0.L.length) : m_gossip_ordered_b2 a0 (i : Int) () = some (if ordH a0.L[i - 1] a0.L[i] < 0 then .inl () else .inr false) := by
  unfold m_gossip_ordered_b2
  have hp : decide ((i : Int) > 0) = true := by simp; omega
  rw [w64_pre hi h1 hn, hp, idx_at (show i - 1 < a0.L.length by omega), idx_at hi]
  simp only [gu, cond_true, obind_some', order_eq, Bool.true_and]
  by_cases h : ordH a0.L[i - 1] a0.L[i] < 0
  · rw [if_neg (by simp; omega), if_pos h]
  · rw [if_pos (by simp; omega), if_neg h]
theorem ord_from {a0 : g_api_Pool} (hn : a0.L.length ≤ 1099511627776) : ∀ (k i : Nat), 1 ≤ i → a0.L.length = i + k →
    eachN (m_gossip_ordered_b2 a0) k (i : Int) () = some (if chB (a0.L.drop (i - 1)) = true then .inl () else .inr false) := by
  intro k
  induction k with
  | zero => intro i h1 hk; rw [if_pos (chB_end (by omega))]; rfl
  | succ k ih =>
    intro i h1 hk
    have hi : i < a0.L.length := by omega
    rw [chB_drop h1 hi]
    by_cases h : ordH a0.L[i - 1] a0.L[i] < 0
    · simp only [eachN, ord_step hn h1 hi, if_pos h, obind_some', h, decide_true, Bool.true_and]
      have := ih (i + 1) (by omega) (by omega)
      rw [Nat.add_sub_cancel] at this
      exact this
    · simp only [eachN, ord_step hn h1 hi, if_neg h, obind_some', h, decide_false, Bool.false_and]
      rfl
theorem ordered_eq {a0 : g_api_Pool} (hn : a0.L.length ≤ 1099511627776) : m_gossip_ordered a0 = some (chB a0.L) := by
  unfold m_gossip_ordered
  cases hl : a0.L.length with
  | zero =>
    have : a0.L = [] := List.eq_nil_of_length_eq_zero hl
    rw [this]; rfl
  | succ k =>
    have h0 : m_gossip_ordered_b2 a0 0 () = some (.inl ()) := by
      unfold m_gossip_ordered_b2; simp [gu, obind]
    simp only [eachN, h0, obind_some']
    have := ord_from hn k 1 (by omega) (by omega)
    rw [show ((1 : Nat) : Int) = 0 + 1 from rfl, show 1 - 1 = 0 from rfl, List.drop_zero] at this
    rw [this]
    cases chB a0.L <;> rfl
end Go.Proofs.YtgnklegamndglaaGreat
end
section
namespace Go.Proofs.YtgnklegamndglaaGreat
open Go Go.Gw
theorem srt_iff : ∀ (l : List g_api_Head), chB l = true ↔ l.Pairwise ltH
  | [] => by simp [chB]
  | [a] => by simp [chB]
  | a :: b :: l => by
    rw [chB, Bool.and_eq_true, decide_eq_true_eq, ordH_neg, srt_iff (b :: l), List.pairwise_cons (a := a)]
    constructor
    · rintro ⟨h, k⟩
      refine ⟨fun x hx => ?_, k⟩
      rcases List.mem_cons.1 hx with rfl | hx
      · exact h
      · exact ltH_trans h ((List.pairwise_cons.1 k).1 x hx)
    · rintro ⟨h, k⟩; exact ⟨h b (by simp), k⟩
theorem eqH_symm {a b : g_api_Head} (h : eqH a b) : eqH b a := by unfold eqH at *; omega
theorem eqH_trans {a b c : g_api_Head} (h : eqH a b) (k : eqH b c) : eqH a c := by unfold eqH at *; omega
theorem lt_ne {a b : g_api_Head} (h : ltH a b) (k : eqH a b) : False := ltH_irrefl b (eq_ltH (eqH_symm k) h)
theorem lt_ne' {a b : g_api_Head} (h : ltH a b) (k : eqH b a) : False := lt_ne h (eqH_symm k)
def hasH (l : List g_api_Head) (z : g_api_Head) : Prop := ∃ x ∈ l, eqH x z
theorem hasH_mem {l : List g_api_Head} {z : g_api_Head} (h : z ∈ l) : hasH l z := ⟨z, h, eqH_refl z⟩
def zipH : List g_api_Head → List g_api_Head → List g_api_Head
  | [], b => b
  | x :: a, [] => x :: a
  | x :: a, y :: b => if 0 < ordH x y then y :: zipH (x :: a) b else x :: zipH a (if ordH x y = 0 then b else y :: b)
termination_by a b => a.length + b.length
decreasing_by
  · simp only [List.length_cons]; omega
  · split <;> simp only [List.length_cons] <;> omega
theorem zip_nil (a : List g_api_Head) : zipH a [] = a := by cases a <;> simp [zipH]
theorem nil_zip (b : List g_api_Head) : zipH [] b = b := by simp [zipH]
theorem zip_cons (x y : g_api_Head) (a b : List g_api_Head) : zipH (x :: a) (y :: b) = if 0 < ordH x y then y :: zipH (x :: a) b else x :: zipH a (if ordH x y = 0 then b else y :: b) := by rw [zipH]
theorem zip_spec : ∀ (n : Nat) (a b : List g_api_Head), a.length + b.length ≤ n → a.Pairwise ltH → b.Pairwise ltH →
    (zipH a b).Pairwise ltH ∧ ∀ z, z ∈ zipH a b ↔ z ∈ a ∨ (z ∈ b ∧ ¬ hasH a z) := by
  intro n
  induction n with
  | zero =>
    intro a b h ha hb
    have h1 : a = [] := List.eq_nil_of_length_eq_zero (by omega)
    have h2 : b = [] := List.eq_nil_of_length_eq_zero (by omega)
    subst h1; subst h2
    rw [nil_zip]
    simp
  | succ n ih =>
    intro a b h ha hb
    match a, b with
    | [], b => rw [nil_zip]; exact ⟨hb, fun z => by simp [hasH]⟩
    | x :: a, [] => rw [zip_nil]; exact ⟨ha, fun z => by simp⟩
    | x :: a, y :: b =>
      have hxa := (List.pairwise_cons.1 ha).1
      have hyb := (List.pairwise_cons.1 hb).1
      simp only [List.length_cons] at h
      rw [zip_cons]
      by_cases h1 : 0 < ordH x y
      · rw [if_pos h1]
        have hyx := ordH_pos.1 h1
        obtain ⟨k1, k2⟩ := ih (x :: a) b (by simp only [List.length_cons]; omega) ha (List.pairwise_cons.1 hb).2
        have hlow : ∀ z ∈ x :: a, ltH y z := fun z hz => by
          rcases List.mem_cons.1 hz with rfl | hz
          · exact hyx
          · exact ltH_trans hyx (hxa z hz)
        refine ⟨List.pairwise_cons.2 ⟨fun z hz => ?_, k1⟩, fun z => ?_⟩
        · rcases (k2 z).1 hz with q | q
          · exact hlow z q
          · exact hyb z q.1
        · rw [List.mem_cons, k2 z, List.mem_cons (a := z) (b := y)]
          constructor
          · rintro (rfl | q | q)
            · exact .inr ⟨.inl rfl, fun ⟨w, hw, he⟩ => lt_ne' (hlow w hw) he⟩
            · exact .inl q
            · exact .inr ⟨.inr q.1, q.2⟩
          · rintro (q | ⟨rfl | q, r⟩)
            · exact .inr (.inl q)
            · exact .inl rfl
            · exact .inr (.inr ⟨q, r⟩)
      · rw [if_neg h1]
        by_cases h0 : ordH x y = 0
        · rw [if_pos h0]
          have he := ordH_zero.1 h0
          obtain ⟨k1, k2⟩ := ih a b (by omega) (List.pairwise_cons.1 ha).2 (List.pairwise_cons.1 hb).2
          refine ⟨List.pairwise_cons.2 ⟨fun z hz => ?_, k1⟩, fun z => ?_⟩
          · rcases (k2 z).1 hz with q | q
            · exact hxa z q
            · exact eq_ltH he (hyb z q.1)
          · rw [List.mem_cons, k2 z, List.mem_cons (a := z) (b := x), List.mem_cons (a := z) (b := y)]
            constructor
            · rintro (rfl | q | q)
              · exact .inl (.inl rfl)
              · exact .inl (.inr q)
              · refine .inr ⟨.inr q.1, fun ⟨w, hw, hq⟩ => ?_⟩
                rcases List.mem_cons.1 hw with rfl | hw
                · exact lt_ne (eq_ltH he (hyb z q.1)) hq
                · exact q.2 ⟨w, hw, hq⟩
            · rintro ((rfl | q) | ⟨rfl | q, r⟩)
              · exact .inl rfl
              · exact .inr (.inl q)
              · exact absurd ⟨x, by simp, he⟩ r
              · exact .inr (.inr ⟨q, fun ⟨w, hw, hq⟩ => r ⟨w, List.mem_cons_of_mem _ hw, hq⟩⟩)
        · rw [if_neg h0]
          have hxy : ltH x y := ordH_neg.1 (by omega)
          obtain ⟨k1, k2⟩ := ih a (y :: b) (by simp only [List.length_cons]; omega) (List.pairwise_cons.1 ha).2 hb
          have hlow : ∀ z ∈ y :: b, ltH x z := fun z hz => by
            rcases List.mem_cons.1 hz with rfl | hz
            · exact hxy
            · exact ltH_trans hxy (hyb z hz)
          refine ⟨List.pairwise_cons.2 ⟨fun z hz => ?_, k1⟩, fun z => ?_⟩
          · rcases (k2 z).1 hz with q | q
            · exact hxa z q
            · exact hlow z q.1
          · rw [List.mem_cons, k2 z, List.mem_cons (a := z) (b := x)]
            constructor
            · rintro (rfl | q | q)
              · exact .inl (.inl rfl)
              · exact .inl (.inr q)
              · refine .inr ⟨q.1, fun ⟨w, hw, hq⟩ => ?_⟩
                rcases List.mem_cons.1 hw with rfl | hw
                · exact lt_ne (hlow z q.1) hq
                · exact q.2 ⟨w, hw, hq⟩
            · rintro ((rfl | q) | ⟨q, r⟩)
              · exact .inl rfl
              · exact .inr (.inl q)
              · exact .inr (.inr ⟨q, fun ⟨w, hw, hq⟩ => r ⟨w, List.mem_cons_of_mem _ hw, hq⟩⟩)
theorem zip_srt {a b : List g_api_Head} (ha : a.Pairwise ltH) (hb : b.Pairwise ltH) : (zipH a b).Pairwise ltH := (zip_spec _ a b (Nat.le_refl _) ha hb).1
theorem zip_mem {a b : List g_api_Head} (ha : a.Pairwise ltH) (hb : b.Pairwise ltH) (z : g_api_Head) : z ∈ zipH a b ↔ z ∈ a ∨ (z ∈ b ∧ ¬ hasH a z) := (zip_spec _ a b (Nat.le_refl _) ha hb).2 z
theorem zip_has {a b : List g_api_Head} (ha : a.Pairwise ltH) (hb : b.Pairwise ltH) (z : g_api_Head) : hasH (zipH a b) z ↔ hasH a z ∨ hasH b z := by
  constructor
  · rintro ⟨x, hx, he⟩
    rcases (zip_mem ha hb x).1 hx with q | q
    · exact .inl ⟨x, q, he⟩
    · exact .inr ⟨x, q.1, he⟩
  · rintro (⟨x, hx, he⟩ | ⟨x, hx, he⟩)
    · exact ⟨x, (zip_mem ha hb x).2 (.inl hx), he⟩
    · by_cases hq : hasH a x
      · obtain ⟨w, hw, hwe⟩ := hq
        exact ⟨w, (zip_mem ha hb w).2 (.inl hw), eqH_trans hwe he⟩
      · exact ⟨x, (zip_mem ha hb x).2 (.inr ⟨hx, hq⟩), he⟩
theorem zip_len : ∀ (n : Nat) (a b : List g_api_Head), a.length + b.length ≤ n → (zipH a b).length ≤ a.length + b.length := by
  intro n
  induction n with
  | zero =>
    intro a b h
    have h1 : a = [] := List.eq_nil_of_length_eq_zero (by omega)
    have h2 : b = [] := List.eq_nil_of_length_eq_zero (by omega)
    subst h1; subst h2
    rw [nil_zip]; simp
  | succ n ih =>
    intro a b h
    match a, b with
    | [], b => rw [nil_zip]; simp
    | x :: a, [] => rw [zip_nil]; simp
    | x :: a, y :: b =>
      simp only [List.length_cons] at h
      rw [zip_cons]
      split
      · have := ih (x :: a) b (by simp only [List.length_cons]; omega)
        simp only [List.length_cons] at *; omega
      · split
        · have := ih a b (by omega)
          simp only [List.length_cons] at *; omega
        · have := ih a (y :: b) (by simp only [List.length_cons]; omega)
          simp only [List.length_cons] at *; omega
theorem srt_ext : ∀ {l m : List g_api_Head}, l.Pairwise ltH → m.Pairwise ltH → (∀ z, z ∈ l ↔ z ∈ m) → l = m := by
  intro l
  induction l with
  | nil =>
    intro m _ _ h
    cases m with
    | nil => rfl
    | cons y m => exact absurd ((h y).2 (by simp)) (by simp)
  | cons x l ih =>
    intro m hl hm h
    cases m with
    | nil => exact absurd ((h x).1 (by simp)) (by simp)
    | cons y m =>
      have hxl := (List.pairwise_cons.1 hl).1
      have hym := (List.pairwise_cons.1 hm).1
      have hxy : x = y := by
        rcases List.mem_cons.1 ((h x).1 (by simp)) with q | q
        · exact q
        · rcases List.mem_cons.1 ((h y).2 (by simp)) with r | r
          · exact r.symm
          · exact absurd (ltH_trans (hym x q) (hxl y r)) (ltH_irrefl y)
      subst hxy
      congr 1
      refine ih (List.pairwise_cons.1 hl).2 (List.pairwise_cons.1 hm).2 fun z => ⟨fun hz => ?_, fun hz => ?_⟩
      · rcases List.mem_cons.1 ((h z).1 (List.mem_cons_of_mem _ hz)) with q | q
        · exact absurd (q ▸ hxl z hz) (ltH_irrefl _)
        · exact q
      · rcases List.mem_cons.1 ((h z).2 (List.mem_cons_of_mem _ hz)) with q | q
        · exact absurd (q ▸ hym z hz) (ltH_irrefl _)
        · exact q
def alikeH : List g_api_Head → List g_api_Head → Prop
  | [], [] => True
  | x :: a, y :: b => eqH x y ∧ alikeH a b
  | _, _ => False
def withH : List g_api_Head → g_api_Head → List g_api_Head
  | [], h => [h]
  | x :: l, h => if ordH x h < 0 then x :: withH l h else h :: x :: l
instance eqH_dec (a b : g_api_Head) : Decidable (eqH a b) := by unfold eqH; infer_instance
def hasB (l : List g_api_Head) (z : g_api_Head) : Bool := l.any fun x => decide (eqH x z)
theorem hasB_iff {l : List g_api_Head} {z : g_api_Head} : hasB l z = true ↔ hasH l z := by simp [hasB, hasH]
def defF (p : List g_api_Head) (out : List g_api_Head) (y : g_api_Head) : List g_api_Head := if hasB p y then out else withH out y
theorem zip_self {p : List g_api_Head} (hp : p.Pairwise ltH) : zipH p p = p :=
  srt_ext (zip_srt hp hp) hp fun z => by
    rw [zip_mem hp hp]
    exact ⟨fun h => h.elim id (fun q => q.1), .inl⟩
theorem zip_sub {p q : List g_api_Head} (hp : p.Pairwise ltH) (hq : q.Pairwise ltH) (h : ∀ z ∈ q, hasH p z) : zipH p q = p :=
  srt_ext (zip_srt hp hq) hp fun z => by
    rw [zip_mem hp hq]
    exact ⟨fun h' => h'.elim id (fun r => absurd (h z r.1) r.2), .inl⟩
end Go.Proofs.YtgnklegamndglaaGreat
end
section
namespace Go.Proofs.YtgnklegamndglaaGreat
open Go Go.Gw
def unlB (a b : g_api_Head) : Bool := (a.Log == b.Log) && (a.Size == b.Size) && (a.Root != b.Root)
def forkL : List g_api_Head → Option (g_api_Head × g_api_Head)
  | [] => none
  | x :: l => match l.find? (unlB x) with
    | some y => some (x, y)
    | none => forkL l
theorem unlB_self (x : g_api_Head) : unlB x x = false := by simp [unlB]
theorem unlB_symm (x y : g_api_Head) : unlB x y = unlB y x := by
  unfold unlB
  rw [Bool.eq_iff_iff]
  simp only [Bool.and_eq_true, beq_iff_eq, bne_iff_ne, ne_eq]
  constructor
  · rintro ⟨⟨a, b⟩, c⟩; exact ⟨⟨a.symm, b.symm⟩, fun h => c h.symm⟩
  · rintro ⟨⟨a, b⟩, c⟩; exact ⟨⟨a.symm, b.symm⟩, fun h => c h.symm⟩
theorem forkL_some : ∀ {l : List g_api_Head} {p : g_api_Head × g_api_Head}, forkL l = some p → p.1 ∈ l ∧ p.2 ∈ l ∧ unlB p.1 p.2 = true
  | [], p, h => by cases h
  | x :: l, p, h => by
    rw [forkL] at h
    split at h
    · rename_i y hy
      cases h
      exact ⟨by simp, List.mem_cons_of_mem _ (List.mem_of_find?_eq_some hy), List.find?_some hy⟩
    · obtain ⟨a, b, c⟩ := forkL_some h
      exact ⟨List.mem_cons_of_mem _ a, List.mem_cons_of_mem _ b, c⟩
theorem forkL_none : ∀ {l : List g_api_Head}, forkL l = none → ∀ x ∈ l, ∀ y ∈ l, unlB x y = false
  | [], _, _, hx => by cases hx
  | z :: l, h, x, hx => by
    rw [forkL] at h
    split at h
    · cases h
    · rename_i hn
      have hn := List.find?_eq_none.1 hn
      have ih := forkL_none h
      intro y hy
      rcases List.mem_cons.1 hx with e | hx' <;> rcases List.mem_cons.1 hy with e' | hy'
      · rw [e, e']; exact unlB_self _
      · rw [e]; simpa using hn y hy'
      · rw [e', unlB_symm]; simpa using hn x hx'
      · exact ih x hx' y hy'
def mrg (p q : List g_api_Head) : List g_api_Head := if (chB p && chB q) = true then zipH p q else []
theorem mrg_len (p q : List g_api_Head) : (mrg p q).length ≤ p.length + q.length := by
  unfold mrg; split
  · exact zip_len _ p q (Nat.le_refl _)
  · simp
theorem mrg_srt {p q : List g_api_Head} (hp : p.Pairwise ltH) (hq : q.Pairwise ltH) : mrg p q = zipH p q := by
  unfold mrg; rw [if_pos (by rw [(srt_iff p).2 hp, (srt_iff q).2 hq]; rfl)]
def okP (out : List (List g_api_Head)) (p : Int × Int) : Bool := !(p.1 == p.2) && decide (0 ≤ p.1) && decide (0 ≤ p.2) && decide (p.1 < out.length) && decide (p.2 < out.length)
def tellS (out : List (List g_api_Head)) (p : Int × Int) : List (List g_api_Head) :=
  if okP out p = true then (out.set p.1.toNat (mrg (out.getD p.1.toNat []) (out.getD p.2.toNat []))).set p.2.toNat (mrg (out.getD p.1.toNat []) (out.getD p.2.toNat [])) else out
theorem tell_len (out : List (List g_api_Head)) (p : Int × Int) : (tellS out p).length = out.length := by unfold tellS; split <;> simp
theorem getD_le {out : List (List g_api_Head)} {B : Nat} (h : ∀ l ∈ out, l.length ≤ B) (i : Nat) : (out.getD i []).length ≤ B := by
  rw [List.getD_eq_getElem?_getD]
  by_cases hi : i < out.length
  · rw [List.getElem?_eq_getElem hi]; exact h _ (List.getElem_mem hi)
  · rw [List.getElem?_eq_none (by omega)]; simp
theorem mem_set_or {α : Type} {l : List α} {i : Nat} {a x : α} (h : x ∈ l.set i a) : x ∈ l ∨ x = a := by
  obtain ⟨j, hj, he⟩ := List.mem_iff_getElem.1 h
  rw [List.getElem_set] at he
  split at he
  · exact .inr he.symm
  · exact .inl (he ▸ List.getElem_mem _)
theorem tell_le {out : List (List g_api_Head)} {B : Nat} (h : ∀ l ∈ out, l.length ≤ B) (p : Int × Int) : ∀ l ∈ tellS out p, l.length ≤ 2 * B := by
  unfold tellS
  split
  · intro l hl
    have hm : ∀ a b, (mrg (out.getD a []) (out.getD b [])).length ≤ 2 * B := fun a b => by
      have := mrg_len (out.getD a []) (out.getD b [])
      have := getD_le h a
      have := getD_le h b
      omega
    rcases mem_set_or hl with q | q
    · rcases mem_set_or q with q | q
      · have := h _ q; omega
      · rw [q]; exact hm _ _
    · rw [q]; exact hm _ _
  · intro l hl; have := h l hl; omega
def accH (l : List (List g_api_Head)) : Nat → List g_api_Head
  | 0 => l.getD 0 []
  | j + 1 => zipH (accH l j) (l.getD (j + 1) [])
theorem getD_srt {l : List (List g_api_Head)} (h : ∀ x ∈ l, x.Pairwise ltH) (i : Nat) : (l.getD i []).Pairwise ltH := by
  rw [List.getD_eq_getElem?_getD]
  by_cases hi : i < l.length
  · rw [List.getElem?_eq_getElem hi]; exact h _ (List.getElem_mem hi)
  · rw [List.getElem?_eq_none (by omega)]; simp
theorem acc_srt {l : List (List g_api_Head)} (h : ∀ x ∈ l, x.Pairwise ltH) : ∀ j, (accH l j).Pairwise ltH
  | 0 => getD_srt h 0
  | j + 1 => zip_srt (acc_srt h j) (getD_srt h (j + 1))
theorem acc_keep {l : List (List g_api_Head)} (h : ∀ x ∈ l, x.Pairwise ltH) {j z} : ∀ k, z ∈ accH l j → z ∈ accH l (j + k)
  | 0, hz => hz
  | k + 1, hz => (zip_mem (acc_srt h _) (getD_srt h _) z).2 (.inl (acc_keep h k hz))
theorem acc_has {l : List (List g_api_Head)} (h : ∀ x ∈ l, x.Pairwise ltH) {j : Nat} {z : g_api_Head} (hz : z ∈ l.getD j []) : hasH (accH l j) z := by
  cases j with
  | zero => exact hasH_mem hz
  | succ j => exact (zip_has (acc_srt h j) (getD_srt h _) z).2 (.inr (hasH_mem hz))
theorem acc_has' {l : List (List g_api_Head)} (h : ∀ x ∈ l, x.Pairwise ltH) {i j : Nat} (hij : i ≤ j) {z : g_api_Head} (hz : z ∈ l.getD i []) : hasH (accH l j) z := by
  obtain ⟨w, hw, he⟩ := acc_has h hz
  have := acc_keep h (j - i) hw
  rw [show i + (j - i) = j from by omega] at this
  exact ⟨w, this, he⟩
def upP (n : Nat) : List (Int × Int) := (List.range (n - 1)).map fun (i : Nat) => ((i : Int), ((i + 1 : Nat) : Int))
def dnP (n : Nat) : List (Int × Int) := (List.range (n - 1)).map fun (i : Nat) => (((n - 1 - i : Nat) : Int), ((n - 2 - i : Nat) : Int))
theorem tell_at {out : List (List g_api_Head)} {a b : Nat} (hab : a ≠ b) (ha : a < out.length) (hb : b < out.length) :
    tellS out ((a : Int), (b : Int)) = (out.set a (mrg (out.getD a []) (out.getD b []))).set b (mrg (out.getD a []) (out.getD b [])) := by
  unfold tellS
  rw [if_pos]
  · simp
  · unfold okP
    simp only [Bool.and_eq_true, Bool.not_eq_true', beq_eq_false_iff_ne, ne_eq, decide_eq_true_eq]
    refine ⟨⟨⟨⟨?_, ?_⟩, ?_⟩, ?_⟩, ?_⟩ <;> omega
theorem getD_set {α : Type} {l : List α} {i j : Nat} {a d : α} : (l.set i a).getD j d = if i = j ∧ j < l.length then a else l.getD j d := by
  rw [List.getD_eq_getElem?_getD, List.getD_eq_getElem?_getD, List.getElem?_set]
  by_cases h : i = j
  · subst h
    by_cases h2 : i < l.length
    · simp [h2]
    · simp [h2]
  · simp [h]
theorem up_inv {l : List (List g_api_Head)} (h : ∀ x ∈ l, x.Pairwise ltH) : ∀ k, k < l.length →
    let out := ((List.range k).map fun (i : Nat) => ((i : Int), ((i + 1 : Nat) : Int))).foldl tellS l
    out.length = l.length ∧ ∀ j, out.getD j [] = if j < k then accH l (j + 1) else if j = k then accH l k else l.getD j [] := by
  intro k
  induction k with
  | zero =>
    intro hk
    refine ⟨rfl, fun j => ?_⟩
    rw [if_neg (by omega)]
    split
    · rename_i q; subst q; rfl
    · rfl
  | succ k ih =>
    intro hk
    have ih := ih (by omega)
    rw [List.range_succ, List.map_append, List.foldl_append]
    generalize ((List.range k).map fun (i : Nat) => ((i : Int), ((i + 1 : Nat) : Int))).foldl tellS l = out at ih
    obtain ⟨h1, h2⟩ := ih
    simp only [List.map_cons, List.map_nil, List.foldl_cons, List.foldl_nil]
    refine ⟨by rw [tell_len, h1], fun j => ?_⟩
    rw [tell_at (by omega) (by omega) (by omega), h2 k, h2 (k + 1), if_neg (by omega), if_pos rfl, if_neg (by omega), if_neg (by omega), mrg_srt (acc_srt h k) (getD_srt h _)]
    rw [getD_set, List.length_set, getD_set, h2 j]
    have hz : zipH (accH l k) (l.getD (k + 1) []) = accH l (k + 1) := rfl
    rw [hz]
    by_cases c1 : j < k
    · rw [if_neg (by omega), if_neg (by omega), if_pos c1, if_pos (by omega)]
    · by_cases c2 : j = k
      · subst c2
        rw [if_neg (by omega), if_pos ⟨rfl, by omega⟩, if_pos (by omega)]
      · by_cases c3 : j = k + 1
        · subst c3
          rw [if_pos ⟨rfl, by omega⟩, if_neg (by omega), if_pos rfl]
        · rw [if_neg (by omega), if_neg (by omega), if_neg (by omega), if_neg (by omega), if_neg (by omega), if_neg (by omega)]
theorem dn_inv {l out : List (List g_api_Head)} (h : ∀ x ∈ l, x.Pairwise ltH) (h1 : out.length = l.length) (h2 : ∀ j, out.getD j [] = if j < l.length - 1 then accH l (j + 1) else if j = l.length - 1 then accH l (l.length - 1) else l.getD j []) :
    ∀ k, k ≤ l.length - 1 →
    let o := ((List.range k).map fun (i : Nat) => (((l.length - 1 - i : Nat) : Int), ((l.length - 2 - i : Nat) : Int))).foldl tellS out
    o.length = l.length ∧ ∀ j, j < l.length → o.getD j [] = if j + k < l.length - 1 then accH l (j + 1) else accH l (l.length - 1) := by
  intro k
  induction k with
  | zero =>
    intro hk
    refine ⟨h1, fun j hj => ?_⟩
    simp only [List.range_zero, List.map_nil, List.foldl_nil, Nat.add_zero]
    rw [h2]
    by_cases c : j < l.length - 1
    · rw [if_pos c, if_pos c]
    · rw [if_neg c, if_neg c, if_pos (by omega)]
  | succ k ih =>
    intro hk
    have ih := ih (by omega)
    rw [List.range_succ, List.map_append, List.foldl_append]
    generalize ((List.range k).map fun (i : Nat) => (((l.length - 1 - i : Nat) : Int), ((l.length - 2 - i : Nat) : Int))).foldl tellS out = o at ih
    obtain ⟨k1, k2⟩ := ih
    simp only [List.map_cons, List.map_nil, List.foldl_cons, List.foldl_nil]
    refine ⟨by rw [tell_len, k1], fun j hj => ?_⟩
    have hU := acc_srt h (l.length - 1)
    have hq : mrg (o.getD (l.length - 1 - k) []) (o.getD (l.length - 2 - k) []) = accH l (l.length - 1) := by
      rw [k2 _ (by omega), if_neg (by omega), k2 _ (by omega)]
      by_cases c : l.length - 2 - k + k < l.length - 1
      · rw [if_pos c, mrg_srt hU (acc_srt h _)]
        refine zip_sub hU (acc_srt h _) fun z hz => ?_
        have := acc_keep h (l.length - 1 - (l.length - 2 - k + 1)) hz
        rw [show l.length - 2 - k + 1 + (l.length - 1 - (l.length - 2 - k + 1)) = l.length - 1 from by omega] at this
        exact hasH_mem this
      · rw [if_neg c, mrg_srt hU hU, zip_self hU]
    rw [tell_at (by omega) (by omega) (by omega), hq, getD_set, List.length_set, getD_set, k2 j hj]
    by_cases c1 : l.length - 2 - k = j
    · rw [if_pos ⟨c1, by omega⟩, if_neg (by omega)]
    · rw [if_neg (fun q => c1 q.1)]
      by_cases c2 : l.length - 1 - k = j
      · rw [if_pos ⟨c2, by omega⟩, if_neg (by omega)]
      · rw [if_neg (fun q => c2 q.1)]
        by_cases c3 : j + k < l.length - 1
        · rw [if_pos c3, if_pos (by omega)]
        · rw [if_neg c3, if_neg (by omega)]
theorem upDn {l : List (List g_api_Head)} (h : ∀ x ∈ l, x.Pairwise ltH) :
    let o := (upP l.length ++ dnP l.length).foldl tellS l
    o.length = l.length ∧ ∀ j, j < l.length → o.getD j [] = accH l (l.length - 1) := by
  rw [List.foldl_append]
  by_cases h0 : l.length = 0
  · unfold upP dnP
    rw [h0]
    exact ⟨h0, fun j hj => by omega⟩
  · obtain ⟨h1, h2⟩ := up_inv h (l.length - 1) (by omega)
    unfold upP
    have h3 := dn_inv h h1 h2 (l.length - 1) (Nat.le_refl _)
    obtain ⟨k1, k2⟩ := h3
    unfold dnP
    refine ⟨k1, fun j hj => ?_⟩
    rw [k2 j hj, if_neg (by omega)]
end Go.Proofs.YtgnklegamndglaaGreat
end
section
namespace Go.Proofs.YtgnklegamndglaaGreat
open Go Go.Gw
theorem appL {α : Type} {b : Nat} {xs ys : List α} (h : xs.length + ys.length ≤ 2199023255552) (hb : b ≤ 56) : app b xs ys = some (xs ++ ys) := by
  unfold app
  have : (xs.length + ys.length) * b ≤ 2199023255552 * 56 := Nat.mul_le_mul h hb
  rw [if_pos ⟨by omega, by omega⟩]
theorem cutL {α : Type} {xs : List α} {lo hi : Nat} (h1 : lo ≤ hi) (h2 : hi ≤ xs.length) : cut xs (lo : Int) (hi : Int) = some ((xs.drop lo).take (hi - lo)) := by
  unfold cut; rw [if_pos ⟨by omega, by omega, by omega⟩]; simp
theorem cut_tl {α : Type} (x : α) (xs : List α) : cut (x :: xs) 1 (((x :: xs).length : Nat) : Int) = some xs := by
  have := cutL (xs := x :: xs) (lo := 1) (hi := (x :: xs).length) (by simp) (Nat.le_refl _)
  rw [show ((1 : Nat) : Int) = 1 from rfl] at this
  rw [this]; simp
theorem idx_hd {α : Type} (x : α) (xs : List α) : idx (x :: xs) 0 = some x := rfl
theorem iter_rng {τ : Type} {step : Int → Option (Int ⊕ (Unit ⊕ τ))} {good : Nat → Bool} {bad : τ} {len : Nat} (hn : len ≤ 1099511627776) (hs : ∀ i, i < len → step (i : Int) = some (if good i = true then .inl (w64 ((i : Int) + 1)) else .inr (.inr bad))) (he : step (len : Int) = some (.inr (.inl ()))) :
    ∀ (k i n : Nat), i + k = len → k < n → iter step n (i : Int) = some (if (List.range' i k).all good = true then .inl () else .inr bad) := by
  intro k
  induction k with
  | zero =>
    intro i n hi hn'
    obtain ⟨n, rfl⟩ : ∃ q, n = q + 1 := ⟨n - 1, by omega⟩
    have : i = len := by omega
    subst this
    simp only [iter, he, obind_some']
    rfl
  | succ k ih =>
    intro i n hi hn'
    obtain ⟨n, rfl⟩ : ∃ q, n = q + 1 := ⟨n - 1, by omega⟩
    have h := hs i (by omega)
    rw [w64_suc (show i < len by omega) hn] at h
    rw [List.range'_succ, List.all_cons]
    cases hg : good i
    · rw [hg] at h
      simp only [iter, h, obind_some', Bool.false_and]
      rfl
    · rw [hg] at h
      simp only [iter, h, obind_some', Bool.true_and, if_pos]
      exact ih (i + 1) n (by omega) (by omega)
theorem iter_all {τ : Type} {step : Int → Option (Int ⊕ (Unit ⊕ τ))} {good : Nat → Bool} {bad : τ} (len : Nat) (hn : len ≤ 1099511627776) (hs : ∀ i, i < len → step (i : Int) = some (if good i = true then .inl (w64 ((i : Int) + 1)) else .inr (.inr bad))) (he : step (len : Int) = some (.inr (.inl ()))) :
    iter step FUEL 0 = some (if (List.range len).all good = true then .inl () else .inr bad) := by
  have := iter_rng hn hs he len 0 FUEL (by omega) (by unfold FUEL; omega)
  rw [List.range_eq_range']
  exact this
theorem rng_all {α : Type} {l : List α} {p : α → Bool} {good : Nat → Bool} (h : ∀ i (hi : i < l.length), good i = p l[i]) : (List.range l.length).all good = l.all p := by
  rw [Bool.eq_iff_iff, List.all_eq_true, List.all_eq_true]
  constructor
  · intro k x hx
    obtain ⟨i, hi, he⟩ := List.mem_iff_getElem.1 hx
    rw [← he, ← h i hi]; exact k i (List.mem_range.2 hi)
  · intro k i hi
    have hi := List.mem_range.1 hi
    rw [h i hi]; exact k _ (List.getElem_mem hi)
theorem iter_list {α τ : Type} {step : Int → Option (Int ⊕ (Unit ⊕ τ))} (l : List α) (p : α → Bool) {bad : τ} (hn : l.length ≤ 1099511627776) (hs : ∀ i (hi : i < l.length), step (i : Int) = some (if p l[i] = true then .inl (w64 ((i : Int) + 1)) else .inr (.inr bad))) (he : step (l.length : Int) = some (.inr (.inl ()))) :
    iter step FUEL 0 = some (if l.all p = true then .inl () else .inr bad) := by
  have h2 := rng_all (l := l) (p := p) (good := fun i => if h : i < l.length then p l[i] else true) (fun i hi => by simp [hi])
  rw [← h2]
  refine iter_all l.length hn (fun i hi => ?_) he
  rw [hs i hi]
  simp [hi]
theorem zip_it : ∀ (n : Nat) (a b out : List g_api_Head) (m : Nat), a.length + b.length ≤ n → n < m → out.length + a.length + b.length ≤ 2199023255552 →
    ∃ a' b' o', iter m_gossip_zip_gossip_head_50x_b1 m (a, b, out) = some (a', b', o') ∧ o' ++ a' ++ b' = out ++ zipH a b ∧ o'.length + a'.length + b'.length ≤ 2199023255552 := by
  intro n
  induction n with
  | zero =>
    intro a b out m h hm hl
    have h1 : a = [] := List.eq_nil_of_length_eq_zero (by omega)
    have h2 : b = [] := List.eq_nil_of_length_eq_zero (by omega)
    subst h1; subst h2
    obtain ⟨m, rfl⟩ : ∃ q, m = q + 1 := ⟨m - 1, by omega⟩
    exact ⟨[], [], out, rfl, by rw [nil_zip]; simp, by simpa using hl⟩
  | succ n ih =>
    intro a b out m h hm hl
    obtain ⟨m, rfl⟩ : ∃ q, m = q + 1 := ⟨m - 1, by omega⟩
    match a, b with
    | [], b => exact ⟨[], b, out, rfl, by rw [nil_zip]; simp, hl⟩
    | x :: a, [] =>
      refine ⟨x :: a, [], out, ?_, by rw [zip_nil]; simp, hl⟩
      have : m_gossip_zip_gossip_head_50x_b1 (x :: a, [], out) = some (.inr (x :: a, [], out)) := by
        unfold m_gossip_zip_gossip_head_50x_b1; rw [if_neg (by simp)]
      simp only [iter, this, obind_some']
    | x :: a, y :: b =>
      simp only [List.length_cons] at h hl
      have ha1 : ∀ z : g_api_Head, app 56 out [z] = some (out ++ [z]) := fun z => appL (by simp only [List.length_cons, List.length_nil]; omega) (by decide)
      have hs : m_gossip_zip_gossip_head_50x_b1 (x :: a, y :: b, out) = some (.inl (if 0 < ordH x y then (x :: a, b, out ++ [y]) else if ordH x y = 0 then (a, b, out ++ [x]) else (a, y :: b, out ++ [x]))) := by
        unfold m_gossip_zip_gossip_head_50x_b1
        rw [if_pos (by simp)]
        simp only [idx_hd, obind_some', against_eq, ha1, cut_tl]
        by_cases c1 : 0 < ordH x y
        · simp [c1]
        · by_cases c2 : ordH x y = 0 <;> simp [c1, c2]
      rw [zip_cons]
      simp only [iter, hs, obind_some']
      by_cases c1 : 0 < ordH x y
      · simp only [if_pos c1]
        obtain ⟨a', b', o', k1, k2, k3⟩ := ih (x :: a) b (out ++ [y]) m (by simp only [List.length_cons]; omega) (by omega) (by simp only [List.length_append, List.length_cons, List.length_nil]; omega)
        exact ⟨a', b', o', k1, by rw [k2]; simp, k3⟩
      · by_cases c2 : ordH x y = 0
        · simp only [if_neg c1, if_pos c2]
          obtain ⟨a', b', o', k1, k2, k3⟩ := ih a b (out ++ [x]) m (by omega) (by omega) (by simp only [List.length_append, List.length_cons, List.length_nil]; omega)
          exact ⟨a', b', o', k1, by rw [k2]; simp, k3⟩
        · simp only [if_neg c1, if_neg c2]
          obtain ⟨a', b', o', k1, k2, k3⟩ := ih a (y :: b) (out ++ [x]) m (by simp only [List.length_cons]; omega) (by omega) (by simp only [List.length_append, List.length_cons, List.length_nil]; omega)
          exact ⟨a', b', o', k1, by rw [k2]; simp, k3⟩
theorem zip_eq {a b : List g_api_Head} (h : a.length + b.length ≤ 2199023255552) : m_gossip_zip_gossip_head_50x a b = some (zipH a b) := by
  obtain ⟨a', b', o', k1, k2, k3⟩ := zip_it (a.length + b.length) a b [] FUEL (Nat.le_refl _) (by unfold FUEL; omega) (by simpa using h)
  unfold m_gossip_zip_gossip_head_50x
  rw [k1]
  simp only [obind_some']
  rw [appL (by omega) (by decide), obind_some', appL (by rw [List.length_append]; omega) (by decide), obind_some', k2, List.nil_append]
theorem as_it : ∀ (l out : List g_api_Head) (i : Int), out.length + l.length ≤ 2199023255552 → each0 m_gossip_as_api_Head_gossip_head_47x_b1 l i out = some (out ++ l)
  | [], out, i, _ => by simp [each0]
  | x :: l, out, i, h => by
    simp only [List.length_cons] at h
    simp only [each0, m_gossip_as_api_Head_gossip_head_47x_b1, m_gossip_Merge_1, obind_some']
    rw [appL (by simp only [List.length_cons, List.length_nil]; omega) (by decide), obind_some', obind_some', as_it l _ _ (by simp only [List.length_append, List.length_cons, List.length_nil]; omega)]
    simp
theorem as_eq {l : List g_api_Head} (h : l.length ≤ 2199023255552) : m_gossip_as_api_Head_gossip_head_47x l = some l := by
  unfold m_gossip_as_api_Head_gossip_head_47x
  rw [as_it l [] 0 (by simpa using h)]; rfl
theorem as2_it : ∀ (l out : List g_api_Head) (i : Int), out.length + l.length ≤ 2199023255552 → each0 m_gossip_as_gossip_head_api_Head_52x_b1 l i out = some (out ++ l)
  | [], out, i, _ => by simp [each0]
  | x :: l, out, i, h => by
    simp only [List.length_cons] at h
    simp only [each0, m_gossip_as_gossip_head_api_Head_52x_b1, m_gossip_Merge_2, obind_some']
    rw [appL (by simp only [List.length_cons, List.length_nil]; omega) (by decide), obind_some', obind_some', as2_it l _ _ (by simp only [List.length_append, List.length_cons, List.length_nil]; omega)]
    simp
theorem as2_eq {l : List g_api_Head} (h : l.length ≤ 2199023255552) : m_gossip_as_gossip_head_api_Head_52x l = some l := by
  unfold m_gossip_as_gossip_head_api_Head_52x
  rw [as2_it l [] 0 (by simpa using h)]; rfl
theorem merge_eq {p q : g_api_Pool} (hp : p.L.length ≤ 1099511627776) (hq : q.L.length ≤ 1099511627776) : m_gossip_Merge p q = some ⟨mrg p.L q.L⟩ := by
  unfold m_gossip_Merge mrg
  rw [ordered_eq hp, obind_some', ordered_eq hq]
  cases chB p.L
  · simp [gu, obind]
  · cases chB q.L
    · simp [gu, obind]
    · have := zip_len _ p.L q.L (Nat.le_refl _)
      simp only [gu, Bool.not_true, Bool.not_false, cond_true, obind_some', Bool.or_self, Bool.false_eq_true, if_false, Bool.and_self, if_true]
      rw [as_eq (by omega), obind_some', as_eq (by omega), obind_some', zip_eq (by omega), obind_some', as2_eq (by omega), obind_some']
theorem eqSum_iff (a b : UInt64 × UInt64) : eqSum a b = true ↔ (a.1.toNat : Int) = (b.1.toNat : Int) ∧ (a.2.toNat : Int) = (b.2.toNat : Int) := by
  have h : eqSum a b = true ↔ a.1 = b.1 ∧ a.2 = b.2 := by unfold eqSum; simp
  rw [h]
  constructor
  · rintro ⟨h1, h2⟩; rw [h1, h2]; exact ⟨rfl, rfl⟩
  · rintro ⟨h1, h2⟩
    exact ⟨UInt64.toNat_inj.1 (by omega), UInt64.toNat_inj.1 (by omega)⟩
theorem place_cond (a b : g_api_Head) : ((((a.Log == b.Log) && (a.Size == b.Size)) && (eqSum a.Root b.Root)) && (a.At == b.At)) = decide (eqH a b) := by
  rw [Bool.eq_iff_iff, decide_eq_true_iff]
  unfold eqH
  rw [Bool.and_eq_true, Bool.and_eq_true, Bool.and_eq_true, beq_iff_eq, beq_iff_eq, beq_iff_eq, eqSum_iff]
  constructor
  · rintro ⟨⟨⟨a, b⟩, c⟩, d⟩; exact ⟨a, b, c, d⟩
  · rintro ⟨a, b, c, d⟩; exact ⟨⟨⟨a, b⟩, c⟩, d⟩
def cntH (h : g_api_Head) : List g_api_Head → Nat
  | [] => 0
  | x :: l => if ordH x h < 0 then cntH h l + 1 else 0
end Go.Proofs.YtgnklegamndglaaGreat
end
section
namespace Go.Proofs.YtgnklegamndglaaGreat
open Go Go.Gw
def fnd {α : Type} (p : α → Bool) : List α → Nat → Option (Nat × α)
  | [], _ => none
  | x :: xs, i => if p x = true then some (i, x) else fnd p xs (i + 1)
theorem fnd_some {α : Type} {p : α → Bool} : ∀ {xs : List α} {i : Nat} {q : Nat × α}, fnd p xs i = some q → ∃ k, q.1 = i + k ∧ xs[k]? = some q.2 ∧ p q.2 = true
  | [], i, q, h => by cases h
  | x :: xs, i, q, h => by
    unfold fnd at h
    split at h
    · rename_i c
      cases h
      exact ⟨0, rfl, rfl, c⟩
    · obtain ⟨k, h1, h2, h3⟩ := fnd_some h
      exact ⟨k + 1, by omega, by simpa using h2, h3⟩
theorem fnd_find {α : Type} {p : α → Bool} : ∀ {xs : List α} {i : Nat}, xs.find? p = (fnd p xs i).map (·.2)
  | [], i => rfl
  | x :: xs, i => by
    unfold fnd
    rw [List.find?_cons]
    cases c : p x
    · simp only [Bool.false_eq_true, if_false]; exact fnd_find
    · rfl
theorem drop_at {α : Type} {l xs : List α} {x : α} {i : Nat} (h : l.drop i = x :: xs) : ∃ hi : i < l.length, l[i] = x ∧ l.drop (i + 1) = xs := by
  have hi : i < l.length := by
    apply Classical.byContradiction
    intro q
    rw [List.drop_eq_nil_of_le (by omega)] at h
    cases h
  rw [List.drop_eq_getElem_cons hi] at h
  injection h with h1 h2
  exact ⟨hi, h1, h2⟩
theorem eachN_fnd {α σ τ : Type} {body : Int → σ → Option (σ ⊕ τ)} {s : σ} {l : List α} (p : α → Bool) (r : Nat → τ) (hs : ∀ i (hi : i < l.length), body (i : Int) s = some (if p l[i] = true then .inr (r i) else .inl s)) :
    ∀ (xs : List α) (i : Nat), l.drop i = xs → eachN body xs.length (i : Int) s = some (match fnd p xs i with | some q => .inr (r q.1) | none => .inl s)
  | [], i, _ => rfl
  | x :: xs, i, h => by
    obtain ⟨hi, he, hd⟩ := drop_at h
    have h1 := hs i hi
    rw [he] at h1
    unfold fnd
    simp only [List.length_cons, eachN, h1, obind_some']
    by_cases c : p x = true
    · simp only [if_pos c]
    · simp only [if_neg c]
      exact eachN_fnd p r hs xs (i + 1) hd
abbrev T9 : Type := Bool × Int × Int × Int × UInt64 × UInt64 × Int × UInt64 × UInt64
def pk9 (p : Bool × g_api_Head) (i : Int) : T9 := (p.1, i, p.2.Log, p.2.Size, p.2.Root.1, p.2.Root.2, p.2.At, p.2.Sig.E, p.2.Sig.S)
theorem eqSum_eq (a b : UInt64 × UInt64) : eqSum a b = (a == b) := by
  rw [Bool.eq_iff_iff, eqSum_iff, beq_iff_eq]
  obtain ⟨a1, a2⟩ := a
  obtain ⟨b1, b2⟩ := b
  constructor
  · rintro ⟨h1, h2⟩
    have e1 : a1 = b1 := UInt64.toNat_inj.1 (by exact_mod_cast h1)
    have e2 : a2 = b2 := UInt64.toNat_inj.1 (by exact_mod_cast h2)
    rw [e1, e2]
  · intro h; cases h; exact ⟨rfl, rfl⟩
theorem unl_cond (a b : g_api_Head) : (((a.Log == b.Log) && (a.Size == b.Size)) && (!eqSum a.Root b.Root)) = unlB a b := by
  rw [eqSum_eq]; rfl
def pk7 (h : g_api_Head) : Int × Int × UInt64 × UInt64 × Int × UInt64 × UInt64 := (h.Log, h.Size, h.Root.1, h.Root.2, h.At, h.Sig.E, h.Sig.S)
theorem index_eq (l : List g_api_Head) (k : g_api_Head) : m_slices_IndexFunc_api_Head_api_Head_56x l k = some ((match fnd (fun y => unlB y k) l 0 with | some q => (q.1 : Int) | none => -1), k) := by
  have := eachN_fnd (body := m_slices_IndexFunc_api_Head_api_Head_56x_b1 l) (s := pk7 k) (l := l) (fun y => unlB y k) (fun i => ((i : Int), k)) (fun i hi => ?_) l 0 rfl
  · unfold m_slices_IndexFunc_api_Head_api_Head_56x
    rw [show ((0 : Nat) : Int) = 0 from rfl] at this
    rw [show (k.Log, k.Size, k.Root.1, k.Root.2, k.At, k.Sig.E, k.Sig.S) = pk7 k from rfl, this, obind_some']
    cases fnd (fun y => unlB y k) l 0 <;> rfl
  · unfold m_slices_IndexFunc_api_Head_api_Head_56x_b1 m_gossip_Fork_1 pk7 bnd
    dsimp only
    rw [idx_at hi, obind_some', obind_some', unl_cond]
    cases unlB l[i] k <;> rfl
theorem fork_step {a0 : g_api_Pool} {i : Nat} {x : g_api_Head} {xs : List g_api_Head} (hn : a0.L.length ≤ 1099511627776) (h : a0.L.drop i = x :: xs) : m_gossip_Fork_b4 a0 (i : Int) () = some (match xs.find? (unlB x) with | some y => .inr (x, y, true) | none => .inl ()) := by
  obtain ⟨hi, he, hd⟩ := drop_at h
  have hlen : a0.L.length = i + (xs.length + 1) := by
    have := congrArg List.length h
    rw [List.length_drop, List.length_cons] at this; omega
  unfold m_gossip_Fork_b4
  rw [idx_at hi, obind_some', cutL (by omega) (Nat.le_refl _), obind_some', List.take_of_length_le (by simp), h, he, index_eq, obind_some']
  unfold fnd
  rw [unlB_self, if_neg Bool.false_ne_true, fnd_find (i := 0 + 1), show (fun y => unlB y x) = unlB x from funext fun y => unlB_symm y x]
  cases hf : fnd (unlB x) xs (0 + 1) with
  | none => rfl
  | some q =>
    obtain ⟨k, k1, k2, _⟩ := fnd_some hf
    have hk : k < xs.length := (List.getElem?_eq_some_iff.1 k2).1
    have hq : q.1 = k + 1 := by omega
    simp only [hq, Option.map_some]
    rw [if_pos (by simp; omega), show w64 ((i : Int) + ((k + 1 : Nat) : Int)) = ((i + (k + 1) : Nat) : Int) from by rw [w64_in (by omega) (by omega)]; omega]
    have hat : a0.L[i + (k + 1)]? = some q.2 := by
      rw [← List.getElem?_drop, h, List.getElem?_cons_succ]; exact k2
    rw [idx_nat hat, obind_some']
theorem fork_it {a0 : g_api_Pool} (hn : a0.L.length ≤ 1099511627776) : ∀ (xs : List g_api_Head) (i : Nat), a0.L.drop i = xs →
    eachN (m_gossip_Fork_b4 a0) xs.length (i : Int) () = some (match forkL xs with | some p => .inr (p.1, p.2, true) | none => .inl ())
  | [], i, _ => rfl
  | x :: xs, i, h => by
    simp only [List.length_cons, eachN, fork_step hn h, obind_some']
    unfold forkL
    cases hf : xs.find? (unlB x) with
    | some y => rfl
    | none => exact fork_it hn xs (i + 1) (drop_at h).2.2
def forkV (l : List g_api_Head) : g_api_Head × g_api_Head × Bool := match forkL l with
  | some p => (p.1, p.2, true)
  | none => (noHead, noHead, false)
theorem fork_eq {a0 : g_api_Pool} (hn : a0.L.length ≤ 1099511627776) : m_gossip_Fork a0 = some (forkV a0.L) := by
  unfold m_gossip_Fork forkV
  have := fork_it hn a0.L 0 rfl
  rw [show ((0 : Nat) : Int) = 0 from rfl] at this
  rw [this, obind_some']
  cases forkL a0.L <;> rfl
end Go.Proofs.YtgnklegamndglaaGreat
end
section
namespace Go.Proofs.YtgnklegamndglaaGreat
open Go Go.Gw
def mkP (o : List (List g_api_Head)) : List g_api_Pool := o.map fun l => (⟨l⟩ : g_api_Pool)
def unP (l : List g_api_Pool) : List (List g_api_Head) := l.map (·.L)
theorem mkP_len (o : List (List g_api_Head)) : (mkP o).length = o.length := by simp [mkP]
theorem mkP_un (l : List g_api_Pool) : mkP (unP l) = l := by
  unfold mkP unP
  rw [List.map_map]
  exact (List.map_congr_left fun p _ => rfl).trans (List.map_id l)
theorem mkP_set (o : List (List g_api_Head)) (a : Nat) (x : List g_api_Head) : (mkP o).set a ⟨x⟩ = mkP (o.set a x) := by unfold mkP; rw [List.map_set]
theorem idx_mk {o : List (List g_api_Head)} {a : Nat} (h : a < o.length) : idx (mkP o) (a : Int) = some ⟨o.getD a []⟩ := by
  have h' : a < (mkP o).length := by rw [mkP_len]; exact h
  rw [idx_at h', List.getD_eq_getElem?_getD, List.getElem?_eq_getElem h]
  simp [mkP]
theorem ok_nat {out : List (List g_api_Head)} {p : Int × Int} (h : okP out p = true) : ∃ a b : Nat, p = ((a : Int), (b : Int)) ∧ a ≠ b ∧ a < out.length ∧ b < out.length := by
  obtain ⟨x, y⟩ := p
  unfold okP at h
  simp only [Bool.and_eq_true, Bool.not_eq_true', beq_eq_false_iff_ne, ne_eq, decide_eq_true_eq] at h
  obtain ⟨⟨⟨⟨h1, h2⟩, h3⟩, h4⟩, h5⟩ := h
  refine ⟨x.toNat, y.toNat, ?_, by omega, by omega, by omega⟩
  rw [Int.toNat_of_nonneg h2, Int.toNat_of_nonneg h3]
theorem clone_eq {l : List g_api_Head} (h : l.length ≤ 2199023255552) : m_slices_Clone_api_Head_api_Head l = some l := by
  unfold m_slices_Clone_api_Head_api_Head
  rw [appL (by simpa using h) (by decide), obind_some', List.nil_append]
theorem tell_rest {out : List (List g_api_Head)} {a b : Nat} (hab : a ≠ b) (ha : a < out.length) (hb : b < out.length) : tellS out ((a : Int), (b : Int)) = (out.set a (mrg (out.getD a []) (out.getD b []))).set b (mrg (out.getD a []) (out.getD b [])) := tell_at hab ha hb
theorem sp3 (out : List (List g_api_Head)) (p : Int × Int) : eachN (m_gossip_Spread_b3 (mkP out) p) 2 0 () = some (if okP out p = true then .inl () else .inr ()) := by
  obtain ⟨x, y⟩ := p
  have i0 : idx [x, y] (0 : Int) = some x := rfl
  have i1 : idx [x, y] (0 + 1 : Int) = some y := rfl
  simp only [eachN, m_gossip_Spread_b3, i0, i1, obind_some', mkP_len]
  unfold okP
  by_cases c0 : x = y
  · subst c0; simp
  · by_cases c1 : x < 0
    · have : ¬ 0 ≤ x := by omega
      simp [c1, this]
    · by_cases c2 : x ≥ (out.length : Int)
      · have : ¬ x < (out.length : Int) := by omega
        simp [c2, this]
      · have d1 : 0 ≤ x := by omega
        have d2 : x < (out.length : Int) := by omega
        by_cases c3 : y < 0
        · have : ¬ 0 ≤ y := by omega
          simp [c0, c1, c2, c3, this, obind]
        · by_cases c4 : y ≥ (out.length : Int)
          · have : ¬ y < (out.length : Int) := by omega
            simp [c0, c1, c2, c3, c4, this, obind]
          · have e1 : 0 ≤ y := by omega
            have e2 : y < (out.length : Int) := by omega
            simp [c0, c1, c2, c3, c4, d1, d2, e1, e2, obind]
theorem sp_step {out : List (List g_api_Head)} (i : Int) (p : Int × Int) (h : ∀ l ∈ out, l.length ≤ 549755813888) : m_gossip_Spread_b1 i p (mkP out) = some (mkP (tellS out p)) := by
  unfold m_gossip_Spread_b1
  rw [sp3, obind_some']
  by_cases hok : okP out p = true
  · obtain ⟨a, b, rfl, hab, ha, hb⟩ := ok_nat hok
    have la := getD_le h a
    have lb := getD_le h b
    have lm := mrg_len (out.getD a []) (out.getD b [])
    rw [if_pos hok, tell_rest hab ha hb]
    dsimp only
    rw [idx_mk ha, obind_some', idx_mk hb, obind_some', merge_eq (by dsimp only; omega) (by dsimp only; omega), obind_some']
    dsimp only
    rw [clone_eq (by omega), obind_some', obind_some']
    unfold bnd
    dsimp only
    rw [Int.toNat_natCast, mkP_set, idx_mk (by rw [List.length_set]; exact hb), obind_some', Int.toNat_natCast, mkP_set, obind_some']
  · rw [if_neg hok]
    unfold tellS
    rw [if_neg hok]
    rfl
theorem fold_le {B : Nat} : ∀ (ps : List (Int × Int)) {out : List (List g_api_Head)}, (∀ l ∈ out, l.length ≤ B) → ∀ l ∈ ps.foldl tellS out, l.length ≤ B * 2 ^ ps.length := by
  intro ps
  induction ps generalizing B with
  | nil => intro out h l hl; rw [List.length_nil, Nat.pow_zero, Nat.mul_one]; exact h l hl
  | cons p ps ih =>
    intro out h l hl
    have := ih (tell_le h p) l hl
    rw [List.length_cons, Nat.pow_succ, Nat.mul_comm (2 ^ ps.length) 2, ← Nat.mul_assoc, Nat.mul_comm B 2]
    exact this
theorem sp_fold {B : Nat} : ∀ (ps : List (Int × Int)) (i : Int) {out : List (List g_api_Head)}, (∀ l ∈ out, l.length ≤ B) → B * 2 ^ ps.length ≤ 549755813888 → each0 m_gossip_Spread_b1 ps i (mkP out) = some (mkP (ps.foldl tellS out)) := by
  intro ps
  induction ps generalizing B with
  | nil => intro i out _ _; rfl
  | cons p ps ih =>
    intro i out h hB
    have h1 : B ≤ 549755813888 := Nat.le_trans (Nat.le_mul_of_pos_right B (Nat.two_pow_pos _)) hB
    rw [List.length_cons, Nat.pow_succ, Nat.mul_comm (2 ^ ps.length) 2, ← Nat.mul_assoc, Nat.mul_comm B 2] at hB
    simp only [each0, sp_step i p (fun l hl => Nat.le_trans (h l hl) h1), obind_some', List.foldl_cons]
    exact ih (i + 1) (tell_le h p) hB
theorem asP_it : ∀ (l out : List g_api_Pool) (i : Int), out.length + l.length ≤ 1000000 → (∀ p ∈ l, p.L.length ≤ 549755813888) → each0 m_gossip_as_api_Pool_api_Pool_59x_b1 l i out = some (out ++ l)
  | [], out, i, _, _ => by simp [each0]
  | x :: l, out, i, h, hB => by
    simp only [List.length_cons] at h
    have hx := hB x (by simp)
    simp only [each0, m_gossip_as_api_Pool_api_Pool_59x_b1, m_gossip_Spread_1]
    rw [clone_eq (by omega), obind_some', obind_some', appL (by simp only [List.length_cons, List.length_nil]; omega) (by decide), obind_some', obind_some', asP_it l _ _ (by simp only [List.length_append, List.length_cons, List.length_nil]; omega) (fun p hp => hB p (by simp [hp]))]
    simp
theorem un_le {l : List g_api_Pool} {B : Nat} (h : ∀ p ∈ l, p.L.length ≤ B) : ∀ x ∈ unP l, x.length ≤ B := by
  intro x hx
  obtain ⟨p, hp, rfl⟩ := List.mem_map.1 hx
  exact h p hp
theorem spread_eq {l : List g_api_Pool} {ps : List (Int × Int)} {B : Nat} (hl : l.length ≤ 1000000) (h : ∀ p ∈ l, p.L.length ≤ B) (hB : B * 2 ^ ps.length ≤ 549755813888) : m_gossip_Spread l ps = some (mkP (ps.foldl tellS (unP l))) := by
  have h1 : B ≤ 549755813888 := Nat.le_trans (Nat.le_mul_of_pos_right B (Nat.two_pow_pos _)) hB
  unfold m_gossip_Spread m_gossip_as_api_Pool_api_Pool_59x
  rw [asP_it l [] 0 (by simpa using hl) (fun p hp => Nat.le_trans (h p hp) h1), obind_some', List.nil_append, obind_some', obind_some']
  have := sp_fold ps 0 (un_le h) hB
  rw [mkP_un] at this
  rw [this]; rfl
theorem small_eq (l : List g_api_Pool) : ∃ b, m_law28_small l = some b ∧ (b = true → l.length ≤ 8 ∧ ∀ p ∈ l, p.L.length ≤ 12) := by
  by_cases hl : l.length ≤ 8
  · refine ⟨l.all fun p => decide (p.L.length ≤ 12), ?_, fun hb => ⟨hl, fun p hp => by simpa using List.all_eq_true.1 hb p hp⟩⟩
    have hit := iter_list (step := m_law28_small_b1 l) l (fun p => decide (p.L.length ≤ 12)) (bad := false) (by omega) (fun i hi => ?_) ?_
    · unfold m_law28_small
      rw [hit, obind_some']
      cases l.all fun p => decide (p.L.length ≤ 12)
      · rfl
      · simp only [if_true, bnd]
        rw [show decide ((l.length : Int) ≤ 8) = true from by simp; omega]
    · unfold m_law28_small_b1
      rw [if_pos (by simp; omega), idx_at hi, obind_some']
      by_cases c : l[i].L.length ≤ 12
      · rw [if_neg (by simp; omega), if_pos (by simpa using c)]
      · rw [if_pos (by simp; omega), if_neg (by simpa using c)]
    · unfold m_law28_small_b1
      rw [if_neg (by simp)]
  · refine ⟨false, ?_, fun h => by cases h⟩
    have := iter_all (step := m_law28_small_b1 l) (good := fun i => if h : i < l.length then decide (l[i].L.length ≤ 12) else true) (bad := false) 8 (by omega) (fun i hi => ?_) ?_
    · unfold m_law28_small
      rw [this, obind_some']
      have hd : decide ((l.length : Int) ≤ 8) = false := by simp; omega
      generalize (List.range 8).all _ = b
      cases b
      · rfl
      · simp only [if_true, bnd, hd]
    · have hi' : i < l.length := by omega
      unfold m_law28_small_b1
      rw [if_pos (by simp; omega), idx_at hi', obind_some', dif_pos hi']
      by_cases c : l[i].L.length ≤ 12
      · rw [if_neg (by simp; omega), if_pos (by simpa using c)]
      · rw [if_pos (by simp; omega), if_neg (by simpa using c)]
    · unfold m_law28_small_b1
      rw [if_neg (by simp)]
theorem lawOrd_eq {l : List g_api_Pool} (hl : l.length ≤ 1000000) (h : ∀ p ∈ l, p.L.length ≤ 1099511627776) : m_law28_ordered l = some (l.all fun p => chB p.L) := by
  unfold m_law28_ordered
  have hit := iter_list (step := m_law28_ordered_b1 l) l (fun p => chB p.L) (bad := false) (by omega) (fun i hi => ?_) ?_
  · rw [hit, obind_some']
    cases l.all fun p => chB p.L <;> rfl
  · unfold m_law28_ordered_b1
    rw [if_pos (by simpa using hi), idx_at hi, obind_some', inOrder_eq (h _ (List.getElem_mem hi)), obind_some']
    cases chB l[i].L <;> rfl
  · unfold m_law28_ordered_b1; rw [if_neg (by simp)]
theorem up0 : m_law28_up 0 = some (upP 0 ++ dnP 0) := by kernel_rfl
theorem up1 : m_law28_up 1 = some (upP 1 ++ dnP 1) := by kernel_rfl
theorem up2 : m_law28_up 2 = some (upP 2 ++ dnP 2) := by kernel_rfl
theorem up3 : m_law28_up 3 = some (upP 3 ++ dnP 3) := by kernel_rfl
theorem up4 : m_law28_up 4 = some (upP 4 ++ dnP 4) := by kernel_rfl
theorem up5 : m_law28_up 5 = some (upP 5 ++ dnP 5) := by kernel_rfl
theorem up6 : m_law28_up 6 = some (upP 6 ++ dnP 6) := by kernel_rfl
theorem up7 : m_law28_up 7 = some (upP 7 ++ dnP 7) := by kernel_rfl
theorem up8 : m_law28_up 8 = some (upP 8 ++ dnP 8) := by kernel_rfl
theorem up_eq {n : Nat} (h : n ≤ 8) : m_law28_up (n : Int) = some (upP n ++ dnP n) := by
  have : n = 0 ∨ n = 1 ∨ n = 2 ∨ n = 3 ∨ n = 4 ∨ n = 5 ∨ n = 6 ∨ n = 7 ∨ n = 8 := by omega
  rcases this with rfl | rfl | rfl | rfl | rfl | rfl | rfl | rfl | rfl
  · exact up0
  · exact up1
  · exact up2
  · exact up3
  · exact up4
  · exact up5
  · exact up6
  · exact up7
  · exact up8
theorem placeB_eq (h x : g_api_Head) : placeB h x = decide (eqH x h) := place_cond x h
theorem place_eq {l : List g_api_Head} (h : g_api_Head) (hn : l.length ≤ 1099511627776) : m_law28_place l h = some (hasB l h) := by
  unfold m_law28_place
  have hit := iter_list (step := m_law28_place_b2 l h) l (fun x => !decide (eqH x h)) (bad := true) hn (fun i hi => ?_) ?_
  · rw [hit, obind_some']
    have : hasB l h = !(l.all fun x => !decide (eqH x h)) := by rw [← List.not_any_eq_all_not, Bool.not_not]; rfl
    rw [this]
    cases l.all fun x => !decide (eqH x h) <;> rfl
  · rw [place_step hi hn, placeB_eq, w64_suc hi hn]
    cases decide (eqH l[i] h) <;> rfl
  · unfold m_law28_place_b2; rw [if_neg (by simp)]
end Go.Proofs.YtgnklegamndglaaGreat
end
section
namespace Go.Proofs.YtgnklegamndglaaGreat
open Go Go.Gw
theorem pow30u {n : Nat} (h : n ≤ 30) : 12 * 2 ^ n ≤ 549755813888 :=
  Nat.le_trans (Nat.mul_le_mul_left 12 (Nat.pow_le_pow_right (by decide) h)) (by decide)
theorem iter_yes {τ : Type} {step : Int → Option (Int ⊕ (Unit ⊕ τ))} (len : Nat) (hn : len ≤ 1099511627776) (hs : ∀ i, i < len → step (i : Int) = some (.inl (w64 ((i : Int) + 1)))) (he : step (len : Int) = some (.inr (.inl ()))) (bad : τ) : iter step FUEL 0 = some (.inl ()) := by
  have := iter_all (step := step) (good := fun _ => true) (bad := bad) len hn (fun i hi => hs i hi) he
  rw [this, show ((List.range len).all fun _ => true) = true from List.all_eq_true.2 fun _ _ => rfl]; rfl
def allU (a0 : List g_api_Pool) : List g_api_Head := accH (unP a0) (a0.length - 1)
theorem un_len (a0 : List g_api_Pool) : (unP a0).length = a0.length := by simp [unP]
theorem un_getD {a0 : List g_api_Pool} {i : Nat} (hi : i < a0.length) : (unP a0).getD i [] = a0[i].L := by
  rw [List.getD_eq_getElem?_getD, List.getElem?_eq_getElem (by rw [un_len]; exact hi)]
  simp [unP]
theorem un_srt {a0 : List g_api_Pool} (h : (a0.all fun p => chB p.L) = true) : ∀ x ∈ unP a0, x.Pairwise ltH := by
  intro x hx
  obtain ⟨p, hp, rfl⟩ := List.mem_map.1 hx
  exact (srt_iff _).1 (List.all_eq_true.1 h p hp)
theorem told {a0 : List g_api_Pool} (h8 : a0.length ≤ 8) (h12 : ∀ p ∈ a0, p.L.length ≤ 12) (h : ∀ x ∈ unP a0, x.Pairwise ltH) :
    ∃ ps o, m_law28_up (a0.length : Int) = some ps ∧ m_gossip_Spread a0 ps = some (mkP o) ∧ o.length = a0.length ∧ (∀ j, j < a0.length → o.getD j [] = allU a0) ∧ (0 < a0.length → (allU a0).length ≤ 549755813888) := by
  have hb : 12 * 2 ^ (upP a0.length ++ dnP a0.length).length ≤ 549755813888 := pow30u (by simp [upP, dnP]; omega)
  obtain ⟨k1, k2⟩ := upDn h
  rw [un_len] at k1 k2
  refine ⟨upP a0.length ++ dnP a0.length, (upP a0.length ++ dnP a0.length).foldl tellS (unP a0), up_eq h8, spread_eq (by omega) h12 hb, k1, k2, fun h0 => ?_⟩
  have := getD_le (fun l hl => Nat.le_trans (fold_le _ (un_le h12) l hl) hb) 0
  rw [k2 0 h0] at this
  exact this
theorem all_has {a0 : List g_api_Pool} (h : ∀ x ∈ unP a0, x.Pairwise ltH) {i : Nat} (hi : i < a0.length) {z : g_api_Head} (hz : z ∈ a0[i].L) : hasH (allU a0) z :=
  acc_has' h (show i ≤ a0.length - 1 by omega) (by rw [un_getD hi]; exact hz)
end Go.Proofs.YtgnklegamndglaaGreat
end
section
namespace Go.Proofs.YtgnklegamndglaaGreat
open Go Go.Gw
theorem unl_eq {a b a' b' : g_api_Head} (h : eqH a' a) (k : eqH b' b) : unlB a' b' = unlB a b := by
  have e1 : a'.Root = a.Root := by have := (eqSum_iff a'.Root a.Root).2 h.2.2.1; rw [eqSum_eq] at this; exact beq_iff_eq.1 this
  have e2 : b'.Root = b.Root := by have := (eqSum_iff b'.Root b.Root).2 k.2.2.1; rw [eqSum_eq] at this; exact beq_iff_eq.1 this
  unfold unlB
  rw [h.1, h.2.1, k.1, k.2.1, e1, e2]
theorem not_unl (x y : g_api_Head) : (((x.Log != y.Log) || (x.Size != y.Size)) || (eqSum x.Root y.Root)) = !unlB x y := by
  rw [← unl_cond]
  show ((!(x.Log == y.Log)) || (!(x.Size == y.Size)) || (eqSum x.Root y.Root)) = _
  cases x.Log == y.Log <;> cases x.Size == y.Size <;> cases eqSum x.Root y.Root <;> rfl
theorem forks_loop {x11 : List g_api_Pool} {n : Nat} {U : List g_api_Head} {p : g_api_Head × g_api_Head} (hl : x11.length = n) (hn : n ≤ 8) (hU : 0 < n → U.length ≤ 549755813888) (hat : ∀ j, j < n → idx x11 (j : Int) = some ⟨U⟩) (hf : forkL U = some p) : iter (m_law28_GossipForks_b3 x11) FUEL 0 = some (.inl ()) := by
  obtain ⟨m1, m2, hu⟩ := forkL_some hf
  refine iter_yes n (by omega) (fun i hi => ?_) ?_ false
  · have hU := hU (by omega)
    have hc := not_unl p.1 p.2
    rw [hu, Bool.not_true] at hc
    have hc2 : (((!true || (p.1.Log != p.2.Log)) || (p.1.Size != p.2.Size)) || (eqSum p.1.Root p.2.Root)) = false := by rw [Bool.not_true, Bool.false_or]; exact hc
    unfold m_law28_GossipForks_b3
    rw [hl, if_pos (by simpa using hi), hat i hi, obind_some', fork_eq (by dsimp only; omega), obind_some']
    unfold forkV
    rw [hf]
    dsimp only
    rw [hc2, Bool.not_false]
    simp only [gu, cond_true, obind_some', Bool.false_or]
    rw [place_eq _ (by omega), obind_some', hasB_iff.2 (hasH_mem m1), Bool.not_true, Bool.not_false]
    simp only [cond_true, obind_some']
    rw [place_eq _ (by omega), obind_some', hasB_iff.2 (hasH_mem m2)]
    rfl
  · unfold m_law28_GossipForks_b3
    rw [hl, if_neg (by simp)]
theorem forks_true (a0 : List g_api_Pool) (a1 a2 a3 a4 : Int) : m_law28_GossipForks a0 a1 a2 a3 a4 = some true := by
  unfold m_law28_GossipForks
  obtain ⟨b, hb, hs⟩ := small_eq a0
  rw [live28_true, obind_some', if_neg (by decide), hb, obind_some']
  cases b
  · simp only [gu, Bool.not_false, Bool.not_true, cond_false, obind_some', Bool.true_or, if_true]
  · obtain ⟨h8, h12⟩ := hs rfl
    rw [lawOrd_eq (by omega) (fun p hp => by have := h12 p hp; omega)]
    simp only [gu, Bool.not_true, Bool.not_false, cond_true, obind_some', Bool.false_or]
    cases ho : a0.all fun p => chB p.L
    · simp only [Bool.not_false, Bool.not_true, cond_false, obind_some', Bool.true_or, if_true]
    · simp only [Bool.not_true, Bool.false_or]
      by_cases c1 : a1 < 0
      · simp only [c1, decide_true, Bool.true_or, Bool.or_true, Bool.not_true, cond_false, obind_some', if_true]
      by_cases c2 : a2 < 0
      · simp only [c2, decide_true, Bool.true_or, Bool.or_true, Bool.not_true, cond_false, obind_some', if_true]
      by_cases c3 : a1 ≥ (a0.length : Int)
      · simp only [c3, decide_true, Bool.true_or, Bool.or_true, Bool.not_true, cond_false, obind_some', if_true]
      by_cases c4 : a2 ≥ (a0.length : Int)
      · simp only [c4, decide_true, Bool.true_or, Bool.or_true, Bool.not_true, cond_false, obind_some', if_true]
      by_cases c5 : a3 < 0
      · simp only [c5, decide_true, Bool.true_or, Bool.or_true, Bool.not_true, cond_false, obind_some', if_true]
      by_cases c6 : a4 < 0
      · simp only [c6, decide_true, Bool.true_or, Bool.or_true, Bool.not_true, cond_false, obind_some', if_true]
      obtain ⟨i, rfl⟩ : ∃ i : Nat, a1 = i := ⟨a1.toNat, by omega⟩
      obtain ⟨k, rfl⟩ : ∃ i : Nat, a2 = i := ⟨a2.toNat, by omega⟩
      obtain ⟨a, rfl⟩ : ∃ i : Nat, a3 = i := ⟨a3.toNat, by omega⟩
      obtain ⟨b, rfl⟩ : ∃ i : Nat, a4 = i := ⟨a4.toNat, by omega⟩
      have hi : i < a0.length := by omega
      have hk : k < a0.length := by omega
      simp only [c1, c2, c3, c4, c5, c6, decide_false, Bool.or_self, Bool.false_or, Bool.not_false, cond_true, idx_at hi, idx_at hk, obind_some']
      by_cases c7 : (a : Int) ≥ (a0[i].L.length : Int)
      · simp only [c7, decide_true, Bool.true_or, Bool.not_true, cond_false, obind_some', if_true]
      simp only [c7, decide_false, Bool.false_or, Bool.not_false, cond_true, idx_at hk, obind_some']
      by_cases c8 : (b : Int) ≥ (a0[k].L.length : Int)
      · simp only [c8, decide_true, if_true]
      have ha : a < a0[i].L.length := by omega
      have hb' : b < a0[k].L.length := by omega
      simp only [c8, decide_false, Bool.false_eq_true, if_false, idx_at ha, idx_at hb', obind_some', not_unl]
      cases hu : unlB a0[i].L[a] a0[k].L[b]
      · rfl
      · simp only [Bool.not_true, Bool.false_eq_true, if_false]
        have h := un_srt ho
        obtain ⟨ps, o, k1, k2, k3, k4, k5⟩ := told h8 h12 h
        rw [k1, obind_some', k2, obind_some', if_neg (by simp [mkP_len, k3])]
        have hat : ∀ j, j < a0.length → idx (mkP o) (j : Int) = some ⟨allU a0⟩ := fun j hj => by rw [idx_mk (by omega), k4 j hj]
        obtain ⟨x, hx, ex⟩ := all_has h hi (List.getElem_mem ha)
        obtain ⟨y, hy, ey⟩ := all_has h hk (List.getElem_mem hb')
        cases hf : forkL (allU a0) with
        | none =>
          have := forkL_none hf x hx y hy
          rw [unl_eq ex ey, hu] at this
          cases this
        | some p =>
          rw [forks_loop (by rw [mkP_len, k3]) h8 k5 hat hf, obind_some']
end Go.Proofs.YtgnklegamndglaaGreat
end
section
namespace Go.Proofs.YtgnklegamndglaaGreat.lawGossipForks
open Go Go.Gw Go.ChangeShapes Go.WideShapes Go.ChangeAt Go.RowKit
theorem own : ownKnob Tryz.prog.godebug = none := by kernel_rfl
theorem rd3 : Rd Tryz.prog 3 (Int) := Rd.int Tryz.underlying3
theorem rd25 : Rd Tryz.prog 25 (UInt64) := Rd.u64 Tryz.underlying25
theorem rd27 : Rd Tryz.prog 27 (UInt64 × UInt64) := Rd.arr2 Tryz.underlying27 rd25 (by kernel_rfl) (by kernel_rfl)
theorem rd29 : Rd Tryz.prog 29 (g_api_Sig) := Rd.struct Tryz.underlying29 (RdFs.more rfl rd25 (by kernel_rfl) (RdFs.last rfl rd25 (by kernel_rfl))) (by kernel_rfl) (fun b => ⟨b.1, b.2⟩) (fun h => h)
theorem rd31 : Rd Tryz.prog 31 (g_api_Head) := Rd.struct Tryz.underlying31 (RdFs.more rfl rd3 (by kernel_rfl) (RdFs.more rfl rd3 (by kernel_rfl) (RdFs.more rfl rd27 (by kernel_rfl) (RdFs.more rfl rd3 (by kernel_rfl) (RdFs.last rfl rd29 (by kernel_rfl)))))) (by kernel_rfl) (fun b => ⟨b.1, b.2.1, b.2.2.1, b.2.2.2.1, b.2.2.2.2⟩) (fun h => h)
theorem rd22 : Rd Tryz.prog 22 (List g_api_Head) := Rd.slice Tryz.underlying22 rd31 (by kernel_rfl) (by decide)
theorem rd24 : Rd Tryz.prog 24 (g_api_Pool) := Rd.struct Tryz.underlying24 (RdFs.last rfl rd22 (by kernel_rfl)) (by kernel_rfl) (fun b => ⟨b⟩) (fun h => h)
theorem rd47 : Rd Tryz.prog 47 (List g_api_Pool) := Rd.slice Tryz.underlying47 rd24 (by kernel_rfl) (by decide)
theorem contract (H : Type) (enc : TypeId × Value → H) (W : World) (base : Nat) (args : Array Value) (ds gs : List (DataW H)) (before : List MemPlace)
    (hval : ∀ (j : Nat) t v, Tryz.f7.params[j]? = some t → args[j]? = some v → Value.okWide Tryz.prog W .any base t v)
    (hW : DataW.Whole enc Tryz.prog Tryz.f7.params.toList Rows.gossipForksSpec.vars false W args.toList ds gs before) (hL : laidMetH Tryz.prog Rows.gossipForksRow.laid W) :
    Calls Tryz.prog 7 args W fun e W' => ∃ v, e = .returned v ∧ Rows.gossipForksSpec.post enc Tryz.prog Tryz.f7 false true false false W args v W' := by
  have hW' := hW
  obtain ⟨p, q, hA0, hV, rfl, hfz, hnd⟩ := hW
  obtain ⟨rfl, rfl⟩ := trodVars_none hV
  rw [List.append_nil] at hW'
  have hA : DataW.TrodAll enc Tryz.prog W 0 (fun _ => true) true Tryz.f7.params.toList args.toList ds p := hA0
  have hA1 := hA
  have hpl : Tryz.f7.params.toList = [47, 3, 3, 3, 3] := by rw [Tryz.params7]
  rw [hpl] at hA1
  obtain ⟨v0, w0, d0, e0, p0, q0, ha0, he0, hp0, h0, r0⟩ := trodAll_cons hA1
  obtain ⟨v1, w1, d1, e1, p1, q1, ha1, he1, hp1, h1, r1⟩ := trodAll_cons r0
  obtain ⟨v2, w2, d2, e2, p2, q2, ha2, he2, hp2, h2, r2⟩ := trodAll_cons r1
  obtain ⟨v3, w3, d3, e3, p3, q3, ha3, he3, hp3, h3, r3⟩ := trodAll_cons r2
  obtain ⟨v4, w4, d4, e4, p4, q4, ha4, he4, hp4, h4, r4⟩ := trodAll_cons r3
  obtain ⟨z1, z2, z3⟩ := trodAll_nil r4
  obtain rfl : args = #[v0, v1, v2, v3, v4] := by
    apply Array.ext'; rw [ha0, ha1, ha2, ha3, ha4, z1]
  obtain rfl : ds = [d0, d1, d2, d3, d4] := by rw [he0, he1, he2, he3, he4, z2]
  rw [Tryz.params7] at hval
  obtain ⟨x0, l0, c0, rfl⟩ := okWide_slice Tryz.underlying47 (hval 0 47 v0 rfl rfl)
  obtain ⟨a0, s0⟩ := rd47.openS h0
  obtain ⟨a1, rfl, _, _, _⟩ := open_int Tryz.underlying3 (hval 1 3 v1 rfl rfl) h1
  obtain ⟨a2, rfl, _, _, _⟩ := open_int Tryz.underlying3 (hval 2 3 v2 rfl rfl) h2
  obtain ⟨a3, rfl, _, _, _⟩ := open_int Tryz.underlying3 (hval 3 3 v3 rfl rfl) h3
  obtain ⟨a4, rfl, _, _, _⟩ := open_int Tryz.underlying3 (hval 4 3 v4 rfl rfl) h4
  have hc := v_law28_GossipForks (St.of W) s0 (forks_true a0 a1 a2 a3 a4)
  refine Calls.mono hc ?_
  rintro e W' ⟨v, rfl, hk, M, hle, S, rfl⟩
  refine ⟨.bool true, rfl, post_true (tb := 4) (by kernel_rfl) (by kernel_rfl) rfl (by kernel_rfl) Tryz.underlying4 hW' hA rfl rfl rfl hle S hk⟩
noncomputable def laidWorld (os : Os) : World :=
  { World.holding Tryz.prog os ⟨#[], #[], []⟩ with heap := (World.holding Tryz.prog os ⟨#[], #[], []⟩).heap }
theorem laid_met (os : Os) : laidMet Tryz.prog Rows.gossipForksRow.laid ((laidWorld os).forCall (fun _ _ => 0) ⟨#[], #[(.slice none 0 0 : Value), (.int .i64 0 : Value), (.int .i64 0 : Value), (.int .i64 0 : Value), (.int .i64 0 : Value)], []⟩).memory :=
  laidMet_of_run' 8 (by kernel_rfl) (by kernel_rfl)
theorem reads (os : Os) {H : Type} (enc : TypeId × Value → H) : ∃ places, DataW.whole enc Tryz.prog ((laidWorld os).forCall (fun _ _ => 0) ⟨#[], #[(.slice none 0 0 : Value), (.int .i64 0 : Value), (.int .i64 0 : Value), (.int .i64 0 : Value), (.int .i64 0 : Value)], []⟩).memory Tryz.f7.params.toList Rows.gossipForksSpec.vars false #[(.slice none 0 0 : Value), (.int .i64 0 : Value), (.int .i64 0 : Value), (.int .i64 0 : Value), (.int .i64 0 : Value)].toList 8 = some ([.nil, .lit (.int .i64 0), .lit (.int .i64 0), .lit (.int .i64 0), .lit (.int .i64 0)], [], places) :=
  ⟨[], by kernel_rfl⟩
theorem lifted (os : Os) (started : os.Started) (H : Type) (enc : TypeId × Value → H) (F : Stop.Interp) :
    ReturnsInHanded {} Tryz.checked os 7 .any ((OpenSpec.ofChange Rows.gossipForksSpec).preRow enc Tryz.prog Tryz.f7 Rows.gossipForksRow.domain false Rows.gossipForksRow.laid) (((OpenSpec.ofChange Rows.gossipForksSpec).at F).post enc Tryz.prog Tryz.f7 false true false false) := by
  obtain ⟨places, hx⟩ := reads os enc
  refine returnsInHanded_of_row (C := Tryz.checked) (s := OpenSpec.ofChange Rows.gossipForksSpec) own started (by kernel_rfl) Tryz.func7
    (witness_row_at (enc := enc) (C := Tryz.checked) false (laidWorld os) #[(.slice none 0 0 : Value), (.int .i64 0 : Value), (.int .i64 0 : Value), (.int .i64 0 : Value), (.int .i64 0 : Value)] rfl (by kernel_rfl) (by kernel_rfl) (by kernel_rfl)
      (OpenSpec.preRow_of_cond 8 hx (by kernel_rfl) (fun k hk => by cases hk) (by kernel_rfl) (laid_met os))) ?_
  intro W base args ds gs before hval hW _ _ _ hL _ _
  exact contract H enc W base args ds gs before hval hW hL
theorem said : Rows.GossipForksSaid :=
  OpenClaim.holds_of_cond 7 Tryz.f7 rfl rfl rfl rfl rfl rfl rfl ⟨rfl, rfl, rfl, rfl, rfl⟩ rfl rfl rfl rfl rfl (by kernel_rfl) Tryz.func7 (by kernel_rfl)
    (of_decide_eq_true (by kernel_rfl)) (by unfold Func.isWrapper; first | (rw [if_pos (by decide +kernel)]; kernel_rfl) | (rw [if_neg (by decide +kernel)]; exact ⟨rfl, rfl⟩))
    (fun os started H enc _ F => by rw [OpenClaim.pre_eq_preRow]; exact lifted os started H enc F)
end Go.Proofs.YtgnklegamndglaaGreat.lawGossipForks
end
