/- Several texts, one behind the other. Conditions: none. -/
import Derived.Test.YtgnklegamndglaaGreatZh
import Derived.Test.YtgnklegamndglaaGreatZi
import Derived.KernelRfl
import Derived.Test.YtgnklegamndglaaGreatZb
import Derived.Test.YtgnklegamndglaaGreatZj
import Derived.Test.YtgnklegamndglaaGreatRows
import Derived.WalkKit
import Derived.ProofKit
import Derived.OpenShut
import Derived.Deep.DeepHandedRow
import Derived.Lib.LaidTab
import Derived.SevenTiedAt
import Derived.Stop.LaidErr
set_option linter.unusedSimpArgs false
set_option linter.unusedVariables false
set_option maxHeartbeats 20000000
set_option maxRecDepth 100000
section
namespace Go.Proofs.YtgnklegamndglaaGreat
open Go Go.Gw
theorem iter_run {σ τ : Type} {step : σ → Option (σ ⊕ τ)} (st : Nat → σ) {t : τ} : ∀ (j k n : Nat), (∀ i, i < j → step (st (k + i)) = some (.inl (st (k + i + 1)))) → step (st (k + j)) = some (.inr t) → j < n → iter step n (st k) = some t := by
  intro j
  induction j with
  | zero =>
    intro k n _ h hn
    obtain ⟨n, rfl⟩ : ∃ q, n = q + 1 := ⟨n - 1, by omega⟩
    have h : step (st k) = some (.inr t) := h
    simp only [iter, h, obind_some']
  | succ j ih =>
    intro k n hs h hn
    obtain ⟨n, rfl⟩ : ∃ q, n = q + 1 := ⟨n - 1, by omega⟩
    have h0 : step (st k) = some (.inl (st (k + 1))) := hs 0 (by omega)
    simp only [iter, h0, obind_some']
    refine ih (k + 1) n (fun i hi => ?_) ?_ (by omega)
    · have := hs (i + 1) (by omega)
      rw [show k + (i + 1) = k + 1 + i from by omega] at this
      exact this
    · rw [show k + (j + 1) = k + 1 + j from by omega] at h
      exact h
def sgn (a b : Int) : Int := if a < b then -1 else if b < a then 1 else 0
theorem cmp_int_eq (a b : Int) : m_cmp_Compare_int a b = some (sgn a b) := by
  unfold m_cmp_Compare_int m_cmp_isNaN_int sgn
  by_cases h1 : a < b
  · simp [obind, bnd, h1]
  · by_cases h2 : b < a
    · simp [obind, bnd, h1, h2]
    · simp [obind, bnd, h1, h2]
end Go.Proofs.YtgnklegamndglaaGreat
end
section
namespace Go.Proofs.YtgnklegamndglaaGreat
open Go Go.Gw
abbrev S8 : Type := Bool × Int × Int × UInt64 × UInt64 × Int × UInt64 × UInt64
def pk8 (p : Bool × g_api_Head) : S8 := (p.1, p.2.Log, p.2.Size, p.2.Root.1, p.2.Root.2, p.2.At, p.2.Sig.E, p.2.Sig.S)
def lateB (x h : g_api_Head) : Bool := decide ((if sgn x.Size h.Size = 0 then sgn x.At h.At else sgn x.Size h.Size) ≥ 0)
def lastF (a : Int) (p : Bool × g_api_Head) (x : g_api_Head) : Bool × g_api_Head := bif (x.Log == a) && (!p.1 || lateB x p.2) then (true, x) else p
def noHead : g_api_Head := ⟨0, 0, (0, 0), 0, (⟨0, 0⟩ : g_api_Sig)⟩
def lastV (l : List g_api_Head) (a : Int) : Bool × g_api_Head := l.foldl (lastF a) (false, noHead)
def later (x h : g_api_Head) : Prop := h.Size < x.Size ∨ (h.Size = x.Size ∧ h.At < x.At)
end Go.Proofs.YtgnklegamndglaaGreat
end
section
namespace Go.Proofs.YtgnklegamndglaaGreat
open Go Go.Gw
def fst0 (a b : Int) : Int := if a = 0 then b else a
theorem row4_eq (a b c d : Int) : m_gossip_row [a, b, c, d] = some (fst0 a (fst0 b (fst0 c d))) := by
  unfold m_gossip_row m_cmp_Or_int fst0
  by_cases h1 : a = 0
  · by_cases h2 : b = 0
    · by_cases h3 : c = 0
      · by_cases h4 : d = 0 <;> simp [eachR, m_cmp_Or_int_b1, obind, h1, h2, h3, h4]
      · simp [eachR, m_cmp_Or_int_b1, obind, h1, h2, h3]
    · simp [eachR, m_cmp_Or_int_b1, obind, h1, h2]
  · simp [eachR, m_cmp_Or_int_b1, obind, h1]
theorem cmp_u_eq (a b : UInt64) : m_cmp_Compare_uint64 a b = some (sgn (a.toNat : Int) (b.toNat : Int)) := by
  unfold m_cmp_Compare_uint64 m_cmp_isNaN_uint64 sgn
  by_cases h1 : (a.toNat : Int) < (b.toNat : Int)
  · simp only [obind, bnd, bne_self_eq_false, Bool.false_eq_true, if_false, h1, decide_true, if_true]
  · by_cases h2 : (b.toNat : Int) < (a.toNat : Int)
    · simp only [obind, bnd, bne_self_eq_false, Bool.false_eq_true, if_false, h1, h2, decide_true, decide_false, gt_iff_lt, if_true]
    · simp only [obind, bnd, bne_self_eq_false, Bool.false_eq_true, if_false, h1, h2, decide_true, decide_false, gt_iff_lt, if_true]
theorem cmp_sum_eq (a b c d : UInt64) : m_slices_Compare_uint64_uint64 [a, b] [c, d] = some (fst0 (sgn (a.toNat : Int) (c.toNat : Int)) (sgn (b.toNat : Int) (d.toNat : Int))) := by
  have i0 : idx [a, b] (0 : Int) = some a := rfl
  have i1 : idx [a, b] (1 : Int) = some b := rfl
  have j0 : idx [c, d] (0 : Int) = some c := rfl
  have j1 : idx [c, d] (1 : Int) = some d := rfl
  unfold m_slices_Compare_uint64_uint64 fst0
  by_cases h1 : sgn (a.toNat : Int) (c.toNat : Int) = 0
  · by_cases h2 : sgn (b.toNat : Int) (d.toNat : Int) = 0
    · simp [eachN, m_slices_Compare_uint64_uint64_b1, i0, i1, j0, j1, cmp_u_eq, obind, h1, h2]
    · simp [eachN, m_slices_Compare_uint64_uint64_b1, i0, i1, j0, j1, cmp_u_eq, obind, h1, h2]
  · simp [eachN, m_slices_Compare_uint64_uint64_b1, i0, i1, j0, j1, cmp_u_eq, obind, h1]
def ordH (a b : g_api_Head) : Int :=
  fst0 (sgn a.Log b.Log) (fst0 (sgn a.Size b.Size) (fst0 (fst0 (sgn (a.Root.1.toNat : Int) (b.Root.1.toNat : Int)) (sgn (a.Root.2.toNat : Int) (b.Root.2.toNat : Int))) (sgn a.At b.At)))
theorem against_eq (a b : g_api_Head) : m_gossip_head_against a b = some (ordH a b) := by
  simp only [m_gossip_head_against, cmp_int_eq, cmp_sum_eq, obind_some', row4_eq, ordH]
theorem order_eq (a b : g_api_Head) : m_gossip_order a b = some (ordH a b) := by
  simp only [m_gossip_order, against_eq, obind_some']
end Go.Proofs.YtgnklegamndglaaGreat
end
section
namespace Go.Proofs.YtgnklegamndglaaGreat
open Go Go.Gw
theorem fst0_neg {a b : Int} : fst0 a b < 0 ↔ a < 0 ∨ (a = 0 ∧ b < 0) := by unfold fst0; split <;> omega
theorem fst0_pos {a b : Int} : 0 < fst0 a b ↔ 0 < a ∨ (a = 0 ∧ 0 < b) := by unfold fst0; split <;> omega
theorem fst0_zero {a b : Int} : fst0 a b = 0 ↔ a = 0 ∧ b = 0 := by unfold fst0; split <;> omega
theorem sgn_neg {a b : Int} : sgn a b < 0 ↔ a < b := by unfold sgn; split <;> (try split) <;> omega
theorem sgn_pos {a b : Int} : 0 < sgn a b ↔ b < a := by unfold sgn; split <;> (try split) <;> omega
theorem sgn_zero {a b : Int} : sgn a b = 0 ↔ a = b := by unfold sgn; split <;> (try split) <;> omega
def ltH (a b : g_api_Head) : Prop :=
  a.Log < b.Log ∨ (a.Log = b.Log ∧ (a.Size < b.Size ∨ (a.Size = b.Size ∧ (((a.Root.1.toNat : Int) < (b.Root.1.toNat : Int) ∨ ((a.Root.1.toNat : Int) = (b.Root.1.toNat : Int) ∧ (a.Root.2.toNat : Int) < (b.Root.2.toNat : Int))) ∨ (((a.Root.1.toNat : Int) = (b.Root.1.toNat : Int) ∧ (a.Root.2.toNat : Int) = (b.Root.2.toNat : Int)) ∧ a.At < b.At)))))
def eqH (a b : g_api_Head) : Prop := a.Log = b.Log ∧ a.Size = b.Size ∧ ((a.Root.1.toNat : Int) = (b.Root.1.toNat : Int) ∧ (a.Root.2.toNat : Int) = (b.Root.2.toNat : Int)) ∧ a.At = b.At
theorem ordH_neg {a b : g_api_Head} : ordH a b < 0 ↔ ltH a b := by unfold ordH ltH; simp only [fst0_neg, fst0_zero, sgn_neg, sgn_zero]
theorem ordH_zero {a b : g_api_Head} : ordH a b = 0 ↔ eqH a b := by unfold ordH eqH; simp only [fst0_zero, sgn_zero]
theorem ltH_irrefl (a : g_api_Head) : ¬ ltH a a := by unfold ltH; omega
theorem ltH_trans {a b c : g_api_Head} (h : ltH a b) (k : ltH b c) : ltH a c := by unfold ltH at *; omega
theorem ltH_tri (a b : g_api_Head) : ltH a b ∨ eqH a b ∨ ltH b a := by unfold ltH eqH; omega
theorem ordH_pos {a b : g_api_Head} : 0 < ordH a b ↔ ltH b a := by
  unfold ordH ltH; simp only [fst0_pos, fst0_zero, sgn_pos, sgn_zero]; omega
theorem eqH_refl (a : g_api_Head) : eqH a a := ⟨rfl, rfl, ⟨rfl, rfl⟩, rfl⟩
theorem ltH_eq {a b c : g_api_Head} (h : ltH a b) (k : eqH b c) : ltH a c := by unfold ltH eqH at *; omega
theorem eq_ltH {a b c : g_api_Head} (h : eqH a b) (k : ltH b c) : ltH a c := by unfold ltH eqH at *; omega
end Go.Proofs.YtgnklegamndglaaGreat
end
section
namespace Go.Proofs.YtgnklegamndglaaGreat
open Go Go.Gw
theorem live28_true : m_law28_live = some true := by kernel_rfl
end Go.Proofs.YtgnklegamndglaaGreat
end
section
namespace Go.Proofs.YtgnklegamndglaaGreat
open Go Go.Gw
theorem idx_at {α : Type} {l : List α} {i : Nat} (h : i < l.length) : idx l (i : Int) = some l[i] := idx_nat (List.getElem?_eq_getElem h)
theorem w64_suc {i n : Nat} (h : i < n) (hn : n ≤ 1099511627776) : w64 ((i : Int) + 1) = ((i + 1 : Nat) : Int) := by rw [w64_in (by omega) (by omega)]; omega
def placeB (h x : g_api_Head) : Bool := (((x.Log == h.Log) && (x.Size == h.Size)) && (eqSum x.Root h.Root)) && (x.At == h.At)
theorem place_step {l : List g_api_Head} {h : g_api_Head} {i : Nat} (hi : i < l.length) (hn : l.length ≤ 1099511627776) : m_law28_place_b2 l h (i : Int) = some (if placeB h l[i] = true then .inr (.inr true) else .inl ((i + 1 : Nat) : Int)) := by
  unfold m_law28_place_b2 placeB
  rw [if_pos (by simpa using hi), idx_at hi, obind_some', w64_suc hi hn]
  cases h1 : l[i].Log == h.Log
  · simp [gu, obind]
  cases h2 : l[i].Size == h.Size
  · simp [gu, obind, h2]
  cases h3 : eqSum l[i].Root h.Root
  · simp [gu, obind, h2, h3]
  cases h4 : l[i].At == h.At <;> simp [gu, obind, h2, h3, h4]
def anyB (a : Int) (l : List g_api_Head) (i : Nat) : Bool := (l.take i).any fun x => x.Log == a
end Go.Proofs.YtgnklegamndglaaGreat
end
section
namespace Go.Proofs.YtgnklegamndglaaGreat
open Go Go.Gw
def chB : List g_api_Head → Bool
  | a :: b :: l => decide (ordH a b < 0) && chB (b :: l)
  | _ => true
theorem w64_pre {i n : Nat} (h : i < n) (h1 : 1 ≤ i) (hn : n ≤ 1099511627776) : w64 ((i : Int) - 1) = ((i - 1 : Nat) : Int) := by rw [w64_in (by omega) (by omega)]; omega
theorem drop2 {l : List g_api_Head} {i : Nat} (h1 : 1 ≤ i) (h : i < l.length) : l.drop (i - 1) = l[i - 1] :: l[i] :: l.drop (i + 1) := by
  rw [List.drop_eq_getElem_cons (show i - 1 < l.length by omega)]
  congr 1
  rw [show i - 1 + 1 = i from by omega, List.drop_eq_getElem_cons h]
theorem chB_drop {l : List g_api_Head} {i : Nat} (h1 : 1 ≤ i) (h : i < l.length) : chB (l.drop (i - 1)) = (decide (ordH l[i - 1] l[i] < 0) && chB (l.drop i)) := by
  rw [drop2 h1 h, chB, List.drop_eq_getElem_cons h]
theorem chB_end {l : List g_api_Head} {i : Nat} (h : l.length ≤ i) : chB (l.drop (i - 1)) = true := by
  have hl : (l.drop (i - 1)).length ≤ 1 := by rw [List.length_drop]; omega
  match hd : l.drop (i - 1), hl with
  | [], _ => rfl
  | [a], _ => rfl
  | a :: b :: l', hl => simp at hl
theorem ord_step {a0 : g_api_Pool} (hn : a0.L.length ≤ 1099511627776) {i : Nat} (h1 : 1 ≤ i) (hi : i < a0.L.length) : m_gossip_ordered_b2 a0 (i : Int) () = some (if ordH a0.L[i - 1] a0.L[i] < 0 then .inl () else .inr false) := by
  unfold m_gossip_ordered_b2
  have hp : decide ((i : Int) > 0) = true := by simp; omega
  rw [w64_pre hi h1 hn, hp, idx_at (show i - 1 < a0.L.length by omega), idx_at hi]
  simp only [gu, cond_true, obind_some', order_eq, Bool.true_and]
  by_cases h : ordH a0.L[i - 1] a0.L[i] < 0
  · rw [if_neg (by simp; omega), if_pos h]
  · rw [if_pos (by simp; omega), if_neg h]
theorem ord_from {a0 : g_api_Pool} (hn : a0.L.length ≤ 1099511627776) : ∀ (k i : Nat), 1 ≤ i → a0.L.length = i + k →
    eachN (m_gossip_ordered_b2 a0) k (i : Int) () = some (if chB (a0.L.drop (i - 1)) = true then .inl () else .inr false) := by
  intro k
  induction k with
  | zero => intro i h1 hk; rw [if_pos (chB_end (by omega))]; rfl
  | succ k ih =>
    intro i h1 hk
    have hi : i < a0.L.length := by omega
    rw [chB_drop h1 hi]
    by_cases h : ordH a0.L[i - 1] a0.L[i] < 0
    · simp only [eachN, ord_step hn h1 hi, if_pos h, obind_some', h, decide_true, Bool.true_and]
      have := ih (i + 1) (by omega) (by omega)
      rw [Nat.add_sub_cancel] at this
      exact this
    · simp only [eachN, ord_step hn h1 hi, if_neg h, obind_some', h, decide_false, Bool.false_and]
      rfl
theorem ordered_eq {a0 : g_api_Pool} (hn : a0.L.length ≤ 1099511627776) : m_gossip_ordered a0 = some (chB a0.L) := by
  unfold m_gossip_ordered
  cases hl : a0.L.length with
  | zero =>
    have : a0.L = [] := List.eq_nil_of_length_eq_zero hl
    rw [this]; rfl
  | succ k =>
    have h0 : m_gossip_ordered_b2 a0 0 () = some (.inl ()) := by
      unfold m_gossip_ordered_b2; simp [gu, obind]
    simp only [eachN, h0, obind_some']
    have := ord_from hn k 1 (by omega) (by omega)
    rw [show ((1 : Nat) : Int) = 0 + 1 from rfl, show 1 - 1 = 0 from rfl, List.drop_zero] at this
    rw [this]
    cases chB a0.L <;> rfl
end Go.Proofs.YtgnklegamndglaaGreat
end
section
namespace Go.Proofs.YtgnklegamndglaaGreat
open Go Go.Gw
theorem srt_iff : ∀ (l : List g_api_Head), chB l = true ↔ l.Pairwise ltH
  | [] => by simp [chB]
  | [a] => by simp [chB]
  | a :: b :: l => by
    rw [chB, Bool.and_eq_true, decide_eq_true_eq, ordH_neg, srt_iff (b :: l), List.pairwise_cons (a := a)]
    constructor
    · rintro ⟨h, k⟩
      refine ⟨fun x hx => ?_, k⟩
      rcases List.mem_cons.1 hx with rfl | hx
      · exact h
      · exact ltH_trans h ((List.pairwise_cons.1 k).1 x hx)
    · rintro ⟨h, k⟩; exact ⟨h b (by simp), k⟩
theorem eqH_symm {a b : g_api_Head} (h : eqH a b) : eqH b a := by unfold eqH at *; omega
theorem lt_ne {a b : g_api_Head} (h : ltH a b) (k : eqH a b) : False := ltH_irrefl b (eq_ltH (eqH_symm k) h)
theorem lt_ne' {a b : g_api_Head} (h : ltH a b) (k : eqH b a) : False := lt_ne h (eqH_symm k)
def hasH (l : List g_api_Head) (z : g_api_Head) : Prop := ∃ x ∈ l, eqH x z
theorem hasH_mem {l : List g_api_Head} {z : g_api_Head} (h : z ∈ l) : hasH l z := ⟨z, h, eqH_refl z⟩
def zipH : List g_api_Head → List g_api_Head → List g_api_Head
  | [], b => b
  | x :: a, [] => x :: a
  | x :: a, y :: b => if 0 < ordH x y then y :: zipH (x :: a) b else x :: zipH a (if ordH x y = 0 then b else y :: b)
termination_by a b => a.length + b.length
decreasing_by
  · simp only [List.length_cons]; omega
  · split <;> simp only [List.length_cons] <;> omega
theorem zip_nil (a : List g_api_Head) : zipH a [] = a := by cases a <;> simp [zipH]
theorem nil_zip (b : List g_api_Head) : zipH [] b = b := by simp [zipH]
theorem zip_cons (x y : g_api_Head) (a b : List g_api_Head) : zipH (x :: a) (y :: b) = if 0 < ordH x y then y :: zipH (x :: a) b else x :: zipH a (if ordH x y = 0 then b else y :: b) := by rw [zipH]
theorem zip_spec : ∀ (n : Nat) (a b : List g_api_Head), a.length + b.length ≤ n → a.Pairwise ltH → b.Pairwise ltH →
    (zipH a b).Pairwise ltH ∧ ∀ z, z ∈ zipH a b ↔ z ∈ a ∨ (z ∈ b ∧ ¬ hasH a z) := by
  intro n
  induction n with
  | zero =>
    intro a b h ha hb
    have h1 : a = [] := List.eq_nil_of_length_eq_zero (by omega)
    have h2 : b = [] := List.eq_nil_of_length_eq_zero (by omega)
    subst h1; subst h2
    rw [nil_zip]
    simp
  | succ n ih =>
    intro a b h ha hb
    match a, b with
    | [], b => rw [nil_zip]; exact ⟨hb, fun z => by simp [hasH]⟩
    | x :: a, [] => rw [zip_nil]; exact ⟨ha, fun z => by simp⟩
    | x :: a, y :: b =>
      have hxa := (List.pairwise_cons.1 ha).1
      have hyb := (List.pairwise_cons.1 hb).1
      simp only [List.length_cons] at h
      rw [zip_cons]
      by_cases h1 : 0 < ordH x y
      · rw [if_pos h1]
        have hyx := ordH_pos.1 h1
        obtain ⟨k1, k2⟩ := ih (x :: a) b (by simp only [List.length_cons]; omega) ha (List.pairwise_cons.1 hb).2
        have hlow : ∀ z ∈ x :: a, ltH y z := fun z hz => by
          rcases List.mem_cons.1 hz with rfl | hz
          · exact hyx
          · exact ltH_trans hyx (hxa z hz)
        refine ⟨List.pairwise_cons.2 ⟨fun z hz => ?_, k1⟩, fun z => ?_⟩
        · rcases (k2 z).1 hz with q | q
          · exact hlow z q
          · exact hyb z q.1
        · rw [List.mem_cons, k2 z, List.mem_cons (a := z) (b := y)]
          constructor
          · rintro (rfl | q | q)
            · exact .inr ⟨.inl rfl, fun ⟨w, hw, he⟩ => lt_ne' (hlow w hw) he⟩
            · exact .inl q
            · exact .inr ⟨.inr q.1, q.2⟩
          · rintro (q | ⟨rfl | q, r⟩)
            · exact .inr (.inl q)
            · exact .inl rfl
            · exact .inr (.inr ⟨q, r⟩)
      · rw [if_neg h1]
        by_cases h0 : ordH x y = 0
        · rw [if_pos h0]
          have he := ordH_zero.1 h0
          obtain ⟨k1, k2⟩ := ih a b (by omega) (List.pairwise_cons.1 ha).2 (List.pairwise_cons.1 hb).2
          refine ⟨List.pairwise_cons.2 ⟨fun z hz => ?_, k1⟩, fun z => ?_⟩
          · rcases (k2 z).1 hz with q | q
            · exact hxa z q
            · exact eq_ltH he (hyb z q.1)
          · rw [List.mem_cons, k2 z, List.mem_cons (a := z) (b := x), List.mem_cons (a := z) (b := y)]
            constructor
            · rintro (rfl | q | q)
              · exact .inl (.inl rfl)
              · exact .inl (.inr q)
              · refine .inr ⟨.inr q.1, fun ⟨w, hw, hq⟩ => ?_⟩
                rcases List.mem_cons.1 hw with rfl | hw
                · exact lt_ne (eq_ltH he (hyb z q.1)) hq
                · exact q.2 ⟨w, hw, hq⟩
            · rintro ((rfl | q) | ⟨rfl | q, r⟩)
              · exact .inl rfl
              · exact .inr (.inl q)
              · exact absurd ⟨x, by simp, he⟩ r
              · exact .inr (.inr ⟨q, fun ⟨w, hw, hq⟩ => r ⟨w, List.mem_cons_of_mem _ hw, hq⟩⟩)
        · rw [if_neg h0]
          have hxy : ltH x y := ordH_neg.1 (by omega)
          obtain ⟨k1, k2⟩ := ih a (y :: b) (by simp only [List.length_cons]; omega) (List.pairwise_cons.1 ha).2 hb
          have hlow : ∀ z ∈ y :: b, ltH x z := fun z hz => by
            rcases List.mem_cons.1 hz with rfl | hz
            · exact hxy
            · exact ltH_trans hxy (hyb z hz)
          refine ⟨List.pairwise_cons.2 ⟨fun z hz => ?_, k1⟩, fun z => ?_⟩
          · rcases (k2 z).1 hz with q | q
            · exact hxa z q
            · exact hlow z q.1
          · rw [List.mem_cons, k2 z, List.mem_cons (a := z) (b := x)]
            constructor
            · rintro (rfl | q | q)
              · exact .inl (.inl rfl)
              · exact .inl (.inr q)
              · refine .inr ⟨q.1, fun ⟨w, hw, hq⟩ => ?_⟩
                rcases List.mem_cons.1 hw with rfl | hw
                · exact lt_ne (hlow z q.1) hq
                · exact q.2 ⟨w, hw, hq⟩
            · rintro ((rfl | q) | ⟨q, r⟩)
              · exact .inl rfl
              · exact .inr (.inl q)
              · exact .inr (.inr ⟨q, fun ⟨w, hw, hq⟩ => r ⟨w, List.mem_cons_of_mem _ hw, hq⟩⟩)
theorem zip_srt {a b : List g_api_Head} (ha : a.Pairwise ltH) (hb : b.Pairwise ltH) : (zipH a b).Pairwise ltH := (zip_spec _ a b (Nat.le_refl _) ha hb).1
theorem zip_mem {a b : List g_api_Head} (ha : a.Pairwise ltH) (hb : b.Pairwise ltH) (z : g_api_Head) : z ∈ zipH a b ↔ z ∈ a ∨ (z ∈ b ∧ ¬ hasH a z) := (zip_spec _ a b (Nat.le_refl _) ha hb).2 z
theorem zip_len : ∀ (n : Nat) (a b : List g_api_Head), a.length + b.length ≤ n → (zipH a b).length ≤ a.length + b.length := by
  intro n
  induction n with
  | zero =>
    intro a b h
    have h1 : a = [] := List.eq_nil_of_length_eq_zero (by omega)
    have h2 : b = [] := List.eq_nil_of_length_eq_zero (by omega)
    subst h1; subst h2
    rw [nil_zip]; simp
  | succ n ih =>
    intro a b h
    match a, b with
    | [], b => rw [nil_zip]; simp
    | x :: a, [] => rw [zip_nil]; simp
    | x :: a, y :: b =>
      simp only [List.length_cons] at h
      rw [zip_cons]
      split
      · have := ih (x :: a) b (by simp only [List.length_cons]; omega)
        simp only [List.length_cons] at *; omega
      · split
        · have := ih a b (by omega)
          simp only [List.length_cons] at *; omega
        · have := ih a (y :: b) (by simp only [List.length_cons]; omega)
          simp only [List.length_cons] at *; omega
def alikeH : List g_api_Head → List g_api_Head → Prop
  | [], [] => True
  | x :: a, y :: b => eqH x y ∧ alikeH a b
  | _, _ => False
def withH : List g_api_Head → g_api_Head → List g_api_Head
  | [], h => [h]
  | x :: l, h => if ordH x h < 0 then x :: withH l h else h :: x :: l
theorem with_mem {h z : g_api_Head} : ∀ {l : List g_api_Head}, z ∈ withH l h ↔ z = h ∨ z ∈ l
  | [] => by simp [withH]
  | x :: l => by
    rw [withH]
    split
    · rw [List.mem_cons, with_mem, List.mem_cons]
      constructor
      · rintro (q | q | q)
        · exact .inr (.inl q)
        · exact .inl q
        · exact .inr (.inr q)
      · rintro (q | q | q)
        · exact .inr (.inl q)
        · exact .inl q
        · exact .inr (.inr q)
    · rw [List.mem_cons]
theorem with_srt {h : g_api_Head} : ∀ {l : List g_api_Head}, l.Pairwise ltH → ¬ hasH l h → (withH l h).Pairwise ltH
  | [], _, _ => by simp [withH]
  | x :: l, hl, hn => by
    have hxl := (List.pairwise_cons.1 hl).1
    rw [withH]
    split
    · rename_i q
      have q := ordH_neg.1 q
      refine List.pairwise_cons.2 ⟨fun z hz => ?_, with_srt (List.pairwise_cons.1 hl).2 (fun ⟨w, hw, he⟩ => hn ⟨w, List.mem_cons_of_mem _ hw, he⟩)⟩
      rcases with_mem.1 hz with rfl | hz
      · exact q
      · exact hxl z hz
    · rename_i q
      have hhx : ltH h x := by
        rcases ltH_tri x h with r | r | r
        · exact absurd (ordH_neg.2 r) q
        · exact absurd ⟨x, by simp, r⟩ hn
        · exact r
      refine List.pairwise_cons.2 ⟨fun z hz => ?_, hl⟩
      rcases List.mem_cons.1 hz with rfl | hz
      · exact hhx
      · exact ltH_trans hhx (hxl z hz)
theorem with_len (h : g_api_Head) : ∀ (l : List g_api_Head), (withH l h).length = l.length + 1
  | [] => rfl
  | x :: l => by rw [withH]; split <;> simp [with_len h l]
instance eqH_dec (a b : g_api_Head) : Decidable (eqH a b) := by unfold eqH; infer_instance
def hasB (l : List g_api_Head) (z : g_api_Head) : Bool := l.any fun x => decide (eqH x z)
theorem hasB_iff {l : List g_api_Head} {z : g_api_Head} : hasB l z = true ↔ hasH l z := by simp [hasB, hasH]
def defF (p : List g_api_Head) (out : List g_api_Head) (y : g_api_Head) : List g_api_Head := if hasB p y then out else withH out y
end Go.Proofs.YtgnklegamndglaaGreat
end
section
namespace Go.Proofs.YtgnklegamndglaaGreat
open Go Go.Gw
def unlB (a b : g_api_Head) : Bool := (a.Log == b.Log) && (a.Size == b.Size) && (a.Root != b.Root)
def forkL : List g_api_Head → Option (g_api_Head × g_api_Head)
  | [] => none
  | x :: l => match l.find? (unlB x) with
    | some y => some (x, y)
    | none => forkL l
def mrg (p q : List g_api_Head) : List g_api_Head := if (chB p && chB q) = true then zipH p q else []
theorem mrg_srt {p q : List g_api_Head} (hp : p.Pairwise ltH) (hq : q.Pairwise ltH) : mrg p q = zipH p q := by
  unfold mrg; rw [if_pos (by rw [(srt_iff p).2 hp, (srt_iff q).2 hq]; rfl)]
def okP (out : List (List g_api_Head)) (p : Int × Int) : Bool := !(p.1 == p.2) && decide (0 ≤ p.1) && decide (0 ≤ p.2) && decide (p.1 < out.length) && decide (p.2 < out.length)
def tellS (out : List (List g_api_Head)) (p : Int × Int) : List (List g_api_Head) :=
  if okP out p = true then (out.set p.1.toNat (mrg (out.getD p.1.toNat []) (out.getD p.2.toNat []))).set p.2.toNat (mrg (out.getD p.1.toNat []) (out.getD p.2.toNat [])) else out
def accH (l : List (List g_api_Head)) : Nat → List g_api_Head
  | 0 => l.getD 0 []
  | j + 1 => zipH (accH l j) (l.getD (j + 1) [])
def upP (n : Nat) : List (Int × Int) := (List.range (n - 1)).map fun (i : Nat) => ((i : Int), ((i + 1 : Nat) : Int))
def dnP (n : Nat) : List (Int × Int) := (List.range (n - 1)).map fun (i : Nat) => (((n - 1 - i : Nat) : Int), ((n - 2 - i : Nat) : Int))
end Go.Proofs.YtgnklegamndglaaGreat
end
section
namespace Go.Proofs.YtgnklegamndglaaGreat
open Go Go.Gw
theorem appL {α : Type} {b : Nat} {xs ys : List α} (h : xs.length + ys.length ≤ 2199023255552) (hb : b ≤ 56) : app b xs ys = some (xs ++ ys) := by
  unfold app
  have : (xs.length + ys.length) * b ≤ 2199023255552 * 56 := Nat.mul_le_mul h hb
  rw [if_pos ⟨by omega, by omega⟩]
theorem cutL {α : Type} {xs : List α} {lo hi : Nat} (h1 : lo ≤ hi) (h2 : hi ≤ xs.length) : cut xs (lo : Int) (hi : Int) = some ((xs.drop lo).take (hi - lo)) := by
  unfold cut; rw [if_pos ⟨by omega, by omega, by omega⟩]; simp
theorem cut_tl {α : Type} (x : α) (xs : List α) : cut (x :: xs) 1 (((x :: xs).length : Nat) : Int) = some xs := by
  have := cutL (xs := x :: xs) (lo := 1) (hi := (x :: xs).length) (by simp) (Nat.le_refl _)
  rw [show ((1 : Nat) : Int) = 1 from rfl] at this
  rw [this]; simp
theorem idx_hd {α : Type} (x : α) (xs : List α) : idx (x :: xs) 0 = some x := rfl
theorem iter_rng {τ : Type} {step : Int → Option (Int ⊕ (Unit ⊕ τ))} {good : Nat → Bool} {bad : τ} {len : Nat} (hn : len ≤ 1099511627776) (hs : ∀ i, i < len → step (i : Int) = some (if good i = true then .inl (w64 ((i : Int) + 1)) else .inr (.inr bad))) (he : step (len : Int) = some (.inr (.inl ()))) :
    ∀ (k i n : Nat), i + k = len → k < n → iter step n (i : Int) = some (if (List.range' i k).all good = true then .inl () else .inr bad) := by
  intro k
  induction k with
  | zero =>
    intro i n hi hn'
    obtain ⟨n, rfl⟩ : ∃ q, n = q + 1 := ⟨n - 1, by omega⟩
    have : i = len := by omega
    subst this
    simp only [iter, he, obind_some']
    rfl
  | succ k ih =>
    intro i n hi hn'
    obtain ⟨n, rfl⟩ : ∃ q, n = q + 1 := ⟨n - 1, by omega⟩
    have h := hs i (by omega)
    rw [w64_suc (show i < len by omega) hn] at h
    rw [List.range'_succ, List.all_cons]
    cases hg : good i
    · rw [hg] at h
      simp only [iter, h, obind_some', Bool.false_and]
      rfl
    · rw [hg] at h
      simp only [iter, h, obind_some', Bool.true_and, if_pos]
      exact ih (i + 1) n (by omega) (by omega)
theorem iter_all {τ : Type} {step : Int → Option (Int ⊕ (Unit ⊕ τ))} {good : Nat → Bool} {bad : τ} (len : Nat) (hn : len ≤ 1099511627776) (hs : ∀ i, i < len → step (i : Int) = some (if good i = true then .inl (w64 ((i : Int) + 1)) else .inr (.inr bad))) (he : step (len : Int) = some (.inr (.inl ()))) :
    iter step FUEL 0 = some (if (List.range len).all good = true then .inl () else .inr bad) := by
  have := iter_rng hn hs he len 0 FUEL (by omega) (by unfold FUEL; omega)
  rw [List.range_eq_range']
  exact this
theorem rng_all {α : Type} {l : List α} {p : α → Bool} {good : Nat → Bool} (h : ∀ i (hi : i < l.length), good i = p l[i]) : (List.range l.length).all good = l.all p := by
  rw [Bool.eq_iff_iff, List.all_eq_true, List.all_eq_true]
  constructor
  · intro k x hx
    obtain ⟨i, hi, he⟩ := List.mem_iff_getElem.1 hx
    rw [← he, ← h i hi]; exact k i (List.mem_range.2 hi)
  · intro k i hi
    have hi := List.mem_range.1 hi
    rw [h i hi]; exact k _ (List.getElem_mem hi)
theorem iter_list {α τ : Type} {step : Int → Option (Int ⊕ (Unit ⊕ τ))} (l : List α) (p : α → Bool) {bad : τ} (hn : l.length ≤ 1099511627776) (hs : ∀ i (hi : i < l.length), step (i : Int) = some (if p l[i] = true then .inl (w64 ((i : Int) + 1)) else .inr (.inr bad))) (he : step (l.length : Int) = some (.inr (.inl ()))) :
    iter step FUEL 0 = some (if l.all p = true then .inl () else .inr bad) := by
  have h2 := rng_all (l := l) (p := p) (good := fun i => if h : i < l.length then p l[i] else true) (fun i hi => by simp [hi])
  rw [← h2]
  refine iter_all l.length hn (fun i hi => ?_) he
  rw [hs i hi]
  simp [hi]
theorem zip_it : ∀ (n : Nat) (a b out : List g_api_Head) (m : Nat), a.length + b.length ≤ n → n < m → out.length + a.length + b.length ≤ 2199023255552 →
    ∃ a' b' o', iter m_gossip_zip_gossip_head_50x_b1 m (a, b, out) = some (a', b', o') ∧ o' ++ a' ++ b' = out ++ zipH a b ∧ o'.length + a'.length + b'.length ≤ 2199023255552 := by
  intro n
  induction n with
  | zero =>
    intro a b out m h hm hl
    have h1 : a = [] := List.eq_nil_of_length_eq_zero (by omega)
    have h2 : b = [] := List.eq_nil_of_length_eq_zero (by omega)
    subst h1; subst h2
    obtain ⟨m, rfl⟩ : ∃ q, m = q + 1 := ⟨m - 1, by omega⟩
    exact ⟨[], [], out, rfl, by rw [nil_zip]; simp, by simpa using hl⟩
  | succ n ih =>
    intro a b out m h hm hl
    obtain ⟨m, rfl⟩ : ∃ q, m = q + 1 := ⟨m - 1, by omega⟩
    match a, b with
    | [], b => exact ⟨[], b, out, rfl, by rw [nil_zip]; simp, hl⟩
    | x :: a, [] =>
      refine ⟨x :: a, [], out, ?_, by rw [zip_nil]; simp, hl⟩
      have : m_gossip_zip_gossip_head_50x_b1 (x :: a, [], out) = some (.inr (x :: a, [], out)) := by
        unfold m_gossip_zip_gossip_head_50x_b1; rw [if_neg (by simp)]
      simp only [iter, this, obind_some']
    | x :: a, y :: b =>
      simp only [List.length_cons] at h hl
      have ha1 : ∀ z : g_api_Head, app 56 out [z] = some (out ++ [z]) := fun z => appL (by simp only [List.length_cons, List.length_nil]; omega) (by decide)
      have hs : m_gossip_zip_gossip_head_50x_b1 (x :: a, y :: b, out) = some (.inl (if 0 < ordH x y then (x :: a, b, out ++ [y]) else if ordH x y = 0 then (a, b, out ++ [x]) else (a, y :: b, out ++ [x]))) := by
        unfold m_gossip_zip_gossip_head_50x_b1
        rw [if_pos (by simp)]
        simp only [idx_hd, obind_some', against_eq, ha1, cut_tl]
        by_cases c1 : 0 < ordH x y
        · simp [c1]
        · by_cases c2 : ordH x y = 0 <;> simp [c1, c2]
      rw [zip_cons]
      simp only [iter, hs, obind_some']
      by_cases c1 : 0 < ordH x y
      · simp only [if_pos c1]
        obtain ⟨a', b', o', k1, k2, k3⟩ := ih (x :: a) b (out ++ [y]) m (by simp only [List.length_cons]; omega) (by omega) (by simp only [List.length_append, List.length_cons, List.length_nil]; omega)
        exact ⟨a', b', o', k1, by rw [k2]; simp, k3⟩
      · by_cases c2 : ordH x y = 0
        · simp only [if_neg c1, if_pos c2]
          obtain ⟨a', b', o', k1, k2, k3⟩ := ih a b (out ++ [x]) m (by omega) (by omega) (by simp only [List.length_append, List.length_cons, List.length_nil]; omega)
          exact ⟨a', b', o', k1, by rw [k2]; simp, k3⟩
        · simp only [if_neg c1, if_neg c2]
          obtain ⟨a', b', o', k1, k2, k3⟩ := ih a (y :: b) (out ++ [x]) m (by simp only [List.length_cons]; omega) (by omega) (by simp only [List.length_append, List.length_cons, List.length_nil]; omega)
          exact ⟨a', b', o', k1, by rw [k2]; simp, k3⟩
theorem zip_eq {a b : List g_api_Head} (h : a.length + b.length ≤ 2199023255552) : m_gossip_zip_gossip_head_50x a b = some (zipH a b) := by
  obtain ⟨a', b', o', k1, k2, k3⟩ := zip_it (a.length + b.length) a b [] FUEL (Nat.le_refl _) (by unfold FUEL; omega) (by simpa using h)
  unfold m_gossip_zip_gossip_head_50x
  rw [k1]
  simp only [obind_some']
  rw [appL (by omega) (by decide), obind_some', appL (by rw [List.length_append]; omega) (by decide), obind_some', k2, List.nil_append]
theorem as_it : ∀ (l out : List g_api_Head) (i : Int), out.length + l.length ≤ 2199023255552 → each0 m_gossip_as_api_Head_gossip_head_47x_b1 l i out = some (out ++ l)
  | [], out, i, _ => by simp [each0]
  | x :: l, out, i, h => by
    simp only [List.length_cons] at h
    simp only [each0, m_gossip_as_api_Head_gossip_head_47x_b1, m_gossip_Merge_1, obind_some']
    rw [appL (by simp only [List.length_cons, List.length_nil]; omega) (by decide), obind_some', obind_some', as_it l _ _ (by simp only [List.length_append, List.length_cons, List.length_nil]; omega)]
    simp
theorem as_eq {l : List g_api_Head} (h : l.length ≤ 2199023255552) : m_gossip_as_api_Head_gossip_head_47x l = some l := by
  unfold m_gossip_as_api_Head_gossip_head_47x
  rw [as_it l [] 0 (by simpa using h)]; rfl
theorem as2_it : ∀ (l out : List g_api_Head) (i : Int), out.length + l.length ≤ 2199023255552 → each0 m_gossip_as_gossip_head_api_Head_52x_b1 l i out = some (out ++ l)
  | [], out, i, _ => by simp [each0]
  | x :: l, out, i, h => by
    simp only [List.length_cons] at h
    simp only [each0, m_gossip_as_gossip_head_api_Head_52x_b1, m_gossip_Merge_2, obind_some']
    rw [appL (by simp only [List.length_cons, List.length_nil]; omega) (by decide), obind_some', obind_some', as2_it l _ _ (by simp only [List.length_append, List.length_cons, List.length_nil]; omega)]
    simp
theorem as2_eq {l : List g_api_Head} (h : l.length ≤ 2199023255552) : m_gossip_as_gossip_head_api_Head_52x l = some l := by
  unfold m_gossip_as_gossip_head_api_Head_52x
  rw [as2_it l [] 0 (by simpa using h)]; rfl
theorem merge_eq {p q : g_api_Pool} (hp : p.L.length ≤ 1099511627776) (hq : q.L.length ≤ 1099511627776) : m_gossip_Merge p q = some ⟨mrg p.L q.L⟩ := by
  unfold m_gossip_Merge mrg
  rw [ordered_eq hp, obind_some', ordered_eq hq]
  cases chB p.L
  · simp [gu, obind]
  · cases chB q.L
    · simp [gu, obind]
    · have := zip_len _ p.L q.L (Nat.le_refl _)
      simp only [gu, Bool.not_true, Bool.not_false, cond_true, obind_some', Bool.or_self, Bool.false_eq_true, if_false, Bool.and_self, if_true]
      rw [as_eq (by omega), obind_some', as_eq (by omega), obind_some', zip_eq (by omega), obind_some', as2_eq (by omega), obind_some']
theorem eqSum_iff (a b : UInt64 × UInt64) : eqSum a b = true ↔ (a.1.toNat : Int) = (b.1.toNat : Int) ∧ (a.2.toNat : Int) = (b.2.toNat : Int) := by
  have h : eqSum a b = true ↔ a.1 = b.1 ∧ a.2 = b.2 := by unfold eqSum; simp
  rw [h]
  constructor
  · rintro ⟨h1, h2⟩; rw [h1, h2]; exact ⟨rfl, rfl⟩
  · rintro ⟨h1, h2⟩
    exact ⟨UInt64.toNat_inj.1 (by omega), UInt64.toNat_inj.1 (by omega)⟩
theorem place_cond (a b : g_api_Head) : ((((a.Log == b.Log) && (a.Size == b.Size)) && (eqSum a.Root b.Root)) && (a.At == b.At)) = decide (eqH a b) := by
  rw [Bool.eq_iff_iff, decide_eq_true_iff]
  unfold eqH
  rw [Bool.and_eq_true, Bool.and_eq_true, Bool.and_eq_true, beq_iff_eq, beq_iff_eq, beq_iff_eq, eqSum_iff]
  constructor
  · rintro ⟨⟨⟨a, b⟩, c⟩, d⟩; exact ⟨a, b, c, d⟩
  · rintro ⟨a, b, c, d⟩; exact ⟨⟨⟨a, b⟩, c⟩, d⟩
def cntH (h : g_api_Head) : List g_api_Head → Nat
  | [] => 0
  | x :: l => if ordH x h < 0 then cntH h l + 1 else 0
theorem cnt_le (h : g_api_Head) : ∀ l : List g_api_Head, cntH h l ≤ l.length
  | [] => by simp [cntH]
  | x :: l => by have := cnt_le h l; unfold cntH; split <;> simp <;> omega
theorem cnt_at {h : g_api_Head} : ∀ {l : List g_api_Head} (hi : cntH h l < l.length), ¬ ordH l[cntH h l] h < 0
  | [], hi => by simp at hi
  | x :: l, hi => by
    by_cases c : ordH x h < 0
    · have e : cntH h (x :: l) = cntH h l + 1 := by rw [cntH, if_pos c]
      have hi' : cntH h l < l.length := by rw [e] at hi; simpa using hi
      have := cnt_at hi'
      simp only [e, List.getElem_cons_succ]
      exact this
    · have e : cntH h (x :: l) = 0 := by rw [cntH, if_neg c]
      simp only [e, List.getElem_cons_zero]
      exact c
theorem with_split (h : g_api_Head) : ∀ l : List g_api_Head, withH l h = l.take (cntH h l) ++ h :: l.drop (cntH h l)
  | [] => rfl
  | x :: l => by
    unfold withH cntH
    split
    · rw [with_split h l]; simp
    · simp
end Go.Proofs.YtgnklegamndglaaGreat
end
section
namespace Go.Proofs.YtgnklegamndglaaGreat
open Go Go.Gw
def fnd {α : Type} (p : α → Bool) : List α → Nat → Option (Nat × α)
  | [], _ => none
  | x :: xs, i => if p x = true then some (i, x) else fnd p xs (i + 1)
theorem fnd_some {α : Type} {p : α → Bool} : ∀ {xs : List α} {i : Nat} {q : Nat × α}, fnd p xs i = some q → ∃ k, q.1 = i + k ∧ xs[k]? = some q.2 ∧ p q.2 = true
  | [], i, q, h => by cases h
  | x :: xs, i, q, h => by
    unfold fnd at h
    split at h
    · rename_i c
      cases h
      exact ⟨0, rfl, rfl, c⟩
    · obtain ⟨k, h1, h2, h3⟩ := fnd_some h
      exact ⟨k + 1, by omega, by simpa using h2, h3⟩
theorem drop_at {α : Type} {l xs : List α} {x : α} {i : Nat} (h : l.drop i = x :: xs) : ∃ hi : i < l.length, l[i] = x ∧ l.drop (i + 1) = xs := by
  have hi : i < l.length := by
    apply Classical.byContradiction
    intro q
    rw [List.drop_eq_nil_of_le (by omega)] at h
    cases h
  rw [List.drop_eq_getElem_cons hi] at h
  injection h with h1 h2
  exact ⟨hi, h1, h2⟩
theorem eachN_fnd {α σ τ : Type} {body : Int → σ → Option (σ ⊕ τ)} {s : σ} {l : List α} (p : α → Bool) (r : Nat → τ) (hs : ∀ i (hi : i < l.length), body (i : Int) s = some (if p l[i] = true then .inr (r i) else .inl s)) :
    ∀ (xs : List α) (i : Nat), l.drop i = xs → eachN body xs.length (i : Int) s = some (match fnd p xs i with | some q => .inr (r q.1) | none => .inl s)
  | [], i, _ => rfl
  | x :: xs, i, h => by
    obtain ⟨hi, he, hd⟩ := drop_at h
    have h1 := hs i hi
    rw [he] at h1
    unfold fnd
    simp only [List.length_cons, eachN, h1, obind_some']
    by_cases c : p x = true
    · simp only [if_pos c]
    · simp only [if_neg c]
      exact eachN_fnd p r hs xs (i + 1) hd
abbrev T9 : Type := Bool × Int × Int × Int × UInt64 × UInt64 × Int × UInt64 × UInt64
def pk9 (p : Bool × g_api_Head) (i : Int) : T9 := (p.1, i, p.2.Log, p.2.Size, p.2.Root.1, p.2.Root.2, p.2.At, p.2.Sig.E, p.2.Sig.S)
def pk7 (h : g_api_Head) : Int × Int × UInt64 × UInt64 × Int × UInt64 × UInt64 := (h.Log, h.Size, h.Root.1, h.Root.2, h.At, h.Sig.E, h.Sig.S)
def forkV (l : List g_api_Head) : g_api_Head × g_api_Head × Bool := match forkL l with
  | some p => (p.1, p.2, true)
  | none => (noHead, noHead, false)
end Go.Proofs.YtgnklegamndglaaGreat
end
section
namespace Go.Proofs.YtgnklegamndglaaGreat
open Go Go.Gw
def mkP (o : List (List g_api_Head)) : List g_api_Pool := o.map fun l => (⟨l⟩ : g_api_Pool)
def unP (l : List g_api_Pool) : List (List g_api_Head) := l.map (·.L)
theorem clone_eq {l : List g_api_Head} (h : l.length ≤ 2199023255552) : m_slices_Clone_api_Head_api_Head l = some l := by
  unfold m_slices_Clone_api_Head_api_Head
  rw [appL (by simpa using h) (by decide), obind_some', List.nil_append]
theorem placeB_eq (h x : g_api_Head) : placeB h x = decide (eqH x h) := place_cond x h
theorem place_eq {l : List g_api_Head} (h : g_api_Head) (hn : l.length ≤ 1099511627776) : m_law28_place l h = some (hasB l h) := by
  unfold m_law28_place
  have hit := iter_list (step := m_law28_place_b2 l h) l (fun x => !decide (eqH x h)) (bad := true) hn (fun i hi => ?_) ?_
  · rw [hit, obind_some']
    have : hasB l h = !(l.all fun x => !decide (eqH x h)) := by rw [← List.not_any_eq_all_not, Bool.not_not]; rfl
    rw [this]
    cases l.all fun x => !decide (eqH x h) <;> rfl
  · rw [place_step hi hn, placeB_eq, w64_suc hi hn]
    cases decide (eqH l[i] h) <;> rfl
  · unfold m_law28_place_b2; rw [if_neg (by simp)]
end Go.Proofs.YtgnklegamndglaaGreat
end
section
namespace Go.Proofs.YtgnklegamndglaaGreat
open Go Go.Gw
theorem iter_yes {τ : Type} {step : Int → Option (Int ⊕ (Unit ⊕ τ))} (len : Nat) (hn : len ≤ 1099511627776) (hs : ∀ i, i < len → step (i : Int) = some (.inl (w64 ((i : Int) + 1)))) (he : step (len : Int) = some (.inr (.inl ()))) (bad : τ) : iter step FUEL 0 = some (.inl ()) := by
  have := iter_all (step := step) (good := fun _ => true) (bad := bad) len hn (fun i hi => hs i hi) he
  rw [this, show ((List.range len).all fun _ => true) = true from List.all_eq_true.2 fun _ _ => rfl]; rfl
def allU (a0 : List g_api_Pool) : List g_api_Head := accH (unP a0) (a0.length - 1)
end Go.Proofs.YtgnklegamndglaaGreat
end
section
namespace Go.Proofs.YtgnklegamndglaaGreat
open Go Go.Gw
theorem bnd_def {α β : Type} (a : α) (k : α → β) : bnd a k = k a := rfl
theorem iter_up {σ τ : Type} {step : σ → Option (σ ⊕ τ)} {s : σ} {t : τ} (n : Nat) (h : iter step n s = some t) (hn : n ≤ 18446744073709551616) : iter step FUEL s = some t := iter_mono h hn
theorem iter_step {σ τ : Type} {step : σ → Option (σ ⊕ τ)} {n : Nat} {s s' : σ} (h : step s = some (.inl s')) : iter step (n + 1) s = iter step n s' := by simp only [iter, h, obind_some']
theorem iter_end {σ τ : Type} {step : σ → Option (σ ⊕ τ)} {n : Nat} {s : σ} {t : τ} (h : step s = some (.inr t)) : iter step (n + 1) s = some t := by simp only [iter, h, obind_some']
theorem app_eq {α : Type} (b : Nat) {xs ys : List α} (h : (xs.length + ys.length) * b ≤ 140737488355328) (h1 : xs.length + ys.length ≤ 140737488355328) : app b xs ys = some (xs ++ ys) := by unfold app; rw [if_pos ⟨h, h1⟩]
theorem cut_eq {α : Type} {xs : List α} {lo hi : Nat} (h1 : lo ≤ hi) (h2 : hi ≤ xs.length) : cut xs (lo : Int) (hi : Int) = some ((xs.drop lo).take (hi - lo)) := by
  unfold cut; rw [if_pos ⟨by omega, by omega, by omega⟩]; simp
def pfold (hi lo : UInt64) : UInt64 :=
  let n := (lo &&& 2305843009213693951) + ((shlU hi 3) ||| (shrU lo 61))
  let k := (n &&& 2305843009213693951) + shrU n 61
  if 2305843009213693951 ≤ k.toNat then k - 2305843009213693951 else k
theorem fold_eq (a b : UInt64) : m_field_fold a b = some (pfold a b) := by
  unfold m_field_fold pfold
  simp only [bnd_def]
  generalize (b &&& 2305843009213693951) + ((shlU a 3) ||| (shrU b 61)) = n
  generalize (n &&& 2305843009213693951) + shrU n 61 = k
  by_cases h : 2305843009213693951 ≤ k.toNat
  · rw [if_pos h, if_pos (decide_eq_true (by omega))]; rfl
  · rw [if_neg h, if_neg (by simp; omega)]; rfl
def pone (a : UInt64) : UInt64 := pfold 0 a
theorem one_eq (a : UInt64) : m_field_one a = some (pone a) := by simp only [m_field_one, fold_eq, obind_some']; rfl
def padd (a b : UInt64) : UInt64 := pone (pone a + pone b)
theorem add_eq (a b : UInt64) : m_field_Add a b = some (padd a b) := by simp only [m_field_Add, one_eq, obind_some']; rfl
def phi (a0 a1 : UInt64) : UInt64 :=
  let x1 := (a0 &&& 4294967295) * (a1 &&& 4294967295)
  let x2 := ((shrU a0 32) * (a1 &&& 4294967295)) + (shrU x1 32)
  let x3 := (x2 &&& 4294967295) + ((a0 &&& 4294967295) * (shrU a1 32))
  (((shrU a0 32) * (shrU a1 32)) + (shrU x2 32)) + (shrU x3 32)
theorem mul64_eq (a b : UInt64) : m_bits_Mul64 a b = some (phi a b, a * b) := rfl
def pmul (a b : UInt64) : UInt64 := pfold (phi (pone a) (pone b)) (pone a * pone b)
theorem mul_eq (a b : UInt64) : m_field_Mul a b = some (pmul a b) := by simp only [m_field_Mul, one_eq, mul64_eq, fold_eq, obind_some']; rfl
def psev (a : UInt64) : UInt64 :=
  let b := pmul a a
  let c := pmul b b
  let d := pmul c c
  pmul a (pmul d d)
theorem sev_eq (a : UInt64) : m_hash_seventeen a = some (psev a) := by
  simp only [m_hash_seventeen, eachN0, m_hash_seventeen_b1, mul_eq, obind_some']; rfl
def pcon (r i : Int) : UInt64 := let n := toU (w64 ((w64 ((w64 (3 * r)) + i)) + 1)); n * n * n + 7
def pall (r : Int) (s : UInt64 × UInt64 × UInt64) : UInt64 := padd (padd (padd 0 (psev (padd s.1 (pcon r 0)))) (psev (padd s.2.1 (pcon r 1)))) (psev (padd s.2.2 (pcon r 2)))
def pround (r : Int) (s : UInt64 × UInt64 × UInt64) : UInt64 × UInt64 × UInt64 :=
  (padd (psev (padd s.1 (pcon r 0))) (pall r s), padd (psev (padd s.2.1 (pcon r 1))) (pall r s), padd (psev (padd s.2.2 (pcon r 2))) (pall r s))
theorem mix1_eq (i : Int) (a : UInt64) (r : Int) (all : UInt64) : m_hash_Mix_1 i a r all = some (psev (padd a (pcon r i)), r, padd all (psev (padd a (pcon r i)))) := by
  simp only [m_hash_Mix_1, bnd_def, add_eq, sev_eq, obind_some']; rfl
theorem mix2_eq (i : Int) (a : UInt64) (all : UInt64) : m_hash_Mix_2 i a all = some (padd a all, all) := by
  simp only [m_hash_Mix_2, add_eq, obind_some']
theorem each_eq {σ : Type} {p : σ → Int → UInt64 → Option (UInt64 × σ)} {a b c a' b' c' : UInt64} {s0 s1 s2 s3 : σ} (h0 : p s0 0 a = some (a', s1)) (h1 : p s1 1 b = some (b', s2)) (h2 : p s2 2 c = some (c', s3)) :
    m_hash_state_each (a, b, c) p s0 = some ((a', b', c'), s3) := by
  have e0 : idx [a, b, c] 0 = some a := rfl
  have e1 : idx [a', b, c] 1 = some b := rfl
  have e2 : idx [a', b', c] 2 = some c := rfl
  simp [m_hash_state_each, eachN0, m_hash_state_each_b1, bnd_def, h0, e0, h1, e1, h2, e2]
theorem mixb_eq (r : Int) (s : UInt64 × UInt64 × UInt64) : m_hash_Mix_b4 r s = some (pround r s) := by
  obtain ⟨a, b, c⟩ := s
  unfold m_hash_Mix_b4
  rw [each_eq (a' := psev (padd a (pcon r 0))) (b' := psev (padd b (pcon r 1))) (c' := psev (padd c (pcon r 2))) (s1 := (r, padd 0 (psev (padd a (pcon r 0))))) (s2 := (r, padd (padd 0 (psev (padd a (pcon r 0)))) (psev (padd b (pcon r 1)))))
    (s3 := (r, padd (padd (padd 0 (psev (padd a (pcon r 0)))) (psev (padd b (pcon r 1)))) (psev (padd c (pcon r 2))))) (by simp only [mix1_eq, obind_some']) (by simp only [mix1_eq, obind_some']) (by simp only [mix1_eq, obind_some'])]
  simp only [obind_some']
  change obind (m_hash_state_each _ _ (pall r (a, b, c))) _ = some (padd _ (pall r (a, b, c)), padd _ (pall r (a, b, c)), padd _ (pall r (a, b, c)))
  generalize pall r (a, b, c) = all
  rw [each_eq (s1 := all) (s2 := all) (s3 := all) (a' := padd (psev (padd a (pcon r 0))) all) (b' := padd (psev (padd b (pcon r 1))) all) (c' := padd (psev (padd c (pcon r 2))) all) (by simp only [mix2_eq, obind_some']) (by simp only [mix2_eq, obind_some']) (by simp only [mix2_eq, obind_some'])]
  rfl
def pmix (s : UInt64 × UInt64 × UInt64) : UInt64 × UInt64 × UInt64 := pround 7 (pround 6 (pround 5 (pround 4 (pround 3 (pround 2 (pround 1 (pround 0 s)))))))
theorem mix_eq (s : UInt64 × UInt64 × UInt64) : m_hash_Mix s = some (pmix s) := by
  simp only [m_hash_Mix, eachN0, mixb_eq, obind_some']
  rfl
def ple : List UInt8 → Nat → UInt64 → UInt64
  | [], _, s => s
  | b :: bs, i, s => ple bs (i + 1) (s ||| shlU (toU (b.toNat : Int)) (8 * i))
theorem b6_eq (b5 : List UInt8) : ∀ (l : List UInt8) (i : Nat) (s : UInt64), b5.drop i = l → i + l.length ≤ 1000000 → eachN0 (m_field_Of_b6 b5) l.length (i : Int) s = some (ple l i s) := by
  intro l
  induction l with
  | nil => intro i s _ _; rfl
  | cons b l ih =>
    intro i s h hb
    have hx : idx b5 (i : Int) = some b := idx_nat (by
      have : (b5.drop i)[0]? = some b := by rw [h]; rfl
      simpa using this)
    simp only [List.length_cons] at hb
    have hw : w64 (8 * (i : Int)) = ((8 * i : Nat) : Int) := by rw [w64_in (by omega) (by omega)]; omega
    have hstep : m_field_Of_b6 b5 (i : Int) s = some (s ||| shlU (toU (b.toNat : Int)) (8 * i)) := by
      simp only [m_field_Of_b6, hx, obind_some', hw, bnd_def]
      rw [if_pos (by omega)]; rfl
    show eachN0 (m_field_Of_b6 b5) (l.length + 1) _ _ = _
    simp only [eachN0, hstep, obind_some', ple]
    have := ih (i + 1) (s ||| shlU (toU (b.toNat : Int)) (8 * i)) (by rw [← List.drop_drop, h]; rfl) (by omega)
    simpa using this
def pof (n : Nat) (l : List UInt8) : List UInt64 :=
  match n, l with
  | _, [] => []
  | 0, _ => []
  | n + 1, l => ple (l.take 7) 0 0 :: pof n (l.drop 7)
theorem pof_len (n : Nat) : ∀ l, (pof n l).length ≤ n := by
  induction n with
  | zero => intro l; cases l <;> simp [pof]
  | succ n ih => intro l; cases l with
    | nil => simp [pof]
    | cons a l => simp only [pof, List.length_cons]; have := ih ((a :: l).drop 7); omega
theorem chunk_eq (a0 : List UInt8) (hb : a0.length ≤ 1000000) : ∀ (n i : Nat) (out : List UInt64), a0.length ≤ i + n → i ≤ 1000000 + 7 → out.length + n ≤ 1000000 →
    iter (m_slices_Chunk_byte_byte_1_b1 (fun (s : (List UInt64)) (b0 : List UInt8) => obind (m_field_Of_b4 b0 s) fun y => some (true, y)) a0 7) (n + 1) ((i : Int), out) = some (.inl (out ++ pof n (a0.drop i))) := by
  intro n
  induction n with
  | zero =>
    intro i out h _ _
    have : a0.drop i = [] := List.drop_eq_nil_of_le (by omega)
    refine iter_end ?_
    simp only [m_slices_Chunk_byte_byte_1_b1, this]
    rw [if_neg (by simp; omega)]
    simp [pof]
  | succ n ih =>
    intro i out h hi ho
    by_cases hlt : i < a0.length
    · obtain ⟨b, l, hl⟩ : ∃ b l, a0.drop i = b :: l := ⟨a0[i], a0.drop (i + 1), List.drop_eq_getElem_cons hlt⟩
      have hc1 : cut a0 (i : Int) (a0.length : Int) = some (a0.drop i) := by
        rw [cut_eq (by omega) (by omega)]; congr 1; rw [List.take_of_length_le (by simp)]
      have hlen : (a0.drop i).length = a0.length - i := by simp
      have hm : w64 ((i : Int) + minI 7 ((a0.drop i).length : Int)) = ((i + min 7 (a0.length - i) : Nat) : Int) := by
        rw [w64_in] <;> unfold minI <;> split <;> omega
      have hc2 : cut a0 (i : Int) ((i + min 7 (a0.length - i) : Nat) : Int) = some ((a0.drop i).take 7) := by
        rw [cut_eq (by omega) (by omega)]; congr 1
        rw [Nat.add_sub_cancel_left]
        by_cases h7 : 7 ≤ a0.length - i
        · rw [Nat.min_eq_left h7]
        · rw [Nat.min_eq_right (by omega), List.take_of_length_le (by simp), List.take_of_length_le (by simp; omega)]
      have hw : w64 ((i : Int) + 7) = ((i + 7 : Nat) : Int) := by rw [w64_in (by omega) (by omega)]; omega
      have hb4 : m_field_Of_b4 ((a0.drop i).take 7) out = some (out ++ [ple ((a0.drop i).take 7) 0 0]) := by
        have := b6_eq ((a0.drop i).take 7) ((a0.drop i).take 7) 0 0 rfl (by simp; omega)
        simp only [m_field_Of_b4]
        rw [show ((0 : Int)) = ((0 : Nat) : Int) from rfl, this]
        simp only [obind_some']
        rw [app_eq 8 (by simp; omega) (by simp; omega)]
        rfl
      rw [iter_step (s' := (((i + 7 : Nat) : Int), out ++ [ple ((a0.drop i).take 7) 0 0]))]
      · rw [ih (i + 7) _ (by omega) (by omega) (by simp; omega)]
        rw [hl]
        simp only [pof]
        rw [← hl, List.drop_drop]
        simp
      · simp only [m_slices_Chunk_byte_byte_1_b1]
        rw [if_pos (decide_eq_true (by omega)), hc1]
        simp only [obind_some', hm, hc2, hb4, hw]
        rfl
    · have : a0.drop i = [] := List.drop_eq_nil_of_le (by omega)
      refine iter_end ?_
      simp only [m_slices_Chunk_byte_byte_1_b1, this]
      rw [if_neg (by simp; omega)]
      simp [pof]
theorem of_eq (a0 : List UInt8) (hb : a0.length ≤ 900000) : m_field_Of a0 = some (pof a0.length a0) := by
  have h := chunk_eq a0 (by omega) a0.length 0 [] (by omega) (by omega) (by simp; omega)
  have h' := iter_up _ h (by omega)
  simp only [m_field_Of, m_slices_Chunk_byte_byte, m_slices_Chunk_byte_byte_1]
  rw [if_neg (by decide)]
  simp only [obind_some', List.drop_zero, List.nil_append] at h' ⊢
  rw [show ((0 : Int)) = ((0 : Nat) : Int) from rfl, h']
  simp only [obind_some']
def psumL (n : Nat) (l : List UInt64) (s : UInt64 × UInt64 × UInt64) : UInt64 × UInt64 × UInt64 :=
  match n, l with
  | _, [] => s
  | 0, _ => s
  | _ + 1, [x] => pmix (padd s.1 x, s.2.1, s.2.2)
  | n + 1, x :: y :: l => psumL n l (pmix (padd s.1 x, padd s.2.1 y, s.2.2))
theorem b4_eq1 (x : UInt64) (s : UInt64 × UInt64 × UInt64) : eachN0 (m_hash_Sum_b4 [x]) 1 0 s = some (padd s.1 x, s.2.1, s.2.2) := by
  have e0 : idx [x] (0 : Int) = some x := rfl
  have e1 : idx [s.1, s.2.1, s.2.2] (0 : Int) = some s.1 := rfl
  simp [eachN0, m_hash_Sum_b4, e0, e1, add_eq, bnd_def]
theorem b4_eq2 (x y : UInt64) (s : UInt64 × UInt64 × UInt64) : eachN0 (m_hash_Sum_b4 [x, y]) 2 0 s = some (padd s.1 x, padd s.2.1 y, s.2.2) := by
  have e0 : idx [x, y] (0 : Int) = some x := rfl
  have e1 : idx [s.1, s.2.1, s.2.2] (0 : Int) = some s.1 := rfl
  have e2 : idx [x, y] 1 = some y := rfl
  have e3 : idx [padd s.1 x, s.2.1, s.2.2] 1 = some s.2.1 := rfl
  simp [eachN0, m_hash_Sum_b4, e0, e1, e2, e3, add_eq, bnd_def]
theorem b3_nil (fst : Bool) (hf : fst = true) (s : UInt64 × UInt64 × UInt64) : m_hash_Sum_b3 ([], fst, s.1, s.2.1, s.2.2) = some (.inl ([], false, pmix s)) := by
  subst hf
  have hc : cut ([] : List UInt64) 0 0 = some [] := rfl
  have hmin : minI 2 (([] : List UInt64).length : Int) = 0 := rfl
  simp only [m_hash_Sum_b3, Bool.true_or, if_true, hmin]
  rw [show ((([] : List UInt64).length : Int)) = 0 from rfl, hc]
  simp only [obind_some', eachN0, List.length_nil, mix_eq]
theorem b3_end (s : UInt64 × UInt64 × UInt64) : m_hash_Sum_b3 ([], false, s.1, s.2.1, s.2.2) = some (.inr s) := rfl
theorem b3_one (fst : Bool) (x : UInt64) (s : UInt64 × UInt64 × UInt64) : m_hash_Sum_b3 ([x], fst, s.1, s.2.1, s.2.2) = some (.inl ([], false, pmix (padd s.1 x, s.2.1, s.2.2))) := by
  have hmin : minI 2 (([x] : List UInt64).length : Int) = 1 := rfl
  have h0 : (fst || decide ((([x] : List UInt64).length : Int) > 0)) = true := by simp
  have hc : cut [x] 0 1 = some [x] := rfl
  have hc2 : cut [x] 1 1 = some [] := rfl
  simp only [m_hash_Sum_b3, h0, if_true, hmin]
  rw [show ((([x] : List UInt64).length : Int)) = 1 from rfl, hc, hc2]
  simp only [obind_some', List.length_cons, List.length_nil]
  rw [b4_eq1]
  simp only [obind_some', mix_eq]
theorem b3_two (fst : Bool) (x y : UInt64) (l : List UInt64) (s : UInt64 × UInt64 × UInt64) : m_hash_Sum_b3 (x :: y :: l, fst, s.1, s.2.1, s.2.2) = some (.inl (l, false, pmix (padd s.1 x, padd s.2.1 y, s.2.2))) := by
  have hmin : minI 2 ((x :: y :: l).length : Int) = ((2 : Nat) : Int) := by unfold minI; rw [if_neg (by simp; omega)]; rfl
  have h0 : (fst || decide (((x :: y :: l).length : Int) > 0)) = true := by simp; right; omega
  have hc : cut (x :: y :: l) ((0 : Nat) : Int) ((2 : Nat) : Int) = some [x, y] := by rw [cut_eq (by omega) (by simp)]; rfl
  have hc2 : cut (x :: y :: l) ((2 : Nat) : Int) ((x :: y :: l).length : Int) = some l := by rw [cut_eq (by simp) (by omega)]; simp
  simp only [m_hash_Sum_b3, h0, if_true, hmin]
  rw [show ((0 : Int)) = ((0 : Nat) : Int) from rfl, hc, hc2]
  simp only [obind_some', List.length_cons, List.length_nil]
  rw [show ((0 : Nat) : Int) = 0 from rfl, b4_eq2]
  simp only [obind_some', mix_eq]
theorem b3_iter : ∀ (n : Nat) (l : List UInt64) (s : UInt64 × UInt64 × UInt64), l.length ≤ n → iter m_hash_Sum_b3 (n + 1) (l, false, s.1, s.2.1, s.2.2) = some (psumL n l s) := by
  intro n
  induction n with
  | zero =>
    intro l s h
    have : l = [] := List.eq_nil_of_length_eq_zero (by omega)
    subst this
    rw [iter_end (b3_end s)]; simp [psumL]
  | succ n ih =>
    intro l s h
    match l, h with
    | [], _ => rw [iter_end (b3_end s)]; simp [psumL]
    | [x], _ =>
      rw [iter_step (b3_one false x s)]
      have := ih [] (pmix (padd s.1 x, s.2.1, s.2.2)) (by simp)
      rw [this]; simp [psumL]
    | x :: y :: l, h =>
      rw [iter_step (b3_two false x y l s)]
      have := ih l (pmix (padd s.1 x, padd s.2.1 y, s.2.2)) (by simp at h; omega)
      rw [this]; simp [psumL]
def pend (l : List UInt64) (s : UInt64 × UInt64 × UInt64) : UInt64 × UInt64 × UInt64 :=
  match l with
  | [] => pmix s
  | l => psumL l.length l s
def hsum (b : List UInt8) : UInt64 × UInt64 :=
  ((pend (pof b.length b) (0, 0, toU (b.length : Int))).1, (pend (pof b.length b) (0, 0, toU (b.length : Int))).2.1)
theorem sum_eq (b : List UInt8) (hb : b.length ≤ 900000) : m_hash_Sum b = some (hsum b) := by
  simp only [m_hash_Sum, of_eq b hb, obind_some']
  have hl := pof_len b.length b
  have hk : hsum b = ((pend (pof b.length b) (0, 0, toU (b.length : Int))).1, (pend (pof b.length b) (0, 0, toU (b.length : Int))).2.1) := rfl
  rw [hk]
  clear hk
  generalize pof b.length b = l at *
  have h : iter m_hash_Sum_b3 FUEL (l, true, 0, 0, toU (b.length : Int)) = some (pend l (0, 0, toU (b.length : Int))) := by
    refine iter_up (l.length + 2) ?_ (by omega)
    match l with
    | [] =>
      rw [show ([] : List UInt64).length + 2 = 1 + 1 from rfl, iter_step (b3_nil true rfl (0, 0, toU (b.length : Int)))]
      have := b3_iter 0 [] (pmix (0, 0, toU (b.length : Int))) (by simp)
      rw [this]; simp [psumL, pend]
    | [x] =>
      rw [show ([x] : List UInt64).length + 2 = 2 + 1 from rfl, iter_step (b3_one true x (0, 0, toU (b.length : Int)))]
      have := b3_iter 1 [] (pmix (padd 0 x, 0, toU (b.length : Int))) (by simp)
      rw [this]; simp [psumL, pend]
    | x :: y :: l =>
      rw [iter_step (b3_two true x y l (0, 0, toU (b.length : Int)))]
      have := b3_iter (l.length + 2) l (pmix (padd 0 x, padd 0 y, toU (b.length : Int))) (by omega)
      have e : (x :: y :: l).length + 1 = l.length + 2 + 1 := rfl
      rw [e, this]
      simp only [psumL, pend, List.length_cons]
      congr 1
      clear this hl
      have : ∀ (n k : Nat) (l : List UInt64) (s : UInt64 × UInt64 × UInt64), l.length ≤ n → l.length ≤ k → psumL n l s = psumL k l s := by
        intro n
        induction n with
        | zero => intro k l s h _; have : l = [] := List.eq_nil_of_length_eq_zero (by omega); subst this; simp [psumL]
        | succ n ih =>
          intro k l s h hk
          match l, k, h, hk with
          | [], k, _, _ => cases k <;> simp [psumL]
          | [x], k + 1, _, _ => simp [psumL]
          | x :: y :: l, k + 1, h, hk => simp only [psumL]; exact ih k l _ (by simp at h; omega) (by simp at hk; omega)
      exact this _ _ _ _ (by omega) (by omega)
  rw [h]
  simp only [obind_some']
def pput : Nat → UInt64 → List UInt8
  | 0, _ => []
  | k + 1, n => toB ((shrU n (8 * k)).toNat : Int) :: pput k n
theorem pput_len (k : Nat) (n : UInt64) : (pput k n).length = k := by induction k with | zero => rfl | succ k ih => simp [pput, ih]
theorem put_iter (n : UInt64) : ∀ (k : Nat) (b : List UInt8), k ≤ 8 → b.length + k ≤ 1000000 → iter (m_hash_put_b1 n) (k + 1) (b, (k : Int) - 1) = some (b ++ pput k n) := by
  intro k
  induction k with
  | zero => intro b _ _; refine iter_end ?_; simp only [m_hash_put_b1, pput, List.append_nil]; rw [if_neg (by simp)]
  | succ k ih =>
    intro b hk hb
    have hw : w64 (8 * (((k + 1 : Nat) : Int) - 1)) = ((8 * k : Nat) : Int) := by rw [w64_in (by omega) (by omega)]; omega
    have hw2 : w64 ((((k + 1 : Nat) : Int) - 1) - 1) = (k : Int) - 1 := by rw [w64_in (by omega) (by omega)]; omega
    rw [iter_step (s' := (b ++ [toB ((shrU n (8 * k)).toNat : Int)], (k : Int) - 1))]
    · rw [ih _ (by omega) (by simp; omega)]; simp [pput]
    · simp only [m_hash_put_b1, hw, hw2]
      rw [if_pos (decide_eq_true (by omega)), if_pos (by omega), app_eq 1 (by simp; omega) (by simp; omega)]
      simp only [obind_some', Int.toNat_natCast]
theorem put_eq (n : UInt64) (k : Nat) (b : List UInt8) (hk : k ≤ 8) (hb : b.length ≤ 900000) : m_hash_put b n (k : Int) = some (b ++ pput k n) := by
  have hw : w64 ((k : Int) - 1) = (k : Int) - 1 := w64_in (by omega) (by omega)
  simp only [m_hash_put, hw, iter_up (k + 1) (put_iter n k b hk (by omega)) (by omega), obind_some']
def pbytes (s : UInt64 × UInt64) : List UInt8 := pput 8 s.1 ++ pput 8 s.2
theorem pbytes_len (s : UInt64 × UInt64) : (pbytes s).length = 16 := by simp [pbytes, pput_len]
theorem bytes_eq (s : UInt64 × UInt64) : m_hash_Bytes s = some (pbytes s) := by
  have e0 : idx [s.1, s.2] 0 = some s.1 := rfl
  have e1 : idx [s.1, s.2] 1 = some s.2 := rfl
  have h0 : m_hash_put [] s.1 8 = some ([] ++ pput 8 s.1) := put_eq s.1 8 [] (by omega) (by simp)
  have h1 : m_hash_put (pput 8 s.1) s.2 8 = some (pput 8 s.1 ++ pput 8 s.2) := put_eq s.2 8 _ (by omega) (by rw [pput_len]; omega)
  simp [m_hash_Bytes, eachN0, m_hash_Bytes_b2, e0, e1, h0, h1, pbytes]
def pcode : List UInt8 → List (List UInt8) → List UInt8
  | b, [] => b
  | b, p :: ps => pcode (b ++ pput 4 (toU (p.length : Int)) ++ p) ps
def plen : List (List UInt8) → Nat
  | [] => 0
  | p :: ps => 4 + p.length + plen ps
theorem pcode_len : ∀ (ps : List (List UInt8)) (b : List UInt8), (pcode b ps).length = b.length + plen ps := by
  intro ps
  induction ps with
  | nil => intro b; rfl
  | cons p ps ih => intro b; simp only [pcode, ih, plen, List.length_append, pput_len]; omega
theorem tag_each : ∀ (ps : List (List UInt8)) (i : Int) (b : List UInt8), b.length + plen ps ≤ 800000 → each0 m_hash_Tagged_b2 ps i b = some (pcode b ps) := by
  intro ps
  induction ps with
  | nil => intro i b _; rfl
  | cons p ps ih =>
    intro i b h
    simp only [plen] at h
    have h0 : m_hash_put b (toU (p.length : Int)) 4 = some (b ++ pput 4 (toU (p.length : Int))) := put_eq _ 4 b (by omega) (by omega)
    simp only [each0, m_hash_Tagged_b2, h0, obind_some']
    rw [app_eq 1 (by simp [pput_len]; omega) (by simp [pput_len]; omega)]
    simp only [obind_some']
    rw [ih _ _ (by simp [pput_len]; omega)]
    rfl
def ptag (t : ByteArray) (ps : List (List UInt8)) : UInt64 × UInt64 := hsum (pcode (toB (t.size : Int) :: t.data.toList) ps)
theorem tagged_eq (t : ByteArray) (ps : List (List UInt8)) (h : t.data.toList.length + plen ps ≤ 700000) : m_hash_Tagged t ps = some (ptag t ps) := by
  simp only [m_hash_Tagged]
  rw [app_eq 1 (by simp at h ⊢; omega) (by simp at h ⊢; omega)]
  simp only [obind_some']
  rw [tag_each _ _ _ (by simp at h ⊢; omega)]
  simp only [obind_some']
  rw [sum_eq _ (by rw [pcode_len]; simp at h ⊢; omega)]
  rfl
def ppair (a b : UInt64 × UInt64) : UInt64 × UInt64 := ptag ⟨#[110, 111, 100, 101]⟩ [pbytes a, pbytes b]
end Go.Proofs.YtgnklegamndglaaGreat
end
section
namespace Go.Proofs.YtgnklegamndglaaGreat
open Go Go.Gw
abbrev FP : Nat := 2305843009213693951
theorem toU_toNat {n : Nat} (h : n < 18446744073709551616) : (toU (n : Int)).toNat = n := by
  unfold toU
  rw [UInt64.toNat_ofNat']
  omega
theorem shrU_toNat (x : UInt64) (k : Nat) (hk : k ≤ 64) : (shrU x k).toNat = x.toNat / 2 ^ k := by
  unfold shrU
  rw [UInt64.toNat_ofNat', Nat.min_eq_left hk]
  exact Nat.mod_eq_of_lt (Nat.lt_of_le_of_lt (Nat.div_le_self _ _) x.toNat_lt)
theorem mul_high {p q r s : Nat} (hp : p < 4294967296) (hq : q < 4294967296) (hr : r < 4294967296) (hs : s < 4294967296) :
    (p * r + ((p * s + q * s / 4294967296) / 4294967296) + (((p * s + q * s / 4294967296) % 4294967296 + q * r) / 4294967296)) = ((p * 4294967296 + q) * (r * 4294967296 + s)) / 18446744073709551616 := by
  have h1 : (p * 4294967296 + q) * (r * 4294967296 + s) = (p * r) * 18446744073709551616 + (p * s + q * r) * 4294967296 + q * s := by
    rw [Nat.add_mul, Nat.mul_add, Nat.mul_add, Nat.add_mul]
    have a1 : p * 4294967296 * (r * 4294967296) = p * r * 18446744073709551616 := by rw [Nat.mul_assoc, Nat.mul_left_comm 4294967296, ← Nat.mul_assoc p]
    have a2 : p * 4294967296 * s = p * s * 4294967296 := Nat.mul_right_comm _ _ _
    have a3 : q * (r * 4294967296) = q * r * 4294967296 := (Nat.mul_assoc _ _ _).symm
    rw [a1, a2, a3]; omega
  rw [h1]
  generalize p * r = A
  generalize p * s = B
  generalize q * r = C
  generalize q * s = D
  omega
theorem phi_nat (a b : UInt64) : (phi a b).toNat = (a.toNat * b.toNat) / 18446744073709551616 := by
  have ha := a.toNat_lt
  have hb := b.toNat_lt
  have m32 : ∀ x : UInt64, (x &&& 4294967295).toNat = x.toNat % 4294967296 := fun x => by
    rw [UInt64.toNat_and]; exact Nat.and_two_pow_sub_one_eq_mod _ 32
  have s32 : ∀ x : UInt64, (shrU x 32).toNat = x.toNat / 4294967296 := fun x => shrU_toNat x 32 (by omega)
  have hp : a.toNat / 4294967296 < 4294967296 := by omega
  have hq : a.toNat % 4294967296 < 4294967296 := by omega
  have hr : b.toNat / 4294967296 < 4294967296 := by omega
  have hs : b.toNat % 4294967296 < 4294967296 := by omega
  have ea : a.toNat / 4294967296 * 4294967296 + a.toNat % 4294967296 = a.toNat := Nat.div_add_mod' _ _
  have eb : b.toNat / 4294967296 * 4294967296 + b.toNat % 4294967296 = b.toNat := Nat.div_add_mod' _ _
  have key := mul_high hp hq hr hs
  rw [ea, eb] at key
  have bd : ∀ x y : Nat, x < 4294967296 → y < 4294967296 → x * y ≤ 18446744065119617025 := fun x y hx hy => Nat.mul_le_mul (show x ≤ 4294967295 by omega) (show y ≤ 4294967295 by omega)
  have b1 := bd _ _ hp hr
  have b2 := bd _ _ hp hs
  have b3 := bd _ _ hq hr
  have b4 := bd _ _ hq hs
  have ab : a.toNat * b.toNat / 18446744073709551616 < 18446744073709551616 := by
    rw [Nat.div_lt_iff_lt_mul (by omega)]
    exact Nat.lt_of_le_of_lt (Nat.mul_le_mul (show a.toNat ≤ 18446744073709551615 by omega) (show b.toNat ≤ 18446744073709551615 by omega)) (by omega)
  unfold phi
  dsimp only
  rw [← key] at ab ⊢
  simp only [UInt64.toNat_add, UInt64.toNat_mul, s32, m32]
  generalize a.toNat / 4294967296 * (b.toNat / 4294967296) = A at *
  generalize a.toNat / 4294967296 * (b.toNat % 4294967296) = B at *
  generalize a.toNat % 4294967296 * (b.toNat / 4294967296) = C at *
  generalize a.toNat % 4294967296 * (b.toNat % 4294967296) = D at *
  omega
theorem u_ext {a b : UInt64} (h : a.toNat = b.toNat) : a = b := UInt64.toNat_inj.1 h
end Go.Proofs.YtgnklegamndglaaGreat
end
section
namespace Go.Proofs.YtgnklegamndglaaGreat
open Go Go.Gw
section
variable {x4 x5 x7 y u : UInt64}
theorem dq_lt (hd : x7.toNat < 4294967296) (hu : u.toNat < y.toNat) : (u.toNat * 4294967296 + x7.toNat) / y.toNat < 4294967296 := by
  rw [Nat.div_lt_iff_lt_mul (by omega)]
  have : (u.toNat + 1) * 4294967296 ≤ y.toNat * 4294967296 := Nat.mul_le_mul_right _ hu
  omega
theorem dcond {q r : UInt64} (h1 : 2147483648 ≤ x4.toNat ∧ x4.toNat < 4294967296) (h0 : x5.toNat < 4294967296) (hd : x7.toNat < 4294967296) (hy : y.toNat = x4.toNat * 4294967296 + x5.toNat) (hu : u.toNat < y.toNat)
    (hq : q.toNat * x4.toNat + r.toNat = u.toNat) (hr : r.toNat < 4294967296) :
    (((decide ((q.toNat : Int) ≥ 4294967296)) || (decide (((q * x5).toNat : Int) > (((4294967296 * r) + x7).toNat : Int)))) = true ↔ (u.toNat * 4294967296 + x7.toNat) / y.toNat < q.toNat) := by
  have hlt := dq_lt hd hu
  have e1 : ((4294967296 * r) + x7).toNat = 4294967296 * r.toNat + x7.toNat := by
    rw [UInt64.toNat_add, UInt64.toNat_mul, show (4294967296 : UInt64).toNat = 4294967296 from rfl]; omega
  rw [Bool.or_eq_true, decide_eq_true_eq, decide_eq_true_eq, e1]
  by_cases hb : 4294967296 ≤ q.toNat
  · constructor
    · intro _; omega
    · intro _; left; omega
  · have hB : q.toNat * x5.toNat ≤ 4294967295 * 4294967295 := Nat.mul_le_mul (by omega) (by omega)
    have e2 : (q * x5).toNat = q.toNat * x5.toNat := by rw [UInt64.toNat_mul]; omega
    have e3 : q.toNat * y.toNat = q.toNat * x4.toNat * 4294967296 + q.toNat * x5.toNat := by rw [hy, Nat.mul_add, Nat.mul_assoc]
    rw [e2, Nat.div_lt_iff_lt_mul (by omega), e3]
    generalize q.toNat * x4.toNat = A at *
    generalize q.toNat * x5.toNat = B at *
    omega
theorem dstep {q r : UInt64} (h1 : 2147483648 ≤ x4.toNat ∧ x4.toNat < 4294967296) (h0 : x5.toNat < 4294967296) (hd : x7.toNat < 4294967296) (hy : y.toNat = x4.toNat * 4294967296 + x5.toNat) (hu : u.toNat < y.toNat)
    (hq : q.toNat * x4.toNat + r.toNat = u.toNat) (hr : r.toNat < 4294967296) (hq2 : q.toNat ≤ 4294967297) (hc : (u.toNat * 4294967296 + x7.toNat) / y.toNat < q.toNat) :
    (q - 1).toNat = q.toNat - 1 ∧ (r + x4).toNat = r.toNat + x4.toNat ∧ (q - 1).toNat * x4.toNat + (r + x4).toNat = u.toNat ∧ (u.toNat * 4294967296 + x7.toNat) / y.toNat ≤ (q - 1).toNat ∧
    (4294967296 ≤ (r + x4).toNat → (q - 1).toNat = (u.toNat * 4294967296 + x7.toNat) / y.toNat) := by
  have q1 : 1 ≤ q.toNat := Nat.lt_of_le_of_lt (Nat.zero_le _) hc
  have e1 : (q - 1).toNat = q.toNat - 1 := by rw [UInt64.toNat_sub_of_le _ _ (by rw [UInt64.le_iff_toNat_le]; exact q1)]; rfl
  have e2 : (r + x4).toNat = r.toNat + x4.toNat := by rw [UInt64.toNat_add]; omega
  have e3 : (q.toNat - 1) * x4.toNat + x4.toNat = q.toNat * x4.toNat := by
    rw [← Nat.succ_mul]; congr 1; omega
  refine ⟨e1, e2, by rw [e1, e2, Nat.add_comm r.toNat, ← Nat.add_assoc, e3, hq], by rw [e1]; exact Nat.le_sub_one_of_lt hc, fun hb => ?_⟩
  rw [e2] at hb
  refine Nat.le_antisymm ?_ (by rw [e1]; exact Nat.le_sub_one_of_lt hc)
  rw [e1, Nat.le_div_iff_mul_le (Nat.lt_of_le_of_lt (Nat.zero_le _) hu)]
  clear hc e1 e2
  have hB : (q.toNat - 1) * x5.toNat ≤ 4294967296 * 4294967295 := Nat.mul_le_mul (by omega) (by omega)
  have e4 : (q.toNat - 1) * y.toNat = (q.toNat - 1) * x4.toNat * 4294967296 + (q.toNat - 1) * x5.toNat := by rw [hy, Nat.mul_add, Nat.mul_assoc]
  rw [e4]
  generalize (q.toNat - 1) * x4.toNat = A at *
  generalize (q.toNat - 1) * x5.toNat = B at *
  generalize q.toNat * x4.toNat = C at *
  omega
theorem dloop1 (h1 : 2147483648 ≤ x4.toNat ∧ x4.toNat < 4294967296) (h0 : x5.toNat < 4294967296) (hd : x7.toNat < 4294967296) (hy : y.toNat = x4.toNat * 4294967296 + x5.toNat) (hu : u.toNat < y.toNat) :
    ∀ (n : Nat) (q r : UInt64), q.toNat * x4.toNat + r.toNat = u.toNat → r.toNat < 4294967296 → q.toNat ≤ 4294967297 → (u.toNat * 4294967296 + x7.toNat) / y.toNat ≤ q.toNat → 4294967296 ≤ r.toNat + n * 2147483648 →
      ∃ p, iter (m_bits_Div64_b1 x4 x5 x7) (n + 1) (q, r) = some p ∧ p.toNat = (u.toNat * 4294967296 + x7.toNat) / y.toNat := by
  intro n
  induction n with
  | zero => intro q r _ hr _ _ hn; omega
  | succ n ih =>
    intro q r hq hr hq2 hle hn
    have hc := dcond h1 h0 hd hy hu hq hr
    by_cases hcc : (u.toNat * 4294967296 + x7.toNat) / y.toNat < q.toNat
    · obtain ⟨s1, s2, s3, s4, s5⟩ := dstep h1 h0 hd hy hu hq hr hq2 hcc
      by_cases hb : 4294967296 ≤ (r + x4).toNat
      · refine ⟨q - 1, iter_end ?_, s5 hb⟩
        unfold m_bits_Div64_b1
        rw [if_pos (hc.2 hcc), if_pos (by rw [decide_eq_true_eq]; dsimp only; omega)]
      · obtain ⟨p, p1, p2⟩ := ih (q - 1) (r + x4) s3 (by omega) (by omega) s4 (by omega)
        refine ⟨p, ?_, p2⟩
        rw [iter_step (s' := (q - 1, r + x4)), p1]
        unfold m_bits_Div64_b1
        rw [if_pos (hc.2 hcc), if_neg (by rw [decide_eq_true_eq]; dsimp only; omega)]
    · refine ⟨q, iter_end ?_, by omega⟩
      unfold m_bits_Div64_b1
      rw [if_neg (fun h => hcc (hc.1 h))]
theorem dloop2 (h1 : 2147483648 ≤ x4.toNat ∧ x4.toNat < 4294967296) (h0 : x5.toNat < 4294967296) (hd : x7.toNat < 4294967296) (hy : y.toNat = x4.toNat * 4294967296 + x5.toNat) (hu : u.toNat < y.toNat) :
    ∀ (n : Nat) (q r : UInt64), q.toNat * x4.toNat + r.toNat = u.toNat → r.toNat < 4294967296 → q.toNat ≤ 4294967297 → (u.toNat * 4294967296 + x7.toNat) / y.toNat ≤ q.toNat → 4294967296 ≤ r.toNat + n * 2147483648 →
      ∃ p, iter (m_bits_Div64_b2 x4 x5 x7) (n + 1) (r, q) = some p ∧ p.toNat = (u.toNat * 4294967296 + x7.toNat) / y.toNat := by
  intro n
  induction n with
  | zero => intro q r _ hr _ _ hn; omega
  | succ n ih =>
    intro q r hq hr hq2 hle hn
    have hc := dcond h1 h0 hd hy hu hq hr
    by_cases hcc : (u.toNat * 4294967296 + x7.toNat) / y.toNat < q.toNat
    · obtain ⟨s1, s2, s3, s4, s5⟩ := dstep h1 h0 hd hy hu hq hr hq2 hcc
      by_cases hb : 4294967296 ≤ (r + x4).toNat
      · refine ⟨q - 1, iter_end ?_, s5 hb⟩
        unfold m_bits_Div64_b2
        rw [if_pos (hc.2 hcc), if_pos (by rw [decide_eq_true_eq]; dsimp only; omega)]
      · obtain ⟨p, p1, p2⟩ := ih (q - 1) (r + x4) s3 (by omega) (by omega) s4 (by omega)
        refine ⟨p, ?_, p2⟩
        rw [iter_step (s' := (r + x4, q - 1)), p1]
        unfold m_bits_Div64_b2
        rw [if_pos (hc.2 hcc), if_neg (by rw [decide_eq_true_eq]; dsimp only; omega)]
    · refine ⟨q, iter_end ?_, by omega⟩
      unfold m_bits_Div64_b2
      rw [if_neg (fun h => hcc (hc.1 h))]
theorem dstart (h1 : 2147483648 ≤ x4.toNat ∧ x4.toNat < 4294967296) (h0 : x5.toNat < 4294967296) (hd : x7.toNat < 4294967296) (hy : y.toNat = x4.toNat * 4294967296 + x5.toNat) (hu : u.toNat < y.toNat) :
    (u / x4).toNat * x4.toNat + (u - (u / x4) * x4).toNat = u.toNat ∧ (u - (u / x4) * x4).toNat < 4294967296 ∧ (u / x4).toNat ≤ 4294967297 ∧ (u.toNat * 4294967296 + x7.toNat) / y.toNat ≤ (u / x4).toNat := by
  have e1 : (u / x4).toNat = u.toNat / x4.toNat := UInt64.toNat_div _ _
  have hmul : u.toNat / x4.toNat * x4.toNat ≤ u.toNat := Nat.div_mul_le_self _ _
  have hul := u.toNat_lt
  have e2 : ((u / x4) * x4).toNat = u.toNat / x4.toNat * x4.toNat := by rw [UInt64.toNat_mul, e1]; omega
  have e3 : (u - (u / x4) * x4).toNat = u.toNat - u.toNat / x4.toNat * x4.toNat := by
    rw [UInt64.toNat_sub_of_le _ _ (by rw [UInt64.le_iff_toNat_le, e2]; exact hmul), e2]
  have e4 : u.toNat - u.toNat / x4.toNat * x4.toNat = u.toNat % x4.toNat := by
    have := Nat.div_add_mod' u.toNat x4.toNat; omega
  have e5 := Nat.mod_lt u.toNat (show 0 < x4.toNat by omega)
  refine ⟨by rw [e1, e3]; omega, by rw [e3, e4]; omega, ?_, ?_⟩
  · rw [e1]
    have : u.toNat / x4.toNat < 4294967298 := by
      rw [Nat.div_lt_iff_lt_mul (by omega)]
      omega
    omega
  · rw [e1, Nat.le_div_iff_mul_le (by omega)]
    have h2 : (u.toNat * 4294967296 + x7.toNat) / y.toNat * y.toNat ≤ u.toNat * 4294967296 + x7.toNat := Nat.div_mul_le_self _ _
    generalize (u.toNat * 4294967296 + x7.toNat) / y.toNat = Q at *
    have h3 : Q * y.toNat = Q * x4.toNat * 4294967296 + Q * x5.toNat := by rw [hy, Nat.mul_add, Nat.mul_assoc]
    rw [h3] at h2
    generalize Q * x4.toNat = A at *
    generalize Q * x5.toNat = B at *
    omega
theorem drest {q : UInt64} (hu : u.toNat < y.toNat) (hq : q.toNat = (u.toNat * 4294967296 + x7.toNat) / y.toNat) : (((u * 4294967296) + x7) - (q * y)).toNat = (u.toNat * 4294967296 + x7.toNat) % y.toNat := by
  have hyl := y.toNat_lt
  have hm := Nat.mod_lt (u.toNat * 4294967296 + x7.toNat) (show 0 < y.toNat by omega)
  have hdm := Nat.div_add_mod' (u.toNat * 4294967296 + x7.toNat) y.toNat
  rw [UInt64.toNat_sub, UInt64.toNat_add, UInt64.toNat_mul, UInt64.toNat_mul, hq, show (4294967296 : UInt64).toNat = 4294967296 from rfl]
  generalize (u.toNat * 4294967296 + x7.toNat) / y.toNat * y.toNat = Z at *
  omega
end
theorem shlU_nat {x : UInt64} {k : Nat} (hk : k ≤ 63) : (shlU x k).toNat = (x.toNat * 2 ^ k) % 18446744073709551616 := by
  unfold shlU
  rw [Nat.min_eq_left (by omega), show (x.toNat : Int) * 2 ^ k = ((x.toNat * 2 ^ k : Nat) : Int) from by simp]
  unfold toU
  rw [UInt64.toNat_ofNat']
  generalize x.toNat * 2 ^ k = z
  omega
theorem or_nat {a b k : Nat} (h : b < 2 ^ k) : a * 2 ^ k ||| b = a * 2 ^ k + b := by
  rw [Nat.mul_comm]; exact (Nat.two_pow_add_eq_or_of_lt h a).symm
theorem div64_eq {hi lo y0 : UInt64} {s : Nat} (hs : s ≤ 63) (hlz : m_bits_LeadingZeros64 y0 = some (s : Int)) (hn1 : 9223372036854775808 ≤ y0.toNat * 2 ^ s) (hn2 : y0.toNat * 2 ^ s < 18446744073709551616) (hh : hi.toNat < y0.toNat) :
    ∃ q r, m_bits_Div64 hi lo y0 = some (q, r) ∧ r.toNat = (hi.toNat * 18446744073709551616 + lo.toNat) % y0.toNat := by
  have hyne : y0 ≠ 0 := fun e => by rw [e] at hh; simp at hh
  unfold m_bits_Div64
  rw [if_neg (by rw [beq_iff_eq]; omega), obind_some', if_neg (by rw [decide_eq_true_eq]; omega), obind_some']
  by_cases hz : hi.toNat = 0
  · rw [if_pos (by rw [beq_iff_eq]; omega), if_pos hyne, if_pos hyne]
    refine ⟨_, _, rfl, ?_⟩
    rw [UInt64.toNat_mod, hz]; simp
  · have hts : (toU (s : Int)).toNat = s := toU_toNat (by omega)
    have h64 : (64 - toU (s : Int)).toNat = 64 - s := by
      rw [UInt64.toNat_sub_of_le _ _ (by rw [UInt64.le_iff_toNat_le, hts]; show s ≤ 64; omega), hts]; rfl
    rw [if_neg (by rw [beq_iff_eq]; omega), hlz, obind_some', hts, h64]
    simp only [bnd_def]
    have hps : 0 < 2 ^ s := Nat.two_pow_pos s
    have hpp : 2 ^ s * 2 ^ (64 - s) = 18446744073709551616 := by rw [← Nat.pow_add, show s + (64 - s) = 64 from by omega]
    have hY : (shlU y0 s).toNat = y0.toNat * 2 ^ s := by rw [shlU_nat (by omega)]; exact Nat.mod_eq_of_lt hn2
    have hlo := lo.toNat_lt
    have hlod : lo.toNat / 2 ^ (64 - s) < 2 ^ s := by rw [Nat.div_lt_iff_lt_mul (Nat.two_pow_pos _), hpp]; omega
    have hhs : hi.toNat * 2 ^ s + 2 ^ s ≤ y0.toNat * 2 ^ s := by rw [← Nat.succ_mul]; exact Nat.mul_le_mul_right _ hh
    have hU : ((shlU hi s) ||| (shrU lo (64 - s))).toNat = hi.toNat * 2 ^ s + lo.toNat / 2 ^ (64 - s) := by
      rw [UInt64.toNat_or, shlU_nat (by omega), shrU_toNat _ _ (by omega), Nat.mod_eq_of_lt (by omega), or_nat hlod]
    have hL : (shlU lo s).toNat = (lo.toNat * 2 ^ s) % 18446744073709551616 := shlU_nat (by omega)
    have m32 : ∀ x : UInt64, (x &&& 4294967295).toNat = x.toNat % 4294967296 := fun x => by
      rw [UInt64.toNat_and]; exact Nat.and_two_pow_sub_one_eq_mod _ 32
    have s32 : ∀ x : UInt64, (shrU x 32).toNat = x.toNat / 4294967296 := fun x => shrU_toNat x 32 (by omega)
    -- the number, moved
    have hlos : lo.toNat * 2 ^ s = lo.toNat / 2 ^ (64 - s) * 18446744073709551616 + (lo.toNat * 2 ^ s) % 18446744073709551616 := by
      have e1 : lo.toNat * 2 ^ s / 18446744073709551616 = lo.toNat / 2 ^ (64 - s) := by
        rw [← hpp, Nat.mul_comm, Nat.mul_div_mul_left _ _ hps]
      rw [← e1]; exact (Nat.div_add_mod' _ _).symm
    have hN : (hi.toNat * 18446744073709551616 + lo.toNat) * 2 ^ s = (hi.toNat * 2 ^ s + lo.toNat / 2 ^ (64 - s)) * 18446744073709551616 + (lo.toNat * 2 ^ s) % 18446744073709551616 := by
      rw [Nat.add_mul, hlos, Nat.add_mul, Nat.mul_right_comm]
      omega
    generalize hgy : shlU y0 s = y at *
    generalize hgu : (shlU hi s) ||| (shrU lo (64 - s)) = u at *
    generalize hgl : shlU lo s = l at *
    have hyl := y.toNat_lt
    have a1 : 2147483648 ≤ (shrU y 32).toNat ∧ (shrU y 32).toNat < 4294967296 := by rw [s32]; omega
    have a0 : (y &&& 4294967295).toNat < 4294967296 := by rw [m32]; omega
    have ay : y.toNat = (shrU y 32).toNat * 4294967296 + (y &&& 4294967295).toNat := by rw [s32, m32]; omega
    have ad : (shrU l 32).toNat < 4294967296 := by rw [s32]; have := l.toNat_lt; omega
    have ae : (l &&& 4294967295).toNat < 4294967296 := by rw [m32]; omega
    have au : u.toNat < y.toNat := by rw [hU, hY]; omega
    have hx4 : shrU y 32 ≠ 0 := fun e => by rw [e] at a1; simp at a1
    obtain ⟨b1, b2, b3, b4⟩ := dstart a1 a0 ad ay au
    obtain ⟨q1, c1, c2⟩ := dloop1 a1 a0 ad ay au 2 _ _ b1 b2 b3 b4 (by omega)
    have hr1 := drest au c2
    have hr1l := Nat.mod_lt (u.toNat * 4294967296 + (shrU l 32).toNat) (show 0 < y.toNat by omega)
    rw [if_pos hx4, iter_up _ c1 (by omega), obind_some', obind_some', if_pos hx4]
    generalize hgv : ((u * 4294967296) + (shrU l 32)) - (q1 * y) = v at *
    have av : v.toNat < y.toNat := by omega
    obtain ⟨d1, d2, d3, d4⟩ := dstart a1 a0 ae ay av
    obtain ⟨q0, e1, e2⟩ := dloop2 a1 a0 ae ay av 2 _ _ d1 d2 d3 d4 (by omega)
    have hr0 := drest av e2
    rw [iter_up _ e1 (by omega), obind_some', obind_some']
    refine ⟨_, _, rfl, ?_⟩
    rw [shrU_toNat _ _ (by omega), hr0, hr1]
    have f1 : (((u.toNat * 4294967296 + (shrU l 32).toNat) % y.toNat) * 4294967296 + (l &&& 4294967295).toNat) % y.toNat = ((hi.toNat * 18446744073709551616 + lo.toNat) * 2 ^ s) % y.toNat := by
      rw [Nat.add_mod, Nat.mod_mul_mod, ← Nat.add_mod, hN, ← hU, ← hL, s32, m32]
      have e9 : (u.toNat * 4294967296 + l.toNat / 4294967296) * 4294967296 + l.toNat % 4294967296 = u.toNat * 18446744073709551616 + l.toNat := by omega
      rw [e9]
    rw [f1, hY, Nat.mul_mod_mul_right, Nat.mul_div_cancel _ hps]
end Go.Proofs.YtgnklegamndglaaGreat
end
section
namespace Go.Proofs.YtgnklegamndglaaGreat
open Go Go.Gw
abbrev GQ : Nat := 2305843009213691579
abbrev GR : Nat := 1152921504606845789
def Dv (y : UInt64) : Prop := ∃ s : Nat, s ≤ 63 ∧ m_bits_LeadingZeros64 y = some (s : Int) ∧ 9223372036854775808 ≤ y.toNat * 2 ^ s ∧ y.toNat * 2 ^ s < 18446744073709551616
theorem dvQ : Dv 2305843009213691579 := ⟨3, by omega, by kernel_rfl, by decide, by decide⟩
theorem dvR : Dv 1152921504606845789 := ⟨4, by omega, by kernel_rfl, by decide, by decide⟩
theorem Dv.pos {y : UInt64} (h : Dv y) : 0 < y.toNat := by
  obtain ⟨s, _, _, h1, _⟩ := h
  by_cases e : y.toNat = 0
  · rw [e] at h1; simp at h1
  · omega
theorem rem_eq {y : UInt64} (h : Dv y) (hi lo : UInt64) : ∃ z, m_bits_Rem64 hi lo y = some z ∧ z.toNat = (hi.toNat * 18446744073709551616 + lo.toNat) % y.toNat := by
  have hpos := h.pos
  obtain ⟨s, h1, h2, h3, h4⟩ := h
  have hyne : y ≠ 0 := fun e => by rw [e] at hpos; simp at hpos
  have hm : (hi % y).toNat = hi.toNat % y.toNat := UInt64.toNat_mod _ _
  obtain ⟨q, r, e1, e2⟩ := div64_eq (hi := hi % y) (lo := lo) h1 h2 h3 h4 (by rw [hm]; exact Nat.mod_lt _ hpos)
  refine ⟨r, ?_, ?_⟩
  · unfold m_bits_Rem64
    rw [if_pos hyne, e1, obind_some']
  · rw [e2, hm, Nat.add_mod, Nat.mod_mul_mod, ← Nat.add_mod]
def ofN (n : Nat) : UInt64 := UInt64.ofNat n
theorem ofN_nat {n : Nat} (h : n < 18446744073709551616) : (ofN n).toNat = n := by
  unfold ofN; rw [UInt64.toNat_ofNat']; exact Nat.mod_eq_of_lt h
theorem ofN_mod (n : Nat) {y : UInt64} (h : 0 < y.toNat) : (ofN (n % y.toNat)).toNat = n % y.toNat := ofN_nat (Nat.lt_of_lt_of_le (Nat.mod_lt _ h) (Nat.le_of_lt y.toNat_lt))
theorem of_nat {z : UInt64} {n : Nat} (h : z.toNat = n) : z = ofN n := by
  rw [← h]; exact u_ext (ofN_nat z.toNat_lt).symm
def mulM (y a b : UInt64) : UInt64 := ofN ((a.toNat * b.toNat) % y.toNat)
theorem mulM_nat {y : UInt64} (h : Dv y) (a b : UInt64) : (mulM y a b).toNat = (a.toNat * b.toNat) % y.toNat := ofN_mod _ h.pos
theorem ringMul_eq {y : UInt64} (h : Dv y) (a b : UInt64) : m_cyclic_ring_mul y a b = some (mulM y a b) := by
  obtain ⟨z, e1, e2⟩ := rem_eq h (phi a b) (a * b)
  unfold m_cyclic_ring_mul
  rw [mul64_eq, obind_some', e1, obind_some']
  rw [phi_nat, UInt64.toNat_mul, Nat.div_add_mod'] at e2
  rw [of_nat e2]; rfl
def addM (y a b : UInt64) : UInt64 := ofN ((a.toNat + b.toNat) % y.toNat)
theorem carry_nat (a b : UInt64) : (carryU a b).toNat * 18446744073709551616 + (a + b).toNat = a.toNat + b.toNat := by
  have := a.toNat_lt
  have := b.toNat_lt
  unfold carryU
  rw [UInt64.toNat_ofNat', UInt64.toNat_add]
  omega
theorem num_aux {P d r c sm t : Nat} (hP : d * 18446744073709551616 + r = P) (hr : r < 18446744073709551616) (hd : d < 2305843009213693952) (hc : c * 18446744073709551616 + sm = r + t) (ht : t < 18446744073709551616) :
    ((d + c) % 18446744073709551616) * 18446744073709551616 + sm = P + t := by
  have h1 : c ≤ 1 := by omega
  rw [Nat.mod_eq_of_lt (show d + c < 18446744073709551616 by omega), Nat.add_mul, ← hP, Nat.add_assoc, hc, Nat.add_assoc]
def numM (s : UInt64 × UInt64) (y : UInt64) : UInt64 := ofN ((s.1.toNat * 2305843009213693952 + s.2.toNat) % y.toNat)
theorem num_eq {y : UInt64} (h : Dv y) (s : UInt64 × UInt64) : m_hash_Num s y = some (numM s y) := by
  have hpos := h.pos
  have hyne : y ≠ 0 := fun e => by rw [e] at hpos; simp at hpos
  obtain ⟨t, h1, h2, h3, h4⟩ := h
  have hp : (phi s.1 2305843009213693952).toNat = s.1.toNat * 2305843009213693952 / 18446744073709551616 := phi_nat _ _
  have hl : (s.1 * 2305843009213693952).toNat = s.1.toNat * 2305843009213693952 % 18446744073709551616 := UInt64.toNat_mul _ _
  have hs1 := s.1.toNat_lt
  have hs2 := s.2.toNat_lt
  have hc := carry_nat (s.1 * 2305843009213693952) s.2
  have hsum : (phi s.1 2305843009213693952 + carryU (s.1 * 2305843009213693952) s.2).toNat * 18446744073709551616 + (s.1 * 2305843009213693952 + s.2).toNat = s.1.toNat * 2305843009213693952 + s.2.toNat := by
    rw [UInt64.toNat_add, hp]
    rw [hl] at hc
    have hdl : s.1.toNat * 2305843009213693952 / 18446744073709551616 < 2305843009213693952 := by
      rw [Nat.div_lt_iff_lt_mul (by decide), Nat.mul_comm (2305843009213693952)]
      exact Nat.mul_lt_mul_of_pos_right hs1 (by decide)
    exact num_aux (Nat.div_add_mod' _ _) (Nat.mod_lt _ (by decide)) hdl hc hs2
  have hm : ((phi s.1 2305843009213693952 + carryU (s.1 * 2305843009213693952) s.2) % y).toNat = (phi s.1 2305843009213693952 + carryU (s.1 * 2305843009213693952) s.2).toNat % y.toNat := UInt64.toNat_mod _ _
  obtain ⟨q, r, e1, e2⟩ := div64_eq (hi := (phi s.1 2305843009213693952 + carryU (s.1 * 2305843009213693952) s.2) % y) (lo := s.1 * 2305843009213693952 + s.2) h1 h2 h3 h4 (by rw [hm]; exact Nat.mod_lt _ hpos)
  unfold m_hash_Num
  rw [if_neg (by rw [beq_iff_eq]; omega), mul64_eq, obind_some', if_pos hyne]
  dsimp only
  rw [e1, obind_some']
  rw [hm, Nat.add_mod, Nat.mod_mul_mod, ← Nat.add_mod, hsum] at e2
  rw [of_nat e2]; rfl
theorem tabL_all : ((List.range 256).all fun n => decide (n < 2 ^ (str_0.data.toList.getD n 0).toNat) && decide ((str_0.data.toList.getD n 0).toNat ≤ 8)) = true := by kernel_rfl
theorem tabL_len : str_0.data.toList.length = 256 := by kernel_rfl
theorem tabL (x : UInt64) (hx : x.toNat < 256) : ∃ b, idx str_0.data.toList ((toB (x.toNat : Int)).toNat : Int) = some b ∧ x.toNat < 2 ^ b.toNat ∧ b.toNat ≤ 8 := by
  have hb : (toB (x.toNat : Int)).toNat = x.toNat := by unfold toB; rw [UInt8.toNat_ofNat']; omega
  have h := List.all_eq_true.1 tabL_all x.toNat (List.mem_range.2 hx)
  rw [Bool.and_eq_true, decide_eq_true_eq, decide_eq_true_eq] at h
  have hlt : x.toNat < str_0.data.toList.length := by rw [tabL_len]; exact hx
  rw [List.getD_eq_getElem?_getD, List.getElem?_eq_getElem hlt, Option.getD_some] at h
  rw [hb]
  exact ⟨str_0.data.toList[x.toNat], idx_nat (by simp), h.1, h.2⟩
theorem len64_eq (a : UInt64) : ∃ L : Nat, m_bits_Len64 a = some (L : Int) ∧ a.toNat < 2 ^ L ∧ L ≤ 64 := by
  have ha := a.toNat_lt
  have h1 : ∃ (x : UInt64) (n : Nat), (if (decide ((a.toNat : Int) ≥ 4294967296)) = true then some ((shrU a 32), (32 : Int)) else some (a, 0)) = some (x, (n : Int)) ∧ n ≤ 32 ∧ x.toNat < 4294967296 ∧ a.toNat < (x.toNat + 1) * 2 ^ n := by
    split
    · refine ⟨shrU a 32, 32, rfl, by omega, ?_, ?_⟩ <;> rw [shrU_toNat a 32 (by omega)] <;> omega
    · rename_i h; rw [decide_eq_true_eq] at h; exact ⟨a, 0, rfl, by omega, by omega, by omega⟩
  obtain ⟨x, n, e1, n1, hx, hn⟩ := h1
  have h2 : ∃ (y : UInt64) (k : Nat), (if (decide ((x.toNat : Int) ≥ 65536)) = true then some ((shrU x 16), (w64 ((n : Int) + 16))) else some (x, (n : Int))) = some (y, (k : Int)) ∧ k ≤ 48 ∧ y.toNat < 65536 ∧ a.toNat < (y.toNat + 1) * 2 ^ k := by
    split
    · refine ⟨shrU x 16, n + 16, by rw [w64_in (by omega) (by omega)]; rfl, by omega, ?_, ?_⟩
      · rw [shrU_toNat x 16 (by omega)]; omega
      · rw [shrU_toNat x 16 (by omega), Nat.pow_add]
        refine Nat.lt_of_lt_of_le hn ?_
        have : x.toNat + 1 ≤ (x.toNat / 2 ^ 16 + 1) * 2 ^ 16 := by omega
        calc (x.toNat + 1) * 2 ^ n ≤ ((x.toNat / 2 ^ 16 + 1) * 2 ^ 16) * 2 ^ n := Nat.mul_le_mul_right _ this
          _ = (x.toNat / 2 ^ 16 + 1) * (2 ^ n * 2 ^ 16) := by rw [Nat.mul_assoc, Nat.mul_comm (2 ^ 16)]
    · rename_i h; rw [decide_eq_true_eq] at h; exact ⟨x, n, rfl, by omega, by omega, hn⟩
  obtain ⟨y, k, e2, k1, hy, hk⟩ := h2
  have h3 : ∃ (z : UInt64) (j : Nat), (if (decide ((y.toNat : Int) ≥ 256)) = true then some ((shrU y 8), (w64 ((k : Int) + 8))) else some (y, (k : Int))) = some (z, (j : Int)) ∧ j ≤ 56 ∧ z.toNat < 256 ∧ a.toNat < (z.toNat + 1) * 2 ^ j := by
    split
    · refine ⟨shrU y 8, k + 8, by rw [w64_in (by omega) (by omega)]; rfl, by omega, ?_, ?_⟩
      · rw [shrU_toNat y 8 (by omega)]; omega
      · rw [shrU_toNat y 8 (by omega), Nat.pow_add]
        refine Nat.lt_of_lt_of_le hk ?_
        have : y.toNat + 1 ≤ (y.toNat / 2 ^ 8 + 1) * 2 ^ 8 := by omega
        calc (y.toNat + 1) * 2 ^ k ≤ ((y.toNat / 2 ^ 8 + 1) * 2 ^ 8) * 2 ^ k := Nat.mul_le_mul_right _ this
          _ = (y.toNat / 2 ^ 8 + 1) * (2 ^ k * 2 ^ 8) := by rw [Nat.mul_assoc, Nat.mul_comm (2 ^ 8)]
    · rename_i h; rw [decide_eq_true_eq] at h; exact ⟨y, k, rfl, by omega, by omega, hk⟩
  obtain ⟨z, j, e3, j1, hz, hj⟩ := h3
  obtain ⟨b, e4, b1, b2⟩ := tabL z hz
  refine ⟨j + b.toNat, ?_, ?_, by omega⟩
  · unfold m_bits_Len64
    rw [e1, obind_some']
    dsimp only
    rw [e2, obind_some']
    dsimp only
    rw [e3, obind_some', e4, obind_some', bnd_def, w64_in (n := (b.toNat : Int)) (by omega) (by omega), w64_in (by omega) (by omega)]; rfl
  · refine Nat.lt_of_lt_of_le hj ?_
    rw [Nat.add_comm j, Nat.pow_add]
    exact Nat.mul_le_mul_right _ b1
def powN (y a n : UInt64) : UInt64 := ofN (a.toNat ^ n.toNat % y.toNat)
theorem powN_nat {y : UInt64} (h : Dv y) (a n : UInt64) : (powN y a n).toNat = a.toNat ^ n.toNat % y.toNat := ofN_mod _ h.pos
theorem and_pow (n j : Nat) : n &&& 2 ^ j = (n.testBit j).toNat * 2 ^ j := by
  apply Nat.eq_of_testBit_eq
  intro i
  rw [Nat.testBit_and, Nat.testBit_two_pow]
  by_cases h : j = i
  · subst h
    cases hb : n.testBit j <;> simp [hb, Nat.testBit_two_pow_self]
  · cases hb : n.testBit j <;> simp [h, Nat.testBit_two_pow]
theorem bit_eq (n : UInt64) {j : Nat} (hj : j ≤ 63) : (((n &&& (shlU 1 j)).toNat : Int) != 0) = decide (n.toNat / 2 ^ j % 2 = 1) := by
  have h1 : (shlU 1 j).toNat = 2 ^ j := by
    rw [shlU_nat hj, show (1 : UInt64).toNat = 1 from rfl, Nat.one_mul]
    exact Nat.mod_eq_of_lt (Nat.lt_of_le_of_lt (Nat.pow_le_pow_right (by omega) hj) (by decide))
  have h2 : (n &&& (shlU 1 j)).toNat = (n.toNat.testBit j).toNat * 2 ^ j := by rw [UInt64.toNat_and, h1, and_pow]
  rw [h2]
  have hp := Nat.two_pow_pos j
  rw [Nat.testBit_eq_decide_div_mod_eq]
  by_cases hb : n.toNat / 2 ^ j % 2 = 1
  · simp only [hb, decide_true, Bool.toNat_true, Nat.one_mul]
    rw [bne_iff_ne]; omega
  · simp only [hb, decide_false, Bool.toNat_false, Nat.zero_mul]; rfl
def mulF (y : UInt64) : Unit → UInt64 → UInt64 → Option (UInt64 × Unit) := fun (s1 : Unit) (b1 : UInt64) (b2 : UInt64) => obind (m_cyclic_ring_mul y b1 b2) fun x1 => some (x1, ())
theorem pow_it {y : UInt64} (h : Dv y) (a n : UInt64) : ∀ (j : Nat) (out : UInt64), j ≤ 64 → out.toNat = a.toNat ^ (n.toNat / 2 ^ j) % y.toNat →
    ∃ r, iter (m_cyclic_places_1_b1 (fun (s : UInt64 × Unit) (b0 : Bool) => obind (m_cyclic_power_b5 (mulF y) a b0 s) fun z => some (true, z)) n) (j + 1) ((j : Int) - 1, (out, ())) = some (.inl (r, ())) ∧ r.toNat = a.toNat ^ n.toNat % y.toNat := by
  intro j
  induction j with
  | zero =>
    intro out _ ho
    refine ⟨out, iter_end ?_, by rw [ho]; simp⟩
    unfold m_cyclic_places_1_b1
    rw [if_neg (by simp)]
  | succ j ih =>
    intro out hj ho
    have hw : w64 ((((j + 1 : Nat) : Int) - 1) - 1) = (j : Int) - 1 := by rw [w64_in (by omega) (by omega)]; omega
    have hk : (((j + 1 : Nat) : Int) - 1).toNat = j := by omega
    have hbit := bit_eq n (j := j) (by omega)
    have hdiv : n.toNat / 2 ^ (j + 1) = n.toNat / 2 ^ j / 2 := by rw [Nat.pow_succ, Nat.div_div_eq_div_mul]
    have hsq : (mulM y out out).toNat = a.toNat ^ (2 * (n.toNat / 2 ^ (j + 1))) % y.toNat := by
      rw [mulM_nat h, ho, ← Nat.mul_mod, ← Nat.pow_add, ← Nat.two_mul]
    by_cases hb : n.toNat / 2 ^ j % 2 = 1
    · have hn : (mulM y (mulM y out out) a).toNat = a.toNat ^ (n.toNat / 2 ^ j) % y.toNat := by
        rw [mulM_nat h, hsq, Nat.mod_mul_mod, ← Nat.pow_succ]
        congr 2; omega
      obtain ⟨r, r1, r2⟩ := ih (mulM y (mulM y out out) a) (by omega) hn
      refine ⟨r, ?_, r2⟩
      rw [iter_step (s' := ((j : Int) - 1, (mulM y (mulM y out out) a, ()))), r1]
      unfold m_cyclic_places_1_b1
      dsimp only
      rw [if_pos (by rw [decide_eq_true_eq]; omega), if_pos (by omega), hk, hbit]
      simp only [m_cyclic_power_b5, mulF, ringMul_eq h, obind_some', hb, decide_true, if_true, Bool.not_true, Bool.false_eq_true, if_false, hw]
    · have hn : (mulM y out out).toNat = a.toNat ^ (n.toNat / 2 ^ j) % y.toNat := by
        rw [hsq]; congr 2; omega
      obtain ⟨r, r1, r2⟩ := ih (mulM y out out) (by omega) hn
      refine ⟨r, ?_, r2⟩
      rw [iter_step (s' := ((j : Int) - 1, (mulM y out out, ()))), r1]
      unfold m_cyclic_places_1_b1
      dsimp only
      rw [if_pos (by rw [decide_eq_true_eq]; omega), if_pos (by omega), hk, hbit]
      simp only [m_cyclic_power_b5, mulF, ringMul_eq h, obind_some', hb, decide_false, Bool.not_true, Bool.false_eq_true, if_false, hw]
theorem power_eq {y : UInt64} (h : Dv y) (a n : UInt64) (h1 : 1 < y.toNat) : m_cyclic_power (mulF y) a n () = some (powN y a n, ()) := by
  obtain ⟨L, e1, e2, e3⟩ := len64_eq n
  have hw : w64 ((L : Int) - 1) = (L : Int) - 1 := w64_in (by omega) (by omega)
  obtain ⟨r, r1, r2⟩ := pow_it h a n L 1 e3 (by rw [Nat.div_eq_of_lt e2]; simp; exact (Nat.mod_eq_of_lt h1).symm)
  have r1' := iter_up _ r1 (by omega)
  unfold m_cyclic_power m_cyclic_places_1
  rw [show m_cyclic_places n = some n from rfl, obind_some', e1, obind_some', hw, r1', obind_some']
  simp only [obind_some']
  rw [of_nat r2]; rfl
theorem pow_eq (a n : UInt64) : m_cyclic_Pow a n = some (powN 2305843009213691579 a n) := by
  unfold m_cyclic_Pow
  have := power_eq dvQ a n (by decide)
  unfold mulF at this
  rw [this, obind_some']
theorem base_eq (n : UInt64) : m_cyclic_Base n = some (powN 2305843009213691579 4 n) := by
  unfold m_cyclic_Base
  rw [pow_eq, obind_some']
end Go.Proofs.YtgnklegamndglaaGreat
end
section
namespace Go.Proofs.YtgnklegamndglaaGreat
open Go Go.Gw
theorem inv_abs {u v : Int} {q : Nat} (hs : 0 ≤ u ∧ v ≤ 0 ∨ u ≤ 0 ∧ 0 ≤ v) : (u - (q : Int) * v).natAbs = u.natAbs + q * v.natAbs ∧ ((q : Int) * v).natAbs = q * v.natAbs ∧ (0 ≤ v ∧ u - (q : Int) * v ≤ 0 ∨ v ≤ 0 ∧ 0 ≤ u - (q : Int) * v) := by
  have hqv : ((q : Int) * v).natAbs = q * v.natAbs := by rw [Int.natAbs_mul, Int.natAbs_natCast]
  have h1 : 0 ≤ v → 0 ≤ (q : Int) * v := fun h => Int.mul_nonneg (Int.natCast_nonneg q) h
  have h2 : v ≤ 0 → (q : Int) * v ≤ 0 := fun h => Int.mul_nonpos_of_nonneg_of_nonpos (Int.natCast_nonneg q) h
  refine ⟨?_, hqv, ?_⟩
  · rw [← hqv]
    generalize (q : Int) * v = z at *
    omega
  · generalize (q : Int) * v = z at *
    omega
theorem inv_it (m : Nat) (a : Int) (hm2 : m < 2305843009213693952) : ∀ (n : Nat) (x y : UInt64) (u v : Int), y.toNat ≤ n → (∃ k, u * a = x.toNat + k * m) → (∃ k, v * a = y.toNat + k * m) → u.natAbs * y.toNat + v.natAbs * x.toNat = m →
    (0 ≤ u ∧ v ≤ 0 ∨ u ≤ 0 ∧ 0 ≤ v) → x.toNat ≤ m → u.natAbs ≤ m → v.natAbs ≤ m → y.toNat ≤ m →
    ∃ r : Int, iter m_cyclic_ring_inverse_b1 (n + 1) (x, y, u, v) = some r ∧ (∃ k, r * a = Nat.gcd x.toNat y.toNat + k * m) ∧ r.natAbs ≤ m := by
  intro n
  induction n with
  | zero =>
    intro x y u v hy hu hv hb hs hx hul hvl hyl
    have hy0 : y.toNat = 0 := by omega
    refine ⟨u, iter_end ?_, by rw [hy0, Nat.gcd_zero_right]; exact hu, hul⟩
    unfold m_cyclic_ring_inverse_b1
    rw [if_neg (by simp [hy0])]
  | succ n ih =>
    intro x y u v hy hu hv hb hs hx hul hvl hyl
    by_cases hy0 : y.toNat = 0
    · refine ⟨u, iter_end ?_, by rw [hy0, Nat.gcd_zero_right]; exact hu, hul⟩
      unfold m_cyclic_ring_inverse_b1
      rw [if_neg (by simp [hy0])]
    · have hyne : y ≠ 0 := fun e => hy0 (by rw [e]; rfl)
      have hdm := Nat.div_add_mod' x.toNat y.toNat
      have hmod := Nat.mod_lt x.toNat (show 0 < y.toNat by omega)
      have hql : x.toNat / y.toNat ≤ x.toNat := Nat.div_le_self _ _
      have hmul : x.toNat / y.toNat * y.toNat ≤ x.toNat := Nat.div_mul_le_self _ _
      have hxl := x.toNat_lt
      have hgcd : Nat.gcd x.toNat y.toNat = Nat.gcd y.toNat (x.toNat % y.toNat) := by rw [Nat.gcd_comm, Nat.gcd_rec, Nat.gcd_comm]
      have eq1 : (x / y).toNat = x.toNat / y.toNat := UInt64.toNat_div _ _
      have eq2 : ((x / y) * y).toNat = x.toNat / y.toNat * y.toNat := by rw [UInt64.toNat_mul, eq1]; exact Nat.mod_eq_of_lt (Nat.lt_of_le_of_lt hmul hxl)
      have eq3 : (x - (x / y) * y).toNat = x.toNat % y.toNat := by
        rw [UInt64.toNat_sub_of_le _ _ (by rw [UInt64.le_iff_toNat_le, eq2]; exact hmul), eq2]
        omega
      generalize hq : x.toNat / y.toNat = q at *
      generalize hr : x.toNat % y.toNat = r at *
      obtain ⟨habs, hqv, hs'⟩ := inv_abs (q := q) hs
      have hbal : v.natAbs * r + (u - (q : Int) * v).natAbs * y.toNat = m := by
        rw [habs, ← hb, ← hdm]; grind
      have hvm : (u - (q : Int) * v).natAbs ≤ m := by
        have : (u - (q : Int) * v).natAbs * 1 ≤ (u - (q : Int) * v).natAbs * y.toNat := Nat.mul_le_mul_left _ (by omega)
        omega
      have hqb : ((q : Int) * v).natAbs ≤ m := by omega
      have w1 : w64 (q : Int) = (q : Int) := w64_in (by omega) (by omega)
      have w2 : w64 ((q : Int) * v) = (q : Int) * v := by
        generalize (q : Int) * v = z at *
        exact w64_in (by omega) (by omega)
      have w3 : w64 (u - (q : Int) * v) = u - (q : Int) * v := by
        generalize u - (q : Int) * v = z at *
        exact w64_in (by omega) (by omega)
      have hdmI : (q : Int) * (y.toNat : Int) + (r : Int) = (x.toNat : Int) := by exact_mod_cast hdm
      obtain ⟨t, t1, t2, t3⟩ := ih y (x - (x / y) * y) v (u - (q : Int) * v) (by rw [eq3]; omega) hv (by
        obtain ⟨k, hk⟩ := hu
        obtain ⟨l, hl⟩ := hv
        refine ⟨k - q * l, ?_⟩
        rw [eq3]
        grind) (by rw [eq3]; exact hbal) (by omega) hyl hvl hvm (by rw [eq3]; omega)
      rw [eq3, ← hgcd] at t2
      refine ⟨t, ?_, t2, t3⟩
      rw [iter_step (s' := (y, x - (x / y) * y, v, u - (q : Int) * v)), t1]
      unfold m_cyclic_ring_inverse_b1
      dsimp only
      rw [if_pos (by simp; omega), if_pos hyne, eq1, bnd_def, w1, w2, w3, bnd_def]
theorem inv_eq {a : UInt64} {b : Nat} (h : a.toNat * b % GQ = 1) : ∃ z : UInt64, m_cyclic_Inv a = some (z, 0) ∧ z.toNat * a.toNat % GQ = 1 := by
  have hm : (a % 2305843009213691579).toNat = a.toNat % GQ := UInt64.toNat_mod _ _
  have hml := Nat.mod_lt a.toNat (show 0 < GQ by decide)
  have hne : a.toNat % GQ ≠ 0 := fun e => by
    rw [Nat.mul_mod, e, Nat.zero_mul, Nat.zero_mod] at h; cases h
  have hg : Nat.gcd (a.toNat % GQ) GQ = 1 := by
    have d1 := Nat.gcd_dvd_left (a.toNat % GQ) GQ
    have d2 := Nat.gcd_dvd_right (a.toNat % GQ) GQ
    have h' : a.toNat % GQ * b % GQ = 1 := by rw [Nat.mod_mul_mod]; exact h
    have h2 := Nat.div_add_mod (a.toNat % GQ * b) GQ
    rw [h'] at h2
    have d3 : Nat.gcd (a.toNat % GQ) GQ ∣ GQ * (a.toNat % GQ * b / GQ) + 1 := by rw [h2]; exact Nat.dvd_trans d1 (Nat.dvd_mul_right _ _)
    have d4 := (Nat.dvd_add_right (Nat.dvd_trans d2 (Nat.dvd_mul_right GQ (a.toNat % GQ * b / GQ)))).1 d3
    exact Nat.dvd_one.1 d4
  obtain ⟨r, r1, ⟨k, r2⟩, r3⟩ := inv_it GQ (a.toNat % GQ : Nat) (by decide) GQ (a % 2305843009213691579) 2305843009213691579 1 0 (by decide) ⟨0, by rw [hm]; simp⟩ ⟨-1, by
    rw [show (2305843009213691579 : UInt64).toNat = GQ from rfl]; simp⟩ (by rw [show (2305843009213691579 : UInt64).toNat = GQ from rfl]; simp) (by omega) (by rw [hm]; omega) (by decide) (by decide) (by decide)
  rw [hm, show (2305843009213691579 : UInt64).toNat = GQ from rfl, hg] at r2
  have r1' := iter_up _ r1 (by decide)
  have hw : w64 (((2305843009213691579 : UInt64).toNat : Int)) = (GQ : Int) := w64_in (by decide) (by decide)
  have hz : ∃ z : Nat, (if (decide (r < 0)) = true then bnd ((w64 (r + (w64 (((2305843009213691579 : UInt64).toNat : Int)))))) fun x7 => some x7 else some r) = some (z : Int) ∧ z ≤ GQ ∧ ∃ l : Int, (z : Int) * (a.toNat % GQ : Nat) = 1 + l * GQ := by
    simp only [GQ] at *
    by_cases hneg : r < 0
    · rw [if_pos (by simpa using hneg), hw, bnd_def, w64_in (by omega) (by omega)]
      obtain ⟨z, hz⟩ := Int.eq_ofNat_of_zero_le (show 0 ≤ r + 2305843009213691579 by omega)
      refine ⟨z, by rw [← hz]; rfl, by omega, k + (a.toNat % 2305843009213691579 : Nat), ?_⟩
      rw [← hz, Int.add_mul, r2]
      grind
    · rw [if_neg (by simpa using hneg)]
      obtain ⟨z, hz⟩ := Int.eq_ofNat_of_zero_le (show 0 ≤ r by omega)
      exact ⟨z, by rw [hz], by omega, k, by rw [← hz]; exact r2⟩
  obtain ⟨z, z1, z2, l, z3⟩ := hz
  have hzn : (toU (z : Int)).toNat = z := toU_toNat (by simp only [GQ] at z2; omega)
  refine ⟨toU (z : Int), ?_, ?_⟩
  · unfold m_cyclic_Inv m_cyclic_ring_inverse
    rw [if_pos (by decide), if_neg (by rw [beq_iff_eq, hm]; omega), r1', obind_some', obind_some', z1, obind_some', obind_some']
  · rw [hzn, ← Nat.mul_mod_mod]
    have : ((z * (a.toNat % GQ) : Nat) : Int) = 1 + l * GQ := by rw [Int.natCast_mul]; exact z3
    generalize z * (a.toNat % GQ) = w at *
    simp only [GQ] at *
    omega
end Go.Proofs.YtgnklegamndglaaGreat
end
section
namespace Go.Proofs.YtgnklegamndglaaGreat
open Go Go.Gw
theorem bytes8_eq (n : UInt64) : m_sign_bytes n = some (pput 8 n) := by
  unfold m_sign_bytes
  simp [eachN0, m_sign_bytes_b2, idx, w64, bnd_def, pput]
def pubK (k : UInt64) : UInt64 := powN 2305843009213691579 4 k
def chal (c p : UInt64) (msg : List UInt8) : UInt64 := numM (ptag ⟨#[115, 105, 103, 110]⟩ [pput 8 c, pput 8 p, msg]) 1152921504606845789
theorem chal_eq (c p : UInt64) {msg : List UInt8} (h : msg.length ≤ 600000) : m_sign_Challenge c p msg = some (chal c p msg) := by
  unfold m_sign_Challenge
  rw [bytes8_eq, obind_some', bytes8_eq, obind_some', tagged_eq _ _ (by simp [plen, pput_len]; omega), obind_some', num_eq dvR, obind_some']; rfl
def nonceK (k : UInt64) (msg : List UInt8) : UInt64 := numM (ptag ⟨#[110, 111, 110, 99, 101]⟩ [pput 8 k, msg]) 1152921504606845788 + 1
def signE (k : UInt64) (msg : List UInt8) : UInt64 := chal (pubK (nonceK k msg)) (pubK k) msg
def signS (k : UInt64) (msg : List UInt8) : g_api_Sig := ⟨signE k msg, addM 1152921504606845789 (mulM 1152921504606845789 (signE k msg) k) (nonceK k msg)⟩
def gr : Nat := GR
theorem powQ_nat (a n : UInt64) : (powN 2305843009213691579 a n).toNat = a.toNat ^ n.toNat % GQ := powN_nat dvQ a n
theorem inv_law {p e k : Nat} (hp : p ^ gr % GQ = 1) (he : e ≤ gr) : p ^ e % GQ * p ^ (gr - e) % GQ = 1 := by
  rw [Nat.mod_mul_mod, ← Nat.pow_add, Nat.add_sub_cancel' he]; exact hp
theorem gu_tt {α : Type} [Inhabited α] (o : Option α) : gu true o = o := rfl
end Go.Proofs.YtgnklegamndglaaGreat
end
section
namespace Go.Proofs.YtgnklegamndglaaGreat
open Go Go.Gw
def okBody (b : List UInt8) : Bool := decide (0 < b.length) && decide (b.length ≤ 2048)
def okNum (n : Int) : Bool := decide (0 ≤ n) && decide (n ≤ 1099511627776)
theorem number_eq (n : Int) : m_logd_number n = some (okNum n) := rfl
def kvOf (ks : List (List UInt8)) : List (ByteArray × Bool) := ks.map fun b => (bs b, true)
def okL : List g_api_Leaf → List (List UInt8) → Bool
  | [], _ => true
  | x :: r, ks => (okBody x.Body && okNum x.At && !decide (x.Body ∈ ks)) && okL r (ks ++ [x.Body])
def okH : List Int → Int → Int → Bool
  | [], _, _ => true
  | x :: r, last, n => (!decide (x ≤ last) && !decide (n ≤ x)) && okH r x n
def okHd (l : g_api_Log) : Bool := okNum l.Id && !decide (l.Key.toNat = 0) && decide (l.Key.toNat < 1152921504606845789) && decide (0 ≤ l.Delay) && decide (l.Delay ≤ 1000)
def chk (l : g_api_Log) : Int :=
  if okHd l = true then (if okL (l.L ++ l.Wait) [] = true then (if okH l.Hide (-1) (l.L.length : Int) = true then (if 256 < (l.L ++ l.Wait).length then 2 else 0) else 1) else 1) else 1
end Go.Proofs.YtgnklegamndglaaGreat
end
section
namespace Go.Proofs.YtgnklegamndglaaGreat
open Go Go.Gw
theorem growB_eq (n : Nat) (h : n ≤ 1000000) : m_slices_Grow_byte_byte_nil (n : Int) = some [] := by
  have hw : w64 ((n : Int) - (w64 (0 - ((0 : Nat) : Int)))) = (n : Int) := by rw [w64_in (n := 0 - ((0 : Nat) : Int)) (by omega) (by omega), w64_in (by omega) (by omega)]; omega
  unfold m_slices_Grow_byte_byte_nil
  rw [if_neg (by rw [decide_eq_true_eq]; omega), obind_some', hw, bnd_def]
  by_cases h0 : n = 0
  · rw [if_neg (by simp; omega), obind_some']
  · rw [if_pos (by simp; omega), if_pos (by omega), obind_some']
theorem concatB_sum : ∀ (xs : List (List UInt8)) (i : Int) (n : Nat), n + xs.flatten.length ≤ 1000000 → each0 m_slices_Concat_byte_byte_b1 xs i (n : Int) = some ((n + xs.flatten.length : Nat) : Int) := by
  intro xs
  induction xs with
  | nil => intro i n _; simp [each0]
  | cons x xs ih =>
    intro i n h
    simp only [List.flatten_cons, List.length_append] at h
    have hw : w64 ((n : Int) + (x.length : Int)) = ((n + x.length : Nat) : Int) := by rw [w64_in (by omega) (by omega)]; omega
    have hb : m_slices_Concat_byte_byte_b1 i x (n : Int) = some ((n + x.length : Nat) : Int) := by
      unfold m_slices_Concat_byte_byte_b1
      rw [bnd_def, hw, if_neg (by rw [decide_eq_true_eq]; omega), obind_some']
    simp only [each0, hb, obind_some']
    rw [ih _ _ (by omega), List.flatten_cons, List.length_append, Nat.add_assoc]
theorem concatB_app : ∀ (xs : List (List UInt8)) (i : Int) (s : List UInt8), s.length + xs.flatten.length ≤ 1000000 → each0 m_slices_Concat_byte_byte_b2 xs i s = some (s ++ xs.flatten) := by
  intro xs
  induction xs with
  | nil => intro i s _; simp [each0]
  | cons x xs ih =>
    intro i s h
    simp only [List.flatten_cons, List.length_append] at h
    have hb : m_slices_Concat_byte_byte_b2 i x s = some (s ++ x) := by
      unfold m_slices_Concat_byte_byte_b2
      rw [app_eq 1 (by omega) (by omega), obind_some']
    simp only [each0, hb, obind_some']
    rw [ih _ _ (by rw [List.length_append]; omega), List.flatten_cons, List.append_assoc]
theorem concatB_eq {xs : List (List UInt8)} (h : xs.flatten.length ≤ 1000000) : m_slices_Concat_byte_byte xs = some xs.flatten := by
  have h1 := concatB_sum xs 0 0 (by omega)
  rw [show ((0 : Nat) : Int) = 0 from rfl, Nat.zero_add] at h1
  unfold m_slices_Concat_byte_byte
  rw [h1, obind_some', obind_some', growB_eq _ h, obind_some', concatB_app xs 0 [] (by simpa using h), obind_some', obind_some', List.nil_append]
theorem msg_eq {w : ByteArray} {ps : List (List UInt8)} (hw : w.data.toList.length ≤ 100) (h : ps.flatten.length ≤ 100000) : m_logd_msg w ps = some (w.data.toList ++ ps.flatten) := by
  unfold m_logd_msg
  have h0 : ([] : List UInt8).length = 0 := rfl
  rw [app_eq 1 (by omega) (by omega), obind_some', concatB_eq (by omega), obind_some', List.nil_append, app_eq 1 (by omega) (by omega), obind_some']
def e8 (n : Int) : List UInt8 := [toB (shr64 n 56), toB (shr64 n 48), toB (shr64 n 40), toB (shr64 n 32), toB (shr64 n 24), toB (shr64 n 16), toB (shr64 n 8), toB (shr64 n 0)]
theorem eight_eq' (n : Int) : m_logd_eight n = some (e8 n) := by
  unfold m_logd_eight
  simp [eachN0, m_logd_eight_b2, idx, w64, bnd_def, e8]
def headB (h : g_api_Head) : List UInt8 := [104, 101, 97, 100] ++ [e8 h.Log, e8 h.Size, pbytes h.Root, e8 h.At].flatten
theorem e8_len (n : Int) : (e8 n).length = 8 := rfl
theorem ofHead_eq (h : g_api_Head) : m_logd_ofHead h = some (headB h) := by
  unfold m_logd_ofHead
  rw [eight_eq', obind_some', eight_eq', obind_some', bytes_eq, obind_some', eight_eq', obind_some', msg_eq (by decide) (by simp [e8_len, pbytes_len]), obind_some']; rfl
theorem headB_len (h : g_api_Head) : (headB h).length ≤ 600000 := by simp [headB, e8_len, pbytes_len]
end Go.Proofs.YtgnklegamndglaaGreat
end
section
namespace Go.Proofs.YtgnklegamndglaaGreat
open Go Go.Gw
def radd (a b : UInt64) : UInt64 := ((a % 2305843009213693951) + (b % 2305843009213693951)) % 2305843009213693951
end Go.Proofs.YtgnklegamndglaaGreat
end
section
namespace Go.Gw
open Go
theorem bs_eq {a b : List UInt8} : eqS (bs a) (bs b) = decide (a = b) := by
  rw [Bool.eq_iff_iff, decide_eq_true_eq]; simp [eqS, bs]
end Go.Gw
end
section
namespace Go.Proofs.YtgnklegamndglaaGreat
open Go Go.Gw
end Go.Proofs.YtgnklegamndglaaGreat
end
section
namespace Go.Proofs.YtgnklegamndglaaGreat
open Go Go.Gw
end Go.Proofs.YtgnklegamndglaaGreat
end
section
namespace Go.Proofs.YtgnklegamndglaaGreat
open Go Go.Gw
end Go.Proofs.YtgnklegamndglaaGreat
end
section
namespace Go.Proofs.YtgnklegamndglaaGreat
open Go Go.Gw
end Go.Proofs.YtgnklegamndglaaGreat
end
section
namespace Go.Proofs.YtgnklegamndglaaGreat
open Go Go.Gw
theorem progRest (p z : UInt64) {msg : List UInt8} (s : g_api_Sig) (hm : msg.length ≤ 600000) (hz : m_cyclic_Inv (powN 2305843009213691579 p s.E) = some (z, 0)) :
    (obind (m_cyclic_Pow p s.E) fun x2 => obind (m_cyclic_Inv x2) fun x3 => obind (gu (!(x3.2 != 0)) (m_cyclic_Base s.S)) fun x4 => obind (gu (!(x3.2 != 0)) (m_cyclic_Mul x4 x3.1)) fun x5 => obind (gu (!(x3.2 != 0)) (m_sign_Challenge x5 p msg)) fun x6 =>
      if ((x3.2 != 0) || ((x6.toNat : Int) != (s.E.toNat : Int))) = true then some (40 : Int) else some 0)
      = if (((chal (mulM 2305843009213691579 (pubK s.S) z) p msg).toNat : Int) != (s.E.toNat : Int)) = true then some 40 else some 0 := by
  have e1 : ((z, (0 : Int)).2 != 0) = false := rfl
  unfold m_cyclic_Mul
  rw [pow_eq, obind_some', hz, obind_some', e1, Bool.not_false, gu_tt, base_eq, obind_some', gu_tt, ringMul_eq dvQ, obind_some', obind_some', gu_tt]
  dsimp only
  rw [show powN 2305843009213691579 4 s.S = pubK s.S from rfl, chal_eq _ _ hm, obind_some', Bool.false_or]
theorem inv_of {p E : UInt64} (hpow : p.toNat ^ gr % GQ = 1) (hE : E.toNat ≤ gr) : ∃ z : UInt64, m_cyclic_Inv (powN 2305843009213691579 p E) = some (z, 0) ∧ z.toNat * (powN 2305843009213691579 p E).toNat % GQ = 1 := by
  have hinv : (powN 2305843009213691579 p E).toNat * p.toNat ^ (gr - E.toNat) % GQ = 1 := by
    rw [powQ_nat]; exact inv_law (k := 0) hpow hE
  exact inv_eq hinv
theorem le_gr {E : UInt64} (hE : E.toNat < 1152921504606845789) : E.toNat ≤ gr := Nat.le_of_lt hE
theorem max_ge {a b : UInt64} : decide (((maxU a b).toNat : Int) ≥ 1152921504606845789) = (decide ((a.toNat : Int) ≥ 1152921504606845789) || decide ((b.toNat : Int) ≥ 1152921504606845789)) := by
  rw [Bool.eq_iff_iff, Bool.or_eq_true, decide_eq_true_eq, decide_eq_true_eq, decide_eq_true_eq]
  unfold maxU
  split
  · rename_i hlt
    have := UInt64.lt_iff_toNat_lt.1 hlt
    omega
  · rename_i hlt
    have := mt UInt64.lt_iff_toNat_lt.2 hlt
    omega
theorem pow_one {p : UInt64} (h : ((powN 2305843009213691579 p 1152921504606845789).toNat : Int) = 1) : p.toNat ^ gr % GQ = 1 := by
  have h1 := powQ_nat p 1152921504606845789
  rw [show (1152921504606845789 : UInt64).toNat = gr from rfl] at h1
  rw [← h1]
  exact Int.ofNat.inj h
theorem both_lt {a b : UInt64} (h : (decide ((a.toNat : Int) ≥ 1152921504606845789) || decide ((b.toNat : Int) ≥ 1152921504606845789)) = false) : a.toNat < 1152921504606845789 := by
  rw [Bool.or_eq_false_iff, decide_eq_false_iff_not] at h
  have := h.1
  omega
theorem inP_eq (p : UInt64) : m_cyclic_In p = some (((decide ((p.toNat : Int) > 0)) && (decide ((p.toNat : Int) < 2305843009213691579))) && (((powN 2305843009213691579 p 1152921504606845789).toNat : Int) == 1)) := by
  unfold m_cyclic_In
  cases (decide ((p.toNat : Int) > 0)) && (decide ((p.toNat : Int) < 2305843009213691579))
  · simp only [gu, cond_false, obind_some', bnd_def, Bool.false_and]
  · simp only [gu, cond_true, pow_eq, obind_some', bnd_def, Bool.true_and]
theorem in_one {p : UInt64} (h : (((decide ((p.toNat : Int) > 0)) && (decide ((p.toNat : Int) < 2305843009213691579))) && (((powN 2305843009213691579 p 1152921504606845789).toNat : Int) == 1)) = true) : ((powN 2305843009213691579 p 1152921504606845789).toNat : Int) = 1 := by
  rw [Bool.and_eq_true] at h
  exact beq_iff_eq.1 h.2
theorem check_tot (p : UInt64) {msg : List UInt8} (s : g_api_Sig) (hm : msg.length ≤ 600000) : ∃ e, m_sign_Check p msg s = some e := by
  unfold m_sign_Check
  rw [inP_eq, obind_some', max_ge]
  cases h1 : ((decide ((p.toNat : Int) > 0)) && (decide ((p.toNat : Int) < 2305843009213691579))) && (((powN 2305843009213691579 p 1152921504606845789).toNat : Int) == 1) with
  | false => rw [Bool.not_false, if_pos rfl]; exact ⟨_, rfl⟩
  | true =>
    rw [Bool.not_true, if_neg Bool.false_ne_true]
    cases h2 : (decide ((s.E.toNat : Int) ≥ 1152921504606845789) || decide ((s.S.toNat : Int) ≥ 1152921504606845789)) with
    | true => rw [if_pos rfl]; exact ⟨_, rfl⟩
    | false =>
      rw [if_neg Bool.false_ne_true]
      obtain ⟨z, z1, z2⟩ := inv_of (pow_one (in_one h1)) (le_gr (both_lt h2))
      rw [progRest p z s hm z1]
      split <;> exact ⟨_, rfl⟩
end Go.Proofs.YtgnklegamndglaaGreat
end
section
namespace Go.Proofs.YtgnklegamndglaaGreat
open Go Go.Gw
theorem signed_tot (k : g_api_Key) (log : Int) (ok : Bool) {msg : List UInt8} (s : g_api_Sig) (hm : msg.length ≤ 600000) : ∃ e, m_logd_signed k log ok msg s = some e := by
  unfold m_logd_signed
  rw [number_eq, obind_some']
  split
  · exact ⟨_, rfl⟩
  · split
    · exact ⟨_, rfl⟩
    · obtain ⟨e, he⟩ := check_tot k.Key s hm
      rw [he, obind_some']
      exact ⟨_, rfl⟩
theorem chead_tot (k : g_api_Key) (p : g_api_Head) : ∃ e, m_logd_CheckHead k p = some e := by
  unfold m_logd_CheckHead
  rw [number_eq, obind_some', ofHead_eq, obind_some']
  obtain ⟨e, he⟩ := signed_tot k p.Log ((okNum p.At && (decide (p.Size ≥ 0))) && (decide (p.Size ≤ 256))) p.Sig (headB_len p)
  rw [he, obind_some']
  exact ⟨_, rfl⟩
end Go.Proofs.YtgnklegamndglaaGreat
end
section
namespace Go.Proofs.YtgnklegamndglaaGreat
open Go Go.Gw
def chd (k : g_api_Key) (h : g_api_Head) : Int := (m_logd_CheckHead k h).getD 0
theorem chd_eq (k : g_api_Key) (h : g_api_Head) : m_logd_CheckHead k h = some (chd k h) := by
  obtain ⟨e, he⟩ := chead_tot k h
  unfold chd
  rw [he]; rfl
def rightV (h : g_api_Head) (ks : List g_api_Key) : Bool := match fnd (fun k : g_api_Key => k.Log == h.Log) ks 0 with
  | some q => chd q.2 h == 0
  | none => false
theorem indexK_eq (l : List g_api_Key) (k : g_api_Head) : m_slices_IndexFunc_api_Key_api_Key_70x l k = some ((match fnd (fun y : g_api_Key => y.Log == k.Log) l 0 with | some q => (q.1 : Int) | none => -1), k) := by
  have := eachN_fnd (body := m_slices_IndexFunc_api_Key_api_Key_70x_b1 l) (s := pk7 k) (l := l) (fun y : g_api_Key => y.Log == k.Log) (fun i => ((i : Int), k)) (fun i hi => ?_) l 0 rfl
  · unfold m_slices_IndexFunc_api_Key_api_Key_70x
    rw [show ((0 : Nat) : Int) = 0 from rfl] at this
    rw [show (k.Log, k.Size, k.Root.1, k.Root.2, k.At, k.Sig.E, k.Sig.S) = pk7 k from rfl, this, obind_some']
    cases fnd (fun y : g_api_Key => y.Log == k.Log) l 0 <;> rfl
  · unfold m_slices_IndexFunc_api_Key_api_Key_70x_b1 m_gossip_right_1 pk7
    dsimp only
    rw [idx_at hi, obind_some', obind_some']
    cases l[i].Log == k.Log <;> rfl
theorem right_eq (h : g_api_Head) (ks : List g_api_Key) : m_gossip_right h ks = some (rightV h ks) := by
  unfold m_gossip_right rightV
  rw [indexK_eq, obind_some']
  cases hf : fnd (fun y : g_api_Key => y.Log == h.Log) ks 0 with
  | none => rfl
  | some q =>
    obtain ⟨k, k1, k2, _⟩ := fnd_some hf
    obtain ⟨j, x⟩ := q
    have hq : j = k := by dsimp only at k1; omega
    subst hq
    have hd : decide ((j : Int) ≥ 0) = true := by simp
    dsimp only at k2 ⊢
    rw [hd, idx_nat k2]
    simp only [gu, cond_true, obind_some', chd_eq, bnd_def, Bool.true_and]
def rightsV (l : List g_api_Head) (ks : List g_api_Key) : Bool := l.all fun h => rightV h ks
theorem rights_it (ks : List g_api_Key) : ∀ (xs : List g_api_Head) (i : Int), eachR (m_gossip_Check_b2 ks) xs i () = some (if rightsV xs ks = true then .inl () else .inr 40)
  | [], i => rfl
  | x :: xs, i => by
    have h1 : m_gossip_Check_b2 ks i x () = some (if rightV x ks = true then .inl () else .inr 40) := by
      unfold m_gossip_Check_b2
      rw [right_eq, obind_some']
      cases rightV x ks <;> rfl
    unfold rightsV
    by_cases c : rightV x ks = true
    · simp only [eachR, h1, c, if_true, obind_some', List.all_cons, Bool.true_and]
      exact rights_it ks xs (i + 1)
    · have c' : rightV x ks = false := by simpa using c
      simp only [eachR, h1, c', Bool.false_eq_true, if_false, obind_some', List.all_cons, Bool.false_and]
def checkV (l : List g_api_Head) (ks : List g_api_Key) : Int := if l.length > 1024 then 2 else if chB l = true then (if rightsV l ks = true then 0 else 40) else 1
theorem gcheck_eq (p : g_api_Pool) (ks : List g_api_Key) : m_gossip_Check p ks = some (checkV p.L ks) := by
  unfold m_gossip_Check checkV
  simp only [bnd_def]
  by_cases h : p.L.length > 1024
  · rw [if_pos (by simp; omega), if_pos h]
  · rw [if_neg (by simp; omega), if_neg h, ordered_eq (by omega), obind_some']
    cases chB p.L
    · rfl
    · simp only [Bool.not_true, Bool.false_eq_true, if_false, if_true, rights_it, obind_some']
      cases rightsV p.L ks <;> rfl
theorem check_ok {l : List g_api_Head} {ks : List g_api_Key} : checkV l ks = 0 ↔ l.length ≤ 1024 ∧ l.Pairwise ltH ∧ ∀ h ∈ l, rightV h ks = true := by
  unfold checkV
  by_cases h : l.length > 1024
  · rw [if_pos h]; constructor
    · intro q; cases q
    · intro q; omega
  · rw [if_neg h]
    cases hc : chB l
    · rw [if_neg Bool.false_ne_true]
      constructor
      · intro q; cases q
      · intro q; rw [(srt_iff l).2 q.2.1] at hc; cases hc
    · rw [if_pos rfl]
      have hs := (srt_iff l).1 hc
      cases hr : rightsV l ks
      · rw [if_neg Bool.false_ne_true]
        constructor
        · intro q; cases q
        · intro q
          have : rightsV l ks = true := List.all_eq_true.2 q.2.2
          rw [this] at hr; cases hr
      · rw [if_pos rfl]
        exact ⟨fun _ => ⟨by omega, hs, List.all_eq_true.1 hr⟩, fun _ => rfl⟩
theorem ord_cnt {h : g_api_Head} : ∀ {l : List g_api_Head}, l.Pairwise ltH → ∀ i (hi : i < l.length), ordH l[i] h < 0 ↔ i < cntH h l
  | [], _, i, hi => by simp at hi
  | x :: l, hl, i, hi => by
    have hx := (List.pairwise_cons.1 hl).1
    unfold cntH
    cases i with
    | zero =>
      simp only [List.getElem_cons_zero]
      split
      · exact ⟨fun _ => by omega, fun _ => by assumption⟩
      · exact ⟨fun q => absurd q (by assumption), fun q => by omega⟩
    | succ i =>
      simp only [List.getElem_cons_succ]
      have hi' : i < l.length := by simpa using hi
      have ih := ord_cnt (List.pairwise_cons.1 hl).2 i hi' (h := h)
      split
      · rw [ih]; omega
      · rename_i c
        constructor
        · intro q
          exact absurd (ordH_neg.2 (ltH_trans (hx _ (List.getElem_mem hi')) (ordH_neg.1 q))) c
        · intro q; omega
theorem half_eq {i j : Nat} (h : i + j ≤ 1099511627776) : w64 ((shrU (toU (w64 ((i : Int) + (j : Int)))) 1).toNat : Int) = (((i + j) / 2 : Nat) : Int) := by
  have h1 : w64 ((i : Int) + (j : Int)) = ((i + j : Nat) : Int) := by rw [w64_in (by omega) (by omega)]; omega
  rw [h1]
  have h2 : (toU ((i + j : Nat) : Int)).toNat = i + j := by
    have := toU_nat ((i + j : Nat) : Int)
    rw [Int.emod_eq_of_lt (by omega) (by omega)] at this
    omega
  rw [shrU_toNat _ _ (by decide), h2, Nat.pow_one, w64_in (by omega) (by omega)]
theorem bs_it {l : List g_api_Head} {h : g_api_Head} (hl : l.Pairwise ltH) (hn : l.length ≤ 500000000000) : ∀ (d i j n : Nat), j - i ≤ d → d < n → i ≤ cntH h l → cntH h l ≤ j → j ≤ l.length →
    iter (m_slices_BinarySearchFunc_api_Head_api_Head_api_Head_39_b2 l h) n ((i : Int), (j : Int)) = some ((cntH h l : Nat) : Int) := by
  intro d
  induction d with
  | zero =>
    intro i j n hd hn' h1 h2 h3
    obtain ⟨n, rfl⟩ : ∃ q, n = q + 1 := ⟨n - 1, by omega⟩
    have hs : m_slices_BinarySearchFunc_api_Head_api_Head_api_Head_39_b2 l h ((i : Int), (j : Int)) = some (.inr (i : Int)) := by
      unfold m_slices_BinarySearchFunc_api_Head_api_Head_api_Head_39_b2; rw [if_neg (by simp; omega)]
    simp only [iter, hs, obind_some']
    rw [show i = cntH h l from by omega]
  | succ d ih =>
    intro i j n hd hn' h1 h2 h3
    obtain ⟨n, rfl⟩ : ∃ q, n = q + 1 := ⟨n - 1, by omega⟩
    by_cases hij : i < j
    · have hm : (i + j) / 2 < l.length := by omega
      have hs : m_slices_BinarySearchFunc_api_Head_api_Head_api_Head_39_b2 l h ((i : Int), (j : Int)) = some (.inl (if (i + j) / 2 < cntH h l then ((((i + j) / 2 + 1 : Nat) : Int), (j : Int)) else ((i : Int), (((i + j) / 2 : Nat) : Int)))) := by
        unfold m_slices_BinarySearchFunc_api_Head_api_Head_api_Head_39_b2
        dsimp only
        rw [if_pos (by simpa using hij), half_eq (by omega)]
        unfold bnd
        dsimp only
        rw [idx_at hm, obind_some', order_eq, obind_some', w64_suc hm (by omega)]
        by_cases c : (i + j) / 2 < cntH h l
        · rw [if_pos (by simpa using (ord_cnt hl _ hm).2 c), if_pos c]
        · rw [if_neg (by simpa using fun q => c ((ord_cnt hl _ hm).1 q)), if_neg c]
      simp only [iter, hs, obind_some']
      by_cases c : (i + j) / 2 < cntH h l
      · rw [if_pos c]; exact ih _ _ n (by omega) (by omega) (by omega) h2 h3
      · rw [if_neg c]; exact ih _ _ n (by omega) (by omega) h1 (by omega) (by omega)
    · have hs : m_slices_BinarySearchFunc_api_Head_api_Head_api_Head_39_b2 l h ((i : Int), (j : Int)) = some (.inr (i : Int)) := by
        unfold m_slices_BinarySearchFunc_api_Head_api_Head_api_Head_39_b2; rw [if_neg (by simp; omega)]
      simp only [iter, hs, obind_some']
      rw [show i = cntH h l from by omega]
theorem has_cnt {l : List g_api_Head} {h : g_api_Head} (hl : l.Pairwise ltH) : hasB l h = if hc : cntH h l < l.length then ordH l[cntH h l] h == 0 else false := by
  rw [Bool.eq_iff_iff, hasB_iff]
  constructor
  · rintro ⟨x, hx, he⟩
    obtain ⟨i, hi, hxi⟩ := List.mem_iff_getElem.1 hx
    have h0 : ordH l[i] h = 0 := ordH_zero.2 (hxi ▸ he)
    have hle : ¬ i < cntH h l := fun q => by have := (ord_cnt hl i hi).2 q; omega
    have hc : cntH h l < l.length := by omega
    rw [dif_pos hc]
    have : cntH h l = i := by
      apply Classical.byContradiction
      intro q
      have hlt : cntH h l < i := by omega
      have := List.pairwise_iff_getElem.1 hl (cntH h l) i hc hi hlt
      exact cnt_at hc (ordH_neg.2 (ltH_eq this (ordH_zero.1 h0)))
    simp only [this, h0, beq_self_eq_true]
  · intro q
    split at q
    · rename_i hc
      exact ⟨_, List.getElem_mem hc, ordH_zero.1 (by simpa using q)⟩
    · cases q
theorem bs_eq {l : List g_api_Head} {h : g_api_Head} (hl : l.Pairwise ltH) (hn : l.length ≤ 500000000000) : m_slices_BinarySearchFunc_api_Head_api_Head_api_Head_39 l h = some (((cntH h l : Nat) : Int), hasB l h) := by
  have hc := cnt_le h l
  have := bs_it (h := h) hl hn l.length 0 l.length FUEL (by omega) (by unfold FUEL; omega) (by omega) hc (Nat.le_refl _)
  unfold m_slices_BinarySearchFunc_api_Head_api_Head_api_Head_39
  rw [show ((0 : Nat) : Int) = 0 from rfl] at this
  rw [this, obind_some', obind_some', has_cnt hl]
  by_cases c : cntH h l < l.length
  · have hd : decide (((cntH h l : Nat) : Int) < (l.length : Int)) = true := by simpa using c
    rw [hd, idx_at c, dif_pos c]
    simp only [gu, cond_true, obind_some', order_eq, bnd_def, Bool.true_and]
  · have hd : decide (((cntH h l : Nat) : Int) < (l.length : Int)) = false := by simpa using c
    rw [hd, dif_neg c]
    simp only [gu, cond_false, obind_some', bnd_def, Bool.false_and]
theorem insert_eq {l : List g_api_Head} {h : g_api_Head} (hn : l.length ≤ 500000000000) : m_slices_Insert_api_Head_api_Head l ((cntH h l : Nat) : Int) [h] = some (withH l h) := by
  have hc := cnt_le h l
  unfold m_slices_Insert_api_Head_api_Head
  rw [if_pos ⟨by omega, by omega⟩, if_neg (by simp), with_split]
  by_cases c : cntH h l = l.length
  · rw [if_pos (by simp [c]), appL (by simp; omega) (by decide), obind_some', c]; simp
  · rw [if_neg (by simp; omega), appL (by simp; omega) (by decide), obind_some', Int.toNat_natCast]; simp
def addV (l : List g_api_Head) (h : g_api_Head) (ks : List g_api_Key) : List g_api_Head × Int :=
  if checkV l ks = 0 then (if rightV h ks = true then (if hasB l h = true then (l, 0) else if l.length < 1024 then (withH l h, 0) else ([], 2)) else ([], 40)) else ([], checkV l ks)
theorem gadd_eq (p : g_api_Pool) (h : g_api_Head) (ks : List g_api_Key) : m_gossip_Add p h ks = some (⟨(addV p.L h ks).1⟩, (addV p.L h ks).2) := by
  unfold m_gossip_Add addV
  rw [gcheck_eq, obind_some']
  by_cases hc : checkV p.L ks = 0
  · obtain ⟨h1, h2, h3⟩ := check_ok.1 hc
    rw [if_neg (by simp [hc]), if_pos hc, right_eq, obind_some']
    cases rightV h ks
    · rfl
    · simp only [Bool.not_true, Bool.false_eq_true, if_false, if_true, bs_eq h2 (show p.L.length ≤ 500000000000 by omega), obind_some']
      cases hasB p.L h
      · simp only [Bool.false_eq_true, if_false, bnd_def]
        by_cases hl : p.L.length < 1024
        · rw [if_neg (by simp; omega), if_pos hl, clone_eq (by omega), obind_some', insert_eq (by omega), obind_some']
        · rw [if_pos (by simp; omega), if_neg hl]
      · rfl
  · rw [if_pos (by simpa using hc), if_neg hc]
end Go.Proofs.YtgnklegamndglaaGreat
end
section
namespace Go.Proofs.YtgnklegamndglaaGreat
open Go Go.Gw
theorem add_ok {l : List g_api_Head} {h : g_api_Head} {ks : List g_api_Key} (e : (addV l h ks).2 = 0) : checkV (addV l h ks).1 ks = 0 ∧ hasH (addV l h ks).1 h := by
  by_cases hc : checkV l ks = 0
  · obtain ⟨h1, h2, h3⟩ := check_ok.1 hc
    by_cases hr : rightV h ks = true
    · by_cases hb : hasB l h = true
      · have hA : addV l h ks = (l, 0) := by unfold addV; rw [if_pos hc, if_pos hr, if_pos hb]
        rw [hA]
        exact ⟨hc, hasB_iff.1 hb⟩
      · by_cases hl : l.length < 1024
        · have hA : addV l h ks = (withH l h, 0) := by unfold addV; rw [if_pos hc, if_pos hr, if_neg hb, if_pos hl]
          rw [hA]
          refine ⟨check_ok.2 ⟨by rw [with_len]; omega, with_srt h2 (fun q => hb (hasB_iff.2 q)), fun x hx => ?_⟩, hasH_mem (with_mem.2 (.inl rfl))⟩
          rcases with_mem.1 hx with q | q
          · rw [q]; exact hr
          · exact h3 x q
        · have hA : addV l h ks = ([], 2) := by unfold addV; rw [if_pos hc, if_pos hr, if_neg hb, if_neg hl]
          rw [hA] at e; cases e
    · have hA : addV l h ks = ([], 40) := by unfold addV; rw [if_pos hc, if_neg hr]
      rw [hA] at e; cases e
  · have hA : addV l h ks = ([], checkV l ks) := by unfold addV; rw [if_neg hc]
    rw [hA] at e; exact absurd e hc
theorem add_len (l : List g_api_Head) (h : g_api_Head) (ks : List g_api_Key) : (addV l h ks).1.length ≤ 1025 := by
  unfold addV
  by_cases hc : checkV l ks = 0
  · have := (check_ok.1 hc).1
    rw [if_pos hc]
    split
    · split
      · dsimp only; omega
      · split
        · dsimp only; rw [with_len]; omega
        · simp
    · simp
  · rw [if_neg hc]; simp
def oneB (x : g_api_Head) (k : g_api_Key) : Bool := (k.Log == x.Log) && (chd k x == 0)
theorem one_any {x : g_api_Head} {ks : List g_api_Key} (h : rightV x ks = true) : ks.any (oneB x) = true := by
  unfold rightV at h
  cases hf : fnd (fun k : g_api_Key => k.Log == x.Log) ks 0 with
  | none => rw [hf] at h; cases h
  | some q =>
    rw [hf] at h
    obtain ⟨k, _, k2, k3⟩ := fnd_some hf
    refine List.any_eq_true.2 ⟨q.2, List.mem_of_getElem? k2, ?_⟩
    unfold oneB
    dsimp only at h k3
    rw [h, k3]; rfl
theorem one_it {a0 : g_api_Pool} {a3 : List g_api_Key} {i : Nat} (hi : i < a0.L.length) (hn : a3.length ≤ 10) : iter (m_law28_GossipRight_b5 a0 a3 (i : Int)) FUEL (false, 0) = some (a3.any (oneB a0.L[i])) := by
  have := iter_run (step := m_law28_GossipRight_b5 a0 a3 (i : Int)) (fun k => ((a3.take k).any (oneB a0.L[i]), (k : Int))) (t := a3.any (oneB a0.L[i])) a3.length 0 FUEL (fun k hk => ?_) ?_ (by unfold FUEL; omega)
  · exact this
  · simp only [Nat.zero_add]
    unfold m_law28_GossipRight_b5
    dsimp only
    rw [if_pos (by simpa using hk), w64_suc hk (by omega), List.take_succ_eq_append_getElem hk, List.any_append]
    cases hb : (a3.take k).any (oneB a0.L[i])
    · simp only [gu, Bool.not_false, cond_true, idx_at hk, idx_at hi, obind_some', Bool.true_and, Bool.false_or, bnd_def, List.any_cons, List.any_nil, Bool.or_false]
      unfold oneB
      cases a3[k].Log == a0.L[i].Log
      · simp only [cond_false, obind_some', Bool.false_and]
      · simp only [cond_true, obind_some', Bool.true_and, idx_at hk, idx_at hi, chd_eq]
    · simp only [gu, Bool.not_true, cond_false, obind_some', Bool.false_and, Bool.true_or, bnd_def]
  · simp only [Nat.zero_add]
    unfold m_law28_GossipRight_b5
    rw [if_neg (by simp), List.take_length]
theorem right_true (a0 a1 : g_api_Pool) (a2 : g_api_Head) (a3 : List g_api_Key) : m_law28_GossipRight a0 a1 a2 a3 = some true := by
  unfold m_law28_GossipRight
  rw [live28_true, obind_some', if_neg (by decide)]
  by_cases hl : a0.L.length ≤ 12 ∧ a1.L.length ≤ 12 ∧ a3.length ≤ 10
  · obtain ⟨l0, l1, l3⟩ := hl
    have hd : (((decide ((a0.L.length : Int) > 12)) || (decide ((a1.L.length : Int) > 12))) || (decide ((a3.length : Int) > 10))) = false := by simp; omega
    rw [hd, gcheck_eq]
    simp only [gu, Bool.not_false, cond_true, obind_some', Bool.false_or]
    by_cases hc : checkV a0.L a3 = 0
    · obtain ⟨h1, h2, h3⟩ := check_ok.1 hc
      rw [if_neg (by simp [hc])]
      have hit := iter_yes (step := m_law28_GossipRight_b4 a0 a3) a0.L.length (by omega) (fun i hi => ?_) ?_ false
      · rw [hit, obind_some']
        dsimp only
        have hal := add_len a0.L a2 a3
        rw [gadd_eq, obind_some']
        dsimp only
        have hmid : ∀ (k : Option Bool), (obind (bif (addV a0.L a2 a3).2 == 0 then m_gossip_Check ⟨(addV a0.L a2 a3).1⟩ a3 else some default) fun x15 =>
            obind (bif ((addV a0.L a2 a3).2 == 0) && (!(x15 != 0)) then m_law28_place (addV a0.L a2 a3).1 a2 else some default) fun x16 =>
            if (((addV a0.L a2 a3).2 == 0) && ((x15 != 0) || (!x16))) = true then some false else k) = k := by
          intro k
          by_cases he : (addV a0.L a2 a3).2 = 0
          · obtain ⟨k1, k2⟩ := add_ok he
            rw [he, beq_self_eq_true, cond_true, gcheck_eq, obind_some', k1]
            rw [show (!((0 : Int) != 0)) = true from rfl, Bool.and_self, cond_true, place_eq _ (by omega), obind_some', hasB_iff.2 k2]
            rfl
          · have : ((addV a0.L a2 a3).2 == 0) = false := by simpa using he
            rw [this]
            simp only [cond_false, obind_some', Bool.false_and, Bool.false_eq_true, if_false]
        rw [hmid, gcheck_eq]
        simp only [Bool.true_and, obind_some', bnd_def]
        by_cases hq : checkV a1.L a3 = 0
        · obtain ⟨q1, q2, q3⟩ := check_ok.1 hq
          have hz := zip_len _ a0.L a1.L (Nat.le_refl _)
          have hm : checkV (zipH a0.L a1.L) a3 = 0 := check_ok.2 ⟨by omega, zip_srt h2 q2, fun x hx => by
            rcases (zip_mem h2 q2 x).1 hx with r | r
            · exact h3 x r
            · exact q3 x r.1⟩
          rw [hq, show (!((0 : Int) != 0)) = true from rfl]
          simp only [cond_true]
          rw [merge_eq (by omega) (by omega), mrg_srt h2 q2, obind_some', gcheck_eq, obind_some']
          dsimp only
          rw [hm]; rfl
        · have hb : (checkV a1.L a3 != 0) = true := by simpa using hq
          rw [hb]
          simp only [Bool.not_true, cond_false, obind_some', Bool.true_or]
      · unfold m_law28_GossipRight_b4
        rw [if_pos (by simpa using hi), one_it hi l3, obind_some', obind_some', one_any (h3 _ (List.getElem_mem hi))]; rfl
      · unfold m_law28_GossipRight_b4
        rw [if_neg (by simp)]
    · rw [if_pos (by simpa using hc)]
  · have hd : (((decide ((a0.L.length : Int) > 12)) || (decide ((a1.L.length : Int) > 12))) || (decide ((a3.length : Int) > 10))) = true := by
      simp only [Bool.or_eq_true, decide_eq_true_eq]; omega
    rw [hd]
    simp only [gu, Bool.not_true, cond_false, obind_some', Bool.true_or, if_true]
end Go.Proofs.YtgnklegamndglaaGreat
end
section
namespace Go.Proofs.YtgnklegamndglaaGreat.lawGossipRight
open Go Go.Gw Go.ChangeShapes Go.WideShapes Go.ChangeAt Go.RowKit
theorem own : ownKnob Tryz.prog.godebug = none := by kernel_rfl
theorem rd3 : Rd Tryz.prog 3 (Int) := Rd.int Tryz.underlying3
theorem rd25 : Rd Tryz.prog 25 (UInt64) := Rd.u64 Tryz.underlying25
theorem rd27 : Rd Tryz.prog 27 (UInt64 × UInt64) := Rd.arr2 Tryz.underlying27 rd25 (by kernel_rfl) (by kernel_rfl)
theorem rd29 : Rd Tryz.prog 29 (g_api_Sig) := Rd.struct Tryz.underlying29 (RdFs.more rfl rd25 (by kernel_rfl) (RdFs.last rfl rd25 (by kernel_rfl))) (by kernel_rfl) (fun b => ⟨b.1, b.2⟩) (fun h => h)
theorem rd31 : Rd Tryz.prog 31 (g_api_Head) := Rd.struct Tryz.underlying31 (RdFs.more rfl rd3 (by kernel_rfl) (RdFs.more rfl rd3 (by kernel_rfl) (RdFs.more rfl rd27 (by kernel_rfl) (RdFs.more rfl rd3 (by kernel_rfl) (RdFs.last rfl rd29 (by kernel_rfl)))))) (by kernel_rfl) (fun b => ⟨b.1, b.2.1, b.2.2.1, b.2.2.2.1, b.2.2.2.2⟩) (fun h => h)
theorem rd22 : Rd Tryz.prog 22 (List g_api_Head) := Rd.slice Tryz.underlying22 rd31 (by kernel_rfl) (by decide)
theorem rd24 : Rd Tryz.prog 24 (g_api_Pool) := Rd.struct Tryz.underlying24 (RdFs.last rfl rd22 (by kernel_rfl)) (by kernel_rfl) (fun b => ⟨b⟩) (fun h => h)
theorem rd59 : Rd Tryz.prog 59 (g_api_Key) := Rd.struct Tryz.underlying59 (RdFs.more rfl rd3 (by kernel_rfl) (RdFs.more rfl rd25 (by kernel_rfl) (RdFs.last rfl rd3 (by kernel_rfl)))) (by kernel_rfl) (fun b => ⟨b.1, b.2.1, b.2.2⟩) (fun h => h)
theorem rd32 : Rd Tryz.prog 32 (List g_api_Key) := Rd.slice Tryz.underlying32 rd59 (by kernel_rfl) (by decide)
theorem rp_g_api_Pool {m : Mem} {cs : List Value} {x : g_api_Pool} (h : GoT.rep m cs x) : ∃ v1, cs = [v1] ∧ SlR m v1 x.L := by
  obtain ⟨v1, rfl, h1⟩ := h
  exact ⟨v1, rfl, h1⟩
theorem rp_g_api_Head {m : Mem} {cs : List Value} {x : g_api_Head} (h : GoT.rep m cs x) : cs = [vI x.Log, vI x.Size, vU x.Root.1, vU x.Root.2, vI x.At, vU x.Sig.E, vU x.Sig.S] := by
  obtain ⟨_, _, rfl, rfl, ⟨_, _, rfl, rfl, ⟨_, _, rfl, ⟨_, _, rfl, rfl, rfl⟩, ⟨_, _, rfl, rfl, ⟨_, _, rfl, rfl, rfl⟩⟩⟩⟩⟩ := h
  exact rfl
theorem contract (H : Type) (enc : TypeId × Value → H) (W : World) (base : Nat) (args : Array Value) (ds gs : List (DataW H)) (before : List MemPlace)
    (hval : ∀ (j : Nat) t v, Tryz.f10.params[j]? = some t → args[j]? = some v → Value.okWide Tryz.prog W .any base t v)
    (hW : DataW.Whole enc Tryz.prog Tryz.f10.params.toList Rows.gossipRightSpec.vars false W args.toList ds gs before) (hL : laidMetH Tryz.prog Rows.gossipRightRow.laid W) :
    Calls Tryz.prog 10 args W fun e W' => ∃ v, e = .returned v ∧ Rows.gossipRightSpec.post enc Tryz.prog Tryz.f10 false true false false W args v W' := by
  have hW' := hW
  obtain ⟨p, q, hA0, hV, rfl, hfz, hnd⟩ := hW
  obtain ⟨rfl, rfl⟩ := trodVars_none hV
  rw [List.append_nil] at hW'
  have hA : DataW.TrodAll enc Tryz.prog W 0 (fun _ => true) true Tryz.f10.params.toList args.toList ds p := hA0
  have hA1 := hA
  have hpl : Tryz.f10.params.toList = [24, 24, 31, 32] := by rw [Tryz.params10]
  rw [hpl] at hA1
  obtain ⟨v0, w0, d0, e0, p0, q0, ha0, he0, hp0, h0, r0⟩ := trodAll_cons hA1
  obtain ⟨v1, w1, d1, e1, p1, q1, ha1, he1, hp1, h1, r1⟩ := trodAll_cons r0
  obtain ⟨v2, w2, d2, e2, p2, q2, ha2, he2, hp2, h2, r2⟩ := trodAll_cons r1
  obtain ⟨v3, w3, d3, e3, p3, q3, ha3, he3, hp3, h3, r3⟩ := trodAll_cons r2
  obtain ⟨z1, z2, z3⟩ := trodAll_nil r3
  obtain rfl : args = #[v0, v1, v2, v3] := by
    apply Array.ext'; rw [ha0, ha1, ha2, ha3, z1]
  obtain rfl : ds = [d0, d1, d2, d3] := by rw [he0, he1, he2, he3, z2]
  rw [Tryz.params10] at hval
  obtain ⟨c0, rfl, _⟩ := okWide_struct Tryz.underlying24 (hval 0 24 v0 rfl rfl)
  obtain ⟨a0, s0⟩ := rd24.openA h0
  obtain ⟨z0_0, o0, y0_0⟩ := rp_g_api_Pool s0
  obtain rfl := arr_of o0
  obtain ⟨c1, rfl, _⟩ := okWide_struct Tryz.underlying24 (hval 1 24 v1 rfl rfl)
  obtain ⟨a1, s1⟩ := rd24.openA h1
  obtain ⟨z1_0, o1, y1_0⟩ := rp_g_api_Pool s1
  obtain rfl := arr_of o1
  obtain ⟨c2, rfl, _⟩ := okWide_struct Tryz.underlying31 (hval 2 31 v2 rfl rfl)
  obtain ⟨a2, s2⟩ := rd31.openA h2
  obtain rfl := arr_of (rp_g_api_Head s2)
  obtain ⟨x3, l3, c3, rfl⟩ := okWide_slice Tryz.underlying32 (hval 3 32 v3 rfl rfl)
  obtain ⟨a3, s3⟩ := rd32.openS h3
  have hc := v_law28_GossipRight (St.of W) y0_0 y1_0 s3 (right_true a0 a1 a2 a3)
  refine Calls.mono hc ?_
  rintro e W' ⟨v, rfl, hk, M, hle, S, rfl⟩
  refine ⟨.bool true, rfl, post_true (tb := 4) (by kernel_rfl) (by kernel_rfl) rfl (by kernel_rfl) Tryz.underlying4 hW' hA rfl rfl rfl hle S hk⟩
noncomputable def laidWorld (os : Os) : World :=
  { World.holding Tryz.prog os ⟨#[], #[], []⟩ with heap := (World.holding Tryz.prog os ⟨#[], #[], []⟩).heap }
theorem laid_met (os : Os) : laidMet Tryz.prog Rows.gossipRightRow.laid ((laidWorld os).forCall (fun _ _ => 0) ⟨#[], #[(.agg #[.slice none 0 0] : Value), (.agg #[.slice none 0 0] : Value), (.agg #[.int .i64 0, .int .i64 0, .int .u64 0, .int .u64 0, .int .i64 0, .int .u64 0, .int .u64 0] : Value), (.slice none 0 0 : Value)], []⟩).memory :=
  laidMet_of_run' 8 (by kernel_rfl) (by kernel_rfl)
theorem reads (os : Os) {H : Type} (enc : TypeId × Value → H) : ∃ places, DataW.whole enc Tryz.prog ((laidWorld os).forCall (fun _ _ => 0) ⟨#[], #[(.agg #[.slice none 0 0] : Value), (.agg #[.slice none 0 0] : Value), (.agg #[.int .i64 0, .int .i64 0, .int .u64 0, .int .u64 0, .int .i64 0, .int .u64 0, .int .u64 0] : Value), (.slice none 0 0 : Value)], []⟩).memory Tryz.f10.params.toList Rows.gossipRightSpec.vars false #[(.agg #[.slice none 0 0] : Value), (.agg #[.slice none 0 0] : Value), (.agg #[.int .i64 0, .int .i64 0, .int .u64 0, .int .u64 0, .int .i64 0, .int .u64 0, .int .u64 0] : Value), (.slice none 0 0 : Value)].toList 8 = some ([.agg [.nil], .agg [.nil], .agg [.lit (.int .i64 0), .lit (.int .i64 0), .agg [.lit (.int .u64 0), .lit (.int .u64 0)], .lit (.int .i64 0), .agg [.lit (.int .u64 0), .lit (.int .u64 0)]], .nil], [], places) :=
  ⟨[], by kernel_rfl⟩
theorem lifted (os : Os) (started : os.Started) (H : Type) (enc : TypeId × Value → H) (F : Stop.Interp) :
    ReturnsInHanded {} Tryz.checked os 10 .any ((OpenSpec.ofChange Rows.gossipRightSpec).preRow enc Tryz.prog Tryz.f10 Rows.gossipRightRow.domain false Rows.gossipRightRow.laid) (((OpenSpec.ofChange Rows.gossipRightSpec).at F).post enc Tryz.prog Tryz.f10 false true false false) := by
  obtain ⟨places, hx⟩ := reads os enc
  refine returnsInHanded_of_row (C := Tryz.checked) (s := OpenSpec.ofChange Rows.gossipRightSpec) own started (by kernel_rfl) Tryz.func10
    (witness_row_at (enc := enc) (C := Tryz.checked) false (laidWorld os) #[(.agg #[.slice none 0 0] : Value), (.agg #[.slice none 0 0] : Value), (.agg #[.int .i64 0, .int .i64 0, .int .u64 0, .int .u64 0, .int .i64 0, .int .u64 0, .int .u64 0] : Value), (.slice none 0 0 : Value)] rfl (by kernel_rfl) (by kernel_rfl) (by kernel_rfl)
      (OpenSpec.preRow_of_cond 8 hx (by kernel_rfl) (fun k hk => by cases hk) (by kernel_rfl) (laid_met os))) ?_
  intro W base args ds gs before hval hW _ _ _ hL _ _
  exact contract H enc W base args ds gs before hval hW hL
theorem said : Rows.GossipRightSaid :=
  OpenClaim.holds_of_cond 10 Tryz.f10 rfl rfl rfl rfl rfl rfl rfl ⟨rfl, rfl, rfl, rfl, rfl⟩ rfl rfl rfl rfl rfl (by kernel_rfl) Tryz.func10 (by kernel_rfl)
    (of_decide_eq_true (by kernel_rfl)) (by unfold Func.isWrapper; first | (rw [if_pos (by decide +kernel)]; kernel_rfl) | (rw [if_neg (by decide +kernel)]; exact ⟨rfl, rfl⟩))
    (fun os started H enc _ F => by rw [OpenClaim.pre_eq_preRow]; exact lifted os started H enc F)
end Go.Proofs.YtgnklegamndglaaGreat.lawGossipRight
end
