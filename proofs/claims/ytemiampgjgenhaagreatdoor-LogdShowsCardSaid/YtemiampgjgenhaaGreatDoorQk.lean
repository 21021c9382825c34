/- The leaves and the head of a log, as the first view shows them: in plain terms. Conditions: a log that may be, not too great. -/
import Derived.Test.YtemiampgjgenhaaGreatDoorQg
import Derived.Test.YtemiampgjgenhaaGreatDoorPe
set_option linter.unusedSimpArgs false
set_option linter.unusedVariables false
set_option maxHeartbeats 4000000
set_option maxRecDepth 100000
namespace Go.Proofs.YtemiampgjgenhaaGreatDoor
open Go Go.Gw

/-! ### leaves -/
theorem leaves0_it {l : g_api_Log} (hb : ∀ x ∈ l.L, x.Body.length ≤ 2048) (hl : l.L.length ≤ 100000) : ∀ (k i : Nat) (hd : List Int) (out : List (UInt64 × UInt64)), i + k = l.L.length → out.length = i →
    ∃ hd', eachN0 (m_logd_Leaves_b2 l 0) k (i : Int) (hd, out) = some (hd', out ++ (l.L.drop i).map fun x => pleaf x.Body) := by
  intro k
  induction k with
  | zero =>
    intro i hd out h ho
    have : l.L.drop i = [] := List.drop_eq_nil_of_le (by omega)
    exact ⟨hd, by rw [this]; simp [eachN0]⟩
  | succ k ih =>
    intro i hd out h ho
    have hlt : i < l.L.length := by omega
    have hx : idx l.L (i : Int) = some l.L[i] := idx_nat (by simp [hlt])
    have hbl : l.L[i].Body.length ≤ 600000 := by have := hb l.L[i] (List.getElem_mem hlt); omega
    have hst : ∃ hd', m_logd_Leaves_b2 l 0 (i : Int) (hd, out) = some (hd', out ++ [pleaf l.L[i].Body]) := by
      unfold m_logd_Leaves_b2
      rw [hx, obind_some']
      dsimp only
      cases hd with
      | nil =>
        refine ⟨[], ?_⟩
        rw [if_neg (by simp), obind_some', if_neg (by decide), obind_some', leaf_eq hbl, obind_some', app_eq 16 (by simp; omega) (by simp; omega), obind_some']
      | cons a hd =>
        have e1 : idx (a :: hd) 0 = some a := rfl
        rw [if_pos (by simp), e1, obind_some', obind_some']
        by_cases ha : (a == (i : Int)) = true
        · refine ⟨hd, ?_⟩
          by_cases hlen : (a :: hd).length ≤ 9223372036854775807
          · have hc : cut (a :: hd) 1 ((a :: hd).length : Int) = some hd := by
              have := cut_eq (xs := a :: hd) (lo := 1) (hi := (a :: hd).length) (by simp) (by omega)
              rw [show ((1 : Nat) : Int) = 1 from rfl] at this
              rw [this]; simp [List.take_of_length_le]
            rw [if_pos ha, hc, obind_some', if_neg (by decide), obind_some', leaf_eq hbl, obind_some', app_eq 16 (by simp; omega) (by simp; omega), obind_some']
          · have hc : cut (a :: hd) 1 ((a :: hd).length : Int) = some hd := by
              have := cut_eq (xs := a :: hd) (lo := 1) (hi := (a :: hd).length) (by simp) (by omega)
              rw [show ((1 : Nat) : Int) = 1 from rfl] at this
              rw [this]; simp [List.take_of_length_le]
            rw [if_pos ha, hc, obind_some', if_neg (by decide), obind_some', leaf_eq hbl, obind_some', app_eq 16 (by simp; omega) (by simp; omega), obind_some']
        · refine ⟨a :: hd, ?_⟩
          rw [if_neg ha, obind_some', leaf_eq hbl, obind_some', app_eq 16 (by simp; omega) (by simp; omega), obind_some']
    obtain ⟨hd', hs⟩ := hst
    obtain ⟨hd2, h2⟩ := ih (i + 1) hd' (out ++ [pleaf l.L[i].Body]) (by omega) (by simp; omega)
    refine ⟨hd2, ?_⟩
    simp only [eachN0, hs, obind_some']
    rw [show (i : Int) + 1 = ((i + 1 : Nat) : Int) from rfl, h2, List.drop_eq_getElem_cons hlt, List.map_cons, List.append_assoc]; rfl
def leavesOf (l : g_api_Log) : List (UInt64 × UInt64) := l.L.map fun x => pleaf x.Body
theorem leaves0_eq {l : g_api_Log} (hl : l.L.length + l.Wait.length ≤ 100000) (h : chk l = 0) : m_logd_Leaves l 0 = some (leavesOf l, 0) := by
  obtain ⟨h0, h1, h2, h3⟩ := chk_zero h
  obtain ⟨hd, he⟩ := leaves0_it (l := l) (fun x hx => okL_body h1 x (List.mem_append_left _ hx)) (by omega) l.L.length 0 l.Hide [] (by omega) rfl
  unfold m_logd_Leaves
  rw [chkL_eq hl, obind_some', h, if_neg (by decide), if_neg (by decide)]
  have he' : eachN0 (m_logd_Leaves_b2 l 0) l.L.length 0 (l.Hide, []) = _ := he
  rw [he', obind_some', obind_some']
  simp [leavesOf]
theorem head0_eq {l : g_api_Log} {n : Nat} {now : Int} (hl : l.L.length + l.Wait.length ≤ 100000) (h : chk l = 0) (hn : n ≤ l.L.length) (ht : okNum now = true) : m_logd_Head l 0 (n : Int) now = some (headOf l (n : Int) (rootP ((leavesOf l).take n)) now, 0) := by
  obtain ⟨h0, h1, h2, h3⟩ := chk_zero h
  obtain ⟨k1, k2, k3⟩ := key_of h0
  have hll : (leavesOf l).length = l.L.length := by simp [leavesOf]
  have h256 : l.L.length ≤ 256 := by simp at h3; omega
  unfold m_logd_Head m_logd_first
  rw [leaves0_eq hl h, obind_some']
  dsimp only
  rw [if_neg (by decide), if_neg (by rw [hll]; simp; omega), if_pos (by rw [hll]; omega), obind_some']
  dsimp only
  rw [if_pos (by decide), number_eq, obind_some', obind_some', ht, if_neg (by decide), obind_some', if_neg (by decide), Int.toNat_natCast, root_eq _ (by rw [List.length_take]; omega), obind_some', ofHead_eq, obind_some', sign_eq k1 k2 (headB_len _), obind_some']; rfl
end Go.Proofs.YtemiampgjgenhaaGreatDoor
