/- What is signed, hashed and hidden, by the reference. Conditions: the message is not too long, the log may be. -/
import Derived.Test.YtemiampgjgenhaaGreatRf
import Derived.Test.YtemiampgjgenhaaGreatRd
import Derived.Test.YtemiampgjgenhaaGreatWkJ
set_option linter.unusedSimpArgs false
set_option linter.unusedVariables false
set_option maxHeartbeats 4000000
set_option maxRecDepth 100000
namespace Go.Proofs.YtemiampgjgenhaaGreat
open Go Go.Gw

theorem leaf08_eq {b : List UInt8} (h : b.length ≤ 600000) : m_ref08_Leaf b = some (pleaf b) := by
  unfold m_ref08_Leaf
  rw [tagged02_eq _ _ (by simp [plen]; omega) (by simp), obind_some']; rfl
theorem addR04_eq (a b : UInt64) : m_ref03_AddR a b = some (addM 1152921504606845789 a b) := by
  have h1 : (a % 1152921504606845789).toNat = a.toNat % (1152921504606845789 : UInt64).toNat := UInt64.toNat_mod _ _
  have h2 : (b % 1152921504606845789).toNat = b.toNat % (1152921504606845789 : UInt64).toNat := UInt64.toNat_mod _ _
  unfold m_ref03_AddR
  rw [sum03_eq (by decide) (by rw [h1]; exact Nat.mod_lt _ (by decide)) (by rw [h2]; exact Nat.mod_lt _ (by decide)), obind_some']
  congr 1
  refine u_ext ?_
  rw [addM_nat dvR, addM_nat dvR, h1, h2, ← Nat.add_mod]
theorem addM_comm (m a b : UInt64) : addM m a b = addM m b a := by unfold addM; rw [Nat.add_comm]
theorem public04_eq {k : UInt64} (h1 : 1 ≤ k.toNat) (h2 : k.toNat < GR) : m_ref04_Public k = some (pubK k, 0) := by
  have h2' : k.toNat < 1152921504606845789 := h2
  unfold m_ref04_Public m_ref04_right
  rw [bnd_def, obind_some', if_neg (by simp; omega), base03_eq, obind_some']
theorem sign04_eq {k : UInt64} {msg : List UInt8} (h1 : 1 ≤ k.toNat) (h2 : k.toNat < GR) (hm : msg.length ≤ 600000) : m_ref04_Sign k msg = some (signS k msg, 0) := by
  have hn : (1 : UInt64) + numM (ptag ⟨#[110, 111, 110, 99, 101]⟩ [pput 8 k, msg]) 1152921504606845788 = nonceK k msg := UInt64.add_comm _ _
  have hs : signS k msg = ⟨signE k msg, addM 1152921504606845789 (nonceK k msg) (mulM 1152921504606845789 (signE k msg) k)⟩ := by
    unfold signS
    rw [addM_comm]
  unfold m_ref04_Sign
  rw [public04_eq h1 h2, obind_some', if_neg (by simp), eight04_eq, obind_some', tagged02_eq _ _ (by simp [plen, pput_len]; omega) (by simp), obind_some', num02_eq dvR1 (by decide), obind_some', hn, base03_eq, obind_some', challenge04_eq _ _ hm, obind_some']
  unfold m_ref03_MulR
  rw [times_eq _ _ (by decide) (by decide), obind_some', obind_some', addR04_eq, obind_some', hs]
  rfl
theorem hidden_eq {l : g_api_Log} (hl : l.Hide.length ≤ 100000) (t : Int) : m_ref24_hidden l t = some (decide (t ∈ l.Hide)) := by
  obtain ⟨y, h1, h2⟩ := iter_ends (step := m_ref24_hidden_b2 l t) (T := fun y => y = if t ∈ l.Hide then .inr true else .inl ()) (s0 := 0)
    (fun i s => s = (i : Int) ∧ i ≤ l.Hide.length ∧ ∀ (j : Nat) (x : Int), j < i → l.Hide[j]? = some x → x ≠ t) l.Hide.length (by omega) ⟨rfl, by omega, fun j _ h => by omega⟩ (by
      rintro i s hi ⟨rfl, h0, hI⟩
      unfold m_ref24_hidden_b2
      by_cases hlt : i < l.Hide.length
      · have hx : l.Hide[i]? = some l.Hide[i] := by simp [hlt]
        rw [if_pos (by simpa using hlt), idx_of hx, obind_some']
        by_cases he : l.Hide[i] = t
        · left
          refine ⟨.inr true, by rw [if_pos (by simpa using he)], ?_⟩
          rw [if_pos (he ▸ List.getElem_mem hlt)]
        · right
          refine ⟨hlt, ((i + 1 : Nat) : Int), ?_, rfl, by omega, fun j x hj hxj => ?_⟩
          · rw [if_neg (by simpa using he), w64_sucN (by omega)]
          · by_cases hji : j = i
            · subst hji; rw [hx] at hxj; cases hxj; exact he
            · exact hI j x (by omega) hxj
      · left
        refine ⟨.inl (), by rw [if_neg (by simpa using hlt)], ?_⟩
        rw [if_neg]
        intro hm
        obtain ⟨j, hj⟩ := List.getElem?_of_mem hm
        have := (List.getElem?_eq_some_iff.1 hj).1
        exact hI j t (by omega) hj rfl)
  unfold m_ref24_hidden
  rw [h1, h2, obind_some']
  by_cases hm : t ∈ l.Hide
  · rw [if_pos hm, decide_eq_true hm]
  · rw [if_neg hm, decide_eq_false hm]
end Go.Proofs.YtemiampgjgenhaaGreat
