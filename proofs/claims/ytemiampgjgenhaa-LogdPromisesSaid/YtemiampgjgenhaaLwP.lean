/- The law LogdPromises, in plain terms. Conditions: none. -/
import Derived.Test.YtemiampgjgenhaaQh
import Derived.Test.YtemiampgjgenhaaQL
import Derived.Test.YtemiampgjgenhaaWkG
set_option linter.unusedSimpArgs false
set_option linter.unusedVariables false
set_option maxHeartbeats 4000000
set_option maxRecDepth 100000
namespace Go.Proofs.Ytemiampgjgenhaa
open Go Go.Gw

theorem lt_add_no (a b : Nat) : decide (((a + b : Nat) : Int) < (a : Int)) = false := decide_eq_false (by omega)
theorem promises_true (l : g_api_Log) (b : List UInt8) (now : Int) : m_law24_LogdPromises l b now = some true := by
  unfold m_law24_LogdPromises
  rw [live24_true, obind_some', if_neg (by decide)]
  obtain ⟨r, hr, hf⟩ := few24 l b
  rw [hr, obind_some']
  cases r with
  | false => rfl
  | true =>
    obtain ⟨f1, f2, f3, f4⟩ := hf rfl
    rw [if_neg (by decide)]
    have hl : l.L.length + l.Wait.length ≤ 90000 := by omega
    rcases add_cases (b := b) (now := now) hl with ⟨e, he, ha⟩ | ⟨l', t, ha, A⟩
    · rw [ha, obind_some']
      dsimp only
      rw [if_pos (by simpa using he), show ((zeroL.L.length : Int) + (zeroL.Wait.length : Int)) = 0 from rfl, w64_in (by decide) (by decide)]
      simp [bnd, eq_api_Promise, eq_api_Sig, eqSum, zeroP]
    · have hfew := A.few
      have hl' : l'.L.length + l'.Wait.length ≤ 100000 := by rw [A.L]; omega
      have hlm : (merged l').L.length + (merged l').Wait.length ≤ 100000 := by simp [merged]; omega
      rw [ha, obind_some']
      dsimp only
      rw [if_neg (by decide), publicL_eq hl' A.holds, obind_some', merge_eq hl' A.holds, obind_some', leaves0_eq (by omega) A.was, obind_some', leaves0_eq hlm (chk_merged A.holds), obind_some']
      dsimp only
      have e1 : (leavesOf (merged l')).length = l'.L.length + l'.Wait.length := by simp [leavesOf, merged]
      have e2 : (leavesOf l).length = l.L.length := by simp [leavesOf]
      have e3 : l'.L.length = l.L.length := by rw [A.L]
      have e4 : ((merged l').Wait.length : Int) = 0 := rfl
      have e5 : w64 ((l'.L.length : Int) + (l'.Wait.length : Int)) = ((l'.L.length + l'.Wait.length : Nat) : Int) := by rw [w64_in (by omega) (by omega)]; omega
      have hz : ((0 : Int) != 0) = false := rfl
      have hz2 : (((l'.L.length + l'.Wait.length : Nat) : Int) != ((l'.L.length + l'.Wait.length : Nat) : Int)) = false := bne_self_eq_false _
      have hz3 : decide (((l'.L.length + l'.Wait.length : Nat) : Int) < (l.L.length : Int)) = false := by rw [e3]; exact lt_add_no _ _
      rw [e1, e2, e4, e5, hz, hz2, hz3, if_neg (by decide)]
      have hpre : ∀ j (h : j < (leavesOf l).length) (h' : j < (leavesOf (merged l')).length), (leavesOf (merged l'))[j] = (leavesOf l)[j] := by
        intro j h h'
        have h0 : j < l.L.length := by rw [← e2]; exact h
        simp only [leavesOf, merged, List.getElem_map]
        rw [List.getElem_append_left (by rw [A.L]; exact h0)]
        simp [A.L]
      have hmem : ∃ k : Nat, ∃ h : k < (leavesOf (merged l')).length, (leavesOf (merged l'))[k] = pleaf b := by
        obtain ⟨j, x, h1, h2, h3, h4⟩ := A.there
        obtain ⟨hj, hx⟩ := List.getElem?_eq_some_iff.1 h2
        refine ⟨j, by rw [e1]; simpa using hj, ?_⟩
        simp only [leavesOf, merged, List.getElem_map]
        rw [hx, h4]
      generalize leavesOf (merged l') = is at *
      generalize leavesOf l = was at *
      obtain ⟨y, h1, m, h2, h3⟩ := iter_ends (step := m_law24_LogdPromises_b6 (l', promOf l t b, 0) (was, 0) (is, 0)) (T := fun y => ∃ m, y = .inl m ∧ (m = true ↔ ∃ k : Nat, ∃ h : k < is.length, k < is.length ∧ is[k] = pleaf b)) (s0 := (false, 0))
        (fun i s => s.2 = (i : Int) ∧ i ≤ is.length ∧ (s.1 = true ↔ ∃ k : Nat, ∃ h : k < is.length, k < i ∧ is[k] = pleaf b)) is.length (by omega) ⟨rfl, by omega, by simp⟩ (by
          rintro i ⟨m, j⟩ hi ⟨hj, hi', hm⟩
          obtain rfl : j = (i : Int) := hj
          dsimp only at hm
          unfold m_law24_LogdPromises_b6
          dsimp only
          by_cases hlt : i < is.length
          · right
            refine ⟨hlt, ((m || decide (is[i] = pleaf b)), ((i + 1 : Nat) : Int)), ?_, rfl, by omega, ?_⟩
            · rw [if_pos (by simpa using hlt), idx_lt hlt]
              obtain ⟨x, hx, hx'⟩ := gu_ok (c := !m) (o := some is[i]) (x := is[i]) (fun _ => rfl)
              rw [hx, obind_some', bnd]
              have hmx : (m || eqSum x (promOf l t b).Leaf) = (m || decide (is[i] = pleaf b)) := by
                cases m with
                | true => rfl
                | false => rw [hx' rfl, eqSum_dec]; rfl
              rw [hmx]
              obtain ⟨y, hy, hy'⟩ := gu_ok (c := decide ((i : Int) < (was.length : Int))) (o := some is[i]) (x := is[i]) (fun _ => rfl)
              rw [hy, obind_some']
              obtain ⟨z, hz, hz'⟩ := gu_ok (c := decide ((i : Int) < (was.length : Int))) (o := idx was (i : Int)) (x := is[i]) (fun hc => by
                have : i < was.length := by simpa using hc
                rw [idx_lt this, hpre i this hlt])
              rw [hz, obind_some', if_neg, w64_sucN (by omega)]
              intro hc
              rw [Bool.and_eq_true] at hc
              have h5 := hc.2
              rw [hy' hc.1, hz' hc.1] at h5
              simp [eqSum] at h5
            · dsimp only
              rw [Bool.or_eq_true, hm, decide_eq_true_eq]
              constructor
              · rintro (⟨k, hk, h5, h6⟩ | h5)
                · exact ⟨k, hk, by omega, h6⟩
                · exact ⟨i, hlt, by omega, h5⟩
              · rintro ⟨k, hk, h5, h6⟩
                by_cases hki : k = i
                · subst hki; exact .inr h6
                · exact .inl ⟨k, hk, by omega, h6⟩
          · left
            refine ⟨.inl m, by rw [if_neg (by simpa using hlt)], m, rfl, ?_⟩
            rw [hm]
            have : i = is.length := by omega
            subst this; rfl)
      obtain ⟨k, hk, hk'⟩ := hmem
      have hmt : m = true := h3.2 ⟨k, hk, hk, hk'⟩
      have hb := A.body
      unfold okBody at hb
      simp at hb
      rw [h1, h2, hmt, obind_some']
      dsimp only
      rw [gu, cond_true, leaf_eq (by omega), obind_some']
      have e6 : eqSum (promOf l t b).Leaf (pleaf b) = true := eqSum_iff.2 rfl
      rw [e6, Bool.and_self, gu, cond_true, ← A.prom, checkProm_eq (chk_zero A.holds).1 A.at_, obind_some']; rfl
end Go.Proofs.Ytemiampgjgenhaa
