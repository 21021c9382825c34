/- What a log promises, in all its cases, and how few there may be: in plain terms. Conditions: none but sizes. -/
import Derived.Test.YtemiampgjgenhaaGreatDoorQk
import Derived.Test.YtemiampgjgenhaaGreatDoorUa
import Derived.Test.YtemiampgjgenhaaGreatDoorWkD
set_option linter.unusedSimpArgs false
set_option linter.unusedVariables false
set_option maxHeartbeats 4000000
set_option maxRecDepth 100000
namespace Go.Proofs.YtemiampgjgenhaaGreatDoor
open Go Go.Gw

theorem few24 (l : g_api_Log) (b : List UInt8) : ∃ r, m_law24_few l b = some r ∧ (r = true → l.L.length ≤ 40 ∧ l.Wait.length ≤ 40 ∧ l.Hide.length ≤ 60 ∧ b.length ≤ 3000) := by
  obtain ⟨t1, h1, _⟩ := iter_ends (step := m_ref24_Few_b2 l) (T := fun _ => True) (s0 := (0, 0)) (fun i s => s.2 = (i : Int) ∧ i ≤ 40) 40 (by omega) ⟨rfl, by omega⟩ (by
    rintro i ⟨n, j⟩ hi ⟨h, _⟩
    obtain rfl : j = (i : Int) := h
    unfold m_ref24_Few_b2
    by_cases h1 : i < l.L.length ∧ i < 40
    · right
      refine ⟨by omega, (w64 (n + (l.L[i].Body.length : Int)), ((i + 1 : Nat) : Int)), ?_, rfl, by omega⟩
      dsimp only
      rw [if_pos (by simp; omega), idx_lt h1.1, obind_some', bnd, w64_sucN (by omega)]
    · left
      exact ⟨_, by dsimp only; rw [if_neg (by simp; omega)], trivial⟩)
  obtain ⟨t2, h2, _⟩ := iter_ends (step := m_ref24_Few_b3 l) (T := fun _ => True) (s0 := (t1, 0)) (fun i s => s.2 = (i : Int) ∧ i ≤ 40) 40 (by omega) ⟨rfl, by omega⟩ (by
    rintro i ⟨n, j⟩ hi ⟨h, _⟩
    obtain rfl : j = (i : Int) := h
    unfold m_ref24_Few_b3
    by_cases h1 : i < l.Wait.length ∧ i < 40
    · right
      refine ⟨by omega, (w64 (n + (l.Wait[i].Body.length : Int)), ((i + 1 : Nat) : Int)), ?_, rfl, by omega⟩
      dsimp only
      rw [if_pos (by simp; omega), idx_lt h1.1, obind_some', bnd, w64_sucN (by omega)]
    · left
      exact ⟨_, by dsimp only; rw [if_neg (by simp; omega)], trivial⟩)
  unfold m_law24_few m_ref24_Few
  rw [h1, obind_some', obind_some', h2, obind_some', obind_some', bnd, obind_some', bnd]
  refine ⟨_, rfl, fun h => ?_⟩
  simp only [Bool.and_eq_true, decide_eq_true_eq] at h
  omega
theorem okL_num : ∀ {xs : List g_api_Leaf} {ks : List (List UInt8)}, okL xs ks = true → ∀ x ∈ xs, okNum x.At = true := by
  intro xs
  induction xs with
  | nil => intro ks _ x hx; cases hx
  | cons y xs ih =>
    intro ks h x hx
    have h' : ((okBody y.Body && okNum y.At && !decide (y.Body ∈ ks)) && okL xs (ks ++ [y.Body])) = true := h
    rw [Bool.and_eq_true, Bool.and_eq_true, Bool.and_eq_true] at h'
    rcases List.mem_cons.1 hx with rfl | hx
    · exact h'.1.1.2
    · exact ih h'.2 x hx
theorem findB_new : ∀ {xs : List g_api_Leaf} {b : List UInt8} {i : Nat} {t : Int}, findB xs b i = none → findB (xs ++ [⟨b, t⟩]) b i = some (i + xs.length) := by
  intro xs
  induction xs with
  | nil => intro b i t _; simp [findB]
  | cons y xs ih =>
    intro b i t h
    simp only [findB] at h
    by_cases hy : y.Body = b
    · rw [if_pos hy] at h; cases h
    · rw [if_neg hy] at h
      simp only [List.cons_append, findB, if_neg hy, List.length_cons]
      rw [ih h]; congr 1; omega
/-- What holds behind a promise. -/
structure Added (l : g_api_Log) (b : List UInt8) (now : Int) (l' : g_api_Log) (t : Int) : Prop where
  was : chk l = 0
  holds : chk l' = 0
  body : okBody b = true
  num : okNum now = true
  at_ : okNum t = true
  L : l'.L = l.L
  Id : l'.Id = l.Id
  Key : l'.Key = l.Key
  Hide : l'.Hide = l.Hide
  few : l'.Wait.length ≤ l.Wait.length + 1
  there : ∃ (j : Nat) (x : g_api_Leaf), findB (l'.L ++ l'.Wait) b 0 = some j ∧ (l'.L ++ l'.Wait)[j]? = some x ∧ x.At = t ∧ x.Body = b
theorem add_cases {l : g_api_Log} {b : List UInt8} {now : Int} (hl : l.L.length + l.Wait.length ≤ 90000) :
    (∃ e, e ≠ 0 ∧ m_logd_Add l b now = some (zeroL, zeroP, e)) ∨ (∃ l' t, m_logd_Add l b now = some (l', promOf l t b, 0) ∧ Added l b now l' t) := by
  have hl' : l.L.length + l.Wait.length ≤ 100000 := by omega
  by_cases h : chk l = 0
  · cases ha : (okBody b && okNum now) with
    | false => exact .inl ⟨1, by decide, add_arg hl' h ha⟩
    | true =>
      have ha' := ha
      rw [Bool.and_eq_true] at ha'
      cases hj : findB (l.L ++ l.Wait) b 0 with
      | some j =>
        obtain ⟨x, h1, h2, h3⟩ := findB_some hj
        rw [Nat.sub_zero] at h2
        refine .inr ⟨l, x.At, add_found hl' h ha hj h2, h, h, ha'.1, ha'.2, ?_, rfl, rfl, rfl, rfl, by omega, j, x, hj, h2, rfl, h3⟩
        exact okL_num (chk_zero h).2.1 x (List.mem_of_getElem? h2)
      | none =>
        by_cases hn : (l.L ++ l.Wait).length = 256
        · exact .inl ⟨2, by decide, add_full hl' h ha hj hn⟩
        · refine .inr ⟨withW l b now, now, add_new hl' h ha hj hn, h, chk_withW h ha hj hn, ha'.1, ha'.2, ha'.2, rfl, rfl, rfl, rfl, by simp [withW], (l.L ++ l.Wait).length, ⟨b, now⟩, ?_, ?_, rfl, rfl⟩
          · show findB (l.L ++ (l.Wait ++ [⟨b, now⟩])) b 0 = _
            rw [← List.append_assoc, findB_new hj, Nat.zero_add]
          · show (l.L ++ (l.Wait ++ [⟨b, now⟩]))[_]? = _
            rw [← List.append_assoc]; simp
  · exact .inl ⟨chk l, h, add_bad hl' h⟩
theorem Added.prom {l l' : g_api_Log} {b : List UInt8} {now t : Int} (A : Added l b now l' t) : promOf l' t b = promOf l t b := by
  unfold promOf; rw [A.Id, A.Key]
theorem Added.again {l l' : g_api_Log} {b : List UInt8} {now t : Int} (A : Added l b now l' t) (hl : l.L.length + l.Wait.length ≤ 90000) {then_ : Int} (ht : okNum then_ = true) :
    m_logd_Add l' b then_ = some (l', promOf l t b, 0) := by
  obtain ⟨j, x, h1, h2, h3, h4⟩ := A.there
  have := A.few
  rw [← A.prom, ← h3]
  exact add_found (by rw [A.L]; omega) A.holds (by rw [A.body, ht]; rfl) h1 h2
theorem Added.merged {l l' : g_api_Log} {b : List UInt8} {now t : Int} (A : Added l b now l' t) (hl : l.L.length + l.Wait.length ≤ 90000) {then_ : Int} (ht : okNum then_ = true) :
    m_logd_Add (merged l') b then_ = some (merged l', promOf l t b, 0) := by
  obtain ⟨j, x, h1, h2, h3, h4⟩ := A.there
  have := A.few
  have e : (Go.Proofs.YtemiampgjgenhaaGreatDoor.merged l').L ++ (Go.Proofs.YtemiampgjgenhaaGreatDoor.merged l').Wait = l'.L ++ l'.Wait := by simp [Go.Proofs.YtemiampgjgenhaaGreatDoor.merged]
  have hp : promOf (Go.Proofs.YtemiampgjgenhaaGreatDoor.merged l') t b = promOf l' t b := rfl
  rw [← A.prom, ← hp, ← h3]
  refine add_found ?_ (chk_merged A.holds) (by rw [A.body, ht]; rfl) (by rw [e]; exact h1) (by rw [e]; exact h2)
  have : (Go.Proofs.YtemiampgjgenhaaGreatDoor.merged l').L.length + (Go.Proofs.YtemiampgjgenhaaGreatDoor.merged l').Wait.length = l'.L.length + l'.Wait.length := by simp [Go.Proofs.YtemiampgjgenhaaGreatDoor.merged]
  rw [this, A.L]; omega
end Go.Proofs.YtemiampgjgenhaaGreatDoor
