/- A log, looked at: in plain terms. Conditions: not too many leaves. -/
import Derived.Test.YtemiampgjgenhaaGreatDoorQd
set_option linter.unusedSimpArgs false
set_option linter.unusedVariables false
set_option maxHeartbeats 4000000
set_option maxRecDepth 100000
namespace Go.Proofs.YtemiampgjgenhaaGreatDoor
open Go Go.Gw

theorem growL_eq (n : Nat) (h : n ≤ 1000000) : m_slices_Grow_api_Leaf_api_Leaf_nil (n : Int) = some [] := by
  have hw : w64 ((n : Int) - (w64 (0 - ((0 : Nat) : Int)))) = (n : Int) := by rw [w64_in (n := 0 - ((0 : Nat) : Int)) (by omega) (by omega), w64_in (by omega) (by omega)]; omega
  unfold m_slices_Grow_api_Leaf_api_Leaf_nil
  rw [if_neg (by rw [decide_eq_true_eq]; omega), obind_some', hw, bnd_def]
  by_cases h0 : n = 0
  · rw [if_neg (by simp; omega), obind_some']
  · rw [if_pos (by simp; omega), if_pos (by omega), obind_some']
theorem concatL_eq {xs ys : List g_api_Leaf} (h : xs.length + ys.length ≤ 100000) : m_slices_Concat_api_Leaf_api_Leaf [xs, ys] = some (xs ++ ys) := by
  have w1 : w64 (0 + (xs.length : Int)) = (xs.length : Int) := by rw [w64_in (by omega) (by omega)]; omega
  have w2 : w64 ((xs.length : Int) + (ys.length : Int)) = ((xs.length + ys.length : Nat) : Int) := by rw [w64_in (by omega) (by omega)]; omega
  have b1 : ∀ (i : Int) (x : List g_api_Leaf) (s : Int), 0 ≤ w64 (s + (x.length : Int)) → m_slices_Concat_api_Leaf_api_Leaf_b1 i x s = some (w64 (s + (x.length : Int))) := by
    intro i x s hs
    unfold m_slices_Concat_api_Leaf_api_Leaf_b1
    rw [bnd_def, if_neg (by rw [decide_eq_true_eq]; omega), obind_some']
  have b2 : ∀ (i : Int) (x s : List g_api_Leaf), s.length + x.length ≤ 100000 → m_slices_Concat_api_Leaf_api_Leaf_b2 i x s = some (s ++ x) := by
    intro i x s hs
    unfold m_slices_Concat_api_Leaf_api_Leaf_b2
    rw [app_eq 32 (by omega) (by omega), obind_some']
  unfold m_slices_Concat_api_Leaf_api_Leaf
  simp only [each0]
  rw [b1 _ _ _ (by rw [w1]; omega), obind_some', w1, b1 _ _ _ (by rw [w2]; omega), obind_some', w2, obind_some', obind_some', growL_eq _ (by omega), obind_some', b2 _ _ _ (by simp; omega), obind_some', List.nil_append, b2 _ _ _ h, obind_some', obind_some', obind_some']
theorem all_eq {l : g_api_Log} (h : l.L.length + l.Wait.length ≤ 100000) : m_logd_all l = some (l.L ++ l.Wait) := by
  unfold m_logd_all
  rw [concatL_eq h, obind_some']
def okBody (b : List UInt8) : Bool := decide (0 < b.length) && decide (b.length ≤ 2048)
def okNum (n : Int) : Bool := decide (0 ≤ n) && decide (n ≤ 1099511627776)
theorem number_eq (n : Int) : m_logd_number n = some (okNum n) := rfl
theorem isBody_eq (b : List UInt8) : m_logd_isBody b = some (okBody b) := by
  unfold m_logd_isBody okBody
  rw [bnd_def]
  congr 2
  · rw [decide_eq_decide]; omega
  · rw [decide_eq_decide]; omega
def kvOf (ks : List (List UInt8)) : List (ByteArray × Bool) := ks.map fun b => (bs b, true)
theorem bs_inj {a b : List UInt8} : eqS (bs a) (bs b) = true ↔ a = b := by simp [eqS, bs]
theorem lkI_kv (b : List UInt8) : ∀ (ks : List (List UInt8)) (i : Nat), (b ∈ ks → ∃ j, lkI (kvOf ks) (bs b) i = some (j, true)) ∧ (b ∉ ks → lkI (kvOf ks) (bs b) i = none) := by
  intro ks
  induction ks with
  | nil => intro i; exact ⟨fun h => absurd h (by simp), fun _ => rfl⟩
  | cons k ks ih =>
    intro i
    simp only [kvOf, List.map_cons, lkI]
    by_cases hk : b = k
    · subst hk
      rw [if_pos (bs_inj.2 rfl)]
      exact ⟨fun _ => ⟨i, rfl⟩, fun h => absurd (List.mem_cons_self ..) h⟩
    · rw [if_neg (fun h => hk (bs_inj.1 h))]
      refine ⟨fun h => (ih (i + 1)).1 ((List.mem_cons.1 h).resolve_left hk), fun h => (ih (i + 1)).2 fun h' => h (List.mem_cons_of_mem _ h')⟩
theorem lkB_kv (b : List UInt8) (ks : List (List UInt8)) : lkB (kvOf ks) (bs b) = decide (b ∈ ks) := by
  unfold lkB
  by_cases h : b ∈ ks
  · obtain ⟨j, hj⟩ := (lkI_kv b ks 0).1 h
    rw [hj, decide_eq_true h]; rfl
  · rw [(lkI_kv b ks 0).2 h, decide_eq_false h]; rfl
/-- Leaves that may be, behind some bodies. -/
def okL : List g_api_Leaf → List (List UInt8) → Bool
  | [], _ => true
  | x :: r, ks => (okBody x.Body && okNum x.At && !decide (x.Body ∈ ks)) && okL r (ks ++ [x.Body])
theorem check_b3 : ∀ (xs : List g_api_Leaf) (ks : List (List UInt8)) (i : Int), eachR m_logd_Check_b3 xs i (kvOf ks) = some (if okL xs ks = true then .inl (kvOf (ks ++ xs.map (·.Body))) else .inr 1) := by
  intro xs
  induction xs with
  | nil => intro ks i; simp [eachR, okL]
  | cons x xs ih =>
    intro ks i
    have hb : m_logd_Check_b3 i x (kvOf ks) = some (if (okBody x.Body && okNum x.At && !decide (x.Body ∈ ks)) = true then .inl (kvOf (ks ++ [x.Body])) else .inr 1) := by
      unfold m_logd_Check_b3
      rw [isBody_eq, obind_some', number_eq, obind_some', lkB_kv]
      cases h1 : okBody x.Body with
      | false => rfl
      | true =>
        cases h2 : okNum x.At with
        | false => rfl
        | true =>
          by_cases h3 : x.Body ∈ ks
          · rw [decide_eq_true h3]; rfl
          · rw [decide_eq_false h3]
            simp only [Bool.not_true, Bool.false_eq_true, if_false, obind_some', Bool.or_self, Bool.and_self, Bool.not_false, if_true]
            rw [(lkI_kv x.Body ks 0).2 h3]
            simp [kvOf]
    have hc : okL (x :: xs) ks = ((okBody x.Body && okNum x.At && !decide (x.Body ∈ ks)) && okL xs (ks ++ [x.Body])) := rfl
    simp only [eachR, hb, obind_some']
    by_cases h : (okBody x.Body && okNum x.At && !decide (x.Body ∈ ks)) = true
    · have e : okL (x :: xs) ks = okL xs (ks ++ [x.Body]) := by rw [hc, h, Bool.true_and]
      rw [if_pos h, e]
      dsimp only
      rw [ih]
      simp
    · have e : okL (x :: xs) ks = false := by rw [hc, Bool.not_eq_true _ |>.mp h, Bool.false_and]
      rw [if_neg h, e]; rfl
def okH : List Int → Int → Int → Bool
  | [], _, _ => true
  | x :: r, last, n => (!decide (x ≤ last) && !decide (n ≤ x)) && okH r x n
theorem check_b5 (l : g_api_Log) : ∀ (xs : List Int) (last : Int) (i : Int), ∃ z, eachR (m_logd_Check_b5 l) xs i last = some (if okH xs last (l.L.length : Int) = true then .inl z else .inr 1) := by
  intro xs
  induction xs with
  | nil => intro last i; exact ⟨last, by simp [eachR, okH]⟩
  | cons x xs ih =>
    intro last i
    obtain ⟨z, hz⟩ := ih x (i + 1)
    refine ⟨z, ?_⟩
    have hb : m_logd_Check_b5 l i x last = some (if (!decide (x ≤ last) && !decide ((l.L.length : Int) ≤ x)) = true then .inl x else .inr 1) := by
      unfold m_logd_Check_b5
      by_cases h1 : x ≤ last
      · simp [h1]
      · by_cases h2 : (l.L.length : Int) ≤ x
        · simp [h2]
        · have h2' : ¬ (x ≥ (l.L.length : Int)) := h2
          simp [h1, h2, h2']
    have hc : okH (x :: xs) last (l.L.length : Int) = ((!decide (x ≤ last) && !decide ((l.L.length : Int) ≤ x)) && okH xs x (l.L.length : Int)) := rfl
    simp only [eachR, hb, obind_some']
    by_cases h : (!decide (x ≤ last) && !decide ((l.L.length : Int) ≤ x)) = true
    · have e : okH (x :: xs) last (l.L.length : Int) = okH xs x (l.L.length : Int) := by rw [hc, h, Bool.true_and]
      rw [if_pos h, e]
      exact hz
    · have e : okH (x :: xs) last (l.L.length : Int) = false := by rw [hc, Bool.not_eq_true _ |>.mp h, Bool.false_and]
      rw [if_neg h, e]; rfl
def okHd (l : g_api_Log) : Bool := okNum l.Id && !decide (l.Key.toNat = 0) && decide (l.Key.toNat < 1152921504606845789) && decide (0 ≤ l.Delay) && decide (l.Delay ≤ 1000)
def chk (l : g_api_Log) : Int :=
  if okHd l = true then (if okL (l.L ++ l.Wait) [] = true then (if okH l.Hide (-1) (l.L.length : Int) = true then (if 256 < (l.L ++ l.Wait).length then 2 else 0) else 1) else 1) else 1
theorem chkL_eq {l : g_api_Log} (h : l.L.length + l.Wait.length ≤ 100000) : m_logd_Check l = some (chk l) := by
  unfold m_logd_Check
  rw [number_eq, obind_some']
  have hc : (((((!okNum l.Id) || ((l.Key.toNat : Int) == 0)) || (decide ((l.Key.toNat : Int) ≥ 1152921504606845789))) || (decide (l.Delay < 0))) || (decide (l.Delay > 1000))) = !okHd l := by
    unfold okHd
    rw [Bool.eq_iff_iff]
    cases okNum l.Id <;> simp <;> omega
  rw [hc]
  unfold chk
  cases h0 : okHd l with
  | false => rfl
  | true =>
    rw [Bool.not_true, if_neg (by decide), if_pos rfl, all_eq h, obind_some']
    have h3 := check_b3 (l.L ++ l.Wait) [] 0
    rw [show kvOf [] = ([] : List (ByteArray × Bool)) from rfl] at h3
    rw [h3, obind_some']
    cases h1 : okL (l.L ++ l.Wait) [] with
    | false => simp
    | true =>
      simp only [if_true]
      obtain ⟨z, hz⟩ := check_b5 l l.Hide (-1) 0
      rw [hz, obind_some']
      cases h2 : okH l.Hide (-1) (l.L.length : Int) with
      | false => simp
      | true =>
        simp only [if_true]
        have hl : (kvOf ([] ++ (l.L ++ l.Wait).map (·.Body))).length = (l.L ++ l.Wait).length := by simp [kvOf]
        rw [hl]
        by_cases h4 : 256 < (l.L ++ l.Wait).length
        · rw [if_pos h4, if_pos (by rw [decide_eq_true_eq]; omega)]
        · rw [if_neg h4, if_neg (by rw [decide_eq_true_eq]; omega)]
end Go.Proofs.YtemiampgjgenhaaGreatDoor
