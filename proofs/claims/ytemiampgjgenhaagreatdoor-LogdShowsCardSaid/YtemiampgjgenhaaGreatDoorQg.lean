/- What a log promises, takes in and shows: in plain terms. Conditions: a log that may be, not too great. -/
import Derived.Test.YtemiampgjgenhaaGreatDoorQf
set_option linter.unusedSimpArgs false
set_option linter.unusedVariables false
set_option maxHeartbeats 4000000
set_option maxRecDepth 100000
namespace Go.Proofs.YtemiampgjgenhaaGreatDoor
open Go Go.Gw

theorem if_nt {α : Type} {a b : α} : (if (!true) = true then a else b) = b := rfl
theorem chk_zero {l : g_api_Log} (h : chk l = 0) : okHd l = true ∧ okL (l.L ++ l.Wait) [] = true ∧ okH l.Hide (-1) (l.L.length : Int) = true ∧ (l.L ++ l.Wait).length ≤ 256 := by
  unfold chk at h
  cases h0 : okHd l with
  | false => rw [h0] at h; simp at h
  | true =>
    cases h1 : okL (l.L ++ l.Wait) [] with
    | false => rw [h0, h1] at h; simp at h
    | true =>
      cases h2 : okH l.Hide (-1) (l.L.length : Int) with
      | false => rw [h0, h1, h2] at h; simp at h
      | true =>
        rw [h0, h1, h2] at h
        simp only [if_true] at h
        by_cases h3 : 256 < (l.L ++ l.Wait).length
        · rw [if_pos h3] at h; cases h
        · exact ⟨rfl, rfl, rfl, by omega⟩
theorem chk_of {l : g_api_Log} (h0 : okHd l = true) (h1 : okL (l.L ++ l.Wait) [] = true) (h2 : okH l.Hide (-1) (l.L.length : Int) = true) (h3 : (l.L ++ l.Wait).length ≤ 256) : chk l = 0 := by
  unfold chk
  rw [h0, h1, h2]
  simp only [if_true]
  rw [if_neg (by omega)]
theorem key_of {l : g_api_Log} (h : okHd l = true) : 1 ≤ l.Key.toNat ∧ l.Key.toNat < GR ∧ okNum l.Id = true := by
  unfold okHd at h
  simp only [Bool.and_eq_true, Bool.not_eq_true', decide_eq_true_eq, decide_eq_false_iff_not] at h
  simp only [GR]
  exact ⟨by omega, by omega, h.1.1.1.1⟩
theorem okL_app : ∀ (xs : List g_api_Leaf) (ks : List (List UInt8)) (x : g_api_Leaf), okL (xs ++ [x]) ks = (okL xs ks && (okBody x.Body && okNum x.At && !decide (x.Body ∈ ks ++ xs.map (·.Body)))) := by
  intro xs
  induction xs with
  | nil => intro ks x; simp [okL]
  | cons y xs ih =>
    intro ks x
    show ((okBody y.Body && okNum y.At && !decide (y.Body ∈ ks)) && okL (xs ++ [x]) (ks ++ [y.Body])) = (((okBody y.Body && okNum y.At && !decide (y.Body ∈ ks)) && okL xs (ks ++ [y.Body])) && _)
    rw [ih, Bool.and_assoc]
    simp [Bool.and_assoc]
theorem okL_body : ∀ {xs : List g_api_Leaf} {ks : List (List UInt8)}, okL xs ks = true → ∀ x ∈ xs, x.Body.length ≤ 2048 := by
  intro xs
  induction xs with
  | nil => intro ks _ x hx; cases hx
  | cons y xs ih =>
    intro ks h x hx
    have h' : ((okBody y.Body && okNum y.At && !decide (y.Body ∈ ks)) && okL xs (ks ++ [y.Body])) = true := h
    rw [Bool.and_eq_true, Bool.and_eq_true, Bool.and_eq_true] at h'
    rcases List.mem_cons.1 hx with rfl | hx
    · have := h'.1.1.1
      unfold okBody at this
      simp at this
      exact this.2
    · exact ih h'.2 x hx
theorem okH_mono : ∀ {xs : List Int} {last n m : Int}, n ≤ m → okH xs last n = true → okH xs last m = true := by
  intro xs
  induction xs with
  | nil => intro last n m _ _; rfl
  | cons x xs ih =>
    intro last n m hnm h
    have h' : ((!decide (x ≤ last) && !decide (n ≤ x)) && okH xs x n) = true := h
    show ((!decide (x ≤ last) && !decide (m ≤ x)) && okH xs x m) = true
    rw [Bool.and_eq_true, Bool.and_eq_true] at h' ⊢
    refine ⟨⟨h'.1.1, ?_⟩, ih hnm h'.2⟩
    have := h'.1.2
    simp at this ⊢
    omega
def pubOf (l : g_api_Log) : g_api_Key := ⟨l.Id, pubK l.Key, l.Delay⟩
theorem publicL_eq {l : g_api_Log} (hl : l.L.length + l.Wait.length ≤ 100000) (h : chk l = 0) : m_logd_Public l = some (pubOf l, 0) := by
  obtain ⟨k1, k2, k3⟩ := key_of (chk_zero h).1
  unfold m_logd_Public
  rw [chkL_eq hl, obind_some', h, if_neg (by decide), public_eq k1 k2, obind_some']; rfl
def promOf (l : g_api_Log) (t : Int) (b : List UInt8) : g_api_Promise := ⟨l.Id, t, pleaf b, signS l.Key (promB ⟨l.Id, t, pleaf b, ⟨0, 0⟩⟩)⟩
def withW (l : g_api_Log) (b : List UInt8) (t : Int) : g_api_Log := ⟨l.Id, l.Key, l.Delay, l.L, l.Hide, l.Wait ++ [⟨b, t⟩]⟩
def merged (l : g_api_Log) : g_api_Log := ⟨l.Id, l.Key, l.Delay, l.L ++ l.Wait, l.Hide, []⟩
def zeroL : g_api_Log := ⟨0, 0, 0, [], [], []⟩
def zeroP : g_api_Promise := ⟨0, 0, (0, 0), ⟨0, 0⟩⟩
theorem add_bad {l : g_api_Log} {b : List UInt8} {now : Int} (hl : l.L.length + l.Wait.length ≤ 100000) (h : chk l ≠ 0) : m_logd_Add l b now = some (zeroL, zeroP, chk l) := by
  unfold m_logd_Add
  rw [chkL_eq hl, obind_some', if_pos (by simpa using h)]; rfl
theorem add_arg {l : g_api_Log} {b : List UInt8} {now : Int} (hl : l.L.length + l.Wait.length ≤ 100000) (h : chk l = 0) (ha : (okBody b && okNum now) = false) : m_logd_Add l b now = some (zeroL, zeroP, 1) := by
  unfold m_logd_Add
  rw [chkL_eq hl, obind_some', h, if_neg (by decide), isBody_eq, obind_some', number_eq, obind_some']
  cases h1 : okBody b with
  | false => rfl
  | true =>
    rw [h1, Bool.true_and] at ha
    rw [ha]; rfl
theorem add_found {l : g_api_Log} {b : List UInt8} {now : Int} {j : Nat} {x : g_api_Leaf} (hl : l.L.length + l.Wait.length ≤ 100000) (h : chk l = 0) (ha : (okBody b && okNum now) = true) (hj : findB (l.L ++ l.Wait) b 0 = some j) (hx : (l.L ++ l.Wait)[j]? = some x) :
    m_logd_Add l b now = some (l, promOf l x.At b, 0) := by
  obtain ⟨k1, k2, k3⟩ := key_of (chk_zero h).1
  rw [Bool.and_eq_true] at ha
  have hbl : b.length ≤ 600000 := by have := ha.1; unfold okBody at this; simp at this; omega
  unfold m_logd_Add
  rw [chkL_eq hl, obind_some', h, if_neg (by decide), isBody_eq, obind_some', number_eq, obind_some', ha.1, ha.2]
  rw [if_nt, obind_some', if_nt, all_eq hl, obind_some', index_eq (by simp; omega), hj, obind_some']
  dsimp only
  rw [if_pos (decide_eq_true (show (j : Int) ≥ 0 from Int.natCast_nonneg j)), idx_nat hx, obind_some', leaf_eq hbl, obind_some', ofPromise_eq, obind_some', sign_eq k1 k2 (promB_len _), obind_some']; rfl
theorem add_full {l : g_api_Log} {b : List UInt8} {now : Int} (hl : l.L.length + l.Wait.length ≤ 100000) (h : chk l = 0) (ha : (okBody b && okNum now) = true) (hj : findB (l.L ++ l.Wait) b 0 = none) (hn : (l.L ++ l.Wait).length = 256) :
    m_logd_Add l b now = some (zeroL, zeroP, 2) := by
  rw [Bool.and_eq_true] at ha
  unfold m_logd_Add
  rw [chkL_eq hl, obind_some', h, if_neg (by decide), isBody_eq, obind_some', number_eq, obind_some', ha.1, ha.2]
  rw [if_nt, obind_some', if_nt, all_eq hl, obind_some', index_eq (by simp; omega), hj, obind_some']
  dsimp only
  rw [if_neg (by simp), if_pos (by rw [hn]; rfl)]; rfl
theorem add_new {l : g_api_Log} {b : List UInt8} {now : Int} (hl : l.L.length + l.Wait.length ≤ 100000) (h : chk l = 0) (ha : (okBody b && okNum now) = true) (hj : findB (l.L ++ l.Wait) b 0 = none) (hn : (l.L ++ l.Wait).length ≠ 256) :
    m_logd_Add l b now = some (withW l b now, promOf l now b, 0) := by
  obtain ⟨k1, k2, k3⟩ := key_of (chk_zero h).1
  rw [Bool.and_eq_true] at ha
  have hbl : b.length ≤ 600000 := by have := ha.1; unfold okBody at this; simp at this; omega
  have hnil : ([] : List g_api_Leaf).length = 0 := rfl
  have hnb : ([] : List UInt8).length = 0 := rfl
  unfold m_logd_Add
  rw [chkL_eq hl, obind_some', h, if_neg (by decide), isBody_eq, obind_some', number_eq, obind_some', ha.1, ha.2]
  rw [if_nt, obind_some', if_nt, all_eq hl, obind_some', index_eq (by simp; omega), hj, obind_some']
  dsimp only
  rw [if_neg (by simp), if_neg (by rw [beq_iff_eq]; omega)]
  unfold m_slices_Clone_api_Leaf_api_Leaf m_bytes_Clone
  rw [app_eq 32 (by omega) (by omega), obind_some', obind_some', app_eq 1 (by omega) (by omega), obind_some', obind_some', List.nil_append, List.nil_append, app_eq 32 (by simp; omega) (by simp; omega), obind_some', leaf_eq hbl, obind_some', ofPromise_eq, obind_some', sign_eq k1 k2 (promB_len _), obind_some']; rfl
theorem chk_withW {l : g_api_Log} {b : List UInt8} {now : Int} (h : chk l = 0) (ha : (okBody b && okNum now) = true) (hj : findB (l.L ++ l.Wait) b 0 = none) (hn : (l.L ++ l.Wait).length ≠ 256) : chk (withW l b now) = 0 := by
  obtain ⟨h0, h1, h2, h3⟩ := chk_zero h
  have e : (withW l b now).L ++ (withW l b now).Wait = (l.L ++ l.Wait) ++ [⟨b, now⟩] := by simp [withW]
  refine chk_of h0 ?_ h2 ?_
  · rw [e, okL_app, h1, Bool.true_and, List.nil_append]
    rw [ha, Bool.true_and, Bool.not_eq_true', decide_eq_false_iff_not]
    intro hm
    obtain ⟨x, hx, hxb⟩ := List.mem_map.1 hm
    exact findB_none hj x hx hxb
  · rw [e, List.length_append]; simp at h3 hn ⊢; omega
theorem chk_merged {l : g_api_Log} (h : chk l = 0) : chk (merged l) = 0 := by
  obtain ⟨h0, h1, h2, h3⟩ := chk_zero h
  have e : (merged l).L ++ (merged l).Wait = l.L ++ l.Wait := by simp [merged]
  refine chk_of h0 (by rw [e]; exact h1) ?_ (by rw [e]; exact h3)
  refine okH_mono ?_ h2
  show (l.L.length : Int) ≤ ((l.L ++ l.Wait).length : Int)
  simp; omega
theorem merge_eq {l : g_api_Log} (hl : l.L.length + l.Wait.length ≤ 100000) (h : chk l = 0) : m_logd_Merge l = some (merged l, 0) := by
  unfold m_logd_Merge
  rw [chkL_eq hl, obind_some', h, if_neg (by decide), all_eq hl, obind_some']; rfl

/-! ### what is signed -/
theorem checkProm_eq {l : g_api_Log} {t : Int} {b : List UInt8} (h : okHd l = true) (ht : okNum t = true) : m_logd_CheckPromise (pubOf l) (promOf l t b) = some 0 := by
  obtain ⟨k1, k2, k3⟩ := key_of h
  have hs := check_sign (k := l.Key) (msg := promB ⟨l.Id, t, pleaf b, ⟨0, 0⟩⟩) k1 k2 (promB_len _)
  have hb : promB (promOf l t b) = promB ⟨l.Id, t, pleaf b, ⟨0, 0⟩⟩ := by simp only [promB, promOf]
  have e1 : (promOf l t b).Log = l.Id := by simp only [promOf]
  have e2 : (promOf l t b).At = t := by simp only [promOf]
  have e3 : (promOf l t b).Sig = signS l.Key (promB ⟨l.Id, t, pleaf b, ⟨0, 0⟩⟩) := by simp only [promOf]
  have p1 : (pubOf l).Log = l.Id := rfl
  have p2 : (pubOf l).Key = pubK l.Key := rfl
  unfold m_logd_CheckPromise m_logd_signed
  rw [ofPromise_eq, hb, e1, e2, e3, p1, p2, number_eq, obind_some', obind_some', number_eq, obind_some', k3, ht, if_neg (by decide), if_neg (by simp), hs, obind_some', obind_some']
def headOf (l : g_api_Log) (n : Int) (r : UInt64 × UInt64) (t : Int) : g_api_Head := ⟨l.Id, n, r, t, signS l.Key (headB ⟨l.Id, n, r, t, ⟨0, 0⟩⟩)⟩
theorem checkHead_eq {l : g_api_Log} {n t : Int} {r : UInt64 × UInt64} (h : okHd l = true) (ht : okNum t = true) (hn : 0 ≤ n ∧ n ≤ 256) : m_logd_CheckHead (pubOf l) (headOf l n r t) = some 0 := by
  obtain ⟨k1, k2, k3⟩ := key_of h
  have hs := check_sign (k := l.Key) (msg := headB ⟨l.Id, n, r, t, ⟨0, 0⟩⟩) k1 k2 (headB_len _)
  have hb : headB (headOf l n r t) = headB ⟨l.Id, n, r, t, ⟨0, 0⟩⟩ := by simp only [headB, headOf]
  have e1 : (headOf l n r t).Log = l.Id := by simp only [headOf]
  have e2 : (headOf l n r t).At = t := by simp only [headOf]
  have e3 : (headOf l n r t).Sig = signS l.Key (headB ⟨l.Id, n, r, t, ⟨0, 0⟩⟩) := by simp only [headOf]
  have e4 : (headOf l n r t).Size = n := by simp only [headOf]
  have p1 : (pubOf l).Log = l.Id := rfl
  have p2 : (pubOf l).Key = pubK l.Key := rfl
  unfold m_logd_CheckHead m_logd_signed
  rw [ofHead_eq, hb, e1, e2, e3, e4, p1, p2, number_eq, obind_some', obind_some', number_eq, obind_some', k3, ht, decide_eq_true hn.2, decide_eq_true (show n ≥ 0 from hn.1), if_neg (by decide), if_neg (by simp), hs, obind_some', obind_some']

end Go.Proofs.YtemiampgjgenhaaGreatDoor
