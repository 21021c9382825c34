/- The law LogdSteps, in plain terms. Conditions: none. -/
import Derived.Test.YtemiampgjgenhaaGreatRh
import Derived.Test.YtemiampgjgenhaaGreatRe
import Derived.Test.YtemiampgjgenhaaGreatQj
import Derived.Test.YtemiampgjgenhaaGreatQL
import Derived.Test.YtemiampgjgenhaaGreatWkM
set_option linter.unusedSimpArgs false
set_option linter.unusedVariables false
set_option maxHeartbeats 4000000
set_option maxRecDepth 100000
namespace Go.Proofs.YtemiampgjgenhaaGreat
open Go Go.Gw

theorem findB_pos : ∀ (xs : List g_api_Leaf) (b : List UInt8) (i : Nat), findB xs b i = (pos xs b).map (· + i) := by
  intro xs
  induction xs with
  | nil => intro b i; rfl
  | cons x xs ih =>
    intro b i
    simp only [findB, pos]
    by_cases h : x.Body = b
    · rw [if_pos h, if_pos h]; simp
    · rw [if_neg h, if_neg h, ih]
      cases pos xs b with
      | none => rfl
      | some j => simp only [Option.map_some]; congr 1; omega
theorem findB_pos0 (xs : List g_api_Leaf) (b : List UInt8) : pos xs b = findB xs b 0 := by
  rw [findB_pos]; cases pos xs b <;> rfl
theorem addLog_eq {l : g_api_Log} {b : List UInt8} {now : Int} (hl : l.L.length + l.Wait.length ≤ 100000) (hh : l.Hide.length ≤ 100000) : ∃ x p e, m_logd_Add l b now = some (x, p, e) ∧ m_ref24_Add l b now = some (x, p, e) ∧ x.L.length ≤ 100000 ∧ x.Wait.length ≤ 100001 ∧ x.Hide.length ≤ 100000 := by
  by_cases h : chk l = 0
  · obtain ⟨k1, k2, k3⟩ := key_of (chk_zero h).1
    cases ha : (okBody b && okNum now) with
    | false =>
      refine ⟨_, _, _, add_arg hl h ha, ?_, by simp [zeroL], by simp [zeroL], by simp [zeroL]⟩
      unfold m_ref24_Add
      rw [check24_eq hl hh, obind_some', h, if_neg (by decide), isBody24_eq, obind_some', num24_eq, obind_some']
      cases h1 : okBody b with
      | false => rw [Bool.not_false, if_pos rfl, obind_some', if_pos rfl]; rfl
      | true =>
        rw [h1, Bool.true_and] at ha
        rw [ha, Bool.not_true, if_neg Bool.false_ne_true, obind_some', Bool.not_false, if_pos rfl]; rfl
    | true =>
      have ha' := ha
      rw [Bool.and_eq_true] at ha'
      have hbl : b.length ≤ 600000 := by have := ha'.1; unfold okBody at this; simp at this; omega
      have e0 : m_ref24_Add l b now = obind (m_ref24_find (l.L ++ l.Wait) b) fun x7 =>
          if (decide (x7 ≥ 0)) = true then
            obind (idx (l.L ++ l.Wait) x7) fun x8 => obind (m_ref08_Leaf b) fun x9 => obind (m_ref24_PromBytes (⟨l.Id, x8.At, x9, (⟨0, 0⟩ : g_api_Sig)⟩ : g_api_Promise)) fun x10 => obind (m_ref04_Sign l.Key x10) fun x11 => some (l, (⟨l.Id, x8.At, x9, x11.1⟩ : g_api_Promise), 0)
          else if (decide (((l.L ++ l.Wait).length : Int) ≥ 256)) = true then some ((⟨0, 0, 0, [], [], []⟩ : g_api_Log), (⟨0, 0, (0, 0), (⟨0, 0⟩ : g_api_Sig)⟩ : g_api_Promise), 2)
          else obind (app 32 ([] : List g_api_Leaf) l.Wait) fun x12 => obind (app 1 ([] : List UInt8) b) fun x13 => obind (app 32 x12 ([(⟨x13, now⟩ : g_api_Leaf)] : List g_api_Leaf)) fun x14 => obind (m_ref08_Leaf b) fun x15 => obind (m_ref24_PromBytes (⟨l.Id, now, x15, (⟨0, 0⟩ : g_api_Sig)⟩ : g_api_Promise)) fun x16 => obind (m_ref04_Sign l.Key x16) fun x17 => some ((⟨l.Id, l.Key, l.Delay, l.L, l.Hide, x14⟩ : g_api_Log), (⟨l.Id, now, x15, x17.1⟩ : g_api_Promise), 0) := by
        unfold m_ref24_Add
        rw [check24_eq hl hh, obind_some', h, if_neg (by decide), isBody24_eq, obind_some', num24_eq, obind_some', ha'.1, ha'.2, Bool.not_true, if_neg Bool.false_ne_true, obind_some', if_neg Bool.false_ne_true, all24_eq hl, obind_some']
      rw [find24_eq _ (by simp; omega), obind_some', findB_pos0] at e0
      cases hj : findB (l.L ++ l.Wait) b 0 with
      | some j =>
        obtain ⟨x, h1, h2, h3⟩ := findB_some hj
        rw [Nat.sub_zero] at h2
        refine ⟨_, _, _, add_found hl h ha hj h2, ?_, by omega, by omega, hh⟩
        rw [e0, hj]
        dsimp only
        rw [if_pos (decide_eq_true (show (j : Int) ≥ 0 from Int.natCast_nonneg j)), idx_of h2, obind_some', leaf08_eq hbl, obind_some', promBytes_eq, obind_some', sign04_eq k1 k2 (promB_len _), obind_some']
        rfl
      | none =>
        rw [hj] at e0
        dsimp only at e0
        rw [if_neg (by decide)] at e0
        have h256 := (chk_zero h).2.2.2
        by_cases hn : (l.L ++ l.Wait).length = 256
        · refine ⟨_, _, _, add_full hl h ha hj hn, ?_, by simp [zeroL], by simp [zeroL], by simp [zeroL]⟩
          rw [e0, if_pos (by rw [hn]; rfl)]; rfl
        · refine ⟨_, _, _, add_new hl h ha hj hn, ?_, by simp [withW]; omega, by simp [withW]; omega, by simpa [withW] using hh⟩
          have hnil : ([] : List g_api_Leaf).length = 0 := rfl
          have hnb : ([] : List UInt8).length = 0 := rfl
          rw [e0, if_neg (by rw [decide_eq_true_eq]; omega), app_eq 32 (by omega) (by omega), obind_some', app_eq 1 (by omega) (by omega), obind_some', List.nil_append, List.nil_append, app_eq 32 (by simp; omega) (by simp; omega), obind_some', leaf08_eq hbl, obind_some', promBytes_eq, obind_some', sign04_eq k1 k2 (promB_len _), obind_some']
          rfl
  · refine ⟨_, _, _, add_bad hl h, ?_, by simp [zeroL], by simp [zeroL], by simp [zeroL]⟩
    unfold m_ref24_Add
    rw [check24_eq hl hh, obind_some', if_pos (by simpa using h)]; rfl
theorem mergeLog_eq {l : g_api_Log} (hl : l.L.length + l.Wait.length ≤ 100000) (hh : l.Hide.length ≤ 100000) : ∃ x e, m_logd_Merge l = some (x, e) ∧ m_ref24_Merge l = some (x, e) ∧ x.L.length ≤ 100000 ∧ x.Wait.length ≤ 100000 ∧ x.Hide.length ≤ 100000 := by
  unfold m_logd_Merge m_ref24_Merge
  rw [chkL_eq hl, obind_some', check24_eq hl hh, obind_some']
  by_cases h : chk l = 0
  · rw [h, if_neg (by decide), if_neg (by decide), all_eq hl, obind_some', all24_eq hl, obind_some']
    exact ⟨_, _, rfl, rfl, by simp; omega, by simp, hh⟩
  · rw [if_pos (by simpa using h), if_pos (by simpa using h)]
    exact ⟨_, _, rfl, rfl, by simp, by simp, by simp⟩
theorem hideLog_eq {l : g_api_Log} (hl : l.L.length + l.Wait.length ≤ 100000) (hh : l.Hide.length ≤ 99999) : ∃ x e, m_logd_Hide l = some (x, e) ∧ m_ref24_Hide l = some (x, e) ∧ x.L.length ≤ 100000 ∧ x.Wait.length ≤ 100000 ∧ x.Hide.length ≤ 100000 := by
  by_cases h : chk l = 0
  · by_cases h0 : l.L = []
    · refine ⟨_, _, hide_none hl h h0, ?_, by simp [zeroL], by simp [zeroL], by simp [zeroL]⟩
      unfold m_ref24_Hide
      rw [check24_eq hl (by omega), obind_some', h, if_neg (by decide), h0, if_pos (by simp)]; rfl
    · obtain ⟨g, g1, g2, g3⟩ := hide_eq hl h h0
      have hpos : 0 < l.L.length := List.length_pos_iff.2 h0
      have hlast : w64 ((l.L.length : Int) - 1) = ((l.L.length - 1 : Nat) : Int) := by rw [w64_in (by omega) (by omega)]; omega
      refine ⟨_, _, g1, ?_, by simp [withH]; omega, by simp [withH]; omega, ?_⟩
      · unfold m_ref24_Hide
        rw [check24_eq hl (by omega), obind_some', h, if_neg (by decide), if_neg (by simp; exact h0), hlast, hidden_eq (by omega), obind_some', g3]
        by_cases hm : ((l.L.length - 1 : Nat) : Int) ∈ l.Hide
        · rw [decide_eq_true hm, Bool.not_true, if_neg Bool.false_ne_true, obind_some', if_pos hm]; rfl
        · rw [decide_eq_false hm, Bool.not_false, if_pos rfl, app_eq 8 (by simp; omega) (by simp; omega), obind_some', List.nil_append, app_eq 8 (by simp; omega) (by simp; omega), obind_some', obind_some', if_neg hm]; rfl
      · show g.length ≤ 100000
        rw [g3]
        split
        · omega
        · simp; omega
  · refine ⟨zeroL, chk l, ?_, ?_, by simp [zeroL], by simp [zeroL], by simp [zeroL]⟩
    · unfold m_logd_Hide
      rw [chkL_eq hl, obind_some', if_pos (by simpa using h)]; rfl
    · unfold m_ref24_Hide
      rw [check24_eq hl (by omega), obind_some', if_pos (by simpa using h)]; rfl
theorem eqProm_self (p : g_api_Promise) : eq_api_Promise p p = true := by
  simp [eq_api_Promise, eq_api_Sig, eqSum]
theorem steps_true (l : g_api_Log) (b : List UInt8) (now : Int) : m_law24_LogdSteps l b now = some true := by
  unfold m_law24_LogdSteps
  rw [live24_true, obind_some', Bool.not_true, if_neg Bool.false_ne_true]
  obtain ⟨r, hr, hf⟩ := few24 l b
  rw [hr, obind_some']
  cases r with
  | false => rw [Bool.not_false, if_pos rfl]
  | true =>
    obtain ⟨f1, f2, f3, f4⟩ := hf rfl
    obtain ⟨x, p, e, x1, x2, x3, x4, x5⟩ := addLog_eq (l := l) (b := b) (now := now) (by omega) (by omega)
    obtain ⟨y, g, y1, y2, y3, y4, y5⟩ := mergeLog_eq (l := l) (by omega) (by omega)
    obtain ⟨z, k, z1, z2, z3, z4, z5⟩ := hideLog_eq (l := l) (by omega) (by omega)
    rw [Bool.not_true, if_neg Bool.false_ne_true, x1, obind_some', x2, obind_some', y1, obind_some', y2, obind_some', z1, obind_some', z2, obind_some']
    dsimp only
    rw [same_self _ (by omega) (by omega) (by omega), obind_some', eqProm_self, beq_self_eq_true, Bool.and_self, Bool.and_self, if_pos rfl, same_self _ (by omega) (by omega) (by omega), obind_some', obind_some', beq_self_eq_true, Bool.and_self, if_pos rfl, same_self _ (by omega) (by omega) (by omega), obind_some', obind_some', beq_self_eq_true, Bool.and_self]
end Go.Proofs.YtemiampgjgenhaaGreat
