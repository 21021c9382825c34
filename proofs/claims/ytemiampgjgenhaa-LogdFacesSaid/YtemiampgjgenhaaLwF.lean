/- The law LogdFaces, in plain terms. Conditions: none. -/
import Derived.Test.YtemiampgjgenhaaQi
import Derived.Test.YtemiampgjgenhaaQL
import Derived.Test.YtemiampgjgenhaaWkI
set_option linter.unusedSimpArgs false
set_option linter.unusedVariables false
set_option maxHeartbeats 4000000
set_option maxRecDepth 100000
namespace Go.Proofs.Ytemiampgjgenhaa
open Go Go.Gw

theorem sums_self (xs : List (UInt64 × UInt64)) (h : xs.length ≤ 100000) : m_ref08_Sums xs xs = some true := by
  obtain ⟨y, h1, h2⟩ := iter_ends (step := m_ref08_Sums_b1 xs xs) (T := fun y => y = .inl ()) (s0 := 0) (fun i s => s = (i : Int) ∧ i ≤ xs.length) xs.length (by omega) ⟨rfl, by omega⟩ (by
    rintro i s hi ⟨rfl, _⟩
    unfold m_ref08_Sums_b1
    by_cases hlt : i < xs.length
    · right
      refine ⟨hlt, ((i + 1 : Nat) : Int), ?_, rfl, by omega⟩
      rw [if_pos (by simpa using hlt), idx_lt hlt, obind_some', obind_some', if_neg (by simp [eqSum]), w64_sucN (by omega)]
    · left
      exact ⟨.inl (), by rw [if_neg (by simpa using hlt)], rfl⟩)
  unfold m_ref08_Sums
  rw [if_neg (by simp), h1, h2, obind_some']
theorem and64_le (a : Int) : 0 ≤ and64 a 65535 ∧ and64 a 65535 ≤ 65535 := by
  unfold and64
  have h : (BitVec.ofInt 64 a &&& BitVec.ofInt 64 65535).toNat ≤ 65535 := by
    rw [BitVec.toNat_and]
    exact Nat.le_trans Nat.and_le_right (by decide)
  generalize (BitVec.ofInt 64 a &&& BitVec.ofInt 64 65535).toNat = n at *
  rw [w64_in (by omega) (by omega)]
  omega
theorem tmod_nat {x : Int} (h : 0 ≤ x) (f : Nat) : ∃ n : Nat, Int.tmod x ((f + 1 : Nat) : Int) = (n : Int) ∧ n ≤ f := by
  have h1 := Int.tmod_nonneg ((f + 1 : Nat) : Int) h
  have h2 := Int.tmod_lt_of_pos x (show (0 : Int) < ((f + 1 : Nat) : Int) by omega)
  exact ⟨(Int.tmod x ((f + 1 : Nat) : Int)).toNat, by omega, by omega⟩
theorem eqHead_self (p : g_api_Head) : eq_api_Head p p = true := by
  simp [eq_api_Head, eq_api_Sig, eqSum]
theorem faces_loop {l : g_api_Log} (hc : chk l = 0) : ∃ f : Nat, iter (m_law24_LogdFaces_b2 l (leavesOf l, 0) (leavesV true l, 0)) FUEL ((l.L.length : Int), 0, 0) = some (.inl ((f : Int), (l.Hide.length : Int))) ∧ f ≤ l.L.length ∧ ∀ j, j < f → (leavesV true l)[j]? = (leavesOf l)[j]? := by
  obtain ⟨c0, c1, c2, c3⟩ := chk_zero hc
  have hlen : l.L.length ≤ 256 := by simp at c3; omega
  have ha : (leavesOf l).length = l.L.length := by simp [leavesOf]
  have hb : (leavesV true l).length = l.L.length := lv_len _ _ _ _
  obtain ⟨y, e1, f, e2, e3, e4⟩ := iter_ends (step := m_law24_LogdFaces_b2 l (leavesOf l, 0) (leavesV true l, 0))
    (T := fun y => ∃ f : Nat, y = .inl ((f : Int), (l.Hide.length : Int)) ∧ f ≤ l.L.length ∧ ∀ j, j < f → (leavesV true l)[j]? = (leavesOf l)[j]?) (s0 := ((l.L.length : Int), 0, 0))
    (fun i s => ∃ f k : Nat, s = ((f : Int), (k : Int), (i : Int)) ∧ i ≤ l.L.length ∧ f ≤ l.L.length ∧ k ≤ l.Hide.length ∧ k ≤ i ∧ (leavesV true l).drop i = lv true (l.Hide.drop k) (l.L.drop i) i ∧ okH (l.Hide.drop k) ((i : Int) - 1) (l.L.length : Int) = true ∧ ∀ j, j < f → j < i → (leavesV true l)[j]? = (leavesOf l)[j]?) l.L.length (by omega)
    ⟨l.L.length, 0, rfl, by omega, by omega, by omega, by omega, rfl, by simpa using c2, fun j _ h => by omega⟩ (by
      rintro i s hi ⟨f, k, rfl, i1, i2, i3, i8, i4, i5, i6⟩
      unfold m_law24_LogdFaces_b2
      dsimp only
      by_cases hlt : i < l.L.length
      · right
        refine ⟨hlt, ?_⟩
        rw [if_pos (by rw [ha]; simpa using hlt)]
        have hx : l.L[i]? = some l.L[i] := by simp [hlt]
        have hbl : l.L[i].Body.length ≤ 2048 := okL_body c1 _ (List.mem_append_left _ (List.getElem_mem hlt))
        have hai : (leavesOf l)[i]? = some (pleaf l.L[i].Body) := by simp [leavesOf, hlt]
        have hd := i4
        rw [List.drop_eq_getElem_cons hlt, lv] at hd
        have hbi : (leavesV true l)[i]? = some (cur true (hid (l.Hide.drop k) i) l.L[i].Body) := by
          have : ((leavesV true l).drop i)[0]? = some (cur true (hid (l.Hide.drop k) i) l.L[i].Body) := by rw [hd]; rfl
          simpa using this
        have hdn : (leavesV true l).drop (i + 1) = lv true (nxt (l.Hide.drop k) i) (l.L.drop (i + 1)) (i + 1) := by
          rw [← List.drop_drop, hd]; rfl
        have hidx : (obind (if decide ((k : Int) < (l.Hide.length : Int)) = true then obind (idx l.Hide (k : Int)) fun x12 => some (x12 == (i : Int)) else some false) : (Bool → Option _) → Option ((Int × Int × Int) ⊕ ((Int × Int) ⊕ Bool))) = fun K => K (hid (l.Hide.drop k) i) := by
          funext K
          by_cases hk : k < l.Hide.length
          · rw [if_pos (by simpa using hk), idx_lt hk, obind_some', obind_some', List.drop_eq_getElem_cons hk]
            simp only [hid]
            congr 1
          · rw [if_neg (by simpa using hk), obind_some', List.drop_eq_nil_of_le (by omega)]
            rfl
        rw [hidx]
        dsimp only
        cases hh : hid (l.Hide.drop k) i with
        | true =>
          have hk : k < l.Hide.length := by
            by_cases hk : k < l.Hide.length
            · exact hk
            · rw [List.drop_eq_nil_of_le (by omega)] at hh; cases hh
          rw [hh] at hbi
          have hnx : nxt (l.Hide.drop k) i = l.Hide.drop (k + 1) := by
            unfold nxt; rw [hh, if_pos rfl, List.tail_drop]
          rw [hnx] at hdn
          rw [List.drop_eq_getElem_cons hk] at i5 hh
          obtain ⟨o1, o2, o3⟩ := okH_cons.1 i5
          have hki : l.Hide[k] = (i : Int) := by simpa [hid] using hh
          rw [if_pos rfl, idx_of hx, obind_some', app_eq 1 (by simp; omega) (by simp; omega), obind_some', idx_of hbi, obind_some', leaf_eq (by simp; omega), obind_some', if_neg (by simp [cur, eqSum]), w64_sucN (by omega), w64_sucN (by omega)]
          refine ⟨_, rfl, min f i, k + 1, ?_, by omega, by omega, by omega, by omega, hdn, ?_, fun j h1 h2 => i6 j (by omega) (by omega)⟩
          · congr 1
            unfold minI
            split <;> omega
          · have : ((i + 1 : Nat) : Int) - 1 = l.Hide[k] := by rw [hki]; omega
            rw [this]; exact o3
        | false =>
          rw [hh] at hbi
          have hnx : nxt (l.Hide.drop k) i = l.Hide.drop k := by
            unfold nxt; rw [hh, if_neg (by decide)]
          rw [hnx] at hdn
          have hcur : cur true false l.L[i].Body = pleaf l.L[i].Body := rfl
          rw [hcur] at hbi
          rw [if_neg (by decide), idx_of hai, obind_some', idx_of hbi, obind_some', if_neg (by simp [eqSum]), w64_sucN (by omega)]
          refine ⟨_, rfl, f, k, rfl, by omega, i2, i3, by omega, hdn, ?_, fun j h1 h2 => ?_⟩
          · cases hd2 : l.Hide.drop k with
            | nil => rfl
            | cons a r =>
              rw [hd2] at i5 hh
              obtain ⟨o1, o2, o3⟩ := okH_cons.1 i5
              have : a ≠ (i : Int) := by simpa [hid] using hh
              exact okH_cons.2 ⟨by omega, o2, o3⟩
          · by_cases hji : j = i
            · subst hji; rw [hai, hbi]
            · exact i6 j h1 (by omega)
      · left
        have hie : i = l.L.length := by omega
        have hk : k = l.Hide.length := by
          by_cases hk : k < l.Hide.length
          · rw [List.drop_eq_getElem_cons hk] at i5
            obtain ⟨o1, o2, o3⟩ := okH_cons.1 i5
            omega
          · omega
        rw [if_neg (by rw [ha]; simpa using hlt)]
        exact ⟨_, rfl, f, by rw [hk], i2, fun j h => i6 j h (by omega)⟩)
  exact ⟨f, by rw [e1, e2], e3, e4⟩
theorem faces_end {l : g_api_Log} (hl : l.L.length + l.Wait.length ≤ 100000) (hc : chk l = 0) : ∃ x e, m_logd_Hide l = some (x, e) ∧ ((e == 0) != decide ((l.L.length : Int) > 0)) = false ∧ (∃ y, m_logd_Leaves x 0 = some y ∧ (e = 0 → y = (leavesOf l, 0) ∧ m_logd_Check x = some 0)) := by
  by_cases h0 : l.L = []
  · refine ⟨zeroL, 240, hide_none hl hc h0, by rw [h0]; rfl, (([] : List (UInt64 × UInt64)), 1), ?_, fun h => by cases h⟩
    unfold m_logd_Leaves
    rw [chkL_eq (by decide), obind_some', if_pos (by decide)]
    rfl
  · obtain ⟨h, h1, h2⟩ := hide_eq hl hc h0
    have hpos : 0 < l.L.length := List.length_pos_iff.2 h0
    refine ⟨withH l h, 0, h1, by simp; omega, _, leaves0_eq hl h2, fun _ => ⟨rfl, ?_⟩⟩
    rw [chkL_eq (l := withH l h) hl, h2]
theorem faces_true (l : g_api_Log) (size now : Int) : m_law24_LogdFaces l size now = some true := by
  unfold m_law24_LogdFaces
  rw [live24_true, obind_some', if_neg (by decide)]
  obtain ⟨r, hr, hf⟩ := few24 l []
  rw [hr, obind_some']
  cases r with
  | false => rw [if_pos (by decide), obind_some', if_pos (by simp)]
  | true =>
    obtain ⟨f1, f2, f3, f4⟩ := hf rfl
    have hl : l.L.length + l.Wait.length ≤ 100000 := by omega
    rw [if_neg (by decide), chkL_eq hl, obind_some', obind_some']
    by_cases hcn : (((chk l != 0) || (decide (now < 0))) || (decide (now > 1099511627776))) = true
    · rw [if_pos hcn]
    · rw [if_neg hcn]
      simp only [Bool.or_eq_true, bne_iff_ne, ne_eq, decide_eq_true_eq, not_or, Decidable.not_not] at hcn
      obtain ⟨⟨hc, h2⟩, h3⟩ := hcn
      have ht : okNum now = true := by unfold okNum; simp; omega
      have ha : (leavesOf l).length = l.L.length := by simp [leavesOf]
      have hb : (leavesV true l).length = l.L.length := lv_len _ _ _ _
      have hl1 := leavesV_eq hl hc true
      rw [if_pos rfl] at hl1
      rw [leaves0_eq hl hc, obind_some', hl1, obind_some']
      dsimp only
      rw [if_neg (by rw [ha, hb]; simp)]
      obtain ⟨f, g1, g2, g3⟩ := faces_loop hc
      rw [ha, g1, obind_some']
      dsimp only
      have hw : w64 ((f : Int) + 1) = ((f + 1 : Nat) : Int) := w64_sucN (by omega)
      obtain ⟨n, n1, n2⟩ := tmod_nat (and64_le size).1 f
      rw [hw, if_pos (by omega), n1, bnd_def]
      have htk : (leavesV true l).take n = (leavesOf l).take n := by
        apply List.ext_getElem?
        intro j
        rw [List.getElem?_take, List.getElem?_take]
        by_cases hj : j < n
        · rw [if_pos hj, if_pos hj]; exact g3 j (by omega)
        · rw [if_neg hj, if_neg hj]
      have hh1 := headV_eq (n := n) hl hc (by omega) ht true
      rw [if_pos rfl, htk] at hh1
      rw [head0_eq hl hc (by omega) ht, obind_some', hh1, obind_some']
      obtain ⟨x, e, e1, e2, y, e3, e4⟩ := faces_end hl hc
      rw [e1, obind_some']
      dsimp only
      rw [e2, eqHead_self, if_neg (by simp), e3, obind_some']
      by_cases he : e = 0
      · obtain ⟨e5, e6⟩ := e4 he
        subst he
        rw [e5, if_neg (by decide)]
        dsimp only
        rw [if_pos (by decide), sums_self _ (by rw [ha]; omega), obind_some', if_pos rfl, e6, obind_some', obind_some']; rfl
      · rw [if_pos (by simpa using he), obind_some']
end Go.Proofs.Ytemiampgjgenhaa
