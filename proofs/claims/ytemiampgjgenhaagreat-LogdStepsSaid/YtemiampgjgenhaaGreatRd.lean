/- What the reference says of a log, and of a new one, is what the program says. Conditions: not too many leaves. -/
import Derived.Test.YtemiampgjgenhaaGreatQe
import Derived.Test.YtemiampgjgenhaaGreatRa
import Derived.Test.YtemiampgjgenhaaGreatWkF
set_option linter.unusedSimpArgs false
set_option linter.unusedVariables false
set_option maxHeartbeats 4000000
set_option maxRecDepth 100000
namespace Go.Proofs.YtemiampgjgenhaaGreat
open Go Go.Gw

theorem few24 (l : g_api_Log) (b : List UInt8) : ∃ r, m_law24_few l b = some r ∧ (r = true → l.L.length ≤ 40 ∧ l.Wait.length ≤ 40 ∧ l.Hide.length ≤ 60 ∧ b.length ≤ 3000) := by
  obtain ⟨t1, h1, _⟩ := iter_ends (step := m_ref24_Few_b2 l) (T := fun _ => True) (s0 := (0, 0)) (fun i s => s.2 = (i : Int) ∧ i ≤ 40) 40 (by omega) ⟨rfl, by omega⟩ (by
    rintro i ⟨n, j⟩ hi ⟨h, _⟩
    obtain rfl : j = (i : Int) := h
    unfold m_ref24_Few_b2
    by_cases h1 : i < l.L.length ∧ i < 40
    · right
      refine ⟨by omega, (w64 (n + (l.L[i].Body.length : Int)), ((i + 1 : Nat) : Int)), ?_, rfl, by omega⟩
      dsimp only
      rw [if_pos (by simp; omega), idx_lt h1.1, obind_some', bnd, w64_sucN (by omega)]
    · left
      exact ⟨_, by dsimp only; rw [if_neg (by simp; omega)], trivial⟩)
  obtain ⟨t2, h2, _⟩ := iter_ends (step := m_ref24_Few_b3 l) (T := fun _ => True) (s0 := (t1, 0)) (fun i s => s.2 = (i : Int) ∧ i ≤ 40) 40 (by omega) ⟨rfl, by omega⟩ (by
    rintro i ⟨n, j⟩ hi ⟨h, _⟩
    obtain rfl : j = (i : Int) := h
    unfold m_ref24_Few_b3
    by_cases h1 : i < l.Wait.length ∧ i < 40
    · right
      refine ⟨by omega, (w64 (n + (l.Wait[i].Body.length : Int)), ((i + 1 : Nat) : Int)), ?_, rfl, by omega⟩
      dsimp only
      rw [if_pos (by simp; omega), idx_lt h1.1, obind_some', bnd, w64_sucN (by omega)]
    · left
      exact ⟨_, by dsimp only; rw [if_neg (by simp; omega)], trivial⟩)
  unfold m_law24_few m_ref24_Few
  rw [h1, obind_some', obind_some', h2, obind_some', obind_some', bnd, obind_some', bnd]
  refine ⟨_, rfl, fun h => ?_⟩
  simp only [Bool.and_eq_true, decide_eq_true_eq] at h
  omega
theorem num24_eq (n : Int) : m_ref24_num n = some (okNum n) := rfl
theorem isBody24_eq (b : List UInt8) : m_ref24_isBody b = some (okBody b) := by
  unfold m_ref24_isBody okBody
  rw [bnd_def]
  congr 2
  · rw [decide_eq_decide]; omega
  · rw [decide_eq_decide]; omega
theorem all24_eq {l : g_api_Log} (h : l.L.length + l.Wait.length ≤ 100000) : m_ref24_All l = some (l.L ++ l.Wait) := by
  unfold m_ref24_All
  rw [app_eq 32 (by simp; omega) (by simp; omega), obind_some', List.nil_append, app_eq 32 (by omega) (by omega), obind_some']
/-- The first place of a body. -/
def pos : List g_api_Leaf → List UInt8 → Option Nat
  | [], _ => none
  | x :: r, b => if x.Body = b then some 0 else (pos r b).map (· + 1)
theorem find24_it (all : List g_api_Leaf) (b : List UInt8) (hl : all.length ≤ 100000) : ∀ (xs : List g_api_Leaf) (i : Nat), all.drop i = xs →
    iter (m_ref24_find_b1 all b) (xs.length + 1) (i : Int) = some (match pos xs b with | some j => .inr ((i + j : Nat) : Int) | none => .inl ()) := by
  intro xs
  induction xs with
  | nil =>
    intro i hd
    have : all.length ≤ i := List.drop_eq_nil_iff.1 hd
    refine iter_end ?_
    unfold m_ref24_find_b1
    rw [if_neg (by simp; omega)]; rfl
  | cons x xs ih =>
    intro i hd
    have hx : all[i]? = some x := by
      have : (all.drop i)[0]? = some x := by rw [hd]; rfl
      simpa using this
    have hlt : i < all.length := (List.getElem?_eq_some_iff.1 hx).1
    have hd' : all.drop (i + 1) = xs := by rw [← List.drop_drop, hd]; rfl
    by_cases h : x.Body = b
    · refine iter_end ?_
      unfold m_ref24_find_b1
      rw [if_pos (by simp; omega), idx_of hx, obind_some', bs_eq, if_pos (by simpa using h)]
      simp [pos, h]
    · rw [List.length_cons, iter_step (s' := ((i + 1 : Nat) : Int)), ih (i + 1) hd']
      · simp only [pos, if_neg h]
        cases pos xs b with
        | none => rfl
        | some j => simp only [Option.map_some]; congr 3; omega
      · unfold m_ref24_find_b1
        rw [if_pos (by simp; omega), idx_of hx, obind_some', bs_eq, if_neg (by simpa using h), w64_sucN (by omega)]
theorem find24_eq {all : List g_api_Leaf} (b : List UInt8) (hl : all.length ≤ 100000) : m_ref24_find all b = some (match pos all b with | some j => (j : Int) | none => -1) := by
  have h := iter_up _ (find24_it all b hl all 0 rfl) (by omega)
  have h' : iter (m_ref24_find_b1 all b) FUEL 0 = _ := h
  unfold m_ref24_find
  rw [h', obind_some']
  cases pos all b with
  | none => rfl
  | some j => simp
theorem pos_first : ∀ {xs : List g_api_Leaf} {i : Nat} {x : g_api_Leaf}, xs[i]? = some x → ((match pos xs x.Body with | some j => (j : Int) | none => -1) != (i : Int)) = decide (x.Body ∈ (xs.take i).map (·.Body)) := by
  intro xs
  induction xs with
  | nil => intro i x h; simp at h
  | cons y ys ih =>
    intro i x h
    cases i with
    | zero => simp at h; subst h; simp [pos]
    | succ i =>
      have h' : ys[i]? = some x := by simpa using h
      by_cases hy : y.Body = x.Body
      · simp only [pos, if_pos hy, List.take_succ_cons, List.map_cons]
        rw [decide_eq_true (by simp [hy])]
        simp; omega
      · have := ih h'
        simp only [pos, if_neg hy, List.take_succ_cons, List.map_cons]
        have e : decide (x.Body ∈ y.Body :: (ys.take i).map (·.Body)) = decide (x.Body ∈ (ys.take i).map (·.Body)) := by
          rw [decide_eq_decide, List.mem_cons]
          exact ⟨fun q => q.resolve_left (fun z => hy z.symm), .inr⟩
        rw [e, ← this, Bool.eq_iff_iff]
        cases pos ys x.Body with
        | none => simp; omega
        | some j => simp
/-- Leaves that may be, by place. -/
theorem okL_at : ∀ (xs : List g_api_Leaf) (ks : List (List UInt8)), okL xs ks = true ↔ ∀ (i : Nat) (x : g_api_Leaf), xs[i]? = some x → okBody x.Body = true ∧ okNum x.At = true ∧ x.Body ∉ ks ++ (xs.take i).map (·.Body) := by
  intro xs
  induction xs with
  | nil => intro ks; simp [okL]
  | cons y ys ih =>
    intro ks
    show ((okBody y.Body && okNum y.At && !decide (y.Body ∈ ks)) && okL ys (ks ++ [y.Body])) = true ↔ _
    rw [Bool.and_eq_true, ih]
    constructor
    · rintro ⟨h1, h2⟩ i x hx
      cases i with
      | zero =>
        simp at hx; subst hx
        simp only [Bool.and_eq_true, Bool.not_eq_true', decide_eq_false_iff_not] at h1
        simpa using ⟨h1.1.1, h1.1.2, h1.2⟩
      | succ i =>
        have := h2 i x (by simpa using hx)
        simpa using this
    · intro h
      refine ⟨?_, fun i x hx => ?_⟩
      · have := h 0 y rfl
        simp only [Bool.and_eq_true, Bool.not_eq_true', decide_eq_false_iff_not]
        simpa [and_assoc] using this
      · have := h (i + 1) x (by simpa using hx)
        simpa using this
theorem check24_b2 {xs : List g_api_Leaf} (hl : xs.length ≤ 100000) : iter (m_ref24_Check_b2 xs) FUEL 0 = some (if okL xs [] = true then .inl () else .inr 1) := by
  obtain ⟨y, h1, h2⟩ := iter_ends (step := m_ref24_Check_b2 xs) (T := fun y => y = if okL xs [] = true then .inl () else .inr 1) (s0 := 0)
    (fun i s => s = (i : Int) ∧ i ≤ xs.length ∧ ∀ (j : Nat) (x : g_api_Leaf), j < i → xs[j]? = some x → okBody x.Body = true ∧ okNum x.At = true ∧ x.Body ∉ (xs.take j).map (·.Body)) xs.length (by omega) ⟨rfl, by omega, fun j _ h => by omega⟩ (by
      rintro i s hi ⟨rfl, h0, hI⟩
      unfold m_ref24_Check_b2
      by_cases hlt : i < xs.length
      · have hx : xs[i]? = some xs[i] := by simp [hlt]
        rw [if_pos (by simpa using hlt), idx_of hx, obind_some', isBody24_eq, obind_some']
        have bad : ¬ (okBody xs[i].Body = true ∧ okNum xs[i].At = true ∧ xs[i].Body ∉ (xs.take i).map (·.Body)) → (.inr 1 : Unit ⊕ Int) = if okL xs [] = true then .inl () else .inr 1 := by
          intro hb
          rw [if_neg]
          intro hok
          have := (okL_at xs []).1 hok i _ hx
          exact hb (by simpa using this)
        cases ha : okBody xs[i].Body with
        | false =>
          left
          refine ⟨.inr 1, ?_, bad (fun q => by rw [ha] at q; exact Bool.noConfusion q.1)⟩
          rw [Bool.not_false, if_pos rfl, obind_some', if_pos rfl, obind_some', if_pos rfl]
        | true =>
          rw [Bool.not_true, if_neg Bool.false_ne_true, obind_some', num24_eq, obind_some', obind_some']
          cases hb : okNum xs[i].At with
          | false =>
            left
            refine ⟨.inr 1, ?_, bad (fun q => by rw [hb] at q; exact Bool.noConfusion q.2.1)⟩
            rw [Bool.not_false, if_pos rfl, obind_some', if_pos rfl]
          | true =>
            rw [Bool.not_true, if_neg Bool.false_ne_true, obind_some', find24_eq _ hl, obind_some', pos_first hx, obind_some']
            by_cases hc : xs[i].Body ∈ (xs.take i).map (·.Body)
            · left
              refine ⟨.inr 1, ?_, bad (fun q => q.2.2 hc)⟩
              rw [if_pos (by simpa using hc)]
            · right
              refine ⟨hlt, ((i + 1 : Nat) : Int), ?_, rfl, by omega, fun j x hj hxj => ?_⟩
              · rw [if_neg (by simpa using hc), w64_sucN (by omega)]
              · by_cases hji : j = i
                · subst hji
                  rw [hx] at hxj; cases hxj
                  exact ⟨ha, hb, hc⟩
                · exact hI j x (by omega) hxj
      · left
        refine ⟨.inl (), by rw [if_neg (by simpa using hlt)], ?_⟩
        rw [if_pos]
        refine (okL_at xs []).2 fun j x hx => ?_
        have hj := (List.getElem?_eq_some_iff.1 hx).1
        simpa using hI j x (by omega) hx)
  rw [h1, h2]
theorem okH_at : ∀ (xs : List Int) (last n : Int), okH xs last n = true ↔ ∀ (i : Nat) (x : Int), xs[i]? = some x → x < n ∧ (match i with | 0 => last < x | j + 1 => ∀ y, xs[j]? = some y → y < x) := by
  intro xs
  induction xs with
  | nil => intro last n; simp [okH]
  | cons a xs ih =>
    intro last n
    show ((!decide (a ≤ last) && !decide (n ≤ a)) && okH xs a n) = true ↔ _
    rw [Bool.and_eq_true, Bool.and_eq_true, ih]
    simp only [Bool.not_eq_true', decide_eq_false_iff_not, Int.not_le]
    constructor
    · rintro ⟨⟨h1, h2⟩, h3⟩ i x hx
      cases i with
      | zero => simp at hx; subst hx; exact ⟨h2, h1⟩
      | succ i =>
        obtain ⟨h4, h5⟩ := h3 i x (by simpa using hx)
        refine ⟨h4, ?_⟩
        cases i with
        | zero => intro y hy; simp at hy; subst hy; exact h5
        | succ i => intro y hy; exact h5 y (by simpa using hy)
    · intro h
      obtain ⟨h1, h2⟩ := h 0 a rfl
      refine ⟨⟨h2, h1⟩, fun i x hx => ?_⟩
      obtain ⟨h3, h4⟩ := h (i + 1) x (by simpa using hx)
      refine ⟨h3, ?_⟩
      cases i with
      | zero => exact h4 a rfl
      | succ i => intro y hy; exact h4 y (by simpa using hy)
theorem okH_low {xs : List Int} {n : Int} (h : ∀ (i : Nat) (x : Int), xs[i]? = some x → 0 ≤ x ∧ x < n ∧ ∀ j y, i = j + 1 → xs[j]? = some y → y < x) : okH xs (-1) n = true := by
  refine (okH_at xs (-1) n).2 fun i x hx => ?_
  obtain ⟨h1, h2, h3⟩ := h i x hx
  refine ⟨h2, ?_⟩
  cases i with
  | zero => show (-1 : Int) < x; omega
  | succ i => intro y hy; exact h3 i y rfl hy
theorem okH_nonneg : ∀ {xs : List Int} {last n : Int}, okH xs last n = true → ∀ x ∈ xs, last < x := by
  intro xs
  induction xs with
  | nil => intro last n _ x hx; cases hx
  | cons y xs ih =>
    intro last n h x hx
    have h' : ((!decide (y ≤ last) && !decide (n ≤ y)) && okH xs y n) = true := h
    rw [Bool.and_eq_true, Bool.and_eq_true] at h'
    have h1 := h'.1.1
    simp at h1
    rcases List.mem_cons.1 hx with rfl | hx
    · exact h1
    · have := ih h'.2 x hx; omega
theorem check24_b3 {l : g_api_Log} (hl : l.Hide.length ≤ 100000) : iter (m_ref24_Check_b3 l) FUEL 0 = some (if okH l.Hide (-1) (l.L.length : Int) = true then .inl () else .inr 1) := by
  obtain ⟨y, h1, h2⟩ := iter_ends (step := m_ref24_Check_b3 l) (T := fun y => y = if okH l.Hide (-1) (l.L.length : Int) = true then .inl () else .inr 1) (s0 := 0)
    (fun i s => s = (i : Int) ∧ i ≤ l.Hide.length ∧ ∀ (j : Nat) (x : Int), j < i → l.Hide[j]? = some x → 0 ≤ x ∧ x < (l.L.length : Int) ∧ ∀ k y, j = k + 1 → l.Hide[k]? = some y → y < x) l.Hide.length (by omega) ⟨rfl, by omega, fun j _ h => by omega⟩ (by
      rintro i s hi ⟨rfl, h0, hI⟩
      unfold m_ref24_Check_b3
      by_cases hlt : i < l.Hide.length
      · have hx : l.Hide[i]? = some l.Hide[i] := by simp [hlt]
        generalize hv : l.Hide[i] = v at hx
        rw [if_pos (by simpa using hlt), idx_of hx, obind_some']
        have bad : ¬ (0 ≤ v ∧ v < (l.L.length : Int) ∧ ∀ k y, i = k + 1 → l.Hide[k]? = some y → y < v) → (.inr 1 : Unit ⊕ Int) = if okH l.Hide (-1) (l.L.length : Int) = true then .inl () else .inr 1 := by
          intro hb
          rw [if_neg]
          intro hok
          have h3 := okH_nonneg hok v (List.mem_of_getElem? hx)
          obtain ⟨h4, h5⟩ := (okH_at _ _ _).1 hok i v hx
          refine hb ⟨by omega, h4, fun k y hk hy => ?_⟩
          subst hk
          exact h5 y hy
        obtain ⟨a, e1, e2⟩ := gu_ok (c := !(decide (v < 0))) (o := some v) (x := v) (fun _ => rfl)
        rw [e1, obind_some']
        obtain ⟨b, e3, e4⟩ := gu_tot (c := (!((decide (v < 0)) || (decide (a ≥ (l.L.length : Int))))) && (decide ((i : Int) > 0))) (o := idx l.Hide (w64 ((i : Int) - 1))) (fun hc => by
          have hi0 : 0 < i := by
            rw [Bool.and_eq_true, decide_eq_true_eq] at hc
            have := hc.2; omega
          have hw : w64 ((i : Int) - 1) = ((i - 1 : Nat) : Int) := by rw [w64_in (by omega) (by omega)]; omega
          exact ⟨l.Hide[i - 1], by rw [hw]; exact idx_lt (by omega)⟩)
        rw [e3, obind_some']
        obtain ⟨d, e5, e6⟩ := gu_ok (c := (!((decide (v < 0)) || (decide (a ≥ (l.L.length : Int))))) && (decide ((i : Int) > 0))) (o := some v) (x := v) (fun _ => rfl)
        rw [e5, obind_some']
        by_cases hv0 : v < 0
        · left
          refine ⟨.inr 1, ?_, bad (fun q => by omega)⟩
          rw [decide_eq_true hv0, Bool.true_or, Bool.true_or, if_pos rfl]
        · have ha : a = v := e2 (by simpa using hv0)
          subst ha
          by_cases hvl : a ≥ (l.L.length : Int)
          · left
            refine ⟨.inr 1, ?_, bad (fun q => by omega)⟩
            rw [decide_eq_true hvl, Bool.or_true, Bool.true_or, if_pos rfl]
          · rw [decide_eq_false hv0, decide_eq_false hvl, Bool.or_self, Bool.not_false, Bool.true_and] at e4 e6
            rw [decide_eq_false hv0, decide_eq_false hvl, Bool.or_self, Bool.false_or]
            by_cases hi0 : 0 < i
            · have hw : w64 ((i : Int) - 1) = ((i - 1 : Nat) : Int) := by rw [w64_in (by omega) (by omega)]; omega
              have hd := e6 (by simpa using hi0)
              have hb := e4 (by simpa using hi0)
              subst hd
              rw [hw, idx_lt (by omega)] at hb
              have hb' : l.Hide[i - 1]? = some b := by
                rw [List.getElem?_eq_getElem (by omega)]; exact hb
              by_cases hbd : b ≥ d
              · left
                refine ⟨.inr 1, ?_, bad (fun q => ?_)⟩
                · rw [decide_eq_true hbd, decide_eq_true (by omega), Bool.and_self, if_pos rfl]
                · have := q.2.2 (i - 1) b (by omega) hb'; omega
              · right
                refine ⟨hlt, ((i + 1 : Nat) : Int), ?_, rfl, by omega, fun j x hj hxj => ?_⟩
                · rw [decide_eq_false hbd, Bool.and_false, if_neg Bool.false_ne_true, w64_sucN (by omega)]
                · by_cases hji : j = i
                  · subst hji
                    rw [hx] at hxj; cases hxj
                    refine ⟨by omega, by omega, fun k y hk hy => ?_⟩
                    subst hk
                    rw [Nat.add_sub_cancel] at hb'
                    rw [hb'] at hy; cases hy; omega
                  · exact hI j x (by omega) hxj
            · right
              refine ⟨hlt, ((i + 1 : Nat) : Int), ?_, rfl, by omega, fun j x hj hxj => ?_⟩
              · rw [decide_eq_false (show ¬ ((i : Int) > 0) by omega), Bool.false_and, if_neg Bool.false_ne_true, w64_sucN (by omega)]
              · by_cases hji : j = i
                · subst hji
                  rw [hx] at hxj; cases hxj
                  exact ⟨by omega, by omega, fun k y hk hy => by omega⟩
                · exact hI j x (by omega) hxj
      · left
        refine ⟨.inl (), by rw [if_neg (by simpa using hlt)], ?_⟩
        rw [if_pos]
        refine okH_low fun j x hx => ?_
        have hj := (List.getElem?_eq_some_iff.1 hx).1
        exact hI j x (by omega) hx)
  rw [h1, h2]
theorem check24_eq {l : g_api_Log} (h : l.L.length + l.Wait.length ≤ 100000) (hh : l.Hide.length ≤ 100000) : m_ref24_Check l = some (chk l) := by
  unfold m_ref24_Check
  rw [num24_eq, obind_some']
  have hc : (((((!okNum l.Id) || (decide ((l.Key.toNat : Int) < 1))) || (decide ((l.Key.toNat : Int) ≥ 1152921504606845789))) || (decide (l.Delay < 0))) || (decide (l.Delay > 1000))) = !okHd l := by
    unfold okHd
    rw [Bool.eq_iff_iff]
    cases okNum l.Id <;> simp <;> omega
  rw [hc]
  unfold chk
  cases h0 : okHd l with
  | false => rw [Bool.not_false, if_pos rfl, if_neg (by decide)]
  | true =>
    rw [Bool.not_true, if_neg Bool.false_ne_true, if_pos rfl, all24_eq h, obind_some', check24_b2 (by simp; omega), obind_some']
    cases h1 : okL (l.L ++ l.Wait) [] with
    | false => rw [if_neg Bool.false_ne_true, if_neg Bool.false_ne_true]
    | true =>
      rw [if_pos rfl, if_pos rfl]
      dsimp only
      rw [check24_b3 hh, obind_some']
      cases h2 : okH l.Hide (-1) (l.L.length : Int) with
      | false => rw [if_neg Bool.false_ne_true, if_neg Bool.false_ne_true]
      | true =>
        rw [if_pos rfl, if_pos rfl]
        dsimp only
        by_cases h4 : 256 < (l.L ++ l.Wait).length
        · rw [if_pos h4, if_pos (by rw [decide_eq_true_eq]; omega)]
        · rw [if_neg h4, if_neg (by rw [decide_eq_true_eq]; omega)]
end Go.Proofs.YtemiampgjgenhaaGreat
