/- Both views of a log: in plain terms. Conditions: a log that may be. -/
import Derived.Test.YtemiampgjgenhaaGreatDoorQk
import Derived.Test.YtemiampgjgenhaaGreatDoorUa
set_option linter.unusedSimpArgs false
set_option linter.unusedVariables false
set_option maxHeartbeats 4000000
set_option maxRecDepth 100000
namespace Go.Proofs.YtemiampgjgenhaaGreatDoor
open Go Go.Gw

/-! ### what a view shows -/
def hid (hd : List Int) (i : Nat) : Bool := match hd with | [] => false | h :: _ => decide (h = (i : Int))
def cur (v h : Bool) (b : List UInt8) : UInt64 × UInt64 := if (v && h) = true then pleaf (0 :: b) else pleaf b
def nxt (hd : List Int) (i : Nat) : List Int := if hid hd i = true then hd.tail else hd
def lv (v : Bool) : List Int → List g_api_Leaf → Nat → List (UInt64 × UInt64)
  | _, [], _ => []
  | hd, x :: xs, i => cur v (hid hd i) x.Body :: lv v (nxt hd i) xs (i + 1)
theorem lv_len (v : Bool) : ∀ (xs : List g_api_Leaf) (hd : List Int) (i : Nat), (lv v hd xs i).length = xs.length := by
  intro xs
  induction xs with
  | nil => intro hd i; rfl
  | cons x xs ih => intro hd i; simp [lv, ih]
theorem lv_false : ∀ (xs : List g_api_Leaf) (hd : List Int) (i : Nat), lv false hd xs i = xs.map fun x => pleaf x.Body := by
  intro xs
  induction xs with
  | nil => intro hd i; rfl
  | cons x xs ih => intro hd i; simp [lv, ih, cur]
theorem leaves_step {l : g_api_Log} {v : Bool} {a1 : Int} (hv : (a1 == 1) = v) {i : Nat} {x : g_api_Leaf} (hx : l.L[i]? = some x) (hb : x.Body.length ≤ 2048) {hd : List Int} {out : List (UInt64 × UInt64)} (ho : out.length ≤ 100000) :
    m_logd_Leaves_b2 l a1 (i : Int) (hd, out) = some (nxt hd i, out ++ [cur v (hid hd i) x.Body]) := by
  have hbl : x.Body.length ≤ 600000 := by omega
  have hnil : ∀ y : UInt64 × UInt64, app 16 out [y] = some (out ++ [y]) := fun y => app_eq 16 (by simp; omega) (by simp; omega)
  unfold m_logd_Leaves_b2
  rw [idx_of hx, obind_some']
  dsimp only
  cases hd with
  | nil =>
    rw [if_neg (by simp), obind_some', if_neg (by decide), obind_some', leaf_eq hbl, obind_some', hnil, obind_some']
    simp [nxt, hid, cur]
  | cons a hd =>
    have e1 : idx (a :: hd) 0 = some a := rfl
    rw [if_pos (by simp), e1, obind_some', obind_some']
    by_cases ha : a = (i : Int)
    · have hc : cut (a :: hd) 1 ((a :: hd).length : Int) = some hd := by
        have := cut_eq (xs := a :: hd) (lo := 1) (hi := (a :: hd).length) (by simp) (by omega)
        rw [show ((1 : Nat) : Int) = 1 from rfl] at this
        rw [this]; simp [List.take_of_length_le]
      rw [if_pos (by simpa using ha), hc, obind_some', hv]
      have hh : hid (a :: hd) i = true := by simp [hid, ha]
      cases v with
      | true =>
        rw [if_pos rfl, concatB_eq (by simp; omega), obind_some', obind_some']
        dsimp only
        have : ([[0], x.Body] : List (List UInt8)).flatten = 0 :: x.Body := by simp
        rw [this, leaf_eq (by simp; omega), obind_some', hnil, obind_some']
        simp [nxt, hh, cur]
      | false =>
        rw [if_neg (by decide), obind_some']
        dsimp only
        rw [leaf_eq hbl, obind_some', hnil, obind_some']
        simp [nxt, hh, cur]
    · rw [if_neg (by simpa using ha), obind_some']
      dsimp only
      have hh : hid (a :: hd) i = false := by simp [hid, ha]
      rw [leaf_eq hbl, obind_some', hnil, obind_some']
      simp [nxt, hh, cur]
theorem leavesV_it {l : g_api_Log} {v : Bool} {a1 : Int} (hv : (a1 == 1) = v) (hb : ∀ x ∈ l.L, x.Body.length ≤ 2048) (hl : l.L.length ≤ 100000) : ∀ (k i : Nat) (hd : List Int) (out : List (UInt64 × UInt64)), i + k = l.L.length → out.length = i →
    ∃ hd', eachN0 (m_logd_Leaves_b2 l a1) k (i : Int) (hd, out) = some (hd', out ++ lv v hd (l.L.drop i) i) := by
  intro k
  induction k with
  | zero =>
    intro i hd out h ho
    have : l.L.drop i = [] := List.drop_eq_nil_of_le (by omega)
    exact ⟨hd, by rw [this]; simp [eachN0, lv]⟩
  | succ k ih =>
    intro i hd out h ho
    have hlt : i < l.L.length := by omega
    have hs := leaves_step (l := l) hv (i := i) (x := l.L[i]) (by simp [hlt]) (hb _ (List.getElem_mem hlt)) (hd := hd) (out := out) (by omega)
    obtain ⟨hd2, h2⟩ := ih (i + 1) (nxt hd i) (out ++ [cur v (hid hd i) l.L[i].Body]) (by omega) (by simp; omega)
    refine ⟨hd2, ?_⟩
    simp only [eachN0, hs, obind_some']
    rw [show (i : Int) + 1 = ((i + 1 : Nat) : Int) from rfl, h2, List.drop_eq_getElem_cons hlt, lv, List.append_assoc]; rfl
def leavesV (v : Bool) (l : g_api_Log) : List (UInt64 × UInt64) := lv v l.Hide l.L 0
theorem leavesV_false (l : g_api_Log) : leavesV false l = leavesOf l := lv_false _ _ _
theorem leavesV_eq {l : g_api_Log} (hl : l.L.length + l.Wait.length ≤ 100000) (h : chk l = 0) (v : Bool) : m_logd_Leaves l (if v = true then 1 else 0) = some (leavesV v l, 0) := by
  obtain ⟨h0, h1, h2, h3⟩ := chk_zero h
  have hv : ((if v = true then (1 : Int) else 0) == 1) = v := by cases v <;> rfl
  obtain ⟨hd, he⟩ := leavesV_it (l := l) hv (fun x hx => okL_body h1 x (List.mem_append_left _ hx)) (by omega) l.L.length 0 l.Hide [] (by omega) rfl
  have he' : eachN0 (m_logd_Leaves_b2 l (if v = true then 1 else 0)) l.L.length 0 (l.Hide, []) = _ := he
  unfold m_logd_Leaves
  rw [chkL_eq hl, obind_some', h, if_neg (by decide), if_neg (by cases v <;> decide), he', obind_some', obind_some']
  simp [leavesV]
theorem headV_eq {l : g_api_Log} {n : Nat} {now : Int} (hl : l.L.length + l.Wait.length ≤ 100000) (h : chk l = 0) (hn : n ≤ l.L.length) (ht : okNum now = true) (v : Bool) :
    m_logd_Head l (if v = true then 1 else 0) (n : Int) now = some (headOf l (n : Int) (rootP ((leavesV v l).take n)) now, 0) := by
  obtain ⟨h0, h1, h2, h3⟩ := chk_zero h
  obtain ⟨k1, k2, k3⟩ := key_of h0
  have hll : (leavesV v l).length = l.L.length := lv_len _ _ _ _
  have h256 : l.L.length ≤ 256 := by simp at h3; omega
  unfold m_logd_Head m_logd_first
  rw [leavesV_eq hl h, obind_some']
  dsimp only
  rw [if_neg (by decide), if_neg (by rw [hll]; simp; omega), if_pos (by rw [hll]; omega), obind_some']
  dsimp only
  rw [if_pos (by decide), number_eq, obind_some', obind_some', ht, if_neg (by decide), obind_some', if_neg (by decide), Int.toNat_natCast, root_eq _ (by rw [List.length_take]; omega), obind_some', ofHead_eq, obind_some', sign_eq k1 k2 (headB_len _), obind_some']; rfl

end Go.Proofs.YtemiampgjgenhaaGreatDoor
