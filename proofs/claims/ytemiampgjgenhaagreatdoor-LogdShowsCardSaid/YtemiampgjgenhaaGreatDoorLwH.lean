/- The law LogdShows, in plain terms. Conditions: none. -/
import Derived.Test.YtemiampgjgenhaaGreatDoorQi
import Derived.Test.YtemiampgjgenhaaGreatDoorQh
import Derived.Test.YtemiampgjgenhaaGreatDoorPi0
import Derived.Test.YtemiampgjgenhaaGreatDoorQL
import Derived.Test.YtemiampgjgenhaaGreatDoorWkE
set_option linter.unusedSimpArgs false
set_option linter.unusedVariables false
set_option maxHeartbeats 4000000
set_option maxRecDepth 100000
namespace Go.Proofs.YtemiampgjgenhaaGreatDoor
open Go Go.Gw

theorem and64_low (a : Int) : 0 ≤ and64 a 65535 ∧ and64 a 65535 ≤ 65535 := by
  unfold and64
  have h : (BitVec.ofInt 64 a &&& BitVec.ofInt 64 65535).toNat ≤ 65535 := by
    rw [BitVec.toNat_and]
    exact Nat.le_trans Nat.and_le_right (by decide)
  generalize (BitVec.ofInt 64 a &&& BitVec.ofInt 64 65535).toNat = n at *
  rw [w64_in (by omega) (by omega)]
  omega
theorem and64_bit (a : Int) : ∃ v : Bool, and64 a 1 = if v = true then 1 else 0 := by
  unfold and64
  have h : (BitVec.ofInt 64 a &&& BitVec.ofInt 64 1).toNat ≤ 1 := by
    rw [BitVec.toNat_and]
    exact Nat.le_trans Nat.and_le_right (by decide)
  generalize (BitVec.ofInt 64 a &&& BitVec.ofInt 64 1).toNat = n at *
  rw [w64_in (by omega) (by omega)]
  by_cases hn : n = 0
  · exact ⟨false, by rw [hn]; rfl⟩
  · exact ⟨true, by rw [show n = 1 from by omega]; rfl⟩
theorem tmod_lt {x : Int} (h : 0 ≤ x) {f : Nat} (hf : 0 < f) : ∃ n : Nat, Int.tmod x (f : Int) = (n : Int) ∧ n < f := by
  have h1 := Int.tmod_nonneg (f : Int) h
  have h2 := Int.tmod_lt_of_pos x (show (0 : Int) < (f : Int) by omega)
  exact ⟨(Int.tmod x (f : Int)).toNat, by omega, by omega⟩
theorem w_one {n : Nat} (h : n ≤ 1000) : w64 (1 + (n : Int)) = ((n + 1 : Nat) : Int) := by rw [w64_in (by omega) (by omega)]; omega
theorem w_suc2 {n : Nat} (h : n ≤ 1000) : w64 (((n + 1 : Nat) : Int) + 1) = ((n + 1 + 1 : Nat) : Int) := by rw [w64_in (by omega) (by omega)]; omega
theorem firstV_eq {l : g_api_Log} {n : Nat} (hl : l.L.length + l.Wait.length ≤ 100000) (h : chk l = 0) (hn : n ≤ l.L.length) (v : Bool) :
    m_logd_first l (if v = true then 1 else 0) (n : Int) = some ((leavesV v l).take n, 0) := by
  have hll : (leavesV v l).length = l.L.length := lv_len _ _ _ _
  unfold m_logd_first
  rw [leavesV_eq hl h, obind_some']
  dsimp only
  rw [if_neg (by decide), if_neg (by rw [hll]; simp; omega), if_pos (by rw [hll]; omega), Int.toNat_natCast]
theorem proveV_eq {l : g_api_Log} {n i : Nat} (hl : l.L.length + l.Wait.length ≤ 100000) (h : chk l = 0) (hn : n ≤ l.L.length) (h256 : l.L.length ≤ 256) (hi : i < n) (v : Bool) :
    m_logd_Prove l (if v = true then 1 else 0) (i : Int) (n : Int) = some (⟨l.Id, (i : Int), (n : Int), wayR ((leavesV v l).take n) i⟩, 0) := by
  have hll : (leavesV v l).length = l.L.length := lv_len _ _ _ _
  have htl : ((leavesV v l).take n).length = n := by rw [List.length_take]; omega
  unfold m_logd_Prove
  rw [firstV_eq hl h hn, obind_some']
  dsimp only
  rw [if_neg (by decide), prove_eq (by rw [htl]; exact hi) (by rw [htl]; omega), obind_some']
  dsimp only
  rw [if_neg (by decide)]
theorem growV_eq {l : g_api_Log} {n m : Nat} (hl : l.L.length + l.Wait.length ≤ 100000) (h : chk l = 0) (hn : n ≤ l.L.length) (h256 : l.L.length ≤ 256) (hm : m ≤ n) (v : Bool) :
    ∃ ps, m_logd_Grow l (if v = true then 1 else 0) (m : Int) (n : Int) = some (ps, 0) ∧ m_merkle_CheckGrow (m : Int) (n : Int) (rootP ((leavesV v l).take m)) (rootP ((leavesV v l).take n)) ps = some 0 := by
  have hll : (leavesV v l).length = l.L.length := lv_len _ _ _ _
  have htl : ((leavesV v l).take n).length = n := by rw [List.length_take]; omega
  have hg : ∃ ps, m_merkle_Grow ((leavesV v l).take n) (m : Int) = some (ps, 0) := by
    by_cases h0 : m = 0
    · subst h0; exact ⟨_, grow_zero (by rw [htl]; omega)⟩
    · exact ⟨_, grow_eq (by omega) (by rw [htl]; exact hm) (by rw [htl]; omega)⟩
  obtain ⟨ps, hps⟩ := hg
  have hok := grown_ok (by rw [htl]; exact hm) (by rw [htl]; omega) hps
  rw [htl, List.take_take, Nat.min_eq_left hm] at hok
  refine ⟨ps, ?_, hok⟩
  unfold m_logd_Grow
  rw [firstV_eq hl h hn, obind_some']
  dsimp only
  rw [if_neg (by decide), hps, obind_some']
theorem checkV_eq {l : g_api_Log} {n i : Nat} (hn : n ≤ l.L.length) (h256 : l.L.length ≤ 256) (hi : i < n) (v : Bool) :
    ∃ x, (leavesV v l)[i]? = some x ∧ m_merkle_Check x (i : Int) (n : Int) (wayR ((leavesV v l).take n) i) (rootP ((leavesV v l).take n)) = some 0 := by
  have hll : (leavesV v l).length = l.L.length := lv_len _ _ _ _
  have htl : ((leavesV v l).take n).length = n := by rw [List.length_take]; omega
  have hil : i < (leavesV v l).length := by omega
  have hx : ((leavesV v l).take n)[i]? = some (leavesV v l)[i] := by rw [List.getElem?_take, if_pos hi]; simp [hil]
  have hw := way_len n ((leavesV v l).take n) i (by omega) (by omega)
  have hlead := lead_way n ((leavesV v l).take n) i (leavesV v l)[i] (by omega) hx
  have hd := dirs_len i (n - 1) (by omega)
  rw [htl] at hw hlead
  refine ⟨(leavesV v l)[i], by simp [hil], ?_⟩
  rw [rootP_R (by omega), check_eq hi (by omega) _ _ _ (by omega), if_pos hw, if_pos hlead]
theorem shows_true (l : g_api_Log) (view at_ from_ size now : Int) : m_law24_LogdShows l view at_ from_ size now = some true := by
  unfold m_law24_LogdShows
  rw [live24_true, obind_some', Bool.not_true, if_neg Bool.false_ne_true]
  obtain ⟨r, hr, hf⟩ := few24 l []
  rw [hr, obind_some']
  cases r with
  | false => rw [Bool.not_false, if_pos rfl, obind_some', Bool.true_or, Bool.true_or, Bool.true_or, if_pos rfl]
  | true =>
    obtain ⟨f1, f2, f3, f4⟩ := hf rfl
    have hl : l.L.length + l.Wait.length ≤ 100000 := by omega
    rw [Bool.not_true, if_neg Bool.false_ne_true, chkL_eq hl, obind_some', obind_some']
    by_cases hcn : ((((chk l != 0) || ((l.L.length : Int) == 0)) || (decide (now < 0))) || (decide (now > 1099511627776))) = true
    · rw [if_pos hcn]
    · rw [if_neg hcn]
      simp only [Bool.or_eq_true, bne_iff_ne, ne_eq, decide_eq_true_eq, beq_iff_eq, not_or, Decidable.not_not] at hcn
      obtain ⟨⟨⟨hc, h0⟩, h2⟩, h3⟩ := hcn
      have ht : okNum now = true := by unfold okNum; simp; omega
      have h256 : l.L.length ≤ 256 := by omega
      obtain ⟨c0, c1, c2, c3⟩ := chk_zero hc
      obtain ⟨v, hv⟩ := and64_bit view
      obtain ⟨n0, n1, n2⟩ := tmod_lt (and64_low size).1 (show 0 < l.L.length by omega)
      have hle : n0 ≤ 1000 := by omega
      rw [if_pos h0, n1, bnd_def, w_one hle, w_suc2 hle, if_pos (by omega)]
      obtain ⟨m, m1, m2⟩ := tmod_lt (and64_low from_).1 (show 0 < n0 + 1 + 1 by omega)
      obtain ⟨i, i1, i2⟩ := tmod_lt (and64_low at_).1 (show 0 < n0 + 1 by omega)
      rw [m1, bnd_def, if_pos (by omega), i1, bnd_def, hv, publicL_eq hl hc, obind_some', headV_eq hl hc (show n0 + 1 ≤ l.L.length by omega) ht, obind_some', headV_eq hl hc (show m ≤ l.L.length by omega) ht, obind_some', leavesV_eq hl hc, obind_some', proveV_eq hl hc (show n0 + 1 ≤ l.L.length by omega) h256 i2, obind_some']
      obtain ⟨ps, g1, g2⟩ := growV_eq hl hc (show n0 + 1 ≤ l.L.length by omega) h256 (show m ≤ n0 + 1 by omega) v
      obtain ⟨x, x1, x2⟩ := checkV_eq (l := l) (show n0 + 1 ≤ l.L.length by omega) h256 i2 v
      have hll : (leavesV v l).length = l.L.length := lv_len _ _ _ _
      rw [g1, obind_some']
      dsimp only
      rw [hll, if_neg (by simp), checkHead_eq c0 ht ⟨by omega, by omega⟩, obind_some', if_neg (by decide), checkHead_eq c0 ht ⟨by omega, by omega⟩, obind_some', obind_some']
      have e1 : ∀ (q : Int) (z : UInt64 × UInt64), (headOf l q z now).Size = q := fun q z => by simp only [headOf]
      have e2 : ∀ (q : Int) (z : UInt64 × UInt64), (headOf l q z now).Log = l.Id := fun q z => by simp only [headOf]
      have e3 : ∀ (q : Int) (z : UInt64 × UInt64), (headOf l q z now).At = now := fun q z => by simp only [headOf]
      have e4 : ∀ (q : Int) (z : UInt64 × UInt64), (headOf l q z now).Root = z := fun q z => by simp only [headOf]
      rw [e1, e1, e2, e3, e4, e4, bne_self_eq_false, bne_self_eq_false, bne_self_eq_false, bne_self_eq_false]
      simp only [Bool.or_self, Bool.false_eq_true, if_false, beq_self_eq_true, Bool.and_self, bne_self_eq_false]
      rw [idx_of x1, gu_tt, obind_some', gu_tt, x2, obind_some', beq_self_eq_true, Bool.and_self, gu_tt, g2, obind_some']
      rfl
end Go.Proofs.YtemiampgjgenhaaGreatDoor
