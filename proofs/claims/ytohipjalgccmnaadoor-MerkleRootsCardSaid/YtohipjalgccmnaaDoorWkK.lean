/- The walks of some functions, written by program. Conditions: none. -/
import Derived.Test.YtohipjalgccmnaaDoorWkF
import Derived.Test.YtohipjalgccmnaaDoorWkE
set_option maxHeartbeats 20000000
set_option maxRecDepth 100000
set_option linter.unusedVariables false
set_option linter.unusedSimpArgs false
namespace Go.Proofs.YtohipjalgccmnaaDoor
open Go Go.Gw

def m_law08_MerkleRoots (a0 : List (UInt64 × UInt64)) (a1 : List UInt8) : Option Bool :=
  obind (m_law08_live ) fun x1 =>
  if (!x1) = true then
    some false
  else
  if ((decide ((a0.length : Int) > 40)) || (decide ((a1.length : Int) > 300))) = true then
    some x1
  else
  obind (
    if x1 = true then
      obind (m_merkle_Root a0) fun x5 =>
      obind (m_ref08_Root a0) fun x6 =>
      some (eqSum x5 x6)
    else
    some false
  ) fun x4 =>
  obind (
    if x4 = true then
      obind (m_merkle_Leaf a1) fun x10 =>
      obind (m_ref08_Leaf a1) fun x11 =>
      some (eqSum x10 x11)
    else
    some false
  ) fun x9 =>
  some x9

theorem w_law08_MerkleRoots {m : Mem} {As : List Ow} {w : World} {a0 : List (UInt64 × UInt64)} {a0v0 : Value} {a1 : List UInt8} {a1v0 : Value} {r : Bool} (S : St m (As) w) (T1 : PtC m (pt 1 0) (tab_1.map vB)) (a0h0 : SlR m a0v0 a0) (a1h0 : SlR m a1v0 a1) (hm : m_law08_MerkleRoots a0 a1 = some r) :
    CallsR Tryd.prog 3 #[a0v0, a1v0] w fun v w' => ∃ (M : Mem), m ≤ M ∧ St M (As) w' ∧ v = vb r := by
  unfold m_law08_MerkleRoots at hm
  have L0 := Mem.rfl' m
  refine callsR (args := [a0v0, a1v0]) Tryd.func3 rfl Tryd.ntmps3 (Nat.le_of_ble_eq_true rfl) ?_
  refine wpc_seq ?_
  refine wpc_region ?_
  refine s_asv (v := vb false) rfl ?_
  refine wpl_nil ?_
  refine nrm ?_
  refine wpc_seq ?_
  refine wpc_region ?_
  obtain ⟨x1, q1, hm⟩ := obind_some hm
  refine s_call Tryd.call12 (w_law08_live  S T1 q1) rfl ?_
  rintro _ w1 ⟨m1, l1, S1, rfl⟩
  replace a0h0 := a0h0.up l1
  replace a1h0 := a1h0.up l1
  replace T1 := T1.up l1
  replace L0 := Mem.tr L0 l1
  clear S
  replace S1 : St _ (As) _ := S1
  refine s_asv (v := vb x1) rfl ?_
  refine wpl_nil ?_
  refine nrm ?_
  refine wpc_seq ?_
  refine wpc_seq ?_
  refine wpc_region ?_
  refine s_mvv (v := vb x1) rfl ?_
  refine s_not rfl ?_
  refine wpl_nil ?_
  refine nrm ?_
  refine wpc_if (t := (!x1)) rfl (fun hc1 => ?_) (fun hc1 => ?_)
  · replace hm := ifT hc1 hm
    refine wpc_seq ?_
    refine wpc_region ?_
    refine s_asv (v := vb false) rfl ?_
    refine wpl_nil ?_
    refine nrm ?_
    refine wpc_ret ?_
    refine thR ?_
    refine outRw ?_
    intro we hpd
    replace S1 := St.pd S1 hpd
    have e0 := Option.some.inj hm
    subst e0
    exact outR [_] rfl ⟨rfl, trivial⟩ ⟨_, L0, S1, rfl⟩
  replace hm := ifF hc1 hm
  refine wpc_skip ?_
  refine nrm ?_
  refine wpc_seq ?_
  refine wpc_seq ?_
  refine wpc_region ?_
  refine s_mvv (v := a0v0) rfl ?_
  refine s_lenR (xs := a0) rfl a0h0 Tryd.underlying22 ?_
  refine s_gtr (m := (a0.length : Int)) (n := 40) rfl rfl ?_
  refine s_mvv (v := vb (decide ((a0.length : Int) > 40))) rfl ?_
  refine wpl_cut 4 [13, 14, 15, 16] (fun f' w' => w' = w1 ∧ AllAt f' [(16, vb ((decide ((a0.length : Int) > 40)) || (decide ((a1.length : Int) > 300))))]) ?_ ?_
  · rcases bool_tf (decide ((a0.length : Int) > 40)) with hb1 | hb1
    · refine wpl_no (d := 12) rfl rfl (congrArg Value.bool hb1) ?_
      refine wpl_no (d := 12) rfl rfl (congrArg Value.bool hb1) ?_
      refine wpl_no (d := 12) rfl rfl (congrArg Value.bool hb1) ?_
      refine s_pickT (congrArg Value.bool hb1) rfl ?_
      exact wpl_nil (nrm ⟨outP, rfl, congrArg Value.bool (or_t hb1), trivial⟩)
    · refine wpl_yes (d := 12) rfl rfl (congrArg Value.bool hb1) ?_
      refine s_mvv (v := a1v0) rfl ?_
      refine wpl_yes (d := 12) rfl rfl (congrArg Value.bool hb1) ?_
      refine s_lenR (xs := a1) rfl a1h0 Tryd.underlying23 ?_
      refine wpl_yes (d := 12) rfl rfl (congrArg Value.bool hb1) ?_
      refine s_gtr (m := (a1.length : Int)) (n := 300) rfl rfl ?_
      refine s_pickF (congrArg Value.bool hb1) rfl ?_
      exact wpl_nil (nrm ⟨outP, rfl, congrArg Value.bool (or_f hb1), trivial⟩)
  rintro f1 w2 ho ⟨h1, ha⟩
  subst h1
  obtain ⟨u1, rfl⟩ := fr_of (N := 33) ho ha
  refine wpl_nil ?_
  refine nrm ?_
  refine wpc_if (t := ((decide ((a0.length : Int) > 40)) || (decide ((a1.length : Int) > 300)))) rfl (fun hc2 => ?_) (fun hc2 => ?_)
  · replace hm := ifT hc2 hm
    refine wpc_seq ?_
    refine wpc_region ?_
    refine s_mvv (v := vb x1) rfl ?_
    refine s_asv (v := vb x1) rfl ?_
    refine wpl_nil ?_
    refine nrm ?_
    refine wpc_ret ?_
    refine thR ?_
    refine outRw ?_
    intro we hpd
    replace S1 := St.pd S1 hpd
    have e0 := Option.some.inj hm
    subst e0
    exact outR [_] rfl ⟨rfl, trivial⟩ ⟨_, L0, S1, rfl⟩
  replace hm := ifF hc2 hm
  refine wpc_skip ?_
  refine nrm ?_
  refine wpc_seq ?_
  refine wpc_region ?_
  refine s_mvv (v := vb x1) rfl ?_
  refine s_mvv (v := vb x1) rfl ?_
  obtain ⟨x4, q4, hm⟩ := obind_some hm
  have L1 := Mem.rfl' m1
  refine wpl_cut 6 [20, 21, 22, 23, 24, 25] (fun f' w' => ∃ (M1 : Mem), m1 ≤ M1 ∧ St M1 (As) w' ∧ AllAt f' [(25, vb x4)]) ?_ ?_
  · rcases bool_tf x1 with hb2 | hb2
    · replace q4 := ifT hb2 q4
      refine wpl_yes (d := 19) rfl rfl (congrArg Value.bool hb2) ?_
      refine s_mvv (v := a0v0) rfl ?_
      refine wpl_yes (d := 19) rfl rfl (congrArg Value.bool hb2) ?_
      obtain ⟨x5, q5, q4⟩ := obind_some q4
      refine s_call Tryd.call13 (w_merkle_Root (a0 := a0) S1 a0h0 q5) rfl ?_
      rintro _ w5 ⟨m4, l4, S4, rfl⟩
      replace a0h0 := a0h0.up l4
      replace a1h0 := a1h0.up l4
      replace T1 := T1.up l4
      replace L1 := Mem.tr L1 l4
      clear S1
      replace S4 : St _ (As) _ := S4
      refine wpl_yes (d := 19) rfl rfl (congrArg Value.bool hb2) ?_
      refine s_mvv (v := a0v0) rfl ?_
      refine wpl_yes (d := 19) rfl rfl (congrArg Value.bool hb2) ?_
      obtain ⟨x6, q6, q4⟩ := obind_some q4
      refine s_call Tryd.call14 (w_ref08_Root (a0 := a0) S4 a0h0 q6) rfl ?_
      rintro _ w6 ⟨m5, l5, S5, rfl⟩
      replace a0h0 := a0h0.up l5
      replace a1h0 := a1h0.up l5
      replace T1 := T1.up l5
      replace L1 := Mem.tr L1 l5
      clear S4
      replace S5 : St _ (As) _ := S5
      refine wpl_yes (d := 19) rfl rfl (congrArg Value.bool hb2) ?_
      refine s_eqlSum (p := x5) (q := x6) rfl rfl Tryd.underlying27 Tryd.underlying25 Tryd.sizeOf25 Tryd.isAgg25 Tryd.eqGuardType27 ?_
      refine s_pickT (congrArg Value.bool hb2) rfl ?_
      refine wpl_nil (nrm ?_)
      have e0 := Option.some.inj q4
      subst e0
      exact ⟨outP, m5, L1, S5, ⟨rfl, trivial⟩⟩
    replace q4 := ifF hb2 q4
    refine wpl_no (d := 19) rfl rfl (congrArg Value.bool hb2) ?_
    refine wpl_no (d := 19) rfl rfl (congrArg Value.bool hb2) ?_
    refine wpl_no (d := 19) rfl rfl (congrArg Value.bool hb2) ?_
    refine wpl_no (d := 19) rfl rfl (congrArg Value.bool hb2) ?_
    refine wpl_no (d := 19) rfl rfl (congrArg Value.bool hb2) ?_
    refine s_pickF (congrArg Value.bool hb2) rfl ?_
    refine wpl_nil (nrm ?_)
    have e0 := Option.some.inj q4
    subst e0
    exact ⟨outP, m1, L1, S1, ⟨rfl, trivial⟩⟩
  rintro f2 w7 ho ⟨m6, l6, S6, ha⟩
  obtain ⟨u2, rfl⟩ := fr_of (N := 33) ho ha
  replace a1h0 := a1h0.up l6
  replace T1 := T1.up l6
  replace L0 := Mem.tr L0 l6
  clear S1
  refine s_mvv (v := vb x4) rfl ?_
  obtain ⟨x9, q9, hm⟩ := obind_some hm
  have L2 := Mem.rfl' m6
  refine wpl_cut 6 [27, 28, 29, 30, 31, 32] (fun f' w' => ∃ (M2 : Mem), m6 ≤ M2 ∧ St M2 (As) w' ∧ AllAt f' [(32, vb x9)]) ?_ ?_
  · rcases bool_tf x4 with hb3 | hb3
    · replace q9 := ifT hb3 q9
      refine wpl_yes (d := 26) rfl rfl (congrArg Value.bool hb3) ?_
      refine s_mvv (v := a1v0) rfl ?_
      refine wpl_yes (d := 26) rfl rfl (congrArg Value.bool hb3) ?_
      obtain ⟨x10, q10, q9⟩ := obind_some q9
      refine s_call Tryd.call15 (w_merkle_Leaf (a0 := a1) S6 a1h0 q10) rfl ?_
      rintro _ w10 ⟨m9, l9, S9, rfl⟩
      replace a1h0 := a1h0.up l9
      replace T1 := T1.up l9
      replace L2 := Mem.tr L2 l9
      clear S6
      replace S9 : St _ (As) _ := S9
      refine wpl_yes (d := 26) rfl rfl (congrArg Value.bool hb3) ?_
      refine s_mvv (v := a1v0) rfl ?_
      refine wpl_yes (d := 26) rfl rfl (congrArg Value.bool hb3) ?_
      obtain ⟨x11, q11, q9⟩ := obind_some q9
      refine s_call Tryd.call16 (w_ref08_Leaf (a0 := a1) S9 a1h0 q11) rfl ?_
      rintro _ w11 ⟨m10, l10, S10, rfl⟩
      replace a1h0 := a1h0.up l10
      replace T1 := T1.up l10
      replace L2 := Mem.tr L2 l10
      clear S9
      replace S10 : St _ (As) _ := S10
      refine wpl_yes (d := 26) rfl rfl (congrArg Value.bool hb3) ?_
      refine s_eqlSum (p := x10) (q := x11) rfl rfl Tryd.underlying27 Tryd.underlying25 Tryd.sizeOf25 Tryd.isAgg25 Tryd.eqGuardType27 ?_
      refine s_pickT (congrArg Value.bool hb3) rfl ?_
      refine wpl_nil (nrm ?_)
      have e0 := Option.some.inj q9
      subst e0
      exact ⟨outP, m10, L2, S10, ⟨rfl, trivial⟩⟩
    replace q9 := ifF hb3 q9
    refine wpl_no (d := 26) rfl rfl (congrArg Value.bool hb3) ?_
    refine wpl_no (d := 26) rfl rfl (congrArg Value.bool hb3) ?_
    refine wpl_no (d := 26) rfl rfl (congrArg Value.bool hb3) ?_
    refine wpl_no (d := 26) rfl rfl (congrArg Value.bool hb3) ?_
    refine wpl_no (d := 26) rfl rfl (congrArg Value.bool hb3) ?_
    refine s_pickF (congrArg Value.bool hb3) rfl ?_
    refine wpl_nil (nrm ?_)
    have e0 := Option.some.inj q9
    subst e0
    exact ⟨outP, m6, L2, S6, ⟨rfl, trivial⟩⟩
  rintro f3 w12 ho ⟨m11, l11, S11, ha⟩
  obtain ⟨u3, rfl⟩ := fr_of (N := 33) ho ha
  replace T1 := T1.up l11
  replace L0 := Mem.tr L0 l11
  clear S6
  refine s_asv (v := vb x9) rfl ?_
  refine wpl_nil ?_
  refine nrm ?_
  refine wpc_ret ?_
  refine outRw ?_
  intro we hpd
  replace S11 := St.pd S11 hpd
  have e0 := Option.some.inj hm
  subst e0
  exact outR [_] rfl ⟨rfl, trivial⟩ ⟨_, L0, S11, rfl⟩

end Go.Proofs.YtohipjalgccmnaaDoor
