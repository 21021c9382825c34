/- The walks of some functions, written by program. Conditions: none. -/
import Derived.Test.YtohipjalgccmnaaDoorWkF
set_option maxHeartbeats 20000000
set_option maxRecDepth 100000
set_option linter.unusedVariables false
set_option linter.unusedSimpArgs false
namespace Go.Proofs.YtohipjalgccmnaaDoor
open Go Go.Gw

def m_law08_MerkleHalves (a0 : List (UInt64 × UInt64)) (a1 : List (UInt64 × UInt64)) (a2 : Int) : Option Bool :=
  obind (m_law08_live ) fun x1 =>
  if (!x1) = true then
    some false
  else
  if (((((decide (a2 < 0)) || (decide (a2 > 5))) || ((a1.length : Int) == 0)) || (decide ((a1.length : Int) > (shl64 1 ((toU a2).toNat))))) || (decide ((a0.length : Int) < (shl64 1 ((toU a2).toNat))))) = true then
    some x1
  else
  obind (cut a0 0 (shl64 1 ((toU a2).toNat))) fun x2 =>
  obind (app 16 ([] : List (UInt64 × UInt64)) x2) fun x3 =>
  obind (app 16 x3 a1) fun x4 =>
  obind (
    if x1 = true then
      obind (m_merkle_Root x4) fun x10 =>
      obind (m_merkle_Root x2) fun x11 =>
      obind (m_merkle_Root a1) fun x12 =>
      obind (m_hash_Pair x11 x12) fun x13 =>
      some (eqSum x10 x13)
    else
    some false
  ) fun x9 =>
  some x9

theorem w_law08_MerkleHalves {m : Mem} {As : List Ow} {w : World} {a0 : List (UInt64 × UInt64)} {a0v0 : Value} {a1 : List (UInt64 × UInt64)} {a1v0 : Value} {a2 : Int} {r : Bool} (S : St m (As) w) (T1 : PtC m (pt 1 0) (tab_1.map vB)) (a0h0 : SlR m a0v0 a0) (a1h0 : SlR m a1v0 a1) (hm : m_law08_MerkleHalves a0 a1 a2 = some r) :
    CallsR Tryd.prog 10 #[a0v0, a1v0, vI a2] w fun v w' => ∃ (M : Mem), m ≤ M ∧ St M (As) w' ∧ v = vb r := by
  unfold m_law08_MerkleHalves at hm
  have L0 := Mem.rfl' m
  refine callsR (args := [a0v0, a1v0, vI a2]) Tryd.func10 rfl Tryd.ntmps10 (Nat.le_of_ble_eq_true rfl) ?_
  refine wpc_seq ?_
  refine wpc_region ?_
  refine s_asv (v := vb false) rfl ?_
  refine wpl_nil ?_
  refine nrm ?_
  refine wpc_seq ?_
  refine wpc_region ?_
  obtain ⟨x1, q1, hm⟩ := obind_some hm
  refine s_call Tryd.call12 (w_law08_live  S T1 q1) rfl ?_
  rintro _ w1 ⟨m1, l1, S1, rfl⟩
  replace a0h0 := a0h0.up l1
  replace a1h0 := a1h0.up l1
  replace T1 := T1.up l1
  replace L0 := Mem.tr L0 l1
  clear S
  replace S1 : St _ (As) _ := S1
  refine s_asv (v := vb x1) rfl ?_
  refine wpl_nil ?_
  refine nrm ?_
  refine wpc_seq ?_
  refine wpc_seq ?_
  refine wpc_region ?_
  refine s_mvv (v := vb x1) rfl ?_
  refine s_not rfl ?_
  refine wpl_nil ?_
  refine nrm ?_
  refine wpc_if (t := (!x1)) rfl (fun hc1 => ?_) (fun hc1 => ?_)
  · replace hm := ifT hc1 hm
    refine wpc_seq ?_
    refine wpc_region ?_
    refine s_asv (v := vb false) rfl ?_
    refine wpl_nil ?_
    refine nrm ?_
    refine wpc_ret ?_
    refine thR ?_
    refine outRw ?_
    intro we hpd
    replace S1 := St.pd S1 hpd
    have e0 := Option.some.inj hm
    subst e0
    exact outR [_] rfl ⟨rfl, trivial⟩ ⟨_, L0, S1, rfl⟩
  replace hm := ifF hc1 hm
  refine wpc_skip ?_
  refine nrm ?_
  refine wpc_seq ?_
  refine wpc_seq ?_
  refine wpc_region ?_
  refine s_mvv (v := vI a2) rfl ?_
  refine s_lss (m := a2) (n := 0) rfl rfl ?_
  refine s_mvv (v := vb (decide (a2 < 0))) rfl ?_
  refine wpl_cut 3 [16, 17, 18] (fun f' w' => w' = w1 ∧ AllAt f' [(18, vb ((decide (a2 < 0)) || (decide (a2 > 5))))]) ?_ ?_
  · rcases bool_tf (decide (a2 < 0)) with hb1 | hb1
    · refine wpl_no (d := 15) rfl rfl (congrArg Value.bool hb1) ?_
      refine wpl_no (d := 15) rfl rfl (congrArg Value.bool hb1) ?_
      refine s_pickT (congrArg Value.bool hb1) rfl ?_
      exact wpl_nil (nrm ⟨outP, rfl, congrArg Value.bool (or_t hb1), trivial⟩)
    · refine wpl_yes (d := 15) rfl rfl (congrArg Value.bool hb1) ?_
      refine s_mvv (v := vI a2) rfl ?_
      refine wpl_yes (d := 15) rfl rfl (congrArg Value.bool hb1) ?_
      refine s_gtr (m := a2) (n := 5) rfl rfl ?_
      refine s_pickF (congrArg Value.bool hb1) rfl ?_
      exact wpl_nil (nrm ⟨outP, rfl, congrArg Value.bool (or_f hb1), trivial⟩)
  rintro f1 w2 ho ⟨h1, ha⟩
  subst h1
  obtain ⟨u1, rfl⟩ := fr_of (N := 62) ho ha
  refine s_mvv (v := vb ((decide (a2 < 0)) || (decide (a2 > 5)))) rfl ?_
  refine wpl_cut 4 [20, 21, 22, 23] (fun f' w' => w' = w2 ∧ AllAt f' [(23, vb (((decide (a2 < 0)) || (decide (a2 > 5))) || ((a1.length : Int) == 0)))]) ?_ ?_
  · rcases bool_tf ((decide (a2 < 0)) || (decide (a2 > 5))) with hb2 | hb2
    · refine wpl_no (d := 19) rfl rfl (congrArg Value.bool hb2) ?_
      refine wpl_no (d := 19) rfl rfl (congrArg Value.bool hb2) ?_
      refine wpl_no (d := 19) rfl rfl (congrArg Value.bool hb2) ?_
      refine s_pickT (congrArg Value.bool hb2) rfl ?_
      exact wpl_nil (nrm ⟨outP, rfl, congrArg Value.bool (or_t hb2), trivial⟩)
    · refine wpl_yes (d := 19) rfl rfl (congrArg Value.bool hb2) ?_
      refine s_mvv (v := a1v0) rfl ?_
      refine wpl_yes (d := 19) rfl rfl (congrArg Value.bool hb2) ?_
      refine s_lenR (xs := a1) rfl a1h0 Tryd.underlying22 ?_
      refine wpl_yes (d := 19) rfl rfl (congrArg Value.bool hb2) ?_
      refine s_eql (m := (a1.length : Int)) (n := 0) rfl rfl ?_
      refine s_pickF (congrArg Value.bool hb2) rfl ?_
      exact wpl_nil (nrm ⟨outP, rfl, congrArg Value.bool (or_f hb2), trivial⟩)
  rintro f2 w3 ho ⟨h2, ha⟩
  subst h2
  obtain ⟨u2, rfl⟩ := fr_of (N := 62) ho ha
  refine s_mvv (v := vb (((decide (a2 < 0)) || (decide (a2 > 5))) || ((a1.length : Int) == 0))) rfl ?_
  refine wpl_cut 7 [25, 26, 27, 28, 29, 30, 31] (fun f' w' => w' = w3 ∧ AllAt f' [(31, vb ((((decide (a2 < 0)) || (decide (a2 > 5))) || ((a1.length : Int) == 0)) || (decide ((a1.length : Int) > (shl64 1 ((toU a2).toNat))))))]) ?_ ?_
  · rcases bool_tf (((decide (a2 < 0)) || (decide (a2 > 5))) || ((a1.length : Int) == 0)) with hb3 | hb3
    · refine wpl_no (d := 24) rfl rfl (congrArg Value.bool hb3) ?_
      refine wpl_no (d := 24) rfl rfl (congrArg Value.bool hb3) ?_
      refine wpl_no (d := 24) rfl rfl (congrArg Value.bool hb3) ?_
      refine wpl_no (d := 24) rfl rfl (congrArg Value.bool hb3) ?_
      refine wpl_no (d := 24) rfl rfl (congrArg Value.bool hb3) ?_
      refine wpl_no (d := 24) rfl rfl (congrArg Value.bool hb3) ?_
      refine s_pickT (congrArg Value.bool hb3) rfl ?_
      exact wpl_nil (nrm ⟨outP, rfl, congrArg Value.bool (or_t hb3), trivial⟩)
    · refine wpl_yes (d := 24) rfl rfl (congrArg Value.bool hb3) ?_
      refine s_mvv (v := a1v0) rfl ?_
      refine wpl_yes (d := 24) rfl rfl (congrArg Value.bool hb3) ?_
      refine s_lenR (xs := a1) rfl a1h0 Tryd.underlying22 ?_
      refine wpl_yes (d := 24) rfl rfl (congrArg Value.bool hb3) ?_
      refine s_mvv (v := vI a2) rfl ?_
      refine wpl_yes (d := 24) rfl rfl (congrArg Value.bool hb3) ?_
      refine s_convU rfl Tryd.underlying3 Tryd.underlying45 ?_
      refine wpl_yes (d := 24) rfl rfl (congrArg Value.bool hb3) ?_
      refine s_shlI (m := 1) (n := ((toU a2).toNat : Int)) rfl rfl (by omega) ?_
      refine wpl_yes (d := 24) rfl rfl (congrArg Value.bool hb3) ?_
      refine s_gtr (m := (a1.length : Int)) (n := (shl64 1 ((toU a2).toNat))) rfl rfl ?_
      refine s_pickF (congrArg Value.bool hb3) rfl ?_
      exact wpl_nil (nrm ⟨outP, rfl, congrArg Value.bool (or_f hb3), trivial⟩)
  rintro f3 w4 ho ⟨h3, ha⟩
  subst h3
  obtain ⟨u3, rfl⟩ := fr_of (N := 62) ho ha
  refine s_mvv (v := vb ((((decide (a2 < 0)) || (decide (a2 > 5))) || ((a1.length : Int) == 0)) || (decide ((a1.length : Int) > (shl64 1 ((toU a2).toNat)))))) rfl ?_
  refine wpl_cut 7 [33, 34, 35, 36, 37, 38, 39] (fun f' w' => w' = w4 ∧ AllAt f' [(39, vb (((((decide (a2 < 0)) || (decide (a2 > 5))) || ((a1.length : Int) == 0)) || (decide ((a1.length : Int) > (shl64 1 ((toU a2).toNat))))) || (decide ((a0.length : Int) < (shl64 1 ((toU a2).toNat))))))]) ?_ ?_
  · rcases bool_tf ((((decide (a2 < 0)) || (decide (a2 > 5))) || ((a1.length : Int) == 0)) || (decide ((a1.length : Int) > (shl64 1 ((toU a2).toNat))))) with hb4 | hb4
    · refine wpl_no (d := 32) rfl rfl (congrArg Value.bool hb4) ?_
      refine wpl_no (d := 32) rfl rfl (congrArg Value.bool hb4) ?_
      refine wpl_no (d := 32) rfl rfl (congrArg Value.bool hb4) ?_
      refine wpl_no (d := 32) rfl rfl (congrArg Value.bool hb4) ?_
      refine wpl_no (d := 32) rfl rfl (congrArg Value.bool hb4) ?_
      refine wpl_no (d := 32) rfl rfl (congrArg Value.bool hb4) ?_
      refine s_pickT (congrArg Value.bool hb4) rfl ?_
      exact wpl_nil (nrm ⟨outP, rfl, congrArg Value.bool (or_t hb4), trivial⟩)
    · refine wpl_yes (d := 32) rfl rfl (congrArg Value.bool hb4) ?_
      refine s_mvv (v := a0v0) rfl ?_
      refine wpl_yes (d := 32) rfl rfl (congrArg Value.bool hb4) ?_
      refine s_lenR (xs := a0) rfl a0h0 Tryd.underlying22 ?_
      refine wpl_yes (d := 32) rfl rfl (congrArg Value.bool hb4) ?_
      refine s_mvv (v := vI a2) rfl ?_
      refine wpl_yes (d := 32) rfl rfl (congrArg Value.bool hb4) ?_
      refine s_convU rfl Tryd.underlying3 Tryd.underlying45 ?_
      refine wpl_yes (d := 32) rfl rfl (congrArg Value.bool hb4) ?_
      refine s_shlI (m := 1) (n := ((toU a2).toNat : Int)) rfl rfl (by omega) ?_
      refine wpl_yes (d := 32) rfl rfl (congrArg Value.bool hb4) ?_
      refine s_lss (m := (a0.length : Int)) (n := (shl64 1 ((toU a2).toNat))) rfl rfl ?_
      refine s_pickF (congrArg Value.bool hb4) rfl ?_
      exact wpl_nil (nrm ⟨outP, rfl, congrArg Value.bool (or_f hb4), trivial⟩)
  rintro f4 w5 ho ⟨h4, ha⟩
  subst h4
  obtain ⟨u4, rfl⟩ := fr_of (N := 62) ho ha
  refine wpl_nil ?_
  refine nrm ?_
  refine wpc_if (t := (((((decide (a2 < 0)) || (decide (a2 > 5))) || ((a1.length : Int) == 0)) || (decide ((a1.length : Int) > (shl64 1 ((toU a2).toNat))))) || (decide ((a0.length : Int) < (shl64 1 ((toU a2).toNat)))))) rfl (fun hc2 => ?_) (fun hc2 => ?_)
  · replace hm := ifT hc2 hm
    refine wpc_seq ?_
    refine wpc_region ?_
    refine s_mvv (v := vb x1) rfl ?_
    refine s_asv (v := vb x1) rfl ?_
    refine wpl_nil ?_
    refine nrm ?_
    refine wpc_ret ?_
    refine thR ?_
    refine outRw ?_
    intro we hpd
    replace S1 := St.pd S1 hpd
    have e0 := Option.some.inj hm
    subst e0
    exact outR [_] rfl ⟨rfl, trivial⟩ ⟨_, L0, S1, rfl⟩
  replace hm := ifF hc2 hm
  refine wpc_skip ?_
  refine nrm ?_
  refine wpc_seq ?_
  refine wpc_region ?_
  refine s_mvv (v := a0v0) rfl ?_
  refine s_mvv (v := vI a2) rfl ?_
  refine s_convU rfl Tryd.underlying3 Tryd.underlying45 ?_
  refine s_shlI (m := 1) (n := ((toU a2).toNat : Int)) rfl rfl (by omega) ?_
  obtain ⟨x2, q2, hm⟩ := obind_some hm
  refine s_cut (ys := x2) (l := 0) (h := (shl64 1 ((toU a2).toNat))) rfl a0h0 Tryd.underlying22 Tryd.sizeOf27 (.inl ⟨rfl, rfl⟩) (.inr ⟨_, rfl⟩) (.inl rfl) q2 ?_
  intro v1 h5
  refine s_asv (v := v1) rfl ?_
  refine wpl_nil ?_
  refine nrm ?_
  refine wpc_seq ?_
  refine wpc_region ?_
  refine s_litOC (parts := []) (vs := []) (cls := []) (n := 0) (sz := 2) S1 Tryd.underlying22 Tryd.sizeOf27 Tryd.zeroValue27 rfl trivial rfl rfl (by decide) (by decide) ?_
  intro v2 w6 S2
  have h6 : RepL m1 [] ([] : List (UInt64 × UInt64)) := RepL.nil
  replace S2 : St _ ((row 2 v2 [] ([] : List (UInt64 × UInt64)).length) :: As) _ := S2
  clear S1
  refine s_mvv (v := v1) rfl ?_
  obtain ⟨x3, q3, hm⟩ := obind_some hm
  refine s_app (i := 0) (zs := x3) (bytes := 16) (ti := Tryd.t27) S2 rfl rfl h6 rfl rfl h5 q3 Tryd.underlying22 Tryd.type27 rfl rfl rfl rfl ?_
  intro v3 c1 w7 S3 h7
  replace S3 : St _ ((row 2 v3 c1 x3.length) :: As) _ := S3
  clear S2
  refine s_mvv (v := a1v0) rfl ?_
  obtain ⟨x4, q4, hm⟩ := obind_some hm
  refine s_app (i := 0) (zs := x4) (bytes := 16) (ti := Tryd.t27) S3 rfl rfl h7 rfl rfl a1h0 q4 Tryd.underlying22 Tryd.type27 rfl rfl rfl rfl ?_
  intro v4 c2 w8 S4 h8
  replace S4 : St _ ((row 2 v4 c2 x4.length) :: As) _ := S4
  clear S3
  refine s_asv (v := v4) rfl ?_
  refine wpl_nil ?_
  refine nrm ?_
  refine wpc_seq ?_
  refine wpc_region ?_
  refine s_mvv (v := vb x1) rfl ?_
  refine s_mvv (v := vb x1) rfl ?_
  obtain ⟨x9, q9, hm⟩ := obind_some hm
  have L1 := Mem.rfl' m1
  refine wpl_cut 9 [53, 54, 55, 56, 57, 58, 59, 60, 61] (fun f' w' => ∃ (M1 : Mem), m1 ≤ M1 ∧ St M1 (As) w' ∧ AllAt f' [(61, vb x9)]) ?_ ?_
  · rcases bool_tf x1 with hb5 | hb5
    · replace q9 := ifT hb5 q9
      refine wpl_yes (d := 52) rfl rfl (congrArg Value.bool hb5) ?_
      refine s_mvv (v := v4) rfl ?_
      refine wpl_yes (d := 52) rfl rfl (congrArg Value.bool hb5) ?_
      obtain ⟨m7, l7, h10, S10⟩ := St.rowKeepT (i := 0) S4 rfl h8 rfl
      replace a1h0 := a1h0.up l7
      replace h5 := h5.up l7
      replace T1 := T1.up l7
      replace L1 := Mem.tr L1 l7
      clear S4
      obtain ⟨x10, q10, q9⟩ := obind_some q9
      refine s_call Tryd.call13 (w_merkle_Root (a0 := x4) S10 h10 q10) rfl ?_
      rintro _ w13 ⟨m8, l8, S11, rfl⟩
      replace a1h0 := a1h0.up l8
      replace h5 := h5.up l8
      replace h10 := h10.up l8
      replace T1 := T1.up l8
      replace L1 := Mem.tr L1 l8
      clear S10
      replace S11 : St _ (As) _ := S11
      refine wpl_yes (d := 52) rfl rfl (congrArg Value.bool hb5) ?_
      refine s_mvv (v := v1) rfl ?_
      refine wpl_yes (d := 52) rfl rfl (congrArg Value.bool hb5) ?_
      obtain ⟨x11, q11, q9⟩ := obind_some q9
      refine s_call Tryd.call13 (w_merkle_Root (a0 := x2) S11 h5 q11) rfl ?_
      rintro _ w14 ⟨m9, l9, S12, rfl⟩
      replace a1h0 := a1h0.up l9
      replace h5 := h5.up l9
      replace h10 := h10.up l9
      replace T1 := T1.up l9
      replace L1 := Mem.tr L1 l9
      clear S11
      replace S12 : St _ (As) _ := S12
      refine wpl_yes (d := 52) rfl rfl (congrArg Value.bool hb5) ?_
      refine s_mvv (v := a1v0) rfl ?_
      refine wpl_yes (d := 52) rfl rfl (congrArg Value.bool hb5) ?_
      obtain ⟨x12, q12, q9⟩ := obind_some q9
      refine s_call Tryd.call13 (w_merkle_Root (a0 := a1) S12 a1h0 q12) rfl ?_
      rintro _ w15 ⟨m10, l10, S13, rfl⟩
      replace a1h0 := a1h0.up l10
      replace h5 := h5.up l10
      replace h10 := h10.up l10
      replace T1 := T1.up l10
      replace L1 := Mem.tr L1 l10
      clear S12
      replace S13 : St _ (As) _ := S13
      refine wpl_yes (d := 52) rfl rfl (congrArg Value.bool hb5) ?_
      obtain ⟨x13, q13, q9⟩ := obind_some q9
      refine s_call Tryd.call29 (w_hash_Pair (a0 := x11) (a1 := x12) S13  q13) rfl ?_
      rintro _ w16 ⟨m11, l11, S14, rfl⟩
      replace a1h0 := a1h0.up l11
      replace h5 := h5.up l11
      replace h10 := h10.up l11
      replace T1 := T1.up l11
      replace L1 := Mem.tr L1 l11
      clear S13
      replace S14 : St _ (As) _ := S14
      refine wpl_yes (d := 52) rfl rfl (congrArg Value.bool hb5) ?_
      refine s_eqlSum (p := x10) (q := x13) rfl rfl Tryd.underlying27 Tryd.underlying25 Tryd.sizeOf25 Tryd.isAgg25 Tryd.eqGuardType27 ?_
      refine s_pickT (congrArg Value.bool hb5) rfl ?_
      refine wpl_nil (nrm ?_)
      have e0 := Option.some.inj q9
      subst e0
      exact ⟨outP, m11, L1, S14, ⟨rfl, trivial⟩⟩
    replace q9 := ifF hb5 q9
    refine wpl_no (d := 52) rfl rfl (congrArg Value.bool hb5) ?_
    refine wpl_no (d := 52) rfl rfl (congrArg Value.bool hb5) ?_
    refine wpl_no (d := 52) rfl rfl (congrArg Value.bool hb5) ?_
    refine wpl_no (d := 52) rfl rfl (congrArg Value.bool hb5) ?_
    refine wpl_no (d := 52) rfl rfl (congrArg Value.bool hb5) ?_
    refine wpl_no (d := 52) rfl rfl (congrArg Value.bool hb5) ?_
    refine wpl_no (d := 52) rfl rfl (congrArg Value.bool hb5) ?_
    refine wpl_no (d := 52) rfl rfl (congrArg Value.bool hb5) ?_
    refine s_pickF (congrArg Value.bool hb5) rfl ?_
    refine wpl_nil (nrm ?_)
    obtain ⟨m12, l12, S15⟩ := St.drop S4 0
    replace a1h0 := a1h0.up l12
    replace h5 := h5.up l12
    replace h8 := RepL.up l12 h8
    replace T1 := T1.up l12
    replace L1 := Mem.tr L1 l12
    clear S4
    replace S15 : St _ (As) _ := S15
    have e0 := Option.some.inj q9
    subst e0
    exact ⟨outP, m12, L1, S15, ⟨rfl, trivial⟩⟩
  rintro f5 w17 ho ⟨m13, l13, S16, ha⟩
  obtain ⟨u5, rfl⟩ := fr_of (N := 62) ho ha
  replace T1 := T1.up l13
  replace L0 := Mem.tr L0 l13
  clear S4
  refine s_asv (v := vb x9) rfl ?_
  refine wpl_nil ?_
  refine nrm ?_
  refine wpc_ret ?_
  refine outRw ?_
  intro we hpd
  replace S16 := St.pd S16 hpd
  have e0 := Option.some.inj hm
  subst e0
  exact outR [_] rfl ⟨rfl, trivial⟩ ⟨_, L0, S16, rfl⟩

def m_law08_MerkleTold (a0 : UInt64 × UInt64) (a1 : Int) (a2 : Int) (a3 : List (UInt64 × UInt64)) (a4 : UInt64 × UInt64) (a5 : UInt64 × UInt64) : Option Bool :=
  obind (m_law08_live ) fun x1 =>
  if (!x1) = true then
    some false
  else
  if (decide ((a3.length : Int) > 40)) = true then
    some x1
  else
  obind (m_merkle_Check a0 a1 a2 a3 a4) fun x2 =>
  obind (m_merkle_Check a0 a1 a2 a3 a5) fun x3 =>
  if (x2 == 0) = true then
    obind (
      if (x1 && ((x3 == 0) == (eqSum a5 a4))) = true then
        if (x3 == 0) = true then
          some true
        else
        some (x3 == 71)
      else
      some false
    ) fun x4 =>
    some x4
  else
  obind (
    if x1 = true then
      if (x2 == 71) = true then
        some true
      else
      some (x2 == x3)
    else
    some false
  ) fun x5 =>
  obind (
    if x5 = true then
      if (x2 != 1) = true then
        if true = true then
          some true
        else
        if (decide (a1 ≥ a2)) = true then
          some true
        else
        some (decide (a2 > 256))
      else
      if (decide (a1 < 0)) = true then
        if true = true then
          some true
        else
        some (decide (a2 > 256))
      else
      if (decide (a1 ≥ a2)) = true then
        some true
      else
      some (decide (a2 > 256))
    else
    some false
  ) fun x6 =>
  some x6

theorem w_law08_MerkleTold {m : Mem} {As : List Ow} {w : World} {a0 : UInt64 × UInt64} {a1 : Int} {a2 : Int} {a3 : List (UInt64 × UInt64)} {a3v0 : Value} {a4 : UInt64 × UInt64} {a5 : UInt64 × UInt64} {r : Bool} (S : St m (As) w) (T1 : PtC m (pt 1 0) (tab_1.map vB)) (a3h0 : SlR m a3v0 a3) (hm : m_law08_MerkleTold a0 a1 a2 a3 a4 a5 = some r) :
    CallsR Tryd.prog 11 #[.agg #[vU a0.1, vU a0.2], vI a1, vI a2, a3v0, .agg #[vU a4.1, vU a4.2], .agg #[vU a5.1, vU a5.2]] w fun v w' => ∃ (M : Mem), m ≤ M ∧ St M (As) w' ∧ v = vb r := by
  unfold m_law08_MerkleTold at hm
  have L0 := Mem.rfl' m
  refine callsR (args := [.agg #[vU a0.1, vU a0.2], vI a1, vI a2, a3v0, .agg #[vU a4.1, vU a4.2], .agg #[vU a5.1, vU a5.2]]) Tryd.func11 rfl Tryd.ntmps11 (Nat.le_of_ble_eq_true rfl) ?_
  refine wpc_seq ?_
  refine wpc_region ?_
  refine s_box S rfl ?_
  intro b1 w1 S1
  replace S1 : St _ ((bx b1 [vU a0.1, vU a0.2] 27) :: As) _ := S1
  clear S
  refine s_box S1 rfl ?_
  intro b2 w2 S2
  replace S2 : St _ ((bx b2 [vU a4.1, vU a4.2] 27) :: (bx b1 [vU a0.1, vU a0.2] 27) :: As) _ := S2
  clear S1
  refine s_box S2 rfl ?_
  intro b3 w3 S3
  replace S3 : St _ ((bx b3 [vU a5.1, vU a5.2] 27) :: (bx b2 [vU a4.1, vU a4.2] 27) :: (bx b1 [vU a0.1, vU a0.2] 27) :: As) _ := S3
  clear S2
  refine s_asv (v := vb false) rfl ?_
  refine wpl_nil ?_
  refine nrm ?_
  refine wpc_seq ?_
  refine wpc_region ?_
  obtain ⟨x1, q1, hm⟩ := obind_some hm
  refine s_call Tryd.call12 (w_law08_live  S3 T1 q1) rfl ?_
  rintro _ w4 ⟨m1, l1, S4, rfl⟩
  replace a3h0 := a3h0.up l1
  replace T1 := T1.up l1
  replace L0 := Mem.tr L0 l1
  clear S3
  replace S4 : St _ ((bx b3 [vU a5.1, vU a5.2] 27) :: (bx b2 [vU a4.1, vU a4.2] 27) :: (bx b1 [vU a0.1, vU a0.2] 27) :: As) _ := S4
  refine s_asv (v := vb x1) rfl ?_
  refine wpl_nil ?_
  refine nrm ?_
  refine wpc_seq ?_
  refine wpc_seq ?_
  refine wpc_region ?_
  refine s_mvv (v := vb x1) rfl ?_
  refine s_not rfl ?_
  refine wpl_nil ?_
  refine nrm ?_
  refine wpc_if (t := (!x1)) rfl (fun hc1 => ?_) (fun hc1 => ?_)
  · replace hm := ifT hc1 hm
    refine wpc_seq ?_
    refine wpc_region ?_
    refine s_asv (v := vb false) rfl ?_
    refine wpl_nil ?_
    refine nrm ?_
    refine wpc_ret ?_
    refine thR ?_
    refine outRw ?_
    intro we hpd
    replace S4 := St.pd S4 hpd
    obtain ⟨m2, l2, S5⟩ := St.drop S4 0
    replace T1 := T1.up l2
    replace L0 := Mem.tr L0 l2
    clear S4
    replace S5 : St _ ((bx b2 [vU a4.1, vU a4.2] 27) :: (bx b1 [vU a0.1, vU a0.2] 27) :: As) _ := S5
    obtain ⟨m3, l3, S6⟩ := St.drop S5 0
    replace T1 := T1.up l3
    replace L0 := Mem.tr L0 l3
    clear S5
    replace S6 : St _ ((bx b1 [vU a0.1, vU a0.2] 27) :: As) _ := S6
    obtain ⟨m4, l4, S7⟩ := St.drop S6 0
    replace T1 := T1.up l4
    replace L0 := Mem.tr L0 l4
    clear S6
    replace S7 : St _ (As) _ := S7
    have e0 := Option.some.inj hm
    subst e0
    exact outR [_] rfl ⟨rfl, trivial⟩ ⟨_, L0, S7, rfl⟩
  replace hm := ifF hc1 hm
  refine wpc_skip ?_
  refine nrm ?_
  refine wpc_seq ?_
  refine wpc_seq ?_
  refine wpc_region ?_
  refine s_mvv (v := a3v0) rfl ?_
  refine s_lenR (xs := a3) rfl a3h0 Tryd.underlying22 ?_
  refine s_gtr (m := (a3.length : Int)) (n := 40) rfl rfl ?_
  refine wpl_nil ?_
  refine nrm ?_
  refine wpc_if (t := (decide ((a3.length : Int) > 40))) rfl (fun hc2 => ?_) (fun hc2 => ?_)
  · replace hm := ifT hc2 hm
    refine wpc_seq ?_
    refine wpc_region ?_
    refine s_mvv (v := vb x1) rfl ?_
    refine s_asv (v := vb x1) rfl ?_
    refine wpl_nil ?_
    refine nrm ?_
    refine wpc_ret ?_
    refine thR ?_
    refine outRw ?_
    intro we hpd
    replace S4 := St.pd S4 hpd
    obtain ⟨m5, l5, S8⟩ := St.drop S4 0
    replace T1 := T1.up l5
    replace L0 := Mem.tr L0 l5
    clear S4
    replace S8 : St _ ((bx b2 [vU a4.1, vU a4.2] 27) :: (bx b1 [vU a0.1, vU a0.2] 27) :: As) _ := S8
    obtain ⟨m6, l6, S9⟩ := St.drop S8 0
    replace T1 := T1.up l6
    replace L0 := Mem.tr L0 l6
    clear S8
    replace S9 : St _ ((bx b1 [vU a0.1, vU a0.2] 27) :: As) _ := S9
    obtain ⟨m7, l7, S10⟩ := St.drop S9 0
    replace T1 := T1.up l7
    replace L0 := Mem.tr L0 l7
    clear S9
    replace S10 : St _ (As) _ := S10
    have e0 := Option.some.inj hm
    subst e0
    exact outR [_] rfl ⟨rfl, trivial⟩ ⟨_, L0, S10, rfl⟩
  replace hm := ifF hc2 hm
  refine wpc_skip ?_
  refine nrm ?_
  refine wpc_seq ?_
  refine wpc_region ?_
  refine s_ld (i := 2) (cs := [vU a0.1, vU a0.2]) S4 rfl rfl Tryd.isAgg27 Tryd.sizeOf27 rfl (fun h => by cases h) ?_
  refine s_mvv (v := vI a1) rfl ?_
  refine s_mvv (v := vI a2) rfl ?_
  refine s_mvv (v := a3v0) rfl ?_
  refine s_ld (i := 1) (cs := [vU a4.1, vU a4.2]) S4 rfl rfl Tryd.isAgg27 Tryd.sizeOf27 rfl (fun h => by cases h) ?_
  obtain ⟨x2, q2, hm⟩ := obind_some hm
  refine s_call Tryd.call21 (w_merkle_Check (a0 := a0) (a1 := a1) (a2 := a2) (a3 := a3) (a4 := a4) S4 a3h0 q2) rfl ?_
  rintro _ w5 ⟨m8, l8, S11, rfl⟩
  replace a3h0 := a3h0.up l8
  replace T1 := T1.up l8
  replace L0 := Mem.tr L0 l8
  clear S4
  replace S11 : St _ ((bx b3 [vU a5.1, vU a5.2] 27) :: (bx b2 [vU a4.1, vU a4.2] 27) :: (bx b1 [vU a0.1, vU a0.2] 27) :: As) _ := S11
  refine s_asv (v := vI x2) rfl ?_
  refine wpl_nil ?_
  refine nrm ?_
  refine wpc_seq ?_
  refine wpc_region ?_
  refine s_ld (i := 2) (cs := [vU a0.1, vU a0.2]) S11 rfl rfl Tryd.isAgg27 Tryd.sizeOf27 rfl (fun h => by cases h) ?_
  refine s_mvv (v := vI a1) rfl ?_
  refine s_mvv (v := vI a2) rfl ?_
  refine s_mvv (v := a3v0) rfl ?_
  refine s_ld (i := 0) (cs := [vU a5.1, vU a5.2]) S11 rfl rfl Tryd.isAgg27 Tryd.sizeOf27 rfl (fun h => by cases h) ?_
  obtain ⟨x3, q3, hm⟩ := obind_some hm
  refine s_call Tryd.call21 (w_merkle_Check (a0 := a0) (a1 := a1) (a2 := a2) (a3 := a3) (a4 := a5) S11 a3h0 q3) rfl ?_
  rintro _ w6 ⟨m9, l9, S12, rfl⟩
  replace a3h0 := a3h0.up l9
  replace T1 := T1.up l9
  replace L0 := Mem.tr L0 l9
  clear S11
  replace S12 : St _ ((bx b3 [vU a5.1, vU a5.2] 27) :: (bx b2 [vU a4.1, vU a4.2] 27) :: (bx b1 [vU a0.1, vU a0.2] 27) :: As) _ := S12
  refine s_asv (v := vI x3) rfl ?_
  refine wpl_nil ?_
  refine nrm ?_
  refine wpc_seq ?_
  refine wpc_seq ?_
  refine wpc_region ?_
  refine s_mvv (v := vI x2) rfl ?_
  refine s_eql (m := x2) (n := 0) rfl rfl ?_
  refine wpl_nil ?_
  refine nrm ?_
  refine wpc_if (t := (x2 == 0)) rfl (fun hc3 => ?_) (fun hc3 => ?_)
  · replace hm := ifT hc3 hm
    refine wpc_seq ?_
    refine wpc_region ?_
    refine s_mvv (v := vb x1) rfl ?_
    refine s_mvv (v := vb x1) rfl ?_
    refine wpl_cut 7 [39, 40, 41, 42, 43, 44, 45] (fun f' w' => w' = w6 ∧ AllAt f' [(45, vb (x1 && ((x3 == 0) == (eqSum a5 a4))))]) ?_ ?_
    · rcases bool_tf x1 with hb1 | hb1
      · refine wpl_yes (d := 38) rfl rfl (congrArg Value.bool hb1) ?_
        refine s_mvv (v := vI x3) rfl ?_
        refine wpl_yes (d := 38) rfl rfl (congrArg Value.bool hb1) ?_
        refine s_eql (m := x3) (n := 0) rfl rfl ?_
        refine wpl_yes (d := 38) rfl rfl (congrArg Value.bool hb1) ?_
        refine s_ld (i := 0) (cs := [vU a5.1, vU a5.2]) S12 rfl rfl Tryd.isAgg27 Tryd.sizeOf27 rfl (fun h => by cases h) ?_
        refine wpl_yes (d := 38) rfl rfl (congrArg Value.bool hb1) ?_
        refine s_ld (i := 1) (cs := [vU a4.1, vU a4.2]) S12 rfl rfl Tryd.isAgg27 Tryd.sizeOf27 rfl (fun h => by cases h) ?_
        refine wpl_yes (d := 38) rfl rfl (congrArg Value.bool hb1) ?_
        refine s_eqlSum (p := a5) (q := a4) rfl rfl Tryd.underlying27 Tryd.underlying25 Tryd.sizeOf25 Tryd.isAgg25 Tryd.eqGuardType27 ?_
        refine wpl_yes (d := 38) rfl rfl (congrArg Value.bool hb1) ?_
        refine s_eqlb (p := (x3 == (0 : Int))) (q := (eqSum a5 a4)) Tryd.underlying4 rfl rfl ?_
        refine s_pickT (congrArg Value.bool hb1) rfl ?_
        exact wpl_nil (nrm ⟨outP, rfl, congrArg Value.bool (and_t hb1), trivial⟩)
      · refine wpl_no (d := 38) rfl rfl (congrArg Value.bool hb1) ?_
        refine wpl_no (d := 38) rfl rfl (congrArg Value.bool hb1) ?_
        refine wpl_no (d := 38) rfl rfl (congrArg Value.bool hb1) ?_
        refine wpl_no (d := 38) rfl rfl (congrArg Value.bool hb1) ?_
        refine wpl_no (d := 38) rfl rfl (congrArg Value.bool hb1) ?_
        refine wpl_no (d := 38) rfl rfl (congrArg Value.bool hb1) ?_
        refine s_pickF (congrArg Value.bool hb1) rfl ?_
        exact wpl_nil (nrm ⟨outP, rfl, congrArg Value.bool (and_f hb1), trivial⟩)
    rintro f1 w7 ho ⟨h1, ha⟩
    subst h1
    obtain ⟨u1, rfl⟩ := fr_of (N := 81) ho ha
    refine s_mvv (v := vb (x1 && ((x3 == 0) == (eqSum a5 a4)))) rfl ?_
    obtain ⟨x4, q4, hm⟩ := obind_some hm
    have L1 := Mem.rfl' m9
    refine wpl_cut 7 [47, 48, 49, 50, 51, 52, 53] (fun f' w' => ∃ (M1 : Mem), m9 ≤ M1 ∧ St M1 ((bx b3 [vU a5.1, vU a5.2] 27) :: (bx b2 [vU a4.1, vU a4.2] 27) :: (bx b1 [vU a0.1, vU a0.2] 27) :: As) w' ∧ AllAt f' [(53, vb x4)]) ?_ ?_
    · rcases bool_tf (x1 && ((x3 == 0) == (eqSum a5 a4))) with hb2 | hb2
      · replace q4 := ifT hb2 q4
        refine wpl_yes (d := 46) rfl rfl (congrArg Value.bool hb2) ?_
        refine s_mvv (v := vI x3) rfl ?_
        refine wpl_yes (d := 46) rfl rfl (congrArg Value.bool hb2) ?_
        refine s_eql (m := x3) (n := 0) rfl rfl ?_
        refine wpl_yes (d := 46) rfl rfl (congrArg Value.bool hb2) ?_
        refine s_mvv (v := vb (x3 == 0)) rfl ?_
        rcases bool_tf (x3 == 0) with hb3 | hb3
        · replace q4 := ifT hb3 q4
          refine wpl_no (d := 49) rfl rfl (congrArg Value.bool hb3) ?_
          refine wpl_no (d := 49) rfl rfl (congrArg Value.bool hb3) ?_
          refine wpl_yes (d := 46) rfl rfl (congrArg Value.bool hb2) ?_
          refine s_pickT (congrArg Value.bool hb3) rfl ?_
          refine s_pickT (congrArg Value.bool hb2) rfl ?_
          refine wpl_nil (nrm ?_)
          have e0 := Option.some.inj q4
          subst e0
          exact ⟨outP, m9, L1, S12, ⟨rfl, trivial⟩⟩
        replace q4 := ifF hb3 q4
        refine wpl_yes (d := 49) rfl rfl (congrArg Value.bool hb3) ?_
        refine s_mvv (v := vI x3) rfl ?_
        refine wpl_yes (d := 49) rfl rfl (congrArg Value.bool hb3) ?_
        refine s_eql (m := x3) (n := 71) rfl rfl ?_
        refine wpl_yes (d := 46) rfl rfl (congrArg Value.bool hb2) ?_
        refine s_pickF (congrArg Value.bool hb3) rfl ?_
        refine s_pickT (congrArg Value.bool hb2) rfl ?_
        refine wpl_nil (nrm ?_)
        have e0 := Option.some.inj q4
        subst e0
        exact ⟨outP, m9, L1, S12, ⟨rfl, trivial⟩⟩
      replace q4 := ifF hb2 q4
      refine wpl_no (d := 46) rfl rfl (congrArg Value.bool hb2) ?_
      refine wpl_no (d := 46) rfl rfl (congrArg Value.bool hb2) ?_
      refine wpl_no (d := 46) rfl rfl (congrArg Value.bool hb2) ?_
      refine wpl_no' (d := 49) rfl rfl rfl ?_
      refine wpl_no' (d := 49) rfl rfl rfl ?_
      refine wpl_no (d := 46) rfl rfl (congrArg Value.bool hb2) ?_
      refine s_pickF (congrArg Value.bool hb2) rfl ?_
      refine wpl_nil (nrm ?_)
      have e0 := Option.some.inj q4
      subst e0
      exact ⟨outP, m9, L1, S12, ⟨rfl, trivial⟩⟩
    rintro f2 w8 ho ⟨m10, l10, S13, ha⟩
    obtain ⟨u2, rfl⟩ := fr_of (N := 81) ho ha
    replace T1 := T1.up l10
    replace L0 := Mem.tr L0 l10
    clear S12
    refine s_asv (v := vb x4) rfl ?_
    refine wpl_nil ?_
    refine nrm ?_
    refine wpc_ret ?_
    refine thR ?_
    refine outRw ?_
    intro we hpd
    replace S13 := St.pd S13 hpd
    obtain ⟨m11, l11, S14⟩ := St.drop S13 0
    replace T1 := T1.up l11
    replace L0 := Mem.tr L0 l11
    clear S13
    replace S14 : St _ ((bx b2 [vU a4.1, vU a4.2] 27) :: (bx b1 [vU a0.1, vU a0.2] 27) :: As) _ := S14
    obtain ⟨m12, l12, S15⟩ := St.drop S14 0
    replace T1 := T1.up l12
    replace L0 := Mem.tr L0 l12
    clear S14
    replace S15 : St _ ((bx b1 [vU a0.1, vU a0.2] 27) :: As) _ := S15
    obtain ⟨m13, l13, S16⟩ := St.drop S15 0
    replace T1 := T1.up l13
    replace L0 := Mem.tr L0 l13
    clear S15
    replace S16 : St _ (As) _ := S16
    have e0 := Option.some.inj hm
    subst e0
    exact outR [_] rfl ⟨rfl, trivial⟩ ⟨_, L0, S16, rfl⟩
  replace hm := ifF hc3 hm
  refine wpc_skip ?_
  refine nrm ?_
  refine wpc_seq ?_
  refine wpc_region ?_
  refine s_mvv (v := vb x1) rfl ?_
  refine s_mvv (v := vb x1) rfl ?_
  obtain ⟨x5, q5, hm⟩ := obind_some hm
  have L2 := Mem.rfl' m9
  refine wpl_cut 8 [56, 57, 58, 59, 60, 61, 62, 63] (fun f' w' => ∃ (M2 : Mem), m9 ≤ M2 ∧ St M2 ((bx b3 [vU a5.1, vU a5.2] 27) :: (bx b2 [vU a4.1, vU a4.2] 27) :: (bx b1 [vU a0.1, vU a0.2] 27) :: As) w' ∧ AllAt f' [(63, vb x5)]) ?_ ?_
  · rcases bool_tf x1 with hb4 | hb4
    · replace q5 := ifT hb4 q5
      refine wpl_yes (d := 55) rfl rfl (congrArg Value.bool hb4) ?_
      refine s_mvv (v := vI x2) rfl ?_
      refine wpl_yes (d := 55) rfl rfl (congrArg Value.bool hb4) ?_
      refine s_eql (m := x2) (n := 71) rfl rfl ?_
      refine wpl_yes (d := 55) rfl rfl (congrArg Value.bool hb4) ?_
      refine s_mvv (v := vb (x2 == 71)) rfl ?_
      rcases bool_tf (x2 == 71) with hb5 | hb5
      · replace q5 := ifT hb5 q5
        refine wpl_no (d := 58) rfl rfl (congrArg Value.bool hb5) ?_
        refine wpl_no (d := 58) rfl rfl (congrArg Value.bool hb5) ?_
        refine wpl_no (d := 58) rfl rfl (congrArg Value.bool hb5) ?_
        refine wpl_yes (d := 55) rfl rfl (congrArg Value.bool hb4) ?_
        refine s_pickT (congrArg Value.bool hb5) rfl ?_
        refine s_pickT (congrArg Value.bool hb4) rfl ?_
        refine wpl_nil (nrm ?_)
        have e0 := Option.some.inj q5
        subst e0
        exact ⟨outP, m9, L2, S12, ⟨rfl, trivial⟩⟩
      replace q5 := ifF hb5 q5
      refine wpl_yes (d := 58) rfl rfl (congrArg Value.bool hb5) ?_
      refine s_mvv (v := vI x2) rfl ?_
      refine wpl_yes (d := 58) rfl rfl (congrArg Value.bool hb5) ?_
      refine s_mvv (v := vI x3) rfl ?_
      refine wpl_yes (d := 58) rfl rfl (congrArg Value.bool hb5) ?_
      refine s_eql (m := x2) (n := x3) rfl rfl ?_
      refine wpl_yes (d := 55) rfl rfl (congrArg Value.bool hb4) ?_
      refine s_pickF (congrArg Value.bool hb5) rfl ?_
      refine s_pickT (congrArg Value.bool hb4) rfl ?_
      refine wpl_nil (nrm ?_)
      have e0 := Option.some.inj q5
      subst e0
      exact ⟨outP, m9, L2, S12, ⟨rfl, trivial⟩⟩
    replace q5 := ifF hb4 q5
    refine wpl_no (d := 55) rfl rfl (congrArg Value.bool hb4) ?_
    refine wpl_no (d := 55) rfl rfl (congrArg Value.bool hb4) ?_
    refine wpl_no (d := 55) rfl rfl (congrArg Value.bool hb4) ?_
    refine wpl_no' (d := 58) rfl rfl rfl ?_
    refine wpl_no' (d := 58) rfl rfl rfl ?_
    refine wpl_no' (d := 58) rfl rfl rfl ?_
    refine wpl_no (d := 55) rfl rfl (congrArg Value.bool hb4) ?_
    refine s_pickF (congrArg Value.bool hb4) rfl ?_
    refine wpl_nil (nrm ?_)
    have e0 := Option.some.inj q5
    subst e0
    exact ⟨outP, m9, L2, S12, ⟨rfl, trivial⟩⟩
  rintro f3 w9 ho ⟨m14, l14, S17, ha⟩
  obtain ⟨u3, rfl⟩ := fr_of (N := 81) ho ha
  replace T1 := T1.up l14
  replace L0 := Mem.tr L0 l14
  clear S12
  refine s_mvv (v := vb x5) rfl ?_
  obtain ⟨x6, q6, hm⟩ := obind_some hm
  have L3 := Mem.rfl' m14
  refine wpl_cut 16 [65, 66, 67, 68, 69, 70, 71, 72, 73, 74, 75, 76, 77, 78, 79, 80] (fun f' w' => ∃ (M3 : Mem), m14 ≤ M3 ∧ St M3 ((bx b3 [vU a5.1, vU a5.2] 27) :: (bx b2 [vU a4.1, vU a4.2] 27) :: (bx b1 [vU a0.1, vU a0.2] 27) :: As) w' ∧ AllAt f' [(80, vb x6)]) ?_ ?_
  · rcases bool_tf x5 with hb6 | hb6
    · replace q6 := ifT hb6 q6
      refine wpl_yes (d := 64) rfl rfl (congrArg Value.bool hb6) ?_
      refine s_mvv (v := vI x2) rfl ?_
      refine wpl_yes (d := 64) rfl rfl (congrArg Value.bool hb6) ?_
      refine s_neq (m := x2) (n := 1) rfl rfl ?_
      refine wpl_yes (d := 64) rfl rfl (congrArg Value.bool hb6) ?_
      refine s_mvv (v := vb (x2 != 1)) rfl ?_
      rcases bool_tf (x2 != 1) with hb7 | hb7
      · replace q6 := ifT hb7 q6
        refine wpl_no (d := 67) rfl rfl (congrArg Value.bool hb7) ?_
        refine wpl_no (d := 67) rfl rfl (congrArg Value.bool hb7) ?_
        refine wpl_yes (d := 64) rfl rfl (congrArg Value.bool hb6) ?_
        refine s_pickT (congrArg Value.bool hb7) rfl ?_
        refine wpl_yes (d := 64) rfl rfl (congrArg Value.bool hb6) ?_
        refine s_mvv (v := vb true) rfl ?_
        rcases bool_tf true with hb8 | hb8
        · replace q6 := ifT hb8 q6
          refine wpl_no (d := 71) rfl rfl (congrArg Value.bool hb8) ?_
          refine wpl_no (d := 71) rfl rfl (congrArg Value.bool hb8) ?_
          refine wpl_no (d := 71) rfl rfl (congrArg Value.bool hb8) ?_
          refine wpl_yes (d := 64) rfl rfl (congrArg Value.bool hb6) ?_
          refine s_pickT (congrArg Value.bool hb8) rfl ?_
          refine wpl_yes (d := 64) rfl rfl (congrArg Value.bool hb6) ?_
          refine s_mvv (v := vb true) rfl ?_
          refine wpl_no (d := 76) rfl rfl (congrArg Value.bool hb8) ?_
          refine wpl_no (d := 76) rfl rfl (congrArg Value.bool hb8) ?_
          refine wpl_yes (d := 64) rfl rfl (congrArg Value.bool hb6) ?_
          refine s_pickT (congrArg Value.bool hb8) rfl ?_
          refine s_pickT (congrArg Value.bool hb6) rfl ?_
          refine wpl_nil (nrm ?_)
          have e0 := Option.some.inj q6
          subst e0
          exact ⟨outP, m14, L3, S17, ⟨rfl, trivial⟩⟩
        replace q6 := ifF hb8 q6
        refine wpl_yes (d := 71) rfl rfl (congrArg Value.bool hb8) ?_
        refine s_mvv (v := vI a1) rfl ?_
        refine wpl_yes (d := 71) rfl rfl (congrArg Value.bool hb8) ?_
        refine s_mvv (v := vI a2) rfl ?_
        refine wpl_yes (d := 71) rfl rfl (congrArg Value.bool hb8) ?_
        refine s_geq (m := a1) (n := a2) rfl rfl ?_
        refine wpl_yes (d := 64) rfl rfl (congrArg Value.bool hb6) ?_
        refine s_pickF (congrArg Value.bool hb8) rfl ?_
        refine wpl_yes (d := 64) rfl rfl (congrArg Value.bool hb6) ?_
        refine s_mvv (v := vb (decide (a1 ≥ a2))) rfl ?_
        rcases bool_tf (decide (a1 ≥ a2)) with hb9 | hb9
        · replace q6 := ifT hb9 q6
          refine wpl_no (d := 76) rfl rfl (congrArg Value.bool hb9) ?_
          refine wpl_no (d := 76) rfl rfl (congrArg Value.bool hb9) ?_
          refine wpl_yes (d := 64) rfl rfl (congrArg Value.bool hb6) ?_
          refine s_pickT (congrArg Value.bool hb9) rfl ?_
          refine s_pickT (congrArg Value.bool hb6) rfl ?_
          refine wpl_nil (nrm ?_)
          have e0 := Option.some.inj q6
          subst e0
          exact ⟨outP, m14, L3, S17, ⟨rfl, trivial⟩⟩
        replace q6 := ifF hb9 q6
        refine wpl_yes (d := 76) rfl rfl (congrArg Value.bool hb9) ?_
        refine s_mvv (v := vI a2) rfl ?_
        refine wpl_yes (d := 76) rfl rfl (congrArg Value.bool hb9) ?_
        refine s_gtr (m := a2) (n := 256) rfl rfl ?_
        refine wpl_yes (d := 64) rfl rfl (congrArg Value.bool hb6) ?_
        refine s_pickF (congrArg Value.bool hb9) rfl ?_
        refine s_pickT (congrArg Value.bool hb6) rfl ?_
        refine wpl_nil (nrm ?_)
        have e0 := Option.some.inj q6
        subst e0
        exact ⟨outP, m14, L3, S17, ⟨rfl, trivial⟩⟩
      replace q6 := ifF hb7 q6
      refine wpl_yes (d := 67) rfl rfl (congrArg Value.bool hb7) ?_
      refine s_mvv (v := vI a1) rfl ?_
      refine wpl_yes (d := 67) rfl rfl (congrArg Value.bool hb7) ?_
      refine s_lss (m := a1) (n := 0) rfl rfl ?_
      refine wpl_yes (d := 64) rfl rfl (congrArg Value.bool hb6) ?_
      refine s_pickF (congrArg Value.bool hb7) rfl ?_
      refine wpl_yes (d := 64) rfl rfl (congrArg Value.bool hb6) ?_
      refine s_mvv (v := vb (decide (a1 < 0))) rfl ?_
      rcases bool_tf (decide (a1 < 0)) with hb10 | hb10
      · replace q6 := ifT hb10 q6
        refine wpl_no (d := 71) rfl rfl (congrArg Value.bool hb10) ?_
        refine wpl_no (d := 71) rfl rfl (congrArg Value.bool hb10) ?_
        refine wpl_no (d := 71) rfl rfl (congrArg Value.bool hb10) ?_
        refine wpl_yes (d := 64) rfl rfl (congrArg Value.bool hb6) ?_
        refine s_pickT (congrArg Value.bool hb10) rfl ?_
        refine wpl_yes (d := 64) rfl rfl (congrArg Value.bool hb6) ?_
        refine s_mvv (v := vb true) rfl ?_
        rcases bool_tf true with hb11 | hb11
        · replace q6 := ifT hb11 q6
          refine wpl_no (d := 76) rfl rfl (congrArg Value.bool hb11) ?_
          refine wpl_no (d := 76) rfl rfl (congrArg Value.bool hb11) ?_
          refine wpl_yes (d := 64) rfl rfl (congrArg Value.bool hb6) ?_
          refine s_pickT (congrArg Value.bool hb11) rfl ?_
          refine s_pickT (congrArg Value.bool hb6) rfl ?_
          refine wpl_nil (nrm ?_)
          have e0 := Option.some.inj q6
          subst e0
          exact ⟨outP, m14, L3, S17, ⟨rfl, trivial⟩⟩
        replace q6 := ifF hb11 q6
        refine wpl_yes (d := 76) rfl rfl (congrArg Value.bool hb11) ?_
        refine s_mvv (v := vI a2) rfl ?_
        refine wpl_yes (d := 76) rfl rfl (congrArg Value.bool hb11) ?_
        refine s_gtr (m := a2) (n := 256) rfl rfl ?_
        refine wpl_yes (d := 64) rfl rfl (congrArg Value.bool hb6) ?_
        refine s_pickF (congrArg Value.bool hb11) rfl ?_
        refine s_pickT (congrArg Value.bool hb6) rfl ?_
        refine wpl_nil (nrm ?_)
        have e0 := Option.some.inj q6
        subst e0
        exact ⟨outP, m14, L3, S17, ⟨rfl, trivial⟩⟩
      replace q6 := ifF hb10 q6
      refine wpl_yes (d := 71) rfl rfl (congrArg Value.bool hb10) ?_
      refine s_mvv (v := vI a1) rfl ?_
      refine wpl_yes (d := 71) rfl rfl (congrArg Value.bool hb10) ?_
      refine s_mvv (v := vI a2) rfl ?_
      refine wpl_yes (d := 71) rfl rfl (congrArg Value.bool hb10) ?_
      refine s_geq (m := a1) (n := a2) rfl rfl ?_
      refine wpl_yes (d := 64) rfl rfl (congrArg Value.bool hb6) ?_
      refine s_pickF (congrArg Value.bool hb10) rfl ?_
      refine wpl_yes (d := 64) rfl rfl (congrArg Value.bool hb6) ?_
      refine s_mvv (v := vb (decide (a1 ≥ a2))) rfl ?_
      rcases bool_tf (decide (a1 ≥ a2)) with hb12 | hb12
      · replace q6 := ifT hb12 q6
        refine wpl_no (d := 76) rfl rfl (congrArg Value.bool hb12) ?_
        refine wpl_no (d := 76) rfl rfl (congrArg Value.bool hb12) ?_
        refine wpl_yes (d := 64) rfl rfl (congrArg Value.bool hb6) ?_
        refine s_pickT (congrArg Value.bool hb12) rfl ?_
        refine s_pickT (congrArg Value.bool hb6) rfl ?_
        refine wpl_nil (nrm ?_)
        have e0 := Option.some.inj q6
        subst e0
        exact ⟨outP, m14, L3, S17, ⟨rfl, trivial⟩⟩
      replace q6 := ifF hb12 q6
      refine wpl_yes (d := 76) rfl rfl (congrArg Value.bool hb12) ?_
      refine s_mvv (v := vI a2) rfl ?_
      refine wpl_yes (d := 76) rfl rfl (congrArg Value.bool hb12) ?_
      refine s_gtr (m := a2) (n := 256) rfl rfl ?_
      refine wpl_yes (d := 64) rfl rfl (congrArg Value.bool hb6) ?_
      refine s_pickF (congrArg Value.bool hb12) rfl ?_
      refine s_pickT (congrArg Value.bool hb6) rfl ?_
      refine wpl_nil (nrm ?_)
      have e0 := Option.some.inj q6
      subst e0
      exact ⟨outP, m14, L3, S17, ⟨rfl, trivial⟩⟩
    replace q6 := ifF hb6 q6
    refine wpl_no (d := 64) rfl rfl (congrArg Value.bool hb6) ?_
    refine wpl_no (d := 64) rfl rfl (congrArg Value.bool hb6) ?_
    refine wpl_no (d := 64) rfl rfl (congrArg Value.bool hb6) ?_
    refine wpl_no' (d := 67) rfl rfl rfl ?_
    refine wpl_no' (d := 67) rfl rfl rfl ?_
    refine wpl_no (d := 64) rfl rfl (congrArg Value.bool hb6) ?_
    refine wpl_no (d := 64) rfl rfl (congrArg Value.bool hb6) ?_
    refine wpl_no' (d := 71) rfl rfl rfl ?_
    refine wpl_no' (d := 71) rfl rfl rfl ?_
    refine wpl_no' (d := 71) rfl rfl rfl ?_
    refine wpl_no (d := 64) rfl rfl (congrArg Value.bool hb6) ?_
    refine wpl_no (d := 64) rfl rfl (congrArg Value.bool hb6) ?_
    refine wpl_no' (d := 76) rfl rfl rfl ?_
    refine wpl_no' (d := 76) rfl rfl rfl ?_
    refine wpl_no (d := 64) rfl rfl (congrArg Value.bool hb6) ?_
    refine s_pickF (congrArg Value.bool hb6) rfl ?_
    refine wpl_nil (nrm ?_)
    have e0 := Option.some.inj q6
    subst e0
    exact ⟨outP, m14, L3, S17, ⟨rfl, trivial⟩⟩
  rintro f4 w10 ho ⟨m15, l15, S18, ha⟩
  obtain ⟨u4, rfl⟩ := fr_of (N := 81) ho ha
  replace T1 := T1.up l15
  replace L0 := Mem.tr L0 l15
  clear S17
  refine s_asv (v := vb x6) rfl ?_
  refine wpl_nil ?_
  refine nrm ?_
  refine wpc_ret ?_
  refine outRw ?_
  intro we hpd
  replace S18 := St.pd S18 hpd
  obtain ⟨m16, l16, S19⟩ := St.drop S18 0
  replace T1 := T1.up l16
  replace L0 := Mem.tr L0 l16
  clear S18
  replace S19 : St _ ((bx b2 [vU a4.1, vU a4.2] 27) :: (bx b1 [vU a0.1, vU a0.2] 27) :: As) _ := S19
  obtain ⟨m17, l17, S20⟩ := St.drop S19 0
  replace T1 := T1.up l17
  replace L0 := Mem.tr L0 l17
  clear S19
  replace S20 : St _ ((bx b1 [vU a0.1, vU a0.2] 27) :: As) _ := S20
  obtain ⟨m18, l18, S21⟩ := St.drop S20 0
  replace T1 := T1.up l18
  replace L0 := Mem.tr L0 l18
  clear S20
  replace S21 : St _ (As) _ := S21
  have e0 := Option.some.inj hm
  subst e0
  exact outR [_] rfl ⟨rfl, trivial⟩ ⟨_, L0, S21, rfl⟩

end Go.Proofs.YtohipjalgccmnaaDoor
