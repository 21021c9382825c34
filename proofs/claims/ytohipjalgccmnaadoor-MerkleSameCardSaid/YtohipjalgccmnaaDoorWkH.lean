/- The walks of some functions, written by program. Conditions: none. -/
import Derived.Test.YtohipjalgccmnaaDoorWkF
set_option maxHeartbeats 20000000
set_option maxRecDepth 100000
set_option linter.unusedVariables false
set_option linter.unusedSimpArgs false
namespace Go.Proofs.YtohipjalgccmnaaDoor
open Go Go.Gw

def m_law08_MerkleIn (a0 : List (UInt64 × UInt64)) (a1 : Int) : Option Bool :=
  obind (m_law08_live ) fun x1 =>
  if (!x1) = true then
    some false
  else
  if (decide ((a0.length : Int) > 40)) = true then
    some x1
  else
  obind (m_merkle_Prove a0 a1) fun x2 =>
  if (x2.2 != 0) = true then
    obind (
      if (x1 && (x2.2 == 80)) = true then
        if (decide (a1 < 0)) = true then
          some true
        else
        some (decide (a1 ≥ (a0.length : Int)))
      else
      some false
    ) fun x3 =>
    bnd ((x3 && ((x2.1.length : Int) == 0))) fun x4 =>
    some x4
  else
  obind (m_merkle_Root a0) fun x5 =>
  obind (app 16 ([] : List (UInt64 × UInt64)) x2.1) fun x6 =>
  obind (app 16 x6 ([x5] : List (UInt64 × UInt64))) fun x7 =>
  obind (idx a0 a1) fun x8 =>
  obind (m_merkle_Check x8 a1 (a0.length : Int) x7 x5) fun x9 =>
  obind (gu ((x9 == 80) && (!((x2.1.length : Int) == 0))) (idx a0 a1)) fun x10 =>
  obind (gu ((x9 == 80) && (!((x2.1.length : Int) == 0))) (cut x2.1 1 (x2.1.length : Int))) fun x11 =>
  obind (gu ((x9 == 80) && (!((x2.1.length : Int) == 0))) (m_merkle_Check x10 a1 (a0.length : Int) x11 x5)) fun x12 =>
  bnd (((x9 == 80) && (((x2.1.length : Int) == 0) || (x12 == 80)))) fun x13 =>
  obind (gu (x1 && x13) (idx a0 a1)) fun x14 =>
  obind (gu (x1 && x13) (m_merkle_Check x14 a1 (a0.length : Int) x2.1 x5)) fun x15 =>
  some ((x1 && x13) && (x15 == 0))

theorem w_law08_MerkleIn {m : Mem} {As : List Ow} {w : World} {a0 : List (UInt64 × UInt64)} {a0v0 : Value} {a1 : Int} {r : Bool} (S : St m (As) w) (T1 : PtC m (pt 1 0) (tab_1.map vB)) (a0h0 : SlR m a0v0 a0) (hm : m_law08_MerkleIn a0 a1 = some r) :
    CallsR Tryd.prog 6 #[a0v0, vI a1] w fun v w' => ∃ (M : Mem), m ≤ M ∧ St M (As) w' ∧ v = vb r := by
  unfold m_law08_MerkleIn at hm
  have L0 := Mem.rfl' m
  refine callsR (args := [a0v0, vI a1]) Tryd.func6 rfl Tryd.ntmps6 (Nat.le_of_ble_eq_true rfl) ?_
  refine wpc_seq ?_
  refine wpc_region ?_
  refine s_asv (v := vb false) rfl ?_
  refine wpl_nil ?_
  refine nrm ?_
  refine wpc_seq ?_
  refine wpc_region ?_
  obtain ⟨x1, q1, hm⟩ := obind_some hm
  refine s_call Tryd.call12 (w_law08_live  S T1 q1) rfl ?_
  rintro _ w1 ⟨m1, l1, S1, rfl⟩
  replace a0h0 := a0h0.up l1
  replace T1 := T1.up l1
  replace L0 := Mem.tr L0 l1
  clear S
  replace S1 : St _ (As) _ := S1
  refine s_asv (v := vb x1) rfl ?_
  refine wpl_nil ?_
  refine nrm ?_
  refine wpc_seq ?_
  refine wpc_seq ?_
  refine wpc_region ?_
  refine s_mvv (v := vb x1) rfl ?_
  refine s_not rfl ?_
  refine wpl_nil ?_
  refine nrm ?_
  refine wpc_if (t := (!x1)) rfl (fun hc1 => ?_) (fun hc1 => ?_)
  · replace hm := ifT hc1 hm
    refine wpc_seq ?_
    refine wpc_region ?_
    refine s_asv (v := vb false) rfl ?_
    refine wpl_nil ?_
    refine nrm ?_
    refine wpc_ret ?_
    refine thR ?_
    refine outRw ?_
    intro we hpd
    replace S1 := St.pd S1 hpd
    have e0 := Option.some.inj hm
    subst e0
    exact outR [_] rfl ⟨rfl, trivial⟩ ⟨_, L0, S1, rfl⟩
  replace hm := ifF hc1 hm
  refine wpc_skip ?_
  refine nrm ?_
  refine wpc_seq ?_
  refine wpc_seq ?_
  refine wpc_region ?_
  refine s_mvv (v := a0v0) rfl ?_
  refine s_lenR (xs := a0) rfl a0h0 Tryd.underlying22 ?_
  refine s_gtr (m := (a0.length : Int)) (n := 40) rfl rfl ?_
  refine wpl_nil ?_
  refine nrm ?_
  refine wpc_if (t := (decide ((a0.length : Int) > 40))) rfl (fun hc2 => ?_) (fun hc2 => ?_)
  · replace hm := ifT hc2 hm
    refine wpc_seq ?_
    refine wpc_region ?_
    refine s_mvv (v := vb x1) rfl ?_
    refine s_asv (v := vb x1) rfl ?_
    refine wpl_nil ?_
    refine nrm ?_
    refine wpc_ret ?_
    refine thR ?_
    refine outRw ?_
    intro we hpd
    replace S1 := St.pd S1 hpd
    have e0 := Option.some.inj hm
    subst e0
    exact outR [_] rfl ⟨rfl, trivial⟩ ⟨_, L0, S1, rfl⟩
  replace hm := ifF hc2 hm
  refine wpc_skip ?_
  refine nrm ?_
  refine wpc_seq ?_
  refine wpc_region ?_
  refine s_mvv (v := a0v0) rfl ?_
  refine s_mvv (v := vI a1) rfl ?_
  obtain ⟨x2, q2, hm⟩ := obind_some hm
  refine s_call Tryd.call18 (w_merkle_Prove (a0 := a0) (a1 := a1) S1 a0h0 q2) rfl ?_
  rintro _ w2 ⟨m2, l2, v1, c1, S2, rfl, h1⟩
  replace a0h0 := a0h0.up l2
  replace T1 := T1.up l2
  replace L0 := Mem.tr L0 l2
  clear S1
  replace S2 : St _ ((row 2 v1 c1 x2.1.length) :: As) _ := S2
  refine s_mvv (v := .tuple #[v1, vI x2.2]) rfl ?_
  refine s_ext (i := 0) rfl rfl ?_
  refine s_ext (i := 1) rfl rfl ?_
  refine s_asv (v := v1) rfl ?_
  refine s_asv (v := vI x2.2) rfl ?_
  refine wpl_nil ?_
  refine nrm ?_
  refine wpc_seq ?_
  refine wpc_seq ?_
  refine wpc_region ?_
  refine s_mvv (v := vI x2.2) rfl ?_
  refine s_neq (m := x2.2) (n := 0) rfl rfl ?_
  refine wpl_nil ?_
  refine nrm ?_
  refine wpc_if (t := (x2.2 != 0)) rfl (fun hc3 => ?_) (fun hc3 => ?_)
  · replace hm := ifT hc3 hm
    refine wpc_seq ?_
    refine wpc_region ?_
    refine s_mvv (v := vb x1) rfl ?_
    refine s_mvv (v := vb x1) rfl ?_
    refine wpl_cut 3 [28, 29, 30] (fun f' w' => w' = w2 ∧ AllAt f' [(30, vb (x1 && (x2.2 == 80)))]) ?_ ?_
    · rcases bool_tf x1 with hb1 | hb1
      · refine wpl_yes (d := 27) rfl rfl (congrArg Value.bool hb1) ?_
        refine s_mvv (v := vI x2.2) rfl ?_
        refine wpl_yes (d := 27) rfl rfl (congrArg Value.bool hb1) ?_
        refine s_eql (m := x2.2) (n := 80) rfl rfl ?_
        refine s_pickT (congrArg Value.bool hb1) rfl ?_
        exact wpl_nil (nrm ⟨outP, rfl, congrArg Value.bool (and_t hb1), trivial⟩)
      · refine wpl_no (d := 27) rfl rfl (congrArg Value.bool hb1) ?_
        refine wpl_no (d := 27) rfl rfl (congrArg Value.bool hb1) ?_
        refine s_pickF (congrArg Value.bool hb1) rfl ?_
        exact wpl_nil (nrm ⟨outP, rfl, congrArg Value.bool (and_f hb1), trivial⟩)
    rintro f1 w3 ho ⟨h2, ha⟩
    subst h2
    obtain ⟨u1, rfl⟩ := fr_of (N := 101) ho ha
    refine s_mvv (v := vb (x1 && (x2.2 == 80))) rfl ?_
    obtain ⟨x3, q3, hm⟩ := obind_some hm
    have L1 := Mem.rfl' m2
    refine wpl_cut 9 [32, 33, 34, 35, 36, 37, 38, 39, 40] (fun f' w' => ∃ (M1 : Mem), m2 ≤ M1 ∧ St M1 ((row 2 v1 c1 x2.1.length) :: As) w' ∧ AllAt f' [(40, vb x3)]) ?_ ?_
    · rcases bool_tf (x1 && (x2.2 == 80)) with hb2 | hb2
      · replace q3 := ifT hb2 q3
        refine wpl_yes (d := 31) rfl rfl (congrArg Value.bool hb2) ?_
        refine s_mvv (v := vI a1) rfl ?_
        refine wpl_yes (d := 31) rfl rfl (congrArg Value.bool hb2) ?_
        refine s_lss (m := a1) (n := 0) rfl rfl ?_
        refine wpl_yes (d := 31) rfl rfl (congrArg Value.bool hb2) ?_
        refine s_mvv (v := vb (decide (a1 < 0))) rfl ?_
        rcases bool_tf (decide (a1 < 0)) with hb3 | hb3
        · replace q3 := ifT hb3 q3
          refine wpl_no (d := 34) rfl rfl (congrArg Value.bool hb3) ?_
          refine wpl_no (d := 34) rfl rfl (congrArg Value.bool hb3) ?_
          refine wpl_no (d := 34) rfl rfl (congrArg Value.bool hb3) ?_
          refine wpl_no (d := 34) rfl rfl (congrArg Value.bool hb3) ?_
          refine wpl_yes (d := 31) rfl rfl (congrArg Value.bool hb2) ?_
          refine s_pickT (congrArg Value.bool hb3) rfl ?_
          refine s_pickT (congrArg Value.bool hb2) rfl ?_
          refine wpl_nil (nrm ?_)
          have e0 := Option.some.inj q3
          subst e0
          exact ⟨outP, m2, L1, S2, ⟨rfl, trivial⟩⟩
        replace q3 := ifF hb3 q3
        refine wpl_yes (d := 34) rfl rfl (congrArg Value.bool hb3) ?_
        refine s_mvv (v := vI a1) rfl ?_
        refine wpl_yes (d := 34) rfl rfl (congrArg Value.bool hb3) ?_
        refine s_mvv (v := a0v0) rfl ?_
        refine wpl_yes (d := 34) rfl rfl (congrArg Value.bool hb3) ?_
        refine s_lenR (xs := a0) rfl a0h0 Tryd.underlying22 ?_
        refine wpl_yes (d := 34) rfl rfl (congrArg Value.bool hb3) ?_
        refine s_geq (m := a1) (n := (a0.length : Int)) rfl rfl ?_
        refine wpl_yes (d := 31) rfl rfl (congrArg Value.bool hb2) ?_
        refine s_pickF (congrArg Value.bool hb3) rfl ?_
        refine s_pickT (congrArg Value.bool hb2) rfl ?_
        refine wpl_nil (nrm ?_)
        have e0 := Option.some.inj q3
        subst e0
        exact ⟨outP, m2, L1, S2, ⟨rfl, trivial⟩⟩
      replace q3 := ifF hb2 q3
      refine wpl_no (d := 31) rfl rfl (congrArg Value.bool hb2) ?_
      refine wpl_no (d := 31) rfl rfl (congrArg Value.bool hb2) ?_
      refine wpl_no (d := 31) rfl rfl (congrArg Value.bool hb2) ?_
      refine wpl_no' (d := 34) rfl rfl rfl ?_
      refine wpl_no' (d := 34) rfl rfl rfl ?_
      refine wpl_no' (d := 34) rfl rfl rfl ?_
      refine wpl_no' (d := 34) rfl rfl rfl ?_
      refine wpl_no (d := 31) rfl rfl (congrArg Value.bool hb2) ?_
      refine s_pickF (congrArg Value.bool hb2) rfl ?_
      refine wpl_nil (nrm ?_)
      have e0 := Option.some.inj q3
      subst e0
      exact ⟨outP, m2, L1, S2, ⟨rfl, trivial⟩⟩
    rintro f2 w4 ho ⟨m3, l3, S3, ha⟩
    obtain ⟨u2, rfl⟩ := fr_of (N := 101) ho ha
    replace h1 := RepL.up l3 h1
    replace T1 := T1.up l3
    replace L0 := Mem.tr L0 l3
    clear S2
    refine s_mvv (v := vb x3) rfl ?_
    refine wpl_cut 4 [42, 43, 44, 45] (fun f' w' => w' = w4 ∧ AllAt f' [(45, vb (x3 && ((x2.1.length : Int) == 0)))]) ?_ ?_
    · rcases bool_tf x3 with hb4 | hb4
      · refine wpl_yes (d := 41) rfl rfl (congrArg Value.bool hb4) ?_
        refine s_mvv (v := v1) rfl ?_
        refine wpl_yes (d := 41) rfl rfl (congrArg Value.bool hb4) ?_
        refine s_lenO (i := 0) S3 rfl rfl Tryd.underlying22 ?_
        refine wpl_yes (d := 41) rfl rfl (congrArg Value.bool hb4) ?_
        refine s_eql (m := (x2.1.length : Int)) (n := 0) rfl rfl ?_
        refine s_pickT (congrArg Value.bool hb4) rfl ?_
        exact wpl_nil (nrm ⟨outP, rfl, congrArg Value.bool (and_t hb4), trivial⟩)
      · refine wpl_no (d := 41) rfl rfl (congrArg Value.bool hb4) ?_
        refine wpl_no (d := 41) rfl rfl (congrArg Value.bool hb4) ?_
        refine wpl_no (d := 41) rfl rfl (congrArg Value.bool hb4) ?_
        refine s_pickF (congrArg Value.bool hb4) rfl ?_
        exact wpl_nil (nrm ⟨outP, rfl, congrArg Value.bool (and_f hb4), trivial⟩)
    rintro f3 w5 ho ⟨h3, ha⟩
    subst h3
    obtain ⟨u3, rfl⟩ := fr_of (N := 101) ho ha
    obtain ⟨x4, q4, hm⟩ := bnd_eq hm
    refine s_asv (v := vb x4) (congrArg (fun z => vb z) q4.symm) ?_
    refine wpl_nil ?_
    refine nrm ?_
    refine wpc_ret ?_
    refine thR ?_
    refine outRw ?_
    intro we hpd
    replace S3 := St.pd S3 hpd
    obtain ⟨m4, l4, S4⟩ := St.drop S3 0
    replace T1 := T1.up l4
    replace L0 := Mem.tr L0 l4
    clear S3
    replace S4 : St _ (As) _ := S4
    have e0 := Option.some.inj hm
    subst e0
    exact outR [_] rfl ⟨rfl, trivial⟩ ⟨_, L0, S4, rfl⟩
  replace hm := ifF hc3 hm
  refine wpc_skip ?_
  refine nrm ?_
  refine wpc_seq ?_
  refine wpc_region ?_
  refine s_mvv (v := a0v0) rfl ?_
  obtain ⟨x5, q5, hm⟩ := obind_some hm
  refine s_call Tryd.call13 (w_merkle_Root (a0 := a0) S2 a0h0 q5) rfl ?_
  rintro _ w6 ⟨m5, l5, S5, rfl⟩
  replace a0h0 := a0h0.up l5
  replace h1 := RepL.up l5 h1
  replace T1 := T1.up l5
  replace L0 := Mem.tr L0 l5
  clear S2
  replace S5 : St _ ((row 2 v1 c1 x2.1.length) :: As) _ := S5
  refine s_alloc S5 Tryd.zeroValue27 ?_
  intro b1 w7 S6
  replace S6 : St _ ((bx b1 [vU 0, vU 0] 27) :: (row 2 v1 c1 x2.1.length) :: As) _ := S6
  clear S5
  refine s_stL (i := 0) S6 rfl rfl rfl Tryd.sizeOf27 (oneC rfl (oneC rfl oneN)) rfl ?_
  intro w8 S7
  replace S7 : St _ ((bx b1 [vU x5.1, vU x5.2] 27) :: (row 2 v1 c1 x2.1.length) :: As) _ := S7
  clear S6
  refine wpl_nil ?_
  refine nrm ?_
  refine wpc_seq ?_
  obtain ⟨m6, l6, h4, S8⟩ := St.rowKeepT (i := 1) S7 rfl h1 rfl
  replace a0h0 := a0h0.up l6
  replace T1 := T1.up l6
  replace L0 := Mem.tr L0 l6
  clear S7
  obtain ⟨x6, q6, hm⟩ := obind_some hm
  have HM : MonoAll [(48, fun _ _ => True), (49, fun (M : Mem) (v : Value) => v = v1), (50, fun _ _ => True), (51, fun (M : Mem) (v : Value) => v = .agg #[vU x5.1, vU x5.2]), (52, fun (M : Mem) (v : Value) => ∃ (v5 : Value), v = v5 ∧ SlR M v5 ([x5] : List (UInt64 × UInt64)))] := ⟨(fun _ _ _ _ h => h), (fun _ _ _ _ h => h), (fun _ _ _ _ h => h), (fun _ _ _ _ h => h), (fun _ _ _ l ⟨v5, e, h8⟩ => ⟨v5, e, h8.up l⟩), trivial⟩
  refine wpc_flowG HM 5 mixed rfl rfl rfl [48, 49, 50, 51, 52] (fun L f M w => ∃ (X1 : List Ow), ((L 0 = false → X1 = []) ∧ (L 0 = true → L 2 = false → (RowS M X1 2 (f 48) ([] : List (UInt64 × UInt64)))) ∧ (L 2 = true → (RowS M X1 2 (f 50) x6))) ∧ St M ((bx b1 [vU x5.1, vU x5.2] 27) :: (X1 ++ As)) w) (⟨[], ⟨fun _ => rfl, fun hx _ => ff hx, fun hx => ff hx⟩, St.drew S8 _⟩) ?_ ?_
  · refine ⟨?_, ?_, ?_, ?_, ?_, trivial⟩
    · intro L f4 w9 hL hd hc ⟨m7, L2, ⟨X1, C1, S9⟩, K, hO⟩
      have d0 : L 0 = false := hL
      have d2 : L 2 = false := undep hc hL rfl
      obtain ⟨u4, rfl⟩ := fr_of (N := 101) (L := []) hO trivial
      replace S9 : St _ ((bx b1 [vU x5.1, vU x5.2] 27) :: (X1 ++ As)) _ := S9
      obtain rfl := C1.1 d0
      replace S9 : St _ ((bx b1 [vU x5.1, vU x5.2] 27) :: As) _ := S9
      replace a0h0 := a0h0.up L2
      replace h4 := h4.up L2
      replace T1 := T1.up L2
      have L3 := Mem.rfl' m7
      refine s_litOC (parts := []) (vs := []) (cls := []) (n := 0) (sz := 2) S9 Tryd.underlying22 Tryd.sizeOf27 Tryd.zeroValue27 rfl trivial rfl rfl (by decide) (by decide) ?_
      intro v2 w10 S10
      have h5 : RepL m7 [] ([] : List (UInt64 × UInt64)) := RepL.nil
      replace S10 : St _ ((row 2 v2 [] ([] : List (UInt64 × UInt64)).length) :: (bx b1 [vU x5.1, vU x5.2] 27) :: As) _ := S10
      clear S9
      refine wpn ?_
      refine ⟨m7, Mem.tr L2 L3, ⟨[row 2 v2 [] ([] : List (UInt64 × UInt64)).length], ⟨fun hx => tf rfl hx, fun _ _ => ⟨_, rfl, h5⟩, fun hx => tf hx d2⟩, ?_⟩, facts_step HM rfl K L3 rfl rfl trivial, outP⟩
      have S73 : St _ ((bx b1 [vU x5.1, vU x5.2] 27) :: (row 2 v2 [] ([] : List (UInt64 × UInt64)).length) :: As) _ := St.perm S10 (List.Perm.swap _ _ _)
      exact S73
    · intro L f5 w11 hL hd hc ⟨m8, L4, ⟨X1, C2, S11⟩, K, hO⟩
      obtain ⟨u5, rfl⟩ := fr_of (N := 101) (L := []) hO trivial
      replace S11 : St _ ((bx b1 [vU x5.1, vU x5.2] 27) :: (X1 ++ As)) _ := S11
      have L5 := Mem.rfl' m8
      refine s_mvv (v := v1) rfl ?_
      refine wpn ?_
      refine ⟨m8, Mem.tr L4 L5, ⟨X1, C2, ?_⟩, facts_step HM rfl K L5 rfl rfl rfl, outP⟩
      exact S11
    · intro L f6 w12 hL hd hc ⟨m9, L6, ⟨X1, C3, S12⟩, K, hO⟩
      obtain ⟨v3, e1⟩ : ∃ x, f6 48 = x := ⟨_, rfl⟩
      have d1 : L 1 = true := dep hd rfl
      have e2 := K 1 d1
      have d0 : L 0 = true := dep hd rfl
      have d2 : L 2 = false := hL
      obtain ⟨u6, rfl⟩ := fr_of (N := 101) (L := [(48, v3), (49, v1)]) hO ⟨e1, e2, trivial⟩
      replace S12 : St _ ((bx b1 [vU x5.1, vU x5.2] 27) :: (X1 ++ As)) _ := S12
      obtain ⟨c2, rfl, h6⟩ := C3.2.1 d0 d2
      replace h6 : RepL _ c2 ([] : List (UInt64 × UInt64)) := h6
      replace S12 : St _ ((bx b1 [vU x5.1, vU x5.2] 27) :: (row 2 v3 c2 ([] : List (UInt64 × UInt64)).length) :: As) _ := S12
      replace a0h0 := a0h0.up L6
      replace h4 := h4.up L6
      replace T1 := T1.up L6
      have L7 := Mem.rfl' m9
      refine s_app (i := 1) (zs := x6) (bytes := 16) (ti := Tryd.t27) S12 rfl rfl h6 rfl rfl h4 q6 Tryd.underlying22 Tryd.type27 rfl rfl rfl rfl ?_
      intro v4 c3 w13 S13 h7
      replace S13 : St _ ((bx b1 [vU x5.1, vU x5.2] 27) :: (row 2 v4 c3 x6.length) :: As) _ := S13
      clear S12
      refine wpn ?_
      refine ⟨m9, Mem.tr L6 L7, ⟨[row 2 v4 c3 x6.length], ⟨fun hx => tf d0 hx, fun _ hx => tf rfl hx, fun _ => ⟨_, rfl, h7⟩⟩, ?_⟩, facts_step HM rfl K L7 rfl rfl trivial, outP⟩
      exact S13
    · intro L f7 w14 hL hd hc ⟨m10, L8, ⟨X1, C4, S14⟩, K, hO⟩
      obtain ⟨u7, rfl⟩ := fr_of (N := 101) (L := []) hO trivial
      replace S14 : St _ ((bx b1 [vU x5.1, vU x5.2] 27) :: (X1 ++ As)) _ := S14
      replace a0h0 := a0h0.up L8
      replace h4 := h4.up L8
      replace T1 := T1.up L8
      have L9 := Mem.rfl' m10
      refine s_ld (i := 0) (cs := [vU x5.1, vU x5.2]) S14 rfl rfl Tryd.isAgg27 Tryd.sizeOf27 rfl (fun h => by cases h) ?_
      refine wpn ?_
      refine ⟨m10, Mem.tr L8 L9, ⟨X1, C4, ?_⟩, facts_step HM rfl K L9 rfl rfl rfl, outP⟩
      exact S14
    · intro L f8 w15 hL hd hc ⟨m11, L10, ⟨X1, C5, S15⟩, K, hO⟩
      have d3 : L 3 = true := dep hd rfl
      have e3 := K 3 d3
      obtain ⟨u8, rfl⟩ := fr_of (N := 101) (L := [(51, .agg #[vU x5.1, vU x5.2])]) hO ⟨e3, trivial⟩
      replace S15 : St _ ((bx b1 [vU x5.1, vU x5.2] 27) :: (X1 ++ As)) _ := S15
      replace a0h0 := a0h0.up L10
      replace h4 := h4.up L10
      replace T1 := T1.up L10
      have L11 := Mem.rfl' m11
      refine s_litC (parts := [.tmp 51]) (vs := [.agg #[vU x5.1, vU x5.2]]) (cls := [[vU x5.1, vU x5.2]]) (xs := ([x5] : List (UInt64 × UInt64))) (n := 1) S15 Tryd.underlying22 Tryd.sizeOf27 Tryd.zeroValue27 rfl ⟨rfl, trivial⟩ (RepL.cons (c := [vU x5.1, vU x5.2]) (x := x5) mk_arr2_UInt64 RepL.nil) rfl rfl rfl (by decide) (by decide) ?_
      intro v5 m12 w16 l7 S16 h8
      replace a0h0 := a0h0.up l7
      replace h4 := h4.up l7
      replace C5 := C5.imp id (fun q => q.imp (fun p a b => RowS.up l7 (p a b)) (fun p a => RowS.up l7 (p a)))
      replace T1 := T1.up l7
      replace L11 := Mem.tr L11 l7
      clear S15
      refine wpn ?_
      refine ⟨m12, Mem.tr L10 L11, ⟨X1, C5, ?_⟩, facts_step HM rfl K L11 rfl rfl ⟨v5, rfl, h8⟩, outP⟩
      exact S16
  intro L f9 w17 hall ⟨m13, L12, ⟨X1, C6, S17⟩, K, hO⟩
  obtain ⟨v6, e4⟩ : ∃ x, f9 50 = x := ⟨_, rfl⟩
  have d4 : L 4 = true := hall 4 (by decide)
  obtain ⟨v7, e5, h9⟩ := K 4 d4
  have d0 : L 0 = true := hall 0 (by decide)
  have d2 : L 2 = true := hall 2 (by decide)
  obtain ⟨u9, rfl⟩ := fr_of (N := 101) (L := [(50, v6), (52, v7)]) hO ⟨e4, e5, trivial⟩
  replace S17 : St _ ((bx b1 [vU x5.1, vU x5.2] 27) :: (X1 ++ As)) _ := S17
  obtain ⟨c4, rfl, h10⟩ := C6.2.2 d2
  replace h10 : RepL _ c4 x6 := h10
  replace S17 : St _ ((bx b1 [vU x5.1, vU x5.2] 27) :: (row 2 v6 c4 x6.length) :: As) _ := S17
  replace a0h0 := a0h0.up L12
  replace h4 := h4.up L12
  replace T1 := T1.up L12
  replace L0 := Mem.tr L0 L12
  clear S8
  obtain ⟨x7, q7, hm⟩ := obind_some hm
  refine s_app (i := 1) (zs := x7) (bytes := 16) (ti := Tryd.t27) S17 rfl rfl h10 rfl rfl h9 q7 Tryd.underlying22 Tryd.type27 rfl rfl rfl rfl ?_
  intro v8 c5 w18 S18 h11
  replace S18 : St _ ((bx b1 [vU x5.1, vU x5.2] 27) :: (row 2 v8 c5 x7.length) :: As) _ := S18
  clear S17
  refine s_asv (v := v8) rfl ?_
  refine wpl_nil ?_
  refine nrm ?_
  refine wpc_seq ?_
  obtain ⟨m14, l8, h12, S19⟩ := St.rowKeepT (i := 1) S18 rfl h11 rfl
  replace a0h0 := a0h0.up l8
  replace h4 := h4.up l8
  replace T1 := T1.up l8
  replace L0 := Mem.tr L0 l8
  clear S18
  obtain ⟨x8, q8, hm⟩ := obind_some hm
  obtain ⟨x9, q9, hm⟩ := obind_some hm
  obtain ⟨x10, q10, hm⟩ := obind_some hm
  obtain ⟨x11, q11, hm⟩ := obind_some hm
  obtain ⟨x12, q12, hm⟩ := obind_some hm
  have HM : MonoAll [(54, fun (M : Mem) (v : Value) => v = a0v0), (55, fun (M : Mem) (v : Value) => v = vI a1), (56, fun (M : Mem) (v : Value) => ∃ (p1 : Value), v = p1 ∧ PtC M p1 [vU x8.1, vU x8.2]), (57, fun (M : Mem) (v : Value) => v = .agg #[vU x8.1, vU x8.2]), (58, fun (M : Mem) (v : Value) => v = vI a1), (59, fun (M : Mem) (v : Value) => v = a0v0), (60, fun (M : Mem) (v : Value) => v = vI (a0.length : Int)), (61, fun (M : Mem) (v : Value) => v = v8), (62, fun (M : Mem) (v : Value) => v = .agg #[vU x5.1, vU x5.2]), (63, fun (M : Mem) (v : Value) => v = vI x9), (64, fun (M : Mem) (v : Value) => v = vb (x9 == 80)), (65, fun (M : Mem) (v : Value) => v = vb (x9 == 80)), (66, fun (M : Mem) (v : Value) => ((x9 == 80) = true → v = v1) ∧ ((x9 == 80) = false → v = undef)), (67, fun (M : Mem) (v : Value) => ((x9 == 80) = true → v = vI (x2.1.length : Int)) ∧ ((x9 == 80) = false → v = undef)), (68, fun (M : Mem) (v : Value) => ((x9 == 80) = true → v = vb ((x2.1.length : Int) == 0)) ∧ ((x9 == 80) = false → v = undef)), (69, fun (M : Mem) (v : Value) => ((x9 == 80) = true → v = vb ((x2.1.length : Int) == 0)) ∧ ((x9 == 80) = false → v = undef)), (70, fun (M : Mem) (v : Value) => (((x9 == 80) && (!((x2.1.length : Int) == 0))) = true → v = a0v0) ∧ (((x9 == 80) && (!((x2.1.length : Int) == 0))) = false → v = undef)), (71, fun (M : Mem) (v : Value) => (((x9 == 80) && (!((x2.1.length : Int) == 0))) = true → v = vI a1) ∧ (((x9 == 80) && (!((x2.1.length : Int) == 0))) = false → v = undef)), (72, fun (M : Mem) (v : Value) => (((x9 == 80) && (!((x2.1.length : Int) == 0))) = true → ∃ (p2 : Value), v = p2 ∧ PtC M p2 [vU x10.1, vU x10.2]) ∧ (((x9 == 80) && (!((x2.1.length : Int) == 0))) = false → v = undef)), (73, fun (M : Mem) (v : Value) => (((x9 == 80) && (!((x2.1.length : Int) == 0))) = true → v = .agg #[vU x10.1, vU x10.2]) ∧ (((x9 == 80) && (!((x2.1.length : Int) == 0))) = false → v = undef)), (74, fun (M : Mem) (v : Value) => (((x9 == 80) && (!((x2.1.length : Int) == 0))) = true → v = vI a1) ∧ (((x9 == 80) && (!((x2.1.length : Int) == 0))) = false → v = undef)), (75, fun (M : Mem) (v : Value) => (((x9 == 80) && (!((x2.1.length : Int) == 0))) = true → v = a0v0) ∧ (((x9 == 80) && (!((x2.1.length : Int) == 0))) = false → v = undef)), (76, fun (M : Mem) (v : Value) => (((x9 == 80) && (!((x2.1.length : Int) == 0))) = true → v = vI (a0.length : Int)) ∧ (((x9 == 80) && (!((x2.1.length : Int) == 0))) = false → v = undef)), (77, fun (M : Mem) (v : Value) => (((x9 == 80) && (!((x2.1.length : Int) == 0))) = true → v = v1) ∧ (((x9 == 80) && (!((x2.1.length : Int) == 0))) = false → v = undef)), (78, fun (M : Mem) (v : Value) => (((x9 == 80) && (!((x2.1.length : Int) == 0))) = true → ∃ (v11 : Value), v = v11 ∧ SlR M v11 x11) ∧ (((x9 == 80) && (!((x2.1.length : Int) == 0))) = false → v = undef)), (79, fun (M : Mem) (v : Value) => (((x9 == 80) && (!((x2.1.length : Int) == 0))) = true → v = .agg #[vU x5.1, vU x5.2]) ∧ (((x9 == 80) && (!((x2.1.length : Int) == 0))) = false → v = undef)), (80, fun (M : Mem) (v : Value) => (((x9 == 80) && (!((x2.1.length : Int) == 0))) = true → v = vI x12) ∧ (((x9 == 80) && (!((x2.1.length : Int) == 0))) = false → v = undef)), (81, fun (M : Mem) (v : Value) => (((x9 == 80) && (!((x2.1.length : Int) == 0))) = true → v = vb (x12 == 80)) ∧ (((x9 == 80) && (!((x2.1.length : Int) == 0))) = false → v = undef)), (82, fun (M : Mem) (v : Value) => ((x9 == 80) = true → v = vb (((x2.1.length : Int) == 0) || (x12 == 80))) ∧ ((x9 == 80) = false → v = undef)), (83, fun (M : Mem) (v : Value) => v = vb ((x9 == 80) && (((x2.1.length : Int) == 0) || (x12 == 80))))] := ⟨(fun _ _ _ _ h => h), (fun _ _ _ _ h => h), (fun _ _ _ l ⟨p1, e, h13⟩ => ⟨p1, e, h13.up l⟩), (fun _ _ _ _ h => h), (fun _ _ _ _ h => h), (fun _ _ _ _ h => h), (fun _ _ _ _ h => h), (fun _ _ _ _ h => h), (fun _ _ _ _ h => h), (fun _ _ _ _ h => h), (fun _ _ _ _ h => h), (fun _ _ _ _ h => h), (fun _ _ _ _ h => h), (fun _ _ _ _ h => h), (fun _ _ _ _ h => h), (fun _ _ _ _ h => h), (fun _ _ _ _ h => h), (fun _ _ _ _ h => h), (fun _ _ _ l h => ⟨fun c => let ⟨p2, e, h15⟩ := h.1 c; ⟨p2, e, h15.up l⟩, h.2⟩), (fun _ _ _ _ h => h), (fun _ _ _ _ h => h), (fun _ _ _ _ h => h), (fun _ _ _ _ h => h), (fun _ _ _ _ h => h), (fun _ _ _ l h => ⟨fun c => let ⟨v11, e, h17⟩ := h.1 c; ⟨v11, e, h17.up l⟩, h.2⟩), (fun _ _ _ _ h => h), (fun _ _ _ _ h => h), (fun _ _ _ _ h => h), (fun _ _ _ _ h => h), (fun _ _ _ _ h => h), trivial⟩
  refine wpc_flowG HM 30 mixed rfl rfl rfl [54, 55, 56, 57, 58, 59, 60, 61, 62, 63, 64, 65, 66, 67, 68, 69, 70, 71, 72, 73, 74, 75, 76, 77, 78, 79, 80, 81, 82, 83] (fun L f M w => St M ((bx b1 [vU x5.1, vU x5.2] 27) :: As) w) (St.drew S19 _) ?_ ?_
  · refine ⟨?_, ?_, ?_, ?_, ?_, ?_, ?_, ?_, ?_, ?_, ?_, ?_, ?_, ?_, ?_, ?_, ?_, ?_, ?_, ?_, ?_, ?_, ?_, ?_, ?_, ?_, ?_, ?_, ?_, ?_, trivial⟩
    · intro L f10 w19 hL hd hc ⟨m15, L13, S20, K, hO⟩
      obtain ⟨u10, rfl⟩ := fr_of (N := 101) (L := []) hO trivial
      replace S20 : St _ ((bx b1 [vU x5.1, vU x5.2] 27) :: As) _ := S20
      have L14 := Mem.rfl' m15
      refine s_mvv (v := a0v0) rfl ?_
      refine wpn ?_
      refine ⟨m15, Mem.tr L13 L14, ?_, facts_step HM rfl K L14 rfl rfl rfl, outP⟩
      exact S20
    · intro L f11 w20 hL hd hc ⟨m16, L15, S21, K, hO⟩
      obtain ⟨u11, rfl⟩ := fr_of (N := 101) (L := []) hO trivial
      replace S21 : St _ ((bx b1 [vU x5.1, vU x5.2] 27) :: As) _ := S21
      have L16 := Mem.rfl' m16
      refine s_mvv (v := vI a1) rfl ?_
      refine wpn ?_
      refine ⟨m16, Mem.tr L15 L16, ?_, facts_step HM rfl K L16 rfl rfl rfl, outP⟩
      exact S21
    · intro L f12 w21 hL hd hc ⟨m17, L17, S22, K, hO⟩
      have d0 : L 0 = true := dep hd rfl
      have e6 := K 0 d0
      have d1 : L 1 = true := dep hd rfl
      have e7 := K 1 d1
      obtain ⟨u12, rfl⟩ := fr_of (N := 101) (L := [(54, a0v0), (55, vI a1)]) hO ⟨e6, e7, trivial⟩
      replace S22 : St _ ((bx b1 [vU x5.1, vU x5.2] 27) :: As) _ := S22
      replace a0h0 := a0h0.up L17
      replace h4 := h4.up L17
      replace h12 := h12.up L17
      replace T1 := T1.up L17
      have L18 := Mem.rfl' m17
      refine s_idx (q := x8) rfl rfl a0h0 q8 Tryd.underlying22 Tryd.sizeOf27 ?_
      intro p1 c6 h13 r3
      obtain rfl := rep_arr2_UInt64 r3
      refine wpn ?_
      refine ⟨m17, Mem.tr L17 L18, ?_, facts_step HM rfl K L18 rfl rfl ⟨p1, rfl, h13⟩, outP⟩
      exact S22
    · intro L f13 w22 hL hd hc ⟨m18, L19, S23, K, hO⟩
      have d2 : L 2 = true := dep hd rfl
      obtain ⟨v9, e8, h14⟩ := K 2 d2
      obtain ⟨u13, rfl⟩ := fr_of (N := 101) (L := [(56, v9)]) hO ⟨e8, trivial⟩
      replace S23 : St _ ((bx b1 [vU x5.1, vU x5.2] 27) :: As) _ := S23
      replace a0h0 := a0h0.up L19
      replace h4 := h4.up L19
      replace h12 := h12.up L19
      replace T1 := T1.up L19
      have L20 := Mem.rfl' m18
      refine s_ldM (cs := [vU x8.1, vU x8.2]) S23 rfl h14 rfl Tryd.isAgg27 Tryd.sizeOf27 (fun h => by cases h) ?_
      refine wpn ?_
      refine ⟨m18, Mem.tr L19 L20, ?_, facts_step HM rfl K L20 rfl rfl rfl, outP⟩
      exact S23
    · intro L f14 w23 hL hd hc ⟨m19, L21, S24, K, hO⟩
      obtain ⟨u14, rfl⟩ := fr_of (N := 101) (L := []) hO trivial
      replace S24 : St _ ((bx b1 [vU x5.1, vU x5.2] 27) :: As) _ := S24
      have L22 := Mem.rfl' m19
      refine s_mvv (v := vI a1) rfl ?_
      refine wpn ?_
      refine ⟨m19, Mem.tr L21 L22, ?_, facts_step HM rfl K L22 rfl rfl rfl, outP⟩
      exact S24
    · intro L f15 w24 hL hd hc ⟨m20, L23, S25, K, hO⟩
      obtain ⟨u15, rfl⟩ := fr_of (N := 101) (L := []) hO trivial
      replace S25 : St _ ((bx b1 [vU x5.1, vU x5.2] 27) :: As) _ := S25
      have L24 := Mem.rfl' m20
      refine s_mvv (v := a0v0) rfl ?_
      refine wpn ?_
      refine ⟨m20, Mem.tr L23 L24, ?_, facts_step HM rfl K L24 rfl rfl rfl, outP⟩
      exact S25
    · intro L f16 w25 hL hd hc ⟨m21, L25, S26, K, hO⟩
      have d5 : L 5 = true := dep hd rfl
      have e9 := K 5 d5
      obtain ⟨u16, rfl⟩ := fr_of (N := 101) (L := [(59, a0v0)]) hO ⟨e9, trivial⟩
      replace S26 : St _ ((bx b1 [vU x5.1, vU x5.2] 27) :: As) _ := S26
      replace a0h0 := a0h0.up L25
      replace h4 := h4.up L25
      replace h12 := h12.up L25
      replace T1 := T1.up L25
      have L26 := Mem.rfl' m21
      refine s_lenR (xs := a0) rfl a0h0 Tryd.underlying22 ?_
      refine wpn ?_
      refine ⟨m21, Mem.tr L25 L26, ?_, facts_step HM rfl K L26 rfl rfl rfl, outP⟩
      exact S26
    · intro L f17 w26 hL hd hc ⟨m22, L27, S27, K, hO⟩
      obtain ⟨u17, rfl⟩ := fr_of (N := 101) (L := []) hO trivial
      replace S27 : St _ ((bx b1 [vU x5.1, vU x5.2] 27) :: As) _ := S27
      have L28 := Mem.rfl' m22
      refine s_mvv (v := v8) rfl ?_
      refine wpn ?_
      refine ⟨m22, Mem.tr L27 L28, ?_, facts_step HM rfl K L28 rfl rfl rfl, outP⟩
      exact S27
    · intro L f18 w27 hL hd hc ⟨m23, L29, S28, K, hO⟩
      obtain ⟨u18, rfl⟩ := fr_of (N := 101) (L := []) hO trivial
      replace S28 : St _ ((bx b1 [vU x5.1, vU x5.2] 27) :: As) _ := S28
      replace a0h0 := a0h0.up L29
      replace h4 := h4.up L29
      replace h12 := h12.up L29
      replace T1 := T1.up L29
      have L30 := Mem.rfl' m23
      refine s_ld (i := 0) (cs := [vU x5.1, vU x5.2]) S28 rfl rfl Tryd.isAgg27 Tryd.sizeOf27 rfl (fun h => by cases h) ?_
      refine wpn ?_
      refine ⟨m23, Mem.tr L29 L30, ?_, facts_step HM rfl K L30 rfl rfl rfl, outP⟩
      exact S28
    · intro L f19 w28 hL hd hc ⟨m24, L31, S29, K, hO⟩
      have d3 : L 3 = true := dep hd rfl
      have e10 := K 3 d3
      have d4 : L 4 = true := dep hd rfl
      have e11 := K 4 d4
      have d6 : L 6 = true := dep hd rfl
      have e12 := K 6 d6
      have d7 : L 7 = true := dep hd rfl
      have e13 := K 7 d7
      have d8 : L 8 = true := dep hd rfl
      have e14 := K 8 d8
      obtain ⟨u19, rfl⟩ := fr_of (N := 101) (L := [(57, .agg #[vU x8.1, vU x8.2]), (58, vI a1), (60, vI (a0.length : Int)), (61, v8), (62, .agg #[vU x5.1, vU x5.2])]) hO ⟨e10, e11, e12, e13, e14, trivial⟩
      replace S29 : St _ ((bx b1 [vU x5.1, vU x5.2] 27) :: As) _ := S29
      replace a0h0 := a0h0.up L31
      replace h4 := h4.up L31
      replace h12 := h12.up L31
      replace T1 := T1.up L31
      have L32 := Mem.rfl' m24
      refine s_call Tryd.call21 (w_merkle_Check (a0 := x8) (a1 := a1) (a2 := (a0.length : Int)) (a3 := x7) (a4 := x5) S29 h12 q9) rfl ?_
      rintro _ w29 ⟨m25, l9, S30, rfl⟩
      replace a0h0 := a0h0.up l9
      replace h4 := h4.up l9
      replace h12 := h12.up l9
      replace T1 := T1.up l9
      replace L32 := Mem.tr L32 l9
      clear S29
      replace S30 : St _ ((bx b1 [vU x5.1, vU x5.2] 27) :: As) _ := S30
      refine wpn ?_
      refine ⟨m25, Mem.tr L31 L32, ?_, facts_step HM rfl K L32 rfl rfl rfl, outP⟩
      exact S30
    · intro L f20 w30 hL hd hc ⟨m26, L33, S31, K, hO⟩
      have d9 : L 9 = true := dep hd rfl
      have e15 := K 9 d9
      obtain ⟨u20, rfl⟩ := fr_of (N := 101) (L := [(63, vI x9)]) hO ⟨e15, trivial⟩
      replace S31 : St _ ((bx b1 [vU x5.1, vU x5.2] 27) :: As) _ := S31
      have L34 := Mem.rfl' m26
      refine s_eql (m := x9) (n := 80) rfl rfl ?_
      refine wpn ?_
      refine ⟨m26, Mem.tr L33 L34, ?_, facts_step HM rfl K L34 rfl rfl rfl, outP⟩
      exact S31
    · intro L f21 w31 hL hd hc ⟨m27, L35, S32, K, hO⟩
      have d10 : L 10 = true := dep hd rfl
      have e16 := K 10 d10
      obtain ⟨u21, rfl⟩ := fr_of (N := 101) (L := [(64, vb (x9 == 80))]) hO ⟨e16, trivial⟩
      replace S32 : St _ ((bx b1 [vU x5.1, vU x5.2] 27) :: As) _ := S32
      have L36 := Mem.rfl' m27
      refine s_mvv (v := vb (x9 == 80)) rfl ?_
      refine wpn ?_
      refine ⟨m27, Mem.tr L35 L36, ?_, facts_step HM rfl K L36 rfl rfl rfl, outP⟩
      exact S32
    · intro L f22 w32 hL hd hc ⟨m28, L37, S33, K, hO⟩
      rcases bool_tf (x9 == 80) with hb5 | hb5
      · have d11 : L 11 = true := dep hd rfl
        have e17 := K 11 d11
        obtain ⟨u22, rfl⟩ := fr_of (N := 101) (L := [(65, vb (x9 == 80))]) hO ⟨e17, trivial⟩
        replace S33 : St _ ((bx b1 [vU x5.1, vU x5.2] 27) :: As) _ := S33
        have L38 := Mem.rfl' m28
        refine wpl_yes (d := 65) rfl rfl (congrArg Value.bool hb5) ?_
        refine s_mvv (v := v1) rfl ?_
        refine wpn ?_
        refine ⟨m28, Mem.tr L37 L38, ?_, facts_step HM rfl K L38 rfl rfl ⟨fun _ => rfl, fun hx => tf hb5 hx⟩, outP⟩
        exact S33
      have d11 : L 11 = true := dep hd rfl
      have e18 := K 11 d11
      obtain ⟨u23, rfl⟩ := fr_of (N := 101) (L := [(65, vb (x9 == 80))]) hO ⟨e18, trivial⟩
      replace S33 : St _ ((bx b1 [vU x5.1, vU x5.2] 27) :: As) _ := S33
      have L39 := Mem.rfl' m28
      refine wpl_no (d := 65) rfl rfl (congrArg Value.bool hb5) ?_
      refine wpn ?_
      refine ⟨m28, Mem.tr L37 L39, ?_, facts_step HM rfl K L39 rfl rfl ⟨fun hx => tf hx hb5, fun _ => rfl⟩, outP⟩
      exact S33
    · intro L f23 w33 hL hd hc ⟨m29, L40, S34, K, hO⟩
      rcases bool_tf (x9 == 80) with hb6 | hb6
      · have d11 : L 11 = true := dep hd rfl
        have e19 := K 11 d11
        have d12 : L 12 = true := dep hd rfl
        have e20 := (K 12 d12).1 hb6
        obtain ⟨u24, rfl⟩ := fr_of (N := 101) (L := [(65, vb (x9 == 80)), (66, v1)]) hO ⟨e19, e20, trivial⟩
        replace S34 : St _ ((bx b1 [vU x5.1, vU x5.2] 27) :: As) _ := S34
        replace a0h0 := a0h0.up L40
        replace h4 := h4.up L40
        replace h12 := h12.up L40
        replace T1 := T1.up L40
        have L41 := Mem.rfl' m29
        refine wpl_yes (d := 65) rfl rfl (congrArg Value.bool hb6) ?_
        refine s_lenR (xs := x2.1) rfl h4 Tryd.underlying22 ?_
        refine wpn ?_
        refine ⟨m29, Mem.tr L40 L41, ?_, facts_step HM rfl K L41 rfl rfl ⟨fun _ => rfl, fun hx => tf hb6 hx⟩, outP⟩
        exact S34
      have d11 : L 11 = true := dep hd rfl
      have e21 := K 11 d11
      obtain ⟨u25, rfl⟩ := fr_of (N := 101) (L := [(65, vb (x9 == 80))]) hO ⟨e21, trivial⟩
      replace S34 : St _ ((bx b1 [vU x5.1, vU x5.2] 27) :: As) _ := S34
      have L42 := Mem.rfl' m29
      refine wpl_no (d := 65) rfl rfl (congrArg Value.bool hb6) ?_
      refine wpn ?_
      refine ⟨m29, Mem.tr L40 L42, ?_, facts_step HM rfl K L42 rfl rfl ⟨fun hx => tf hx hb6, fun _ => rfl⟩, outP⟩
      exact S34
    · intro L f24 w34 hL hd hc ⟨m30, L43, S35, K, hO⟩
      rcases bool_tf (x9 == 80) with hb7 | hb7
      · have d11 : L 11 = true := dep hd rfl
        have e22 := K 11 d11
        have d13 : L 13 = true := dep hd rfl
        have e23 := (K 13 d13).1 hb7
        obtain ⟨u26, rfl⟩ := fr_of (N := 101) (L := [(65, vb (x9 == 80)), (67, vI (x2.1.length : Int))]) hO ⟨e22, e23, trivial⟩
        replace S35 : St _ ((bx b1 [vU x5.1, vU x5.2] 27) :: As) _ := S35
        have L44 := Mem.rfl' m30
        refine wpl_yes (d := 65) rfl rfl (congrArg Value.bool hb7) ?_
        refine s_eql (m := (x2.1.length : Int)) (n := 0) rfl rfl ?_
        refine wpn ?_
        refine ⟨m30, Mem.tr L43 L44, ?_, facts_step HM rfl K L44 rfl rfl ⟨fun _ => rfl, fun hx => tf hb7 hx⟩, outP⟩
        exact S35
      have d11 : L 11 = true := dep hd rfl
      have e24 := K 11 d11
      obtain ⟨u27, rfl⟩ := fr_of (N := 101) (L := [(65, vb (x9 == 80))]) hO ⟨e24, trivial⟩
      replace S35 : St _ ((bx b1 [vU x5.1, vU x5.2] 27) :: As) _ := S35
      have L45 := Mem.rfl' m30
      refine wpl_no (d := 65) rfl rfl (congrArg Value.bool hb7) ?_
      refine wpn ?_
      refine ⟨m30, Mem.tr L43 L45, ?_, facts_step HM rfl K L45 rfl rfl ⟨fun hx => tf hx hb7, fun _ => rfl⟩, outP⟩
      exact S35
    · intro L f25 w35 hL hd hc ⟨m31, L46, S36, K, hO⟩
      rcases bool_tf (x9 == 80) with hb8 | hb8
      · have d11 : L 11 = true := dep hd rfl
        have e25 := K 11 d11
        have d14 : L 14 = true := dep hd rfl
        have e26 := (K 14 d14).1 hb8
        obtain ⟨u28, rfl⟩ := fr_of (N := 101) (L := [(65, vb (x9 == 80)), (68, vb ((x2.1.length : Int) == 0))]) hO ⟨e25, e26, trivial⟩
        replace S36 : St _ ((bx b1 [vU x5.1, vU x5.2] 27) :: As) _ := S36
        have L47 := Mem.rfl' m31
        refine wpl_yes (d := 65) rfl rfl (congrArg Value.bool hb8) ?_
        refine s_mvv (v := vb ((x2.1.length : Int) == 0)) rfl ?_
        refine wpn ?_
        refine ⟨m31, Mem.tr L46 L47, ?_, facts_step HM rfl K L47 rfl rfl ⟨fun _ => rfl, fun hx => tf hb8 hx⟩, outP⟩
        exact S36
      have d11 : L 11 = true := dep hd rfl
      have e27 := K 11 d11
      obtain ⟨u29, rfl⟩ := fr_of (N := 101) (L := [(65, vb (x9 == 80))]) hO ⟨e27, trivial⟩
      replace S36 : St _ ((bx b1 [vU x5.1, vU x5.2] 27) :: As) _ := S36
      have L48 := Mem.rfl' m31
      refine wpl_no (d := 65) rfl rfl (congrArg Value.bool hb8) ?_
      refine wpn ?_
      refine ⟨m31, Mem.tr L46 L48, ?_, facts_step HM rfl K L48 rfl rfl ⟨fun hx => tf hx hb8, fun _ => rfl⟩, outP⟩
      exact S36
    · intro L f26 w36 hL hd hc ⟨m32, L49, S37, K, hO⟩
      rcases bool_tf (x9 == 80) with hb9 | hb9
      · rcases bool_tf ((x2.1.length : Int) == 0) with hb10 | hb10
        · have d15 : L 15 = true := dep hd rfl
          have e29 := (K 15 d15).1 hb9
          obtain ⟨u31, rfl⟩ := fr_of (N := 101) (L := [(69, vb ((x2.1.length : Int) == 0))]) hO ⟨e29, trivial⟩
          replace S37 : St _ ((bx b1 [vU x5.1, vU x5.2] 27) :: As) _ := S37
          have L51 := Mem.rfl' m32
          refine wpl_no (d := 69) rfl rfl (congrArg Value.bool hb10) ?_
          refine wpn ?_
          refine ⟨m32, Mem.tr L49 L51, ?_, facts_step HM rfl K L51 rfl rfl ⟨fun hx => tf hx (and_fr (not_f hb10)), fun _ => rfl⟩, outP⟩
          exact S37
        have d15 : L 15 = true := dep hd rfl
        have e28 := (K 15 d15).1 hb9
        obtain ⟨u30, rfl⟩ := fr_of (N := 101) (L := [(69, vb ((x2.1.length : Int) == 0))]) hO ⟨e28, trivial⟩
        replace S37 : St _ ((bx b1 [vU x5.1, vU x5.2] 27) :: As) _ := S37
        have L50 := Mem.rfl' m32
        refine wpl_yes (d := 69) rfl rfl (congrArg Value.bool hb10) ?_
        refine s_mvv (v := a0v0) rfl ?_
        refine wpn ?_
        refine ⟨m32, Mem.tr L49 L50, ?_, facts_step HM rfl K L50 rfl rfl ⟨fun _ => rfl, fun hx => tf (and_tt hb9 (not_t hb10)) hx⟩, outP⟩
        exact S37
      have d15 : L 15 = true := dep hd rfl
      have e30 := (K 15 d15).2 hb9
      obtain ⟨u32, rfl⟩ := fr_of (N := 101) (L := [(69, undef)]) hO ⟨e30, trivial⟩
      replace S37 : St _ ((bx b1 [vU x5.1, vU x5.2] 27) :: As) _ := S37
      have L52 := Mem.rfl' m32
      refine wpl_no' (d := 69) rfl rfl rfl ?_
      refine wpn ?_
      refine ⟨m32, Mem.tr L49 L52, ?_, facts_step HM rfl K L52 rfl rfl ⟨fun hx => tf hx (and_fl hb9), fun _ => rfl⟩, outP⟩
      exact S37
    · intro L f27 w37 hL hd hc ⟨m33, L53, S38, K, hO⟩
      rcases bool_tf (x9 == 80) with hb11 | hb11
      · rcases bool_tf ((x2.1.length : Int) == 0) with hb12 | hb12
        · have d15 : L 15 = true := dep hd rfl
          have e32 := (K 15 d15).1 hb11
          obtain ⟨u34, rfl⟩ := fr_of (N := 101) (L := [(69, vb ((x2.1.length : Int) == 0))]) hO ⟨e32, trivial⟩
          replace S38 : St _ ((bx b1 [vU x5.1, vU x5.2] 27) :: As) _ := S38
          have L55 := Mem.rfl' m33
          refine wpl_no (d := 69) rfl rfl (congrArg Value.bool hb12) ?_
          refine wpn ?_
          refine ⟨m33, Mem.tr L53 L55, ?_, facts_step HM rfl K L55 rfl rfl ⟨fun hx => tf hx (and_fr (not_f hb12)), fun _ => rfl⟩, outP⟩
          exact S38
        have d15 : L 15 = true := dep hd rfl
        have e31 := (K 15 d15).1 hb11
        obtain ⟨u33, rfl⟩ := fr_of (N := 101) (L := [(69, vb ((x2.1.length : Int) == 0))]) hO ⟨e31, trivial⟩
        replace S38 : St _ ((bx b1 [vU x5.1, vU x5.2] 27) :: As) _ := S38
        have L54 := Mem.rfl' m33
        refine wpl_yes (d := 69) rfl rfl (congrArg Value.bool hb12) ?_
        refine s_mvv (v := vI a1) rfl ?_
        refine wpn ?_
        refine ⟨m33, Mem.tr L53 L54, ?_, facts_step HM rfl K L54 rfl rfl ⟨fun _ => rfl, fun hx => tf (and_tt hb11 (not_t hb12)) hx⟩, outP⟩
        exact S38
      have d15 : L 15 = true := dep hd rfl
      have e33 := (K 15 d15).2 hb11
      obtain ⟨u35, rfl⟩ := fr_of (N := 101) (L := [(69, undef)]) hO ⟨e33, trivial⟩
      replace S38 : St _ ((bx b1 [vU x5.1, vU x5.2] 27) :: As) _ := S38
      have L56 := Mem.rfl' m33
      refine wpl_no' (d := 69) rfl rfl rfl ?_
      refine wpn ?_
      refine ⟨m33, Mem.tr L53 L56, ?_, facts_step HM rfl K L56 rfl rfl ⟨fun hx => tf hx (and_fl hb11), fun _ => rfl⟩, outP⟩
      exact S38
    · intro L f28 w38 hL hd hc ⟨m34, L57, S39, K, hO⟩
      rcases bool_tf (x9 == 80) with hb13 | hb13
      · rcases bool_tf ((x2.1.length : Int) == 0) with hb14 | hb14
        · have d15 : L 15 = true := dep hd rfl
          have e37 := (K 15 d15).1 hb13
          obtain ⟨u37, rfl⟩ := fr_of (N := 101) (L := [(69, vb ((x2.1.length : Int) == 0))]) hO ⟨e37, trivial⟩
          replace S39 : St _ ((bx b1 [vU x5.1, vU x5.2] 27) :: As) _ := S39
          have L59 := Mem.rfl' m34
          refine wpl_no (d := 69) rfl rfl (congrArg Value.bool hb14) ?_
          refine wpn ?_
          refine ⟨m34, Mem.tr L57 L59, ?_, facts_step HM rfl K L59 rfl rfl ⟨fun hx => tf hx (and_fr (not_f hb14)), fun _ => rfl⟩, outP⟩
          exact S39
        have d15 : L 15 = true := dep hd rfl
        have e34 := (K 15 d15).1 hb13
        have d16 : L 16 = true := dep hd rfl
        have e35 := (K 16 d16).1 (and_tt hb13 (not_t hb14))
        have d17 : L 17 = true := dep hd rfl
        have e36 := (K 17 d17).1 (and_tt hb13 (not_t hb14))
        obtain ⟨u36, rfl⟩ := fr_of (N := 101) (L := [(69, vb ((x2.1.length : Int) == 0)), (70, a0v0), (71, vI a1)]) hO ⟨e34, e35, e36, trivial⟩
        replace S39 : St _ ((bx b1 [vU x5.1, vU x5.2] 27) :: As) _ := S39
        replace a0h0 := a0h0.up L57
        replace h4 := h4.up L57
        replace h12 := h12.up L57
        replace T1 := T1.up L57
        have L58 := Mem.rfl' m34
        refine wpl_yes (d := 69) rfl rfl (congrArg Value.bool hb14) ?_
        replace q10 := gu_t (and_tt hb13 (not_t hb14)) q10
        refine s_idx (q := x10) rfl rfl a0h0 q10 Tryd.underlying22 Tryd.sizeOf27 ?_
        intro p2 c7 h15 r4
        obtain rfl := rep_arr2_UInt64 r4
        refine wpn ?_
        refine ⟨m34, Mem.tr L57 L58, ?_, facts_step HM rfl K L58 rfl rfl ⟨fun _ => ⟨p2, rfl, h15⟩, fun hx => tf (and_tt hb13 (not_t hb14)) hx⟩, outP⟩
        exact S39
      have d15 : L 15 = true := dep hd rfl
      have e38 := (K 15 d15).2 hb13
      obtain ⟨u38, rfl⟩ := fr_of (N := 101) (L := [(69, undef)]) hO ⟨e38, trivial⟩
      replace S39 : St _ ((bx b1 [vU x5.1, vU x5.2] 27) :: As) _ := S39
      have L60 := Mem.rfl' m34
      refine wpl_no' (d := 69) rfl rfl rfl ?_
      refine wpn ?_
      refine ⟨m34, Mem.tr L57 L60, ?_, facts_step HM rfl K L60 rfl rfl ⟨fun hx => tf hx (and_fl hb13), fun _ => rfl⟩, outP⟩
      exact S39
    · intro L f29 w39 hL hd hc ⟨m35, L61, S40, K, hO⟩
      rcases bool_tf (x9 == 80) with hb15 | hb15
      · rcases bool_tf ((x2.1.length : Int) == 0) with hb16 | hb16
        · have d15 : L 15 = true := dep hd rfl
          have e41 := (K 15 d15).1 hb15
          obtain ⟨u40, rfl⟩ := fr_of (N := 101) (L := [(69, vb ((x2.1.length : Int) == 0))]) hO ⟨e41, trivial⟩
          replace S40 : St _ ((bx b1 [vU x5.1, vU x5.2] 27) :: As) _ := S40
          have L63 := Mem.rfl' m35
          refine wpl_no (d := 69) rfl rfl (congrArg Value.bool hb16) ?_
          refine wpn ?_
          refine ⟨m35, Mem.tr L61 L63, ?_, facts_step HM rfl K L63 rfl rfl ⟨fun hx => tf hx (and_fr (not_f hb16)), fun _ => rfl⟩, outP⟩
          exact S40
        have d15 : L 15 = true := dep hd rfl
        have e39 := (K 15 d15).1 hb15
        have d18 : L 18 = true := dep hd rfl
        obtain ⟨v10, e40, h16⟩ := (K 18 d18).1 (and_tt hb15 (not_t hb16))
        obtain ⟨u39, rfl⟩ := fr_of (N := 101) (L := [(69, vb ((x2.1.length : Int) == 0)), (72, v10)]) hO ⟨e39, e40, trivial⟩
        replace S40 : St _ ((bx b1 [vU x5.1, vU x5.2] 27) :: As) _ := S40
        replace a0h0 := a0h0.up L61
        replace h4 := h4.up L61
        replace h12 := h12.up L61
        replace T1 := T1.up L61
        have L62 := Mem.rfl' m35
        refine wpl_yes (d := 69) rfl rfl (congrArg Value.bool hb16) ?_
        refine s_ldM (cs := [vU x10.1, vU x10.2]) S40 rfl h16 rfl Tryd.isAgg27 Tryd.sizeOf27 (fun h => by cases h) ?_
        refine wpn ?_
        refine ⟨m35, Mem.tr L61 L62, ?_, facts_step HM rfl K L62 rfl rfl ⟨fun _ => rfl, fun hx => tf (and_tt hb15 (not_t hb16)) hx⟩, outP⟩
        exact S40
      have d15 : L 15 = true := dep hd rfl
      have e42 := (K 15 d15).2 hb15
      obtain ⟨u41, rfl⟩ := fr_of (N := 101) (L := [(69, undef)]) hO ⟨e42, trivial⟩
      replace S40 : St _ ((bx b1 [vU x5.1, vU x5.2] 27) :: As) _ := S40
      have L64 := Mem.rfl' m35
      refine wpl_no' (d := 69) rfl rfl rfl ?_
      refine wpn ?_
      refine ⟨m35, Mem.tr L61 L64, ?_, facts_step HM rfl K L64 rfl rfl ⟨fun hx => tf hx (and_fl hb15), fun _ => rfl⟩, outP⟩
      exact S40
    · intro L f30 w40 hL hd hc ⟨m36, L65, S41, K, hO⟩
      rcases bool_tf (x9 == 80) with hb17 | hb17
      · rcases bool_tf ((x2.1.length : Int) == 0) with hb18 | hb18
        · have d15 : L 15 = true := dep hd rfl
          have e44 := (K 15 d15).1 hb17
          obtain ⟨u43, rfl⟩ := fr_of (N := 101) (L := [(69, vb ((x2.1.length : Int) == 0))]) hO ⟨e44, trivial⟩
          replace S41 : St _ ((bx b1 [vU x5.1, vU x5.2] 27) :: As) _ := S41
          have L67 := Mem.rfl' m36
          refine wpl_no (d := 69) rfl rfl (congrArg Value.bool hb18) ?_
          refine wpn ?_
          refine ⟨m36, Mem.tr L65 L67, ?_, facts_step HM rfl K L67 rfl rfl ⟨fun hx => tf hx (and_fr (not_f hb18)), fun _ => rfl⟩, outP⟩
          exact S41
        have d15 : L 15 = true := dep hd rfl
        have e43 := (K 15 d15).1 hb17
        obtain ⟨u42, rfl⟩ := fr_of (N := 101) (L := [(69, vb ((x2.1.length : Int) == 0))]) hO ⟨e43, trivial⟩
        replace S41 : St _ ((bx b1 [vU x5.1, vU x5.2] 27) :: As) _ := S41
        have L66 := Mem.rfl' m36
        refine wpl_yes (d := 69) rfl rfl (congrArg Value.bool hb18) ?_
        refine s_mvv (v := vI a1) rfl ?_
        refine wpn ?_
        refine ⟨m36, Mem.tr L65 L66, ?_, facts_step HM rfl K L66 rfl rfl ⟨fun _ => rfl, fun hx => tf (and_tt hb17 (not_t hb18)) hx⟩, outP⟩
        exact S41
      have d15 : L 15 = true := dep hd rfl
      have e45 := (K 15 d15).2 hb17
      obtain ⟨u44, rfl⟩ := fr_of (N := 101) (L := [(69, undef)]) hO ⟨e45, trivial⟩
      replace S41 : St _ ((bx b1 [vU x5.1, vU x5.2] 27) :: As) _ := S41
      have L68 := Mem.rfl' m36
      refine wpl_no' (d := 69) rfl rfl rfl ?_
      refine wpn ?_
      refine ⟨m36, Mem.tr L65 L68, ?_, facts_step HM rfl K L68 rfl rfl ⟨fun hx => tf hx (and_fl hb17), fun _ => rfl⟩, outP⟩
      exact S41
    · intro L f31 w41 hL hd hc ⟨m37, L69, S42, K, hO⟩
      rcases bool_tf (x9 == 80) with hb19 | hb19
      · rcases bool_tf ((x2.1.length : Int) == 0) with hb20 | hb20
        · have d15 : L 15 = true := dep hd rfl
          have e47 := (K 15 d15).1 hb19
          obtain ⟨u46, rfl⟩ := fr_of (N := 101) (L := [(69, vb ((x2.1.length : Int) == 0))]) hO ⟨e47, trivial⟩
          replace S42 : St _ ((bx b1 [vU x5.1, vU x5.2] 27) :: As) _ := S42
          have L71 := Mem.rfl' m37
          refine wpl_no (d := 69) rfl rfl (congrArg Value.bool hb20) ?_
          refine wpn ?_
          refine ⟨m37, Mem.tr L69 L71, ?_, facts_step HM rfl K L71 rfl rfl ⟨fun hx => tf hx (and_fr (not_f hb20)), fun _ => rfl⟩, outP⟩
          exact S42
        have d15 : L 15 = true := dep hd rfl
        have e46 := (K 15 d15).1 hb19
        obtain ⟨u45, rfl⟩ := fr_of (N := 101) (L := [(69, vb ((x2.1.length : Int) == 0))]) hO ⟨e46, trivial⟩
        replace S42 : St _ ((bx b1 [vU x5.1, vU x5.2] 27) :: As) _ := S42
        have L70 := Mem.rfl' m37
        refine wpl_yes (d := 69) rfl rfl (congrArg Value.bool hb20) ?_
        refine s_mvv (v := a0v0) rfl ?_
        refine wpn ?_
        refine ⟨m37, Mem.tr L69 L70, ?_, facts_step HM rfl K L70 rfl rfl ⟨fun _ => rfl, fun hx => tf (and_tt hb19 (not_t hb20)) hx⟩, outP⟩
        exact S42
      have d15 : L 15 = true := dep hd rfl
      have e48 := (K 15 d15).2 hb19
      obtain ⟨u47, rfl⟩ := fr_of (N := 101) (L := [(69, undef)]) hO ⟨e48, trivial⟩
      replace S42 : St _ ((bx b1 [vU x5.1, vU x5.2] 27) :: As) _ := S42
      have L72 := Mem.rfl' m37
      refine wpl_no' (d := 69) rfl rfl rfl ?_
      refine wpn ?_
      refine ⟨m37, Mem.tr L69 L72, ?_, facts_step HM rfl K L72 rfl rfl ⟨fun hx => tf hx (and_fl hb19), fun _ => rfl⟩, outP⟩
      exact S42
    · intro L f32 w42 hL hd hc ⟨m38, L73, S43, K, hO⟩
      rcases bool_tf (x9 == 80) with hb21 | hb21
      · rcases bool_tf ((x2.1.length : Int) == 0) with hb22 | hb22
        · have d15 : L 15 = true := dep hd rfl
          have e51 := (K 15 d15).1 hb21
          obtain ⟨u49, rfl⟩ := fr_of (N := 101) (L := [(69, vb ((x2.1.length : Int) == 0))]) hO ⟨e51, trivial⟩
          replace S43 : St _ ((bx b1 [vU x5.1, vU x5.2] 27) :: As) _ := S43
          have L75 := Mem.rfl' m38
          refine wpl_no (d := 69) rfl rfl (congrArg Value.bool hb22) ?_
          refine wpn ?_
          refine ⟨m38, Mem.tr L73 L75, ?_, facts_step HM rfl K L75 rfl rfl ⟨fun hx => tf hx (and_fr (not_f hb22)), fun _ => rfl⟩, outP⟩
          exact S43
        have d15 : L 15 = true := dep hd rfl
        have e49 := (K 15 d15).1 hb21
        have d21 : L 21 = true := dep hd rfl
        have e50 := (K 21 d21).1 (and_tt hb21 (not_t hb22))
        obtain ⟨u48, rfl⟩ := fr_of (N := 101) (L := [(69, vb ((x2.1.length : Int) == 0)), (75, a0v0)]) hO ⟨e49, e50, trivial⟩
        replace S43 : St _ ((bx b1 [vU x5.1, vU x5.2] 27) :: As) _ := S43
        replace a0h0 := a0h0.up L73
        replace h4 := h4.up L73
        replace h12 := h12.up L73
        replace T1 := T1.up L73
        have L74 := Mem.rfl' m38
        refine wpl_yes (d := 69) rfl rfl (congrArg Value.bool hb22) ?_
        refine s_lenR (xs := a0) rfl a0h0 Tryd.underlying22 ?_
        refine wpn ?_
        refine ⟨m38, Mem.tr L73 L74, ?_, facts_step HM rfl K L74 rfl rfl ⟨fun _ => rfl, fun hx => tf (and_tt hb21 (not_t hb22)) hx⟩, outP⟩
        exact S43
      have d15 : L 15 = true := dep hd rfl
      have e52 := (K 15 d15).2 hb21
      obtain ⟨u50, rfl⟩ := fr_of (N := 101) (L := [(69, undef)]) hO ⟨e52, trivial⟩
      replace S43 : St _ ((bx b1 [vU x5.1, vU x5.2] 27) :: As) _ := S43
      have L76 := Mem.rfl' m38
      refine wpl_no' (d := 69) rfl rfl rfl ?_
      refine wpn ?_
      refine ⟨m38, Mem.tr L73 L76, ?_, facts_step HM rfl K L76 rfl rfl ⟨fun hx => tf hx (and_fl hb21), fun _ => rfl⟩, outP⟩
      exact S43
    · intro L f33 w43 hL hd hc ⟨m39, L77, S44, K, hO⟩
      rcases bool_tf (x9 == 80) with hb23 | hb23
      · rcases bool_tf ((x2.1.length : Int) == 0) with hb24 | hb24
        · have d15 : L 15 = true := dep hd rfl
          have e54 := (K 15 d15).1 hb23
          obtain ⟨u52, rfl⟩ := fr_of (N := 101) (L := [(69, vb ((x2.1.length : Int) == 0))]) hO ⟨e54, trivial⟩
          replace S44 : St _ ((bx b1 [vU x5.1, vU x5.2] 27) :: As) _ := S44
          have L79 := Mem.rfl' m39
          refine wpl_no (d := 69) rfl rfl (congrArg Value.bool hb24) ?_
          refine wpn ?_
          refine ⟨m39, Mem.tr L77 L79, ?_, facts_step HM rfl K L79 rfl rfl ⟨fun hx => tf hx (and_fr (not_f hb24)), fun _ => rfl⟩, outP⟩
          exact S44
        have d15 : L 15 = true := dep hd rfl
        have e53 := (K 15 d15).1 hb23
        obtain ⟨u51, rfl⟩ := fr_of (N := 101) (L := [(69, vb ((x2.1.length : Int) == 0))]) hO ⟨e53, trivial⟩
        replace S44 : St _ ((bx b1 [vU x5.1, vU x5.2] 27) :: As) _ := S44
        have L78 := Mem.rfl' m39
        refine wpl_yes (d := 69) rfl rfl (congrArg Value.bool hb24) ?_
        refine s_mvv (v := v1) rfl ?_
        refine wpn ?_
        refine ⟨m39, Mem.tr L77 L78, ?_, facts_step HM rfl K L78 rfl rfl ⟨fun _ => rfl, fun hx => tf (and_tt hb23 (not_t hb24)) hx⟩, outP⟩
        exact S44
      have d15 : L 15 = true := dep hd rfl
      have e55 := (K 15 d15).2 hb23
      obtain ⟨u53, rfl⟩ := fr_of (N := 101) (L := [(69, undef)]) hO ⟨e55, trivial⟩
      replace S44 : St _ ((bx b1 [vU x5.1, vU x5.2] 27) :: As) _ := S44
      have L80 := Mem.rfl' m39
      refine wpl_no' (d := 69) rfl rfl rfl ?_
      refine wpn ?_
      refine ⟨m39, Mem.tr L77 L80, ?_, facts_step HM rfl K L80 rfl rfl ⟨fun hx => tf hx (and_fl hb23), fun _ => rfl⟩, outP⟩
      exact S44
    · intro L f34 w44 hL hd hc ⟨m40, L81, S45, K, hO⟩
      rcases bool_tf (x9 == 80) with hb25 | hb25
      · rcases bool_tf ((x2.1.length : Int) == 0) with hb26 | hb26
        · have d15 : L 15 = true := dep hd rfl
          have e58 := (K 15 d15).1 hb25
          obtain ⟨u55, rfl⟩ := fr_of (N := 101) (L := [(69, vb ((x2.1.length : Int) == 0))]) hO ⟨e58, trivial⟩
          replace S45 : St _ ((bx b1 [vU x5.1, vU x5.2] 27) :: As) _ := S45
          have L83 := Mem.rfl' m40
          refine wpl_no (d := 69) rfl rfl (congrArg Value.bool hb26) ?_
          refine wpn ?_
          refine ⟨m40, Mem.tr L81 L83, ?_, facts_step HM rfl K L83 rfl rfl ⟨fun hx => tf hx (and_fr (not_f hb26)), fun _ => rfl⟩, outP⟩
          exact S45
        have d15 : L 15 = true := dep hd rfl
        have e56 := (K 15 d15).1 hb25
        have d23 : L 23 = true := dep hd rfl
        have e57 := (K 23 d23).1 (and_tt hb25 (not_t hb26))
        obtain ⟨u54, rfl⟩ := fr_of (N := 101) (L := [(69, vb ((x2.1.length : Int) == 0)), (77, v1)]) hO ⟨e56, e57, trivial⟩
        replace S45 : St _ ((bx b1 [vU x5.1, vU x5.2] 27) :: As) _ := S45
        replace a0h0 := a0h0.up L81
        replace h4 := h4.up L81
        replace h12 := h12.up L81
        replace T1 := T1.up L81
        have L82 := Mem.rfl' m40
        refine wpl_yes (d := 69) rfl rfl (congrArg Value.bool hb26) ?_
        replace q11 := gu_t (and_tt hb25 (not_t hb26)) q11
        refine s_cut (ys := x11) (l := 1) (h := (x2.1.length : Int)) rfl h4 Tryd.underlying22 Tryd.sizeOf27 (.inr ⟨_, rfl⟩) (.inl ⟨rfl, rfl⟩) (.inl rfl) q11 ?_
        intro v11 h17
        refine wpn ?_
        refine ⟨m40, Mem.tr L81 L82, ?_, facts_step HM rfl K L82 rfl rfl ⟨fun _ => ⟨v11, rfl, h17⟩, fun hx => tf (and_tt hb25 (not_t hb26)) hx⟩, outP⟩
        exact S45
      have d15 : L 15 = true := dep hd rfl
      have e59 := (K 15 d15).2 hb25
      obtain ⟨u56, rfl⟩ := fr_of (N := 101) (L := [(69, undef)]) hO ⟨e59, trivial⟩
      replace S45 : St _ ((bx b1 [vU x5.1, vU x5.2] 27) :: As) _ := S45
      have L84 := Mem.rfl' m40
      refine wpl_no' (d := 69) rfl rfl rfl ?_
      refine wpn ?_
      refine ⟨m40, Mem.tr L81 L84, ?_, facts_step HM rfl K L84 rfl rfl ⟨fun hx => tf hx (and_fl hb25), fun _ => rfl⟩, outP⟩
      exact S45
    · intro L f35 w45 hL hd hc ⟨m41, L85, S46, K, hO⟩
      rcases bool_tf (x9 == 80) with hb27 | hb27
      · rcases bool_tf ((x2.1.length : Int) == 0) with hb28 | hb28
        · have d15 : L 15 = true := dep hd rfl
          have e61 := (K 15 d15).1 hb27
          obtain ⟨u58, rfl⟩ := fr_of (N := 101) (L := [(69, vb ((x2.1.length : Int) == 0))]) hO ⟨e61, trivial⟩
          replace S46 : St _ ((bx b1 [vU x5.1, vU x5.2] 27) :: As) _ := S46
          have L87 := Mem.rfl' m41
          refine wpl_no (d := 69) rfl rfl (congrArg Value.bool hb28) ?_
          refine wpn ?_
          refine ⟨m41, Mem.tr L85 L87, ?_, facts_step HM rfl K L87 rfl rfl ⟨fun hx => tf hx (and_fr (not_f hb28)), fun _ => rfl⟩, outP⟩
          exact S46
        have d15 : L 15 = true := dep hd rfl
        have e60 := (K 15 d15).1 hb27
        obtain ⟨u57, rfl⟩ := fr_of (N := 101) (L := [(69, vb ((x2.1.length : Int) == 0))]) hO ⟨e60, trivial⟩
        replace S46 : St _ ((bx b1 [vU x5.1, vU x5.2] 27) :: As) _ := S46
        replace a0h0 := a0h0.up L85
        replace h4 := h4.up L85
        replace h12 := h12.up L85
        replace T1 := T1.up L85
        have L86 := Mem.rfl' m41
        refine wpl_yes (d := 69) rfl rfl (congrArg Value.bool hb28) ?_
        refine s_ld (i := 0) (cs := [vU x5.1, vU x5.2]) S46 rfl rfl Tryd.isAgg27 Tryd.sizeOf27 rfl (fun h => by cases h) ?_
        refine wpn ?_
        refine ⟨m41, Mem.tr L85 L86, ?_, facts_step HM rfl K L86 rfl rfl ⟨fun _ => rfl, fun hx => tf (and_tt hb27 (not_t hb28)) hx⟩, outP⟩
        exact S46
      have d15 : L 15 = true := dep hd rfl
      have e62 := (K 15 d15).2 hb27
      obtain ⟨u59, rfl⟩ := fr_of (N := 101) (L := [(69, undef)]) hO ⟨e62, trivial⟩
      replace S46 : St _ ((bx b1 [vU x5.1, vU x5.2] 27) :: As) _ := S46
      have L88 := Mem.rfl' m41
      refine wpl_no' (d := 69) rfl rfl rfl ?_
      refine wpn ?_
      refine ⟨m41, Mem.tr L85 L88, ?_, facts_step HM rfl K L88 rfl rfl ⟨fun hx => tf hx (and_fl hb27), fun _ => rfl⟩, outP⟩
      exact S46
    · intro L f36 w46 hL hd hc ⟨m42, L89, S47, K, hO⟩
      rcases bool_tf (x9 == 80) with hb29 | hb29
      · rcases bool_tf ((x2.1.length : Int) == 0) with hb30 | hb30
        · have d15 : L 15 = true := dep hd rfl
          have e69 := (K 15 d15).1 hb29
          obtain ⟨u61, rfl⟩ := fr_of (N := 101) (L := [(69, vb ((x2.1.length : Int) == 0))]) hO ⟨e69, trivial⟩
          replace S47 : St _ ((bx b1 [vU x5.1, vU x5.2] 27) :: As) _ := S47
          have L91 := Mem.rfl' m42
          refine wpl_no (d := 69) rfl rfl (congrArg Value.bool hb30) ?_
          refine wpn ?_
          refine ⟨m42, Mem.tr L89 L91, ?_, facts_step HM rfl K L91 rfl rfl ⟨fun hx => tf hx (and_fr (not_f hb30)), fun _ => rfl⟩, outP⟩
          exact S47
        have d15 : L 15 = true := dep hd rfl
        have e63 := (K 15 d15).1 hb29
        have d19 : L 19 = true := dep hd rfl
        have e64 := (K 19 d19).1 (and_tt hb29 (not_t hb30))
        have d20 : L 20 = true := dep hd rfl
        have e65 := (K 20 d20).1 (and_tt hb29 (not_t hb30))
        have d22 : L 22 = true := dep hd rfl
        have e66 := (K 22 d22).1 (and_tt hb29 (not_t hb30))
        have d24 : L 24 = true := dep hd rfl
        obtain ⟨v12, e67, h18⟩ := (K 24 d24).1 (and_tt hb29 (not_t hb30))
        have d25 : L 25 = true := dep hd rfl
        have e68 := (K 25 d25).1 (and_tt hb29 (not_t hb30))
        obtain ⟨u60, rfl⟩ := fr_of (N := 101) (L := [(69, vb ((x2.1.length : Int) == 0)), (73, .agg #[vU x10.1, vU x10.2]), (74, vI a1), (76, vI (a0.length : Int)), (78, v12), (79, .agg #[vU x5.1, vU x5.2])]) hO ⟨e63, e64, e65, e66, e67, e68, trivial⟩
        replace S47 : St _ ((bx b1 [vU x5.1, vU x5.2] 27) :: As) _ := S47
        replace a0h0 := a0h0.up L89
        replace h4 := h4.up L89
        replace h12 := h12.up L89
        replace T1 := T1.up L89
        have L90 := Mem.rfl' m42
        refine wpl_yes (d := 69) rfl rfl (congrArg Value.bool hb30) ?_
        replace q12 := gu_t (and_tt hb29 (not_t hb30)) q12
        refine s_call Tryd.call21 (w_merkle_Check (a0 := x10) (a1 := a1) (a2 := (a0.length : Int)) (a3 := x11) (a4 := x5) S47 h18 q12) rfl ?_
        rintro _ w47 ⟨m43, l10, S48, rfl⟩
        replace a0h0 := a0h0.up l10
        replace h4 := h4.up l10
        replace h12 := h12.up l10
        replace h18 := h18.up l10
        replace T1 := T1.up l10
        replace L90 := Mem.tr L90 l10
        clear S47
        replace S48 : St _ ((bx b1 [vU x5.1, vU x5.2] 27) :: As) _ := S48
        refine wpn ?_
        refine ⟨m43, Mem.tr L89 L90, ?_, facts_step HM rfl K L90 rfl rfl ⟨fun _ => rfl, fun hx => tf (and_tt hb29 (not_t hb30)) hx⟩, outP⟩
        exact S48
      have d15 : L 15 = true := dep hd rfl
      have e70 := (K 15 d15).2 hb29
      obtain ⟨u62, rfl⟩ := fr_of (N := 101) (L := [(69, undef)]) hO ⟨e70, trivial⟩
      replace S47 : St _ ((bx b1 [vU x5.1, vU x5.2] 27) :: As) _ := S47
      have L92 := Mem.rfl' m42
      refine wpl_no' (d := 69) rfl rfl rfl ?_
      refine wpn ?_
      refine ⟨m42, Mem.tr L89 L92, ?_, facts_step HM rfl K L92 rfl rfl ⟨fun hx => tf hx (and_fl hb29), fun _ => rfl⟩, outP⟩
      exact S47
    · intro L f37 w48 hL hd hc ⟨m44, L93, S49, K, hO⟩
      rcases bool_tf (x9 == 80) with hb31 | hb31
      · rcases bool_tf ((x2.1.length : Int) == 0) with hb32 | hb32
        · have d15 : L 15 = true := dep hd rfl
          have e73 := (K 15 d15).1 hb31
          obtain ⟨u64, rfl⟩ := fr_of (N := 101) (L := [(69, vb ((x2.1.length : Int) == 0))]) hO ⟨e73, trivial⟩
          replace S49 : St _ ((bx b1 [vU x5.1, vU x5.2] 27) :: As) _ := S49
          have L95 := Mem.rfl' m44
          refine wpl_no (d := 69) rfl rfl (congrArg Value.bool hb32) ?_
          refine wpn ?_
          refine ⟨m44, Mem.tr L93 L95, ?_, facts_step HM rfl K L95 rfl rfl ⟨fun hx => tf hx (and_fr (not_f hb32)), fun _ => rfl⟩, outP⟩
          exact S49
        have d15 : L 15 = true := dep hd rfl
        have e71 := (K 15 d15).1 hb31
        have d26 : L 26 = true := dep hd rfl
        have e72 := (K 26 d26).1 (and_tt hb31 (not_t hb32))
        obtain ⟨u63, rfl⟩ := fr_of (N := 101) (L := [(69, vb ((x2.1.length : Int) == 0)), (80, vI x12)]) hO ⟨e71, e72, trivial⟩
        replace S49 : St _ ((bx b1 [vU x5.1, vU x5.2] 27) :: As) _ := S49
        have L94 := Mem.rfl' m44
        refine wpl_yes (d := 69) rfl rfl (congrArg Value.bool hb32) ?_
        refine s_eql (m := x12) (n := 80) rfl rfl ?_
        refine wpn ?_
        refine ⟨m44, Mem.tr L93 L94, ?_, facts_step HM rfl K L94 rfl rfl ⟨fun _ => rfl, fun hx => tf (and_tt hb31 (not_t hb32)) hx⟩, outP⟩
        exact S49
      have d15 : L 15 = true := dep hd rfl
      have e74 := (K 15 d15).2 hb31
      obtain ⟨u65, rfl⟩ := fr_of (N := 101) (L := [(69, undef)]) hO ⟨e74, trivial⟩
      replace S49 : St _ ((bx b1 [vU x5.1, vU x5.2] 27) :: As) _ := S49
      have L96 := Mem.rfl' m44
      refine wpl_no' (d := 69) rfl rfl rfl ?_
      refine wpn ?_
      refine ⟨m44, Mem.tr L93 L96, ?_, facts_step HM rfl K L96 rfl rfl ⟨fun hx => tf hx (and_fl hb31), fun _ => rfl⟩, outP⟩
      exact S49
    · intro L f38 w49 hL hd hc ⟨m45, L97, S50, K, hO⟩
      rcases bool_tf (x9 == 80) with hb33 | hb33
      · rcases bool_tf ((x2.1.length : Int) == 0) with hb34 | hb34
        · have d15 : L 15 = true := dep hd rfl
          have e75 := (K 15 d15).1 hb33
          have d11 : L 11 = true := dep hd rfl
          have e76 := K 11 d11
          obtain ⟨u66, rfl⟩ := fr_of (N := 101) (L := [(69, vb ((x2.1.length : Int) == 0)), (65, vb (x9 == 80))]) hO ⟨e75, e76, trivial⟩
          replace S50 : St _ ((bx b1 [vU x5.1, vU x5.2] 27) :: As) _ := S50
          have L98 := Mem.rfl' m45
          refine wpl_yes (d := 65) rfl rfl (congrArg Value.bool hb33) ?_
          refine s_pickT (congrArg Value.bool hb34) rfl ?_
          refine wpn ?_
          refine ⟨m45, Mem.tr L97 L98, ?_, facts_step HM rfl K L98 rfl rfl ⟨fun _ => (congrArg Value.bool (or_t hb34)), fun hx => tf hb33 hx⟩, outP⟩
          exact S50
        · have d15 : L 15 = true := dep hd rfl
          have e77 := (K 15 d15).1 hb33
          have d11 : L 11 = true := dep hd rfl
          have e78 := K 11 d11
          have d27 : L 27 = true := dep hd rfl
          have e79 := (K 27 d27).1 (and_tt hb33 (not_t hb34))
          obtain ⟨u67, rfl⟩ := fr_of (N := 101) (L := [(69, vb ((x2.1.length : Int) == 0)), (65, vb (x9 == 80)), (81, vb (x12 == 80))]) hO ⟨e77, e78, e79, trivial⟩
          replace S50 : St _ ((bx b1 [vU x5.1, vU x5.2] 27) :: As) _ := S50
          have L99 := Mem.rfl' m45
          refine wpl_yes (d := 65) rfl rfl (congrArg Value.bool hb33) ?_
          refine s_pickF (congrArg Value.bool hb34) rfl ?_
          refine wpn ?_
          refine ⟨m45, Mem.tr L97 L99, ?_, facts_step HM rfl K L99 rfl rfl ⟨fun _ => (congrArg Value.bool (or_f hb34)), fun hx => tf hb33 hx⟩, outP⟩
          exact S50
      have d11 : L 11 = true := dep hd rfl
      have e80 := K 11 d11
      obtain ⟨u68, rfl⟩ := fr_of (N := 101) (L := [(65, vb (x9 == 80))]) hO ⟨e80, trivial⟩
      replace S50 : St _ ((bx b1 [vU x5.1, vU x5.2] 27) :: As) _ := S50
      have L100 := Mem.rfl' m45
      refine wpl_no (d := 65) rfl rfl (congrArg Value.bool hb33) ?_
      refine wpn ?_
      refine ⟨m45, Mem.tr L97 L100, ?_, facts_step HM rfl K L100 rfl rfl ⟨fun hx => tf hx hb33, fun _ => rfl⟩, outP⟩
      exact S50
    · intro L f39 w50 hL hd hc ⟨m46, L101, S51, K, hO⟩
      rcases bool_tf (x9 == 80) with hb35 | hb35
      · have d11 : L 11 = true := dep hd rfl
        have e81 := K 11 d11
        have d28 : L 28 = true := dep hd rfl
        have e82 := (K 28 d28).1 hb35
        obtain ⟨u69, rfl⟩ := fr_of (N := 101) (L := [(65, vb (x9 == 80)), (82, vb (((x2.1.length : Int) == 0) || (x12 == 80)))]) hO ⟨e81, e82, trivial⟩
        replace S51 : St _ ((bx b1 [vU x5.1, vU x5.2] 27) :: As) _ := S51
        have L102 := Mem.rfl' m46
        refine s_pickT (congrArg Value.bool hb35) rfl ?_
        refine wpn ?_
        refine ⟨m46, Mem.tr L101 L102, ?_, facts_step HM rfl K L102 rfl rfl (congrArg Value.bool (and_t hb35)), outP⟩
        exact S51
      · have d11 : L 11 = true := dep hd rfl
        have e83 := K 11 d11
        obtain ⟨u70, rfl⟩ := fr_of (N := 101) (L := [(65, vb (x9 == 80))]) hO ⟨e83, trivial⟩
        replace S51 : St _ ((bx b1 [vU x5.1, vU x5.2] 27) :: As) _ := S51
        have L103 := Mem.rfl' m46
        refine s_pickF (congrArg Value.bool hb35) rfl ?_
        refine wpn ?_
        refine ⟨m46, Mem.tr L101 L103, ?_, facts_step HM rfl K L103 rfl rfl (congrArg Value.bool (and_f hb35)), outP⟩
        exact S51
  intro L f40 w51 hall ⟨m47, L104, S52, K, hO⟩
  have d29 : L 29 = true := hall 29 (by decide)
  have e84 := K 29 d29
  obtain ⟨u71, rfl⟩ := fr_of (N := 101) (L := [(83, vb ((x9 == 80) && (((x2.1.length : Int) == 0) || (x12 == 80))))]) hO ⟨e84, trivial⟩
  replace S52 : St _ ((bx b1 [vU x5.1, vU x5.2] 27) :: As) _ := S52
  replace a0h0 := a0h0.up L104
  replace h4 := h4.up L104
  replace h12 := h12.up L104
  replace T1 := T1.up L104
  replace L0 := Mem.tr L0 L104
  clear S19
  obtain ⟨x13, q13, hm⟩ := bnd_eq hm
  refine s_asv (v := vb x13) (congrArg (fun z => vb z) q13.symm) ?_
  refine wpl_nil ?_
  refine nrm ?_
  refine wpc_seq ?_
  obtain ⟨x14, q14, hm⟩ := obind_some hm
  obtain ⟨x15, q15, hm⟩ := obind_some hm
  have HM : MonoAll [(84, fun (M : Mem) (v : Value) => v = vb x1), (85, fun (M : Mem) (v : Value) => v = vb x1), (86, fun (M : Mem) (v : Value) => (x1 = true → v = vb x13) ∧ (x1 = false → v = undef)), (87, fun (M : Mem) (v : Value) => v = vb (x1 && x13)), (88, fun (M : Mem) (v : Value) => v = vb (x1 && x13)), (89, fun (M : Mem) (v : Value) => ((x1 && x13) = true → v = a0v0) ∧ ((x1 && x13) = false → v = undef)), (90, fun (M : Mem) (v : Value) => ((x1 && x13) = true → v = vI a1) ∧ ((x1 && x13) = false → v = undef)), (91, fun (M : Mem) (v : Value) => ((x1 && x13) = true → ∃ (p3 : Value), v = p3 ∧ PtC M p3 [vU x14.1, vU x14.2]) ∧ ((x1 && x13) = false → v = undef)), (92, fun (M : Mem) (v : Value) => ((x1 && x13) = true → v = .agg #[vU x14.1, vU x14.2]) ∧ ((x1 && x13) = false → v = undef)), (93, fun (M : Mem) (v : Value) => ((x1 && x13) = true → v = vI a1) ∧ ((x1 && x13) = false → v = undef)), (94, fun (M : Mem) (v : Value) => ((x1 && x13) = true → v = a0v0) ∧ ((x1 && x13) = false → v = undef)), (95, fun (M : Mem) (v : Value) => ((x1 && x13) = true → v = vI (a0.length : Int)) ∧ ((x1 && x13) = false → v = undef)), (96, fun (M : Mem) (v : Value) => ((x1 && x13) = true → v = v1) ∧ ((x1 && x13) = false → v = undef)), (97, fun (M : Mem) (v : Value) => ((x1 && x13) = true → v = .agg #[vU x5.1, vU x5.2]) ∧ ((x1 && x13) = false → v = undef)), (98, fun (M : Mem) (v : Value) => ((x1 && x13) = true → v = vI x15) ∧ ((x1 && x13) = false → v = undef)), (99, fun (M : Mem) (v : Value) => ((x1 && x13) = true → v = vb (x15 == 0)) ∧ ((x1 && x13) = false → v = undef)), (100, fun (M : Mem) (v : Value) => v = vb ((x1 && x13) && (x15 == 0)))] := ⟨(fun _ _ _ _ h => h), (fun _ _ _ _ h => h), (fun _ _ _ _ h => h), (fun _ _ _ _ h => h), (fun _ _ _ _ h => h), (fun _ _ _ _ h => h), (fun _ _ _ _ h => h), (fun _ _ _ l h => ⟨fun c => let ⟨p3, e, h19⟩ := h.1 c; ⟨p3, e, h19.up l⟩, h.2⟩), (fun _ _ _ _ h => h), (fun _ _ _ _ h => h), (fun _ _ _ _ h => h), (fun _ _ _ _ h => h), (fun _ _ _ _ h => h), (fun _ _ _ _ h => h), (fun _ _ _ _ h => h), (fun _ _ _ _ h => h), (fun _ _ _ _ h => h), trivial⟩
  refine wpc_flowG HM 17 mixed rfl rfl rfl [84, 85, 86, 87, 88, 89, 90, 91, 92, 93, 94, 95, 96, 97, 98, 99, 100] (fun L f M w => St M ((bx b1 [vU x5.1, vU x5.2] 27) :: As) w) (St.drew S52 _) ?_ ?_
  · refine ⟨?_, ?_, ?_, ?_, ?_, ?_, ?_, ?_, ?_, ?_, ?_, ?_, ?_, ?_, ?_, ?_, ?_, trivial⟩
    · intro L f41 w52 hL hd hc ⟨m48, L105, S53, K, hO⟩
      obtain ⟨u72, rfl⟩ := fr_of (N := 101) (L := []) hO trivial
      replace S53 : St _ ((bx b1 [vU x5.1, vU x5.2] 27) :: As) _ := S53
      have L106 := Mem.rfl' m48
      refine s_mvv (v := vb x1) rfl ?_
      refine wpn ?_
      refine ⟨m48, Mem.tr L105 L106, ?_, facts_step HM rfl K L106 rfl rfl rfl, outP⟩
      exact S53
    · intro L f42 w53 hL hd hc ⟨m49, L107, S54, K, hO⟩
      have d0 : L 0 = true := dep hd rfl
      have e85 := K 0 d0
      obtain ⟨u73, rfl⟩ := fr_of (N := 101) (L := [(84, vb x1)]) hO ⟨e85, trivial⟩
      replace S54 : St _ ((bx b1 [vU x5.1, vU x5.2] 27) :: As) _ := S54
      have L108 := Mem.rfl' m49
      refine s_mvv (v := vb x1) rfl ?_
      refine wpn ?_
      refine ⟨m49, Mem.tr L107 L108, ?_, facts_step HM rfl K L108 rfl rfl rfl, outP⟩
      exact S54
    · intro L f43 w54 hL hd hc ⟨m50, L109, S55, K, hO⟩
      rcases bool_tf x1 with hb36 | hb36
      · have d1 : L 1 = true := dep hd rfl
        have e86 := K 1 d1
        obtain ⟨u74, rfl⟩ := fr_of (N := 101) (L := [(85, vb x1)]) hO ⟨e86, trivial⟩
        replace S55 : St _ ((bx b1 [vU x5.1, vU x5.2] 27) :: As) _ := S55
        have L110 := Mem.rfl' m50
        refine wpl_yes (d := 85) rfl rfl (congrArg Value.bool hb36) ?_
        refine s_mvv (v := vb x13) rfl ?_
        refine wpn ?_
        refine ⟨m50, Mem.tr L109 L110, ?_, facts_step HM rfl K L110 rfl rfl ⟨fun _ => rfl, fun hx => tf hb36 hx⟩, outP⟩
        exact S55
      have d1 : L 1 = true := dep hd rfl
      have e87 := K 1 d1
      obtain ⟨u75, rfl⟩ := fr_of (N := 101) (L := [(85, vb x1)]) hO ⟨e87, trivial⟩
      replace S55 : St _ ((bx b1 [vU x5.1, vU x5.2] 27) :: As) _ := S55
      have L111 := Mem.rfl' m50
      refine wpl_no (d := 85) rfl rfl (congrArg Value.bool hb36) ?_
      refine wpn ?_
      refine ⟨m50, Mem.tr L109 L111, ?_, facts_step HM rfl K L111 rfl rfl ⟨fun hx => tf hx hb36, fun _ => rfl⟩, outP⟩
      exact S55
    · intro L f44 w55 hL hd hc ⟨m51, L112, S56, K, hO⟩
      rcases bool_tf x1 with hb37 | hb37
      · have d1 : L 1 = true := dep hd rfl
        have e88 := K 1 d1
        have d2 : L 2 = true := dep hd rfl
        have e89 := (K 2 d2).1 hb37
        obtain ⟨u76, rfl⟩ := fr_of (N := 101) (L := [(85, vb x1), (86, vb x13)]) hO ⟨e88, e89, trivial⟩
        replace S56 : St _ ((bx b1 [vU x5.1, vU x5.2] 27) :: As) _ := S56
        have L113 := Mem.rfl' m51
        refine s_pickT (congrArg Value.bool hb37) rfl ?_
        refine wpn ?_
        refine ⟨m51, Mem.tr L112 L113, ?_, facts_step HM rfl K L113 rfl rfl (congrArg Value.bool (and_t hb37)), outP⟩
        exact S56
      · have d1 : L 1 = true := dep hd rfl
        have e90 := K 1 d1
        obtain ⟨u77, rfl⟩ := fr_of (N := 101) (L := [(85, vb x1)]) hO ⟨e90, trivial⟩
        replace S56 : St _ ((bx b1 [vU x5.1, vU x5.2] 27) :: As) _ := S56
        have L114 := Mem.rfl' m51
        refine s_pickF (congrArg Value.bool hb37) rfl ?_
        refine wpn ?_
        refine ⟨m51, Mem.tr L112 L114, ?_, facts_step HM rfl K L114 rfl rfl (congrArg Value.bool (and_f hb37)), outP⟩
        exact S56
    · intro L f45 w56 hL hd hc ⟨m52, L115, S57, K, hO⟩
      have d3 : L 3 = true := dep hd rfl
      have e91 := K 3 d3
      obtain ⟨u78, rfl⟩ := fr_of (N := 101) (L := [(87, vb (x1 && x13))]) hO ⟨e91, trivial⟩
      replace S57 : St _ ((bx b1 [vU x5.1, vU x5.2] 27) :: As) _ := S57
      have L116 := Mem.rfl' m52
      refine s_mvv (v := vb (x1 && x13)) rfl ?_
      refine wpn ?_
      refine ⟨m52, Mem.tr L115 L116, ?_, facts_step HM rfl K L116 rfl rfl rfl, outP⟩
      exact S57
    · intro L f46 w57 hL hd hc ⟨m53, L117, S58, K, hO⟩
      rcases bool_tf (x1 && x13) with hb38 | hb38
      · have d4 : L 4 = true := dep hd rfl
        have e92 := K 4 d4
        obtain ⟨u79, rfl⟩ := fr_of (N := 101) (L := [(88, vb (x1 && x13))]) hO ⟨e92, trivial⟩
        replace S58 : St _ ((bx b1 [vU x5.1, vU x5.2] 27) :: As) _ := S58
        have L118 := Mem.rfl' m53
        refine wpl_yes (d := 88) rfl rfl (congrArg Value.bool hb38) ?_
        refine s_mvv (v := a0v0) rfl ?_
        refine wpn ?_
        refine ⟨m53, Mem.tr L117 L118, ?_, facts_step HM rfl K L118 rfl rfl ⟨fun _ => rfl, fun hx => tf hb38 hx⟩, outP⟩
        exact S58
      have d4 : L 4 = true := dep hd rfl
      have e93 := K 4 d4
      obtain ⟨u80, rfl⟩ := fr_of (N := 101) (L := [(88, vb (x1 && x13))]) hO ⟨e93, trivial⟩
      replace S58 : St _ ((bx b1 [vU x5.1, vU x5.2] 27) :: As) _ := S58
      have L119 := Mem.rfl' m53
      refine wpl_no (d := 88) rfl rfl (congrArg Value.bool hb38) ?_
      refine wpn ?_
      refine ⟨m53, Mem.tr L117 L119, ?_, facts_step HM rfl K L119 rfl rfl ⟨fun hx => tf hx hb38, fun _ => rfl⟩, outP⟩
      exact S58
    · intro L f47 w58 hL hd hc ⟨m54, L120, S59, K, hO⟩
      rcases bool_tf (x1 && x13) with hb39 | hb39
      · have d4 : L 4 = true := dep hd rfl
        have e94 := K 4 d4
        obtain ⟨u81, rfl⟩ := fr_of (N := 101) (L := [(88, vb (x1 && x13))]) hO ⟨e94, trivial⟩
        replace S59 : St _ ((bx b1 [vU x5.1, vU x5.2] 27) :: As) _ := S59
        have L121 := Mem.rfl' m54
        refine wpl_yes (d := 88) rfl rfl (congrArg Value.bool hb39) ?_
        refine s_mvv (v := vI a1) rfl ?_
        refine wpn ?_
        refine ⟨m54, Mem.tr L120 L121, ?_, facts_step HM rfl K L121 rfl rfl ⟨fun _ => rfl, fun hx => tf hb39 hx⟩, outP⟩
        exact S59
      have d4 : L 4 = true := dep hd rfl
      have e95 := K 4 d4
      obtain ⟨u82, rfl⟩ := fr_of (N := 101) (L := [(88, vb (x1 && x13))]) hO ⟨e95, trivial⟩
      replace S59 : St _ ((bx b1 [vU x5.1, vU x5.2] 27) :: As) _ := S59
      have L122 := Mem.rfl' m54
      refine wpl_no (d := 88) rfl rfl (congrArg Value.bool hb39) ?_
      refine wpn ?_
      refine ⟨m54, Mem.tr L120 L122, ?_, facts_step HM rfl K L122 rfl rfl ⟨fun hx => tf hx hb39, fun _ => rfl⟩, outP⟩
      exact S59
    · intro L f48 w59 hL hd hc ⟨m55, L123, S60, K, hO⟩
      rcases bool_tf (x1 && x13) with hb40 | hb40
      · have d4 : L 4 = true := dep hd rfl
        have e96 := K 4 d4
        have d5 : L 5 = true := dep hd rfl
        have e97 := (K 5 d5).1 hb40
        have d6 : L 6 = true := dep hd rfl
        have e98 := (K 6 d6).1 hb40
        obtain ⟨u83, rfl⟩ := fr_of (N := 101) (L := [(88, vb (x1 && x13)), (89, a0v0), (90, vI a1)]) hO ⟨e96, e97, e98, trivial⟩
        replace S60 : St _ ((bx b1 [vU x5.1, vU x5.2] 27) :: As) _ := S60
        replace a0h0 := a0h0.up L123
        replace h4 := h4.up L123
        replace T1 := T1.up L123
        have L124 := Mem.rfl' m55
        refine wpl_yes (d := 88) rfl rfl (congrArg Value.bool hb40) ?_
        replace q14 := gu_t hb40 q14
        refine s_idx (q := x14) rfl rfl a0h0 q14 Tryd.underlying22 Tryd.sizeOf27 ?_
        intro p3 c8 h19 r5
        obtain rfl := rep_arr2_UInt64 r5
        refine wpn ?_
        refine ⟨m55, Mem.tr L123 L124, ?_, facts_step HM rfl K L124 rfl rfl ⟨fun _ => ⟨p3, rfl, h19⟩, fun hx => tf hb40 hx⟩, outP⟩
        exact S60
      have d4 : L 4 = true := dep hd rfl
      have e99 := K 4 d4
      obtain ⟨u84, rfl⟩ := fr_of (N := 101) (L := [(88, vb (x1 && x13))]) hO ⟨e99, trivial⟩
      replace S60 : St _ ((bx b1 [vU x5.1, vU x5.2] 27) :: As) _ := S60
      have L125 := Mem.rfl' m55
      refine wpl_no (d := 88) rfl rfl (congrArg Value.bool hb40) ?_
      refine wpn ?_
      refine ⟨m55, Mem.tr L123 L125, ?_, facts_step HM rfl K L125 rfl rfl ⟨fun hx => tf hx hb40, fun _ => rfl⟩, outP⟩
      exact S60
    · intro L f49 w60 hL hd hc ⟨m56, L126, S61, K, hO⟩
      rcases bool_tf (x1 && x13) with hb41 | hb41
      · have d4 : L 4 = true := dep hd rfl
        have e100 := K 4 d4
        have d7 : L 7 = true := dep hd rfl
        obtain ⟨v13, e101, h20⟩ := (K 7 d7).1 hb41
        obtain ⟨u85, rfl⟩ := fr_of (N := 101) (L := [(88, vb (x1 && x13)), (91, v13)]) hO ⟨e100, e101, trivial⟩
        replace S61 : St _ ((bx b1 [vU x5.1, vU x5.2] 27) :: As) _ := S61
        replace a0h0 := a0h0.up L126
        replace h4 := h4.up L126
        replace T1 := T1.up L126
        have L127 := Mem.rfl' m56
        refine wpl_yes (d := 88) rfl rfl (congrArg Value.bool hb41) ?_
        refine s_ldM (cs := [vU x14.1, vU x14.2]) S61 rfl h20 rfl Tryd.isAgg27 Tryd.sizeOf27 (fun h => by cases h) ?_
        refine wpn ?_
        refine ⟨m56, Mem.tr L126 L127, ?_, facts_step HM rfl K L127 rfl rfl ⟨fun _ => rfl, fun hx => tf hb41 hx⟩, outP⟩
        exact S61
      have d4 : L 4 = true := dep hd rfl
      have e102 := K 4 d4
      obtain ⟨u86, rfl⟩ := fr_of (N := 101) (L := [(88, vb (x1 && x13))]) hO ⟨e102, trivial⟩
      replace S61 : St _ ((bx b1 [vU x5.1, vU x5.2] 27) :: As) _ := S61
      have L128 := Mem.rfl' m56
      refine wpl_no (d := 88) rfl rfl (congrArg Value.bool hb41) ?_
      refine wpn ?_
      refine ⟨m56, Mem.tr L126 L128, ?_, facts_step HM rfl K L128 rfl rfl ⟨fun hx => tf hx hb41, fun _ => rfl⟩, outP⟩
      exact S61
    · intro L f50 w61 hL hd hc ⟨m57, L129, S62, K, hO⟩
      rcases bool_tf (x1 && x13) with hb42 | hb42
      · have d4 : L 4 = true := dep hd rfl
        have e103 := K 4 d4
        obtain ⟨u87, rfl⟩ := fr_of (N := 101) (L := [(88, vb (x1 && x13))]) hO ⟨e103, trivial⟩
        replace S62 : St _ ((bx b1 [vU x5.1, vU x5.2] 27) :: As) _ := S62
        have L130 := Mem.rfl' m57
        refine wpl_yes (d := 88) rfl rfl (congrArg Value.bool hb42) ?_
        refine s_mvv (v := vI a1) rfl ?_
        refine wpn ?_
        refine ⟨m57, Mem.tr L129 L130, ?_, facts_step HM rfl K L130 rfl rfl ⟨fun _ => rfl, fun hx => tf hb42 hx⟩, outP⟩
        exact S62
      have d4 : L 4 = true := dep hd rfl
      have e104 := K 4 d4
      obtain ⟨u88, rfl⟩ := fr_of (N := 101) (L := [(88, vb (x1 && x13))]) hO ⟨e104, trivial⟩
      replace S62 : St _ ((bx b1 [vU x5.1, vU x5.2] 27) :: As) _ := S62
      have L131 := Mem.rfl' m57
      refine wpl_no (d := 88) rfl rfl (congrArg Value.bool hb42) ?_
      refine wpn ?_
      refine ⟨m57, Mem.tr L129 L131, ?_, facts_step HM rfl K L131 rfl rfl ⟨fun hx => tf hx hb42, fun _ => rfl⟩, outP⟩
      exact S62
    · intro L f51 w62 hL hd hc ⟨m58, L132, S63, K, hO⟩
      rcases bool_tf (x1 && x13) with hb43 | hb43
      · have d4 : L 4 = true := dep hd rfl
        have e105 := K 4 d4
        obtain ⟨u89, rfl⟩ := fr_of (N := 101) (L := [(88, vb (x1 && x13))]) hO ⟨e105, trivial⟩
        replace S63 : St _ ((bx b1 [vU x5.1, vU x5.2] 27) :: As) _ := S63
        have L133 := Mem.rfl' m58
        refine wpl_yes (d := 88) rfl rfl (congrArg Value.bool hb43) ?_
        refine s_mvv (v := a0v0) rfl ?_
        refine wpn ?_
        refine ⟨m58, Mem.tr L132 L133, ?_, facts_step HM rfl K L133 rfl rfl ⟨fun _ => rfl, fun hx => tf hb43 hx⟩, outP⟩
        exact S63
      have d4 : L 4 = true := dep hd rfl
      have e106 := K 4 d4
      obtain ⟨u90, rfl⟩ := fr_of (N := 101) (L := [(88, vb (x1 && x13))]) hO ⟨e106, trivial⟩
      replace S63 : St _ ((bx b1 [vU x5.1, vU x5.2] 27) :: As) _ := S63
      have L134 := Mem.rfl' m58
      refine wpl_no (d := 88) rfl rfl (congrArg Value.bool hb43) ?_
      refine wpn ?_
      refine ⟨m58, Mem.tr L132 L134, ?_, facts_step HM rfl K L134 rfl rfl ⟨fun hx => tf hx hb43, fun _ => rfl⟩, outP⟩
      exact S63
    · intro L f52 w63 hL hd hc ⟨m59, L135, S64, K, hO⟩
      rcases bool_tf (x1 && x13) with hb44 | hb44
      · have d4 : L 4 = true := dep hd rfl
        have e107 := K 4 d4
        have d10 : L 10 = true := dep hd rfl
        have e108 := (K 10 d10).1 hb44
        obtain ⟨u91, rfl⟩ := fr_of (N := 101) (L := [(88, vb (x1 && x13)), (94, a0v0)]) hO ⟨e107, e108, trivial⟩
        replace S64 : St _ ((bx b1 [vU x5.1, vU x5.2] 27) :: As) _ := S64
        replace a0h0 := a0h0.up L135
        replace h4 := h4.up L135
        replace T1 := T1.up L135
        have L136 := Mem.rfl' m59
        refine wpl_yes (d := 88) rfl rfl (congrArg Value.bool hb44) ?_
        refine s_lenR (xs := a0) rfl a0h0 Tryd.underlying22 ?_
        refine wpn ?_
        refine ⟨m59, Mem.tr L135 L136, ?_, facts_step HM rfl K L136 rfl rfl ⟨fun _ => rfl, fun hx => tf hb44 hx⟩, outP⟩
        exact S64
      have d4 : L 4 = true := dep hd rfl
      have e109 := K 4 d4
      obtain ⟨u92, rfl⟩ := fr_of (N := 101) (L := [(88, vb (x1 && x13))]) hO ⟨e109, trivial⟩
      replace S64 : St _ ((bx b1 [vU x5.1, vU x5.2] 27) :: As) _ := S64
      have L137 := Mem.rfl' m59
      refine wpl_no (d := 88) rfl rfl (congrArg Value.bool hb44) ?_
      refine wpn ?_
      refine ⟨m59, Mem.tr L135 L137, ?_, facts_step HM rfl K L137 rfl rfl ⟨fun hx => tf hx hb44, fun _ => rfl⟩, outP⟩
      exact S64
    · intro L f53 w64 hL hd hc ⟨m60, L138, S65, K, hO⟩
      rcases bool_tf (x1 && x13) with hb45 | hb45
      · have d4 : L 4 = true := dep hd rfl
        have e110 := K 4 d4
        obtain ⟨u93, rfl⟩ := fr_of (N := 101) (L := [(88, vb (x1 && x13))]) hO ⟨e110, trivial⟩
        replace S65 : St _ ((bx b1 [vU x5.1, vU x5.2] 27) :: As) _ := S65
        have L139 := Mem.rfl' m60
        refine wpl_yes (d := 88) rfl rfl (congrArg Value.bool hb45) ?_
        refine s_mvv (v := v1) rfl ?_
        refine wpn ?_
        refine ⟨m60, Mem.tr L138 L139, ?_, facts_step HM rfl K L139 rfl rfl ⟨fun _ => rfl, fun hx => tf hb45 hx⟩, outP⟩
        exact S65
      have d4 : L 4 = true := dep hd rfl
      have e111 := K 4 d4
      obtain ⟨u94, rfl⟩ := fr_of (N := 101) (L := [(88, vb (x1 && x13))]) hO ⟨e111, trivial⟩
      replace S65 : St _ ((bx b1 [vU x5.1, vU x5.2] 27) :: As) _ := S65
      have L140 := Mem.rfl' m60
      refine wpl_no (d := 88) rfl rfl (congrArg Value.bool hb45) ?_
      refine wpn ?_
      refine ⟨m60, Mem.tr L138 L140, ?_, facts_step HM rfl K L140 rfl rfl ⟨fun hx => tf hx hb45, fun _ => rfl⟩, outP⟩
      exact S65
    · intro L f54 w65 hL hd hc ⟨m61, L141, S66, K, hO⟩
      rcases bool_tf (x1 && x13) with hb46 | hb46
      · have d4 : L 4 = true := dep hd rfl
        have e112 := K 4 d4
        obtain ⟨u95, rfl⟩ := fr_of (N := 101) (L := [(88, vb (x1 && x13))]) hO ⟨e112, trivial⟩
        replace S66 : St _ ((bx b1 [vU x5.1, vU x5.2] 27) :: As) _ := S66
        replace a0h0 := a0h0.up L141
        replace h4 := h4.up L141
        replace T1 := T1.up L141
        have L142 := Mem.rfl' m61
        refine wpl_yes (d := 88) rfl rfl (congrArg Value.bool hb46) ?_
        refine s_ld (i := 0) (cs := [vU x5.1, vU x5.2]) S66 rfl rfl Tryd.isAgg27 Tryd.sizeOf27 rfl (fun h => by cases h) ?_
        refine wpn ?_
        refine ⟨m61, Mem.tr L141 L142, ?_, facts_step HM rfl K L142 rfl rfl ⟨fun _ => rfl, fun hx => tf hb46 hx⟩, outP⟩
        exact S66
      have d4 : L 4 = true := dep hd rfl
      have e113 := K 4 d4
      obtain ⟨u96, rfl⟩ := fr_of (N := 101) (L := [(88, vb (x1 && x13))]) hO ⟨e113, trivial⟩
      replace S66 : St _ ((bx b1 [vU x5.1, vU x5.2] 27) :: As) _ := S66
      have L143 := Mem.rfl' m61
      refine wpl_no (d := 88) rfl rfl (congrArg Value.bool hb46) ?_
      refine wpn ?_
      refine ⟨m61, Mem.tr L141 L143, ?_, facts_step HM rfl K L143 rfl rfl ⟨fun hx => tf hx hb46, fun _ => rfl⟩, outP⟩
      exact S66
    · intro L f55 w66 hL hd hc ⟨m62, L144, S67, K, hO⟩
      rcases bool_tf (x1 && x13) with hb47 | hb47
      · have d4 : L 4 = true := dep hd rfl
        have e114 := K 4 d4
        have d8 : L 8 = true := dep hd rfl
        have e115 := (K 8 d8).1 hb47
        have d9 : L 9 = true := dep hd rfl
        have e116 := (K 9 d9).1 hb47
        have d11 : L 11 = true := dep hd rfl
        have e117 := (K 11 d11).1 hb47
        have d12 : L 12 = true := dep hd rfl
        have e118 := (K 12 d12).1 hb47
        have d13 : L 13 = true := dep hd rfl
        have e119 := (K 13 d13).1 hb47
        obtain ⟨u97, rfl⟩ := fr_of (N := 101) (L := [(88, vb (x1 && x13)), (92, .agg #[vU x14.1, vU x14.2]), (93, vI a1), (95, vI (a0.length : Int)), (96, v1), (97, .agg #[vU x5.1, vU x5.2])]) hO ⟨e114, e115, e116, e117, e118, e119, trivial⟩
        replace S67 : St _ ((bx b1 [vU x5.1, vU x5.2] 27) :: As) _ := S67
        replace a0h0 := a0h0.up L144
        replace h4 := h4.up L144
        replace T1 := T1.up L144
        have L145 := Mem.rfl' m62
        refine wpl_yes (d := 88) rfl rfl (congrArg Value.bool hb47) ?_
        replace q15 := gu_t hb47 q15
        refine s_call Tryd.call21 (w_merkle_Check (a0 := x14) (a1 := a1) (a2 := (a0.length : Int)) (a3 := x2.1) (a4 := x5) S67 h4 q15) rfl ?_
        rintro _ w67 ⟨m63, l11, S68, rfl⟩
        replace a0h0 := a0h0.up l11
        replace h4 := h4.up l11
        replace T1 := T1.up l11
        replace L145 := Mem.tr L145 l11
        clear S67
        replace S68 : St _ ((bx b1 [vU x5.1, vU x5.2] 27) :: As) _ := S68
        refine wpn ?_
        refine ⟨m63, Mem.tr L144 L145, ?_, facts_step HM rfl K L145 rfl rfl ⟨fun _ => rfl, fun hx => tf hb47 hx⟩, outP⟩
        exact S68
      have d4 : L 4 = true := dep hd rfl
      have e120 := K 4 d4
      obtain ⟨u98, rfl⟩ := fr_of (N := 101) (L := [(88, vb (x1 && x13))]) hO ⟨e120, trivial⟩
      replace S67 : St _ ((bx b1 [vU x5.1, vU x5.2] 27) :: As) _ := S67
      have L146 := Mem.rfl' m62
      refine wpl_no (d := 88) rfl rfl (congrArg Value.bool hb47) ?_
      refine wpn ?_
      refine ⟨m62, Mem.tr L144 L146, ?_, facts_step HM rfl K L146 rfl rfl ⟨fun hx => tf hx hb47, fun _ => rfl⟩, outP⟩
      exact S67
    · intro L f56 w68 hL hd hc ⟨m64, L147, S69, K, hO⟩
      rcases bool_tf (x1 && x13) with hb48 | hb48
      · have d4 : L 4 = true := dep hd rfl
        have e121 := K 4 d4
        have d14 : L 14 = true := dep hd rfl
        have e122 := (K 14 d14).1 hb48
        obtain ⟨u99, rfl⟩ := fr_of (N := 101) (L := [(88, vb (x1 && x13)), (98, vI x15)]) hO ⟨e121, e122, trivial⟩
        replace S69 : St _ ((bx b1 [vU x5.1, vU x5.2] 27) :: As) _ := S69
        have L148 := Mem.rfl' m64
        refine wpl_yes (d := 88) rfl rfl (congrArg Value.bool hb48) ?_
        refine s_eql (m := x15) (n := 0) rfl rfl ?_
        refine wpn ?_
        refine ⟨m64, Mem.tr L147 L148, ?_, facts_step HM rfl K L148 rfl rfl ⟨fun _ => rfl, fun hx => tf hb48 hx⟩, outP⟩
        exact S69
      have d4 : L 4 = true := dep hd rfl
      have e123 := K 4 d4
      obtain ⟨u100, rfl⟩ := fr_of (N := 101) (L := [(88, vb (x1 && x13))]) hO ⟨e123, trivial⟩
      replace S69 : St _ ((bx b1 [vU x5.1, vU x5.2] 27) :: As) _ := S69
      have L149 := Mem.rfl' m64
      refine wpl_no (d := 88) rfl rfl (congrArg Value.bool hb48) ?_
      refine wpn ?_
      refine ⟨m64, Mem.tr L147 L149, ?_, facts_step HM rfl K L149 rfl rfl ⟨fun hx => tf hx hb48, fun _ => rfl⟩, outP⟩
      exact S69
    · intro L f57 w69 hL hd hc ⟨m65, L150, S70, K, hO⟩
      rcases bool_tf (x1 && x13) with hb49 | hb49
      · have d4 : L 4 = true := dep hd rfl
        have e124 := K 4 d4
        have d15 : L 15 = true := dep hd rfl
        have e125 := (K 15 d15).1 hb49
        obtain ⟨u101, rfl⟩ := fr_of (N := 101) (L := [(88, vb (x1 && x13)), (99, vb (x15 == 0))]) hO ⟨e124, e125, trivial⟩
        replace S70 : St _ ((bx b1 [vU x5.1, vU x5.2] 27) :: As) _ := S70
        have L151 := Mem.rfl' m65
        refine s_pickT (congrArg Value.bool hb49) rfl ?_
        refine wpn ?_
        refine ⟨m65, Mem.tr L150 L151, ?_, facts_step HM rfl K L151 rfl rfl (congrArg Value.bool (and_t hb49)), outP⟩
        exact S70
      · have d4 : L 4 = true := dep hd rfl
        have e126 := K 4 d4
        obtain ⟨u102, rfl⟩ := fr_of (N := 101) (L := [(88, vb (x1 && x13))]) hO ⟨e126, trivial⟩
        replace S70 : St _ ((bx b1 [vU x5.1, vU x5.2] 27) :: As) _ := S70
        have L152 := Mem.rfl' m65
        refine s_pickF (congrArg Value.bool hb49) rfl ?_
        refine wpn ?_
        refine ⟨m65, Mem.tr L150 L152, ?_, facts_step HM rfl K L152 rfl rfl (congrArg Value.bool (and_f hb49)), outP⟩
        exact S70
  intro L f58 w70 hall ⟨m66, L153, S71, K, hO⟩
  have d16 : L 16 = true := hall 16 (by decide)
  have e127 := K 16 d16
  obtain ⟨u103, rfl⟩ := fr_of (N := 101) (L := [(100, vb ((x1 && x13) && (x15 == 0)))]) hO ⟨e127, trivial⟩
  replace S71 : St _ ((bx b1 [vU x5.1, vU x5.2] 27) :: As) _ := S71
  replace a0h0 := a0h0.up L153
  replace h4 := h4.up L153
  replace T1 := T1.up L153
  replace L0 := Mem.tr L0 L153
  clear S52
  refine s_asv (v := vb ((x1 && x13) && (x15 == 0))) rfl ?_
  refine wpl_nil ?_
  refine nrm ?_
  refine wpc_ret ?_
  refine outRw ?_
  intro we hpd
  replace S71 := St.pd S71 hpd
  obtain ⟨m67, l12, S72⟩ := St.drop S71 0
  replace T1 := T1.up l12
  replace L0 := Mem.tr L0 l12
  clear S71
  replace S72 : St _ (As) _ := S72
  have e0 := Option.some.inj hm
  subst e0
  exact outR [_] rfl ⟨rfl, trivial⟩ ⟨_, L0, S72, rfl⟩

def m_law08_MerkleGrown (a0 : List (UInt64 × UInt64)) (a1 : Int) : Option Bool :=
  obind (m_law08_live ) fun x1 =>
  if (!x1) = true then
    some false
  else
  if (decide ((a0.length : Int) > 40)) = true then
    some x1
  else
  obind (m_merkle_Grow a0 a1) fun x2 =>
  if (x2.2 != 0) = true then
    obind (
      if (x1 && (x2.2 == 80)) = true then
        if (decide (a1 < 0)) = true then
          some true
        else
        some (decide (a1 > (a0.length : Int)))
      else
      some false
    ) fun x3 =>
    bnd ((x3 && ((x2.1.length : Int) == 0))) fun x4 =>
    some x4
  else
  obind (
    if x1 = true then
      obind (cut a0 0 a1) fun x10 =>
      obind (m_merkle_Root x10) fun x11 =>
      obind (m_merkle_Root a0) fun x12 =>
      obind (m_merkle_CheckGrow a1 (a0.length : Int) x11 x12 x2.1) fun x13 =>
      some (x13 == 0)
    else
    some false
  ) fun x9 =>
  some x9

theorem w_law08_MerkleGrown {m : Mem} {As : List Ow} {w : World} {a0 : List (UInt64 × UInt64)} {a0v0 : Value} {a1 : Int} {r : Bool} (S : St m (As) w) (T1 : PtC m (pt 1 0) (tab_1.map vB)) (a0h0 : SlR m a0v0 a0) (hm : m_law08_MerkleGrown a0 a1 = some r) :
    CallsR Tryd.prog 7 #[a0v0, vI a1] w fun v w' => ∃ (M : Mem), m ≤ M ∧ St M (As) w' ∧ v = vb r := by
  unfold m_law08_MerkleGrown at hm
  have L0 := Mem.rfl' m
  refine callsR (args := [a0v0, vI a1]) Tryd.func7 rfl Tryd.ntmps7 (Nat.le_of_ble_eq_true rfl) ?_
  refine wpc_seq ?_
  refine wpc_region ?_
  refine s_asv (v := vb false) rfl ?_
  refine wpl_nil ?_
  refine nrm ?_
  refine wpc_seq ?_
  refine wpc_region ?_
  obtain ⟨x1, q1, hm⟩ := obind_some hm
  refine s_call Tryd.call12 (w_law08_live  S T1 q1) rfl ?_
  rintro _ w1 ⟨m1, l1, S1, rfl⟩
  replace a0h0 := a0h0.up l1
  replace T1 := T1.up l1
  replace L0 := Mem.tr L0 l1
  clear S
  replace S1 : St _ (As) _ := S1
  refine s_asv (v := vb x1) rfl ?_
  refine wpl_nil ?_
  refine nrm ?_
  refine wpc_seq ?_
  refine wpc_seq ?_
  refine wpc_region ?_
  refine s_mvv (v := vb x1) rfl ?_
  refine s_not rfl ?_
  refine wpl_nil ?_
  refine nrm ?_
  refine wpc_if (t := (!x1)) rfl (fun hc1 => ?_) (fun hc1 => ?_)
  · replace hm := ifT hc1 hm
    refine wpc_seq ?_
    refine wpc_region ?_
    refine s_asv (v := vb false) rfl ?_
    refine wpl_nil ?_
    refine nrm ?_
    refine wpc_ret ?_
    refine thR ?_
    refine outRw ?_
    intro we hpd
    replace S1 := St.pd S1 hpd
    have e0 := Option.some.inj hm
    subst e0
    exact outR [_] rfl ⟨rfl, trivial⟩ ⟨_, L0, S1, rfl⟩
  replace hm := ifF hc1 hm
  refine wpc_skip ?_
  refine nrm ?_
  refine wpc_seq ?_
  refine wpc_seq ?_
  refine wpc_region ?_
  refine s_mvv (v := a0v0) rfl ?_
  refine s_lenR (xs := a0) rfl a0h0 Tryd.underlying22 ?_
  refine s_gtr (m := (a0.length : Int)) (n := 40) rfl rfl ?_
  refine wpl_nil ?_
  refine nrm ?_
  refine wpc_if (t := (decide ((a0.length : Int) > 40))) rfl (fun hc2 => ?_) (fun hc2 => ?_)
  · replace hm := ifT hc2 hm
    refine wpc_seq ?_
    refine wpc_region ?_
    refine s_mvv (v := vb x1) rfl ?_
    refine s_asv (v := vb x1) rfl ?_
    refine wpl_nil ?_
    refine nrm ?_
    refine wpc_ret ?_
    refine thR ?_
    refine outRw ?_
    intro we hpd
    replace S1 := St.pd S1 hpd
    have e0 := Option.some.inj hm
    subst e0
    exact outR [_] rfl ⟨rfl, trivial⟩ ⟨_, L0, S1, rfl⟩
  replace hm := ifF hc2 hm
  refine wpc_skip ?_
  refine nrm ?_
  refine wpc_seq ?_
  refine wpc_region ?_
  refine s_mvv (v := a0v0) rfl ?_
  refine s_mvv (v := vI a1) rfl ?_
  obtain ⟨x2, q2, hm⟩ := obind_some hm
  refine s_call Tryd.call23 (w_merkle_Grow (a0 := a0) (a1 := a1) S1 a0h0 q2) rfl ?_
  rintro _ w2 ⟨m2, l2, v1, c1, S2, rfl, h1⟩
  replace a0h0 := a0h0.up l2
  replace T1 := T1.up l2
  replace L0 := Mem.tr L0 l2
  clear S1
  replace S2 : St _ ((row 2 v1 c1 x2.1.length) :: As) _ := S2
  refine s_mvv (v := .tuple #[v1, vI x2.2]) rfl ?_
  refine s_ext (i := 0) rfl rfl ?_
  refine s_ext (i := 1) rfl rfl ?_
  refine s_asv (v := v1) rfl ?_
  refine s_asv (v := vI x2.2) rfl ?_
  refine wpl_nil ?_
  refine nrm ?_
  refine wpc_seq ?_
  refine wpc_seq ?_
  refine wpc_region ?_
  refine s_mvv (v := vI x2.2) rfl ?_
  refine s_neq (m := x2.2) (n := 0) rfl rfl ?_
  refine wpl_nil ?_
  refine nrm ?_
  refine wpc_if (t := (x2.2 != 0)) rfl (fun hc3 => ?_) (fun hc3 => ?_)
  · replace hm := ifT hc3 hm
    refine wpc_seq ?_
    refine wpc_region ?_
    refine s_mvv (v := vb x1) rfl ?_
    refine s_mvv (v := vb x1) rfl ?_
    refine wpl_cut 3 [25, 26, 27] (fun f' w' => w' = w2 ∧ AllAt f' [(27, vb (x1 && (x2.2 == 80)))]) ?_ ?_
    · rcases bool_tf x1 with hb1 | hb1
      · refine wpl_yes (d := 24) rfl rfl (congrArg Value.bool hb1) ?_
        refine s_mvv (v := vI x2.2) rfl ?_
        refine wpl_yes (d := 24) rfl rfl (congrArg Value.bool hb1) ?_
        refine s_eql (m := x2.2) (n := 80) rfl rfl ?_
        refine s_pickT (congrArg Value.bool hb1) rfl ?_
        exact wpl_nil (nrm ⟨outP, rfl, congrArg Value.bool (and_t hb1), trivial⟩)
      · refine wpl_no (d := 24) rfl rfl (congrArg Value.bool hb1) ?_
        refine wpl_no (d := 24) rfl rfl (congrArg Value.bool hb1) ?_
        refine s_pickF (congrArg Value.bool hb1) rfl ?_
        exact wpl_nil (nrm ⟨outP, rfl, congrArg Value.bool (and_f hb1), trivial⟩)
    rintro f1 w3 ho ⟨h2, ha⟩
    subst h2
    obtain ⟨u1, rfl⟩ := fr_of (N := 58) ho ha
    refine s_mvv (v := vb (x1 && (x2.2 == 80))) rfl ?_
    obtain ⟨x3, q3, hm⟩ := obind_some hm
    have L1 := Mem.rfl' m2
    refine wpl_cut 9 [29, 30, 31, 32, 33, 34, 35, 36, 37] (fun f' w' => ∃ (M1 : Mem), m2 ≤ M1 ∧ St M1 ((row 2 v1 c1 x2.1.length) :: As) w' ∧ AllAt f' [(37, vb x3)]) ?_ ?_
    · rcases bool_tf (x1 && (x2.2 == 80)) with hb2 | hb2
      · replace q3 := ifT hb2 q3
        refine wpl_yes (d := 28) rfl rfl (congrArg Value.bool hb2) ?_
        refine s_mvv (v := vI a1) rfl ?_
        refine wpl_yes (d := 28) rfl rfl (congrArg Value.bool hb2) ?_
        refine s_lss (m := a1) (n := 0) rfl rfl ?_
        refine wpl_yes (d := 28) rfl rfl (congrArg Value.bool hb2) ?_
        refine s_mvv (v := vb (decide (a1 < 0))) rfl ?_
        rcases bool_tf (decide (a1 < 0)) with hb3 | hb3
        · replace q3 := ifT hb3 q3
          refine wpl_no (d := 31) rfl rfl (congrArg Value.bool hb3) ?_
          refine wpl_no (d := 31) rfl rfl (congrArg Value.bool hb3) ?_
          refine wpl_no (d := 31) rfl rfl (congrArg Value.bool hb3) ?_
          refine wpl_no (d := 31) rfl rfl (congrArg Value.bool hb3) ?_
          refine wpl_yes (d := 28) rfl rfl (congrArg Value.bool hb2) ?_
          refine s_pickT (congrArg Value.bool hb3) rfl ?_
          refine s_pickT (congrArg Value.bool hb2) rfl ?_
          refine wpl_nil (nrm ?_)
          have e0 := Option.some.inj q3
          subst e0
          exact ⟨outP, m2, L1, S2, ⟨rfl, trivial⟩⟩
        replace q3 := ifF hb3 q3
        refine wpl_yes (d := 31) rfl rfl (congrArg Value.bool hb3) ?_
        refine s_mvv (v := vI a1) rfl ?_
        refine wpl_yes (d := 31) rfl rfl (congrArg Value.bool hb3) ?_
        refine s_mvv (v := a0v0) rfl ?_
        refine wpl_yes (d := 31) rfl rfl (congrArg Value.bool hb3) ?_
        refine s_lenR (xs := a0) rfl a0h0 Tryd.underlying22 ?_
        refine wpl_yes (d := 31) rfl rfl (congrArg Value.bool hb3) ?_
        refine s_gtr (m := a1) (n := (a0.length : Int)) rfl rfl ?_
        refine wpl_yes (d := 28) rfl rfl (congrArg Value.bool hb2) ?_
        refine s_pickF (congrArg Value.bool hb3) rfl ?_
        refine s_pickT (congrArg Value.bool hb2) rfl ?_
        refine wpl_nil (nrm ?_)
        have e0 := Option.some.inj q3
        subst e0
        exact ⟨outP, m2, L1, S2, ⟨rfl, trivial⟩⟩
      replace q3 := ifF hb2 q3
      refine wpl_no (d := 28) rfl rfl (congrArg Value.bool hb2) ?_
      refine wpl_no (d := 28) rfl rfl (congrArg Value.bool hb2) ?_
      refine wpl_no (d := 28) rfl rfl (congrArg Value.bool hb2) ?_
      refine wpl_no' (d := 31) rfl rfl rfl ?_
      refine wpl_no' (d := 31) rfl rfl rfl ?_
      refine wpl_no' (d := 31) rfl rfl rfl ?_
      refine wpl_no' (d := 31) rfl rfl rfl ?_
      refine wpl_no (d := 28) rfl rfl (congrArg Value.bool hb2) ?_
      refine s_pickF (congrArg Value.bool hb2) rfl ?_
      refine wpl_nil (nrm ?_)
      have e0 := Option.some.inj q3
      subst e0
      exact ⟨outP, m2, L1, S2, ⟨rfl, trivial⟩⟩
    rintro f2 w4 ho ⟨m3, l3, S3, ha⟩
    obtain ⟨u2, rfl⟩ := fr_of (N := 58) ho ha
    replace h1 := RepL.up l3 h1
    replace T1 := T1.up l3
    replace L0 := Mem.tr L0 l3
    clear S2
    refine s_mvv (v := vb x3) rfl ?_
    refine wpl_cut 4 [39, 40, 41, 42] (fun f' w' => w' = w4 ∧ AllAt f' [(42, vb (x3 && ((x2.1.length : Int) == 0)))]) ?_ ?_
    · rcases bool_tf x3 with hb4 | hb4
      · refine wpl_yes (d := 38) rfl rfl (congrArg Value.bool hb4) ?_
        refine s_mvv (v := v1) rfl ?_
        refine wpl_yes (d := 38) rfl rfl (congrArg Value.bool hb4) ?_
        refine s_lenO (i := 0) S3 rfl rfl Tryd.underlying22 ?_
        refine wpl_yes (d := 38) rfl rfl (congrArg Value.bool hb4) ?_
        refine s_eql (m := (x2.1.length : Int)) (n := 0) rfl rfl ?_
        refine s_pickT (congrArg Value.bool hb4) rfl ?_
        exact wpl_nil (nrm ⟨outP, rfl, congrArg Value.bool (and_t hb4), trivial⟩)
      · refine wpl_no (d := 38) rfl rfl (congrArg Value.bool hb4) ?_
        refine wpl_no (d := 38) rfl rfl (congrArg Value.bool hb4) ?_
        refine wpl_no (d := 38) rfl rfl (congrArg Value.bool hb4) ?_
        refine s_pickF (congrArg Value.bool hb4) rfl ?_
        exact wpl_nil (nrm ⟨outP, rfl, congrArg Value.bool (and_f hb4), trivial⟩)
    rintro f3 w5 ho ⟨h3, ha⟩
    subst h3
    obtain ⟨u3, rfl⟩ := fr_of (N := 58) ho ha
    obtain ⟨x4, q4, hm⟩ := bnd_eq hm
    refine s_asv (v := vb x4) (congrArg (fun z => vb z) q4.symm) ?_
    refine wpl_nil ?_
    refine nrm ?_
    refine wpc_ret ?_
    refine thR ?_
    refine outRw ?_
    intro we hpd
    replace S3 := St.pd S3 hpd
    obtain ⟨m4, l4, S4⟩ := St.drop S3 0
    replace T1 := T1.up l4
    replace L0 := Mem.tr L0 l4
    clear S3
    replace S4 : St _ (As) _ := S4
    have e0 := Option.some.inj hm
    subst e0
    exact outR [_] rfl ⟨rfl, trivial⟩ ⟨_, L0, S4, rfl⟩
  replace hm := ifF hc3 hm
  refine wpc_skip ?_
  refine nrm ?_
  refine wpc_seq ?_
  refine wpc_region ?_
  refine s_mvv (v := vb x1) rfl ?_
  refine s_mvv (v := vb x1) rfl ?_
  obtain ⟨x9, q9, hm⟩ := obind_some hm
  have L2 := Mem.rfl' m2
  refine wpl_cut 13 [45, 46, 47, 48, 49, 50, 51, 52, 53, 54, 55, 56, 57] (fun f' w' => ∃ (M2 : Mem), m2 ≤ M2 ∧ St M2 (As) w' ∧ AllAt f' [(57, vb x9)]) ?_ ?_
  · rcases bool_tf x1 with hb5 | hb5
    · replace q9 := ifT hb5 q9
      refine wpl_yes (d := 44) rfl rfl (congrArg Value.bool hb5) ?_
      refine s_mvv (v := vI a1) rfl ?_
      refine wpl_yes (d := 44) rfl rfl (congrArg Value.bool hb5) ?_
      refine s_mvv (v := a0v0) rfl ?_
      refine wpl_yes (d := 44) rfl rfl (congrArg Value.bool hb5) ?_
      refine s_lenR (xs := a0) rfl a0h0 Tryd.underlying22 ?_
      refine wpl_yes (d := 44) rfl rfl (congrArg Value.bool hb5) ?_
      refine s_mvv (v := a0v0) rfl ?_
      refine wpl_yes (d := 44) rfl rfl (congrArg Value.bool hb5) ?_
      refine s_mvv (v := vI a1) rfl ?_
      refine wpl_yes (d := 44) rfl rfl (congrArg Value.bool hb5) ?_
      obtain ⟨x10, q10, q9⟩ := obind_some q9
      refine s_cut (ys := x10) (l := 0) (h := a1) rfl a0h0 Tryd.underlying22 Tryd.sizeOf27 (.inl ⟨rfl, rfl⟩) (.inr ⟨_, rfl⟩) (.inl rfl) q10 ?_
      intro v3 h6
      refine wpl_yes (d := 44) rfl rfl (congrArg Value.bool hb5) ?_
      obtain ⟨x11, q11, q9⟩ := obind_some q9
      refine s_call Tryd.call13 (w_merkle_Root (a0 := x10) S2 h6 q11) rfl ?_
      rintro _ w9 ⟨m9, l9, S9, rfl⟩
      replace a0h0 := a0h0.up l9
      replace h1 := RepL.up l9 h1
      replace h6 := h6.up l9
      replace T1 := T1.up l9
      replace L2 := Mem.tr L2 l9
      clear S2
      replace S9 : St _ ((row 2 v1 c1 x2.1.length) :: As) _ := S9
      refine wpl_yes (d := 44) rfl rfl (congrArg Value.bool hb5) ?_
      refine s_mvv (v := a0v0) rfl ?_
      refine wpl_yes (d := 44) rfl rfl (congrArg Value.bool hb5) ?_
      obtain ⟨x12, q12, q9⟩ := obind_some q9
      refine s_call Tryd.call13 (w_merkle_Root (a0 := a0) S9 a0h0 q12) rfl ?_
      rintro _ w10 ⟨m10, l10, S10, rfl⟩
      replace a0h0 := a0h0.up l10
      replace h1 := RepL.up l10 h1
      replace h6 := h6.up l10
      replace T1 := T1.up l10
      replace L2 := Mem.tr L2 l10
      clear S9
      replace S10 : St _ ((row 2 v1 c1 x2.1.length) :: As) _ := S10
      refine wpl_yes (d := 44) rfl rfl (congrArg Value.bool hb5) ?_
      refine s_mvv (v := v1) rfl ?_
      refine wpl_yes (d := 44) rfl rfl (congrArg Value.bool hb5) ?_
      obtain ⟨m11, l11, h7, S11⟩ := St.rowKeepT (i := 0) S10 rfl h1 rfl
      replace a0h0 := a0h0.up l11
      replace h6 := h6.up l11
      replace T1 := T1.up l11
      replace L2 := Mem.tr L2 l11
      clear S10
      obtain ⟨x13, q13, q9⟩ := obind_some q9
      refine s_call Tryd.call25 (w_merkle_CheckGrow (a0 := a1) (a1 := (a0.length : Int)) (a2 := x11) (a3 := x12) (a4 := x2.1) S11 T1 h7 q13) rfl ?_
      rintro _ w11 ⟨m12, l12, S12, rfl⟩
      replace a0h0 := a0h0.up l12
      replace h7 := h7.up l12
      replace h6 := h6.up l12
      replace T1 := T1.up l12
      replace L2 := Mem.tr L2 l12
      clear S11
      replace S12 : St _ (As) _ := S12
      refine wpl_yes (d := 44) rfl rfl (congrArg Value.bool hb5) ?_
      refine s_eql (m := x13) (n := 0) rfl rfl ?_
      refine s_pickT (congrArg Value.bool hb5) rfl ?_
      refine wpl_nil (nrm ?_)
      have e0 := Option.some.inj q9
      subst e0
      exact ⟨outP, m12, L2, S12, ⟨rfl, trivial⟩⟩
    replace q9 := ifF hb5 q9
    refine wpl_no (d := 44) rfl rfl (congrArg Value.bool hb5) ?_
    refine wpl_no (d := 44) rfl rfl (congrArg Value.bool hb5) ?_
    refine wpl_no (d := 44) rfl rfl (congrArg Value.bool hb5) ?_
    refine wpl_no (d := 44) rfl rfl (congrArg Value.bool hb5) ?_
    refine wpl_no (d := 44) rfl rfl (congrArg Value.bool hb5) ?_
    refine wpl_no (d := 44) rfl rfl (congrArg Value.bool hb5) ?_
    refine wpl_no (d := 44) rfl rfl (congrArg Value.bool hb5) ?_
    refine wpl_no (d := 44) rfl rfl (congrArg Value.bool hb5) ?_
    refine wpl_no (d := 44) rfl rfl (congrArg Value.bool hb5) ?_
    refine wpl_no (d := 44) rfl rfl (congrArg Value.bool hb5) ?_
    refine wpl_no (d := 44) rfl rfl (congrArg Value.bool hb5) ?_
    refine wpl_no (d := 44) rfl rfl (congrArg Value.bool hb5) ?_
    refine s_pickF (congrArg Value.bool hb5) rfl ?_
    refine wpl_nil (nrm ?_)
    obtain ⟨m13, l13, S13⟩ := St.drop S2 0
    replace a0h0 := a0h0.up l13
    replace h1 := RepL.up l13 h1
    replace T1 := T1.up l13
    replace L2 := Mem.tr L2 l13
    clear S2
    replace S13 : St _ (As) _ := S13
    have e0 := Option.some.inj q9
    subst e0
    exact ⟨outP, m13, L2, S13, ⟨rfl, trivial⟩⟩
  rintro f4 w12 ho ⟨m14, l14, S14, ha⟩
  obtain ⟨u4, rfl⟩ := fr_of (N := 58) ho ha
  replace T1 := T1.up l14
  replace L0 := Mem.tr L0 l14
  clear S2
  refine s_asv (v := vb x9) rfl ?_
  refine wpl_nil ?_
  refine nrm ?_
  refine wpc_ret ?_
  refine outRw ?_
  intro we hpd
  replace S14 := St.pd S14 hpd
  have e0 := Option.some.inj hm
  subst e0
  exact outR [_] rfl ⟨rfl, trivial⟩ ⟨_, L0, S14, rfl⟩

end Go.Proofs.YtohipjalgccmnaaDoor
