/- The walks of some functions, written by program. Conditions: none. -/
import Derived.Test.YtohipjalgccmnaaDoorWkG
import Derived.Test.YtohipjalgccmnaaDoorWkO
set_option maxHeartbeats 20000000
set_option maxRecDepth 100000
set_option linter.unusedVariables false
set_option linter.unusedSimpArgs false
namespace Go.Proofs.YtohipjalgccmnaaDoor
open Go Go.Gw

def m_law08_MerkleGrows (a0 : List (UInt64 × UInt64)) (a1 : Int) (a2 : Int) (a3 : UInt64 × UInt64) (a4 : UInt64 × UInt64) (a5 : List (UInt64 × UInt64)) : Option Bool :=
  obind (m_law08_live ) fun x1 =>
  if (!x1) = true then
    some false
  else
  obind (m_law08_few a0) fun x2 =>
  if ((!x2) || (decide ((a5.length : Int) > 40))) = true then
    some x1
  else
  obind (m_merkle_Grow a0 a1) fun x3 =>
  obind (m_ref08_Grow a0 a1) fun x4 =>
  obind (m_ref08_Sums x3.1 x4.1) fun x5 =>
  obind (gu ((x1 && x5) && (x3.2 == x4.2)) (m_merkle_CheckGrow a1 a2 a3 a4 a5)) fun x6 =>
  obind (gu ((x1 && x5) && (x3.2 == x4.2)) (m_ref08_CheckGrow a1 a2 a3 a4 a5)) fun x7 =>
  bnd ((((x1 && x5) && (x3.2 == x4.2)) && (x6 == x7))) fun x8 =>
  some x8

theorem w_law08_MerkleGrows {m : Mem} {As : List Ow} {w : World} {a0 : List (UInt64 × UInt64)} {a0v0 : Value} {a1 : Int} {a2 : Int} {a3 : UInt64 × UInt64} {a4 : UInt64 × UInt64} {a5 : List (UInt64 × UInt64)} {a5v0 : Value} {r : Bool} (S : St m (As) w) (T1 : PtC m (pt 1 0) (tab_1.map vB)) (a0h0 : SlR m a0v0 a0) (a5h0 : SlR m a5v0 a5) (hm : m_law08_MerkleGrows a0 a1 a2 a3 a4 a5 = some r) :
    CallsR Tryd.prog 5 #[a0v0, vI a1, vI a2, .agg #[vU a3.1, vU a3.2], .agg #[vU a4.1, vU a4.2], a5v0] w fun v w' => ∃ (M : Mem), m ≤ M ∧ St M (As) w' ∧ v = vb r := by
  unfold m_law08_MerkleGrows at hm
  have L0 := Mem.rfl' m
  refine callsR (args := [a0v0, vI a1, vI a2, .agg #[vU a3.1, vU a3.2], .agg #[vU a4.1, vU a4.2], a5v0]) Tryd.func5 rfl Tryd.ntmps5 (Nat.le_of_ble_eq_true rfl) ?_
  refine wpc_seq ?_
  refine wpc_region ?_
  refine s_box S rfl ?_
  intro b1 w1 S1
  replace S1 : St _ ((bx b1 [vU a3.1, vU a3.2] 27) :: As) _ := S1
  clear S
  refine s_box S1 rfl ?_
  intro b2 w2 S2
  replace S2 : St _ ((bx b2 [vU a4.1, vU a4.2] 27) :: (bx b1 [vU a3.1, vU a3.2] 27) :: As) _ := S2
  clear S1
  refine s_asv (v := vb false) rfl ?_
  refine wpl_nil ?_
  refine nrm ?_
  refine wpc_seq ?_
  refine wpc_region ?_
  obtain ⟨x1, q1, hm⟩ := obind_some hm
  refine s_call Tryd.call12 (w_law08_live  S2 T1 q1) rfl ?_
  rintro _ w3 ⟨m1, l1, S3, rfl⟩
  replace a0h0 := a0h0.up l1
  replace a5h0 := a5h0.up l1
  replace T1 := T1.up l1
  replace L0 := Mem.tr L0 l1
  clear S2
  replace S3 : St _ ((bx b2 [vU a4.1, vU a4.2] 27) :: (bx b1 [vU a3.1, vU a3.2] 27) :: As) _ := S3
  refine s_asv (v := vb x1) rfl ?_
  refine wpl_nil ?_
  refine nrm ?_
  refine wpc_seq ?_
  refine wpc_seq ?_
  refine wpc_region ?_
  refine s_mvv (v := vb x1) rfl ?_
  refine s_not rfl ?_
  refine wpl_nil ?_
  refine nrm ?_
  refine wpc_if (t := (!x1)) rfl (fun hc1 => ?_) (fun hc1 => ?_)
  · replace hm := ifT hc1 hm
    refine wpc_seq ?_
    refine wpc_region ?_
    refine s_asv (v := vb false) rfl ?_
    refine wpl_nil ?_
    refine nrm ?_
    refine wpc_ret ?_
    refine thR ?_
    refine outRw ?_
    intro we hpd
    replace S3 := St.pd S3 hpd
    obtain ⟨m2, l2, S4⟩ := St.drop S3 0
    replace T1 := T1.up l2
    replace L0 := Mem.tr L0 l2
    clear S3
    replace S4 : St _ ((bx b1 [vU a3.1, vU a3.2] 27) :: As) _ := S4
    obtain ⟨m3, l3, S5⟩ := St.drop S4 0
    replace T1 := T1.up l3
    replace L0 := Mem.tr L0 l3
    clear S4
    replace S5 : St _ (As) _ := S5
    have e0 := Option.some.inj hm
    subst e0
    exact outR [_] rfl ⟨rfl, trivial⟩ ⟨_, L0, S5, rfl⟩
  replace hm := ifF hc1 hm
  refine wpc_skip ?_
  refine nrm ?_
  refine wpc_seq ?_
  refine wpc_seq ?_
  refine wpc_region ?_
  refine s_mvv (v := a0v0) rfl ?_
  obtain ⟨x2, q2, hm⟩ := obind_some hm
  refine s_call Tryd.call17 (w_law08_few (a0 := a0) S3 a0h0 q2) rfl ?_
  rintro _ w4 ⟨m4, l4, S6, rfl⟩
  replace a0h0 := a0h0.up l4
  replace a5h0 := a5h0.up l4
  replace T1 := T1.up l4
  replace L0 := Mem.tr L0 l4
  clear S3
  replace S6 : St _ ((bx b2 [vU a4.1, vU a4.2] 27) :: (bx b1 [vU a3.1, vU a3.2] 27) :: As) _ := S6
  refine s_not rfl ?_
  refine s_mvv (v := vb (!x2)) rfl ?_
  refine wpl_cut 4 [26, 27, 28, 29] (fun f' w' => w' = w4 ∧ AllAt f' [(29, vb ((!x2) || (decide ((a5.length : Int) > 40))))]) ?_ ?_
  · rcases bool_tf (!x2) with hb1 | hb1
    · refine wpl_no (d := 25) rfl rfl (congrArg Value.bool hb1) ?_
      refine wpl_no (d := 25) rfl rfl (congrArg Value.bool hb1) ?_
      refine wpl_no (d := 25) rfl rfl (congrArg Value.bool hb1) ?_
      refine s_pickT (congrArg Value.bool hb1) rfl ?_
      exact wpl_nil (nrm ⟨outP, rfl, congrArg Value.bool (or_t hb1), trivial⟩)
    · refine wpl_yes (d := 25) rfl rfl (congrArg Value.bool hb1) ?_
      refine s_mvv (v := a5v0) rfl ?_
      refine wpl_yes (d := 25) rfl rfl (congrArg Value.bool hb1) ?_
      refine s_lenR (xs := a5) rfl a5h0 Tryd.underlying22 ?_
      refine wpl_yes (d := 25) rfl rfl (congrArg Value.bool hb1) ?_
      refine s_gtr (m := (a5.length : Int)) (n := 40) rfl rfl ?_
      refine s_pickF (congrArg Value.bool hb1) rfl ?_
      exact wpl_nil (nrm ⟨outP, rfl, congrArg Value.bool (or_f hb1), trivial⟩)
  rintro f1 w5 ho ⟨h1, ha⟩
  subst h1
  obtain ⟨u1, rfl⟩ := fr_of (N := 70) ho ha
  refine wpl_nil ?_
  refine nrm ?_
  refine wpc_if (t := ((!x2) || (decide ((a5.length : Int) > 40)))) rfl (fun hc2 => ?_) (fun hc2 => ?_)
  · replace hm := ifT hc2 hm
    refine wpc_seq ?_
    refine wpc_region ?_
    refine s_mvv (v := vb x1) rfl ?_
    refine s_asv (v := vb x1) rfl ?_
    refine wpl_nil ?_
    refine nrm ?_
    refine wpc_ret ?_
    refine thR ?_
    refine outRw ?_
    intro we hpd
    replace S6 := St.pd S6 hpd
    obtain ⟨m5, l5, S7⟩ := St.drop S6 0
    replace T1 := T1.up l5
    replace L0 := Mem.tr L0 l5
    clear S6
    replace S7 : St _ ((bx b1 [vU a3.1, vU a3.2] 27) :: As) _ := S7
    obtain ⟨m6, l6, S8⟩ := St.drop S7 0
    replace T1 := T1.up l6
    replace L0 := Mem.tr L0 l6
    clear S7
    replace S8 : St _ (As) _ := S8
    have e0 := Option.some.inj hm
    subst e0
    exact outR [_] rfl ⟨rfl, trivial⟩ ⟨_, L0, S8, rfl⟩
  replace hm := ifF hc2 hm
  refine wpc_skip ?_
  refine nrm ?_
  refine wpc_seq ?_
  refine wpc_region ?_
  refine s_mvv (v := a0v0) rfl ?_
  refine s_mvv (v := vI a1) rfl ?_
  obtain ⟨x3, q3, hm⟩ := obind_some hm
  refine s_call Tryd.call23 (w_merkle_Grow (a0 := a0) (a1 := a1) S6 a0h0 q3) rfl ?_
  rintro _ w6 ⟨m7, l7, v1, c1, S9, rfl, h2⟩
  replace a0h0 := a0h0.up l7
  replace a5h0 := a5h0.up l7
  replace T1 := T1.up l7
  replace L0 := Mem.tr L0 l7
  clear S6
  replace S9 : St _ ((row 2 v1 c1 x3.1.length) :: (bx b2 [vU a4.1, vU a4.2] 27) :: (bx b1 [vU a3.1, vU a3.2] 27) :: As) _ := S9
  refine s_mvv (v := .tuple #[v1, vI x3.2]) rfl ?_
  refine s_ext (i := 0) rfl rfl ?_
  refine s_ext (i := 1) rfl rfl ?_
  refine s_asv (v := v1) rfl ?_
  refine s_asv (v := vI x3.2) rfl ?_
  refine wpl_nil ?_
  refine nrm ?_
  refine wpc_seq ?_
  refine wpc_region ?_
  refine s_mvv (v := a0v0) rfl ?_
  refine s_mvv (v := vI a1) rfl ?_
  obtain ⟨x4, q4, hm⟩ := obind_some hm
  refine s_call Tryd.call24 (w_ref08_Grow (a0 := a0) (a1 := a1) S9 a0h0 q4) rfl ?_
  rintro _ w7 ⟨m8, l8, v2, c2, S10, rfl, h3⟩
  replace a5h0 := a5h0.up l8
  replace h2 := RepL.up l8 h2
  replace a0h0 := a0h0.up l8
  replace T1 := T1.up l8
  replace L0 := Mem.tr L0 l8
  clear S9
  replace S10 : St _ ((row 2 v2 c2 x4.1.length) :: (row 2 v1 c1 x3.1.length) :: (bx b2 [vU a4.1, vU a4.2] 27) :: (bx b1 [vU a3.1, vU a3.2] 27) :: As) _ := S10
  refine s_mvv (v := .tuple #[v2, vI x4.2]) rfl ?_
  refine s_ext (i := 0) rfl rfl ?_
  refine s_ext (i := 1) rfl rfl ?_
  refine s_asv (v := v2) rfl ?_
  refine s_asv (v := vI x4.2) rfl ?_
  refine wpl_nil ?_
  refine nrm ?_
  refine wpc_seq ?_
  refine wpc_region ?_
  refine s_mvv (v := v1) rfl ?_
  refine s_mvv (v := v2) rfl ?_
  obtain ⟨m9, l9, h4, S11⟩ := St.rowKeepT (i := 1) S10 rfl h2 rfl
  replace a5h0 := a5h0.up l9
  replace h3 := RepL.up l9 h3
  replace T1 := T1.up l9
  replace L0 := Mem.tr L0 l9
  clear S10
  obtain ⟨m10, l10, h5, S12⟩ := St.rowKeepT (i := 0) S11 rfl h3 rfl
  replace a5h0 := a5h0.up l10
  replace h4 := h4.up l10
  replace T1 := T1.up l10
  replace L0 := Mem.tr L0 l10
  clear S11
  obtain ⟨x5, q5, hm⟩ := obind_some hm
  refine s_call Tryd.call20 (w_ref08_Sums (a0 := x3.1) (a1 := x4.1) S12 h4 h5 q5) rfl ?_
  rintro _ w8 ⟨m11, l11, S13, rfl⟩
  replace a5h0 := a5h0.up l11
  replace h4 := h4.up l11
  replace h5 := h5.up l11
  replace T1 := T1.up l11
  replace L0 := Mem.tr L0 l11
  clear S12
  replace S13 : St _ ((bx b2 [vU a4.1, vU a4.2] 27) :: (bx b1 [vU a3.1, vU a3.2] 27) :: As) _ := S13
  refine s_asv (v := vb x5) rfl ?_
  refine wpl_nil ?_
  refine nrm ?_
  refine wpc_seq ?_
  obtain ⟨x6, q6, hm⟩ := obind_some hm
  obtain ⟨x7, q7, hm⟩ := obind_some hm
  have HM : MonoAll [(46, fun (M : Mem) (v : Value) => v = vb x1), (47, fun (M : Mem) (v : Value) => v = vb x1), (48, fun (M : Mem) (v : Value) => (x1 = true → v = vb x5) ∧ (x1 = false → v = undef)), (49, fun (M : Mem) (v : Value) => v = vb (x1 && x5)), (50, fun (M : Mem) (v : Value) => v = vb (x1 && x5)), (51, fun (M : Mem) (v : Value) => ((x1 && x5) = true → v = vI x3.2) ∧ ((x1 && x5) = false → v = undef)), (52, fun (M : Mem) (v : Value) => ((x1 && x5) = true → v = vI x4.2) ∧ ((x1 && x5) = false → v = undef)), (53, fun (M : Mem) (v : Value) => ((x1 && x5) = true → v = vb (x3.2 == x4.2)) ∧ ((x1 && x5) = false → v = undef)), (54, fun (M : Mem) (v : Value) => v = vb ((x1 && x5) && (x3.2 == x4.2))), (55, fun (M : Mem) (v : Value) => v = vb ((x1 && x5) && (x3.2 == x4.2))), (56, fun (M : Mem) (v : Value) => (((x1 && x5) && (x3.2 == x4.2)) = true → v = vI a1) ∧ (((x1 && x5) && (x3.2 == x4.2)) = false → v = undef)), (57, fun (M : Mem) (v : Value) => (((x1 && x5) && (x3.2 == x4.2)) = true → v = vI a2) ∧ (((x1 && x5) && (x3.2 == x4.2)) = false → v = undef)), (58, fun (M : Mem) (v : Value) => (((x1 && x5) && (x3.2 == x4.2)) = true → v = .agg #[vU a3.1, vU a3.2]) ∧ (((x1 && x5) && (x3.2 == x4.2)) = false → v = undef)), (59, fun (M : Mem) (v : Value) => (((x1 && x5) && (x3.2 == x4.2)) = true → v = .agg #[vU a4.1, vU a4.2]) ∧ (((x1 && x5) && (x3.2 == x4.2)) = false → v = undef)), (60, fun (M : Mem) (v : Value) => (((x1 && x5) && (x3.2 == x4.2)) = true → v = a5v0) ∧ (((x1 && x5) && (x3.2 == x4.2)) = false → v = undef)), (61, fun (M : Mem) (v : Value) => (((x1 && x5) && (x3.2 == x4.2)) = true → v = vI x6) ∧ (((x1 && x5) && (x3.2 == x4.2)) = false → v = undef)), (62, fun (M : Mem) (v : Value) => (((x1 && x5) && (x3.2 == x4.2)) = true → v = vI a1) ∧ (((x1 && x5) && (x3.2 == x4.2)) = false → v = undef)), (63, fun (M : Mem) (v : Value) => (((x1 && x5) && (x3.2 == x4.2)) = true → v = vI a2) ∧ (((x1 && x5) && (x3.2 == x4.2)) = false → v = undef)), (64, fun (M : Mem) (v : Value) => (((x1 && x5) && (x3.2 == x4.2)) = true → v = .agg #[vU a3.1, vU a3.2]) ∧ (((x1 && x5) && (x3.2 == x4.2)) = false → v = undef)), (65, fun (M : Mem) (v : Value) => (((x1 && x5) && (x3.2 == x4.2)) = true → v = .agg #[vU a4.1, vU a4.2]) ∧ (((x1 && x5) && (x3.2 == x4.2)) = false → v = undef)), (66, fun (M : Mem) (v : Value) => (((x1 && x5) && (x3.2 == x4.2)) = true → v = a5v0) ∧ (((x1 && x5) && (x3.2 == x4.2)) = false → v = undef)), (67, fun (M : Mem) (v : Value) => (((x1 && x5) && (x3.2 == x4.2)) = true → v = vI x7) ∧ (((x1 && x5) && (x3.2 == x4.2)) = false → v = undef)), (68, fun (M : Mem) (v : Value) => (((x1 && x5) && (x3.2 == x4.2)) = true → v = vb (x6 == x7)) ∧ (((x1 && x5) && (x3.2 == x4.2)) = false → v = undef)), (69, fun (M : Mem) (v : Value) => v = vb (((x1 && x5) && (x3.2 == x4.2)) && (x6 == x7)))] := ⟨(fun _ _ _ _ h => h), (fun _ _ _ _ h => h), (fun _ _ _ _ h => h), (fun _ _ _ _ h => h), (fun _ _ _ _ h => h), (fun _ _ _ _ h => h), (fun _ _ _ _ h => h), (fun _ _ _ _ h => h), (fun _ _ _ _ h => h), (fun _ _ _ _ h => h), (fun _ _ _ _ h => h), (fun _ _ _ _ h => h), (fun _ _ _ _ h => h), (fun _ _ _ _ h => h), (fun _ _ _ _ h => h), (fun _ _ _ _ h => h), (fun _ _ _ _ h => h), (fun _ _ _ _ h => h), (fun _ _ _ _ h => h), (fun _ _ _ _ h => h), (fun _ _ _ _ h => h), (fun _ _ _ _ h => h), (fun _ _ _ _ h => h), (fun _ _ _ _ h => h), trivial⟩
  refine wpc_flowG HM 24 mixed rfl rfl rfl [46, 47, 48, 49, 50, 51, 52, 53, 54, 55, 56, 57, 58, 59, 60, 61, 62, 63, 64, 65, 66, 67, 68, 69] (fun L f M w => St M ((bx b2 [vU a4.1, vU a4.2] 27) :: (bx b1 [vU a3.1, vU a3.2] 27) :: As) w) (St.drew S13 _) ?_ ?_
  · refine ⟨?_, ?_, ?_, ?_, ?_, ?_, ?_, ?_, ?_, ?_, ?_, ?_, ?_, ?_, ?_, ?_, ?_, ?_, ?_, ?_, ?_, ?_, ?_, ?_, trivial⟩
    · intro L f2 w9 hL hd hc ⟨m12, L1, S14, K, hO⟩
      obtain ⟨u2, rfl⟩ := fr_of (N := 70) (L := []) hO trivial
      replace S14 : St _ ((bx b2 [vU a4.1, vU a4.2] 27) :: (bx b1 [vU a3.1, vU a3.2] 27) :: As) _ := S14
      have L2 := Mem.rfl' m12
      refine s_mvv (v := vb x1) rfl ?_
      refine wpn ?_
      refine ⟨m12, Mem.tr L1 L2, ?_, facts_step HM rfl K L2 rfl rfl rfl, outP⟩
      exact S14
    · intro L f3 w10 hL hd hc ⟨m13, L3, S15, K, hO⟩
      have d0 : L 0 = true := dep hd rfl
      have e1 := K 0 d0
      obtain ⟨u3, rfl⟩ := fr_of (N := 70) (L := [(46, vb x1)]) hO ⟨e1, trivial⟩
      replace S15 : St _ ((bx b2 [vU a4.1, vU a4.2] 27) :: (bx b1 [vU a3.1, vU a3.2] 27) :: As) _ := S15
      have L4 := Mem.rfl' m13
      refine s_mvv (v := vb x1) rfl ?_
      refine wpn ?_
      refine ⟨m13, Mem.tr L3 L4, ?_, facts_step HM rfl K L4 rfl rfl rfl, outP⟩
      exact S15
    · intro L f4 w11 hL hd hc ⟨m14, L5, S16, K, hO⟩
      rcases bool_tf x1 with hb2 | hb2
      · have d1 : L 1 = true := dep hd rfl
        have e2 := K 1 d1
        obtain ⟨u4, rfl⟩ := fr_of (N := 70) (L := [(47, vb x1)]) hO ⟨e2, trivial⟩
        replace S16 : St _ ((bx b2 [vU a4.1, vU a4.2] 27) :: (bx b1 [vU a3.1, vU a3.2] 27) :: As) _ := S16
        have L6 := Mem.rfl' m14
        refine wpl_yes (d := 47) rfl rfl (congrArg Value.bool hb2) ?_
        refine s_mvv (v := vb x5) rfl ?_
        refine wpn ?_
        refine ⟨m14, Mem.tr L5 L6, ?_, facts_step HM rfl K L6 rfl rfl ⟨fun _ => rfl, fun hx => tf hb2 hx⟩, outP⟩
        exact S16
      have d1 : L 1 = true := dep hd rfl
      have e3 := K 1 d1
      obtain ⟨u5, rfl⟩ := fr_of (N := 70) (L := [(47, vb x1)]) hO ⟨e3, trivial⟩
      replace S16 : St _ ((bx b2 [vU a4.1, vU a4.2] 27) :: (bx b1 [vU a3.1, vU a3.2] 27) :: As) _ := S16
      have L7 := Mem.rfl' m14
      refine wpl_no (d := 47) rfl rfl (congrArg Value.bool hb2) ?_
      refine wpn ?_
      refine ⟨m14, Mem.tr L5 L7, ?_, facts_step HM rfl K L7 rfl rfl ⟨fun hx => tf hx hb2, fun _ => rfl⟩, outP⟩
      exact S16
    · intro L f5 w12 hL hd hc ⟨m15, L8, S17, K, hO⟩
      rcases bool_tf x1 with hb3 | hb3
      · have d1 : L 1 = true := dep hd rfl
        have e4 := K 1 d1
        have d2 : L 2 = true := dep hd rfl
        have e5 := (K 2 d2).1 hb3
        obtain ⟨u6, rfl⟩ := fr_of (N := 70) (L := [(47, vb x1), (48, vb x5)]) hO ⟨e4, e5, trivial⟩
        replace S17 : St _ ((bx b2 [vU a4.1, vU a4.2] 27) :: (bx b1 [vU a3.1, vU a3.2] 27) :: As) _ := S17
        have L9 := Mem.rfl' m15
        refine s_pickT (congrArg Value.bool hb3) rfl ?_
        refine wpn ?_
        refine ⟨m15, Mem.tr L8 L9, ?_, facts_step HM rfl K L9 rfl rfl (congrArg Value.bool (and_t hb3)), outP⟩
        exact S17
      · have d1 : L 1 = true := dep hd rfl
        have e6 := K 1 d1
        obtain ⟨u7, rfl⟩ := fr_of (N := 70) (L := [(47, vb x1)]) hO ⟨e6, trivial⟩
        replace S17 : St _ ((bx b2 [vU a4.1, vU a4.2] 27) :: (bx b1 [vU a3.1, vU a3.2] 27) :: As) _ := S17
        have L10 := Mem.rfl' m15
        refine s_pickF (congrArg Value.bool hb3) rfl ?_
        refine wpn ?_
        refine ⟨m15, Mem.tr L8 L10, ?_, facts_step HM rfl K L10 rfl rfl (congrArg Value.bool (and_f hb3)), outP⟩
        exact S17
    · intro L f6 w13 hL hd hc ⟨m16, L11, S18, K, hO⟩
      have d3 : L 3 = true := dep hd rfl
      have e7 := K 3 d3
      obtain ⟨u8, rfl⟩ := fr_of (N := 70) (L := [(49, vb (x1 && x5))]) hO ⟨e7, trivial⟩
      replace S18 : St _ ((bx b2 [vU a4.1, vU a4.2] 27) :: (bx b1 [vU a3.1, vU a3.2] 27) :: As) _ := S18
      have L12 := Mem.rfl' m16
      refine s_mvv (v := vb (x1 && x5)) rfl ?_
      refine wpn ?_
      refine ⟨m16, Mem.tr L11 L12, ?_, facts_step HM rfl K L12 rfl rfl rfl, outP⟩
      exact S18
    · intro L f7 w14 hL hd hc ⟨m17, L13, S19, K, hO⟩
      rcases bool_tf (x1 && x5) with hb4 | hb4
      · have d4 : L 4 = true := dep hd rfl
        have e8 := K 4 d4
        obtain ⟨u9, rfl⟩ := fr_of (N := 70) (L := [(50, vb (x1 && x5))]) hO ⟨e8, trivial⟩
        replace S19 : St _ ((bx b2 [vU a4.1, vU a4.2] 27) :: (bx b1 [vU a3.1, vU a3.2] 27) :: As) _ := S19
        have L14 := Mem.rfl' m17
        refine wpl_yes (d := 50) rfl rfl (congrArg Value.bool hb4) ?_
        refine s_mvv (v := vI x3.2) rfl ?_
        refine wpn ?_
        refine ⟨m17, Mem.tr L13 L14, ?_, facts_step HM rfl K L14 rfl rfl ⟨fun _ => rfl, fun hx => tf hb4 hx⟩, outP⟩
        exact S19
      have d4 : L 4 = true := dep hd rfl
      have e9 := K 4 d4
      obtain ⟨u10, rfl⟩ := fr_of (N := 70) (L := [(50, vb (x1 && x5))]) hO ⟨e9, trivial⟩
      replace S19 : St _ ((bx b2 [vU a4.1, vU a4.2] 27) :: (bx b1 [vU a3.1, vU a3.2] 27) :: As) _ := S19
      have L15 := Mem.rfl' m17
      refine wpl_no (d := 50) rfl rfl (congrArg Value.bool hb4) ?_
      refine wpn ?_
      refine ⟨m17, Mem.tr L13 L15, ?_, facts_step HM rfl K L15 rfl rfl ⟨fun hx => tf hx hb4, fun _ => rfl⟩, outP⟩
      exact S19
    · intro L f8 w15 hL hd hc ⟨m18, L16, S20, K, hO⟩
      rcases bool_tf (x1 && x5) with hb5 | hb5
      · have d4 : L 4 = true := dep hd rfl
        have e10 := K 4 d4
        obtain ⟨u11, rfl⟩ := fr_of (N := 70) (L := [(50, vb (x1 && x5))]) hO ⟨e10, trivial⟩
        replace S20 : St _ ((bx b2 [vU a4.1, vU a4.2] 27) :: (bx b1 [vU a3.1, vU a3.2] 27) :: As) _ := S20
        have L17 := Mem.rfl' m18
        refine wpl_yes (d := 50) rfl rfl (congrArg Value.bool hb5) ?_
        refine s_mvv (v := vI x4.2) rfl ?_
        refine wpn ?_
        refine ⟨m18, Mem.tr L16 L17, ?_, facts_step HM rfl K L17 rfl rfl ⟨fun _ => rfl, fun hx => tf hb5 hx⟩, outP⟩
        exact S20
      have d4 : L 4 = true := dep hd rfl
      have e11 := K 4 d4
      obtain ⟨u12, rfl⟩ := fr_of (N := 70) (L := [(50, vb (x1 && x5))]) hO ⟨e11, trivial⟩
      replace S20 : St _ ((bx b2 [vU a4.1, vU a4.2] 27) :: (bx b1 [vU a3.1, vU a3.2] 27) :: As) _ := S20
      have L18 := Mem.rfl' m18
      refine wpl_no (d := 50) rfl rfl (congrArg Value.bool hb5) ?_
      refine wpn ?_
      refine ⟨m18, Mem.tr L16 L18, ?_, facts_step HM rfl K L18 rfl rfl ⟨fun hx => tf hx hb5, fun _ => rfl⟩, outP⟩
      exact S20
    · intro L f9 w16 hL hd hc ⟨m19, L19, S21, K, hO⟩
      rcases bool_tf (x1 && x5) with hb6 | hb6
      · have d4 : L 4 = true := dep hd rfl
        have e12 := K 4 d4
        have d5 : L 5 = true := dep hd rfl
        have e13 := (K 5 d5).1 hb6
        have d6 : L 6 = true := dep hd rfl
        have e14 := (K 6 d6).1 hb6
        obtain ⟨u13, rfl⟩ := fr_of (N := 70) (L := [(50, vb (x1 && x5)), (51, vI x3.2), (52, vI x4.2)]) hO ⟨e12, e13, e14, trivial⟩
        replace S21 : St _ ((bx b2 [vU a4.1, vU a4.2] 27) :: (bx b1 [vU a3.1, vU a3.2] 27) :: As) _ := S21
        have L20 := Mem.rfl' m19
        refine wpl_yes (d := 50) rfl rfl (congrArg Value.bool hb6) ?_
        refine s_eql (m := x3.2) (n := x4.2) rfl rfl ?_
        refine wpn ?_
        refine ⟨m19, Mem.tr L19 L20, ?_, facts_step HM rfl K L20 rfl rfl ⟨fun _ => rfl, fun hx => tf hb6 hx⟩, outP⟩
        exact S21
      have d4 : L 4 = true := dep hd rfl
      have e15 := K 4 d4
      obtain ⟨u14, rfl⟩ := fr_of (N := 70) (L := [(50, vb (x1 && x5))]) hO ⟨e15, trivial⟩
      replace S21 : St _ ((bx b2 [vU a4.1, vU a4.2] 27) :: (bx b1 [vU a3.1, vU a3.2] 27) :: As) _ := S21
      have L21 := Mem.rfl' m19
      refine wpl_no (d := 50) rfl rfl (congrArg Value.bool hb6) ?_
      refine wpn ?_
      refine ⟨m19, Mem.tr L19 L21, ?_, facts_step HM rfl K L21 rfl rfl ⟨fun hx => tf hx hb6, fun _ => rfl⟩, outP⟩
      exact S21
    · intro L f10 w17 hL hd hc ⟨m20, L22, S22, K, hO⟩
      rcases bool_tf (x1 && x5) with hb7 | hb7
      · have d4 : L 4 = true := dep hd rfl
        have e16 := K 4 d4
        have d7 : L 7 = true := dep hd rfl
        have e17 := (K 7 d7).1 hb7
        obtain ⟨u15, rfl⟩ := fr_of (N := 70) (L := [(50, vb (x1 && x5)), (53, vb (x3.2 == x4.2))]) hO ⟨e16, e17, trivial⟩
        replace S22 : St _ ((bx b2 [vU a4.1, vU a4.2] 27) :: (bx b1 [vU a3.1, vU a3.2] 27) :: As) _ := S22
        have L23 := Mem.rfl' m20
        refine s_pickT (congrArg Value.bool hb7) rfl ?_
        refine wpn ?_
        refine ⟨m20, Mem.tr L22 L23, ?_, facts_step HM rfl K L23 rfl rfl (congrArg Value.bool (and_t hb7)), outP⟩
        exact S22
      · have d4 : L 4 = true := dep hd rfl
        have e18 := K 4 d4
        obtain ⟨u16, rfl⟩ := fr_of (N := 70) (L := [(50, vb (x1 && x5))]) hO ⟨e18, trivial⟩
        replace S22 : St _ ((bx b2 [vU a4.1, vU a4.2] 27) :: (bx b1 [vU a3.1, vU a3.2] 27) :: As) _ := S22
        have L24 := Mem.rfl' m20
        refine s_pickF (congrArg Value.bool hb7) rfl ?_
        refine wpn ?_
        refine ⟨m20, Mem.tr L22 L24, ?_, facts_step HM rfl K L24 rfl rfl (congrArg Value.bool (and_f hb7)), outP⟩
        exact S22
    · intro L f11 w18 hL hd hc ⟨m21, L25, S23, K, hO⟩
      have d8 : L 8 = true := dep hd rfl
      have e19 := K 8 d8
      obtain ⟨u17, rfl⟩ := fr_of (N := 70) (L := [(54, vb ((x1 && x5) && (x3.2 == x4.2)))]) hO ⟨e19, trivial⟩
      replace S23 : St _ ((bx b2 [vU a4.1, vU a4.2] 27) :: (bx b1 [vU a3.1, vU a3.2] 27) :: As) _ := S23
      have L26 := Mem.rfl' m21
      refine s_mvv (v := vb ((x1 && x5) && (x3.2 == x4.2))) rfl ?_
      refine wpn ?_
      refine ⟨m21, Mem.tr L25 L26, ?_, facts_step HM rfl K L26 rfl rfl rfl, outP⟩
      exact S23
    · intro L f12 w19 hL hd hc ⟨m22, L27, S24, K, hO⟩
      rcases bool_tf ((x1 && x5) && (x3.2 == x4.2)) with hb8 | hb8
      · have d9 : L 9 = true := dep hd rfl
        have e20 := K 9 d9
        obtain ⟨u18, rfl⟩ := fr_of (N := 70) (L := [(55, vb ((x1 && x5) && (x3.2 == x4.2)))]) hO ⟨e20, trivial⟩
        replace S24 : St _ ((bx b2 [vU a4.1, vU a4.2] 27) :: (bx b1 [vU a3.1, vU a3.2] 27) :: As) _ := S24
        have L28 := Mem.rfl' m22
        refine wpl_yes (d := 55) rfl rfl (congrArg Value.bool hb8) ?_
        refine s_mvv (v := vI a1) rfl ?_
        refine wpn ?_
        refine ⟨m22, Mem.tr L27 L28, ?_, facts_step HM rfl K L28 rfl rfl ⟨fun _ => rfl, fun hx => tf hb8 hx⟩, outP⟩
        exact S24
      have d9 : L 9 = true := dep hd rfl
      have e21 := K 9 d9
      obtain ⟨u19, rfl⟩ := fr_of (N := 70) (L := [(55, vb ((x1 && x5) && (x3.2 == x4.2)))]) hO ⟨e21, trivial⟩
      replace S24 : St _ ((bx b2 [vU a4.1, vU a4.2] 27) :: (bx b1 [vU a3.1, vU a3.2] 27) :: As) _ := S24
      have L29 := Mem.rfl' m22
      refine wpl_no (d := 55) rfl rfl (congrArg Value.bool hb8) ?_
      refine wpn ?_
      refine ⟨m22, Mem.tr L27 L29, ?_, facts_step HM rfl K L29 rfl rfl ⟨fun hx => tf hx hb8, fun _ => rfl⟩, outP⟩
      exact S24
    · intro L f13 w20 hL hd hc ⟨m23, L30, S25, K, hO⟩
      rcases bool_tf ((x1 && x5) && (x3.2 == x4.2)) with hb9 | hb9
      · have d9 : L 9 = true := dep hd rfl
        have e22 := K 9 d9
        obtain ⟨u20, rfl⟩ := fr_of (N := 70) (L := [(55, vb ((x1 && x5) && (x3.2 == x4.2)))]) hO ⟨e22, trivial⟩
        replace S25 : St _ ((bx b2 [vU a4.1, vU a4.2] 27) :: (bx b1 [vU a3.1, vU a3.2] 27) :: As) _ := S25
        have L31 := Mem.rfl' m23
        refine wpl_yes (d := 55) rfl rfl (congrArg Value.bool hb9) ?_
        refine s_mvv (v := vI a2) rfl ?_
        refine wpn ?_
        refine ⟨m23, Mem.tr L30 L31, ?_, facts_step HM rfl K L31 rfl rfl ⟨fun _ => rfl, fun hx => tf hb9 hx⟩, outP⟩
        exact S25
      have d9 : L 9 = true := dep hd rfl
      have e23 := K 9 d9
      obtain ⟨u21, rfl⟩ := fr_of (N := 70) (L := [(55, vb ((x1 && x5) && (x3.2 == x4.2)))]) hO ⟨e23, trivial⟩
      replace S25 : St _ ((bx b2 [vU a4.1, vU a4.2] 27) :: (bx b1 [vU a3.1, vU a3.2] 27) :: As) _ := S25
      have L32 := Mem.rfl' m23
      refine wpl_no (d := 55) rfl rfl (congrArg Value.bool hb9) ?_
      refine wpn ?_
      refine ⟨m23, Mem.tr L30 L32, ?_, facts_step HM rfl K L32 rfl rfl ⟨fun hx => tf hx hb9, fun _ => rfl⟩, outP⟩
      exact S25
    · intro L f14 w21 hL hd hc ⟨m24, L33, S26, K, hO⟩
      rcases bool_tf ((x1 && x5) && (x3.2 == x4.2)) with hb10 | hb10
      · have d9 : L 9 = true := dep hd rfl
        have e24 := K 9 d9
        obtain ⟨u22, rfl⟩ := fr_of (N := 70) (L := [(55, vb ((x1 && x5) && (x3.2 == x4.2)))]) hO ⟨e24, trivial⟩
        replace S26 : St _ ((bx b2 [vU a4.1, vU a4.2] 27) :: (bx b1 [vU a3.1, vU a3.2] 27) :: As) _ := S26
        replace a5h0 := a5h0.up L33
        replace T1 := T1.up L33
        have L34 := Mem.rfl' m24
        refine wpl_yes (d := 55) rfl rfl (congrArg Value.bool hb10) ?_
        refine s_ld (i := 1) (cs := [vU a3.1, vU a3.2]) S26 rfl rfl Tryd.isAgg27 Tryd.sizeOf27 rfl (fun h => by cases h) ?_
        refine wpn ?_
        refine ⟨m24, Mem.tr L33 L34, ?_, facts_step HM rfl K L34 rfl rfl ⟨fun _ => rfl, fun hx => tf hb10 hx⟩, outP⟩
        exact S26
      have d9 : L 9 = true := dep hd rfl
      have e25 := K 9 d9
      obtain ⟨u23, rfl⟩ := fr_of (N := 70) (L := [(55, vb ((x1 && x5) && (x3.2 == x4.2)))]) hO ⟨e25, trivial⟩
      replace S26 : St _ ((bx b2 [vU a4.1, vU a4.2] 27) :: (bx b1 [vU a3.1, vU a3.2] 27) :: As) _ := S26
      have L35 := Mem.rfl' m24
      refine wpl_no (d := 55) rfl rfl (congrArg Value.bool hb10) ?_
      refine wpn ?_
      refine ⟨m24, Mem.tr L33 L35, ?_, facts_step HM rfl K L35 rfl rfl ⟨fun hx => tf hx hb10, fun _ => rfl⟩, outP⟩
      exact S26
    · intro L f15 w22 hL hd hc ⟨m25, L36, S27, K, hO⟩
      rcases bool_tf ((x1 && x5) && (x3.2 == x4.2)) with hb11 | hb11
      · have d9 : L 9 = true := dep hd rfl
        have e26 := K 9 d9
        obtain ⟨u24, rfl⟩ := fr_of (N := 70) (L := [(55, vb ((x1 && x5) && (x3.2 == x4.2)))]) hO ⟨e26, trivial⟩
        replace S27 : St _ ((bx b2 [vU a4.1, vU a4.2] 27) :: (bx b1 [vU a3.1, vU a3.2] 27) :: As) _ := S27
        replace a5h0 := a5h0.up L36
        replace T1 := T1.up L36
        have L37 := Mem.rfl' m25
        refine wpl_yes (d := 55) rfl rfl (congrArg Value.bool hb11) ?_
        refine s_ld (i := 0) (cs := [vU a4.1, vU a4.2]) S27 rfl rfl Tryd.isAgg27 Tryd.sizeOf27 rfl (fun h => by cases h) ?_
        refine wpn ?_
        refine ⟨m25, Mem.tr L36 L37, ?_, facts_step HM rfl K L37 rfl rfl ⟨fun _ => rfl, fun hx => tf hb11 hx⟩, outP⟩
        exact S27
      have d9 : L 9 = true := dep hd rfl
      have e27 := K 9 d9
      obtain ⟨u25, rfl⟩ := fr_of (N := 70) (L := [(55, vb ((x1 && x5) && (x3.2 == x4.2)))]) hO ⟨e27, trivial⟩
      replace S27 : St _ ((bx b2 [vU a4.1, vU a4.2] 27) :: (bx b1 [vU a3.1, vU a3.2] 27) :: As) _ := S27
      have L38 := Mem.rfl' m25
      refine wpl_no (d := 55) rfl rfl (congrArg Value.bool hb11) ?_
      refine wpn ?_
      refine ⟨m25, Mem.tr L36 L38, ?_, facts_step HM rfl K L38 rfl rfl ⟨fun hx => tf hx hb11, fun _ => rfl⟩, outP⟩
      exact S27
    · intro L f16 w23 hL hd hc ⟨m26, L39, S28, K, hO⟩
      rcases bool_tf ((x1 && x5) && (x3.2 == x4.2)) with hb12 | hb12
      · have d9 : L 9 = true := dep hd rfl
        have e28 := K 9 d9
        obtain ⟨u26, rfl⟩ := fr_of (N := 70) (L := [(55, vb ((x1 && x5) && (x3.2 == x4.2)))]) hO ⟨e28, trivial⟩
        replace S28 : St _ ((bx b2 [vU a4.1, vU a4.2] 27) :: (bx b1 [vU a3.1, vU a3.2] 27) :: As) _ := S28
        have L40 := Mem.rfl' m26
        refine wpl_yes (d := 55) rfl rfl (congrArg Value.bool hb12) ?_
        refine s_mvv (v := a5v0) rfl ?_
        refine wpn ?_
        refine ⟨m26, Mem.tr L39 L40, ?_, facts_step HM rfl K L40 rfl rfl ⟨fun _ => rfl, fun hx => tf hb12 hx⟩, outP⟩
        exact S28
      have d9 : L 9 = true := dep hd rfl
      have e29 := K 9 d9
      obtain ⟨u27, rfl⟩ := fr_of (N := 70) (L := [(55, vb ((x1 && x5) && (x3.2 == x4.2)))]) hO ⟨e29, trivial⟩
      replace S28 : St _ ((bx b2 [vU a4.1, vU a4.2] 27) :: (bx b1 [vU a3.1, vU a3.2] 27) :: As) _ := S28
      have L41 := Mem.rfl' m26
      refine wpl_no (d := 55) rfl rfl (congrArg Value.bool hb12) ?_
      refine wpn ?_
      refine ⟨m26, Mem.tr L39 L41, ?_, facts_step HM rfl K L41 rfl rfl ⟨fun hx => tf hx hb12, fun _ => rfl⟩, outP⟩
      exact S28
    · intro L f17 w24 hL hd hc ⟨m27, L42, S29, K, hO⟩
      rcases bool_tf ((x1 && x5) && (x3.2 == x4.2)) with hb13 | hb13
      · have d9 : L 9 = true := dep hd rfl
        have e30 := K 9 d9
        have d10 : L 10 = true := dep hd rfl
        have e31 := (K 10 d10).1 hb13
        have d11 : L 11 = true := dep hd rfl
        have e32 := (K 11 d11).1 hb13
        have d12 : L 12 = true := dep hd rfl
        have e33 := (K 12 d12).1 hb13
        have d13 : L 13 = true := dep hd rfl
        have e34 := (K 13 d13).1 hb13
        have d14 : L 14 = true := dep hd rfl
        have e35 := (K 14 d14).1 hb13
        obtain ⟨u28, rfl⟩ := fr_of (N := 70) (L := [(55, vb ((x1 && x5) && (x3.2 == x4.2))), (56, vI a1), (57, vI a2), (58, .agg #[vU a3.1, vU a3.2]), (59, .agg #[vU a4.1, vU a4.2]), (60, a5v0)]) hO ⟨e30, e31, e32, e33, e34, e35, trivial⟩
        replace S29 : St _ ((bx b2 [vU a4.1, vU a4.2] 27) :: (bx b1 [vU a3.1, vU a3.2] 27) :: As) _ := S29
        replace a5h0 := a5h0.up L42
        replace T1 := T1.up L42
        have L43 := Mem.rfl' m27
        refine wpl_yes (d := 55) rfl rfl (congrArg Value.bool hb13) ?_
        replace q6 := gu_t hb13 q6
        refine s_call Tryd.call25 (w_merkle_CheckGrow (a0 := a1) (a1 := a2) (a2 := a3) (a3 := a4) (a4 := a5) S29 T1 a5h0 q6) rfl ?_
        rintro _ w25 ⟨m28, l12, S30, rfl⟩
        replace a5h0 := a5h0.up l12
        replace T1 := T1.up l12
        replace L43 := Mem.tr L43 l12
        clear S29
        replace S30 : St _ ((bx b2 [vU a4.1, vU a4.2] 27) :: (bx b1 [vU a3.1, vU a3.2] 27) :: As) _ := S30
        refine wpn ?_
        refine ⟨m28, Mem.tr L42 L43, ?_, facts_step HM rfl K L43 rfl rfl ⟨fun _ => rfl, fun hx => tf hb13 hx⟩, outP⟩
        exact S30
      have d9 : L 9 = true := dep hd rfl
      have e36 := K 9 d9
      obtain ⟨u29, rfl⟩ := fr_of (N := 70) (L := [(55, vb ((x1 && x5) && (x3.2 == x4.2)))]) hO ⟨e36, trivial⟩
      replace S29 : St _ ((bx b2 [vU a4.1, vU a4.2] 27) :: (bx b1 [vU a3.1, vU a3.2] 27) :: As) _ := S29
      have L44 := Mem.rfl' m27
      refine wpl_no (d := 55) rfl rfl (congrArg Value.bool hb13) ?_
      refine wpn ?_
      refine ⟨m27, Mem.tr L42 L44, ?_, facts_step HM rfl K L44 rfl rfl ⟨fun hx => tf hx hb13, fun _ => rfl⟩, outP⟩
      exact S29
    · intro L f18 w26 hL hd hc ⟨m29, L45, S31, K, hO⟩
      rcases bool_tf ((x1 && x5) && (x3.2 == x4.2)) with hb14 | hb14
      · have d9 : L 9 = true := dep hd rfl
        have e37 := K 9 d9
        obtain ⟨u30, rfl⟩ := fr_of (N := 70) (L := [(55, vb ((x1 && x5) && (x3.2 == x4.2)))]) hO ⟨e37, trivial⟩
        replace S31 : St _ ((bx b2 [vU a4.1, vU a4.2] 27) :: (bx b1 [vU a3.1, vU a3.2] 27) :: As) _ := S31
        have L46 := Mem.rfl' m29
        refine wpl_yes (d := 55) rfl rfl (congrArg Value.bool hb14) ?_
        refine s_mvv (v := vI a1) rfl ?_
        refine wpn ?_
        refine ⟨m29, Mem.tr L45 L46, ?_, facts_step HM rfl K L46 rfl rfl ⟨fun _ => rfl, fun hx => tf hb14 hx⟩, outP⟩
        exact S31
      have d9 : L 9 = true := dep hd rfl
      have e38 := K 9 d9
      obtain ⟨u31, rfl⟩ := fr_of (N := 70) (L := [(55, vb ((x1 && x5) && (x3.2 == x4.2)))]) hO ⟨e38, trivial⟩
      replace S31 : St _ ((bx b2 [vU a4.1, vU a4.2] 27) :: (bx b1 [vU a3.1, vU a3.2] 27) :: As) _ := S31
      have L47 := Mem.rfl' m29
      refine wpl_no (d := 55) rfl rfl (congrArg Value.bool hb14) ?_
      refine wpn ?_
      refine ⟨m29, Mem.tr L45 L47, ?_, facts_step HM rfl K L47 rfl rfl ⟨fun hx => tf hx hb14, fun _ => rfl⟩, outP⟩
      exact S31
    · intro L f19 w27 hL hd hc ⟨m30, L48, S32, K, hO⟩
      rcases bool_tf ((x1 && x5) && (x3.2 == x4.2)) with hb15 | hb15
      · have d9 : L 9 = true := dep hd rfl
        have e39 := K 9 d9
        obtain ⟨u32, rfl⟩ := fr_of (N := 70) (L := [(55, vb ((x1 && x5) && (x3.2 == x4.2)))]) hO ⟨e39, trivial⟩
        replace S32 : St _ ((bx b2 [vU a4.1, vU a4.2] 27) :: (bx b1 [vU a3.1, vU a3.2] 27) :: As) _ := S32
        have L49 := Mem.rfl' m30
        refine wpl_yes (d := 55) rfl rfl (congrArg Value.bool hb15) ?_
        refine s_mvv (v := vI a2) rfl ?_
        refine wpn ?_
        refine ⟨m30, Mem.tr L48 L49, ?_, facts_step HM rfl K L49 rfl rfl ⟨fun _ => rfl, fun hx => tf hb15 hx⟩, outP⟩
        exact S32
      have d9 : L 9 = true := dep hd rfl
      have e40 := K 9 d9
      obtain ⟨u33, rfl⟩ := fr_of (N := 70) (L := [(55, vb ((x1 && x5) && (x3.2 == x4.2)))]) hO ⟨e40, trivial⟩
      replace S32 : St _ ((bx b2 [vU a4.1, vU a4.2] 27) :: (bx b1 [vU a3.1, vU a3.2] 27) :: As) _ := S32
      have L50 := Mem.rfl' m30
      refine wpl_no (d := 55) rfl rfl (congrArg Value.bool hb15) ?_
      refine wpn ?_
      refine ⟨m30, Mem.tr L48 L50, ?_, facts_step HM rfl K L50 rfl rfl ⟨fun hx => tf hx hb15, fun _ => rfl⟩, outP⟩
      exact S32
    · intro L f20 w28 hL hd hc ⟨m31, L51, S33, K, hO⟩
      rcases bool_tf ((x1 && x5) && (x3.2 == x4.2)) with hb16 | hb16
      · have d9 : L 9 = true := dep hd rfl
        have e41 := K 9 d9
        obtain ⟨u34, rfl⟩ := fr_of (N := 70) (L := [(55, vb ((x1 && x5) && (x3.2 == x4.2)))]) hO ⟨e41, trivial⟩
        replace S33 : St _ ((bx b2 [vU a4.1, vU a4.2] 27) :: (bx b1 [vU a3.1, vU a3.2] 27) :: As) _ := S33
        replace a5h0 := a5h0.up L51
        replace T1 := T1.up L51
        have L52 := Mem.rfl' m31
        refine wpl_yes (d := 55) rfl rfl (congrArg Value.bool hb16) ?_
        refine s_ld (i := 1) (cs := [vU a3.1, vU a3.2]) S33 rfl rfl Tryd.isAgg27 Tryd.sizeOf27 rfl (fun h => by cases h) ?_
        refine wpn ?_
        refine ⟨m31, Mem.tr L51 L52, ?_, facts_step HM rfl K L52 rfl rfl ⟨fun _ => rfl, fun hx => tf hb16 hx⟩, outP⟩
        exact S33
      have d9 : L 9 = true := dep hd rfl
      have e42 := K 9 d9
      obtain ⟨u35, rfl⟩ := fr_of (N := 70) (L := [(55, vb ((x1 && x5) && (x3.2 == x4.2)))]) hO ⟨e42, trivial⟩
      replace S33 : St _ ((bx b2 [vU a4.1, vU a4.2] 27) :: (bx b1 [vU a3.1, vU a3.2] 27) :: As) _ := S33
      have L53 := Mem.rfl' m31
      refine wpl_no (d := 55) rfl rfl (congrArg Value.bool hb16) ?_
      refine wpn ?_
      refine ⟨m31, Mem.tr L51 L53, ?_, facts_step HM rfl K L53 rfl rfl ⟨fun hx => tf hx hb16, fun _ => rfl⟩, outP⟩
      exact S33
    · intro L f21 w29 hL hd hc ⟨m32, L54, S34, K, hO⟩
      rcases bool_tf ((x1 && x5) && (x3.2 == x4.2)) with hb17 | hb17
      · have d9 : L 9 = true := dep hd rfl
        have e43 := K 9 d9
        obtain ⟨u36, rfl⟩ := fr_of (N := 70) (L := [(55, vb ((x1 && x5) && (x3.2 == x4.2)))]) hO ⟨e43, trivial⟩
        replace S34 : St _ ((bx b2 [vU a4.1, vU a4.2] 27) :: (bx b1 [vU a3.1, vU a3.2] 27) :: As) _ := S34
        replace a5h0 := a5h0.up L54
        replace T1 := T1.up L54
        have L55 := Mem.rfl' m32
        refine wpl_yes (d := 55) rfl rfl (congrArg Value.bool hb17) ?_
        refine s_ld (i := 0) (cs := [vU a4.1, vU a4.2]) S34 rfl rfl Tryd.isAgg27 Tryd.sizeOf27 rfl (fun h => by cases h) ?_
        refine wpn ?_
        refine ⟨m32, Mem.tr L54 L55, ?_, facts_step HM rfl K L55 rfl rfl ⟨fun _ => rfl, fun hx => tf hb17 hx⟩, outP⟩
        exact S34
      have d9 : L 9 = true := dep hd rfl
      have e44 := K 9 d9
      obtain ⟨u37, rfl⟩ := fr_of (N := 70) (L := [(55, vb ((x1 && x5) && (x3.2 == x4.2)))]) hO ⟨e44, trivial⟩
      replace S34 : St _ ((bx b2 [vU a4.1, vU a4.2] 27) :: (bx b1 [vU a3.1, vU a3.2] 27) :: As) _ := S34
      have L56 := Mem.rfl' m32
      refine wpl_no (d := 55) rfl rfl (congrArg Value.bool hb17) ?_
      refine wpn ?_
      refine ⟨m32, Mem.tr L54 L56, ?_, facts_step HM rfl K L56 rfl rfl ⟨fun hx => tf hx hb17, fun _ => rfl⟩, outP⟩
      exact S34
    · intro L f22 w30 hL hd hc ⟨m33, L57, S35, K, hO⟩
      rcases bool_tf ((x1 && x5) && (x3.2 == x4.2)) with hb18 | hb18
      · have d9 : L 9 = true := dep hd rfl
        have e45 := K 9 d9
        obtain ⟨u38, rfl⟩ := fr_of (N := 70) (L := [(55, vb ((x1 && x5) && (x3.2 == x4.2)))]) hO ⟨e45, trivial⟩
        replace S35 : St _ ((bx b2 [vU a4.1, vU a4.2] 27) :: (bx b1 [vU a3.1, vU a3.2] 27) :: As) _ := S35
        have L58 := Mem.rfl' m33
        refine wpl_yes (d := 55) rfl rfl (congrArg Value.bool hb18) ?_
        refine s_mvv (v := a5v0) rfl ?_
        refine wpn ?_
        refine ⟨m33, Mem.tr L57 L58, ?_, facts_step HM rfl K L58 rfl rfl ⟨fun _ => rfl, fun hx => tf hb18 hx⟩, outP⟩
        exact S35
      have d9 : L 9 = true := dep hd rfl
      have e46 := K 9 d9
      obtain ⟨u39, rfl⟩ := fr_of (N := 70) (L := [(55, vb ((x1 && x5) && (x3.2 == x4.2)))]) hO ⟨e46, trivial⟩
      replace S35 : St _ ((bx b2 [vU a4.1, vU a4.2] 27) :: (bx b1 [vU a3.1, vU a3.2] 27) :: As) _ := S35
      have L59 := Mem.rfl' m33
      refine wpl_no (d := 55) rfl rfl (congrArg Value.bool hb18) ?_
      refine wpn ?_
      refine ⟨m33, Mem.tr L57 L59, ?_, facts_step HM rfl K L59 rfl rfl ⟨fun hx => tf hx hb18, fun _ => rfl⟩, outP⟩
      exact S35
    · intro L f23 w31 hL hd hc ⟨m34, L60, S36, K, hO⟩
      rcases bool_tf ((x1 && x5) && (x3.2 == x4.2)) with hb19 | hb19
      · have d9 : L 9 = true := dep hd rfl
        have e47 := K 9 d9
        have d16 : L 16 = true := dep hd rfl
        have e48 := (K 16 d16).1 hb19
        have d17 : L 17 = true := dep hd rfl
        have e49 := (K 17 d17).1 hb19
        have d18 : L 18 = true := dep hd rfl
        have e50 := (K 18 d18).1 hb19
        have d19 : L 19 = true := dep hd rfl
        have e51 := (K 19 d19).1 hb19
        have d20 : L 20 = true := dep hd rfl
        have e52 := (K 20 d20).1 hb19
        obtain ⟨u40, rfl⟩ := fr_of (N := 70) (L := [(55, vb ((x1 && x5) && (x3.2 == x4.2))), (62, vI a1), (63, vI a2), (64, .agg #[vU a3.1, vU a3.2]), (65, .agg #[vU a4.1, vU a4.2]), (66, a5v0)]) hO ⟨e47, e48, e49, e50, e51, e52, trivial⟩
        replace S36 : St _ ((bx b2 [vU a4.1, vU a4.2] 27) :: (bx b1 [vU a3.1, vU a3.2] 27) :: As) _ := S36
        replace a5h0 := a5h0.up L60
        replace T1 := T1.up L60
        have L61 := Mem.rfl' m34
        refine wpl_yes (d := 55) rfl rfl (congrArg Value.bool hb19) ?_
        replace q7 := gu_t hb19 q7
        refine s_call Tryd.call26 (w_ref08_CheckGrow (a0 := a1) (a1 := a2) (a2 := a3) (a3 := a4) (a4 := a5) S36 a5h0 q7) rfl ?_
        rintro _ w32 ⟨m35, l13, S37, rfl⟩
        replace a5h0 := a5h0.up l13
        replace T1 := T1.up l13
        replace L61 := Mem.tr L61 l13
        clear S36
        replace S37 : St _ ((bx b2 [vU a4.1, vU a4.2] 27) :: (bx b1 [vU a3.1, vU a3.2] 27) :: As) _ := S37
        refine wpn ?_
        refine ⟨m35, Mem.tr L60 L61, ?_, facts_step HM rfl K L61 rfl rfl ⟨fun _ => rfl, fun hx => tf hb19 hx⟩, outP⟩
        exact S37
      have d9 : L 9 = true := dep hd rfl
      have e53 := K 9 d9
      obtain ⟨u41, rfl⟩ := fr_of (N := 70) (L := [(55, vb ((x1 && x5) && (x3.2 == x4.2)))]) hO ⟨e53, trivial⟩
      replace S36 : St _ ((bx b2 [vU a4.1, vU a4.2] 27) :: (bx b1 [vU a3.1, vU a3.2] 27) :: As) _ := S36
      have L62 := Mem.rfl' m34
      refine wpl_no (d := 55) rfl rfl (congrArg Value.bool hb19) ?_
      refine wpn ?_
      refine ⟨m34, Mem.tr L60 L62, ?_, facts_step HM rfl K L62 rfl rfl ⟨fun hx => tf hx hb19, fun _ => rfl⟩, outP⟩
      exact S36
    · intro L f24 w33 hL hd hc ⟨m36, L63, S38, K, hO⟩
      rcases bool_tf ((x1 && x5) && (x3.2 == x4.2)) with hb20 | hb20
      · have d9 : L 9 = true := dep hd rfl
        have e54 := K 9 d9
        have d15 : L 15 = true := dep hd rfl
        have e55 := (K 15 d15).1 hb20
        have d21 : L 21 = true := dep hd rfl
        have e56 := (K 21 d21).1 hb20
        obtain ⟨u42, rfl⟩ := fr_of (N := 70) (L := [(55, vb ((x1 && x5) && (x3.2 == x4.2))), (61, vI x6), (67, vI x7)]) hO ⟨e54, e55, e56, trivial⟩
        replace S38 : St _ ((bx b2 [vU a4.1, vU a4.2] 27) :: (bx b1 [vU a3.1, vU a3.2] 27) :: As) _ := S38
        have L64 := Mem.rfl' m36
        refine wpl_yes (d := 55) rfl rfl (congrArg Value.bool hb20) ?_
        refine s_eql (m := x6) (n := x7) rfl rfl ?_
        refine wpn ?_
        refine ⟨m36, Mem.tr L63 L64, ?_, facts_step HM rfl K L64 rfl rfl ⟨fun _ => rfl, fun hx => tf hb20 hx⟩, outP⟩
        exact S38
      have d9 : L 9 = true := dep hd rfl
      have e57 := K 9 d9
      obtain ⟨u43, rfl⟩ := fr_of (N := 70) (L := [(55, vb ((x1 && x5) && (x3.2 == x4.2)))]) hO ⟨e57, trivial⟩
      replace S38 : St _ ((bx b2 [vU a4.1, vU a4.2] 27) :: (bx b1 [vU a3.1, vU a3.2] 27) :: As) _ := S38
      have L65 := Mem.rfl' m36
      refine wpl_no (d := 55) rfl rfl (congrArg Value.bool hb20) ?_
      refine wpn ?_
      refine ⟨m36, Mem.tr L63 L65, ?_, facts_step HM rfl K L65 rfl rfl ⟨fun hx => tf hx hb20, fun _ => rfl⟩, outP⟩
      exact S38
    · intro L f25 w34 hL hd hc ⟨m37, L66, S39, K, hO⟩
      rcases bool_tf ((x1 && x5) && (x3.2 == x4.2)) with hb21 | hb21
      · have d9 : L 9 = true := dep hd rfl
        have e58 := K 9 d9
        have d22 : L 22 = true := dep hd rfl
        have e59 := (K 22 d22).1 hb21
        obtain ⟨u44, rfl⟩ := fr_of (N := 70) (L := [(55, vb ((x1 && x5) && (x3.2 == x4.2))), (68, vb (x6 == x7))]) hO ⟨e58, e59, trivial⟩
        replace S39 : St _ ((bx b2 [vU a4.1, vU a4.2] 27) :: (bx b1 [vU a3.1, vU a3.2] 27) :: As) _ := S39
        have L67 := Mem.rfl' m37
        refine s_pickT (congrArg Value.bool hb21) rfl ?_
        refine wpn ?_
        refine ⟨m37, Mem.tr L66 L67, ?_, facts_step HM rfl K L67 rfl rfl (congrArg Value.bool (and_t hb21)), outP⟩
        exact S39
      · have d9 : L 9 = true := dep hd rfl
        have e60 := K 9 d9
        obtain ⟨u45, rfl⟩ := fr_of (N := 70) (L := [(55, vb ((x1 && x5) && (x3.2 == x4.2)))]) hO ⟨e60, trivial⟩
        replace S39 : St _ ((bx b2 [vU a4.1, vU a4.2] 27) :: (bx b1 [vU a3.1, vU a3.2] 27) :: As) _ := S39
        have L68 := Mem.rfl' m37
        refine s_pickF (congrArg Value.bool hb21) rfl ?_
        refine wpn ?_
        refine ⟨m37, Mem.tr L66 L68, ?_, facts_step HM rfl K L68 rfl rfl (congrArg Value.bool (and_f hb21)), outP⟩
        exact S39
  intro L f26 w35 hall ⟨m38, L69, S40, K, hO⟩
  have d23 : L 23 = true := hall 23 (by decide)
  have e61 := K 23 d23
  obtain ⟨u46, rfl⟩ := fr_of (N := 70) (L := [(69, vb (((x1 && x5) && (x3.2 == x4.2)) && (x6 == x7)))]) hO ⟨e61, trivial⟩
  replace S40 : St _ ((bx b2 [vU a4.1, vU a4.2] 27) :: (bx b1 [vU a3.1, vU a3.2] 27) :: As) _ := S40
  replace a5h0 := a5h0.up L69
  replace T1 := T1.up L69
  replace L0 := Mem.tr L0 L69
  clear S13
  obtain ⟨x8, q8, hm⟩ := bnd_eq hm
  refine s_asv (v := vb x8) (congrArg (fun z => vb z) q8.symm) ?_
  refine wpl_nil ?_
  refine nrm ?_
  refine wpc_ret ?_
  refine outRw ?_
  intro we hpd
  replace S40 := St.pd S40 hpd
  obtain ⟨m39, l14, S41⟩ := St.drop S40 0
  replace T1 := T1.up l14
  replace L0 := Mem.tr L0 l14
  clear S40
  replace S41 : St _ ((bx b1 [vU a3.1, vU a3.2] 27) :: As) _ := S41
  obtain ⟨m40, l15, S42⟩ := St.drop S41 0
  replace T1 := T1.up l15
  replace L0 := Mem.tr L0 l15
  clear S41
  replace S42 : St _ (As) _ := S42
  have e0 := Option.some.inj hm
  subst e0
  exact outR [_] rfl ⟨rfl, trivial⟩ ⟨_, L0, S42, rfl⟩

end Go.Proofs.YtohipjalgccmnaaDoor
