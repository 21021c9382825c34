/- The walks of some functions, written by program. Conditions: none. -/
import Derived.Test.YtemiampgjgenhaaGreatWkI
import Derived.Test.YtemiampgjgenhaaGreatWkK
set_option maxHeartbeats 20000000
set_option maxRecDepth 100000
set_option linter.unusedVariables false
set_option linter.unusedSimpArgs false
namespace Go.Proofs.YtemiampgjgenhaaGreat
open Go Go.Gw Tryz

def m_ref03_In (a0 : UInt64) : Option Bool :=
  obind (
    if ((decide ((a0.toNat : Int) > 0)) && (decide ((a0.toNat : Int) < 2305843009213691579))) = true then
      obind (m_ref03_power a0 1152921504606845789 2305843009213691579) fun x3 =>
      some ((x3.toNat : Int) == 1)
    else
    some false
  ) fun x2 =>
  some x2

theorem w_ref03_In {m : Mem} {As : List Ow} {w : World} {a0 : UInt64} {r : Bool} (S : St m (As) w) (hm : m_ref03_In a0 = some r) :
    CallsR Tryz.prog 103 #[vU a0] w fun v w' => ∃ (M : Mem), m ≤ M ∧ St M (As) w' ∧ v = vb r := by
 unfold m_ref03_In at hm
 have L0 := Mem.rfl' m
 refine callsR (args := [vU a0]) func103 rfl ntmps103 (nb rfl) <| ws <| s_asv (v := vb false) rfl <| nx <| s_mvv (v := vU a0) rfl <| s_gtr (m := (a0.toNat : Int)) (n := 0) rfl rfl <| s_mvv (v := vb (decide ((a0.toNat : Int) > 0))) rfl <| wpl_cut 3 [6, 7, 8] (fun f' w' => w' = w ∧ AllAt f' [(8, vb ((decide ((a0.toNat : Int) > 0)) && (decide ((a0.toNat : Int) < 2305843009213691579))))]) ?_ ?_
 · rcases bool_tf (decide ((a0.toNat : Int) > 0)) with hb1 | hb1
   · exact wpl_yes (d := 5) rfl rfl (cb hb1) <| s_mvv (v := vU a0) rfl <| wpl_yes (d := 5) rfl rfl (cb hb1) <| s_lss (m := (a0.toNat : Int)) (n := 2305843009213691579) rfl rfl <| s_pickT (cb hb1) rfl <| wpl_nil (nrm ⟨outP, rfl, congrArg Value.bool (and_t hb1), trivial⟩)
   · exact wpl_no (d := 5) rfl rfl (cb hb1) <| wpl_no (d := 5) rfl rfl (cb hb1) <| s_pickF (cb hb1) rfl <| wpl_nil (nrm ⟨outP, rfl, congrArg Value.bool (and_f hb1), trivial⟩)
 rintro f1 w1 ho ⟨h1, ha⟩
 subst h1
 obtain ⟨u1, rfl⟩ := fr_of (N := 14) ho ha
 refine s_mvv (v := vb ((decide ((a0.toNat : Int) > 0)) && (decide ((a0.toNat : Int) < 2305843009213691579)))) rfl ?_
 obtain ⟨x2, q2, hm⟩ := obind_some hm
 have L1 := Mem.rfl' m
 refine wpl_cut 4 [10, 11, 12, 13] (fun f' w' => ∃ (M1 : Mem), m ≤ M1 ∧ St M1 (As) w' ∧ AllAt f' [(13, vb x2)]) ?_ ?_
 · rcases bool_tf ((decide ((a0.toNat : Int) > 0)) && (decide ((a0.toNat : Int) < 2305843009213691579))) with hb2 | hb2
   · replace q2 := ifT hb2 q2
     refine wpl_yes (d := 9) rfl rfl (cb hb2) <| s_mvv (v := vU a0) rfl <| wpl_yes (d := 9) rfl rfl (cb hb2) ?_
     obtain ⟨x3, q3, q2⟩ := obind_some q2
     refine s_call call125 (w_ref03_power (a0 := a0) (a1 := 1152921504606845789) (a2 := 2305843009213691579) S  q3) rfl ?_
     rintro _ w3 ⟨m2, l2, S2, rfl⟩
     clear S
     refine wpl_yes (d := 9) rfl rfl (cb hb2) <| s_eql (m := (x3.toNat : Int)) (n := 1) rfl rfl <| s_pickT (cb hb2) rfl <| wpl_nil (nrm ?_)
     have e0 := Option.some.inj q2
     subst e0
     replace L1 := Mem.tr L1 l2
     exact ⟨outP, m2, L1, S2, ⟨rfl, trivial⟩⟩
   replace q2 := ifF hb2 q2
   refine wpl_no (d := 9) rfl rfl (cb hb2) <| wpl_no (d := 9) rfl rfl (cb hb2) <| wpl_no (d := 9) rfl rfl (cb hb2) <| s_pickF (cb hb2) rfl <| wpl_nil (nrm ?_)
   have e0 := Option.some.inj q2
   subst e0
   exact ⟨outP, m, L1, S, ⟨rfl, trivial⟩⟩
 rintro f2 w4 ho ⟨m3, l3, S3, ha⟩
 obtain ⟨u2, rfl⟩ := fr_of (N := 14) ho ha
 clear S
 refine s_asv (v := vb x2) rfl <| wpl_nil <| nrm <| wpc_ret <| outRw fun we hpd => ?_
 replace S3 := St.pd S3 hpd
 have e0 := Option.some.inj hm
 subst e0
 replace L0 := Mem.tr L0 l3
 exact outR [_] rfl ⟨rfl, trivial⟩ ⟨_, L0, S3, rfl⟩

def m_ref03_Mul (a0 : UInt64) (a1 : UInt64) : Option UInt64 :=
  obind (m_ref03_times a0 a1 2305843009213691579) fun x1 =>
  some x1

theorem w_ref03_Mul {m : Mem} {As : List Ow} {w : World} {a0 : UInt64} {a1 : UInt64} {r : UInt64} (S : St m (As) w) (hm : m_ref03_Mul a0 a1 = some r) :
    CallsR Tryz.prog 104 #[vU a0, vU a1] w fun v w' => ∃ (M : Mem), m ≤ M ∧ St M (As) w' ∧ v = vU r := by
 unfold m_ref03_Mul at hm
 have L0 := Mem.rfl' m
 refine callsR (args := [vU a0, vU a1]) func104 rfl ntmps104 (nb rfl) <| ws <| s_asv (v := vU 0) rfl <| nx <| s_mvv (v := vU a0) rfl <| s_mvv (v := vU a1) rfl ?_
 obtain ⟨x1, q1, hm⟩ := obind_some hm
 refine s_call call130 (w_ref03_times (a0 := a0) (a1 := a1) (a2 := 2305843009213691579) S  q1) rfl ?_
 rintro _ w1 ⟨m1, l1, S1, rfl⟩
 clear S
 refine s_asv (v := vU x1) rfl <| wpl_nil <| nrm <| wpc_ret <| outRw fun we hpd => ?_
 replace S1 := St.pd S1 hpd
 have e0 := Option.some.inj hm
 subst e0
 replace L0 := Mem.tr L0 l1
 exact outR [_] rfl ⟨rfl, trivial⟩ ⟨_, L0, S1, rfl⟩

def m_ref03_Pow (a0 : UInt64) (a1 : UInt64) : Option UInt64 :=
  obind (m_ref03_power a0 a1 2305843009213691579) fun x1 =>
  some x1

theorem w_ref03_Pow {m : Mem} {As : List Ow} {w : World} {a0 : UInt64} {a1 : UInt64} {r : UInt64} (S : St m (As) w) (hm : m_ref03_Pow a0 a1 = some r) :
    CallsR Tryz.prog 105 #[vU a0, vU a1] w fun v w' => ∃ (M : Mem), m ≤ M ∧ St M (As) w' ∧ v = vU r := by
 unfold m_ref03_Pow at hm
 have L0 := Mem.rfl' m
 refine callsR (args := [vU a0, vU a1]) func105 rfl ntmps105 (nb rfl) <| ws <| s_asv (v := vU 0) rfl <| nx <| s_mvv (v := vU a0) rfl <| s_mvv (v := vU a1) rfl ?_
 obtain ⟨x1, q1, hm⟩ := obind_some hm
 refine s_call call125 (w_ref03_power (a0 := a0) (a1 := a1) (a2 := 2305843009213691579) S  q1) rfl ?_
 rintro _ w1 ⟨m1, l1, S1, rfl⟩
 clear S
 refine s_asv (v := vU x1) rfl <| wpl_nil <| nrm <| wpc_ret <| outRw fun we hpd => ?_
 replace S1 := St.pd S1 hpd
 have e0 := Option.some.inj hm
 subst e0
 replace L0 := Mem.tr L0 l1
 exact outR [_] rfl ⟨rfl, trivial⟩ ⟨_, L0, S1, rfl⟩

def m_ref04_Check (a0 : UInt64) (a1 : List UInt8) (a2 : g_api_Sig) : Option Int :=
  obind (m_ref03_In a0) fun x1 =>
  if (!x1) = true then
    some 1
  else
  if ((decide ((a2.E.toNat : Int) ≥ 1152921504606845789)) || (decide ((a2.S.toNat : Int) ≥ 1152921504606845789))) = true then
    some 40
  else
  obind (m_ref03_Base a2.S) fun x2 =>
  obind (m_ref03_Pow a0 (1152921504606845789 - a2.E)) fun x3 =>
  obind (m_ref03_Mul x2 x3) fun x4 =>
  obind (m_ref04_Challenge x4 a0 a1) fun x5 =>
  if ((x5.toNat : Int) != (a2.E.toNat : Int)) = true then
    some 40
  else
  some 0

theorem w_ref04_Check {m : Mem} {As : List Ow} {w : World} {a0 : UInt64} {a1 : List UInt8} {a1v0 : Value} {a2 : g_api_Sig} {r : Int} (S : St m (As) w) (a1h0 : SlR m a1v0 a1) (hm : m_ref04_Check a0 a1 a2 = some r) :
    CallsR Tryz.prog 65 #[vU a0, a1v0, .agg (c_api_Sig a2).toArray] w fun v w' => ∃ (M : Mem), m ≤ M ∧ St M (As) w' ∧ v = vI r := by
 unfold m_ref04_Check at hm
 have L0 := Mem.rfl' m
 refine callsR (args := [vU a0, a1v0, .agg (c_api_Sig a2).toArray]) func65 rfl ntmps65 (nb rfl) <| ws <| s_box S rfl fun b1 w1 S1 => ?_
 replace S1 : St _ ((bx b1 (c_api_Sig a2) 43) :: As) _ := S1
 clear S
 refine s_asv (v := vI 0) rfl <| wpl_nil <| nrm <| wpc_seq <| ws <| s_mvv (v := vU a0) rfl ?_
 obtain ⟨x1, q1, hm⟩ := obind_some hm
 refine s_call call103 (w_ref03_In (a0 := a0) S1  q1) rfl ?_
 rintro _ w2 ⟨m1, l1, S2, rfl⟩
 clear S1
 refine s_not rfl <| wpl_nil <| nrm <| wpc_if (t := (!x1)) rfl (fun hc1 => ?_) (fun hc1 => ?_)
 · replace hm := ifT hc1 hm
   refine ws <| s_asv (v := vI 1) rfl <| wpl_nil <| nrm <| wpc_ret <| thR <| outRw fun we hpd => ?_
   replace S2 := St.pd S2 hpd
   obtain ⟨m2, l2, S3⟩ := St.drop S2 0
   clear S2
   replace S3 : St _ (As) _ := S3
   have e0 := Option.some.inj hm
   subst e0
   replace L0 := Mem.tr L0 (mt l1 l2)
   exact outR [_] rfl ⟨rfl, trivial⟩ ⟨_, L0, S3, rfl⟩
 replace hm := ifF hc1 hm
 refine wpc_skip <| nrm <| wpc_seq <| ws <| s_fld (n := 0) rfl underlying43 rfl rfl sizeOf22 <| s_ld (i := 0) (cs := [vU a2.E]) S2 rfl rfl isAgg22 sizeOf22 rfl (fun _ => rfl) <| s_geq (m := (a2.E.toNat : Int)) (n := 1152921504606845789) rfl rfl <| s_mvv (v := vb (decide ((a2.E.toNat : Int) ≥ 1152921504606845789))) rfl <| wpl_cut 4 [15, 16, 17, 18] (fun f' w' => w' = w2 ∧ AllAt f' [(18, vb ((decide ((a2.E.toNat : Int) ≥ 1152921504606845789)) || (decide ((a2.S.toNat : Int) ≥ 1152921504606845789))))]) ?_ ?_
 · rcases bool_tf (decide ((a2.E.toNat : Int) ≥ 1152921504606845789)) with hb1 | hb1
   · exact wpl_no (d := 14) rfl rfl (cb hb1) <| wpl_no (d := 14) rfl rfl (cb hb1) <| wpl_no (d := 14) rfl rfl (cb hb1) <| s_pickT (cb hb1) rfl <| wpl_nil (nrm ⟨outP, rfl, congrArg Value.bool (or_t hb1), trivial⟩)
   · exact wpl_yes (d := 14) rfl rfl (cb hb1) <| s_fld (n := 0) rfl underlying43 rfl rfl sizeOf22 <| wpl_yes (d := 14) rfl rfl (cb hb1) <| s_ld (i := 0) (cs := [vU a2.S]) S2 rfl rfl isAgg22 sizeOf22 rfl (fun _ => rfl) <| wpl_yes (d := 14) rfl rfl (cb hb1) <| s_geq (m := (a2.S.toNat : Int)) (n := 1152921504606845789) rfl rfl <| s_pickF (cb hb1) rfl <| wpl_nil (nrm ⟨outP, rfl, congrArg Value.bool (or_f hb1), trivial⟩)
 rintro f1 w3 ho ⟨h1, ha⟩
 subst h1
 obtain ⟨u1, rfl⟩ := fr_of (N := 35) ho ha
 refine wpl_nil <| nrm <| wpc_if (t := ((decide ((a2.E.toNat : Int) ≥ 1152921504606845789)) || (decide ((a2.S.toNat : Int) ≥ 1152921504606845789)))) rfl (fun hc2 => ?_) (fun hc2 => ?_)
 · replace hm := ifT hc2 hm
   refine ws <| s_asv (v := vI 40) rfl <| wpl_nil <| nrm <| wpc_ret <| thR <| outRw fun we hpd => ?_
   replace S2 := St.pd S2 hpd
   obtain ⟨m3, l3, S4⟩ := St.drop S2 0
   clear S2
   replace S4 : St _ (As) _ := S4
   have e0 := Option.some.inj hm
   subst e0
   replace L0 := Mem.tr L0 (mt l1 l3)
   exact outR [_] rfl ⟨rfl, trivial⟩ ⟨_, L0, S4, rfl⟩
 replace hm := ifF hc2 hm
 refine wpc_skip <| nrm <| wpc_seq ?_
 obtain ⟨x2, q2, hm⟩ := obind_some hm
 have HM : MonoAll [(19, fv (pt b1 1)), (20, fv (vU a2.S)), (21, fv (vU x2)), (22, fv (vU a0)), (23, fv (pt b1 0)), (24, fv (vU a2.E)), (25, fv (vU (1152921504606845789 - a2.E)))] := ⟨mv, mv, mv, mv, mv, mv, mv, trivial⟩
 refine wpc_flowG HM 7 mixed rfl rfl rfl (rg 19 7) (fun L f M w => St M ((bx b1 (c_api_Sig a2) 43) :: As) w) (St.drew S2 _) ?_ ?_
 · refine ⟨?_, ?_, ?_, ?_, ?_, ?_, ?_, trivial⟩
   · exact flp HM rfl [] (fun _ _ => trivial) (fun _ _ q => s_fld (n := 0) rfl underlying43 rfl rfl sizeOf22 q) rfl
   · exact flp HM rfl [(19, _)] (fun K _ => ⟨K 0 rfl, trivial⟩) (fun _ S6 q => s_ld (i := 0) (cs := [vU a2.S]) S6 rfl rfl isAgg22 sizeOf22 rfl (fun _ => rfl) q) rfl
   · intro L f4 w6 hL hd hc ⟨m6, L5, S7, K, hO⟩
     obtain ⟨u4, rfl⟩ := fr_of (N := 35) (L := [(20, _)]) hO ⟨K 1 (dep hd rfl), trivial⟩
     have L6 := Mem.rfl' m6
     refine s_call call84 (w_ref03_Base (a0 := a2.S) S7  q2) rfl ?_
     rintro _ w7 ⟨m7, l4, S8, rfl⟩
     clear S7
     refine wpn ?_
     replace L6 := Mem.tr L6 l4
     exact ⟨m7, Mem.tr L5 L6, S8, facts_step HM rfl K L6 rfl rfl rfl, outP⟩
   · exact flp HM rfl [] (fun _ _ => trivial) (fun _ _ q => s_mvv (v := vU a0) rfl q) rfl
   · exact flp HM rfl [] (fun _ _ => trivial) (fun _ _ q => s_fld (n := 0) rfl underlying43 rfl rfl sizeOf22 q) rfl
   · exact flp HM rfl [(23, _)] (fun K _ => ⟨K 4 rfl, trivial⟩) (fun _ S11 q => s_ld (i := 0) (cs := [vU a2.E]) S11 rfl rfl isAgg22 sizeOf22 rfl (fun _ => rfl) q) rfl
   · exact flp HM rfl [(24, _)] (fun K _ => ⟨K 5 rfl, trivial⟩) (fun _ _ q => s_subU (m := 1152921504606845789) (n := a2.E) rfl rfl q) rfl
 intro L f9 w12 hall ⟨m12, L15, S13, K, hO⟩
 have d2 : L 2 = true := hall 2 (by decide)
 have d3 : L 3 = true := hall 3 (by decide)
 have d6 : L 6 = true := hall 6 (by decide)
 obtain ⟨u9, rfl⟩ := fr_of (N := 35) (L := [(21, _), (22, _), (25, _)]) hO ⟨K 2 d2, K 3 d3, K 6 d6, trivial⟩
 replace S13 : St _ ((bx b1 (c_api_Sig a2) 43) :: As) _ := S13
 clear S2
 obtain ⟨x3, q3, hm⟩ := obind_some hm
 refine s_call call105 (w_ref03_Pow (a0 := a0) (a1 := (1152921504606845789 - a2.E)) S13  q3) rfl ?_
 rintro _ w13 ⟨m13, l5, S14, rfl⟩
 clear S13
 obtain ⟨x4, q4, hm⟩ := obind_some hm
 refine s_call call104 (w_ref03_Mul (a0 := x2) (a1 := x3) S14  q4) rfl ?_
 rintro _ w14 ⟨m14, l6, S15, rfl⟩
 clear S14
 refine s_asv (v := vU x4) rfl <| wpl_nil <| nrm <| wpc_seq <| wpc_seq ?_
 obtain ⟨x5, q5, hm⟩ := obind_some hm
 have HM : MonoAll [(28, fv (vU x4)), (29, fv (vU a0)), (30, fv a1v0), (31, fv (vU x5)), (32, fv (pt b1 0)), (33, fv (vU a2.E))] := ⟨mv, mv, mv, mv, mv, mv, trivial⟩
 refine wpc_flowG HM 6 mixed rfl rfl rfl (rg 28 6) (fun L f M w => St M ((bx b1 (c_api_Sig a2) 43) :: As) w) (St.drew S15 _) ?_ ?_
 · refine ⟨?_, ?_, ?_, ?_, ?_, ?_, trivial⟩
   · exact flp HM rfl [] (fun _ _ => trivial) (fun _ _ q => s_mvv (v := vU x4) rfl q) rfl
   · exact flp HM rfl [] (fun _ _ => trivial) (fun _ _ q => s_mvv (v := vU a0) rfl q) rfl
   · exact flp HM rfl [] (fun _ _ => trivial) (fun _ _ q => s_mvv (v := a1v0) rfl q) rfl
   · intro L f13 w18 hL hd hc ⟨m18, L22, S19, K, hO⟩
     obtain ⟨u13, rfl⟩ := fr_of (N := 35) (L := [(28, _), (29, _), (30, _)]) hO ⟨K 0 (dep hd rfl), K 1 (dep hd rfl), K 2 (dep hd rfl), trivial⟩
     have L23 := Mem.rfl' m18
     replace a1h0 := a1h0.up (mt l1 (mt L15 (mt l5 (mt l6 L22))))
     refine s_call call94 (w_ref04_Challenge (a0 := x4) (a1 := a0) (a2 := a1) S19 a1h0 q5) rfl ?_
     rintro _ w19 ⟨m19, l7, S20, rfl⟩
     clear S19
     refine wpn ?_
     replace L23 := Mem.tr L23 l7
     exact ⟨m19, Mem.tr L22 L23, S20, facts_step HM rfl K L23 rfl rfl rfl, outP⟩
   · exact flp HM rfl [] (fun _ _ => trivial) (fun _ _ q => s_fld (n := 0) rfl underlying43 rfl rfl sizeOf22 q) rfl
   · exact flp HM rfl [(32, _)] (fun K _ => ⟨K 4 rfl, trivial⟩) (fun _ S22 q => s_ld (i := 0) (cs := [vU a2.E]) S22 rfl rfl isAgg22 sizeOf22 rfl (fun _ => rfl) q) rfl
 intro L f16 w22 hall ⟨m22, L28, S23, K, hO⟩
 have d3 : L 3 = true := hall 3 (by decide)
 have d5 : L 5 = true := hall 5 (by decide)
 obtain ⟨u16, rfl⟩ := fr_of (N := 35) (L := [(31, _), (33, _)]) hO ⟨K 3 d3, K 5 d5, trivial⟩
 replace S23 : St _ ((bx b1 (c_api_Sig a2) 43) :: As) _ := S23
 clear S15
 refine s_neq (m := (x5.toNat : Int)) (n := (a2.E.toNat : Int)) rfl rfl <| wpl_nil <| nrm <| wpc_if (t := ((x5.toNat : Int) != (a2.E.toNat : Int))) rfl (fun hc3 => ?_) (fun hc3 => ?_)
 · replace hm := ifT hc3 hm
   refine ws <| s_asv (v := vI 40) rfl <| wpl_nil <| nrm <| wpc_ret <| thR <| outRw fun we hpd => ?_
   replace S23 := St.pd S23 hpd
   obtain ⟨m23, l8, S24⟩ := St.drop S23 0
   clear S23
   replace S24 : St _ (As) _ := S24
   have e0 := Option.some.inj hm
   subst e0
   replace L0 := Mem.tr L0 (mt l1 (mt L15 (mt l5 (mt l6 (mt L28 l8)))))
   exact outR [_] rfl ⟨rfl, trivial⟩ ⟨_, L0, S24, rfl⟩
 replace hm := ifF hc3 hm
 refine wpc_skip <| nrm <| ws <| s_asv (v := vI 0) rfl <| wpl_nil <| nrm <| wpc_ret <| outRw fun we hpd => ?_
 replace S23 := St.pd S23 hpd
 obtain ⟨m24, l9, S25⟩ := St.drop S23 0
 clear S23
 replace S25 : St _ (As) _ := S25
 have e0 := Option.some.inj hm
 subst e0
 replace L0 := Mem.tr L0 (mt l1 (mt L15 (mt l5 (mt l6 (mt L28 l9)))))
 exact outR [_] rfl ⟨rfl, trivial⟩ ⟨_, L0, S25, rfl⟩

def m_ref24_CheckPromise (a0 : g_api_Key) (a1 : g_api_Promise) : Option Int :=
  obind (m_ref24_num a1.Log) fun x1 =>
  obind (
    if (!x1) = true then
      some true
    else
    obind (m_ref24_num a1.At) fun x4 =>
    some (!x4)
  ) fun x3 =>
  if x3 = true then
    some 1
  else
  if (a1.Log != a0.Log) = true then
    some 240
  else
  obind (m_ref24_PromBytes a1) fun x5 =>
  obind (m_ref04_Check a0.Key x5 a1.Sig) fun x6 =>
  some x6

theorem w_ref24_CheckPromise {m : Mem} {As : List Ow} {w : World} {a0 : g_api_Key} {a1 : g_api_Promise} {r : Int} (S : St m (As) w) (hm : m_ref24_CheckPromise a0 a1 = some r) :
    CallsR Tryz.prog 23 #[.agg (c_api_Key a0).toArray, .agg (c_api_Promise a1).toArray] w fun v w' => ∃ (M : Mem), m ≤ M ∧ St M (As) w' ∧ v = vI r := by
 unfold m_ref24_CheckPromise at hm
 have L0 := Mem.rfl' m
 refine callsR (args := [.agg (c_api_Key a0).toArray, .agg (c_api_Promise a1).toArray]) func23 rfl ntmps23 (nb rfl) <| ws <| s_box S rfl fun b1 w1 S1 => ?_
 replace S1 : St _ ((bx b1 (c_api_Key a0) 34) :: As) _ := S1
 clear S
 refine s_box S1 rfl fun b2 w2 S2 => ?_
 replace S2 : St _ ((bx b2 (c_api_Promise a1) 45) :: (bx b1 (c_api_Key a0) 34) :: As) _ := S2
 clear S1
 refine s_asv (v := vI 0) rfl <| wpl_nil <| nrm <| wpc_seq <| ws <| s_fld (n := 0) rfl underlying45 rfl rfl sizeOf3 <| s_ld (i := 0) (cs := [vI a1.Log]) S2 rfl rfl isAgg3 sizeOf3 rfl (fun _ => rfl) ?_
 obtain ⟨x1, q1, hm⟩ := obind_some hm
 refine s_call call45 (w_ref24_num (a0 := a1.Log) S2  q1) rfl ?_
 rintro _ w3 ⟨m1, l1, S3, rfl⟩
 clear S2
 refine s_not rfl <| s_mvv (v := vb (!x1)) rfl ?_
 obtain ⟨x3, q3, hm⟩ := obind_some hm
 have L1 := Mem.rfl' m1
 refine wpl_cut 5 [10, 11, 12, 13, 14] (fun f' w' => ∃ (M1 : Mem), m1 ≤ M1 ∧ St M1 ((bx b2 (c_api_Promise a1) 45) :: (bx b1 (c_api_Key a0) 34) :: As) w' ∧ AllAt f' [(14, vb x3)]) ?_ ?_
 · rcases bool_tf (!x1) with hb1 | hb1
   · replace q3 := ifT hb1 q3
     refine wpl_no (d := 9) rfl rfl (cb hb1) <| wpl_no (d := 9) rfl rfl (cb hb1) <| wpl_no (d := 9) rfl rfl (cb hb1) <| wpl_no (d := 9) rfl rfl (cb hb1) <| s_pickT (cb hb1) rfl <| wpl_nil (nrm ?_)
     have e0 := Option.some.inj q3
     subst e0
     exact ⟨outP, m1, L1, S3, ⟨rfl, trivial⟩⟩
   replace q3 := ifF hb1 q3
   refine wpl_yes (d := 9) rfl rfl (cb hb1) <| s_fld (n := 0) rfl underlying45 rfl rfl sizeOf3 <| wpl_yes (d := 9) rfl rfl (cb hb1) <| s_ld (i := 0) (cs := [vI a1.At]) S3 rfl rfl isAgg3 sizeOf3 rfl (fun _ => rfl) <| wpl_yes (d := 9) rfl rfl (cb hb1) ?_
   obtain ⟨x4, q4, q3⟩ := obind_some q3
   refine s_call call45 (w_ref24_num (a0 := a1.At) S3  q4) rfl ?_
   rintro _ w5 ⟨m3, l3, S5, rfl⟩
   clear S3
   refine wpl_yes (d := 9) rfl rfl (cb hb1) <| s_not rfl <| s_pickF (cb hb1) rfl <| wpl_nil (nrm ?_)
   have e0 := Option.some.inj q3
   subst e0
   replace L1 := Mem.tr L1 l3
   exact ⟨outP, m3, L1, S5, ⟨rfl, trivial⟩⟩
 rintro f1 w6 ho ⟨m4, l4, S6, ha⟩
 obtain ⟨u1, rfl⟩ := fr_of (N := 27) ho ha
 clear S3
 refine wpl_nil <| nrm <| wpc_if (t := x3) rfl (fun hc1 => ?_) (fun hc1 => ?_)
 · replace hm := ifT hc1 hm
   refine ws <| s_asv (v := vI 1) rfl <| wpl_nil <| nrm <| wpc_ret <| thR <| outRw fun we hpd => ?_
   replace S6 := St.pd S6 hpd
   obtain ⟨m5, l5, S7⟩ := St.drop S6 0
   clear S6
   replace S7 : St _ ((bx b1 (c_api_Key a0) 34) :: As) _ := S7
   obtain ⟨m6, l6, S8⟩ := St.drop S7 0
   clear S7
   replace S8 : St _ (As) _ := S8
   have e0 := Option.some.inj hm
   subst e0
   replace L0 := Mem.tr L0 (mt l1 (mt l4 (mt l5 l6)))
   exact outR [_] rfl ⟨rfl, trivial⟩ ⟨_, L0, S8, rfl⟩
 replace hm := ifF hc1 hm
 refine wpc_skip <| nrm <| wpc_seq <| ws <| s_fld (n := 0) rfl underlying45 rfl rfl sizeOf3 <| s_ld (i := 0) (cs := [vI a1.Log]) S6 rfl rfl isAgg3 sizeOf3 rfl (fun _ => rfl) <| s_fld (n := 0) rfl underlying34 rfl rfl sizeOf3 <| s_ld (i := 1) (cs := [vI a0.Log]) S6 rfl rfl isAgg3 sizeOf3 rfl (fun _ => rfl) <| s_neq (m := a1.Log) (n := a0.Log) rfl rfl <| wpl_nil <| nrm <| wpc_if (t := (a1.Log != a0.Log)) rfl (fun hc2 => ?_) (fun hc2 => ?_)
 · replace hm := ifT hc2 hm
   refine ws <| s_asv (v := vI 240) rfl <| wpl_nil <| nrm <| wpc_ret <| thR <| outRw fun we hpd => ?_
   replace S6 := St.pd S6 hpd
   obtain ⟨m7, l7, S9⟩ := St.drop S6 0
   clear S6
   replace S9 : St _ ((bx b1 (c_api_Key a0) 34) :: As) _ := S9
   obtain ⟨m8, l8, S10⟩ := St.drop S9 0
   clear S9
   replace S10 : St _ (As) _ := S10
   have e0 := Option.some.inj hm
   subst e0
   replace L0 := Mem.tr L0 (mt l1 (mt l4 (mt l7 l8)))
   exact outR [_] rfl ⟨rfl, trivial⟩ ⟨_, L0, S10, rfl⟩
 replace hm := ifF hc2 hm
 refine wpc_skip <| nrm <| wpc_seq ?_
 obtain ⟨x5, q5, hm⟩ := obind_some hm
 have HM : MonoAll [(20, fv (pt b1 1)), (21, fv (vU a0.Key)), (22, fv (.agg (c_api_Promise a1).toArray)), (23, fun _ _ => True), (24, fv (pt b2 4)), (25, fv (.agg (c_api_Sig a1.Sig).toArray))] := ⟨mv, mv, mv, (fun _ _ _ _ h => h), mv, mv, trivial⟩
 refine wpc_flowG HM 6 mixed rfl rfl rfl (rg 20 6) (fun L f M w => ∃ (X1 : List Ow), ((L 3 = false → X1 = []) ∧ (L 3 = true → (RowS M X1 1 (f 23) x5))) ∧ St M ((bx b2 (c_api_Promise a1) 45) :: (bx b1 (c_api_Key a0) 34) :: (X1 ++ As)) w) (⟨[], ⟨fun _ => rfl, fun hx => ff hx⟩, St.drew S6 _⟩) ?_ ?_
 · refine ⟨?_, ?_, ?_, ?_, ?_, ?_, trivial⟩
   · exact flp HM rfl [] (fun _ _ => trivial) (fun _ _ q => s_fld (n := 0) rfl underlying34 rfl rfl sizeOf22 q) rfl
   · exact flp HM rfl [(20, _)] (fun K _ => ⟨K 0 rfl, trivial⟩) (fun _ ⟨_, _, S12⟩ q => s_ld (i := 1) (cs := [vU a0.Key]) S12 rfl rfl isAgg22 sizeOf22 rfl (fun _ => rfl) q) rfl
   · exact flp HM rfl [] (fun _ _ => trivial) (fun _ ⟨_, _, S13⟩ q => s_ld (i := 0) (cs := (c_api_Promise a1)) S13 rfl rfl isAgg45 sizeOf45 rfl (fun h => by cases h) q) rfl
   · intro L f5 w10 hL hd hc ⟨m12, L8, ⟨X1, C4, S14⟩, K, hO⟩
     have d3 : L 3 = false := hL
     obtain ⟨u5, rfl⟩ := fr_of (N := 27) (L := [(22, _)]) hO ⟨K 2 (dep hd rfl), trivial⟩
     obtain rfl := C4.1 d3
     replace S14 : St _ ((bx b2 (c_api_Promise a1) 45) :: (bx b1 (c_api_Key a0) 34) :: As) _ := S14
     have L9 := Mem.rfl' m12
     refine s_call call59 (w_ref24_PromBytes (a0 := a1) S14  q5) rfl ?_
     rintro v1 w11 ⟨m13, l9, _, c1, S15, rfl, h1⟩
     clear S14
     refine wpn ?_
     replace L9 := Mem.tr L9 l9
     refine ⟨m13, Mem.tr L8 L9, ⟨[row 1 v1 c1 x5.length], ⟨fun hx => tf rfl hx, fun _ => ⟨_, rfl, h1⟩⟩, ?_⟩, facts_step HM rfl K L9 rfl rfl trivial, outP⟩
     have S23 : St _ ((bx b2 (c_api_Promise a1) 45) :: (bx b1 (c_api_Key a0) 34) :: (row 1 v1 c1 x5.length) :: As) _ := St.perm S15 (List.Perm.trans (List.Perm.swap _ _ _) (List.Perm.cons _ (List.Perm.swap _ _ _)))
     exact S23
   · exact flp HM rfl [] (fun _ _ => trivial) (fun _ _ q => s_fld (n := 1) rfl underlying45 rfl rfl sizeOf43 q) rfl
   · exact flp HM rfl [(24, _)] (fun K _ => ⟨K 4 rfl, trivial⟩) (fun _ ⟨_, _, S17⟩ q => s_ld (i := 0) (cs := (c_api_Sig a1.Sig)) S17 rfl rfl isAgg43 sizeOf43 rfl (fun h => by cases h) q) rfl
 intro L f8 w14 hall ⟨m16, L14, ⟨X1, C7, S18⟩, K, hO⟩
 have d1 : L 1 = true := hall 1 (by decide)
 obtain ⟨v2, e5⟩ : ∃ x, f8 23 = x := ⟨_, rfl⟩
 have d5 : L 5 = true := hall 5 (by decide)
 have d3 : L 3 = true := hall 3 (by decide)
 obtain ⟨u8, rfl⟩ := fr_of (N := 27) (L := [(21, _), (23, _), (25, _)]) hO ⟨K 1 d1, e5, K 5 d5, trivial⟩
 replace S18 : St _ ((bx b2 (c_api_Promise a1) 45) :: (bx b1 (c_api_Key a0) 34) :: (X1 ++ As)) _ := S18
 obtain ⟨c2, rfl, h2⟩ := C7.2 d3
 replace h2 : RepL _ c2 x5 := h2
 replace S18 : St _ ((bx b2 (c_api_Promise a1) 45) :: (bx b1 (c_api_Key a0) 34) :: (row 1 v2 c2 x5.length) :: As) _ := S18
 clear S6
 obtain ⟨m17, l10, h3, S19⟩ := St.rowKeepT (i := 2) S18 rfl h2 rfl
 clear S18
 obtain ⟨x6, q6, hm⟩ := obind_some hm
 refine s_call call65 (w_ref04_Check (a0 := a0.Key) (a1 := x5) (a2 := a1.Sig) S19 h3 q6) rfl ?_
 rintro _ w15 ⟨m18, l11, S20, rfl⟩
 clear S19
 refine s_asv (v := vI x6) rfl <| wpl_nil <| nrm <| wpc_ret <| outRw fun we hpd => ?_
 replace S20 := St.pd S20 hpd
 obtain ⟨m19, l12, S21⟩ := St.drop S20 0
 clear S20
 replace S21 : St _ ((bx b1 (c_api_Key a0) 34) :: As) _ := S21
 obtain ⟨m20, l13, S22⟩ := St.drop S21 0
 clear S21
 replace S22 : St _ (As) _ := S22
 have e0 := Option.some.inj hm
 subst e0
 replace L0 := Mem.tr L0 (mt l1 (mt l4 (mt L14 (mt l10 (mt l11 (mt l12 l13))))))
 exact outR [_] rfl ⟨rfl, trivial⟩ ⟨_, L0, S22, rfl⟩

def m_ref24_CheckHead (a0 : g_api_Key) (a1 : g_api_Head) : Option Int :=
  obind (m_ref24_num a1.Log) fun x1 =>
  obind (
    if (!x1) = true then
      some true
    else
    obind (m_ref24_num a1.At) fun x4 =>
    some (!x4)
  ) fun x3 =>
  if ((x3 || (decide (a1.Size < 0))) || (decide (a1.Size > 256))) = true then
    some 1
  else
  if (a1.Log != a0.Log) = true then
    some 240
  else
  obind (m_ref24_HeadBytes a1) fun x5 =>
  obind (m_ref04_Check a0.Key x5 a1.Sig) fun x6 =>
  some x6

theorem w_ref24_CheckHead {m : Mem} {As : List Ow} {w : World} {a0 : g_api_Key} {a1 : g_api_Head} {r : Int} (S : St m (As) w) (hm : m_ref24_CheckHead a0 a1 = some r) :
    CallsR Tryz.prog 25 #[.agg (c_api_Key a0).toArray, .agg (c_api_Head a1).toArray] w fun v w' => ∃ (M : Mem), m ≤ M ∧ St M (As) w' ∧ v = vI r := by
 unfold m_ref24_CheckHead at hm
 have L0 := Mem.rfl' m
 refine callsR (args := [.agg (c_api_Key a0).toArray, .agg (c_api_Head a1).toArray]) func25 rfl ntmps25 (nb rfl) <| ws <| s_box S rfl fun b1 w1 S1 => ?_
 replace S1 : St _ ((bx b1 (c_api_Key a0) 34) :: As) _ := S1
 clear S
 refine s_box S1 rfl fun b2 w2 S2 => ?_
 replace S2 : St _ ((bx b2 (c_api_Head a1) 51) :: (bx b1 (c_api_Key a0) 34) :: As) _ := S2
 clear S1
 refine s_asv (v := vI 0) rfl <| wpl_nil <| nrm <| wpc_seq <| ws <| s_fld (n := 0) rfl underlying51 rfl rfl sizeOf3 <| s_ld (i := 0) (cs := [vI a1.Log]) S2 rfl rfl isAgg3 sizeOf3 rfl (fun _ => rfl) ?_
 obtain ⟨x1, q1, hm⟩ := obind_some hm
 refine s_call call45 (w_ref24_num (a0 := a1.Log) S2  q1) rfl ?_
 rintro _ w3 ⟨m1, l1, S3, rfl⟩
 clear S2
 refine s_not rfl <| s_mvv (v := vb (!x1)) rfl ?_
 obtain ⟨x3, q3, hm⟩ := obind_some hm
 have L1 := Mem.rfl' m1
 refine wpl_cut 5 [10, 11, 12, 13, 14] (fun f' w' => ∃ (M1 : Mem), m1 ≤ M1 ∧ St M1 ((bx b2 (c_api_Head a1) 51) :: (bx b1 (c_api_Key a0) 34) :: As) w' ∧ AllAt f' [(14, vb x3)]) ?_ ?_
 · rcases bool_tf (!x1) with hb1 | hb1
   · replace q3 := ifT hb1 q3
     refine wpl_no (d := 9) rfl rfl (cb hb1) <| wpl_no (d := 9) rfl rfl (cb hb1) <| wpl_no (d := 9) rfl rfl (cb hb1) <| wpl_no (d := 9) rfl rfl (cb hb1) <| s_pickT (cb hb1) rfl <| wpl_nil (nrm ?_)
     have e0 := Option.some.inj q3
     subst e0
     exact ⟨outP, m1, L1, S3, ⟨rfl, trivial⟩⟩
   replace q3 := ifF hb1 q3
   refine wpl_yes (d := 9) rfl rfl (cb hb1) <| s_fld (n := 0) rfl underlying51 rfl rfl sizeOf3 <| wpl_yes (d := 9) rfl rfl (cb hb1) <| s_ld (i := 0) (cs := [vI a1.At]) S3 rfl rfl isAgg3 sizeOf3 rfl (fun _ => rfl) <| wpl_yes (d := 9) rfl rfl (cb hb1) ?_
   obtain ⟨x4, q4, q3⟩ := obind_some q3
   refine s_call call45 (w_ref24_num (a0 := a1.At) S3  q4) rfl ?_
   rintro _ w5 ⟨m3, l3, S5, rfl⟩
   clear S3
   refine wpl_yes (d := 9) rfl rfl (cb hb1) <| s_not rfl <| s_pickF (cb hb1) rfl <| wpl_nil (nrm ?_)
   have e0 := Option.some.inj q3
   subst e0
   replace L1 := Mem.tr L1 l3
   exact ⟨outP, m3, L1, S5, ⟨rfl, trivial⟩⟩
 rintro f1 w6 ho ⟨m4, l4, S6, ha⟩
 obtain ⟨u1, rfl⟩ := fr_of (N := 37) ho ha
 clear S3
 refine s_mvv (v := vb x3) rfl <| wpl_cut 4 [16, 17, 18, 19] (fun f' w' => w' = w6 ∧ AllAt f' [(19, vb (x3 || (decide (a1.Size < 0))))]) ?_ ?_
 · rcases bool_tf x3 with hb2 | hb2
   · exact wpl_no (d := 15) rfl rfl (cb hb2) <| wpl_no (d := 15) rfl rfl (cb hb2) <| wpl_no (d := 15) rfl rfl (cb hb2) <| s_pickT (cb hb2) rfl <| wpl_nil (nrm ⟨outP, rfl, congrArg Value.bool (or_t hb2), trivial⟩)
   · exact wpl_yes (d := 15) rfl rfl (cb hb2) <| s_fld (n := 0) rfl underlying51 rfl rfl sizeOf3 <| wpl_yes (d := 15) rfl rfl (cb hb2) <| s_ld (i := 0) (cs := [vI a1.Size]) S6 rfl rfl isAgg3 sizeOf3 rfl (fun _ => rfl) <| wpl_yes (d := 15) rfl rfl (cb hb2) <| s_lss (m := a1.Size) (n := 0) rfl rfl <| s_pickF (cb hb2) rfl <| wpl_nil (nrm ⟨outP, rfl, congrArg Value.bool (or_f hb2), trivial⟩)
 rintro f2 w7 ho ⟨h1, ha⟩
 subst h1
 obtain ⟨u2, rfl⟩ := fr_of (N := 37) ho ha
 refine s_mvv (v := vb (x3 || (decide (a1.Size < 0)))) rfl <| wpl_cut 4 [21, 22, 23, 24] (fun f' w' => w' = w7 ∧ AllAt f' [(24, vb ((x3 || (decide (a1.Size < 0))) || (decide (a1.Size > 256))))]) ?_ ?_
 · rcases bool_tf (x3 || (decide (a1.Size < 0))) with hb3 | hb3
   · exact wpl_no (d := 20) rfl rfl (cb hb3) <| wpl_no (d := 20) rfl rfl (cb hb3) <| wpl_no (d := 20) rfl rfl (cb hb3) <| s_pickT (cb hb3) rfl <| wpl_nil (nrm ⟨outP, rfl, congrArg Value.bool (or_t hb3), trivial⟩)
   · exact wpl_yes (d := 20) rfl rfl (cb hb3) <| s_fld (n := 0) rfl underlying51 rfl rfl sizeOf3 <| wpl_yes (d := 20) rfl rfl (cb hb3) <| s_ld (i := 0) (cs := [vI a1.Size]) S6 rfl rfl isAgg3 sizeOf3 rfl (fun _ => rfl) <| wpl_yes (d := 20) rfl rfl (cb hb3) <| s_gtr (m := a1.Size) (n := 256) rfl rfl <| s_pickF (cb hb3) rfl <| wpl_nil (nrm ⟨outP, rfl, congrArg Value.bool (or_f hb3), trivial⟩)
 rintro f3 w8 ho ⟨h2, ha⟩
 subst h2
 obtain ⟨u3, rfl⟩ := fr_of (N := 37) ho ha
 refine wpl_nil <| nrm <| wpc_if (t := ((x3 || (decide (a1.Size < 0))) || (decide (a1.Size > 256)))) rfl (fun hc1 => ?_) (fun hc1 => ?_)
 · replace hm := ifT hc1 hm
   refine ws <| s_asv (v := vI 1) rfl <| wpl_nil <| nrm <| wpc_ret <| thR <| outRw fun we hpd => ?_
   replace S6 := St.pd S6 hpd
   obtain ⟨m5, l5, S7⟩ := St.drop S6 0
   clear S6
   replace S7 : St _ ((bx b1 (c_api_Key a0) 34) :: As) _ := S7
   obtain ⟨m6, l6, S8⟩ := St.drop S7 0
   clear S7
   replace S8 : St _ (As) _ := S8
   have e0 := Option.some.inj hm
   subst e0
   replace L0 := Mem.tr L0 (mt l1 (mt l4 (mt l5 l6)))
   exact outR [_] rfl ⟨rfl, trivial⟩ ⟨_, L0, S8, rfl⟩
 replace hm := ifF hc1 hm
 refine wpc_skip <| nrm <| wpc_seq <| ws <| s_fld (n := 0) rfl underlying51 rfl rfl sizeOf3 <| s_ld (i := 0) (cs := [vI a1.Log]) S6 rfl rfl isAgg3 sizeOf3 rfl (fun _ => rfl) <| s_fld (n := 0) rfl underlying34 rfl rfl sizeOf3 <| s_ld (i := 1) (cs := [vI a0.Log]) S6 rfl rfl isAgg3 sizeOf3 rfl (fun _ => rfl) <| s_neq (m := a1.Log) (n := a0.Log) rfl rfl <| wpl_nil <| nrm <| wpc_if (t := (a1.Log != a0.Log)) rfl (fun hc2 => ?_) (fun hc2 => ?_)
 · replace hm := ifT hc2 hm
   refine ws <| s_asv (v := vI 240) rfl <| wpl_nil <| nrm <| wpc_ret <| thR <| outRw fun we hpd => ?_
   replace S6 := St.pd S6 hpd
   obtain ⟨m7, l7, S9⟩ := St.drop S6 0
   clear S6
   replace S9 : St _ ((bx b1 (c_api_Key a0) 34) :: As) _ := S9
   obtain ⟨m8, l8, S10⟩ := St.drop S9 0
   clear S9
   replace S10 : St _ (As) _ := S10
   have e0 := Option.some.inj hm
   subst e0
   replace L0 := Mem.tr L0 (mt l1 (mt l4 (mt l7 l8)))
   exact outR [_] rfl ⟨rfl, trivial⟩ ⟨_, L0, S10, rfl⟩
 replace hm := ifF hc2 hm
 refine wpc_skip <| nrm <| wpc_seq ?_
 obtain ⟨x5, q5, hm⟩ := obind_some hm
 have HM : MonoAll [(30, fv (pt b1 1)), (31, fv (vU a0.Key)), (32, fv (.agg (c_api_Head a1).toArray)), (33, fun _ _ => True), (34, fv (pt b2 5)), (35, fv (.agg (c_api_Sig a1.Sig).toArray))] := ⟨mv, mv, mv, (fun _ _ _ _ h => h), mv, mv, trivial⟩
 refine wpc_flowG HM 6 mixed rfl rfl rfl (rg 30 6) (fun L f M w => ∃ (X1 : List Ow), ((L 3 = false → X1 = []) ∧ (L 3 = true → (RowS M X1 1 (f 33) x5))) ∧ St M ((bx b2 (c_api_Head a1) 51) :: (bx b1 (c_api_Key a0) 34) :: (X1 ++ As)) w) (⟨[], ⟨fun _ => rfl, fun hx => ff hx⟩, St.drew S6 _⟩) ?_ ?_
 · refine ⟨?_, ?_, ?_, ?_, ?_, ?_, trivial⟩
   · exact flp HM rfl [] (fun _ _ => trivial) (fun _ _ q => s_fld (n := 0) rfl underlying34 rfl rfl sizeOf22 q) rfl
   · exact flp HM rfl [(30, _)] (fun K _ => ⟨K 0 rfl, trivial⟩) (fun _ ⟨_, _, S12⟩ q => s_ld (i := 1) (cs := [vU a0.Key]) S12 rfl rfl isAgg22 sizeOf22 rfl (fun _ => rfl) q) rfl
   · exact flp HM rfl [] (fun _ _ => trivial) (fun _ ⟨_, _, S13⟩ q => s_ld (i := 0) (cs := (c_api_Head a1)) S13 rfl rfl isAgg51 sizeOf51 rfl (fun h => by cases h) q) rfl
   · intro L f7 w12 hL hd hc ⟨m12, L8, ⟨X1, C4, S14⟩, K, hO⟩
     have d3 : L 3 = false := hL
     obtain ⟨u7, rfl⟩ := fr_of (N := 37) (L := [(32, _)]) hO ⟨K 2 (dep hd rfl), trivial⟩
     obtain rfl := C4.1 d3
     replace S14 : St _ ((bx b2 (c_api_Head a1) 51) :: (bx b1 (c_api_Key a0) 34) :: As) _ := S14
     have L9 := Mem.rfl' m12
     refine s_call call67 (w_ref24_HeadBytes (a0 := a1) S14  q5) rfl ?_
     rintro v1 w13 ⟨m13, l9, _, c1, S15, rfl, h3⟩
     clear S14
     refine wpn ?_
     replace L9 := Mem.tr L9 l9
     refine ⟨m13, Mem.tr L8 L9, ⟨[row 1 v1 c1 x5.length], ⟨fun hx => tf rfl hx, fun _ => ⟨_, rfl, h3⟩⟩, ?_⟩, facts_step HM rfl K L9 rfl rfl trivial, outP⟩
     have S23 : St _ ((bx b2 (c_api_Head a1) 51) :: (bx b1 (c_api_Key a0) 34) :: (row 1 v1 c1 x5.length) :: As) _ := St.perm S15 (List.Perm.trans (List.Perm.swap _ _ _) (List.Perm.cons _ (List.Perm.swap _ _ _)))
     exact S23
   · exact flp HM rfl [] (fun _ _ => trivial) (fun _ _ q => s_fld (n := 1) rfl underlying51 rfl rfl sizeOf43 q) rfl
   · exact flp HM rfl [(34, _)] (fun K _ => ⟨K 4 rfl, trivial⟩) (fun _ ⟨_, _, S17⟩ q => s_ld (i := 0) (cs := (c_api_Sig a1.Sig)) S17 rfl rfl isAgg43 sizeOf43 rfl (fun h => by cases h) q) rfl
 intro L f10 w16 hall ⟨m16, L14, ⟨X1, C7, S18⟩, K, hO⟩
 have d1 : L 1 = true := hall 1 (by decide)
 obtain ⟨v2, e5⟩ : ∃ x, f10 33 = x := ⟨_, rfl⟩
 have d5 : L 5 = true := hall 5 (by decide)
 have d3 : L 3 = true := hall 3 (by decide)
 obtain ⟨u10, rfl⟩ := fr_of (N := 37) (L := [(31, _), (33, _), (35, _)]) hO ⟨K 1 d1, e5, K 5 d5, trivial⟩
 replace S18 : St _ ((bx b2 (c_api_Head a1) 51) :: (bx b1 (c_api_Key a0) 34) :: (X1 ++ As)) _ := S18
 obtain ⟨c2, rfl, h4⟩ := C7.2 d3
 replace h4 : RepL _ c2 x5 := h4
 replace S18 : St _ ((bx b2 (c_api_Head a1) 51) :: (bx b1 (c_api_Key a0) 34) :: (row 1 v2 c2 x5.length) :: As) _ := S18
 clear S6
 obtain ⟨m17, l10, h5, S19⟩ := St.rowKeepT (i := 2) S18 rfl h4 rfl
 clear S18
 obtain ⟨x6, q6, hm⟩ := obind_some hm
 refine s_call call65 (w_ref04_Check (a0 := a0.Key) (a1 := x5) (a2 := a1.Sig) S19 h5 q6) rfl ?_
 rintro _ w17 ⟨m18, l11, S20, rfl⟩
 clear S19
 refine s_asv (v := vI x6) rfl <| wpl_nil <| nrm <| wpc_ret <| outRw fun we hpd => ?_
 replace S20 := St.pd S20 hpd
 obtain ⟨m19, l12, S21⟩ := St.drop S20 0
 clear S20
 replace S21 : St _ ((bx b1 (c_api_Key a0) 34) :: As) _ := S21
 obtain ⟨m20, l13, S22⟩ := St.drop S21 0
 clear S21
 replace S22 : St _ (As) _ := S22
 have e0 := Option.some.inj hm
 subst e0
 replace L0 := Mem.tr L0 (mt l1 (mt l4 (mt L14 (mt l10 (mt l11 (mt l12 l13))))))
 exact outR [_] rfl ⟨rfl, trivial⟩ ⟨_, L0, S22, rfl⟩

def m_law24_LogdSigned (a0 : g_api_Key) (a1 : g_api_Promise) (a2 : g_api_Head) : Option Bool :=
  obind (m_law24_live ) fun x1 =>
  if (!x1) = true then
    some false
  else
  obind (m_logd_CheckPromise a0 a1) fun x2 =>
  obind (m_ref24_CheckPromise a0 a1) fun x3 =>
  obind (gu (x2 == x3) (m_logd_CheckHead a0 a2)) fun x4 =>
  obind (gu (x2 == x3) (m_ref24_CheckHead a0 a2)) fun x5 =>
  some ((x2 == x3) && (x4 == x5))

theorem w_law24_LogdSigned {m : Mem} {As : List Ow} {w : World} {a0 : g_api_Key} {a1 : g_api_Promise} {a2 : g_api_Head} {r : Bool} (S : St m (As) w) (hm : m_law24_LogdSigned a0 a1 a2 = some r) :
    CallsR Tryz.prog 5 #[.agg (c_api_Key a0).toArray, .agg (c_api_Promise a1).toArray, .agg (c_api_Head a2).toArray] w fun v w' => ∃ (M : Mem), m ≤ M ∧ St M (As) w' ∧ v = vb r := by
 unfold m_law24_LogdSigned at hm
 have L0 := Mem.rfl' m
 refine callsR (args := [.agg (c_api_Key a0).toArray, .agg (c_api_Promise a1).toArray, .agg (c_api_Head a2).toArray]) func5 rfl ntmps5 (nb rfl) <| ws <| s_box S rfl fun b1 w1 S1 => ?_
 replace S1 : St _ ((bx b1 (c_api_Key a0) 34) :: As) _ := S1
 clear S
 refine s_box S1 rfl fun b2 w2 S2 => ?_
 replace S2 : St _ ((bx b2 (c_api_Promise a1) 45) :: (bx b1 (c_api_Key a0) 34) :: As) _ := S2
 clear S1
 refine s_box S2 rfl fun b3 w3 S3 => ?_
 replace S3 : St _ ((bx b3 (c_api_Head a2) 51) :: (bx b2 (c_api_Promise a1) 45) :: (bx b1 (c_api_Key a0) 34) :: As) _ := S3
 clear S2
 refine s_asv (v := vb false) rfl <| wpl_nil <| nrm <| wpc_seq <| wpc_seq <| wpc_region ?_
 obtain ⟨x1, q1, hm⟩ := obind_some hm
 refine s_call call7 (w_law24_live  S3  q1) rfl ?_
 rintro _ w4 ⟨m1, l1, S4, rfl⟩
 clear S3
 refine s_not rfl <| wpl_nil <| nrm <| wpc_if (t := (!x1)) rfl (fun hc1 => ?_) (fun hc1 => ?_)
 · replace hm := ifT hc1 hm
   refine ws <| s_asv (v := vb false) rfl <| wpl_nil <| nrm <| wpc_ret <| thR <| outRw fun we hpd => ?_
   replace S4 := St.pd S4 hpd
   obtain ⟨m2, l2, S5⟩ := St.drop S4 0
   clear S4
   replace S5 : St _ ((bx b2 (c_api_Promise a1) 45) :: (bx b1 (c_api_Key a0) 34) :: As) _ := S5
   obtain ⟨m3, l3, S6⟩ := St.drop S5 0
   clear S5
   replace S6 : St _ ((bx b1 (c_api_Key a0) 34) :: As) _ := S6
   obtain ⟨m4, l4, S7⟩ := St.drop S6 0
   clear S6
   replace S7 : St _ (As) _ := S7
   have e0 := Option.some.inj hm
   subst e0
   replace L0 := Mem.tr L0 (mt l1 (mt l2 (mt l3 l4)))
   exact outR [_] rfl ⟨rfl, trivial⟩ ⟨_, L0, S7, rfl⟩
 replace hm := ifF hc1 hm
 refine wpc_skip <| nrm <| wpc_seq ?_
 obtain ⟨x2, q2, hm⟩ := obind_some hm
 obtain ⟨x3, q3, hm⟩ := obind_some hm
 obtain ⟨x4, q4, hm⟩ := obind_some hm
 obtain ⟨x5, q5, hm⟩ := obind_some hm
 have HM : MonoAll [(9, fv (.agg (c_api_Key a0).toArray)), (10, fv (.agg (c_api_Promise a1).toArray)), (11, fv (vI x2)), (12, fv (.agg (c_api_Key a0).toArray)), (13, fv (.agg (c_api_Promise a1).toArray)), (14, fv (vI x3)), (15, fv (vb (x2 == x3))), (16, fv (vb (x2 == x3))), (17, fc (x2 == x3) (fv (.agg (c_api_Key a0).toArray))), (18, fc (x2 == x3) (fv (.agg (c_api_Head a2).toArray))), (19, fc (x2 == x3) (fv (vI x4))), (20, fc (x2 == x3) (fv (.agg (c_api_Key a0).toArray))), (21, fc (x2 == x3) (fv (.agg (c_api_Head a2).toArray))), (22, fc (x2 == x3) (fv (vI x5))), (23, fc (x2 == x3) (fv (vb (x4 == x5)))), (24, fv (vb ((x2 == x3) && (x4 == x5))))] := ⟨mv, mv, mv, mv, mv, mv, mv, mv, (mc mv), (mc mv), (mc mv), (mc mv), (mc mv), (mc mv), (mc mv), mv, trivial⟩
 refine wpc_flowG HM 16 mixed rfl rfl rfl (rg 9 16) (fun L f M w => St M ((bx b3 (c_api_Head a2) 51) :: (bx b2 (c_api_Promise a1) 45) :: (bx b1 (c_api_Key a0) 34) :: As) w) (St.drew S4 _) ?_ ?_
 · refine ⟨?_, ?_, ?_, ?_, ?_, ?_, ?_, ?_, ?_, ?_, ?_, ?_, ?_, ?_, ?_, ?_, trivial⟩
   · exact flp HM rfl [] (fun _ _ => trivial) (fun _ S8 q => s_ld (i := 2) (cs := (c_api_Key a0)) S8 rfl rfl isAgg34 sizeOf34 rfl (fun h => by cases h) q) rfl
   · exact flp HM rfl [] (fun _ _ => trivial) (fun _ S9 q => s_ld (i := 1) (cs := (c_api_Promise a1)) S9 rfl rfl isAgg45 sizeOf45 rfl (fun h => by cases h) q) rfl
   · intro L f3 w7 hL hd hc ⟨m7, L5, S10, K, hO⟩
     obtain ⟨u3, rfl⟩ := fr_of (N := 25) (L := [(9, _), (10, _)]) hO ⟨K 0 (dep hd rfl), K 1 (dep hd rfl), trivial⟩
     have L6 := Mem.rfl' m7
     refine s_call call22 (w_logd_CheckPromise (a0 := a0) (a1 := a1) S10  q2) rfl ?_
     rintro _ w8 ⟨m8, l5, S11, rfl⟩
     clear S10
     refine wpn ?_
     replace L6 := Mem.tr L6 l5
     exact ⟨m8, Mem.tr L5 L6, S11, facts_step HM rfl K L6 rfl rfl rfl, outP⟩
   · exact flp HM rfl [] (fun _ _ => trivial) (fun _ S12 q => s_ld (i := 2) (cs := (c_api_Key a0)) S12 rfl rfl isAgg34 sizeOf34 rfl (fun h => by cases h) q) rfl
   · exact flp HM rfl [] (fun _ _ => trivial) (fun _ S13 q => s_ld (i := 1) (cs := (c_api_Promise a1)) S13 rfl rfl isAgg45 sizeOf45 rfl (fun h => by cases h) q) rfl
   · intro L f6 w11 hL hd hc ⟨m11, L11, S14, K, hO⟩
     obtain ⟨u6, rfl⟩ := fr_of (N := 25) (L := [(12, _), (13, _)]) hO ⟨K 3 (dep hd rfl), K 4 (dep hd rfl), trivial⟩
     have L12 := Mem.rfl' m11
     refine s_call call23 (w_ref24_CheckPromise (a0 := a0) (a1 := a1) S14  q3) rfl ?_
     rintro _ w12 ⟨m12, l6, S15, rfl⟩
     clear S14
     refine wpn ?_
     replace L12 := Mem.tr L12 l6
     exact ⟨m12, Mem.tr L11 L12, S15, facts_step HM rfl K L12 rfl rfl rfl, outP⟩
   · exact flp HM rfl [(11, _), (14, _)] (fun K _ => ⟨K 2 rfl, K 5 rfl, trivial⟩) (fun _ _ q => s_eql (m := x2) (n := x3) rfl rfl q) rfl
   · exact flp HM rfl [(15, _)] (fun K _ => ⟨K 6 rfl, trivial⟩) (fun _ _ q => s_mvv (v := vb (x2 == x3)) rfl q) rfl
   · exact flg HM rfl rfl (fun K _ => K 7 rfl) [] (fun _ _ _ => trivial) (fun _ => fun _ S18 q => s_ld (i := 2) (cs := (c_api_Key a0)) S18 rfl rfl isAgg34 sizeOf34 rfl (fun h => by cases h) q) (fun _ => rfl)
   · exact flg HM rfl rfl (fun K _ => K 7 rfl) [] (fun _ _ _ => trivial) (fun _ => fun _ S19 q => s_ld (i := 0) (cs := (c_api_Head a2)) S19 rfl rfl isAgg51 sizeOf51 rfl (fun h => by cases h) q) (fun _ => rfl)
   · refine flb HM rfl rfl (fun K _ => K 7 rfl) fun hb3 => ?_
     intro L f11 w17 hL hd hc ⟨m17, L21, S20, K, hO⟩
     obtain ⟨u11, rfl⟩ := fr_of (N := 25) (L := [(17, _), (18, _)]) hO ⟨(K 8 (dep hd rfl)).1 hb3, (K 9 (dep hd rfl)).1 hb3, trivial⟩
     replace S20 : St _ ((bx b3 (c_api_Head a2) 51) :: (bx b2 (c_api_Promise a1) 45) :: (bx b1 (c_api_Key a0) 34) :: As) _ := S20
     have L22 := Mem.rfl' m17
     replace q4 := gu_t hb3 q4
     refine s_call call24 (w_logd_CheckHead (a0 := a0) (a1 := a2) S20  q4) rfl ?_
     rintro _ w18 ⟨m18, l7, S21, rfl⟩
     clear S20
     refine wpn ?_
     replace L22 := Mem.tr L22 l7
     exact ⟨m18, Mem.tr L21 L22, S21, facts_step HM rfl K L22 rfl rfl ⟨fun _ => rfl, fun hx => tf hb3 hx⟩, outP⟩
   · exact flg HM rfl rfl (fun K _ => K 7 rfl) [] (fun _ _ _ => trivial) (fun _ => fun _ S22 q => s_ld (i := 2) (cs := (c_api_Key a0)) S22 rfl rfl isAgg34 sizeOf34 rfl (fun h => by cases h) q) (fun _ => rfl)
   · exact flg HM rfl rfl (fun K _ => K 7 rfl) [] (fun _ _ _ => trivial) (fun _ => fun _ S23 q => s_ld (i := 0) (cs := (c_api_Head a2)) S23 rfl rfl isAgg51 sizeOf51 rfl (fun h => by cases h) q) (fun _ => rfl)
   · refine flb HM rfl rfl (fun K _ => K 7 rfl) fun hb6 => ?_
     intro L f14 w21 hL hd hc ⟨m21, L27, S24, K, hO⟩
     obtain ⟨u14, rfl⟩ := fr_of (N := 25) (L := [(20, _), (21, _)]) hO ⟨(K 11 (dep hd rfl)).1 hb6, (K 12 (dep hd rfl)).1 hb6, trivial⟩
     replace S24 : St _ ((bx b3 (c_api_Head a2) 51) :: (bx b2 (c_api_Promise a1) 45) :: (bx b1 (c_api_Key a0) 34) :: As) _ := S24
     have L28 := Mem.rfl' m21
     replace q5 := gu_t hb6 q5
     refine s_call call25 (w_ref24_CheckHead (a0 := a0) (a1 := a2) S24  q5) rfl ?_
     rintro _ w22 ⟨m22, l8, S25, rfl⟩
     clear S24
     refine wpn ?_
     replace L28 := Mem.tr L28 l8
     exact ⟨m22, Mem.tr L27 L28, S25, facts_step HM rfl K L28 rfl rfl ⟨fun _ => rfl, fun hx => tf hb6 hx⟩, outP⟩
   · exact flg HM rfl rfl (fun K _ => K 7 rfl) [(19, _), (22, _)] (fun K _ hb => ⟨(K 10 rfl).1 hb, (K 13 rfl).1 hb, trivial⟩) (fun _ => fun _ _ q => s_eql (m := x4) (n := x5) rfl rfl q) (fun _ => rfl)
   · exact flc HM rfl (x2 == x3) [(16, _), (23, _)] [(16, _)] (fun K _ hb => ⟨K 7 rfl, (K 14 rfl).1 hb, trivial⟩) (fun K _ _ => ⟨K 7 rfl, trivial⟩) (fun hb => fun _ _ q => s_pickT (cb hb) rfl q) (fun hb => fun _ _ q => s_pickF (cb hb) rfl q) (fun hb => cb (and_t hb)) (fun hb => cb (and_f hb))
 intro L f17 w25 hall ⟨m25, L34, S28, K, hO⟩
 have d15 : L 15 = true := hall 15 (by decide)
 obtain ⟨u18, rfl⟩ := fr_of (N := 25) (L := [(24, _)]) hO ⟨K 15 d15, trivial⟩
 replace S28 : St _ ((bx b3 (c_api_Head a2) 51) :: (bx b2 (c_api_Promise a1) 45) :: (bx b1 (c_api_Key a0) 34) :: As) _ := S28
 clear S4
 refine s_asv (v := vb ((x2 == x3) && (x4 == x5))) rfl <| wpl_nil <| nrm <| wpc_ret <| outRw fun we hpd => ?_
 replace S28 := St.pd S28 hpd
 obtain ⟨m26, l9, S29⟩ := St.drop S28 0
 clear S28
 replace S29 : St _ ((bx b2 (c_api_Promise a1) 45) :: (bx b1 (c_api_Key a0) 34) :: As) _ := S29
 obtain ⟨m27, l10, S30⟩ := St.drop S29 0
 clear S29
 replace S30 : St _ ((bx b1 (c_api_Key a0) 34) :: As) _ := S30
 obtain ⟨m28, l11, S31⟩ := St.drop S30 0
 clear S30
 replace S31 : St _ (As) _ := S31
 have e0 := Option.some.inj hm
 subst e0
 replace L0 := Mem.tr L0 (mt l1 (mt L34 (mt l9 (mt l10 l11))))
 exact outR [_] rfl ⟨rfl, trivial⟩ ⟨_, L0, S31, rfl⟩

end Go.Proofs.YtemiampgjgenhaaGreat
