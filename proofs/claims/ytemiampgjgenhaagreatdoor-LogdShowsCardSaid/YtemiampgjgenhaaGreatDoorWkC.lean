/- The walks of some functions, written by program. Conditions: none. -/
import Derived.Test.YtemiampgjgenhaaGreatDoorWkB
set_option maxHeartbeats 20000000
set_option maxRecDepth 100000
set_option linter.unusedVariables false
set_option linter.unusedSimpArgs false
namespace Go.Proofs.YtemiampgjgenhaaGreatDoor
open Go Go.Gw Tryz

def m_sign_Check (a0 : UInt64) (a1 : List UInt8) (a2 : g_api_Sig) : Option Int :=
  obind (m_cyclic_In a0) fun x1 =>
  if (!x1) = true then
    some 1
  else
  if (decide (((maxU a2.E a2.S).toNat : Int) ≥ 1152921504606845789)) = true then
    some 40
  else
  obind (m_cyclic_Pow a0 a2.E) fun x2 =>
  obind (m_cyclic_Inv x2) fun x3 =>
  obind (gu (!(x3.2 != 0)) (m_cyclic_Base a2.S)) fun x4 =>
  obind (gu (!(x3.2 != 0)) (m_cyclic_Mul x4 x3.1)) fun x5 =>
  obind (gu (!(x3.2 != 0)) (m_sign_Challenge x5 a0 a1)) fun x6 =>
  if ((x3.2 != 0) || ((x6.toNat : Int) != (a2.E.toNat : Int))) = true then
    some 40
  else
  some 0

theorem w_sign_Check {m : Mem} {As : List Ow} {w : World} {a0 : UInt64} {a1 : List UInt8} {a1v0 : Value} {a2 : g_api_Sig} {r : Int} (S : St m (As) w) (a1h0 : SlR m a1v0 a1) (hm : m_sign_Check a0 a1 a2 = some r) :
    CallsR Tryz.prog 71 #[vU a0, a1v0, .agg (c_api_Sig a2).toArray] w fun v w' => ∃ (M : Mem), m ≤ M ∧ St M (As) w' ∧ v = vI r := by
 unfold m_sign_Check at hm
 have L0 := Mem.rfl' m
 refine callsR (args := [vU a0, a1v0, .agg (c_api_Sig a2).toArray]) func71 rfl ntmps71 (nb rfl) <| ws <| s_box S rfl fun b1 w1 S1 => ?_
 replace S1 : St _ ((bx b1 (c_api_Sig a2) 38) :: As) _ := S1
 clear S
 refine s_asv (v := vI 0) rfl <| wpl_nil <| nrm <| wpc_seq <| ws <| s_mvv (v := vU a0) rfl ?_
 obtain ⟨x1, q1, hm⟩ := obind_some hm
 refine s_call call90 (w_cyclic_In (a0 := a0) S1  q1) rfl ?_
 rintro _ w2 ⟨m1, l1, S2, rfl⟩
 clear S1
 refine s_not rfl <| wpl_nil <| nrm <| wpc_if (t := (!x1)) rfl (fun hc1 => ?_) (fun hc1 => ?_)
 · replace hm := ifT hc1 hm
   refine ws <| s_asv (v := vI 1) rfl <| wpl_nil <| nrm <| wpc_ret <| thR <| outRw fun we hpd => ?_
   replace S2 := St.pd S2 hpd
   obtain ⟨m2, l2, S3⟩ := St.drop S2 0
   clear S2
   replace S3 : St _ (As) _ := S3
   have e0 := Option.some.inj hm
   subst e0
   replace L0 := Mem.tr L0 (mt l1 l2)
   exact outR [_] rfl ⟨rfl, trivial⟩ ⟨_, L0, S3, rfl⟩
 replace hm := ifF hc1 hm
 refine wpc_skip <| nrm <| wpc_seq <| ws <| s_fld (n := 0) rfl underlying38 rfl rfl sizeOf22 <| s_ld (i := 0) (cs := [vU a2.E]) S2 rfl rfl isAgg22 sizeOf22 rfl (fun _ => rfl) <| s_fld (n := 0) rfl underlying38 rfl rfl sizeOf22 <| s_ld (i := 0) (cs := [vU a2.S]) S2 rfl rfl isAgg22 sizeOf22 rfl (fun _ => rfl) <| s_maxU rfl rfl <| s_geq (m := ((maxU a2.E a2.S).toNat : Int)) (n := 1152921504606845789) rfl rfl <| wpl_nil <| nrm <| wpc_if (t := (decide (((maxU a2.E a2.S).toNat : Int) ≥ 1152921504606845789))) rfl (fun hc2 => ?_) (fun hc2 => ?_)
 · replace hm := ifT hc2 hm
   refine ws <| s_asv (v := vI 40) rfl <| wpl_nil <| nrm <| wpc_ret <| thR <| outRw fun we hpd => ?_
   replace S2 := St.pd S2 hpd
   obtain ⟨m3, l3, S4⟩ := St.drop S2 0
   clear S2
   replace S4 : St _ (As) _ := S4
   have e0 := Option.some.inj hm
   subst e0
   replace L0 := Mem.tr L0 (mt l1 l3)
   exact outR [_] rfl ⟨rfl, trivial⟩ ⟨_, L0, S4, rfl⟩
 replace hm := ifF hc2 hm
 refine wpc_skip <| nrm <| ws <| s_mvv (v := vU a0) rfl <| s_fld (n := 0) rfl underlying38 rfl rfl sizeOf22 <| s_ld (i := 0) (cs := [vU a2.E]) S2 rfl rfl isAgg22 sizeOf22 rfl (fun _ => rfl) ?_
 obtain ⟨x2, q2, hm⟩ := obind_some hm
 refine s_call call83 (w_cyclic_Pow (a0 := a0) (a1 := a2.E) S2  q2) rfl ?_
 rintro _ w3 ⟨m4, l4, S5, rfl⟩
 clear S2
 obtain ⟨x3, q3, hm⟩ := obind_some hm
 refine s_call call91 (w_cyclic_Inv (a0 := x2) S5  q3) rfl ?_
 rintro _ w4 ⟨m5, l5, S6, rfl⟩
 clear S5
 refine s_mvv (v := .tuple #[vU x3.1, vI x3.2]) rfl <| s_ext (i := 0) rfl rfl <| s_ext (i := 1) rfl rfl <| s_asv (v := vU x3.1) rfl <| s_asv (v := vI x3.2) rfl <| wpl_nil <| nrm <| wpc_seq <| wpc_seq ?_
 obtain ⟨x4, q4, hm⟩ := obind_some hm
 obtain ⟨x5, q5, hm⟩ := obind_some hm
 obtain ⟨x6, q6, hm⟩ := obind_some hm
 have HM : MonoAll [(26, fv (vI x3.2)), (27, fv (vb (x3.2 != 0))), (28, fv (vb (x3.2 != 0))), (29, fc (!(x3.2 != 0)) (fv (pt b1 1))), (30, fc (!(x3.2 != 0)) (fv (vU a2.S))), (31, fc (!(x3.2 != 0)) (fv (vU x4))), (32, fc (!(x3.2 != 0)) (fv (vU x3.1))), (33, fc (!(x3.2 != 0)) (fv (vU x5))), (34, fc (!(x3.2 != 0)) (fv (vU a0))), (35, fc (!(x3.2 != 0)) (fv a1v0)), (36, fc (!(x3.2 != 0)) (fv (vU x6))), (37, fc (!(x3.2 != 0)) (fv (pt b1 0))), (38, fc (!(x3.2 != 0)) (fv (vU a2.E))), (39, fc (!(x3.2 != 0)) (fv (vb ((x6.toNat : Int) != (a2.E.toNat : Int))))), (40, fv (vb ((x3.2 != 0) || ((x6.toNat : Int) != (a2.E.toNat : Int)))))] := ⟨mv, mv, mv, (mc mv), (mc mv), (mc mv), (mc mv), (mc mv), (mc mv), (mc mv), (mc mv), (mc mv), (mc mv), (mc mv), mv, trivial⟩
 refine wpc_flowG HM 15 mixed rfl rfl rfl (rg 26 15) (fun L f M w => St M ((bx b1 (c_api_Sig a2) 38) :: As) w) (St.drew S6 _) ?_ ?_
 · refine ⟨?_, ?_, ?_, ?_, ?_, ?_, ?_, ?_, ?_, ?_, ?_, ?_, ?_, ?_, ?_, trivial⟩
   · exact flp HM rfl [] (fun _ _ => trivial) (fun _ _ q => s_mvv (v := vI x3.2) rfl q) rfl
   · exact flp HM rfl [(26, _)] (fun K _ => ⟨K 0 rfl, trivial⟩) (fun _ _ q => s_neq (m := x3.2) (n := 0) rfl rfl q) rfl
   · exact flp HM rfl [(27, _)] (fun K _ => ⟨K 1 rfl, trivial⟩) (fun _ _ q => s_mvv (v := vb (x3.2 != 0)) rfl q) rfl
   · exact flgn HM rfl rfl (fun K _ => K 2 rfl) [] (fun _ _ _ => trivial) (fun _ => fun _ _ q => s_fld (n := 0) rfl underlying38 rfl rfl sizeOf22 q) (fun _ => rfl)
   · exact flgn HM rfl rfl (fun K _ => K 2 rfl) [(29, _)] (fun K _ hb => ⟨(K 3 rfl).1 (not_t hb), trivial⟩) (fun _ => fun _ S11 q => s_ld (i := 0) (cs := [vU a2.S]) S11 rfl rfl isAgg22 sizeOf22 rfl (fun _ => rfl) q) (fun _ => rfl)
   · refine flbn HM rfl rfl (fun K _ => K 2 rfl) fun hb3 => ?_
     intro L f6 w10 hL hd hc ⟨m11, L11, S12, K, hO⟩
     obtain ⟨u6, rfl⟩ := fr_of (N := 41) (L := [(30, _)]) hO ⟨(K 4 (dep hd rfl)).1 (not_t hb3), trivial⟩
     replace S12 : St _ ((bx b1 (c_api_Sig a2) 38) :: As) _ := S12
     have L12 := Mem.rfl' m11
     replace q4 := gu_t (not_t hb3) q4
     refine s_call call55 (w_cyclic_Base (a0 := a2.S) S12  q4) rfl ?_
     rintro _ w11 ⟨m12, l6, S13, rfl⟩
     clear S12
     refine wpn ?_
     replace L12 := Mem.tr L12 l6
     exact ⟨m12, Mem.tr L11 L12, S13, facts_step HM rfl K L12 rfl rfl ⟨fun _ => rfl, fun hx => tf (not_t hb3) hx⟩, outP⟩
   · exact flgn HM rfl rfl (fun K _ => K 2 rfl) [] (fun _ _ _ => trivial) (fun _ => fun _ _ q => s_mvv (v := vU x3.1) rfl q) (fun _ => rfl)
   · refine flbn HM rfl rfl (fun K _ => K 2 rfl) fun hb5 => ?_
     intro L f8 w13 hL hd hc ⟨m14, L15, S15, K, hO⟩
     obtain ⟨u8, rfl⟩ := fr_of (N := 41) (L := [(31, _), (32, _)]) hO ⟨(K 5 (dep hd rfl)).1 (not_t hb5), (K 6 (dep hd rfl)).1 (not_t hb5), trivial⟩
     replace S15 : St _ ((bx b1 (c_api_Sig a2) 38) :: As) _ := S15
     have L16 := Mem.rfl' m14
     replace q5 := gu_t (not_t hb5) q5
     refine s_call call92 (w_cyclic_Mul (a0 := x4) (a1 := x3.1) S15  q5) rfl ?_
     rintro _ w14 ⟨m15, l7, S16, rfl⟩
     clear S15
     refine wpn ?_
     replace L16 := Mem.tr L16 l7
     exact ⟨m15, Mem.tr L15 L16, S16, facts_step HM rfl K L16 rfl rfl ⟨fun _ => rfl, fun hx => tf (not_t hb5) hx⟩, outP⟩
   · exact flgn HM rfl rfl (fun K _ => K 2 rfl) [] (fun _ _ _ => trivial) (fun _ => fun _ _ q => s_mvv (v := vU a0) rfl q) (fun _ => rfl)
   · exact flgn HM rfl rfl (fun K _ => K 2 rfl) [] (fun _ _ _ => trivial) (fun _ => fun _ _ q => s_mvv (v := a1v0) rfl q) (fun _ => rfl)
   · refine flbn HM rfl rfl (fun K _ => K 2 rfl) fun hb8 => ?_
     intro L f11 w17 hL hd hc ⟨m18, L21, S19, K, hO⟩
     obtain ⟨u11, rfl⟩ := fr_of (N := 41) (L := [(33, _), (34, _), (35, _)]) hO ⟨(K 7 (dep hd rfl)).1 (not_t hb8), (K 8 (dep hd rfl)).1 (not_t hb8), (K 9 (dep hd rfl)).1 (not_t hb8), trivial⟩
     replace S19 : St _ ((bx b1 (c_api_Sig a2) 38) :: As) _ := S19
     have L22 := Mem.rfl' m18
     replace q6 := gu_t (not_t hb8) q6
     replace a1h0 := a1h0.up (mt l1 (mt l4 (mt l5 L21)))
     refine s_call call61 (w_sign_Challenge (a0 := x5) (a1 := a0) (a2 := a1) S19 a1h0 q6) rfl ?_
     rintro _ w18 ⟨m19, l8, S20, rfl⟩
     clear S19
     refine wpn ?_
     replace L22 := Mem.tr L22 l8
     exact ⟨m19, Mem.tr L21 L22, S20, facts_step HM rfl K L22 rfl rfl ⟨fun _ => rfl, fun hx => tf (not_t hb8) hx⟩, outP⟩
   · exact flgn HM rfl rfl (fun K _ => K 2 rfl) [] (fun _ _ _ => trivial) (fun _ => fun _ _ q => s_fld (n := 0) rfl underlying38 rfl rfl sizeOf22 q) (fun _ => rfl)
   · exact flgn HM rfl rfl (fun K _ => K 2 rfl) [(37, _)] (fun K _ hb => ⟨(K 11 rfl).1 (not_t hb), trivial⟩) (fun _ => fun _ S22 q => s_ld (i := 0) (cs := [vU a2.E]) S22 rfl rfl isAgg22 sizeOf22 rfl (fun _ => rfl) q) (fun _ => rfl)
   · exact flgn HM rfl rfl (fun K _ => K 2 rfl) [(36, _), (38, _)] (fun K _ hb => ⟨(K 10 rfl).1 (not_t hb), (K 12 rfl).1 (not_t hb), trivial⟩) (fun _ => fun _ _ q => s_neq (m := (x6.toNat : Int)) (n := (a2.E.toNat : Int)) rfl rfl q) (fun _ => rfl)
   · exact flc HM rfl (x3.2 != 0) [(28, _)] [(28, _), (39, _)] (fun K _ _ => ⟨K 2 rfl, trivial⟩) (fun K _ hb => ⟨K 2 rfl, (K 13 rfl).1 (not_t hb), trivial⟩) (fun hb => fun _ _ q => s_pickT (cb hb) rfl q) (fun hb => fun _ _ q => s_pickF (cb hb) rfl q) (fun hb => cb (or_t hb)) (fun hb => cb (or_f hb))
 intro L f16 w23 hall ⟨m24, L32, S25, K, hO⟩
 have d14 : L 14 = true := hall 14 (by decide)
 obtain ⟨u17, rfl⟩ := fr_of (N := 41) (L := [(40, _)]) hO ⟨K 14 d14, trivial⟩
 replace S25 : St _ ((bx b1 (c_api_Sig a2) 38) :: As) _ := S25
 clear S6
 refine wpl_nil <| nrm <| wpc_if (t := ((x3.2 != 0) || ((x6.toNat : Int) != (a2.E.toNat : Int)))) rfl (fun hc3 => ?_) (fun hc3 => ?_)
 · replace hm := ifT hc3 hm
   refine ws <| s_asv (v := vI 40) rfl <| wpl_nil <| nrm <| wpc_ret <| thR <| outRw fun we hpd => ?_
   replace S25 := St.pd S25 hpd
   obtain ⟨m25, l9, S26⟩ := St.drop S25 0
   clear S25
   replace S26 : St _ (As) _ := S26
   have e0 := Option.some.inj hm
   subst e0
   replace L0 := Mem.tr L0 (mt l1 (mt l4 (mt l5 (mt L32 l9))))
   exact outR [_] rfl ⟨rfl, trivial⟩ ⟨_, L0, S26, rfl⟩
 replace hm := ifF hc3 hm
 refine wpc_skip <| nrm <| ws <| s_asv (v := vI 0) rfl <| wpl_nil <| nrm <| wpc_ret <| outRw fun we hpd => ?_
 replace S25 := St.pd S25 hpd
 obtain ⟨m26, l10, S27⟩ := St.drop S25 0
 clear S25
 replace S27 : St _ (As) _ := S27
 have e0 := Option.some.inj hm
 subst e0
 replace L0 := Mem.tr L0 (mt l1 (mt l4 (mt l5 (mt L32 l10))))
 exact outR [_] rfl ⟨rfl, trivial⟩ ⟨_, L0, S27, rfl⟩

def m_logd_signed (a0 : g_api_Key) (a1 : Int) (a2 : Bool) (a3 : List UInt8) (a4 : g_api_Sig) : Option Int :=
  obind (m_logd_number a1) fun x1 =>
  if ((!x1) || (!a2)) = true then
    some 1
  else
  if (a1 != a0.Log) = true then
    some 240
  else
  obind (m_sign_Check a0.Key a3 a4) fun x2 =>
  some x2

theorem w_logd_signed {m : Mem} {As : List Ow} {w : World} {a0 : g_api_Key} {a1 : Int} {a2 : Bool} {a3 : List UInt8} {a3v0 : Value} {a4 : g_api_Sig} {r : Int} (S : St m (As) w) (a3h0 : SlR m a3v0 a3) (hm : m_logd_signed a0 a1 a2 a3 a4 = some r) :
    CallsR Tryz.prog 33 #[.agg (c_api_Key a0).toArray, vI a1, vb a2, a3v0, .agg (c_api_Sig a4).toArray] w fun v w' => ∃ (M : Mem), m ≤ M ∧ St M (As) w' ∧ v = vI r := by
 unfold m_logd_signed at hm
 have L0 := Mem.rfl' m
 refine callsR (args := [.agg (c_api_Key a0).toArray, vI a1, vb a2, a3v0, .agg (c_api_Sig a4).toArray]) func33 rfl ntmps33 (nb rfl) <| ws <| s_box S rfl fun b1 w1 S1 => ?_
 replace S1 : St _ ((bx b1 (c_api_Key a0) 32) :: As) _ := S1
 clear S
 refine s_box S1 rfl fun b2 w2 S2 => ?_
 replace S2 : St _ ((bx b2 (c_api_Sig a4) 38) :: (bx b1 (c_api_Key a0) 32) :: As) _ := S2
 clear S1
 refine s_asv (v := vI 0) rfl <| wpl_nil <| nrm <| wpc_seq <| wpc_block <| ws <| s_mvv (v := vI a1) rfl ?_
 obtain ⟨x1, q1, hm⟩ := obind_some hm
 refine s_call call22 (w_logd_number (a0 := a1) S2  q1) rfl ?_
 rintro _ w3 ⟨m1, l1, S3, rfl⟩
 clear S2
 refine s_not rfl <| s_mvv (v := vb (!x1)) rfl <| wpl_cut 3 [16, 17, 18] (fun f' w' => w' = w3 ∧ AllAt f' [(18, vb ((!x1) || (!a2)))]) ?_ ?_
 · rcases bool_tf (!x1) with hb1 | hb1
   · exact wpl_no (d := 15) rfl rfl (cb hb1) <| wpl_no (d := 15) rfl rfl (cb hb1) <| s_pickT (cb hb1) rfl <| wpl_nil (nrm ⟨outP, rfl, congrArg Value.bool (or_t hb1), trivial⟩)
   · exact wpl_yes (d := 15) rfl rfl (cb hb1) <| s_mvv (v := vb a2) rfl <| wpl_yes (d := 15) rfl rfl (cb hb1) <| s_not rfl <| s_pickF (cb hb1) rfl <| wpl_nil (nrm ⟨outP, rfl, congrArg Value.bool (or_f hb1), trivial⟩)
 rintro f1 w4 ho ⟨h1, ha⟩
 subst h1
 obtain ⟨u1, rfl⟩ := fr_of (N := 29) ho ha
 refine s_asv (v := vb ((!x1) || (!a2))) rfl <| wpl_nil <| nrm <| wpc_if (t := ((!x1) || (!a2))) rfl (fun hc1 => ?_) (fun hc1 => ?_)
 · replace hm := ifT hc1 hm
   refine ws <| s_asv (v := vI 1) rfl <| wpl_nil <| nrm <| wpc_ret <| blR <| thR <| outRw fun we hpd => ?_
   replace S3 := St.pd S3 hpd
   obtain ⟨m2, l2, S4⟩ := St.drop S3 0
   clear S3
   replace S4 : St _ ((bx b1 (c_api_Key a0) 32) :: As) _ := S4
   obtain ⟨m3, l3, S5⟩ := St.drop S4 0
   clear S4
   replace S5 : St _ (As) _ := S5
   have e0 := Option.some.inj hm
   subst e0
   replace L0 := Mem.tr L0 (mt l1 (mt l2 l3))
   exact outR [_] rfl ⟨rfl, trivial⟩ ⟨_, L0, S5, rfl⟩
 replace hm := ifF hc1 hm
 refine ws <| s_mvv (v := vI a1) rfl <| s_fld (n := 0) rfl underlying32 rfl rfl sizeOf3 <| s_ld (i := 1) (cs := [vI a0.Log]) S3 rfl rfl isAgg3 sizeOf3 rfl (fun _ => rfl) <| s_neq (m := a1) (n := a0.Log) rfl rfl <| s_asv (v := vb (a1 != a0.Log)) rfl <| wpl_nil <| nrm <| wpc_if (t := (a1 != a0.Log)) rfl (fun hc2 => ?_) (fun hc2 => ?_)
 · replace hm := ifT hc2 hm
   refine ws <| s_asv (v := vI 240) rfl <| wpl_nil <| nrm <| wpc_ret <| blR <| thR <| outRw fun we hpd => ?_
   replace S3 := St.pd S3 hpd
   obtain ⟨m4, l4, S6⟩ := St.drop S3 0
   clear S3
   replace S6 : St _ ((bx b1 (c_api_Key a0) 32) :: As) _ := S6
   obtain ⟨m5, l5, S7⟩ := St.drop S6 0
   clear S6
   replace S7 : St _ (As) _ := S7
   have e0 := Option.some.inj hm
   subst e0
   replace L0 := Mem.tr L0 (mt l1 (mt l4 l5))
   exact outR [_] rfl ⟨rfl, trivial⟩ ⟨_, L0, S7, rfl⟩
 replace hm := ifF hc2 hm
 refine wpc_skip <| nrmB <| nrm <| ws <| s_fld (n := 0) rfl underlying32 rfl rfl sizeOf22 <| s_ld (i := 1) (cs := [vU a0.Key]) S3 rfl rfl isAgg22 sizeOf22 rfl (fun _ => rfl) <| s_mvv (v := a3v0) rfl <| s_ld (i := 0) (cs := (c_api_Sig a4)) S3 rfl rfl isAgg38 sizeOf38 rfl (fun h => by cases h) ?_
 obtain ⟨x2, q2, hm⟩ := obind_some hm
 refine s_call call71 (w_sign_Check (a0 := a0.Key) (a1 := a3) (a2 := a4) S3 (a3h0.up l1) q2) rfl ?_
 rintro _ w5 ⟨m6, l6, S8, rfl⟩
 clear S3
 refine s_asv (v := vI x2) rfl <| wpl_nil <| nrm <| wpc_ret <| outRw fun we hpd => ?_
 replace S8 := St.pd S8 hpd
 obtain ⟨m7, l7, S9⟩ := St.drop S8 0
 clear S8
 replace S9 : St _ ((bx b1 (c_api_Key a0) 32) :: As) _ := S9
 obtain ⟨m8, l8, S10⟩ := St.drop S9 0
 clear S9
 replace S10 : St _ (As) _ := S10
 have e0 := Option.some.inj hm
 subst e0
 replace L0 := Mem.tr L0 (mt l1 (mt l6 (mt l7 l8)))
 exact outR [_] rfl ⟨rfl, trivial⟩ ⟨_, L0, S10, rfl⟩

def m_logd_CheckHead (a0 : g_api_Key) (a1 : g_api_Head) : Option Int :=
  obind (m_logd_number a1.At) fun x1 =>
  obind (m_logd_ofHead a1) fun x2 =>
  obind (m_logd_signed a0 a1.Log ((x1 && (decide (a1.Size ≥ 0))) && (decide (a1.Size ≤ 256))) x2 a1.Sig) fun x3 =>
  some x3

theorem w_logd_CheckHead {m : Mem} {As : List Ow} {w : World} {a0 : g_api_Key} {a1 : g_api_Head} {r : Int} (S : St m (As) w) (hm : m_logd_CheckHead a0 a1 = some r) :
    CallsR Tryz.prog 12 #[.agg (c_api_Key a0).toArray, .agg (c_api_Head a1).toArray] w fun v w' => ∃ (M : Mem), m ≤ M ∧ St M (As) w' ∧ v = vI r := by
 unfold m_logd_CheckHead at hm
 have L0 := Mem.rfl' m
 refine callsR (args := [.agg (c_api_Key a0).toArray, .agg (c_api_Head a1).toArray]) func12 rfl ntmps12 (nb rfl) <| ws <| s_box S rfl fun b1 w1 S1 => ?_
 replace S1 : St _ ((bx b1 (c_api_Key a0) 32) :: As) _ := S1
 clear S
 refine s_box S1 rfl fun b2 w2 S2 => ?_
 replace S2 : St _ ((bx b2 (c_api_Head a1) 40) :: (bx b1 (c_api_Key a0) 32) :: As) _ := S2
 clear S1
 refine s_asv (v := vI 0) rfl <| wpl_nil <| nrm <| wpc_seq ?_
 obtain ⟨x1, q1, hm⟩ := obind_some hm
 obtain ⟨x2, q2, hm⟩ := obind_some hm
 have HM : MonoAll [(5, fv (.agg (c_api_Key a0).toArray)), (6, fv (pt b2 0)), (7, fv (vI a1.Log)), (8, fv (pt b2 4)), (9, fv (vI a1.At)), (10, fv (vb x1)), (11, fv (vb x1)), (12, fc x1 (fv (pt b2 1))), (13, fc x1 (fv (vI a1.Size))), (14, fc x1 (fv (vb (decide (a1.Size ≥ 0))))), (15, fv (vb (x1 && (decide (a1.Size ≥ 0))))), (16, fv (vb (x1 && (decide (a1.Size ≥ 0))))), (17, fc (x1 && (decide (a1.Size ≥ 0))) (fv (pt b2 1))), (18, fc (x1 && (decide (a1.Size ≥ 0))) (fv (vI a1.Size))), (19, fc (x1 && (decide (a1.Size ≥ 0))) (fv (vb (decide (a1.Size ≤ 256))))), (20, fv (vb ((x1 && (decide (a1.Size ≥ 0))) && (decide (a1.Size ≤ 256))))), (21, fv (.agg (c_api_Head a1).toArray)), (22, fun _ _ => True), (23, fv (pt b2 5)), (24, fv (.agg (c_api_Sig a1.Sig).toArray))] := ⟨mv, mv, mv, mv, mv, mv, mv, (mc mv), (mc mv), (mc mv), mv, mv, (mc mv), (mc mv), (mc mv), mv, mv, (fun _ _ _ _ h => h), mv, mv, trivial⟩
 refine wpc_flowG HM 20 mixed rfl rfl rfl (rg 5 20) (fun L f M w => ∃ (X1 : List Ow), ((L 17 = false → X1 = []) ∧ (L 17 = true → (RowS M X1 1 (f 22) x2))) ∧ St M ((bx b2 (c_api_Head a1) 40) :: (bx b1 (c_api_Key a0) 32) :: (X1 ++ As)) w) (⟨[], ⟨fun _ => rfl, fun hx => ff hx⟩, St.drew S2 _⟩) ?_ ?_
 · refine ⟨?_, ?_, ?_, ?_, ?_, ?_, ?_, ?_, ?_, ?_, ?_, ?_, ?_, ?_, ?_, ?_, ?_, ?_, ?_, ?_, trivial⟩
   · exact flp HM rfl [] (fun _ _ => trivial) (fun _ ⟨_, _, S3⟩ q => s_ld (i := 1) (cs := (c_api_Key a0)) S3 rfl rfl isAgg32 sizeOf32 rfl (fun h => by cases h) q) rfl
   · exact flp HM rfl [] (fun _ _ => trivial) (fun _ _ q => s_fld (n := 0) rfl underlying40 rfl rfl sizeOf3 q) rfl
   · exact flp HM rfl [(6, _)] (fun K _ => ⟨K 1 rfl, trivial⟩) (fun _ ⟨_, _, S5⟩ q => s_ld (i := 0) (cs := [vI a1.Log]) S5 rfl rfl isAgg3 sizeOf3 rfl (fun _ => rfl) q) rfl
   · exact flp HM rfl [] (fun _ _ => trivial) (fun _ _ q => s_fld (n := 0) rfl underlying40 rfl rfl sizeOf3 q) rfl
   · exact flp HM rfl [(8, _)] (fun K _ => ⟨K 3 rfl, trivial⟩) (fun _ ⟨_, _, S7⟩ q => s_ld (i := 0) (cs := [vI a1.At]) S7 rfl rfl isAgg3 sizeOf3 rfl (fun _ => rfl) q) rfl
   · intro L f6 w8 hL hd hc ⟨m6, L11, ⟨X1, C6, S8⟩, K, hO⟩
     obtain ⟨u6, rfl⟩ := fr_of (N := 26) (L := [(9, _)]) hO ⟨K 4 (dep hd rfl), trivial⟩
     have L12 := Mem.rfl' m6
     refine s_call call22 (w_logd_number (a0 := a1.At) S8  q1) rfl ?_
     rintro _ w9 ⟨m7, l1, S9, rfl⟩
     replace C6 := C6.imp id (fun p a => RowS.up l1 (p a))
     clear S8
     refine wpn ?_
     replace L12 := Mem.tr L12 l1
     exact ⟨m7, Mem.tr L11 L12, ⟨X1, C6, S9⟩, facts_step HM rfl K L12 rfl rfl rfl, outP⟩
   · exact flp HM rfl [(10, _)] (fun K _ => ⟨K 5 rfl, trivial⟩) (fun _ _ q => s_mvv (v := vb x1) rfl q) rfl
   · exact flg HM rfl rfl (fun K _ => K 6 rfl) [] (fun _ _ _ => trivial) (fun _ => fun _ _ q => s_fld (n := 0) rfl underlying40 rfl rfl sizeOf3 q) (fun _ => rfl)
   · exact flg HM rfl rfl (fun K _ => K 6 rfl) [(12, _)] (fun K _ hb => ⟨(K 7 rfl).1 hb, trivial⟩) (fun _ => fun _ ⟨_, _, S12⟩ q => s_ld (i := 0) (cs := [vI a1.Size]) S12 rfl rfl isAgg3 sizeOf3 rfl (fun _ => rfl) q) (fun _ => rfl)
   · exact flg HM rfl rfl (fun K _ => K 6 rfl) [(13, _)] (fun K _ hb => ⟨(K 8 rfl).1 hb, trivial⟩) (fun _ => fun _ _ q => s_geq (m := a1.Size) (n := 0) rfl rfl q) (fun _ => rfl)
   · exact flc HM rfl x1 [(11, _), (14, _)] [(11, _)] (fun K _ hb => ⟨K 6 rfl, (K 9 rfl).1 hb, trivial⟩) (fun K _ _ => ⟨K 6 rfl, trivial⟩) (fun hb => fun _ _ q => s_pickT (cb hb) rfl q) (fun hb => fun _ _ q => s_pickF (cb hb) rfl q) (fun hb => cb (and_t hb)) (fun hb => cb (and_f hb))
   · exact flp HM rfl [(15, _)] (fun K _ => ⟨K 10 rfl, trivial⟩) (fun _ _ q => s_mvv (v := vb (x1 && (decide (a1.Size ≥ 0)))) rfl q) rfl
   · exact flg HM rfl rfl (fun K _ => K 11 rfl) [] (fun _ _ _ => trivial) (fun _ => fun _ _ q => s_fld (n := 0) rfl underlying40 rfl rfl sizeOf3 q) (fun _ => rfl)
   · exact flg HM rfl rfl (fun K _ => K 11 rfl) [(17, _)] (fun K _ hb => ⟨(K 12 rfl).1 hb, trivial⟩) (fun _ => fun _ ⟨_, _, S17⟩ q => s_ld (i := 0) (cs := [vI a1.Size]) S17 rfl rfl isAgg3 sizeOf3 rfl (fun _ => rfl) q) (fun _ => rfl)
   · exact flg HM rfl rfl (fun K _ => K 11 rfl) [(18, _)] (fun K _ hb => ⟨(K 13 rfl).1 hb, trivial⟩) (fun _ => fun _ _ q => s_leq (m := a1.Size) (n := 256) rfl rfl q) (fun _ => rfl)
   · exact flc HM rfl (x1 && (decide (a1.Size ≥ 0))) [(16, _), (19, _)] [(16, _)] (fun K _ hb => ⟨K 11 rfl, (K 14 rfl).1 hb, trivial⟩) (fun K _ _ => ⟨K 11 rfl, trivial⟩) (fun hb => fun _ _ q => s_pickT (cb hb) rfl q) (fun hb => fun _ _ q => s_pickF (cb hb) rfl q) (fun hb => cb (and_t hb)) (fun hb => cb (and_f hb))
   · exact flp HM rfl [] (fun _ _ => trivial) (fun _ ⟨_, _, S20⟩ q => s_ld (i := 0) (cs := (c_api_Head a1)) S20 rfl rfl isAgg40 sizeOf40 rfl (fun h => by cases h) q) rfl
   · intro L f18 w21 hL hd hc ⟨m19, L37, ⟨X1, C18, S21⟩, K, hO⟩
     have d17 : L 17 = false := hL
     obtain ⟨u20, rfl⟩ := fr_of (N := 26) (L := [(21, _)]) hO ⟨K 16 (dep hd rfl), trivial⟩
     obtain rfl := C18.1 d17
     replace S21 : St _ ((bx b2 (c_api_Head a1) 40) :: (bx b1 (c_api_Key a0) 32) :: As) _ := S21
     have L38 := Mem.rfl' m19
     refine s_call call29 (w_logd_ofHead (a0 := a1) S21  q2) rfl ?_
     rintro v1 w22 ⟨m20, l2, _, c1, S22, rfl, h1⟩
     clear S21
     refine wpn ?_
     replace L38 := Mem.tr L38 l2
     refine ⟨m20, Mem.tr L37 L38, ⟨[row 1 v1 c1 x2.length], ⟨fun hx => tf rfl hx, fun _ => ⟨_, rfl, h1⟩⟩, ?_⟩, facts_step HM rfl K L38 rfl rfl trivial, outP⟩
     have S30 : St _ ((bx b2 (c_api_Head a1) 40) :: (bx b1 (c_api_Key a0) 32) :: (row 1 v1 c1 x2.length) :: As) _ := St.perm S22 (List.Perm.trans (List.Perm.swap _ _ _) (List.Perm.cons _ (List.Perm.swap _ _ _)))
     exact S30
   · exact flp HM rfl [] (fun _ _ => trivial) (fun _ _ q => s_fld (n := 1) rfl underlying40 rfl rfl sizeOf38 q) rfl
   · exact flp HM rfl [(23, _)] (fun K _ => ⟨K 18 rfl, trivial⟩) (fun _ ⟨_, _, S24⟩ q => s_ld (i := 0) (cs := (c_api_Sig a1.Sig)) S24 rfl rfl isAgg38 sizeOf38 rfl (fun h => by cases h) q) rfl
 intro L f21 w25 hall ⟨m23, L43, ⟨X1, C21, S25⟩, K, hO⟩
 have d0 : L 0 = true := hall 0 (by decide)
 have d2 : L 2 = true := hall 2 (by decide)
 have d15 : L 15 = true := hall 15 (by decide)
 obtain ⟨v2, e21⟩ : ∃ x, f21 22 = x := ⟨_, rfl⟩
 have d19 : L 19 = true := hall 19 (by decide)
 have d17 : L 17 = true := hall 17 (by decide)
 obtain ⟨u23, rfl⟩ := fr_of (N := 26) (L := [(5, _), (7, _), (20, _), (22, _), (24, _)]) hO ⟨K 0 d0, K 2 d2, K 15 d15, e21, K 19 d19, trivial⟩
 replace S25 : St _ ((bx b2 (c_api_Head a1) 40) :: (bx b1 (c_api_Key a0) 32) :: (X1 ++ As)) _ := S25
 obtain ⟨c2, rfl, h2⟩ := C21.2 d17
 replace h2 : RepL _ c2 x2 := h2
 replace S25 : St _ ((bx b2 (c_api_Head a1) 40) :: (bx b1 (c_api_Key a0) 32) :: (row 1 v2 c2 x2.length) :: As) _ := S25
 clear S2
 obtain ⟨m24, l3, h3, S26⟩ := St.rowKeepT (i := 2) S25 rfl h2 rfl
 clear S25
 obtain ⟨x3, q3, hm⟩ := obind_some hm
 refine s_call call33 (w_logd_signed (a0 := a0) (a1 := a1.Log) (a2 := ((x1 && (decide (a1.Size ≥ 0))) && (decide (a1.Size ≤ 256)))) (a3 := x2) (a4 := a1.Sig) S26 h3 q3) rfl ?_
 rintro _ w26 ⟨m25, l4, S27, rfl⟩
 clear S26
 refine s_asv (v := vI x3) rfl <| wpl_nil <| nrm <| wpc_ret <| outRw fun we hpd => ?_
 replace S27 := St.pd S27 hpd
 obtain ⟨m26, l5, S28⟩ := St.drop S27 0
 clear S27
 replace S28 : St _ ((bx b1 (c_api_Key a0) 32) :: As) _ := S28
 obtain ⟨m27, l6, S29⟩ := St.drop S28 0
 clear S28
 replace S29 : St _ (As) _ := S29
 have e0 := Option.some.inj hm
 subst e0
 replace L0 := Mem.tr L0 (mt L43 (mt l3 (mt l4 (mt l5 l6))))
 exact outR [_] rfl ⟨rfl, trivial⟩ ⟨_, L0, S29, rfl⟩

def m_sign_Secret (a0 : List UInt8) : Option UInt64 :=
  obind (m_sign_some (⟨#[115, 101, 99, 114, 101, 116]⟩ : ByteArray) ([a0] : List (List UInt8))) fun x1 =>
  some x1

theorem w_sign_Secret {m : Mem} {As : List Ow} {w : World} {a0 : List UInt8} {a0v0 : Value} {r : UInt64} (S : St m (As) w) (a0h0 : SlR m a0v0 a0) (hm : m_sign_Secret a0 = some r) :
    CallsR Tryz.prog 42 #[a0v0] w fun v w' => ∃ (M : Mem), m ≤ M ∧ St M (As) w' ∧ v = vU r := by
 unfold m_sign_Secret at hm
 have L0 := Mem.rfl' m
 refine callsR (args := [a0v0]) func42 rfl ntmps42 (nb rfl) <| ws <| s_asv (v := vU 0) rfl <| nx <| s_mvv (v := a0v0) rfl <| s_litC (parts := [.tmp 3]) (vs := [a0v0]) (cls := [[a0v0]]) (xs := ([a0] : List (List UInt8))) (n := 1) S underlying119 sizeOf57 zeroValue57 rfl ⟨SlR.cells a0h0, trivial⟩ (RepL.cons (c := [a0v0]) (x := a0) ⟨_, rfl, a0h0⟩ RepL.nil) rfl rfl rfl (by decide) (by decide) fun v1 m1 w1 l1 S1 h1 => ?_
 clear S
 obtain ⟨x1, q1, hm⟩ := obind_some hm
 refine s_call call59 (w_sign_some (a0 := (⟨#[115, 101, 99, 114, 101, 116]⟩ : ByteArray)) (a1 := ([a0] : List (List UInt8))) S1 h1 q1) rfl ?_
 rintro _ w2 ⟨m2, l2, S2, rfl⟩
 clear S1
 refine s_asv (v := vU x1) rfl <| wpl_nil <| nrm <| wpc_ret <| outRw fun we hpd => ?_
 replace S2 := St.pd S2 hpd
 have e0 := Option.some.inj hm
 subst e0
 replace L0 := Mem.tr L0 (mt l1 l2)
 exact outR [_] rfl ⟨rfl, trivial⟩ ⟨_, L0, S2, rfl⟩

def m_logd_New (a0 : Int) (a1 : List UInt8) (a2 : Int) : Option (g_api_Log × Int) :=
  obind (m_sign_Secret a1) fun x1 =>
  obind (m_logd_Check (⟨a0, x1, a2, [], [], []⟩ : g_api_Log)) fun x2 =>
  if (x2 != 0) = true then
    some ((⟨0, 0, 0, [], [], []⟩ : g_api_Log), 1)
  else
  some ((⟨a0, x1, a2, [], [], []⟩ : g_api_Log), 0)

theorem w_logd_New {m : Mem} {As : List Ow} {w : World} {a0 : Int} {a1 : List UInt8} {a1v0 : Value} {a2 : Int} {r : g_api_Log × Int} (S : St m (As) w) (a1h0 : SlR m a1v0 a1) (hm : m_logd_New a0 a1 a2 = some r) :
    CallsR Tryz.prog 15 #[vI a0, a1v0, vI a2] w fun v w' => ∃ (M : Mem), m ≤ M ∧ ∃ (rv0_3 : Value) (rv0_4 : Value) (rv0_5 : Value), St M (As) w' ∧ v = .tuple #[.agg (c_api_Log r.1 rv0_3 rv0_4 rv0_5).toArray, vI r.2] ∧ SlR M rv0_3 r.1.L ∧ SlR M rv0_4 r.1.Hide ∧ SlR M rv0_5 r.1.Wait := by
 unfold m_logd_New at hm
 have L0 := Mem.rfl' m
 refine callsR (args := [vI a0, a1v0, vI a2]) func15 rfl ntmps15 (nb rfl) <| ws <| s_alloc S zeroValue26 fun b1 w1 S1 => ?_
 replace S1 : St _ ((bx b1 z_api_Log 26) :: As) _ := S1
 clear S
 refine s_asv (v := vI 0) rfl <| nx <| s_mvv (v := vI a0) rfl <| s_mvv (v := a1v0) rfl ?_
 obtain ⟨x1, q1, hm⟩ := obind_some hm
 refine s_call call42 (w_sign_Secret (a0 := a1) S1 a1h0 q1) rfl ?_
 rintro _ w2 ⟨m1, l1, S2, rfl⟩
 clear S1
 refine s_mvv (v := vI a2) rfl <| s_build (parts := [(0, .tmp 9), (1, .tmp 11), (2, .tmp 12)]) (ps := [(0, vI a0, [vI a0]), (1, vU x1, [vU x1]), (2, vI a2, [vI a2])]) (cs := [vI a0, vU x1, vI a2, .slice none 0 0, .slice none 0 0, .slice none 0 0]) zeroValue26 (BuildPl.str (ss := [1, 1, 1, 1, 1, 1]) underlying26 ⟨sizeOf3, sizeOf22, sizeOf3, sizeOf23, sizeOf24, sizeOf23, trivial⟩) rfl ⟨rfl, rfl, rfl, trivial⟩ rfl <| s_alloc S2 zeroValue26 fun b2 w3 S3 => s_stL (i := 0) S3 rfl rfl rfl sizeOf26 (oneC rfl (oneC rfl (oneC rfl (oneC rfl (oneC rfl (oneC rfl oneN)))))) rfl fun w4 S4 => ?_
 replace S4 : St _ ((bx b2 [vI a0, vU x1, vI a2, .slice none 0 0, .slice none 0 0, .slice none 0 0] 26) :: (bx b1 z_api_Log 26) :: As) _ := S4
 clear S2 S3
 refine wpl_nil <| nrm <| wpc_seq <| ws <| s_ld (i := 0) (cs := [vI a0, vU x1, vI a2, .slice none 0 0, .slice none 0 0, .slice none 0 0]) S4 rfl rfl isAgg26 sizeOf26 rfl (fun h => by cases h) ?_
 obtain ⟨x2, q2, hm⟩ := obind_some hm
 refine s_call call6 (w_logd_Check (a0 := (⟨a0, x1, a2, [], [], []⟩ : g_api_Log)) S4 (SlR.nil (a := none) (c := 0)) (SlR.nil (a := none) (c := 0)) (SlR.nil (a := none) (c := 0)) q2) rfl ?_
 rintro _ w5 ⟨m2, l2, S5, rfl⟩
 clear S4
 refine s_neq (m := x2) (n := 0) rfl rfl <| wpl_nil <| nrm <| wpc_if (t := (x2 != 0)) rfl (fun hc1 => ?_) (fun hc1 => ?_)
 · replace hm := ifT hc1 hm
   refine ws <| s_build (parts := []) (ps := []) (cs := z_api_Log) zeroValue26 (BuildPl.str (ss := [1, 1, 1, 1, 1, 1]) underlying26 ⟨sizeOf3, sizeOf22, sizeOf3, sizeOf23, sizeOf24, sizeOf23, trivial⟩) rfl trivial rfl <| s_stL (i := 1) S5 rfl rfl rfl sizeOf26 (oneC rfl (oneC rfl (oneC rfl (oneC rfl (oneC rfl (oneC rfl oneN)))))) rfl fun w6 S6 => ?_
   replace S6 : St _ ((bx b2 [vI a0, vU x1, vI a2, .slice none 0 0, .slice none 0 0, .slice none 0 0] 26) :: (bx b1 z_api_Log 26) :: As) _ := S6
   clear S5
   refine s_asv (v := vI 1) rfl <| wpl_nil <| nrm <| wpc_ret <| thR <| outRw fun we hpd => ?_
   replace S6 := St.pd S6 hpd
   have SR := S6
   obtain ⟨m3, l3, S7⟩ := St.drop S6 0
   replace S7 : St _ ((bx b1 z_api_Log 26) :: As) _ := S7
   obtain ⟨m4, l4, S8⟩ := St.drop S7 0
   clear S7
   replace S8 : St _ (As) _ := S8
   have e0 := Option.some.inj hm
   subst e0
   replace L0 := Mem.tr L0 (mt l1 (mt l2 (mt l3 l4)))
   exact outR [_, _] rfl ⟨res_box (i := 1) (off := 0) (cs := z_api_Log) SR rfl rfl isAgg26 sizeOf26 rfl (fun h => by cases h), rfl, trivial⟩ ⟨_, L0, _, _, _, S8, rfl, SlR.nil, SlR.nil, SlR.nil⟩
 replace hm := ifF hc1 hm
 refine wpc_skip <| nrm <| ws <| s_ld (i := 0) (cs := [vI a0, vU x1, vI a2, .slice none 0 0, .slice none 0 0, .slice none 0 0]) S5 rfl rfl isAgg26 sizeOf26 rfl (fun h => by cases h) <| s_stL (i := 1) S5 rfl rfl rfl sizeOf26 (oneC rfl (oneC rfl (oneC rfl (oneC rfl (oneC rfl (oneC rfl oneN)))))) rfl fun w7 S9 => ?_
 replace S9 : St _ ((bx b2 [vI a0, vU x1, vI a2, .slice none 0 0, .slice none 0 0, .slice none 0 0] 26) :: (bx b1 [vI a0, vU x1, vI a2, .slice none 0 0, .slice none 0 0, .slice none 0 0] 26) :: As) _ := S9
 clear S5
 refine s_asv (v := vI 0) rfl <| wpl_nil <| nrm <| wpc_ret <| outRw fun we hpd => ?_
 replace S9 := St.pd S9 hpd
 have SR := S9
 obtain ⟨m5, l5, S10⟩ := St.drop S9 0
 replace S10 : St _ ((bx b1 [vI a0, vU x1, vI a2, .slice none 0 0, .slice none 0 0, .slice none 0 0] 26) :: As) _ := S10
 obtain ⟨m6, l6, S11⟩ := St.drop S10 0
 clear S10
 replace S11 : St _ (As) _ := S11
 have e0 := Option.some.inj hm
 subst e0
 replace L0 := Mem.tr L0 (mt l1 (mt l2 (mt l5 l6)))
 exact outR [_, _] rfl ⟨res_box (i := 1) (off := 0) (cs := [vI a0, vU x1, vI a2, .slice none 0 0, .slice none 0 0, .slice none 0 0]) SR rfl rfl isAgg26 sizeOf26 rfl (fun h => by cases h), rfl, trivial⟩ ⟨_, L0, _, _, _, S11, rfl, SlR.nil, SlR.nil, SlR.nil⟩

def m_slices_IndexFunc_api_Leaf_api_Leaf_b1 {σ : Type} (a0 : List g_api_Leaf) (p1 : σ → g_api_Leaf → Option (Bool × σ)) (i1 : Int) (s1 : σ) : Option ((σ) ⊕ (Int × σ)) :=
  obind (idx a0 (i1 : Int)) fun x3 =>
  obind (p1 s1 x3) fun x4 =>
  if x4.1 = true then
    some (.inr ((i1 : Int), x4.2))
  else
  some (.inl x4.2)

def m_slices_IndexFunc_api_Leaf_api_Leaf {σ : Type} (a0 : List g_api_Leaf) (p1 : σ → g_api_Leaf → Option (Bool × σ)) (s0 : σ) : Option (Int × σ) :=
  obind (eachN (m_slices_IndexFunc_api_Leaf_api_Leaf_b1 a0 p1) a0.length 0 s0) fun x1 => match x1 with
  | .inr r => some r
  | .inl y1 =>
  some ((-1), y1)

theorem w_slices_IndexFunc_api_Leaf_api_Leaf {m : Mem} {As : List Ow} {w : World} {σ : Type} {R : σ → Mem → List Ow → Prop} {a0 : List g_api_Leaf} {a0v0 : Value} {p1 : σ → g_api_Leaf → Option (Bool × σ)} {f1 : Value} {s0 : σ} {X0 : List Ow} {r : Int × σ} (S : St m ((X0 ++ As)) w) (hup : ∀ {s M M' X}, M ≤ M' → R s M X → R s M' X) (hX0 : R s0 m X0) (cb1 : ∀ {m' : Mem} {As' : List Ow} {w' : World} {s : σ} {X : List Ow} {b0 : g_api_Leaf} {b0v0 : Value} {r : Bool × σ}, St m' (X ++ As') w' → R s m' X → SlR m' b0v0 b0.Body → p1 s b0 = some r → CallV Tryz.prog f1 [.agg (c_api_Leaf b0 b0v0).toArray] w' fun v w'' => ∃ (M : Mem) (X' : List Ow), m' ≤ M ∧ St M (X' ++ As') w'' ∧ R r.2 M X' ∧ v = vb r.1) (fc1 : f1.cells = #[f1]) (a0h0 : SlR m a0v0 a0) (hm : m_slices_IndexFunc_api_Leaf_api_Leaf a0 p1 s0 = some r) :
    CallsR Tryz.prog 43 #[a0v0, f1] w fun v w' => ∃ (M : Mem), m ≤ M ∧ ∃ (X : List Ow), St M ((X ++ As)) w' ∧ v = vI r.1 ∧ R r.2 M X := by
 unfold m_slices_IndexFunc_api_Leaf_api_Leaf at hm
 have L0 := Mem.rfl' m
 refine callsR (args := [a0v0, f1]) func43 rfl ntmps43 (nb rfl) <| ws <| s_asv (v := vI 0) rfl <| wpl_nil <| nrm <| wpc_seq <| ws <| s_mvv (v := a0v0) rfl <| s_lenR (xs := a0) rfl a0h0 underlying23 <| s_mvv (v := vI 0) rfl <| wpl_nil <| nrm ?_
 obtain ⟨x1, q1, hm⟩ := obind_some hm
 have L1 := Mem.rfl' m
 refine wpc_join [4, 5, 8, 9, 10, 11, 12, 13, 14, 15, 16, 17, 18] (fun f' w' => ∃ (M1 : Mem) (y1 : σ) (X2 : List Ow), x1 = .inl y1 ∧ m ≤ M1 ∧ St M1 ((X2 ++ As)) w' ∧ R y1 M1 X2 ∧ AllAt f' []) ?_ ?_
 · refine wpc_block <| wpc_rounds [4, 5, 8, 9, 10, 11, 12, 13, 14, 15, 16, 17, 18] (fun n1 f' w' => ∃ (i1 : Nat) (s1 : σ) (m3 : Mem) (X1 : List Ow), n1 = a0.length - i1 ∧ i1 ≤ a0.length ∧ eachN (m_slices_IndexFunc_api_Leaf_api_Leaf_b1 a0 p1) (a0.length - i1) (i1 : Int) s1 = some x1 ∧ m ≤ m3 ∧ St m3 ((X1 ++ As)) w' ∧ R s1 m3 X1 ∧ AllAt f' [(8, vI (i1 : Int))]) a0.length ⟨0, s0, m, _, rfl, Nat.zero_le _, q1, L1, S, hX0, ⟨rfl, trivial⟩⟩ ?_
   rintro n1 f1 w1 ho ⟨i1, s1, m1, X1, hn, hi, q2, L3, S1, h1, ha⟩
   obtain ⟨u1, rfl⟩ := fr_of (N := 19) ho ha
   clear ho ha
   have L2 := Mem.rfl' m1
   clear S
   refine ws <| s_lss (m := (i1 : Int)) (n := (a0.length : Int)) rfl rfl <| wpl_nil <| nrm <| wpc_seq <| wpc_if (t := decide ((i1 : Int) < (a0.length : Int))) rfl (fun hc2 => ?_) (fun hc2 => ?_)
   · have hlt1 : i1 < a0.length := by have := of_decide_eq_true hc2; omega
     obtain ⟨y2, q4, q3⟩ := eachN_in q2 hlt1
     unfold m_slices_IndexFunc_api_Leaf_api_Leaf_b1 at q4
     refine wpc_skip <| nrm <| wpc_seq <| wpc_block <| ws <| s_mvv (v := vI (i1 : Int)) rfl <| s_asv (v := vI (i1 : Int)) rfl <| nx <| s_mvv (v := f1) rfl <| s_mvv (v := a0v0) rfl <| s_mvv (v := vI (i1 : Int)) rfl ?_
     obtain ⟨x3, q6, q4⟩ := obind_some q4
     refine s_idx (q := x3) rfl rfl (a0h0.up L3) q6 underlying23 sizeOf70 fun p1 c1 h3 r1 => ?_
     obtain ⟨v1, rfl, h4⟩ := rep_g_api_Leaf r1
     refine s_ldM (cs := (c_api_Leaf x3 v1)) S1 rfl h3 rfl isAgg70 sizeOf70 (fun h => by cases h) ?_
     obtain ⟨x4, q7, q4⟩ := obind_some q4
     have S2 := St.absF (L := []) (X := X1) (As := As) S1
     refine s_callV rfl (cb1 S2 h1 h4 q7) rfl ?_
     rintro _ w2 ⟨m2, X3, l1, S3, h5, rfl⟩
     replace S3 := St.absF (L := X3) (X := []) (As := As) S3
     clear S2
     replace S3 : St _ ((X3 ++ As)) _ := S3
     clear S1
     refine wpl_nil <| nrm <| wpc_if (t := x4.1) rfl (fun hc1 => ?_) (fun hc1 => ?_)
     · replace q4 := ifT hc1 q4
       refine ws <| s_mvv (v := vI (i1 : Int)) rfl <| s_asv (v := vI (i1 : Int)) rfl <| wpl_nil <| nrm <| wpc_ret <| blR <| thR <| thR <| blR <| thR <| outRw fun we hpd => ?_
       replace S3 := St.pd S3 hpd
       cases q4
       rcases q3 with ⟨sn, e, _⟩ | ⟨tn, e, e2⟩
       · cases e
       cases e
       cases e2
       dsimp only at hm
       have e0 := Option.some.inj hm
       subst e0
       replace L2 := Mem.tr L2 l1
       exact outR [_] rfl ⟨rfl, trivial⟩ ⟨_, (Mem.tr L0 (Mem.tr L3 L2)), _, S3, rfl, h5⟩
     replace q4 := ifF hc1 q4
     refine wpc_skip <| nrmB <| nrm <| wpc_region <| s_addI (m := (i1 : Int)) (n := 1) rfl rfl <| s_mvv (v := vI (w64 ((i1 : Int) + 1))) rfl <| wpl_nil <| nrm ?_
     have e0 := Option.some.inj q4
     subst e0
     rcases q3 with ⟨sn, e, q3'⟩ | ⟨tn, e, _⟩
     · cases e
       replace a0h0 := a0h0.up (mt L3 l1)
       replace L2 := Mem.tr L2 l1
       exact ⟨outP, _, (by omega), ⟨i1 + 1, _, m2, _, rfl, hlt1, q3', Mem.tr L3 L2, S3, h5, ⟨congrArg (Value.int .i64) (w64_succ hlt1 (SlR.le a0h0)), trivial⟩⟩⟩
     · cases e
   have hlt1 : ¬ i1 < a0.length := by have := of_decide_eq_false hc2; omega
   have e := eachN_out q2 hlt1
   cases e
   exact wpc_exit <| thE <| thE <| exB <| nrm <| ⟨outP, m1, _, _, rfl, Mem.tr L3 L2, S1, h1, trivial⟩
 rintro f2 w3 ho ⟨m4, y1, X2, rfl, l2, S4, h2, ha⟩
 obtain ⟨u2, rfl⟩ := fr_of (N := 19) ho ha
 clear ho ha
 dsimp only at hm
 clear S
 refine ws <| s_asv (v := vI (-1)) rfl <| wpl_nil <| nrm <| wpc_ret <| outRw fun we hpd => ?_
 replace S4 := St.pd S4 hpd
 have e0 := Option.some.inj hm
 subst e0
 replace L0 := Mem.tr L0 l2
 exact outR [_] rfl ⟨rfl, trivial⟩ ⟨_, L0, _, S4, rfl, h2⟩

def m_bytes_Equal (a0 : List UInt8) (a1 : List UInt8) : Option Bool :=
  some (eqS (bs a0) (bs a1))

theorem w_bytes_Equal {m : Mem} {As : List Ow} {w : World} {a0 : List UInt8} {a0v0 : Value} {a1 : List UInt8} {a1v0 : Value} {r : Bool} (S : St m (As) w) (a0h0 : SlR m a0v0 a0) (a1h0 : SlR m a1v0 a1) (hm : m_bytes_Equal a0 a1 = some r) :
    CallsR Tryz.prog 45 #[a0v0, a1v0] w fun v w' => ∃ (M : Mem), m ≤ M ∧ St M (As) w' ∧ v = vb r := by
 unfold m_bytes_Equal at hm
 have L0 := Mem.rfl' m
 refine callsR (args := [a0v0, a1v0]) func45 rfl ntmps45 (nb rfl) <| ws <| s_asv (v := vb false) rfl <| nx <| s_mvv (v := a0v0) rfl <| s_bytesS (xs := a0) (t2' := 5) S rfl a0h0 underlying57 underlying5 underlying9 <| s_mvv (v := a1v0) rfl <| s_bytesS (xs := a1) (t2' := 5) S rfl a1h0 underlying57 underlying5 underlying9 <| s_eqlT (p := (bs a0)) (q := (bs a1)) rfl rfl <| s_asv (v := vb (eqS (bs a0) (bs a1))) rfl <| wpl_nil <| nrm <| wpc_ret <| outRw fun we hpd => ?_
 replace S := St.pd S hpd
 have e0 := Option.some.inj hm
 subst e0
 exact outR [_] rfl ⟨rfl, trivial⟩ ⟨_, L0, S, rfl⟩

def m_logd_Add_1 (a0 : g_api_Leaf) (k0 : List UInt8) : Option (Bool × (List UInt8)) :=
  obind (m_bytes_Equal a0.Body k0) fun x1 =>
  some (x1, k0)

theorem w_logd_Add_1 {m : Mem} {As : List Ow} {w : World} {a0 : g_api_Leaf} {a0v0 : Value} {kb0 : Nat} {k0 : List UInt8} {k0v0 : Value} {r : Bool × (List UInt8)} (S : St m ((bx kb0 [k0v0] 57) :: As) w) (a0h0 : SlR m a0v0 a0.Body) (k0h0 : SlR m k0v0 k0) (hm : m_logd_Add_1 a0 k0 = some r) :
    CallsR Tryz.prog 44 #[.agg (c_api_Leaf a0 a0v0).toArray, pt kb0 0] w fun v w' => ∃ (M : Mem), m ≤ M ∧ ∃ (rb0_0 : Value), St M ((bx kb0 [rb0_0] 57) :: As) w' ∧ v = vb r.1 ∧ SlR M rb0_0 r.2 := by
 unfold m_logd_Add_1 at hm
 have L0 := Mem.rfl' m
 refine callsR (args := [.agg (c_api_Leaf a0 a0v0).toArray, pt kb0 0]) func44 rfl ntmps44 (nb rfl) <| ws <| s_box S rfl fun b1 w1 S1 => ?_
 replace S1 : St _ ((bx b1 (c_api_Leaf a0 a0v0) 70) :: (bx kb0 [k0v0] 57) :: As) _ := S1
 clear S
 refine s_asv (v := vb false) rfl <| nx <| s_fld (n := 0) rfl underlying70 rfl rfl sizeOf57 <| s_ld (i := 0) (cs := [a0v0]) S1 rfl rfl isAgg57 sizeOf57 rfl (fun _ => rfl) <| s_ld (i := 1) (cs := [k0v0]) S1 rfl rfl isAgg57 sizeOf57 rfl (fun _ => rfl) ?_
 obtain ⟨x1, q1, hm⟩ := obind_some hm
 refine s_call call45 (w_bytes_Equal (a0 := a0.Body) (a1 := k0) S1 a0h0 k0h0 q1) rfl ?_
 rintro _ w2 ⟨m1, l1, S2, rfl⟩
 clear S1
 refine s_asv (v := vb x1) rfl <| wpl_nil <| nrm <| wpc_ret <| outRw fun we hpd => ?_
 replace S2 := St.pd S2 hpd
 obtain ⟨m2, l2, S3⟩ := St.drop S2 0
 clear S2
 replace S3 : St _ ((bx kb0 [k0v0] 57) :: As) _ := S3
 have e0 := Option.some.inj hm
 subst e0
 replace k0h0 := k0h0.up (mt l1 l2)
 replace L0 := Mem.tr L0 (mt l1 l2)
 exact outR [_] rfl ⟨rfl, trivial⟩ ⟨_, L0, _, S3, rfl, k0h0⟩

def m_slices_Clone_api_Leaf_api_Leaf (a0 : List g_api_Leaf) : Option (List g_api_Leaf) :=
  obind (app 32 ([] : List g_api_Leaf) a0) fun x1 =>
  some x1

theorem w_slices_Clone_api_Leaf_api_Leaf {m : Mem} {As : List Ow} {w : World} {a0 : List g_api_Leaf} {a0v0 : Value} {r : List g_api_Leaf} (S : St m (As) w) (a0h0 : SlR m a0v0 a0) (hm : m_slices_Clone_api_Leaf_api_Leaf a0 = some r) :
    CallsR Tryz.prog 46 #[a0v0] w fun v w' => ∃ (M : Mem), m ≤ M ∧ ∃ (rv0 : Value) (rc0 : List Value), St M ((row 2 rv0 rc0 r.length) :: As) w' ∧ v = rv0 ∧ RepL M rc0 r := by
 unfold m_slices_Clone_api_Leaf_api_Leaf at hm
 have L0 := Mem.rfl' m
 refine callsR (args := [a0v0]) func46 rfl ntmps46 (nb rfl) <| ws <| s_asv (v := .slice none 0 0) rfl <| wpl_nil <| nrm <| wpc_seq <| ws <| s_mvv (v := a0v0) rfl <| s_eqlNil rfl rfl a0h0 underlying23 <| wpl_nil <| nrm <| wpc_if (t := (isNilV a0v0)) rfl (fun hc1 => ?_) (fun hc1 => ?_)
 · have he1 : a0 = [] := SlR.nilOf a0h0 hc1
   rw [he1] at hm
   replace hm : (some ([] : List g_api_Leaf)) = some _ := hm
   refine ws <| s_asv (v := .slice none 0 0) rfl <| wpl_nil <| nrm <| wpc_ret <| thR <| outRw fun we hpd => ?_
   replace S := St.pd S hpd
   have S1 := St.rowNil S 2
   have h1 : RepL m [] ([] : List g_api_Leaf) := RepL.nil
   replace S1 : St _ ((row 2 (.slice none 0 0) [] ([] : List g_api_Leaf).length) :: As) _ := S1
   clear S
   have e0 := Option.some.inj hm
   subst e0
   exact outR [_] rfl ⟨rfl, trivial⟩ ⟨_, L0, _, _, S1, rfl, h1⟩
 refine wpc_skip <| nrm <| ws <| s_litOC (parts := []) (vs := []) (cls := []) (n := 0) (sz := 2) S underlying23 sizeOf70 zeroValue70 rfl trivial rfl rfl (by decide) (by decide) fun v1 w1 S2 => ?_
 have h2 : RepL m [] ([] : List g_api_Leaf) := RepL.nil
 replace S2 : St _ ((row 2 v1 [] ([] : List g_api_Leaf).length) :: As) _ := S2
 clear S
 refine s_mvv (v := a0v0) rfl ?_
 obtain ⟨x1, q1, hm⟩ := obind_some hm
 refine s_app (i := 0) (zs := x1) (bytes := 32) (ti := Tryz.t70) S2 rfl rfl h2 rfl rfl a0h0 q1 underlying23 type70 rfl rfl rfl rfl fun v2 c1 w2 S3 h3 => ?_
 replace S3 : St _ ((row 2 v2 c1 x1.length) :: As) _ := S3
 clear S2
 refine s_asv (v := v2) rfl <| wpl_nil <| nrm <| wpc_ret <| outRw fun we hpd => ?_
 replace S3 := St.pd S3 hpd
 have e0 := Option.some.inj hm
 subst e0
 exact outR [_] rfl ⟨rfl, trivial⟩ ⟨_, L0, _, _, S3, rfl, h3⟩

def m_bytes_Clone (a0 : List UInt8) : Option (List UInt8) :=
  obind (app 1 ([] : List UInt8) a0) fun x1 =>
  some x1

theorem w_bytes_Clone {m : Mem} {As : List Ow} {w : World} {a0 : List UInt8} {a0v0 : Value} {r : List UInt8} (S : St m (As) w) (a0h0 : SlR m a0v0 a0) (hm : m_bytes_Clone a0 = some r) :
    CallsR Tryz.prog 47 #[a0v0] w fun v w' => ∃ (M : Mem), m ≤ M ∧ ∃ (rv0 : Value) (rc0 : List Value), St M ((row 1 rv0 rc0 r.length) :: As) w' ∧ v = rv0 ∧ RepL M rc0 r := by
 unfold m_bytes_Clone at hm
 have L0 := Mem.rfl' m
 refine callsR (args := [a0v0]) func47 rfl ntmps47 (nb rfl) <| ws <| s_asv (v := .slice none 0 0) rfl <| wpl_nil <| nrm <| wpc_seq <| ws <| s_mvv (v := a0v0) rfl <| s_eqlNil rfl rfl a0h0 underlying57 <| wpl_nil <| nrm <| wpc_if (t := (isNilV a0v0)) rfl (fun hc1 => ?_) (fun hc1 => ?_)
 · have he1 : a0 = [] := SlR.nilOf a0h0 hc1
   rw [he1] at hm
   replace hm : (some ([] : List UInt8)) = some _ := hm
   refine ws <| s_asv (v := .slice none 0 0) rfl <| wpl_nil <| nrm <| wpc_ret <| thR <| outRw fun we hpd => ?_
   replace S := St.pd S hpd
   have S1 := St.rowNil S 1
   have h1 : RepL m [] ([] : List UInt8) := RepL.nil
   replace S1 : St _ ((row 1 (.slice none 0 0) [] ([] : List UInt8).length) :: As) _ := S1
   clear S
   have e0 := Option.some.inj hm
   subst e0
   exact outR [_] rfl ⟨rfl, trivial⟩ ⟨_, L0, _, _, S1, rfl, h1⟩
 refine wpc_skip <| nrm <| ws <| s_litOC (parts := []) (vs := []) (cls := []) (n := 0) (sz := 1) S underlying57 sizeOf5 zeroValue5 rfl trivial rfl rfl (by decide) (by decide) fun v1 w1 S2 => ?_
 have h2 : RepL m [] ([] : List UInt8) := RepL.nil
 replace S2 : St _ ((row 1 v1 [] ([] : List UInt8).length) :: As) _ := S2
 clear S
 refine s_mvv (v := a0v0) rfl ?_
 obtain ⟨x1, q1, hm⟩ := obind_some hm
 refine s_app (i := 0) (zs := x1) (bytes := 1) (ti := Tryz.t5) S2 rfl rfl h2 rfl rfl a0h0 q1 underlying57 type5 rfl rfl rfl rfl fun v2 c1 w2 S3 h3 => ?_
 replace S3 : St _ ((row 1 v2 c1 x1.length) :: As) _ := S3
 clear S2
 refine s_asv (v := v2) rfl <| wpl_nil <| nrm <| wpc_ret <| outRw fun we hpd => ?_
 replace S3 := St.pd S3 hpd
 have e0 := Option.some.inj hm
 subst e0
 exact outR [_] rfl ⟨rfl, trivial⟩ ⟨_, L0, _, _, S3, rfl, h3⟩

def m_logd_ofPromise (a0 : g_api_Promise) : Option (List UInt8) :=
  obind (m_logd_eight a0.Log) fun x1 =>
  obind (m_logd_eight a0.At) fun x2 =>
  obind (m_hash_Bytes a0.Leaf) fun x3 =>
  obind (m_logd_msg (⟨#[112, 114, 111, 109, 105, 115, 101]⟩ : ByteArray) ([x1, x2, x3] : List (List UInt8))) fun x4 =>
  some x4

theorem w_logd_ofPromise {m : Mem} {As : List Ow} {w : World} {a0 : g_api_Promise} {r : List UInt8} (S : St m (As) w) (hm : m_logd_ofPromise a0 = some r) :
    CallsR Tryz.prog 48 #[.agg (c_api_Promise a0).toArray] w fun v w' => ∃ (M : Mem), m ≤ M ∧ ∃ (rv0 : Value) (rc0 : List Value), St M ((row 1 rv0 rc0 r.length) :: As) w' ∧ v = rv0 ∧ RepL M rc0 r := by
 unfold m_logd_ofPromise at hm
 have L0 := Mem.rfl' m
 refine callsR (args := [.agg (c_api_Promise a0).toArray]) func48 rfl ntmps48 (nb rfl) <| ws <| s_box S rfl fun b1 w1 S1 => ?_
 replace S1 : St _ ((bx b1 (c_api_Promise a0) 59) :: As) _ := S1
 clear S
 refine s_asv (v := .slice none 0 0) rfl <| wpl_nil <| nrm <| wpc_seq ?_
 obtain ⟨x1, q1, hm⟩ := obind_some hm
 obtain ⟨x2, q2, hm⟩ := obind_some hm
 have HM : MonoAll [(3, fv (pt b1 0)), (4, fv (vI a0.Log)), (5, fun _ _ => True), (6, fv (pt b1 1)), (7, fv (vI a0.At)), (8, fun _ _ => True), (9, fv (pt b1 2)), (10, fv (.agg #[vU a0.Leaf.1, vU a0.Leaf.2]))] := ⟨mv, mv, (fun _ _ _ _ h => h), mv, mv, (fun _ _ _ _ h => h), mv, mv, trivial⟩
 refine wpc_flowG HM 8 mixed rfl rfl rfl (rg 3 8) (fun L f M w => ∃ (X1 : List Ow), ∃ (X2 : List Ow), ((L 2 = false → X1 = []) ∧ (L 2 = true → (RowS M X1 1 (f 5) x1))) ∧ ((L 5 = false → X2 = []) ∧ (L 5 = true → (RowS M X2 1 (f 8) x2))) ∧ St M ((bx b1 (c_api_Promise a0) 59) :: (X1 ++ (X2 ++ As))) w) (⟨[], [], ⟨fun _ => rfl, fun hx => ff hx⟩, ⟨fun _ => rfl, fun hx => ff hx⟩, St.drew S1 _⟩) ?_ ?_
 · refine ⟨?_, ?_, ?_, ?_, ?_, ?_, ?_, ?_, trivial⟩
   · exact flp HM rfl [] (fun _ _ => trivial) (fun _ _ q => s_fld (n := 0) rfl underlying59 rfl rfl sizeOf3 q) rfl
   · exact flp HM rfl [(3, _)] (fun K _ => ⟨K 0 rfl, trivial⟩) (fun _ ⟨_, _, _, _, S3⟩ q => s_ld (i := 0) (cs := [vI a0.Log]) S3 rfl rfl isAgg3 sizeOf3 rfl (fun _ => rfl) q) rfl
   · intro L f3 w4 hL hd hc ⟨m3, L5, ⟨X1, X2, C5, C6, S4⟩, K, hO⟩
     have d2 : L 2 = false := hL
     obtain ⟨u3, rfl⟩ := fr_of (N := 14) (L := [(4, _)]) hO ⟨K 1 (dep hd rfl), trivial⟩
     obtain rfl := C5.1 d2
     replace S4 : St _ ((bx b1 (c_api_Promise a0) 59) :: (X2 ++ As)) _ := S4
     have L6 := Mem.rfl' m3
     refine s_call call65 (w_logd_eight (a0 := a0.Log) S4  q1) rfl ?_
     rintro v1 w5 ⟨m4, l1, _, c1, S5, rfl, h1⟩
     replace C6 := C6.imp id (fun p a => RowS.up l1 (p a))
     clear S4
     refine wpn ?_
     replace L6 := Mem.tr L6 l1
     refine ⟨m4, Mem.tr L5 L6, ⟨[row 1 v1 c1 x1.length], X2, ⟨fun hx => tf rfl hx, fun _ => ⟨_, rfl, h1⟩⟩, C6, ?_⟩, facts_step HM rfl K L6 rfl rfl trivial, outP⟩
     have S20 : St _ ((bx b1 (c_api_Promise a0) 59) :: (row 1 v1 c1 x1.length) :: (X2 ++ As)) _ := St.perm S5 (List.Perm.swap _ _ _)
     exact S20
   · exact flp HM rfl [] (fun _ _ => trivial) (fun _ _ q => s_fld (n := 0) rfl underlying59 rfl rfl sizeOf3 q) rfl
   · exact flp HM rfl [(6, _)] (fun K _ => ⟨K 3 rfl, trivial⟩) (fun _ ⟨_, _, _, _, S7⟩ q => s_ld (i := 0) (cs := [vI a0.At]) S7 rfl rfl isAgg3 sizeOf3 rfl (fun _ => rfl) q) rfl
   · intro L f6 w8 hL hd hc ⟨m7, L11, ⟨X1, X2, C11, C12, S8⟩, K, hO⟩
     have d5 : L 5 = false := hL
     obtain ⟨u6, rfl⟩ := fr_of (N := 14) (L := [(7, _)]) hO ⟨K 4 (dep hd rfl), trivial⟩
     replace S8 := St.sw (L := [bx b1 (c_api_Promise a0) 59]) (X := X1) (Y := X2) (As := As) S8
     replace S8 : St _ ((bx b1 (c_api_Promise a0) 59) :: (X2 ++ (X1 ++ As))) _ := S8
     obtain rfl := C12.1 d5
     replace S8 : St _ ((bx b1 (c_api_Promise a0) 59) :: (X1 ++ As)) _ := S8
     have L12 := Mem.rfl' m7
     refine s_call call65 (w_logd_eight (a0 := a0.At) S8  q2) rfl ?_
     rintro v2 w9 ⟨m8, l2, _, c2, S9, rfl, h2⟩
     replace C11 := C11.imp id (fun p a => RowS.up l2 (p a))
     clear S8
     refine wpn ?_
     replace L12 := Mem.tr L12 l2
     refine ⟨m8, Mem.tr L11 L12, ⟨X1, [row 1 v2 c2 x2.length], C11, ⟨fun hx => tf rfl hx, fun _ => ⟨_, rfl, h2⟩⟩, ?_⟩, facts_step HM rfl K L12 rfl rfl trivial, outP⟩
     have S21 : St _ ((bx b1 (c_api_Promise a0) 59) :: (row 1 v2 c2 x2.length) :: (X1 ++ As)) _ := St.perm S9 (List.Perm.swap _ _ _)
     have S21s := St.sw (L := [bx b1 (c_api_Promise a0) 59]) (X := [row 1 v2 c2 x2.length]) (Y := X1) (As := As) S21
     exact S21s
   · exact flp HM rfl [] (fun _ _ => trivial) (fun _ _ q => s_fld (n := 1) rfl underlying59 rfl rfl sizeOf36 q) rfl
   · exact flp HM rfl [(9, _)] (fun K _ => ⟨K 6 rfl, trivial⟩) (fun _ ⟨_, _, _, _, S11⟩ q => s_ld (i := 0) (cs := [vU a0.Leaf.1, vU a0.Leaf.2]) S11 rfl rfl isAgg36 sizeOf36 rfl (fun h => by cases h) q) rfl
 intro L f9 w12 hall ⟨m11, L17, ⟨X1, X2, C17, C18, S12⟩, K, hO⟩
 obtain ⟨v3, e6⟩ : ∃ x, f9 5 = x := ⟨_, rfl⟩
 obtain ⟨v4, e7⟩ : ∃ x, f9 8 = x := ⟨_, rfl⟩
 have d7 : L 7 = true := hall 7 (by decide)
 have d2 : L 2 = true := hall 2 (by decide)
 have d5 : L 5 = true := hall 5 (by decide)
 obtain ⟨u9, rfl⟩ := fr_of (N := 14) (L := [(5, _), (8, _), (10, _)]) hO ⟨e6, e7, K 7 d7, trivial⟩
 replace S12 : St _ ((bx b1 (c_api_Promise a0) 59) :: (X1 ++ (X2 ++ As))) _ := S12
 obtain ⟨c3, rfl, h3⟩ := C17.2 d2
 replace h3 : RepL _ c3 x1 := h3
 obtain ⟨c4, rfl, h4⟩ := C18.2 d5
 replace h4 : RepL _ c4 x2 := h4
 replace S12 : St _ ((bx b1 (c_api_Promise a0) 59) :: (row 1 v3 c3 x1.length) :: (row 1 v4 c4 x2.length) :: As) _ := S12
 clear S1
 obtain ⟨x3, q3, hm⟩ := obind_some hm
 refine s_call call66 (w_hash_Bytes (a0 := a0.Leaf) S12  q3) rfl ?_
 rintro v5 w13 ⟨m12, l3, _, c5, S13, rfl, h5⟩
 clear S12
 replace h3 := RepL.up l3 h3
 obtain ⟨m13, l4, h6, S14⟩ := St.rowKeepT (i := 2) S13 rfl h3 rfl
 clear S13
 replace h4 := RepL.up (mt l3 l4) h4
 obtain ⟨m14, l5, h7, S15⟩ := St.rowKeepT (i := 2) S14 rfl h4 rfl
 clear S14
 replace h5 := RepL.up (mt l4 l5) h5
 obtain ⟨m15, l6, h8, S16⟩ := St.rowKeepT (i := 0) S15 rfl h5 rfl
 clear S15
 replace h6 := h6.up (mt l5 l6)
 replace h7 := h7.up l6
 refine s_litC (parts := [.tmp 5, .tmp 8, .tmp 11]) (vs := [v3, v4, v5]) (cls := [[v3], [v4], [v5]]) (xs := ([x1, x2, x3] : List (List UInt8))) (n := 3) S16 underlying119 sizeOf57 zeroValue57 rfl ⟨SlR.cells h6, SlR.cells h7, SlR.cells h8, trivial⟩ (RepL.cons (c := [v3]) (x := x1) ⟨_, rfl, h6⟩ (RepL.cons (c := [v4]) (x := x2) ⟨_, rfl, h7⟩ (RepL.cons (c := [v5]) (x := x3) ⟨_, rfl, h8⟩ RepL.nil))) rfl rfl rfl (by decide) (by decide) fun v6 m16 w14 l7 S17 h9 => ?_
 clear S16
 obtain ⟨x4, q4, hm⟩ := obind_some hm
 refine s_call call64 (w_logd_msg (a0 := (⟨#[112, 114, 111, 109, 105, 115, 101]⟩ : ByteArray)) (a1 := ([x1, x2, x3] : List (List UInt8))) S17 h9 q4) rfl ?_
 rintro v7 w15 ⟨m17, l8, _, c6, S18, rfl, h10⟩
 clear S17
 refine s_asv (v := v7) rfl <| wpl_nil <| nrm <| wpc_ret <| outRw fun we hpd => ?_
 replace S18 := St.pd S18 hpd
 obtain ⟨m18, l9, S19⟩ := St.drop S18 1
 clear S18
 replace S19 : St _ ((row 1 v7 c6 x4.length) :: As) _ := S19
 have e0 := Option.some.inj hm
 subst e0
 replace L0 := Mem.tr L0 (mt L17 (mt l3 (mt l4 (mt l5 (mt l6 (mt l7 (mt l8 l9)))))))
 replace h10 := RepL.up l9 h10
 exact outR [_] rfl ⟨rfl, trivial⟩ ⟨_, L0, _, _, S19, rfl, h10⟩

def m_logd_Add (a0 : g_api_Log) (a1 : List UInt8) (a2 : Int) : Option (g_api_Log × g_api_Promise × Int) :=
  obind (m_logd_Check a0) fun x1 =>
  if (x1 != 0) = true then
    some ((⟨0, 0, 0, [], [], []⟩ : g_api_Log), (⟨0, 0, (0, 0), (⟨0, 0⟩ : g_api_Sig)⟩ : g_api_Promise), x1)
  else
  obind (m_logd_isBody a1) fun x2 =>
  obind (
    if (!x2) = true then
      some true
    else
    obind (m_logd_number a2) fun x5 =>
    some (!x5)
  ) fun x4 =>
  if x4 = true then
    some ((⟨0, 0, 0, [], [], []⟩ : g_api_Log), (⟨0, 0, (0, 0), (⟨0, 0⟩ : g_api_Sig)⟩ : g_api_Promise), 1)
  else
  obind (m_logd_all a0) fun x6 =>
  obind (m_slices_IndexFunc_api_Leaf_api_Leaf x6 (fun (s1 : (List UInt8)) (b5 : g_api_Leaf) => obind (m_logd_Add_1 b5 s1) fun x7 => some (x7.1, x7.2)) a1) fun x8 =>
  if (decide (x8.1 ≥ 0)) = true then
    obind (idx x6 x8.1) fun x9 =>
    obind (m_merkle_Leaf x8.2) fun x10 =>
    obind (m_logd_ofPromise (⟨a0.Id, x9.At, x10, (⟨0, 0⟩ : g_api_Sig)⟩ : g_api_Promise)) fun x11 =>
    obind (m_sign_Sign a0.Key x11) fun x12 =>
    some (a0, (⟨a0.Id, x9.At, x10, x12.1⟩ : g_api_Promise), x12.2)
  else
  if ((x6.length : Int) == 256) = true then
    some ((⟨0, 0, 0, [], [], []⟩ : g_api_Log), (⟨0, 0, (0, 0), (⟨0, 0⟩ : g_api_Sig)⟩ : g_api_Promise), 2)
  else
  obind (m_slices_Clone_api_Leaf_api_Leaf a0.Wait) fun x13 =>
  obind (m_bytes_Clone x8.2) fun x14 =>
  obind (app 32 x13 ([(⟨x14, a2⟩ : g_api_Leaf)] : List g_api_Leaf)) fun x15 =>
  obind (m_merkle_Leaf x8.2) fun x16 =>
  obind (m_logd_ofPromise (⟨a0.Id, a2, x16, (⟨0, 0⟩ : g_api_Sig)⟩ : g_api_Promise)) fun x17 =>
  obind (m_sign_Sign a0.Key x17) fun x18 =>
  some ((⟨a0.Id, a0.Key, a0.Delay, a0.L, a0.Hide, x15⟩ : g_api_Log), (⟨a0.Id, a2, x16, x18.1⟩ : g_api_Promise), x18.2)

theorem w_logd_Add {m : Mem} {As : List Ow} {w : World} {a0 : g_api_Log} {a0v3 : Value} {a0v4 : Value} {a0v5 : Value} {a1 : List UInt8} {a1v0 : Value} {a2 : Int} {r : g_api_Log × g_api_Promise × Int} (S : St m (As) w) (a0h3 : SlR m a0v3 a0.L) (a0h4 : SlR m a0v4 a0.Hide) (a0h5 : SlR m a0v5 a0.Wait) (a1h0 : SlR m a1v0 a1) (hm : m_logd_Add a0 a1 a2 = some r) :
    CallsR Tryz.prog 16 #[.agg (c_api_Log a0 a0v3 a0v4 a0v5).toArray, a1v0, vI a2] w fun v w' => ∃ (M : Mem), m ≤ M ∧ ∃ (rv0_3 : Value) (rv0_4 : Value) (rv0_5 : Value), St M (As) w' ∧ v = .tuple #[.agg (c_api_Log r.1 rv0_3 rv0_4 rv0_5).toArray, .agg (c_api_Promise r.2.1).toArray, vI r.2.2] ∧ SlR M rv0_3 r.1.L ∧ SlR M rv0_4 r.1.Hide ∧ SlR M rv0_5 r.1.Wait := by
 unfold m_logd_Add at hm
 have L0 := Mem.rfl' m
 refine callsR (args := [.agg (c_api_Log a0 a0v3 a0v4 a0v5).toArray, a1v0, vI a2]) func16 rfl ntmps16 (nb rfl) <| ws <| s_box S rfl fun b1 w1 S1 => ?_
 replace S1 : St _ ((bx b1 (c_api_Log a0 a0v3 a0v4 a0v5) 26) :: As) _ := S1
 clear S
 refine s_boxS S1 rfl (SlR.cells a1h0) fun b2 w2 S2 => s_alloc S2 zeroValue26 fun b3 w3 S3 => s_alloc S3 zeroValue59 fun b4 w4 S4 => ?_
 replace S4 : St _ ((bx b4 z_api_Promise 59) :: (bx b3 z_api_Log 26) :: (bx b2 [a1v0] 57) :: (bx b1 (c_api_Log a0 a0v3 a0v4 a0v5) 26) :: As) _ := S4
 clear S1 S2 S3
 refine s_asv (v := vI 0) rfl <| wpl_nil <| nrm <| wpc_seq <| ws <| s_ld (i := 3) (cs := (c_api_Log a0 a0v3 a0v4 a0v5)) S4 rfl rfl isAgg26 sizeOf26 rfl (fun h => by cases h) ?_
 obtain ⟨x1, q1, hm⟩ := obind_some hm
 refine s_call call6 (w_logd_Check (a0 := a0) S4 a0h3 a0h4 a0h5 q1) rfl ?_
 rintro _ w5 ⟨m1, l1, S5, rfl⟩
 clear S4
 refine s_asv (v := vI x1) rfl <| nx <| s_mvv (v := vI x1) rfl <| s_neq (m := x1) (n := 0) rfl rfl <| wpl_nil <| nrm <| wpc_if (t := (x1 != 0)) rfl (fun hc1 => ?_) (fun hc1 => ?_)
 · replace hm := ifT hc1 hm
   refine ws <| s_build (parts := []) (ps := []) (cs := z_api_Log) zeroValue26 (BuildPl.str (ss := [1, 1, 1, 1, 1, 1]) underlying26 ⟨sizeOf3, sizeOf22, sizeOf3, sizeOf23, sizeOf24, sizeOf23, trivial⟩) rfl trivial rfl <| s_build (parts := []) (ps := []) (cs := z_api_Promise) zeroValue59 (BuildPl.str (ss := [1, 1, 2, 2]) underlying59 ⟨sizeOf3, sizeOf3, sizeOf36, sizeOf38, trivial⟩) rfl trivial rfl <| s_mvv (v := vI x1) rfl <| s_stL (i := 1) S5 rfl rfl rfl sizeOf26 (oneC rfl (oneC rfl (oneC rfl (oneC rfl (oneC rfl (oneC rfl oneN)))))) rfl fun w6 S6 => s_stL (i := 0) S6 rfl rfl rfl sizeOf59 (oneC rfl (oneC rfl (oneC rfl (oneC rfl (oneC rfl (oneC rfl oneN)))))) rfl fun w7 S7 => ?_
   replace S7 : St _ ((bx b4 z_api_Promise 59) :: (bx b3 z_api_Log 26) :: (bx b2 [a1v0] 57) :: (bx b1 (c_api_Log a0 a0v3 a0v4 a0v5) 26) :: As) _ := S7
   clear S5 S6
   refine s_asv (v := vI x1) rfl <| wpl_nil <| nrm <| wpc_ret <| thR <| outRw fun we hpd => ?_
   replace S7 := St.pd S7 hpd
   have SR := S7
   obtain ⟨m2, l2, S8⟩ := St.drop S7 0
   replace S8 : St _ ((bx b3 z_api_Log 26) :: (bx b2 [a1v0] 57) :: (bx b1 (c_api_Log a0 a0v3 a0v4 a0v5) 26) :: As) _ := S8
   obtain ⟨m3, l3, S9⟩ := St.drop S8 0
   clear S8
   replace S9 : St _ ((bx b2 [a1v0] 57) :: (bx b1 (c_api_Log a0 a0v3 a0v4 a0v5) 26) :: As) _ := S9
   obtain ⟨m4, l4, S10⟩ := St.drop S9 0
   clear S9
   replace S10 : St _ ((bx b1 (c_api_Log a0 a0v3 a0v4 a0v5) 26) :: As) _ := S10
   obtain ⟨m5, l5, S11⟩ := St.drop S10 0
   clear S10
   replace S11 : St _ (As) _ := S11
   have e0 := Option.some.inj hm
   subst e0
   replace L0 := Mem.tr L0 (mt l1 (mt l2 (mt l3 (mt l4 l5))))
   exact outR [_, _, _] rfl ⟨res_box (i := 1) (off := 0) (cs := z_api_Log) SR rfl rfl isAgg26 sizeOf26 rfl (fun h => by cases h), res_box (i := 0) (off := 0) (cs := z_api_Promise) SR rfl rfl isAgg59 sizeOf59 rfl (fun h => by cases h), rfl, trivial⟩ ⟨_, L0, _, _, _, S11, rfl, SlR.nil, SlR.nil, SlR.nil⟩
 replace hm := ifF hc1 hm
 refine wpc_skip <| nrm <| wpc_seq <| ws <| s_ld (i := 2) (cs := [a1v0]) S5 rfl rfl isAgg57 sizeOf57 rfl (fun _ => rfl) ?_
 obtain ⟨x2, q2, hm⟩ := obind_some hm
 refine s_call call24 (w_logd_isBody (a0 := a1) S5 (a1h0.up l1) q2) rfl ?_
 rintro _ w8 ⟨m6, l6, S12, rfl⟩
 clear S5
 refine s_not rfl <| s_mvv (v := vb (!x2)) rfl ?_
 obtain ⟨x4, q4, hm⟩ := obind_some hm
 have L1 := Mem.rfl' m6
 refine wpl_cut 4 [23, 24, 25, 26] (fun f' w' => ∃ (M1 : Mem), m6 ≤ M1 ∧ St M1 ((bx b4 z_api_Promise 59) :: (bx b3 z_api_Log 26) :: (bx b2 [a1v0] 57) :: (bx b1 (c_api_Log a0 a0v3 a0v4 a0v5) 26) :: As) w' ∧ AllAt f' [(26, vb x4)]) ?_ ?_
 · rcases bool_tf (!x2) with hb1 | hb1
   · replace q4 := ifT hb1 q4
     refine wpl_no (d := 22) rfl rfl (cb hb1) <| wpl_no (d := 22) rfl rfl (cb hb1) <| wpl_no (d := 22) rfl rfl (cb hb1) <| s_pickT (cb hb1) rfl <| wpl_nil (nrm ?_)
     have e0 := Option.some.inj q4
     subst e0
     exact ⟨outP, m6, L1, S12, ⟨rfl, trivial⟩⟩
   replace q4 := ifF hb1 q4
   refine wpl_yes (d := 22) rfl rfl (cb hb1) <| s_mvv (v := vI a2) rfl <| wpl_yes (d := 22) rfl rfl (cb hb1) ?_
   obtain ⟨x5, q5, q4⟩ := obind_some q4
   refine s_call call22 (w_logd_number (a0 := a2) S12  q5) rfl ?_
   rintro _ w10 ⟨m8, l8, S14, rfl⟩
   clear S12
   refine wpl_yes (d := 22) rfl rfl (cb hb1) <| s_not rfl <| s_pickF (cb hb1) rfl <| wpl_nil (nrm ?_)
   have e0 := Option.some.inj q4
   subst e0
   replace L1 := Mem.tr L1 l8
   exact ⟨outP, m8, L1, S14, ⟨rfl, trivial⟩⟩
 rintro f1 w11 ho ⟨m9, l9, S15, ha⟩
 obtain ⟨u1, rfl⟩ := fr_of (N := 76) ho ha
 clear S12
 refine wpl_nil <| nrm <| wpc_if (t := x4) rfl (fun hc2 => ?_) (fun hc2 => ?_)
 · replace hm := ifT hc2 hm
   refine ws <| s_build (parts := []) (ps := []) (cs := z_api_Log) zeroValue26 (BuildPl.str (ss := [1, 1, 1, 1, 1, 1]) underlying26 ⟨sizeOf3, sizeOf22, sizeOf3, sizeOf23, sizeOf24, sizeOf23, trivial⟩) rfl trivial rfl <| s_build (parts := []) (ps := []) (cs := z_api_Promise) zeroValue59 (BuildPl.str (ss := [1, 1, 2, 2]) underlying59 ⟨sizeOf3, sizeOf3, sizeOf36, sizeOf38, trivial⟩) rfl trivial rfl <| s_stL (i := 1) S15 rfl rfl rfl sizeOf26 (oneC rfl (oneC rfl (oneC rfl (oneC rfl (oneC rfl (oneC rfl oneN)))))) rfl fun w12 S16 => s_stL (i := 0) S16 rfl rfl rfl sizeOf59 (oneC rfl (oneC rfl (oneC rfl (oneC rfl (oneC rfl (oneC rfl oneN)))))) rfl fun w13 S17 => ?_
   replace S17 : St _ ((bx b4 z_api_Promise 59) :: (bx b3 z_api_Log 26) :: (bx b2 [a1v0] 57) :: (bx b1 (c_api_Log a0 a0v3 a0v4 a0v5) 26) :: As) _ := S17
   clear S15 S16
   refine s_asv (v := vI 1) rfl <| wpl_nil <| nrm <| wpc_ret <| thR <| outRw fun we hpd => ?_
   replace S17 := St.pd S17 hpd
   have SR := S17
   obtain ⟨m10, l10, S18⟩ := St.drop S17 0
   replace S18 : St _ ((bx b3 z_api_Log 26) :: (bx b2 [a1v0] 57) :: (bx b1 (c_api_Log a0 a0v3 a0v4 a0v5) 26) :: As) _ := S18
   obtain ⟨m11, l11, S19⟩ := St.drop S18 0
   clear S18
   replace S19 : St _ ((bx b2 [a1v0] 57) :: (bx b1 (c_api_Log a0 a0v3 a0v4 a0v5) 26) :: As) _ := S19
   obtain ⟨m12, l12, S20⟩ := St.drop S19 0
   clear S19
   replace S20 : St _ ((bx b1 (c_api_Log a0 a0v3 a0v4 a0v5) 26) :: As) _ := S20
   obtain ⟨m13, l13, S21⟩ := St.drop S20 0
   clear S20
   replace S21 : St _ (As) _ := S21
   have e0 := Option.some.inj hm
   subst e0
   replace L0 := Mem.tr L0 (mt l1 (mt l6 (mt l9 (mt l10 (mt l11 (mt l12 l13))))))
   exact outR [_, _, _] rfl ⟨res_box (i := 1) (off := 0) (cs := z_api_Log) SR rfl rfl isAgg26 sizeOf26 rfl (fun h => by cases h), res_box (i := 0) (off := 0) (cs := z_api_Promise) SR rfl rfl isAgg59 sizeOf59 rfl (fun h => by cases h), rfl, trivial⟩ ⟨_, L0, _, _, _, S21, rfl, SlR.nil, SlR.nil, SlR.nil⟩
 replace hm := ifF hc2 hm
 refine wpc_skip <| nrm <| ws <| s_ld (i := 3) (cs := (c_api_Log a0 a0v3 a0v4 a0v5)) S15 rfl rfl isAgg26 sizeOf26 rfl (fun h => by cases h) ?_
 obtain ⟨x6, q6, hm⟩ := obind_some hm
 replace a0h3 := a0h3.up (mt l1 (mt l6 l9))
 replace a0h4 := a0h4.up (mt l1 (mt l6 l9))
 replace a0h5 := a0h5.up (mt l1 (mt l6 l9))
 refine s_call call23 (w_logd_all (a0 := a0) S15 a0h3 a0h4 a0h5 q6) rfl ?_
 rintro v1 w14 ⟨m14, l14, _, c1, S22, rfl, h1⟩
 clear S15
 refine s_asv (v := v1) rfl <| nx <| s_mvv (v := v1) rfl <| s_funcC (caps := [pt b2 0]) rfl ?_
 have hcb1 : ∀ {m' : Mem} {As' : List Ow} {w' : World} {s : (List UInt8)} {X : List Ow} {b0 : g_api_Leaf} {b0v0 : Value} {r : Bool × (List UInt8)}, St m' (X ++ As') w' → (∃ (z0_0 : Value), X = [bx b2 [z0_0] 57] ∧ SlR m' z0_0 (s)) → SlR m' b0v0 b0.Body → (fun (s1 : (List UInt8)) (b5 : g_api_Leaf) => obind (m_logd_Add_1 b5 s1) fun x7 => some (x7.1, x7.2)) s b0 = some r → CallV Tryz.prog (.func (.func 44) #[] #[pt b2 0]) [.agg (c_api_Leaf b0 b0v0).toArray] w' fun v w'' => ∃ (M : Mem) (X' : List Ow), m' ≤ M ∧ St M (X' ++ As') w'' ∧ (∃ (z0_0 : Value), X' = [bx b2 [z0_0] 57] ∧ SlR M z0_0 (r.2)) ∧ v = vb r.1 := by
   intro m15 As1 w15 s1 X1 b5 v2 r2 S23 h2 h3 hm1
   obtain ⟨v3, rfl, h4⟩ := h2
   replace S23 : St _ ((bx b2 [v3] 57) :: As1) _ := S23
   have L2 := Mem.rfl' m15
   obtain ⟨x7, q7, hm1⟩ := obind_some hm1
   refine CallV.mono (CallV.clo (pre := []) call44 rfl (w_logd_Add_1 (a0 := b5) (k0 := s1) S23 h3 h4 q7)) ?_
   rintro _ w16 ⟨m16, l15, v4, S24, rfl, h5⟩
   replace L2 := Mem.tr L2 l15
   clear S23
   replace S24 : St _ ((bx b2 [v4] 57) :: As1) _ := S24
   have e0 := Option.some.inj hm1
   subst e0
   exact ⟨_, [bx b2 [v4] 57], L2, S24, ⟨_, rfl, h5⟩, rfl⟩
 obtain ⟨m17, l16, h6, S25⟩ := St.rowKeepT (i := 0) S22 rfl h1 rfl
 clear S22
 have S26 : St _ ((bx b2 [a1v0] 57) :: (bx b4 z_api_Promise 59) :: (bx b3 z_api_Log 26) :: (bx b1 (c_api_Log a0 a0v3 a0v4 a0v5) 26) :: As) _ := St.perm S25 (List.Perm.trans (List.Perm.cons _ (List.Perm.swap _ _ _)) (List.Perm.swap _ _ _))
 clear S25
 obtain ⟨x8, q8, hm⟩ := obind_some hm
 replace a1h0 := a1h0.up (mt l1 (mt l6 (mt l9 (mt l14 l16))))
 refine s_call call43 (w_slices_IndexFunc_api_Leaf_api_Leaf (a0 := x6) (p1 := (fun (s1 : (List UInt8)) (b5 : g_api_Leaf) => obind (m_logd_Add_1 b5 s1) fun x7 => some (x7.1, x7.2))) (s0 := a1) (R := (fun (s : (List UInt8)) (M : Mem) (X : List Ow) => (∃ (z0_0 : Value), X = [bx b2 [z0_0] 57] ∧ SlR M z0_0 (s)))) (X0 := [bx b2 [a1v0] 57]) (As := (bx b4 z_api_Promise 59) :: (bx b3 z_api_Log 26) :: (bx b1 (c_api_Log a0 a0v3 a0v4 a0v5) 26) :: As) S26 (fun l h => by obtain ⟨z0_0, rfl, h0⟩ := h; exact ⟨_, rfl, h0.up l⟩) ⟨_, rfl, a1h0⟩ @hcb1 rfl h6 q8) rfl ?_
 rintro _ w17 ⟨m18, l17, X2, S27, rfl, ⟨v5, rfl, h7⟩⟩
 clear S26
 refine s_asv (v := vI x8.1) rfl <| wpl_nil <| nrm <| wpc_seq <| wpc_block <| ws <| s_mvv (v := vI x8.1) rfl <| s_geq (m := x8.1) (n := 0) rfl rfl <| s_asv (v := vb (decide (x8.1 ≥ 0))) rfl <| wpl_nil <| nrm <| wpc_if (t := (decide (x8.1 ≥ 0))) rfl (fun hc3 => ?_) (fun hc3 => ?_)
 · replace hm := ifT hc3 hm
   refine wpc_region <| s_mvv (v := v1) rfl <| s_mvv (v := vI x8.1) rfl ?_
   obtain ⟨x9, q9, hm⟩ := obind_some hm
   refine s_idx (q := x9) rfl rfl (h6.up l17) q9 underlying23 sizeOf70 fun p1 c2 h8 r3 => ?_
   obtain ⟨v6, rfl, h9⟩ := rep_g_api_Leaf r3
   refine s_fldM (n := 0) rfl h8 underlying70 rfl rfl sizeOf3 fun p2 h10 => ?_
   replace h10 : PtC _ _ [vI x9.At] := h10
   refine s_ldM (cs := [vI x9.At]) S27 rfl h10 rfl isAgg3 sizeOf3 (fun _ => rfl) <| s_asv (v := vI x9.At) rfl <| wpl_nil <| nrmB <| nrm <| wpc_seq ?_
   obtain ⟨x10, q10, hm⟩ := obind_some hm
   have HM : MonoAll [(58, fv (pt b1 0)), (59, fv (vI a0.Id)), (60, fv (vI x9.At)), (61, fv v5), (62, fv (.agg #[vU x10.1, vU x10.2]))] := ⟨mv, mv, mv, mv, mv, trivial⟩
   refine wpc_flowG HM 5 mixed rfl rfl rfl (rg 58 5) (fun L f M w => St M ((bx b2 [v5] 57) :: (bx b4 z_api_Promise 59) :: (bx b3 z_api_Log 26) :: (bx b1 (c_api_Log a0 a0v3 a0v4 a0v5) 26) :: As) w) (St.drew S27 _) ?_ ?_
   · refine ⟨?_, ?_, ?_, ?_, ?_, trivial⟩
     · exact flp HM rfl [] (fun _ _ => trivial) (fun _ _ q => s_fld (n := 0) rfl underlying26 rfl rfl sizeOf3 q) rfl
     · exact flp HM rfl [(58, _)] (fun K _ => ⟨K 0 rfl, trivial⟩) (fun _ S29 q => s_ld (i := 3) (cs := [vI a0.Id]) S29 rfl rfl isAgg3 sizeOf3 rfl (fun _ => rfl) q) rfl
     · exact flp HM rfl [] (fun _ _ => trivial) (fun _ _ q => s_mvv (v := vI x9.At) rfl q) rfl
     · exact flp HM rfl [] (fun _ _ => trivial) (fun _ S31 q => s_ld (i := 0) (cs := [v5]) S31 rfl rfl isAgg57 sizeOf57 rfl (fun _ => rfl) q) rfl
     · intro L f6 w22 hL hd hc ⟨m23, L11, S32, K, hO⟩
       obtain ⟨u6, rfl⟩ := fr_of (N := 76) (L := [(61, _)]) hO ⟨K 3 (dep hd rfl), trivial⟩
       have L12 := Mem.rfl' m23
       refine s_call call19 (w_merkle_Leaf (a0 := x8.2) S32 (h7.up L11) q10) rfl ?_
       rintro _ w23 ⟨m24, l18, S33, rfl⟩
       clear S32
       refine wpn ?_
       replace L12 := Mem.tr L12 l18
       exact ⟨m24, Mem.tr L11 L12, S33, facts_step HM rfl K L12 rfl rfl rfl, outP⟩
   intro L f7 w24 hall ⟨m25, L13, S34, K, hO⟩
   have d1 : L 1 = true := hall 1 (by decide)
   have d2 : L 2 = true := hall 2 (by decide)
   have d4 : L 4 = true := hall 4 (by decide)
   obtain ⟨u7, rfl⟩ := fr_of (N := 76) (L := [(59, _), (60, _), (62, _)]) hO ⟨K 1 d1, K 2 d2, K 4 d4, trivial⟩
   replace S34 : St _ ((bx b2 [v5] 57) :: (bx b4 z_api_Promise 59) :: (bx b3 z_api_Log 26) :: (bx b1 (c_api_Log a0 a0v3 a0v4 a0v5) 26) :: As) _ := S34
   clear S27
   refine s_build (parts := [(0, .tmp 59), (1, .tmp 60), (2, .tmp 62)]) (ps := [(0, vI a0.Id, [vI a0.Id]), (1, vI x9.At, [vI x9.At]), (2, .agg #[vU x10.1, vU x10.2], [vU x10.1, vU x10.2])]) (cs := [vI a0.Id, vI x9.At, vU x10.1, vU x10.2, vU 0, vU 0]) zeroValue59 (BuildPl.str (ss := [1, 1, 2, 2]) underlying59 ⟨sizeOf3, sizeOf3, sizeOf36, sizeOf38, trivial⟩) rfl ⟨rfl, rfl, rfl, trivial⟩ rfl <| s_stL (i := 1) S34 rfl rfl rfl sizeOf59 (oneC rfl (oneC rfl (oneC rfl (oneC rfl (oneC rfl (oneC rfl oneN)))))) rfl fun w25 S35 => ?_
   replace S35 : St _ ((bx b2 [v5] 57) :: (bx b4 [vI a0.Id, vI x9.At, vU x10.1, vU x10.2, vU 0, vU 0] 59) :: (bx b3 z_api_Log 26) :: (bx b1 (c_api_Log a0 a0v3 a0v4 a0v5) 26) :: As) _ := S35
   clear S34
   refine wpl_nil <| nrm <| wpc_seq ?_
   obtain ⟨x11, q11, hm⟩ := obind_some hm
   obtain ⟨x12, q12, hm⟩ := obind_some hm
   have HM : MonoAll [(65, fv (pt b1 1)), (66, fv (vU a0.Key)), (67, fv (.agg #[vI a0.Id, vI x9.At, vU x10.1, vU x10.2, vU 0, vU 0])), (68, fun (M : Mem) (v : Value) => ∃ (v7 : Value), v = v7 ∧ SlR M v7 x11), (69, fv (.tuple #[.agg (c_api_Sig x12.1).toArray, vI x12.2])), (64, fv (.tuple #[.agg (c_api_Sig x12.1).toArray, vI x12.2])), (70, fv (.agg (c_api_Sig x12.1).toArray)), (71, fv (vI x12.2)), (72, fv (pt b4 4)), (100009, fun _ _ => True)] := ⟨mv, mv, mv, (fun _ _ _ l ⟨v7, e, h12⟩ => ⟨v7, e, h12.up l⟩), mv, mv, mv, mv, mv, (fun _ _ _ _ h => h), trivial⟩
   refine wpc_flowG HM 10 mixed rfl rfl rfl (rg 64 9) (fun L f M w => St M ((bx b2 [v5] 57) :: (bx b4 (bif L 9 then [vI a0.Id, vI x9.At, vU x10.1, vU x10.2, vU x12.1.E, vU x12.1.S] else [vI a0.Id, vI x9.At, vU x10.1, vU x10.2, vU 0, vU 0]) 59) :: (bx b3 z_api_Log 26) :: (bx b1 (c_api_Log a0 a0v3 a0v4 a0v5) 26) :: As) w) (St.drew S35 _) ?_ ?_
   · refine ⟨?_, ?_, ?_, ?_, ?_, ?_, ?_, ?_, ?_, ?_, trivial⟩
     · exact flp HM rfl [] (fun _ _ => trivial) (fun _ _ q => s_fld (n := 0) rfl underlying26 rfl rfl sizeOf22 q) rfl
     · intro L f9 w27 hL hd hc ⟨m27, L16, S37, K, hO⟩
       have d9 : L 9 = false := undep hc hL rfl
       replace S37 : St _ ((bx b2 [v5] 57) :: (bx b4 (bif L 9 then [vI a0.Id, vI x9.At, vU x10.1, vU x10.2, vU x12.1.E, vU x12.1.S] else [vI a0.Id, vI x9.At, vU x10.1, vU x10.2, vU 0, vU 0]) 59) :: (bx b3 z_api_Log 26) :: (bx b1 (c_api_Log a0 a0v3 a0v4 a0v5) 26) :: As) _ := S37
       rw [d9] at S37
       obtain ⟨u9, rfl⟩ := fr_of (N := 76) (L := [(65, _)]) hO ⟨K 0 (dep hd rfl), trivial⟩
       replace S37 : St _ ((bx b2 [v5] 57) :: (bx b4 [vI a0.Id, vI x9.At, vU x10.1, vU x10.2, vU 0, vU 0] 59) :: (bx b3 z_api_Log 26) :: (bx b1 (c_api_Log a0 a0v3 a0v4 a0v5) 26) :: As) _ := S37
       have L17 := Mem.rfl' m27
       refine s_ld (i := 3) (cs := [vU a0.Key]) S37 rfl rfl isAgg22 sizeOf22 rfl (fun _ => rfl) <| wpn <| ⟨m27, Mem.tr L16 L17, ?_, facts_step HM rfl K L17 rfl rfl rfl, outP⟩
       show St _ ((bx b2 [v5] 57) :: (bx b4 (bif L 9 then [vI a0.Id, vI x9.At, vU x10.1, vU x10.2, vU x12.1.E, vU x12.1.S] else [vI a0.Id, vI x9.At, vU x10.1, vU x10.2, vU 0, vU 0]) 59) :: (bx b3 z_api_Log 26) :: (bx b1 (c_api_Log a0 a0v3 a0v4 a0v5) 26) :: As) _
       rw [d9]
       exact S37
     · intro L f10 w28 hL hd hc ⟨m28, L18, S38, K, hO⟩
       have d9 : L 9 = false := undep hc hL rfl
       replace S38 : St _ ((bx b2 [v5] 57) :: (bx b4 (bif L 9 then [vI a0.Id, vI x9.At, vU x10.1, vU x10.2, vU x12.1.E, vU x12.1.S] else [vI a0.Id, vI x9.At, vU x10.1, vU x10.2, vU 0, vU 0]) 59) :: (bx b3 z_api_Log 26) :: (bx b1 (c_api_Log a0 a0v3 a0v4 a0v5) 26) :: As) _ := S38
       rw [d9] at S38
       obtain ⟨u10, rfl⟩ := fr_of (N := 76) (L := []) hO trivial
       replace S38 : St _ ((bx b2 [v5] 57) :: (bx b4 [vI a0.Id, vI x9.At, vU x10.1, vU x10.2, vU 0, vU 0] 59) :: (bx b3 z_api_Log 26) :: (bx b1 (c_api_Log a0 a0v3 a0v4 a0v5) 26) :: As) _ := S38
       have L19 := Mem.rfl' m28
       refine s_ld (i := 1) (cs := [vI a0.Id, vI x9.At, vU x10.1, vU x10.2, vU 0, vU 0]) S38 rfl rfl isAgg59 sizeOf59 rfl (fun h => by cases h) <| wpn <| ⟨m28, Mem.tr L18 L19, ?_, facts_step HM rfl K L19 rfl rfl rfl, outP⟩
       show St _ ((bx b2 [v5] 57) :: (bx b4 (bif L 9 then [vI a0.Id, vI x9.At, vU x10.1, vU x10.2, vU x12.1.E, vU x12.1.S] else [vI a0.Id, vI x9.At, vU x10.1, vU x10.2, vU 0, vU 0]) 59) :: (bx b3 z_api_Log 26) :: (bx b1 (c_api_Log a0 a0v3 a0v4 a0v5) 26) :: As) _
       rw [d9]
       exact S38
     · intro L f11 w29 hL hd hc ⟨m29, L20, S39, K, hO⟩
       have d9 : L 9 = false := undep hc hL rfl
       replace S39 : St _ ((bx b2 [v5] 57) :: (bx b4 (bif L 9 then [vI a0.Id, vI x9.At, vU x10.1, vU x10.2, vU x12.1.E, vU x12.1.S] else [vI a0.Id, vI x9.At, vU x10.1, vU x10.2, vU 0, vU 0]) 59) :: (bx b3 z_api_Log 26) :: (bx b1 (c_api_Log a0 a0v3 a0v4 a0v5) 26) :: As) _ := S39
       rw [d9] at S39
       obtain ⟨u11, rfl⟩ := fr_of (N := 76) (L := [(67, _)]) hO ⟨K 2 (dep hd rfl), trivial⟩
       replace S39 : St _ ((bx b2 [v5] 57) :: (bx b4 [vI a0.Id, vI x9.At, vU x10.1, vU x10.2, vU 0, vU 0] 59) :: (bx b3 z_api_Log 26) :: (bx b1 (c_api_Log a0 a0v3 a0v4 a0v5) 26) :: As) _ := S39
       have L21 := Mem.rfl' m29
       refine s_call call48 (w_logd_ofPromise (a0 := (⟨a0.Id, x9.At, x10, (⟨0, 0⟩ : g_api_Sig)⟩ : g_api_Promise)) S39  q11) rfl ?_
       rintro v7 w30 ⟨m30, l19, _, c3, S40, rfl, h11⟩
       clear S39
       obtain ⟨m31, l20, h12, S41⟩ := St.rowKeepT (i := 0) S40 rfl h11 rfl
       clear S40
       refine wpn ?_
       replace L21 := Mem.tr L21 (mt l19 l20)
       refine ⟨m31, Mem.tr L20 L21, ?_, facts_step HM rfl K L21 rfl rfl ⟨v7, rfl, h12⟩, outP⟩
       show St _ ((bx b2 [v5] 57) :: (bx b4 (bif L 9 then [vI a0.Id, vI x9.At, vU x10.1, vU x10.2, vU x12.1.E, vU x12.1.S] else [vI a0.Id, vI x9.At, vU x10.1, vU x10.2, vU 0, vU 0]) 59) :: (bx b3 z_api_Log 26) :: (bx b1 (c_api_Log a0 a0v3 a0v4 a0v5) 26) :: As) _
       rw [d9]
       exact S41
     · intro L f12 w31 hL hd hc ⟨m32, L22, S42, K, hO⟩
       have d9 : L 9 = false := undep hc hL rfl
       obtain ⟨v8, e9, h13⟩ := K 3 (dep hd rfl)
       replace S42 : St _ ((bx b2 [v5] 57) :: (bx b4 (bif L 9 then [vI a0.Id, vI x9.At, vU x10.1, vU x10.2, vU x12.1.E, vU x12.1.S] else [vI a0.Id, vI x9.At, vU x10.1, vU x10.2, vU 0, vU 0]) 59) :: (bx b3 z_api_Log 26) :: (bx b1 (c_api_Log a0 a0v3 a0v4 a0v5) 26) :: As) _ := S42
       rw [d9] at S42
       obtain ⟨u12, rfl⟩ := fr_of (N := 76) (L := [(66, _), (68, _)]) hO ⟨K 1 (dep hd rfl), e9, trivial⟩
       replace S42 : St _ ((bx b2 [v5] 57) :: (bx b4 [vI a0.Id, vI x9.At, vU x10.1, vU x10.2, vU 0, vU 0] 59) :: (bx b3 z_api_Log 26) :: (bx b1 (c_api_Log a0 a0v3 a0v4 a0v5) 26) :: As) _ := S42
       have L23 := Mem.rfl' m32
       refine s_call call28 (w_sign_Sign (a0 := a0.Key) (a1 := x11) S42 h13 q12) rfl ?_
       rintro _ w32 ⟨m33, l21, S43, rfl⟩
       clear S42
       refine wpn ?_
       replace L23 := Mem.tr L23 l21
       refine ⟨m33, Mem.tr L22 L23, ?_, facts_step HM rfl K L23 rfl rfl rfl, outP⟩
       show St _ ((bx b2 [v5] 57) :: (bx b4 (bif L 9 then [vI a0.Id, vI x9.At, vU x10.1, vU x10.2, vU x12.1.E, vU x12.1.S] else [vI a0.Id, vI x9.At, vU x10.1, vU x10.2, vU 0, vU 0]) 59) :: (bx b3 z_api_Log 26) :: (bx b1 (c_api_Log a0 a0v3 a0v4 a0v5) 26) :: As) _
       rw [d9]
       exact S43
     · exact flp HM rfl [(69, _)] (fun K _ => ⟨K 4 rfl, trivial⟩) (fun _ _ q => s_mvv (v := .tuple #[.agg (c_api_Sig x12.1).toArray, vI x12.2]) rfl q) rfl
     · exact flp HM rfl [(64, _)] (fun K _ => ⟨K 5 rfl, trivial⟩) (fun _ _ q => s_ext (i := 0) rfl rfl q) rfl
     · exact flp HM rfl [(64, _)] (fun K _ => ⟨K 5 rfl, trivial⟩) (fun _ _ q => s_ext (i := 1) rfl rfl q) rfl
     · exact flp HM rfl [] (fun _ _ => trivial) (fun _ _ q => s_fld (n := 1) rfl underlying59 rfl rfl sizeOf38 q) rfl
     · intro L f17 w37 hL hd hc ⟨m38, L32, S48, K, hO⟩
       have d9 : L 9 = false := hL
       replace S48 : St _ ((bx b2 [v5] 57) :: (bx b4 (bif L 9 then [vI a0.Id, vI x9.At, vU x10.1, vU x10.2, vU x12.1.E, vU x12.1.S] else [vI a0.Id, vI x9.At, vU x10.1, vU x10.2, vU 0, vU 0]) 59) :: (bx b3 z_api_Log 26) :: (bx b1 (c_api_Log a0 a0v3 a0v4 a0v5) 26) :: As) _ := S48
       rw [d9] at S48
       obtain ⟨u17, rfl⟩ := fr_of (N := 76) (L := [(72, _), (70, _)]) hO ⟨K 8 (dep hd rfl), K 6 (dep hd rfl), trivial⟩
       replace S48 : St _ ((bx b2 [v5] 57) :: (bx b4 [vI a0.Id, vI x9.At, vU x10.1, vU x10.2, vU 0, vU 0] 59) :: (bx b3 z_api_Log 26) :: (bx b1 (c_api_Log a0 a0v3 a0v4 a0v5) 26) :: As) _ := S48
       refine s_stL (i := 1) S48 rfl rfl rfl sizeOf38 (oneC rfl (oneC rfl oneN)) rfl fun w38 S49 => ?_
       replace S49 : St _ ((bx b2 [v5] 57) :: (bx b4 [vI a0.Id, vI x9.At, vU x10.1, vU x10.2, vU x12.1.E, vU x12.1.S] 59) :: (bx b3 z_api_Log 26) :: (bx b1 (c_api_Log a0 a0v3 a0v4 a0v5) 26) :: As) _ := S49
       clear S48
       exact oN HM L32 S49 K rfl (fun _ => trivial) outP
   intro L f18 w39 hall ⟨m39, L34, S50, K, hO⟩
   have d9 : L 9 = true := hall 9 (by decide)
   have d7 : L 7 = true := hall 7 (by decide)
   replace S50 : St _ ((bx b2 [v5] 57) :: (bx b4 (bif L 9 then [vI a0.Id, vI x9.At, vU x10.1, vU x10.2, vU x12.1.E, vU x12.1.S] else [vI a0.Id, vI x9.At, vU x10.1, vU x10.2, vU 0, vU 0]) 59) :: (bx b3 z_api_Log 26) :: (bx b1 (c_api_Log a0 a0v3 a0v4 a0v5) 26) :: As) _ := S50
   rw [d9] at S50
   obtain ⟨u18, rfl⟩ := fr_of (N := 76) (L := [(71, _)]) hO ⟨K 7 d7, trivial⟩
   replace S50 : St _ ((bx b2 [v5] 57) :: (bx b4 [vI a0.Id, vI x9.At, vU x10.1, vU x10.2, vU x12.1.E, vU x12.1.S] 59) :: (bx b3 z_api_Log 26) :: (bx b1 (c_api_Log a0 a0v3 a0v4 a0v5) 26) :: As) _ := S50
   clear S35
   refine s_asv (v := vI x12.2) rfl <| wpl_nil <| nrm <| wpc_seq ?_
   have HM : MonoAll [(73, fv (.agg (c_api_Log a0 a0v3 a0v4 a0v5).toArray)), (74, fv (.agg #[vI a0.Id, vI x9.At, vU x10.1, vU x10.2, vU x12.1.E, vU x12.1.S])), (75, fv (vI x12.2)), (100003, fun _ _ => True), (100004, fun _ _ => True)] := ⟨mv, mv, mv, (fun _ _ _ _ h => h), (fun _ _ _ _ h => h), trivial⟩
   refine wpc_flowG HM 5 mixed rfl rfl rfl [73, 74, 75] (fun L f M w => St M ((bx b2 [v5] 57) :: (bx b4 (bif L 4 then [vI a0.Id, vI x9.At, vU x10.1, vU x10.2, vU x12.1.E, vU x12.1.S] else [vI a0.Id, vI x9.At, vU x10.1, vU x10.2, vU x12.1.E, vU x12.1.S]) 59) :: (bx b3 (bif L 3 then (c_api_Log a0 a0v3 a0v4 a0v5) else z_api_Log) 26) :: (bx b1 (c_api_Log a0 a0v3 a0v4 a0v5) 26) :: As) w) (St.drew S50 _) ?_ ?_
   · refine ⟨?_, ?_, ?_, ?_, ?_, trivial⟩
     · intro L f19 w40 hL hd hc ⟨m40, L35, S51, K, hO⟩
       have d3 : L 3 = false := undep hc hL rfl
       have d4 : L 4 = false := undep hc hL rfl
       replace S51 : St _ ((bx b2 [v5] 57) :: (bx b4 (bif L 4 then [vI a0.Id, vI x9.At, vU x10.1, vU x10.2, vU x12.1.E, vU x12.1.S] else [vI a0.Id, vI x9.At, vU x10.1, vU x10.2, vU x12.1.E, vU x12.1.S]) 59) :: (bx b3 (bif L 3 then (c_api_Log a0 a0v3 a0v4 a0v5) else z_api_Log) 26) :: (bx b1 (c_api_Log a0 a0v3 a0v4 a0v5) 26) :: As) _ := S51
       rw [d3, d4] at S51
       obtain ⟨u19, rfl⟩ := fr_of (N := 76) (L := []) hO trivial
       replace S51 : St _ ((bx b2 [v5] 57) :: (bx b4 [vI a0.Id, vI x9.At, vU x10.1, vU x10.2, vU x12.1.E, vU x12.1.S] 59) :: (bx b3 z_api_Log 26) :: (bx b1 (c_api_Log a0 a0v3 a0v4 a0v5) 26) :: As) _ := S51
       have L36 := Mem.rfl' m40
       refine s_ld (i := 3) (cs := (c_api_Log a0 a0v3 a0v4 a0v5)) S51 rfl rfl isAgg26 sizeOf26 rfl (fun h => by cases h) <| wpn <| ⟨m40, Mem.tr L35 L36, ?_, facts_step HM rfl K L36 rfl rfl rfl, outP⟩
       show St _ ((bx b2 [v5] 57) :: (bx b4 (bif L 4 then [vI a0.Id, vI x9.At, vU x10.1, vU x10.2, vU x12.1.E, vU x12.1.S] else [vI a0.Id, vI x9.At, vU x10.1, vU x10.2, vU x12.1.E, vU x12.1.S]) 59) :: (bx b3 (bif L 3 then (c_api_Log a0 a0v3 a0v4 a0v5) else z_api_Log) 26) :: (bx b1 (c_api_Log a0 a0v3 a0v4 a0v5) 26) :: As) _
       rw [d3, d4]
       exact S51
     · intro L f20 w41 hL hd hc ⟨m41, L37, S52, K, hO⟩
       have d4 : L 4 = false := undep hc hL rfl
       replace S52 : St _ ((bx b2 [v5] 57) :: (bx b4 (bif L 4 then [vI a0.Id, vI x9.At, vU x10.1, vU x10.2, vU x12.1.E, vU x12.1.S] else [vI a0.Id, vI x9.At, vU x10.1, vU x10.2, vU x12.1.E, vU x12.1.S]) 59) :: (bx b3 (bif L 3 then (c_api_Log a0 a0v3 a0v4 a0v5) else z_api_Log) 26) :: (bx b1 (c_api_Log a0 a0v3 a0v4 a0v5) 26) :: As) _ := S52
       rw [d4] at S52
       obtain ⟨u20, rfl⟩ := fr_of (N := 76) (L := []) hO trivial
       replace S52 : St _ ((bx b2 [v5] 57) :: (bx b4 [vI a0.Id, vI x9.At, vU x10.1, vU x10.2, vU x12.1.E, vU x12.1.S] 59) :: (bx b3 (bif L 3 then (c_api_Log a0 a0v3 a0v4 a0v5) else z_api_Log) 26) :: (bx b1 (c_api_Log a0 a0v3 a0v4 a0v5) 26) :: As) _ := S52
       have L38 := Mem.rfl' m41
       refine s_ld (i := 1) (cs := [vI a0.Id, vI x9.At, vU x10.1, vU x10.2, vU x12.1.E, vU x12.1.S]) S52 rfl rfl isAgg59 sizeOf59 rfl (fun h => by cases h) <| wpn <| ⟨m41, Mem.tr L37 L38, ?_, facts_step HM rfl K L38 rfl rfl rfl, outP⟩
       show St _ ((bx b2 [v5] 57) :: (bx b4 (bif L 4 then [vI a0.Id, vI x9.At, vU x10.1, vU x10.2, vU x12.1.E, vU x12.1.S] else [vI a0.Id, vI x9.At, vU x10.1, vU x10.2, vU x12.1.E, vU x12.1.S]) 59) :: (bx b3 (bif L 3 then (c_api_Log a0 a0v3 a0v4 a0v5) else z_api_Log) 26) :: (bx b1 (c_api_Log a0 a0v3 a0v4 a0v5) 26) :: As) _
       rw [d4]
       exact S52
     · exact flp HM rfl [] (fun _ _ => trivial) (fun _ _ q => s_mvv (v := vI x12.2) rfl q) rfl
     · intro L f22 w43 hL hd hc ⟨m43, L41, S54, K, hO⟩
       have d3 : L 3 = false := hL
       have d4 : L 4 = false := undep hc hL rfl
       replace S54 : St _ ((bx b2 [v5] 57) :: (bx b4 (bif L 4 then [vI a0.Id, vI x9.At, vU x10.1, vU x10.2, vU x12.1.E, vU x12.1.S] else [vI a0.Id, vI x9.At, vU x10.1, vU x10.2, vU x12.1.E, vU x12.1.S]) 59) :: (bx b3 (bif L 3 then (c_api_Log a0 a0v3 a0v4 a0v5) else z_api_Log) 26) :: (bx b1 (c_api_Log a0 a0v3 a0v4 a0v5) 26) :: As) _ := S54
       rw [d3, d4] at S54
       obtain ⟨u22, rfl⟩ := fr_of (N := 76) (L := [(73, _)]) hO ⟨K 0 (dep hd rfl), trivial⟩
       replace S54 : St _ ((bx b2 [v5] 57) :: (bx b4 [vI a0.Id, vI x9.At, vU x10.1, vU x10.2, vU x12.1.E, vU x12.1.S] 59) :: (bx b3 z_api_Log 26) :: (bx b1 (c_api_Log a0 a0v3 a0v4 a0v5) 26) :: As) _ := S54
       have L42 := Mem.rfl' m43
       replace a0h3 := a0h3.up (mt l14 (mt l16 (mt l17 (mt L13 (mt L34 L41)))))
       replace a0h4 := a0h4.up (mt l14 (mt l16 (mt l17 (mt L13 (mt L34 L41)))))
       replace a0h5 := a0h5.up (mt l14 (mt l16 (mt l17 (mt L13 (mt L34 L41)))))
       refine s_stL (i := 2) S54 rfl rfl rfl sizeOf26 (oneC rfl (oneC rfl (oneC rfl (oneC (SlR.one a0h3) (oneC (SlR.one a0h4) (oneC (SlR.one a0h5) oneN)))))) rfl fun w44 S55 => ?_
       replace S55 : St _ ((bx b2 [v5] 57) :: (bx b4 [vI a0.Id, vI x9.At, vU x10.1, vU x10.2, vU x12.1.E, vU x12.1.S] 59) :: (bx b3 (c_api_Log a0 a0v3 a0v4 a0v5) 26) :: (bx b1 (c_api_Log a0 a0v3 a0v4 a0v5) 26) :: As) _ := S55
       clear S54
       refine wpn <| ⟨m43, Mem.tr L41 L42, ?_, facts_none HM K L42 rfl (fun _ => trivial), outP⟩
       show St _ ((bx b2 [v5] 57) :: (bx b4 (bif L 4 then [vI a0.Id, vI x9.At, vU x10.1, vU x10.2, vU x12.1.E, vU x12.1.S] else [vI a0.Id, vI x9.At, vU x10.1, vU x10.2, vU x12.1.E, vU x12.1.S]) 59) :: (bx b3 (bif true then (c_api_Log a0 a0v3 a0v4 a0v5) else z_api_Log) 26) :: (bx b1 (c_api_Log a0 a0v3 a0v4 a0v5) 26) :: As) _
       rw [d4]
       exact S55
     · intro L f23 w45 hL hd hc ⟨m44, L43, S56, K, hO⟩
       have d3 : L 3 = true := dep hd rfl
       have d4 : L 4 = false := hL
       replace S56 : St _ ((bx b2 [v5] 57) :: (bx b4 (bif L 4 then [vI a0.Id, vI x9.At, vU x10.1, vU x10.2, vU x12.1.E, vU x12.1.S] else [vI a0.Id, vI x9.At, vU x10.1, vU x10.2, vU x12.1.E, vU x12.1.S]) 59) :: (bx b3 (bif L 3 then (c_api_Log a0 a0v3 a0v4 a0v5) else z_api_Log) 26) :: (bx b1 (c_api_Log a0 a0v3 a0v4 a0v5) 26) :: As) _ := S56
       rw [d3, d4] at S56
       obtain ⟨u23, rfl⟩ := fr_of (N := 76) (L := [(74, _)]) hO ⟨K 1 (dep hd rfl), trivial⟩
       replace S56 : St _ ((bx b2 [v5] 57) :: (bx b4 [vI a0.Id, vI x9.At, vU x10.1, vU x10.2, vU x12.1.E, vU x12.1.S] 59) :: (bx b3 (c_api_Log a0 a0v3 a0v4 a0v5) 26) :: (bx b1 (c_api_Log a0 a0v3 a0v4 a0v5) 26) :: As) _ := S56
       have L44 := Mem.rfl' m44
       refine s_stL (i := 1) S56 rfl rfl rfl sizeOf59 (oneC rfl (oneC rfl (oneC rfl (oneC rfl (oneC rfl (oneC rfl oneN)))))) rfl fun w46 S57 => ?_
       replace S57 : St _ ((bx b2 [v5] 57) :: (bx b4 [vI a0.Id, vI x9.At, vU x10.1, vU x10.2, vU x12.1.E, vU x12.1.S] 59) :: (bx b3 (c_api_Log a0 a0v3 a0v4 a0v5) 26) :: (bx b1 (c_api_Log a0 a0v3 a0v4 a0v5) 26) :: As) _ := S57
       clear S56
       refine wpn <| ⟨m44, Mem.tr L43 L44, ?_, facts_none HM K L44 rfl (fun _ => trivial), outP⟩
       show St _ ((bx b2 [v5] 57) :: (bx b4 (bif true then [vI a0.Id, vI x9.At, vU x10.1, vU x10.2, vU x12.1.E, vU x12.1.S] else [vI a0.Id, vI x9.At, vU x10.1, vU x10.2, vU x12.1.E, vU x12.1.S]) 59) :: (bx b3 (bif L 3 then (c_api_Log a0 a0v3 a0v4 a0v5) else z_api_Log) 26) :: (bx b1 (c_api_Log a0 a0v3 a0v4 a0v5) 26) :: As) _
       rw [d3]
       exact S57
   intro L f24 w47 hall ⟨m45, L45, S58, K, hO⟩
   have d3 : L 3 = true := hall 3 (by decide)
   have d4 : L 4 = true := hall 4 (by decide)
   have d2 : L 2 = true := hall 2 (by decide)
   replace S58 : St _ ((bx b2 [v5] 57) :: (bx b4 (bif L 4 then [vI a0.Id, vI x9.At, vU x10.1, vU x10.2, vU x12.1.E, vU x12.1.S] else [vI a0.Id, vI x9.At, vU x10.1, vU x10.2, vU x12.1.E, vU x12.1.S]) 59) :: (bx b3 (bif L 3 then (c_api_Log a0 a0v3 a0v4 a0v5) else z_api_Log) 26) :: (bx b1 (c_api_Log a0 a0v3 a0v4 a0v5) 26) :: As) _ := S58
   rw [d3, d4] at S58
   obtain ⟨u24, rfl⟩ := fr_of (N := 76) (L := [(75, _)]) hO ⟨K 2 d2, trivial⟩
   replace S58 : St _ ((bx b2 [v5] 57) :: (bx b4 [vI a0.Id, vI x9.At, vU x10.1, vU x10.2, vU x12.1.E, vU x12.1.S] 59) :: (bx b3 (c_api_Log a0 a0v3 a0v4 a0v5) 26) :: (bx b1 (c_api_Log a0 a0v3 a0v4 a0v5) 26) :: As) _ := S58
   clear S50
   refine s_asv (v := vI x12.2) rfl <| wpl_nil <| nrm <| wpc_ret <| outRw fun we hpd => ?_
   replace S58 := St.pd S58 hpd
   have SR := S58
   obtain ⟨m46, l22, S59⟩ := St.drop S58 0
   replace S59 : St _ ((bx b4 [vI a0.Id, vI x9.At, vU x10.1, vU x10.2, vU x12.1.E, vU x12.1.S] 59) :: (bx b3 (c_api_Log a0 a0v3 a0v4 a0v5) 26) :: (bx b1 (c_api_Log a0 a0v3 a0v4 a0v5) 26) :: As) _ := S59
   obtain ⟨m47, l23, S60⟩ := St.drop S59 0
   clear S59
   replace S60 : St _ ((bx b3 (c_api_Log a0 a0v3 a0v4 a0v5) 26) :: (bx b1 (c_api_Log a0 a0v3 a0v4 a0v5) 26) :: As) _ := S60
   obtain ⟨m48, l24, S61⟩ := St.drop S60 0
   clear S60
   replace S61 : St _ ((bx b1 (c_api_Log a0 a0v3 a0v4 a0v5) 26) :: As) _ := S61
   obtain ⟨m49, l25, S62⟩ := St.drop S61 0
   clear S61
   replace S62 : St _ (As) _ := S62
   have e0 := Option.some.inj hm
   subst e0
   replace L0 := Mem.tr L0 (mt l1 (mt l6 (mt l9 (mt l14 (mt l16 (mt l17 (mt L13 (mt L34 (mt L45 (mt l22 (mt l23 (mt l24 l25))))))))))))
   replace a0h3 := a0h3.up (mt l14 (mt l16 (mt l17 (mt L13 (mt L34 (mt L45 (mt l22 (mt l23 (mt l24 l25)))))))))
   replace a0h4 := a0h4.up (mt l14 (mt l16 (mt l17 (mt L13 (mt L34 (mt L45 (mt l22 (mt l23 (mt l24 l25)))))))))
   replace a0h5 := a0h5.up (mt l14 (mt l16 (mt l17 (mt L13 (mt L34 (mt L45 (mt l22 (mt l23 (mt l24 l25)))))))))
   exact outR [_, _, _] rfl ⟨res_box (i := 2) (off := 0) (cs := (c_api_Log a0 a0v3 a0v4 a0v5)) SR rfl rfl isAgg26 sizeOf26 rfl (fun h => by cases h), res_box (i := 1) (off := 0) (cs := [vI a0.Id, vI x9.At, vU x10.1, vU x10.2, vU x12.1.E, vU x12.1.S]) SR rfl rfl isAgg59 sizeOf59 rfl (fun h => by cases h), rfl, trivial⟩ ⟨_, L0, _, _, _, S62, rfl, a0h3, a0h4, a0h5⟩
 replace hm := ifF hc3 hm
 refine ws <| s_mvv (v := v1) rfl <| s_lenR (xs := x6) rfl (h6.up l17) underlying23 <| s_eql (m := (x6.length : Int)) (n := 256) rfl rfl <| s_asv (v := vb ((x6.length : Int) == 256)) rfl <| wpl_nil <| nrm <| wpc_if (t := ((x6.length : Int) == 256)) rfl (fun hc4 => ?_) (fun hc4 => ?_)
 · replace hm := ifT hc4 hm
   refine ws <| s_build (parts := []) (ps := []) (cs := z_api_Log) zeroValue26 (BuildPl.str (ss := [1, 1, 1, 1, 1, 1]) underlying26 ⟨sizeOf3, sizeOf22, sizeOf3, sizeOf23, sizeOf24, sizeOf23, trivial⟩) rfl trivial rfl <| s_build (parts := []) (ps := []) (cs := z_api_Promise) zeroValue59 (BuildPl.str (ss := [1, 1, 2, 2]) underlying59 ⟨sizeOf3, sizeOf3, sizeOf36, sizeOf38, trivial⟩) rfl trivial rfl <| s_stL (i := 2) S27 rfl rfl rfl sizeOf26 (oneC rfl (oneC rfl (oneC rfl (oneC rfl (oneC rfl (oneC rfl oneN)))))) rfl fun w48 S63 => s_stL (i := 1) S63 rfl rfl rfl sizeOf59 (oneC rfl (oneC rfl (oneC rfl (oneC rfl (oneC rfl (oneC rfl oneN)))))) rfl fun w49 S64 => ?_
   replace S64 : St _ ((bx b2 [v5] 57) :: (bx b4 z_api_Promise 59) :: (bx b3 z_api_Log 26) :: (bx b1 (c_api_Log a0 a0v3 a0v4 a0v5) 26) :: As) _ := S64
   clear S27 S63
   refine s_asv (v := vI 2) rfl <| wpl_nil <| nrm <| wpc_ret <| blR <| thR <| outRw fun we hpd => ?_
   replace S64 := St.pd S64 hpd
   have SR := S64
   obtain ⟨m50, l26, S65⟩ := St.drop S64 0
   replace S65 : St _ ((bx b4 z_api_Promise 59) :: (bx b3 z_api_Log 26) :: (bx b1 (c_api_Log a0 a0v3 a0v4 a0v5) 26) :: As) _ := S65
   obtain ⟨m51, l27, S66⟩ := St.drop S65 0
   clear S65
   replace S66 : St _ ((bx b3 z_api_Log 26) :: (bx b1 (c_api_Log a0 a0v3 a0v4 a0v5) 26) :: As) _ := S66
   obtain ⟨m52, l28, S67⟩ := St.drop S66 0
   clear S66
   replace S67 : St _ ((bx b1 (c_api_Log a0 a0v3 a0v4 a0v5) 26) :: As) _ := S67
   obtain ⟨m53, l29, S68⟩ := St.drop S67 0
   clear S67
   replace S68 : St _ (As) _ := S68
   have e0 := Option.some.inj hm
   subst e0
   replace L0 := Mem.tr L0 (mt l1 (mt l6 (mt l9 (mt l14 (mt l16 (mt l17 (mt l26 (mt l27 (mt l28 l29)))))))))
   exact outR [_, _, _] rfl ⟨res_box (i := 2) (off := 0) (cs := z_api_Log) SR rfl rfl isAgg26 sizeOf26 rfl (fun h => by cases h), res_box (i := 1) (off := 0) (cs := z_api_Promise) SR rfl rfl isAgg59 sizeOf59 rfl (fun h => by cases h), rfl, trivial⟩ ⟨_, L0, _, _, _, S68, rfl, SlR.nil, SlR.nil, SlR.nil⟩
 replace hm := ifF hc4 hm
 obtain ⟨x13, q13, hm⟩ := obind_some hm
 obtain ⟨x14, q14, hm⟩ := obind_some hm
 have HM : MonoAll [(34, fv (pt b1 5)), (35, fv a0v5), (36, fun _ _ => True), (37, fv v5), (38, fun _ _ => True), (39, fv (vI a2))] := ⟨mv, mv, (fun _ _ _ _ h => h), mv, (fun _ _ _ _ h => h), mv, trivial⟩
 refine wpc_flowG HM 6 mixed rfl rfl rfl (rg 34 6) (fun L f M w => ∃ (X3 : List Ow), ∃ (X4 : List Ow), ((L 2 = false → X3 = []) ∧ (L 2 = true → (RowS M X3 2 (f 36) x13))) ∧ ((L 4 = false → X4 = []) ∧ (L 4 = true → (RowS M X4 1 (f 38) x14))) ∧ St M ((bx b2 [v5] 57) :: (bx b4 z_api_Promise 59) :: (bx b3 z_api_Log 26) :: (bx b1 (c_api_Log a0 a0v3 a0v4 a0v5) 26) :: (X3 ++ (X4 ++ As))) w) (⟨[], [], ⟨fun _ => rfl, fun hx => ff hx⟩, ⟨fun _ => rfl, fun hx => ff hx⟩, St.drew S27 _⟩) ?_ ?_
 · refine ⟨?_, ?_, ?_, ?_, ?_, ?_, trivial⟩
   · exact flp HM rfl [] (fun _ _ => trivial) (fun _ _ q => s_fld (n := 0) rfl underlying26 rfl rfl sizeOf23 q) rfl
   · exact flp HM rfl [(34, _)] (fun K _ => ⟨K 0 rfl, trivial⟩) (fun _ ⟨_, _, _, _, S70⟩ q => s_ld (i := 3) (cs := [a0v5]) S70 rfl rfl isAgg23 sizeOf23 rfl (fun _ => rfl) q) rfl
   · intro L f27 w52 hL hd hc ⟨m56, L50, ⟨X3, X4, C5, C6, S71⟩, K, hO⟩
     have d2 : L 2 = false := hL
     obtain ⟨u27, rfl⟩ := fr_of (N := 76) (L := [(35, _)]) hO ⟨K 1 (dep hd rfl), trivial⟩
     obtain rfl := C5.1 d2
     replace S71 : St _ ((bx b2 [v5] 57) :: (bx b4 z_api_Promise 59) :: (bx b3 z_api_Log 26) :: (bx b1 (c_api_Log a0 a0v3 a0v4 a0v5) 26) :: (X4 ++ As)) _ := S71
     have L51 := Mem.rfl' m56
     replace a0h5 := a0h5.up (mt l14 (mt l16 (mt l17 L50)))
     refine s_call call46 (w_slices_Clone_api_Leaf_api_Leaf (a0 := a0.Wait) S71 a0h5 q13) rfl ?_
     rintro v9 w53 ⟨m57, l30, _, c4, S72, rfl, h14⟩
     replace C6 := C6.imp id (fun p a => RowS.up l30 (p a))
     clear S71
     refine wpn ?_
     replace L51 := Mem.tr L51 l30
     refine ⟨m57, Mem.tr L50 L51, ⟨[row 2 v9 c4 x13.length], X4, ⟨fun hx => tf rfl hx, fun _ => ⟨_, rfl, h14⟩⟩, C6, ?_⟩, facts_step HM rfl K L51 rfl rfl trivial, outP⟩
     have S118 : St _ ((bx b2 [v5] 57) :: (bx b4 z_api_Promise 59) :: (bx b3 z_api_Log 26) :: (bx b1 (c_api_Log a0 a0v3 a0v4 a0v5) 26) :: (row 2 v9 c4 x13.length) :: (X4 ++ As)) _ := St.perm S72 (List.Perm.trans (List.Perm.swap _ _ _) (List.Perm.trans (List.Perm.cons _ (List.Perm.swap _ _ _)) (List.Perm.trans (List.Perm.cons _ (List.Perm.cons _ (List.Perm.swap _ _ _))) (List.Perm.cons _ (List.Perm.cons _ (List.Perm.cons _ (List.Perm.swap _ _ _)))))))
     exact S118
   · exact flp HM rfl [] (fun _ _ => trivial) (fun _ ⟨_, _, _, _, S73⟩ q => s_ld (i := 0) (cs := [v5]) S73 rfl rfl isAgg57 sizeOf57 rfl (fun _ => rfl) q) rfl
   · intro L f29 w55 hL hd hc ⟨m59, L54, ⟨X3, X4, C9, C10, S74⟩, K, hO⟩
     have d4 : L 4 = false := hL
     obtain ⟨u29, rfl⟩ := fr_of (N := 76) (L := [(37, _)]) hO ⟨K 3 (dep hd rfl), trivial⟩
     replace S74 := St.sw (L := [bx b2 [v5] 57, bx b4 z_api_Promise 59, bx b3 z_api_Log 26, bx b1 (c_api_Log a0 a0v3 a0v4 a0v5) 26]) (X := X3) (Y := X4) (As := As) S74
     replace S74 : St _ ((bx b2 [v5] 57) :: (bx b4 z_api_Promise 59) :: (bx b3 z_api_Log 26) :: (bx b1 (c_api_Log a0 a0v3 a0v4 a0v5) 26) :: (X4 ++ (X3 ++ As))) _ := S74
     obtain rfl := C10.1 d4
     replace S74 : St _ ((bx b2 [v5] 57) :: (bx b4 z_api_Promise 59) :: (bx b3 z_api_Log 26) :: (bx b1 (c_api_Log a0 a0v3 a0v4 a0v5) 26) :: (X3 ++ As)) _ := S74
     have L55 := Mem.rfl' m59
     refine s_call call47 (w_bytes_Clone (a0 := x8.2) S74 (h7.up L54) q14) rfl ?_
     rintro v10 w56 ⟨m60, l31, _, c5, S75, rfl, h15⟩
     replace C9 := C9.imp id (fun p a => RowS.up l31 (p a))
     clear S74
     refine wpn ?_
     replace L55 := Mem.tr L55 l31
     refine ⟨m60, Mem.tr L54 L55, ⟨X3, [row 1 v10 c5 x14.length], C9, ⟨fun hx => tf rfl hx, fun _ => ⟨_, rfl, h15⟩⟩, ?_⟩, facts_step HM rfl K L55 rfl rfl trivial, outP⟩
     have S119 : St _ ((bx b2 [v5] 57) :: (bx b4 z_api_Promise 59) :: (bx b3 z_api_Log 26) :: (bx b1 (c_api_Log a0 a0v3 a0v4 a0v5) 26) :: (row 1 v10 c5 x14.length) :: (X3 ++ As)) _ := St.perm S75 (List.Perm.trans (List.Perm.swap _ _ _) (List.Perm.trans (List.Perm.cons _ (List.Perm.swap _ _ _)) (List.Perm.trans (List.Perm.cons _ (List.Perm.cons _ (List.Perm.swap _ _ _))) (List.Perm.cons _ (List.Perm.cons _ (List.Perm.cons _ (List.Perm.swap _ _ _)))))))
     have S119s := St.sw (L := [bx b2 [v5] 57, bx b4 z_api_Promise 59, bx b3 z_api_Log 26, bx b1 (c_api_Log a0 a0v3 a0v4 a0v5) 26]) (X := [row 1 v10 c5 x14.length]) (Y := X3) (As := As) S119
     exact S119s
   · exact flp HM rfl [] (fun _ _ => trivial) (fun _ _ q => s_mvv (v := vI a2) rfl q) rfl
 intro L f31 w58 hall ⟨m62, L58, ⟨X3, X4, C13, C14, S77⟩, K, hO⟩
 obtain ⟨v11, e22⟩ : ∃ x, f31 36 = x := ⟨_, rfl⟩
 obtain ⟨v12, e23⟩ : ∃ x, f31 38 = x := ⟨_, rfl⟩
 have d5 : L 5 = true := hall 5 (by decide)
 have d2 : L 2 = true := hall 2 (by decide)
 have d4 : L 4 = true := hall 4 (by decide)
 obtain ⟨u31, rfl⟩ := fr_of (N := 76) (L := [(36, _), (38, _), (39, _)]) hO ⟨e22, e23, K 5 d5, trivial⟩
 replace S77 : St _ ((bx b2 [v5] 57) :: (bx b4 z_api_Promise 59) :: (bx b3 z_api_Log 26) :: (bx b1 (c_api_Log a0 a0v3 a0v4 a0v5) 26) :: (X3 ++ (X4 ++ As))) _ := S77
 obtain ⟨c6, rfl, h16⟩ := C13.2 d2
 replace h16 : RepL _ c6 x13 := h16
 obtain ⟨c7, rfl, h17⟩ := C14.2 d4
 replace h17 : RepL _ c7 x14 := h17
 replace S77 : St _ ((bx b2 [v5] 57) :: (bx b4 z_api_Promise 59) :: (bx b3 z_api_Log 26) :: (bx b1 (c_api_Log a0 a0v3 a0v4 a0v5) 26) :: (row 2 v11 c6 x13.length) :: (row 1 v12 c7 x14.length) :: As) _ := S77
 clear S27
 obtain ⟨m63, l32, h18, S78⟩ := St.rowKeepT (i := 5) S77 rfl h17 rfl
 clear S77
 refine s_build (parts := [(0, .tmp 38), (1, .tmp 39)]) (ps := [(0, v12, [v12]), (1, vI a2, [vI a2])]) (cs := [v12, vI a2]) zeroValue70 (BuildPl.str (ss := [1, 1]) underlying70 ⟨sizeOf57, sizeOf3, trivial⟩) rfl ⟨SlR.cells h18, rfl, trivial⟩ rfl <| s_litC (parts := [.tmp 40]) (vs := [.agg #[v12, vI a2]]) (cls := [[v12, vI a2]]) (xs := ([(⟨x14, a2⟩ : g_api_Leaf)] : List g_api_Leaf)) (n := 1) S78 underlying23 sizeOf70 zeroValue70 rfl ⟨rfl, trivial⟩ (RepL.cons (c := [v12, vI a2]) (x := (⟨x14, a2⟩ : g_api_Leaf)) (mk_g_api_Leaf (x := (⟨x14, a2⟩ : g_api_Leaf)) h18) RepL.nil) rfl rfl rfl (by decide) (by decide) fun v13 m64 w59 l33 S79 h19 => ?_
 clear S78
 obtain ⟨x15, q15, hm⟩ := obind_some hm
 replace h16 := RepL.up (mt l32 l33) h16
 refine s_app (i := 4) (zs := x15) (bytes := 32) (ti := Tryz.t70) S79 rfl rfl h16 rfl rfl h19 q15 underlying23 type70 rfl rfl rfl rfl fun v14 c8 w60 S80 h20 => ?_
 replace S80 : St _ ((bx b2 [v5] 57) :: (bx b4 z_api_Promise 59) :: (bx b3 z_api_Log 26) :: (bx b1 (c_api_Log a0 a0v3 a0v4 a0v5) 26) :: (row 2 v14 c8 x15.length) :: As) _ := S80
 clear S79
 refine s_fld (n := 0) rfl underlying26 rfl rfl sizeOf23 <| s_stS (i := 3) S80 rfl rfl rfl sizeOf23 (St.rowCells (i := 4) S80 rfl) rfl fun w61 S81 => ?_
 replace S81 : St _ ((bx b2 [v5] 57) :: (bx b4 z_api_Promise 59) :: (bx b3 z_api_Log 26) :: (bx b1 (c_api_Log a0 a0v3 a0v4 v14) 26) :: (row 2 v14 c8 x15.length) :: As) _ := S81
 clear S80
 refine wpl_nil <| nrmB <| nrm <| wpc_seq ?_
 obtain ⟨x16, q16, hm⟩ := obind_some hm
 have HM : MonoAll [(58, fv (pt b1 0)), (59, fv (vI a0.Id)), (60, fv (vI a2)), (61, fv v5), (62, fv (.agg #[vU x16.1, vU x16.2]))] := ⟨mv, mv, mv, mv, mv, trivial⟩
 refine wpc_flowG HM 5 mixed rfl rfl rfl (rg 58 5) (fun L f M w => St M ((bx b2 [v5] 57) :: (bx b4 z_api_Promise 59) :: (bx b3 z_api_Log 26) :: (bx b1 (c_api_Log a0 a0v3 a0v4 v14) 26) :: (row 2 v14 c8 x15.length) :: As) w) (St.drew S81 _) ?_ ?_
 · refine ⟨?_, ?_, ?_, ?_, ?_, trivial⟩
   · exact flp HM rfl [] (fun _ _ => trivial) (fun _ _ q => s_fld (n := 0) rfl underlying26 rfl rfl sizeOf3 q) rfl
   · exact flp HM rfl [(58, _)] (fun K _ => ⟨K 0 rfl, trivial⟩) (fun _ S83 q => s_ld (i := 3) (cs := [vI a0.Id]) S83 rfl rfl isAgg3 sizeOf3 rfl (fun _ => rfl) q) rfl
   · exact flp HM rfl [] (fun _ _ => trivial) (fun _ _ q => s_mvv (v := vI a2) rfl q) rfl
   · exact flp HM rfl [] (fun _ _ => trivial) (fun _ S85 q => s_ld (i := 0) (cs := [v5]) S85 rfl rfl isAgg57 sizeOf57 rfl (fun _ => rfl) q) rfl
   · intro L f36 w66 hL hd hc ⟨m69, L67, S86, K, hO⟩
     obtain ⟨u36, rfl⟩ := fr_of (N := 76) (L := [(61, _)]) hO ⟨K 3 (dep hd rfl), trivial⟩
     have L68 := Mem.rfl' m69
     replace h7 := h7.up (mt L58 (mt l32 (mt l33 L67)))
     refine s_call call19 (w_merkle_Leaf (a0 := x8.2) S86 h7 q16) rfl ?_
     rintro _ w67 ⟨m70, l34, S87, rfl⟩
     clear S86
     refine wpn ?_
     replace L68 := Mem.tr L68 l34
     exact ⟨m70, Mem.tr L67 L68, S87, facts_step HM rfl K L68 rfl rfl rfl, outP⟩
 intro L f37 w68 hall ⟨m71, L69, S88, K, hO⟩
 have d1 : L 1 = true := hall 1 (by decide)
 have d2 : L 2 = true := hall 2 (by decide)
 have d4 : L 4 = true := hall 4 (by decide)
 obtain ⟨u37, rfl⟩ := fr_of (N := 76) (L := [(59, _), (60, _), (62, _)]) hO ⟨K 1 d1, K 2 d2, K 4 d4, trivial⟩
 replace S88 : St _ ((bx b2 [v5] 57) :: (bx b4 z_api_Promise 59) :: (bx b3 z_api_Log 26) :: (bx b1 (c_api_Log a0 a0v3 a0v4 v14) 26) :: (row 2 v14 c8 x15.length) :: As) _ := S88
 clear S81
 refine s_build (parts := [(0, .tmp 59), (1, .tmp 60), (2, .tmp 62)]) (ps := [(0, vI a0.Id, [vI a0.Id]), (1, vI a2, [vI a2]), (2, .agg #[vU x16.1, vU x16.2], [vU x16.1, vU x16.2])]) (cs := [vI a0.Id, vI a2, vU x16.1, vU x16.2, vU 0, vU 0]) zeroValue59 (BuildPl.str (ss := [1, 1, 2, 2]) underlying59 ⟨sizeOf3, sizeOf3, sizeOf36, sizeOf38, trivial⟩) rfl ⟨rfl, rfl, rfl, trivial⟩ rfl <| s_stL (i := 1) S88 rfl rfl rfl sizeOf59 (oneC rfl (oneC rfl (oneC rfl (oneC rfl (oneC rfl (oneC rfl oneN)))))) rfl fun w69 S89 => ?_
 replace S89 : St _ ((bx b2 [v5] 57) :: (bx b4 [vI a0.Id, vI a2, vU x16.1, vU x16.2, vU 0, vU 0] 59) :: (bx b3 z_api_Log 26) :: (bx b1 (c_api_Log a0 a0v3 a0v4 v14) 26) :: (row 2 v14 c8 x15.length) :: As) _ := S89
 clear S88
 refine wpl_nil <| nrm <| wpc_seq ?_
 obtain ⟨x17, q17, hm⟩ := obind_some hm
 obtain ⟨x18, q18, hm⟩ := obind_some hm
 have HM : MonoAll [(65, fv (pt b1 1)), (66, fv (vU a0.Key)), (67, fv (.agg #[vI a0.Id, vI a2, vU x16.1, vU x16.2, vU 0, vU 0])), (68, fun (M : Mem) (v : Value) => ∃ (v15 : Value), v = v15 ∧ SlR M v15 x17), (69, fv (.tuple #[.agg (c_api_Sig x18.1).toArray, vI x18.2])), (64, fv (.tuple #[.agg (c_api_Sig x18.1).toArray, vI x18.2])), (70, fv (.agg (c_api_Sig x18.1).toArray)), (71, fv (vI x18.2)), (72, fv (pt b4 4)), (100009, fun _ _ => True)] := ⟨mv, mv, mv, (fun _ _ _ l ⟨v15, e, h22⟩ => ⟨v15, e, h22.up l⟩), mv, mv, mv, mv, mv, (fun _ _ _ _ h => h), trivial⟩
 refine wpc_flowG HM 10 mixed rfl rfl rfl (rg 64 9) (fun L f M w => St M ((bx b2 [v5] 57) :: (bx b4 (bif L 9 then [vI a0.Id, vI a2, vU x16.1, vU x16.2, vU x18.1.E, vU x18.1.S] else [vI a0.Id, vI a2, vU x16.1, vU x16.2, vU 0, vU 0]) 59) :: (bx b3 z_api_Log 26) :: (bx b1 (c_api_Log a0 a0v3 a0v4 v14) 26) :: (row 2 v14 c8 x15.length) :: As) w) (St.drew S89 _) ?_ ?_
 · refine ⟨?_, ?_, ?_, ?_, ?_, ?_, ?_, ?_, ?_, ?_, trivial⟩
   · exact flp HM rfl [] (fun _ _ => trivial) (fun _ _ q => s_fld (n := 0) rfl underlying26 rfl rfl sizeOf22 q) rfl
   · intro L f39 w71 hL hd hc ⟨m73, L72, S91, K, hO⟩
     have d9 : L 9 = false := undep hc hL rfl
     replace S91 : St _ ((bx b2 [v5] 57) :: (bx b4 (bif L 9 then [vI a0.Id, vI a2, vU x16.1, vU x16.2, vU x18.1.E, vU x18.1.S] else [vI a0.Id, vI a2, vU x16.1, vU x16.2, vU 0, vU 0]) 59) :: (bx b3 z_api_Log 26) :: (bx b1 (c_api_Log a0 a0v3 a0v4 v14) 26) :: (row 2 v14 c8 x15.length) :: As) _ := S91
     rw [d9] at S91
     obtain ⟨u39, rfl⟩ := fr_of (N := 76) (L := [(65, _)]) hO ⟨K 0 (dep hd rfl), trivial⟩
     replace S91 : St _ ((bx b2 [v5] 57) :: (bx b4 [vI a0.Id, vI a2, vU x16.1, vU x16.2, vU 0, vU 0] 59) :: (bx b3 z_api_Log 26) :: (bx b1 (c_api_Log a0 a0v3 a0v4 v14) 26) :: (row 2 v14 c8 x15.length) :: As) _ := S91
     have L73 := Mem.rfl' m73
     refine s_ld (i := 3) (cs := [vU a0.Key]) S91 rfl rfl isAgg22 sizeOf22 rfl (fun _ => rfl) <| wpn <| ⟨m73, Mem.tr L72 L73, ?_, facts_step HM rfl K L73 rfl rfl rfl, outP⟩
     show St _ ((bx b2 [v5] 57) :: (bx b4 (bif L 9 then [vI a0.Id, vI a2, vU x16.1, vU x16.2, vU x18.1.E, vU x18.1.S] else [vI a0.Id, vI a2, vU x16.1, vU x16.2, vU 0, vU 0]) 59) :: (bx b3 z_api_Log 26) :: (bx b1 (c_api_Log a0 a0v3 a0v4 v14) 26) :: (row 2 v14 c8 x15.length) :: As) _
     rw [d9]
     exact S91
   · intro L f40 w72 hL hd hc ⟨m74, L74, S92, K, hO⟩
     have d9 : L 9 = false := undep hc hL rfl
     replace S92 : St _ ((bx b2 [v5] 57) :: (bx b4 (bif L 9 then [vI a0.Id, vI a2, vU x16.1, vU x16.2, vU x18.1.E, vU x18.1.S] else [vI a0.Id, vI a2, vU x16.1, vU x16.2, vU 0, vU 0]) 59) :: (bx b3 z_api_Log 26) :: (bx b1 (c_api_Log a0 a0v3 a0v4 v14) 26) :: (row 2 v14 c8 x15.length) :: As) _ := S92
     rw [d9] at S92
     obtain ⟨u40, rfl⟩ := fr_of (N := 76) (L := []) hO trivial
     replace S92 : St _ ((bx b2 [v5] 57) :: (bx b4 [vI a0.Id, vI a2, vU x16.1, vU x16.2, vU 0, vU 0] 59) :: (bx b3 z_api_Log 26) :: (bx b1 (c_api_Log a0 a0v3 a0v4 v14) 26) :: (row 2 v14 c8 x15.length) :: As) _ := S92
     have L75 := Mem.rfl' m74
     refine s_ld (i := 1) (cs := [vI a0.Id, vI a2, vU x16.1, vU x16.2, vU 0, vU 0]) S92 rfl rfl isAgg59 sizeOf59 rfl (fun h => by cases h) <| wpn <| ⟨m74, Mem.tr L74 L75, ?_, facts_step HM rfl K L75 rfl rfl rfl, outP⟩
     show St _ ((bx b2 [v5] 57) :: (bx b4 (bif L 9 then [vI a0.Id, vI a2, vU x16.1, vU x16.2, vU x18.1.E, vU x18.1.S] else [vI a0.Id, vI a2, vU x16.1, vU x16.2, vU 0, vU 0]) 59) :: (bx b3 z_api_Log 26) :: (bx b1 (c_api_Log a0 a0v3 a0v4 v14) 26) :: (row 2 v14 c8 x15.length) :: As) _
     rw [d9]
     exact S92
   · intro L f41 w73 hL hd hc ⟨m75, L76, S93, K, hO⟩
     have d9 : L 9 = false := undep hc hL rfl
     replace S93 : St _ ((bx b2 [v5] 57) :: (bx b4 (bif L 9 then [vI a0.Id, vI a2, vU x16.1, vU x16.2, vU x18.1.E, vU x18.1.S] else [vI a0.Id, vI a2, vU x16.1, vU x16.2, vU 0, vU 0]) 59) :: (bx b3 z_api_Log 26) :: (bx b1 (c_api_Log a0 a0v3 a0v4 v14) 26) :: (row 2 v14 c8 x15.length) :: As) _ := S93
     rw [d9] at S93
     obtain ⟨u41, rfl⟩ := fr_of (N := 76) (L := [(67, _)]) hO ⟨K 2 (dep hd rfl), trivial⟩
     replace S93 : St _ ((bx b2 [v5] 57) :: (bx b4 [vI a0.Id, vI a2, vU x16.1, vU x16.2, vU 0, vU 0] 59) :: (bx b3 z_api_Log 26) :: (bx b1 (c_api_Log a0 a0v3 a0v4 v14) 26) :: (row 2 v14 c8 x15.length) :: As) _ := S93
     have L77 := Mem.rfl' m75
     refine s_call call48 (w_logd_ofPromise (a0 := (⟨a0.Id, a2, x16, (⟨0, 0⟩ : g_api_Sig)⟩ : g_api_Promise)) S93  q17) rfl ?_
     rintro v15 w74 ⟨m76, l35, _, c9, S94, rfl, h21⟩
     clear S93
     obtain ⟨m77, l36, h22, S95⟩ := St.rowKeepT (i := 0) S94 rfl h21 rfl
     clear S94
     refine wpn ?_
     replace L77 := Mem.tr L77 (mt l35 l36)
     refine ⟨m77, Mem.tr L76 L77, ?_, facts_step HM rfl K L77 rfl rfl ⟨v15, rfl, h22⟩, outP⟩
     show St _ ((bx b2 [v5] 57) :: (bx b4 (bif L 9 then [vI a0.Id, vI a2, vU x16.1, vU x16.2, vU x18.1.E, vU x18.1.S] else [vI a0.Id, vI a2, vU x16.1, vU x16.2, vU 0, vU 0]) 59) :: (bx b3 z_api_Log 26) :: (bx b1 (c_api_Log a0 a0v3 a0v4 v14) 26) :: (row 2 v14 c8 x15.length) :: As) _
     rw [d9]
     exact S95
   · intro L f42 w75 hL hd hc ⟨m78, L78, S96, K, hO⟩
     have d9 : L 9 = false := undep hc hL rfl
     obtain ⟨v16, e33, h23⟩ := K 3 (dep hd rfl)
     replace S96 : St _ ((bx b2 [v5] 57) :: (bx b4 (bif L 9 then [vI a0.Id, vI a2, vU x16.1, vU x16.2, vU x18.1.E, vU x18.1.S] else [vI a0.Id, vI a2, vU x16.1, vU x16.2, vU 0, vU 0]) 59) :: (bx b3 z_api_Log 26) :: (bx b1 (c_api_Log a0 a0v3 a0v4 v14) 26) :: (row 2 v14 c8 x15.length) :: As) _ := S96
     rw [d9] at S96
     obtain ⟨u42, rfl⟩ := fr_of (N := 76) (L := [(66, _), (68, _)]) hO ⟨K 1 (dep hd rfl), e33, trivial⟩
     replace S96 : St _ ((bx b2 [v5] 57) :: (bx b4 [vI a0.Id, vI a2, vU x16.1, vU x16.2, vU 0, vU 0] 59) :: (bx b3 z_api_Log 26) :: (bx b1 (c_api_Log a0 a0v3 a0v4 v14) 26) :: (row 2 v14 c8 x15.length) :: As) _ := S96
     have L79 := Mem.rfl' m78
     refine s_call call28 (w_sign_Sign (a0 := a0.Key) (a1 := x17) S96 h23 q18) rfl ?_
     rintro _ w76 ⟨m79, l37, S97, rfl⟩
     clear S96
     refine wpn ?_
     replace L79 := Mem.tr L79 l37
     refine ⟨m79, Mem.tr L78 L79, ?_, facts_step HM rfl K L79 rfl rfl rfl, outP⟩
     show St _ ((bx b2 [v5] 57) :: (bx b4 (bif L 9 then [vI a0.Id, vI a2, vU x16.1, vU x16.2, vU x18.1.E, vU x18.1.S] else [vI a0.Id, vI a2, vU x16.1, vU x16.2, vU 0, vU 0]) 59) :: (bx b3 z_api_Log 26) :: (bx b1 (c_api_Log a0 a0v3 a0v4 v14) 26) :: (row 2 v14 c8 x15.length) :: As) _
     rw [d9]
     exact S97
   · exact flp HM rfl [(69, _)] (fun K _ => ⟨K 4 rfl, trivial⟩) (fun _ _ q => s_mvv (v := .tuple #[.agg (c_api_Sig x18.1).toArray, vI x18.2]) rfl q) rfl
   · exact flp HM rfl [(64, _)] (fun K _ => ⟨K 5 rfl, trivial⟩) (fun _ _ q => s_ext (i := 0) rfl rfl q) rfl
   · exact flp HM rfl [(64, _)] (fun K _ => ⟨K 5 rfl, trivial⟩) (fun _ _ q => s_ext (i := 1) rfl rfl q) rfl
   · exact flp HM rfl [] (fun _ _ => trivial) (fun _ _ q => s_fld (n := 1) rfl underlying59 rfl rfl sizeOf38 q) rfl
   · intro L f47 w81 hL hd hc ⟨m84, L88, S102, K, hO⟩
     have d9 : L 9 = false := hL
     replace S102 : St _ ((bx b2 [v5] 57) :: (bx b4 (bif L 9 then [vI a0.Id, vI a2, vU x16.1, vU x16.2, vU x18.1.E, vU x18.1.S] else [vI a0.Id, vI a2, vU x16.1, vU x16.2, vU 0, vU 0]) 59) :: (bx b3 z_api_Log 26) :: (bx b1 (c_api_Log a0 a0v3 a0v4 v14) 26) :: (row 2 v14 c8 x15.length) :: As) _ := S102
     rw [d9] at S102
     obtain ⟨u47, rfl⟩ := fr_of (N := 76) (L := [(72, _), (70, _)]) hO ⟨K 8 (dep hd rfl), K 6 (dep hd rfl), trivial⟩
     replace S102 : St _ ((bx b2 [v5] 57) :: (bx b4 [vI a0.Id, vI a2, vU x16.1, vU x16.2, vU 0, vU 0] 59) :: (bx b3 z_api_Log 26) :: (bx b1 (c_api_Log a0 a0v3 a0v4 v14) 26) :: (row 2 v14 c8 x15.length) :: As) _ := S102
     refine s_stL (i := 1) S102 rfl rfl rfl sizeOf38 (oneC rfl (oneC rfl oneN)) rfl fun w82 S103 => ?_
     replace S103 : St _ ((bx b2 [v5] 57) :: (bx b4 [vI a0.Id, vI a2, vU x16.1, vU x16.2, vU x18.1.E, vU x18.1.S] 59) :: (bx b3 z_api_Log 26) :: (bx b1 (c_api_Log a0 a0v3 a0v4 v14) 26) :: (row 2 v14 c8 x15.length) :: As) _ := S103
     clear S102
     exact oN HM L88 S103 K rfl (fun _ => trivial) outP
 intro L f48 w83 hall ⟨m85, L90, S104, K, hO⟩
 have d9 : L 9 = true := hall 9 (by decide)
 have d7 : L 7 = true := hall 7 (by decide)
 replace S104 : St _ ((bx b2 [v5] 57) :: (bx b4 (bif L 9 then [vI a0.Id, vI a2, vU x16.1, vU x16.2, vU x18.1.E, vU x18.1.S] else [vI a0.Id, vI a2, vU x16.1, vU x16.2, vU 0, vU 0]) 59) :: (bx b3 z_api_Log 26) :: (bx b1 (c_api_Log a0 a0v3 a0v4 v14) 26) :: (row 2 v14 c8 x15.length) :: As) _ := S104
 rw [d9] at S104
 obtain ⟨u48, rfl⟩ := fr_of (N := 76) (L := [(71, _)]) hO ⟨K 7 d7, trivial⟩
 replace S104 : St _ ((bx b2 [v5] 57) :: (bx b4 [vI a0.Id, vI a2, vU x16.1, vU x16.2, vU x18.1.E, vU x18.1.S] 59) :: (bx b3 z_api_Log 26) :: (bx b1 (c_api_Log a0 a0v3 a0v4 v14) 26) :: (row 2 v14 c8 x15.length) :: As) _ := S104
 clear S89
 refine s_asv (v := vI x18.2) rfl <| wpl_nil <| nrm <| wpc_seq ?_
 replace h20 := RepL.up (mt L69 L90) h20
 obtain ⟨m86, l38, h24, S105⟩ := St.rowKeepT (i := 4) S104 rfl h20 rfl
 clear S104
 have HM : MonoAll [(73, fv (.agg (c_api_Log a0 a0v3 a0v4 v14).toArray)), (74, fv (.agg #[vI a0.Id, vI a2, vU x16.1, vU x16.2, vU x18.1.E, vU x18.1.S])), (75, fv (vI x18.2)), (100003, fun _ _ => True), (100004, fun _ _ => True)] := ⟨mv, mv, mv, (fun _ _ _ _ h => h), (fun _ _ _ _ h => h), trivial⟩
 refine wpc_flowG HM 5 mixed rfl rfl rfl [73, 74, 75] (fun L f M w => St M ((bx b2 [v5] 57) :: (bx b4 (bif L 4 then [vI a0.Id, vI a2, vU x16.1, vU x16.2, vU x18.1.E, vU x18.1.S] else [vI a0.Id, vI a2, vU x16.1, vU x16.2, vU x18.1.E, vU x18.1.S]) 59) :: (bx b3 (bif L 3 then (c_api_Log a0 a0v3 a0v4 v14) else z_api_Log) 26) :: (bx b1 (c_api_Log a0 a0v3 a0v4 v14) 26) :: As) w) (St.drew S105 _) ?_ ?_
 · refine ⟨?_, ?_, ?_, ?_, ?_, trivial⟩
   · intro L f49 w84 hL hd hc ⟨m87, L91, S106, K, hO⟩
     have d3 : L 3 = false := undep hc hL rfl
     have d4 : L 4 = false := undep hc hL rfl
     replace S106 : St _ ((bx b2 [v5] 57) :: (bx b4 (bif L 4 then [vI a0.Id, vI a2, vU x16.1, vU x16.2, vU x18.1.E, vU x18.1.S] else [vI a0.Id, vI a2, vU x16.1, vU x16.2, vU x18.1.E, vU x18.1.S]) 59) :: (bx b3 (bif L 3 then (c_api_Log a0 a0v3 a0v4 v14) else z_api_Log) 26) :: (bx b1 (c_api_Log a0 a0v3 a0v4 v14) 26) :: As) _ := S106
     rw [d3, d4] at S106
     obtain ⟨u49, rfl⟩ := fr_of (N := 76) (L := []) hO trivial
     replace S106 : St _ ((bx b2 [v5] 57) :: (bx b4 [vI a0.Id, vI a2, vU x16.1, vU x16.2, vU x18.1.E, vU x18.1.S] 59) :: (bx b3 z_api_Log 26) :: (bx b1 (c_api_Log a0 a0v3 a0v4 v14) 26) :: As) _ := S106
     have L92 := Mem.rfl' m87
     refine s_ld (i := 3) (cs := (c_api_Log a0 a0v3 a0v4 v14)) S106 rfl rfl isAgg26 sizeOf26 rfl (fun h => by cases h) <| wpn <| ⟨m87, Mem.tr L91 L92, ?_, facts_step HM rfl K L92 rfl rfl rfl, outP⟩
     show St _ ((bx b2 [v5] 57) :: (bx b4 (bif L 4 then [vI a0.Id, vI a2, vU x16.1, vU x16.2, vU x18.1.E, vU x18.1.S] else [vI a0.Id, vI a2, vU x16.1, vU x16.2, vU x18.1.E, vU x18.1.S]) 59) :: (bx b3 (bif L 3 then (c_api_Log a0 a0v3 a0v4 v14) else z_api_Log) 26) :: (bx b1 (c_api_Log a0 a0v3 a0v4 v14) 26) :: As) _
     rw [d3, d4]
     exact S106
   · intro L f50 w85 hL hd hc ⟨m88, L93, S107, K, hO⟩
     have d4 : L 4 = false := undep hc hL rfl
     replace S107 : St _ ((bx b2 [v5] 57) :: (bx b4 (bif L 4 then [vI a0.Id, vI a2, vU x16.1, vU x16.2, vU x18.1.E, vU x18.1.S] else [vI a0.Id, vI a2, vU x16.1, vU x16.2, vU x18.1.E, vU x18.1.S]) 59) :: (bx b3 (bif L 3 then (c_api_Log a0 a0v3 a0v4 v14) else z_api_Log) 26) :: (bx b1 (c_api_Log a0 a0v3 a0v4 v14) 26) :: As) _ := S107
     rw [d4] at S107
     obtain ⟨u50, rfl⟩ := fr_of (N := 76) (L := []) hO trivial
     replace S107 : St _ ((bx b2 [v5] 57) :: (bx b4 [vI a0.Id, vI a2, vU x16.1, vU x16.2, vU x18.1.E, vU x18.1.S] 59) :: (bx b3 (bif L 3 then (c_api_Log a0 a0v3 a0v4 v14) else z_api_Log) 26) :: (bx b1 (c_api_Log a0 a0v3 a0v4 v14) 26) :: As) _ := S107
     have L94 := Mem.rfl' m88
     refine s_ld (i := 1) (cs := [vI a0.Id, vI a2, vU x16.1, vU x16.2, vU x18.1.E, vU x18.1.S]) S107 rfl rfl isAgg59 sizeOf59 rfl (fun h => by cases h) <| wpn <| ⟨m88, Mem.tr L93 L94, ?_, facts_step HM rfl K L94 rfl rfl rfl, outP⟩
     show St _ ((bx b2 [v5] 57) :: (bx b4 (bif L 4 then [vI a0.Id, vI a2, vU x16.1, vU x16.2, vU x18.1.E, vU x18.1.S] else [vI a0.Id, vI a2, vU x16.1, vU x16.2, vU x18.1.E, vU x18.1.S]) 59) :: (bx b3 (bif L 3 then (c_api_Log a0 a0v3 a0v4 v14) else z_api_Log) 26) :: (bx b1 (c_api_Log a0 a0v3 a0v4 v14) 26) :: As) _
     rw [d4]
     exact S107
   · exact flp HM rfl [] (fun _ _ => trivial) (fun _ _ q => s_mvv (v := vI x18.2) rfl q) rfl
   · intro L f52 w87 hL hd hc ⟨m90, L97, S109, K, hO⟩
     have d3 : L 3 = false := hL
     have d4 : L 4 = false := undep hc hL rfl
     replace S109 : St _ ((bx b2 [v5] 57) :: (bx b4 (bif L 4 then [vI a0.Id, vI a2, vU x16.1, vU x16.2, vU x18.1.E, vU x18.1.S] else [vI a0.Id, vI a2, vU x16.1, vU x16.2, vU x18.1.E, vU x18.1.S]) 59) :: (bx b3 (bif L 3 then (c_api_Log a0 a0v3 a0v4 v14) else z_api_Log) 26) :: (bx b1 (c_api_Log a0 a0v3 a0v4 v14) 26) :: As) _ := S109
     rw [d3, d4] at S109
     obtain ⟨u52, rfl⟩ := fr_of (N := 76) (L := [(73, _)]) hO ⟨K 0 (dep hd rfl), trivial⟩
     replace S109 : St _ ((bx b2 [v5] 57) :: (bx b4 [vI a0.Id, vI a2, vU x16.1, vU x16.2, vU x18.1.E, vU x18.1.S] 59) :: (bx b3 z_api_Log 26) :: (bx b1 (c_api_Log a0 a0v3 a0v4 v14) 26) :: As) _ := S109
     have L98 := Mem.rfl' m90
     replace a0h3 := a0h3.up (mt l14 (mt l16 (mt l17 (mt L58 (mt l32 (mt l33 (mt L69 (mt L90 (mt l38 L97)))))))))
     replace a0h4 := a0h4.up (mt l14 (mt l16 (mt l17 (mt L58 (mt l32 (mt l33 (mt L69 (mt L90 (mt l38 L97)))))))))
     refine s_stL (i := 2) S109 rfl rfl rfl sizeOf26 (oneC rfl (oneC rfl (oneC rfl (oneC (SlR.one a0h3) (oneC (SlR.one a0h4) (oneC (SlR.one (h24.up L97)) oneN)))))) rfl fun w88 S110 => ?_
     replace S110 : St _ ((bx b2 [v5] 57) :: (bx b4 [vI a0.Id, vI a2, vU x16.1, vU x16.2, vU x18.1.E, vU x18.1.S] 59) :: (bx b3 (c_api_Log a0 a0v3 a0v4 v14) 26) :: (bx b1 (c_api_Log a0 a0v3 a0v4 v14) 26) :: As) _ := S110
     clear S109
     refine wpn <| ⟨m90, Mem.tr L97 L98, ?_, facts_none HM K L98 rfl (fun _ => trivial), outP⟩
     show St _ ((bx b2 [v5] 57) :: (bx b4 (bif L 4 then [vI a0.Id, vI a2, vU x16.1, vU x16.2, vU x18.1.E, vU x18.1.S] else [vI a0.Id, vI a2, vU x16.1, vU x16.2, vU x18.1.E, vU x18.1.S]) 59) :: (bx b3 (bif true then (c_api_Log a0 a0v3 a0v4 v14) else z_api_Log) 26) :: (bx b1 (c_api_Log a0 a0v3 a0v4 v14) 26) :: As) _
     rw [d4]
     exact S110
   · intro L f53 w89 hL hd hc ⟨m91, L99, S111, K, hO⟩
     have d3 : L 3 = true := dep hd rfl
     have d4 : L 4 = false := hL
     replace S111 : St _ ((bx b2 [v5] 57) :: (bx b4 (bif L 4 then [vI a0.Id, vI a2, vU x16.1, vU x16.2, vU x18.1.E, vU x18.1.S] else [vI a0.Id, vI a2, vU x16.1, vU x16.2, vU x18.1.E, vU x18.1.S]) 59) :: (bx b3 (bif L 3 then (c_api_Log a0 a0v3 a0v4 v14) else z_api_Log) 26) :: (bx b1 (c_api_Log a0 a0v3 a0v4 v14) 26) :: As) _ := S111
     rw [d3, d4] at S111
     obtain ⟨u53, rfl⟩ := fr_of (N := 76) (L := [(74, _)]) hO ⟨K 1 (dep hd rfl), trivial⟩
     replace S111 : St _ ((bx b2 [v5] 57) :: (bx b4 [vI a0.Id, vI a2, vU x16.1, vU x16.2, vU x18.1.E, vU x18.1.S] 59) :: (bx b3 (c_api_Log a0 a0v3 a0v4 v14) 26) :: (bx b1 (c_api_Log a0 a0v3 a0v4 v14) 26) :: As) _ := S111
     have L100 := Mem.rfl' m91
     refine s_stL (i := 1) S111 rfl rfl rfl sizeOf59 (oneC rfl (oneC rfl (oneC rfl (oneC rfl (oneC rfl (oneC rfl oneN)))))) rfl fun w90 S112 => ?_
     replace S112 : St _ ((bx b2 [v5] 57) :: (bx b4 [vI a0.Id, vI a2, vU x16.1, vU x16.2, vU x18.1.E, vU x18.1.S] 59) :: (bx b3 (c_api_Log a0 a0v3 a0v4 v14) 26) :: (bx b1 (c_api_Log a0 a0v3 a0v4 v14) 26) :: As) _ := S112
     clear S111
     refine wpn <| ⟨m91, Mem.tr L99 L100, ?_, facts_none HM K L100 rfl (fun _ => trivial), outP⟩
     show St _ ((bx b2 [v5] 57) :: (bx b4 (bif true then [vI a0.Id, vI a2, vU x16.1, vU x16.2, vU x18.1.E, vU x18.1.S] else [vI a0.Id, vI a2, vU x16.1, vU x16.2, vU x18.1.E, vU x18.1.S]) 59) :: (bx b3 (bif L 3 then (c_api_Log a0 a0v3 a0v4 v14) else z_api_Log) 26) :: (bx b1 (c_api_Log a0 a0v3 a0v4 v14) 26) :: As) _
     rw [d3]
     exact S112
 intro L f54 w91 hall ⟨m92, L101, S113, K, hO⟩
 have d3 : L 3 = true := hall 3 (by decide)
 have d4 : L 4 = true := hall 4 (by decide)
 have d2 : L 2 = true := hall 2 (by decide)
 replace S113 : St _ ((bx b2 [v5] 57) :: (bx b4 (bif L 4 then [vI a0.Id, vI a2, vU x16.1, vU x16.2, vU x18.1.E, vU x18.1.S] else [vI a0.Id, vI a2, vU x16.1, vU x16.2, vU x18.1.E, vU x18.1.S]) 59) :: (bx b3 (bif L 3 then (c_api_Log a0 a0v3 a0v4 v14) else z_api_Log) 26) :: (bx b1 (c_api_Log a0 a0v3 a0v4 v14) 26) :: As) _ := S113
 rw [d3, d4] at S113
 obtain ⟨u54, rfl⟩ := fr_of (N := 76) (L := [(75, _)]) hO ⟨K 2 d2, trivial⟩
 replace S113 : St _ ((bx b2 [v5] 57) :: (bx b4 [vI a0.Id, vI a2, vU x16.1, vU x16.2, vU x18.1.E, vU x18.1.S] 59) :: (bx b3 (c_api_Log a0 a0v3 a0v4 v14) 26) :: (bx b1 (c_api_Log a0 a0v3 a0v4 v14) 26) :: As) _ := S113
 clear S105
 refine s_asv (v := vI x18.2) rfl <| wpl_nil <| nrm <| wpc_ret <| outRw fun we hpd => ?_
 replace S113 := St.pd S113 hpd
 have SR := S113
 obtain ⟨m93, l39, S114⟩ := St.drop S113 0
 replace S114 : St _ ((bx b4 [vI a0.Id, vI a2, vU x16.1, vU x16.2, vU x18.1.E, vU x18.1.S] 59) :: (bx b3 (c_api_Log a0 a0v3 a0v4 v14) 26) :: (bx b1 (c_api_Log a0 a0v3 a0v4 v14) 26) :: As) _ := S114
 obtain ⟨m94, l40, S115⟩ := St.drop S114 0
 clear S114
 replace S115 : St _ ((bx b3 (c_api_Log a0 a0v3 a0v4 v14) 26) :: (bx b1 (c_api_Log a0 a0v3 a0v4 v14) 26) :: As) _ := S115
 obtain ⟨m95, l41, S116⟩ := St.drop S115 0
 clear S115
 replace S116 : St _ ((bx b1 (c_api_Log a0 a0v3 a0v4 v14) 26) :: As) _ := S116
 obtain ⟨m96, l42, S117⟩ := St.drop S116 0
 clear S116
 replace S117 : St _ (As) _ := S117
 have e0 := Option.some.inj hm
 subst e0
 replace L0 := Mem.tr L0 (mt l1 (mt l6 (mt l9 (mt l14 (mt l16 (mt l17 (mt L58 (mt l32 (mt l33 (mt L69 (mt L90 (mt l38 (mt L101 (mt l39 (mt l40 (mt l41 l42))))))))))))))))
 replace a0h3 := a0h3.up (mt l14 (mt l16 (mt l17 (mt L58 (mt l32 (mt l33 (mt L69 (mt L90 (mt l38 (mt L101 (mt l39 (mt l40 (mt l41 l42)))))))))))))
 replace a0h4 := a0h4.up (mt l14 (mt l16 (mt l17 (mt L58 (mt l32 (mt l33 (mt L69 (mt L90 (mt l38 (mt L101 (mt l39 (mt l40 (mt l41 l42)))))))))))))
 replace h24 := h24.up (mt L101 (mt l39 (mt l40 (mt l41 l42))))
 exact outR [_, _, _] rfl ⟨res_box (i := 2) (off := 0) (cs := (c_api_Log a0 a0v3 a0v4 v14)) SR rfl rfl isAgg26 sizeOf26 rfl (fun h => by cases h), res_box (i := 1) (off := 0) (cs := [vI a0.Id, vI a2, vU x16.1, vU x16.2, vU x18.1.E, vU x18.1.S]) SR rfl rfl isAgg59 sizeOf59 rfl (fun h => by cases h), rfl, trivial⟩ ⟨_, L0, _, _, _, S117, rfl, a0h3, a0h4, h24⟩

def m_logd_Merge (a0 : g_api_Log) : Option (g_api_Log × Int) :=
  obind (m_logd_Check a0) fun x1 =>
  if (x1 != 0) = true then
    some ((⟨0, 0, 0, [], [], []⟩ : g_api_Log), x1)
  else
  obind (m_logd_all a0) fun x2 =>
  some ((⟨a0.Id, a0.Key, a0.Delay, x2, a0.Hide, []⟩ : g_api_Log), 0)

theorem w_logd_Merge {m : Mem} {As : List Ow} {w : World} {a0 : g_api_Log} {a0v3 : Value} {a0v4 : Value} {a0v5 : Value} {r : g_api_Log × Int} (S : St m (As) w) (a0h3 : SlR m a0v3 a0.L) (a0h4 : SlR m a0v4 a0.Hide) (a0h5 : SlR m a0v5 a0.Wait) (hm : m_logd_Merge a0 = some r) :
    CallsR Tryz.prog 17 #[.agg (c_api_Log a0 a0v3 a0v4 a0v5).toArray] w fun v w' => ∃ (M : Mem), m ≤ M ∧ ∃ (rv0_3 : Value) (rv0_4 : Value) (rv0_5 : Value), St M (As) w' ∧ v = .tuple #[.agg (c_api_Log r.1 rv0_3 rv0_4 rv0_5).toArray, vI r.2] ∧ SlR M rv0_3 r.1.L ∧ SlR M rv0_4 r.1.Hide ∧ SlR M rv0_5 r.1.Wait := by
 unfold m_logd_Merge at hm
 have L0 := Mem.rfl' m
 refine callsR (args := [.agg (c_api_Log a0 a0v3 a0v4 a0v5).toArray]) func17 rfl ntmps17 (nb rfl) <| ws <| s_box S rfl fun b1 w1 S1 => ?_
 replace S1 : St _ ((bx b1 (c_api_Log a0 a0v3 a0v4 a0v5) 26) :: As) _ := S1
 clear S
 refine s_alloc S1 zeroValue26 fun b2 w2 S2 => ?_
 replace S2 : St _ ((bx b2 z_api_Log 26) :: (bx b1 (c_api_Log a0 a0v3 a0v4 a0v5) 26) :: As) _ := S2
 clear S1
 refine s_asv (v := vI 0) rfl <| wpl_nil <| nrm <| wpc_seq <| ws <| s_ld (i := 1) (cs := (c_api_Log a0 a0v3 a0v4 a0v5)) S2 rfl rfl isAgg26 sizeOf26 rfl (fun h => by cases h) ?_
 obtain ⟨x1, q1, hm⟩ := obind_some hm
 refine s_call call6 (w_logd_Check (a0 := a0) S2 a0h3 a0h4 a0h5 q1) rfl ?_
 rintro _ w3 ⟨m1, l1, S3, rfl⟩
 clear S2
 refine s_asv (v := vI x1) rfl <| nx <| s_mvv (v := vI x1) rfl <| s_neq (m := x1) (n := 0) rfl rfl <| wpl_nil <| nrm <| wpc_if (t := (x1 != 0)) rfl (fun hc1 => ?_) (fun hc1 => ?_)
 · replace hm := ifT hc1 hm
   refine ws <| s_build (parts := []) (ps := []) (cs := z_api_Log) zeroValue26 (BuildPl.str (ss := [1, 1, 1, 1, 1, 1]) underlying26 ⟨sizeOf3, sizeOf22, sizeOf3, sizeOf23, sizeOf24, sizeOf23, trivial⟩) rfl trivial rfl <| s_mvv (v := vI x1) rfl <| s_stL (i := 0) S3 rfl rfl rfl sizeOf26 (oneC rfl (oneC rfl (oneC rfl (oneC rfl (oneC rfl (oneC rfl oneN)))))) rfl fun w4 S4 => ?_
   replace S4 : St _ ((bx b2 z_api_Log 26) :: (bx b1 (c_api_Log a0 a0v3 a0v4 a0v5) 26) :: As) _ := S4
   clear S3
   refine s_asv (v := vI x1) rfl <| wpl_nil <| nrm <| wpc_ret <| thR <| outRw fun we hpd => ?_
   replace S4 := St.pd S4 hpd
   have SR := S4
   obtain ⟨m2, l2, S5⟩ := St.drop S4 0
   replace S5 : St _ ((bx b1 (c_api_Log a0 a0v3 a0v4 a0v5) 26) :: As) _ := S5
   obtain ⟨m3, l3, S6⟩ := St.drop S5 0
   clear S5
   replace S6 : St _ (As) _ := S6
   have e0 := Option.some.inj hm
   subst e0
   replace L0 := Mem.tr L0 (mt l1 (mt l2 l3))
   exact outR [_, _] rfl ⟨res_box (i := 0) (off := 0) (cs := z_api_Log) SR rfl rfl isAgg26 sizeOf26 rfl (fun h => by cases h), rfl, trivial⟩ ⟨_, L0, _, _, _, S6, rfl, SlR.nil, SlR.nil, SlR.nil⟩
 replace hm := ifF hc1 hm
 refine wpc_skip <| nrm <| ws <| s_ld (i := 1) (cs := (c_api_Log a0 a0v3 a0v4 a0v5)) S3 rfl rfl isAgg26 sizeOf26 rfl (fun h => by cases h) ?_
 obtain ⟨x2, q2, hm⟩ := obind_some hm
 refine s_call call23 (w_logd_all (a0 := a0) S3 (a0h3.up l1) (a0h4.up l1) (a0h5.up l1) q2) rfl ?_
 rintro v1 w5 ⟨m4, l4, _, c1, S7, rfl, h1⟩
 clear S3
 refine s_fld (n := 0) rfl underlying26 rfl rfl sizeOf23 <| s_stS (i := 2) S7 rfl rfl rfl sizeOf23 (St.rowCells (i := 0) S7 rfl) rfl fun w6 S8 => s_fld (n := 0) rfl underlying26 rfl rfl sizeOf23 <| s_stL (i := 2) S8 rfl rfl rfl sizeOf23 (oneC rfl oneN) rfl fun w7 S9 => ?_
 replace S9 : St _ ((row 2 v1 c1 x2.length) :: (bx b2 z_api_Log 26) :: (bx b1 (c_api_Log a0 v1 a0v4 (.slice none 0 0)) 26) :: As) _ := S9
 clear S7 S8
 refine nx <| s_ld (i := 2) (cs := (c_api_Log a0 v1 a0v4 (.slice none 0 0))) S9 rfl rfl isAgg26 sizeOf26 rfl (fun h => by cases h) ?_
 replace a0h4 := a0h4.up (mt l1 l4)
 refine s_stL (i := 1) S9 rfl rfl rfl sizeOf26 (oneC rfl (oneC rfl (oneC rfl (oneC (St.rowCells (i := 0) S9 rfl).2 (oneC (SlR.one a0h4) (oneC rfl oneN)))))) rfl fun w8 S10 => ?_
 replace S10 : St _ ((row 2 v1 c1 x2.length) :: (bx b2 (c_api_Log a0 v1 a0v4 (.slice none 0 0)) 26) :: (bx b1 (c_api_Log a0 v1 a0v4 (.slice none 0 0)) 26) :: As) _ := S10
 clear S9
 refine s_asv (v := vI 0) rfl <| wpl_nil <| nrm <| wpc_ret <| outRw fun we hpd => ?_
 replace S10 := St.pd S10 hpd
 obtain ⟨m5, l5, h2, S11⟩ := St.rowKeepT (i := 0) S10 rfl h1 rfl
 clear S10
 have SR := S11
 obtain ⟨m6, l6, S12⟩ := St.drop S11 0
 replace S12 : St _ ((bx b1 (c_api_Log a0 v1 a0v4 (.slice none 0 0)) 26) :: As) _ := S12
 obtain ⟨m7, l7, S13⟩ := St.drop S12 0
 clear S12
 replace S13 : St _ (As) _ := S13
 have e0 := Option.some.inj hm
 subst e0
 replace L0 := Mem.tr L0 (mt l1 (mt l4 (mt l5 (mt l6 l7))))
 replace a0h4 := a0h4.up (mt l5 (mt l6 l7))
 replace h2 := h2.up (mt l6 l7)
 exact outR [_, _] rfl ⟨res_box (i := 0) (off := 0) (cs := (c_api_Log a0 v1 a0v4 (.slice none 0 0))) SR rfl rfl isAgg26 sizeOf26 rfl (fun h => by cases h), rfl, trivial⟩ ⟨_, L0, _, _, _, S13, rfl, h2, a0h4, SlR.nil⟩

def m_cmp_isNaN_int (a0 : Int) : Option Bool :=
  some (a0 != a0)

theorem w_cmp_isNaN_int {m : Mem} {As : List Ow} {w : World} {a0 : Int} {r : Bool} (S : St m (As) w) (hm : m_cmp_isNaN_int a0 = some r) :
    CallsR Tryz.prog 97 #[vI a0] w fun v w' => ∃ (M : Mem), m ≤ M ∧ St M (As) w' ∧ v = vb r := by
 unfold m_cmp_isNaN_int at hm
 have L0 := Mem.rfl' m
 refine callsR (args := [vI a0]) func97 rfl ntmps97 (nb rfl) <| ws <| s_asv (v := vb false) rfl <| nx <| s_mvv (v := vI a0) rfl <| s_mvv (v := vI a0) rfl <| s_neq (m := a0) (n := a0) rfl rfl <| s_asv (v := vb (a0 != a0)) rfl <| wpl_nil <| nrm <| wpc_ret <| outRw fun we hpd => ?_
 replace S := St.pd S hpd
 have e0 := Option.some.inj hm
 subst e0
 exact outR [_] rfl ⟨rfl, trivial⟩ ⟨_, L0, S, rfl⟩

def m_cmp_Less_int (a0 : Int) (a1 : Int) : Option Bool :=
  obind (m_cmp_isNaN_int a0) fun x1 =>
  obind (
    if x1 = true then
      obind (m_cmp_isNaN_int a1) fun x4 =>
      some (!x4)
    else
    some false
  ) fun x3 =>
  some (x3 || (decide (a0 < a1)))

theorem w_cmp_Less_int {m : Mem} {As : List Ow} {w : World} {a0 : Int} {a1 : Int} {r : Bool} (S : St m (As) w) (hm : m_cmp_Less_int a0 a1 = some r) :
    CallsR Tryz.prog 76 #[vI a0, vI a1] w fun v w' => ∃ (M : Mem), m ≤ M ∧ St M (As) w' ∧ v = vb r := by
 unfold m_cmp_Less_int at hm
 have L0 := Mem.rfl' m
 refine callsR (args := [vI a0, vI a1]) func76 rfl ntmps76 (nb rfl) <| ws <| s_asv (v := vb false) rfl <| nx <| s_mvv (v := vI a0) rfl ?_
 obtain ⟨x1, q1, hm⟩ := obind_some hm
 refine s_call call97 (w_cmp_isNaN_int (a0 := a0) S  q1) rfl ?_
 rintro _ w1 ⟨m1, l1, S1, rfl⟩
 clear S
 refine s_mvv (v := vb x1) rfl ?_
 obtain ⟨x3, q3, hm⟩ := obind_some hm
 have L1 := Mem.rfl' m1
 refine wpl_cut 4 [8, 9, 10, 11] (fun f' w' => ∃ (M1 : Mem), m1 ≤ M1 ∧ St M1 (As) w' ∧ AllAt f' [(11, vb x3)]) ?_ ?_
 · rcases bool_tf x1 with hb1 | hb1
   · replace q3 := ifT hb1 q3
     refine wpl_yes (d := 7) rfl rfl (cb hb1) <| s_mvv (v := vI a1) rfl <| wpl_yes (d := 7) rfl rfl (cb hb1) ?_
     obtain ⟨x4, q4, q3⟩ := obind_some q3
     refine s_call call97 (w_cmp_isNaN_int (a0 := a1) S1  q4) rfl ?_
     rintro _ w3 ⟨m3, l3, S3, rfl⟩
     clear S1
     refine wpl_yes (d := 7) rfl rfl (cb hb1) <| s_not rfl <| s_pickT (cb hb1) rfl <| wpl_nil (nrm ?_)
     have e0 := Option.some.inj q3
     subst e0
     replace L1 := Mem.tr L1 l3
     exact ⟨outP, m3, L1, S3, ⟨rfl, trivial⟩⟩
   replace q3 := ifF hb1 q3
   refine wpl_no (d := 7) rfl rfl (cb hb1) <| wpl_no (d := 7) rfl rfl (cb hb1) <| wpl_no (d := 7) rfl rfl (cb hb1) <| s_pickF (cb hb1) rfl <| wpl_nil (nrm ?_)
   have e0 := Option.some.inj q3
   subst e0
   exact ⟨outP, m1, L1, S1, ⟨rfl, trivial⟩⟩
 rintro f1 w4 ho ⟨m4, l4, S4, ha⟩
 obtain ⟨u1, rfl⟩ := fr_of (N := 17) ho ha
 clear S1
 refine s_mvv (v := vb x3) rfl <| wpl_cut 4 [13, 14, 15, 16] (fun f' w' => w' = w4 ∧ AllAt f' [(16, vb (x3 || (decide (a0 < a1))))]) ?_ ?_
 · rcases bool_tf x3 with hb2 | hb2
   · exact wpl_no (d := 12) rfl rfl (cb hb2) <| wpl_no (d := 12) rfl rfl (cb hb2) <| wpl_no (d := 12) rfl rfl (cb hb2) <| s_pickT (cb hb2) rfl <| wpl_nil (nrm ⟨outP, rfl, congrArg Value.bool (or_t hb2), trivial⟩)
   · exact wpl_yes (d := 12) rfl rfl (cb hb2) <| s_mvv (v := vI a0) rfl <| wpl_yes (d := 12) rfl rfl (cb hb2) <| s_mvv (v := vI a1) rfl <| wpl_yes (d := 12) rfl rfl (cb hb2) <| s_lss (m := a0) (n := a1) rfl rfl <| s_pickF (cb hb2) rfl <| wpl_nil (nrm ⟨outP, rfl, congrArg Value.bool (or_f hb2), trivial⟩)
 rintro f2 w5 ho ⟨h1, ha⟩
 subst h1
 obtain ⟨u2, rfl⟩ := fr_of (N := 17) ho ha
 refine s_asv (v := vb (x3 || (decide (a0 < a1)))) rfl <| wpl_nil <| nrm <| wpc_ret <| outRw fun we hpd => ?_
 replace S4 := St.pd S4 hpd
 have e0 := Option.some.inj hm
 subst e0
 replace L0 := Mem.tr L0 (mt l1 l4)
 exact outR [_] rfl ⟨rfl, trivial⟩ ⟨_, L0, S4, rfl⟩

def m_slices_isNaN_int (a0 : Int) : Option Bool :=
  some (a0 != a0)

theorem w_slices_isNaN_int {m : Mem} {As : List Ow} {w : World} {a0 : Int} {r : Bool} (S : St m (As) w) (hm : m_slices_isNaN_int a0 = some r) :
    CallsR Tryz.prog 77 #[vI a0] w fun v w' => ∃ (M : Mem), m ≤ M ∧ St M (As) w' ∧ v = vb r := by
 unfold m_slices_isNaN_int at hm
 have L0 := Mem.rfl' m
 refine callsR (args := [vI a0]) func77 rfl ntmps77 (nb rfl) <| ws <| s_asv (v := vb false) rfl <| nx <| s_mvv (v := vI a0) rfl <| s_mvv (v := vI a0) rfl <| s_neq (m := a0) (n := a0) rfl rfl <| s_asv (v := vb (a0 != a0)) rfl <| wpl_nil <| nrm <| wpc_ret <| outRw fun we hpd => ?_
 replace S := St.pd S hpd
 have e0 := Option.some.inj hm
 subst e0
 exact outR [_] rfl ⟨rfl, trivial⟩ ⟨_, L0, S, rfl⟩

def m_slices_BinarySearch_int_int_b1 (a0 : List Int) (a1 : Int) (s1 : Int × Int) : Option ((Int × Int) ⊕ (Int)) :=
  if (decide (s1.1 < s1.2)) = true then
    bnd ((w64 ((shrU (toU (w64 (s1.1 + s1.2))) 1).toNat : Int))) fun x4 =>
    obind (idx a0 x4) fun x5 =>
    obind (m_cmp_Less_int x5 a1) fun x6 =>
    if x6 = true then
      some (.inl ((w64 (x4 + 1)), s1.2))
    else
    some (.inl (s1.1, x4))
  else
  some (.inr s1.1)

def m_slices_BinarySearch_int_int (a0 : List Int) (a1 : Int) : Option (Int × Bool) :=
  obind (
    obind (iter (m_slices_BinarySearch_int_int_b1 a0 a1) FUEL (0, (a0.length : Int))) fun x2 =>
    some x2
  ) fun x1 =>
  obind (
    if (decide (x1 < (a0.length : Int))) = true then
      obind (idx a0 x1) fun x8 =>
      if (x8 == a1) = true then
        some true
      else
      obind (idx a0 x1) fun x9 =>
      obind (m_slices_isNaN_int x9) fun x10 =>
      if x10 = true then
        obind (m_slices_isNaN_int a1) fun x11 =>
        some x11
      else
      some false
    else
    some false
  ) fun x7 =>
  some (x1, x7)

theorem w_slices_BinarySearch_int_int {m : Mem} {As : List Ow} {w : World} {a0 : List Int} {a0v0 : Value} {a1 : Int} {r : Int × Bool} (S : St m (As) w) (a0h0 : SlR m a0v0 a0) (hm : m_slices_BinarySearch_int_int a0 a1 = some r) :
    CallsR Tryz.prog 49 #[a0v0, vI a1] w fun v w' => ∃ (M : Mem), m ≤ M ∧ St M (As) w' ∧ v = .tuple #[vI r.1, vb r.2] := by
 unfold m_slices_BinarySearch_int_int at hm
 have L0 := Mem.rfl' m
 refine callsR (args := [a0v0, vI a1]) func49 rfl ntmps49 (nb rfl) <| ws <| s_asv (v := vI 0) rfl <| s_asv (v := vb false) rfl <| nx <| s_mvv (v := a0v0) rfl <| s_lenR (xs := a0) rfl a0h0 underlying24 <| s_asv (v := vI (a0.length : Int)) rfl <| nx <| s_mvv (v := vI (a0.length : Int)) rfl <| s_asv (v := vI 0) rfl <| s_asv (v := vI (a0.length : Int)) rfl <| wpl_nil <| nrm ?_
 obtain ⟨x1, q1, hm⟩ := obind_some hm
 have L1 := Mem.rfl' m
 refine wpc_seq <| wpc_join [7, 8, 9, 13, 14, 15, 16, 17, 18, 19, 20, 21, 22, 23, 24, 25, 26, 27, 28, 29, 30] (fun f' w' => ∃ (M1 : Mem), m ≤ M1 ∧ St M1 (As) w' ∧ AllAt f' [(7, vI x1)]) ?_ ?_
 · obtain ⟨x2, q2, q1⟩ := obind_some q1
   have L2 := Mem.rfl' m
   refine wpc_join [7, 8, 9, 13, 14, 15, 16, 17, 18, 19, 20, 21, 22, 23, 24, 25, 26, 27, 28, 29, 30] (fun f' w' => ∃ (M2 : Mem), m ≤ M2 ∧ St M2 (As) w' ∧ AllAt f' [(7, vI x2)]) ?_ ?_
   · refine wpc_block <| wpc_rounds [7, 8, 9, 13, 14, 15, 16, 17, 18, 19, 20, 21, 22, 23, 24, 25, 26, 27, 28, 29, 30] (fun n1 f' w' => ∃ (s1 : Int × Int) (m3 : Mem), iter (m_slices_BinarySearch_int_int_b1 a0 a1) n1 s1 = some x2 ∧ m ≤ m3 ∧ St m3 (As) w' ∧ AllAt f' [(7, vI s1.1), (8, vI s1.2)]) FUEL ⟨(0, (a0.length : Int)), m, q2, L2, S, ⟨rfl, rfl, trivial⟩⟩ ?_
     rintro n1 f1 w1 ho ⟨s1, m1, q3, L4, S1, ha⟩
     obtain ⟨u1, rfl⟩ := fr_of (N := 54) ho ha
     clear ho ha
     have L3 := Mem.rfl' m1
     clear S
     cases n1 with
     | zero => exact (iter_zero q3).elim
     | succ n1 =>
      obtain ⟨y1, q5, q4⟩ := iter_succ q3
      unfold m_slices_BinarySearch_int_int_b1 at q5
      refine wpc_seq <| ws <| s_mvv (v := vI s1.1) rfl <| s_mvv (v := vI s1.2) rfl <| s_lss (m := s1.1) (n := s1.2) rfl rfl <| wpl_nil <| nrm <| wpc_if (t := (decide (s1.1 < s1.2))) rfl (fun hc1 => ?_) (fun hc1 => ?_)
      · replace q5 := ifT hc1 q5
        refine wpc_skip <| nrm <| wpc_block <| ws <| s_mvv (v := vI s1.1) rfl <| s_mvv (v := vI s1.2) rfl <| s_addI (m := s1.1) (n := s1.2) rfl rfl <| s_convU rfl underlying3 underlying88 <| s_shrU (m := (toU (w64 (s1.1 + s1.2)))) (n := 1) rfl rfl (by decide) <| s_convI rfl underlying88 underlying3 ?_
        obtain ⟨x4, q7, q5⟩ := bnd_eq q5
        refine s_asv (v := vI x4) (congrArg (fun z => vI z) q7.symm) <| nx <| s_mvv (v := a0v0) rfl <| s_mvv (v := vI x4) rfl ?_
        obtain ⟨x5, q8, q5⟩ := obind_some q5
        refine s_idx (q := x5) rfl rfl (a0h0.up L4) q8 underlying24 sizeOf3 fun p1 c1 h1 r1 => ?_
        obtain rfl : c1 = [vI x5] := r1
        refine s_ldM (cs := [vI x5]) S1 rfl h1 rfl isAgg3 sizeOf3 (fun _ => rfl) <| s_mvv (v := vI a1) rfl ?_
        obtain ⟨x6, q9, q5⟩ := obind_some q5
        refine s_call call76 (w_cmp_Less_int (a0 := x5) (a1 := a1) S1  q9) rfl ?_
        rintro _ w2 ⟨m2, l1, S2, rfl⟩
        clear S1
        refine wpl_nil <| nrm <| wpc_if (t := x6) rfl (fun hc2 => ?_) (fun hc2 => ?_)
        · replace q5 := ifT hc2 q5
          refine wpc_region <| s_mvv (v := vI x4) rfl <| s_addI (m := x4) (n := 1) rfl rfl <| s_asv (v := vI (w64 (x4 + 1))) rfl <| wpl_nil <| nrmB <| nrm ?_
          have e0 := Option.some.inj q5
          subst e0
          rcases q4 with ⟨sn, e, q4'⟩ | e
          · cases e
            replace L3 := Mem.tr L3 l1
            exact ⟨outP, _, Nat.lt_succ_self _, ⟨_, m2, q4', Mem.tr L4 L3, S2, ⟨rfl, rfl, trivial⟩⟩⟩
          · cases e
        replace q5 := ifF hc2 q5
        refine wpc_region <| s_mvv (v := vI x4) rfl <| s_asv (v := vI x4) rfl <| wpl_nil <| nrmB <| nrm ?_
        have e0 := Option.some.inj q5
        subst e0
        rcases q4 with ⟨sn, e, q4'⟩ | e
        · cases e
          replace L3 := Mem.tr L3 l1
          exact ⟨outP, _, Nat.lt_succ_self _, ⟨_, m2, q4', Mem.tr L4 L3, S2, ⟨rfl, rfl, trivial⟩⟩⟩
        · cases e
      replace q5 := ifF hc1 q5
      refine wpc_exit <| thE <| thE <| exB <| nrm ?_
      have e0 := Option.some.inj q5
      subst e0
      rcases q4 with ⟨sn, e, _⟩ | e
      · cases e
      · cases e
        exact ⟨outP, m1, Mem.tr L4 L3, S1, ⟨rfl, trivial⟩⟩
   rintro f2 w3 ho ⟨m4, l2, S3, ha⟩
   obtain ⟨u2, rfl⟩ := fr_of (N := 54) ho ha
   clear ho ha S
   have e0 := Option.some.inj q1
   subst e0
   replace L1 := Mem.tr L1 l2
   exact ⟨outP, m4, L1, S3, ⟨rfl, trivial⟩⟩
 rintro f3 w4 ho ⟨m5, l3, S4, ha⟩
 obtain ⟨u3, rfl⟩ := fr_of (N := 54) ho ha
 clear S
 refine ws <| s_mvv (v := vI x1) rfl <| s_mvv (v := vI x1) rfl <| s_mvv (v := vI (a0.length : Int)) rfl <| s_lss (m := x1) (n := (a0.length : Int)) rfl rfl <| s_mvv (v := vb (decide (x1 < (a0.length : Int)))) rfl ?_
 obtain ⟨x7, q10, hm⟩ := obind_some hm
 have L5 := Mem.rfl' m5
 refine wpl_cut 18 [36, 37, 38, 39, 40, 41, 42, 43, 44, 45, 46, 47, 48, 49, 50, 51, 52, 53] (fun f' w' => ∃ (M3 : Mem), m5 ≤ M3 ∧ St M3 (As) w' ∧ AllAt f' [(53, vb x7)]) ?_ ?_
 · rcases bool_tf (decide (x1 < (a0.length : Int))) with hb1 | hb1
   · replace q10 := ifT hb1 q10
     refine wpl_yes (d := 35) rfl rfl (cb hb1) <| s_mvv (v := a0v0) rfl <| wpl_yes (d := 35) rfl rfl (cb hb1) <| s_mvv (v := vI x1) rfl <| wpl_yes (d := 35) rfl rfl (cb hb1) ?_
     obtain ⟨x8, q11, q10⟩ := obind_some q10
     refine s_idx (q := x8) rfl rfl (a0h0.up l3) q11 underlying24 sizeOf3 fun p2 c2 h2 r2 => ?_
     obtain rfl : c2 = [vI x8] := r2
     refine wpl_yes (d := 35) rfl rfl (cb hb1) <| s_ldM (cs := [vI x8]) S4 rfl h2 rfl isAgg3 sizeOf3 (fun _ => rfl) <| wpl_yes (d := 35) rfl rfl (cb hb1) <| s_mvv (v := vI a1) rfl <| wpl_yes (d := 35) rfl rfl (cb hb1) <| s_eql (m := x8) (n := a1) rfl rfl <| wpl_yes (d := 35) rfl rfl (cb hb1) <| s_mvv (v := vb (x8 == a1)) rfl ?_
     rcases bool_tf (x8 == a1) with hb2 | hb2
     · replace q10 := ifT hb2 q10
       refine wpl_no (d := 42) rfl rfl (cb hb2) <| wpl_no (d := 42) rfl rfl (cb hb2) <| wpl_no (d := 42) rfl rfl (cb hb2) <| wpl_no (d := 42) rfl rfl (cb hb2) <| wpl_no (d := 42) rfl rfl (cb hb2) <| wpl_no (d := 42) rfl rfl (cb hb2) <| wpl_no' (d := 48) rfl rfl rfl <| wpl_no' (d := 48) rfl rfl rfl <| wpl_no (d := 42) rfl rfl (cb hb2) <| wpl_yes (d := 35) rfl rfl (cb hb1) <| s_pickT (cb hb2) rfl <| s_pickT (cb hb1) rfl <| wpl_nil (nrm ?_)
       have e0 := Option.some.inj q10
       subst e0
       exact ⟨outP, m5, L5, S4, ⟨rfl, trivial⟩⟩
     replace q10 := ifF hb2 q10
     refine wpl_yes (d := 42) rfl rfl (cb hb2) <| s_mvv (v := a0v0) rfl <| wpl_yes (d := 42) rfl rfl (cb hb2) <| s_mvv (v := vI x1) rfl <| wpl_yes (d := 42) rfl rfl (cb hb2) ?_
     obtain ⟨x9, q12, q10⟩ := obind_some q10
     refine s_idx (q := x9) rfl rfl (a0h0.up l3) q12 underlying24 sizeOf3 fun p3 c3 h3 r3 => ?_
     obtain rfl : c3 = [vI x9] := r3
     refine wpl_yes (d := 42) rfl rfl (cb hb2) <| s_ldM (cs := [vI x9]) S4 rfl h3 rfl isAgg3 sizeOf3 (fun _ => rfl) <| wpl_yes (d := 42) rfl rfl (cb hb2) ?_
     obtain ⟨x10, q13, q10⟩ := obind_some q10
     refine s_call call77 (w_slices_isNaN_int (a0 := x9) S4  q13) rfl ?_
     rintro _ w5 ⟨m6, l4, S5, rfl⟩
     clear S4
     refine wpl_yes (d := 42) rfl rfl (cb hb2) <| s_mvv (v := vb x10) rfl ?_
     rcases bool_tf x10 with hb3 | hb3
     · replace q10 := ifT hb3 q10
       refine wpl_yes (d := 48) rfl rfl (cb hb3) <| s_mvv (v := vI a1) rfl <| wpl_yes (d := 48) rfl rfl (cb hb3) ?_
       obtain ⟨x11, q14, q10⟩ := obind_some q10
       refine s_call call77 (w_slices_isNaN_int (a0 := a1) S5  q14) rfl ?_
       rintro _ w6 ⟨m7, l5, S6, rfl⟩
       clear S5
       refine wpl_yes (d := 42) rfl rfl (cb hb2) <| s_pickT (cb hb3) rfl <| wpl_yes (d := 35) rfl rfl (cb hb1) <| s_pickF (cb hb2) rfl <| s_pickT (cb hb1) rfl <| wpl_nil (nrm ?_)
       have e0 := Option.some.inj q10
       subst e0
       replace L5 := Mem.tr L5 (mt l4 l5)
       exact ⟨outP, m7, L5, S6, ⟨rfl, trivial⟩⟩
     replace q10 := ifF hb3 q10
     refine wpl_no (d := 48) rfl rfl (cb hb3) <| wpl_no (d := 48) rfl rfl (cb hb3) <| wpl_yes (d := 42) rfl rfl (cb hb2) <| s_pickF (cb hb3) rfl <| wpl_yes (d := 35) rfl rfl (cb hb1) <| s_pickF (cb hb2) rfl <| s_pickT (cb hb1) rfl <| wpl_nil (nrm ?_)
     have e0 := Option.some.inj q10
     subst e0
     replace L5 := Mem.tr L5 l4
     exact ⟨outP, m6, L5, S5, ⟨rfl, trivial⟩⟩
   replace q10 := ifF hb1 q10
   refine wpl_no (d := 35) rfl rfl (cb hb1) <| wpl_no (d := 35) rfl rfl (cb hb1) <| wpl_no (d := 35) rfl rfl (cb hb1) <| wpl_no (d := 35) rfl rfl (cb hb1) <| wpl_no (d := 35) rfl rfl (cb hb1) <| wpl_no (d := 35) rfl rfl (cb hb1) <| wpl_no (d := 35) rfl rfl (cb hb1) <| wpl_no' (d := 42) rfl rfl rfl <| wpl_no' (d := 42) rfl rfl rfl <| wpl_no' (d := 42) rfl rfl rfl <| wpl_no' (d := 42) rfl rfl rfl <| wpl_no' (d := 42) rfl rfl rfl <| wpl_no' (d := 42) rfl rfl rfl <| wpl_no' (d := 48) rfl rfl rfl <| wpl_no' (d := 48) rfl rfl rfl <| wpl_no' (d := 42) rfl rfl rfl <| wpl_no (d := 35) rfl rfl (cb hb1) <| s_pickF (cb hb1) rfl <| wpl_nil (nrm ?_)
   have e0 := Option.some.inj q10
   subst e0
   exact ⟨outP, m5, L5, S4, ⟨rfl, trivial⟩⟩
 rintro f4 w7 ho ⟨m8, l6, S7, ha⟩
 obtain ⟨u4, rfl⟩ := fr_of (N := 54) ho ha
 clear S4
 refine s_asv (v := vI x1) rfl <| s_asv (v := vb x7) rfl <| wpl_nil <| nrm <| wpc_ret <| outRw fun we hpd => ?_
 replace S7 := St.pd S7 hpd
 have e0 := Option.some.inj hm
 subst e0
 replace L0 := Mem.tr L0 (mt l3 l6)
 exact outR [_, _] rfl ⟨rfl, rfl, trivial⟩ ⟨_, L0, S7, rfl⟩

def m_slices_Reverse_int_int_b1  (s1 : Int × Int × (List Int)) : Option ((Int × Int × (List Int)) ⊕ ((List Int))) :=
  if (decide (s1.1 < s1.2.1)) = true then
    obind (idx s1.2.2 s1.2.1) fun x4 =>
    obind (idx s1.2.2 s1.1) fun x5 =>
    obind (idx s1.2.2 s1.1) fun x6 =>
    bnd (s1.2.2.set s1.1.toNat x4) fun x7 =>
    obind (idx x7 s1.2.1) fun x8 =>
    bnd (x7.set s1.2.1.toNat x5) fun x9 =>
    some (.inl ((w64 (s1.1 + 1)), (w64 (s1.2.1 - 1)), x9))
  else
  some (.inr s1.2.2)

def m_slices_Reverse_int_int (a0 : List Int) : Option (List Int) :=
  bnd ((w64 ((a0.length : Int) - 1))) fun x1 =>
  obind (iter m_slices_Reverse_int_int_b1 FUEL (0, x1, a0)) fun x2 =>
  some x2

theorem w_slices_Reverse_int_int {m : Mem} {As : List Ow} {w : World} {a0 : List Int} {a0v0 : Value} {a0c0 : List Value} {r : List Int} (S : St m ((row 1 a0v0 a0c0 a0.length) :: As) w) (a0h0 : RepL m a0c0 a0) (hm : m_slices_Reverse_int_int a0 = some r) :
    CallsR Tryz.prog 108 #[a0v0] w fun v w' => ∃ (M : Mem), m ≤ M ∧ ∃ (rk0 : List Value), St M ((row 1 a0v0 rk0 r.length) :: As) w' ∧ v = .tuple #[] ∧ RepL M rk0 r := by
 unfold m_slices_Reverse_int_int at hm
 have L0 := Mem.rfl' m
 refine callsR (args := [a0v0]) func108 rfl ntmps108 (nb rfl) <| ws <| s_mvv (v := a0v0) rfl <| s_lenO (i := 0) S rfl rfl underlying24 <| s_subI (m := (a0.length : Int)) (n := 1) rfl rfl <| s_asv (v := vI 0) rfl ?_
 obtain ⟨x1, q1, hm⟩ := bnd_eq hm
 refine s_asv (v := vI x1) (congrArg (fun z => vI z) q1.symm) <| wpl_nil <| nrm ?_
 obtain ⟨x2, q2, hm⟩ := obind_some hm
 have L1 := Mem.rfl' m
 refine wpc_wrap <| wpc_join [2, 3, 7, 8, 9, 10, 11, 12, 13, 14, 15, 16, 17, 18, 19, 20, 21, 22, 23, 24, 25, 26, 27] (fun f' w' => ∃ (M1 : Mem) (c2 : List Value), m ≤ M1 ∧ St M1 ((row 1 a0v0 c2 x2.length) :: As) w' ∧ RepL M1 c2 x2 ∧ AllAt f' []) ?_ ?_
 · refine wpc_block <| wpc_rounds [2, 3, 7, 8, 9, 10, 11, 12, 13, 14, 15, 16, 17, 18, 19, 20, 21, 22, 23, 24, 25, 26, 27] (fun n1 f' w' => ∃ (s1 : Int × Int × (List Int)) (m17 : Mem) (c1 : List Value), iter m_slices_Reverse_int_int_b1 n1 s1 = some x2 ∧ m ≤ m17 ∧ St m17 ((row 1 a0v0 c1 s1.2.2.length) :: As) w' ∧ RepL m17 c1 s1.2.2 ∧ AllAt f' [(2, vI s1.1), (3, vI s1.2.1)]) FUEL ⟨(0, x1, a0), m, _, q2, L1, S, a0h0, ⟨rfl, rfl, trivial⟩⟩ ?_
   rintro n1 f1 w1 ho ⟨s1, m1, c1, q3, L3, S1, h1, ha⟩
   obtain ⟨u1, rfl⟩ := fr_of (N := 28) ho ha
   clear ho ha
   have L2 := Mem.rfl' m1
   clear S
   cases n1 with
   | zero => exact (iter_zero q3).elim
   | succ n1 =>
    obtain ⟨y1, q5, q4⟩ := iter_succ q3
    unfold m_slices_Reverse_int_int_b1 at q5
    refine wpc_seq <| ws <| s_mvv (v := vI s1.1) rfl <| s_mvv (v := vI s1.2.1) rfl <| s_lss (m := s1.1) (n := s1.2.1) rfl rfl <| wpl_nil <| nrm <| wpc_if (t := (decide (s1.1 < s1.2.1))) rfl (fun hc1 => ?_) (fun hc1 => ?_)
    · replace q5 := ifT hc1 q5
      refine wpc_skip <| nrm <| wpc_seq <| wpc_block ?_
      obtain ⟨x4, q7, q5⟩ := obind_some q5
      obtain ⟨x5, q8, q5⟩ := obind_some q5
      obtain ⟨x6, q9, q5⟩ := obind_some q5
      obtain ⟨x7, q10, q5⟩ := bnd_eq q5
      have HM : MonoAll [(14, fv a0v0), (15, fv (vI s1.1)), (16, fv a0v0), (17, fv (vI s1.2.1)), (18, fv a0v0), (19, fv (vI s1.2.1)), (20, fun (M : Mem) (v : Value) => ∃ (p1 : Value), v = p1 ∧ PtO a0v0 p1 (s1.2.1.toNat * 1)), (21, fv (vI x4)), (22, fv a0v0), (23, fv (vI s1.1)), (24, fun (M : Mem) (v : Value) => ∃ (p2 : Value), v = p2 ∧ PtO a0v0 p2 (s1.1.toNat * 1)), (25, fv (vI x5)), (26, fun (M : Mem) (v : Value) => ∃ (p3 : Value), v = p3 ∧ PtO a0v0 p3 (s1.1.toNat * 1)), (100013, fun _ _ => True)] := ⟨mv, mv, mv, mv, mv, mv, (fun _ _ _ l ⟨p1, e, h4⟩ => ⟨p1, e, h4⟩), mv, mv, mv, (fun _ _ _ l ⟨p2, e, h8⟩ => ⟨p2, e, h8⟩), mv, (fun _ _ _ l ⟨p3, e, h12⟩ => ⟨p3, e, h12⟩), (fun _ _ _ _ h => h), trivial⟩
      refine wpc_flowG HM 14 mixed rfl rfl rfl (rg 14 13) (fun L f M w => ∃ (X1 : List Ow), ((L 13 = false → (RowS M X1 1 a0v0 s1.2.2)) ∧ (L 13 = true → (RowS M X1 1 a0v0 x7))) ∧ St M ((X1 ++ As)) w) (⟨[row 1 a0v0 c1 s1.2.2.length], ⟨fun _ => ⟨_, rfl, h1⟩, fun hx => ff hx⟩, St.drew S1 _⟩) ?_ ?_
      · refine ⟨?_, ?_, ?_, ?_, ?_, ?_, ?_, ?_, ?_, ?_, ?_, ?_, ?_, ?_, trivial⟩
        · exact flp HM rfl [] (fun _ _ => trivial) (fun _ _ q => s_mvv (v := a0v0) rfl q) rfl
        · exact flp HM rfl [] (fun _ _ => trivial) (fun _ _ q => s_mvv (v := vI s1.1) rfl q) rfl
        · exact flp HM rfl [] (fun _ _ => trivial) (fun _ _ q => s_mvv (v := a0v0) rfl q) rfl
        · exact flp HM rfl [] (fun _ _ => trivial) (fun _ _ q => s_mvv (v := vI s1.2.1) rfl q) rfl
        · exact flp HM rfl [] (fun _ _ => trivial) (fun _ _ q => s_mvv (v := a0v0) rfl q) rfl
        · exact flp HM rfl [] (fun _ _ => trivial) (fun _ _ q => s_mvv (v := vI s1.2.1) rfl q) rfl
        · intro L f8 w8 hL hd hc ⟨m8, L16, ⟨X1, C7, S8⟩, K, hO⟩
          have d13 : L 13 = false := undep hc hL rfl
          obtain ⟨u8, rfl⟩ := fr_of (N := 28) (L := [(18, _), (19, _)]) hO ⟨K 4 (dep hd rfl), K 5 (dep hd rfl), trivial⟩
          obtain ⟨c3, rfl, h3⟩ := C7.1 d13
          replace h3 : RepL _ c3 s1.2.2 := h3
          replace S8 : St _ ((row 1 a0v0 c3 s1.2.2.length) :: As) _ := S8
          have L17 := Mem.rfl' m8
          exact s_idxO (i := 0) (j := s1.2.1) S8 rfl rfl rfl (idx_rng q7).1 (idx_rng q7).2 underlying24 sizeOf3 fun p1 h4 => wpn <| ⟨m8, Mem.tr L16 L17, ⟨[row 1 a0v0 c3 s1.2.2.length], ⟨fun _ => ⟨_, rfl, h3⟩, fun hx => tf hx d13⟩, S8⟩, facts_step HM rfl K L17 rfl rfl ⟨p1, rfl, h4⟩, outP⟩
        · intro L f9 w9 hL hd hc ⟨m9, L18, ⟨X1, C8, S9⟩, K, hO⟩
          obtain ⟨v1, e3, h5⟩ := K 6 (dep hd rfl)
          have d13 : L 13 = false := undep hc hL rfl
          obtain ⟨u9, rfl⟩ := fr_of (N := 28) (L := [(20, _)]) hO ⟨e3, trivial⟩
          obtain ⟨c4, rfl, h6⟩ := C8.1 d13
          replace h6 : RepL _ c4 s1.2.2 := h6
          replace S9 : St _ ((row 1 a0v0 c4 s1.2.2.length) :: As) _ := S9
          have L19 := Mem.rfl' m9
          have e4 : _ = [vI x4] := RepL.getI h6 q7
          exact s_ldO (i := 0) (off := s1.2.1.toNat * 1) (d := [vI x4]) S9 rfl h5 rfl e4 isAgg3 sizeOf3 (fun _ => rfl) <| wpn <| ⟨m9, Mem.tr L18 L19, ⟨[row 1 a0v0 c4 s1.2.2.length], ⟨fun _ => ⟨_, rfl, h6⟩, fun hx => tf hx d13⟩, S9⟩, facts_step HM rfl K L19 rfl rfl rfl, outP⟩
        · exact flp HM rfl [] (fun _ _ => trivial) (fun _ _ q => s_mvv (v := a0v0) rfl q) rfl
        · exact flp HM rfl [] (fun _ _ => trivial) (fun _ _ q => s_mvv (v := vI s1.1) rfl q) rfl
        · intro L f12 w12 hL hd hc ⟨m12, L24, ⟨X1, C11, S12⟩, K, hO⟩
          have d11 : L 11 = false := undep hc hL rfl
          have d13 : L 13 = false := undep hc d11 rfl
          obtain ⟨u12, rfl⟩ := fr_of (N := 28) (L := [(22, _), (23, _)]) hO ⟨K 8 (dep hd rfl), K 9 (dep hd rfl), trivial⟩
          obtain ⟨c5, rfl, h7⟩ := C11.1 d13
          replace h7 : RepL _ c5 s1.2.2 := h7
          replace S12 : St _ ((row 1 a0v0 c5 s1.2.2.length) :: As) _ := S12
          have L25 := Mem.rfl' m12
          exact s_idxO (i := 0) (j := s1.1) S12 rfl rfl rfl (idx_rng q8).1 (idx_rng q8).2 underlying24 sizeOf3 fun p2 h8 => wpn <| ⟨m12, Mem.tr L24 L25, ⟨[row 1 a0v0 c5 s1.2.2.length], ⟨fun _ => ⟨_, rfl, h7⟩, fun hx => tf hx d13⟩, S12⟩, facts_step HM rfl K L25 rfl rfl ⟨p2, rfl, h8⟩, outP⟩
        · intro L f13 w13 hL hd hc ⟨m13, L26, ⟨X1, C12, S13⟩, K, hO⟩
          obtain ⟨v2, e7, h9⟩ := K 10 (dep hd rfl)
          have d13 : L 13 = false := undep hc hL rfl
          obtain ⟨u13, rfl⟩ := fr_of (N := 28) (L := [(24, _)]) hO ⟨e7, trivial⟩
          obtain ⟨c6, rfl, h10⟩ := C12.1 d13
          replace h10 : RepL _ c6 s1.2.2 := h10
          replace S13 : St _ ((row 1 a0v0 c6 s1.2.2.length) :: As) _ := S13
          have L27 := Mem.rfl' m13
          have e8 : _ = [vI x5] := RepL.getI h10 q8
          exact s_ldO (i := 0) (off := s1.1.toNat * 1) (d := [vI x5]) S13 rfl h9 rfl e8 isAgg3 sizeOf3 (fun _ => rfl) <| wpn <| ⟨m13, Mem.tr L26 L27, ⟨[row 1 a0v0 c6 s1.2.2.length], ⟨fun _ => ⟨_, rfl, h10⟩, fun hx => tf hx d13⟩, S13⟩, facts_step HM rfl K L27 rfl rfl rfl, outP⟩
        · intro L f14 w14 hL hd hc ⟨m14, L28, ⟨X1, C13, S14⟩, K, hO⟩
          have d13 : L 13 = false := undep hc hL rfl
          obtain ⟨u14, rfl⟩ := fr_of (N := 28) (L := [(14, _), (15, _)]) hO ⟨K 0 (dep hd rfl), K 1 (dep hd rfl), trivial⟩
          obtain ⟨c7, rfl, h11⟩ := C13.1 d13
          replace h11 : RepL _ c7 s1.2.2 := h11
          replace S14 : St _ ((row 1 a0v0 c7 s1.2.2.length) :: As) _ := S14
          have L29 := Mem.rfl' m14
          exact s_idxO (i := 0) (j := s1.1) S14 rfl rfl rfl (idx_rng q9).1 (idx_rng q9).2 underlying24 sizeOf3 fun p3 h12 => wpn <| ⟨m14, Mem.tr L28 L29, ⟨[row 1 a0v0 c7 s1.2.2.length], ⟨fun _ => ⟨_, rfl, h11⟩, fun hx => tf hx d13⟩, S14⟩, facts_step HM rfl K L29 rfl rfl ⟨p3, rfl, h12⟩, outP⟩
        · intro L f15 w15 hL hd hc ⟨m15, L30, ⟨X1, C14, S15⟩, K, hO⟩
          obtain ⟨v3, e11, h13⟩ := K 12 (dep hd rfl)
          have d13 : L 13 = false := hL
          obtain ⟨u15, rfl⟩ := fr_of (N := 28) (L := [(26, _), (21, _)]) hO ⟨e11, K 7 (dep hd rfl), trivial⟩
          obtain ⟨c8, rfl, h14⟩ := C14.1 d13
          replace h14 : RepL _ c8 s1.2.2 := h14
          replace S15 : St _ ((row 1 a0v0 c8 s1.2.2.length) :: As) _ := S15
          have L31 := Mem.rfl' m15
          refine s_stOR (i := 0) (j := s1.1) (z := x4) S15 rfl rfl h13 rfl h14 q9 sizeOf3 (oneC rfl oneN) rfl fun w16 c9 S16 h15 => ?_
          rw [← q10] at S16 h15
          replace S16 : St _ ((row 1 a0v0 c9 x7.length) :: As) _ := S16
          clear S15
          exact wpn <| ⟨m15, Mem.tr L30 L31, ⟨[row 1 a0v0 c9 x7.length], ⟨fun hx => tf rfl hx, fun _ => ⟨_, rfl, h15⟩⟩, S16⟩, facts_none HM K L31 rfl (fun _ => trivial), outP⟩
      intro L f16 w17 hall ⟨m16, L32, ⟨X1, C15, S17⟩, K, hO⟩
      have d2 : L 2 = true := hall 2 (by decide)
      have d3 : L 3 = true := hall 3 (by decide)
      have d11 : L 11 = true := hall 11 (by decide)
      have d13 : L 13 = true := hall 13 (by decide)
      obtain ⟨u16, rfl⟩ := fr_of (N := 28) (L := [(16, _), (17, _), (25, _)]) hO ⟨K 2 d2, K 3 d3, K 11 d11, trivial⟩
      replace S17 : St _ ((X1 ++ As)) _ := S17
      obtain ⟨c10, rfl, h16⟩ := C15.2 d13
      replace h16 : RepL _ c10 x7 := h16
      replace S17 : St _ ((row 1 a0v0 c10 x7.length) :: As) _ := S17
      clear S1
      obtain ⟨x8, q11, q5⟩ := obind_some q5
      refine s_idxO (i := 0) (j := s1.2.1) S17 rfl rfl rfl (idx_rng q11).1 (idx_rng q11).2 underlying24 sizeOf3 fun p4 h17 => ?_
      obtain ⟨x9, q12, q5⟩ := bnd_eq q5
      refine s_stOR (i := 0) (j := s1.2.1) (z := x5) S17 rfl rfl h17 rfl h16 q11 sizeOf3 (oneC rfl oneN) rfl fun w18 c11 S18 h18 => ?_
      rw [← q12] at S18 h18
      replace S18 : St _ ((row 1 a0v0 c11 x9.length) :: As) _ := S18
      clear S17
      refine wpl_nil <| nrmB <| nrm <| wpc_region <| s_mvv (v := vI s1.1) rfl <| s_addI (m := s1.1) (n := 1) rfl rfl <| s_mvv (v := vI s1.2.1) rfl <| s_subI (m := s1.2.1) (n := 1) rfl rfl <| s_asv (v := vI (w64 (s1.1 + 1))) rfl <| s_asv (v := vI (w64 (s1.2.1 - 1))) rfl <| wpl_nil <| nrm ?_
      have e0 := Option.some.inj q5
      subst e0
      rcases q4 with ⟨sn, e, q4'⟩ | e
      · cases e
        replace L2 := Mem.tr L2 L32
        exact ⟨outP, _, Nat.lt_succ_self _, ⟨_, m16, _, q4', Mem.tr L3 L2, S18, h18, ⟨rfl, rfl, trivial⟩⟩⟩
      · cases e
    replace q5 := ifF hc1 q5
    refine wpc_exit <| thE <| thE <| exB <| nrm ?_
    have e0 := Option.some.inj q5
    subst e0
    rcases q4 with ⟨sn, e, _⟩ | e
    · cases e
    · cases e
      exact ⟨outP, m1, _, Mem.tr L3 L2, S1, h1, trivial⟩
 rintro f17 w19 ho ⟨m18, c2, l1, S19, h2, ha⟩
 obtain ⟨u17, rfl⟩ := fr_of (N := 28) ho ha
 clear ho ha S
 refine outNw fun we hpd => ?_
 replace S19 := St.pd S19 hpd
 have e0 := Option.some.inj hm
 subst e0
 replace L0 := Mem.tr L0 l1
 exact outR [] rfl trivial ⟨_, L0, _, S19, rfl, h2⟩

def m_slices_Insert_int_int (a0 : List Int) (a1 : Int) (a2 : List Int) : Option (List Int) :=
  if (0 : Int) ≤ a1 ∧ a1 ≤ (a0.length : Int) then
    if ((a2.length : Int) == 0) = true then
      some a0
    else
    if (a1 == (a0.length : Int)) = true then
      obind (app 8 a0 a2) fun x1 =>
      some x1
    else
    none
  else none

theorem w_slices_Insert_int_int {m : Mem} {As : List Ow} {w : World} {a0 : List Int} {a0v0 : Value} {a0c0 : List Value} {a1 : Int} {a2 : List Int} {a2v0 : Value} {r : List Int} (S : St m ((row 1 a0v0 a0c0 a0.length) :: As) w) (a0h0 : RepL m a0c0 a0) (a2h0 : SlR m a2v0 a2) (hm : m_slices_Insert_int_int a0 a1 a2 = some r) :
    CallsR Tryz.prog 50 #[a0v0, vI a1, a2v0] w fun v w' => ∃ (M : Mem), m ≤ M ∧ ∃ (rv0 : Value) (rc0 : List Value), St M ((row 1 rv0 rc0 r.length) :: As) w' ∧ v = rv0 ∧ RepL M rc0 r := by
 unfold m_slices_Insert_int_int at hm
 have L0 := Mem.rfl' m
 refine callsR (args := [a0v0, vI a1, a2v0]) func50 rfl ntmps50 (nb rfl) <| ws <| s_asv (v := .slice none 0 0) rfl <| nx <| s_mvv (v := a0v0) rfl <| s_mvv (v := vI a1) rfl ?_
 obtain ⟨⟨q1, q2⟩, hm⟩ := if_some hm
 refine s_cutX (i := 0) S rfl rfl underlying24 sizeOf3 rfl q1 q2 fun v1 => nx <| s_mvv (v := a2v0) rfl <| s_lenR (xs := a2) rfl a2h0 underlying24 <| s_asv (v := vI (a2.length : Int)) rfl <| wpl_nil <| nrm <| wpc_seq <| ws <| s_mvv (v := vI (a2.length : Int)) rfl <| s_eql (m := (a2.length : Int)) (n := 0) rfl rfl <| wpl_nil <| nrm <| wpc_if (t := ((a2.length : Int) == 0)) rfl (fun hc1 => ?_) (fun hc1 => ?_)
 · replace hm := ifT hc1 hm
   refine ws <| s_mvv (v := a0v0) rfl <| s_asv (v := a0v0) rfl <| wpl_nil <| nrm <| wpc_ret <| thR <| outRw fun we hpd => ?_
   replace S := St.pd S hpd
   have e0 := Option.some.inj hm
   subst e0
   exact outR [_] rfl ⟨rfl, trivial⟩ ⟨_, L0, _, _, S, rfl, a0h0⟩
 replace hm := ifF hc1 hm
 refine wpc_skip <| nrm <| ws <| s_mvv (v := a0v0) rfl <| s_lenO (i := 0) S rfl rfl underlying24 <| s_asv (v := vI (a0.length : Int)) rfl <| wpl_nil <| nrm <| wpc_seq <| ws <| s_mvv (v := vI a1) rfl <| s_mvv (v := vI (a0.length : Int)) rfl <| s_eql (m := a1) (n := (a0.length : Int)) rfl rfl <| wpl_nil <| nrm <| wpc_if (t := (a1 == (a0.length : Int))) rfl (fun hc2 => ?_) (fun hc2 => ?_)
 · replace hm := ifT hc2 hm
   refine ws <| s_mvv (v := a0v0) rfl <| s_mvv (v := a2v0) rfl ?_
   obtain ⟨x1, q3, hm⟩ := obind_some hm
   refine s_app (i := 0) (zs := x1) (bytes := 8) (ti := Tryz.t3) S rfl rfl a0h0 rfl rfl a2h0 q3 underlying24 type3 rfl rfl rfl rfl fun v2 c1 w1 S1 h1 => ?_
   replace S1 : St _ ((row 1 v2 c1 x1.length) :: As) _ := S1
   clear S
   refine s_asv (v := v2) rfl <| wpl_nil <| nrm <| wpc_ret <| thR <| outRw fun we hpd => ?_
   replace S1 := St.pd S1 hpd
   have e0 := Option.some.inj hm
   subst e0
   exact outR [_] rfl ⟨rfl, trivial⟩ ⟨_, L0, _, _, S1, rfl, h1⟩
 replace hm := ifF hc2 hm
 cases hm

def m_slices_Clone_int_int (a0 : List Int) : Option (List Int) :=
  obind (app 8 ([] : List Int) a0) fun x1 =>
  some x1

theorem w_slices_Clone_int_int {m : Mem} {As : List Ow} {w : World} {a0 : List Int} {a0v0 : Value} {r : List Int} (S : St m (As) w) (a0h0 : SlR m a0v0 a0) (hm : m_slices_Clone_int_int a0 = some r) :
    CallsR Tryz.prog 51 #[a0v0] w fun v w' => ∃ (M : Mem), m ≤ M ∧ ∃ (rv0 : Value) (rc0 : List Value), St M ((row 1 rv0 rc0 r.length) :: As) w' ∧ v = rv0 ∧ RepL M rc0 r := by
 unfold m_slices_Clone_int_int at hm
 have L0 := Mem.rfl' m
 refine callsR (args := [a0v0]) func51 rfl ntmps51 (nb rfl) <| ws <| s_asv (v := .slice none 0 0) rfl <| wpl_nil <| nrm <| wpc_seq <| ws <| s_mvv (v := a0v0) rfl <| s_eqlNil rfl rfl a0h0 underlying24 <| wpl_nil <| nrm <| wpc_if (t := (isNilV a0v0)) rfl (fun hc1 => ?_) (fun hc1 => ?_)
 · have he1 : a0 = [] := SlR.nilOf a0h0 hc1
   rw [he1] at hm
   replace hm : (some ([] : List Int)) = some _ := hm
   refine ws <| s_asv (v := .slice none 0 0) rfl <| wpl_nil <| nrm <| wpc_ret <| thR <| outRw fun we hpd => ?_
   replace S := St.pd S hpd
   have S1 := St.rowNil S 1
   have h1 : RepL m [] ([] : List Int) := RepL.nil
   replace S1 : St _ ((row 1 (.slice none 0 0) [] ([] : List Int).length) :: As) _ := S1
   clear S
   have e0 := Option.some.inj hm
   subst e0
   exact outR [_] rfl ⟨rfl, trivial⟩ ⟨_, L0, _, _, S1, rfl, h1⟩
 refine wpc_skip <| nrm <| ws <| s_litOC (parts := []) (vs := []) (cls := []) (n := 0) (sz := 1) S underlying24 sizeOf3 zeroValue3 rfl trivial rfl rfl (by decide) (by decide) fun v1 w1 S2 => ?_
 have h2 : RepL m [] ([] : List Int) := RepL.nil
 replace S2 : St _ ((row 1 v1 [] ([] : List Int).length) :: As) _ := S2
 clear S
 refine s_mvv (v := a0v0) rfl ?_
 obtain ⟨x1, q1, hm⟩ := obind_some hm
 refine s_app (i := 0) (zs := x1) (bytes := 8) (ti := Tryz.t3) S2 rfl rfl h2 rfl rfl a0h0 q1 underlying24 type3 rfl rfl rfl rfl fun v2 c1 w2 S3 h3 => ?_
 replace S3 : St _ ((row 1 v2 c1 x1.length) :: As) _ := S3
 clear S2
 refine s_asv (v := v2) rfl <| wpl_nil <| nrm <| wpc_ret <| outRw fun we hpd => ?_
 replace S3 := St.pd S3 hpd
 have e0 := Option.some.inj hm
 subst e0
 exact outR [_] rfl ⟨rfl, trivial⟩ ⟨_, L0, _, _, S3, rfl, h3⟩

def m_logd_Hide (a0 : g_api_Log) : Option (g_api_Log × Int) :=
  obind (m_logd_Check a0) fun x1 =>
  if (x1 != 0) = true then
    some ((⟨0, 0, 0, [], [], []⟩ : g_api_Log), x1)
  else
  bnd ((w64 ((a0.L.length : Int) - 1))) fun x2 =>
  if (decide (x2 < 0)) = true then
    some ((⟨0, 0, 0, [], [], []⟩ : g_api_Log), 240)
  else
  obind (
    obind (m_slices_BinarySearch_int_int a0.Hide x2) fun x4 =>
    if (!x4.2) = true then
      obind (m_slices_Clone_int_int a0.Hide) fun x5 =>
      obind (m_slices_Insert_int_int x5 x4.1 ([x2] : List Int)) fun x6 =>
      some x6
    else
    some a0.Hide
  ) fun x3 =>
  some ((⟨a0.Id, a0.Key, a0.Delay, a0.L, x3, a0.Wait⟩ : g_api_Log), 0)

theorem w_logd_Hide {m : Mem} {As : List Ow} {w : World} {a0 : g_api_Log} {a0v3 : Value} {a0v4 : Value} {a0v5 : Value} {r : g_api_Log × Int} (S : St m (As) w) (a0h3 : SlR m a0v3 a0.L) (a0h4 : SlR m a0v4 a0.Hide) (a0h5 : SlR m a0v5 a0.Wait) (hm : m_logd_Hide a0 = some r) :
    CallsR Tryz.prog 18 #[.agg (c_api_Log a0 a0v3 a0v4 a0v5).toArray] w fun v w' => ∃ (M : Mem), m ≤ M ∧ ∃ (rv0_3 : Value) (rv0_4 : Value) (rv0_5 : Value), St M (As) w' ∧ v = .tuple #[.agg (c_api_Log r.1 rv0_3 rv0_4 rv0_5).toArray, vI r.2] ∧ SlR M rv0_3 r.1.L ∧ SlR M rv0_4 r.1.Hide ∧ SlR M rv0_5 r.1.Wait := by
 unfold m_logd_Hide at hm
 have L0 := Mem.rfl' m
 refine callsR (args := [.agg (c_api_Log a0 a0v3 a0v4 a0v5).toArray]) func18 rfl ntmps18 (nb rfl) <| ws <| s_box S rfl fun b1 w1 S1 => ?_
 replace S1 : St _ ((bx b1 (c_api_Log a0 a0v3 a0v4 a0v5) 26) :: As) _ := S1
 clear S
 refine s_alloc S1 zeroValue26 fun b2 w2 S2 => ?_
 replace S2 : St _ ((bx b2 z_api_Log 26) :: (bx b1 (c_api_Log a0 a0v3 a0v4 a0v5) 26) :: As) _ := S2
 clear S1
 refine s_asv (v := vI 0) rfl <| wpl_nil <| nrm <| wpc_seq <| ws <| s_ld (i := 1) (cs := (c_api_Log a0 a0v3 a0v4 a0v5)) S2 rfl rfl isAgg26 sizeOf26 rfl (fun h => by cases h) ?_
 obtain ⟨x1, q1, hm⟩ := obind_some hm
 refine s_call call6 (w_logd_Check (a0 := a0) S2 a0h3 a0h4 a0h5 q1) rfl ?_
 rintro _ w3 ⟨m1, l1, S3, rfl⟩
 clear S2
 refine s_asv (v := vI x1) rfl <| nx <| s_mvv (v := vI x1) rfl <| s_neq (m := x1) (n := 0) rfl rfl <| wpl_nil <| nrm <| wpc_if (t := (x1 != 0)) rfl (fun hc1 => ?_) (fun hc1 => ?_)
 · replace hm := ifT hc1 hm
   refine ws <| s_build (parts := []) (ps := []) (cs := z_api_Log) zeroValue26 (BuildPl.str (ss := [1, 1, 1, 1, 1, 1]) underlying26 ⟨sizeOf3, sizeOf22, sizeOf3, sizeOf23, sizeOf24, sizeOf23, trivial⟩) rfl trivial rfl <| s_mvv (v := vI x1) rfl <| s_stL (i := 0) S3 rfl rfl rfl sizeOf26 (oneC rfl (oneC rfl (oneC rfl (oneC rfl (oneC rfl (oneC rfl oneN)))))) rfl fun w4 S4 => ?_
   replace S4 : St _ ((bx b2 z_api_Log 26) :: (bx b1 (c_api_Log a0 a0v3 a0v4 a0v5) 26) :: As) _ := S4
   clear S3
   refine s_asv (v := vI x1) rfl <| wpl_nil <| nrm <| wpc_ret <| thR <| outRw fun we hpd => ?_
   replace S4 := St.pd S4 hpd
   have SR := S4
   obtain ⟨m2, l2, S5⟩ := St.drop S4 0
   replace S5 : St _ ((bx b1 (c_api_Log a0 a0v3 a0v4 a0v5) 26) :: As) _ := S5
   obtain ⟨m3, l3, S6⟩ := St.drop S5 0
   clear S5
   replace S6 : St _ (As) _ := S6
   have e0 := Option.some.inj hm
   subst e0
   replace L0 := Mem.tr L0 (mt l1 (mt l2 l3))
   exact outR [_, _] rfl ⟨res_box (i := 0) (off := 0) (cs := z_api_Log) SR rfl rfl isAgg26 sizeOf26 rfl (fun h => by cases h), rfl, trivial⟩ ⟨_, L0, _, _, _, S6, rfl, SlR.nil, SlR.nil, SlR.nil⟩
 replace hm := ifF hc1 hm
 refine wpc_skip <| nrm <| ws <| s_fld (n := 0) rfl underlying26 rfl rfl sizeOf23 <| s_ld (i := 1) (cs := [a0v3]) S3 rfl rfl isAgg23 sizeOf23 rfl (fun _ => rfl) <| s_lenR (xs := a0.L) rfl (a0h3.up l1) underlying23 <| s_subI (m := (a0.L.length : Int)) (n := 1) rfl rfl ?_
 obtain ⟨x2, q2, hm⟩ := bnd_eq hm
 refine s_asv (v := vI x2) (congrArg (fun z => vI z) q2.symm) <| wpl_nil <| nrm <| wpc_seq <| ws <| s_mvv (v := vI x2) rfl <| s_lss (m := x2) (n := 0) rfl rfl <| wpl_nil <| nrm <| wpc_if (t := (decide (x2 < 0))) rfl (fun hc2 => ?_) (fun hc2 => ?_)
 · replace hm := ifT hc2 hm
   refine ws <| s_build (parts := []) (ps := []) (cs := z_api_Log) zeroValue26 (BuildPl.str (ss := [1, 1, 1, 1, 1, 1]) underlying26 ⟨sizeOf3, sizeOf22, sizeOf3, sizeOf23, sizeOf24, sizeOf23, trivial⟩) rfl trivial rfl <| s_stL (i := 0) S3 rfl rfl rfl sizeOf26 (oneC rfl (oneC rfl (oneC rfl (oneC rfl (oneC rfl (oneC rfl oneN)))))) rfl fun w5 S7 => ?_
   replace S7 : St _ ((bx b2 z_api_Log 26) :: (bx b1 (c_api_Log a0 a0v3 a0v4 a0v5) 26) :: As) _ := S7
   clear S3
   refine s_asv (v := vI 240) rfl <| wpl_nil <| nrm <| wpc_ret <| thR <| outRw fun we hpd => ?_
   replace S7 := St.pd S7 hpd
   have SR := S7
   obtain ⟨m4, l4, S8⟩ := St.drop S7 0
   replace S8 : St _ ((bx b1 (c_api_Log a0 a0v3 a0v4 a0v5) 26) :: As) _ := S8
   obtain ⟨m5, l5, S9⟩ := St.drop S8 0
   clear S8
   replace S9 : St _ (As) _ := S9
   have e0 := Option.some.inj hm
   subst e0
   replace L0 := Mem.tr L0 (mt l1 (mt l4 l5))
   exact outR [_, _] rfl ⟨res_box (i := 0) (off := 0) (cs := z_api_Log) SR rfl rfl isAgg26 sizeOf26 rfl (fun h => by cases h), rfl, trivial⟩ ⟨_, L0, _, _, _, S9, rfl, SlR.nil, SlR.nil, SlR.nil⟩
 replace hm := ifF hc2 hm
 refine wpc_skip <| nrm ?_
 obtain ⟨x3, q3, hm⟩ := obind_some hm
 have L1 := Mem.rfl' m1
 refine wpc_seq <| wpc_join [6, 7, 21, 22, 23, 24, 25, 26, 27, 28, 29, 30, 31, 32, 33, 34, 35, 36, 37] (fun f' w' => ∃ (M1 : Mem) (v1 : Value), m1 ≤ M1 ∧ St M1 ((bx b2 z_api_Log 26) :: (bx b1 (c_api_Log a0 a0v3 v1 a0v5) 26) :: As) w' ∧ SlR M1 v1 x3 ∧ AllAt f' []) ?_ ?_
 · refine ws <| s_fld (n := 0) rfl underlying26 rfl rfl sizeOf24 <| s_ld (i := 1) (cs := [a0v4]) S3 rfl rfl isAgg24 sizeOf24 rfl (fun _ => rfl) <| s_mvv (v := vI x2) rfl ?_
   obtain ⟨x4, q4, q3⟩ := obind_some q3
   refine s_call call49 (w_slices_BinarySearch_int_int (a0 := a0.Hide) (a1 := x2) S3 (a0h4.up l1) q4) rfl ?_
   rintro _ w6 ⟨m6, l6, S10, rfl⟩
   clear S3
   refine s_mvv (v := .tuple #[vI x4.1, vb x4.2]) rfl <| s_ext (i := 0) rfl rfl <| s_ext (i := 1) rfl rfl <| s_asv (v := vI x4.1) rfl <| s_asv (v := vb x4.2) rfl <| nx <| s_mvv (v := vb x4.2) rfl <| s_not rfl <| wpl_nil <| nrm <| wpc_if (t := (!x4.2)) rfl (fun hc3 => ?_) (fun hc3 => ?_)
   · replace q3 := ifT hc3 q3
     refine wpc_region <| s_fld (n := 0) rfl underlying26 rfl rfl sizeOf24 <| s_ld (i := 1) (cs := [a0v4]) S10 rfl rfl isAgg24 sizeOf24 rfl (fun _ => rfl) ?_
     obtain ⟨x5, q5, q3⟩ := obind_some q3
     replace a0h4 := a0h4.up (mt l1 l6)
     refine s_call call51 (w_slices_Clone_int_int (a0 := a0.Hide) S10 a0h4 q5) rfl ?_
     rintro v2 w7 ⟨m7, l7, _, c1, S11, rfl, h2⟩
     clear S10
     refine s_mvv (v := vI x4.1) rfl <| s_mvv (v := vI x2) rfl <| s_litC (parts := [.tmp 34]) (vs := [vI x2]) (cls := [[vI x2]]) (xs := ([x2] : List Int)) (n := 1) S11 underlying24 sizeOf3 zeroValue3 rfl ⟨rfl, trivial⟩ (RepL.cons (c := [vI x2]) (x := x2) rfl RepL.nil) rfl rfl rfl (by decide) (by decide) fun v3 m8 w8 l8 S12 h3 => ?_
     clear S11
     obtain ⟨x6, q6, q3⟩ := obind_some q3
     replace h2 := RepL.up l8 h2
     refine s_call call50 (w_slices_Insert_int_int (a0 := x5) (a1 := x4.1) (a2 := ([x2] : List Int)) S12 h2 h3 q6) rfl ?_
     rintro v4 w9 ⟨m9, l9, _, c2, S13, rfl, h4⟩
     clear S12
     refine s_fld (n := 0) rfl underlying26 rfl rfl sizeOf24 <| s_stS (i := 2) S13 rfl rfl rfl sizeOf24 (St.rowCells (i := 0) S13 rfl) rfl fun w10 S14 => ?_
     replace S14 : St _ ((row 1 v4 c2 x6.length) :: (bx b2 z_api_Log 26) :: (bx b1 (c_api_Log a0 a0v3 v4 a0v5) 26) :: As) _ := S14
     clear S13
     refine wpl_nil <| nrm ?_
     obtain ⟨m10, l10, h5, S15⟩ := St.rowKeepT (i := 0) S14 rfl h4 rfl
     clear S14
     have e0 := Option.some.inj q3
     subst e0
     replace L1 := Mem.tr L1 (mt l6 (mt l7 (mt l8 (mt l9 l10))))
     exact ⟨outP, m10, _, L1, S15, h5, trivial⟩
   replace q3 := ifF hc3 q3
   refine wpc_skip <| nrm ?_
   have e0 := Option.some.inj q3
   subst e0
   replace a0h4 := a0h4.up (mt l1 l6)
   replace L1 := Mem.tr L1 l6
   exact ⟨outP, m6, _, L1, S10, a0h4, trivial⟩
 rintro f1 w11 ho ⟨m11, v1, l11, S16, h1, ha⟩
 obtain ⟨u1, rfl⟩ := fr_of (N := 39) ho ha
 clear S3
 refine ws <| s_ld (i := 1) (cs := (c_api_Log a0 a0v3 v1 a0v5)) S16 rfl rfl isAgg26 sizeOf26 rfl (fun h => by cases h) ?_
 replace a0h3 := a0h3.up (mt l1 l11)
 replace a0h5 := a0h5.up (mt l1 l11)
 refine s_stL (i := 0) S16 rfl rfl rfl sizeOf26 (oneC rfl (oneC rfl (oneC rfl (oneC (SlR.one a0h3) (oneC (SlR.one h1) (oneC (SlR.one a0h5) oneN)))))) rfl fun w12 S17 => ?_
 replace S17 : St _ ((bx b2 (c_api_Log a0 a0v3 v1 a0v5) 26) :: (bx b1 (c_api_Log a0 a0v3 v1 a0v5) 26) :: As) _ := S17
 clear S16
 refine s_asv (v := vI 0) rfl <| wpl_nil <| nrm <| wpc_ret <| outRw fun we hpd => ?_
 replace S17 := St.pd S17 hpd
 have SR := S17
 obtain ⟨m12, l12, S18⟩ := St.drop S17 0
 replace S18 : St _ ((bx b1 (c_api_Log a0 a0v3 v1 a0v5) 26) :: As) _ := S18
 obtain ⟨m13, l13, S19⟩ := St.drop S18 0
 clear S18
 replace S19 : St _ (As) _ := S19
 have e0 := Option.some.inj hm
 subst e0
 replace L0 := Mem.tr L0 (mt l1 (mt l11 (mt l12 l13)))
 replace a0h3 := a0h3.up (mt l12 l13)
 replace h1 := h1.up (mt l12 l13)
 replace a0h5 := a0h5.up (mt l12 l13)
 exact outR [_, _] rfl ⟨res_box (i := 0) (off := 0) (cs := (c_api_Log a0 a0v3 v1 a0v5)) SR rfl rfl isAgg26 sizeOf26 rfl (fun h => by cases h), rfl, trivial⟩ ⟨_, L0, _, _, _, S19, rfl, a0h3, h1, a0h5⟩

def m_logd_CheckPromise (a0 : g_api_Key) (a1 : g_api_Promise) : Option Int :=
  obind (m_logd_number a1.At) fun x1 =>
  obind (m_logd_ofPromise a1) fun x2 =>
  obind (m_logd_signed a0 a1.Log x1 x2 a1.Sig) fun x3 =>
  some x3

theorem w_logd_CheckPromise {m : Mem} {As : List Ow} {w : World} {a0 : g_api_Key} {a1 : g_api_Promise} {r : Int} (S : St m (As) w) (hm : m_logd_CheckPromise a0 a1 = some r) :
    CallsR Tryz.prog 20 #[.agg (c_api_Key a0).toArray, .agg (c_api_Promise a1).toArray] w fun v w' => ∃ (M : Mem), m ≤ M ∧ St M (As) w' ∧ v = vI r := by
 unfold m_logd_CheckPromise at hm
 have L0 := Mem.rfl' m
 refine callsR (args := [.agg (c_api_Key a0).toArray, .agg (c_api_Promise a1).toArray]) func20 rfl ntmps20 (nb rfl) <| ws <| s_box S rfl fun b1 w1 S1 => ?_
 replace S1 : St _ ((bx b1 (c_api_Key a0) 32) :: As) _ := S1
 clear S
 refine s_box S1 rfl fun b2 w2 S2 => ?_
 replace S2 : St _ ((bx b2 (c_api_Promise a1) 59) :: (bx b1 (c_api_Key a0) 32) :: As) _ := S2
 clear S1
 refine s_asv (v := vI 0) rfl <| wpl_nil <| nrm <| wpc_seq ?_
 obtain ⟨x1, q1, hm⟩ := obind_some hm
 obtain ⟨x2, q2, hm⟩ := obind_some hm
 have HM : MonoAll [(5, fv (.agg (c_api_Key a0).toArray)), (6, fv (pt b2 0)), (7, fv (vI a1.Log)), (8, fv (pt b2 1)), (9, fv (vI a1.At)), (10, fv (vb x1)), (11, fv (.agg (c_api_Promise a1).toArray)), (12, fun _ _ => True), (13, fv (pt b2 4)), (14, fv (.agg (c_api_Sig a1.Sig).toArray))] := ⟨mv, mv, mv, mv, mv, mv, mv, (fun _ _ _ _ h => h), mv, mv, trivial⟩
 refine wpc_flowG HM 10 mixed rfl rfl rfl (rg 5 10) (fun L f M w => ∃ (X1 : List Ow), ((L 7 = false → X1 = []) ∧ (L 7 = true → (RowS M X1 1 (f 12) x2))) ∧ St M ((bx b2 (c_api_Promise a1) 59) :: (bx b1 (c_api_Key a0) 32) :: (X1 ++ As)) w) (⟨[], ⟨fun _ => rfl, fun hx => ff hx⟩, St.drew S2 _⟩) ?_ ?_
 · refine ⟨?_, ?_, ?_, ?_, ?_, ?_, ?_, ?_, ?_, ?_, trivial⟩
   · exact flp HM rfl [] (fun _ _ => trivial) (fun _ ⟨_, _, S3⟩ q => s_ld (i := 1) (cs := (c_api_Key a0)) S3 rfl rfl isAgg32 sizeOf32 rfl (fun h => by cases h) q) rfl
   · exact flp HM rfl [] (fun _ _ => trivial) (fun _ _ q => s_fld (n := 0) rfl underlying59 rfl rfl sizeOf3 q) rfl
   · exact flp HM rfl [(6, _)] (fun K _ => ⟨K 1 rfl, trivial⟩) (fun _ ⟨_, _, S5⟩ q => s_ld (i := 0) (cs := [vI a1.Log]) S5 rfl rfl isAgg3 sizeOf3 rfl (fun _ => rfl) q) rfl
   · exact flp HM rfl [] (fun _ _ => trivial) (fun _ _ q => s_fld (n := 0) rfl underlying59 rfl rfl sizeOf3 q) rfl
   · exact flp HM rfl [(8, _)] (fun K _ => ⟨K 3 rfl, trivial⟩) (fun _ ⟨_, _, S7⟩ q => s_ld (i := 0) (cs := [vI a1.At]) S7 rfl rfl isAgg3 sizeOf3 rfl (fun _ => rfl) q) rfl
   · intro L f6 w8 hL hd hc ⟨m6, L11, ⟨X1, C6, S8⟩, K, hO⟩
     obtain ⟨u6, rfl⟩ := fr_of (N := 16) (L := [(9, _)]) hO ⟨K 4 (dep hd rfl), trivial⟩
     have L12 := Mem.rfl' m6
     refine s_call call22 (w_logd_number (a0 := a1.At) S8  q1) rfl ?_
     rintro _ w9 ⟨m7, l1, S9, rfl⟩
     replace C6 := C6.imp id (fun p a => RowS.up l1 (p a))
     clear S8
     refine wpn ?_
     replace L12 := Mem.tr L12 l1
     exact ⟨m7, Mem.tr L11 L12, ⟨X1, C6, S9⟩, facts_step HM rfl K L12 rfl rfl rfl, outP⟩
   · exact flp HM rfl [] (fun _ _ => trivial) (fun _ ⟨_, _, S10⟩ q => s_ld (i := 0) (cs := (c_api_Promise a1)) S10 rfl rfl isAgg59 sizeOf59 rfl (fun h => by cases h) q) rfl
   · intro L f8 w11 hL hd hc ⟨m9, L15, ⟨X1, C8, S11⟩, K, hO⟩
     have d7 : L 7 = false := hL
     obtain ⟨u8, rfl⟩ := fr_of (N := 16) (L := [(11, _)]) hO ⟨K 6 (dep hd rfl), trivial⟩
     obtain rfl := C8.1 d7
     replace S11 : St _ ((bx b2 (c_api_Promise a1) 59) :: (bx b1 (c_api_Key a0) 32) :: As) _ := S11
     have L16 := Mem.rfl' m9
     refine s_call call48 (w_logd_ofPromise (a0 := a1) S11  q2) rfl ?_
     rintro v1 w12 ⟨m10, l2, _, c1, S12, rfl, h1⟩
     clear S11
     refine wpn ?_
     replace L16 := Mem.tr L16 l2
     refine ⟨m10, Mem.tr L15 L16, ⟨[row 1 v1 c1 x2.length], ⟨fun hx => tf rfl hx, fun _ => ⟨_, rfl, h1⟩⟩, ?_⟩, facts_step HM rfl K L16 rfl rfl trivial, outP⟩
     have S20 : St _ ((bx b2 (c_api_Promise a1) 59) :: (bx b1 (c_api_Key a0) 32) :: (row 1 v1 c1 x2.length) :: As) _ := St.perm S12 (List.Perm.trans (List.Perm.swap _ _ _) (List.Perm.cons _ (List.Perm.swap _ _ _)))
     exact S20
   · exact flp HM rfl [] (fun _ _ => trivial) (fun _ _ q => s_fld (n := 1) rfl underlying59 rfl rfl sizeOf38 q) rfl
   · exact flp HM rfl [(13, _)] (fun K _ => ⟨K 8 rfl, trivial⟩) (fun _ ⟨_, _, S14⟩ q => s_ld (i := 0) (cs := (c_api_Sig a1.Sig)) S14 rfl rfl isAgg38 sizeOf38 rfl (fun h => by cases h) q) rfl
 intro L f11 w15 hall ⟨m13, L21, ⟨X1, C11, S15⟩, K, hO⟩
 have d0 : L 0 = true := hall 0 (by decide)
 have d2 : L 2 = true := hall 2 (by decide)
 have d5 : L 5 = true := hall 5 (by decide)
 obtain ⟨v2, e9⟩ : ∃ x, f11 12 = x := ⟨_, rfl⟩
 have d9 : L 9 = true := hall 9 (by decide)
 have d7 : L 7 = true := hall 7 (by decide)
 obtain ⟨u11, rfl⟩ := fr_of (N := 16) (L := [(5, _), (7, _), (10, _), (12, _), (14, _)]) hO ⟨K 0 d0, K 2 d2, K 5 d5, e9, K 9 d9, trivial⟩
 replace S15 : St _ ((bx b2 (c_api_Promise a1) 59) :: (bx b1 (c_api_Key a0) 32) :: (X1 ++ As)) _ := S15
 obtain ⟨c2, rfl, h2⟩ := C11.2 d7
 replace h2 : RepL _ c2 x2 := h2
 replace S15 : St _ ((bx b2 (c_api_Promise a1) 59) :: (bx b1 (c_api_Key a0) 32) :: (row 1 v2 c2 x2.length) :: As) _ := S15
 clear S2
 obtain ⟨m14, l3, h3, S16⟩ := St.rowKeepT (i := 2) S15 rfl h2 rfl
 clear S15
 obtain ⟨x3, q3, hm⟩ := obind_some hm
 refine s_call call33 (w_logd_signed (a0 := a0) (a1 := a1.Log) (a2 := x1) (a3 := x2) (a4 := a1.Sig) S16 h3 q3) rfl ?_
 rintro _ w16 ⟨m15, l4, S17, rfl⟩
 clear S16
 refine s_asv (v := vI x3) rfl <| wpl_nil <| nrm <| wpc_ret <| outRw fun we hpd => ?_
 replace S17 := St.pd S17 hpd
 obtain ⟨m16, l5, S18⟩ := St.drop S17 0
 clear S17
 replace S18 : St _ ((bx b1 (c_api_Key a0) 32) :: As) _ := S18
 obtain ⟨m17, l6, S19⟩ := St.drop S18 0
 clear S18
 replace S19 : St _ (As) _ := S19
 have e0 := Option.some.inj hm
 subst e0
 replace L0 := Mem.tr L0 (mt L21 (mt l3 (mt l4 (mt l5 l6))))
 exact outR [_] rfl ⟨rfl, trivial⟩ ⟨_, L0, S19, rfl⟩

end Go.Proofs.YtemiampgjgenhaaGreatDoor
