/- The walks of some functions, written by program. Conditions: none. -/
import Derived.Test.YtemiampgjgenhaaGreatWkH
import Derived.Test.YtemiampgjgenhaaGreatWkI
import Derived.Test.YtemiampgjgenhaaGreatWkJ
set_option maxHeartbeats 20000000
set_option maxRecDepth 100000
set_option linter.unusedVariables false
set_option linter.unusedSimpArgs false
namespace Go.Proofs.YtemiampgjgenhaaGreat
open Go Go.Gw Tryz

def m_ref24_Add (a0 : g_api_Log) (a1 : List UInt8) (a2 : Int) : Option (g_api_Log × g_api_Promise × Int) :=
  obind (m_ref24_Check a0) fun x1 =>
  if (x1 != 0) = true then
    some ((⟨0, 0, 0, [], [], []⟩ : g_api_Log), (⟨0, 0, (0, 0), (⟨0, 0⟩ : g_api_Sig)⟩ : g_api_Promise), x1)
  else
  obind (m_ref24_isBody a1) fun x2 =>
  obind (
    if (!x2) = true then
      some true
    else
    obind (m_ref24_num a2) fun x5 =>
    some (!x5)
  ) fun x4 =>
  if x4 = true then
    some ((⟨0, 0, 0, [], [], []⟩ : g_api_Log), (⟨0, 0, (0, 0), (⟨0, 0⟩ : g_api_Sig)⟩ : g_api_Promise), 1)
  else
  obind (m_ref24_All a0) fun x6 =>
  obind (m_ref24_find x6 a1) fun x7 =>
  if (decide (x7 ≥ 0)) = true then
    obind (idx x6 x7) fun x8 =>
    obind (m_ref08_Leaf a1) fun x9 =>
    obind (m_ref24_PromBytes (⟨a0.Id, x8.At, x9, (⟨0, 0⟩ : g_api_Sig)⟩ : g_api_Promise)) fun x10 =>
    obind (m_ref04_Sign a0.Key x10) fun x11 =>
    some (a0, (⟨a0.Id, x8.At, x9, x11.1⟩ : g_api_Promise), 0)
  else
  if (decide ((x6.length : Int) ≥ 256)) = true then
    some ((⟨0, 0, 0, [], [], []⟩ : g_api_Log), (⟨0, 0, (0, 0), (⟨0, 0⟩ : g_api_Sig)⟩ : g_api_Promise), 2)
  else
  obind (app 32 ([] : List g_api_Leaf) a0.Wait) fun x12 =>
  obind (app 1 ([] : List UInt8) a1) fun x13 =>
  obind (app 32 x12 ([(⟨x13, a2⟩ : g_api_Leaf)] : List g_api_Leaf)) fun x14 =>
  obind (m_ref08_Leaf a1) fun x15 =>
  obind (m_ref24_PromBytes (⟨a0.Id, a2, x15, (⟨0, 0⟩ : g_api_Sig)⟩ : g_api_Promise)) fun x16 =>
  obind (m_ref04_Sign a0.Key x16) fun x17 =>
  some ((⟨a0.Id, a0.Key, a0.Delay, a0.L, a0.Hide, x14⟩ : g_api_Log), (⟨a0.Id, a2, x15, x17.1⟩ : g_api_Promise), 0)

theorem w_ref24_Add {m : Mem} {As : List Ow} {w : World} {a0 : g_api_Log} {a0v3 : Value} {a0v4 : Value} {a0v5 : Value} {a1 : List UInt8} {a1v0 : Value} {a2 : Int} {r : g_api_Log × g_api_Promise × Int} (S : St m (As) w) (a0h3 : SlR m a0v3 a0.L) (a0h4 : SlR m a0v4 a0.Hide) (a0h5 : SlR m a0v5 a0.Wait) (a1h0 : SlR m a1v0 a1) (hm : m_ref24_Add a0 a1 a2 = some r) :
    CallsR Tryz.prog 17 #[.agg (c_api_Log a0 a0v3 a0v4 a0v5).toArray, a1v0, vI a2] w fun v w' => ∃ (M : Mem), m ≤ M ∧ ∃ (rv0_3 : Value) (rv0_4 : Value) (rv0_5 : Value), St M (As) w' ∧ v = .tuple #[.agg (c_api_Log r.1 rv0_3 rv0_4 rv0_5).toArray, .agg (c_api_Promise r.2.1).toArray, vI r.2.2] ∧ SlR M rv0_3 r.1.L ∧ SlR M rv0_4 r.1.Hide ∧ SlR M rv0_5 r.1.Wait := by
 unfold m_ref24_Add at hm
 have L0 := Mem.rfl' m
 refine callsR (args := [.agg (c_api_Log a0 a0v3 a0v4 a0v5).toArray, a1v0, vI a2]) func17 rfl ntmps17 (nb rfl) <| ws <| s_box S rfl fun b1 w1 S1 => ?_
 replace S1 : St _ ((bx b1 (c_api_Log a0 a0v3 a0v4 a0v5) 26) :: As) _ := S1
 clear S
 refine s_alloc S1 zeroValue26 fun b2 w2 S2 => s_alloc S2 zeroValue45 fun b3 w3 S3 => ?_
 replace S3 : St _ ((bx b3 z_api_Promise 45) :: (bx b2 z_api_Log 26) :: (bx b1 (c_api_Log a0 a0v3 a0v4 a0v5) 26) :: As) _ := S3
 clear S1 S2
 refine s_asv (v := vI 0) rfl <| nx <| s_ld (i := 2) (cs := (c_api_Log a0 a0v3 a0v4 a0v5)) S3 rfl rfl isAgg26 sizeOf26 rfl (fun h => by cases h) ?_
 obtain ⟨x1, q1, hm⟩ := obind_some hm
 refine s_call call14 (w_ref24_Check (a0 := a0) S3 a0h3 a0h4 a0h5 q1) rfl ?_
 rintro _ w4 ⟨m1, l1, S4, rfl⟩
 clear S3
 refine s_asv (v := vI x1) rfl <| wpl_nil <| nrm <| wpc_seq <| ws <| s_mvv (v := vI x1) rfl <| s_neq (m := x1) (n := 0) rfl rfl <| wpl_nil <| nrm <| wpc_if (t := (x1 != 0)) rfl (fun hc1 => ?_) (fun hc1 => ?_)
 · replace hm := ifT hc1 hm
   refine ws <| s_build (parts := []) (ps := []) (cs := z_api_Log) zeroValue26 (BuildPl.str (ss := [1, 1, 1, 1, 1, 1]) underlying26 ⟨sizeOf3, sizeOf22, sizeOf3, sizeOf23, sizeOf24, sizeOf23, trivial⟩) rfl trivial rfl <| s_build (parts := []) (ps := []) (cs := z_api_Promise) zeroValue45 (BuildPl.str (ss := [1, 1, 2, 2]) underlying45 ⟨sizeOf3, sizeOf3, sizeOf41, sizeOf43, trivial⟩) rfl trivial rfl <| s_mvv (v := vI x1) rfl <| s_stL (i := 1) S4 rfl rfl rfl sizeOf26 (oneC rfl (oneC rfl (oneC rfl (oneC rfl (oneC rfl (oneC rfl oneN)))))) rfl fun w5 S5 => s_stL (i := 0) S5 rfl rfl rfl sizeOf45 (oneC rfl (oneC rfl (oneC rfl (oneC rfl (oneC rfl (oneC rfl oneN)))))) rfl fun w6 S6 => ?_
   replace S6 : St _ ((bx b3 z_api_Promise 45) :: (bx b2 z_api_Log 26) :: (bx b1 (c_api_Log a0 a0v3 a0v4 a0v5) 26) :: As) _ := S6
   clear S4 S5
   refine s_asv (v := vI x1) rfl <| wpl_nil <| nrm <| wpc_ret <| thR <| outRw fun we hpd => ?_
   replace S6 := St.pd S6 hpd
   have SR := S6
   obtain ⟨m2, l2, S7⟩ := St.drop S6 0
   replace S7 : St _ ((bx b2 z_api_Log 26) :: (bx b1 (c_api_Log a0 a0v3 a0v4 a0v5) 26) :: As) _ := S7
   obtain ⟨m3, l3, S8⟩ := St.drop S7 0
   clear S7
   replace S8 : St _ ((bx b1 (c_api_Log a0 a0v3 a0v4 a0v5) 26) :: As) _ := S8
   obtain ⟨m4, l4, S9⟩ := St.drop S8 0
   clear S8
   replace S9 : St _ (As) _ := S9
   have e0 := Option.some.inj hm
   subst e0
   replace L0 := Mem.tr L0 (mt l1 (mt l2 (mt l3 l4)))
   exact outR [_, _, _] rfl ⟨res_box (i := 1) (off := 0) (cs := z_api_Log) SR rfl rfl isAgg26 sizeOf26 rfl (fun h => by cases h), res_box (i := 0) (off := 0) (cs := z_api_Promise) SR rfl rfl isAgg45 sizeOf45 rfl (fun h => by cases h), rfl, trivial⟩ ⟨_, L0, _, _, _, S9, rfl, SlR.nil, SlR.nil, SlR.nil⟩
 replace hm := ifF hc1 hm
 refine wpc_skip <| nrm <| wpc_seq <| ws <| s_mvv (v := a1v0) rfl ?_
 obtain ⟨x2, q2, hm⟩ := obind_some hm
 refine s_call call47 (w_ref24_isBody (a0 := a1) S4 (a1h0.up l1) q2) rfl ?_
 rintro _ w7 ⟨m5, l5, S10, rfl⟩
 clear S4
 refine s_not rfl <| s_mvv (v := vb (!x2)) rfl ?_
 obtain ⟨x4, q4, hm⟩ := obind_some hm
 have L1 := Mem.rfl' m5
 refine wpl_cut 4 [27, 28, 29, 30] (fun f' w' => ∃ (M1 : Mem), m5 ≤ M1 ∧ St M1 ((bx b3 z_api_Promise 45) :: (bx b2 z_api_Log 26) :: (bx b1 (c_api_Log a0 a0v3 a0v4 a0v5) 26) :: As) w' ∧ AllAt f' [(30, vb x4)]) ?_ ?_
 · rcases bool_tf (!x2) with hb1 | hb1
   · replace q4 := ifT hb1 q4
     refine wpl_no (d := 26) rfl rfl (cb hb1) <| wpl_no (d := 26) rfl rfl (cb hb1) <| wpl_no (d := 26) rfl rfl (cb hb1) <| s_pickT (cb hb1) rfl <| wpl_nil (nrm ?_)
     have e0 := Option.some.inj q4
     subst e0
     exact ⟨outP, m5, L1, S10, ⟨rfl, trivial⟩⟩
   replace q4 := ifF hb1 q4
   refine wpl_yes (d := 26) rfl rfl (cb hb1) <| s_mvv (v := vI a2) rfl <| wpl_yes (d := 26) rfl rfl (cb hb1) ?_
   obtain ⟨x5, q5, q4⟩ := obind_some q4
   refine s_call call45 (w_ref24_num (a0 := a2) S10  q5) rfl ?_
   rintro _ w9 ⟨m7, l7, S12, rfl⟩
   clear S10
   refine wpl_yes (d := 26) rfl rfl (cb hb1) <| s_not rfl <| s_pickF (cb hb1) rfl <| wpl_nil (nrm ?_)
   have e0 := Option.some.inj q4
   subst e0
   replace L1 := Mem.tr L1 l7
   exact ⟨outP, m7, L1, S12, ⟨rfl, trivial⟩⟩
 rintro f1 w10 ho ⟨m8, l8, S13, ha⟩
 obtain ⟨u1, rfl⟩ := fr_of (N := 82) ho ha
 clear S10
 refine wpl_nil <| nrm <| wpc_if (t := x4) rfl (fun hc2 => ?_) (fun hc2 => ?_)
 · replace hm := ifT hc2 hm
   refine ws <| s_build (parts := []) (ps := []) (cs := z_api_Log) zeroValue26 (BuildPl.str (ss := [1, 1, 1, 1, 1, 1]) underlying26 ⟨sizeOf3, sizeOf22, sizeOf3, sizeOf23, sizeOf24, sizeOf23, trivial⟩) rfl trivial rfl <| s_build (parts := []) (ps := []) (cs := z_api_Promise) zeroValue45 (BuildPl.str (ss := [1, 1, 2, 2]) underlying45 ⟨sizeOf3, sizeOf3, sizeOf41, sizeOf43, trivial⟩) rfl trivial rfl <| s_stL (i := 1) S13 rfl rfl rfl sizeOf26 (oneC rfl (oneC rfl (oneC rfl (oneC rfl (oneC rfl (oneC rfl oneN)))))) rfl fun w11 S14 => s_stL (i := 0) S14 rfl rfl rfl sizeOf45 (oneC rfl (oneC rfl (oneC rfl (oneC rfl (oneC rfl (oneC rfl oneN)))))) rfl fun w12 S15 => ?_
   replace S15 : St _ ((bx b3 z_api_Promise 45) :: (bx b2 z_api_Log 26) :: (bx b1 (c_api_Log a0 a0v3 a0v4 a0v5) 26) :: As) _ := S15
   clear S13 S14
   refine s_asv (v := vI 1) rfl <| wpl_nil <| nrm <| wpc_ret <| thR <| outRw fun we hpd => ?_
   replace S15 := St.pd S15 hpd
   have SR := S15
   obtain ⟨m9, l9, S16⟩ := St.drop S15 0
   replace S16 : St _ ((bx b2 z_api_Log 26) :: (bx b1 (c_api_Log a0 a0v3 a0v4 a0v5) 26) :: As) _ := S16
   obtain ⟨m10, l10, S17⟩ := St.drop S16 0
   clear S16
   replace S17 : St _ ((bx b1 (c_api_Log a0 a0v3 a0v4 a0v5) 26) :: As) _ := S17
   obtain ⟨m11, l11, S18⟩ := St.drop S17 0
   clear S17
   replace S18 : St _ (As) _ := S18
   have e0 := Option.some.inj hm
   subst e0
   replace L0 := Mem.tr L0 (mt l1 (mt l5 (mt l8 (mt l9 (mt l10 l11)))))
   exact outR [_, _, _] rfl ⟨res_box (i := 1) (off := 0) (cs := z_api_Log) SR rfl rfl isAgg26 sizeOf26 rfl (fun h => by cases h), res_box (i := 0) (off := 0) (cs := z_api_Promise) SR rfl rfl isAgg45 sizeOf45 rfl (fun h => by cases h), rfl, trivial⟩ ⟨_, L0, _, _, _, S18, rfl, SlR.nil, SlR.nil, SlR.nil⟩
 replace hm := ifF hc2 hm
 refine wpc_skip <| nrm <| ws <| s_ld (i := 2) (cs := (c_api_Log a0 a0v3 a0v4 a0v5)) S13 rfl rfl isAgg26 sizeOf26 rfl (fun h => by cases h) ?_
 obtain ⟨x6, q6, hm⟩ := obind_some hm
 replace a0h3 := a0h3.up (mt l1 (mt l5 l8))
 replace a0h4 := a0h4.up (mt l1 (mt l5 l8))
 replace a0h5 := a0h5.up (mt l1 (mt l5 l8))
 refine s_call call46 (w_ref24_All (a0 := a0) S13 a0h3 a0h4 a0h5 q6) rfl ?_
 rintro v1 w13 ⟨m12, l12, _, c1, S19, rfl, h1⟩
 clear S13
 refine s_asv (v := v1) rfl <| nx <| s_mvv (v := v1) rfl <| s_mvv (v := a1v0) rfl ?_
 obtain ⟨m13, l13, h2, S20⟩ := St.rowKeepT (i := 0) S19 rfl h1 rfl
 clear S19
 obtain ⟨x7, q7, hm⟩ := obind_some hm
 replace a1h0 := a1h0.up (mt l1 (mt l5 (mt l8 (mt l12 l13))))
 refine s_call call48 (w_ref24_find (a0 := x6) (a1 := a1) S20 h2 a1h0 q7) rfl ?_
 rintro _ w14 ⟨m14, l14, S21, rfl⟩
 clear S20
 refine s_asv (v := vI x7) rfl <| wpl_nil <| nrm <| wpc_seq <| ws <| s_mvv (v := vI x7) rfl <| s_geq (m := x7) (n := 0) rfl rfl <| wpl_nil <| nrm <| wpc_if (t := (decide (x7 ≥ 0))) rfl (fun hc3 => ?_) (fun hc3 => ?_)
 · replace hm := ifT hc3 hm
   refine wpc_region <| s_mvv (v := v1) rfl <| s_mvv (v := vI x7) rfl ?_
   obtain ⟨x8, q8, hm⟩ := obind_some hm
   refine s_idx (q := x8) rfl rfl (h2.up l14) q8 underlying23 sizeOf77 fun p1 c2 h3 r2 => ?_
   obtain ⟨v2, rfl, h4⟩ := rep_g_api_Leaf r2
   refine s_fldM (n := 0) rfl h3 underlying77 rfl rfl sizeOf3 fun p2 h5 => ?_
   replace h5 : PtC _ _ [vI x8.At] := h5
   refine s_ldM (cs := [vI x8.At]) S21 rfl h5 rfl isAgg3 sizeOf3 (fun _ => rfl) <| s_asv (v := vI x8.At) rfl <| wpl_nil <| nrm <| wpc_seq ?_
   obtain ⟨x9, q9, hm⟩ := obind_some hm
   have HM : MonoAll [(64, fv (pt b1 0)), (65, fv (vI a0.Id)), (66, fv (vI x8.At)), (67, fv a1v0), (68, fv (.agg #[vU x9.1, vU x9.2])), (69, fv (.agg #[vI a0.Id, vI x8.At, vU x9.1, vU x9.2, vU 0, vU 0])), (13, fun (M : Mem) (v : Value) => ∃ (b4 : Nat), v = pt b4 0)] := ⟨mv, mv, mv, mv, mv, mv, (fun _ _ _ _ h => h), trivial⟩
   refine wpc_flowG HM 7 mixed rfl rfl rfl [13, 64, 65, 66, 67, 68, 69] (fun L f M w => St M ((bx b3 z_api_Promise 45) :: (bx b2 z_api_Log 26) :: (bx b1 (c_api_Log a0 a0v3 a0v4 a0v5) 26) :: ((bif L 6 then [bxv (f 13) z_api_Promise 45] else []) ++ As)) w) (St.drew S21 _) ?_ ?_
   · refine ⟨?_, ?_, ?_, ?_, ?_, ?_, ?_, trivial⟩
     · exact flp HM rfl [] (fun _ _ => trivial) (fun _ _ q => s_fld (n := 0) rfl underlying26 rfl rfl sizeOf3 q) rfl
     · exact flp HM rfl [(64, _)] (fun K _ => ⟨K 0 rfl, trivial⟩) (fun _ S23 q => s_ld (i := 2) (cs := [vI a0.Id]) S23 rfl rfl isAgg3 sizeOf3 rfl (fun _ => rfl) q) rfl
     · exact flp HM rfl [] (fun _ _ => trivial) (fun _ _ q => s_mvv (v := vI x8.At) rfl q) rfl
     · exact flp HM rfl [] (fun _ _ => trivial) (fun _ _ q => s_mvv (v := a1v0) rfl q) rfl
     · intro L f6 w19 hL hd hc ⟨m19, L10, S26, K, hO⟩
       obtain ⟨u6, rfl⟩ := fr_of (N := 82) (L := [(67, _)]) hO ⟨K 3 (dep hd rfl), trivial⟩
       have L11 := Mem.rfl' m19
       replace a1h0 := a1h0.up (mt l14 L10)
       refine s_call call57 (w_ref08_Leaf (a0 := a1) S26 a1h0 q9) rfl ?_
       rintro _ w20 ⟨m20, l15, S27, rfl⟩
       clear S26
       refine wpn ?_
       replace L11 := Mem.tr L11 l15
       exact ⟨m20, Mem.tr L10 L11, S27, facts_step HM rfl K L11 rfl rfl rfl, outP⟩
     · intro L f7 w21 hL hd hc ⟨m21, L12, S28, K, hO⟩
       obtain ⟨u7, rfl⟩ := fr_of (N := 82) (L := [(65, _), (66, _), (68, _)]) hO ⟨K 1 (dep hd rfl), K 2 (dep hd rfl), K 4 (dep hd rfl), trivial⟩
       exact s_build (parts := [(0, .tmp 65), (1, .tmp 66), (2, .tmp 68)]) (ps := [(0, vI a0.Id, [vI a0.Id]), (1, vI x8.At, [vI x8.At]), (2, .agg #[vU x9.1, vU x9.2], [vU x9.1, vU x9.2])]) (cs := [vI a0.Id, vI x8.At, vU x9.1, vU x9.2, vU 0, vU 0]) zeroValue45 (BuildPl.str (ss := [1, 1, 2, 2]) underlying45 ⟨sizeOf3, sizeOf3, sizeOf41, sizeOf43, trivial⟩) rfl ⟨rfl, rfl, rfl, trivial⟩ rfl <| oS HM L12 S28 rfl K rfl rfl rfl outP
     · intro L f8 w22 hL hd hc ⟨m22, L14, S29, K, hO⟩
       have d6 : L 6 = false := hL
       replace S29 : St _ ((bx b3 z_api_Promise 45) :: (bx b2 z_api_Log 26) :: (bx b1 (c_api_Log a0 a0v3 a0v4 a0v5) 26) :: ((bif L 6 then [bxv (f8 13) z_api_Promise 45] else []) ++ As)) _ := S29
       rw [d6] at S29
       obtain ⟨u8, rfl⟩ := fr_of (N := 82) (L := []) hO trivial
       replace S29 : St _ ((bx b3 z_api_Promise 45) :: (bx b2 z_api_Log 26) :: (bx b1 (c_api_Log a0 a0v3 a0v4 a0v5) 26) :: As) _ := S29
       have L15 := Mem.rfl' m22
       refine s_alloc S29 zeroValue45 fun b4 w23 S30 => ?_
       replace S30 : St _ ((bx b4 z_api_Promise 45) :: (bx b3 z_api_Promise 45) :: (bx b2 z_api_Log 26) :: (bx b1 (c_api_Log a0 a0v3 a0v4 a0v5) 26) :: As) _ := S30
       clear S29
       refine wpn <| ⟨m22, Mem.tr L14 L15, ?_, facts_step HM rfl K L15 rfl rfl ⟨b4, rfl⟩, outP⟩
       have S62 : St _ ((bx b3 z_api_Promise 45) :: (bx b2 z_api_Log 26) :: (bx b1 (c_api_Log a0 a0v3 a0v4 a0v5) 26) :: (bx b4 z_api_Promise 45) :: As) _ := St.perm S30 (List.Perm.trans (List.Perm.swap _ _ _) (List.Perm.trans (List.Perm.cons _ (List.Perm.swap _ _ _)) (List.Perm.cons _ (List.Perm.cons _ (List.Perm.swap _ _ _)))))
       exact S62
   intro L f9 w24 hall ⟨m23, L16, S31, K, hO⟩
   have d6 : L 6 = true := hall 6 (by decide)
   obtain ⟨b5, e6⟩ := K 6 d6
   have d5 : L 5 = true := hall 5 (by decide)
   replace S31 : St _ ((bx b3 z_api_Promise 45) :: (bx b2 z_api_Log 26) :: (bx b1 (c_api_Log a0 a0v3 a0v4 a0v5) 26) :: ((bif L 6 then [bxv (f9 13) z_api_Promise 45] else []) ++ As)) _ := S31
   rw [d6] at S31
   obtain ⟨u9, rfl⟩ := fr_of (N := 82) (L := [(13, _), (69, _)]) hO ⟨e6, K 5 d5, trivial⟩
   replace S31 : St _ ((bx b3 z_api_Promise 45) :: (bx b2 z_api_Log 26) :: (bx b1 (c_api_Log a0 a0v3 a0v4 a0v5) 26) :: (bx b5 z_api_Promise 45) :: As) _ := S31
   clear S21
   refine s_stL (i := 3) S31 rfl rfl rfl sizeOf45 (oneC rfl (oneC rfl (oneC rfl (oneC rfl (oneC rfl (oneC rfl oneN)))))) rfl fun w25 S32 => ?_
   replace S32 : St _ ((bx b3 z_api_Promise 45) :: (bx b2 z_api_Log 26) :: (bx b1 (c_api_Log a0 a0v3 a0v4 a0v5) 26) :: (bx b5 [vI a0.Id, vI x8.At, vU x9.1, vU x9.2, vU 0, vU 0] 45) :: As) _ := S32
   clear S31
   refine wpl_nil <| nrm <| wpc_seq ?_
   obtain ⟨x10, q10, hm⟩ := obind_some hm
   obtain ⟨x11, q11, hm⟩ := obind_some hm
   have HM : MonoAll [(71, fv (pt b1 1)), (72, fv (vU a0.Key)), (73, fv (.agg #[vI a0.Id, vI x8.At, vU x9.1, vU x9.2, vU 0, vU 0])), (74, fun (M : Mem) (v : Value) => ∃ (v3 : Value), v = v3 ∧ SlR M v3 x10), (75, fv (.tuple #[.agg (c_api_Sig x11.1).toArray, vI x11.2])), (70, fv (.tuple #[.agg (c_api_Sig x11.1).toArray, vI x11.2])), (76, fv (.agg (c_api_Sig x11.1).toArray)), (77, fv (vI x11.2)), (14, fun (M : Mem) (v : Value) => ∃ (b6 : Nat), v = pt b6 0), (100009, fun _ _ => True)] := ⟨mv, mv, mv, (fun _ _ _ l ⟨v3, e, h7⟩ => ⟨v3, e, h7.up l⟩), mv, mv, mv, mv, (fun _ _ _ _ h => h), (fun _ _ _ _ h => h), trivial⟩
   refine wpc_flowG HM 10 mixed rfl rfl rfl [14, 70, 71, 72, 73, 74, 75, 76, 77] (fun L f M w => St M ((bx b3 z_api_Promise 45) :: (bx b2 z_api_Log 26) :: (bx b1 (c_api_Log a0 a0v3 a0v4 a0v5) 26) :: (bx b5 [vI a0.Id, vI x8.At, vU x9.1, vU x9.2, vU 0, vU 0] 45) :: ((bif L 8 then [bxv (f 14) (bif L 9 then (c_api_Sig x11.1) else z_api_Sig) 43] else []) ++ As)) w) (St.drew S32 _) ?_ ?_
   · refine ⟨?_, ?_, ?_, ?_, ?_, ?_, ?_, ?_, ?_, ?_, trivial⟩
     · exact flp HM rfl [] (fun _ _ => trivial) (fun _ _ q => s_fld (n := 0) rfl underlying26 rfl rfl sizeOf22 q) rfl
     · intro L f11 w27 hL hd hc ⟨m25, L19, S34, K, hO⟩
       have d9 : L 9 = false := undep hc hL rfl
       replace S34 : St _ ((bx b3 z_api_Promise 45) :: (bx b2 z_api_Log 26) :: (bx b1 (c_api_Log a0 a0v3 a0v4 a0v5) 26) :: (bx b5 [vI a0.Id, vI x8.At, vU x9.1, vU x9.2, vU 0, vU 0] 45) :: ((bif L 8 then [bxv (f11 14) (bif L 9 then (c_api_Sig x11.1) else z_api_Sig) 43] else []) ++ As)) _ := S34
       rw [d9] at S34
       obtain ⟨u11, rfl⟩ := fr_of (N := 82) (L := [(71, _)]) hO ⟨K 0 (dep hd rfl), trivial⟩
       replace S34 : St _ ((bx b3 z_api_Promise 45) :: (bx b2 z_api_Log 26) :: (bx b1 (c_api_Log a0 a0v3 a0v4 a0v5) 26) :: (bx b5 [vI a0.Id, vI x8.At, vU x9.1, vU x9.2, vU 0, vU 0] 45) :: ((bif L 8 then [bxv _ (bif false then (c_api_Sig x11.1) else z_api_Sig) 43] else []) ++ As)) _ := S34
       have L20 := Mem.rfl' m25
       refine s_ld (i := 2) (cs := [vU a0.Key]) S34 rfl rfl isAgg22 sizeOf22 rfl (fun _ => rfl) <| wpn <| ⟨m25, Mem.tr L19 L20, ?_, facts_step HM rfl K L20 rfl rfl rfl, outP⟩
       show St _ ((bx b3 z_api_Promise 45) :: (bx b2 z_api_Log 26) :: (bx b1 (c_api_Log a0 a0v3 a0v4 a0v5) 26) :: (bx b5 [vI a0.Id, vI x8.At, vU x9.1, vU x9.2, vU 0, vU 0] 45) :: ((bif L 8 then [bxv _ (bif L 9 then (c_api_Sig x11.1) else z_api_Sig) 43] else []) ++ As)) _
       rw [d9]
       exact S34
     · intro L f12 w28 hL hd hc ⟨m26, L21, S35, K, hO⟩
       have d9 : L 9 = false := undep hc hL rfl
       replace S35 : St _ ((bx b3 z_api_Promise 45) :: (bx b2 z_api_Log 26) :: (bx b1 (c_api_Log a0 a0v3 a0v4 a0v5) 26) :: (bx b5 [vI a0.Id, vI x8.At, vU x9.1, vU x9.2, vU 0, vU 0] 45) :: ((bif L 8 then [bxv (f12 14) (bif L 9 then (c_api_Sig x11.1) else z_api_Sig) 43] else []) ++ As)) _ := S35
       rw [d9] at S35
       obtain ⟨u12, rfl⟩ := fr_of (N := 82) (L := []) hO trivial
       replace S35 : St _ ((bx b3 z_api_Promise 45) :: (bx b2 z_api_Log 26) :: (bx b1 (c_api_Log a0 a0v3 a0v4 a0v5) 26) :: (bx b5 [vI a0.Id, vI x8.At, vU x9.1, vU x9.2, vU 0, vU 0] 45) :: ((bif L 8 then [bxv _ (bif false then (c_api_Sig x11.1) else z_api_Sig) 43] else []) ++ As)) _ := S35
       have L22 := Mem.rfl' m26
       refine s_ld (i := 3) (cs := [vI a0.Id, vI x8.At, vU x9.1, vU x9.2, vU 0, vU 0]) S35 rfl rfl isAgg45 sizeOf45 rfl (fun h => by cases h) <| wpn <| ⟨m26, Mem.tr L21 L22, ?_, facts_step HM rfl K L22 rfl rfl rfl, outP⟩
       show St _ ((bx b3 z_api_Promise 45) :: (bx b2 z_api_Log 26) :: (bx b1 (c_api_Log a0 a0v3 a0v4 a0v5) 26) :: (bx b5 [vI a0.Id, vI x8.At, vU x9.1, vU x9.2, vU 0, vU 0] 45) :: ((bif L 8 then [bxv _ (bif L 9 then (c_api_Sig x11.1) else z_api_Sig) 43] else []) ++ As)) _
       rw [d9]
       exact S35
     · intro L f13 w29 hL hd hc ⟨m27, L23, S36, K, hO⟩
       have d9 : L 9 = false := undep hc hL rfl
       replace S36 : St _ ((bx b3 z_api_Promise 45) :: (bx b2 z_api_Log 26) :: (bx b1 (c_api_Log a0 a0v3 a0v4 a0v5) 26) :: (bx b5 [vI a0.Id, vI x8.At, vU x9.1, vU x9.2, vU 0, vU 0] 45) :: ((bif L 8 then [bxv (f13 14) (bif L 9 then (c_api_Sig x11.1) else z_api_Sig) 43] else []) ++ As)) _ := S36
       rw [d9] at S36
       obtain ⟨u13, rfl⟩ := fr_of (N := 82) (L := [(73, _)]) hO ⟨K 2 (dep hd rfl), trivial⟩
       replace S36 : St _ ((bx b3 z_api_Promise 45) :: (bx b2 z_api_Log 26) :: (bx b1 (c_api_Log a0 a0v3 a0v4 a0v5) 26) :: (bx b5 [vI a0.Id, vI x8.At, vU x9.1, vU x9.2, vU 0, vU 0] 45) :: ((bif L 8 then [bxv _ (bif false then (c_api_Sig x11.1) else z_api_Sig) 43] else []) ++ As)) _ := S36
       have L24 := Mem.rfl' m27
       refine s_call call59 (w_ref24_PromBytes (a0 := (⟨a0.Id, x8.At, x9, (⟨0, 0⟩ : g_api_Sig)⟩ : g_api_Promise)) S36  q10) rfl ?_
       rintro v3 w30 ⟨m28, l16, _, c3, S37, rfl, h6⟩
       clear S36
       obtain ⟨m29, l17, h7, S38⟩ := St.rowKeepT (i := 0) S37 rfl h6 rfl
       clear S37
       refine wpn ?_
       replace L24 := Mem.tr L24 (mt l16 l17)
       refine ⟨m29, Mem.tr L23 L24, ?_, facts_step HM rfl K L24 rfl rfl ⟨v3, rfl, h7⟩, outP⟩
       show St _ ((bx b3 z_api_Promise 45) :: (bx b2 z_api_Log 26) :: (bx b1 (c_api_Log a0 a0v3 a0v4 a0v5) 26) :: (bx b5 [vI a0.Id, vI x8.At, vU x9.1, vU x9.2, vU 0, vU 0] 45) :: ((bif L 8 then [bxv _ (bif L 9 then (c_api_Sig x11.1) else z_api_Sig) 43] else []) ++ As)) _
       rw [d9]
       exact S38
     · intro L f14 w31 hL hd hc ⟨m30, L25, S39, K, hO⟩
       have d9 : L 9 = false := undep hc hL rfl
       obtain ⟨v4, e11, h8⟩ := K 3 (dep hd rfl)
       replace S39 : St _ ((bx b3 z_api_Promise 45) :: (bx b2 z_api_Log 26) :: (bx b1 (c_api_Log a0 a0v3 a0v4 a0v5) 26) :: (bx b5 [vI a0.Id, vI x8.At, vU x9.1, vU x9.2, vU 0, vU 0] 45) :: ((bif L 8 then [bxv (f14 14) (bif L 9 then (c_api_Sig x11.1) else z_api_Sig) 43] else []) ++ As)) _ := S39
       rw [d9] at S39
       obtain ⟨u14, rfl⟩ := fr_of (N := 82) (L := [(72, _), (74, _)]) hO ⟨K 1 (dep hd rfl), e11, trivial⟩
       replace S39 : St _ ((bx b3 z_api_Promise 45) :: (bx b2 z_api_Log 26) :: (bx b1 (c_api_Log a0 a0v3 a0v4 a0v5) 26) :: (bx b5 [vI a0.Id, vI x8.At, vU x9.1, vU x9.2, vU 0, vU 0] 45) :: ((bif L 8 then [bxv _ (bif false then (c_api_Sig x11.1) else z_api_Sig) 43] else []) ++ As)) _ := S39
       have L26 := Mem.rfl' m30
       refine s_call call58 (w_ref04_Sign (a0 := a0.Key) (a1 := x10) S39 h8 q11) rfl ?_
       rintro _ w32 ⟨m31, l18, S40, rfl⟩
       clear S39
       refine wpn ?_
       replace L26 := Mem.tr L26 l18
       refine ⟨m31, Mem.tr L25 L26, ?_, facts_step HM rfl K L26 rfl rfl rfl, outP⟩
       show St _ ((bx b3 z_api_Promise 45) :: (bx b2 z_api_Log 26) :: (bx b1 (c_api_Log a0 a0v3 a0v4 a0v5) 26) :: (bx b5 [vI a0.Id, vI x8.At, vU x9.1, vU x9.2, vU 0, vU 0] 45) :: ((bif L 8 then [bxv _ (bif L 9 then (c_api_Sig x11.1) else z_api_Sig) 43] else []) ++ As)) _
       rw [d9]
       exact S40
     · exact flp HM rfl [(75, _)] (fun K _ => ⟨K 4 rfl, trivial⟩) (fun _ _ q => s_mvv (v := .tuple #[.agg (c_api_Sig x11.1).toArray, vI x11.2]) rfl q) rfl
     · exact flp HM rfl [(70, _)] (fun K _ => ⟨K 5 rfl, trivial⟩) (fun _ _ q => s_ext (i := 0) rfl rfl q) rfl
     · exact flp HM rfl [(70, _)] (fun K _ => ⟨K 5 rfl, trivial⟩) (fun _ _ q => s_ext (i := 1) rfl rfl q) rfl
     · intro L f18 w36 hL hd hc ⟨m35, L33, S44, K, hO⟩
       have d8 : L 8 = false := hL
       have d9 : L 9 = false := undep hc hL rfl
       replace S44 : St _ ((bx b3 z_api_Promise 45) :: (bx b2 z_api_Log 26) :: (bx b1 (c_api_Log a0 a0v3 a0v4 a0v5) 26) :: (bx b5 [vI a0.Id, vI x8.At, vU x9.1, vU x9.2, vU 0, vU 0] 45) :: ((bif L 8 then [bxv (f18 14) (bif L 9 then (c_api_Sig x11.1) else z_api_Sig) 43] else []) ++ As)) _ := S44
       rw [d8, d9] at S44
       obtain ⟨u18, rfl⟩ := fr_of (N := 82) (L := []) hO trivial
       replace S44 : St _ ((bx b3 z_api_Promise 45) :: (bx b2 z_api_Log 26) :: (bx b1 (c_api_Log a0 a0v3 a0v4 a0v5) 26) :: (bx b5 [vI a0.Id, vI x8.At, vU x9.1, vU x9.2, vU 0, vU 0] 45) :: As) _ := S44
       have L34 := Mem.rfl' m35
       refine s_alloc S44 zeroValue43 fun b6 w37 S45 => ?_
       replace S45 : St _ ((bx b6 z_api_Sig 43) :: (bx b3 z_api_Promise 45) :: (bx b2 z_api_Log 26) :: (bx b1 (c_api_Log a0 a0v3 a0v4 a0v5) 26) :: (bx b5 [vI a0.Id, vI x8.At, vU x9.1, vU x9.2, vU 0, vU 0] 45) :: As) _ := S45
       clear S44
       refine wpn <| ⟨m35, Mem.tr L33 L34, ?_, facts_step HM rfl K L34 rfl rfl ⟨b6, rfl⟩, outP⟩
       show St _ ((bx b3 z_api_Promise 45) :: (bx b2 z_api_Log 26) :: (bx b1 (c_api_Log a0 a0v3 a0v4 a0v5) 26) :: (bx b5 [vI a0.Id, vI x8.At, vU x9.1, vU x9.2, vU 0, vU 0] 45) :: ((bif true then [bxv _ (bif L 9 then (c_api_Sig x11.1) else z_api_Sig) 43] else []) ++ As)) _
       rw [d9]
       have S61 : St _ ((bx b3 z_api_Promise 45) :: (bx b2 z_api_Log 26) :: (bx b1 (c_api_Log a0 a0v3 a0v4 a0v5) 26) :: (bx b5 [vI a0.Id, vI x8.At, vU x9.1, vU x9.2, vU 0, vU 0] 45) :: (bx b6 z_api_Sig 43) :: As) _ := St.perm S45 (List.Perm.trans (List.Perm.swap _ _ _) (List.Perm.trans (List.Perm.cons _ (List.Perm.swap _ _ _)) (List.Perm.trans (List.Perm.cons _ (List.Perm.cons _ (List.Perm.swap _ _ _))) (List.Perm.cons _ (List.Perm.cons _ (List.Perm.cons _ (List.Perm.swap _ _ _)))))))
       exact S61
     · intro L f19 w38 hL hd hc ⟨m36, L35, S46, K, hO⟩
       have d8 : L 8 = true := dep hd rfl
       have d9 : L 9 = false := hL
       obtain ⟨b7, e15⟩ := K 8 d8
       replace S46 : St _ ((bx b3 z_api_Promise 45) :: (bx b2 z_api_Log 26) :: (bx b1 (c_api_Log a0 a0v3 a0v4 a0v5) 26) :: (bx b5 [vI a0.Id, vI x8.At, vU x9.1, vU x9.2, vU 0, vU 0] 45) :: ((bif L 8 then [bxv (f19 14) (bif L 9 then (c_api_Sig x11.1) else z_api_Sig) 43] else []) ++ As)) _ := S46
       rw [d8, d9] at S46
       obtain ⟨u19, rfl⟩ := fr_of (N := 82) (L := [(14, _), (76, _)]) hO ⟨e15, K 6 (dep hd rfl), trivial⟩
       replace S46 : St _ ((bx b3 z_api_Promise 45) :: (bx b2 z_api_Log 26) :: (bx b1 (c_api_Log a0 a0v3 a0v4 a0v5) 26) :: (bx b5 [vI a0.Id, vI x8.At, vU x9.1, vU x9.2, vU 0, vU 0] 45) :: (bx b7 z_api_Sig 43) :: As) _ := S46
       have L36 := Mem.rfl' m36
       refine s_stL (i := 4) S46 rfl rfl rfl sizeOf43 (oneC rfl (oneC rfl oneN)) rfl fun w39 S47 => ?_
       replace S47 : St _ ((bx b3 z_api_Promise 45) :: (bx b2 z_api_Log 26) :: (bx b1 (c_api_Log a0 a0v3 a0v4 a0v5) 26) :: (bx b5 [vI a0.Id, vI x8.At, vU x9.1, vU x9.2, vU 0, vU 0] 45) :: (bx b7 (c_api_Sig x11.1) 43) :: As) _ := S47
       clear S46
       refine wpn <| ⟨m36, Mem.tr L35 L36, ?_, facts_none HM K L36 rfl (fun _ => trivial), outP⟩
       show St _ ((bx b3 z_api_Promise 45) :: (bx b2 z_api_Log 26) :: (bx b1 (c_api_Log a0 a0v3 a0v4 a0v5) 26) :: (bx b5 [vI a0.Id, vI x8.At, vU x9.1, vU x9.2, vU 0, vU 0] 45) :: ((bif L 8 then [bxv _ (bif true then (c_api_Sig x11.1) else z_api_Sig) 43] else []) ++ As)) _
       rw [d8]
       exact S47
   intro L f20 w40 hall ⟨m37, L37, S48, K, hO⟩
   have d8 : L 8 = true := hall 8 (by decide)
   have d9 : L 9 = true := hall 9 (by decide)
   obtain ⟨b8, e17⟩ := K 8 d8
   have d7 : L 7 = true := hall 7 (by decide)
   replace S48 : St _ ((bx b3 z_api_Promise 45) :: (bx b2 z_api_Log 26) :: (bx b1 (c_api_Log a0 a0v3 a0v4 a0v5) 26) :: (bx b5 [vI a0.Id, vI x8.At, vU x9.1, vU x9.2, vU 0, vU 0] 45) :: ((bif L 8 then [bxv (f20 14) (bif L 9 then (c_api_Sig x11.1) else z_api_Sig) 43] else []) ++ As)) _ := S48
   rw [d8, d9] at S48
   obtain ⟨u20, rfl⟩ := fr_of (N := 82) (L := [(14, _), (77, _)]) hO ⟨e17, K 7 d7, trivial⟩
   replace S48 : St _ ((bx b3 z_api_Promise 45) :: (bx b2 z_api_Log 26) :: (bx b1 (c_api_Log a0 a0v3 a0v4 a0v5) 26) :: (bx b5 [vI a0.Id, vI x8.At, vU x9.1, vU x9.2, vU 0, vU 0] 45) :: (bx b8 (c_api_Sig x11.1) 43) :: As) _ := S48
   clear S32
   refine s_asv (v := vI x11.2) rfl <| nx <| s_ld (i := 4) (cs := (c_api_Sig x11.1)) S48 rfl rfl isAgg43 sizeOf43 rfl (fun h => by cases h) <| s_fld (n := 1) rfl underlying45 rfl rfl sizeOf43 <| s_stL (i := 3) S48 rfl rfl rfl sizeOf43 (oneC rfl (oneC rfl oneN)) rfl fun w41 S49 => ?_
   replace S49 : St _ ((bx b3 z_api_Promise 45) :: (bx b2 z_api_Log 26) :: (bx b1 (c_api_Log a0 a0v3 a0v4 a0v5) 26) :: (bx b5 [vI a0.Id, vI x8.At, vU x9.1, vU x9.2, vU x11.1.E, vU x11.1.S] 45) :: (bx b8 (c_api_Sig x11.1) 43) :: As) _ := S49
   clear S48
   refine wpl_nil <| nrm <| wpc_seq ?_
   have HM : MonoAll [(80, fv (.agg (c_api_Log a0 a0v3 a0v4 a0v5).toArray)), (81, fv (.agg #[vI a0.Id, vI x8.At, vU x9.1, vU x9.2, vU x11.1.E, vU x11.1.S])), (100002, fun _ _ => True)] := ⟨mv, mv, (fun _ _ _ _ h => h), trivial⟩
   refine wpc_flowG HM 3 mixed rfl rfl rfl [80, 81] (fun L f M w => St M ((bx b3 z_api_Promise 45) :: (bx b2 (bif L 2 then (c_api_Log a0 a0v3 a0v4 a0v5) else z_api_Log) 26) :: (bx b1 (c_api_Log a0 a0v3 a0v4 a0v5) 26) :: (bx b5 [vI a0.Id, vI x8.At, vU x9.1, vU x9.2, vU x11.1.E, vU x11.1.S] 45) :: (bx b8 (c_api_Sig x11.1) 43) :: As) w) (St.drew S49 _) ?_ ?_
   · refine ⟨?_, ?_, ?_, trivial⟩
     · intro L f21 w42 hL hd hc ⟨m38, L38, S50, K, hO⟩
       have d2 : L 2 = false := undep hc hL rfl
       replace S50 : St _ ((bx b3 z_api_Promise 45) :: (bx b2 (bif L 2 then (c_api_Log a0 a0v3 a0v4 a0v5) else z_api_Log) 26) :: (bx b1 (c_api_Log a0 a0v3 a0v4 a0v5) 26) :: (bx b5 [vI a0.Id, vI x8.At, vU x9.1, vU x9.2, vU x11.1.E, vU x11.1.S] 45) :: (bx b8 (c_api_Sig x11.1) 43) :: As) _ := S50
       rw [d2] at S50
       obtain ⟨u21, rfl⟩ := fr_of (N := 82) (L := []) hO trivial
       replace S50 : St _ ((bx b3 z_api_Promise 45) :: (bx b2 z_api_Log 26) :: (bx b1 (c_api_Log a0 a0v3 a0v4 a0v5) 26) :: (bx b5 [vI a0.Id, vI x8.At, vU x9.1, vU x9.2, vU x11.1.E, vU x11.1.S] 45) :: (bx b8 (c_api_Sig x11.1) 43) :: As) _ := S50
       have L39 := Mem.rfl' m38
       refine s_ld (i := 2) (cs := (c_api_Log a0 a0v3 a0v4 a0v5)) S50 rfl rfl isAgg26 sizeOf26 rfl (fun h => by cases h) <| wpn <| ⟨m38, Mem.tr L38 L39, ?_, facts_step HM rfl K L39 rfl rfl rfl, outP⟩
       show St _ ((bx b3 z_api_Promise 45) :: (bx b2 (bif L 2 then (c_api_Log a0 a0v3 a0v4 a0v5) else z_api_Log) 26) :: (bx b1 (c_api_Log a0 a0v3 a0v4 a0v5) 26) :: (bx b5 [vI a0.Id, vI x8.At, vU x9.1, vU x9.2, vU x11.1.E, vU x11.1.S] 45) :: (bx b8 (c_api_Sig x11.1) 43) :: As) _
       rw [d2]
       exact S50
     · exact flp HM rfl [] (fun _ _ => trivial) (fun _ S51 q => s_ld (i := 3) (cs := [vI a0.Id, vI x8.At, vU x9.1, vU x9.2, vU x11.1.E, vU x11.1.S]) S51 rfl rfl isAgg45 sizeOf45 rfl (fun h => by cases h) q) rfl
     · intro L f23 w44 hL hd hc ⟨m40, L42, S52, K, hO⟩
       have d2 : L 2 = false := hL
       replace S52 : St _ ((bx b3 z_api_Promise 45) :: (bx b2 (bif L 2 then (c_api_Log a0 a0v3 a0v4 a0v5) else z_api_Log) 26) :: (bx b1 (c_api_Log a0 a0v3 a0v4 a0v5) 26) :: (bx b5 [vI a0.Id, vI x8.At, vU x9.1, vU x9.2, vU x11.1.E, vU x11.1.S] 45) :: (bx b8 (c_api_Sig x11.1) 43) :: As) _ := S52
       rw [d2] at S52
       obtain ⟨u23, rfl⟩ := fr_of (N := 82) (L := [(80, _)]) hO ⟨K 0 (dep hd rfl), trivial⟩
       replace S52 : St _ ((bx b3 z_api_Promise 45) :: (bx b2 z_api_Log 26) :: (bx b1 (c_api_Log a0 a0v3 a0v4 a0v5) 26) :: (bx b5 [vI a0.Id, vI x8.At, vU x9.1, vU x9.2, vU x11.1.E, vU x11.1.S] 45) :: (bx b8 (c_api_Sig x11.1) 43) :: As) _ := S52
       replace a0h3 := a0h3.up (mt l12 (mt l13 (mt l14 (mt L16 (mt L37 L42)))))
       replace a0h4 := a0h4.up (mt l12 (mt l13 (mt l14 (mt L16 (mt L37 L42)))))
       replace a0h5 := a0h5.up (mt l12 (mt l13 (mt l14 (mt L16 (mt L37 L42)))))
       refine s_stL (i := 1) S52 rfl rfl rfl sizeOf26 (oneC rfl (oneC rfl (oneC rfl (oneC (SlR.one a0h3) (oneC (SlR.one a0h4) (oneC (SlR.one a0h5) oneN)))))) rfl fun w45 S53 => ?_
       replace S53 : St _ ((bx b3 z_api_Promise 45) :: (bx b2 (c_api_Log a0 a0v3 a0v4 a0v5) 26) :: (bx b1 (c_api_Log a0 a0v3 a0v4 a0v5) 26) :: (bx b5 [vI a0.Id, vI x8.At, vU x9.1, vU x9.2, vU x11.1.E, vU x11.1.S] 45) :: (bx b8 (c_api_Sig x11.1) 43) :: As) _ := S53
       clear S52
       exact oN HM L42 S53 K rfl (fun _ => trivial) outP
   intro L f24 w46 hall ⟨m41, L44, S54, K, hO⟩
   have d2 : L 2 = true := hall 2 (by decide)
   have d1 : L 1 = true := hall 1 (by decide)
   replace S54 : St _ ((bx b3 z_api_Promise 45) :: (bx b2 (bif L 2 then (c_api_Log a0 a0v3 a0v4 a0v5) else z_api_Log) 26) :: (bx b1 (c_api_Log a0 a0v3 a0v4 a0v5) 26) :: (bx b5 [vI a0.Id, vI x8.At, vU x9.1, vU x9.2, vU x11.1.E, vU x11.1.S] 45) :: (bx b8 (c_api_Sig x11.1) 43) :: As) _ := S54
   rw [d2] at S54
   obtain ⟨u24, rfl⟩ := fr_of (N := 82) (L := [(81, _)]) hO ⟨K 1 d1, trivial⟩
   replace S54 : St _ ((bx b3 z_api_Promise 45) :: (bx b2 (c_api_Log a0 a0v3 a0v4 a0v5) 26) :: (bx b1 (c_api_Log a0 a0v3 a0v4 a0v5) 26) :: (bx b5 [vI a0.Id, vI x8.At, vU x9.1, vU x9.2, vU x11.1.E, vU x11.1.S] 45) :: (bx b8 (c_api_Sig x11.1) 43) :: As) _ := S54
   clear S49
   refine s_stL (i := 0) S54 rfl rfl rfl sizeOf45 (oneC rfl (oneC rfl (oneC rfl (oneC rfl (oneC rfl (oneC rfl oneN)))))) rfl fun w47 S55 => ?_
   replace S55 : St _ ((bx b3 [vI a0.Id, vI x8.At, vU x9.1, vU x9.2, vU x11.1.E, vU x11.1.S] 45) :: (bx b2 (c_api_Log a0 a0v3 a0v4 a0v5) 26) :: (bx b1 (c_api_Log a0 a0v3 a0v4 a0v5) 26) :: (bx b5 [vI a0.Id, vI x8.At, vU x9.1, vU x9.2, vU x11.1.E, vU x11.1.S] 45) :: (bx b8 (c_api_Sig x11.1) 43) :: As) _ := S55
   clear S54
   refine s_asv (v := vI 0) rfl <| wpl_nil <| nrm <| wpc_ret <| outRw fun we hpd => ?_
   replace S55 := St.pd S55 hpd
   have SR := S55
   obtain ⟨m42, l19, S56⟩ := St.drop S55 0
   replace S56 : St _ ((bx b2 (c_api_Log a0 a0v3 a0v4 a0v5) 26) :: (bx b1 (c_api_Log a0 a0v3 a0v4 a0v5) 26) :: (bx b5 [vI a0.Id, vI x8.At, vU x9.1, vU x9.2, vU x11.1.E, vU x11.1.S] 45) :: (bx b8 (c_api_Sig x11.1) 43) :: As) _ := S56
   obtain ⟨m43, l20, S57⟩ := St.drop S56 0
   clear S56
   replace S57 : St _ ((bx b1 (c_api_Log a0 a0v3 a0v4 a0v5) 26) :: (bx b5 [vI a0.Id, vI x8.At, vU x9.1, vU x9.2, vU x11.1.E, vU x11.1.S] 45) :: (bx b8 (c_api_Sig x11.1) 43) :: As) _ := S57
   obtain ⟨m44, l21, S58⟩ := St.drop S57 0
   clear S57
   replace S58 : St _ ((bx b5 [vI a0.Id, vI x8.At, vU x9.1, vU x9.2, vU x11.1.E, vU x11.1.S] 45) :: (bx b8 (c_api_Sig x11.1) 43) :: As) _ := S58
   obtain ⟨m45, l22, S59⟩ := St.drop S58 0
   clear S58
   replace S59 : St _ ((bx b8 (c_api_Sig x11.1) 43) :: As) _ := S59
   obtain ⟨m46, l23, S60⟩ := St.drop S59 0
   clear S59
   replace S60 : St _ (As) _ := S60
   have e0 := Option.some.inj hm
   subst e0
   replace L0 := Mem.tr L0 (mt l1 (mt l5 (mt l8 (mt l12 (mt l13 (mt l14 (mt L16 (mt L37 (mt L44 (mt l19 (mt l20 (mt l21 (mt l22 l23)))))))))))))
   replace a0h3 := a0h3.up (mt l12 (mt l13 (mt l14 (mt L16 (mt L37 (mt L44 (mt l19 (mt l20 (mt l21 (mt l22 l23))))))))))
   replace a0h4 := a0h4.up (mt l12 (mt l13 (mt l14 (mt L16 (mt L37 (mt L44 (mt l19 (mt l20 (mt l21 (mt l22 l23))))))))))
   replace a0h5 := a0h5.up (mt l12 (mt l13 (mt l14 (mt L16 (mt L37 (mt L44 (mt l19 (mt l20 (mt l21 (mt l22 l23))))))))))
   exact outR [_, _, _] rfl ⟨res_box (i := 1) (off := 0) (cs := (c_api_Log a0 a0v3 a0v4 a0v5)) SR rfl rfl isAgg26 sizeOf26 rfl (fun h => by cases h), res_box (i := 0) (off := 0) (cs := [vI a0.Id, vI x8.At, vU x9.1, vU x9.2, vU x11.1.E, vU x11.1.S]) SR rfl rfl isAgg45 sizeOf45 rfl (fun h => by cases h), rfl, trivial⟩ ⟨_, L0, _, _, _, S60, rfl, a0h3, a0h4, a0h5⟩
 replace hm := ifF hc3 hm
 refine wpc_seq <| ws <| s_mvv (v := v1) rfl <| s_lenR (xs := x6) rfl (h2.up l14) underlying23 <| s_geq (m := (x6.length : Int)) (n := 256) rfl rfl <| wpl_nil <| nrm <| wpc_if (t := (decide ((x6.length : Int) ≥ 256))) rfl (fun hc4 => ?_) (fun hc4 => ?_)
 · replace hm := ifT hc4 hm
   refine ws <| s_build (parts := []) (ps := []) (cs := z_api_Log) zeroValue26 (BuildPl.str (ss := [1, 1, 1, 1, 1, 1]) underlying26 ⟨sizeOf3, sizeOf22, sizeOf3, sizeOf23, sizeOf24, sizeOf23, trivial⟩) rfl trivial rfl <| s_build (parts := []) (ps := []) (cs := z_api_Promise) zeroValue45 (BuildPl.str (ss := [1, 1, 2, 2]) underlying45 ⟨sizeOf3, sizeOf3, sizeOf41, sizeOf43, trivial⟩) rfl trivial rfl <| s_stL (i := 1) S21 rfl rfl rfl sizeOf26 (oneC rfl (oneC rfl (oneC rfl (oneC rfl (oneC rfl (oneC rfl oneN)))))) rfl fun w48 S63 => s_stL (i := 0) S63 rfl rfl rfl sizeOf45 (oneC rfl (oneC rfl (oneC rfl (oneC rfl (oneC rfl (oneC rfl oneN)))))) rfl fun w49 S64 => ?_
   replace S64 : St _ ((bx b3 z_api_Promise 45) :: (bx b2 z_api_Log 26) :: (bx b1 (c_api_Log a0 a0v3 a0v4 a0v5) 26) :: As) _ := S64
   clear S21 S63
   refine s_asv (v := vI 2) rfl <| wpl_nil <| nrm <| wpc_ret <| thR <| thR <| outRw fun we hpd => ?_
   replace S64 := St.pd S64 hpd
   have SR := S64
   obtain ⟨m47, l24, S65⟩ := St.drop S64 0
   replace S65 : St _ ((bx b2 z_api_Log 26) :: (bx b1 (c_api_Log a0 a0v3 a0v4 a0v5) 26) :: As) _ := S65
   obtain ⟨m48, l25, S66⟩ := St.drop S65 0
   clear S65
   replace S66 : St _ ((bx b1 (c_api_Log a0 a0v3 a0v4 a0v5) 26) :: As) _ := S66
   obtain ⟨m49, l26, S67⟩ := St.drop S66 0
   clear S66
   replace S67 : St _ (As) _ := S67
   have e0 := Option.some.inj hm
   subst e0
   replace L0 := Mem.tr L0 (mt l1 (mt l5 (mt l8 (mt l12 (mt l13 (mt l14 (mt l24 (mt l25 l26))))))))
   exact outR [_, _, _] rfl ⟨res_box (i := 1) (off := 0) (cs := z_api_Log) SR rfl rfl isAgg26 sizeOf26 rfl (fun h => by cases h), res_box (i := 0) (off := 0) (cs := z_api_Promise) SR rfl rfl isAgg45 sizeOf45 rfl (fun h => by cases h), rfl, trivial⟩ ⟨_, L0, _, _, _, S67, rfl, SlR.nil, SlR.nil, SlR.nil⟩
 replace hm := ifF hc4 hm
 refine wpc_skip <| nrm <| ws <| s_asv (v := .slice none 0 0) rfl <| nx <| s_mvv (v := .slice none 0 0) rfl <| s_fld (n := 0) rfl underlying26 rfl rfl sizeOf23 <| s_ld (i := 2) (cs := [a0v5]) S21 rfl rfl isAgg23 sizeOf23 rfl (fun _ => rfl) ?_
 have S68 := St.rowNil S21 2
 have h9 : RepL m14 [] ([] : List g_api_Leaf) := RepL.nil
 replace S68 : St _ ((row 2 (.slice none 0 0) [] ([] : List g_api_Leaf).length) :: (bx b3 z_api_Promise 45) :: (bx b2 z_api_Log 26) :: (bx b1 (c_api_Log a0 a0v3 a0v4 a0v5) 26) :: As) _ := S68
 clear S21
 obtain ⟨x12, q12, hm⟩ := obind_some hm
 replace a0h5 := a0h5.up (mt l12 (mt l13 l14))
 refine s_app (i := 0) (zs := x12) (bytes := 32) (ti := Tryz.t77) S68 rfl rfl h9 rfl rfl a0h5 q12 underlying23 type77 rfl rfl rfl rfl fun v5 c4 w50 S69 h10 => ?_
 replace S69 : St _ ((row 2 v5 c4 x12.length) :: (bx b3 z_api_Promise 45) :: (bx b2 z_api_Log 26) :: (bx b1 (c_api_Log a0 a0v3 a0v4 a0v5) 26) :: As) _ := S69
 clear S68
 refine s_asv (v := v5) rfl <| nx <| s_mvv (v := v5) rfl <| s_litOC (parts := []) (vs := []) (cls := []) (n := 0) (sz := 1) S69 underlying27 sizeOf5 zeroValue5 rfl trivial rfl rfl (by decide) (by decide) fun v6 w51 S70 => ?_
 have h11 : RepL m14 [] ([] : List UInt8) := RepL.nil
 replace S70 : St _ ((row 1 v6 [] ([] : List UInt8).length) :: (row 2 v5 c4 x12.length) :: (bx b3 z_api_Promise 45) :: (bx b2 z_api_Log 26) :: (bx b1 (c_api_Log a0 a0v3 a0v4 a0v5) 26) :: As) _ := S70
 clear S69
 refine s_mvv (v := a1v0) rfl ?_
 obtain ⟨x13, q13, hm⟩ := obind_some hm
 refine s_app (i := 0) (zs := x13) (bytes := 1) (ti := Tryz.t5) S70 rfl rfl h11 rfl rfl (a1h0.up l14) q13 underlying27 type5 rfl rfl rfl rfl fun v7 c5 w52 S71 h12 => ?_
 replace S71 : St _ ((row 1 v7 c5 x13.length) :: (row 2 v5 c4 x12.length) :: (bx b3 z_api_Promise 45) :: (bx b2 z_api_Log 26) :: (bx b1 (c_api_Log a0 a0v3 a0v4 a0v5) 26) :: As) _ := S71
 clear S70
 refine s_mvv (v := vI a2) rfl ?_
 obtain ⟨m50, l27, h13, S72⟩ := St.rowKeepT (i := 0) S71 rfl h12 rfl
 clear S71
 refine s_build (parts := [(0, .tmp 57), (1, .tmp 58)]) (ps := [(0, v7, [v7]), (1, vI a2, [vI a2])]) (cs := [v7, vI a2]) zeroValue77 (BuildPl.str (ss := [1, 1]) underlying77 ⟨sizeOf27, sizeOf3, trivial⟩) rfl ⟨SlR.cells h13, rfl, trivial⟩ rfl <| s_litC (parts := [.tmp 59]) (vs := [.agg #[v7, vI a2]]) (cls := [[v7, vI a2]]) (xs := ([(⟨x13, a2⟩ : g_api_Leaf)] : List g_api_Leaf)) (n := 1) S72 underlying23 sizeOf77 zeroValue77 rfl ⟨rfl, trivial⟩ (RepL.cons (c := [v7, vI a2]) (x := (⟨x13, a2⟩ : g_api_Leaf)) (mk_g_api_Leaf (x := (⟨x13, a2⟩ : g_api_Leaf)) h13) RepL.nil) rfl rfl rfl (by decide) (by decide) fun v8 m51 w53 l28 S73 h14 => ?_
 clear S72
 obtain ⟨x14, q14, hm⟩ := obind_some hm
 replace h10 := RepL.up (mt l27 l28) h10
 refine s_app (i := 0) (zs := x14) (bytes := 32) (ti := Tryz.t77) S73 rfl rfl h10 rfl rfl h14 q14 underlying23 type77 rfl rfl rfl rfl fun v9 c6 w54 S74 h15 => ?_
 replace S74 : St _ ((row 2 v9 c6 x14.length) :: (bx b3 z_api_Promise 45) :: (bx b2 z_api_Log 26) :: (bx b1 (c_api_Log a0 a0v3 a0v4 a0v5) 26) :: As) _ := S74
 clear S73
 refine s_asv (v := v9) rfl <| wpl_nil <| nrm <| wpc_region <| s_mvv (v := v9) rfl <| s_fld (n := 0) rfl underlying26 rfl rfl sizeOf23 <| s_stS (i := 3) S74 rfl rfl rfl sizeOf23 (St.rowCells (i := 0) S74 rfl) rfl fun w55 S75 => ?_
 replace S75 : St _ ((row 2 v9 c6 x14.length) :: (bx b3 z_api_Promise 45) :: (bx b2 z_api_Log 26) :: (bx b1 (c_api_Log a0 a0v3 a0v4 v9) 26) :: As) _ := S75
 clear S74
 refine wpl_nil <| nrm <| wpc_seq ?_
 obtain ⟨x15, q15, hm⟩ := obind_some hm
 have HM : MonoAll [(64, fv (pt b1 0)), (65, fv (vI a0.Id)), (66, fv (vI a2)), (67, fv a1v0), (68, fv (.agg #[vU x15.1, vU x15.2])), (69, fv (.agg #[vI a0.Id, vI a2, vU x15.1, vU x15.2, vU 0, vU 0])), (13, fun (M : Mem) (v : Value) => ∃ (b9 : Nat), v = pt b9 0)] := ⟨mv, mv, mv, mv, mv, mv, (fun _ _ _ _ h => h), trivial⟩
 refine wpc_flowG HM 7 mixed rfl rfl rfl [13, 64, 65, 66, 67, 68, 69] (fun L f M w => St M ((row 2 v9 c6 x14.length) :: (bx b3 z_api_Promise 45) :: (bx b2 z_api_Log 26) :: (bx b1 (c_api_Log a0 a0v3 a0v4 v9) 26) :: ((bif L 6 then [bxv (f 13) z_api_Promise 45] else []) ++ As)) w) (St.drew S75 _) ?_ ?_
 · refine ⟨?_, ?_, ?_, ?_, ?_, ?_, ?_, trivial⟩
   · exact flp HM rfl [] (fun _ _ => trivial) (fun _ _ q => s_fld (n := 0) rfl underlying26 rfl rfl sizeOf3 q) rfl
   · exact flp HM rfl [(64, _)] (fun K _ => ⟨K 0 rfl, trivial⟩) (fun _ S77 q => s_ld (i := 3) (cs := [vI a0.Id]) S77 rfl rfl isAgg3 sizeOf3 rfl (fun _ => rfl) q) rfl
   · exact flp HM rfl [] (fun _ _ => trivial) (fun _ _ q => s_mvv (v := vI a2) rfl q) rfl
   · exact flp HM rfl [] (fun _ _ => trivial) (fun _ _ q => s_mvv (v := a1v0) rfl q) rfl
   · intro L f29 w60 hL hd hc ⟨m56, L53, S80, K, hO⟩
     obtain ⟨u29, rfl⟩ := fr_of (N := 82) (L := [(67, _)]) hO ⟨K 3 (dep hd rfl), trivial⟩
     have L54 := Mem.rfl' m56
     replace a1h0 := a1h0.up (mt l14 (mt l27 (mt l28 L53)))
     refine s_call call57 (w_ref08_Leaf (a0 := a1) S80 a1h0 q15) rfl ?_
     rintro _ w61 ⟨m57, l29, S81, rfl⟩
     clear S80
     refine wpn ?_
     replace L54 := Mem.tr L54 l29
     exact ⟨m57, Mem.tr L53 L54, S81, facts_step HM rfl K L54 rfl rfl rfl, outP⟩
   · intro L f30 w62 hL hd hc ⟨m58, L55, S82, K, hO⟩
     obtain ⟨u30, rfl⟩ := fr_of (N := 82) (L := [(65, _), (66, _), (68, _)]) hO ⟨K 1 (dep hd rfl), K 2 (dep hd rfl), K 4 (dep hd rfl), trivial⟩
     exact s_build (parts := [(0, .tmp 65), (1, .tmp 66), (2, .tmp 68)]) (ps := [(0, vI a0.Id, [vI a0.Id]), (1, vI a2, [vI a2]), (2, .agg #[vU x15.1, vU x15.2], [vU x15.1, vU x15.2])]) (cs := [vI a0.Id, vI a2, vU x15.1, vU x15.2, vU 0, vU 0]) zeroValue45 (BuildPl.str (ss := [1, 1, 2, 2]) underlying45 ⟨sizeOf3, sizeOf3, sizeOf41, sizeOf43, trivial⟩) rfl ⟨rfl, rfl, rfl, trivial⟩ rfl <| oS HM L55 S82 rfl K rfl rfl rfl outP
   · intro L f31 w63 hL hd hc ⟨m59, L57, S83, K, hO⟩
     have d6 : L 6 = false := hL
     replace S83 : St _ ((row 2 v9 c6 x14.length) :: (bx b3 z_api_Promise 45) :: (bx b2 z_api_Log 26) :: (bx b1 (c_api_Log a0 a0v3 a0v4 v9) 26) :: ((bif L 6 then [bxv (f31 13) z_api_Promise 45] else []) ++ As)) _ := S83
     rw [d6] at S83
     obtain ⟨u31, rfl⟩ := fr_of (N := 82) (L := []) hO trivial
     replace S83 : St _ ((row 2 v9 c6 x14.length) :: (bx b3 z_api_Promise 45) :: (bx b2 z_api_Log 26) :: (bx b1 (c_api_Log a0 a0v3 a0v4 v9) 26) :: As) _ := S83
     have L58 := Mem.rfl' m59
     refine s_alloc S83 zeroValue45 fun b9 w64 S84 => ?_
     replace S84 : St _ ((bx b9 z_api_Promise 45) :: (row 2 v9 c6 x14.length) :: (bx b3 z_api_Promise 45) :: (bx b2 z_api_Log 26) :: (bx b1 (c_api_Log a0 a0v3 a0v4 v9) 26) :: As) _ := S84
     clear S83
     refine wpn <| ⟨m59, Mem.tr L57 L58, ?_, facts_step HM rfl K L58 rfl rfl ⟨b9, rfl⟩, outP⟩
     have S117 : St _ ((row 2 v9 c6 x14.length) :: (bx b3 z_api_Promise 45) :: (bx b2 z_api_Log 26) :: (bx b1 (c_api_Log a0 a0v3 a0v4 v9) 26) :: (bx b9 z_api_Promise 45) :: As) _ := St.perm S84 (List.Perm.trans (List.Perm.swap _ _ _) (List.Perm.trans (List.Perm.cons _ (List.Perm.swap _ _ _)) (List.Perm.trans (List.Perm.cons _ (List.Perm.cons _ (List.Perm.swap _ _ _))) (List.Perm.cons _ (List.Perm.cons _ (List.Perm.cons _ (List.Perm.swap _ _ _)))))))
     exact S117
 intro L f32 w65 hall ⟨m60, L59, S85, K, hO⟩
 have d6 : L 6 = true := hall 6 (by decide)
 obtain ⟨b10, e26⟩ := K 6 d6
 have d5 : L 5 = true := hall 5 (by decide)
 replace S85 : St _ ((row 2 v9 c6 x14.length) :: (bx b3 z_api_Promise 45) :: (bx b2 z_api_Log 26) :: (bx b1 (c_api_Log a0 a0v3 a0v4 v9) 26) :: ((bif L 6 then [bxv (f32 13) z_api_Promise 45] else []) ++ As)) _ := S85
 rw [d6] at S85
 obtain ⟨u32, rfl⟩ := fr_of (N := 82) (L := [(13, _), (69, _)]) hO ⟨e26, K 5 d5, trivial⟩
 replace S85 : St _ ((row 2 v9 c6 x14.length) :: (bx b3 z_api_Promise 45) :: (bx b2 z_api_Log 26) :: (bx b1 (c_api_Log a0 a0v3 a0v4 v9) 26) :: (bx b10 z_api_Promise 45) :: As) _ := S85
 clear S75
 refine s_stL (i := 4) S85 rfl rfl rfl sizeOf45 (oneC rfl (oneC rfl (oneC rfl (oneC rfl (oneC rfl (oneC rfl oneN)))))) rfl fun w66 S86 => ?_
 replace S86 : St _ ((row 2 v9 c6 x14.length) :: (bx b3 z_api_Promise 45) :: (bx b2 z_api_Log 26) :: (bx b1 (c_api_Log a0 a0v3 a0v4 v9) 26) :: (bx b10 [vI a0.Id, vI a2, vU x15.1, vU x15.2, vU 0, vU 0] 45) :: As) _ := S86
 clear S85
 refine wpl_nil <| nrm <| wpc_seq ?_
 obtain ⟨x16, q16, hm⟩ := obind_some hm
 obtain ⟨x17, q17, hm⟩ := obind_some hm
 have HM : MonoAll [(71, fv (pt b1 1)), (72, fv (vU a0.Key)), (73, fv (.agg #[vI a0.Id, vI a2, vU x15.1, vU x15.2, vU 0, vU 0])), (74, fun (M : Mem) (v : Value) => ∃ (v10 : Value), v = v10 ∧ SlR M v10 x16), (75, fv (.tuple #[.agg (c_api_Sig x17.1).toArray, vI x17.2])), (70, fv (.tuple #[.agg (c_api_Sig x17.1).toArray, vI x17.2])), (76, fv (.agg (c_api_Sig x17.1).toArray)), (77, fv (vI x17.2)), (14, fun (M : Mem) (v : Value) => ∃ (b11 : Nat), v = pt b11 0), (100009, fun _ _ => True)] := ⟨mv, mv, mv, (fun _ _ _ l ⟨v10, e, h17⟩ => ⟨v10, e, h17.up l⟩), mv, mv, mv, mv, (fun _ _ _ _ h => h), (fun _ _ _ _ h => h), trivial⟩
 refine wpc_flowG HM 10 mixed rfl rfl rfl [14, 70, 71, 72, 73, 74, 75, 76, 77] (fun L f M w => St M ((row 2 v9 c6 x14.length) :: (bx b3 z_api_Promise 45) :: (bx b2 z_api_Log 26) :: (bx b1 (c_api_Log a0 a0v3 a0v4 v9) 26) :: (bx b10 [vI a0.Id, vI a2, vU x15.1, vU x15.2, vU 0, vU 0] 45) :: ((bif L 8 then [bxv (f 14) (bif L 9 then (c_api_Sig x17.1) else z_api_Sig) 43] else []) ++ As)) w) (St.drew S86 _) ?_ ?_
 · refine ⟨?_, ?_, ?_, ?_, ?_, ?_, ?_, ?_, ?_, ?_, trivial⟩
   · exact flp HM rfl [] (fun _ _ => trivial) (fun _ _ q => s_fld (n := 0) rfl underlying26 rfl rfl sizeOf22 q) rfl
   · intro L f34 w68 hL hd hc ⟨m62, L62, S88, K, hO⟩
     have d9 : L 9 = false := undep hc hL rfl
     replace S88 : St _ ((row 2 v9 c6 x14.length) :: (bx b3 z_api_Promise 45) :: (bx b2 z_api_Log 26) :: (bx b1 (c_api_Log a0 a0v3 a0v4 v9) 26) :: (bx b10 [vI a0.Id, vI a2, vU x15.1, vU x15.2, vU 0, vU 0] 45) :: ((bif L 8 then [bxv (f34 14) (bif L 9 then (c_api_Sig x17.1) else z_api_Sig) 43] else []) ++ As)) _ := S88
     rw [d9] at S88
     obtain ⟨u34, rfl⟩ := fr_of (N := 82) (L := [(71, _)]) hO ⟨K 0 (dep hd rfl), trivial⟩
     replace S88 : St _ ((row 2 v9 c6 x14.length) :: (bx b3 z_api_Promise 45) :: (bx b2 z_api_Log 26) :: (bx b1 (c_api_Log a0 a0v3 a0v4 v9) 26) :: (bx b10 [vI a0.Id, vI a2, vU x15.1, vU x15.2, vU 0, vU 0] 45) :: ((bif L 8 then [bxv _ (bif false then (c_api_Sig x17.1) else z_api_Sig) 43] else []) ++ As)) _ := S88
     have L63 := Mem.rfl' m62
     refine s_ld (i := 3) (cs := [vU a0.Key]) S88 rfl rfl isAgg22 sizeOf22 rfl (fun _ => rfl) <| wpn <| ⟨m62, Mem.tr L62 L63, ?_, facts_step HM rfl K L63 rfl rfl rfl, outP⟩
     show St _ ((row 2 v9 c6 x14.length) :: (bx b3 z_api_Promise 45) :: (bx b2 z_api_Log 26) :: (bx b1 (c_api_Log a0 a0v3 a0v4 v9) 26) :: (bx b10 [vI a0.Id, vI a2, vU x15.1, vU x15.2, vU 0, vU 0] 45) :: ((bif L 8 then [bxv _ (bif L 9 then (c_api_Sig x17.1) else z_api_Sig) 43] else []) ++ As)) _
     rw [d9]
     exact S88
   · intro L f35 w69 hL hd hc ⟨m63, L64, S89, K, hO⟩
     have d9 : L 9 = false := undep hc hL rfl
     replace S89 : St _ ((row 2 v9 c6 x14.length) :: (bx b3 z_api_Promise 45) :: (bx b2 z_api_Log 26) :: (bx b1 (c_api_Log a0 a0v3 a0v4 v9) 26) :: (bx b10 [vI a0.Id, vI a2, vU x15.1, vU x15.2, vU 0, vU 0] 45) :: ((bif L 8 then [bxv (f35 14) (bif L 9 then (c_api_Sig x17.1) else z_api_Sig) 43] else []) ++ As)) _ := S89
     rw [d9] at S89
     obtain ⟨u35, rfl⟩ := fr_of (N := 82) (L := []) hO trivial
     replace S89 : St _ ((row 2 v9 c6 x14.length) :: (bx b3 z_api_Promise 45) :: (bx b2 z_api_Log 26) :: (bx b1 (c_api_Log a0 a0v3 a0v4 v9) 26) :: (bx b10 [vI a0.Id, vI a2, vU x15.1, vU x15.2, vU 0, vU 0] 45) :: ((bif L 8 then [bxv _ (bif false then (c_api_Sig x17.1) else z_api_Sig) 43] else []) ++ As)) _ := S89
     have L65 := Mem.rfl' m63
     refine s_ld (i := 4) (cs := [vI a0.Id, vI a2, vU x15.1, vU x15.2, vU 0, vU 0]) S89 rfl rfl isAgg45 sizeOf45 rfl (fun h => by cases h) <| wpn <| ⟨m63, Mem.tr L64 L65, ?_, facts_step HM rfl K L65 rfl rfl rfl, outP⟩
     show St _ ((row 2 v9 c6 x14.length) :: (bx b3 z_api_Promise 45) :: (bx b2 z_api_Log 26) :: (bx b1 (c_api_Log a0 a0v3 a0v4 v9) 26) :: (bx b10 [vI a0.Id, vI a2, vU x15.1, vU x15.2, vU 0, vU 0] 45) :: ((bif L 8 then [bxv _ (bif L 9 then (c_api_Sig x17.1) else z_api_Sig) 43] else []) ++ As)) _
     rw [d9]
     exact S89
   · intro L f36 w70 hL hd hc ⟨m64, L66, S90, K, hO⟩
     have d9 : L 9 = false := undep hc hL rfl
     replace S90 : St _ ((row 2 v9 c6 x14.length) :: (bx b3 z_api_Promise 45) :: (bx b2 z_api_Log 26) :: (bx b1 (c_api_Log a0 a0v3 a0v4 v9) 26) :: (bx b10 [vI a0.Id, vI a2, vU x15.1, vU x15.2, vU 0, vU 0] 45) :: ((bif L 8 then [bxv (f36 14) (bif L 9 then (c_api_Sig x17.1) else z_api_Sig) 43] else []) ++ As)) _ := S90
     rw [d9] at S90
     obtain ⟨u36, rfl⟩ := fr_of (N := 82) (L := [(73, _)]) hO ⟨K 2 (dep hd rfl), trivial⟩
     replace S90 : St _ ((row 2 v9 c6 x14.length) :: (bx b3 z_api_Promise 45) :: (bx b2 z_api_Log 26) :: (bx b1 (c_api_Log a0 a0v3 a0v4 v9) 26) :: (bx b10 [vI a0.Id, vI a2, vU x15.1, vU x15.2, vU 0, vU 0] 45) :: ((bif L 8 then [bxv _ (bif false then (c_api_Sig x17.1) else z_api_Sig) 43] else []) ++ As)) _ := S90
     have L67 := Mem.rfl' m64
     refine s_call call59 (w_ref24_PromBytes (a0 := (⟨a0.Id, a2, x15, (⟨0, 0⟩ : g_api_Sig)⟩ : g_api_Promise)) S90  q16) rfl ?_
     rintro v10 w71 ⟨m65, l30, _, c7, S91, rfl, h16⟩
     clear S90
     obtain ⟨m66, l31, h17, S92⟩ := St.rowKeepT (i := 0) S91 rfl h16 rfl
     clear S91
     refine wpn ?_
     replace L67 := Mem.tr L67 (mt l30 l31)
     refine ⟨m66, Mem.tr L66 L67, ?_, facts_step HM rfl K L67 rfl rfl ⟨v10, rfl, h17⟩, outP⟩
     show St _ ((row 2 v9 c6 x14.length) :: (bx b3 z_api_Promise 45) :: (bx b2 z_api_Log 26) :: (bx b1 (c_api_Log a0 a0v3 a0v4 v9) 26) :: (bx b10 [vI a0.Id, vI a2, vU x15.1, vU x15.2, vU 0, vU 0] 45) :: ((bif L 8 then [bxv _ (bif L 9 then (c_api_Sig x17.1) else z_api_Sig) 43] else []) ++ As)) _
     rw [d9]
     exact S92
   · intro L f37 w72 hL hd hc ⟨m67, L68, S93, K, hO⟩
     have d9 : L 9 = false := undep hc hL rfl
     obtain ⟨v11, e31, h18⟩ := K 3 (dep hd rfl)
     replace S93 : St _ ((row 2 v9 c6 x14.length) :: (bx b3 z_api_Promise 45) :: (bx b2 z_api_Log 26) :: (bx b1 (c_api_Log a0 a0v3 a0v4 v9) 26) :: (bx b10 [vI a0.Id, vI a2, vU x15.1, vU x15.2, vU 0, vU 0] 45) :: ((bif L 8 then [bxv (f37 14) (bif L 9 then (c_api_Sig x17.1) else z_api_Sig) 43] else []) ++ As)) _ := S93
     rw [d9] at S93
     obtain ⟨u37, rfl⟩ := fr_of (N := 82) (L := [(72, _), (74, _)]) hO ⟨K 1 (dep hd rfl), e31, trivial⟩
     replace S93 : St _ ((row 2 v9 c6 x14.length) :: (bx b3 z_api_Promise 45) :: (bx b2 z_api_Log 26) :: (bx b1 (c_api_Log a0 a0v3 a0v4 v9) 26) :: (bx b10 [vI a0.Id, vI a2, vU x15.1, vU x15.2, vU 0, vU 0] 45) :: ((bif L 8 then [bxv _ (bif false then (c_api_Sig x17.1) else z_api_Sig) 43] else []) ++ As)) _ := S93
     have L69 := Mem.rfl' m67
     refine s_call call58 (w_ref04_Sign (a0 := a0.Key) (a1 := x16) S93 h18 q17) rfl ?_
     rintro _ w73 ⟨m68, l32, S94, rfl⟩
     clear S93
     refine wpn ?_
     replace L69 := Mem.tr L69 l32
     refine ⟨m68, Mem.tr L68 L69, ?_, facts_step HM rfl K L69 rfl rfl rfl, outP⟩
     show St _ ((row 2 v9 c6 x14.length) :: (bx b3 z_api_Promise 45) :: (bx b2 z_api_Log 26) :: (bx b1 (c_api_Log a0 a0v3 a0v4 v9) 26) :: (bx b10 [vI a0.Id, vI a2, vU x15.1, vU x15.2, vU 0, vU 0] 45) :: ((bif L 8 then [bxv _ (bif L 9 then (c_api_Sig x17.1) else z_api_Sig) 43] else []) ++ As)) _
     rw [d9]
     exact S94
   · exact flp HM rfl [(75, _)] (fun K _ => ⟨K 4 rfl, trivial⟩) (fun _ _ q => s_mvv (v := .tuple #[.agg (c_api_Sig x17.1).toArray, vI x17.2]) rfl q) rfl
   · exact flp HM rfl [(70, _)] (fun K _ => ⟨K 5 rfl, trivial⟩) (fun _ _ q => s_ext (i := 0) rfl rfl q) rfl
   · exact flp HM rfl [(70, _)] (fun K _ => ⟨K 5 rfl, trivial⟩) (fun _ _ q => s_ext (i := 1) rfl rfl q) rfl
   · intro L f41 w77 hL hd hc ⟨m72, L76, S98, K, hO⟩
     have d8 : L 8 = false := hL
     have d9 : L 9 = false := undep hc hL rfl
     replace S98 : St _ ((row 2 v9 c6 x14.length) :: (bx b3 z_api_Promise 45) :: (bx b2 z_api_Log 26) :: (bx b1 (c_api_Log a0 a0v3 a0v4 v9) 26) :: (bx b10 [vI a0.Id, vI a2, vU x15.1, vU x15.2, vU 0, vU 0] 45) :: ((bif L 8 then [bxv (f41 14) (bif L 9 then (c_api_Sig x17.1) else z_api_Sig) 43] else []) ++ As)) _ := S98
     rw [d8, d9] at S98
     obtain ⟨u41, rfl⟩ := fr_of (N := 82) (L := []) hO trivial
     replace S98 : St _ ((row 2 v9 c6 x14.length) :: (bx b3 z_api_Promise 45) :: (bx b2 z_api_Log 26) :: (bx b1 (c_api_Log a0 a0v3 a0v4 v9) 26) :: (bx b10 [vI a0.Id, vI a2, vU x15.1, vU x15.2, vU 0, vU 0] 45) :: As) _ := S98
     have L77 := Mem.rfl' m72
     refine s_alloc S98 zeroValue43 fun b11 w78 S99 => ?_
     replace S99 : St _ ((bx b11 z_api_Sig 43) :: (row 2 v9 c6 x14.length) :: (bx b3 z_api_Promise 45) :: (bx b2 z_api_Log 26) :: (bx b1 (c_api_Log a0 a0v3 a0v4 v9) 26) :: (bx b10 [vI a0.Id, vI a2, vU x15.1, vU x15.2, vU 0, vU 0] 45) :: As) _ := S99
     clear S98
     refine wpn <| ⟨m72, Mem.tr L76 L77, ?_, facts_step HM rfl K L77 rfl rfl ⟨b11, rfl⟩, outP⟩
     show St _ ((row 2 v9 c6 x14.length) :: (bx b3 z_api_Promise 45) :: (bx b2 z_api_Log 26) :: (bx b1 (c_api_Log a0 a0v3 a0v4 v9) 26) :: (bx b10 [vI a0.Id, vI a2, vU x15.1, vU x15.2, vU 0, vU 0] 45) :: ((bif true then [bxv _ (bif L 9 then (c_api_Sig x17.1) else z_api_Sig) 43] else []) ++ As)) _
     rw [d9]
     have S116 : St _ ((row 2 v9 c6 x14.length) :: (bx b3 z_api_Promise 45) :: (bx b2 z_api_Log 26) :: (bx b1 (c_api_Log a0 a0v3 a0v4 v9) 26) :: (bx b10 [vI a0.Id, vI a2, vU x15.1, vU x15.2, vU 0, vU 0] 45) :: (bx b11 z_api_Sig 43) :: As) _ := St.perm S99 (List.Perm.trans (List.Perm.swap _ _ _) (List.Perm.trans (List.Perm.cons _ (List.Perm.swap _ _ _)) (List.Perm.trans (List.Perm.cons _ (List.Perm.cons _ (List.Perm.swap _ _ _))) (List.Perm.trans (List.Perm.cons _ (List.Perm.cons _ (List.Perm.cons _ (List.Perm.swap _ _ _)))) (List.Perm.cons _ (List.Perm.cons _ (List.Perm.cons _ (List.Perm.cons _ (List.Perm.swap _ _ _)))))))))
     exact S116
   · intro L f42 w79 hL hd hc ⟨m73, L78, S100, K, hO⟩
     have d8 : L 8 = true := dep hd rfl
     have d9 : L 9 = false := hL
     obtain ⟨b12, e35⟩ := K 8 d8
     replace S100 : St _ ((row 2 v9 c6 x14.length) :: (bx b3 z_api_Promise 45) :: (bx b2 z_api_Log 26) :: (bx b1 (c_api_Log a0 a0v3 a0v4 v9) 26) :: (bx b10 [vI a0.Id, vI a2, vU x15.1, vU x15.2, vU 0, vU 0] 45) :: ((bif L 8 then [bxv (f42 14) (bif L 9 then (c_api_Sig x17.1) else z_api_Sig) 43] else []) ++ As)) _ := S100
     rw [d8, d9] at S100
     obtain ⟨u42, rfl⟩ := fr_of (N := 82) (L := [(14, _), (76, _)]) hO ⟨e35, K 6 (dep hd rfl), trivial⟩
     replace S100 : St _ ((row 2 v9 c6 x14.length) :: (bx b3 z_api_Promise 45) :: (bx b2 z_api_Log 26) :: (bx b1 (c_api_Log a0 a0v3 a0v4 v9) 26) :: (bx b10 [vI a0.Id, vI a2, vU x15.1, vU x15.2, vU 0, vU 0] 45) :: (bx b12 z_api_Sig 43) :: As) _ := S100
     have L79 := Mem.rfl' m73
     refine s_stL (i := 5) S100 rfl rfl rfl sizeOf43 (oneC rfl (oneC rfl oneN)) rfl fun w80 S101 => ?_
     replace S101 : St _ ((row 2 v9 c6 x14.length) :: (bx b3 z_api_Promise 45) :: (bx b2 z_api_Log 26) :: (bx b1 (c_api_Log a0 a0v3 a0v4 v9) 26) :: (bx b10 [vI a0.Id, vI a2, vU x15.1, vU x15.2, vU 0, vU 0] 45) :: (bx b12 (c_api_Sig x17.1) 43) :: As) _ := S101
     clear S100
     refine wpn <| ⟨m73, Mem.tr L78 L79, ?_, facts_none HM K L79 rfl (fun _ => trivial), outP⟩
     show St _ ((row 2 v9 c6 x14.length) :: (bx b3 z_api_Promise 45) :: (bx b2 z_api_Log 26) :: (bx b1 (c_api_Log a0 a0v3 a0v4 v9) 26) :: (bx b10 [vI a0.Id, vI a2, vU x15.1, vU x15.2, vU 0, vU 0] 45) :: ((bif L 8 then [bxv _ (bif true then (c_api_Sig x17.1) else z_api_Sig) 43] else []) ++ As)) _
     rw [d8]
     exact S101
 intro L f43 w81 hall ⟨m74, L80, S102, K, hO⟩
 have d8 : L 8 = true := hall 8 (by decide)
 have d9 : L 9 = true := hall 9 (by decide)
 obtain ⟨b13, e37⟩ := K 8 d8
 have d7 : L 7 = true := hall 7 (by decide)
 replace S102 : St _ ((row 2 v9 c6 x14.length) :: (bx b3 z_api_Promise 45) :: (bx b2 z_api_Log 26) :: (bx b1 (c_api_Log a0 a0v3 a0v4 v9) 26) :: (bx b10 [vI a0.Id, vI a2, vU x15.1, vU x15.2, vU 0, vU 0] 45) :: ((bif L 8 then [bxv (f43 14) (bif L 9 then (c_api_Sig x17.1) else z_api_Sig) 43] else []) ++ As)) _ := S102
 rw [d8, d9] at S102
 obtain ⟨u43, rfl⟩ := fr_of (N := 82) (L := [(14, _), (77, _)]) hO ⟨e37, K 7 d7, trivial⟩
 replace S102 : St _ ((row 2 v9 c6 x14.length) :: (bx b3 z_api_Promise 45) :: (bx b2 z_api_Log 26) :: (bx b1 (c_api_Log a0 a0v3 a0v4 v9) 26) :: (bx b10 [vI a0.Id, vI a2, vU x15.1, vU x15.2, vU 0, vU 0] 45) :: (bx b13 (c_api_Sig x17.1) 43) :: As) _ := S102
 clear S86
 refine s_asv (v := vI x17.2) rfl <| nx <| s_ld (i := 5) (cs := (c_api_Sig x17.1)) S102 rfl rfl isAgg43 sizeOf43 rfl (fun h => by cases h) <| s_fld (n := 1) rfl underlying45 rfl rfl sizeOf43 <| s_stL (i := 4) S102 rfl rfl rfl sizeOf43 (oneC rfl (oneC rfl oneN)) rfl fun w82 S103 => ?_
 replace S103 : St _ ((row 2 v9 c6 x14.length) :: (bx b3 z_api_Promise 45) :: (bx b2 z_api_Log 26) :: (bx b1 (c_api_Log a0 a0v3 a0v4 v9) 26) :: (bx b10 [vI a0.Id, vI a2, vU x15.1, vU x15.2, vU x17.1.E, vU x17.1.S] 45) :: (bx b13 (c_api_Sig x17.1) 43) :: As) _ := S103
 clear S102
 refine wpl_nil <| nrm <| wpc_seq ?_
 replace h15 := RepL.up (mt L59 L80) h15
 obtain ⟨m75, l33, h19, S104⟩ := St.rowKeepT (i := 0) S103 rfl h15 rfl
 clear S103
 have HM : MonoAll [(80, fv (.agg (c_api_Log a0 a0v3 a0v4 v9).toArray)), (81, fv (.agg #[vI a0.Id, vI a2, vU x15.1, vU x15.2, vU x17.1.E, vU x17.1.S])), (100002, fun _ _ => True)] := ⟨mv, mv, (fun _ _ _ _ h => h), trivial⟩
 refine wpc_flowG HM 3 mixed rfl rfl rfl [80, 81] (fun L f M w => St M ((bx b3 z_api_Promise 45) :: (bx b2 (bif L 2 then (c_api_Log a0 a0v3 a0v4 v9) else z_api_Log) 26) :: (bx b1 (c_api_Log a0 a0v3 a0v4 v9) 26) :: (bx b10 [vI a0.Id, vI a2, vU x15.1, vU x15.2, vU x17.1.E, vU x17.1.S] 45) :: (bx b13 (c_api_Sig x17.1) 43) :: As) w) (St.drew S104 _) ?_ ?_
 · refine ⟨?_, ?_, ?_, trivial⟩
   · intro L f44 w83 hL hd hc ⟨m76, L81, S105, K, hO⟩
     have d2 : L 2 = false := undep hc hL rfl
     replace S105 : St _ ((bx b3 z_api_Promise 45) :: (bx b2 (bif L 2 then (c_api_Log a0 a0v3 a0v4 v9) else z_api_Log) 26) :: (bx b1 (c_api_Log a0 a0v3 a0v4 v9) 26) :: (bx b10 [vI a0.Id, vI a2, vU x15.1, vU x15.2, vU x17.1.E, vU x17.1.S] 45) :: (bx b13 (c_api_Sig x17.1) 43) :: As) _ := S105
     rw [d2] at S105
     obtain ⟨u44, rfl⟩ := fr_of (N := 82) (L := []) hO trivial
     replace S105 : St _ ((bx b3 z_api_Promise 45) :: (bx b2 z_api_Log 26) :: (bx b1 (c_api_Log a0 a0v3 a0v4 v9) 26) :: (bx b10 [vI a0.Id, vI a2, vU x15.1, vU x15.2, vU x17.1.E, vU x17.1.S] 45) :: (bx b13 (c_api_Sig x17.1) 43) :: As) _ := S105
     have L82 := Mem.rfl' m76
     refine s_ld (i := 2) (cs := (c_api_Log a0 a0v3 a0v4 v9)) S105 rfl rfl isAgg26 sizeOf26 rfl (fun h => by cases h) <| wpn <| ⟨m76, Mem.tr L81 L82, ?_, facts_step HM rfl K L82 rfl rfl rfl, outP⟩
     show St _ ((bx b3 z_api_Promise 45) :: (bx b2 (bif L 2 then (c_api_Log a0 a0v3 a0v4 v9) else z_api_Log) 26) :: (bx b1 (c_api_Log a0 a0v3 a0v4 v9) 26) :: (bx b10 [vI a0.Id, vI a2, vU x15.1, vU x15.2, vU x17.1.E, vU x17.1.S] 45) :: (bx b13 (c_api_Sig x17.1) 43) :: As) _
     rw [d2]
     exact S105
   · exact flp HM rfl [] (fun _ _ => trivial) (fun _ S106 q => s_ld (i := 3) (cs := [vI a0.Id, vI a2, vU x15.1, vU x15.2, vU x17.1.E, vU x17.1.S]) S106 rfl rfl isAgg45 sizeOf45 rfl (fun h => by cases h) q) rfl
   · intro L f46 w85 hL hd hc ⟨m78, L85, S107, K, hO⟩
     have d2 : L 2 = false := hL
     replace S107 : St _ ((bx b3 z_api_Promise 45) :: (bx b2 (bif L 2 then (c_api_Log a0 a0v3 a0v4 v9) else z_api_Log) 26) :: (bx b1 (c_api_Log a0 a0v3 a0v4 v9) 26) :: (bx b10 [vI a0.Id, vI a2, vU x15.1, vU x15.2, vU x17.1.E, vU x17.1.S] 45) :: (bx b13 (c_api_Sig x17.1) 43) :: As) _ := S107
     rw [d2] at S107
     obtain ⟨u46, rfl⟩ := fr_of (N := 82) (L := [(80, _)]) hO ⟨K 0 (dep hd rfl), trivial⟩
     replace S107 : St _ ((bx b3 z_api_Promise 45) :: (bx b2 z_api_Log 26) :: (bx b1 (c_api_Log a0 a0v3 a0v4 v9) 26) :: (bx b10 [vI a0.Id, vI a2, vU x15.1, vU x15.2, vU x17.1.E, vU x17.1.S] 45) :: (bx b13 (c_api_Sig x17.1) 43) :: As) _ := S107
     replace a0h3 := a0h3.up (mt l12 (mt l13 (mt l14 (mt l27 (mt l28 (mt L59 (mt L80 (mt l33 L85))))))))
     replace a0h4 := a0h4.up (mt l12 (mt l13 (mt l14 (mt l27 (mt l28 (mt L59 (mt L80 (mt l33 L85))))))))
     refine s_stL (i := 1) S107 rfl rfl rfl sizeOf26 (oneC rfl (oneC rfl (oneC rfl (oneC (SlR.one a0h3) (oneC (SlR.one a0h4) (oneC (SlR.one (h19.up L85)) oneN)))))) rfl fun w86 S108 => ?_
     replace S108 : St _ ((bx b3 z_api_Promise 45) :: (bx b2 (c_api_Log a0 a0v3 a0v4 v9) 26) :: (bx b1 (c_api_Log a0 a0v3 a0v4 v9) 26) :: (bx b10 [vI a0.Id, vI a2, vU x15.1, vU x15.2, vU x17.1.E, vU x17.1.S] 45) :: (bx b13 (c_api_Sig x17.1) 43) :: As) _ := S108
     clear S107
     exact oN HM L85 S108 K rfl (fun _ => trivial) outP
 intro L f47 w87 hall ⟨m79, L87, S109, K, hO⟩
 have d2 : L 2 = true := hall 2 (by decide)
 have d1 : L 1 = true := hall 1 (by decide)
 replace S109 : St _ ((bx b3 z_api_Promise 45) :: (bx b2 (bif L 2 then (c_api_Log a0 a0v3 a0v4 v9) else z_api_Log) 26) :: (bx b1 (c_api_Log a0 a0v3 a0v4 v9) 26) :: (bx b10 [vI a0.Id, vI a2, vU x15.1, vU x15.2, vU x17.1.E, vU x17.1.S] 45) :: (bx b13 (c_api_Sig x17.1) 43) :: As) _ := S109
 rw [d2] at S109
 obtain ⟨u47, rfl⟩ := fr_of (N := 82) (L := [(81, _)]) hO ⟨K 1 d1, trivial⟩
 replace S109 : St _ ((bx b3 z_api_Promise 45) :: (bx b2 (c_api_Log a0 a0v3 a0v4 v9) 26) :: (bx b1 (c_api_Log a0 a0v3 a0v4 v9) 26) :: (bx b10 [vI a0.Id, vI a2, vU x15.1, vU x15.2, vU x17.1.E, vU x17.1.S] 45) :: (bx b13 (c_api_Sig x17.1) 43) :: As) _ := S109
 clear S104
 refine s_stL (i := 0) S109 rfl rfl rfl sizeOf45 (oneC rfl (oneC rfl (oneC rfl (oneC rfl (oneC rfl (oneC rfl oneN)))))) rfl fun w88 S110 => ?_
 replace S110 : St _ ((bx b3 [vI a0.Id, vI a2, vU x15.1, vU x15.2, vU x17.1.E, vU x17.1.S] 45) :: (bx b2 (c_api_Log a0 a0v3 a0v4 v9) 26) :: (bx b1 (c_api_Log a0 a0v3 a0v4 v9) 26) :: (bx b10 [vI a0.Id, vI a2, vU x15.1, vU x15.2, vU x17.1.E, vU x17.1.S] 45) :: (bx b13 (c_api_Sig x17.1) 43) :: As) _ := S110
 clear S109
 refine s_asv (v := vI 0) rfl <| wpl_nil <| nrm <| wpc_ret <| outRw fun we hpd => ?_
 replace S110 := St.pd S110 hpd
 have SR := S110
 obtain ⟨m80, l34, S111⟩ := St.drop S110 0
 replace S111 : St _ ((bx b2 (c_api_Log a0 a0v3 a0v4 v9) 26) :: (bx b1 (c_api_Log a0 a0v3 a0v4 v9) 26) :: (bx b10 [vI a0.Id, vI a2, vU x15.1, vU x15.2, vU x17.1.E, vU x17.1.S] 45) :: (bx b13 (c_api_Sig x17.1) 43) :: As) _ := S111
 obtain ⟨m81, l35, S112⟩ := St.drop S111 0
 clear S111
 replace S112 : St _ ((bx b1 (c_api_Log a0 a0v3 a0v4 v9) 26) :: (bx b10 [vI a0.Id, vI a2, vU x15.1, vU x15.2, vU x17.1.E, vU x17.1.S] 45) :: (bx b13 (c_api_Sig x17.1) 43) :: As) _ := S112
 obtain ⟨m82, l36, S113⟩ := St.drop S112 0
 clear S112
 replace S113 : St _ ((bx b10 [vI a0.Id, vI a2, vU x15.1, vU x15.2, vU x17.1.E, vU x17.1.S] 45) :: (bx b13 (c_api_Sig x17.1) 43) :: As) _ := S113
 obtain ⟨m83, l37, S114⟩ := St.drop S113 0
 clear S113
 replace S114 : St _ ((bx b13 (c_api_Sig x17.1) 43) :: As) _ := S114
 obtain ⟨m84, l38, S115⟩ := St.drop S114 0
 clear S114
 replace S115 : St _ (As) _ := S115
 have e0 := Option.some.inj hm
 subst e0
 replace L0 := Mem.tr L0 (mt l1 (mt l5 (mt l8 (mt l12 (mt l13 (mt l14 (mt l27 (mt l28 (mt L59 (mt L80 (mt l33 (mt L87 (mt l34 (mt l35 (mt l36 (mt l37 l38))))))))))))))))
 replace a0h3 := a0h3.up (mt l12 (mt l13 (mt l14 (mt l27 (mt l28 (mt L59 (mt L80 (mt l33 (mt L87 (mt l34 (mt l35 (mt l36 (mt l37 l38)))))))))))))
 replace a0h4 := a0h4.up (mt l12 (mt l13 (mt l14 (mt l27 (mt l28 (mt L59 (mt L80 (mt l33 (mt L87 (mt l34 (mt l35 (mt l36 (mt l37 l38)))))))))))))
 replace h19 := h19.up (mt L87 (mt l34 (mt l35 (mt l36 (mt l37 l38)))))
 exact outR [_, _, _] rfl ⟨res_box (i := 1) (off := 0) (cs := (c_api_Log a0 a0v3 a0v4 v9)) SR rfl rfl isAgg26 sizeOf26 rfl (fun h => by cases h), res_box (i := 0) (off := 0) (cs := [vI a0.Id, vI a2, vU x15.1, vU x15.2, vU x17.1.E, vU x17.1.S]) SR rfl rfl isAgg45 sizeOf45 rfl (fun h => by cases h), rfl, trivial⟩ ⟨_, L0, _, _, _, S115, rfl, a0h3, a0h4, h19⟩

def m_ref24_Merge (a0 : g_api_Log) : Option (g_api_Log × Int) :=
  obind (m_ref24_Check a0) fun x1 =>
  if (x1 != 0) = true then
    some ((⟨0, 0, 0, [], [], []⟩ : g_api_Log), x1)
  else
  obind (m_ref24_All a0) fun x2 =>
  some ((⟨a0.Id, a0.Key, a0.Delay, x2, a0.Hide, []⟩ : g_api_Log), 0)

theorem w_ref24_Merge {m : Mem} {As : List Ow} {w : World} {a0 : g_api_Log} {a0v3 : Value} {a0v4 : Value} {a0v5 : Value} {r : g_api_Log × Int} (S : St m (As) w) (a0h3 : SlR m a0v3 a0.L) (a0h4 : SlR m a0v4 a0.Hide) (a0h5 : SlR m a0v5 a0.Wait) (hm : m_ref24_Merge a0 = some r) :
    CallsR Tryz.prog 19 #[.agg (c_api_Log a0 a0v3 a0v4 a0v5).toArray] w fun v w' => ∃ (M : Mem), m ≤ M ∧ ∃ (rv0_3 : Value) (rv0_4 : Value) (rv0_5 : Value), St M (As) w' ∧ v = .tuple #[.agg (c_api_Log r.1 rv0_3 rv0_4 rv0_5).toArray, vI r.2] ∧ SlR M rv0_3 r.1.L ∧ SlR M rv0_4 r.1.Hide ∧ SlR M rv0_5 r.1.Wait := by
 unfold m_ref24_Merge at hm
 have L0 := Mem.rfl' m
 refine callsR (args := [.agg (c_api_Log a0 a0v3 a0v4 a0v5).toArray]) func19 rfl ntmps19 (nb rfl) <| ws <| s_box S rfl fun b1 w1 S1 => ?_
 replace S1 : St _ ((bx b1 (c_api_Log a0 a0v3 a0v4 a0v5) 26) :: As) _ := S1
 clear S
 refine s_alloc S1 zeroValue26 fun b2 w2 S2 => ?_
 replace S2 : St _ ((bx b2 z_api_Log 26) :: (bx b1 (c_api_Log a0 a0v3 a0v4 a0v5) 26) :: As) _ := S2
 clear S1
 refine s_asv (v := vI 0) rfl <| nx <| s_ld (i := 1) (cs := (c_api_Log a0 a0v3 a0v4 a0v5)) S2 rfl rfl isAgg26 sizeOf26 rfl (fun h => by cases h) ?_
 obtain ⟨x1, q1, hm⟩ := obind_some hm
 refine s_call call14 (w_ref24_Check (a0 := a0) S2 a0h3 a0h4 a0h5 q1) rfl ?_
 rintro _ w3 ⟨m1, l1, S3, rfl⟩
 clear S2
 refine s_asv (v := vI x1) rfl <| wpl_nil <| nrm <| wpc_seq <| ws <| s_mvv (v := vI x1) rfl <| s_neq (m := x1) (n := 0) rfl rfl <| wpl_nil <| nrm <| wpc_if (t := (x1 != 0)) rfl (fun hc1 => ?_) (fun hc1 => ?_)
 · replace hm := ifT hc1 hm
   refine ws <| s_build (parts := []) (ps := []) (cs := z_api_Log) zeroValue26 (BuildPl.str (ss := [1, 1, 1, 1, 1, 1]) underlying26 ⟨sizeOf3, sizeOf22, sizeOf3, sizeOf23, sizeOf24, sizeOf23, trivial⟩) rfl trivial rfl <| s_mvv (v := vI x1) rfl <| s_stL (i := 0) S3 rfl rfl rfl sizeOf26 (oneC rfl (oneC rfl (oneC rfl (oneC rfl (oneC rfl (oneC rfl oneN)))))) rfl fun w4 S4 => ?_
   replace S4 : St _ ((bx b2 z_api_Log 26) :: (bx b1 (c_api_Log a0 a0v3 a0v4 a0v5) 26) :: As) _ := S4
   clear S3
   refine s_asv (v := vI x1) rfl <| wpl_nil <| nrm <| wpc_ret <| thR <| outRw fun we hpd => ?_
   replace S4 := St.pd S4 hpd
   have SR := S4
   obtain ⟨m2, l2, S5⟩ := St.drop S4 0
   replace S5 : St _ ((bx b1 (c_api_Log a0 a0v3 a0v4 a0v5) 26) :: As) _ := S5
   obtain ⟨m3, l3, S6⟩ := St.drop S5 0
   clear S5
   replace S6 : St _ (As) _ := S6
   have e0 := Option.some.inj hm
   subst e0
   replace L0 := Mem.tr L0 (mt l1 (mt l2 l3))
   exact outR [_, _] rfl ⟨res_box (i := 0) (off := 0) (cs := z_api_Log) SR rfl rfl isAgg26 sizeOf26 rfl (fun h => by cases h), rfl, trivial⟩ ⟨_, L0, _, _, _, S6, rfl, SlR.nil, SlR.nil, SlR.nil⟩
 replace hm := ifF hc1 hm
 refine wpc_skip <| nrm <| ws <| s_ld (i := 1) (cs := (c_api_Log a0 a0v3 a0v4 a0v5)) S3 rfl rfl isAgg26 sizeOf26 rfl (fun h => by cases h) ?_
 obtain ⟨x2, q2, hm⟩ := obind_some hm
 refine s_call call46 (w_ref24_All (a0 := a0) S3 (a0h3.up l1) (a0h4.up l1) (a0h5.up l1) q2) rfl ?_
 rintro v1 w5 ⟨m4, l4, _, c1, S7, rfl, h1⟩
 clear S3
 refine s_fld (n := 0) rfl underlying26 rfl rfl sizeOf23 <| s_stS (i := 2) S7 rfl rfl rfl sizeOf23 (St.rowCells (i := 0) S7 rfl) rfl fun w6 S8 => nx <| s_fld (n := 0) rfl underlying26 rfl rfl sizeOf23 <| s_stL (i := 2) S8 rfl rfl rfl sizeOf23 (oneC rfl oneN) rfl fun w7 S9 => ?_
 replace S9 : St _ ((row 2 v1 c1 x2.length) :: (bx b2 z_api_Log 26) :: (bx b1 (c_api_Log a0 v1 a0v4 (.slice none 0 0)) 26) :: As) _ := S9
 clear S7 S8
 refine nx <| s_ld (i := 2) (cs := (c_api_Log a0 v1 a0v4 (.slice none 0 0))) S9 rfl rfl isAgg26 sizeOf26 rfl (fun h => by cases h) ?_
 replace a0h4 := a0h4.up (mt l1 l4)
 refine s_stL (i := 1) S9 rfl rfl rfl sizeOf26 (oneC rfl (oneC rfl (oneC rfl (oneC (St.rowCells (i := 0) S9 rfl).2 (oneC (SlR.one a0h4) (oneC rfl oneN)))))) rfl fun w8 S10 => ?_
 replace S10 : St _ ((row 2 v1 c1 x2.length) :: (bx b2 (c_api_Log a0 v1 a0v4 (.slice none 0 0)) 26) :: (bx b1 (c_api_Log a0 v1 a0v4 (.slice none 0 0)) 26) :: As) _ := S10
 clear S9
 refine s_asv (v := vI 0) rfl <| wpl_nil <| nrm <| wpc_ret <| outRw fun we hpd => ?_
 replace S10 := St.pd S10 hpd
 obtain ⟨m5, l5, h2, S11⟩ := St.rowKeepT (i := 0) S10 rfl h1 rfl
 clear S10
 have SR := S11
 obtain ⟨m6, l6, S12⟩ := St.drop S11 0
 replace S12 : St _ ((bx b1 (c_api_Log a0 v1 a0v4 (.slice none 0 0)) 26) :: As) _ := S12
 obtain ⟨m7, l7, S13⟩ := St.drop S12 0
 clear S12
 replace S13 : St _ (As) _ := S13
 have e0 := Option.some.inj hm
 subst e0
 replace L0 := Mem.tr L0 (mt l1 (mt l4 (mt l5 (mt l6 l7))))
 replace a0h4 := a0h4.up (mt l5 (mt l6 l7))
 replace h2 := h2.up (mt l6 l7)
 exact outR [_, _] rfl ⟨res_box (i := 0) (off := 0) (cs := (c_api_Log a0 v1 a0v4 (.slice none 0 0))) SR rfl rfl isAgg26 sizeOf26 rfl (fun h => by cases h), rfl, trivial⟩ ⟨_, L0, _, _, _, S13, rfl, h2, a0h4, SlR.nil⟩

def m_ref24_Hide (a0 : g_api_Log) : Option (g_api_Log × Int) :=
  obind (m_ref24_Check a0) fun x1 =>
  if (x1 != 0) = true then
    some ((⟨0, 0, 0, [], [], []⟩ : g_api_Log), x1)
  else
  if ((a0.L.length : Int) == 0) = true then
    some ((⟨0, 0, 0, [], [], []⟩ : g_api_Log), 240)
  else
  obind (
    obind (m_ref24_hidden a0 (w64 ((a0.L.length : Int) - 1))) fun x3 =>
    if (!x3) = true then
      obind (app 8 ([] : List Int) a0.Hide) fun x4 =>
      obind (app 8 x4 ([(w64 ((a0.L.length : Int) - 1))] : List Int)) fun x5 =>
      some x5
    else
    some a0.Hide
  ) fun x2 =>
  some ((⟨a0.Id, a0.Key, a0.Delay, a0.L, x2, a0.Wait⟩ : g_api_Log), 0)

theorem w_ref24_Hide {m : Mem} {As : List Ow} {w : World} {a0 : g_api_Log} {a0v3 : Value} {a0v4 : Value} {a0v5 : Value} {r : g_api_Log × Int} (S : St m (As) w) (a0h3 : SlR m a0v3 a0.L) (a0h4 : SlR m a0v4 a0.Hide) (a0h5 : SlR m a0v5 a0.Wait) (hm : m_ref24_Hide a0 = some r) :
    CallsR Tryz.prog 21 #[.agg (c_api_Log a0 a0v3 a0v4 a0v5).toArray] w fun v w' => ∃ (M : Mem), m ≤ M ∧ ∃ (rv0_3 : Value) (rv0_4 : Value) (rv0_5 : Value), St M (As) w' ∧ v = .tuple #[.agg (c_api_Log r.1 rv0_3 rv0_4 rv0_5).toArray, vI r.2] ∧ SlR M rv0_3 r.1.L ∧ SlR M rv0_4 r.1.Hide ∧ SlR M rv0_5 r.1.Wait := by
 unfold m_ref24_Hide at hm
 have L0 := Mem.rfl' m
 refine callsR (args := [.agg (c_api_Log a0 a0v3 a0v4 a0v5).toArray]) func21 rfl ntmps21 (nb rfl) <| ws <| s_box S rfl fun b1 w1 S1 => ?_
 replace S1 : St _ ((bx b1 (c_api_Log a0 a0v3 a0v4 a0v5) 26) :: As) _ := S1
 clear S
 refine s_alloc S1 zeroValue26 fun b2 w2 S2 => ?_
 replace S2 : St _ ((bx b2 z_api_Log 26) :: (bx b1 (c_api_Log a0 a0v3 a0v4 a0v5) 26) :: As) _ := S2
 clear S1
 refine s_asv (v := vI 0) rfl <| nx <| s_ld (i := 1) (cs := (c_api_Log a0 a0v3 a0v4 a0v5)) S2 rfl rfl isAgg26 sizeOf26 rfl (fun h => by cases h) ?_
 obtain ⟨x1, q1, hm⟩ := obind_some hm
 refine s_call call14 (w_ref24_Check (a0 := a0) S2 a0h3 a0h4 a0h5 q1) rfl ?_
 rintro _ w3 ⟨m1, l1, S3, rfl⟩
 clear S2
 refine s_asv (v := vI x1) rfl <| wpl_nil <| nrm <| wpc_seq <| ws <| s_mvv (v := vI x1) rfl <| s_neq (m := x1) (n := 0) rfl rfl <| wpl_nil <| nrm <| wpc_if (t := (x1 != 0)) rfl (fun hc1 => ?_) (fun hc1 => ?_)
 · replace hm := ifT hc1 hm
   refine ws <| s_build (parts := []) (ps := []) (cs := z_api_Log) zeroValue26 (BuildPl.str (ss := [1, 1, 1, 1, 1, 1]) underlying26 ⟨sizeOf3, sizeOf22, sizeOf3, sizeOf23, sizeOf24, sizeOf23, trivial⟩) rfl trivial rfl <| s_mvv (v := vI x1) rfl <| s_stL (i := 0) S3 rfl rfl rfl sizeOf26 (oneC rfl (oneC rfl (oneC rfl (oneC rfl (oneC rfl (oneC rfl oneN)))))) rfl fun w4 S4 => ?_
   replace S4 : St _ ((bx b2 z_api_Log 26) :: (bx b1 (c_api_Log a0 a0v3 a0v4 a0v5) 26) :: As) _ := S4
   clear S3
   refine s_asv (v := vI x1) rfl <| wpl_nil <| nrm <| wpc_ret <| thR <| outRw fun we hpd => ?_
   replace S4 := St.pd S4 hpd
   have SR := S4
   obtain ⟨m2, l2, S5⟩ := St.drop S4 0
   replace S5 : St _ ((bx b1 (c_api_Log a0 a0v3 a0v4 a0v5) 26) :: As) _ := S5
   obtain ⟨m3, l3, S6⟩ := St.drop S5 0
   clear S5
   replace S6 : St _ (As) _ := S6
   have e0 := Option.some.inj hm
   subst e0
   replace L0 := Mem.tr L0 (mt l1 (mt l2 l3))
   exact outR [_, _] rfl ⟨res_box (i := 0) (off := 0) (cs := z_api_Log) SR rfl rfl isAgg26 sizeOf26 rfl (fun h => by cases h), rfl, trivial⟩ ⟨_, L0, _, _, _, S6, rfl, SlR.nil, SlR.nil, SlR.nil⟩
 replace hm := ifF hc1 hm
 refine wpc_skip <| nrm <| wpc_seq <| ws <| s_fld (n := 0) rfl underlying26 rfl rfl sizeOf23 <| s_ld (i := 1) (cs := [a0v3]) S3 rfl rfl isAgg23 sizeOf23 rfl (fun _ => rfl) <| s_lenR (xs := a0.L) rfl (a0h3.up l1) underlying23 <| s_eql (m := (a0.L.length : Int)) (n := 0) rfl rfl <| wpl_nil <| nrm <| wpc_if (t := ((a0.L.length : Int) == 0)) rfl (fun hc2 => ?_) (fun hc2 => ?_)
 · replace hm := ifT hc2 hm
   refine ws <| s_build (parts := []) (ps := []) (cs := z_api_Log) zeroValue26 (BuildPl.str (ss := [1, 1, 1, 1, 1, 1]) underlying26 ⟨sizeOf3, sizeOf22, sizeOf3, sizeOf23, sizeOf24, sizeOf23, trivial⟩) rfl trivial rfl <| s_stL (i := 0) S3 rfl rfl rfl sizeOf26 (oneC rfl (oneC rfl (oneC rfl (oneC rfl (oneC rfl (oneC rfl oneN)))))) rfl fun w5 S7 => ?_
   replace S7 : St _ ((bx b2 z_api_Log 26) :: (bx b1 (c_api_Log a0 a0v3 a0v4 a0v5) 26) :: As) _ := S7
   clear S3
   refine s_asv (v := vI 240) rfl <| wpl_nil <| nrm <| wpc_ret <| thR <| outRw fun we hpd => ?_
   replace S7 := St.pd S7 hpd
   have SR := S7
   obtain ⟨m4, l4, S8⟩ := St.drop S7 0
   replace S8 : St _ ((bx b1 (c_api_Log a0 a0v3 a0v4 a0v5) 26) :: As) _ := S8
   obtain ⟨m5, l5, S9⟩ := St.drop S8 0
   clear S8
   replace S9 : St _ (As) _ := S9
   have e0 := Option.some.inj hm
   subst e0
   replace L0 := Mem.tr L0 (mt l1 (mt l4 l5))
   exact outR [_, _] rfl ⟨res_box (i := 0) (off := 0) (cs := z_api_Log) SR rfl rfl isAgg26 sizeOf26 rfl (fun h => by cases h), rfl, trivial⟩ ⟨_, L0, _, _, _, S9, rfl, SlR.nil, SlR.nil, SlR.nil⟩
 replace hm := ifF hc2 hm
 refine wpc_skip <| nrm ?_
 obtain ⟨x2, q2, hm⟩ := obind_some hm
 have L1 := Mem.rfl' m1
 refine wpc_seq <| wpc_join [5, 17, 18, 19, 20, 21, 22, 23, 24, 25, 26, 27, 28, 29, 30, 31, 32, 33, 34, 35, 36] (fun f' w' => ∃ (M1 : Mem) (v1 : Value), m1 ≤ M1 ∧ St M1 ((bx b2 z_api_Log 26) :: (bx b1 (c_api_Log a0 a0v3 v1 a0v5) 26) :: As) w' ∧ SlR M1 v1 x2 ∧ AllAt f' []) ?_ ?_
 · refine ws <| s_ld (i := 1) (cs := (c_api_Log a0 a0v3 a0v4 a0v5)) S3 rfl rfl isAgg26 sizeOf26 rfl (fun h => by cases h) <| s_fld (n := 0) rfl underlying26 rfl rfl sizeOf23 <| s_ld (i := 1) (cs := [a0v3]) S3 rfl rfl isAgg23 sizeOf23 rfl (fun _ => rfl) <| s_lenR (xs := a0.L) rfl (a0h3.up l1) underlying23 <| s_subI (m := (a0.L.length : Int)) (n := 1) rfl rfl ?_
   obtain ⟨x3, q3, q2⟩ := obind_some q2
   refine s_call call63 (w_ref24_hidden (a0 := a0) (a1 := (w64 ((a0.L.length : Int) - 1))) S3 (a0h3.up l1) (a0h4.up l1) (a0h5.up l1) q3) rfl ?_
   rintro _ w6 ⟨m6, l6, S10, rfl⟩
   clear S3
   refine s_not rfl <| wpl_nil <| nrm <| wpc_if (t := (!x3)) rfl (fun hc3 => ?_) (fun hc3 => ?_)
   · replace q2 := ifT hc3 q2
     refine ws <| s_litOC (parts := []) (vs := []) (cls := []) (n := 0) (sz := 1) S10 underlying24 sizeOf3 zeroValue3 rfl trivial rfl rfl (by decide) (by decide) fun v2 w7 S11 => ?_
     have h2 : RepL m6 [] ([] : List Int) := RepL.nil
     replace S11 : St _ ((row 1 v2 [] ([] : List Int).length) :: (bx b2 z_api_Log 26) :: (bx b1 (c_api_Log a0 a0v3 a0v4 a0v5) 26) :: As) _ := S11
     clear S10
     refine s_fld (n := 0) rfl underlying26 rfl rfl sizeOf24 <| s_ld (i := 2) (cs := [a0v4]) S11 rfl rfl isAgg24 sizeOf24 rfl (fun _ => rfl) ?_
     obtain ⟨x4, q4, q2⟩ := obind_some q2
     replace a0h4 := a0h4.up (mt l1 l6)
     refine s_app (i := 0) (zs := x4) (bytes := 8) (ti := Tryz.t3) S11 rfl rfl h2 rfl rfl a0h4 q4 underlying24 type3 rfl rfl rfl rfl fun v3 c1 w8 S12 h3 => ?_
     replace S12 : St _ ((row 1 v3 c1 x4.length) :: (bx b2 z_api_Log 26) :: (bx b1 (c_api_Log a0 a0v3 a0v4 a0v5) 26) :: As) _ := S12
     clear S11
     refine s_asv (v := v3) rfl <| nx <| s_mvv (v := v3) rfl <| s_fld (n := 0) rfl underlying26 rfl rfl sizeOf23 <| s_ld (i := 2) (cs := [a0v3]) S12 rfl rfl isAgg23 sizeOf23 rfl (fun _ => rfl) ?_
     replace a0h3 := a0h3.up (mt l1 l6)
     refine s_lenR (xs := a0.L) rfl a0h3 underlying23 <| s_subI (m := (a0.L.length : Int)) (n := 1) rfl rfl <| s_litC (parts := [.tmp 32]) (vs := [vI (w64 ((a0.L.length : Int) - 1))]) (cls := [[vI (w64 ((a0.L.length : Int) - 1))]]) (xs := ([(w64 ((a0.L.length : Int) - 1))] : List Int)) (n := 1) S12 underlying24 sizeOf3 zeroValue3 rfl ⟨rfl, trivial⟩ (RepL.cons (c := [vI (w64 ((a0.L.length : Int) - 1))]) (x := (w64 ((a0.L.length : Int) - 1))) rfl RepL.nil) rfl rfl rfl (by decide) (by decide) fun v4 m7 w9 l7 S13 h4 => ?_
     clear S12
     obtain ⟨x5, q5, q2⟩ := obind_some q2
     replace h3 := RepL.up l7 h3
     refine s_app (i := 0) (zs := x5) (bytes := 8) (ti := Tryz.t3) S13 rfl rfl h3 rfl rfl h4 q5 underlying24 type3 rfl rfl rfl rfl fun v5 c2 w10 S14 h5 => ?_
     replace S14 : St _ ((row 1 v5 c2 x5.length) :: (bx b2 z_api_Log 26) :: (bx b1 (c_api_Log a0 a0v3 a0v4 a0v5) 26) :: As) _ := S14
     clear S13
     refine s_asv (v := v5) rfl <| wpl_nil <| nrm <| wpc_region <| s_mvv (v := v5) rfl <| s_fld (n := 0) rfl underlying26 rfl rfl sizeOf24 <| s_stS (i := 2) S14 rfl rfl rfl sizeOf24 (St.rowCells (i := 0) S14 rfl) rfl fun w11 S15 => ?_
     replace S15 : St _ ((row 1 v5 c2 x5.length) :: (bx b2 z_api_Log 26) :: (bx b1 (c_api_Log a0 a0v3 v5 a0v5) 26) :: As) _ := S15
     clear S14
     refine wpl_nil <| nrm ?_
     obtain ⟨m8, l8, h6, S16⟩ := St.rowKeepT (i := 0) S15 rfl h5 rfl
     clear S15
     have e0 := Option.some.inj q2
     subst e0
     replace L1 := Mem.tr L1 (mt l6 (mt l7 l8))
     exact ⟨outP, m8, _, L1, S16, h6, trivial⟩
   replace q2 := ifF hc3 q2
   refine wpc_skip <| nrm ?_
   have e0 := Option.some.inj q2
   subst e0
   replace a0h4 := a0h4.up (mt l1 l6)
   replace L1 := Mem.tr L1 l6
   exact ⟨outP, m6, _, L1, S10, a0h4, trivial⟩
 rintro f1 w12 ho ⟨m9, v1, l9, S17, h1, ha⟩
 obtain ⟨u1, rfl⟩ := fr_of (N := 38) ho ha
 clear S3
 refine ws <| s_ld (i := 1) (cs := (c_api_Log a0 a0v3 v1 a0v5)) S17 rfl rfl isAgg26 sizeOf26 rfl (fun h => by cases h) ?_
 replace a0h3 := a0h3.up (mt l1 l9)
 replace a0h5 := a0h5.up (mt l1 l9)
 refine s_stL (i := 0) S17 rfl rfl rfl sizeOf26 (oneC rfl (oneC rfl (oneC rfl (oneC (SlR.one a0h3) (oneC (SlR.one h1) (oneC (SlR.one a0h5) oneN)))))) rfl fun w13 S18 => ?_
 replace S18 : St _ ((bx b2 (c_api_Log a0 a0v3 v1 a0v5) 26) :: (bx b1 (c_api_Log a0 a0v3 v1 a0v5) 26) :: As) _ := S18
 clear S17
 refine s_asv (v := vI 0) rfl <| wpl_nil <| nrm <| wpc_ret <| outRw fun we hpd => ?_
 replace S18 := St.pd S18 hpd
 have SR := S18
 obtain ⟨m10, l10, S19⟩ := St.drop S18 0
 replace S19 : St _ ((bx b1 (c_api_Log a0 a0v3 v1 a0v5) 26) :: As) _ := S19
 obtain ⟨m11, l11, S20⟩ := St.drop S19 0
 clear S19
 replace S20 : St _ (As) _ := S20
 have e0 := Option.some.inj hm
 subst e0
 replace L0 := Mem.tr L0 (mt l1 (mt l9 (mt l10 l11)))
 replace a0h3 := a0h3.up (mt l10 l11)
 replace h1 := h1.up (mt l10 l11)
 replace a0h5 := a0h5.up (mt l10 l11)
 exact outR [_, _] rfl ⟨res_box (i := 0) (off := 0) (cs := (c_api_Log a0 a0v3 v1 a0v5)) SR rfl rfl isAgg26 sizeOf26 rfl (fun h => by cases h), rfl, trivial⟩ ⟨_, L0, _, _, _, S20, rfl, a0h3, h1, a0h5⟩

def m_law24_LogdSteps (a0 : g_api_Log) (a1 : List UInt8) (a2 : Int) : Option Bool :=
  obind (m_law24_live ) fun x1 =>
  if (!x1) = true then
    some false
  else
  obind (m_law24_few a0 a1) fun x2 =>
  if (!x2) = true then
    some true
  else
  obind (m_logd_Add a0 a1 a2) fun x3 =>
  obind (m_ref24_Add a0 a1 a2) fun x4 =>
  obind (m_logd_Merge a0) fun x5 =>
  obind (m_ref24_Merge a0) fun x6 =>
  obind (m_logd_Hide a0) fun x7 =>
  obind (m_ref24_Hide a0) fun x8 =>
  obind (m_ref24_Same x3.1 x4.1) fun x9 =>
  obind (
    if ((x9 && (eq_api_Promise x3.2.1 x4.2.1)) && (x3.2.2 == x4.2.2)) = true then
      obind (m_ref24_Same x5.1 x6.1) fun x12 =>
      some x12
    else
    some false
  ) fun x11 =>
  obind (
    if (x11 && (x5.2 == x6.2)) = true then
      obind (m_ref24_Same x7.1 x8.1) fun x15 =>
      some x15
    else
    some false
  ) fun x14 =>
  some (x14 && (x7.2 == x8.2))

theorem w_law24_LogdSteps {m : Mem} {As : List Ow} {w : World} {a0 : g_api_Log} {a0v3 : Value} {a0v4 : Value} {a0v5 : Value} {a1 : List UInt8} {a1v0 : Value} {a2 : Int} {r : Bool} (S : St m (As) w) (a0h3 : SlR m a0v3 a0.L) (a0h4 : SlR m a0v4 a0.Hide) (a0h5 : SlR m a0v5 a0.Wait) (a1h0 : SlR m a1v0 a1) (hm : m_law24_LogdSteps a0 a1 a2 = some r) :
    CallsR Tryz.prog 4 #[.agg (c_api_Log a0 a0v3 a0v4 a0v5).toArray, a1v0, vI a2] w fun v w' => ∃ (M : Mem), m ≤ M ∧ St M (As) w' ∧ v = vb r := by
 unfold m_law24_LogdSteps at hm
 have L0 := Mem.rfl' m
 refine callsR (args := [.agg (c_api_Log a0 a0v3 a0v4 a0v5).toArray, a1v0, vI a2]) func4 rfl ntmps4 (nb rfl) <| ws <| s_box S rfl fun b1 w1 S1 => ?_
 replace S1 : St _ ((bx b1 (c_api_Log a0 a0v3 a0v4 a0v5) 26) :: As) _ := S1
 clear S
 refine s_asv (v := vb false) rfl <| wpl_nil <| nrm <| wpc_seq <| wpc_seq <| wpc_region ?_
 obtain ⟨x1, q1, hm⟩ := obind_some hm
 refine s_call call7 (w_law24_live  S1  q1) rfl ?_
 rintro _ w2 ⟨m1, l1, S2, rfl⟩
 clear S1
 refine s_not rfl <| wpl_nil <| nrm <| wpc_if (t := (!x1)) rfl (fun hc1 => ?_) (fun hc1 => ?_)
 · replace hm := ifT hc1 hm
   refine ws <| s_asv (v := vb false) rfl <| wpl_nil <| nrm <| wpc_ret <| thR <| outRw fun we hpd => ?_
   replace S2 := St.pd S2 hpd
   obtain ⟨m2, l2, S3⟩ := St.drop S2 0
   clear S2
   replace S3 : St _ (As) _ := S3
   have e0 := Option.some.inj hm
   subst e0
   replace L0 := Mem.tr L0 (mt l1 l2)
   exact outR [_] rfl ⟨rfl, trivial⟩ ⟨_, L0, S3, rfl⟩
 replace hm := ifF hc1 hm
 refine wpc_skip <| nrm <| wpc_seq <| ws <| s_ld (i := 0) (cs := (c_api_Log a0 a0v3 a0v4 a0v5)) S2 rfl rfl isAgg26 sizeOf26 rfl (fun h => by cases h) <| s_mvv (v := a1v0) rfl ?_
 obtain ⟨x2, q2, hm⟩ := obind_some hm
 refine s_call call8 (w_law24_few (a0 := a0) (a1 := a1) S2 (a0h3.up l1) (a0h4.up l1) (a0h5.up l1) (a1h0.up l1) q2) rfl ?_
 rintro _ w3 ⟨m3, l3, S4, rfl⟩
 clear S2
 refine s_not rfl <| wpl_nil <| nrm <| wpc_if (t := (!x2)) rfl (fun hc2 => ?_) (fun hc2 => ?_)
 · replace hm := ifT hc2 hm
   refine ws <| s_asv (v := vb true) rfl <| wpl_nil <| nrm <| wpc_ret <| thR <| outRw fun we hpd => ?_
   replace S4 := St.pd S4 hpd
   obtain ⟨m4, l4, S5⟩ := St.drop S4 0
   clear S4
   replace S5 : St _ (As) _ := S5
   have e0 := Option.some.inj hm
   subst e0
   replace L0 := Mem.tr L0 (mt l1 (mt l3 l4))
   exact outR [_] rfl ⟨rfl, trivial⟩ ⟨_, L0, S5, rfl⟩
 replace hm := ifF hc2 hm
 refine wpc_skip <| nrm <| ws <| s_ld (i := 0) (cs := (c_api_Log a0 a0v3 a0v4 a0v5)) S4 rfl rfl isAgg26 sizeOf26 rfl (fun h => by cases h) <| s_mvv (v := a1v0) rfl <| s_mvv (v := vI a2) rfl ?_
 obtain ⟨x3, q3, hm⟩ := obind_some hm
 replace a1h0 := a1h0.up (mt l1 l3)
 replace a0h3 := a0h3.up (mt l1 l3)
 replace a0h4 := a0h4.up (mt l1 l3)
 replace a0h5 := a0h5.up (mt l1 l3)
 refine s_call call16 (w_logd_Add (a0 := a0) (a1 := a1) (a2 := a2) S4 a0h3 a0h4 a0h5 a1h0 q3) rfl ?_
 rintro _ w4 ⟨m5, l5, v1, v2, v3, S6, rfl, h1, h2, h3⟩
 clear S4
 refine s_mvv (v := .tuple #[.agg (c_api_Log x3.1 v1 v2 v3).toArray, .agg (c_api_Promise x3.2.1).toArray, vI x3.2.2]) rfl <| s_ext (i := 0) rfl rfl <| s_ext (i := 1) rfl rfl <| s_ext (i := 2) rfl rfl <| s_alloc S6 zeroValue26 fun b2 w5 S7 => s_alloc S7 zeroValue45 fun b3 w6 S8 => s_stL (i := 1) S8 rfl rfl rfl sizeOf26 (oneC rfl (oneC rfl (oneC rfl (oneC (SlR.one h1) (oneC (SlR.one h2) (oneC (SlR.one h3) oneN)))))) rfl fun w7 S9 => ?_
 replace S9 : St _ ((bx b3 z_api_Promise 45) :: (bx b2 (c_api_Log x3.1 v1 v2 v3) 26) :: (bx b1 (c_api_Log a0 a0v3 a0v4 a0v5) 26) :: As) _ := S9
 clear S6 S7 S8
 refine s_stL (i := 0) S9 rfl rfl rfl sizeOf45 (oneC rfl (oneC rfl (oneC rfl (oneC rfl (oneC rfl (oneC rfl oneN)))))) rfl fun w8 S10 => ?_
 replace S10 : St _ ((bx b3 (c_api_Promise x3.2.1) 45) :: (bx b2 (c_api_Log x3.1 v1 v2 v3) 26) :: (bx b1 (c_api_Log a0 a0v3 a0v4 a0v5) 26) :: As) _ := S10
 clear S9
 refine s_asv (v := vI x3.2.2) rfl <| nx <| s_ld (i := 2) (cs := (c_api_Log a0 a0v3 a0v4 a0v5)) S10 rfl rfl isAgg26 sizeOf26 rfl (fun h => by cases h) <| s_mvv (v := a1v0) rfl <| s_mvv (v := vI a2) rfl ?_
 obtain ⟨x4, q4, hm⟩ := obind_some hm
 refine s_call call17 (w_ref24_Add (a0 := a0) (a1 := a1) (a2 := a2) S10 (a0h3.up l5) (a0h4.up l5) (a0h5.up l5) (a1h0.up l5) q4) rfl ?_
 rintro _ w9 ⟨m6, l6, v4, v5, v6, S11, rfl, h4, h5, h6⟩
 clear S10
 refine s_mvv (v := .tuple #[.agg (c_api_Log x4.1 v4 v5 v6).toArray, .agg (c_api_Promise x4.2.1).toArray, vI x4.2.2]) rfl <| s_ext (i := 0) rfl rfl <| s_ext (i := 1) rfl rfl <| s_ext (i := 2) rfl rfl <| s_alloc S11 zeroValue26 fun b4 w10 S12 => s_alloc S12 zeroValue45 fun b5 w11 S13 => s_stL (i := 1) S13 rfl rfl rfl sizeOf26 (oneC rfl (oneC rfl (oneC rfl (oneC (SlR.one h4) (oneC (SlR.one h5) (oneC (SlR.one h6) oneN)))))) rfl fun w12 S14 => ?_
 replace S14 : St _ ((bx b5 z_api_Promise 45) :: (bx b4 (c_api_Log x4.1 v4 v5 v6) 26) :: (bx b3 (c_api_Promise x3.2.1) 45) :: (bx b2 (c_api_Log x3.1 v1 v2 v3) 26) :: (bx b1 (c_api_Log a0 a0v3 a0v4 a0v5) 26) :: As) _ := S14
 clear S11 S12 S13
 refine s_stL (i := 0) S14 rfl rfl rfl sizeOf45 (oneC rfl (oneC rfl (oneC rfl (oneC rfl (oneC rfl (oneC rfl oneN)))))) rfl fun w13 S15 => ?_
 replace S15 : St _ ((bx b5 (c_api_Promise x4.2.1) 45) :: (bx b4 (c_api_Log x4.1 v4 v5 v6) 26) :: (bx b3 (c_api_Promise x3.2.1) 45) :: (bx b2 (c_api_Log x3.1 v1 v2 v3) 26) :: (bx b1 (c_api_Log a0 a0v3 a0v4 a0v5) 26) :: As) _ := S15
 clear S14
 refine s_asv (v := vI x4.2.2) rfl <| nx <| s_ld (i := 4) (cs := (c_api_Log a0 a0v3 a0v4 a0v5)) S15 rfl rfl isAgg26 sizeOf26 rfl (fun h => by cases h) ?_
 obtain ⟨x5, q5, hm⟩ := obind_some hm
 replace a0h3 := a0h3.up (mt l5 l6)
 replace a0h4 := a0h4.up (mt l5 l6)
 replace a0h5 := a0h5.up (mt l5 l6)
 refine s_call call18 (w_logd_Merge (a0 := a0) S15 a0h3 a0h4 a0h5 q5) rfl ?_
 rintro _ w14 ⟨m7, l7, v7, v8, v9, S16, rfl, h7, h8, h9⟩
 clear S15
 refine s_mvv (v := .tuple #[.agg (c_api_Log x5.1 v7 v8 v9).toArray, vI x5.2]) rfl <| s_ext (i := 0) rfl rfl <| s_ext (i := 1) rfl rfl <| s_alloc S16 zeroValue26 fun b6 w15 S17 => s_stL (i := 0) S17 rfl rfl rfl sizeOf26 (oneC rfl (oneC rfl (oneC rfl (oneC (SlR.one h7) (oneC (SlR.one h8) (oneC (SlR.one h9) oneN)))))) rfl fun w16 S18 => ?_
 replace S18 : St _ ((bx b6 (c_api_Log x5.1 v7 v8 v9) 26) :: (bx b5 (c_api_Promise x4.2.1) 45) :: (bx b4 (c_api_Log x4.1 v4 v5 v6) 26) :: (bx b3 (c_api_Promise x3.2.1) 45) :: (bx b2 (c_api_Log x3.1 v1 v2 v3) 26) :: (bx b1 (c_api_Log a0 a0v3 a0v4 a0v5) 26) :: As) _ := S18
 clear S16 S17
 refine s_asv (v := vI x5.2) rfl <| nx <| s_ld (i := 5) (cs := (c_api_Log a0 a0v3 a0v4 a0v5)) S18 rfl rfl isAgg26 sizeOf26 rfl (fun h => by cases h) ?_
 obtain ⟨x6, q6, hm⟩ := obind_some hm
 refine s_call call19 (w_ref24_Merge (a0 := a0) S18 (a0h3.up l7) (a0h4.up l7) (a0h5.up l7) q6) rfl ?_
 rintro _ w17 ⟨m8, l8, v10, v11, v12, S19, rfl, h10, h11, h12⟩
 clear S18
 refine s_mvv (v := .tuple #[.agg (c_api_Log x6.1 v10 v11 v12).toArray, vI x6.2]) rfl <| s_ext (i := 0) rfl rfl <| s_ext (i := 1) rfl rfl <| s_alloc S19 zeroValue26 fun b7 w18 S20 => s_stL (i := 0) S20 rfl rfl rfl sizeOf26 (oneC rfl (oneC rfl (oneC rfl (oneC (SlR.one h10) (oneC (SlR.one h11) (oneC (SlR.one h12) oneN)))))) rfl fun w19 S21 => ?_
 replace S21 : St _ ((bx b7 (c_api_Log x6.1 v10 v11 v12) 26) :: (bx b6 (c_api_Log x5.1 v7 v8 v9) 26) :: (bx b5 (c_api_Promise x4.2.1) 45) :: (bx b4 (c_api_Log x4.1 v4 v5 v6) 26) :: (bx b3 (c_api_Promise x3.2.1) 45) :: (bx b2 (c_api_Log x3.1 v1 v2 v3) 26) :: (bx b1 (c_api_Log a0 a0v3 a0v4 a0v5) 26) :: As) _ := S21
 clear S19 S20
 refine s_asv (v := vI x6.2) rfl <| nx <| s_ld (i := 6) (cs := (c_api_Log a0 a0v3 a0v4 a0v5)) S21 rfl rfl isAgg26 sizeOf26 rfl (fun h => by cases h) ?_
 obtain ⟨x7, q7, hm⟩ := obind_some hm
 replace a0h3 := a0h3.up (mt l7 l8)
 replace a0h4 := a0h4.up (mt l7 l8)
 replace a0h5 := a0h5.up (mt l7 l8)
 refine s_call call20 (w_logd_Hide (a0 := a0) S21 a0h3 a0h4 a0h5 q7) rfl ?_
 rintro _ w20 ⟨m9, l9, v13, v14, v15, S22, rfl, h13, h14, h15⟩
 clear S21
 refine s_mvv (v := .tuple #[.agg (c_api_Log x7.1 v13 v14 v15).toArray, vI x7.2]) rfl <| s_ext (i := 0) rfl rfl <| s_ext (i := 1) rfl rfl <| s_alloc S22 zeroValue26 fun b8 w21 S23 => s_stL (i := 0) S23 rfl rfl rfl sizeOf26 (oneC rfl (oneC rfl (oneC rfl (oneC (SlR.one h13) (oneC (SlR.one h14) (oneC (SlR.one h15) oneN)))))) rfl fun w22 S24 => ?_
 replace S24 : St _ ((bx b8 (c_api_Log x7.1 v13 v14 v15) 26) :: (bx b7 (c_api_Log x6.1 v10 v11 v12) 26) :: (bx b6 (c_api_Log x5.1 v7 v8 v9) 26) :: (bx b5 (c_api_Promise x4.2.1) 45) :: (bx b4 (c_api_Log x4.1 v4 v5 v6) 26) :: (bx b3 (c_api_Promise x3.2.1) 45) :: (bx b2 (c_api_Log x3.1 v1 v2 v3) 26) :: (bx b1 (c_api_Log a0 a0v3 a0v4 a0v5) 26) :: As) _ := S24
 clear S22 S23
 refine s_asv (v := vI x7.2) rfl <| nx <| s_ld (i := 7) (cs := (c_api_Log a0 a0v3 a0v4 a0v5)) S24 rfl rfl isAgg26 sizeOf26 rfl (fun h => by cases h) ?_
 obtain ⟨x8, q8, hm⟩ := obind_some hm
 refine s_call call21 (w_ref24_Hide (a0 := a0) S24 (a0h3.up l9) (a0h4.up l9) (a0h5.up l9) q8) rfl ?_
 rintro _ w23 ⟨m10, l10, v16, v17, v18, S25, rfl, h16, h17, h18⟩
 clear S24
 refine s_mvv (v := .tuple #[.agg (c_api_Log x8.1 v16 v17 v18).toArray, vI x8.2]) rfl <| s_ext (i := 0) rfl rfl <| s_ext (i := 1) rfl rfl <| s_alloc S25 zeroValue26 fun b9 w24 S26 => s_stL (i := 0) S26 rfl rfl rfl sizeOf26 (oneC rfl (oneC rfl (oneC rfl (oneC (SlR.one h16) (oneC (SlR.one h17) (oneC (SlR.one h18) oneN)))))) rfl fun w25 S27 => ?_
 replace S27 : St _ ((bx b9 (c_api_Log x8.1 v16 v17 v18) 26) :: (bx b8 (c_api_Log x7.1 v13 v14 v15) 26) :: (bx b7 (c_api_Log x6.1 v10 v11 v12) 26) :: (bx b6 (c_api_Log x5.1 v7 v8 v9) 26) :: (bx b5 (c_api_Promise x4.2.1) 45) :: (bx b4 (c_api_Log x4.1 v4 v5 v6) 26) :: (bx b3 (c_api_Promise x3.2.1) 45) :: (bx b2 (c_api_Log x3.1 v1 v2 v3) 26) :: (bx b1 (c_api_Log a0 a0v3 a0v4 a0v5) 26) :: As) _ := S27
 clear S25 S26
 refine s_asv (v := vI x8.2) rfl <| nx <| s_ld (i := 7) (cs := (c_api_Log x3.1 v1 v2 v3)) S27 rfl rfl isAgg26 sizeOf26 rfl (fun h => by cases h) <| s_ld (i := 5) (cs := (c_api_Log x4.1 v4 v5 v6)) S27 rfl rfl isAgg26 sizeOf26 rfl (fun h => by cases h) ?_
 obtain ⟨x9, q9, hm⟩ := obind_some hm
 replace h1 := h1.up (mt l6 (mt l7 (mt l8 (mt l9 l10))))
 replace h2 := h2.up (mt l6 (mt l7 (mt l8 (mt l9 l10))))
 replace h3 := h3.up (mt l6 (mt l7 (mt l8 (mt l9 l10))))
 replace h4 := h4.up (mt l7 (mt l8 (mt l9 l10)))
 replace h5 := h5.up (mt l7 (mt l8 (mt l9 l10)))
 replace h6 := h6.up (mt l7 (mt l8 (mt l9 l10)))
 refine s_call call15 (w_ref24_Same (a0 := x3.1) (a1 := x4.1) S27 h1 h2 h3 h4 h5 h6 q9) rfl ?_
 rintro _ w26 ⟨m11, l11, S28, rfl⟩
 clear S27
 refine s_mvv (v := vb x9) rfl <| wpl_cut 4 [67, 68, 69, 70] (fun f' w' => w' = w26 ∧ AllAt f' [(70, vb (x9 && (eq_api_Promise x3.2.1 x4.2.1)))]) ?_ ?_
 · rcases bool_tf x9 with hb1 | hb1
   · exact wpl_yes (d := 66) rfl rfl (cb hb1) <| s_ld (i := 6) (cs := (c_api_Promise x3.2.1)) S28 rfl rfl isAgg45 sizeOf45 rfl (fun h => by cases h) <| wpl_yes (d := 66) rfl rfl (cb hb1) <| s_ld (i := 4) (cs := (c_api_Promise x4.2.1)) S28 rfl rfl isAgg45 sizeOf45 rfl (fun h => by cases h) <| wpl_yes (d := 66) rfl rfl (cb hb1) <| s_eqlA (cs := (c_api_Promise x3.2.1)) (ds := (c_api_Promise x4.2.1)) rfl rfl (eqv_api_Promise (p := x3.2.1) (q := x4.2.1)) rfl eqGuardType45 <| s_pickT (cb hb1) rfl <| wpl_nil (nrm ⟨outP, rfl, congrArg Value.bool (and_t hb1), trivial⟩)
   · exact wpl_no (d := 66) rfl rfl (cb hb1) <| wpl_no (d := 66) rfl rfl (cb hb1) <| wpl_no (d := 66) rfl rfl (cb hb1) <| s_pickF (cb hb1) rfl <| wpl_nil (nrm ⟨outP, rfl, congrArg Value.bool (and_f hb1), trivial⟩)
 rintro f1 w27 ho ⟨h19, ha⟩
 subst h19
 obtain ⟨u1, rfl⟩ := fr_of (N := 96) ho ha
 refine s_mvv (v := vb (x9 && (eq_api_Promise x3.2.1 x4.2.1))) rfl <| wpl_cut 4 [72, 73, 74, 75] (fun f' w' => w' = w27 ∧ AllAt f' [(75, vb ((x9 && (eq_api_Promise x3.2.1 x4.2.1)) && (x3.2.2 == x4.2.2)))]) ?_ ?_
 · rcases bool_tf (x9 && (eq_api_Promise x3.2.1 x4.2.1)) with hb2 | hb2
   · exact wpl_yes (d := 71) rfl rfl (cb hb2) <| s_mvv (v := vI x3.2.2) rfl <| wpl_yes (d := 71) rfl rfl (cb hb2) <| s_mvv (v := vI x4.2.2) rfl <| wpl_yes (d := 71) rfl rfl (cb hb2) <| s_eql (m := x3.2.2) (n := x4.2.2) rfl rfl <| s_pickT (cb hb2) rfl <| wpl_nil (nrm ⟨outP, rfl, congrArg Value.bool (and_t hb2), trivial⟩)
   · exact wpl_no (d := 71) rfl rfl (cb hb2) <| wpl_no (d := 71) rfl rfl (cb hb2) <| wpl_no (d := 71) rfl rfl (cb hb2) <| s_pickF (cb hb2) rfl <| wpl_nil (nrm ⟨outP, rfl, congrArg Value.bool (and_f hb2), trivial⟩)
 rintro f2 w28 ho ⟨h20, ha⟩
 subst h20
 obtain ⟨u2, rfl⟩ := fr_of (N := 96) ho ha
 refine s_mvv (v := vb ((x9 && (eq_api_Promise x3.2.1 x4.2.1)) && (x3.2.2 == x4.2.2))) rfl ?_
 obtain ⟨x11, q11, hm⟩ := obind_some hm
 have L1 := Mem.rfl' m11
 refine wpl_cut 4 [77, 78, 79, 80] (fun f' w' => ∃ (M1 : Mem), m11 ≤ M1 ∧ St M1 ((bx b9 (c_api_Log x8.1 v16 v17 v18) 26) :: (bx b8 (c_api_Log x7.1 v13 v14 v15) 26) :: (bx b7 (c_api_Log x6.1 v10 v11 v12) 26) :: (bx b6 (c_api_Log x5.1 v7 v8 v9) 26) :: (bx b5 (c_api_Promise x4.2.1) 45) :: (bx b4 (c_api_Log x4.1 v4 v5 v6) 26) :: (bx b3 (c_api_Promise x3.2.1) 45) :: (bx b2 (c_api_Log x3.1 v1 v2 v3) 26) :: (bx b1 (c_api_Log a0 a0v3 a0v4 a0v5) 26) :: As) w' ∧ AllAt f' [(80, vb x11)]) ?_ ?_
 · rcases bool_tf ((x9 && (eq_api_Promise x3.2.1 x4.2.1)) && (x3.2.2 == x4.2.2)) with hb3 | hb3
   · replace q11 := ifT hb3 q11
     refine wpl_yes (d := 76) rfl rfl (cb hb3) <| s_ld (i := 3) (cs := (c_api_Log x5.1 v7 v8 v9)) S28 rfl rfl isAgg26 sizeOf26 rfl (fun h => by cases h) <| wpl_yes (d := 76) rfl rfl (cb hb3) <| s_ld (i := 2) (cs := (c_api_Log x6.1 v10 v11 v12)) S28 rfl rfl isAgg26 sizeOf26 rfl (fun h => by cases h) <| wpl_yes (d := 76) rfl rfl (cb hb3) ?_
     obtain ⟨x12, q12, q11⟩ := obind_some q11
     replace h7 := h7.up (mt l8 (mt l9 (mt l10 l11)))
     replace h8 := h8.up (mt l8 (mt l9 (mt l10 l11)))
     replace h9 := h9.up (mt l8 (mt l9 (mt l10 l11)))
     replace h10 := h10.up (mt l9 (mt l10 l11))
     replace h11 := h11.up (mt l9 (mt l10 l11))
     replace h12 := h12.up (mt l9 (mt l10 l11))
     refine s_call call15 (w_ref24_Same (a0 := x5.1) (a1 := x6.1) S28 h7 h8 h9 h10 h11 h12 q12) rfl ?_
     rintro _ w30 ⟨m13, l13, S30, rfl⟩
     clear S28
     refine s_pickT (cb hb3) rfl <| wpl_nil (nrm ?_)
     have e0 := Option.some.inj q11
     subst e0
     replace L1 := Mem.tr L1 l13
     exact ⟨outP, m13, L1, S30, ⟨rfl, trivial⟩⟩
   replace q11 := ifF hb3 q11
   refine wpl_no (d := 76) rfl rfl (cb hb3) <| wpl_no (d := 76) rfl rfl (cb hb3) <| wpl_no (d := 76) rfl rfl (cb hb3) <| s_pickF (cb hb3) rfl <| wpl_nil (nrm ?_)
   have e0 := Option.some.inj q11
   subst e0
   exact ⟨outP, m11, L1, S28, ⟨rfl, trivial⟩⟩
 rintro f3 w31 ho ⟨m14, l14, S31, ha⟩
 obtain ⟨u3, rfl⟩ := fr_of (N := 96) ho ha
 clear S28
 refine s_mvv (v := vb x11) rfl <| wpl_cut 4 [82, 83, 84, 85] (fun f' w' => w' = w31 ∧ AllAt f' [(85, vb (x11 && (x5.2 == x6.2)))]) ?_ ?_
 · rcases bool_tf x11 with hb4 | hb4
   · exact wpl_yes (d := 81) rfl rfl (cb hb4) <| s_mvv (v := vI x5.2) rfl <| wpl_yes (d := 81) rfl rfl (cb hb4) <| s_mvv (v := vI x6.2) rfl <| wpl_yes (d := 81) rfl rfl (cb hb4) <| s_eql (m := x5.2) (n := x6.2) rfl rfl <| s_pickT (cb hb4) rfl <| wpl_nil (nrm ⟨outP, rfl, congrArg Value.bool (and_t hb4), trivial⟩)
   · exact wpl_no (d := 81) rfl rfl (cb hb4) <| wpl_no (d := 81) rfl rfl (cb hb4) <| wpl_no (d := 81) rfl rfl (cb hb4) <| s_pickF (cb hb4) rfl <| wpl_nil (nrm ⟨outP, rfl, congrArg Value.bool (and_f hb4), trivial⟩)
 rintro f4 w32 ho ⟨h21, ha⟩
 subst h21
 obtain ⟨u4, rfl⟩ := fr_of (N := 96) ho ha
 refine s_mvv (v := vb (x11 && (x5.2 == x6.2))) rfl ?_
 obtain ⟨x14, q14, hm⟩ := obind_some hm
 have L2 := Mem.rfl' m14
 refine wpl_cut 4 [87, 88, 89, 90] (fun f' w' => ∃ (M2 : Mem), m14 ≤ M2 ∧ St M2 ((bx b9 (c_api_Log x8.1 v16 v17 v18) 26) :: (bx b8 (c_api_Log x7.1 v13 v14 v15) 26) :: (bx b7 (c_api_Log x6.1 v10 v11 v12) 26) :: (bx b6 (c_api_Log x5.1 v7 v8 v9) 26) :: (bx b5 (c_api_Promise x4.2.1) 45) :: (bx b4 (c_api_Log x4.1 v4 v5 v6) 26) :: (bx b3 (c_api_Promise x3.2.1) 45) :: (bx b2 (c_api_Log x3.1 v1 v2 v3) 26) :: (bx b1 (c_api_Log a0 a0v3 a0v4 a0v5) 26) :: As) w' ∧ AllAt f' [(90, vb x14)]) ?_ ?_
 · rcases bool_tf (x11 && (x5.2 == x6.2)) with hb5 | hb5
   · replace q14 := ifT hb5 q14
     refine wpl_yes (d := 86) rfl rfl (cb hb5) <| s_ld (i := 1) (cs := (c_api_Log x7.1 v13 v14 v15)) S31 rfl rfl isAgg26 sizeOf26 rfl (fun h => by cases h) <| wpl_yes (d := 86) rfl rfl (cb hb5) <| s_ld (i := 0) (cs := (c_api_Log x8.1 v16 v17 v18)) S31 rfl rfl isAgg26 sizeOf26 rfl (fun h => by cases h) <| wpl_yes (d := 86) rfl rfl (cb hb5) ?_
     obtain ⟨x15, q15, q14⟩ := obind_some q14
     replace h13 := h13.up (mt l10 (mt l11 l14))
     replace h14 := h14.up (mt l10 (mt l11 l14))
     replace h15 := h15.up (mt l10 (mt l11 l14))
     replace h16 := h16.up (mt l11 l14)
     replace h17 := h17.up (mt l11 l14)
     replace h18 := h18.up (mt l11 l14)
     refine s_call call15 (w_ref24_Same (a0 := x7.1) (a1 := x8.1) S31 h13 h14 h15 h16 h17 h18 q15) rfl ?_
     rintro _ w34 ⟨m16, l16, S33, rfl⟩
     clear S31
     refine s_pickT (cb hb5) rfl <| wpl_nil (nrm ?_)
     have e0 := Option.some.inj q14
     subst e0
     replace L2 := Mem.tr L2 l16
     exact ⟨outP, m16, L2, S33, ⟨rfl, trivial⟩⟩
   replace q14 := ifF hb5 q14
   refine wpl_no (d := 86) rfl rfl (cb hb5) <| wpl_no (d := 86) rfl rfl (cb hb5) <| wpl_no (d := 86) rfl rfl (cb hb5) <| s_pickF (cb hb5) rfl <| wpl_nil (nrm ?_)
   have e0 := Option.some.inj q14
   subst e0
   exact ⟨outP, m14, L2, S31, ⟨rfl, trivial⟩⟩
 rintro f5 w35 ho ⟨m17, l17, S34, ha⟩
 obtain ⟨u5, rfl⟩ := fr_of (N := 96) ho ha
 clear S31
 refine s_mvv (v := vb x14) rfl <| wpl_cut 4 [92, 93, 94, 95] (fun f' w' => w' = w35 ∧ AllAt f' [(95, vb (x14 && (x7.2 == x8.2)))]) ?_ ?_
 · rcases bool_tf x14 with hb6 | hb6
   · exact wpl_yes (d := 91) rfl rfl (cb hb6) <| s_mvv (v := vI x7.2) rfl <| wpl_yes (d := 91) rfl rfl (cb hb6) <| s_mvv (v := vI x8.2) rfl <| wpl_yes (d := 91) rfl rfl (cb hb6) <| s_eql (m := x7.2) (n := x8.2) rfl rfl <| s_pickT (cb hb6) rfl <| wpl_nil (nrm ⟨outP, rfl, congrArg Value.bool (and_t hb6), trivial⟩)
   · exact wpl_no (d := 91) rfl rfl (cb hb6) <| wpl_no (d := 91) rfl rfl (cb hb6) <| wpl_no (d := 91) rfl rfl (cb hb6) <| s_pickF (cb hb6) rfl <| wpl_nil (nrm ⟨outP, rfl, congrArg Value.bool (and_f hb6), trivial⟩)
 rintro f6 w36 ho ⟨h22, ha⟩
 subst h22
 obtain ⟨u6, rfl⟩ := fr_of (N := 96) ho ha
 refine s_asv (v := vb (x14 && (x7.2 == x8.2))) rfl <| wpl_nil <| nrm <| wpc_ret <| outRw fun we hpd => ?_
 replace S34 := St.pd S34 hpd
 obtain ⟨m18, l18, S35⟩ := St.drop S34 0
 clear S34
 replace S35 : St _ ((bx b8 (c_api_Log x7.1 v13 v14 v15) 26) :: (bx b7 (c_api_Log x6.1 v10 v11 v12) 26) :: (bx b6 (c_api_Log x5.1 v7 v8 v9) 26) :: (bx b5 (c_api_Promise x4.2.1) 45) :: (bx b4 (c_api_Log x4.1 v4 v5 v6) 26) :: (bx b3 (c_api_Promise x3.2.1) 45) :: (bx b2 (c_api_Log x3.1 v1 v2 v3) 26) :: (bx b1 (c_api_Log a0 a0v3 a0v4 a0v5) 26) :: As) _ := S35
 obtain ⟨m19, l19, S36⟩ := St.drop S35 0
 clear S35
 replace S36 : St _ ((bx b7 (c_api_Log x6.1 v10 v11 v12) 26) :: (bx b6 (c_api_Log x5.1 v7 v8 v9) 26) :: (bx b5 (c_api_Promise x4.2.1) 45) :: (bx b4 (c_api_Log x4.1 v4 v5 v6) 26) :: (bx b3 (c_api_Promise x3.2.1) 45) :: (bx b2 (c_api_Log x3.1 v1 v2 v3) 26) :: (bx b1 (c_api_Log a0 a0v3 a0v4 a0v5) 26) :: As) _ := S36
 obtain ⟨m20, l20, S37⟩ := St.drop S36 0
 clear S36
 replace S37 : St _ ((bx b6 (c_api_Log x5.1 v7 v8 v9) 26) :: (bx b5 (c_api_Promise x4.2.1) 45) :: (bx b4 (c_api_Log x4.1 v4 v5 v6) 26) :: (bx b3 (c_api_Promise x3.2.1) 45) :: (bx b2 (c_api_Log x3.1 v1 v2 v3) 26) :: (bx b1 (c_api_Log a0 a0v3 a0v4 a0v5) 26) :: As) _ := S37
 obtain ⟨m21, l21, S38⟩ := St.drop S37 0
 clear S37
 replace S38 : St _ ((bx b5 (c_api_Promise x4.2.1) 45) :: (bx b4 (c_api_Log x4.1 v4 v5 v6) 26) :: (bx b3 (c_api_Promise x3.2.1) 45) :: (bx b2 (c_api_Log x3.1 v1 v2 v3) 26) :: (bx b1 (c_api_Log a0 a0v3 a0v4 a0v5) 26) :: As) _ := S38
 obtain ⟨m22, l22, S39⟩ := St.drop S38 0
 clear S38
 replace S39 : St _ ((bx b4 (c_api_Log x4.1 v4 v5 v6) 26) :: (bx b3 (c_api_Promise x3.2.1) 45) :: (bx b2 (c_api_Log x3.1 v1 v2 v3) 26) :: (bx b1 (c_api_Log a0 a0v3 a0v4 a0v5) 26) :: As) _ := S39
 obtain ⟨m23, l23, S40⟩ := St.drop S39 0
 clear S39
 replace S40 : St _ ((bx b3 (c_api_Promise x3.2.1) 45) :: (bx b2 (c_api_Log x3.1 v1 v2 v3) 26) :: (bx b1 (c_api_Log a0 a0v3 a0v4 a0v5) 26) :: As) _ := S40
 obtain ⟨m24, l24, S41⟩ := St.drop S40 0
 clear S40
 replace S41 : St _ ((bx b2 (c_api_Log x3.1 v1 v2 v3) 26) :: (bx b1 (c_api_Log a0 a0v3 a0v4 a0v5) 26) :: As) _ := S41
 obtain ⟨m25, l25, S42⟩ := St.drop S41 0
 clear S41
 replace S42 : St _ ((bx b1 (c_api_Log a0 a0v3 a0v4 a0v5) 26) :: As) _ := S42
 obtain ⟨m26, l26, S43⟩ := St.drop S42 0
 clear S42
 replace S43 : St _ (As) _ := S43
 have e0 := Option.some.inj hm
 subst e0
 replace L0 := Mem.tr L0 (mt l1 (mt l3 (mt l5 (mt l6 (mt l7 (mt l8 (mt l9 (mt l10 (mt l11 (mt l14 (mt l17 (mt l18 (mt l19 (mt l20 (mt l21 (mt l22 (mt l23 (mt l24 (mt l25 l26)))))))))))))))))))
 exact outR [_] rfl ⟨rfl, trivial⟩ ⟨_, L0, S43, rfl⟩

end Go.Proofs.YtemiampgjgenhaaGreat
