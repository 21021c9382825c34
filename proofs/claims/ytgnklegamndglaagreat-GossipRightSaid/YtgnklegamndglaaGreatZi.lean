/- The walks of some functions, by the executor, written by program. Conditions: none. -/
import Derived.Test.YtgnklegamndglaaGreatZg
import Derived.Test.YtgnklegamndglaaGreatZh
set_option linter.unusedSimpArgs false
set_option linter.unusedVariables false
set_option maxHeartbeats 20000000
set_option maxRecDepth 100000
namespace Go.Proofs.YtgnklegamndglaaGreat
open Go Go.Gw Go.Ax Tryz
def m_gossip_Add (a0 : g_api_Pool) (a1 : g_api_Head) (a2 : List g_api_Key) : Option (g_api_Pool × Int) :=
  obind (m_gossip_Check a0 a2) fun x1 =>
  if (x1 != 0) = true then
    some ((⟨[]⟩ : g_api_Pool), x1)
  else
  obind (m_gossip_right a1 a2) fun x2 =>
  if (!x2) = true then
    some ((⟨[]⟩ : g_api_Pool), 40)
  else
  obind (m_slices_BinarySearchFunc_api_Head_api_Head_api_Head_39 a0.L a1) fun x3 =>
  if x3.2 = true then
    some (a0, 0)
  else
  bnd ((decide ((a0.L.length : Int) ≥ 1024))) fun x4 =>
  if x4 = true then
    some ((⟨[]⟩ : g_api_Pool), 2)
  else
  obind (m_slices_Clone_api_Head_api_Head a0.L) fun x5 =>
  obind (m_slices_Insert_api_Head_api_Head x5 x3.1 ([a1] : List g_api_Head)) fun x6 =>
  some ((⟨x6⟩ : g_api_Pool), 0)
theorem w_gossip_Add {m : Mem} {As : List Ow} {w : World} {a0 : g_api_Pool} {a0v0 : Value} {a1 : g_api_Head} {a2 : List g_api_Key} {a2v0 : Value} {r : g_api_Pool × Int} (S : St m (As) w) (a0h0 : SlR m a0v0 a0.L) (a2h0 : SlR m a2v0 a2) (hm : m_gossip_Add a0 a1 a2 = some r) :
    CallsR Tryz.prog 13 #[.agg #[a0v0], .agg (c_api_Head a1).toArray, a2v0] w fun v w' => ∃ (M : Mem), m ≤ M ∧ ∃ (rv0_0 : Value), St M (As) w' ∧ v = .tuple #[.agg #[rv0_0], vI r.2] ∧ SlR M rv0_0 r.1.L := by
 unfold m_gossip_Add at hm
 have L0 := Mem.rfl' m
 refine callsR (args := [.agg #[a0v0], .agg (c_api_Head a1).toArray, a2v0]) func13 rfl ntmps13 (nb rfl) <| ws <| s_box S rfl fun b1 w1 S1 => ?_
 replace S1 : St _ ((bx b1 [a0v0] 24) :: As) _ := S1
 clear S
 refine s_box S1 rfl fun b2 w2 S2 => s_alloc S2 zeroValue24 fun b3 w3 S3 => ?_
 replace S3 : St _ ((bx b3 [.slice none 0 0] 24) :: (bx b2 (c_api_Head a1) 31) :: (bx b1 [a0v0] 24) :: As) _ := S3
 clear S1 S2
 refine s_asv (v := vI 0) rfl <| wpl_nil <| nrm <| wpc_seq <| ws <| s_ld (i := 2) (cs := [a0v0]) S3 rfl rfl isAgg24 sizeOf24 rfl (fun h => by cases h) <| s_mvv (v := a2v0) rfl ?_
 obtain ⟨x1, q1, hm⟩ := obind_some hm
 refine s_call call16 (v_gossip_Check (a0 := a0) (a1 := a2) S3 a0h0 a2h0 q1) rfl ?_
 rintro _ w4 ⟨m1, l1, S4, rfl⟩
 clear S3
 refine s_asv (v := vI x1) rfl <| nx <| s_mvv (v := vI x1) rfl <| s_neq (m := x1) (n := 0) rfl rfl <| wpl_nil <| nrm <| wpc_if (t := (x1 != 0)) rfl (fun hc1 => ?_) (fun hc1 => ?_)
 · replace hm := ifT hc1 hm
   refine ws <| s_build (parts := []) (ps := []) (cs := [.slice none 0 0]) zeroValue24 (BuildPl.str (ss := [1]) underlying24 ⟨sizeOf22, trivial⟩) rfl trivial rfl <| s_mvv (v := vI x1) rfl <| s_stL (i := 0) S4 rfl rfl rfl sizeOf24 (oneC rfl oneN) rfl fun w5 S5 => ?_
   replace S5 : St _ ((bx b3 [.slice none 0 0] 24) :: (bx b2 (c_api_Head a1) 31) :: (bx b1 [a0v0] 24) :: As) _ := S5
   clear S4
   refine s_asv (v := vI x1) rfl <| wpl_nil <| nrm <| wpc_ret <| thR <| outRw fun we hpd => ?_
   replace S5 := St.pd S5 hpd
   have SR := S5
   obtain ⟨m2, l2, S6⟩ := St.drop S5 0
   replace S6 : St _ ((bx b2 (c_api_Head a1) 31) :: (bx b1 [a0v0] 24) :: As) _ := S6
   obtain ⟨m3, l3, S7⟩ := St.drop S6 0
   clear S6
   replace S7 : St _ ((bx b1 [a0v0] 24) :: As) _ := S7
   obtain ⟨m4, l4, S8⟩ := St.drop S7 0
   clear S7
   replace S8 : St _ (As) _ := S8
   have e0 := Option.some.inj hm
   subst e0
   replace L0 := Mem.tr L0 (mt l1 (mt l2 (mt l3 l4)))
   exact outR [_, _] rfl ⟨res_box (i := 0) (off := 0) (cs := [.slice none 0 0]) SR rfl rfl isAgg24 sizeOf24 rfl (fun h => by cases h), rfl, trivial⟩ ⟨_, L0, _, S8, rfl, SlR.nil⟩
 replace hm := ifF hc1 hm
 refine wpc_skip <| nrm <| wpc_seq <| ws <| s_ld (i := 1) (cs := (c_api_Head a1)) S4 rfl rfl isAgg31 sizeOf31 rfl (fun h => by cases h) <| s_mvv (v := a2v0) rfl ?_
 obtain ⟨x2, q2, hm⟩ := obind_some hm
 refine s_call call37 (v_gossip_right (a0 := a1) (a1 := a2) S4 (a2h0.up l1) q2) rfl ?_
 rintro _ w6 ⟨m5, l5, S9, rfl⟩
 clear S4
 refine s_not rfl <| wpl_nil <| nrm <| wpc_if (t := (!x2)) rfl (fun hc2 => ?_) (fun hc2 => ?_)
 · replace hm := ifT hc2 hm
   refine ws <| s_build (parts := []) (ps := []) (cs := [.slice none 0 0]) zeroValue24 (BuildPl.str (ss := [1]) underlying24 ⟨sizeOf22, trivial⟩) rfl trivial rfl <| s_stL (i := 0) S9 rfl rfl rfl sizeOf24 (oneC rfl oneN) rfl fun w7 S10 => ?_
   replace S10 : St _ ((bx b3 [.slice none 0 0] 24) :: (bx b2 (c_api_Head a1) 31) :: (bx b1 [a0v0] 24) :: As) _ := S10
   clear S9
   refine s_asv (v := vI 40) rfl <| wpl_nil <| nrm <| wpc_ret <| thR <| outRw fun we hpd => ?_
   replace S10 := St.pd S10 hpd
   have SR := S10
   obtain ⟨m6, l6, S11⟩ := St.drop S10 0
   replace S11 : St _ ((bx b2 (c_api_Head a1) 31) :: (bx b1 [a0v0] 24) :: As) _ := S11
   obtain ⟨m7, l7, S12⟩ := St.drop S11 0
   clear S11
   replace S12 : St _ ((bx b1 [a0v0] 24) :: As) _ := S12
   obtain ⟨m8, l8, S13⟩ := St.drop S12 0
   clear S12
   replace S13 : St _ (As) _ := S13
   have e0 := Option.some.inj hm
   subst e0
   replace L0 := Mem.tr L0 (mt l1 (mt l5 (mt l6 (mt l7 l8))))
   exact outR [_, _] rfl ⟨res_box (i := 0) (off := 0) (cs := [.slice none 0 0]) SR rfl rfl isAgg24 sizeOf24 rfl (fun h => by cases h), rfl, trivial⟩ ⟨_, L0, _, S13, rfl, SlR.nil⟩
 replace hm := ifF hc2 hm
 refine wpc_skip <| nrm <| ws <| s_fld (n := 0) rfl underlying24 rfl rfl sizeOf22 <| s_ld (i := 2) (cs := [a0v0]) S9 rfl rfl isAgg22 sizeOf22 rfl (fun _ => rfl) <| s_ld (i := 1) (cs := (c_api_Head a1)) S9 rfl rfl isAgg31 sizeOf31 rfl (fun h => by cases h) ?_
 obtain ⟨x3, q3, hm⟩ := obind_some hm
 replace a0h0 := a0h0.up (mt l1 l5)
 refine s_call call38 (w_slices_BinarySearchFunc_api_Head_api_Head_api_Head_39 (a0 := a0.L) (a1 := a1) S9 a0h0 q3) rfl ?_
 rintro _ w8 ⟨m9, l9, S14, rfl⟩
 clear S9
 refine s_mvv (v := .tuple #[vI x3.1, vb x3.2]) rfl <| s_ext (i := 0) rfl rfl <| s_ext (i := 1) rfl rfl <| s_asv (v := vI x3.1) rfl <| s_asv (v := vb x3.2) rfl <| wpl_nil <| nrm <| wpc_seq <| wpc_block <| ws <| s_mvv (v := vb x3.2) rfl <| s_asv (v := vb x3.2) rfl <| wpl_nil <| nrm <| wpc_if (t := x3.2) rfl (fun hc3 => ?_) (fun hc3 => ?_)
 · replace hm := ifT hc3 hm
   refine ws <| s_ld (i := 2) (cs := [a0v0]) S14 rfl rfl isAgg24 sizeOf24 rfl (fun h => by cases h) <| s_stL (i := 0) S14 rfl rfl rfl sizeOf24 (oneC (SlR.one (a0h0.up l9)) oneN) rfl fun w9 S15 => ?_
   replace S15 : St _ ((bx b3 [a0v0] 24) :: (bx b2 (c_api_Head a1) 31) :: (bx b1 [a0v0] 24) :: As) _ := S15
   clear S14
   refine s_asv (v := vI 0) rfl <| wpl_nil <| nrm <| wpc_ret <| blR <| thR <| outRw fun we hpd => ?_
   replace S15 := St.pd S15 hpd
   have SR := S15
   obtain ⟨m10, l10, S16⟩ := St.drop S15 0
   replace S16 : St _ ((bx b2 (c_api_Head a1) 31) :: (bx b1 [a0v0] 24) :: As) _ := S16
   obtain ⟨m11, l11, S17⟩ := St.drop S16 0
   clear S16
   replace S17 : St _ ((bx b1 [a0v0] 24) :: As) _ := S17
   obtain ⟨m12, l12, S18⟩ := St.drop S17 0
   clear S17
   replace S18 : St _ (As) _ := S18
   have e0 := Option.some.inj hm
   subst e0
   replace L0 := Mem.tr L0 (mt l1 (mt l5 (mt l9 (mt l10 (mt l11 l12)))))
   replace a0h0 := a0h0.up (mt l9 (mt l10 (mt l11 l12)))
   exact outR [_, _] rfl ⟨res_box (i := 0) (off := 0) (cs := [a0v0]) SR rfl rfl isAgg24 sizeOf24 rfl (fun h => by cases h), rfl, trivial⟩ ⟨_, L0, _, S18, rfl, a0h0⟩
 replace hm := ifF hc3 hm
 refine ws <| s_fld (n := 0) rfl underlying24 rfl rfl sizeOf22 <| s_ld (i := 2) (cs := [a0v0]) S14 rfl rfl isAgg22 sizeOf22 rfl (fun _ => rfl) <| s_lenR (xs := a0.L) rfl (a0h0.up l9) underlying22 <| s_geq (m := (a0.L.length : Int)) (n := 1024) rfl rfl ?_
 obtain ⟨x4, q4, hm⟩ := bnd_eq hm
 refine s_asv (v := vb x4) (congrArg (fun z => vb z) q4.symm) <| wpl_nil <| nrm <| wpc_if (t := x4) rfl (fun hc4 => ?_) (fun hc4 => ?_)
 · replace hm := ifT hc4 hm
   refine ws <| s_build (parts := []) (ps := []) (cs := [.slice none 0 0]) zeroValue24 (BuildPl.str (ss := [1]) underlying24 ⟨sizeOf22, trivial⟩) rfl trivial rfl <| s_stL (i := 0) S14 rfl rfl rfl sizeOf24 (oneC rfl oneN) rfl fun w10 S19 => ?_
   replace S19 : St _ ((bx b3 [.slice none 0 0] 24) :: (bx b2 (c_api_Head a1) 31) :: (bx b1 [a0v0] 24) :: As) _ := S19
   clear S14
   refine s_asv (v := vI 2) rfl <| wpl_nil <| nrm <| wpc_ret <| blR <| thR <| outRw fun we hpd => ?_
   replace S19 := St.pd S19 hpd
   have SR := S19
   obtain ⟨m13, l13, S20⟩ := St.drop S19 0
   replace S20 : St _ ((bx b2 (c_api_Head a1) 31) :: (bx b1 [a0v0] 24) :: As) _ := S20
   obtain ⟨m14, l14, S21⟩ := St.drop S20 0
   clear S20
   replace S21 : St _ ((bx b1 [a0v0] 24) :: As) _ := S21
   obtain ⟨m15, l15, S22⟩ := St.drop S21 0
   clear S21
   replace S22 : St _ (As) _ := S22
   have e0 := Option.some.inj hm
   subst e0
   replace L0 := Mem.tr L0 (mt l1 (mt l5 (mt l9 (mt l13 (mt l14 l15)))))
   exact outR [_, _] rfl ⟨res_box (i := 0) (off := 0) (cs := [.slice none 0 0]) SR rfl rfl isAgg24 sizeOf24 rfl (fun h => by cases h), rfl, trivial⟩ ⟨_, L0, _, S22, rfl, SlR.nil⟩
 replace hm := ifF hc4 hm
 refine wpc_skip <| nrmB <| nrm <| wpc_seq ?_
 obtain ⟨x5, q5, hm⟩ := obind_some hm
 have HM : MonoAll [(39, fv (pt b1 0)), (40, fv a0v0), (41, fun _ _ => True), (42, fv (vI x3.1)), (43, fv (.agg (c_api_Head a1).toArray)), (44, fun (M : Mem) (v : Value) => ∃ (v2 : Value), v = v2 ∧ SlR M v2 ([a1] : List g_api_Head))] := ⟨mv, mv, (fun _ _ _ _ h => h), mv, mv, (fun _ _ _ l ⟨v2, e, h2⟩ => ⟨v2, e, h2.up l⟩), trivial⟩
 refine wpc_flowG HM 6 mixed rfl rfl rfl (rg 39 6) (fun L f M w => ∃ (X1 : List Ow), ((L 2 = false → X1 = []) ∧ (L 2 = true → (RowS M X1 7 (f 41) x5))) ∧ St M ((bx b3 [.slice none 0 0] 24) :: (bx b2 (c_api_Head a1) 31) :: (bx b1 [a0v0] 24) :: (X1 ++ As)) w) (⟨[], ⟨fun _ => rfl, fun hx => ff hx⟩, St.drew S14 _⟩) ?_ ?_
 · refine ⟨?_, ?_, ?_, ?_, ?_, ?_, trivial⟩
   · exact flp HM rfl [] (fun _ _ => trivial) (fun _ _ q => s_fld (n := 0) rfl underlying24 rfl rfl sizeOf22 q) rfl
   · exact flp HM rfl [(39, _)] (fun K _ => ⟨K 0 rfl, trivial⟩) (fun _ ⟨_, _, S24⟩ q => s_ld (i := 2) (cs := [a0v0]) S24 rfl rfl isAgg22 sizeOf22 rfl (fun _ => rfl) q) rfl
   · intro L f3 w13 hL hd hc ⟨m18, L5, ⟨X1, C3, S25⟩, K, hO⟩
     have d2 : L 2 = false := hL
     obtain ⟨u3, rfl⟩ := fr_of (N := 47) (L := [(40, _)]) hO ⟨K 1 (dep hd rfl), trivial⟩
     obtain rfl := C3.1 d2
     replace S25 : St _ ((bx b3 [.slice none 0 0] 24) :: (bx b2 (c_api_Head a1) 31) :: (bx b1 [a0v0] 24) :: As) _ := S25
     have L6 := Mem.rfl' m18
     replace a0h0 := a0h0.up (mt l9 L5)
     refine s_call call41 (w_slices_Clone_api_Head_api_Head (a0 := a0.L) S25 a0h0 q5) rfl ?_
     rintro v1 w14 ⟨m19, l16, _, c1, S26, rfl, h1⟩
     clear S25
     refine wpn ?_
     replace L6 := Mem.tr L6 l16
     refine ⟨m19, Mem.tr L5 L6, ⟨[row 7 v1 c1 x5.length], ⟨fun hx => tf rfl hx, fun _ => ⟨_, rfl, h1⟩⟩, ?_⟩, facts_step HM rfl K L6 rfl rfl trivial, outP⟩
     have S39 : St _ ((bx b3 [.slice none 0 0] 24) :: (bx b2 (c_api_Head a1) 31) :: (bx b1 [a0v0] 24) :: (row 7 v1 c1 x5.length) :: As) _ := St.perm S26 (List.Perm.trans (List.Perm.swap _ _ _) (List.Perm.trans (List.Perm.cons _ (List.Perm.swap _ _ _)) (List.Perm.cons _ (List.Perm.cons _ (List.Perm.swap _ _ _)))))
     exact S39
   · exact flp HM rfl [] (fun _ _ => trivial) (fun _ _ q => s_mvv (v := vI x3.1) rfl q) rfl
   · exact flp HM rfl [] (fun _ _ => trivial) (fun _ ⟨_, _, S28⟩ q => s_ld (i := 1) (cs := (c_api_Head a1)) S28 rfl rfl isAgg31 sizeOf31 rfl (fun h => by cases h) q) rfl
   · intro L f6 w17 hL hd hc ⟨m22, L11, ⟨X1, C6, S29⟩, K, hO⟩
     obtain ⟨u6, rfl⟩ := fr_of (N := 47) (L := [(43, _)]) hO ⟨K 4 (dep hd rfl), trivial⟩
     have L12 := Mem.rfl' m22
     refine s_litC (parts := [.tmp 43]) (vs := [.agg (c_api_Head a1).toArray]) (cls := [(c_api_Head a1)]) (xs := ([a1] : List g_api_Head)) (n := 1) S29 underlying22 sizeOf31 zeroValue31 rfl ⟨rfl, trivial⟩ (RepL.cons (c := (c_api_Head a1)) (x := a1) mk_g_api_Head RepL.nil) rfl rfl rfl (by decide) (by decide) fun v2 m23 w18 l17 S30 h2 => ?_
     replace C6 := C6.imp id (fun p a => RowS.up l17 (p a))
     clear S29
     refine wpn ?_
     replace L12 := Mem.tr L12 l17
     exact ⟨m23, Mem.tr L11 L12, ⟨X1, C6, S30⟩, facts_step HM rfl K L12 rfl rfl ⟨v2, rfl, h2⟩, outP⟩
 intro L f7 w19 hall ⟨m24, L13, ⟨X1, C7, S31⟩, K, hO⟩
 obtain ⟨v3, e4⟩ : ∃ x, f7 41 = x := ⟨_, rfl⟩
 have d3 : L 3 = true := hall 3 (by decide)
 have d5 : L 5 = true := hall 5 (by decide)
 obtain ⟨v4, e6, h3⟩ := K 5 d5
 have d2 : L 2 = true := hall 2 (by decide)
 obtain ⟨u7, rfl⟩ := fr_of (N := 47) (L := [(41, _), (42, _), (44, _)]) hO ⟨e4, K 3 d3, e6, trivial⟩
 replace S31 : St _ ((bx b3 [.slice none 0 0] 24) :: (bx b2 (c_api_Head a1) 31) :: (bx b1 [a0v0] 24) :: (X1 ++ As)) _ := S31
 obtain ⟨c2, rfl, h4⟩ := C7.2 d2
 replace h4 : RepL _ c2 x5 := h4
 replace S31 : St _ ((bx b3 [.slice none 0 0] 24) :: (bx b2 (c_api_Head a1) 31) :: (bx b1 [a0v0] 24) :: (row 7 v3 c2 x5.length) :: As) _ := S31
 clear S14
 have S32 : St _ ((row 7 v3 c2 x5.length) :: (bx b3 [.slice none 0 0] 24) :: (bx b2 (c_api_Head a1) 31) :: (bx b1 [a0v0] 24) :: As) _ := St.perm S31 (List.Perm.trans (List.Perm.cons _ (List.Perm.cons _ (List.Perm.swap _ _ _))) (List.Perm.trans (List.Perm.cons _ (List.Perm.swap _ _ _)) (List.Perm.swap _ _ _)))
 clear S31
 obtain ⟨x6, q6, hm⟩ := obind_some hm
 refine s_call call40 (w_slices_Insert_api_Head_api_Head (a0 := x5) (a1 := x3.1) (a2 := ([a1] : List g_api_Head)) S32 h4 h3 q6) rfl ?_
 rintro v5 w20 ⟨m25, l18, _, c3, S33, rfl, h5⟩
 clear S32
 obtain ⟨m26, l19, h6, S34⟩ := St.rowKeepT (i := 0) S33 rfl h5 rfl
 clear S33
 refine s_build (parts := [(0, .tmp 45)]) (ps := [(0, v5, [v5])]) (cs := [v5]) zeroValue24 (BuildPl.str (ss := [1]) underlying24 ⟨sizeOf22, trivial⟩) rfl ⟨SlR.cells h6, trivial⟩ rfl <| s_stL (i := 0) S34 rfl rfl rfl sizeOf24 (oneC (SlR.one h6) oneN) rfl fun w21 S35 => ?_
 replace S35 : St _ ((bx b3 [v5] 24) :: (bx b2 (c_api_Head a1) 31) :: (bx b1 [a0v0] 24) :: As) _ := S35
 clear S34
 refine s_asv (v := vI 0) rfl <| wpl_nil <| nrm <| wpc_ret <| outRw fun we hpd => ?_
 replace S35 := St.pd S35 hpd
 have SR := S35
 obtain ⟨m27, l20, S36⟩ := St.drop S35 0
 replace S36 : St _ ((bx b2 (c_api_Head a1) 31) :: (bx b1 [a0v0] 24) :: As) _ := S36
 obtain ⟨m28, l21, S37⟩ := St.drop S36 0
 clear S36
 replace S37 : St _ ((bx b1 [a0v0] 24) :: As) _ := S37
 obtain ⟨m29, l22, S38⟩ := St.drop S37 0
 clear S37
 replace S38 : St _ (As) _ := S38
 have e0 := Option.some.inj hm
 subst e0
 replace L0 := Mem.tr L0 (mt l1 (mt l5 (mt l9 (mt L13 (mt l18 (mt l19 (mt l20 (mt l21 l22))))))))
 replace h6 := h6.up (mt l20 (mt l21 l22))
 exact outR [_, _] rfl ⟨res_box (i := 0) (off := 0) (cs := [v5]) SR rfl rfl isAgg24 sizeOf24 rfl (fun h => by cases h), rfl, trivial⟩ ⟨_, L0, _, S38, rfl, h6⟩
theorem s_gossip_Add {a0 : g_api_Pool} {a1 : g_api_Head} {a2 : List g_api_Key} {r : g_api_Pool × Int} (hm : m_gossip_Add a0 a1 a2 = some r) : Sf prog 13 [ag (e_api_Pool a0), ag (e_api_Head a1), sl e_api_Key a2] (.tup [ag (e_api_Pool r.1), .d (.i r.2)]) :=
  ⟨call13, fun η m As w vs hv0 hd S => by
    have S : St m As w := S
    obtain ⟨v0, u0, rfl, r0, hv1⟩ := RelL.cons_inv hv0
    obtain ⟨c0, rfl, g0⟩ := Br.ofA b_api_Pool r0
    obtain ⟨z0_0, rfl, f0_0⟩ := rep_g_api_Pool g0
    obtain ⟨v1, u1, rfl, r1, hv2⟩ := RelL.cons_inv hv1
    obtain ⟨c1, rfl, g1⟩ := Br.ofA b_api_Head r1
    obtain rfl := rep_g_api_Head g1
    obtain ⟨v2, u2, rfl, r2, hv3⟩ := RelL.cons_inv hv2
    have f2 := Br.ofS b_api_Key r2.dd
    obtain rfl := RelL.nil_inv hv3
    refine CallsR.mono (w_gossip_Add S f0_0 f2 hm) ?_
    rintro v w' ⟨M, hle, y0_0, S0, rfl, h0_0⟩
    exact ⟨M, none0, _, _, _, hle, dom0 hd _, ⟨rfl, rfl, rfl⟩, fun n h => absurd rfl h, (.tup' (.cons (Br.toA b_api_Pool (mk_g_api_Pool h0_0)) (.cons (.d (.i _)) .nil))), S0⟩⟩
def m_gossip_Merge_1 (a0 : g_api_Head) : Option g_api_Head :=
  some a0
theorem w_gossip_Merge_1 {a0 : g_api_Head} {r : g_api_Head} (hm : m_gossip_Merge_1 a0 = some r) : Sf prog 47 [ag (e_api_Head a0)] (ag (e_api_Head r)) :=
  sp call47 func47 rfl ntmps47 rfl fun D0 As η0 m0 hd => by
    unfold m_gossip_Merge_1 at hm
    have e0 := Option.some.inj hm
    subst e0
    exact gend hd (by kernel_rfl)
def m_gossip_Merge_2 (a0 : g_api_Head) : Option g_api_Head :=
  some a0
theorem w_gossip_Merge_2 {a0 : g_api_Head} {r : g_api_Head} (hm : m_gossip_Merge_2 a0 = some r) : Sf prog 52 [ag (e_api_Head a0)] (ag (e_api_Head r)) :=
  sp call52 func52 rfl ntmps52 rfl fun D0 As η0 m0 hd => by
    unfold m_gossip_Merge_2 at hm
    have e0 := Option.some.inj hm
    subst e0
    exact gend hd (by kernel_rfl)
def m_gossip_as_api_Head_gossip_head_47x_b1  (i1 : Int) (x3 : g_api_Head) (s1 : (List g_api_Head)) : Option ((List g_api_Head)) :=
  obind (m_gossip_Merge_1 x3) fun x4 =>
  obind (app 56 s1 ([x4] : List g_api_Head)) fun x5 =>
  some x5
def m_gossip_as_api_Head_gossip_head_47x (a0 : List g_api_Head) : Option (List g_api_Head) :=
  obind (
    obind (each0 m_gossip_as_api_Head_gossip_head_47x_b1 a0 0 ([] : List g_api_Head)) fun x2 =>
    some x2
  ) fun x1 =>
  some x1
theorem w_gossip_as_api_Head_gossip_head_47x {a0 : List g_api_Head} {r : List g_api_Head} (hm : m_gossip_as_api_Head_gossip_head_47x a0 = some r) : Sp prog 49 [sl e_api_Head a0, .fn (.func 47) [] []] [] 0 (is (.ow 0) [.row 0 7 _ e_api_Head r] 1) :=
  sp call49 func49 rfl ntmps49 rfl fun D0 As η0 m0 hd => by
    unfold m_gossip_as_api_Head_gossip_head_47x at hm
    obtain ⟨x1, q1, hm⟩ := obind_some hm
    obtain ⟨x2, q2, q1⟩ := obind_some q1
    refine gnilU 0 e_api_Head 5 7 (by kernel_rfl) ?_
    refine glen 0 (E := e_api_Head) (xs := a0) 8 (by kernel_rfl) fun hle1 => ?_
    refine gjU 0 (fun (_ : Unit) => ⟨[(5, .ow 0)], [(0, .row 0 7 _ e_api_Head x1)], [], 1⟩) (fun _ => True) (by kernel_rfl) (fun Jp bk1 => ?_) fun _ _ => ?_
    · refine gjU 0 (fun (_ : Unit) => ⟨[(5, .ow 0)], [(0, .row 0 7 _ e_api_Head x2)], [], 1⟩) (fun _ => True) (by kernel_rfl) (fun Jp bk2 => ?_) fun _ _ => ?_
      · refine gl hd (fun (p : Int × ((List g_api_Head))) => let (p0, p_0) := p; ⟨[(1, .fn (.func 47) [] []), (5, .ow 0), (8, sl e_api_Head a0), (9, .d (.i (a0.length : Int))), (10, .d (.i p0))], [(0, .row 0 7 _ e_api_Head p_0)], [], 1⟩) (fun p => ∃ i : Nat, p.1 = (i : Int) ∧ i ≤ a0.length ∧ each0 m_gossip_as_api_Head_gossip_head_47x_b1 (a0.drop i) (i : Int) p.2 = some x2) (fun p => a0.length - p.1.toNat) (0, ([] : List g_api_Head)) ⟨0, rfl, Nat.zero_le _, q2⟩ (by kernel_rfl) ?_
        rintro ⟨_, s1⟩ ⟨i1, rfl, hi, q3⟩ Jl bl1
        refine gi' (b := decide ((i1 : Int) < (a0.length : Int))) (by kernel_rfl) (fun hc1 => ?_) fun hc1 => ?_
        · have hlt1 : i1 < a0.length := by have := of_decide_eq_true hc1; omega
          obtain ⟨x3, y1, q6, q5, q4⟩ := each0_in q3 hlt1
          unfold m_gossip_as_api_Head_gossip_head_47x_b1 at q5
          refine gidx (k := 7) (E := e_api_Head) (fun _ => rfl) (fun _ => q6) (by kernel_rfl) ?_
          obtain ⟨x4, q7, q5⟩ := obind_some q5
          refine gc (fun _ => w_gossip_Merge_1 q7) (by kernel_rfl) ?_
          refine glitF (k := 7) e_api_Head ([x4] : List g_api_Head) (fun _ => rfl) (by kernel_rfl) ?_
          obtain ⟨x5, q8, q5⟩ := obind_some q5
          refine gapp (k := 7) (E := e_api_Head) (fun _ => rfl) q8 (by kernel_rfl) ?_
          have e0 := Option.some.inj q5
          subst e0
          exact gb bl1 hd (w64 ((i1 : Int) + 1), x5) ⟨⟨i1 + 1, w64_succ hlt1 hle1, by omega, q4⟩, mu_lt hlt1 hle1⟩ (by kernel_rfl)
        have hlt1 : ¬ i1 < a0.length := by have := of_decide_eq_false hc1; omega
        have e := Eq.symm (each0_out q3 hlt1)
        subst e
        exact gb bk2 hd () trivial (by kernel_rfl)
      have e0 := Option.some.inj q1
      subst e0
      exact gb bk1 hd () trivial (by kernel_rfl)
    have e0 := Option.some.inj hm
    subst e0
    exact gend hd (by kernel_rfl)
def m_gossip_zip_gossip_head_50x_b1  (s1 : (List g_api_Head) × (List g_api_Head) × (List g_api_Head)) : Option (((List g_api_Head) × (List g_api_Head) × (List g_api_Head)) ⊕ ((List g_api_Head) × (List g_api_Head) × (List g_api_Head))) :=
  if ((decide ((s1.1.length : Int) > 0)) && (decide ((s1.2.1.length : Int) > 0))) = true then
    obind (idx s1.1 0) fun x4 =>
    obind (idx s1.2.1 0) fun x5 =>
    obind (m_gossip_head_against x4 x5) fun x6 =>
    if (decide (x6 > 0)) = true then
      obind (idx s1.2.1 0) fun x7 =>
      obind (app 56 s1.2.2 ([x7] : List g_api_Head)) fun x8 =>
      obind (cut s1.2.1 1 (s1.2.1.length : Int)) fun x9 =>
      some (.inl (s1.1, x9, x8))
    else
    obind (idx s1.1 0) fun x10 =>
    obind (app 56 s1.2.2 ([x10] : List g_api_Head)) fun x11 =>
    obind (cut s1.1 1 (s1.1.length : Int)) fun x12 =>
    if (x6 == 0) = true then
      obind (cut s1.2.1 1 (s1.2.1.length : Int)) fun x13 =>
      some (.inl (x12, x13, x11))
    else
    some (.inl (x12, s1.2.1, x11))
  else
  some (.inr (s1.1, s1.2.1, s1.2.2))
def m_gossip_zip_gossip_head_50x (a0 : List g_api_Head) (a1 : List g_api_Head) : Option (List g_api_Head) :=
  obind (
    obind (iter m_gossip_zip_gossip_head_50x_b1 FUEL (a0, a1, ([] : List g_api_Head))) fun x2 =>
    some (x2.1, x2.2.1, x2.2.2)
  ) fun x1 =>
  obind (app 56 x1.2.2 x1.1) fun x14 =>
  obind (app 56 x14 x1.2.1) fun x15 =>
  some x15
theorem w_gossip_zip_gossip_head_50x {a0 : List g_api_Head} {a1 : List g_api_Head} {r : List g_api_Head} (hm : m_gossip_zip_gossip_head_50x a0 a1 = some r) : Sp prog 48 [sl e_api_Head a0, sl e_api_Head a1, .fn (.func 50) [] []] [] 0 (is (.ow 0) [.row 0 7 _ e_api_Head r] 1) :=
  sp call48 func48 rfl ntmps48 rfl fun D0 As η0 m0 hd => by
    unfold m_gossip_zip_gossip_head_50x at hm
    obtain ⟨x1, q1, hm⟩ := obind_some hm
    obtain ⟨x2, q2, q1⟩ := obind_some q1
    refine gnilU 0 e_api_Head 7 7 (by kernel_rfl) ?_
    refine gjU 0 (fun (_ : Unit) => let (y_0, y_1, y_2) := x1; ⟨[(0, sl e_api_Head y_0), (1, sl e_api_Head y_1), (7, .ow 0)], [(0, .row 0 7 _ e_api_Head y_2)], [], 1⟩) (fun _ => True) (by kernel_rfl) (fun Jp bk1 => ?_) fun _ _ => ?_
    · refine gjU 0 (fun (_ : Unit) => let (y_0, y_1, y_2) := x2; ⟨[(0, sl e_api_Head y_0), (1, sl e_api_Head y_1), (7, .ow 0)], [(0, .row 0 7 _ e_api_Head y_2)], [], 1⟩) (fun _ => True) (by kernel_rfl) (fun Jp bk2 => ?_) fun _ _ => ?_
      · refine gl hd (fun (p : Nat × ((List g_api_Head) × (List g_api_Head) × (List g_api_Head))) => let (p0, p_0, p_1, p_2) := p; ⟨[(0, sl e_api_Head p_0), (1, sl e_api_Head p_1), (2, .fn (.func 50) [] []), (7, .ow 0)], [(0, .row 0 7 _ e_api_Head p_2)], [], 1⟩) (fun p => iter m_gossip_zip_gossip_head_50x_b1 p.1 p.2 = some x2) (fun p => p.1) (FUEL, (a0, a1, ([] : List g_api_Head))) q2 (by kernel_rfl) ?_
        rintro ⟨n1, s1⟩ q3 Jl bl1
        cases n1 with
        | zero => exact (iter_zero q3).elim
        | succ n1 =>
          obtain ⟨y1, q5, q4⟩ := iter_succ q3
          unfold m_gossip_zip_gossip_head_50x_b1 at q5
          refine gi q5 (by kernel_rfl) (fun hc1 q5 => ?_) fun hc1 q5 => ?_
          · skip
            obtain ⟨x4, q7, q5⟩ := obind_some q5
            refine gidx (k := 7) (E := e_api_Head) (fun _ => rfl) (fun _ => q7) (by kernel_rfl) ?_
            obtain ⟨x5, q8, q5⟩ := obind_some q5
            refine gidx (k := 7) (E := e_api_Head) (fun _ => rfl) (fun _ => q8) (by kernel_rfl) ?_
            obtain ⟨x6, q9, q5⟩ := obind_some q5
            refine gc (fun _ => s_gossip_head_against q9) (by kernel_rfl) ?_
            refine gi q5 (by kernel_rfl) (fun hc2 q5 => ?_) fun hc2 q5 => ?_
            · skip
              obtain ⟨x7, q10, q5⟩ := obind_some q5
              refine gidx (k := 7) (E := e_api_Head) (fun _ => rfl) (fun _ => q10) (by kernel_rfl) ?_
              refine glitF (k := 7) e_api_Head ([x7] : List g_api_Head) (fun _ => rfl) (by kernel_rfl) ?_
              obtain ⟨x8, q11, q5⟩ := obind_some q5
              refine gapp (k := 7) (E := e_api_Head) (fun _ => rfl) q11 (by kernel_rfl) ?_
              obtain ⟨x9, q12, q5⟩ := obind_some q5
              refine gcut (k := 7) (E := e_api_Head) (fun _ => rfl) (fun _ => q12) (by kernel_rfl) ?_
              have e0 := Option.some.inj q5
              subst e0
              rcases q4 with ⟨sn, e, q4'⟩ | e
              · have e := Sum.inl.inj e
                subst e
                exact gb bl1 hd (n1, _) ⟨q4', Nat.lt_succ_self _⟩ (by kernel_rfl)
              cases sum_lr e
            obtain ⟨x10, q13, q5⟩ := obind_some q5
            refine gidx (k := 7) (E := e_api_Head) (fun _ => rfl) (fun _ => q13) (by kernel_rfl) ?_
            refine glitF (k := 7) e_api_Head ([x10] : List g_api_Head) (fun _ => rfl) (by kernel_rfl) ?_
            obtain ⟨x11, q14, q5⟩ := obind_some q5
            refine gapp (k := 7) (E := e_api_Head) (fun _ => rfl) q14 (by kernel_rfl) ?_
            obtain ⟨x12, q15, q5⟩ := obind_some q5
            refine gcut (k := 7) (E := e_api_Head) (fun _ => rfl) (fun _ => q15) (by kernel_rfl) ?_
            refine gi q5 (by kernel_rfl) (fun hc3 q5 => ?_) fun hc3 q5 => ?_
            · obtain ⟨x13, q16, q5⟩ := obind_some q5
              refine gcut (k := 7) (E := e_api_Head) (fun _ => rfl) (fun _ => q16) (by kernel_rfl) ?_
              have e0 := Option.some.inj q5
              subst e0
              rcases q4 with ⟨sn, e, q4'⟩ | e
              · have e := Sum.inl.inj e
                subst e
                exact gb bl1 hd (n1, _) ⟨q4', Nat.lt_succ_self _⟩ (by kernel_rfl)
              cases sum_lr e
            have e0 := Option.some.inj q5
            subst e0
            rcases q4 with ⟨sn, e, q4'⟩ | e
            · have e := Sum.inl.inj e
              subst e
              exact gb bl1 hd (n1, _) ⟨q4', Nat.lt_succ_self _⟩ (by kernel_rfl)
            cases sum_lr e
          have e0 := Option.some.inj q5
          subst e0
          rcases q4 with ⟨sn, e, _⟩ | e
          · cases sum_rl e
          have e := Sum.inr.inj e
          subst e
          exact gb bk2 hd () trivial (by kernel_rfl)
      have e0 := Option.some.inj q1
      subst e0
      exact gb bk1 hd () trivial (by kernel_rfl)
    obtain ⟨x14, q17, hm⟩ := obind_some hm
    refine gapp (k := 7) (E := e_api_Head) (fun _ => rfl) q17 (by kernel_rfl) ?_
    obtain ⟨x15, q18, hm⟩ := obind_some hm
    refine gapp (k := 7) (E := e_api_Head) (fun _ => rfl) q18 (by kernel_rfl) ?_
    have e0 := Option.some.inj hm
    subst e0
    exact gend hd (by kernel_rfl)
def m_gossip_as_gossip_head_api_Head_52x_b1  (i1 : Int) (x3 : g_api_Head) (s1 : (List g_api_Head)) : Option ((List g_api_Head)) :=
  obind (m_gossip_Merge_2 x3) fun x4 =>
  obind (app 56 s1 ([x4] : List g_api_Head)) fun x5 =>
  some x5
def m_gossip_as_gossip_head_api_Head_52x (a0 : List g_api_Head) : Option (List g_api_Head) :=
  obind (
    obind (each0 m_gossip_as_gossip_head_api_Head_52x_b1 a0 0 ([] : List g_api_Head)) fun x2 =>
    some x2
  ) fun x1 =>
  some x1
theorem w_gossip_as_gossip_head_api_Head_52x {a0 : List g_api_Head} {r : List g_api_Head} (hm : m_gossip_as_gossip_head_api_Head_52x a0 = some r) : Sp prog 51 [sl e_api_Head a0, .fn (.func 52) [] []] [] 0 (is (.ow 0) [.row 0 7 _ e_api_Head r] 1) :=
  sp call51 func51 rfl ntmps51 rfl fun D0 As η0 m0 hd => by
    unfold m_gossip_as_gossip_head_api_Head_52x at hm
    obtain ⟨x1, q1, hm⟩ := obind_some hm
    obtain ⟨x2, q2, q1⟩ := obind_some q1
    refine gnilU 0 e_api_Head 5 7 (by kernel_rfl) ?_
    refine glen 0 (E := e_api_Head) (xs := a0) 8 (by kernel_rfl) fun hle1 => ?_
    refine gjU 0 (fun (_ : Unit) => ⟨[(5, .ow 0)], [(0, .row 0 7 _ e_api_Head x1)], [], 1⟩) (fun _ => True) (by kernel_rfl) (fun Jp bk1 => ?_) fun _ _ => ?_
    · refine gjU 0 (fun (_ : Unit) => ⟨[(5, .ow 0)], [(0, .row 0 7 _ e_api_Head x2)], [], 1⟩) (fun _ => True) (by kernel_rfl) (fun Jp bk2 => ?_) fun _ _ => ?_
      · refine gl hd (fun (p : Int × ((List g_api_Head))) => let (p0, p_0) := p; ⟨[(1, .fn (.func 52) [] []), (5, .ow 0), (8, sl e_api_Head a0), (9, .d (.i (a0.length : Int))), (10, .d (.i p0))], [(0, .row 0 7 _ e_api_Head p_0)], [], 1⟩) (fun p => ∃ i : Nat, p.1 = (i : Int) ∧ i ≤ a0.length ∧ each0 m_gossip_as_gossip_head_api_Head_52x_b1 (a0.drop i) (i : Int) p.2 = some x2) (fun p => a0.length - p.1.toNat) (0, ([] : List g_api_Head)) ⟨0, rfl, Nat.zero_le _, q2⟩ (by kernel_rfl) ?_
        rintro ⟨_, s1⟩ ⟨i1, rfl, hi, q3⟩ Jl bl1
        refine gi' (b := decide ((i1 : Int) < (a0.length : Int))) (by kernel_rfl) (fun hc1 => ?_) fun hc1 => ?_
        · have hlt1 : i1 < a0.length := by have := of_decide_eq_true hc1; omega
          obtain ⟨x3, y1, q6, q5, q4⟩ := each0_in q3 hlt1
          unfold m_gossip_as_gossip_head_api_Head_52x_b1 at q5
          refine gidx (k := 7) (E := e_api_Head) (fun _ => rfl) (fun _ => q6) (by kernel_rfl) ?_
          obtain ⟨x4, q7, q5⟩ := obind_some q5
          refine gc (fun _ => w_gossip_Merge_2 q7) (by kernel_rfl) ?_
          refine glitF (k := 7) e_api_Head ([x4] : List g_api_Head) (fun _ => rfl) (by kernel_rfl) ?_
          obtain ⟨x5, q8, q5⟩ := obind_some q5
          refine gapp (k := 7) (E := e_api_Head) (fun _ => rfl) q8 (by kernel_rfl) ?_
          have e0 := Option.some.inj q5
          subst e0
          exact gb bl1 hd (w64 ((i1 : Int) + 1), x5) ⟨⟨i1 + 1, w64_succ hlt1 hle1, by omega, q4⟩, mu_lt hlt1 hle1⟩ (by kernel_rfl)
        have hlt1 : ¬ i1 < a0.length := by have := of_decide_eq_false hc1; omega
        have e := Eq.symm (each0_out q3 hlt1)
        subst e
        exact gb bk2 hd () trivial (by kernel_rfl)
      have e0 := Option.some.inj q1
      subst e0
      exact gb bk1 hd () trivial (by kernel_rfl)
    have e0 := Option.some.inj hm
    subst e0
    exact gend hd (by kernel_rfl)
def m_gossip_Merge (a0 : g_api_Pool) (a1 : g_api_Pool) : Option g_api_Pool :=
  obind (m_gossip_ordered a0) fun x1 =>
  obind (gu (!(!x1)) (m_gossip_ordered a1)) fun x2 =>
  if ((!x1) || (!x2)) = true then
    some (⟨[]⟩ : g_api_Pool)
  else
  obind (m_gossip_as_api_Head_gossip_head_47x a0.L) fun x3 =>
  obind (m_gossip_as_api_Head_gossip_head_47x a1.L) fun x4 =>
  obind (m_gossip_zip_gossip_head_50x x3 x4) fun x5 =>
  obind (m_gossip_as_gossip_head_api_Head_52x x5) fun x6 =>
  some (⟨x6⟩ : g_api_Pool)
theorem w_gossip_Merge {a0 : g_api_Pool} {a1 : g_api_Pool} {r : g_api_Pool} (hm : m_gossip_Merge a0 a1 = some r) : Sf prog 18 [ag (e_api_Pool a0), ag (e_api_Pool a1)] (ag (e_api_Pool r)) :=
  sp call18 func18 rfl ntmps18 rfl fun D0 As η0 m0 hd => by
    unfold m_gossip_Merge at hm
    obtain ⟨x1, q1, hm⟩ := obind_some hm
    refine gc (fun _ => w_gossip_ordered q1) (by kernel_rfl) ?_
    obtain ⟨x2, q2, hm⟩ := obind_some hm
    refine gcG (fun h => w_gossip_ordered (gu_t h q2)) (by kernel_rfl) ?_
    refine gi hm (by kernel_rfl) (fun hc1 hm => ?_) fun hc1 hm => ?_
    · skip
      have e0 := Option.some.inj hm
      subst e0
      exact gend hd (by kernel_rfl)
    obtain ⟨x3, q3, hm⟩ := obind_some hm
    refine gco (w_gossip_as_api_Head_gossip_head_47x q3) (by kernel_rfl) ?_
    obtain ⟨x4, q4, hm⟩ := obind_some hm
    refine gco (w_gossip_as_api_Head_gossip_head_47x q4) (by kernel_rfl) ?_
    obtain ⟨x5, q5, hm⟩ := obind_some hm
    refine gco (w_gossip_zip_gossip_head_50x q5) (by kernel_rfl) ?_
    obtain ⟨x6, q6, hm⟩ := obind_some hm
    refine gco (w_gossip_as_gossip_head_api_Head_52x q6) (by kernel_rfl) ?_
    have e0 := Option.some.inj hm
    subst e0
    exact gend hd (by kernel_rfl)
def m_gossip_Last_b3 (a1 : Int) (i1 : Int) (x3 : g_api_Head) (s1 : Bool × Int × Int × UInt64 × UInt64 × Int × UInt64 × UInt64) : Option (Bool × Int × Int × UInt64 × UInt64 × Int × UInt64 × UInt64) :=
  obind (
    obind (gu ((x3.Log == a1) && (!(!s1.1))) (m_cmp_Compare_int x3.Size s1.2.2.1)) fun x5 =>
    obind (gu ((x3.Log == a1) && (!(!s1.1))) (m_cmp_Compare_int x3.At s1.2.2.2.2.2.1)) fun x6 =>
    obind (gu ((x3.Log == a1) && (!(!s1.1))) (m_gossip_row ([x5, x6] : List Int))) fun x7 =>
    if ((x3.Log == a1) && ((!s1.1) || (decide (x7 ≥ 0)))) = true then
      some (true, x3.Log, x3.Size, x3.Root.1, x3.Root.2, x3.At, x3.Sig.E, x3.Sig.S)
    else
    some (s1.1, s1.2.1, s1.2.2.1, s1.2.2.2.1, s1.2.2.2.2.1, s1.2.2.2.2.2.1, s1.2.2.2.2.2.2.1, s1.2.2.2.2.2.2.2)
  ) fun x4 =>
  some (x4.1, x4.2.1, x4.2.2.1, x4.2.2.2.1, x4.2.2.2.2.1, x4.2.2.2.2.2.1, x4.2.2.2.2.2.2.1, x4.2.2.2.2.2.2.2)
def m_gossip_Last (a0 : g_api_Pool) (a1 : Int) : Option (g_api_Head × Bool) :=
  obind (
    obind (each0 (m_gossip_Last_b3 a1) a0.L 0 (false, 0, 0, 0, 0, 0, 0, 0)) fun x2 =>
    some (x2.1, x2.2.1, x2.2.2.1, x2.2.2.2.1, x2.2.2.2.2.1, x2.2.2.2.2.2.1, x2.2.2.2.2.2.2.1, x2.2.2.2.2.2.2.2)
  ) fun x1 =>
  some ((⟨x1.2.1, x1.2.2.1, (x1.2.2.2.1, x1.2.2.2.2.1), x1.2.2.2.2.2.1, (⟨x1.2.2.2.2.2.2.1, x1.2.2.2.2.2.2.2⟩ : g_api_Sig)⟩ : g_api_Head), x1.1)
theorem w_gossip_Last {a0 : g_api_Pool} {a1 : Int} {r : g_api_Head × Bool} (hm : m_gossip_Last a0 a1 = some r) : Sf prog 20 [ag (e_api_Pool a0), .d (.i a1)] (.tup [ag (e_api_Head r.1), .d (.t r.2)]) :=
  sp call20 func20 rfl ntmps20 rfl fun D0 As η0 m0 hd => by
    unfold m_gossip_Last at hm
    obtain ⟨x1, q1, hm⟩ := obind_some hm
    obtain ⟨x2, q2, q1⟩ := obind_some q1
    refine glen 0 (E := e_api_Head) (xs := a0.L) 9 (by kernel_rfl) fun hle1 => ?_
    refine gjU 0 (fun (_ : Unit) => let (y_0, y_1, y_2, y_3, y_4, y_5, y_6, y_7) := x1; ⟨[(4, .pb 1 0), (5, .d (.t y_0))], [(0, .box 1 [.d (.i y_1), .d (.i y_2), .d (.u y_3), .d (.u y_4), .d (.i y_5), .d (.u y_6), .d (.u y_7)] 31), (1, .box 0 [sl e_api_Head a0.L] 24)], [], 2⟩) (fun _ => True) (by kernel_rfl) (fun Jp bk1 => ?_) fun _ _ => ?_
    · refine gjU 0 (fun (_ : Unit) => let (y_0, y_1, y_2, y_3, y_4, y_5, y_6, y_7) := x2; ⟨[(4, .pb 1 0), (5, .d (.t y_0))], [(0, .box 1 [.d (.i y_1), .d (.i y_2), .d (.u y_3), .d (.u y_4), .d (.i y_5), .d (.u y_6), .d (.u y_7)] 31), (1, .box 0 [sl e_api_Head a0.L] 24)], [], 2⟩) (fun _ => True) (by kernel_rfl) (fun Jp bk2 => ?_) fun _ _ => ?_
      · refine gl hd (fun (p : Int × (Bool × Int × Int × UInt64 × UInt64 × Int × UInt64 × UInt64)) => let (p0, p_0, p_1, p_2, p_3, p_4, p_5, p_6, p_7) := p; ⟨[(1, .d (.i a1)), (4, .pb 1 0), (5, .d (.t p_0)), (9, sl e_api_Head a0.L), (10, .d (.i (a0.L.length : Int))), (11, .d (.i p0))], [(0, .box 1 [.d (.i p_1), .d (.i p_2), .d (.u p_3), .d (.u p_4), .d (.i p_5), .d (.u p_6), .d (.u p_7)] 31), (1, .box 0 [sl e_api_Head a0.L] 24)], [], 2⟩) (fun p => ∃ i : Nat, p.1 = (i : Int) ∧ i ≤ a0.L.length ∧ each0 (m_gossip_Last_b3 a1) (a0.L.drop i) (i : Int) p.2 = some x2) (fun p => a0.L.length - p.1.toNat) (0, (false, 0, 0, 0, 0, 0, 0, 0)) ⟨0, rfl, Nat.zero_le _, q2⟩ (by kernel_rfl) ?_
        rintro ⟨_, s1⟩ ⟨i1, rfl, hi, q3⟩ Jl bl1
        refine gi' (b := decide ((i1 : Int) < (a0.L.length : Int))) (by kernel_rfl) (fun hc2 => ?_) fun hc2 => ?_
        · have hlt1 : i1 < a0.L.length := by have := of_decide_eq_true hc2; omega
          obtain ⟨x3, y1, q6, q5, q4⟩ := each0_in q3 hlt1
          unfold m_gossip_Last_b3 at q5
          obtain ⟨x4, q7, q5⟩ := obind_some q5
          refine gjU 1 (fun (_ : Unit) => let (y_0, y_1, y_2, y_3, y_4, y_5, y_6, y_7) := x4; ⟨[(1, .d (.i a1)), (4, .pb 1 0), (5, .d (.t y_0)), (9, sl e_api_Head a0.L), (10, .d (.i (a0.L.length : Int))), (11, .d (.i (i1 : Int)))], [(0, .box 1 [.d (.i y_1), .d (.i y_2), .d (.u y_3), .d (.u y_4), .d (.i y_5), .d (.u y_6), .d (.u y_7)] 31), (1, .box 0 [sl e_api_Head a0.L] 24)], [], 2⟩) (fun _ => True) (by kernel_rfl) (fun Jp bk3 => ?_) fun _ _ => ?_
          · skip
            refine gidx (k := 7) (E := e_api_Head) (fun _ => rfl) (fun _ => q6) (by kernel_rfl) ?_
            obtain ⟨x5, q8, q7⟩ := obind_some q7
            refine gcG (fun h => w_cmp_Compare_int (gu_t h q8)) (by kernel_rfl) ?_
            obtain ⟨x6, q9, q7⟩ := obind_some q7
            refine gcG (fun h => w_cmp_Compare_int (gu_t h q9)) (by kernel_rfl) ?_
            refine glitF (k := 1) eI ([x5, x6] : List Int) (fun _ => rfl) (by kernel_rfl) ?_
            obtain ⟨x7, q10, q7⟩ := obind_some q7
            refine gcG (fun h => w_gossip_row (gu_t h q10)) (by kernel_rfl) ?_
            refine gi q7 (by kernel_rfl) (fun hc1 q7 => ?_) fun hc1 q7 => ?_
            · skip
              have e0 := Option.some.inj q7
              subst e0
              exact gb bk3 hd () trivial (by kernel_rfl)
            have e0 := Option.some.inj q7
            subst e0
            exact gb bk3 hd () trivial (by kernel_rfl)
          have e0 := Option.some.inj q5
          subst e0
          exact gb bl1 hd (w64 ((i1 : Int) + 1), (x4.1, x4.2.1, x4.2.2.1, x4.2.2.2.1, x4.2.2.2.2.1, x4.2.2.2.2.2.1, x4.2.2.2.2.2.2.1, x4.2.2.2.2.2.2.2)) ⟨⟨i1 + 1, w64_succ hlt1 hle1, by omega, q4⟩, mu_lt hlt1 hle1⟩ (by kernel_rfl)
        have hlt1 : ¬ i1 < a0.L.length := by have := of_decide_eq_false hc2; omega
        have e := Eq.symm (each0_out q3 hlt1)
        subst e
        exact gb bk2 hd () trivial (by kernel_rfl)
      have e0 := Option.some.inj q1
      subst e0
      exact gb bk1 hd () trivial (by kernel_rfl)
    have e0 := Option.some.inj hm
    subst e0
    exact gend hd (by kernel_rfl)
def m_gossip_Fork_1 (a0 : g_api_Head) (k0 : g_api_Head) : Option (Bool × g_api_Head) :=
  bnd ((((a0.Log == k0.Log) && (a0.Size == k0.Size)) && (!eqSum a0.Root k0.Root))) fun x1 =>
  some (x1, k0)
theorem w_gossip_Fork_1 {a0 : g_api_Head} {k0 : g_api_Head} {r : Bool × g_api_Head} (hm : m_gossip_Fork_1 a0 k0 = some r) : Sp prog 56 [ag (e_api_Head a0), .pb 0 0] [.box 0 [.d (.i k0.Log), .d (.i k0.Size), .d (.u k0.Root.1), .d (.u k0.Root.2), .d (.i k0.At), .d (.u k0.Sig.E), .d (.u k0.Sig.S)] 31] 1 (is (.d (.t r.1)) [.box 0 [.d (.i r.2.Log), .d (.i r.2.Size), .d (.u r.2.Root.1), .d (.u r.2.Root.2), .d (.i r.2.At), .d (.u r.2.Sig.E), .d (.u r.2.Sig.S)] 31] 1) :=
  sp call56 func56 rfl ntmps56 rfl fun D0 As η0 m0 hd => by
    unfold m_gossip_Fork_1 at hm
    have hm := bnd_is hm
    let x1 : Bool := ((((a0.Log == k0.Log) && (a0.Size == k0.Size)) && (!eqSum a0.Root k0.Root)))
    have e0 := Option.some.inj hm
    subst e0
    exact gend hd (by kernel_rfl)
def m_slices_IndexFunc_api_Head_api_Head_56x_b1 (a0 : List g_api_Head) (i1 : Int) (s1 : Int × Int × UInt64 × UInt64 × Int × UInt64 × UInt64) : Option ((Int × Int × UInt64 × UInt64 × Int × UInt64 × UInt64) ⊕ (Int × g_api_Head)) :=
  obind (idx a0 (i1 : Int)) fun x3 =>
  obind (m_gossip_Fork_1 x3 (⟨s1.1, s1.2.1, (s1.2.2.1, s1.2.2.2.1), s1.2.2.2.2.1, (⟨s1.2.2.2.2.2.1, s1.2.2.2.2.2.2⟩ : g_api_Sig)⟩ : g_api_Head)) fun x4 =>
  if x4.1 = true then
    some (.inr ((i1 : Int), x4.2))
  else
  some (.inl (x4.2.Log, x4.2.Size, x4.2.Root.1, x4.2.Root.2, x4.2.At, x4.2.Sig.E, x4.2.Sig.S))
def m_slices_IndexFunc_api_Head_api_Head_56x (a0 : List g_api_Head) (k0 : g_api_Head) : Option (Int × g_api_Head) :=
  obind (eachN (m_slices_IndexFunc_api_Head_api_Head_56x_b1 a0) a0.length 0 (k0.Log, k0.Size, k0.Root.1, k0.Root.2, k0.At, k0.Sig.E, k0.Sig.S)) fun x1 => match x1 with
  | .inr r => some r
  | .inl y1 =>
  some ((-1), (⟨y1.1, y1.2.1, (y1.2.2.1, y1.2.2.2.1), y1.2.2.2.2.1, (⟨y1.2.2.2.2.2.1, y1.2.2.2.2.2.2⟩ : g_api_Sig)⟩ : g_api_Head))
theorem w_slices_IndexFunc_api_Head_api_Head_56x {a0 : List g_api_Head} {k0 : g_api_Head} {r : Int × g_api_Head} (hm : m_slices_IndexFunc_api_Head_api_Head_56x a0 k0 = some r) : Sp prog 55 [sl e_api_Head a0, .fn (.func 56) [] [.pb 0 0]] [.box 0 [.d (.i k0.Log), .d (.i k0.Size), .d (.u k0.Root.1), .d (.u k0.Root.2), .d (.i k0.At), .d (.u k0.Sig.E), .d (.u k0.Sig.S)] 31] 1 (is (.d (.i r.1)) [.box 0 [.d (.i r.2.Log), .d (.i r.2.Size), .d (.u r.2.Root.1), .d (.u r.2.Root.2), .d (.i r.2.At), .d (.u r.2.Sig.E), .d (.u r.2.Sig.S)] 31] 1) :=
  sp call55 func55 rfl ntmps55 rfl fun D0 As η0 m0 hd => by
    unfold m_slices_IndexFunc_api_Head_api_Head_56x at hm
    obtain ⟨x1, q1, hm⟩ := obind_some hm
    refine glen 0 (E := e_api_Head) (xs := a0) 6 (by kernel_rfl) fun hle1 => ?_
    refine gjU 0 (fun (y1 : Int × Int × UInt64 × UInt64 × Int × UInt64 × UInt64) => let (y_0, y_1, y_2, y_3, y_4, y_5, y_6) := y1; ⟨[], [(0, .box 0 [.d (.i y_0), .d (.i y_1), .d (.u y_2), .d (.u y_3), .d (.i y_4), .d (.u y_5), .d (.u y_6)] 31)], [], 1⟩) (fun y1 => x1 = .inl y1) (by kernel_rfl) (fun Jp bk1 => ?_) fun y1 hy => ?_
    · refine gl hd (fun (p : Int × (Int × Int × UInt64 × UInt64 × Int × UInt64 × UInt64)) => let (p0, p_0, p_1, p_2, p_3, p_4, p_5, p_6) := p; ⟨[(0, sl e_api_Head a0), (1, .fn (.func 56) [] [.pb 0 0]), (7, .d (.i (a0.length : Int))), (8, .d (.i p0))], [(0, .box 0 [.d (.i p_0), .d (.i p_1), .d (.u p_2), .d (.u p_3), .d (.i p_4), .d (.u p_5), .d (.u p_6)] 31)], [], 1⟩) (fun p => ∃ i : Nat, p.1 = (i : Int) ∧ i ≤ a0.length ∧ eachN (m_slices_IndexFunc_api_Head_api_Head_56x_b1 a0) (a0.length - i) (i : Int) p.2 = some x1) (fun p => a0.length - p.1.toNat) (0, (k0.Log, k0.Size, k0.Root.1, k0.Root.2, k0.At, k0.Sig.E, k0.Sig.S)) ⟨0, rfl, Nat.zero_le _, q1⟩ (by kernel_rfl) ?_
      rintro ⟨_, s1⟩ ⟨i1, rfl, hi, q2⟩ Jl bl1
      refine gi' (b := decide ((i1 : Int) < (a0.length : Int))) (by kernel_rfl) (fun hc2 => ?_) fun hc2 => ?_
      · have hlt1 : i1 < a0.length := by have := of_decide_eq_true hc2; omega
        obtain ⟨y2, q4, q3⟩ := eachN_in q2 hlt1
        unfold m_slices_IndexFunc_api_Head_api_Head_56x_b1 at q4
        obtain ⟨x3, q6, q4⟩ := obind_some q4
        refine gidx (k := 7) (E := e_api_Head) (fun _ => rfl) (fun _ => q6) (by kernel_rfl) ?_
        obtain ⟨x4, q7, q4⟩ := obind_some q4
        refine gco (w_gossip_Fork_1 q7) (by kernel_rfl) ?_
        refine gi q4 (by kernel_rfl) (fun hc1 q4 => ?_) fun hc1 q4 => ?_
        · skip
          cases q4
          rcases q3 with ⟨sn, e, _⟩ | ⟨tn, e, e2⟩
          · cases e
          cases e
          cases e2
          dsimp only at hm
          have e0 := Option.some.inj hm
          subst e0
          exact gend hd (by kernel_rfl)
        have e0 := Option.some.inj q4
        subst e0
        rcases q3 with ⟨sn, e, q3'⟩ | ⟨tn, e, _⟩
        · have e := Sum.inl.inj e
          subst e
          exact gb bl1 hd (w64 ((i1 : Int) + 1), _) ⟨⟨i1 + 1, w64_succ hlt1 hle1, by omega, q3'⟩, mu_lt hlt1 hle1⟩ (by kernel_rfl)
        cases sum_lr e
      have hlt1 : ¬ i1 < a0.length := by have := of_decide_eq_false hc2; omega
      have e := eachN_out q2 hlt1
      cases e
      exact gb bk1 hd _ rfl (by kernel_rfl)
    subst hy
    dsimp only at hm
    have e0 := Option.some.inj hm
    subst e0
    exact gend hd (by kernel_rfl)
def m_gossip_Fork_b4 (a0 : g_api_Pool) (i1 : Int) (s1 : Unit) : Option ((Unit) ⊕ (g_api_Head × g_api_Head × Bool)) :=
  obind (idx a0.L (i1 : Int)) fun x3 =>
  obind (cut a0.L (i1 : Int) (a0.L.length : Int)) fun x4 =>
  obind (m_slices_IndexFunc_api_Head_api_Head_56x x4 x3) fun x5 =>
  if (decide (x5.1 ≥ 0)) = true then
    obind (idx a0.L (w64 ((i1 : Int) + x5.1))) fun x6 =>
    some (.inr (x5.2, x6, true))
  else
  some (.inl ())
def m_gossip_Fork (a0 : g_api_Pool) : Option (g_api_Head × g_api_Head × Bool) :=
  obind (eachN (m_gossip_Fork_b4 a0) a0.L.length 0 ()) fun x1 => match x1 with
  | .inr r => some r
  | .inl y1 =>
  some ((⟨0, 0, (0, 0), 0, (⟨0, 0⟩ : g_api_Sig)⟩ : g_api_Head), (⟨0, 0, (0, 0), 0, (⟨0, 0⟩ : g_api_Sig)⟩ : g_api_Head), false)
theorem w_gossip_Fork {a0 : g_api_Pool} {r : g_api_Head × g_api_Head × Bool} (hm : m_gossip_Fork a0 = some r) : Sf prog 22 [ag (e_api_Pool a0)] (.tup [ag (e_api_Head r.1), ag (e_api_Head r.2.1), .d (.t r.2.2)]) :=
  sp call22 func22 rfl ntmps22 rfl fun D0 As η0 m0 hd => by
    unfold m_gossip_Fork at hm
    obtain ⟨x1, q1, hm⟩ := obind_some hm
    refine glen 0 (E := e_api_Head) (xs := a0.L) 9 (by kernel_rfl) fun hle1 => ?_
    refine gjU 0 (fun (y1 : Unit) => ⟨[(2, .pb 1 0), (3, .pb 2 0)], [(0, .box 2 [.d (.i 0), .d (.i 0), .d (.u 0), .d (.u 0), .d (.i 0), .d (.u 0), .d (.u 0)] 31), (1, .box 1 [.d (.i 0), .d (.i 0), .d (.u 0), .d (.u 0), .d (.i 0), .d (.u 0), .d (.u 0)] 31), (2, .box 0 [sl e_api_Head a0.L] 24)], [], 3⟩) (fun y1 => x1 = .inl y1) (by kernel_rfl) (fun Jp bk1 => ?_) fun y1 hy => ?_
    · refine gl hd (fun (p : Int × (Unit)) => let (p0, _) := p; ⟨[(1, .pb 0 0), (2, .pb 1 0), (3, .pb 2 0), (9, sl e_api_Head a0.L), (10, .d (.i (a0.L.length : Int))), (11, .d (.i p0))], [(0, .box 2 [.d (.i 0), .d (.i 0), .d (.u 0), .d (.u 0), .d (.i 0), .d (.u 0), .d (.u 0)] 31), (1, .box 1 [.d (.i 0), .d (.i 0), .d (.u 0), .d (.u 0), .d (.i 0), .d (.u 0), .d (.u 0)] 31), (2, .box 0 [sl e_api_Head a0.L] 24)], [], 3⟩) (fun p => ∃ i : Nat, p.1 = (i : Int) ∧ i ≤ a0.L.length ∧ eachN (m_gossip_Fork_b4 a0) (a0.L.length - i) (i : Int) p.2 = some x1) (fun p => a0.L.length - p.1.toNat) (0, ()) ⟨0, rfl, Nat.zero_le _, q1⟩ (by kernel_rfl) ?_
      rintro ⟨_, s1⟩ ⟨i1, rfl, hi, q2⟩ Jl bl1
      refine gi' (b := decide ((i1 : Int) < (a0.L.length : Int))) (by kernel_rfl) (fun hc2 => ?_) fun hc2 => ?_
      · have hlt1 : i1 < a0.L.length := by have := of_decide_eq_true hc2; omega
        obtain ⟨y2, q4, q3⟩ := eachN_in q2 hlt1
        unfold m_gossip_Fork_b4 at q4
        obtain ⟨x3, q6, q4⟩ := obind_some q4
        refine gidx (k := 7) (E := e_api_Head) (fun _ => rfl) (fun _ => q6) (by kernel_rfl) ?_
        obtain ⟨x4, q7, q4⟩ := obind_some q4
        refine gcut (k := 7) (E := e_api_Head) (fun _ => rfl) (fun _ => q7) (by kernel_rfl) ?_
        obtain ⟨x5, q8, q4⟩ := obind_some q4
        refine gco (w_slices_IndexFunc_api_Head_api_Head_56x q8) (by kernel_rfl) ?_
        refine gi q4 (by kernel_rfl) (fun hc1 q4 => ?_) fun hc1 q4 => ?_
        · skip
          obtain ⟨x6, q9, q4⟩ := obind_some q4
          refine gidx (k := 7) (E := e_api_Head) (fun _ => rfl) (fun _ => q9) (by kernel_rfl) ?_
          cases q4
          rcases q3 with ⟨sn, e, _⟩ | ⟨tn, e, e2⟩
          · cases e
          cases e
          cases e2
          dsimp only at hm
          have e0 := Option.some.inj hm
          subst e0
          exact gend hd (by kernel_rfl)
        have e0 := Option.some.inj q4
        subst e0
        rcases q3 with ⟨sn, e, q3'⟩ | ⟨tn, e, _⟩
        · have e := Sum.inl.inj e
          subst e
          exact gb bl1 hd (w64 ((i1 : Int) + 1), _) ⟨⟨i1 + 1, w64_succ hlt1 hle1, by omega, q3'⟩, mu_lt hlt1 hle1⟩ (by kernel_rfl)
        cases sum_lr e
      have hlt1 : ¬ i1 < a0.L.length := by have := of_decide_eq_false hc2; omega
      have e := eachN_out q2 hlt1
      cases e
      exact gb bk1 hd _ rfl (by kernel_rfl)
    subst hy
    dsimp only at hm
    have e0 := Option.some.inj hm
    subst e0
    exact gend hd (by kernel_rfl)
def m_gossip_Spread_1 (a0 : g_api_Pool) : Option g_api_Pool :=
  obind (m_slices_Clone_api_Head_api_Head a0.L) fun x1 =>
  some (⟨x1⟩ : g_api_Pool)
theorem w_gossip_Spread_1 {a0 : g_api_Pool} {r : g_api_Pool} (hm : m_gossip_Spread_1 a0 = some r) : Sf prog 59 [ag (e_api_Pool a0)] (ag (e_api_Pool r)) :=
  sp call59 func59 rfl ntmps59 rfl fun D0 As η0 m0 hd => by
    unfold m_gossip_Spread_1 at hm
    obtain ⟨x1, q1, hm⟩ := obind_some hm
    refine gco (s_slices_Clone_api_Head_api_Head q1) (by kernel_rfl) ?_
    have e0 := Option.some.inj hm
    subst e0
    exact gend hd (by kernel_rfl)
def m_gossip_as_api_Pool_api_Pool_59x_b1  (i1 : Int) (x3 : g_api_Pool) (s1 : (List g_api_Pool)) : Option ((List g_api_Pool)) :=
  obind (m_gossip_Spread_1 x3) fun x4 =>
  obind (app 24 s1 ([x4] : List g_api_Pool)) fun x5 =>
  some x5
def m_gossip_as_api_Pool_api_Pool_59x (a0 : List g_api_Pool) : Option (List g_api_Pool) :=
  obind (
    obind (each0 m_gossip_as_api_Pool_api_Pool_59x_b1 a0 0 ([] : List g_api_Pool)) fun x2 =>
    some x2
  ) fun x1 =>
  some x1
theorem w_gossip_as_api_Pool_api_Pool_59x {a0 : List g_api_Pool} {r : List g_api_Pool} (hm : m_gossip_as_api_Pool_api_Pool_59x a0 = some r) : Sp prog 58 [sl e_api_Pool a0, .fn (.func 59) [] []] [] 0 (is (.ow 0) [.row 0 1 _ e_api_Pool r] 1) :=
  sp call58 func58 rfl ntmps58 rfl fun D0 As η0 m0 hd => by
    unfold m_gossip_as_api_Pool_api_Pool_59x at hm
    obtain ⟨x1, q1, hm⟩ := obind_some hm
    obtain ⟨x2, q2, q1⟩ := obind_some q1
    refine gnilU 0 e_api_Pool 5 1 (by kernel_rfl) ?_
    refine glen 0 (E := e_api_Pool) (xs := a0) 8 (by kernel_rfl) fun hle1 => ?_
    refine gjU 0 (fun (_ : Unit) => ⟨[(5, .ow 0)], [(0, .row 0 1 _ e_api_Pool x1)], [], 1⟩) (fun _ => True) (by kernel_rfl) (fun Jp bk1 => ?_) fun _ _ => ?_
    · refine gjU 0 (fun (_ : Unit) => ⟨[(5, .ow 0)], [(0, .row 0 1 _ e_api_Pool x2)], [], 1⟩) (fun _ => True) (by kernel_rfl) (fun Jp bk2 => ?_) fun _ _ => ?_
      · refine gl hd (fun (p : Int × ((List g_api_Pool))) => let (p0, p_0) := p; ⟨[(1, .fn (.func 59) [] []), (5, .ow 0), (8, sl e_api_Pool a0), (9, .d (.i (a0.length : Int))), (10, .d (.i p0))], [(0, .row 0 1 _ e_api_Pool p_0)], [], 1⟩) (fun p => ∃ i : Nat, p.1 = (i : Int) ∧ i ≤ a0.length ∧ each0 m_gossip_as_api_Pool_api_Pool_59x_b1 (a0.drop i) (i : Int) p.2 = some x2) (fun p => a0.length - p.1.toNat) (0, ([] : List g_api_Pool)) ⟨0, rfl, Nat.zero_le _, q2⟩ (by kernel_rfl) ?_
        rintro ⟨_, s1⟩ ⟨i1, rfl, hi, q3⟩ Jl bl1
        refine gi' (b := decide ((i1 : Int) < (a0.length : Int))) (by kernel_rfl) (fun hc1 => ?_) fun hc1 => ?_
        · have hlt1 : i1 < a0.length := by have := of_decide_eq_true hc1; omega
          obtain ⟨x3, y1, q6, q5, q4⟩ := each0_in q3 hlt1
          unfold m_gossip_as_api_Pool_api_Pool_59x_b1 at q5
          refine gidx (k := 1) (E := e_api_Pool) (fun _ => rfl) (fun _ => q6) (by kernel_rfl) ?_
          obtain ⟨x4, q7, q5⟩ := obind_some q5
          refine gc (fun _ => w_gossip_Spread_1 q7) (by kernel_rfl) ?_
          refine glitF (k := 1) e_api_Pool ([x4] : List g_api_Pool) (fun _ => rfl) (by kernel_rfl) ?_
          obtain ⟨x5, q8, q5⟩ := obind_some q5
          refine gapp (k := 1) (E := e_api_Pool) (fun _ => rfl) q8 (by kernel_rfl) ?_
          have e0 := Option.some.inj q5
          subst e0
          exact gb bl1 hd (w64 ((i1 : Int) + 1), x5) ⟨⟨i1 + 1, w64_succ hlt1 hle1, by omega, q4⟩, mu_lt hlt1 hle1⟩ (by kernel_rfl)
        have hlt1 : ¬ i1 < a0.length := by have := of_decide_eq_false hc1; omega
        have e := Eq.symm (each0_out q3 hlt1)
        subst e
        exact gb bk2 hd () trivial (by kernel_rfl)
      have e0 := Option.some.inj q1
      subst e0
      exact gb bk1 hd () trivial (by kernel_rfl)
    have e0 := Option.some.inj hm
    subst e0
    exact gend hd (by kernel_rfl)
def m_gossip_Spread_b3 (s1 : (List g_api_Pool)) (x4 : Int × Int) (i2 : Int) (s2 : Unit) : Option ((Unit) ⊕ Unit) :=
  obind (idx [x4.1, x4.2] (i2 : Int)) fun x8 =>
  if (((decide (x8 < 0)) || (decide (x8 ≥ (s1.length : Int)))) || (x4.1 == x4.2)) = true then
    some (.inr ())
  else
  some (.inl ())
def m_gossip_Spread_b1  (i1 : Int) (x4 : Int × Int) (s1 : (List g_api_Pool)) : Option ((List g_api_Pool)) :=
  obind (
    obind (eachN (m_gossip_Spread_b3 s1 x4) 2 0 ()) fun x6 => match x6 with
    | .inr _ =>
      some s1
    | .inl y2 =>
    obind (idx s1 x4.1) fun x9 =>
    obind (idx s1 x4.2) fun x10 =>
    obind (m_gossip_Merge x9 x10) fun x11 =>
    obind (m_slices_Clone_api_Head_api_Head x11.L) fun x12 =>
    obind (idx s1 x4.1) fun x13 =>
    bnd (s1.set x4.1.toNat x11) fun x14 =>
    obind (idx x14 x4.2) fun x15 =>
    bnd (x14.set x4.2.toNat (⟨x12⟩ : g_api_Pool)) fun x16 =>
    some x16
  ) fun x5 =>
  some x5
def m_gossip_Spread (a0 : List g_api_Pool) (a1 : List (Int × Int)) : Option (List g_api_Pool) :=
  obind (m_gossip_as_api_Pool_api_Pool_59x a0) fun x1 =>
  obind (
    obind (each0 m_gossip_Spread_b1 a1 0 x1) fun x3 =>
    some x3
  ) fun x2 =>
  some x2
theorem w_gossip_Spread {a0 : List g_api_Pool} {a1 : List (Int × Int)} {r : List g_api_Pool} (hm : m_gossip_Spread a0 a1 = some r) : Sp prog 26 [sl e_api_Pool a0, sl e_a2_eI a1] [] 0 (is (.ow 0) [.row 0 1 _ e_api_Pool r] 1) :=
  sp call26 func26 rfl ntmps26 rfl fun D0 As η0 m0 hd => by
    unfold m_gossip_Spread at hm
    obtain ⟨x1, q1, hm⟩ := obind_some hm
    refine gco (w_gossip_as_api_Pool_api_Pool_59x q1) (by kernel_rfl) ?_
    obtain ⟨x2, q2, hm⟩ := obind_some hm
    obtain ⟨x3, q3, q2⟩ := obind_some q2
    refine glen 0 (E := e_a2_eI) (xs := a1) 13 (by kernel_rfl) fun hle1 => ?_
    refine gjU 0 (fun (_ : Unit) => ⟨[(5, .ow 0)], [(0, .row 0 1 _ e_api_Pool x2)], [], 1⟩) (fun _ => True) (by kernel_rfl) (fun Jp bk1 => ?_) fun _ _ => ?_
    · refine gjU 0 (fun (_ : Unit) => ⟨[(5, .ow 0)], [(0, .row 0 1 _ e_api_Pool x3)], [], 1⟩) (fun _ => True) (by kernel_rfl) (fun Jp bk2 => ?_) fun _ _ => ?_
      · refine gl hd (fun (p : Int × ((List g_api_Pool))) => let (p0, p_0) := p; ⟨[(5, .ow 0), (13, sl e_a2_eI a1), (14, .d (.i (a1.length : Int))), (15, .d (.i p0))], [(0, .row 0 1 _ e_api_Pool p_0)], [], 1⟩) (fun p => ∃ i : Nat, p.1 = (i : Int) ∧ i ≤ a1.length ∧ each0 m_gossip_Spread_b1 (a1.drop i) (i : Int) p.2 = some x3) (fun p => a1.length - p.1.toNat) (0, x1) ⟨0, rfl, Nat.zero_le _, q3⟩ (by kernel_rfl) ?_
        rintro ⟨_, s1⟩ ⟨i1, rfl, hi, q4⟩ Jl bl1
        refine gi' (b := decide ((i1 : Int) < (a1.length : Int))) (by kernel_rfl) (fun hc3 => ?_) fun hc3 => ?_
        · have hlt1 : i1 < a1.length := by have := of_decide_eq_true hc3; omega
          obtain ⟨x4, y1, q7, q6, q5⟩ := each0_in q4 hlt1
          unfold m_gossip_Spread_b1 at q6
          obtain ⟨x5, q8, q6⟩ := obind_some q6
          refine gjU 1 (fun (_ : Unit) => ⟨[(5, .ow 0), (13, sl e_a2_eI a1), (14, .d (.i (a1.length : Int))), (15, .d (.i (i1 : Int)))], [(0, .row 0 1 _ e_api_Pool x5)], [], 1⟩) (fun _ => True) (by kernel_rfl) (fun Jp bk3 => ?_) fun _ _ => ?_
          · skip
            refine gidx (k := 2) (E := e_a2_eI) (fun _ => rfl) (fun _ => q7) (by kernel_rfl) ?_
            obtain ⟨x6, q9, q8⟩ := obind_some q8
            refine gjU 2 (fun (y2 : Unit) => ⟨[(5, .ow 0), (7, .pb 1 0), (13, sl e_a2_eI a1), (14, .d (.i (a1.length : Int))), (15, .d (.i (i1 : Int)))], [(0, .box 1 [.d (.i x4.1), .d (.i x4.2)] 73), (1, .row 0 1 _ e_api_Pool s1)], [], 2⟩) (fun y2 => x6 = .inl y2) (by kernel_rfl) (fun Jp bk4 => ?_) fun y2 hy => ?_
            · refine gl hd (fun (p : Int × (Unit)) => let (p0, _) := p; ⟨[(5, .ow 0), (7, .pb 1 0), (13, sl e_a2_eI a1), (14, .d (.i (a1.length : Int))), (15, .d (.i (i1 : Int))), (19, .agg [.d (.i x4.1), .d (.i x4.2)]), (20, .d (.i p0))], [(0, .box 1 [.d (.i x4.1), .d (.i x4.2)] 73), (1, .row 0 1 _ e_api_Pool s1)], [], 2⟩) (fun p => ∃ i : Nat, p.1 = (i : Int) ∧ i ≤ 2 ∧ eachN (m_gossip_Spread_b3 s1 x4) (2 - i) (i : Int) p.2 = some x6) (fun p => 2 - p.1.toNat) (0, ()) ⟨0, rfl, Nat.zero_le _, q9⟩ (by kernel_rfl) ?_
              rintro ⟨_, s2⟩ ⟨i2, rfl, hi, q10⟩ Jl bl2
              refine gi' (b := decide ((i2 : Int) < (2 : Int))) (by kernel_rfl) (fun hc2 => ?_) fun hc2 => ?_
              · have hlt2 : i2 < 2 := by have := of_decide_eq_true hc2; omega
                obtain ⟨y3, q12, q11⟩ := eachN_in q10 hlt2
                unfold m_gossip_Spread_b3 at q12
                obtain ⟨x8, q14, q12⟩ := obind_some q12
                refine gidxV (k := 1) (ag := false) (E := eI) ([x4.1, x4.2] : List Int) (fun _ => rfl) (fun _ => q14) (by kernel_rfl) ?_
                refine gi q12 (by kernel_rfl) (fun hc1 q12 => ?_) fun hc1 q12 => ?_
                · skip
                  have e0 := Option.some.inj q12
                  subst e0
                  cases q12
                  rcases q11 with ⟨sn, e, _⟩ | ⟨tn, e, e2⟩
                  · cases e
                  cases e
                  cases e2
                  dsimp only at q8
                  have e0 := Option.some.inj q8
                  subst e0
                  exact gb bk3 hd () trivial (by kernel_rfl)
                have e0 := Option.some.inj q12
                subst e0
                rcases q11 with ⟨sn, e, q11'⟩ | ⟨tn, e, _⟩
                · have e := Sum.inl.inj e
                  subst e
                  exact gb bl2 hd (w64 ((i2 : Int) + 1), _) ⟨⟨i2 + 1, w64_succ hlt2 (by decide), by omega, q11'⟩, mu_lt hlt2 (by decide)⟩ (by kernel_rfl)
                cases sum_lr e
              have hlt2 : ¬ i2 < 2 := by have := of_decide_eq_false hc2; omega
              have e := eachN_out q10 hlt2
              cases e
              exact gb bk4 hd _ rfl (by kernel_rfl)
            subst hy
            dsimp only at q8
            obtain ⟨x9, q15, q8⟩ := obind_some q8
            refine gidxO (E := e_api_Pool) (fun _ => q15) (by kernel_rfl) ?_
            refine gldO (k := 1) (fo := 0) (nn := 1) (ag := true) (E := e_api_Pool) (fun _ => rfl) (fun _ => q15) (by kernel_rfl) ?_
            obtain ⟨x10, q16, q8⟩ := obind_some q8
            refine gidxO (E := e_api_Pool) (fun _ => q16) (by kernel_rfl) ?_
            refine gldO (k := 1) (fo := 0) (nn := 1) (ag := true) (E := e_api_Pool) (fun _ => rfl) (fun _ => q16) (by kernel_rfl) ?_
            obtain ⟨x11, q17, q8⟩ := obind_some q8
            refine gc (fun _ => w_gossip_Merge q17) (by kernel_rfl) ?_
            obtain ⟨x12, q18, q8⟩ := obind_some q8
            refine gco (s_slices_Clone_api_Head_api_Head q18) (by kernel_rfl) ?_
            obtain ⟨x13, q19, q8⟩ := obind_some q8
            refine gidxO (E := e_api_Pool) (fun _ => q19) (by kernel_rfl) ?_
            have q8 := bnd_is q8
            let x14 : List g_api_Pool := (s1.set x4.1.toNat x11)
            refine gstO (k := 1) (E := e_api_Pool) x11 (fun _ => rfl) q19 (by kernel_rfl) ?_
            obtain ⟨x15, q21, q8⟩ := obind_some q8
            refine gidxO (E := e_api_Pool) (fun _ => q21) (by kernel_rfl) ?_
            have q8 := bnd_is q8
            let x16 : List g_api_Pool := (x14.set x4.2.toNat (⟨x12⟩ : g_api_Pool))
            refine gstO (k := 1) (E := e_api_Pool) (⟨x12⟩ : g_api_Pool) (fun _ => rfl) q21 (by kernel_rfl) ?_
            have e0 := Option.some.inj q8
            subst e0
            exact gb bk3 hd () trivial (by kernel_rfl)
          have e0 := Option.some.inj q6
          subst e0
          exact gb bl1 hd (w64 ((i1 : Int) + 1), x5) ⟨⟨i1 + 1, w64_succ hlt1 hle1, by omega, q5⟩, mu_lt hlt1 hle1⟩ (by kernel_rfl)
        have hlt1 : ¬ i1 < a1.length := by have := of_decide_eq_false hc3; omega
        have e := Eq.symm (each0_out q4 hlt1)
        subst e
        exact gb bk2 hd () trivial (by kernel_rfl)
      have e0 := Option.some.inj q2
      subst e0
      exact gb bk1 hd () trivial (by kernel_rfl)
    have e0 := Option.some.inj hm
    subst e0
    exact gend hd (by kernel_rfl)
def m_sign_some (a0 : ByteArray) (a1 : List (List UInt8)) : Option UInt64 :=
  obind (m_hash_Tagged a0 a1) fun x1 =>
  obind (m_hash_Num x1 1152921504606845788) fun x2 =>
  some (x2 + 1)
theorem w_sign_some {a0 : ByteArray} {a1 : List (List UInt8)} {r : UInt64} (hm : m_sign_some a0 a1 = some r) : Sf prog 83 [.d (.s a0), sl (eL eB) a1] (.d (.u r)) :=
  sp call83 func83 rfl ntmps83 rfl fun D0 As η0 m0 hd => by
    unfold m_sign_some at hm
    obtain ⟨x1, q1, hm⟩ := obind_some hm
    refine gc (fun _ => w_hash_Tagged q1) (by kernel_rfl) ?_
    obtain ⟨x2, q2, hm⟩ := obind_some hm
    refine gc (fun _ => w_hash_Num q2) (by kernel_rfl) ?_
    have e0 := Option.some.inj hm
    subst e0
    exact gend hd (by kernel_rfl)
def m_sign_Secret (a0 : List UInt8) : Option UInt64 :=
  obind (m_sign_some (⟨#[115, 101, 99, 114, 101, 116]⟩ : ByteArray) ([a0] : List (List UInt8))) fun x1 =>
  some x1
theorem w_sign_Secret {a0 : List UInt8} {r : UInt64} (hm : m_sign_Secret a0 = some r) : Sf prog 63 [sl eB a0] (.d (.u r)) :=
  sp call63 func63 rfl ntmps63 rfl fun D0 As η0 m0 hd => by
    unfold m_sign_Secret at hm
    refine glitF (k := 1) (eL eB) ([a0] : List (List UInt8)) (fun _ => rfl) (by kernel_rfl) ?_
    obtain ⟨x1, q1, hm⟩ := obind_some hm
    refine gc (fun _ => w_sign_some q1) (by kernel_rfl) ?_
    have e0 := Option.some.inj hm
    subst e0
    exact gend hd (by kernel_rfl)
def m_slices_Grow_api_Leaf_api_Leaf_nil (a1 : Int) : Option (List g_api_Leaf) :=
  obind (
    if (decide (a1 < 0)) = true then
      none
    else
    some ()
  ) fun x1 =>
  obind (
    bnd ((w64 (a1 - (w64 (0 - ((0 : Nat) : Int)))))) fun x3 =>
    if (decide (x3 > 0)) = true then
      if 0 ≤ x3 ∧ x3 * 32 ≤ 140737488355328 ∧ x3 ≤ 140737488355328 then
        some ([] : List g_api_Leaf)
      else none
    else
    some ([] : List g_api_Leaf)
  ) fun x2 =>
  some x2
theorem w_slices_Grow_api_Leaf_api_Leaf_nil {m : Mem} {As : List Ow} {w : World} {a1 : Int} {r : List g_api_Leaf} (S : St m (As) w) (hm : m_slices_Grow_api_Leaf_api_Leaf_nil a1 = some r) :
    CallsR Tryz.prog 134 #[.slice none 0 0, vI a1] w fun v w' => ∃ (M : Mem), m ≤ M ∧ ∃ (rv0 : Value) (rc0 : List Value), St M ((row 2 rv0 rc0 r.length) :: As) w' ∧ v = rv0 ∧ RepL M rc0 r := by
 unfold m_slices_Grow_api_Leaf_api_Leaf_nil at hm
 have L0 := Mem.rfl' m
 refine callsR (args := [.slice none 0 0, vI a1]) func134 rfl ntmps134 (nb rfl) <| ws <| s_asv (v := .slice none 0 0) rfl <| wpl_nil <| nrm ?_
 obtain ⟨x1, q1, hm⟩ := obind_some hm
 have L1 := Mem.rfl' m
 refine wpc_seq <| wpc_join [5, 6, 7] (fun f' w' => ∃ (M1 : Mem), m ≤ M1 ∧ St M1 (As) w' ∧ AllAt f' []) ?_ ?_
 · refine ws <| s_mvv (v := vI a1) rfl <| s_lss (m := a1) (n := 0) rfl rfl <| wpl_nil <| nrm <| wpc_if (t := (decide (a1 < 0))) rfl (fun hc1 => ?_) (fun hc1 => ?_)
   · replace q1 := ifT hc1 q1
     cases q1
   replace q1 := ifF hc1 q1
   refine wpc_skip <| nrm ?_
   have e0 := Option.some.inj q1
   subst e0
   exact ⟨outP, m, L1, S, trivial⟩
 rintro f1 w1 ho ⟨m1, l1, S1, ha⟩
 obtain ⟨u1, rfl⟩ := fr_of (N := 27) ho ha
 clear S
 obtain ⟨x2, q2, hm⟩ := obind_some hm
 have L2 := Mem.rfl' m1
 refine wpc_seq <| wpc_join [0, 1, 8, 9, 10, 11, 12, 13, 14, 15, 16, 17, 18, 19, 20, 21, 22, 23, 24, 25] (fun f' w' => ∃ (M2 : Mem) (v1 : Value) (c1 : List Value), m1 ≤ M2 ∧ St M2 ((row 2 v1 c1 x2.length) :: As) w' ∧ RepL M2 c1 x2 ∧ AllAt f' [(0, v1)]) ?_ ?_
 · refine ws <| s_mvv (v := vI a1) rfl <| s_mvv (v := .slice none 0 0) rfl <| s_capNil rfl underlying62 <| s_mvv (v := .slice none 0 0) rfl <| s_len (n := 0) rfl underlying62 <| s_subI (m := 0) (n := ((0 : Nat) : Int)) rfl rfl <| s_subI (m := a1) (n := (w64 (0 - ((0 : Nat) : Int)))) rfl rfl ?_
   obtain ⟨x3, q3, q2⟩ := bnd_eq q2
   refine s_asv (v := vI x3) (congrArg (fun z => vI z) q3.symm) <| nx <| s_mvv (v := vI x3) rfl <| s_gtr (m := x3) (n := 0) rfl rfl <| wpl_nil <| nrm <| wpc_if (t := (decide (x3 > 0))) rfl (fun hc2 => ?_) (fun hc2 => ?_)
   · replace q2 := ifT hc2 q2
     refine wpc_region <| s_mvv (v := .slice none 0 0) rfl <| s_mvv (v := .slice none 0 0) rfl <| s_capNil rfl underlying62 <| s_cutN rfl underlying62 sizeOf126 rfl <| s_mvv (v := vI x3) rfl ?_
     obtain ⟨q4, q2⟩ := if_some q2
     refine s_appN (bytes := 32) (sz := 2) (k := x3) (ti := Tryz.t126) S1 rfl rfl q4 underlying62 underlying3 type126 rfl rfl rfl rfl fun v2 c2 w2 S2 => ?_
     replace S2 : St _ ((row 2 v2 c2 x3.toNat) :: As) _ := S2
     clear S1
     refine s_mvv (v := .slice none 0 0) rfl <| s_len (n := 0) rfl underlying62 <| s_cutO (i := 0) S2 rfl rfl underlying62 sizeOf126 rfl (j := 0) rfl (Int.le_refl 0) (Int.natCast_nonneg _) fun v3 S3 => ?_
     rw [show c2.take ((0 : Int).toNat * 2) = [] from by simp] at S3
     have h2 : RepL m1 [] ([] : List g_api_Leaf) := RepL.nil
     replace S3 : St _ ((row 2 v3 [] ([] : List g_api_Leaf).length) :: As) _ := S3
     clear S2
     refine s_asv (v := v3) rfl <| wpl_nil <| nrm ?_
     have e0 := Option.some.inj q2
     subst e0
     exact ⟨outP, m1, _, _, L2, S3, h2, ⟨rfl, trivial⟩⟩
   replace q2 := ifF hc2 q2
   refine wpc_skip <| nrm ?_
   have S4 := St.rowNil S1 2
   have h3 : RepL m1 [] ([] : List g_api_Leaf) := RepL.nil
   replace S4 : St _ ((row 2 (.slice none 0 0) [] ([] : List g_api_Leaf).length) :: As) _ := S4
   clear S1
   have e0 := Option.some.inj q2
   subst e0
   exact ⟨outP, m1, _, _, L2, S4, h3, ⟨rfl, trivial⟩⟩
 rintro f2 w3 ho ⟨m2, v1, c1, l2, S5, h1, ha⟩
 obtain ⟨u2, rfl⟩ := fr_of (N := 27) ho ha
 clear S1
 refine ws <| s_mvv (v := v1) rfl <| s_asv (v := v1) rfl <| wpl_nil <| nrm <| wpc_ret <| outRw fun we hpd => ?_
 replace S5 := St.pd S5 hpd
 have e0 := Option.some.inj hm
 subst e0
 replace L0 := Mem.tr L0 (mt l1 l2)
 exact outR [_] rfl ⟨rfl, trivial⟩ ⟨_, L0, _, _, S5, rfl, h1⟩
def m_slices_Concat_api_Leaf_api_Leaf_b1  (i1 : Int) (x3 : List g_api_Leaf) (s1 : Int) : Option (Int) :=
  obind (
    bnd ((w64 (s1 + (x3.length : Int)))) fun x5 =>
    if (decide (x5 < 0)) = true then
      none
    else
    some x5
  ) fun x4 =>
  some x4
def m_slices_Concat_api_Leaf_api_Leaf_b2  (i2 : Int) (x9 : List g_api_Leaf) (s2 : (List g_api_Leaf)) : Option ((List g_api_Leaf)) :=
  obind (app 32 s2 x9) fun x10 =>
  some x10
def m_slices_Concat_api_Leaf_api_Leaf (a0 : List (List g_api_Leaf)) : Option (List g_api_Leaf) :=
  obind (
    obind (each0 m_slices_Concat_api_Leaf_api_Leaf_b1 a0 0 0) fun x2 =>
    some x2
  ) fun x1 =>
  obind (m_slices_Grow_api_Leaf_api_Leaf_nil x1) fun x6 =>
  obind (
    obind (each0 m_slices_Concat_api_Leaf_api_Leaf_b2 a0 0 x6) fun x8 =>
    some x8
  ) fun x7 =>
  some x7
theorem w_slices_Concat_api_Leaf_api_Leaf {m : Mem} {As : List Ow} {w : World} {a0 : List (List g_api_Leaf)} {a0v0 : Value} {r : List g_api_Leaf} (S : St m (As) w) (a0h0 : SlR m a0v0 a0) (hm : m_slices_Concat_api_Leaf_api_Leaf a0 = some r) :
    CallsR Tryz.prog 110 #[a0v0] w fun v w' => ∃ (M : Mem), m ≤ M ∧ ∃ (rv0 : Value) (rc0 : List Value), St M ((row 2 rv0 rc0 r.length) :: As) w' ∧ v = rv0 ∧ RepL M rc0 r := by
 unfold m_slices_Concat_api_Leaf_api_Leaf at hm
 have L0 := Mem.rfl' m
 refine callsR (args := [a0v0]) func110 rfl ntmps110 (nb rfl) <| ws <| s_asv (v := .slice none 0 0) rfl <| nx <| s_asv (v := vI 0) rfl <| wpl_nil <| nrm ?_
 obtain ⟨x1, q1, hm⟩ := obind_some hm
 have L1 := Mem.rfl' m
 refine wpc_seq <| wpc_join [3, 5, 9, 10, 11, 12, 13, 14, 15, 16, 17, 18, 19, 20, 21, 22] (fun f' w' => ∃ (M1 : Mem), m ≤ M1 ∧ St M1 (As) w' ∧ AllAt f' [(3, vI x1)]) ?_ ?_
 · refine ws <| s_mvv (v := a0v0) rfl <| s_lenR (xs := a0) rfl a0h0 underlying163 <| s_mvv (v := vI 0) rfl <| wpl_nil <| nrm ?_
   obtain ⟨x2, q2, q1⟩ := obind_some q1
   have L2 := Mem.rfl' m
   refine wpc_join [3, 5, 11, 12, 13, 14, 15, 16, 17, 18, 19, 20, 21, 22] (fun f' w' => ∃ (M2 : Mem), m ≤ M2 ∧ St M2 (As) w' ∧ AllAt f' [(3, vI x2)]) ?_ ?_
   · refine wpc_block <| wpc_rounds [3, 5, 11, 12, 13, 14, 15, 16, 17, 18, 19, 20, 21, 22] (fun n1 f' w' => ∃ (i1 : Nat) (s1 : Int) (m3 : Mem), n1 = a0.length - i1 ∧ i1 ≤ a0.length ∧ each0 m_slices_Concat_api_Leaf_api_Leaf_b1 (a0.drop i1) (i1 : Int) s1 = some x2 ∧ m ≤ m3 ∧ St m3 (As) w' ∧ AllAt f' [(11, vI (i1 : Int)), (3, vI s1)]) a0.length ⟨0, 0, m, rfl, Nat.zero_le _, q2, L2, S, ⟨rfl, rfl, trivial⟩⟩ ?_
     rintro n1 f1 w1 ho ⟨i1, s1, m1, hn, hi, q3, L4, S1, ha⟩
     obtain ⟨u1, rfl⟩ := fr_of (N := 36) ho ha
     clear ho ha
     have L3 := Mem.rfl' m1
     clear S
     refine ws <| s_lss (m := (i1 : Int)) (n := (a0.length : Int)) rfl rfl <| wpl_nil <| nrm <| wpc_seq <| wpc_if (t := decide ((i1 : Int) < (a0.length : Int))) rfl (fun hc2 => ?_) (fun hc2 => ?_)
     · have hlt1 : i1 < a0.length := by have := of_decide_eq_true hc2; omega
       obtain ⟨x3, y1, q6, q5, q4⟩ := each0_in q3 hlt1
       unfold m_slices_Concat_api_Leaf_api_Leaf_b1 at q5
       refine wpc_skip <| nrm ?_
       obtain ⟨x4, q7, q5⟩ := obind_some q5
       have L5 := Mem.rfl' m1
       refine wpc_seq <| wpc_join [3, 5, 13, 14, 15, 16, 17, 18, 19, 20, 21] (fun f' w' => ∃ (M3 : Mem), m1 ≤ M3 ∧ St M3 (As) w' ∧ AllAt f' [(3, vI x4)]) ?_ ?_
       · refine wpc_block <| ws <| s_idx (q := x3) rfl rfl (a0h0.up L4) q6 underlying163 sizeOf62 fun p1 c1 h1 r1 => ?_
         obtain ⟨v1, rfl, h2⟩ := r1
         refine s_ldM (cs := [v1]) S1 rfl h1 rfl isAgg62 sizeOf62 (fun _ => rfl) <| s_asv (v := v1) rfl <| nx <| s_mvv (v := vI s1) rfl <| s_mvv (v := v1) rfl <| s_lenR (xs := x3) rfl h2 underlying62 <| s_addI (m := s1) (n := (x3.length : Int)) rfl rfl ?_
         obtain ⟨x5, q8, q7⟩ := bnd_eq q7
         refine s_asv (v := vI x5) (congrArg (fun z => vI z) q8.symm) <| nx <| s_mvv (v := vI x5) rfl <| s_lss (m := x5) (n := 0) rfl rfl <| wpl_nil <| nrm <| wpc_if (t := (decide (x5 < 0))) rfl (fun hc1 => ?_) (fun hc1 => ?_)
         · replace q7 := ifT hc1 q7
           cases q7
         replace q7 := ifF hc1 q7
         refine wpc_skip <| nrmB <| nrm ?_
         have e0 := Option.some.inj q7
         subst e0
         exact ⟨outP, m1, L5, S1, ⟨rfl, trivial⟩⟩
       rintro f2 w2 ho ⟨m2, l1, S2, ha⟩
       obtain ⟨u2, rfl⟩ := fr_of (N := 36) ho ha
       clear S1
       refine wpc_region <| s_addI (m := (i1 : Int)) (n := 1) rfl rfl <| s_mvv (v := vI (w64 ((i1 : Int) + 1))) rfl <| wpl_nil <| nrm ?_
       have e0 := Option.some.inj q5
       subst e0
       replace a0h0 := a0h0.up (mt L4 l1)
       replace L3 := Mem.tr L3 l1
       exact ⟨outP, _, (by omega), ⟨i1 + 1, x4, m2, rfl, hlt1, q4, Mem.tr L4 L3, S2, ⟨congrArg (Value.int .i64) (w64_succ hlt1 (SlR.le a0h0)), rfl, trivial⟩⟩⟩
     have hlt1 : ¬ i1 < a0.length := by have := of_decide_eq_false hc2; omega
     have e := Eq.symm (each0_out q3 hlt1)
     subst e
     exact wpc_exit <| thE <| thE <| exB <| nrm <| ⟨outP, m1, Mem.tr L4 L3, S1, ⟨rfl, trivial⟩⟩
   rintro f3 w3 ho ⟨m4, l2, S3, ha⟩
   obtain ⟨u3, rfl⟩ := fr_of (N := 36) ho ha
   clear ho ha S
   have e0 := Option.some.inj q1
   subst e0
   replace L1 := Mem.tr L1 l2
   exact ⟨outP, m4, L1, S3, ⟨rfl, trivial⟩⟩
 rintro f4 w4 ho ⟨m5, l3, S4, ha⟩
 obtain ⟨u4, rfl⟩ := fr_of (N := 36) ho ha
 clear S
 refine ws <| s_mvv (v := vI x1) rfl ?_
 obtain ⟨x6, q9, hm⟩ := obind_some hm
 refine s_call call134 (w_slices_Grow_api_Leaf_api_Leaf_nil (a1 := x1) S4  q9) rfl ?_
 rintro v2 w5 ⟨m6, l4, _, c2, S5, rfl, h3⟩
 clear S4
 refine s_asv (v := v2) rfl <| wpl_nil <| nrm ?_
 obtain ⟨x7, q10, hm⟩ := obind_some hm
 have L6 := Mem.rfl' m6
 refine wpc_seq <| wpc_join [6, 8, 25, 26, 27, 28, 29, 30, 31, 32, 33, 34] (fun f' w' => ∃ (M4 : Mem) (v3 : Value) (c3 : List Value), m6 ≤ M4 ∧ St M4 ((row 2 v3 c3 x7.length) :: As) w' ∧ RepL M4 c3 x7 ∧ AllAt f' [(6, v3)]) ?_ ?_
 · refine ws <| s_mvv (v := a0v0) rfl ?_
   replace a0h0 := a0h0.up (mt l3 l4)
   refine s_lenR (xs := a0) rfl a0h0 underlying163 <| s_mvv (v := vI 0) rfl <| wpl_nil <| nrm ?_
   obtain ⟨x8, q11, q10⟩ := obind_some q10
   have L7 := Mem.rfl' m6
   refine wpc_join [6, 8, 27, 28, 29, 30, 31, 32, 33, 34] (fun f' w' => ∃ (M5 : Mem) (v5 : Value) (c5 : List Value), m6 ≤ M5 ∧ St M5 ((row 2 v5 c5 x8.length) :: As) w' ∧ RepL M5 c5 x8 ∧ AllAt f' [(6, v5)]) ?_ ?_
   · refine wpc_block <| wpc_rounds [6, 8, 27, 28, 29, 30, 31, 32, 33, 34] (fun n2 f' w' => ∃ (i2 : Nat) (s2 : (List g_api_Leaf)) (m8 : Mem) (v4 : Value) (c4 : List Value), n2 = a0.length - i2 ∧ i2 ≤ a0.length ∧ each0 m_slices_Concat_api_Leaf_api_Leaf_b2 (a0.drop i2) (i2 : Int) s2 = some x8 ∧ m6 ≤ m8 ∧ St m8 ((row 2 v4 c4 s2.length) :: As) w' ∧ RepL m8 c4 s2 ∧ AllAt f' [(27, vI (i2 : Int)), (6, v4)]) a0.length ⟨0, x6, m6, _, _, rfl, Nat.zero_le _, q11, L7, S5, h3, ⟨rfl, rfl, trivial⟩⟩ ?_
     rintro n2 f5 w6 ho ⟨i2, s2, m7, v4, c4, hn, hi, q12, L9, S6, h5, ha⟩
     obtain ⟨u5, rfl⟩ := fr_of (N := 36) ho ha
     clear ho ha
     have L8 := Mem.rfl' m7
     clear S5
     refine ws <| s_lss (m := (i2 : Int)) (n := (a0.length : Int)) rfl rfl <| wpl_nil <| nrm <| wpc_seq <| wpc_if (t := decide ((i2 : Int) < (a0.length : Int))) rfl (fun hc3 => ?_) (fun hc3 => ?_)
     · have hlt2 : i2 < a0.length := by have := of_decide_eq_true hc3; omega
       obtain ⟨x9, y2, q15, q14, q13⟩ := each0_in q12 hlt2
       unfold m_slices_Concat_api_Leaf_api_Leaf_b2 at q14
       refine wpc_skip <| nrm <| wpc_seq <| wpc_block <| ws <| s_idx (q := x9) rfl rfl (a0h0.up L9) q15 underlying163 sizeOf62 fun p2 c6 h7 r6 => ?_
       obtain ⟨v6, rfl, h8⟩ := r6
       refine s_ldM (cs := [v6]) S6 rfl h7 rfl isAgg62 sizeOf62 (fun _ => rfl) <| s_asv (v := v6) rfl <| wpl_nil <| nrm <| wpc_region <| s_mvv (v := v4) rfl <| s_mvv (v := v6) rfl ?_
       obtain ⟨x10, q16, q14⟩ := obind_some q14
       refine s_app (i := 0) (zs := x10) (bytes := 32) (ti := Tryz.t126) S6 rfl rfl h5 rfl rfl h8 q16 underlying62 type126 rfl rfl rfl rfl fun v7 c7 w7 S7 h9 => ?_
       replace S7 : St _ ((row 2 v7 c7 x10.length) :: As) _ := S7
       clear S6
       refine s_asv (v := v7) rfl <| wpl_nil <| nrmB <| nrm <| wpc_region <| s_addI (m := (i2 : Int)) (n := 1) rfl rfl <| s_mvv (v := vI (w64 ((i2 : Int) + 1))) rfl <| wpl_nil <| nrm ?_
       have e0 := Option.some.inj q14
       subst e0
       exact ⟨outP, _, (by omega), ⟨i2 + 1, x10, m7, _, _, rfl, hlt2, q13, Mem.tr L9 L8, S7, h9, ⟨congrArg (Value.int .i64) (w64_succ hlt2 (SlR.le (a0h0.up L9))), rfl, trivial⟩⟩⟩
     have hlt2 : ¬ i2 < a0.length := by have := of_decide_eq_false hc3; omega
     have e := Eq.symm (each0_out q12 hlt2)
     subst e
     exact wpc_exit <| thE <| thE <| exB <| nrm <| ⟨outP, m7, _, _, Mem.tr L9 L8, S6, h5, ⟨rfl, trivial⟩⟩
   rintro f6 w8 ho ⟨m9, v5, c5, l5, S8, h6, ha⟩
   obtain ⟨u6, rfl⟩ := fr_of (N := 36) ho ha
   clear ho ha S5
   have e0 := Option.some.inj q10
   subst e0
   replace L6 := Mem.tr L6 l5
   exact ⟨outP, m9, _, _, L6, S8, h6, ⟨rfl, trivial⟩⟩
 rintro f7 w9 ho ⟨m10, v3, c3, l6, S9, h4, ha⟩
 obtain ⟨u7, rfl⟩ := fr_of (N := 36) ho ha
 clear S5
 refine ws <| s_mvv (v := v3) rfl <| s_asv (v := v3) rfl <| wpl_nil <| nrm <| wpc_ret <| outRw fun we hpd => ?_
 replace S9 := St.pd S9 hpd
 have e0 := Option.some.inj hm
 subst e0
 replace L0 := Mem.tr L0 (mt l3 (mt l4 l6))
 exact outR [_] rfl ⟨rfl, trivial⟩ ⟨_, L0, _, _, S9, rfl, h4⟩
theorem s_slices_Concat_api_Leaf_api_Leaf {a0 : List (List g_api_Leaf)} {r : List g_api_Leaf} (hm : m_slices_Concat_api_Leaf_api_Leaf a0 = some r) : Sp prog 110 [sl (eL e_api_Leaf) a0] [] 0 (is (.ow 0) [.row 0 2 _ e_api_Leaf r] 1) :=
  ⟨call110, fun η m As w vs hv0 hd S => by
    have S : St m As w := S
    obtain ⟨v0, u0, rfl, r0, hv1⟩ := RelL.cons_inv hv0
    have f0 := Br.ofS (Br.sl b_api_Leaf) r0.dd
    obtain rfl := RelL.nil_inv hv1
    refine CallsR.mono (w_slices_Concat_api_Leaf_api_Leaf S f0 hm) ?_
    rintro v w' ⟨M, hle, y0, c0, S0, rfl, h0⟩
    exact ⟨M, (envL [v]), _, _, _, hle, dom0 hd _, ⟨rfl, rfl, rfl⟩, envL_dom rfl, (.ow rfl (row_one S0)), (St.impL S0 (sepC (Br.toR b_api_Leaf rfl rfl (row_one S0) h0) fun _ h => h))⟩⟩
def m_logd_all (a0 : g_api_Log) : Option (List g_api_Leaf) :=
  obind (m_slices_Concat_api_Leaf_api_Leaf ([a0.L, a0.Wait] : List (List g_api_Leaf))) fun x1 =>
  some x1
theorem w_logd_all {a0 : g_api_Log} {r : List g_api_Leaf} (hm : m_logd_all a0 = some r) : Sp prog 84 [ag (e_api_Log a0)] [] 0 (is (.ow 0) [.row 0 2 _ e_api_Leaf r] 1) :=
  sp call84 func84 rfl ntmps84 rfl fun D0 As η0 m0 hd => by
    unfold m_logd_all at hm
    refine glitF (k := 1) (eL e_api_Leaf) ([a0.L, a0.Wait] : List (List g_api_Leaf)) (fun _ => rfl) (by kernel_rfl) ?_
    obtain ⟨x1, q1, hm⟩ := obind_some hm
    refine gco (s_slices_Concat_api_Leaf_api_Leaf q1) (by kernel_rfl) ?_
    have e0 := Option.some.inj hm
    subst e0
    exact gend hd (by kernel_rfl)
theorem v_logd_all {m : Mem} {As : List Ow} {w : World} {a0 : g_api_Log} {a0v3 : Value} {a0v4 : Value} {a0v5 : Value} {r : List g_api_Leaf} (S : St m As w) (a0h3 : SlR m a0v3 a0.L) (a0h4 : SlR m a0v4 a0.Hide) (a0h5 : SlR m a0v5 a0.Wait) (hm : m_logd_all a0 = some r) :
    CallsR prog 84 #[.agg #[vI a0.Id, vU a0.Key, vI a0.Delay, a0v3, a0v4, a0v5]] w fun v w' => ∃ (M : Mem), m ≤ M ∧ ∃ (rv0 : Value) (rc0 : List Value), St M ((row 2 rv0 rc0 r.length) :: As) w' ∧ v = rv0 ∧ RepL M rc0 r := by
  refine CallsR.mono ((w_logd_all hm).2 none0 m As w [.agg #[vI a0.Id, vU a0.Key, vI a0.Delay, a0v3, a0v4, a0v5]] (.cons (Br.toA b_api_Log (mk_g_api_Log a0h3 a0h4 a0h5)) .nil) (fun n h => absurd rfl h) S) ?_
  rintro v w' ⟨M, η', r', obs', n1, hle, _, ⟨rfl, rfl, rfl⟩, hdom, hR, S'⟩
  obtain ⟨n0, o0⟩ := hR.ow_inv
  obtain ⟨y0, c0, k0, _, d0, _, S'⟩ := St.openRow S'
  rw [n0] at k0; obtain rfl := Option.some.inj k0
  exact ⟨M, hle, v, c0, S', rfl, Br.ofL b_api_Leaf d0⟩
def m_logd_isBody (a0 : List UInt8) : Option Bool :=
  bnd (((decide ((a0.length : Int) > 0)) && (decide ((a0.length : Int) ≤ 2048)))) fun x1 =>
  some x1
theorem w_logd_isBody {a0 : List UInt8} {r : Bool} (hm : m_logd_isBody a0 = some r) : Sf prog 85 [sl eB a0] (.d (.t r)) :=
  sp call85 func85 rfl ntmps85 rfl fun D0 As η0 m0 hd => by
    unfold m_logd_isBody at hm
    have hm := bnd_is hm
    let x1 : Bool := (((decide ((a0.length : Int) > 0)) && (decide ((a0.length : Int) ≤ 2048))))
    have e0 := Option.some.inj hm
    subst e0
    exact gend hd (by kernel_rfl)
theorem v_logd_isBody {m : Mem} {As : List Ow} {w : World} {a0 : List UInt8} {a0v0 : Value} {r : Bool} (S : St m As w) (a0h0 : SlR m a0v0 a0) (hm : m_logd_isBody a0 = some r) :
    CallsR prog 85 #[a0v0] w fun v w' => ∃ (M : Mem), m ≤ M ∧ St M (As) w' ∧ v = vb r := by
  refine CallsR.mono ((w_logd_isBody hm).2 none0 m As w [a0v0] (.cons (.d (Br.toS Br.b a0h0)) .nil) (fun n h => absurd rfl h) S) ?_
  rintro v w' ⟨M, η', r', obs', n1, hle, _, ⟨rfl, rfl, rfl⟩, hdom, hR, S'⟩
  obtain rfl := hR.t_inv
  exact ⟨M, hle, S', rfl⟩
def m_logd_Check_b3  (i1 : Int) (x4 : g_api_Leaf) (s1 : (List (ByteArray × Bool))) : Option (((List (ByteArray × Bool))) ⊕ Int) :=
  obind (m_logd_isBody x4.Body) fun x5 =>
  obind (
    if (!x5) = true then
      some true
    else
    obind (m_logd_number x4.At) fun x8 =>
    some (!x8)
  ) fun x7 =>
  if (x7 || (lkB s1 (bs x4.Body))) = true then
    some (.inr 1)
  else
  if (lkI s1 (bs x4.Body) 0).isNone = true then
    some (.inl (s1 ++ [((bs x4.Body), true)]))
  else none
def m_logd_Check_b5 (a0 : g_api_Log) (i2 : Int) (x10 : Int) (s2 : Int) : Option ((Int) ⊕ Int) :=
  if ((decide (x10 ≤ s2)) || (decide (x10 ≥ (a0.L.length : Int)))) = true then
    some (.inr 1)
  else
  some (.inl x10)
def m_logd_Check (a0 : g_api_Log) : Option Int :=
  obind (m_logd_number a0.Id) fun x1 =>
  if (((((!x1) || ((a0.Key.toNat : Int) == 0)) || (decide ((a0.Key.toNat : Int) ≥ 1152921504606845789))) || (decide (a0.Delay < 0))) || (decide (a0.Delay > 1000))) = true then
    some 1
  else
  obind (m_logd_all a0) fun x2 =>
  obind (eachR m_logd_Check_b3 x2 0 ([] : List (ByteArray × Bool))) fun x3 => match x3 with
  | .inr r => some r
  | .inl y1 =>
  obind (eachR (m_logd_Check_b5 a0) a0.Hide 0 (-1)) fun x9 => match x9 with
  | .inr r => some r
  | .inl y3 =>
  if (decide ((y1.length : Int) > 256)) = true then
    some 2
  else
  some 0
theorem w_logd_Check {m : Mem} {As : List Ow} {w : World} {a0 : g_api_Log} {a0v3 : Value} {a0v4 : Value} {a0v5 : Value} {r : Int} (S : St m (As) w) (a0h3 : SlR m a0v3 a0.L) (a0h4 : SlR m a0v4 a0.Hide) (a0h5 : SlR m a0v5 a0.Wait) (hm : m_logd_Check a0 = some r) :
    CallsR Tryz.prog 64 #[.agg (c_api_Log a0 a0v3 a0v4 a0v5).toArray] w fun v w' => ∃ (M : Mem), m ≤ M ∧ St M (As) w' ∧ v = vI r := by
 unfold m_logd_Check at hm
 have L0 := Mem.rfl' m
 refine callsR (args := [.agg (c_api_Log a0 a0v3 a0v4 a0v5).toArray]) func64 rfl ntmps64 (nb rfl) <| ws <| s_box S rfl fun b1 w1 S1 => ?_
 replace S1 : St _ ((bx b1 (c_api_Log a0 a0v3 a0v4 a0v5) 65) :: As) _ := S1
 clear S
 refine s_asv (v := vI 0) rfl <| wpl_nil <| nrm <| wpc_seq <| ws <| s_fld (n := 0) rfl underlying65 rfl rfl sizeOf3 <| s_ld (i := 0) (cs := [vI a0.Id]) S1 rfl rfl isAgg3 sizeOf3 rfl (fun _ => rfl) ?_
 obtain ⟨x1, q1, hm⟩ := obind_some hm
 refine s_call call61 (v_logd_number (a0 := a0.Id) S1  q1) rfl ?_
 rintro _ w2 ⟨m1, l1, S2, rfl⟩
 clear S1
 refine s_not rfl <| s_mvv (v := vb (!x1)) rfl <| wpl_cut 4 [14, 15, 16, 17] (fun f' w' => w' = w2 ∧ AllAt f' [(17, vb ((!x1) || ((a0.Key.toNat : Int) == 0)))]) ?_ ?_
 · rcases bool_tf (!x1) with hb1 | hb1
   · exact wpl_no (d := 13) rfl rfl (cb hb1) <| wpl_no (d := 13) rfl rfl (cb hb1) <| wpl_no (d := 13) rfl rfl (cb hb1) <| s_pickT (cb hb1) rfl <| wpl_nil (nrm ⟨outP, rfl, congrArg Value.bool (or_t hb1), trivial⟩)
   · exact wpl_yes (d := 13) rfl rfl (cb hb1) <| s_fld (n := 0) rfl underlying65 rfl rfl sizeOf25 <| wpl_yes (d := 13) rfl rfl (cb hb1) <| s_ld (i := 0) (cs := [vU a0.Key]) S2 rfl rfl isAgg25 sizeOf25 rfl (fun _ => rfl) <| wpl_yes (d := 13) rfl rfl (cb hb1) <| s_eql (m := (a0.Key.toNat : Int)) (n := 0) rfl rfl <| s_pickF (cb hb1) rfl <| wpl_nil (nrm ⟨outP, rfl, congrArg Value.bool (or_f hb1), trivial⟩)
 rintro f1 w3 ho ⟨h1, ha⟩
 subst h1
 obtain ⟨u1, rfl⟩ := fr_of (N := 85) ho ha
 refine s_mvv (v := vb ((!x1) || ((a0.Key.toNat : Int) == 0))) rfl <| wpl_cut 4 [19, 20, 21, 22] (fun f' w' => w' = w3 ∧ AllAt f' [(22, vb (((!x1) || ((a0.Key.toNat : Int) == 0)) || (decide ((a0.Key.toNat : Int) ≥ 1152921504606845789))))]) ?_ ?_
 · rcases bool_tf ((!x1) || ((a0.Key.toNat : Int) == 0)) with hb2 | hb2
   · exact wpl_no (d := 18) rfl rfl (cb hb2) <| wpl_no (d := 18) rfl rfl (cb hb2) <| wpl_no (d := 18) rfl rfl (cb hb2) <| s_pickT (cb hb2) rfl <| wpl_nil (nrm ⟨outP, rfl, congrArg Value.bool (or_t hb2), trivial⟩)
   · exact wpl_yes (d := 18) rfl rfl (cb hb2) <| s_fld (n := 0) rfl underlying65 rfl rfl sizeOf25 <| wpl_yes (d := 18) rfl rfl (cb hb2) <| s_ld (i := 0) (cs := [vU a0.Key]) S2 rfl rfl isAgg25 sizeOf25 rfl (fun _ => rfl) <| wpl_yes (d := 18) rfl rfl (cb hb2) <| s_geq (m := (a0.Key.toNat : Int)) (n := 1152921504606845789) rfl rfl <| s_pickF (cb hb2) rfl <| wpl_nil (nrm ⟨outP, rfl, congrArg Value.bool (or_f hb2), trivial⟩)
 rintro f2 w4 ho ⟨h2, ha⟩
 subst h2
 obtain ⟨u2, rfl⟩ := fr_of (N := 85) ho ha
 refine s_mvv (v := vb (((!x1) || ((a0.Key.toNat : Int) == 0)) || (decide ((a0.Key.toNat : Int) ≥ 1152921504606845789)))) rfl <| wpl_cut 4 [24, 25, 26, 27] (fun f' w' => w' = w4 ∧ AllAt f' [(27, vb ((((!x1) || ((a0.Key.toNat : Int) == 0)) || (decide ((a0.Key.toNat : Int) ≥ 1152921504606845789))) || (decide (a0.Delay < 0))))]) ?_ ?_
 · rcases bool_tf (((!x1) || ((a0.Key.toNat : Int) == 0)) || (decide ((a0.Key.toNat : Int) ≥ 1152921504606845789))) with hb3 | hb3
   · exact wpl_no (d := 23) rfl rfl (cb hb3) <| wpl_no (d := 23) rfl rfl (cb hb3) <| wpl_no (d := 23) rfl rfl (cb hb3) <| s_pickT (cb hb3) rfl <| wpl_nil (nrm ⟨outP, rfl, congrArg Value.bool (or_t hb3), trivial⟩)
   · exact wpl_yes (d := 23) rfl rfl (cb hb3) <| s_fld (n := 0) rfl underlying65 rfl rfl sizeOf3 <| wpl_yes (d := 23) rfl rfl (cb hb3) <| s_ld (i := 0) (cs := [vI a0.Delay]) S2 rfl rfl isAgg3 sizeOf3 rfl (fun _ => rfl) <| wpl_yes (d := 23) rfl rfl (cb hb3) <| s_lss (m := a0.Delay) (n := 0) rfl rfl <| s_pickF (cb hb3) rfl <| wpl_nil (nrm ⟨outP, rfl, congrArg Value.bool (or_f hb3), trivial⟩)
 rintro f3 w5 ho ⟨h3, ha⟩
 subst h3
 obtain ⟨u3, rfl⟩ := fr_of (N := 85) ho ha
 refine s_mvv (v := vb ((((!x1) || ((a0.Key.toNat : Int) == 0)) || (decide ((a0.Key.toNat : Int) ≥ 1152921504606845789))) || (decide (a0.Delay < 0)))) rfl <| wpl_cut 4 [29, 30, 31, 32] (fun f' w' => w' = w5 ∧ AllAt f' [(32, vb (((((!x1) || ((a0.Key.toNat : Int) == 0)) || (decide ((a0.Key.toNat : Int) ≥ 1152921504606845789))) || (decide (a0.Delay < 0))) || (decide (a0.Delay > 1000))))]) ?_ ?_
 · rcases bool_tf ((((!x1) || ((a0.Key.toNat : Int) == 0)) || (decide ((a0.Key.toNat : Int) ≥ 1152921504606845789))) || (decide (a0.Delay < 0))) with hb4 | hb4
   · exact wpl_no (d := 28) rfl rfl (cb hb4) <| wpl_no (d := 28) rfl rfl (cb hb4) <| wpl_no (d := 28) rfl rfl (cb hb4) <| s_pickT (cb hb4) rfl <| wpl_nil (nrm ⟨outP, rfl, congrArg Value.bool (or_t hb4), trivial⟩)
   · exact wpl_yes (d := 28) rfl rfl (cb hb4) <| s_fld (n := 0) rfl underlying65 rfl rfl sizeOf3 <| wpl_yes (d := 28) rfl rfl (cb hb4) <| s_ld (i := 0) (cs := [vI a0.Delay]) S2 rfl rfl isAgg3 sizeOf3 rfl (fun _ => rfl) <| wpl_yes (d := 28) rfl rfl (cb hb4) <| s_gtr (m := a0.Delay) (n := 1000) rfl rfl <| s_pickF (cb hb4) rfl <| wpl_nil (nrm ⟨outP, rfl, congrArg Value.bool (or_f hb4), trivial⟩)
 rintro f4 w6 ho ⟨h4, ha⟩
 subst h4
 obtain ⟨u4, rfl⟩ := fr_of (N := 85) ho ha
 refine wpl_nil <| nrm <| wpc_if (t := (((((!x1) || ((a0.Key.toNat : Int) == 0)) || (decide ((a0.Key.toNat : Int) ≥ 1152921504606845789))) || (decide (a0.Delay < 0))) || (decide (a0.Delay > 1000)))) rfl (fun hc1 => ?_) (fun hc1 => ?_)
 · replace hm := ifT hc1 hm
   refine ws <| s_asv (v := vI 1) rfl <| wpl_nil <| nrm <| wpc_ret <| thR <| outRw fun we hpd => ?_
   replace S2 := St.pd S2 hpd
   obtain ⟨m2, l2, S3⟩ := St.drop S2 0
   clear S2
   replace S3 : St _ (As) _ := S3
   have e0 := Option.some.inj hm
   subst e0
   replace L0 := Mem.tr L0 (mt l1 l2)
   exact outR [_] rfl ⟨rfl, trivial⟩ ⟨_, L0, S3, rfl⟩
 replace hm := ifF hc1 hm
 refine wpc_skip <| nrm <| ws <| s_makeMap S2 fun b2 w7 S4 => ?_
 clear S2
 refine s_asv (v := .map (some b2)) rfl <| wpl_nil <| nrm <| wpc_seq <| ws <| s_ld (i := 1) (cs := (c_api_Log a0 a0v3 a0v4 a0v5)) S4 rfl rfl isAgg65 sizeOf65 rfl (fun h => by cases h) ?_
 obtain ⟨x2, q2, hm⟩ := obind_some hm
 refine s_call call84 (v_logd_all (a0 := a0) S4 (a0h3.up l1) (a0h4.up l1) (a0h5.up l1) q2) rfl ?_
 rintro v1 w8 ⟨m3, l3, _, c1, S5, rfl, h5⟩
 clear S4
 refine s_lenO (i := 0) S5 rfl rfl underlying62 <| s_mvv (v := vI 0) rfl <| wpl_nil <| nrm ?_
 obtain ⟨m4, l4, h6, S6⟩ := St.rowKeepT (i := 0) S5 rfl h5 rfl
 clear S5
 obtain ⟨x3, q3, hm⟩ := obind_some hm
 have L1 := Mem.rfl' m4
 refine wpc_join [2, 5, 37, 38, 39, 40, 41, 42, 43, 44, 45, 46, 47, 48, 49, 50, 51, 52, 53, 54, 55, 56, 57, 58, 59, 60, 61, 62] (fun f' w' => ∃ (M1 : Mem) (y1 : (List (ByteArray × Bool))), x3 = .inl y1 ∧ m4 ≤ M1 ∧ St M1 ((mpS b2 y1) :: (bx b1 (c_api_Log a0 a0v3 a0v4 a0v5) 65) :: As) w' ∧ AllAt f' []) ?_ ?_
 · refine wpc_block <| wpc_rounds [2, 5, 37, 38, 39, 40, 41, 42, 43, 44, 45, 46, 47, 48, 49, 50, 51, 52, 53, 54, 55, 56, 57, 58, 59, 60, 61, 62] (fun n1 f' w' => ∃ (i1 : Nat) (s1 : (List (ByteArray × Bool))) (m14 : Mem), n1 = x2.length - i1 ∧ i1 ≤ x2.length ∧ eachR m_logd_Check_b3 (x2.drop i1) (i1 : Int) s1 = some x3 ∧ m4 ≤ m14 ∧ St m14 ((mpS b2 s1) :: (bx b1 (c_api_Log a0 a0v3 a0v4 a0v5) 65) :: As) w' ∧ AllAt f' [(37, vI (i1 : Int))]) x2.length ⟨0, ([] : List (ByteArray × Bool)), m4, rfl, Nat.zero_le _, q3, L1, S6, ⟨rfl, trivial⟩⟩ ?_
   rintro n1 f5 w9 ho ⟨i1, s1, m5, hn, hi, q4, L3, S7, ha⟩
   obtain ⟨u5, rfl⟩ := fr_of (N := 85) ho ha
   clear ho ha
   have L2 := Mem.rfl' m5
   clear S6
   refine ws <| s_lss (m := (i1 : Int)) (n := (x2.length : Int)) rfl rfl <| wpl_nil <| nrm <| wpc_seq <| wpc_if (t := decide ((i1 : Int) < (x2.length : Int))) rfl (fun hc3 => ?_) (fun hc3 => ?_)
   · have hlt1 : i1 < x2.length := by have := of_decide_eq_true hc3; omega
     obtain ⟨x4, y2, q7, q6, q5⟩ := eachR_in q4 hlt1
     unfold m_logd_Check_b3 at q6
     refine wpc_skip <| nrm <| wpc_seq <| wpc_block <| ws <| s_idx (q := x4) rfl rfl (h6.up L3) q7 underlying62 sizeOf126 fun p1 c2 h7 r2 => ?_
     obtain ⟨v2, rfl, h8⟩ := rep_g_api_Leaf r2
     refine s_ldM (cs := (c_api_Leaf x4 v2)) S7 rfl h7 rfl isAgg126 sizeOf126 (fun h => by cases h) <| s_alloc S7 zeroValue126 fun b4 w10 S8 => s_stL (i := 0) S8 rfl rfl rfl sizeOf126 (oneC (SlR.one h8) (oneC rfl oneN)) rfl fun w11 S9 => ?_
     replace S9 : St _ ((bx b4 (c_api_Leaf x4 v2) 126) :: (mpS b2 s1) :: (bx b1 (c_api_Log a0 a0v3 a0v4 a0v5) 65) :: As) _ := S9
     clear S7 S8
     refine wpl_nil <| nrm <| wpc_seq <| ws <| s_fld (n := 0) rfl underlying126 rfl rfl sizeOf68 <| s_ld (i := 0) (cs := [v2]) S9 rfl rfl isAgg68 sizeOf68 rfl (fun _ => rfl) ?_
     obtain ⟨x5, q8, q6⟩ := obind_some q6
     refine s_call call85 (v_logd_isBody (a0 := x4.Body) S9 h8 q8) rfl ?_
     rintro _ w12 ⟨m6, l5, S10, rfl⟩
     clear S9
     refine s_not rfl <| s_mvv (v := vb (!x5)) rfl ?_
     obtain ⟨x7, q10, q6⟩ := obind_some q6
     have L4 := Mem.rfl' m6
     refine wpl_cut 5 [46, 47, 48, 49, 50] (fun f' w' => ∃ (M2 : Mem), m6 ≤ M2 ∧ St M2 ((bx b4 (c_api_Leaf x4 v2) 126) :: (mpS b2 s1) :: (bx b1 (c_api_Log a0 a0v3 a0v4 a0v5) 65) :: As) w' ∧ AllAt f' [(50, vb x7)]) ?_ ?_
     · rcases bool_tf (!x5) with hb5 | hb5
       · replace q10 := ifT hb5 q10
         refine wpl_no (d := 45) rfl rfl (cb hb5) <| wpl_no (d := 45) rfl rfl (cb hb5) <| wpl_no (d := 45) rfl rfl (cb hb5) <| wpl_no (d := 45) rfl rfl (cb hb5) <| s_pickT (cb hb5) rfl <| wpl_nil (nrm ?_)
         have e0 := Option.some.inj q10
         subst e0
         exact ⟨outP, m6, L4, S10, ⟨rfl, trivial⟩⟩
       replace q10 := ifF hb5 q10
       refine wpl_yes (d := 45) rfl rfl (cb hb5) <| s_fld (n := 0) rfl underlying126 rfl rfl sizeOf3 <| wpl_yes (d := 45) rfl rfl (cb hb5) <| s_ld (i := 0) (cs := [vI x4.At]) S10 rfl rfl isAgg3 sizeOf3 rfl (fun _ => rfl) <| wpl_yes (d := 45) rfl rfl (cb hb5) ?_
       obtain ⟨x8, q11, q10⟩ := obind_some q10
       refine s_call call61 (v_logd_number (a0 := x4.At) S10  q11) rfl ?_
       rintro _ w14 ⟨m8, l7, S12, rfl⟩
       clear S10
       refine wpl_yes (d := 45) rfl rfl (cb hb5) <| s_not rfl <| s_pickF (cb hb5) rfl <| wpl_nil (nrm ?_)
       have e0 := Option.some.inj q10
       subst e0
       replace L4 := Mem.tr L4 l7
       exact ⟨outP, m8, L4, S12, ⟨rfl, trivial⟩⟩
     rintro f6 w15 ho ⟨m9, l8, S13, ha⟩
     obtain ⟨u6, rfl⟩ := fr_of (N := 85) ho ha
     clear S10
     refine s_mvv (v := vb x7) rfl <| wpl_cut 6 [52, 53, 54, 55, 56, 57] (fun f' w' => w' = w15 ∧ AllAt f' [(57, vb (x7 || (lkB s1 (bs x4.Body))))]) ?_ ?_
     · rcases bool_tf x7 with hb6 | hb6
       · exact wpl_no (d := 51) rfl rfl (cb hb6) <| wpl_no (d := 51) rfl rfl (cb hb6) <| wpl_no (d := 51) rfl rfl (cb hb6) <| wpl_no (d := 51) rfl rfl (cb hb6) <| wpl_no (d := 51) rfl rfl (cb hb6) <| s_pickT (cb hb6) rfl <| wpl_nil (nrm ⟨outP, rfl, congrArg Value.bool (or_t hb6), trivial⟩)
       · refine wpl_yes (d := 51) rfl rfl (cb hb6) <| s_mvv (v := .map (some b2)) rfl <| wpl_yes (d := 51) rfl rfl (cb hb6) <| s_fld (n := 0) rfl underlying126 rfl rfl sizeOf68 <| wpl_yes (d := 51) rfl rfl (cb hb6) <| s_ld (i := 0) (cs := [v2]) S13 rfl rfl isAgg68 sizeOf68 rfl (fun _ => rfl) <| wpl_yes (d := 51) rfl rfl (cb hb6) ?_
         replace h8 := h8.up (mt l5 l8)
         exact s_bytesS (xs := x4.Body) (t2' := 5) S13 rfl h8 underlying68 underlying5 underlying9 <| wpl_yes (d := 51) rfl rfl (cb hb6) <| s_lookupS (i := 1) (k := (bs x4.Body)) S13 rfl rfl rfl underlying123 underlying9 zeroValue4 <| s_pickF (cb hb6) rfl <| wpl_nil (nrm ⟨outP, rfl, congrArg Value.bool (or_f hb6), trivial⟩)
     rintro f7 w16 ho ⟨h9, ha⟩
     subst h9
     obtain ⟨u7, rfl⟩ := fr_of (N := 85) ho ha
     refine wpl_nil <| nrm <| wpc_if (t := (x7 || (lkB s1 (bs x4.Body)))) rfl (fun hc2 => ?_) (fun hc2 => ?_)
     · replace q6 := ifT hc2 q6
       refine ws <| s_asv (v := vI 1) rfl <| wpl_nil <| nrm <| wpc_ret <| thR <| blR <| thR <| thR <| blR <| thR <| outRw fun we hpd => ?_
       replace S13 := St.pd S13 hpd
       obtain ⟨m10, l9, S14⟩ := St.drop S13 0
       clear S13
       replace S14 : St _ ((mpS b2 s1) :: (bx b1 (c_api_Log a0 a0v3 a0v4 a0v5) 65) :: As) _ := S14
       obtain ⟨m11, l10, S15⟩ := St.drop S14 0
       clear S14
       replace S15 : St _ ((bx b1 (c_api_Log a0 a0v3 a0v4 a0v5) 65) :: As) _ := S15
       obtain ⟨m12, l11, S16⟩ := St.drop S15 0
       clear S15
       replace S16 : St _ (As) _ := S16
       cases q6
       rcases q5 with ⟨sn, e, _⟩ | ⟨tn, e, e2⟩
       · cases e
       cases e
       cases e2
       dsimp only at hm
       have e0 := Option.some.inj hm
       subst e0
       replace L0 := Mem.tr L0 (mt l1 (mt l3 l4))
       replace L2 := Mem.tr L2 (mt l5 (mt l8 (mt l9 (mt l10 l11))))
       exact outR [_] rfl ⟨rfl, trivial⟩ ⟨_, (Mem.tr L0 (Mem.tr L3 L2)), S16, rfl⟩
     replace q6 := ifF hc2 q6
     refine wpc_skip <| nrm <| wpc_region <| s_mvv (v := .map (some b2)) rfl <| s_fld (n := 0) rfl underlying126 rfl rfl sizeOf68 <| s_ld (i := 0) (cs := [v2]) S13 rfl rfl isAgg68 sizeOf68 rfl (fun _ => rfl) ?_
     replace h8 := h8.up (mt l5 l8)
     refine s_bytesS (xs := x4.Body) (t2' := 5) S13 rfl h8 underlying68 underlying5 underlying9 ?_
     obtain ⟨q12, q6⟩ := if_some q6
     refine s_mapUpdS (i := 1) (k := (bs x4.Body)) (u := true) S13 rfl rfl rfl rfl underlying123 underlying9 q12 fun w17 S17 => ?_
     replace S17 : St _ ((bx b4 (c_api_Leaf x4 v2) 126) :: (mpS b2 (s1 ++ [((bs x4.Body), true)])) :: (bx b1 (c_api_Log a0 a0v3 a0v4 a0v5) 65) :: As) _ := S17
     clear S13
     refine wpl_nil <| nrmB <| nrm <| wpc_region <| s_addI (m := (i1 : Int)) (n := 1) rfl rfl <| s_mvv (v := vI (w64 ((i1 : Int) + 1))) rfl <| wpl_nil <| nrm ?_
     obtain ⟨m13, l12, S18⟩ := St.drop S17 0
     clear S17
     replace S18 : St _ ((mpS b2 (s1 ++ [((bs x4.Body), true)])) :: (bx b1 (c_api_Log a0 a0v3 a0v4 a0v5) 65) :: As) _ := S18
     have e0 := Option.some.inj q6
     subst e0
     rcases q5 with ⟨sn, e, q5'⟩ | ⟨tn, e, _⟩
     · cases e
       replace h6 := h6.up (mt L3 (mt l5 (mt l8 l12)))
       replace L2 := Mem.tr L2 (mt l5 (mt l8 l12))
       exact ⟨outP, _, (by omega), ⟨i1 + 1, _, m13, rfl, hlt1, q5', Mem.tr L3 L2, S18, ⟨congrArg (Value.int .i64) (w64_succ hlt1 (SlR.le h6)), trivial⟩⟩⟩
     · cases e
   have hlt1 : ¬ i1 < x2.length := by have := of_decide_eq_false hc3; omega
   have e := eachR_out q4 hlt1
   cases e
   exact wpc_exit <| thE <| thE <| exB <| nrm <| ⟨outP, m5, _, rfl, Mem.tr L3 L2, S7, trivial⟩
 rintro f8 w18 ho ⟨m15, y1, rfl, l13, S19, ha⟩
 obtain ⟨u8, rfl⟩ := fr_of (N := 85) ho ha
 clear ho ha
 dsimp only at hm
 clear S6
 refine ws <| s_asv (v := vI (-1)) rfl <| wpl_nil <| nrm <| wpc_seq <| ws <| s_fld (n := 0) rfl underlying65 rfl rfl sizeOf63 <| s_ld (i := 1) (cs := [a0v4]) S19 rfl rfl isAgg63 sizeOf63 rfl (fun _ => rfl) ?_
 replace a0h4 := a0h4.up (mt l1 (mt l3 (mt l4 l13)))
 refine s_lenR (xs := a0.Hide) rfl a0h4 underlying63 <| s_mvv (v := vI 0) rfl <| wpl_nil <| nrm ?_
 obtain ⟨x9, q13, hm⟩ := obind_some hm
 have L5 := Mem.rfl' m15
 refine wpc_join [2, 6, 8, 66, 67, 68, 69, 70, 71, 72, 73, 74, 75, 76, 77, 78, 79, 80, 81] (fun f' w' => ∃ (M3 : Mem) (y3 : Int), x9 = .inl y3 ∧ m15 ≤ M3 ∧ St M3 ((mpS b2 y1) :: (bx b1 (c_api_Log a0 a0v3 a0v4 a0v5) 65) :: As) w' ∧ AllAt f' [(6, vI y3)]) ?_ ?_
 · refine wpc_block <| wpc_rounds [2, 6, 8, 66, 67, 68, 69, 70, 71, 72, 73, 74, 75, 76, 77, 78, 79, 80, 81] (fun n2 f' w' => ∃ (i2 : Nat) (s2 : Int) (m19 : Mem), n2 = a0.Hide.length - i2 ∧ i2 ≤ a0.Hide.length ∧ eachR (m_logd_Check_b5 a0) (a0.Hide.drop i2) (i2 : Int) s2 = some x9 ∧ m15 ≤ m19 ∧ St m19 ((mpS b2 y1) :: (bx b1 (c_api_Log a0 a0v3 a0v4 a0v5) 65) :: As) w' ∧ AllAt f' [(66, vI (i2 : Int)), (6, vI s2)]) a0.Hide.length ⟨0, (-1), m15, rfl, Nat.zero_le _, q13, L5, S19, ⟨rfl, rfl, trivial⟩⟩ ?_
   rintro n2 f9 w19 ho ⟨i2, s2, m16, hn, hi, q14, L7, S20, ha⟩
   obtain ⟨u9, rfl⟩ := fr_of (N := 85) ho ha
   clear ho ha
   have L6 := Mem.rfl' m16
   clear S19
   refine ws <| s_lss (m := (i2 : Int)) (n := (a0.Hide.length : Int)) rfl rfl <| wpl_nil <| nrm <| wpc_seq <| wpc_if (t := decide ((i2 : Int) < (a0.Hide.length : Int))) rfl (fun hc5 => ?_) (fun hc5 => ?_)
   · have hlt2 : i2 < a0.Hide.length := by have := of_decide_eq_true hc5; omega
     obtain ⟨x10, y4, q17, q16, q15⟩ := eachR_in q14 hlt2
     unfold m_logd_Check_b5 at q16
     refine wpc_skip <| nrm <| wpc_seq <| wpc_block <| ws <| s_idx (q := x10) rfl rfl (a0h4.up L7) q17 underlying63 sizeOf3 fun p2 c3 h10 r3 => ?_
     obtain rfl : c3 = [vI x10] := r3
     refine s_ldM (cs := [vI x10]) S20 rfl h10 rfl isAgg3 sizeOf3 (fun _ => rfl) <| s_asv (v := vI x10) rfl <| wpl_nil <| nrm <| wpc_seq <| ws <| s_mvv (v := vI x10) rfl <| s_mvv (v := vI s2) rfl <| s_leq (m := x10) (n := s2) rfl rfl <| s_mvv (v := vb (decide (x10 ≤ s2))) rfl <| wpl_cut 6 [74, 75, 76, 77, 78, 79] (fun f' w' => w' = w19 ∧ AllAt f' [(79, vb ((decide (x10 ≤ s2)) || (decide (x10 ≥ (a0.L.length : Int)))))]) ?_ ?_
     · rcases bool_tf (decide (x10 ≤ s2)) with hb7 | hb7
       · exact wpl_no (d := 73) rfl rfl (cb hb7) <| wpl_no (d := 73) rfl rfl (cb hb7) <| wpl_no (d := 73) rfl rfl (cb hb7) <| wpl_no (d := 73) rfl rfl (cb hb7) <| wpl_no (d := 73) rfl rfl (cb hb7) <| s_pickT (cb hb7) rfl <| wpl_nil (nrm ⟨outP, rfl, congrArg Value.bool (or_t hb7), trivial⟩)
       · refine wpl_yes (d := 73) rfl rfl (cb hb7) <| s_mvv (v := vI x10) rfl <| wpl_yes (d := 73) rfl rfl (cb hb7) <| s_fld (n := 0) rfl underlying65 rfl rfl sizeOf62 <| wpl_yes (d := 73) rfl rfl (cb hb7) <| s_ld (i := 1) (cs := [a0v3]) S20 rfl rfl isAgg62 sizeOf62 rfl (fun _ => rfl) <| wpl_yes (d := 73) rfl rfl (cb hb7) ?_
         replace a0h3 := a0h3.up (mt l1 (mt l3 (mt l4 (mt l13 L7))))
         exact s_lenR (xs := a0.L) rfl a0h3 underlying62 <| wpl_yes (d := 73) rfl rfl (cb hb7) <| s_geq (m := x10) (n := (a0.L.length : Int)) rfl rfl <| s_pickF (cb hb7) rfl <| wpl_nil (nrm ⟨outP, rfl, congrArg Value.bool (or_f hb7), trivial⟩)
     rintro f10 w20 ho ⟨h11, ha⟩
     subst h11
     obtain ⟨u10, rfl⟩ := fr_of (N := 85) ho ha
     refine wpl_nil <| nrm <| wpc_if (t := ((decide (x10 ≤ s2)) || (decide (x10 ≥ (a0.L.length : Int))))) rfl (fun hc4 => ?_) (fun hc4 => ?_)
     · replace q16 := ifT hc4 q16
       refine ws <| s_asv (v := vI 1) rfl <| wpl_nil <| nrm <| wpc_ret <| thR <| blR <| thR <| thR <| blR <| thR <| outRw fun we hpd => ?_
       replace S20 := St.pd S20 hpd
       obtain ⟨m17, l14, S21⟩ := St.drop S20 0
       clear S20
       replace S21 : St _ ((bx b1 (c_api_Log a0 a0v3 a0v4 a0v5) 65) :: As) _ := S21
       obtain ⟨m18, l15, S22⟩ := St.drop S21 0
       clear S21
       replace S22 : St _ (As) _ := S22
       cases q16
       rcases q15 with ⟨sn, e, _⟩ | ⟨tn, e, e2⟩
       · cases e
       cases e
       cases e2
       dsimp only at hm
       have e0 := Option.some.inj hm
       subst e0
       replace L0 := Mem.tr L0 (mt l1 (mt l3 (mt l4 l13)))
       replace L6 := Mem.tr L6 (mt l14 l15)
       exact outR [_] rfl ⟨rfl, trivial⟩ ⟨_, (Mem.tr L0 (Mem.tr L7 L6)), S22, rfl⟩
     replace q16 := ifF hc4 q16
     refine wpc_skip <| nrm <| wpc_region <| s_mvv (v := vI x10) rfl <| s_asv (v := vI x10) rfl <| wpl_nil <| nrmB <| nrm <| wpc_region <| s_addI (m := (i2 : Int)) (n := 1) rfl rfl <| s_mvv (v := vI (w64 ((i2 : Int) + 1))) rfl <| wpl_nil <| nrm ?_
     have e0 := Option.some.inj q16
     subst e0
     rcases q15 with ⟨sn, e, q15'⟩ | ⟨tn, e, _⟩
     · cases e
       exact ⟨outP, _, (by omega), ⟨i2 + 1, _, m16, rfl, hlt2, q15', Mem.tr L7 L6, S20, ⟨congrArg (Value.int .i64) (w64_succ hlt2 (SlR.le (a0h4.up L7))), rfl, trivial⟩⟩⟩
     · cases e
   have hlt2 : ¬ i2 < a0.Hide.length := by have := of_decide_eq_false hc5; omega
   have e := eachR_out q14 hlt2
   cases e
   exact wpc_exit <| thE <| thE <| exB <| nrm <| ⟨outP, m16, _, rfl, Mem.tr L7 L6, S20, ⟨rfl, trivial⟩⟩
 rintro f11 w21 ho ⟨m20, y3, rfl, l16, S23, ha⟩
 obtain ⟨u11, rfl⟩ := fr_of (N := 85) ho ha
 clear ho ha
 dsimp only at hm
 clear S19
 refine wpc_seq <| ws <| s_mvv (v := .map (some b2)) rfl <| s_lenMap (i := 0) S23 rfl rfl underlying123 <| s_gtr (m := (y1.length : Int)) (n := 256) rfl rfl <| wpl_nil <| nrm <| wpc_if (t := (decide ((y1.length : Int) > 256))) rfl (fun hc6 => ?_) (fun hc6 => ?_)
 · replace hm := ifT hc6 hm
   refine ws <| s_asv (v := vI 2) rfl <| wpl_nil <| nrm <| wpc_ret <| thR <| outRw fun we hpd => ?_
   replace S23 := St.pd S23 hpd
   obtain ⟨m21, l17, S24⟩ := St.drop S23 0
   clear S23
   replace S24 : St _ ((bx b1 (c_api_Log a0 a0v3 a0v4 a0v5) 65) :: As) _ := S24
   obtain ⟨m22, l18, S25⟩ := St.drop S24 0
   clear S24
   replace S25 : St _ (As) _ := S25
   have e0 := Option.some.inj hm
   subst e0
   replace L0 := Mem.tr L0 (mt l1 (mt l3 (mt l4 (mt l13 (mt l16 (mt l17 l18))))))
   exact outR [_] rfl ⟨rfl, trivial⟩ ⟨_, L0, S25, rfl⟩
 replace hm := ifF hc6 hm
 refine wpc_skip <| nrm <| ws <| s_asv (v := vI 0) rfl <| wpl_nil <| nrm <| wpc_ret <| outRw fun we hpd => ?_
 replace S23 := St.pd S23 hpd
 obtain ⟨m23, l19, S26⟩ := St.drop S23 0
 clear S23
 replace S26 : St _ ((bx b1 (c_api_Log a0 a0v3 a0v4 a0v5) 65) :: As) _ := S26
 obtain ⟨m24, l20, S27⟩ := St.drop S26 0
 clear S26
 replace S27 : St _ (As) _ := S27
 have e0 := Option.some.inj hm
 subst e0
 replace L0 := Mem.tr L0 (mt l1 (mt l3 (mt l4 (mt l13 (mt l16 (mt l19 l20))))))
 exact outR [_] rfl ⟨rfl, trivial⟩ ⟨_, L0, S27, rfl⟩
theorem s_logd_Check {a0 : g_api_Log} {r : Int} (hm : m_logd_Check a0 = some r) : Sf prog 64 [ag (e_api_Log a0)] (.d (.i r)) :=
  ⟨call64, fun η m As w vs hv0 hd S => by
    have S : St m As w := S
    obtain ⟨v0, u0, rfl, r0, hv1⟩ := RelL.cons_inv hv0
    obtain ⟨c0, rfl, g0⟩ := Br.ofA b_api_Log r0
    obtain ⟨z0_0, z0_1, z0_2, rfl, f0_0, f0_1, f0_2⟩ := rep_g_api_Log g0
    obtain rfl := RelL.nil_inv hv1
    refine CallsR.mono (w_logd_Check S f0_0 f0_1 f0_2 hm) ?_
    rintro v w' ⟨M, hle, S0, rfl⟩
    exact ⟨M, none0, _, _, _, hle, dom0 hd _, ⟨rfl, rfl, rfl⟩, fun n h => absurd rfl h, (.d (.i _)), S0⟩⟩
def m_logd_New (a0 : Int) (a1 : List UInt8) (a2 : Int) : Option (g_api_Log × Int) :=
  obind (m_sign_Secret a1) fun x1 =>
  obind (m_logd_Check (⟨a0, x1, a2, [], [], []⟩ : g_api_Log)) fun x2 =>
  if (x2 != 0) = true then
    some ((⟨0, 0, 0, [], [], []⟩ : g_api_Log), 1)
  else
  some ((⟨a0, x1, a2, [], [], []⟩ : g_api_Log), 0)
theorem w_logd_New {a0 : Int} {a1 : List UInt8} {a2 : Int} {r : g_api_Log × Int} (hm : m_logd_New a0 a1 a2 = some r) : Sf prog 33 [.d (.i a0), sl eB a1, .d (.i a2)] (.tup [ag (e_api_Log r.1), .d (.i r.2)]) :=
  sp call33 func33 rfl ntmps33 rfl fun D0 As η0 m0 hd => by
    unfold m_logd_New at hm
    obtain ⟨x1, q1, hm⟩ := obind_some hm
    refine gc (fun _ => w_sign_Secret q1) (by kernel_rfl) ?_
    obtain ⟨x2, q2, hm⟩ := obind_some hm
    refine gc (fun _ => s_logd_Check q2) (by kernel_rfl) ?_
    refine gi hm (by kernel_rfl) (fun hc1 hm => ?_) fun hc1 hm => ?_
    · skip
      have e0 := Option.some.inj hm
      subst e0
      exact gend hd (by kernel_rfl)
    have e0 := Option.some.inj hm
    subst e0
    exact gend hd (by kernel_rfl)
def m_sign_odd (a0 : UInt64) : Option Bool :=
  bnd ((((a0.toNat : Int) == 0) || (decide ((a0.toNat : Int) ≥ 1152921504606845789)))) fun x1 =>
  some x1
theorem w_sign_odd {a0 : UInt64} {r : Bool} (hm : m_sign_odd a0 = some r) : Sf prog 86 [.d (.u a0)] (.d (.t r)) :=
  sp call86 func86 rfl ntmps86 rfl fun D0 As η0 m0 hd => by
    unfold m_sign_odd at hm
    have hm := bnd_is hm
    let x1 : Bool := ((((a0.toNat : Int) == 0) || (decide ((a0.toNat : Int) ≥ 1152921504606845789))))
    have e0 := Option.some.inj hm
    subst e0
    exact gend hd (by kernel_rfl)
def m_sign_Public (a0 : UInt64) : Option (UInt64 × Int) :=
  obind (m_sign_odd a0) fun x1 =>
  if x1 = true then
    some (0, 1)
  else
  obind (m_cyclic_Base a0) fun x2 =>
  some (x2, 0)
theorem w_sign_Public {a0 : UInt64} {r : UInt64 × Int} (hm : m_sign_Public a0 = some r) : Sf prog 65 [.d (.u a0)] (.tup [.d (.u r.1), .d (.i r.2)]) :=
  sp call65 func65 rfl ntmps65 rfl fun D0 As η0 m0 hd => by
    unfold m_sign_Public at hm
    obtain ⟨x1, q1, hm⟩ := obind_some hm
    refine gc (fun _ => w_sign_odd q1) (by kernel_rfl) ?_
    refine gi hm (by kernel_rfl) (fun hc1 hm => ?_) fun hc1 hm => ?_
    · skip
      have e0 := Option.some.inj hm
      subst e0
      exact gend hd (by kernel_rfl)
    obtain ⟨x2, q2, hm⟩ := obind_some hm
    refine gc (fun _ => w_cyclic_Base q2) (by kernel_rfl) ?_
    have e0 := Option.some.inj hm
    subst e0
    exact gend hd (by kernel_rfl)
def m_logd_Public (a0 : g_api_Log) : Option (g_api_Key × Int) :=
  obind (m_logd_Check a0) fun x1 =>
  if (x1 != 0) = true then
    some ((⟨0, 0, 0⟩ : g_api_Key), x1)
  else
  obind (m_sign_Public a0.Key) fun x2 =>
  some ((⟨a0.Id, x2.1, a0.Delay⟩ : g_api_Key), x2.2)
theorem w_logd_Public {a0 : g_api_Log} {r : g_api_Key × Int} (hm : m_logd_Public a0 = some r) : Sf prog 34 [ag (e_api_Log a0)] (.tup [ag (e_api_Key r.1), .d (.i r.2)]) :=
  sp call34 func34 rfl ntmps34 rfl fun D0 As η0 m0 hd => by
    unfold m_logd_Public at hm
    obtain ⟨x1, q1, hm⟩ := obind_some hm
    refine gc (fun _ => s_logd_Check q1) (by kernel_rfl) ?_
    refine gi hm (by kernel_rfl) (fun hc1 hm => ?_) fun hc1 hm => ?_
    · skip
      have e0 := Option.some.inj hm
      subst e0
      exact gend hd (by kernel_rfl)
    obtain ⟨x2, q2, hm⟩ := obind_some hm
    refine gc (fun _ => w_sign_Public q2) (by kernel_rfl) ?_
    have e0 := Option.some.inj hm
    subst e0
    exact gend hd (by kernel_rfl)
def m_merkle_Leaf (a0 : List UInt8) : Option (UInt64 × UInt64) :=
  obind (m_hash_Tagged (⟨#[108, 101, 97, 102]⟩ : ByteArray) ([a0] : List (List UInt8))) fun x1 =>
  some x1
theorem w_merkle_Leaf {a0 : List UInt8} {r : UInt64 × UInt64} (hm : m_merkle_Leaf a0 = some r) : Sf prog 111 [sl eB a0] (ag (e_a2_eU r)) :=
  sp call111 func111 rfl ntmps111 rfl fun D0 As η0 m0 hd => by
    unfold m_merkle_Leaf at hm
    refine glitF (k := 1) (eL eB) ([a0] : List (List UInt8)) (fun _ => rfl) (by kernel_rfl) ?_
    obtain ⟨x1, q1, hm⟩ := obind_some hm
    refine gc (fun _ => w_hash_Tagged q1) (by kernel_rfl) ?_
    have e0 := Option.some.inj hm
    subst e0
    exact gend hd (by kernel_rfl)
def m_logd_Leaves_b2 (a0 : g_api_Log) (a1 : Int) (i1 : Int) (s1 : (List Int) × (List (UInt64 × UInt64))) : Option ((List Int) × (List (UInt64 × UInt64))) :=
  obind (idx a0.L (i1 : Int)) fun x5 =>
  obind (
    obind (gu (decide ((s1.1.length : Int) > 0)) (idx s1.1 0)) fun x7 =>
    if ((decide ((s1.1.length : Int) > 0)) && (x7 == (i1 : Int))) = true then
      obind (cut s1.1 1 (s1.1.length : Int)) fun x8 =>
      if (a1 == 1) = true then
        obind (m_slices_Concat_byte_byte ([([0] : List UInt8), x5.Body] : List (List UInt8))) fun x9 =>
        some (x8, x9)
      else
      some (x8, x5.Body)
    else
    some (s1.1, x5.Body)
  ) fun x6 =>
  obind (m_merkle_Leaf x6.2) fun x10 =>
  obind (app 16 s1.2 ([x10] : List (UInt64 × UInt64))) fun x11 =>
  some (x6.1, x11)
def m_logd_Leaves (a0 : g_api_Log) (a1 : Int) : Option ((List (UInt64 × UInt64)) × Int) :=
  obind (m_logd_Check a0) fun x1 =>
  if (x1 != 0) = true then
    some (([] : List (UInt64 × UInt64)), x1)
  else
  if ((a1 != 0) && (a1 != 1)) = true then
    some (([] : List (UInt64 × UInt64)), 240)
  else
  obind (
    obind (eachN0 (m_logd_Leaves_b2 a0 a1) a0.L.length 0 (a0.Hide, ([] : List (UInt64 × UInt64)))) fun x3 =>
    some x3.2
  ) fun x2 =>
  some (x2, 0)
theorem w_logd_Leaves {a0 : g_api_Log} {a1 : Int} {r : (List (UInt64 × UInt64)) × Int} (hm : m_logd_Leaves a0 a1 = some r) : Sp prog 88 [ag (e_api_Log a0), .d (.i a1)] [] 0 (is (.tup [.ow 0, .d (.i r.2)]) [.row 0 2 _ e_a2_eU r.1] 1) :=
  sp call88 func88 rfl ntmps88 rfl fun D0 As η0 m0 hd => by
    unfold m_logd_Leaves at hm
    obtain ⟨x1, q1, hm⟩ := obind_some hm
    refine gc (fun _ => s_logd_Check q1) (by kernel_rfl) ?_
    refine gi hm (by kernel_rfl) (fun hc1 hm => ?_) fun hc1 hm => ?_
    · skip
      refine gnil e_a2_eU 4 2 (by kernel_rfl) ?_
      have e0 := Option.some.inj hm
      subst e0
      exact gend hd (by kernel_rfl)
    refine gi hm (by kernel_rfl) (fun hc2 hm => ?_) fun hc2 hm => ?_
    · skip
      refine gnil e_a2_eU 4 2 (by kernel_rfl) ?_
      have e0 := Option.some.inj hm
      subst e0
      exact gend hd (by kernel_rfl)
    obtain ⟨x2, q2, hm⟩ := obind_some hm
    obtain ⟨x3, q3, q2⟩ := obind_some q2
    refine gnilU 0 e_a2_eU 8 2 (by kernel_rfl) ?_
    refine glen 0 (E := e_api_Leaf) (xs := a0.L) 26 (by kernel_rfl) fun hle1 => ?_
    refine gjU 0 (fun (_ : Unit) => ⟨[(8, .ow 1)], [(0, .row 1 2 _ e_a2_eU x2), (1, .box 0 [.d (.i a0.Id), .d (.u a0.Key), .d (.i a0.Delay), sl e_api_Leaf a0.L, sl eI a0.Hide, sl e_api_Leaf a0.Wait] 65)], [], 2⟩) (fun _ => True) (by kernel_rfl) (fun Jp bk1 => ?_) fun _ _ => ?_
    · refine gjU 0 (fun (_ : Unit) => let (y_0, y_1) := x3; ⟨[(7, sl eI y_0), (8, .ow 1)], [(0, .row 1 2 _ e_a2_eU y_1), (1, .box 0 [.d (.i a0.Id), .d (.u a0.Key), .d (.i a0.Delay), sl e_api_Leaf a0.L, sl eI a0.Hide, sl e_api_Leaf a0.Wait] 65)], [], 2⟩) (fun _ => True) (by kernel_rfl) (fun Jp bk2 => ?_) fun _ _ => ?_
      · refine gl hd (fun (p : Int × ((List Int) × (List (UInt64 × UInt64)))) => let (p0, p_0, p_1) := p; ⟨[(1, .d (.i a1)), (7, sl eI p_0), (8, .ow 1), (26, sl e_api_Leaf a0.L), (27, .d (.i (a0.L.length : Int))), (28, .d (.i p0))], [(0, .row 1 2 _ e_a2_eU p_1), (1, .box 0 [.d (.i a0.Id), .d (.u a0.Key), .d (.i a0.Delay), sl e_api_Leaf a0.L, sl eI a0.Hide, sl e_api_Leaf a0.Wait] 65)], [], 2⟩) (fun p => ∃ i : Nat, p.1 = (i : Int) ∧ i ≤ a0.L.length ∧ eachN0 (m_logd_Leaves_b2 a0 a1) (a0.L.length - i) (i : Int) p.2 = some x3) (fun p => a0.L.length - p.1.toNat) (0, (a0.Hide, ([] : List (UInt64 × UInt64)))) ⟨0, rfl, Nat.zero_le _, q3⟩ (by kernel_rfl) ?_
        rintro ⟨_, s1⟩ ⟨i1, rfl, hi, q4⟩ Jl bl1
        refine gi' (b := decide ((i1 : Int) < (a0.L.length : Int))) (by kernel_rfl) (fun hc5 => ?_) fun hc5 => ?_
        · have hlt1 : i1 < a0.L.length := by have := of_decide_eq_true hc5; omega
          obtain ⟨y1, q6, q5⟩ := eachN0_in q4 hlt1
          unfold m_logd_Leaves_b2 at q6
          obtain ⟨x5, q8, q6⟩ := obind_some q6
          refine gidx (k := 2) (E := e_api_Leaf) (fun _ => rfl) (fun _ => q8) (by kernel_rfl) ?_
          obtain ⟨x6, q9, q6⟩ := obind_some q6
          obtain ⟨x7, q10, q9⟩ := obind_some q9
          refine gidxG (k := 1) (E := eI) (fun _ => rfl) (fun h => gu_t h q10) (by kernel_rfl) ?_
          refine gj (fun (_ : Unit) => let (y_0, y_1) := x6; ⟨[(1, .d (.i a1)), (7, sl eI y_0), (8, .ow 1), (11, sl eB y_1), (26, sl e_api_Leaf a0.L), (27, .d (.i (a0.L.length : Int))), (28, .d (.i (i1 : Int)))], [(0, .box 2 [sl eB x5.Body, .d (.i x5.At)] 126), (1, .row 1 2 _ e_a2_eU s1.2), (2, .box 0 [.d (.i a0.Id), .d (.u a0.Key), .d (.i a0.Delay), sl e_api_Leaf a0.L, sl eI a0.Hide, sl e_api_Leaf a0.Wait] 65)], [], 3⟩) (fun _ => True) (by kernel_rfl) (fun Jp bk3 => ?_) fun _ _ => ?_
          · refine gi q9 (by kernel_rfl) (fun hc3 q9 => ?_) fun hc3 q9 => ?_
            · skip
              obtain ⟨x8, q11, q9⟩ := obind_some q9
              refine gcut (k := 1) (E := eI) (fun _ => rfl) (fun _ => q11) (by kernel_rfl) ?_
              refine gi q9 (by kernel_rfl) (fun hc4 q9 => ?_) fun hc4 q9 => ?_
              · refine glitF (k := 1) eB ([0] : List UInt8) (fun _ => rfl) (by kernel_rfl) ?_
                refine glitF (k := 1) (eL eB) ([([0] : List UInt8), x5.Body] : List (List UInt8)) (fun _ => rfl) (by kernel_rfl) ?_
                obtain ⟨x9, q12, q9⟩ := obind_some q9
                refine gco (s_slices_Concat_byte_byte q12) (by kernel_rfl) ?_
                have e0 := Option.some.inj q9
                subst e0
                exact gb bk3 hd () trivial (by kernel_rfl)
              have e0 := Option.some.inj q9
              subst e0
              exact gb bk3 hd () trivial (by kernel_rfl)
            have e0 := Option.some.inj q9
            subst e0
            exact gb bk3 hd () trivial (by kernel_rfl)
          obtain ⟨x10, q13, q6⟩ := obind_some q6
          refine gc (fun _ => w_merkle_Leaf q13) (by kernel_rfl) ?_
          refine glitF (k := 2) e_a2_eU ([x10] : List (UInt64 × UInt64)) (fun _ => rfl) (by kernel_rfl) ?_
          obtain ⟨x11, q14, q6⟩ := obind_some q6
          refine gapp (k := 2) (E := e_a2_eU) (fun _ => rfl) q14 (by kernel_rfl) ?_
          have e0 := Option.some.inj q6
          subst e0
          exact gb bl1 hd (w64 ((i1 : Int) + 1), (x6.1, x11)) ⟨⟨i1 + 1, w64_succ hlt1 hle1, by omega, q5⟩, mu_lt hlt1 hle1⟩ (by kernel_rfl)
        have hlt1 : ¬ i1 < a0.L.length := by have := of_decide_eq_false hc5; omega
        have e := Eq.symm (eachN0_out q4 hlt1)
        subst e
        exact gb bk2 hd () trivial (by kernel_rfl)
      have e0 := Option.some.inj q2
      subst e0
      exact gb bk1 hd () trivial (by kernel_rfl)
    have e0 := Option.some.inj hm
    subst e0
    exact gend hd (by kernel_rfl)
theorem v_logd_Leaves {m : Mem} {As : List Ow} {w : World} {a0 : g_api_Log} {a0v3 : Value} {a0v4 : Value} {a0v5 : Value} {a1 : Int} {r : (List (UInt64 × UInt64)) × Int} (S : St m As w) (a0h3 : SlR m a0v3 a0.L) (a0h4 : SlR m a0v4 a0.Hide) (a0h5 : SlR m a0v5 a0.Wait) (hm : m_logd_Leaves a0 a1 = some r) :
    CallsR prog 88 #[.agg #[vI a0.Id, vU a0.Key, vI a0.Delay, a0v3, a0v4, a0v5], vI a1] w fun v w' => ∃ (M : Mem), m ≤ M ∧ ∃ (rv0 : Value) (rc0 : List Value), St M ((row 2 rv0 rc0 r.1.length) :: As) w' ∧ v = .tuple #[rv0, vI r.2] ∧ RepL M rc0 r.1 := by
  refine CallsR.mono ((w_logd_Leaves hm).2 none0 m As w [.agg #[vI a0.Id, vU a0.Key, vI a0.Delay, a0v3, a0v4, a0v5], vI a1] (.cons (Br.toA b_api_Log (mk_g_api_Log a0h3 a0h4 a0h5)) (.cons (.d (.i _)) .nil)) (fun n h => absurd rfl h) S) ?_
  rintro v w' ⟨M, η', r', obs', n1, hle, _, ⟨rfl, rfl, rfl⟩, hdom, hR, S'⟩
  obtain ⟨us, rfl, hR0⟩ := hR.tup_inv
  obtain ⟨v0, u0, rfl, q0, hR1⟩ := RelL.cons_inv hR0
  obtain ⟨v1, u1, rfl, q1, hR2⟩ := RelL.cons_inv hR1
  obtain rfl := RelL.nil_inv hR2
  obtain ⟨n0, o0⟩ := q0.ow_inv
  obtain ⟨y0, c0, k0, _, d0, _, S'⟩ := St.openRow S'
  rw [n0] at k0; obtain rfl := Option.some.inj k0
  obtain rfl := q1.i_inv
  exact ⟨M, hle, v0, c0, S', rfl, Br.ofL b_a2_eU d0⟩
def m_logd_first (a0 : g_api_Log) (a1 : Int) (a2 : Int) : Option ((List (UInt64 × UInt64)) × Int) :=
  obind (m_logd_Leaves a0 a1) fun x1 =>
  if (x1.2 != 0) = true then
    some (([] : List (UInt64 × UInt64)), x1.2)
  else
  if ((decide (a2 < 0)) || (decide (a2 > (x1.1.length : Int)))) = true then
    some (([] : List (UInt64 × UInt64)), 80)
  else
  if (0 : Int) ≤ a2 ∧ a2 ≤ (x1.1.length : Int) then
    some ((x1.1.take a2.toNat), 0)
  else none
theorem w_logd_first {m : Mem} {As : List Ow} {w : World} {a0 : g_api_Log} {a0v3 : Value} {a0v4 : Value} {a0v5 : Value} {a1 : Int} {a2 : Int} {r : (List (UInt64 × UInt64)) × Int} (S : St m (As) w) (a0h3 : SlR m a0v3 a0.L) (a0h4 : SlR m a0v4 a0.Hide) (a0h5 : SlR m a0v5 a0.Wait) (hm : m_logd_first a0 a1 a2 = some r) :
    CallsR Tryz.prog 66 #[.agg (c_api_Log a0 a0v3 a0v4 a0v5).toArray, vI a1, vI a2] w fun v w' => ∃ (M : Mem), m ≤ M ∧ ∃ (rv0 : Value) (rc0 : List Value), St M ((row 2 rv0 rc0 r.1.length) :: As) w' ∧ v = .tuple #[rv0, vI r.2] ∧ RepL M rc0 r.1 := by
 unfold m_logd_first at hm
 have L0 := Mem.rfl' m
 refine callsR (args := [.agg (c_api_Log a0 a0v3 a0v4 a0v5).toArray, vI a1, vI a2]) func66 rfl ntmps66 (nb rfl) <| ws <| s_box S rfl fun b1 w1 S1 => ?_
 replace S1 : St _ ((bx b1 (c_api_Log a0 a0v3 a0v4 a0v5) 65) :: As) _ := S1
 clear S
 refine s_asv (v := .slice none 0 0) rfl <| s_asv (v := vI 0) rfl <| nx <| s_ld (i := 0) (cs := (c_api_Log a0 a0v3 a0v4 a0v5)) S1 rfl rfl isAgg65 sizeOf65 rfl (fun h => by cases h) <| s_mvv (v := vI a1) rfl ?_
 obtain ⟨x1, q1, hm⟩ := obind_some hm
 refine s_call call88 (v_logd_Leaves (a0 := a0) (a1 := a1) S1 a0h3 a0h4 a0h5 q1) rfl ?_
 rintro _ w2 ⟨m1, l1, v1, c1, S2, rfl, h1⟩
 clear S1
 refine s_mvv (v := .tuple #[v1, vI x1.2]) rfl <| s_ext (i := 0) rfl rfl <| s_ext (i := 1) rfl rfl <| s_asv (v := v1) rfl <| s_asv (v := vI x1.2) rfl <| wpl_nil <| nrm <| wpc_seq <| ws <| s_mvv (v := vI x1.2) rfl <| s_neq (m := x1.2) (n := 0) rfl rfl <| wpl_nil <| nrm <| wpc_if (t := (x1.2 != 0)) rfl (fun hc1 => ?_) (fun hc1 => ?_)
 · replace hm := ifT hc1 hm
   refine ws <| s_mvv (v := vI x1.2) rfl <| s_asv (v := .slice none 0 0) rfl <| s_asv (v := vI x1.2) rfl <| wpl_nil <| nrm <| wpc_ret <| thR <| outRw fun we hpd => ?_
   replace S2 := St.pd S2 hpd
   have S3 := St.rowNil S2 2
   have h2 : RepL m1 [] ([] : List (UInt64 × UInt64)) := RepL.nil
   replace S3 : St _ ((row 2 (.slice none 0 0) [] ([] : List (UInt64 × UInt64)).length) :: (row 2 v1 c1 x1.1.length) :: (bx b1 (c_api_Log a0 a0v3 a0v4 a0v5) 65) :: As) _ := S3
   clear S2
   obtain ⟨m2, l2, S4⟩ := St.drop S3 1
   clear S3
   replace S4 : St _ ((row 2 (.slice none 0 0) [] ([] : List (UInt64 × UInt64)).length) :: (bx b1 (c_api_Log a0 a0v3 a0v4 a0v5) 65) :: As) _ := S4
   obtain ⟨m3, l3, S5⟩ := St.drop S4 1
   clear S4
   replace S5 : St _ ((row 2 (.slice none 0 0) [] ([] : List (UInt64 × UInt64)).length) :: As) _ := S5
   have e0 := Option.some.inj hm
   subst e0
   replace L0 := Mem.tr L0 (mt l1 (mt l2 l3))
   replace h2 := RepL.up (mt l2 l3) h2
   exact outR [_, _] rfl ⟨rfl, rfl, trivial⟩ ⟨_, L0, _, _, S5, rfl, h2⟩
 replace hm := ifF hc1 hm
 refine wpc_skip <| nrm <| wpc_seq <| ws <| s_mvv (v := vI a2) rfl <| s_lss (m := a2) (n := 0) rfl rfl <| s_mvv (v := vb (decide (a2 < 0))) rfl <| wpl_cut 5 [22, 23, 24, 25, 26] (fun f' w' => w' = w2 ∧ AllAt f' [(26, vb ((decide (a2 < 0)) || (decide (a2 > (x1.1.length : Int)))))]) ?_ ?_
 · rcases bool_tf (decide (a2 < 0)) with hb1 | hb1
   · exact wpl_no (d := 21) rfl rfl (cb hb1) <| wpl_no (d := 21) rfl rfl (cb hb1) <| wpl_no (d := 21) rfl rfl (cb hb1) <| wpl_no (d := 21) rfl rfl (cb hb1) <| s_pickT (cb hb1) rfl <| wpl_nil (nrm ⟨outP, rfl, congrArg Value.bool (or_t hb1), trivial⟩)
   · exact wpl_yes (d := 21) rfl rfl (cb hb1) <| s_mvv (v := vI a2) rfl <| wpl_yes (d := 21) rfl rfl (cb hb1) <| s_mvv (v := v1) rfl <| wpl_yes (d := 21) rfl rfl (cb hb1) <| s_lenO (i := 0) S2 rfl rfl underlying105 <| wpl_yes (d := 21) rfl rfl (cb hb1) <| s_gtr (m := a2) (n := (x1.1.length : Int)) rfl rfl <| s_pickF (cb hb1) rfl <| wpl_nil (nrm ⟨outP, rfl, congrArg Value.bool (or_f hb1), trivial⟩)
 rintro f1 w3 ho ⟨h3, ha⟩
 subst h3
 obtain ⟨u1, rfl⟩ := fr_of (N := 30) ho ha
 refine wpl_nil <| nrm <| wpc_if (t := ((decide (a2 < 0)) || (decide (a2 > (x1.1.length : Int))))) rfl (fun hc2 => ?_) (fun hc2 => ?_)
 · replace hm := ifT hc2 hm
   refine ws <| s_asv (v := .slice none 0 0) rfl <| s_asv (v := vI 80) rfl <| wpl_nil <| nrm <| wpc_ret <| thR <| outRw fun we hpd => ?_
   replace S2 := St.pd S2 hpd
   have S6 := St.rowNil S2 2
   have h4 : RepL m1 [] ([] : List (UInt64 × UInt64)) := RepL.nil
   replace S6 : St _ ((row 2 (.slice none 0 0) [] ([] : List (UInt64 × UInt64)).length) :: (row 2 v1 c1 x1.1.length) :: (bx b1 (c_api_Log a0 a0v3 a0v4 a0v5) 65) :: As) _ := S6
   clear S2
   obtain ⟨m4, l4, S7⟩ := St.drop S6 1
   clear S6
   replace S7 : St _ ((row 2 (.slice none 0 0) [] ([] : List (UInt64 × UInt64)).length) :: (bx b1 (c_api_Log a0 a0v3 a0v4 a0v5) 65) :: As) _ := S7
   obtain ⟨m5, l5, S8⟩ := St.drop S7 1
   clear S7
   replace S8 : St _ ((row 2 (.slice none 0 0) [] ([] : List (UInt64 × UInt64)).length) :: As) _ := S8
   have e0 := Option.some.inj hm
   subst e0
   replace L0 := Mem.tr L0 (mt l1 (mt l4 l5))
   replace h4 := RepL.up (mt l4 l5) h4
   exact outR [_, _] rfl ⟨rfl, rfl, trivial⟩ ⟨_, L0, _, _, S8, rfl, h4⟩
 replace hm := ifF hc2 hm
 refine wpc_skip <| nrm <| ws <| s_mvv (v := v1) rfl <| s_mvv (v := vI a2) rfl ?_
 obtain ⟨⟨q2, q3⟩, hm⟩ := if_some hm
 refine s_cutO (i := 0) S2 rfl rfl underlying105 sizeOf27 rfl rfl q2 q3 fun v2 S9 => ?_
 have h5 := RepL.take h1 a2.toNat
 replace S9 : St m1 ((row 2 v2 (c1.take (a2.toNat * 2)) (x1.1.take a2.toNat).length) :: (bx b1 (c_api_Log a0 a0v3 a0v4 a0v5) 65) :: As) w3 := by rw [show ((x1.1.take a2.toNat)).length = a2.toNat from by simp; omega]; exact S9
 clear S2
 refine s_asv (v := v2) rfl <| s_asv (v := vI 0) rfl <| wpl_nil <| nrm <| wpc_ret <| outRw fun we hpd => ?_
 replace S9 := St.pd S9 hpd
 obtain ⟨m6, l6, S10⟩ := St.drop S9 1
 clear S9
 replace S10 : St _ ((row 2 v2 (c1.take (a2.toNat * 2)) (x1.1.take a2.toNat).length) :: As) _ := S10
 have e0 := Option.some.inj hm
 subst e0
 replace L0 := Mem.tr L0 (mt l1 l6)
 replace h5 := RepL.up l6 h5
 exact outR [_, _] rfl ⟨rfl, rfl, trivial⟩ ⟨_, L0, _, _, S10, rfl, h5⟩
theorem s_logd_first {a0 : g_api_Log} {a1 : Int} {a2 : Int} {r : (List (UInt64 × UInt64)) × Int} (hm : m_logd_first a0 a1 a2 = some r) : Sp prog 66 [ag (e_api_Log a0), .d (.i a1), .d (.i a2)] [] 0 (is (.tup [.ow 0, .d (.i r.2)]) [.row 0 2 _ e_a2_eU r.1] 1) :=
  ⟨call66, fun η m As w vs hv0 hd S => by
    have S : St m As w := S
    obtain ⟨v0, u0, rfl, r0, hv1⟩ := RelL.cons_inv hv0
    obtain ⟨c0, rfl, g0⟩ := Br.ofA b_api_Log r0
    obtain ⟨z0_0, z0_1, z0_2, rfl, f0_0, f0_1, f0_2⟩ := rep_g_api_Log g0
    obtain ⟨v1, u1, rfl, r1, hv2⟩ := RelL.cons_inv hv1
    obtain rfl := r1.i_inv
    obtain ⟨v2, u2, rfl, r2, hv3⟩ := RelL.cons_inv hv2
    obtain rfl := r2.i_inv
    obtain rfl := RelL.nil_inv hv3
    refine CallsR.mono (w_logd_first S f0_0 f0_1 f0_2 hm) ?_
    rintro v w' ⟨M, hle, y0, c0, S0, rfl, h0⟩
    exact ⟨M, (envL [y0]), _, _, _, hle, dom0 hd _, ⟨rfl, rfl, rfl⟩, envL_dom rfl, (.tup' (.cons (.ow rfl (row_one S0)) (.cons (.d (.i _)) .nil))), (St.impL S0 (sepC (Br.toR b_a2_eU rfl rfl (row_one S0) h0) fun _ h => h))⟩⟩
def m_hash_Pair (a0 : UInt64 × UInt64) (a1 : UInt64 × UInt64) : Option (UInt64 × UInt64) :=
  obind (m_hash_Bytes a0) fun x1 =>
  obind (m_hash_Bytes a1) fun x2 =>
  obind (m_hash_Tagged (⟨#[110, 111, 100, 101]⟩ : ByteArray) ([x1, x2] : List (List UInt8))) fun x3 =>
  some x3
theorem w_hash_Pair {a0 : UInt64 × UInt64} {a1 : UInt64 × UInt64} {r : UInt64 × UInt64} (hm : m_hash_Pair a0 a1 = some r) : Sf prog 93 [ag (e_a2_eU a0), ag (e_a2_eU a1)] (ag (e_a2_eU r)) :=
  sp call93 func93 rfl ntmps93 rfl fun D0 As η0 m0 hd => by
    unfold m_hash_Pair at hm
    obtain ⟨x1, q1, hm⟩ := obind_some hm
    refine gco (w_hash_Bytes q1) (by kernel_rfl) ?_
    obtain ⟨x2, q2, hm⟩ := obind_some hm
    refine gco (w_hash_Bytes q2) (by kernel_rfl) ?_
    refine glitV (k := 1) (eL eB) ([x1, x2] : List (List UInt8)) (fun _ => rfl) (by kernel_rfl) ?_
    obtain ⟨x3, q3, hm⟩ := obind_some hm
    refine gc (fun _ => w_hash_Tagged q3) (by kernel_rfl) ?_
    have e0 := Option.some.inj hm
    subst e0
    exact gend hd (by kernel_rfl)
theorem v_hash_Pair {m : Mem} {As : List Ow} {w : World} {a0 : UInt64 × UInt64} {a1 : UInt64 × UInt64} {r : UInt64 × UInt64} (S : St m As w) (hm : m_hash_Pair a0 a1 = some r) :
    CallsR prog 93 #[.agg #[vU a0.1, vU a0.2], .agg #[vU a1.1, vU a1.2]] w fun v w' => ∃ (M : Mem), m ≤ M ∧ St M (As) w' ∧ v = .agg #[vU r.1, vU r.2] := by
  refine CallsR.mono ((w_hash_Pair hm).2 none0 m As w [.agg #[vU a0.1, vU a0.2], .agg #[vU a1.1, vU a1.2]] (.cons (Br.toA b_a2_eU (mk_arr2_UInt64)) (.cons (Br.toA b_a2_eU (mk_arr2_UInt64)) .nil)) (fun n h => absurd rfl h) S) ?_
  rintro v w' ⟨M, η', r', obs', n1, hle, _, ⟨rfl, rfl, rfl⟩, hdom, hR, S'⟩
  obtain ⟨c0, rfl, g0⟩ := Br.ofA b_a2_eU hR
  obtain rfl := rep_arr2_UInt64 g0
  exact ⟨M, hle, S', rfl⟩
def m_bits_Len (a0 : UInt64) : Option Int :=
  obind (m_bits_Len64 a0) fun x1 =>
  some x1
theorem w_bits_Len {a0 : UInt64} {r : Int} (hm : m_bits_Len a0 = some r) : Sf prog 114 [.d (.u a0)] (.d (.i r)) :=
  sp call114 func114 rfl ntmps114 rfl fun D0 As η0 m0 hd => by
    unfold m_bits_Len at hm
    refine gi' (b := false) (by kernel_rfl) (fun h => by cases h) (fun _ => ?_)
    obtain ⟨x1, q1, hm⟩ := obind_some hm
    refine gc (fun _ => w_bits_Len64 q1) (by kernel_rfl) ?_
    have e0 := Option.some.inj hm
    subst e0
    exact gend hd (by kernel_rfl)
theorem v_bits_Len {m : Mem} {As : List Ow} {w : World} {a0 : UInt64} {r : Int} (S : St m As w) (hm : m_bits_Len a0 = some r) :
    CallsR prog 114 #[vU a0] w fun v w' => ∃ (M : Mem), m ≤ M ∧ St M (As) w' ∧ v = vI r := by
  refine CallsR.mono ((w_bits_Len hm).2 none0 m As w [vU a0] (.cons (.d (.u _)) .nil) (fun n h => absurd rfl h) S) ?_
  rintro v w' ⟨M, η', r', obs', n1, hle, _, ⟨rfl, rfl, rfl⟩, hdom, hR, S'⟩
  obtain rfl := hR.i_inv
  exact ⟨M, hle, S', rfl⟩
def m_slices_Clone_api_Sum_api_Sum (a0 : List (UInt64 × UInt64)) : Option (List (UInt64 × UInt64)) :=
  obind (app 16 ([] : List (UInt64 × UInt64)) a0) fun x1 =>
  some x1
theorem w_slices_Clone_api_Sum_api_Sum {m : Mem} {As : List Ow} {w : World} {a0 : List (UInt64 × UInt64)} {a0v0 : Value} {r : List (UInt64 × UInt64)} (S : St m (As) w) (a0h0 : SlR m a0v0 a0) (hm : m_slices_Clone_api_Sum_api_Sum a0 = some r) :
    CallsR Tryz.prog 115 #[a0v0] w fun v w' => ∃ (M : Mem), m ≤ M ∧ ∃ (rv0 : Value) (rc0 : List Value), St M ((row 2 rv0 rc0 r.length) :: As) w' ∧ v = rv0 ∧ RepL M rc0 r := by
 unfold m_slices_Clone_api_Sum_api_Sum at hm
 have L0 := Mem.rfl' m
 refine callsR (args := [a0v0]) func115 rfl ntmps115 (nb rfl) <| ws <| s_asv (v := .slice none 0 0) rfl <| wpl_nil <| nrm <| wpc_seq <| ws <| s_mvv (v := a0v0) rfl <| s_eqlNil rfl rfl a0h0 underlying105 <| wpl_nil <| nrm <| wpc_if (t := (isNilV a0v0)) rfl (fun hc1 => ?_) (fun hc1 => ?_)
 · have he1 : a0 = [] := SlR.nilOf a0h0 hc1
   rw [he1] at hm
   replace hm : (some ([] : List (UInt64 × UInt64))) = some _ := hm
   refine ws <| s_asv (v := .slice none 0 0) rfl <| wpl_nil <| nrm <| wpc_ret <| thR <| outRw fun we hpd => ?_
   replace S := St.pd S hpd
   have S1 := St.rowNil S 2
   have h1 : RepL m [] ([] : List (UInt64 × UInt64)) := RepL.nil
   replace S1 : St _ ((row 2 (.slice none 0 0) [] ([] : List (UInt64 × UInt64)).length) :: As) _ := S1
   clear S
   have e0 := Option.some.inj hm
   subst e0
   exact outR [_] rfl ⟨rfl, trivial⟩ ⟨_, L0, _, _, S1, rfl, h1⟩
 refine wpc_skip <| nrm <| ws <| s_litOC (parts := []) (vs := []) (cls := []) (n := 0) (sz := 2) S underlying105 sizeOf27 zeroValue27 rfl trivial rfl rfl (by decide) (by decide) fun v1 w1 S2 => ?_
 have h2 : RepL m [] ([] : List (UInt64 × UInt64)) := RepL.nil
 replace S2 : St _ ((row 2 v1 [] ([] : List (UInt64 × UInt64)).length) :: As) _ := S2
 clear S
 refine s_mvv (v := a0v0) rfl ?_
 obtain ⟨x1, q1, hm⟩ := obind_some hm
 refine s_app (i := 0) (zs := x1) (bytes := 16) (ti := Tryz.t27) S2 rfl rfl h2 rfl rfl a0h0 q1 underlying105 type27 rfl rfl rfl rfl fun v2 c1 w2 S3 h3 => ?_
 replace S3 : St _ ((row 2 v2 c1 x1.length) :: As) _ := S3
 clear S2
 refine s_asv (v := v2) rfl <| wpl_nil <| nrm <| wpc_ret <| outRw fun we hpd => ?_
 replace S3 := St.pd S3 hpd
 have e0 := Option.some.inj hm
 subst e0
 exact outR [_] rfl ⟨rfl, trivial⟩ ⟨_, L0, _, _, S3, rfl, h3⟩
def m_merkle_parts_1_b3  (i3 : Int) (s3 : (List (UInt64 × UInt64))) : Option ((List (UInt64 × UInt64))) :=
  obind (idx s3 (w64 (2 * (i3 : Int)))) fun x14 =>
  obind (idx s3 (w64 ((w64 (2 * (i3 : Int))) + 1))) fun x15 =>
  obind (m_hash_Pair x14 x15) fun x16 =>
  obind (idx s3 (i3 : Int)) fun x17 =>
  bnd (s3.set (i3 : Int).toNat x16) fun x18 =>
  some x18
def m_merkle_parts_1_b2  (s2 : (List (UInt64 × UInt64))) : Option (((List (UInt64 × UInt64))) ⊕ ((List (UInt64 × UInt64)))) :=
  if (decide ((s2.length : Int) > 1)) = true then
    obind (
      bnd (w64 (Int.tdiv (s2.length : Int) 2)) fun x11 =>
      obind (eachN0 m_merkle_parts_1_b3 (Int.toNat x11) 0 s2) fun x12 =>
      some x12
    ) fun x10 =>
    bnd (w64 (Int.tdiv (x10.length : Int) 2)) fun x19 =>
    if (0 : Int) ≤ x19 ∧ x19 ≤ (x10.length : Int) then
      some (.inl (x10.take x19.toNat))
    else none
  else
  some (.inr s2)
def m_merkle_parts_1_b1 {σ : Type} (p0 : σ → g_merkle_part → Option (Bool × σ)) (s1 : (List (UInt64 × UInt64)) × σ) : Option (((List (UInt64 × UInt64)) × σ) ⊕ (((List (UInt64 × UInt64)) × σ) ⊕ ((List (UInt64 × UInt64)) × σ))) :=
  if (decide ((s1.1.length : Int) > 0)) = true then
    obind (m_bits_Len (toU (s1.1.length : Int))) fun x3 =>
    if (0 : Int) ≤ (w64 (x3 - 1)) then
      bnd ((shl64 1 ((w64 (x3 - 1)).toNat))) fun x4 =>
      obind (cut s1.1 0 x4) fun x5 =>
      obind (m_slices_Clone_api_Sum_api_Sum x5) fun x6 =>
      obind (
        obind (iter m_merkle_parts_1_b2 FUEL x6) fun x8 =>
        some x8
      ) fun x7 =>
      obind (idx x7 0) fun x20 =>
      obind (p0 s1.2 (⟨x4, x20⟩ : g_merkle_part)) fun x21 =>
      if (!x21.1) = true then
        some (.inr (.inr (s1.1, x21.2)))
      else
      obind (cut s1.1 x4 (s1.1.length : Int)) fun x22 =>
      some (.inl (x22, x21.2))
    else none
  else
  some (.inr (.inl (s1.1, s1.2)))
def m_merkle_parts_1 {σ : Type} (p0 : σ → g_merkle_part → Option (Bool × σ)) (k0 : List (UInt64 × UInt64)) (s0 : σ) : Option ((List (UInt64 × UInt64)) × σ) :=
  obind (iter (m_merkle_parts_1_b1 p0) FUEL (k0, s0)) fun x1 => match x1 with
  | .inr r => some r
  | .inl y1 =>
  some (y1.1, y1.2)
theorem w_merkle_parts_1 {m : Mem} {As : List Ow} {w : World} {σ : Type} {R : σ → Mem → List Ow → Prop} {p0 : σ → g_merkle_part → Option (Bool × σ)} {f0 : Value} {kb0 : Nat} {k0 : List (UInt64 × UInt64)} {k0v0 : Value} {s0 : σ} {X0 : List Ow} {r : (List (UInt64 × UInt64)) × σ} (S : St m ((bx kb0 [k0v0] 105) :: (X0 ++ As)) w) (hup : ∀ {s M M' X}, M ≤ M' → R s M X → R s M' X) (hX0 : R s0 m X0) (cb0 : ∀ {m' : Mem} {As' : List Ow} {w' : World} {s : σ} {X : List Ow} {b0 : g_merkle_part} {r : Bool × σ}, St m' (X ++ As') w' → R s m' X → p0 s b0 = some r → CallV Tryz.prog f0 [.agg (c_merkle_part b0).toArray] w' fun v w'' => ∃ (M : Mem) (X' : List Ow), m' ≤ M ∧ St M (X' ++ As') w'' ∧ R r.2 M X' ∧ v = vb r.1) (fc0 : f0.cells = #[f0]) (k0h0 : SlR m k0v0 k0) (hm : m_merkle_parts_1 p0 k0 s0 = some r) :
    CallsR Tryz.prog 113 #[f0, pt kb0 0] w fun v w' => ∃ (M : Mem), m ≤ M ∧ ∃ (rb0_0 : Value) (X : List Ow), St M ((bx kb0 [rb0_0] 105) :: (X ++ As)) w' ∧ v = .tuple #[] ∧ SlR M rb0_0 r.1 ∧ R r.2 M X := by
 unfold m_merkle_parts_1 at hm
 have L0 := Mem.rfl' m
 refine callsR (args := [f0, pt kb0 0]) func113 rfl ntmps113 (nb rfl) ?_
 obtain ⟨x1, q1, hm⟩ := obind_some hm
 have L1 := Mem.rfl' m
 refine wpc_wrap <| wpc_join (rg 3 57) (fun f' w' => ∃ (M1 : Mem) (y1 : (List (UInt64 × UInt64)) × σ) (v2 : Value) (X2 : List Ow), x1 = .inl y1 ∧ m ≤ M1 ∧ St M1 ((bx kb0 [v2] 105) :: (X2 ++ As)) w' ∧ SlR M1 v2 y1.1 ∧ R y1.2 M1 X2 ∧ AllAt f' []) ?_ ?_
 · refine wpc_block <| wpc_rounds (rg 3 57) (fun n1 f' w' => ∃ (s1 : (List (UInt64 × UInt64)) × σ) (m31 : Mem) (v1 : Value) (X1 : List Ow), iter (m_merkle_parts_1_b1 p0) n1 s1 = some x1 ∧ m ≤ m31 ∧ St m31 ((bx kb0 [v1] 105) :: (X1 ++ As)) w' ∧ SlR m31 v1 s1.1 ∧ R s1.2 m31 X1 ∧ AllAt f' []) FUEL ⟨(k0, s0), m, _, _, q1, L1, S, k0h0, hX0, trivial⟩ ?_
   rintro n1 f1 w1 ho ⟨s1, m1, v1, X1, q2, L3, S1, h1, h2, ha⟩
   obtain ⟨u1, rfl⟩ := fr_of (N := 60) ho ha
   clear ho ha
   have L2 := Mem.rfl' m1
   clear S
   cases n1 with
   | zero => exact (iter_zero q2).elim
   | succ n1 =>
    obtain ⟨y2, q4, q3⟩ := iter_succ q2
    unfold m_merkle_parts_1_b1 at q4
    refine wpc_seq <| ws <| s_ld (i := 0) (cs := [v1]) S1 rfl rfl isAgg105 sizeOf105 rfl (fun _ => rfl) <| s_lenR (xs := s1.1) rfl h1 underlying105 <| s_gtr (m := (s1.1.length : Int)) (n := 0) rfl rfl <| wpl_nil <| nrm <| wpc_if (t := (decide ((s1.1.length : Int) > 0))) rfl (fun hc1 => ?_) (fun hc1 => ?_)
    · replace q4 := ifT hc1 q4
      refine wpc_skip <| nrm <| wpc_block <| ws <| s_ld (i := 0) (cs := [v1]) S1 rfl rfl isAgg105 sizeOf105 rfl (fun _ => rfl) <| s_lenR (xs := s1.1) rfl h1 underlying105 <| s_convU rfl underlying3 underlying113 ?_
      obtain ⟨x3, q6, q4⟩ := obind_some q4
      refine s_call call114 (v_bits_Len (a0 := (toU (s1.1.length : Int))) S1  q6) rfl ?_
      rintro _ w2 ⟨m2, l1, S2, rfl⟩
      replace h2 := hup l1 h2
      clear S1
      refine s_subI (m := x3) (n := 1) rfl rfl ?_
      obtain ⟨q7, q4⟩ := if_some q4
      refine s_shlI (m := 1) (n := (w64 (x3 - 1))) rfl rfl q7 ?_
      obtain ⟨x4, q8, q4⟩ := bnd_eq q4
      refine s_asv (v := vI x4) (congrArg (fun z => vI z) q8.symm) <| nx <| s_ld (i := 0) (cs := [v1]) S2 rfl rfl isAgg105 sizeOf105 rfl (fun _ => rfl) <| s_mvv (v := vI x4) rfl ?_
      obtain ⟨x5, q9, q4⟩ := obind_some q4
      refine s_cut (ys := x5) (l := 0) (h := x4) rfl (h1.up l1) underlying105 sizeOf27 (.inl ⟨rfl, rfl⟩) (.inr ⟨_, rfl⟩) (.inl rfl) q9 fun v3 h5 => ?_
      obtain ⟨x6, q10, q4⟩ := obind_some q4
      refine s_call call115 (w_slices_Clone_api_Sum_api_Sum (a0 := x5) S2 h5 q10) rfl ?_
      rintro v4 w3 ⟨m3, l2, _, c1, S3, rfl, h6⟩
      replace h2 := hup l2 h2
      clear S2
      refine s_asv (v := v4) rfl <| wpl_nil <| nrm ?_
      obtain ⟨x7, q11, q4⟩ := obind_some q4
      have L4 := Mem.rfl' m3
      refine wpc_seq <| wpc_join [4, 5, 19, 20, 21, 22, 23, 24, 25, 26, 27, 28, 29, 30, 31, 32, 33, 34, 35, 36, 37, 38, 39, 40, 41, 42, 43, 44, 45, 46, 47, 48] (fun f' w' => ∃ (M2 : Mem) (v5 : Value) (c2 : List Value), m3 ≤ M2 ∧ St M2 ((row 2 v5 c2 x7.length) :: (bx kb0 [v1] 105) :: (X1 ++ As)) w' ∧ RepL M2 c2 x7 ∧ AllAt f' [(4, v5)]) ?_ ?_
      · obtain ⟨x8, q12, q11⟩ := obind_some q11
        have L5 := Mem.rfl' m3
        refine wpc_join [4, 5, 19, 20, 21, 22, 23, 24, 25, 26, 27, 28, 29, 30, 31, 32, 33, 34, 35, 36, 37, 38, 39, 40, 41, 42, 43, 44, 45, 46, 47, 48] (fun f' w' => ∃ (M3 : Mem) (v7 : Value) (c4 : List Value), m3 ≤ M3 ∧ St M3 ((row 2 v7 c4 x8.length) :: (bx kb0 [v1] 105) :: (X1 ++ As)) w' ∧ RepL M3 c4 x8 ∧ AllAt f' [(4, v7)]) ?_ ?_
        · refine wpc_block <| wpc_rounds [4, 5, 19, 20, 21, 22, 23, 24, 25, 26, 27, 28, 29, 30, 31, 32, 33, 34, 35, 36, 37, 38, 39, 40, 41, 42, 43, 44, 45, 46, 47, 48] (fun n2 f' w' => ∃ (s2 : (List (UInt64 × UInt64))) (m25 : Mem) (v6 : Value) (c3 : List Value), iter m_merkle_parts_1_b2 n2 s2 = some x8 ∧ m3 ≤ m25 ∧ St m25 ((row 2 v6 c3 s2.length) :: (bx kb0 [v1] 105) :: (X1 ++ As)) w' ∧ RepL m25 c3 s2 ∧ AllAt f' [(4, v6)]) FUEL ⟨x6, m3, _, _, q12, L5, S3, h6, ⟨rfl, trivial⟩⟩ ?_
          rintro n2 f2 w4 ho ⟨s2, m4, v6, c3, q13, L7, S4, h8, ha⟩
          obtain ⟨u2, rfl⟩ := fr_of (N := 60) ho ha
          clear ho ha
          replace h2 := hup L7 h2
          have L6 := Mem.rfl' m4
          clear S3
          cases n2 with
          | zero => exact (iter_zero q13).elim
          | succ n2 =>
           obtain ⟨y3, q15, q14⟩ := iter_succ q13
           unfold m_merkle_parts_1_b2 at q15
           refine wpc_seq <| ws <| s_mvv (v := v6) rfl <| s_lenO (i := 0) S4 rfl rfl underlying105 <| s_gtr (m := (s2.length : Int)) (n := 1) rfl rfl <| wpl_nil <| nrm <| wpc_if (t := (decide ((s2.length : Int) > 1))) rfl (fun hc2 => ?_) (fun hc2 => ?_)
           · replace q15 := ifT hc2 q15
             refine wpc_skip <| nrm <| wpc_block ?_
             obtain ⟨x10, q17, q15⟩ := obind_some q15
             have L8 := Mem.rfl' m4
             refine wpc_seq <| wpc_join [5, 22, 23, 24, 25, 26, 27, 28, 29, 30, 31, 32, 33, 34, 35, 36, 37, 38, 39, 40, 41, 42, 43] (fun f' w' => ∃ (M4 : Mem) (c5 : List Value), m4 ≤ M4 ∧ St M4 ((row 2 v6 c5 x10.length) :: (bx kb0 [v1] 105) :: (X1 ++ As)) w' ∧ RepL M4 c5 x10 ∧ AllAt f' []) ?_ ?_
             · refine ws <| s_mvv (v := v6) rfl <| s_lenO (i := 0) S4 rfl rfl underlying105 <| s_quoI (m := (s2.length : Int)) (n := 2) rfl rfl (by decide) ?_
               obtain ⟨x11, q18, q17⟩ := bnd_eq q17
               refine s_re (congrArg (fun z => vI z) q18.symm) <| s_mvv (v := vI 0) rfl <| wpl_nil <| nrm ?_
               obtain ⟨x12, q19, q17⟩ := obind_some q17
               have L9 := Mem.rfl' m4
               refine wpc_join [5, 25, 26, 27, 28, 29, 30, 31, 32, 33, 34, 35, 36, 37, 38, 39, 40, 41, 42, 43] (fun f' w' => ∃ (M5 : Mem) (c7 : List Value), m4 ≤ M5 ∧ St M5 ((row 2 v6 c7 x12.length) :: (bx kb0 [v1] 105) :: (X1 ++ As)) w' ∧ RepL M5 c7 x12 ∧ AllAt f' []) ?_ ?_
               · refine wpc_block <| wpc_rounds [5, 25, 26, 27, 28, 29, 30, 31, 32, 33, 34, 35, 36, 37, 38, 39, 40, 41, 42, 43] (fun n3 f' w' => ∃ (i3 : Nat) (s3 : (List (UInt64 × UInt64))) (m22 : Mem) (c6 : List Value), n3 = (Int.toNat x11) - i3 ∧ i3 ≤ (Int.toNat x11) ∧ eachN0 m_merkle_parts_1_b3 ((Int.toNat x11) - i3) (i3 : Int) s3 = some x12 ∧ m4 ≤ m22 ∧ St m22 ((row 2 v6 c6 s3.length) :: (bx kb0 [v1] 105) :: (X1 ++ As)) w' ∧ RepL m22 c6 s3 ∧ AllAt f' [(25, vI (i3 : Int))]) (Int.toNat x11) ⟨0, s2, m4, _, rfl, Nat.zero_le _, q19, L9, S4, h8, ⟨rfl, trivial⟩⟩ ?_
                 rintro n3 f3 w5 ho ⟨i3, s3, m5, c6, hn, hi, q20, L11, S5, h11, ha⟩
                 obtain ⟨u3, rfl⟩ := fr_of (N := 60) ho ha
                 clear ho ha
                 replace h2 := hup L11 h2
                 have L10 := Mem.rfl' m5
                 clear S4
                 refine ws <| s_lss (m := (i3 : Int)) (n := x11) rfl rfl <| wpl_nil <| nrm <| wpc_seq <| wpc_if (t := decide ((i3 : Int) < x11)) rfl (fun hc3 => ?_) (fun hc3 => ?_)
                 · have hlt3 : i3 < (Int.toNat x11) := by have := of_decide_eq_true hc3; omega
                   obtain ⟨y4, q22, q21⟩ := eachN0_in q20 hlt3
                   unfold m_merkle_parts_1_b3 at q22
                   refine wpc_skip <| nrm <| wpc_seq <| wpc_block <| ws <| s_mvv (v := vI (i3 : Int)) rfl <| s_asv (v := vI (i3 : Int)) rfl <| wpl_nil <| nrm ?_
                   obtain ⟨x14, q24, q22⟩ := obind_some q22
                   obtain ⟨x15, q25, q22⟩ := obind_some q22
                   obtain ⟨x16, q26, q22⟩ := obind_some q22
                   have HM : MonoAll [(28, fv v6), (29, fv (vI (i3 : Int))), (30, fv v6), (31, fv (vI (i3 : Int))), (32, fv (vI (w64 (2 * (i3 : Int))))), (33, fun (M : Mem) (v : Value) => ∃ (p1 : Value), v = p1 ∧ PtO v6 p1 ((w64 (2 * (i3 : Int))).toNat * 2)), (34, fv (.agg #[vU x14.1, vU x14.2])), (35, fv v6), (36, fv (vI (i3 : Int))), (37, fv (vI (w64 (2 * (i3 : Int))))), (38, fv (vI (w64 ((w64 (2 * (i3 : Int))) + 1)))), (39, fun (M : Mem) (v : Value) => ∃ (p2 : Value), v = p2 ∧ PtO v6 p2 ((w64 ((w64 (2 * (i3 : Int))) + 1)).toNat * 2)), (40, fv (.agg #[vU x15.1, vU x15.2])), (41, fv (.agg #[vU x16.1, vU x16.2]))] := ⟨mv, mv, mv, mv, mv, (fun _ _ _ l ⟨p1, e, h13⟩ => ⟨p1, e, h13⟩), mv, mv, mv, mv, mv, (fun _ _ _ l ⟨p2, e, h15⟩ => ⟨p2, e, h15⟩), mv, mv, trivial⟩
                   refine wpc_flowG HM 14 mixed rfl rfl rfl (rg 28 14) (fun L f M w => St M ((row 2 v6 c6 s3.length) :: (bx kb0 [v1] 105) :: (X1 ++ As)) w) (St.drew S5 _) ?_ ?_
                   · refine ⟨?_, ?_, ?_, ?_, ?_, ?_, ?_, ?_, ?_, ?_, ?_, ?_, ?_, ?_, trivial⟩
                     · exact flp HM rfl [] (fun _ _ => trivial) (fun _ _ q => s_mvv (v := v6) rfl q) rfl
                     · exact flp HM rfl [] (fun _ _ => trivial) (fun _ _ q => s_mvv (v := vI (i3 : Int)) rfl q) rfl
                     · exact flp HM rfl [] (fun _ _ => trivial) (fun _ _ q => s_mvv (v := v6) rfl q) rfl
                     · exact flp HM rfl [] (fun _ _ => trivial) (fun _ _ q => s_mvv (v := vI (i3 : Int)) rfl q) rfl
                     · exact flp HM rfl [(31, _)] (fun K _ => ⟨K 3 rfl, trivial⟩) (fun _ _ q => s_mulI (m := 2) (n := (i3 : Int)) rfl rfl q) rfl
                     · intro L f9 w11 hL hd hc ⟨m11, L22, S11, K, hO⟩
                       obtain ⟨u9, rfl⟩ := fr_of (N := 60) (L := [(30, _), (32, _)]) hO ⟨K 2 (dep hd rfl), K 4 (dep hd rfl), trivial⟩
                       replace h2 := hup L22 h2
                       exact s_idxO (i := 0) (j := (w64 (2 * (i3 : Int)))) S11 rfl rfl rfl (idx_rng q24).1 (idx_rng q24).2 underlying105 sizeOf27 fun p1 h13 => oS HM L22 S11 rfl K rfl rfl ⟨p1, rfl, h13⟩ outP
                     · intro L f10 w12 hL hd hc ⟨m12, L24, S12, K, hO⟩
                       obtain ⟨v8, e4, h14⟩ := K 5 (dep hd rfl)
                       obtain ⟨u10, rfl⟩ := fr_of (N := 60) (L := [(33, _)]) hO ⟨e4, trivial⟩
                       replace h2 := hup L24 h2
                       replace h11 := RepL.up L24 h11
                       have e5 := rep_arr2_UInt64 (RepL.getI h11 q24)
                       exact s_ldO (i := 0) (off := (w64 (2 * (i3 : Int))).toNat * 2) (d := [vU x14.1, vU x14.2]) S12 rfl h14 rfl e5 isAgg27 sizeOf27 (fun h => by cases h) <| oS HM L24 S12 rfl K rfl rfl rfl outP
                     · exact flp HM rfl [] (fun _ _ => trivial) (fun _ _ q => s_mvv (v := v6) rfl q) rfl
                     · exact flp HM rfl [] (fun _ _ => trivial) (fun _ _ q => s_mvv (v := vI (i3 : Int)) rfl q) rfl
                     · exact flp HM rfl [(36, _)] (fun K _ => ⟨K 8 rfl, trivial⟩) (fun _ _ q => s_mulI (m := 2) (n := (i3 : Int)) rfl rfl q) rfl
                     · exact flp HM rfl [(37, _)] (fun K _ => ⟨K 9 rfl, trivial⟩) (fun _ _ q => s_addI (m := (w64 (2 * (i3 : Int)))) (n := 1) rfl rfl q) rfl
                     · intro L f15 w17 hL hd hc ⟨m17, L34, S17, K, hO⟩
                       obtain ⟨u15, rfl⟩ := fr_of (N := 60) (L := [(35, _), (38, _)]) hO ⟨K 7 (dep hd rfl), K 10 (dep hd rfl), trivial⟩
                       replace h2 := hup L34 h2
                       exact s_idxO (i := 0) (j := (w64 ((w64 (2 * (i3 : Int))) + 1))) S17 rfl rfl rfl (idx_rng q25).1 (idx_rng q25).2 underlying105 sizeOf27 fun p2 h15 => oS HM L34 S17 rfl K rfl rfl ⟨p2, rfl, h15⟩ outP
                     · intro L f16 w18 hL hd hc ⟨m18, L36, S18, K, hO⟩
                       obtain ⟨v9, e10, h16⟩ := K 11 (dep hd rfl)
                       obtain ⟨u16, rfl⟩ := fr_of (N := 60) (L := [(39, _)]) hO ⟨e10, trivial⟩
                       replace h2 := hup L36 h2
                       replace h11 := RepL.up L36 h11
                       have e11 := rep_arr2_UInt64 (RepL.getI h11 q25)
                       exact s_ldO (i := 0) (off := (w64 ((w64 (2 * (i3 : Int))) + 1)).toNat * 2) (d := [vU x15.1, vU x15.2]) S18 rfl h16 rfl e11 isAgg27 sizeOf27 (fun h => by cases h) <| oS HM L36 S18 rfl K rfl rfl rfl outP
                     · intro L f17 w19 hL hd hc ⟨m19, L38, S19, K, hO⟩
                       obtain ⟨u17, rfl⟩ := fr_of (N := 60) (L := [(34, _), (40, _)]) hO ⟨K 6 (dep hd rfl), K 12 (dep hd rfl), trivial⟩
                       replace h2 := hup L38 h2
                       have L39 := Mem.rfl' m19
                       refine s_call call93 (v_hash_Pair (a0 := x14) (a1 := x15) S19  q26) rfl ?_
                       rintro _ w20 ⟨m20, l3, S20, rfl⟩
                       clear S19
                       refine wpn ?_
                       replace L39 := Mem.tr L39 l3
                       exact ⟨m20, Mem.tr L38 L39, S20, facts_step HM rfl K L39 rfl rfl rfl, outP⟩
                   intro L f18 w21 hall ⟨m21, L40, S21, K, hO⟩
                   have d0 : L 0 = true := hall 0 (by decide)
                   have d1 : L 1 = true := hall 1 (by decide)
                   have d13 : L 13 = true := hall 13 (by decide)
                   obtain ⟨u18, rfl⟩ := fr_of (N := 60) (L := [(28, _), (29, _), (41, _)]) hO ⟨K 0 d0, K 1 d1, K 13 d13, trivial⟩
                   replace S21 : St _ ((row 2 v6 c6 s3.length) :: (bx kb0 [v1] 105) :: (X1 ++ As)) _ := S21
                   replace h2 := hup L40 h2
                   clear S5
                   obtain ⟨x17, q27, q22⟩ := obind_some q22
                   refine s_idxO (i := 0) (j := (i3 : Int)) S21 rfl rfl rfl (idx_rng q27).1 (idx_rng q27).2 underlying105 sizeOf27 fun p3 h17 => ?_
                   obtain ⟨x18, q28, q22⟩ := bnd_eq q22
                   replace h11 := RepL.up L40 h11
                   refine s_stOR (i := 0) (j := (i3 : Int)) (z := x16) S21 rfl rfl h17 rfl h11 q27 sizeOf27 (oneC rfl (oneC rfl oneN)) mk_arr2_UInt64 fun w22 c8 S22 h18 => ?_
                   rw [← q28] at S22 h18
                   replace S22 : St _ ((row 2 v6 c8 x18.length) :: (bx kb0 [v1] 105) :: (X1 ++ As)) _ := S22
                   clear S21
                   refine wpl_nil <| nrmB <| nrm <| wpc_region <| s_addI (m := (i3 : Int)) (n := 1) rfl rfl <| s_mvv (v := vI (w64 ((i3 : Int) + 1))) rfl <| wpl_nil <| nrm ?_
                   have e0 := Option.some.inj q22
                   subst e0
                   replace L10 := Mem.tr L10 L40
                   exact ⟨outP, _, (by omega), ⟨i3 + 1, x18, m21, _, rfl, hlt3, q21, Mem.tr L11 L10, S22, h18, ⟨congrArg (Value.int .i64) (w64_succ hlt3 (by rw [q18]; exact w64_toNat_le _)), trivial⟩⟩⟩
                 have hlt3 : ¬ i3 < (Int.toNat x11) := by have := of_decide_eq_false hc3; omega
                 have e := Eq.symm (eachN0_out q20 hlt3)
                 subst e
                 exact wpc_exit <| thE <| thE <| exB <| nrm <| ⟨outP, m5, _, Mem.tr L11 L10, S5, h11, trivial⟩
               rintro f19 w23 ho ⟨m23, c7, l4, S23, h12, ha⟩
               obtain ⟨u19, rfl⟩ := fr_of (N := 60) ho ha
               clear ho ha
               replace h2 := hup l4 h2
               clear S4
               have e0 := Option.some.inj q17
               subst e0
               replace L8 := Mem.tr L8 l4
               exact ⟨outP, m23, _, L8, S23, h12, trivial⟩
             rintro f20 w24 ho ⟨m24, c5, l5, S24, h10, ha⟩
             obtain ⟨u20, rfl⟩ := fr_of (N := 60) ho ha
             replace h2 := hup l5 h2
             clear S4
             refine wpc_region <| s_mvv (v := v6) rfl <| s_mvv (v := v6) rfl <| s_lenO (i := 0) S24 rfl rfl underlying105 <| s_quoI (m := (x10.length : Int)) (n := 2) rfl rfl (by decide) ?_
             obtain ⟨x19, q29, q15⟩ := bnd_eq q15
             refine s_re (congrArg (fun z => vI z) q29.symm) ?_
             obtain ⟨⟨q30, q31⟩, q15⟩ := if_some q15
             refine s_cutO (i := 0) S24 rfl rfl underlying105 sizeOf27 rfl rfl q30 q31 fun v10 S25 => ?_
             have h19 := RepL.take h10 x19.toNat
             replace S25 : St m24 ((row 2 v10 (c5.take (x19.toNat * 2)) (x10.take x19.toNat).length) :: (bx kb0 [v1] 105) :: (X1 ++ As)) w24 := by rw [show ((x10.take x19.toNat)).length = x19.toNat from by simp; omega]; exact S25
             clear S24
             refine s_asv (v := v10) rfl <| wpl_nil <| nrmB <| nrm ?_
             have e0 := Option.some.inj q15
             subst e0
             rcases q14 with ⟨sn, e, q14'⟩ | e
             · cases e
               replace L6 := Mem.tr L6 l5
               exact ⟨outP, _, Nat.lt_succ_self _, ⟨_, m24, _, _, q14', Mem.tr L7 L6, S25, h19, ⟨rfl, trivial⟩⟩⟩
             · cases e
           replace q15 := ifF hc2 q15
           refine wpc_exit <| thE <| thE <| exB <| nrm ?_
           have e0 := Option.some.inj q15
           subst e0
           rcases q14 with ⟨sn, e, _⟩ | e
           · cases e
           · cases e
             exact ⟨outP, m4, _, _, Mem.tr L7 L6, S4, h8, ⟨rfl, trivial⟩⟩
        rintro f21 w25 ho ⟨m26, v7, c4, l6, S26, h9, ha⟩
        obtain ⟨u21, rfl⟩ := fr_of (N := 60) ho ha
        clear ho ha
        replace h2 := hup l6 h2
        clear S3
        have e0 := Option.some.inj q11
        subst e0
        replace L4 := Mem.tr L4 l6
        exact ⟨outP, m26, _, _, L4, S26, h9, ⟨rfl, trivial⟩⟩
      rintro f22 w26 ho ⟨m27, v5, c2, l7, S27, h7, ha⟩
      obtain ⟨u22, rfl⟩ := fr_of (N := 60) ho ha
      replace h2 := hup l7 h2
      clear S3
      refine wpc_seq <| ws <| s_mvv (v := f0) rfl <| s_mvv (v := vI x4) rfl <| s_mvv (v := v5) rfl ?_
      obtain ⟨x20, q32, q4⟩ := obind_some q4
      refine s_idxO (i := 0) (j := 0) S27 rfl rfl rfl (idx_rng q32).1 (idx_rng q32).2 underlying105 sizeOf27 fun p4 h20 => ?_
      have e17 := rep_arr2_UInt64 (RepL.getI h7 q32)
      refine s_ldO (i := 0) (off := (0 : Int).toNat * 2) (d := [vU x20.1, vU x20.2]) S27 rfl h20 rfl e17 isAgg27 sizeOf27 (fun h => by cases h) <| s_build (parts := [(0, .tmp 50), (1, .tmp 53)]) (ps := [(0, vI x4, [vI x4]), (1, .agg #[vU x20.1, vU x20.2], [vU x20.1, vU x20.2])]) (cs := [vI x4, vU x20.1, vU x20.2]) zeroValue134 (BuildPl.str (ss := [1, 2]) underlying134 ⟨sizeOf3, sizeOf27, trivial⟩) rfl ⟨rfl, rfl, trivial⟩ rfl ?_
      obtain ⟨x21, q33, q4⟩ := obind_some q4
      have S28 := St.absF (L := [row 2 v5 c2 x7.length, bx kb0 [v1] 105]) (X := X1) (As := As) S27
      refine s_callV rfl (cb0 S28 h2 q33) rfl ?_
      rintro _ w27 ⟨m28, X3, l8, S29, h21, rfl⟩
      replace S29 := St.absF (L := X3) (X := [row 2 v5 c2 x7.length, bx kb0 [v1] 105]) (As := As) S29
      clear S28
      replace S29 : St _ ((row 2 v5 c2 x7.length) :: (bx kb0 [v1] 105) :: (X3 ++ As)) _ := S29
      clear S27
      refine s_not rfl <| wpl_nil <| nrm <| wpc_if (t := (!x21.1)) rfl (fun hc4 => ?_) (fun hc4 => ?_)
      · replace q4 := ifT hc4 q4
        refine wpc_ret <| thR <| blR <| thR <| blR <| thR <| outRw fun we hpd => ?_
        replace S29 := St.pd S29 hpd
        obtain ⟨m29, l9, S30⟩ := St.drop S29 0
        replace h21 := hup l9 h21
        clear S29
        replace S30 : St _ ((bx kb0 [v1] 105) :: (X3 ++ As)) _ := S30
        cases q4
        rcases q3 with ⟨sn, e, _⟩ | e
        · cases e
        cases e
        dsimp only at hm
        have e0 := Option.some.inj hm
        subst e0
        replace h1 := h1.up (mt l1 (mt l2 (mt l7 (mt l8 l9))))
        replace L2 := Mem.tr L2 (mt l1 (mt l2 (mt l7 (mt l8 l9))))
        exact outR [] rfl trivial ⟨_, (Mem.tr L0 (Mem.tr L3 L2)), _, _, S30, rfl, h1, h21⟩
      replace q4 := ifF hc4 q4
      refine wpc_skip <| nrm <| wpc_region <| s_ld (i := 1) (cs := [v1]) S29 rfl rfl isAgg105 sizeOf105 rfl (fun _ => rfl) <| s_mvv (v := vI x4) rfl ?_
      obtain ⟨x22, q34, q4⟩ := obind_some q4
      replace h1 := h1.up (mt l1 (mt l2 (mt l7 l8)))
      refine s_cut (ys := x22) (l := x4) (h := (s1.1.length : Int)) rfl h1 underlying105 sizeOf27 (.inr ⟨_, rfl⟩) (.inl ⟨rfl, rfl⟩) (.inl rfl) q34 fun v11 h22 => s_stS (i := 1) S29 rfl rfl rfl sizeOf105 ⟨SlR.cells h22, SlR.one h22⟩ rfl fun w28 S31 => ?_
      replace S31 : St _ ((row 2 v5 c2 x7.length) :: (bx kb0 [v11] 105) :: (X3 ++ As)) _ := S31
      clear S29
      refine wpl_nil <| nrmB <| nrm ?_
      obtain ⟨m30, l10, S32⟩ := St.drop S31 0
      replace h21 := hup l10 h21
      clear S31
      replace S32 : St _ ((bx kb0 [v11] 105) :: (X3 ++ As)) _ := S32
      have e0 := Option.some.inj q4
      subst e0
      rcases q3 with ⟨sn, e, q3'⟩ | e
      · cases e
        replace L2 := Mem.tr L2 (mt l1 (mt l2 (mt l7 (mt l8 l10))))
        exact ⟨outP, _, Nat.lt_succ_self _, ⟨_, m30, _, _, q3', Mem.tr L3 L2, S32, (h22.up l10), h21, trivial⟩⟩
      · cases e
    replace q4 := ifF hc1 q4
    refine wpc_exit <| thE <| thE <| exB <| nrm ?_
    have e0 := Option.some.inj q4
    subst e0
    rcases q3 with ⟨sn, e, _⟩ | e
    · cases e
    · cases e
      exact ⟨outP, m1, _, _, _, rfl, Mem.tr L3 L2, S1, h1, h2, trivial⟩
 rintro f23 w29 ho ⟨m32, y1, v2, X2, rfl, l11, S33, h3, h4, ha⟩
 obtain ⟨u23, rfl⟩ := fr_of (N := 60) ho ha
 clear ho ha
 dsimp only at hm
 clear S
 refine outNw fun we hpd => ?_
 replace S33 := St.pd S33 hpd
 have e0 := Option.some.inj hm
 subst e0
 replace L0 := Mem.tr L0 l11
 exact outR [] rfl trivial ⟨_, L0, _, _, S33, rfl, h3, h4⟩
def m_merkle_parts (a0 : List (UInt64 × UInt64)) : Option (List (UInt64 × UInt64)) :=
  some a0
theorem w_merkle_parts {m : Mem} {As : List Ow} {w : World} {a0 : List (UInt64 × UInt64)} {a0v0 : Value} {r : (List (UInt64 × UInt64))} (S : St m (As) w) (a0h0 : SlR m a0v0 a0) (hm : m_merkle_parts a0 = some r) :
    CallsR Tryz.prog 90 #[a0v0] w fun v w' => ∃ (M : Mem), m ≤ M ∧ ∃ (rk0_0 : Nat) (rc0_0_0 : Value), St M ((bx rk0_0 [rc0_0_0] 105) :: As) w' ∧ v = .func (.func 113) #[] #[pt rk0_0 0] ∧ SlR M rc0_0_0 r := by
 unfold m_merkle_parts at hm
 have L0 := Mem.rfl' m
 refine callsR (args := [a0v0]) func90 rfl ntmps90 (nb rfl) <| ws <| s_boxS S rfl (SlR.cells a0h0) fun b1 w1 S1 => ?_
 replace S1 : St _ ((bx b1 [a0v0] 105) :: As) _ := S1
 clear S
 refine s_asv (v := .nilFunc) rfl <| nx <| s_funcC (caps := [pt b1 0]) rfl <| s_asv (v := .func (.func 113) #[] #[pt b1 0]) rfl <| wpl_nil <| nrm <| wpc_ret <| outRw fun we hpd => ?_
 replace S1 := St.pd S1 hpd
 have e0 := Option.some.inj hm
 subst e0
 exact outR [_] rfl ⟨rfl, trivial⟩ ⟨_, L0, _, _, S1, rfl, a0h0⟩
def m_slices_Reverse_merkle_part_merkle_part_b1  (s1 : Int × Int × (List g_merkle_part)) : Option ((Int × Int × (List g_merkle_part)) ⊕ ((List g_merkle_part))) :=
  if (decide (s1.1 < s1.2.1)) = true then
    obind (idx s1.2.2 s1.2.1) fun x4 =>
    obind (idx s1.2.2 s1.1) fun x5 =>
    obind (idx s1.2.2 s1.1) fun x6 =>
    bnd (s1.2.2.set s1.1.toNat x4) fun x7 =>
    obind (idx x7 s1.2.1) fun x8 =>
    bnd (x7.set s1.2.1.toNat x5) fun x9 =>
    some (.inl ((w64 (s1.1 + 1)), (w64 (s1.2.1 - 1)), x9))
  else
  some (.inr s1.2.2)
def m_slices_Reverse_merkle_part_merkle_part (a0 : List g_merkle_part) : Option (List g_merkle_part) :=
  bnd ((w64 ((a0.length : Int) - 1))) fun x1 =>
  obind (iter m_slices_Reverse_merkle_part_merkle_part_b1 FUEL (0, x1, a0)) fun x2 =>
  some x2
theorem w_slices_Reverse_merkle_part_merkle_part {m : Mem} {As : List Ow} {w : World} {a0 : List g_merkle_part} {a0v0 : Value} {a0c0 : List Value} {r : List g_merkle_part} (S : St m ((row 3 a0v0 a0c0 a0.length) :: As) w) (a0h0 : RepL m a0c0 a0) (hm : m_slices_Reverse_merkle_part_merkle_part a0 = some r) :
    CallsR Tryz.prog 92 #[a0v0] w fun v w' => ∃ (M : Mem), m ≤ M ∧ ∃ (rk0 : List Value), St M ((row 3 a0v0 rk0 r.length) :: As) w' ∧ v = .tuple #[] ∧ RepL M rk0 r := by
 unfold m_slices_Reverse_merkle_part_merkle_part at hm
 have L0 := Mem.rfl' m
 refine callsR (args := [a0v0]) func92 rfl ntmps92 (nb rfl) <| ws <| s_mvv (v := a0v0) rfl <| s_lenO (i := 0) S rfl rfl underlying131 <| s_subI (m := (a0.length : Int)) (n := 1) rfl rfl <| s_asv (v := vI 0) rfl ?_
 obtain ⟨x1, q1, hm⟩ := bnd_eq hm
 refine s_asv (v := vI x1) (congrArg (fun z => vI z) q1.symm) <| wpl_nil <| nrm ?_
 obtain ⟨x2, q2, hm⟩ := obind_some hm
 have L1 := Mem.rfl' m
 refine wpc_wrap <| wpc_join [2, 3, 7, 8, 9, 10, 11, 12, 13, 14, 15, 16, 17, 18, 19, 20, 21, 22, 23, 24, 25, 26, 27] (fun f' w' => ∃ (M1 : Mem) (c2 : List Value), m ≤ M1 ∧ St M1 ((row 3 a0v0 c2 x2.length) :: As) w' ∧ RepL M1 c2 x2 ∧ AllAt f' []) ?_ ?_
 · refine wpc_block <| wpc_rounds [2, 3, 7, 8, 9, 10, 11, 12, 13, 14, 15, 16, 17, 18, 19, 20, 21, 22, 23, 24, 25, 26, 27] (fun n1 f' w' => ∃ (s1 : Int × Int × (List g_merkle_part)) (m17 : Mem) (c1 : List Value), iter m_slices_Reverse_merkle_part_merkle_part_b1 n1 s1 = some x2 ∧ m ≤ m17 ∧ St m17 ((row 3 a0v0 c1 s1.2.2.length) :: As) w' ∧ RepL m17 c1 s1.2.2 ∧ AllAt f' [(2, vI s1.1), (3, vI s1.2.1)]) FUEL ⟨(0, x1, a0), m, _, q2, L1, S, a0h0, ⟨rfl, rfl, trivial⟩⟩ ?_
   rintro n1 f1 w1 ho ⟨s1, m1, c1, q3, L3, S1, h1, ha⟩
   obtain ⟨u1, rfl⟩ := fr_of (N := 28) ho ha
   clear ho ha
   have L2 := Mem.rfl' m1
   clear S
   cases n1 with
   | zero => exact (iter_zero q3).elim
   | succ n1 =>
    obtain ⟨y1, q5, q4⟩ := iter_succ q3
    unfold m_slices_Reverse_merkle_part_merkle_part_b1 at q5
    refine wpc_seq <| ws <| s_mvv (v := vI s1.1) rfl <| s_mvv (v := vI s1.2.1) rfl <| s_lss (m := s1.1) (n := s1.2.1) rfl rfl <| wpl_nil <| nrm <| wpc_if (t := (decide (s1.1 < s1.2.1))) rfl (fun hc1 => ?_) (fun hc1 => ?_)
    · replace q5 := ifT hc1 q5
      refine wpc_skip <| nrm <| wpc_seq <| wpc_block ?_
      obtain ⟨x4, q7, q5⟩ := obind_some q5
      obtain ⟨x5, q8, q5⟩ := obind_some q5
      obtain ⟨x6, q9, q5⟩ := obind_some q5
      obtain ⟨x7, q10, q5⟩ := bnd_eq q5
      have HM : MonoAll [(14, fv a0v0), (15, fv (vI s1.1)), (16, fv a0v0), (17, fv (vI s1.2.1)), (18, fv a0v0), (19, fv (vI s1.2.1)), (20, fun (M : Mem) (v : Value) => ∃ (p1 : Value), v = p1 ∧ PtO a0v0 p1 (s1.2.1.toNat * 3)), (21, fv (.agg (c_merkle_part x4).toArray)), (22, fv a0v0), (23, fv (vI s1.1)), (24, fun (M : Mem) (v : Value) => ∃ (p2 : Value), v = p2 ∧ PtO a0v0 p2 (s1.1.toNat * 3)), (25, fv (.agg (c_merkle_part x5).toArray)), (26, fun (M : Mem) (v : Value) => ∃ (p3 : Value), v = p3 ∧ PtO a0v0 p3 (s1.1.toNat * 3)), (100013, fun _ _ => True)] := ⟨mv, mv, mv, mv, mv, mv, (fun _ _ _ l ⟨p1, e, h4⟩ => ⟨p1, e, h4⟩), mv, mv, mv, (fun _ _ _ l ⟨p2, e, h8⟩ => ⟨p2, e, h8⟩), mv, (fun _ _ _ l ⟨p3, e, h12⟩ => ⟨p3, e, h12⟩), (fun _ _ _ _ h => h), trivial⟩
      refine wpc_flowG HM 14 mixed rfl rfl rfl (rg 14 13) (fun L f M w => ∃ (X1 : List Ow), ((L 13 = false → (RowS M X1 3 a0v0 s1.2.2)) ∧ (L 13 = true → (RowS M X1 3 a0v0 x7))) ∧ St M ((X1 ++ As)) w) (⟨[row 3 a0v0 c1 s1.2.2.length], ⟨fun _ => ⟨_, rfl, h1⟩, fun hx => ff hx⟩, St.drew S1 _⟩) ?_ ?_
      · refine ⟨?_, ?_, ?_, ?_, ?_, ?_, ?_, ?_, ?_, ?_, ?_, ?_, ?_, ?_, trivial⟩
        · exact flp HM rfl [] (fun _ _ => trivial) (fun _ _ q => s_mvv (v := a0v0) rfl q) rfl
        · exact flp HM rfl [] (fun _ _ => trivial) (fun _ _ q => s_mvv (v := vI s1.1) rfl q) rfl
        · exact flp HM rfl [] (fun _ _ => trivial) (fun _ _ q => s_mvv (v := a0v0) rfl q) rfl
        · exact flp HM rfl [] (fun _ _ => trivial) (fun _ _ q => s_mvv (v := vI s1.2.1) rfl q) rfl
        · exact flp HM rfl [] (fun _ _ => trivial) (fun _ _ q => s_mvv (v := a0v0) rfl q) rfl
        · exact flp HM rfl [] (fun _ _ => trivial) (fun _ _ q => s_mvv (v := vI s1.2.1) rfl q) rfl
        · intro L f8 w8 hL hd hc ⟨m8, L16, ⟨X1, C7, S8⟩, K, hO⟩
          have d13 : L 13 = false := undep hc hL rfl
          obtain ⟨u8, rfl⟩ := fr_of (N := 28) (L := [(18, _), (19, _)]) hO ⟨K 4 (dep hd rfl), K 5 (dep hd rfl), trivial⟩
          obtain ⟨c3, rfl, h3⟩ := C7.1 d13
          replace h3 : RepL _ c3 s1.2.2 := h3
          replace S8 : St _ ((row 3 a0v0 c3 s1.2.2.length) :: As) _ := S8
          have L17 := Mem.rfl' m8
          exact s_idxO (i := 0) (j := s1.2.1) S8 rfl rfl rfl (idx_rng q7).1 (idx_rng q7).2 underlying131 sizeOf134 fun p1 h4 => wpn <| ⟨m8, Mem.tr L16 L17, ⟨[row 3 a0v0 c3 s1.2.2.length], ⟨fun _ => ⟨_, rfl, h3⟩, fun hx => tf hx d13⟩, S8⟩, facts_step HM rfl K L17 rfl rfl ⟨p1, rfl, h4⟩, outP⟩
        · intro L f9 w9 hL hd hc ⟨m9, L18, ⟨X1, C8, S9⟩, K, hO⟩
          obtain ⟨v1, e3, h5⟩ := K 6 (dep hd rfl)
          have d13 : L 13 = false := undep hc hL rfl
          obtain ⟨u9, rfl⟩ := fr_of (N := 28) (L := [(20, _)]) hO ⟨e3, trivial⟩
          obtain ⟨c4, rfl, h6⟩ := C8.1 d13
          replace h6 : RepL _ c4 s1.2.2 := h6
          replace S9 : St _ ((row 3 a0v0 c4 s1.2.2.length) :: As) _ := S9
          have L19 := Mem.rfl' m9
          have e4 := rep_g_merkle_part (RepL.getI h6 q7)
          exact s_ldO (i := 0) (off := s1.2.1.toNat * 3) (d := (c_merkle_part x4)) S9 rfl h5 rfl e4 isAgg134 sizeOf134 (fun h => by cases h) <| wpn <| ⟨m9, Mem.tr L18 L19, ⟨[row 3 a0v0 c4 s1.2.2.length], ⟨fun _ => ⟨_, rfl, h6⟩, fun hx => tf hx d13⟩, S9⟩, facts_step HM rfl K L19 rfl rfl rfl, outP⟩
        · exact flp HM rfl [] (fun _ _ => trivial) (fun _ _ q => s_mvv (v := a0v0) rfl q) rfl
        · exact flp HM rfl [] (fun _ _ => trivial) (fun _ _ q => s_mvv (v := vI s1.1) rfl q) rfl
        · intro L f12 w12 hL hd hc ⟨m12, L24, ⟨X1, C11, S12⟩, K, hO⟩
          have d11 : L 11 = false := undep hc hL rfl
          have d13 : L 13 = false := undep hc d11 rfl
          obtain ⟨u12, rfl⟩ := fr_of (N := 28) (L := [(22, _), (23, _)]) hO ⟨K 8 (dep hd rfl), K 9 (dep hd rfl), trivial⟩
          obtain ⟨c5, rfl, h7⟩ := C11.1 d13
          replace h7 : RepL _ c5 s1.2.2 := h7
          replace S12 : St _ ((row 3 a0v0 c5 s1.2.2.length) :: As) _ := S12
          have L25 := Mem.rfl' m12
          exact s_idxO (i := 0) (j := s1.1) S12 rfl rfl rfl (idx_rng q8).1 (idx_rng q8).2 underlying131 sizeOf134 fun p2 h8 => wpn <| ⟨m12, Mem.tr L24 L25, ⟨[row 3 a0v0 c5 s1.2.2.length], ⟨fun _ => ⟨_, rfl, h7⟩, fun hx => tf hx d13⟩, S12⟩, facts_step HM rfl K L25 rfl rfl ⟨p2, rfl, h8⟩, outP⟩
        · intro L f13 w13 hL hd hc ⟨m13, L26, ⟨X1, C12, S13⟩, K, hO⟩
          obtain ⟨v2, e7, h9⟩ := K 10 (dep hd rfl)
          have d13 : L 13 = false := undep hc hL rfl
          obtain ⟨u13, rfl⟩ := fr_of (N := 28) (L := [(24, _)]) hO ⟨e7, trivial⟩
          obtain ⟨c6, rfl, h10⟩ := C12.1 d13
          replace h10 : RepL _ c6 s1.2.2 := h10
          replace S13 : St _ ((row 3 a0v0 c6 s1.2.2.length) :: As) _ := S13
          have L27 := Mem.rfl' m13
          have e8 := rep_g_merkle_part (RepL.getI h10 q8)
          exact s_ldO (i := 0) (off := s1.1.toNat * 3) (d := (c_merkle_part x5)) S13 rfl h9 rfl e8 isAgg134 sizeOf134 (fun h => by cases h) <| wpn <| ⟨m13, Mem.tr L26 L27, ⟨[row 3 a0v0 c6 s1.2.2.length], ⟨fun _ => ⟨_, rfl, h10⟩, fun hx => tf hx d13⟩, S13⟩, facts_step HM rfl K L27 rfl rfl rfl, outP⟩
        · intro L f14 w14 hL hd hc ⟨m14, L28, ⟨X1, C13, S14⟩, K, hO⟩
          have d13 : L 13 = false := undep hc hL rfl
          obtain ⟨u14, rfl⟩ := fr_of (N := 28) (L := [(14, _), (15, _)]) hO ⟨K 0 (dep hd rfl), K 1 (dep hd rfl), trivial⟩
          obtain ⟨c7, rfl, h11⟩ := C13.1 d13
          replace h11 : RepL _ c7 s1.2.2 := h11
          replace S14 : St _ ((row 3 a0v0 c7 s1.2.2.length) :: As) _ := S14
          have L29 := Mem.rfl' m14
          exact s_idxO (i := 0) (j := s1.1) S14 rfl rfl rfl (idx_rng q9).1 (idx_rng q9).2 underlying131 sizeOf134 fun p3 h12 => wpn <| ⟨m14, Mem.tr L28 L29, ⟨[row 3 a0v0 c7 s1.2.2.length], ⟨fun _ => ⟨_, rfl, h11⟩, fun hx => tf hx d13⟩, S14⟩, facts_step HM rfl K L29 rfl rfl ⟨p3, rfl, h12⟩, outP⟩
        · intro L f15 w15 hL hd hc ⟨m15, L30, ⟨X1, C14, S15⟩, K, hO⟩
          obtain ⟨v3, e11, h13⟩ := K 12 (dep hd rfl)
          have d13 : L 13 = false := hL
          obtain ⟨u15, rfl⟩ := fr_of (N := 28) (L := [(26, _), (21, _)]) hO ⟨e11, K 7 (dep hd rfl), trivial⟩
          obtain ⟨c8, rfl, h14⟩ := C14.1 d13
          replace h14 : RepL _ c8 s1.2.2 := h14
          replace S15 : St _ ((row 3 a0v0 c8 s1.2.2.length) :: As) _ := S15
          have L31 := Mem.rfl' m15
          refine s_stOR (i := 0) (j := s1.1) (z := x4) S15 rfl rfl h13 rfl h14 q9 sizeOf134 (oneC rfl (oneC rfl (oneC rfl oneN))) mk_g_merkle_part fun w16 c9 S16 h15 => ?_
          rw [← q10] at S16 h15
          replace S16 : St _ ((row 3 a0v0 c9 x7.length) :: As) _ := S16
          clear S15
          exact wpn <| ⟨m15, Mem.tr L30 L31, ⟨[row 3 a0v0 c9 x7.length], ⟨fun hx => tf rfl hx, fun _ => ⟨_, rfl, h15⟩⟩, S16⟩, facts_none HM K L31 rfl (fun _ => trivial), outP⟩
      intro L f16 w17 hall ⟨m16, L32, ⟨X1, C15, S17⟩, K, hO⟩
      have d2 : L 2 = true := hall 2 (by decide)
      have d3 : L 3 = true := hall 3 (by decide)
      have d11 : L 11 = true := hall 11 (by decide)
      have d13 : L 13 = true := hall 13 (by decide)
      obtain ⟨u16, rfl⟩ := fr_of (N := 28) (L := [(16, _), (17, _), (25, _)]) hO ⟨K 2 d2, K 3 d3, K 11 d11, trivial⟩
      replace S17 : St _ ((X1 ++ As)) _ := S17
      obtain ⟨c10, rfl, h16⟩ := C15.2 d13
      replace h16 : RepL _ c10 x7 := h16
      replace S17 : St _ ((row 3 a0v0 c10 x7.length) :: As) _ := S17
      clear S1
      obtain ⟨x8, q11, q5⟩ := obind_some q5
      refine s_idxO (i := 0) (j := s1.2.1) S17 rfl rfl rfl (idx_rng q11).1 (idx_rng q11).2 underlying131 sizeOf134 fun p4 h17 => ?_
      obtain ⟨x9, q12, q5⟩ := bnd_eq q5
      refine s_stOR (i := 0) (j := s1.2.1) (z := x5) S17 rfl rfl h17 rfl h16 q11 sizeOf134 (oneC rfl (oneC rfl (oneC rfl oneN))) mk_g_merkle_part fun w18 c11 S18 h18 => ?_
      rw [← q12] at S18 h18
      replace S18 : St _ ((row 3 a0v0 c11 x9.length) :: As) _ := S18
      clear S17
      refine wpl_nil <| nrmB <| nrm <| wpc_region <| s_mvv (v := vI s1.1) rfl <| s_addI (m := s1.1) (n := 1) rfl rfl <| s_mvv (v := vI s1.2.1) rfl <| s_subI (m := s1.2.1) (n := 1) rfl rfl <| s_asv (v := vI (w64 (s1.1 + 1))) rfl <| s_asv (v := vI (w64 (s1.2.1 - 1))) rfl <| wpl_nil <| nrm ?_
      have e0 := Option.some.inj q5
      subst e0
      rcases q4 with ⟨sn, e, q4'⟩ | e
      · cases e
        replace L2 := Mem.tr L2 L32
        exact ⟨outP, _, Nat.lt_succ_self _, ⟨_, m16, _, q4', Mem.tr L3 L2, S18, h18, ⟨rfl, rfl, trivial⟩⟩⟩
      · cases e
    replace q5 := ifF hc1 q5
    refine wpc_exit <| thE <| thE <| exB <| nrm ?_
    have e0 := Option.some.inj q5
    subst e0
    rcases q4 with ⟨sn, e, _⟩ | e
    · cases e
    · cases e
      exact ⟨outP, m1, _, Mem.tr L3 L2, S1, h1, trivial⟩
 rintro f17 w19 ho ⟨m18, c2, l1, S19, h2, ha⟩
 obtain ⟨u17, rfl⟩ := fr_of (N := 28) ho ha
 clear ho ha S
 refine outNw fun we hpd => ?_
 replace S19 := St.pd S19 hpd
 have e0 := Option.some.inj hm
 subst e0
 replace L0 := Mem.tr L0 l1
 exact outR [] rfl trivial ⟨_, L0, _, S19, rfl, h2⟩
def m_slices_AppendSeq_merkle_part_merkle_part_113_b2 (b3 : g_merkle_part) (s1 : (List g_merkle_part)) : Option ((List g_merkle_part)) :=
  obind (app 24 s1 ([b3] : List g_merkle_part)) fun x2 =>
  some x2
def m_slices_AppendSeq_merkle_part_merkle_part_113 (a0 : List g_merkle_part) (k0 : List (UInt64 × UInt64)) : Option ((List g_merkle_part) × (List (UInt64 × UInt64))) :=
  obind (m_merkle_parts_1 (fun (s : (List g_merkle_part)) (b0 : g_merkle_part) => obind (m_slices_AppendSeq_merkle_part_merkle_part_113_b2 b0 s) fun y => some (true, y)) k0 a0) fun x1 =>
  some (x1.2, x1.1)
theorem w_slices_AppendSeq_merkle_part_merkle_part_113 {m : Mem} {As : List Ow} {w : World} {a0 : List g_merkle_part} {a0v0 : Value} {a0c0 : List Value} {kb0 : Nat} {k0 : List (UInt64 × UInt64)} {k0v0 : Value} {r : (List g_merkle_part) × (List (UInt64 × UInt64))} (S : St m ((row 3 a0v0 a0c0 a0.length) :: (bx kb0 [k0v0] 105) :: As) w) (a0h0 : RepL m a0c0 a0) (k0h0 : SlR m k0v0 k0) (hm : m_slices_AppendSeq_merkle_part_merkle_part_113 a0 k0 = some r) :
    CallsR Tryz.prog 112 #[a0v0, .func (.func 113) #[] #[pt kb0 0]] w fun v w' => ∃ (M : Mem), m ≤ M ∧ ∃ (rv0 : Value) (rc0 : List Value) (rb0_0 : Value), St M ((row 3 rv0 rc0 r.1.length) :: (bx kb0 [rb0_0] 105) :: As) w' ∧ v = rv0 ∧ RepL M rc0 r.1 ∧ SlR M rb0_0 r.2 := by
 unfold m_slices_AppendSeq_merkle_part_merkle_part_113 at hm
 have L0 := Mem.rfl' m
 refine callsR (args := [a0v0, .func (.func 113) #[] #[pt kb0 0]]) func112 rfl ntmps112 (nb rfl) <| ws <| s_boxS S rfl (St.rowCells (i := 0) S rfl).1 fun b1 w1 S1 => ?_
 replace S1 : St _ ((bx b1 [a0v0] 131) :: (row 3 a0v0 a0c0 a0.length) :: (bx kb0 [k0v0] 105) :: As) _ := S1
 clear S
 refine s_asv (v := .slice none 0 0) rfl <| wpl_nil <| nrm <| wpc_seq <| ws <| s_mvv (v := .func (.func 113) #[] #[pt kb0 0]) rfl <| wpl_nil <| nrm <| wpc_block ?_
 have S2 : St _ ((bx kb0 [k0v0] 105) :: (bx b1 [a0v0] 131) :: (row 3 a0v0 a0c0 a0.length) :: As) _ := St.perm S1 (List.Perm.trans (List.Perm.cons _ (List.Perm.swap _ _ _)) (List.Perm.swap _ _ _))
 clear S1
 obtain ⟨x1, q1, hm⟩ := obind_some hm
 refine wpc_rangeFunc S2 rfl call113 fun lp1 rip2 w2 h1 S3 => ?_
 replace S3 : St _ ((Lp lp1 rip2 .ready none) :: (bx kb0 [k0v0] 105) :: (bx b1 [a0v0] 131) :: (row 3 a0v0 a0c0 a0.length) :: As) _ := S3
 clear S2
 have S4 : St _ ((row 3 a0v0 a0c0 a0.length) :: (Lp lp1 rip2 .ready none) :: (bx kb0 [k0v0] 105) :: (bx b1 [a0v0] 131) :: As) _ := St.perm S3 (List.Perm.trans (List.Perm.cons _ (List.Perm.cons _ (List.Perm.swap _ _ _))) (List.Perm.trans (List.Perm.cons _ (List.Perm.swap _ _ _)) (List.Perm.swap _ _ _)))
 clear S3
 have S5 : St _ ((bx kb0 [k0v0] 105) :: (Lp lp1 rip2 .ready none) :: (row 3 a0v0 a0c0 a0.length) :: (bx b1 [a0v0] 131) :: As) _ := St.perm S4 (List.Perm.trans (List.Perm.cons _ (List.Perm.swap _ _ _)) (List.Perm.trans (List.Perm.swap _ _ _) (List.Perm.cons _ (List.Perm.swap _ _ _))))
 clear S4
 have hcb1 : ∀ {m' : Mem} {As' : List Ow} {w' : World} {s : (List g_merkle_part)} {X : List Ow} {b0 : g_merkle_part} {r : Bool × (List g_merkle_part)}, St m' (X ++ As') w' → (∃ (v2 : Value) (c2 : List Value), m ≤ m' ∧ X = Lp lp1 rip2 .ready none :: (row 3 v2 c2 (s).length) :: (bx b1 [v2] 131) :: [] ∧ RepL m' c2 (s)) → (fun (s : (List g_merkle_part)) (b0 : g_merkle_part) => obind (m_slices_AppendSeq_merkle_part_merkle_part_113_b2 b0 s) fun y => some (true, y)) s b0 = some r → CallV Tryz.prog (.func (.yield lp1) #[] #[]) [.agg (c_merkle_part b0).toArray] w' fun v w'' => ∃ (M : Mem) (X' : List Ow), m' ≤ M ∧ St M (X' ++ As') w'' ∧ (∃ (v2 : Value) (c2 : List Value), m ≤ M ∧ X' = Lp lp1 rip2 .ready none :: (row 3 v2 c2 (r.2).length) :: (bx b1 [v2] 131) :: [] ∧ RepL M c2 (r.2)) ∧ v = vb r.1 := by
   intro m1 As1 w3 s1 X1 b3 r3 S6 h4 hm1
   obtain ⟨v3, c3, L2, rfl, h5⟩ := h4
   obtain ⟨y1, q2, hm1⟩ := obind_some hm1
   cases hm1
   unfold m_slices_AppendSeq_merkle_part_merkle_part_113_b2 at q2
   replace S6 : St _ ((Lp lp1 rip2 .ready none) :: (row 3 v3 c3 s1.length) :: (bx b1 [v3] 131) :: As1) _ := S6
   have L1 := Mem.rfl' m1
   refine CallV.round h1 rfl S6 ?_
   refine wpc_region ?_
   refine s_alloc S6 zeroValue134 ?_
   intro b4 w4 S7
   replace S7 : St _ ((bx b4 z_merkle_part 134) :: (Lp lp1 rip2 .ready none) :: (row 3 v3 c3 s1.length) :: (bx b1 [v3] 131) :: As1) _ := S7
   clear S6
   refine s_stL (i := 0) S7 rfl rfl rfl sizeOf134 (oneC rfl (oneC rfl (oneC rfl oneN))) rfl ?_
   intro w5 S8
   replace S8 : St _ ((bx b4 (c_merkle_part b3) 134) :: (Lp lp1 rip2 .ready none) :: (row 3 v3 c3 s1.length) :: (bx b1 [v3] 131) :: As1) _ := S8
   clear S7
   refine wpl_nil ?_
   refine nrm ?_
   have S9 : St _ ((Lp lp1 rip2 .ready none) :: (bx b4 (c_merkle_part b3) 134) :: (row 3 v3 c3 s1.length) :: (bx b1 [v3] 131) :: As1) _ := St.perm S8 (List.Perm.swap _ _ _)
   clear S8
   refine ⟨_, _, S9, ?_⟩
   intro w6 S10
   clear S9
   replace S10 : St _ ((Lp lp1 rip2 .busy none) :: (bx b4 (c_merkle_part b3) 134) :: (row 3 v3 c3 s1.length) :: (bx b1 [v3] 131) :: As1) _ := S10
   refine wpc_block ?_
   refine wpc_region ?_
   refine s_ld (i := 3) (cs := [v3]) S10 rfl rfl isAgg131 sizeOf131 rfl (fun _ => rfl) ?_
   refine s_ld (i := 1) (cs := (c_merkle_part b3)) S10 rfl rfl isAgg134 sizeOf134 rfl (fun h => by cases h) ?_
   refine s_litC (parts := [.tmp 9]) (vs := [.agg (c_merkle_part b3).toArray]) (cls := [(c_merkle_part b3)]) (xs := ([b3] : List g_merkle_part)) (n := 1) S10 underlying131 sizeOf134 zeroValue134 rfl ⟨rfl, trivial⟩ (RepL.cons (c := (c_merkle_part b3)) (x := b3) mk_g_merkle_part RepL.nil) rfl rfl rfl (by decide) (by decide) ?_
   intro v4 m2 w7 l1 S11 h6
   replace h5 := RepL.up l1 h5
   replace L1 := Mem.tr L1 l1
   clear S10
   obtain ⟨x2, q3, q2⟩ := obind_some q2
   refine s_app (i := 2) (zs := x2) (bytes := 24) (ti := Tryz.t134) S11 rfl rfl h5 rfl rfl h6 q3 underlying131 type134 rfl rfl rfl rfl ?_
   intro v5 c4 w8 S12 h7
   replace S12 : St _ ((Lp lp1 rip2 .busy none) :: (bx b4 (c_merkle_part b3) 134) :: (row 3 v5 c4 x2.length) :: (bx b1 [v3] 131) :: As1) _ := S12
   clear S11
   refine s_stS (i := 3) S12 rfl rfl rfl sizeOf131 (St.rowCells (i := 2) S12 rfl) rfl ?_
   intro w9 S13
   replace S13 : St _ ((Lp lp1 rip2 .busy none) :: (bx b4 (c_merkle_part b3) 134) :: (row 3 v5 c4 x2.length) :: (bx b1 [v5] 131) :: As1) _ := S13
   clear S12
   refine wpl_nil ?_
   refine nrmB ?_
   obtain ⟨m3, l2, S14⟩ := St.drop S13 1
   replace h7 := RepL.up l2 h7
   replace L1 := Mem.tr L1 l2
   clear S13
   replace S14 : St _ ((Lp lp1 rip2 .busy none) :: (row 3 v5 c4 x2.length) :: (bx b1 [v5] 131) :: As1) _ := S14
   have S15 : St _ ((row 3 v5 c4 x2.length) :: (Lp lp1 rip2 .busy none) :: (bx b1 [v5] 131) :: As1) _ := St.perm S14 (List.Perm.swap _ _ _)
   clear S14
   have S16 : St _ ((Lp lp1 rip2 .busy none) :: (row 3 v5 c4 x2.length) :: (bx b1 [v5] 131) :: As1) _ := St.perm S15 (List.Perm.swap _ _ _)
   clear S15
   refine ⟨_, _, S16, ?_⟩
   intro w10 S17
   have e0 := Option.some.inj q2
   subst e0
   exact ⟨_, Lp lp1 rip2 .ready none :: (row 3 v5 c4 x2.length) :: (bx b1 [v5] 131) :: [], L1, S17, ⟨_, _, Mem.tr L2 L1, rfl, h7⟩, rfl⟩
 refine CallsR.mono (w_merkle_parts_1 (p0 := (fun (s : (List g_merkle_part)) (b0 : g_merkle_part) => obind (m_slices_AppendSeq_merkle_part_merkle_part_113_b2 b0 s) fun y => some (true, y))) (k0 := k0) (s0 := a0) (R := (fun (s : (List g_merkle_part)) (M : Mem) (X : List Ow) => (∃ (v2 : Value) (c2 : List Value), m ≤ M ∧ X = Lp lp1 rip2 .ready none :: (row 3 v2 c2 (s).length) :: (bx b1 [v2] 131) :: [] ∧ RepL M c2 (s)))) (X0 := ((Lp lp1 rip2 .ready none) :: (row 3 a0v0 a0c0 a0.length) :: (bx b1 [a0v0] 131) :: [])) (As := As) S5 (fun l h => by obtain ⟨v2, c2, Lm, e, h3⟩ := h; exact ⟨_, _, Mem.tr Lm l, e, RepL.up l h3⟩) ⟨_, _, Mem.rfl' _, rfl, a0h0⟩ @hcb1 rfl k0h0 q1) ?_
 rintro _ w11 ⟨m4, l3, v6, X2, S18, rfl, h8, ⟨v7, c5, L3, rfl, h9⟩⟩
 have S19 : St _ ((Lp lp1 rip2 .ready none) :: (bx kb0 [v6] 105) :: (row 3 v7 c5 x1.2.length) :: (bx b1 [v7] 131) :: As) _ := St.perm S18 (List.Perm.swap _ _ _)
 clear S18
 refine ⟨_, .ready, none, _, l3, (fun h => by cases h), S19, ?_⟩
 intro m5 w12 l4 S20
 have l5 := Mem.tr l3 l4
 replace S20 : St _ ((bx kb0 [v6] 105) :: (row 3 v7 c5 x1.2.length) :: (bx b1 [v7] 131) :: As) _ := S20
 refine nrmB <| nrm <| ws <| s_ld (i := 2) (cs := [v7]) S20 rfl rfl isAgg131 sizeOf131 rfl (fun _ => rfl) <| s_asv (v := v7) rfl <| wpl_nil <| nrm <| wpc_ret <| outRw fun we hpd => ?_
 replace S20 := St.pd S20 hpd
 obtain ⟨m6, l6, S21⟩ := St.drop S20 2
 clear S20
 replace S21 : St _ ((bx kb0 [v6] 105) :: (row 3 v7 c5 x1.2.length) :: As) _ := S21
 have S22 : St _ ((row 3 v7 c5 x1.2.length) :: (bx kb0 [v6] 105) :: As) _ := St.perm S21 (List.Perm.swap _ _ _)
 have e0 := Option.some.inj hm
 subst e0
 replace h8 := h8.up (mt l4 l6)
 replace h9 := RepL.up (mt l4 l6) h9
 replace L0 := Mem.tr L0 (mt l5 l6)
 exact outR [_] rfl ⟨rfl, trivial⟩ ⟨_, L0, _, _, _, S22, rfl, h9, h8⟩
def m_slices_Collect_merkle_part_113 (k0 : List (UInt64 × UInt64)) : Option ((List g_merkle_part) × (List (UInt64 × UInt64))) :=
  obind (m_slices_AppendSeq_merkle_part_merkle_part_113 ([] : List g_merkle_part) k0) fun x1 =>
  some (x1.1, x1.2)
theorem w_slices_Collect_merkle_part_113 {m : Mem} {As : List Ow} {w : World} {kb0 : Nat} {k0 : List (UInt64 × UInt64)} {k0v0 : Value} {r : (List g_merkle_part) × (List (UInt64 × UInt64))} (S : St m ((bx kb0 [k0v0] 105) :: As) w) (k0h0 : SlR m k0v0 k0) (hm : m_slices_Collect_merkle_part_113 k0 = some r) :
    CallsR Tryz.prog 89 #[.func (.func 113) #[] #[pt kb0 0]] w fun v w' => ∃ (M : Mem), m ≤ M ∧ ∃ (rv0 : Value) (rc0 : List Value) (rb0_0 : Value), St M ((row 3 rv0 rc0 r.1.length) :: (bx kb0 [rb0_0] 105) :: As) w' ∧ v = rv0 ∧ RepL M rc0 r.1 ∧ SlR M rb0_0 r.2 := by
 unfold m_slices_Collect_merkle_part_113 at hm
 have L0 := Mem.rfl' m
 refine callsR (args := [.func (.func 113) #[] #[pt kb0 0]]) func89 rfl ntmps89 (nb rfl) <| ws <| s_asv (v := .slice none 0 0) rfl <| nx <| s_mvv (v := .func (.func 113) #[] #[pt kb0 0]) rfl ?_
 have S1 := St.rowNil S 3
 have h1 : RepL m [] ([] : List g_merkle_part) := RepL.nil
 replace S1 : St _ ((row 3 (.slice none 0 0) [] ([] : List g_merkle_part).length) :: (bx kb0 [k0v0] 105) :: As) _ := S1
 clear S
 obtain ⟨x1, q1, hm⟩ := obind_some hm
 refine s_call call112 (w_slices_AppendSeq_merkle_part_merkle_part_113 (a0 := ([] : List g_merkle_part)) (k0 := k0) S1 h1 k0h0 q1) rfl ?_
 rintro v1 w1 ⟨m1, l1, _, c1, v2, S2, rfl, h2, h3⟩
 clear S1
 refine s_asv (v := v1) rfl <| wpl_nil <| nrm <| wpc_ret <| outRw fun we hpd => ?_
 replace S2 := St.pd S2 hpd
 have e0 := Option.some.inj hm
 subst e0
 replace L0 := Mem.tr L0 l1
 exact outR [_] rfl ⟨rfl, trivial⟩ ⟨_, L0, _, _, _, S2, rfl, h2, h3⟩
def m_merkle_Root_b4  (i1 : Int) (x9 : g_merkle_part) (s1 : UInt64 × UInt64) : Option (UInt64 × UInt64) :=
  obind (m_hash_Pair x9.root_ s1) fun x10 =>
  some (x10.1, x10.2)
def m_merkle_Root (a0 : List (UInt64 × UInt64)) : Option (UInt64 × UInt64) :=
  obind (m_merkle_parts a0) fun x1 =>
  obind (m_slices_Collect_merkle_part_113 x1) fun x2 =>
  if ((x2.1.length : Int) == 0) = true then
    obind (m_hash_Tagged (⟨#[101, 109, 112, 116, 121]⟩ : ByteArray) ([] : List (List UInt8))) fun x3 =>
    some x3
  else
  obind (m_slices_Reverse_merkle_part_merkle_part x2.1) fun x4 =>
  obind (idx x4 0) fun x5 =>
  obind (
    obind (cut x4 1 (x4.length : Int)) fun x7 =>
    obind (each0 m_merkle_Root_b4 x7 0 (x5.root_.1, x5.root_.2)) fun x8 =>
    some (x8.1, x8.2)
  ) fun x6 =>
  some x6
theorem w_merkle_Root {m : Mem} {As : List Ow} {w : World} {a0 : List (UInt64 × UInt64)} {a0v0 : Value} {r : UInt64 × UInt64} (S : St m (As) w) (a0h0 : SlR m a0v0 a0) (hm : m_merkle_Root a0 = some r) :
    CallsR Tryz.prog 67 #[a0v0] w fun v w' => ∃ (M : Mem), m ≤ M ∧ St M (As) w' ∧ v = .agg #[vU r.1, vU r.2] := by
 unfold m_merkle_Root at hm
 have L0 := Mem.rfl' m
 refine callsR (args := [a0v0]) func67 rfl ntmps67 (nb rfl) <| ws <| s_alloc S zeroValue27 fun b1 w1 S1 => ?_
 replace S1 : St _ ((bx b1 z_api_Sig 27) :: As) _ := S1
 clear S
 refine nx <| s_mvv (v := a0v0) rfl ?_
 obtain ⟨x1, q1, hm⟩ := obind_some hm
 refine s_call call90 (w_merkle_parts (a0 := a0) S1 a0h0 q1) rfl ?_
 rintro _ w2 ⟨m1, l1, b2, v1, S2, rfl, h1⟩
 clear S1
 obtain ⟨x2, q2, hm⟩ := obind_some hm
 refine s_call call89 (w_slices_Collect_merkle_part_113 (k0 := x1) S2 h1 q2) rfl ?_
 rintro v2 w3 ⟨m2, l2, _, c1, v3, S3, rfl, h2, h3⟩
 clear S2
 refine s_asv (v := v2) rfl <| wpl_nil <| nrm <| wpc_seq <| ws <| s_mvv (v := v2) rfl <| s_lenO (i := 0) S3 rfl rfl underlying131 <| s_eql (m := (x2.1.length : Int)) (n := 0) rfl rfl <| wpl_nil <| nrm <| wpc_if (t := ((x2.1.length : Int) == 0)) rfl (fun hc1 => ?_) (fun hc1 => ?_)
 · replace hm := ifT hc1 hm
   refine wpc_seq <| wpc_region ?_
   obtain ⟨x3, q3, hm⟩ := obind_some hm
   refine s_call call91 (v_hash_Tagged (a0 := (⟨#[101, 109, 112, 116, 121]⟩ : ByteArray)) (a1 := ([] : List (List UInt8))) S3 (SlR.nil (a := none) (c := 0)) q3) rfl ?_
   rintro _ w4 ⟨m3, l3, S4, rfl⟩
   clear S3
   refine s_stL (i := 2) S4 rfl rfl rfl sizeOf27 (oneC rfl (oneC rfl oneN)) rfl fun w5 S5 => ?_
   replace S5 : St _ ((row 3 v2 c1 x2.1.length) :: (bx b2 [v3] 105) :: (bx b1 [vU x3.1, vU x3.2] 27) :: As) _ := S5
   clear S4
   refine wpl_nil <| nrm <| wpc_ret <| thR <| outRw fun we hpd => ?_
   replace S5 := St.pd S5 hpd
   have SR := S5
   obtain ⟨m4, l4, S6⟩ := St.drop S5 0
   replace S6 : St _ ((bx b2 [v3] 105) :: (bx b1 [vU x3.1, vU x3.2] 27) :: As) _ := S6
   obtain ⟨m5, l5, S7⟩ := St.drop S6 0
   clear S6
   replace S7 : St _ ((bx b1 [vU x3.1, vU x3.2] 27) :: As) _ := S7
   obtain ⟨m6, l6, S8⟩ := St.drop S7 0
   clear S7
   replace S8 : St _ (As) _ := S8
   have e0 := Option.some.inj hm
   subst e0
   replace L0 := Mem.tr L0 (mt l1 (mt l2 (mt l3 (mt l4 (mt l5 l6)))))
   exact outR [_] rfl ⟨res_box (i := 2) (off := 0) (cs := [vU x3.1, vU x3.2]) SR rfl rfl isAgg27 sizeOf27 rfl (fun h => by cases h), trivial⟩ ⟨_, L0, S8, rfl⟩
 replace hm := ifF hc1 hm
 refine wpc_skip <| nrm <| ws <| s_mvv (v := v2) rfl ?_
 obtain ⟨x4, q4, hm⟩ := obind_some hm
 refine s_call call92 (w_slices_Reverse_merkle_part_merkle_part (a0 := x2.1) S3 h2 q4) rfl ?_
 rintro _ w6 ⟨m7, l7, c2, S9, rfl, h4⟩
 clear S3
 refine nx <| s_mvv (v := v2) rfl ?_
 obtain ⟨x5, q5, hm⟩ := obind_some hm
 refine s_idxO (i := 0) (j := 0) S9 rfl rfl rfl (idx_rng q5).1 (idx_rng q5).2 underlying131 sizeOf134 fun p1 h5 => s_fldO (n := 1) rfl h5 underlying134 rfl rfl sizeOf27 fun p2 h6 => ?_
 have e1 := rep_g_merkle_part (RepL.getI h4 q5)
 refine s_ldO (i := 0) (off := (0 : Int).toNat * 3 + 1) (d := [vU x5.root_.1, vU x5.root_.2]) S9 rfl h6 rfl (drop_sub e1 rfl (nb rfl)) isAgg27 sizeOf27 (fun h => by cases h) <| s_alloc S9 zeroValue27 fun b3 w7 S10 => s_stL (i := 0) S10 rfl rfl rfl sizeOf27 (oneC rfl (oneC rfl oneN)) rfl fun w8 S11 => ?_
 replace S11 : St _ ((bx b3 [vU x5.root_.1, vU x5.root_.2] 27) :: (row 3 v2 c2 x4.length) :: (bx b2 [v3] 105) :: (bx b1 z_api_Sig 27) :: As) _ := S11
 clear S9 S10
 refine wpl_nil <| nrm ?_
 obtain ⟨x6, q6, hm⟩ := obind_some hm
 have L1 := Mem.rfl' m7
 refine wpc_seq <| wpc_join [6, 20, 21, 22, 23, 24, 25, 26, 27, 28, 29, 30, 31] (fun f' w' => ∃ (M1 : Mem), m7 ≤ M1 ∧ St M1 ((bx b3 [vU x6.1, vU x6.2] 27) :: (bx b2 [v3] 105) :: (bx b1 z_api_Sig 27) :: As) w' ∧ AllAt f' []) ?_ ?_
 · refine ws <| s_mvv (v := v2) rfl ?_
   obtain ⟨m8, l8, h7, S12⟩ := St.rowKeepT (i := 1) S11 rfl h4 rfl
   clear S11
   obtain ⟨x7, q7, q6⟩ := obind_some q6
   refine s_cut (ys := x7) (l := 1) (h := (x4.length : Int)) rfl h7 underlying131 sizeOf134 (.inr ⟨_, rfl⟩) (.inl ⟨rfl, rfl⟩) (.inl rfl) q7 fun v4 h8 => s_lenR (xs := x7) rfl h8 underlying131 <| s_mvv (v := vI 0) rfl <| wpl_nil <| nrm ?_
   obtain ⟨x8, q8, q6⟩ := obind_some q6
   have L2 := Mem.rfl' m8
   refine wpc_join [6, 23, 24, 25, 26, 27, 28, 29, 30, 31] (fun f' w' => ∃ (M2 : Mem), m8 ≤ M2 ∧ St M2 ((bx b3 [vU x8.1, vU x8.2] 27) :: (bx b2 [v3] 105) :: (bx b1 z_api_Sig 27) :: As) w' ∧ AllAt f' []) ?_ ?_
   · refine wpc_block <| wpc_rounds [6, 23, 24, 25, 26, 27, 28, 29, 30, 31] (fun n1 f' w' => ∃ (i1 : Nat) (s1 : UInt64 × UInt64) (m12 : Mem), n1 = x7.length - i1 ∧ i1 ≤ x7.length ∧ each0 m_merkle_Root_b4 (x7.drop i1) (i1 : Int) s1 = some x8 ∧ m8 ≤ m12 ∧ St m12 ((bx b3 [vU s1.1, vU s1.2] 27) :: (bx b2 [v3] 105) :: (bx b1 z_api_Sig 27) :: As) w' ∧ AllAt f' [(23, vI (i1 : Int))]) x7.length ⟨0, (x5.root_.1, x5.root_.2), m8, rfl, Nat.zero_le _, q8, L2, S12, ⟨rfl, trivial⟩⟩ ?_
     rintro n1 f1 w9 ho ⟨i1, s1, m9, hn, hi, q9, L4, S13, ha⟩
     obtain ⟨u1, rfl⟩ := fr_of (N := 33) ho ha
     clear ho ha
     have L3 := Mem.rfl' m9
     clear S12
     refine ws <| s_lss (m := (i1 : Int)) (n := (x7.length : Int)) rfl rfl <| wpl_nil <| nrm <| wpc_seq <| wpc_if (t := decide ((i1 : Int) < (x7.length : Int))) rfl (fun hc2 => ?_) (fun hc2 => ?_)
     · have hlt1 : i1 < x7.length := by have := of_decide_eq_true hc2; omega
       obtain ⟨x9, y1, q12, q11, q10⟩ := each0_in q9 hlt1
       unfold m_merkle_Root_b4 at q11
       refine wpc_skip <| nrm <| wpc_seq <| wpc_block <| ws <| s_idx (q := x9) rfl rfl (h8.up L4) q12 underlying131 sizeOf134 fun p3 c3 h9 r2 => ?_
       obtain rfl := rep_g_merkle_part r2
       refine s_ldM (cs := (c_merkle_part x9)) S13 rfl h9 rfl isAgg134 sizeOf134 (fun h => by cases h) <| s_alloc S13 zeroValue134 fun b5 w10 S14 => s_stL (i := 0) S14 rfl rfl rfl sizeOf134 (oneC rfl (oneC rfl (oneC rfl oneN))) rfl fun w11 S15 => ?_
       replace S15 : St _ ((bx b5 (c_merkle_part x9) 134) :: (bx b3 [vU s1.1, vU s1.2] 27) :: (bx b2 [v3] 105) :: (bx b1 z_api_Sig 27) :: As) _ := S15
       clear S13 S14
       refine wpl_nil <| nrm <| wpc_region <| s_fld (n := 1) rfl underlying134 rfl rfl sizeOf27 <| s_ld (i := 0) (cs := [vU x9.root_.1, vU x9.root_.2]) S15 rfl rfl isAgg27 sizeOf27 rfl (fun h => by cases h) <| s_ld (i := 1) (cs := [vU s1.1, vU s1.2]) S15 rfl rfl isAgg27 sizeOf27 rfl (fun h => by cases h) ?_
       obtain ⟨x10, q13, q11⟩ := obind_some q11
       refine s_call call93 (v_hash_Pair (a0 := x9.root_) (a1 := s1) S15  q13) rfl ?_
       rintro _ w12 ⟨m10, l9, S16, rfl⟩
       clear S15
       refine s_stL (i := 1) S16 rfl rfl rfl sizeOf27 (oneC rfl (oneC rfl oneN)) rfl fun w13 S17 => ?_
       replace S17 : St _ ((bx b5 (c_merkle_part x9) 134) :: (bx b3 [vU x10.1, vU x10.2] 27) :: (bx b2 [v3] 105) :: (bx b1 z_api_Sig 27) :: As) _ := S17
       clear S16
       refine wpl_nil <| nrmB <| nrm <| wpc_region <| s_addI (m := (i1 : Int)) (n := 1) rfl rfl <| s_mvv (v := vI (w64 ((i1 : Int) + 1))) rfl <| wpl_nil <| nrm ?_
       obtain ⟨m11, l10, S18⟩ := St.drop S17 0
       clear S17
       replace S18 : St _ ((bx b3 [vU x10.1, vU x10.2] 27) :: (bx b2 [v3] 105) :: (bx b1 z_api_Sig 27) :: As) _ := S18
       have e0 := Option.some.inj q11
       subst e0
       replace h8 := h8.up (mt L4 (mt l9 l10))
       replace L3 := Mem.tr L3 (mt l9 l10)
       exact ⟨outP, _, (by omega), ⟨i1 + 1, (x10.1, x10.2), m11, rfl, hlt1, q10, Mem.tr L4 L3, S18, ⟨congrArg (Value.int .i64) (w64_succ hlt1 (SlR.le h8)), trivial⟩⟩⟩
     have hlt1 : ¬ i1 < x7.length := by have := of_decide_eq_false hc2; omega
     have e := Eq.symm (each0_out q9 hlt1)
     subst e
     exact wpc_exit <| thE <| thE <| exB <| nrm <| ⟨outP, m9, Mem.tr L4 L3, S13, trivial⟩
   rintro f2 w14 ho ⟨m13, l11, S19, ha⟩
   obtain ⟨u2, rfl⟩ := fr_of (N := 33) ho ha
   clear ho ha S12
   have e0 := Option.some.inj q6
   subst e0
   replace L1 := Mem.tr L1 (mt l8 l11)
   exact ⟨outP, m13, L1, S19, trivial⟩
 rintro f3 w15 ho ⟨m14, l12, S20, ha⟩
 obtain ⟨u3, rfl⟩ := fr_of (N := 33) ho ha
 clear S11
 refine ws <| s_ld (i := 0) (cs := [vU x6.1, vU x6.2]) S20 rfl rfl isAgg27 sizeOf27 rfl (fun h => by cases h) <| s_stL (i := 2) S20 rfl rfl rfl sizeOf27 (oneC rfl (oneC rfl oneN)) rfl fun w16 S21 => ?_
 replace S21 : St _ ((bx b3 [vU x6.1, vU x6.2] 27) :: (bx b2 [v3] 105) :: (bx b1 [vU x6.1, vU x6.2] 27) :: As) _ := S21
 clear S20
 refine wpl_nil <| nrm <| wpc_ret <| outRw fun we hpd => ?_
 replace S21 := St.pd S21 hpd
 have SR := S21
 obtain ⟨m15, l13, S22⟩ := St.drop S21 0
 replace S22 : St _ ((bx b2 [v3] 105) :: (bx b1 [vU x6.1, vU x6.2] 27) :: As) _ := S22
 obtain ⟨m16, l14, S23⟩ := St.drop S22 0
 clear S22
 replace S23 : St _ ((bx b1 [vU x6.1, vU x6.2] 27) :: As) _ := S23
 obtain ⟨m17, l15, S24⟩ := St.drop S23 0
 clear S23
 replace S24 : St _ (As) _ := S24
 have e0 := Option.some.inj hm
 subst e0
 replace L0 := Mem.tr L0 (mt l1 (mt l2 (mt l7 (mt l12 (mt l13 (mt l14 l15))))))
 exact outR [_] rfl ⟨res_box (i := 2) (off := 0) (cs := [vU x6.1, vU x6.2]) SR rfl rfl isAgg27 sizeOf27 rfl (fun h => by cases h), trivial⟩ ⟨_, L0, S24, rfl⟩
theorem s_merkle_Root {a0 : List (UInt64 × UInt64)} {r : UInt64 × UInt64} (hm : m_merkle_Root a0 = some r) : Sf prog 67 [sl e_a2_eU a0] (ag (e_a2_eU r)) :=
  ⟨call67, fun η m As w vs hv0 hd S => by
    have S : St m As w := S
    obtain ⟨v0, u0, rfl, r0, hv1⟩ := RelL.cons_inv hv0
    have f0 := Br.ofS b_a2_eU r0.dd
    obtain rfl := RelL.nil_inv hv1
    refine CallsR.mono (w_merkle_Root S f0 hm) ?_
    rintro v w' ⟨M, hle, S0, rfl⟩
    exact ⟨M, none0, _, _, _, hle, dom0 hd _, ⟨rfl, rfl, rfl⟩, fun n h => absurd rfl h, (Br.toA b_a2_eU (mk_arr2_UInt64)), S0⟩⟩
def m_cyclic_ring_add (a0 : UInt64) (a1 : UInt64) (a2 : UInt64) : Option UInt64 :=
  if a0 ≠ 0 then
    if a0 ≠ 0 then
      obind (m_bits_Rem64 (carryU (a1 % a0) (a2 % a0)) ((a1 % a0) + (a2 % a0)) a0) fun x1 =>
      some x1
    else none
  else none
theorem w_cyclic_ring_add {a0 : UInt64} {a1 : UInt64} {a2 : UInt64} {r : UInt64} (hm : m_cyclic_ring_add a0 a1 a2 = some r) : Sf prog 117 [.d (.u a0), .d (.u a1), .d (.u a2)] (.d (.u r)) :=
  sp call117 func117 rfl ntmps117 rfl fun D0 As η0 m0 hd => by
    unfold m_cyclic_ring_add at hm
    obtain ⟨q1, hm⟩ := if_some hm
    refine gquo (d := .u a0) (r := .u (a1 % a0)) (fun h => q1) (by kernel_rfl) ?_
    obtain ⟨q2, hm⟩ := if_some hm
    refine gquo (d := .u a0) (r := .u (a2 % a0)) (fun h => q2) (by kernel_rfl) ?_
    refine gadd64 (p := (a1 % a0)) (q := (a2 % a0)) func132 (by kernel_rfl) (by kernel_rfl) (by kernel_rfl) (by kernel_rfl) (by kernel_rfl) ?_
    obtain ⟨x1, q3, hm⟩ := obind_some hm
    refine gc (fun _ => w_bits_Rem64 q3) (by kernel_rfl) ?_
    have e0 := Option.some.inj hm
    subst e0
    exact gend hd (by kernel_rfl)
def m_cyclic_AddR (a0 : UInt64) (a1 : UInt64) : Option UInt64 :=
  obind (m_cyclic_ring_add 1152921504606845789 a0 a1) fun x1 =>
  some x1
theorem w_cyclic_AddR {a0 : UInt64} {a1 : UInt64} {r : UInt64} (hm : m_cyclic_AddR a0 a1 = some r) : Sf prog 96 [.d (.u a0), .d (.u a1)] (.d (.u r)) :=
  sp call96 func96 rfl ntmps96 rfl fun D0 As η0 m0 hd => by
    unfold m_cyclic_AddR at hm
    obtain ⟨x1, q1, hm⟩ := obind_some hm
    refine gc (fun _ => w_cyclic_ring_add q1) (by kernel_rfl) ?_
    have e0 := Option.some.inj hm
    subst e0
    exact gend hd (by kernel_rfl)
def m_cyclic_MulR (a0 : UInt64) (a1 : UInt64) : Option UInt64 :=
  obind (m_cyclic_ring_mul 1152921504606845789 a0 a1) fun x1 =>
  some x1
theorem w_cyclic_MulR {a0 : UInt64} {a1 : UInt64} {r : UInt64} (hm : m_cyclic_MulR a0 a1 = some r) : Sf prog 97 [.d (.u a0), .d (.u a1)] (.d (.u r)) :=
  sp call97 func97 rfl ntmps97 rfl fun D0 As η0 m0 hd => by
    unfold m_cyclic_MulR at hm
    obtain ⟨x1, q1, hm⟩ := obind_some hm
    refine gc (fun _ => s_cyclic_ring_mul q1) (by kernel_rfl) ?_
    have e0 := Option.some.inj hm
    subst e0
    exact gend hd (by kernel_rfl)
def m_sign_Sign (a0 : UInt64) (a1 : List UInt8) : Option (g_api_Sig × Int) :=
  obind (m_sign_Public a0) fun x1 =>
  if (x1.2 != 0) = true then
    some ((⟨0, 0⟩ : g_api_Sig), x1.2)
  else
  obind (m_sign_bytes a0) fun x2 =>
  obind (m_sign_some (⟨#[110, 111, 110, 99, 101]⟩ : ByteArray) ([x2, a1] : List (List UInt8))) fun x3 =>
  obind (m_cyclic_Base x3) fun x4 =>
  obind (m_sign_Challenge x4 x1.1 a1) fun x5 =>
  obind (m_cyclic_MulR x5 a0) fun x6 =>
  obind (m_cyclic_AddR x6 x3) fun x7 =>
  some ((⟨x5, x7⟩ : g_api_Sig), 0)
theorem w_sign_Sign {a0 : UInt64} {a1 : List UInt8} {r : g_api_Sig × Int} (hm : m_sign_Sign a0 a1 = some r) : Sf prog 68 [.d (.u a0), sl eB a1] (.tup [ag (e_api_Sig r.1), .d (.i r.2)]) :=
  sp call68 func68 rfl ntmps68 rfl fun D0 As η0 m0 hd => by
    unfold m_sign_Sign at hm
    obtain ⟨x1, q1, hm⟩ := obind_some hm
    refine gc (fun _ => w_sign_Public q1) (by kernel_rfl) ?_
    refine gi hm (by kernel_rfl) (fun hc1 hm => ?_) fun hc1 hm => ?_
    · skip
      have e0 := Option.some.inj hm
      subst e0
      exact gend hd (by kernel_rfl)
    obtain ⟨x2, q2, hm⟩ := obind_some hm
    refine gco (s_sign_bytes q2) (by kernel_rfl) ?_
    refine glitV (k := 1) (eL eB) ([x2, a1] : List (List UInt8)) (fun _ => rfl) (by kernel_rfl) ?_
    obtain ⟨x3, q3, hm⟩ := obind_some hm
    refine gc (fun _ => w_sign_some q3) (by kernel_rfl) ?_
    obtain ⟨x4, q4, hm⟩ := obind_some hm
    refine gc (fun _ => w_cyclic_Base q4) (by kernel_rfl) ?_
    obtain ⟨x5, q5, hm⟩ := obind_some hm
    refine gc (fun _ => w_sign_Challenge q5) (by kernel_rfl) ?_
    obtain ⟨x6, q6, hm⟩ := obind_some hm
    refine gc (fun _ => w_cyclic_MulR q6) (by kernel_rfl) ?_
    obtain ⟨x7, q7, hm⟩ := obind_some hm
    refine gc (fun _ => w_cyclic_AddR q7) (by kernel_rfl) ?_
    have e0 := Option.some.inj hm
    subst e0
    exact gend hd (by kernel_rfl)
def m_logd_Head (a0 : g_api_Log) (a1 : Int) (a2 : Int) (a3 : Int) : Option (g_api_Head × Int) :=
  obind (m_logd_first a0 a1 a2) fun x1 =>
  obind (
    obind (gu ((x1.2 == 0) || (x1.2 == 80)) (m_logd_number a3)) fun x3 =>
    if (((x1.2 == 0) || (x1.2 == 80)) && (!x3)) = true then
      some 1
    else
    some x1.2
  ) fun x2 =>
  if (x2 != 0) = true then
    some ((⟨0, 0, (0, 0), 0, (⟨0, 0⟩ : g_api_Sig)⟩ : g_api_Head), x2)
  else
  obind (m_merkle_Root x1.1) fun x4 =>
  obind (m_logd_ofHead (⟨a0.Id, a2, x4, a3, (⟨0, 0⟩ : g_api_Sig)⟩ : g_api_Head)) fun x5 =>
  obind (m_sign_Sign a0.Key x5) fun x6 =>
  some ((⟨a0.Id, a2, x4, a3, x6.1⟩ : g_api_Head), x6.2)
theorem w_logd_Head {a0 : g_api_Log} {a1 : Int} {a2 : Int} {a3 : Int} {r : g_api_Head × Int} (hm : m_logd_Head a0 a1 a2 a3 = some r) : Sf prog 35 [ag (e_api_Log a0), .d (.i a1), .d (.i a2), .d (.i a3)] (.tup [ag (e_api_Head r.1), .d (.i r.2)]) :=
  sp call35 func35 rfl ntmps35 rfl fun D0 As η0 m0 hd => by
    unfold m_logd_Head at hm
    obtain ⟨x1, q1, hm⟩ := obind_some hm
    refine gco (s_logd_first q1) (by kernel_rfl) ?_
    obtain ⟨x2, q2, hm⟩ := obind_some hm
    obtain ⟨x3, q3, q2⟩ := obind_some q2
    refine gcG (fun h => w_logd_number (gu_t h q3)) (by kernel_rfl) ?_
    refine gj (fun (_ : Unit) => ⟨[(2, .d (.i a2)), (3, .d (.i a3)), (4, .pb 0 0), (8, .pb 1 0), (10, .ow 2), (11, .d (.i x2))], [(0, .row 2 2 _ e_a2_eU x1.1), (1, .box 1 [.d (.i 0), .d (.i 0), .d (.u 0), .d (.u 0), .d (.i 0), .d (.u 0), .d (.u 0)] 31), (2, .box 0 [.d (.i a0.Id), .d (.u a0.Key), .d (.i a0.Delay), sl e_api_Leaf a0.L, sl eI a0.Hide, sl e_api_Leaf a0.Wait] 65)], [], 3⟩) (fun _ => True) (by kernel_rfl) (fun Jp bk1 => ?_) fun _ _ => ?_
    · refine gi q2 (by kernel_rfl) (fun hc1 q2 => ?_) fun hc1 q2 => ?_
      · skip
        have e0 := Option.some.inj q2
        subst e0
        exact gb bk1 hd () trivial (by kernel_rfl)
      have e0 := Option.some.inj q2
      subst e0
      exact gb bk1 hd () trivial (by kernel_rfl)
    refine gi hm (by kernel_rfl) (fun hc2 hm => ?_) fun hc2 hm => ?_
    · skip
      have e0 := Option.some.inj hm
      subst e0
      exact gend hd (by kernel_rfl)
    obtain ⟨x4, q4, hm⟩ := obind_some hm
    refine gco (s_merkle_Root q4) (by kernel_rfl) ?_
    obtain ⟨x5, q5, hm⟩ := obind_some hm
    refine gco (w_logd_ofHead q5) (by kernel_rfl) ?_
    obtain ⟨x6, q6, hm⟩ := obind_some hm
    refine gco (w_sign_Sign q6) (by kernel_rfl) ?_
    have e0 := Option.some.inj hm
    subst e0
    exact gend hd (by kernel_rfl)
def m_law28_live  : Option Bool :=
  obind (m_logd_New 0 ([108, 111, 103] : List UInt8) 5) fun x1 =>
  obind (m_logd_Public x1.1) fun x2 =>
  obind (m_logd_Head x1.1 0 0 7) fun x3 =>
  obind (m_logd_Head x1.1 0 0 8) fun x4 =>
  if ((((x1.2 != 0) || (x2.2 != 0)) || (x3.2 != 0)) || (x4.2 != 0)) = true then
    some false
  else
  obind (m_gossip_Add (⟨[]⟩ : g_api_Pool) x4.1 ([x2.1] : List g_api_Key)) fun x5 =>
  obind (m_gossip_Add x5.1 x3.1 ([x2.1] : List g_api_Key)) fun x6 =>
  obind (m_gossip_Add x6.1 x3.1 ([x2.1] : List g_api_Key)) fun x7 =>
  obind (m_gossip_Add x6.1 (⟨x3.1.Log, 9, x3.1.Root, x3.1.At, x3.1.Sig⟩ : g_api_Head) ([] : List g_api_Key)) fun x8 =>
  obind (m_gossip_Fork (⟨([(⟨0, 3, (1, 0), 0, (⟨0, 0⟩ : g_api_Sig)⟩ : g_api_Head)] : List g_api_Head)⟩ : g_api_Pool)) fun x9 =>
  obind (m_gossip_Spread ([(⟨([(⟨0, 3, (1, 0), 0, (⟨0, 0⟩ : g_api_Sig)⟩ : g_api_Head)] : List g_api_Head)⟩ : g_api_Pool), (⟨([(⟨0, 3, (0, 2), 0, (⟨0, 0⟩ : g_api_Sig)⟩ : g_api_Head)] : List g_api_Head)⟩ : g_api_Pool), (⟨[]⟩ : g_api_Pool)] : List g_api_Pool) ([(0, 1), (2, 2), (3, 0)] : List (Int × Int))) fun x10 =>
  bnd ((((((x5.2 == 0) && (x6.2 == 0)) && (x7.2 == 0)) && (x8.2 == 40)) && (!x9.2.2))) fun x11 =>
  if ((((!x11) || ((x6.1.L.length : Int) != 2)) || ((x7.1.L.length : Int) != 2)) || ((x10.length : Int) != 3)) = true then
    some false
  else
  obind (m_gossip_Last x6.1 0) fun x12 =>
  obind (m_gossip_Last x6.1 1) fun x13 =>
  obind (idx x10 0) fun x14 =>
  obind (m_gossip_Fork x14) fun x15 =>
  obind (idx x6.1.L 0) fun x16 =>
  obind (gu (eq_api_Head x16 x3.1) (idx x6.1.L 1)) fun x17 =>
  obind (gu ((((((((eq_api_Head x16 x3.1) && (eq_api_Head x17 x4.1)) && (eq_api_Head x12.1 x4.1)) && x12.2) && (!x13.2)) && (eq_api_Head x15.1 (⟨0, 3, (0, 2), 0, (⟨0, 0⟩ : g_api_Sig)⟩ : g_api_Head))) && (eq_api_Head x15.2.1 (⟨0, 3, (1, 0), 0, (⟨0, 0⟩ : g_api_Sig)⟩ : g_api_Head))) && x15.2.2) (idx x10 1)) fun x18 =>
  obind (gu (((((((((eq_api_Head x16 x3.1) && (eq_api_Head x17 x4.1)) && (eq_api_Head x12.1 x4.1)) && x12.2) && (!x13.2)) && (eq_api_Head x15.1 (⟨0, 3, (0, 2), 0, (⟨0, 0⟩ : g_api_Sig)⟩ : g_api_Head))) && (eq_api_Head x15.2.1 (⟨0, 3, (1, 0), 0, (⟨0, 0⟩ : g_api_Sig)⟩ : g_api_Head))) && x15.2.2) && ((x18.L.length : Int) == 2)) (idx x10 2)) fun x19 =>
  obind (gu ((((((((((eq_api_Head x16 x3.1) && (eq_api_Head x17 x4.1)) && (eq_api_Head x12.1 x4.1)) && x12.2) && (!x13.2)) && (eq_api_Head x15.1 (⟨0, 3, (0, 2), 0, (⟨0, 0⟩ : g_api_Sig)⟩ : g_api_Head))) && (eq_api_Head x15.2.1 (⟨0, 3, (1, 0), 0, (⟨0, 0⟩ : g_api_Sig)⟩ : g_api_Head))) && x15.2.2) && ((x18.L.length : Int) == 2)) && ((x19.L.length : Int) == 0)) (m_gossip_Merge (⟨([(⟨0, 3, (1, 0), 0, (⟨0, 0⟩ : g_api_Sig)⟩ : g_api_Head)] : List g_api_Head)⟩ : g_api_Pool) (⟨([(⟨0, 3, (0, 2), 0, (⟨0, 0⟩ : g_api_Sig)⟩ : g_api_Head)] : List g_api_Head)⟩ : g_api_Pool))) fun x20 =>
  obind (gu (((((((((((eq_api_Head x16 x3.1) && (eq_api_Head x17 x4.1)) && (eq_api_Head x12.1 x4.1)) && x12.2) && (!x13.2)) && (eq_api_Head x15.1 (⟨0, 3, (0, 2), 0, (⟨0, 0⟩ : g_api_Sig)⟩ : g_api_Head))) && (eq_api_Head x15.2.1 (⟨0, 3, (1, 0), 0, (⟨0, 0⟩ : g_api_Sig)⟩ : g_api_Head))) && x15.2.2) && ((x18.L.length : Int) == 2)) && ((x19.L.length : Int) == 0)) && ((x20.L.length : Int) == 2)) (m_gossip_Check x6.1 ([x2.1] : List g_api_Key))) fun x21 =>
  obind (gu ((((((((((((eq_api_Head x16 x3.1) && (eq_api_Head x17 x4.1)) && (eq_api_Head x12.1 x4.1)) && x12.2) && (!x13.2)) && (eq_api_Head x15.1 (⟨0, 3, (0, 2), 0, (⟨0, 0⟩ : g_api_Sig)⟩ : g_api_Head))) && (eq_api_Head x15.2.1 (⟨0, 3, (1, 0), 0, (⟨0, 0⟩ : g_api_Sig)⟩ : g_api_Head))) && x15.2.2) && ((x18.L.length : Int) == 2)) && ((x19.L.length : Int) == 0)) && ((x20.L.length : Int) == 2)) && (x21 == 0)) (m_gossip_Check x6.1 ([] : List g_api_Key))) fun x22 =>
  obind (gu (((((((((((((eq_api_Head x16 x3.1) && (eq_api_Head x17 x4.1)) && (eq_api_Head x12.1 x4.1)) && x12.2) && (!x13.2)) && (eq_api_Head x15.1 (⟨0, 3, (0, 2), 0, (⟨0, 0⟩ : g_api_Sig)⟩ : g_api_Head))) && (eq_api_Head x15.2.1 (⟨0, 3, (1, 0), 0, (⟨0, 0⟩ : g_api_Sig)⟩ : g_api_Head))) && x15.2.2) && ((x18.L.length : Int) == 2)) && ((x19.L.length : Int) == 0)) && ((x20.L.length : Int) == 2)) && (x21 == 0)) && (x22 == 40)) (m_gossip_Check (⟨([(⟨0, 3, (1, 0), 0, (⟨0, 0⟩ : g_api_Sig)⟩ : g_api_Head), (⟨0, 3, (0, 2), 0, (⟨0, 0⟩ : g_api_Sig)⟩ : g_api_Head)] : List g_api_Head)⟩ : g_api_Pool) ([x2.1] : List g_api_Key))) fun x23 =>
  bnd (((((((((((((((eq_api_Head x16 x3.1) && (eq_api_Head x17 x4.1)) && (eq_api_Head x12.1 x4.1)) && x12.2) && (!x13.2)) && (eq_api_Head x15.1 (⟨0, 3, (0, 2), 0, (⟨0, 0⟩ : g_api_Sig)⟩ : g_api_Head))) && (eq_api_Head x15.2.1 (⟨0, 3, (1, 0), 0, (⟨0, 0⟩ : g_api_Sig)⟩ : g_api_Head))) && x15.2.2) && ((x18.L.length : Int) == 2)) && ((x19.L.length : Int) == 0)) && ((x20.L.length : Int) == 2)) && (x21 == 0)) && (x22 == 40)) && (x23 == 1))) fun x24 =>
  some x24
theorem w_law28_live  {r : Bool} (hm : m_law28_live = some r) : Sf prog 11 [] (.d (.t r)) :=
  sp call11 func11 rfl ntmps11 rfl fun D0 As η0 m0 hd => by
    unfold m_law28_live at hm
    refine glit (k := 1) eB ([108, 111, 103] : List UInt8) (fun _ => rfl) (by kernel_rfl) ?_
    obtain ⟨x1, q1, hm⟩ := obind_some hm
    refine gco (w_logd_New q1) (by kernel_rfl) ?_
    obtain ⟨x2, q2, hm⟩ := obind_some hm
    refine gc (fun _ => w_logd_Public q2) (by kernel_rfl) ?_
    obtain ⟨x3, q3, hm⟩ := obind_some hm
    refine gc (fun _ => w_logd_Head q3) (by kernel_rfl) ?_
    obtain ⟨x4, q4, hm⟩ := obind_some hm
    refine gc (fun _ => w_logd_Head q4) (by kernel_rfl) ?_
    refine gi hm (by kernel_rfl) (fun hc1 hm => ?_) fun hc1 hm => ?_
    · skip
      have e0 := Option.some.inj hm
      subst e0
      exact gend hd (by kernel_rfl)
    refine glitF (k := 3) e_api_Key ([x2.1] : List g_api_Key) (fun _ => rfl) (by kernel_rfl) ?_
    obtain ⟨x5, q5, hm⟩ := obind_some hm
    refine gc (fun _ => s_gossip_Add q5) (by kernel_rfl) ?_
    obtain ⟨x6, q6, hm⟩ := obind_some hm
    refine gc (fun _ => s_gossip_Add q6) (by kernel_rfl) ?_
    obtain ⟨x7, q7, hm⟩ := obind_some hm
    refine gc (fun _ => s_gossip_Add q7) (by kernel_rfl) ?_
    obtain ⟨x8, q8, hm⟩ := obind_some hm
    refine gc (fun _ => s_gossip_Add q8) (by kernel_rfl) ?_
    refine glitF (k := 7) e_api_Head ([(⟨0, 3, (1, 0), 0, (⟨0, 0⟩ : g_api_Sig)⟩ : g_api_Head)] : List g_api_Head) (fun _ => rfl) (by kernel_rfl) ?_
    refine glitF (k := 7) e_api_Head ([(⟨0, 3, (0, 2), 0, (⟨0, 0⟩ : g_api_Sig)⟩ : g_api_Head)] : List g_api_Head) (fun _ => rfl) (by kernel_rfl) ?_
    obtain ⟨x9, q9, hm⟩ := obind_some hm
    refine gc (fun _ => w_gossip_Fork q9) (by kernel_rfl) ?_
    refine glitFc (k := 1) e_api_Pool ([(⟨([(⟨0, 3, (1, 0), 0, (⟨0, 0⟩ : g_api_Sig)⟩ : g_api_Head)] : List g_api_Head)⟩ : g_api_Pool), (⟨([(⟨0, 3, (0, 2), 0, (⟨0, 0⟩ : g_api_Sig)⟩ : g_api_Head)] : List g_api_Head)⟩ : g_api_Pool), (⟨[]⟩ : g_api_Pool)] : List g_api_Pool) (fun _ => rfl) (by kernel_rfl) ?_
    refine glitF (k := 2) e_a2_eI ([(0, 1), (2, 2), (3, 0)] : List (Int × Int)) (fun _ => rfl) (by kernel_rfl) ?_
    obtain ⟨x10, q10, hm⟩ := obind_some hm
    refine gco (w_gossip_Spread q10) (by kernel_rfl) ?_
    have hm := bnd_is hm
    let x11 : Bool := ((((((x5.2 == 0) && (x6.2 == 0)) && (x7.2 == 0)) && (x8.2 == 40)) && (!x9.2.2)))
    refine gi hm (by kernel_rfl) (fun hc2 hm => ?_) fun hc2 hm => ?_
    · skip
      have e0 := Option.some.inj hm
      subst e0
      exact gend hd (by kernel_rfl)
    obtain ⟨x12, q12, hm⟩ := obind_some hm
    refine gc (fun _ => w_gossip_Last q12) (by kernel_rfl) ?_
    obtain ⟨x13, q13, hm⟩ := obind_some hm
    refine gc (fun _ => w_gossip_Last q13) (by kernel_rfl) ?_
    obtain ⟨x14, q14, hm⟩ := obind_some hm
    refine gidxO (E := e_api_Pool) (fun _ => q14) (by kernel_rfl) ?_
    refine gldO (k := 1) (fo := 0) (nn := 1) (ag := true) (E := e_api_Pool) (fun _ => rfl) (fun _ => q14) (by kernel_rfl) ?_
    obtain ⟨x15, q15, hm⟩ := obind_some hm
    refine gc (fun _ => w_gossip_Fork q15) (by kernel_rfl) ?_
    obtain ⟨x16, q16, hm⟩ := obind_some hm
    refine gidx (k := 7) (E := e_api_Head) (fun _ => rfl) (fun _ => q16) (by kernel_rfl) ?_
    obtain ⟨x17, q17, hm⟩ := obind_some hm
    refine gidxG (k := 7) (E := e_api_Head) (fun _ => rfl) (fun h => gu_t h q17) (by kernel_rfl) ?_
    obtain ⟨x18, q18, hm⟩ := obind_some hm
    refine gidxOG (E := e_api_Pool) (fun h => gu_t h q18) (by kernel_rfl) ?_
    refine gldOG (k := 1) (fo := 0) (nn := 1) (ag := false) (E := e_api_Pool) (fun _ => rfl) (fun h => gu_t h q18) (by kernel_rfl) ?_
    obtain ⟨x19, q19, hm⟩ := obind_some hm
    refine gidxOG (E := e_api_Pool) (fun h => gu_t h q19) (by kernel_rfl) ?_
    refine gldOG (k := 1) (fo := 0) (nn := 1) (ag := false) (E := e_api_Pool) (fun _ => rfl) (fun h => gu_t h q19) (by kernel_rfl) ?_
    obtain ⟨x20, q20, hm⟩ := obind_some hm
    refine gcG (fun h => w_gossip_Merge (gu_t h q20)) (by kernel_rfl) ?_
    obtain ⟨x21, q21, hm⟩ := obind_some hm
    refine gcG (fun h => w_gossip_Check (gu_t h q21)) (by kernel_rfl) ?_
    obtain ⟨x22, q22, hm⟩ := obind_some hm
    refine gcG (fun h => w_gossip_Check (gu_t h q22)) (by kernel_rfl) ?_
    refine glitF (k := 7) e_api_Head ([(⟨0, 3, (1, 0), 0, (⟨0, 0⟩ : g_api_Sig)⟩ : g_api_Head), (⟨0, 3, (0, 2), 0, (⟨0, 0⟩ : g_api_Sig)⟩ : g_api_Head)] : List g_api_Head) (fun _ => rfl) (by kernel_rfl) ?_
    obtain ⟨x23, q23, hm⟩ := obind_some hm
    refine gcG (fun h => w_gossip_Check (gu_t h q23)) (by kernel_rfl) ?_
    have hm := bnd_is hm
    let x24 : Bool := (((((((((((((((eq_api_Head x16 x3.1) && (eq_api_Head x17 x4.1)) && (eq_api_Head x12.1 x4.1)) && x12.2) && (!x13.2)) && (eq_api_Head x15.1 (⟨0, 3, (0, 2), 0, (⟨0, 0⟩ : g_api_Sig)⟩ : g_api_Head))) && (eq_api_Head x15.2.1 (⟨0, 3, (1, 0), 0, (⟨0, 0⟩ : g_api_Sig)⟩ : g_api_Head))) && x15.2.2) && ((x18.L.length : Int) == 2)) && ((x19.L.length : Int) == 0)) && ((x20.L.length : Int) == 2)) && (x21 == 0)) && (x22 == 40)) && (x23 == 1)))
    have e0 := Option.some.inj hm
    subst e0
    exact gend hd (by kernel_rfl)
def m_law28_place_b2 (a0 : List g_api_Head) (a1 : g_api_Head) (s1 : Int) : Option ((Int) ⊕ ((Unit) ⊕ Bool)) :=
  if (decide (s1 < (a0.length : Int))) = true then
    obind (idx a0 s1) fun x3 =>
    obind (gu (x3.Log == a1.Log) (idx a0 s1)) fun x4 =>
    obind (gu ((x3.Log == a1.Log) && (x4.Size == a1.Size)) (idx a0 s1)) fun x5 =>
    obind (gu (((x3.Log == a1.Log) && (x4.Size == a1.Size)) && (eqSum x5.Root a1.Root)) (idx a0 s1)) fun x6 =>
    if ((((x3.Log == a1.Log) && (x4.Size == a1.Size)) && (eqSum x5.Root a1.Root)) && (x6.At == a1.At)) = true then
      some (.inr (.inr true))
    else
    some (.inl (w64 (s1 + 1)))
  else
  some (.inr (.inl ()))
def m_law28_place (a0 : List g_api_Head) (a1 : g_api_Head) : Option Bool :=
  obind (iter (m_law28_place_b2 a0 a1) FUEL 0) fun x1 => match x1 with
  | .inr r => some r
  | .inl y1 =>
  some false
theorem w_law28_place {a0 : List g_api_Head} {a1 : g_api_Head} {r : Bool} (hm : m_law28_place a0 a1 = some r) : Sf prog 30 [sl e_api_Head a0, ag (e_api_Head a1)] (.d (.t r)) :=
  sp call30 func30 rfl ntmps30 rfl fun D0 As η0 m0 hd => by
    unfold m_law28_place at hm
    obtain ⟨x1, q1, hm⟩ := obind_some hm
    refine gjU 0 (fun (y1 : Unit) => ⟨[], [(0, .box 0 [.d (.i a1.Log), .d (.i a1.Size), .d (.u a1.Root.1), .d (.u a1.Root.2), .d (.i a1.At), .d (.u a1.Sig.E), .d (.u a1.Sig.S)] 31)], [], 1⟩) (fun y1 => x1 = .inl y1) (by kernel_rfl) (fun Jp bk1 => ?_) fun y1 hy => ?_
    · refine gl hd (fun (p : Nat × (Int)) => let (p0, p_0) := p; ⟨[(0, sl e_api_Head a0), (3, .pb 0 0), (5, .d (.i p_0))], [(0, .box 0 [.d (.i a1.Log), .d (.i a1.Size), .d (.u a1.Root.1), .d (.u a1.Root.2), .d (.i a1.At), .d (.u a1.Sig.E), .d (.u a1.Sig.S)] 31)], [], 1⟩) (fun p => iter (m_law28_place_b2 a0 a1) p.1 p.2 = some x1) (fun p => p.1) (FUEL, 0) q1 (by kernel_rfl) ?_
      rintro ⟨n1, s1⟩ q2 Jl bl1
      cases n1 with
      | zero => exact (iter_zero q2).elim
      | succ n1 =>
        obtain ⟨y2, q4, q3⟩ := iter_succ q2
        unfold m_law28_place_b2 at q4
        refine gi q4 (by kernel_rfl) (fun hc1 q4 => ?_) fun hc1 q4 => ?_
        · skip
          obtain ⟨x3, q6, q4⟩ := obind_some q4
          refine gidx (k := 7) (E := e_api_Head) (fun _ => rfl) (fun _ => q6) (by kernel_rfl) ?_
          obtain ⟨x4, q7, q4⟩ := obind_some q4
          refine gidxG (k := 7) (E := e_api_Head) (fun _ => rfl) (fun h => gu_t h q7) (by kernel_rfl) ?_
          obtain ⟨x5, q8, q4⟩ := obind_some q4
          refine gidxG (k := 7) (E := e_api_Head) (fun _ => rfl) (fun h => gu_t h q8) (by kernel_rfl) ?_
          obtain ⟨x6, q9, q4⟩ := obind_some q4
          refine gidxG (k := 7) (E := e_api_Head) (fun _ => rfl) (fun h => gu_t h q9) (by kernel_rfl) ?_
          refine gi q4 (by kernel_rfl) (fun hc2 q4 => ?_) fun hc2 q4 => ?_
          · skip
            cases q4
            rcases q3 with ⟨sn, e, _⟩ | e
            · cases e
            cases e
            dsimp only at hm
            have e0 := Option.some.inj hm
            subst e0
            exact gend hd (by kernel_rfl)
          have e0 := Option.some.inj q4
          subst e0
          rcases q3 with ⟨sn, e, q3'⟩ | e
          · have e := Sum.inl.inj e
            subst e
            exact gb bl1 hd (n1, _) ⟨q3', Nat.lt_succ_self _⟩ (by kernel_rfl)
          cases sum_lr e
        have e0 := Option.some.inj q4
        subst e0
        rcases q3 with ⟨sn, e, _⟩ | e
        · cases sum_rl e
        have e := Sum.inr.inj e
        subst e
        exact gb bk1 hd () rfl (by kernel_rfl)
    subst hy
    dsimp only at hm
    have e0 := Option.some.inj hm
    subst e0
    exact gend hd (by kernel_rfl)
def m_law28_GossipRight_b5 (a0 : g_api_Pool) (a3 : List g_api_Key) (s1 : Int) (s2 : Bool × Int) : Option ((Bool × Int) ⊕ (Bool)) :=
  if (decide (s2.2 < (a3.length : Int))) = true then
    obind (gu (!s2.1) (idx a3 s2.2)) fun x8 =>
    obind (gu (!s2.1) (idx a0.L s1)) fun x9 =>
    obind (gu ((!s2.1) && (x8.Log == x9.Log)) (idx a3 s2.2)) fun x10 =>
    obind (gu ((!s2.1) && (x8.Log == x9.Log)) (idx a0.L s1)) fun x11 =>
    obind (gu ((!s2.1) && (x8.Log == x9.Log)) (m_logd_CheckHead x10 x11)) fun x12 =>
    bnd ((s2.1 || ((x8.Log == x9.Log) && (x12 == 0)))) fun x13 =>
    some (.inl (x13, (w64 (s2.2 + 1))))
  else
  some (.inr s2.1)
def m_law28_GossipRight_b4 (a0 : g_api_Pool) (a3 : List g_api_Key) (s1 : Int) : Option ((Int) ⊕ ((Unit) ⊕ Bool)) :=
  if (decide (s1 < (a0.L.length : Int))) = true then
    obind (
      obind (iter (m_law28_GossipRight_b5 a0 a3 s1) FUEL (false, 0)) fun x6 =>
      some x6
    ) fun x5 =>
    if (!x5) = true then
      some (.inr (.inr false))
    else
    some (.inl (w64 (s1 + 1)))
  else
  some (.inr (.inl ()))
def m_law28_GossipRight (a0 : g_api_Pool) (a1 : g_api_Pool) (a2 : g_api_Head) (a3 : List g_api_Key) : Option Bool :=
  obind (m_law28_live ) fun x1 =>
  if (!x1) = true then
    some false
  else
  obind (gu (!(((decide ((a0.L.length : Int) > 12)) || (decide ((a1.L.length : Int) > 12))) || (decide ((a3.length : Int) > 10)))) (m_gossip_Check a0 a3)) fun x2 =>
  if ((((decide ((a0.L.length : Int) > 12)) || (decide ((a1.L.length : Int) > 12))) || (decide ((a3.length : Int) > 10))) || (x2 != 0)) = true then
    some x1
  else
  obind (iter (m_law28_GossipRight_b4 a0 a3) FUEL 0) fun x3 => match x3 with
  | .inr r => some r
  | .inl y1 =>
  obind (m_gossip_Add a0 a2 a3) fun x14 =>
  obind (gu (x14.2 == 0) (m_gossip_Check x14.1 a3)) fun x15 =>
  obind (gu ((x14.2 == 0) && (!(x15 != 0))) (m_law28_place x14.1.L a2)) fun x16 =>
  if ((x14.2 == 0) && ((x15 != 0) || (!x16))) = true then
    some false
  else
  obind (gu x1 (m_gossip_Check a1 a3)) fun x17 =>
  obind (gu (x1 && (!(x17 != 0))) (m_gossip_Merge a0 a1)) fun x18 =>
  obind (gu (x1 && (!(x17 != 0))) (m_gossip_Check x18 a3)) fun x19 =>
  bnd ((x1 && ((x17 != 0) || (x19 == 0)))) fun x20 =>
  some x20
theorem w_law28_GossipRight {a0 : g_api_Pool} {a1 : g_api_Pool} {a2 : g_api_Head} {a3 : List g_api_Key} {r : Bool} (hm : m_law28_GossipRight a0 a1 a2 a3 = some r) : Sf prog 10 [ag (e_api_Pool a0), ag (e_api_Pool a1), ag (e_api_Head a2), sl e_api_Key a3] (.d (.t r)) :=
  sp call10 func10 rfl ntmps10 rfl fun D0 As η0 m0 hd => by
    unfold m_law28_GossipRight at hm
    obtain ⟨x1, q1, hm⟩ := obind_some hm
    refine gc (fun _ => w_law28_live q1) (by kernel_rfl) ?_
    refine gi hm (by kernel_rfl) (fun hc1 hm => ?_) fun hc1 hm => ?_
    · skip
      have e0 := Option.some.inj hm
      subst e0
      exact gend hd (by kernel_rfl)
    obtain ⟨x2, q2, hm⟩ := obind_some hm
    refine gcG (fun h => w_gossip_Check (gu_t h q2)) (by kernel_rfl) ?_
    refine gi hm (by kernel_rfl) (fun hc2 hm => ?_) fun hc2 hm => ?_
    · skip
      have e0 := Option.some.inj hm
      subst e0
      exact gend hd (by kernel_rfl)
    obtain ⟨x3, q3, hm⟩ := obind_some hm
    refine gjU 0 (fun (y1 : Unit) => ⟨[(3, sl e_api_Key a3), (4, .pb 0 0), (5, .pb 1 0), (6, .pb 2 0), (9, .d (.t x1))], [(0, .box 2 [.d (.i a2.Log), .d (.i a2.Size), .d (.u a2.Root.1), .d (.u a2.Root.2), .d (.i a2.At), .d (.u a2.Sig.E), .d (.u a2.Sig.S)] 31), (1, .box 1 [sl e_api_Head a1.L] 24), (2, .box 0 [sl e_api_Head a0.L] 24)], [], 3⟩) (fun y1 => x3 = .inl y1) (by kernel_rfl) (fun Jp bk1 => ?_) fun y1 hy => ?_
    · refine gl hd (fun (p : Nat × (Int)) => let (p0, p_0) := p; ⟨[(3, sl e_api_Key a3), (4, .pb 0 0), (5, .pb 1 0), (6, .pb 2 0), (9, .d (.t x1)), (10, .d (.i p_0))], [(0, .box 2 [.d (.i a2.Log), .d (.i a2.Size), .d (.u a2.Root.1), .d (.u a2.Root.2), .d (.i a2.At), .d (.u a2.Sig.E), .d (.u a2.Sig.S)] 31), (1, .box 1 [sl e_api_Head a1.L] 24), (2, .box 0 [sl e_api_Head a0.L] 24)], [], 3⟩) (fun p => iter (m_law28_GossipRight_b4 a0 a3) p.1 p.2 = some x3) (fun p => p.1) (FUEL, 0) q3 (by kernel_rfl) ?_
      rintro ⟨n1, s1⟩ q4 Jl bl1
      cases n1 with
      | zero => exact (iter_zero q4).elim
      | succ n1 =>
        obtain ⟨y2, q6, q5⟩ := iter_succ q4
        unfold m_law28_GossipRight_b4 at q6
        refine gi q6 (by kernel_rfl) (fun hc3 q6 => ?_) fun hc3 q6 => ?_
        · skip
          obtain ⟨x5, q8, q6⟩ := obind_some q6
          obtain ⟨x6, q9, q8⟩ := obind_some q8
          refine gjU 2 (fun (_ : Unit) => ⟨[(3, sl e_api_Key a3), (4, .pb 0 0), (5, .pb 1 0), (6, .pb 2 0), (9, .d (.t x1)), (10, .d (.i s1)), (11, .d (.t x5))], [(0, .box 2 [.d (.i a2.Log), .d (.i a2.Size), .d (.u a2.Root.1), .d (.u a2.Root.2), .d (.i a2.At), .d (.u a2.Sig.E), .d (.u a2.Sig.S)] 31), (1, .box 1 [sl e_api_Head a1.L] 24), (2, .box 0 [sl e_api_Head a0.L] 24)], [], 3⟩) (fun _ => True) (by kernel_rfl) (fun Jp bk2 => ?_) fun _ _ => ?_
          · refine gjU 2 (fun (_ : Unit) => ⟨[(3, sl e_api_Key a3), (4, .pb 0 0), (5, .pb 1 0), (6, .pb 2 0), (9, .d (.t x1)), (10, .d (.i s1)), (11, .d (.t x6))], [(0, .box 2 [.d (.i a2.Log), .d (.i a2.Size), .d (.u a2.Root.1), .d (.u a2.Root.2), .d (.i a2.At), .d (.u a2.Sig.E), .d (.u a2.Sig.S)] 31), (1, .box 1 [sl e_api_Head a1.L] 24), (2, .box 0 [sl e_api_Head a0.L] 24)], [], 3⟩) (fun _ => True) (by kernel_rfl) (fun Jp bk3 => ?_) fun _ _ => ?_
            · refine gl hd (fun (p : Nat × (Bool × Int)) => let (p0, p_0, p_1) := p; ⟨[(3, sl e_api_Key a3), (4, .pb 0 0), (5, .pb 1 0), (6, .pb 2 0), (9, .d (.t x1)), (10, .d (.i s1)), (11, .d (.t p_0)), (12, .d (.i p_1))], [(0, .box 2 [.d (.i a2.Log), .d (.i a2.Size), .d (.u a2.Root.1), .d (.u a2.Root.2), .d (.i a2.At), .d (.u a2.Sig.E), .d (.u a2.Sig.S)] 31), (1, .box 1 [sl e_api_Head a1.L] 24), (2, .box 0 [sl e_api_Head a0.L] 24)], [], 3⟩) (fun p => iter (m_law28_GossipRight_b5 a0 a3 s1) p.1 p.2 = some x6) (fun p => p.1) (FUEL, (false, 0)) q9 (by kernel_rfl) ?_
              rintro ⟨n2, s2⟩ q10 Jl bl2
              cases n2 with
              | zero => exact (iter_zero q10).elim
              | succ n2 =>
                obtain ⟨y3, q12, q11⟩ := iter_succ q10
                unfold m_law28_GossipRight_b5 at q12
                refine gi q12 (by kernel_rfl) (fun hc4 q12 => ?_) fun hc4 q12 => ?_
                · skip
                  obtain ⟨x8, q14, q12⟩ := obind_some q12
                  refine gidxG (k := 3) (E := e_api_Key) (fun _ => rfl) (fun h => gu_t h q14) (by kernel_rfl) ?_
                  obtain ⟨x9, q15, q12⟩ := obind_some q12
                  refine gidxG (k := 7) (E := e_api_Head) (fun _ => rfl) (fun h => gu_t h q15) (by kernel_rfl) ?_
                  obtain ⟨x10, q16, q12⟩ := obind_some q12
                  refine gidxG (k := 3) (E := e_api_Key) (fun _ => rfl) (fun h => gu_t h q16) (by kernel_rfl) ?_
                  obtain ⟨x11, q17, q12⟩ := obind_some q12
                  refine gidxG (k := 7) (E := e_api_Head) (fun _ => rfl) (fun h => gu_t h q17) (by kernel_rfl) ?_
                  obtain ⟨x12, q18, q12⟩ := obind_some q12
                  refine gcG (fun h => w_logd_CheckHead (gu_t h q18)) (by kernel_rfl) ?_
                  have q12 := bnd_is q12
                  let x13 : Bool := ((s2.1 || ((x8.Log == x9.Log) && (x12 == 0))))
                  have e0 := Option.some.inj q12
                  subst e0
                  rcases q11 with ⟨sn, e, q11'⟩ | e
                  · have e := Sum.inl.inj e
                    subst e
                    exact gb bl2 hd (n2, _) ⟨q11', Nat.lt_succ_self _⟩ (by kernel_rfl)
                  cases sum_lr e
                have e0 := Option.some.inj q12
                subst e0
                rcases q11 with ⟨sn, e, _⟩ | e
                · cases sum_rl e
                have e := Sum.inr.inj e
                subst e
                exact gb bk3 hd () trivial (by kernel_rfl)
            have e0 := Option.some.inj q8
            subst e0
            exact gb bk2 hd () trivial (by kernel_rfl)
          refine gi q6 (by kernel_rfl) (fun hc5 q6 => ?_) fun hc5 q6 => ?_
          · skip
            cases q6
            rcases q5 with ⟨sn, e, _⟩ | e
            · cases e
            cases e
            dsimp only at hm
            have e0 := Option.some.inj hm
            subst e0
            exact gend hd (by kernel_rfl)
          have e0 := Option.some.inj q6
          subst e0
          rcases q5 with ⟨sn, e, q5'⟩ | e
          · have e := Sum.inl.inj e
            subst e
            exact gb bl1 hd (n1, _) ⟨q5', Nat.lt_succ_self _⟩ (by kernel_rfl)
          cases sum_lr e
        have e0 := Option.some.inj q6
        subst e0
        rcases q5 with ⟨sn, e, _⟩ | e
        · cases sum_rl e
        have e := Sum.inr.inj e
        subst e
        exact gb bk1 hd () rfl (by kernel_rfl)
    subst hy
    dsimp only at hm
    obtain ⟨x14, q20, hm⟩ := obind_some hm
    refine gc (fun _ => s_gossip_Add q20) (by kernel_rfl) ?_
    obtain ⟨x15, q21, hm⟩ := obind_some hm
    refine gcG (fun h => w_gossip_Check (gu_t h q21)) (by kernel_rfl) ?_
    obtain ⟨x16, q22, hm⟩ := obind_some hm
    refine gcG (fun h => w_law28_place (gu_t h q22)) (by kernel_rfl) ?_
    refine gi hm (by kernel_rfl) (fun hc6 hm => ?_) fun hc6 hm => ?_
    · skip
      have e0 := Option.some.inj hm
      subst e0
      exact gend hd (by kernel_rfl)
    obtain ⟨x17, q23, hm⟩ := obind_some hm
    refine gcG (fun h => w_gossip_Check (gu_t h q23)) (by kernel_rfl) ?_
    obtain ⟨x18, q24, hm⟩ := obind_some hm
    refine gcG (fun h => w_gossip_Merge (gu_t h q24)) (by kernel_rfl) ?_
    obtain ⟨x19, q25, hm⟩ := obind_some hm
    refine gcG (fun h => w_gossip_Check (gu_t h q25)) (by kernel_rfl) ?_
    have hm := bnd_is hm
    let x20 : Bool := ((x1 && ((x17 != 0) || (x19 == 0))))
    have e0 := Option.some.inj hm
    subst e0
    exact gend hd (by kernel_rfl)
end Go.Proofs.YtgnklegamndglaaGreat
