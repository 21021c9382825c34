/- The walks of some functions, written by program. Conditions: none. -/
import Derived.Test.YtemiampgjgenhaaGreatWkH
set_option maxHeartbeats 20000000
set_option maxRecDepth 100000
set_option linter.unusedVariables false
set_option linter.unusedSimpArgs false
namespace Go.Proofs.YtemiampgjgenhaaGreat
open Go Go.Gw Tryz

def m_ref04_Secret (a0 : List UInt8) : Option UInt64 :=
  obind (m_ref02_Tagged (⟨#[115, 101, 99, 114, 101, 116]⟩ : ByteArray) ([a0] : List (List UInt8))) fun x1 =>
  obind (m_ref02_Num x1 1152921504606845788) fun x2 =>
  some (1 + x2)

theorem w_ref04_Secret {m : Mem} {As : List Ow} {w : World} {a0 : List UInt8} {a0v0 : Value} {r : UInt64} (S : St m (As) w) (a0h0 : SlR m a0v0 a0) (hm : m_ref04_Secret a0 = some r) :
    CallsR Tryz.prog 39 #[a0v0] w fun v w' => ∃ (M : Mem), m ≤ M ∧ St M (As) w' ∧ v = vU r := by
 unfold m_ref04_Secret at hm
 have L0 := Mem.rfl' m
 refine callsR (args := [a0v0]) func39 rfl ntmps39 (nb rfl) <| ws <| s_asv (v := vU 0) rfl <| nx <| s_mvv (v := a0v0) rfl <| s_litC (parts := [.tmp 3]) (vs := [a0v0]) (cls := [[a0v0]]) (xs := ([a0] : List (List UInt8))) (n := 1) S underlying117 sizeOf27 zeroValue27 rfl ⟨SlR.cells a0h0, trivial⟩ (RepL.cons (c := [a0v0]) (x := a0) ⟨_, rfl, a0h0⟩ RepL.nil) rfl rfl rfl (by decide) (by decide) fun v1 m1 w1 l1 S1 h1 => ?_
 clear S
 obtain ⟨x1, q1, hm⟩ := obind_some hm
 refine s_call call80 (w_ref02_Tagged (a0 := (⟨#[115, 101, 99, 114, 101, 116]⟩ : ByteArray)) (a1 := ([a0] : List (List UInt8))) S1 h1 q1) rfl ?_
 rintro _ w2 ⟨m2, l2, S2, rfl⟩
 clear S1
 obtain ⟨x2, q2, hm⟩ := obind_some hm
 refine s_call call79 (w_ref02_Num (a0 := x1) (a1 := 1152921504606845788) S2  q2) rfl ?_
 rintro _ w3 ⟨m3, l3, S3, rfl⟩
 clear S2
 refine s_addU (m := 1) (n := x2) rfl rfl <| s_asv (v := vU (1 + x2)) rfl <| wpl_nil <| nrm <| wpc_ret <| outRw fun we hpd => ?_
 replace S3 := St.pd S3 hpd
 have e0 := Option.some.inj hm
 subst e0
 replace L0 := Mem.tr L0 (mt l1 (mt l2 l3))
 exact outR [_] rfl ⟨rfl, trivial⟩ ⟨_, L0, S3, rfl⟩

def m_ref24_New (a0 : Int) (a1 : List UInt8) (a2 : Int) : Option (g_api_Log × Int) :=
  obind (m_ref04_Secret a1) fun x1 =>
  obind (m_ref24_Check (⟨a0, x1, a2, [], [], []⟩ : g_api_Log)) fun x2 =>
  if (x2 != 0) = true then
    some ((⟨0, 0, 0, [], [], []⟩ : g_api_Log), 1)
  else
  some ((⟨a0, x1, a2, [], [], []⟩ : g_api_Log), 0)

theorem w_ref24_New {m : Mem} {As : List Ow} {w : World} {a0 : Int} {a1 : List UInt8} {a1v0 : Value} {a2 : Int} {r : g_api_Log × Int} (S : St m (As) w) (a1h0 : SlR m a1v0 a1) (hm : m_ref24_New a0 a1 a2 = some r) :
    CallsR Tryz.prog 10 #[vI a0, a1v0, vI a2] w fun v w' => ∃ (M : Mem), m ≤ M ∧ ∃ (rv0_3 : Value) (rv0_4 : Value) (rv0_5 : Value), St M (As) w' ∧ v = .tuple #[.agg (c_api_Log r.1 rv0_3 rv0_4 rv0_5).toArray, vI r.2] ∧ SlR M rv0_3 r.1.L ∧ SlR M rv0_4 r.1.Hide ∧ SlR M rv0_5 r.1.Wait := by
 unfold m_ref24_New at hm
 have L0 := Mem.rfl' m
 refine callsR (args := [vI a0, a1v0, vI a2]) func10 rfl ntmps10 (nb rfl) <| ws <| s_alloc S zeroValue26 fun b1 w1 S1 => ?_
 replace S1 : St _ ((bx b1 z_api_Log 26) :: As) _ := S1
 clear S
 refine s_asv (v := vI 0) rfl <| nx <| s_mvv (v := vI a0) rfl <| s_mvv (v := a1v0) rfl ?_
 obtain ⟨x1, q1, hm⟩ := obind_some hm
 refine s_call call39 (w_ref04_Secret (a0 := a1) S1 a1h0 q1) rfl ?_
 rintro _ w2 ⟨m1, l1, S2, rfl⟩
 clear S1
 refine s_mvv (v := vI a2) rfl <| s_build (parts := [(0, .tmp 9), (1, .tmp 11), (2, .tmp 12)]) (ps := [(0, vI a0, [vI a0]), (1, vU x1, [vU x1]), (2, vI a2, [vI a2])]) (cs := [vI a0, vU x1, vI a2, .slice none 0 0, .slice none 0 0, .slice none 0 0]) zeroValue26 (BuildPl.str (ss := [1, 1, 1, 1, 1, 1]) underlying26 ⟨sizeOf3, sizeOf22, sizeOf3, sizeOf23, sizeOf24, sizeOf23, trivial⟩) rfl ⟨rfl, rfl, rfl, trivial⟩ rfl <| s_alloc S2 zeroValue26 fun b2 w3 S3 => s_stL (i := 0) S3 rfl rfl rfl sizeOf26 (oneC rfl (oneC rfl (oneC rfl (oneC rfl (oneC rfl (oneC rfl oneN)))))) rfl fun w4 S4 => ?_
 replace S4 : St _ ((bx b2 [vI a0, vU x1, vI a2, .slice none 0 0, .slice none 0 0, .slice none 0 0] 26) :: (bx b1 z_api_Log 26) :: As) _ := S4
 clear S2 S3
 refine wpl_nil <| nrm <| wpc_seq <| ws <| s_ld (i := 0) (cs := [vI a0, vU x1, vI a2, .slice none 0 0, .slice none 0 0, .slice none 0 0]) S4 rfl rfl isAgg26 sizeOf26 rfl (fun h => by cases h) ?_
 obtain ⟨x2, q2, hm⟩ := obind_some hm
 refine s_call call14 (w_ref24_Check (a0 := (⟨a0, x1, a2, [], [], []⟩ : g_api_Log)) S4 (SlR.nil (a := none) (c := 0)) (SlR.nil (a := none) (c := 0)) (SlR.nil (a := none) (c := 0)) q2) rfl ?_
 rintro _ w5 ⟨m2, l2, S5, rfl⟩
 clear S4
 refine s_neq (m := x2) (n := 0) rfl rfl <| wpl_nil <| nrm <| wpc_if (t := (x2 != 0)) rfl (fun hc1 => ?_) (fun hc1 => ?_)
 · replace hm := ifT hc1 hm
   refine ws <| s_build (parts := []) (ps := []) (cs := z_api_Log) zeroValue26 (BuildPl.str (ss := [1, 1, 1, 1, 1, 1]) underlying26 ⟨sizeOf3, sizeOf22, sizeOf3, sizeOf23, sizeOf24, sizeOf23, trivial⟩) rfl trivial rfl <| s_stL (i := 1) S5 rfl rfl rfl sizeOf26 (oneC rfl (oneC rfl (oneC rfl (oneC rfl (oneC rfl (oneC rfl oneN)))))) rfl fun w6 S6 => ?_
   replace S6 : St _ ((bx b2 [vI a0, vU x1, vI a2, .slice none 0 0, .slice none 0 0, .slice none 0 0] 26) :: (bx b1 z_api_Log 26) :: As) _ := S6
   clear S5
   refine s_asv (v := vI 1) rfl <| wpl_nil <| nrm <| wpc_ret <| thR <| outRw fun we hpd => ?_
   replace S6 := St.pd S6 hpd
   have SR := S6
   obtain ⟨m3, l3, S7⟩ := St.drop S6 0
   replace S7 : St _ ((bx b1 z_api_Log 26) :: As) _ := S7
   obtain ⟨m4, l4, S8⟩ := St.drop S7 0
   clear S7
   replace S8 : St _ (As) _ := S8
   have e0 := Option.some.inj hm
   subst e0
   replace L0 := Mem.tr L0 (mt l1 (mt l2 (mt l3 l4)))
   exact outR [_, _] rfl ⟨res_box (i := 1) (off := 0) (cs := z_api_Log) SR rfl rfl isAgg26 sizeOf26 rfl (fun h => by cases h), rfl, trivial⟩ ⟨_, L0, _, _, _, S8, rfl, SlR.nil, SlR.nil, SlR.nil⟩
 replace hm := ifF hc1 hm
 refine wpc_skip <| nrm <| ws <| s_ld (i := 0) (cs := [vI a0, vU x1, vI a2, .slice none 0 0, .slice none 0 0, .slice none 0 0]) S5 rfl rfl isAgg26 sizeOf26 rfl (fun h => by cases h) <| s_stL (i := 1) S5 rfl rfl rfl sizeOf26 (oneC rfl (oneC rfl (oneC rfl (oneC rfl (oneC rfl (oneC rfl oneN)))))) rfl fun w7 S9 => ?_
 replace S9 : St _ ((bx b2 [vI a0, vU x1, vI a2, .slice none 0 0, .slice none 0 0, .slice none 0 0] 26) :: (bx b1 [vI a0, vU x1, vI a2, .slice none 0 0, .slice none 0 0, .slice none 0 0] 26) :: As) _ := S9
 clear S5
 refine s_asv (v := vI 0) rfl <| wpl_nil <| nrm <| wpc_ret <| outRw fun we hpd => ?_
 replace S9 := St.pd S9 hpd
 have SR := S9
 obtain ⟨m5, l5, S10⟩ := St.drop S9 0
 replace S10 : St _ ((bx b1 [vI a0, vU x1, vI a2, .slice none 0 0, .slice none 0 0, .slice none 0 0] 26) :: As) _ := S10
 obtain ⟨m6, l6, S11⟩ := St.drop S10 0
 clear S10
 replace S11 : St _ (As) _ := S11
 have e0 := Option.some.inj hm
 subst e0
 replace L0 := Mem.tr L0 (mt l1 (mt l2 (mt l5 l6)))
 exact outR [_, _] rfl ⟨res_box (i := 1) (off := 0) (cs := [vI a0, vU x1, vI a2, .slice none 0 0, .slice none 0 0, .slice none 0 0]) SR rfl rfl isAgg26 sizeOf26 rfl (fun h => by cases h), rfl, trivial⟩ ⟨_, L0, _, _, _, S11, rfl, SlR.nil, SlR.nil, SlR.nil⟩

def m_ref24_Public (a0 : g_api_Log) : Option (g_api_Key × Int) :=
  obind (m_ref24_Check a0) fun x1 =>
  if (x1 != 0) = true then
    some ((⟨0, 0, 0⟩ : g_api_Key), x1)
  else
  obind (m_ref04_Public a0.Key) fun x2 =>
  some ((⟨a0.Id, x2.1, a0.Delay⟩ : g_api_Key), 0)

theorem w_ref24_Public {m : Mem} {As : List Ow} {w : World} {a0 : g_api_Log} {a0v3 : Value} {a0v4 : Value} {a0v5 : Value} {r : g_api_Key × Int} (S : St m (As) w) (a0h3 : SlR m a0v3 a0.L) (a0h4 : SlR m a0v4 a0.Hide) (a0h5 : SlR m a0v5 a0.Wait) (hm : m_ref24_Public a0 = some r) :
    CallsR Tryz.prog 12 #[.agg (c_api_Log a0 a0v3 a0v4 a0v5).toArray] w fun v w' => ∃ (M : Mem), m ≤ M ∧ St M (As) w' ∧ v = .tuple #[.agg (c_api_Key r.1).toArray, vI r.2] := by
 unfold m_ref24_Public at hm
 have L0 := Mem.rfl' m
 refine callsR (args := [.agg (c_api_Log a0 a0v3 a0v4 a0v5).toArray]) func12 rfl ntmps12 (nb rfl) <| ws <| s_box S rfl fun b1 w1 S1 => ?_
 replace S1 : St _ ((bx b1 (c_api_Log a0 a0v3 a0v4 a0v5) 26) :: As) _ := S1
 clear S
 refine s_alloc S1 zeroValue34 fun b2 w2 S2 => ?_
 replace S2 : St _ ((bx b2 z_api_Key 34) :: (bx b1 (c_api_Log a0 a0v3 a0v4 a0v5) 26) :: As) _ := S2
 clear S1
 refine s_asv (v := vI 0) rfl <| nx <| s_ld (i := 1) (cs := (c_api_Log a0 a0v3 a0v4 a0v5)) S2 rfl rfl isAgg26 sizeOf26 rfl (fun h => by cases h) ?_
 obtain ⟨x1, q1, hm⟩ := obind_some hm
 refine s_call call14 (w_ref24_Check (a0 := a0) S2 a0h3 a0h4 a0h5 q1) rfl ?_
 rintro _ w3 ⟨m1, l1, S3, rfl⟩
 clear S2
 refine s_asv (v := vI x1) rfl <| wpl_nil <| nrm <| wpc_seq <| ws <| s_mvv (v := vI x1) rfl <| s_neq (m := x1) (n := 0) rfl rfl <| wpl_nil <| nrm <| wpc_if (t := (x1 != 0)) rfl (fun hc1 => ?_) (fun hc1 => ?_)
 · replace hm := ifT hc1 hm
   refine ws <| s_build (parts := []) (ps := []) (cs := z_api_Key) zeroValue34 (BuildPl.str (ss := [1, 1, 1]) underlying34 ⟨sizeOf3, sizeOf22, sizeOf3, trivial⟩) rfl trivial rfl <| s_mvv (v := vI x1) rfl <| s_stL (i := 0) S3 rfl rfl rfl sizeOf34 (oneC rfl (oneC rfl (oneC rfl oneN))) rfl fun w4 S4 => ?_
   replace S4 : St _ ((bx b2 z_api_Key 34) :: (bx b1 (c_api_Log a0 a0v3 a0v4 a0v5) 26) :: As) _ := S4
   clear S3
   refine s_asv (v := vI x1) rfl <| wpl_nil <| nrm <| wpc_ret <| thR <| outRw fun we hpd => ?_
   replace S4 := St.pd S4 hpd
   have SR := S4
   obtain ⟨m2, l2, S5⟩ := St.drop S4 0
   replace S5 : St _ ((bx b1 (c_api_Log a0 a0v3 a0v4 a0v5) 26) :: As) _ := S5
   obtain ⟨m3, l3, S6⟩ := St.drop S5 0
   clear S5
   replace S6 : St _ (As) _ := S6
   have e0 := Option.some.inj hm
   subst e0
   replace L0 := Mem.tr L0 (mt l1 (mt l2 l3))
   exact outR [_, _] rfl ⟨res_box (i := 0) (off := 0) (cs := z_api_Key) SR rfl rfl isAgg34 sizeOf34 rfl (fun h => by cases h), rfl, trivial⟩ ⟨_, L0, S6, rfl⟩
 replace hm := ifF hc1 hm
 refine wpc_skip <| nrm <| ws <| s_fld (n := 0) rfl underlying26 rfl rfl sizeOf22 <| s_ld (i := 1) (cs := [vU a0.Key]) S3 rfl rfl isAgg22 sizeOf22 rfl (fun _ => rfl) ?_
 obtain ⟨x2, q2, hm⟩ := obind_some hm
 refine s_call call41 (w_ref04_Public (a0 := a0.Key) S3  q2) rfl ?_
 rintro _ w5 ⟨m4, l4, S7, rfl⟩
 clear S3
 refine s_mvv (v := .tuple #[vU x2.1, vI x2.2]) rfl <| s_ext (i := 0) rfl rfl <| s_ext (i := 1) rfl rfl <| s_asv (v := vU x2.1) rfl <| s_asv (v := vI x2.2) rfl <| nx <| s_fld (n := 0) rfl underlying26 rfl rfl sizeOf3 <| s_ld (i := 1) (cs := [vI a0.Id]) S7 rfl rfl isAgg3 sizeOf3 rfl (fun _ => rfl) <| s_mvv (v := vU x2.1) rfl <| s_fld (n := 0) rfl underlying26 rfl rfl sizeOf3 <| s_ld (i := 1) (cs := [vI a0.Delay]) S7 rfl rfl isAgg3 sizeOf3 rfl (fun _ => rfl) <| s_build (parts := [(0, .tmp 20), (1, .tmp 21), (2, .tmp 23)]) (ps := [(0, vI a0.Id, [vI a0.Id]), (1, vU x2.1, [vU x2.1]), (2, vI a0.Delay, [vI a0.Delay])]) (cs := [vI a0.Id, vU x2.1, vI a0.Delay]) zeroValue34 (BuildPl.str (ss := [1, 1, 1]) underlying34 ⟨sizeOf3, sizeOf22, sizeOf3, trivial⟩) rfl ⟨rfl, rfl, rfl, trivial⟩ rfl <| s_stL (i := 0) S7 rfl rfl rfl sizeOf34 (oneC rfl (oneC rfl (oneC rfl oneN))) rfl fun w6 S8 => ?_
 replace S8 : St _ ((bx b2 [vI a0.Id, vU x2.1, vI a0.Delay] 34) :: (bx b1 (c_api_Log a0 a0v3 a0v4 a0v5) 26) :: As) _ := S8
 clear S7
 refine s_asv (v := vI 0) rfl <| wpl_nil <| nrm <| wpc_ret <| outRw fun we hpd => ?_
 replace S8 := St.pd S8 hpd
 have SR := S8
 obtain ⟨m5, l5, S9⟩ := St.drop S8 0
 replace S9 : St _ ((bx b1 (c_api_Log a0 a0v3 a0v4 a0v5) 26) :: As) _ := S9
 obtain ⟨m6, l6, S10⟩ := St.drop S9 0
 clear S9
 replace S10 : St _ (As) _ := S10
 have e0 := Option.some.inj hm
 subst e0
 replace L0 := Mem.tr L0 (mt l1 (mt l4 (mt l5 l6)))
 exact outR [_, _] rfl ⟨res_box (i := 0) (off := 0) (cs := [vI a0.Id, vU x2.1, vI a0.Delay]) SR rfl rfl isAgg34 sizeOf34 rfl (fun h => by cases h), rfl, trivial⟩ ⟨_, L0, S10, rfl⟩

def m_law24_LogdLooks (a0 : g_api_Log) (a1 : Int) (a2 : List UInt8) (a3 : Int) : Option Bool :=
  obind (m_law24_live ) fun x1 =>
  if (!x1) = true then
    some false
  else
  obind (m_law24_few a0 a2) fun x2 =>
  if (!x2) = true then
    some true
  else
  obind (m_logd_New a1 a2 a3) fun x3 =>
  obind (m_ref24_New a1 a2 a3) fun x4 =>
  obind (m_logd_Public a0) fun x5 =>
  obind (m_ref24_Public a0) fun x6 =>
  obind (m_logd_Check a0) fun x7 =>
  obind (m_ref24_Check a0) fun x8 =>
  obind (gu (x7 == x8) (m_ref24_Same x3.1 x4.1)) fun x9 =>
  bnd ((((((x7 == x8) && x9) && (x3.2 == x4.2)) && (eq_api_Key x5.1 x6.1)) && (x5.2 == x6.2))) fun x10 =>
  some x10

theorem w_law24_LogdLooks {m : Mem} {As : List Ow} {w : World} {a0 : g_api_Log} {a0v3 : Value} {a0v4 : Value} {a0v5 : Value} {a1 : Int} {a2 : List UInt8} {a2v0 : Value} {a3 : Int} {r : Bool} (S : St m (As) w) (a0h3 : SlR m a0v3 a0.L) (a0h4 : SlR m a0v4 a0.Hide) (a0h5 : SlR m a0v5 a0.Wait) (a2h0 : SlR m a2v0 a2) (hm : m_law24_LogdLooks a0 a1 a2 a3 = some r) :
    CallsR Tryz.prog 3 #[.agg (c_api_Log a0 a0v3 a0v4 a0v5).toArray, vI a1, a2v0, vI a3] w fun v w' => ∃ (M : Mem), m ≤ M ∧ St M (As) w' ∧ v = vb r := by
 unfold m_law24_LogdLooks at hm
 have L0 := Mem.rfl' m
 refine callsR (args := [.agg (c_api_Log a0 a0v3 a0v4 a0v5).toArray, vI a1, a2v0, vI a3]) func3 rfl ntmps3 (nb rfl) <| ws <| s_box S rfl fun b1 w1 S1 => ?_
 replace S1 : St _ ((bx b1 (c_api_Log a0 a0v3 a0v4 a0v5) 26) :: As) _ := S1
 clear S
 refine s_asv (v := vb false) rfl <| wpl_nil <| nrm <| wpc_seq <| wpc_seq <| wpc_region ?_
 obtain ⟨x1, q1, hm⟩ := obind_some hm
 refine s_call call7 (w_law24_live  S1  q1) rfl ?_
 rintro _ w2 ⟨m1, l1, S2, rfl⟩
 clear S1
 refine s_not rfl <| wpl_nil <| nrm <| wpc_if (t := (!x1)) rfl (fun hc1 => ?_) (fun hc1 => ?_)
 · replace hm := ifT hc1 hm
   refine ws <| s_asv (v := vb false) rfl <| wpl_nil <| nrm <| wpc_ret <| thR <| outRw fun we hpd => ?_
   replace S2 := St.pd S2 hpd
   obtain ⟨m2, l2, S3⟩ := St.drop S2 0
   clear S2
   replace S3 : St _ (As) _ := S3
   have e0 := Option.some.inj hm
   subst e0
   replace L0 := Mem.tr L0 (mt l1 l2)
   exact outR [_] rfl ⟨rfl, trivial⟩ ⟨_, L0, S3, rfl⟩
 replace hm := ifF hc1 hm
 refine wpc_skip <| nrm <| wpc_seq <| ws <| s_ld (i := 0) (cs := (c_api_Log a0 a0v3 a0v4 a0v5)) S2 rfl rfl isAgg26 sizeOf26 rfl (fun h => by cases h) <| s_mvv (v := a2v0) rfl ?_
 obtain ⟨x2, q2, hm⟩ := obind_some hm
 refine s_call call8 (w_law24_few (a0 := a0) (a1 := a2) S2 (a0h3.up l1) (a0h4.up l1) (a0h5.up l1) (a2h0.up l1) q2) rfl ?_
 rintro _ w3 ⟨m3, l3, S4, rfl⟩
 clear S2
 refine s_not rfl <| wpl_nil <| nrm <| wpc_if (t := (!x2)) rfl (fun hc2 => ?_) (fun hc2 => ?_)
 · replace hm := ifT hc2 hm
   refine ws <| s_asv (v := vb true) rfl <| wpl_nil <| nrm <| wpc_ret <| thR <| outRw fun we hpd => ?_
   replace S4 := St.pd S4 hpd
   obtain ⟨m4, l4, S5⟩ := St.drop S4 0
   clear S4
   replace S5 : St _ (As) _ := S5
   have e0 := Option.some.inj hm
   subst e0
   replace L0 := Mem.tr L0 (mt l1 (mt l3 l4))
   exact outR [_] rfl ⟨rfl, trivial⟩ ⟨_, L0, S5, rfl⟩
 replace hm := ifF hc2 hm
 refine wpc_skip <| nrm <| ws <| s_mvv (v := vI a1) rfl <| s_mvv (v := a2v0) rfl <| s_mvv (v := vI a3) rfl ?_
 obtain ⟨x3, q3, hm⟩ := obind_some hm
 replace a2h0 := a2h0.up (mt l1 l3)
 refine s_call call9 (w_logd_New (a0 := a1) (a1 := a2) (a2 := a3) S4 a2h0 q3) rfl ?_
 rintro _ w4 ⟨m5, l5, v1, v2, v3, S6, rfl, h1, h2, h3⟩
 clear S4
 refine s_mvv (v := .tuple #[.agg (c_api_Log x3.1 v1 v2 v3).toArray, vI x3.2]) rfl <| s_ext (i := 0) rfl rfl <| s_ext (i := 1) rfl rfl <| s_alloc S6 zeroValue26 fun b2 w5 S7 => s_stL (i := 0) S7 rfl rfl rfl sizeOf26 (oneC rfl (oneC rfl (oneC rfl (oneC (SlR.one h1) (oneC (SlR.one h2) (oneC (SlR.one h3) oneN)))))) rfl fun w6 S8 => ?_
 replace S8 : St _ ((bx b2 (c_api_Log x3.1 v1 v2 v3) 26) :: (bx b1 (c_api_Log a0 a0v3 a0v4 a0v5) 26) :: As) _ := S8
 clear S6 S7
 refine s_asv (v := vI x3.2) rfl <| nx <| s_mvv (v := vI a1) rfl <| s_mvv (v := a2v0) rfl <| s_mvv (v := vI a3) rfl ?_
 obtain ⟨x4, q4, hm⟩ := obind_some hm
 refine s_call call10 (w_ref24_New (a0 := a1) (a1 := a2) (a2 := a3) S8 (a2h0.up l5) q4) rfl ?_
 rintro _ w7 ⟨m6, l6, v4, v5, v6, S9, rfl, h4, h5, h6⟩
 clear S8
 refine s_mvv (v := .tuple #[.agg (c_api_Log x4.1 v4 v5 v6).toArray, vI x4.2]) rfl <| s_ext (i := 0) rfl rfl <| s_ext (i := 1) rfl rfl <| s_alloc S9 zeroValue26 fun b3 w8 S10 => s_stL (i := 0) S10 rfl rfl rfl sizeOf26 (oneC rfl (oneC rfl (oneC rfl (oneC (SlR.one h4) (oneC (SlR.one h5) (oneC (SlR.one h6) oneN)))))) rfl fun w9 S11 => ?_
 replace S11 : St _ ((bx b3 (c_api_Log x4.1 v4 v5 v6) 26) :: (bx b2 (c_api_Log x3.1 v1 v2 v3) 26) :: (bx b1 (c_api_Log a0 a0v3 a0v4 a0v5) 26) :: As) _ := S11
 clear S9 S10
 refine s_asv (v := vI x4.2) rfl <| nx <| s_ld (i := 2) (cs := (c_api_Log a0 a0v3 a0v4 a0v5)) S11 rfl rfl isAgg26 sizeOf26 rfl (fun h => by cases h) ?_
 obtain ⟨x5, q5, hm⟩ := obind_some hm
 replace a0h3 := a0h3.up (mt l1 (mt l3 (mt l5 l6)))
 replace a0h4 := a0h4.up (mt l1 (mt l3 (mt l5 l6)))
 replace a0h5 := a0h5.up (mt l1 (mt l3 (mt l5 l6)))
 refine s_call call11 (w_logd_Public (a0 := a0) S11 a0h3 a0h4 a0h5 q5) rfl ?_
 rintro _ w10 ⟨m7, l7, S12, rfl⟩
 clear S11
 refine s_mvv (v := .tuple #[.agg (c_api_Key x5.1).toArray, vI x5.2]) rfl <| s_ext (i := 0) rfl rfl <| s_ext (i := 1) rfl rfl <| s_alloc S12 zeroValue34 fun b4 w11 S13 => s_stL (i := 0) S13 rfl rfl rfl sizeOf34 (oneC rfl (oneC rfl (oneC rfl oneN))) rfl fun w12 S14 => ?_
 replace S14 : St _ ((bx b4 (c_api_Key x5.1) 34) :: (bx b3 (c_api_Log x4.1 v4 v5 v6) 26) :: (bx b2 (c_api_Log x3.1 v1 v2 v3) 26) :: (bx b1 (c_api_Log a0 a0v3 a0v4 a0v5) 26) :: As) _ := S14
 clear S12 S13
 refine s_asv (v := vI x5.2) rfl <| nx <| s_ld (i := 3) (cs := (c_api_Log a0 a0v3 a0v4 a0v5)) S14 rfl rfl isAgg26 sizeOf26 rfl (fun h => by cases h) ?_
 obtain ⟨x6, q6, hm⟩ := obind_some hm
 refine s_call call12 (w_ref24_Public (a0 := a0) S14 (a0h3.up l7) (a0h4.up l7) (a0h5.up l7) q6) rfl ?_
 rintro _ w13 ⟨m8, l8, S15, rfl⟩
 clear S14
 refine s_mvv (v := .tuple #[.agg (c_api_Key x6.1).toArray, vI x6.2]) rfl <| s_ext (i := 0) rfl rfl <| s_ext (i := 1) rfl rfl <| s_alloc S15 zeroValue34 fun b5 w14 S16 => s_stL (i := 0) S16 rfl rfl rfl sizeOf34 (oneC rfl (oneC rfl (oneC rfl oneN))) rfl fun w15 S17 => ?_
 replace S17 : St _ ((bx b5 (c_api_Key x6.1) 34) :: (bx b4 (c_api_Key x5.1) 34) :: (bx b3 (c_api_Log x4.1 v4 v5 v6) 26) :: (bx b2 (c_api_Log x3.1 v1 v2 v3) 26) :: (bx b1 (c_api_Log a0 a0v3 a0v4 a0v5) 26) :: As) _ := S17
 clear S15 S16
 refine s_asv (v := vI x6.2) rfl <| wpl_nil <| nrm <| wpc_seq ?_
 obtain ⟨x7, q7, hm⟩ := obind_some hm
 obtain ⟨x8, q8, hm⟩ := obind_some hm
 obtain ⟨x9, q9, hm⟩ := obind_some hm
 have HM : MonoAll [(47, fv (.agg (c_api_Log a0 a0v3 a0v4 a0v5).toArray)), (48, fv (vI x7)), (49, fv (.agg (c_api_Log a0 a0v3 a0v4 a0v5).toArray)), (50, fv (vI x8)), (51, fv (vb (x7 == x8))), (52, fv (vb (x7 == x8))), (53, fc (x7 == x8) (fv (.agg (c_api_Log x3.1 v1 v2 v3).toArray))), (54, fc (x7 == x8) (fv (.agg (c_api_Log x4.1 v4 v5 v6).toArray))), (55, fc (x7 == x8) (fv (vb x9))), (56, fv (vb ((x7 == x8) && x9))), (57, fv (vb ((x7 == x8) && x9))), (58, fc ((x7 == x8) && x9) (fv (vI x3.2))), (59, fc ((x7 == x8) && x9) (fv (vI x4.2))), (60, fc ((x7 == x8) && x9) (fv (vb (x3.2 == x4.2)))), (61, fv (vb (((x7 == x8) && x9) && (x3.2 == x4.2)))), (62, fv (vb (((x7 == x8) && x9) && (x3.2 == x4.2)))), (63, fc (((x7 == x8) && x9) && (x3.2 == x4.2)) (fv (.agg (c_api_Key x5.1).toArray))), (64, fc (((x7 == x8) && x9) && (x3.2 == x4.2)) (fv (.agg (c_api_Key x6.1).toArray))), (65, fc (((x7 == x8) && x9) && (x3.2 == x4.2)) (fv (vb (eq_api_Key x5.1 x6.1)))), (66, fv (vb ((((x7 == x8) && x9) && (x3.2 == x4.2)) && (eq_api_Key x5.1 x6.1)))), (67, fv (vb ((((x7 == x8) && x9) && (x3.2 == x4.2)) && (eq_api_Key x5.1 x6.1)))), (68, fc ((((x7 == x8) && x9) && (x3.2 == x4.2)) && (eq_api_Key x5.1 x6.1)) (fv (vI x5.2))), (69, fc ((((x7 == x8) && x9) && (x3.2 == x4.2)) && (eq_api_Key x5.1 x6.1)) (fv (vI x6.2))), (70, fc ((((x7 == x8) && x9) && (x3.2 == x4.2)) && (eq_api_Key x5.1 x6.1)) (fv (vb (x5.2 == x6.2)))), (71, fv (vb (((((x7 == x8) && x9) && (x3.2 == x4.2)) && (eq_api_Key x5.1 x6.1)) && (x5.2 == x6.2))))] := ⟨mv, mv, mv, mv, mv, mv, (mc mv), (mc mv), (mc mv), mv, mv, (mc mv), (mc mv), (mc mv), mv, mv, (mc mv), (mc mv), (mc mv), mv, mv, (mc mv), (mc mv), (mc mv), mv, trivial⟩
 refine wpc_flowG HM 25 mixed rfl rfl rfl (rg 47 25) (fun L f M w => St M ((bx b5 (c_api_Key x6.1) 34) :: (bx b4 (c_api_Key x5.1) 34) :: (bx b3 (c_api_Log x4.1 v4 v5 v6) 26) :: (bx b2 (c_api_Log x3.1 v1 v2 v3) 26) :: (bx b1 (c_api_Log a0 a0v3 a0v4 a0v5) 26) :: As) w) (St.drew S17 _) ?_ ?_
 · refine ⟨?_, ?_, ?_, ?_, ?_, ?_, ?_, ?_, ?_, ?_, ?_, ?_, ?_, ?_, ?_, ?_, ?_, ?_, ?_, ?_, ?_, ?_, ?_, ?_, ?_, trivial⟩
   · exact flp HM rfl [] (fun _ _ => trivial) (fun _ S18 q => s_ld (i := 4) (cs := (c_api_Log a0 a0v3 a0v4 a0v5)) S18 rfl rfl isAgg26 sizeOf26 rfl (fun h => by cases h) q) rfl
   · intro L f2 w17 hL hd hc ⟨m10, L3, S19, K, hO⟩
     obtain ⟨u2, rfl⟩ := fr_of (N := 72) (L := [(47, _)]) hO ⟨K 0 (dep hd rfl), trivial⟩
     have L4 := Mem.rfl' m10
     replace a0h3 := a0h3.up (mt l7 (mt l8 L3))
     replace a0h4 := a0h4.up (mt l7 (mt l8 L3))
     replace a0h5 := a0h5.up (mt l7 (mt l8 L3))
     refine s_call call13 (w_logd_Check (a0 := a0) S19 a0h3 a0h4 a0h5 q7) rfl ?_
     rintro _ w18 ⟨m11, l9, S20, rfl⟩
     clear S19
     refine wpn ?_
     replace L4 := Mem.tr L4 l9
     exact ⟨m11, Mem.tr L3 L4, S20, facts_step HM rfl K L4 rfl rfl rfl, outP⟩
   · exact flp HM rfl [] (fun _ _ => trivial) (fun _ S21 q => s_ld (i := 4) (cs := (c_api_Log a0 a0v3 a0v4 a0v5)) S21 rfl rfl isAgg26 sizeOf26 rfl (fun h => by cases h) q) rfl
   · intro L f4 w20 hL hd hc ⟨m13, L7, S22, K, hO⟩
     obtain ⟨u4, rfl⟩ := fr_of (N := 72) (L := [(49, _)]) hO ⟨K 2 (dep hd rfl), trivial⟩
     have L8 := Mem.rfl' m13
     replace a0h3 := a0h3.up (mt l7 (mt l8 L7))
     replace a0h4 := a0h4.up (mt l7 (mt l8 L7))
     replace a0h5 := a0h5.up (mt l7 (mt l8 L7))
     refine s_call call14 (w_ref24_Check (a0 := a0) S22 a0h3 a0h4 a0h5 q8) rfl ?_
     rintro _ w21 ⟨m14, l10, S23, rfl⟩
     clear S22
     refine wpn ?_
     replace L8 := Mem.tr L8 l10
     exact ⟨m14, Mem.tr L7 L8, S23, facts_step HM rfl K L8 rfl rfl rfl, outP⟩
   · exact flp HM rfl [(48, _), (50, _)] (fun K _ => ⟨K 1 rfl, K 3 rfl, trivial⟩) (fun _ _ q => s_eql (m := x7) (n := x8) rfl rfl q) rfl
   · exact flp HM rfl [(51, _)] (fun K _ => ⟨K 4 rfl, trivial⟩) (fun _ _ q => s_mvv (v := vb (x7 == x8)) rfl q) rfl
   · exact flg HM rfl rfl (fun K _ => K 5 rfl) [] (fun _ _ _ => trivial) (fun _ => fun _ S26 q => s_ld (i := 3) (cs := (c_api_Log x3.1 v1 v2 v3)) S26 rfl rfl isAgg26 sizeOf26 rfl (fun h => by cases h) q) (fun _ => rfl)
   · exact flg HM rfl rfl (fun K _ => K 5 rfl) [] (fun _ _ _ => trivial) (fun _ => fun _ S27 q => s_ld (i := 2) (cs := (c_api_Log x4.1 v4 v5 v6)) S27 rfl rfl isAgg26 sizeOf26 rfl (fun h => by cases h) q) (fun _ => rfl)
   · refine flb HM rfl rfl (fun K _ => K 5 rfl) fun hb3 => ?_
     intro L f9 w26 hL hd hc ⟨m19, L17, S28, K, hO⟩
     obtain ⟨u9, rfl⟩ := fr_of (N := 72) (L := [(53, _), (54, _)]) hO ⟨(K 6 (dep hd rfl)).1 hb3, (K 7 (dep hd rfl)).1 hb3, trivial⟩
     replace S28 : St _ ((bx b5 (c_api_Key x6.1) 34) :: (bx b4 (c_api_Key x5.1) 34) :: (bx b3 (c_api_Log x4.1 v4 v5 v6) 26) :: (bx b2 (c_api_Log x3.1 v1 v2 v3) 26) :: (bx b1 (c_api_Log a0 a0v3 a0v4 a0v5) 26) :: As) _ := S28
     have L18 := Mem.rfl' m19
     replace q9 := gu_t hb3 q9
     replace h1 := h1.up (mt l6 (mt l7 (mt l8 L17)))
     replace h2 := h2.up (mt l6 (mt l7 (mt l8 L17)))
     replace h3 := h3.up (mt l6 (mt l7 (mt l8 L17)))
     replace h4 := h4.up (mt l7 (mt l8 L17))
     replace h5 := h5.up (mt l7 (mt l8 L17))
     replace h6 := h6.up (mt l7 (mt l8 L17))
     refine s_call call15 (w_ref24_Same (a0 := x3.1) (a1 := x4.1) S28 h1 h2 h3 h4 h5 h6 q9) rfl ?_
     rintro _ w27 ⟨m20, l11, S29, rfl⟩
     clear S28
     refine wpn ?_
     replace L18 := Mem.tr L18 l11
     exact ⟨m20, Mem.tr L17 L18, S29, facts_step HM rfl K L18 rfl rfl ⟨fun _ => rfl, fun hx => tf hb3 hx⟩, outP⟩
   · exact flc HM rfl (x7 == x8) [(52, _), (55, _)] [(52, _)] (fun K _ hb => ⟨K 5 rfl, (K 8 rfl).1 hb, trivial⟩) (fun K _ _ => ⟨K 5 rfl, trivial⟩) (fun hb => fun _ _ q => s_pickT (cb hb) rfl q) (fun hb => fun _ _ q => s_pickF (cb hb) rfl q) (fun hb => cb (and_t hb)) (fun hb => cb (and_f hb))
   · exact flp HM rfl [(56, _)] (fun K _ => ⟨K 9 rfl, trivial⟩) (fun _ _ q => s_mvv (v := vb ((x7 == x8) && x9)) rfl q) rfl
   · exact flg HM rfl rfl (fun K _ => K 10 rfl) [] (fun _ _ _ => trivial) (fun _ => fun _ _ q => s_mvv (v := vI x3.2) rfl q) (fun _ => rfl)
   · exact flg HM rfl rfl (fun K _ => K 10 rfl) [] (fun _ _ _ => trivial) (fun _ => fun _ _ q => s_mvv (v := vI x4.2) rfl q) (fun _ => rfl)
   · exact flg HM rfl rfl (fun K _ => K 10 rfl) [(58, _), (59, _)] (fun K _ hb => ⟨(K 11 rfl).1 hb, (K 12 rfl).1 hb, trivial⟩) (fun _ => fun _ _ q => s_eql (m := x3.2) (n := x4.2) rfl rfl q) (fun _ => rfl)
   · exact flc HM rfl ((x7 == x8) && x9) [(57, _), (60, _)] [(57, _)] (fun K _ hb => ⟨K 10 rfl, (K 13 rfl).1 hb, trivial⟩) (fun K _ _ => ⟨K 10 rfl, trivial⟩) (fun hb => fun _ _ q => s_pickT (cb hb) rfl q) (fun hb => fun _ _ q => s_pickF (cb hb) rfl q) (fun hb => cb (and_t hb)) (fun hb => cb (and_f hb))
   · exact flp HM rfl [(61, _)] (fun K _ => ⟨K 14 rfl, trivial⟩) (fun _ _ q => s_mvv (v := vb (((x7 == x8) && x9) && (x3.2 == x4.2))) rfl q) rfl
   · exact flg HM rfl rfl (fun K _ => K 15 rfl) [] (fun _ _ _ => trivial) (fun _ => fun _ S37 q => s_ld (i := 1) (cs := (c_api_Key x5.1)) S37 rfl rfl isAgg34 sizeOf34 rfl (fun h => by cases h) q) (fun _ => rfl)
   · exact flg HM rfl rfl (fun K _ => K 15 rfl) [] (fun _ _ _ => trivial) (fun _ => fun _ S38 q => s_ld (i := 0) (cs := (c_api_Key x6.1)) S38 rfl rfl isAgg34 sizeOf34 rfl (fun h => by cases h) q) (fun _ => rfl)
   · exact flg HM rfl rfl (fun K _ => K 15 rfl) [(63, _), (64, _)] (fun K _ hb => ⟨(K 16 rfl).1 hb, (K 17 rfl).1 hb, trivial⟩) (fun _ => fun _ _ q => s_eqlA (cs := (c_api_Key x5.1)) (ds := (c_api_Key x6.1)) rfl rfl (eqv_api_Key (p := x5.1) (q := x6.1)) rfl eqGuardType34 q) (fun _ => rfl)
   · exact flc HM rfl (((x7 == x8) && x9) && (x3.2 == x4.2)) [(62, _), (65, _)] [(62, _)] (fun K _ hb => ⟨K 15 rfl, (K 18 rfl).1 hb, trivial⟩) (fun K _ _ => ⟨K 15 rfl, trivial⟩) (fun hb => fun _ _ q => s_pickT (cb hb) rfl q) (fun hb => fun _ _ q => s_pickF (cb hb) rfl q) (fun hb => cb (and_t hb)) (fun hb => cb (and_f hb))
   · exact flp HM rfl [(66, _)] (fun K _ => ⟨K 19 rfl, trivial⟩) (fun _ _ q => s_mvv (v := vb ((((x7 == x8) && x9) && (x3.2 == x4.2)) && (eq_api_Key x5.1 x6.1))) rfl q) rfl
   · exact flg HM rfl rfl (fun K _ => K 20 rfl) [] (fun _ _ _ => trivial) (fun _ => fun _ _ q => s_mvv (v := vI x5.2) rfl q) (fun _ => rfl)
   · exact flg HM rfl rfl (fun K _ => K 20 rfl) [] (fun _ _ _ => trivial) (fun _ => fun _ _ q => s_mvv (v := vI x6.2) rfl q) (fun _ => rfl)
   · exact flg HM rfl rfl (fun K _ => K 20 rfl) [(68, _), (69, _)] (fun K _ hb => ⟨(K 21 rfl).1 hb, (K 22 rfl).1 hb, trivial⟩) (fun _ => fun _ _ q => s_eql (m := x5.2) (n := x6.2) rfl rfl q) (fun _ => rfl)
   · exact flc HM rfl ((((x7 == x8) && x9) && (x3.2 == x4.2)) && (eq_api_Key x5.1 x6.1)) [(67, _), (70, _)] [(67, _)] (fun K _ hb => ⟨K 20 rfl, (K 23 rfl).1 hb, trivial⟩) (fun K _ _ => ⟨K 20 rfl, trivial⟩) (fun hb => fun _ _ q => s_pickT (cb hb) rfl q) (fun hb => fun _ _ q => s_pickF (cb hb) rfl q) (fun hb => cb (and_t hb)) (fun hb => cb (and_f hb))
 intro L f26 w44 hall ⟨m37, L55, S46, K, hO⟩
 have d24 : L 24 = true := hall 24 (by decide)
 obtain ⟨u30, rfl⟩ := fr_of (N := 72) (L := [(71, _)]) hO ⟨K 24 d24, trivial⟩
 replace S46 : St _ ((bx b5 (c_api_Key x6.1) 34) :: (bx b4 (c_api_Key x5.1) 34) :: (bx b3 (c_api_Log x4.1 v4 v5 v6) 26) :: (bx b2 (c_api_Log x3.1 v1 v2 v3) 26) :: (bx b1 (c_api_Log a0 a0v3 a0v4 a0v5) 26) :: As) _ := S46
 clear S17
 obtain ⟨x10, q10, hm⟩ := bnd_eq hm
 refine s_asv (v := vb x10) (congrArg (fun z => vb z) q10.symm) <| wpl_nil <| nrm <| wpc_ret <| outRw fun we hpd => ?_
 replace S46 := St.pd S46 hpd
 obtain ⟨m38, l12, S47⟩ := St.drop S46 0
 clear S46
 replace S47 : St _ ((bx b4 (c_api_Key x5.1) 34) :: (bx b3 (c_api_Log x4.1 v4 v5 v6) 26) :: (bx b2 (c_api_Log x3.1 v1 v2 v3) 26) :: (bx b1 (c_api_Log a0 a0v3 a0v4 a0v5) 26) :: As) _ := S47
 obtain ⟨m39, l13, S48⟩ := St.drop S47 0
 clear S47
 replace S48 : St _ ((bx b3 (c_api_Log x4.1 v4 v5 v6) 26) :: (bx b2 (c_api_Log x3.1 v1 v2 v3) 26) :: (bx b1 (c_api_Log a0 a0v3 a0v4 a0v5) 26) :: As) _ := S48
 obtain ⟨m40, l14, S49⟩ := St.drop S48 0
 clear S48
 replace S49 : St _ ((bx b2 (c_api_Log x3.1 v1 v2 v3) 26) :: (bx b1 (c_api_Log a0 a0v3 a0v4 a0v5) 26) :: As) _ := S49
 obtain ⟨m41, l15, S50⟩ := St.drop S49 0
 clear S49
 replace S50 : St _ ((bx b1 (c_api_Log a0 a0v3 a0v4 a0v5) 26) :: As) _ := S50
 obtain ⟨m42, l16, S51⟩ := St.drop S50 0
 clear S50
 replace S51 : St _ (As) _ := S51
 have e0 := Option.some.inj hm
 subst e0
 replace L0 := Mem.tr L0 (mt l1 (mt l3 (mt l5 (mt l6 (mt l7 (mt l8 (mt L55 (mt l12 (mt l13 (mt l14 (mt l15 l16)))))))))))
 exact outR [_] rfl ⟨rfl, trivial⟩ ⟨_, L0, S51, rfl⟩

end Go.Proofs.YtemiampgjgenhaaGreat
