/- The walks of some functions, written by program. Conditions: none. -/
import Derived.Test.YtemiampgjgenhaaGreatDoorWkC
set_option maxHeartbeats 20000000
set_option maxRecDepth 100000
set_option linter.unusedVariables false
set_option linter.unusedSimpArgs false
namespace Go.Proofs.YtemiampgjgenhaaGreatDoor
open Go Go.Gw Tryz

def m_law24_live  : Option Bool :=
  obind (m_logd_New 3 ([115, 101, 101, 100] : List UInt8) 20) fun x1 =>
  obind (m_logd_Public x1.1) fun x2 =>
  obind (m_logd_Add x1.1 ([97] : List UInt8) 5) fun x3 =>
  obind (m_logd_Add x3.1 ([98] : List UInt8) 6) fun x4 =>
  obind (m_logd_Merge x4.1) fun x5 =>
  obind (m_logd_Hide x5.1) fun x6 =>
  if (((((((((x1.2 != 0) || (x2.2 != 0)) || (x3.2.2 != 0)) || (x4.2.2 != 0)) || (x5.2 != 0)) || (x6.2 != 0)) || ((x6.1.L.length : Int) != 2)) || ((x6.1.Wait.length : Int) != 0)) || ((x6.1.Hide.length : Int) != 1)) = true then
    some false
  else
  obind (m_logd_Head x6.1 0 1 9) fun x7 =>
  obind (m_logd_Head x6.1 1 1 9) fun x8 =>
  obind (m_logd_Leaves x6.1 1) fun x9 =>
  obind (m_logd_Leaves x6.1 2) fun x10 =>
  obind (m_logd_Head x6.1 0 3 9) fun x11 =>
  if ((((x7.2 != 0) || (x8.2 != 0)) || (x9.2 != 0)) || ((x9.1.length : Int) != 2)) = true then
    some false
  else
  obind (gu ((((x2.1.Log == 3) && (x2.1.Delay == 20)) && (x3.2.1.Log == 3)) && (x3.2.1.At == 5)) (m_merkle_Leaf ([97] : List UInt8))) fun x12 =>
  obind (gu (((((x2.1.Log == 3) && (x2.1.Delay == 20)) && (x3.2.1.Log == 3)) && (x3.2.1.At == 5)) && (eqSum x3.2.1.Leaf x12)) (m_logd_CheckPromise x2.1 x3.2.1)) fun x13 =>
  obind (gu (((((((x2.1.Log == 3) && (x2.1.Delay == 20)) && (x3.2.1.Log == 3)) && (x3.2.1.At == 5)) && (eqSum x3.2.1.Leaf x12)) && (x13 == 0)) && (eq_api_Head x7.1 x8.1)) (m_logd_CheckHead x2.1 x7.1)) fun x14 =>
  obind (gu ((((((((x2.1.Log == 3) && (x2.1.Delay == 20)) && (x3.2.1.Log == 3)) && (x3.2.1.At == 5)) && (eqSum x3.2.1.Leaf x12)) && (x13 == 0)) && (eq_api_Head x7.1 x8.1)) && (x14 == 0)) (idx x9.1 0)) fun x15 =>
  obind (gu ((((((((x2.1.Log == 3) && (x2.1.Delay == 20)) && (x3.2.1.Log == 3)) && (x3.2.1.At == 5)) && (eqSum x3.2.1.Leaf x12)) && (x13 == 0)) && (eq_api_Head x7.1 x8.1)) && (x14 == 0)) (m_merkle_Leaf ([97] : List UInt8))) fun x16 =>
  obind (gu (((((((((x2.1.Log == 3) && (x2.1.Delay == 20)) && (x3.2.1.Log == 3)) && (x3.2.1.At == 5)) && (eqSum x3.2.1.Leaf x12)) && (x13 == 0)) && (eq_api_Head x7.1 x8.1)) && (x14 == 0)) && (eqSum x15 x16)) (idx x9.1 1)) fun x17 =>
  obind (gu (((((((((x2.1.Log == 3) && (x2.1.Delay == 20)) && (x3.2.1.Log == 3)) && (x3.2.1.At == 5)) && (eqSum x3.2.1.Leaf x12)) && (x13 == 0)) && (eq_api_Head x7.1 x8.1)) && (x14 == 0)) && (eqSum x15 x16)) (m_merkle_Leaf ([0, 98] : List UInt8))) fun x18 =>
  obind (
    if ((((((((((((x2.1.Log == 3) && (x2.1.Delay == 20)) && (x3.2.1.Log == 3)) && (x3.2.1.At == 5)) && (eqSum x3.2.1.Leaf x12)) && (x13 == 0)) && (eq_api_Head x7.1 x8.1)) && (x14 == 0)) && (eqSum x15 x16)) && (eqSum x17 x18)) && (x10.2 == 240)) && (x11.2 == 80)) = true then
      obind (m_logd_Check (⟨0, 0, 0, [], [], []⟩ : g_api_Log)) fun x21 =>
      some (x21 == 1)
    else
    some false
  ) fun x20 =>
  some x20

theorem w_law24_live {m : Mem} {As : List Ow} {w : World}  {r : Bool} (S : St m (As) w) (hm : m_law24_live = some r) :
    CallsR Tryz.prog 4 #[] w fun v w' => ∃ (M : Mem), m ≤ M ∧ St M (As) w' ∧ v = vb r := by
 unfold m_law24_live at hm
 have L0 := Mem.rfl' m
 refine callsR (args := []) func4 rfl ntmps4 (nb rfl) <| ws <| s_asv (v := vb false) rfl <| nx <| s_litOC (parts := [.const (.int .u8 115), .const (.int .u8 101), .const (.int .u8 101), .const (.int .u8 100)]) (vs := [vB 115, vB 101, vB 101, vB 100]) (cls := [[vB 115], [vB 101], [vB 101], [vB 100]]) (n := 4) (sz := 1) S underlying57 sizeOf5 zeroValue5 rfl ⟨rfl, rfl, rfl, rfl, trivial⟩ rfl rfl (by decide) (by decide) fun v1 w1 S1 => ?_
 have h1 : RepL m [vB 115, vB 101, vB 101, vB 100] ([115, 101, 101, 100] : List UInt8) := (RepL.cons (c := [vB 115]) (x := 115) rfl (RepL.cons (c := [vB 101]) (x := 101) rfl (RepL.cons (c := [vB 101]) (x := 101) rfl (RepL.cons (c := [vB 100]) (x := 100) rfl RepL.nil))))
 replace S1 : St _ ((row 1 v1 [vB 115, vB 101, vB 101, vB 100] ([115, 101, 101, 100] : List UInt8).length) :: As) _ := S1
 clear S
 refine s_mark (i := 0) S1 rfl rfl (nb rfl) underlying57 underlying5 fun w2 S2 => ?_
 clear S1
 obtain ⟨m1, l1, h2, S3⟩ := St.rowKeepT (i := 0) S2 rfl h1 rfl
 clear S2
 obtain ⟨x1, q1, hm⟩ := obind_some hm
 refine s_call call15 (w_logd_New (a0 := 3) (a1 := ([115, 101, 101, 100] : List UInt8)) (a2 := 20) S3 h2 q1) rfl ?_
 rintro _ w3 ⟨m2, l2, v2, v3, v4, S4, rfl, h3, h4, h5⟩
 clear S3
 refine s_mvv (v := .tuple #[.agg (c_api_Log x1.1 v2 v3 v4).toArray, vI x1.2]) rfl <| s_ext (i := 0) rfl rfl <| s_ext (i := 1) rfl rfl <| s_alloc S4 zeroValue26 fun b1 w4 S5 => s_stL (i := 0) S5 rfl rfl rfl sizeOf26 (oneC rfl (oneC rfl (oneC rfl (oneC (SlR.one h3) (oneC (SlR.one h4) (oneC (SlR.one h5) oneN)))))) rfl fun w5 S6 => ?_
 replace S6 : St _ ((bx b1 (c_api_Log x1.1 v2 v3 v4) 26) :: As) _ := S6
 clear S4 S5
 refine s_asv (v := vI x1.2) rfl <| nx <| s_ld (i := 0) (cs := (c_api_Log x1.1 v2 v3 v4)) S6 rfl rfl isAgg26 sizeOf26 rfl (fun h => by cases h) ?_
 obtain ⟨x2, q2, hm⟩ := obind_some hm
 refine s_call call7 (w_logd_Public (a0 := x1.1) S6 h3 h4 h5 q2) rfl ?_
 rintro _ w6 ⟨m3, l3, S7, rfl⟩
 clear S6
 refine s_mvv (v := .tuple #[.agg (c_api_Key x2.1).toArray, vI x2.2]) rfl <| s_ext (i := 0) rfl rfl <| s_ext (i := 1) rfl rfl <| s_alloc S7 zeroValue32 fun b2 w7 S8 => s_stL (i := 0) S8 rfl rfl rfl sizeOf32 (oneC rfl (oneC rfl (oneC rfl oneN))) rfl fun w8 S9 => ?_
 replace S9 : St _ ((bx b2 (c_api_Key x2.1) 32) :: (bx b1 (c_api_Log x1.1 v2 v3 v4) 26) :: As) _ := S9
 clear S7 S8
 refine s_asv (v := vI x2.2) rfl <| nx <| s_ld (i := 1) (cs := (c_api_Log x1.1 v2 v3 v4)) S9 rfl rfl isAgg26 sizeOf26 rfl (fun h => by cases h) <| s_litOC (parts := [.const (.int .u8 97)]) (vs := [vB 97]) (cls := [[vB 97]]) (n := 1) (sz := 1) S9 underlying57 sizeOf5 zeroValue5 rfl ⟨rfl, trivial⟩ rfl rfl (by decide) (by decide) fun v5 w9 S10 => ?_
 have h6 : RepL m3 [vB 97] ([97] : List UInt8) := (RepL.cons (c := [vB 97]) (x := 97) rfl RepL.nil)
 replace S10 : St _ ((row 1 v5 [vB 97] ([97] : List UInt8).length) :: (bx b2 (c_api_Key x2.1) 32) :: (bx b1 (c_api_Log x1.1 v2 v3 v4) 26) :: As) _ := S10
 clear S9
 refine s_mark (i := 0) S10 rfl rfl (nb rfl) underlying57 underlying5 fun w10 S11 => ?_
 clear S10
 obtain ⟨m4, l4, h7, S12⟩ := St.rowKeepT (i := 0) S11 rfl h6 rfl
 clear S11
 obtain ⟨x3, q3, hm⟩ := obind_some hm
 replace h3 := h3.up (mt l3 l4)
 replace h4 := h4.up (mt l3 l4)
 replace h5 := h5.up (mt l3 l4)
 refine s_call call16 (w_logd_Add (a0 := x1.1) (a1 := ([97] : List UInt8)) (a2 := 5) S12 h3 h4 h5 h7 q3) rfl ?_
 rintro _ w11 ⟨m5, l5, v6, v7, v8, S13, rfl, h8, h9, h10⟩
 clear S12
 refine s_mvv (v := .tuple #[.agg (c_api_Log x3.1 v6 v7 v8).toArray, .agg (c_api_Promise x3.2.1).toArray, vI x3.2.2]) rfl <| s_ext (i := 0) rfl rfl <| s_ext (i := 1) rfl rfl <| s_ext (i := 2) rfl rfl <| s_alloc S13 zeroValue59 fun b3 w12 S14 => s_stL (i := 2) S14 rfl rfl rfl sizeOf26 (oneC rfl (oneC rfl (oneC rfl (oneC (SlR.one h8) (oneC (SlR.one h9) (oneC (SlR.one h10) oneN)))))) rfl fun w13 S15 => s_stL (i := 0) S15 rfl rfl rfl sizeOf59 (oneC rfl (oneC rfl (oneC rfl (oneC rfl (oneC rfl (oneC rfl oneN)))))) rfl fun w14 S16 => ?_
 replace S16 : St _ ((bx b3 (c_api_Promise x3.2.1) 59) :: (bx b2 (c_api_Key x2.1) 32) :: (bx b1 (c_api_Log x3.1 v6 v7 v8) 26) :: As) _ := S16
 clear S13 S14 S15
 refine s_asv (v := vI x3.2.2) rfl <| nx <| s_ld (i := 2) (cs := (c_api_Log x3.1 v6 v7 v8)) S16 rfl rfl isAgg26 sizeOf26 rfl (fun h => by cases h) <| s_litOC (parts := [.const (.int .u8 98)]) (vs := [vB 98]) (cls := [[vB 98]]) (n := 1) (sz := 1) S16 underlying57 sizeOf5 zeroValue5 rfl ⟨rfl, trivial⟩ rfl rfl (by decide) (by decide) fun v9 w15 S17 => ?_
 have h11 : RepL m5 [vB 98] ([98] : List UInt8) := (RepL.cons (c := [vB 98]) (x := 98) rfl RepL.nil)
 replace S17 : St _ ((row 1 v9 [vB 98] ([98] : List UInt8).length) :: (bx b3 (c_api_Promise x3.2.1) 59) :: (bx b2 (c_api_Key x2.1) 32) :: (bx b1 (c_api_Log x3.1 v6 v7 v8) 26) :: As) _ := S17
 clear S16
 refine s_mark (i := 0) S17 rfl rfl (nb rfl) underlying57 underlying5 fun w16 S18 => ?_
 clear S17
 obtain ⟨m6, l6, h12, S19⟩ := St.rowKeepT (i := 0) S18 rfl h11 rfl
 clear S18
 obtain ⟨x4, q4, hm⟩ := obind_some hm
 refine s_call call16 (w_logd_Add (a0 := x3.1) (a1 := ([98] : List UInt8)) (a2 := 6) S19 (h8.up l6) (h9.up l6) (h10.up l6) h12 q4) rfl ?_
 rintro _ w17 ⟨m7, l7, v10, v11, v12, S20, rfl, h13, h14, h15⟩
 clear S19
 refine s_mvv (v := .tuple #[.agg (c_api_Log x4.1 v10 v11 v12).toArray, .agg (c_api_Promise x4.2.1).toArray, vI x4.2.2]) rfl <| s_ext (i := 0) rfl rfl <| s_ext (i := 1) rfl rfl <| s_ext (i := 2) rfl rfl <| s_alloc S20 zeroValue59 fun b4 w18 S21 => s_stL (i := 3) S21 rfl rfl rfl sizeOf26 (oneC rfl (oneC rfl (oneC rfl (oneC (SlR.one h13) (oneC (SlR.one h14) (oneC (SlR.one h15) oneN)))))) rfl fun w19 S22 => s_stL (i := 0) S22 rfl rfl rfl sizeOf59 (oneC rfl (oneC rfl (oneC rfl (oneC rfl (oneC rfl (oneC rfl oneN)))))) rfl fun w20 S23 => ?_
 replace S23 : St _ ((bx b4 (c_api_Promise x4.2.1) 59) :: (bx b3 (c_api_Promise x3.2.1) 59) :: (bx b2 (c_api_Key x2.1) 32) :: (bx b1 (c_api_Log x4.1 v10 v11 v12) 26) :: As) _ := S23
 clear S20 S21 S22
 refine s_asv (v := vI x4.2.2) rfl <| nx <| s_ld (i := 3) (cs := (c_api_Log x4.1 v10 v11 v12)) S23 rfl rfl isAgg26 sizeOf26 rfl (fun h => by cases h) ?_
 obtain ⟨x5, q5, hm⟩ := obind_some hm
 refine s_call call17 (w_logd_Merge (a0 := x4.1) S23 h13 h14 h15 q5) rfl ?_
 rintro _ w21 ⟨m8, l8, v13, v14, v15, S24, rfl, h16, h17, h18⟩
 clear S23
 refine s_mvv (v := .tuple #[.agg (c_api_Log x5.1 v13 v14 v15).toArray, vI x5.2]) rfl <| s_ext (i := 0) rfl rfl <| s_ext (i := 1) rfl rfl <| s_alloc S24 zeroValue26 fun b5 w22 S25 => s_stL (i := 0) S25 rfl rfl rfl sizeOf26 (oneC rfl (oneC rfl (oneC rfl (oneC (SlR.one h16) (oneC (SlR.one h17) (oneC (SlR.one h18) oneN)))))) rfl fun w23 S26 => ?_
 replace S26 : St _ ((bx b5 (c_api_Log x5.1 v13 v14 v15) 26) :: (bx b4 (c_api_Promise x4.2.1) 59) :: (bx b3 (c_api_Promise x3.2.1) 59) :: (bx b2 (c_api_Key x2.1) 32) :: (bx b1 (c_api_Log x4.1 v10 v11 v12) 26) :: As) _ := S26
 clear S24 S25
 refine s_asv (v := vI x5.2) rfl <| nx <| s_ld (i := 0) (cs := (c_api_Log x5.1 v13 v14 v15)) S26 rfl rfl isAgg26 sizeOf26 rfl (fun h => by cases h) ?_
 obtain ⟨x6, q6, hm⟩ := obind_some hm
 refine s_call call18 (w_logd_Hide (a0 := x5.1) S26 h16 h17 h18 q6) rfl ?_
 rintro _ w24 ⟨m9, l9, v16, v17, v18, S27, rfl, h19, h20, h21⟩
 clear S26
 refine s_mvv (v := .tuple #[.agg (c_api_Log x6.1 v16 v17 v18).toArray, vI x6.2]) rfl <| s_ext (i := 0) rfl rfl <| s_ext (i := 1) rfl rfl <| s_stL (i := 0) S27 rfl rfl rfl sizeOf26 (oneC rfl (oneC rfl (oneC rfl (oneC (SlR.one h19) (oneC (SlR.one h20) (oneC (SlR.one h21) oneN)))))) rfl fun w25 S28 => ?_
 replace S28 : St _ ((bx b5 (c_api_Log x6.1 v16 v17 v18) 26) :: (bx b4 (c_api_Promise x4.2.1) 59) :: (bx b3 (c_api_Promise x3.2.1) 59) :: (bx b2 (c_api_Key x2.1) 32) :: (bx b1 (c_api_Log x4.1 v10 v11 v12) 26) :: As) _ := S28
 clear S27
 refine s_asv (v := vI x6.2) rfl <| wpl_nil <| nrm <| wpc_seq <| ws <| s_mvv (v := vI x1.2) rfl <| s_neq (m := x1.2) (n := 0) rfl rfl <| s_mvv (v := vb (x1.2 != 0)) rfl <| wpl_cut 3 [62, 63, 64] (fun f' w' => w' = w25 ∧ AllAt f' [(64, vb ((x1.2 != 0) || (x2.2 != 0)))]) ?_ ?_
 · rcases bool_tf (x1.2 != 0) with hb1 | hb1
   · exact wpl_no (d := 61) rfl rfl (cb hb1) <| wpl_no (d := 61) rfl rfl (cb hb1) <| s_pickT (cb hb1) rfl <| wpl_nil (nrm ⟨outP, rfl, congrArg Value.bool (or_t hb1), trivial⟩)
   · exact wpl_yes (d := 61) rfl rfl (cb hb1) <| s_mvv (v := vI x2.2) rfl <| wpl_yes (d := 61) rfl rfl (cb hb1) <| s_neq (m := x2.2) (n := 0) rfl rfl <| s_pickF (cb hb1) rfl <| wpl_nil (nrm ⟨outP, rfl, congrArg Value.bool (or_f hb1), trivial⟩)
 rintro f1 w26 ho ⟨h22, ha⟩
 subst h22
 obtain ⟨u1, rfl⟩ := fr_of (N := 212) ho ha
 refine s_mvv (v := vb ((x1.2 != 0) || (x2.2 != 0))) rfl <| wpl_cut 3 [66, 67, 68] (fun f' w' => w' = w26 ∧ AllAt f' [(68, vb (((x1.2 != 0) || (x2.2 != 0)) || (x3.2.2 != 0)))]) ?_ ?_
 · rcases bool_tf ((x1.2 != 0) || (x2.2 != 0)) with hb2 | hb2
   · exact wpl_no (d := 65) rfl rfl (cb hb2) <| wpl_no (d := 65) rfl rfl (cb hb2) <| s_pickT (cb hb2) rfl <| wpl_nil (nrm ⟨outP, rfl, congrArg Value.bool (or_t hb2), trivial⟩)
   · exact wpl_yes (d := 65) rfl rfl (cb hb2) <| s_mvv (v := vI x3.2.2) rfl <| wpl_yes (d := 65) rfl rfl (cb hb2) <| s_neq (m := x3.2.2) (n := 0) rfl rfl <| s_pickF (cb hb2) rfl <| wpl_nil (nrm ⟨outP, rfl, congrArg Value.bool (or_f hb2), trivial⟩)
 rintro f2 w27 ho ⟨h23, ha⟩
 subst h23
 obtain ⟨u2, rfl⟩ := fr_of (N := 212) ho ha
 refine s_mvv (v := vb (((x1.2 != 0) || (x2.2 != 0)) || (x3.2.2 != 0))) rfl <| wpl_cut 3 [70, 71, 72] (fun f' w' => w' = w27 ∧ AllAt f' [(72, vb ((((x1.2 != 0) || (x2.2 != 0)) || (x3.2.2 != 0)) || (x4.2.2 != 0)))]) ?_ ?_
 · rcases bool_tf (((x1.2 != 0) || (x2.2 != 0)) || (x3.2.2 != 0)) with hb3 | hb3
   · exact wpl_no (d := 69) rfl rfl (cb hb3) <| wpl_no (d := 69) rfl rfl (cb hb3) <| s_pickT (cb hb3) rfl <| wpl_nil (nrm ⟨outP, rfl, congrArg Value.bool (or_t hb3), trivial⟩)
   · exact wpl_yes (d := 69) rfl rfl (cb hb3) <| s_mvv (v := vI x4.2.2) rfl <| wpl_yes (d := 69) rfl rfl (cb hb3) <| s_neq (m := x4.2.2) (n := 0) rfl rfl <| s_pickF (cb hb3) rfl <| wpl_nil (nrm ⟨outP, rfl, congrArg Value.bool (or_f hb3), trivial⟩)
 rintro f3 w28 ho ⟨h24, ha⟩
 subst h24
 obtain ⟨u3, rfl⟩ := fr_of (N := 212) ho ha
 refine s_mvv (v := vb ((((x1.2 != 0) || (x2.2 != 0)) || (x3.2.2 != 0)) || (x4.2.2 != 0))) rfl <| wpl_cut 3 [74, 75, 76] (fun f' w' => w' = w28 ∧ AllAt f' [(76, vb (((((x1.2 != 0) || (x2.2 != 0)) || (x3.2.2 != 0)) || (x4.2.2 != 0)) || (x5.2 != 0)))]) ?_ ?_
 · rcases bool_tf ((((x1.2 != 0) || (x2.2 != 0)) || (x3.2.2 != 0)) || (x4.2.2 != 0)) with hb4 | hb4
   · exact wpl_no (d := 73) rfl rfl (cb hb4) <| wpl_no (d := 73) rfl rfl (cb hb4) <| s_pickT (cb hb4) rfl <| wpl_nil (nrm ⟨outP, rfl, congrArg Value.bool (or_t hb4), trivial⟩)
   · exact wpl_yes (d := 73) rfl rfl (cb hb4) <| s_mvv (v := vI x5.2) rfl <| wpl_yes (d := 73) rfl rfl (cb hb4) <| s_neq (m := x5.2) (n := 0) rfl rfl <| s_pickF (cb hb4) rfl <| wpl_nil (nrm ⟨outP, rfl, congrArg Value.bool (or_f hb4), trivial⟩)
 rintro f4 w29 ho ⟨h25, ha⟩
 subst h25
 obtain ⟨u4, rfl⟩ := fr_of (N := 212) ho ha
 refine s_mvv (v := vb (((((x1.2 != 0) || (x2.2 != 0)) || (x3.2.2 != 0)) || (x4.2.2 != 0)) || (x5.2 != 0))) rfl <| wpl_cut 3 [78, 79, 80] (fun f' w' => w' = w29 ∧ AllAt f' [(80, vb ((((((x1.2 != 0) || (x2.2 != 0)) || (x3.2.2 != 0)) || (x4.2.2 != 0)) || (x5.2 != 0)) || (x6.2 != 0)))]) ?_ ?_
 · rcases bool_tf (((((x1.2 != 0) || (x2.2 != 0)) || (x3.2.2 != 0)) || (x4.2.2 != 0)) || (x5.2 != 0)) with hb5 | hb5
   · exact wpl_no (d := 77) rfl rfl (cb hb5) <| wpl_no (d := 77) rfl rfl (cb hb5) <| s_pickT (cb hb5) rfl <| wpl_nil (nrm ⟨outP, rfl, congrArg Value.bool (or_t hb5), trivial⟩)
   · exact wpl_yes (d := 77) rfl rfl (cb hb5) <| s_mvv (v := vI x6.2) rfl <| wpl_yes (d := 77) rfl rfl (cb hb5) <| s_neq (m := x6.2) (n := 0) rfl rfl <| s_pickF (cb hb5) rfl <| wpl_nil (nrm ⟨outP, rfl, congrArg Value.bool (or_f hb5), trivial⟩)
 rintro f5 w30 ho ⟨h26, ha⟩
 subst h26
 obtain ⟨u5, rfl⟩ := fr_of (N := 212) ho ha
 refine s_mvv (v := vb ((((((x1.2 != 0) || (x2.2 != 0)) || (x3.2.2 != 0)) || (x4.2.2 != 0)) || (x5.2 != 0)) || (x6.2 != 0))) rfl <| wpl_cut 5 [82, 83, 84, 85, 86] (fun f' w' => w' = w30 ∧ AllAt f' [(86, vb (((((((x1.2 != 0) || (x2.2 != 0)) || (x3.2.2 != 0)) || (x4.2.2 != 0)) || (x5.2 != 0)) || (x6.2 != 0)) || ((x6.1.L.length : Int) != 2)))]) ?_ ?_
 · rcases bool_tf ((((((x1.2 != 0) || (x2.2 != 0)) || (x3.2.2 != 0)) || (x4.2.2 != 0)) || (x5.2 != 0)) || (x6.2 != 0)) with hb6 | hb6
   · exact wpl_no (d := 81) rfl rfl (cb hb6) <| wpl_no (d := 81) rfl rfl (cb hb6) <| wpl_no (d := 81) rfl rfl (cb hb6) <| wpl_no (d := 81) rfl rfl (cb hb6) <| s_pickT (cb hb6) rfl <| wpl_nil (nrm ⟨outP, rfl, congrArg Value.bool (or_t hb6), trivial⟩)
   · exact wpl_yes (d := 81) rfl rfl (cb hb6) <| s_fld (n := 0) rfl underlying26 rfl rfl sizeOf23 <| wpl_yes (d := 81) rfl rfl (cb hb6) <| s_ld (i := 0) (cs := [v16]) S28 rfl rfl isAgg23 sizeOf23 rfl (fun _ => rfl) <| wpl_yes (d := 81) rfl rfl (cb hb6) <| s_lenR (xs := x6.1.L) rfl h19 underlying23 <| wpl_yes (d := 81) rfl rfl (cb hb6) <| s_neq (m := (x6.1.L.length : Int)) (n := 2) rfl rfl <| s_pickF (cb hb6) rfl <| wpl_nil (nrm ⟨outP, rfl, congrArg Value.bool (or_f hb6), trivial⟩)
 rintro f6 w31 ho ⟨h27, ha⟩
 subst h27
 obtain ⟨u6, rfl⟩ := fr_of (N := 212) ho ha
 refine s_mvv (v := vb (((((((x1.2 != 0) || (x2.2 != 0)) || (x3.2.2 != 0)) || (x4.2.2 != 0)) || (x5.2 != 0)) || (x6.2 != 0)) || ((x6.1.L.length : Int) != 2))) rfl <| wpl_cut 5 [88, 89, 90, 91, 92] (fun f' w' => w' = w31 ∧ AllAt f' [(92, vb ((((((((x1.2 != 0) || (x2.2 != 0)) || (x3.2.2 != 0)) || (x4.2.2 != 0)) || (x5.2 != 0)) || (x6.2 != 0)) || ((x6.1.L.length : Int) != 2)) || ((x6.1.Wait.length : Int) != 0)))]) ?_ ?_
 · rcases bool_tf (((((((x1.2 != 0) || (x2.2 != 0)) || (x3.2.2 != 0)) || (x4.2.2 != 0)) || (x5.2 != 0)) || (x6.2 != 0)) || ((x6.1.L.length : Int) != 2)) with hb7 | hb7
   · exact wpl_no (d := 87) rfl rfl (cb hb7) <| wpl_no (d := 87) rfl rfl (cb hb7) <| wpl_no (d := 87) rfl rfl (cb hb7) <| wpl_no (d := 87) rfl rfl (cb hb7) <| s_pickT (cb hb7) rfl <| wpl_nil (nrm ⟨outP, rfl, congrArg Value.bool (or_t hb7), trivial⟩)
   · exact wpl_yes (d := 87) rfl rfl (cb hb7) <| s_fld (n := 0) rfl underlying26 rfl rfl sizeOf23 <| wpl_yes (d := 87) rfl rfl (cb hb7) <| s_ld (i := 0) (cs := [v18]) S28 rfl rfl isAgg23 sizeOf23 rfl (fun _ => rfl) <| wpl_yes (d := 87) rfl rfl (cb hb7) <| s_lenR (xs := x6.1.Wait) rfl h21 underlying23 <| wpl_yes (d := 87) rfl rfl (cb hb7) <| s_neq (m := (x6.1.Wait.length : Int)) (n := 0) rfl rfl <| s_pickF (cb hb7) rfl <| wpl_nil (nrm ⟨outP, rfl, congrArg Value.bool (or_f hb7), trivial⟩)
 rintro f7 w32 ho ⟨h28, ha⟩
 subst h28
 obtain ⟨u7, rfl⟩ := fr_of (N := 212) ho ha
 refine s_mvv (v := vb ((((((((x1.2 != 0) || (x2.2 != 0)) || (x3.2.2 != 0)) || (x4.2.2 != 0)) || (x5.2 != 0)) || (x6.2 != 0)) || ((x6.1.L.length : Int) != 2)) || ((x6.1.Wait.length : Int) != 0))) rfl <| wpl_cut 5 [94, 95, 96, 97, 98] (fun f' w' => w' = w32 ∧ AllAt f' [(98, vb (((((((((x1.2 != 0) || (x2.2 != 0)) || (x3.2.2 != 0)) || (x4.2.2 != 0)) || (x5.2 != 0)) || (x6.2 != 0)) || ((x6.1.L.length : Int) != 2)) || ((x6.1.Wait.length : Int) != 0)) || ((x6.1.Hide.length : Int) != 1)))]) ?_ ?_
 · rcases bool_tf ((((((((x1.2 != 0) || (x2.2 != 0)) || (x3.2.2 != 0)) || (x4.2.2 != 0)) || (x5.2 != 0)) || (x6.2 != 0)) || ((x6.1.L.length : Int) != 2)) || ((x6.1.Wait.length : Int) != 0)) with hb8 | hb8
   · exact wpl_no (d := 93) rfl rfl (cb hb8) <| wpl_no (d := 93) rfl rfl (cb hb8) <| wpl_no (d := 93) rfl rfl (cb hb8) <| wpl_no (d := 93) rfl rfl (cb hb8) <| s_pickT (cb hb8) rfl <| wpl_nil (nrm ⟨outP, rfl, congrArg Value.bool (or_t hb8), trivial⟩)
   · exact wpl_yes (d := 93) rfl rfl (cb hb8) <| s_fld (n := 0) rfl underlying26 rfl rfl sizeOf24 <| wpl_yes (d := 93) rfl rfl (cb hb8) <| s_ld (i := 0) (cs := [v17]) S28 rfl rfl isAgg24 sizeOf24 rfl (fun _ => rfl) <| wpl_yes (d := 93) rfl rfl (cb hb8) <| s_lenR (xs := x6.1.Hide) rfl h20 underlying24 <| wpl_yes (d := 93) rfl rfl (cb hb8) <| s_neq (m := (x6.1.Hide.length : Int)) (n := 1) rfl rfl <| s_pickF (cb hb8) rfl <| wpl_nil (nrm ⟨outP, rfl, congrArg Value.bool (or_f hb8), trivial⟩)
 rintro f8 w33 ho ⟨h29, ha⟩
 subst h29
 obtain ⟨u8, rfl⟩ := fr_of (N := 212) ho ha
 refine wpl_nil <| nrm <| wpc_if (t := (((((((((x1.2 != 0) || (x2.2 != 0)) || (x3.2.2 != 0)) || (x4.2.2 != 0)) || (x5.2 != 0)) || (x6.2 != 0)) || ((x6.1.L.length : Int) != 2)) || ((x6.1.Wait.length : Int) != 0)) || ((x6.1.Hide.length : Int) != 1))) rfl (fun hc1 => ?_) (fun hc1 => ?_)
 · replace hm := ifT hc1 hm
   refine ws <| s_asv (v := vb false) rfl <| wpl_nil <| nrm <| wpc_ret <| thR <| outRw fun we hpd => ?_
   replace S28 := St.pd S28 hpd
   obtain ⟨m10, l10, S29⟩ := St.drop S28 0
   clear S28
   replace S29 : St _ ((bx b4 (c_api_Promise x4.2.1) 59) :: (bx b3 (c_api_Promise x3.2.1) 59) :: (bx b2 (c_api_Key x2.1) 32) :: (bx b1 (c_api_Log x4.1 v10 v11 v12) 26) :: As) _ := S29
   obtain ⟨m11, l11, S30⟩ := St.drop S29 0
   clear S29
   replace S30 : St _ ((bx b3 (c_api_Promise x3.2.1) 59) :: (bx b2 (c_api_Key x2.1) 32) :: (bx b1 (c_api_Log x4.1 v10 v11 v12) 26) :: As) _ := S30
   obtain ⟨m12, l12, S31⟩ := St.drop S30 0
   clear S30
   replace S31 : St _ ((bx b2 (c_api_Key x2.1) 32) :: (bx b1 (c_api_Log x4.1 v10 v11 v12) 26) :: As) _ := S31
   obtain ⟨m13, l13, S32⟩ := St.drop S31 0
   clear S31
   replace S32 : St _ ((bx b1 (c_api_Log x4.1 v10 v11 v12) 26) :: As) _ := S32
   obtain ⟨m14, l14, S33⟩ := St.drop S32 0
   clear S32
   replace S33 : St _ (As) _ := S33
   have e0 := Option.some.inj hm
   subst e0
   replace L0 := Mem.tr L0 (mt l1 (mt l2 (mt l3 (mt l4 (mt l5 (mt l6 (mt l7 (mt l8 (mt l9 (mt l10 (mt l11 (mt l12 (mt l13 l14)))))))))))))
   exact outR [_] rfl ⟨rfl, trivial⟩ ⟨_, L0, S33, rfl⟩
 replace hm := ifF hc1 hm
 refine wpc_skip <| nrm <| ws <| s_ld (i := 0) (cs := (c_api_Log x6.1 v16 v17 v18)) S28 rfl rfl isAgg26 sizeOf26 rfl (fun h => by cases h) ?_
 obtain ⟨x7, q7, hm⟩ := obind_some hm
 refine s_call call8 (w_logd_Head (a0 := x6.1) (a1 := 0) (a2 := 1) (a3 := 9) S28 h19 h20 h21 q7) rfl ?_
 rintro _ w34 ⟨m15, l15, S34, rfl⟩
 clear S28
 refine s_mvv (v := .tuple #[.agg (c_api_Head x7.1).toArray, vI x7.2]) rfl <| s_ext (i := 0) rfl rfl <| s_ext (i := 1) rfl rfl <| s_alloc S34 zeroValue40 fun b6 w35 S35 => s_stL (i := 0) S35 rfl rfl rfl sizeOf40 (oneC rfl (oneC rfl (oneC rfl (oneC rfl (oneC rfl (oneC rfl (oneC rfl oneN))))))) rfl fun w36 S36 => ?_
 replace S36 : St _ ((bx b6 (c_api_Head x7.1) 40) :: (bx b5 (c_api_Log x6.1 v16 v17 v18) 26) :: (bx b4 (c_api_Promise x4.2.1) 59) :: (bx b3 (c_api_Promise x3.2.1) 59) :: (bx b2 (c_api_Key x2.1) 32) :: (bx b1 (c_api_Log x4.1 v10 v11 v12) 26) :: As) _ := S36
 clear S34 S35
 refine s_asv (v := vI x7.2) rfl <| nx <| s_ld (i := 1) (cs := (c_api_Log x6.1 v16 v17 v18)) S36 rfl rfl isAgg26 sizeOf26 rfl (fun h => by cases h) ?_
 obtain ⟨x8, q8, hm⟩ := obind_some hm
 refine s_call call8 (w_logd_Head (a0 := x6.1) (a1 := 1) (a2 := 1) (a3 := 9) S36 (h19.up l15) (h20.up l15) (h21.up l15) q8) rfl ?_
 rintro _ w37 ⟨m16, l16, S37, rfl⟩
 clear S36
 refine s_mvv (v := .tuple #[.agg (c_api_Head x8.1).toArray, vI x8.2]) rfl <| s_ext (i := 0) rfl rfl <| s_ext (i := 1) rfl rfl <| s_alloc S37 zeroValue40 fun b7 w38 S38 => s_stL (i := 0) S38 rfl rfl rfl sizeOf40 (oneC rfl (oneC rfl (oneC rfl (oneC rfl (oneC rfl (oneC rfl (oneC rfl oneN))))))) rfl fun w39 S39 => ?_
 replace S39 : St _ ((bx b7 (c_api_Head x8.1) 40) :: (bx b6 (c_api_Head x7.1) 40) :: (bx b5 (c_api_Log x6.1 v16 v17 v18) 26) :: (bx b4 (c_api_Promise x4.2.1) 59) :: (bx b3 (c_api_Promise x3.2.1) 59) :: (bx b2 (c_api_Key x2.1) 32) :: (bx b1 (c_api_Log x4.1 v10 v11 v12) 26) :: As) _ := S39
 clear S37 S38
 refine s_asv (v := vI x8.2) rfl <| nx <| s_ld (i := 2) (cs := (c_api_Log x6.1 v16 v17 v18)) S39 rfl rfl isAgg26 sizeOf26 rfl (fun h => by cases h) ?_
 obtain ⟨x9, q9, hm⟩ := obind_some hm
 replace h19 := h19.up (mt l15 l16)
 replace h20 := h20.up (mt l15 l16)
 replace h21 := h21.up (mt l15 l16)
 refine s_call call9 (w_logd_Leaves (a0 := x6.1) (a1 := 1) S39 h19 h20 h21 q9) rfl ?_
 rintro _ w40 ⟨m17, l17, v19, c1, S40, rfl, h30⟩
 clear S39
 refine s_mvv (v := .tuple #[v19, vI x9.2]) rfl <| s_ext (i := 0) rfl rfl <| s_ext (i := 1) rfl rfl <| s_asv (v := v19) rfl <| s_asv (v := vI x9.2) rfl <| nx <| s_ld (i := 3) (cs := (c_api_Log x6.1 v16 v17 v18)) S40 rfl rfl isAgg26 sizeOf26 rfl (fun h => by cases h) ?_
 obtain ⟨x10, q10, hm⟩ := obind_some hm
 refine s_call call9 (w_logd_Leaves (a0 := x6.1) (a1 := 2) S40 (h19.up l17) (h20.up l17) (h21.up l17) q10) rfl ?_
 rintro _ w41 ⟨m18, l18, v20, c2, S41, rfl, h31⟩
 clear S40
 refine s_mvv (v := .tuple #[v20, vI x10.2]) rfl <| s_ext (i := 0) rfl rfl <| s_ext (i := 1) rfl rfl <| s_asv (v := v20) rfl <| s_asv (v := vI x10.2) rfl <| nx <| s_ld (i := 4) (cs := (c_api_Log x6.1 v16 v17 v18)) S41 rfl rfl isAgg26 sizeOf26 rfl (fun h => by cases h) ?_
 obtain ⟨x11, q11, hm⟩ := obind_some hm
 replace h19 := h19.up (mt l17 l18)
 replace h20 := h20.up (mt l17 l18)
 replace h21 := h21.up (mt l17 l18)
 refine s_call call8 (w_logd_Head (a0 := x6.1) (a1 := 0) (a2 := 3) (a3 := 9) S41 h19 h20 h21 q11) rfl ?_
 rintro _ w42 ⟨m19, l19, S42, rfl⟩
 clear S41
 refine s_mvv (v := .tuple #[.agg (c_api_Head x11.1).toArray, vI x11.2]) rfl <| s_ext (i := 0) rfl rfl <| s_ext (i := 1) rfl rfl <| s_alloc S42 zeroValue40 fun b8 w43 S43 => s_stL (i := 0) S43 rfl rfl rfl sizeOf40 (oneC rfl (oneC rfl (oneC rfl (oneC rfl (oneC rfl (oneC rfl (oneC rfl oneN))))))) rfl fun w44 S44 => ?_
 replace S44 : St _ ((bx b8 (c_api_Head x11.1) 40) :: (row 2 v20 c2 x10.1.length) :: (row 2 v19 c1 x9.1.length) :: (bx b7 (c_api_Head x8.1) 40) :: (bx b6 (c_api_Head x7.1) 40) :: (bx b5 (c_api_Log x6.1 v16 v17 v18) 26) :: (bx b4 (c_api_Promise x4.2.1) 59) :: (bx b3 (c_api_Promise x3.2.1) 59) :: (bx b2 (c_api_Key x2.1) 32) :: (bx b1 (c_api_Log x4.1 v10 v11 v12) 26) :: As) _ := S44
 clear S42 S43
 refine s_asv (v := vI x11.2) rfl <| wpl_nil <| nrm <| wpc_seq <| ws <| s_mvv (v := vI x7.2) rfl <| s_neq (m := x7.2) (n := 0) rfl rfl <| s_mvv (v := vb (x7.2 != 0)) rfl <| wpl_cut 3 [127, 128, 129] (fun f' w' => w' = w44 ∧ AllAt f' [(129, vb ((x7.2 != 0) || (x8.2 != 0)))]) ?_ ?_
 · rcases bool_tf (x7.2 != 0) with hb9 | hb9
   · exact wpl_no (d := 126) rfl rfl (cb hb9) <| wpl_no (d := 126) rfl rfl (cb hb9) <| s_pickT (cb hb9) rfl <| wpl_nil (nrm ⟨outP, rfl, congrArg Value.bool (or_t hb9), trivial⟩)
   · exact wpl_yes (d := 126) rfl rfl (cb hb9) <| s_mvv (v := vI x8.2) rfl <| wpl_yes (d := 126) rfl rfl (cb hb9) <| s_neq (m := x8.2) (n := 0) rfl rfl <| s_pickF (cb hb9) rfl <| wpl_nil (nrm ⟨outP, rfl, congrArg Value.bool (or_f hb9), trivial⟩)
 rintro f9 w45 ho ⟨h32, ha⟩
 subst h32
 obtain ⟨u9, rfl⟩ := fr_of (N := 212) ho ha
 refine s_mvv (v := vb ((x7.2 != 0) || (x8.2 != 0))) rfl <| wpl_cut 3 [131, 132, 133] (fun f' w' => w' = w45 ∧ AllAt f' [(133, vb (((x7.2 != 0) || (x8.2 != 0)) || (x9.2 != 0)))]) ?_ ?_
 · rcases bool_tf ((x7.2 != 0) || (x8.2 != 0)) with hb10 | hb10
   · exact wpl_no (d := 130) rfl rfl (cb hb10) <| wpl_no (d := 130) rfl rfl (cb hb10) <| s_pickT (cb hb10) rfl <| wpl_nil (nrm ⟨outP, rfl, congrArg Value.bool (or_t hb10), trivial⟩)
   · exact wpl_yes (d := 130) rfl rfl (cb hb10) <| s_mvv (v := vI x9.2) rfl <| wpl_yes (d := 130) rfl rfl (cb hb10) <| s_neq (m := x9.2) (n := 0) rfl rfl <| s_pickF (cb hb10) rfl <| wpl_nil (nrm ⟨outP, rfl, congrArg Value.bool (or_f hb10), trivial⟩)
 rintro f10 w46 ho ⟨h33, ha⟩
 subst h33
 obtain ⟨u10, rfl⟩ := fr_of (N := 212) ho ha
 refine s_mvv (v := vb (((x7.2 != 0) || (x8.2 != 0)) || (x9.2 != 0))) rfl <| wpl_cut 4 [135, 136, 137, 138] (fun f' w' => w' = w46 ∧ AllAt f' [(138, vb ((((x7.2 != 0) || (x8.2 != 0)) || (x9.2 != 0)) || ((x9.1.length : Int) != 2)))]) ?_ ?_
 · rcases bool_tf (((x7.2 != 0) || (x8.2 != 0)) || (x9.2 != 0)) with hb11 | hb11
   · exact wpl_no (d := 134) rfl rfl (cb hb11) <| wpl_no (d := 134) rfl rfl (cb hb11) <| wpl_no (d := 134) rfl rfl (cb hb11) <| s_pickT (cb hb11) rfl <| wpl_nil (nrm ⟨outP, rfl, congrArg Value.bool (or_t hb11), trivial⟩)
   · exact wpl_yes (d := 134) rfl rfl (cb hb11) <| s_mvv (v := v19) rfl <| wpl_yes (d := 134) rfl rfl (cb hb11) <| s_lenO (i := 2) S44 rfl rfl underlying43 <| wpl_yes (d := 134) rfl rfl (cb hb11) <| s_neq (m := (x9.1.length : Int)) (n := 2) rfl rfl <| s_pickF (cb hb11) rfl <| wpl_nil (nrm ⟨outP, rfl, congrArg Value.bool (or_f hb11), trivial⟩)
 rintro f11 w47 ho ⟨h34, ha⟩
 subst h34
 obtain ⟨u11, rfl⟩ := fr_of (N := 212) ho ha
 refine wpl_nil <| nrm <| wpc_if (t := ((((x7.2 != 0) || (x8.2 != 0)) || (x9.2 != 0)) || ((x9.1.length : Int) != 2))) rfl (fun hc2 => ?_) (fun hc2 => ?_)
 · replace hm := ifT hc2 hm
   refine ws <| s_asv (v := vb false) rfl <| wpl_nil <| nrm <| wpc_ret <| thR <| outRw fun we hpd => ?_
   replace S44 := St.pd S44 hpd
   obtain ⟨m20, l20, S45⟩ := St.drop S44 0
   clear S44
   replace S45 : St _ ((row 2 v20 c2 x10.1.length) :: (row 2 v19 c1 x9.1.length) :: (bx b7 (c_api_Head x8.1) 40) :: (bx b6 (c_api_Head x7.1) 40) :: (bx b5 (c_api_Log x6.1 v16 v17 v18) 26) :: (bx b4 (c_api_Promise x4.2.1) 59) :: (bx b3 (c_api_Promise x3.2.1) 59) :: (bx b2 (c_api_Key x2.1) 32) :: (bx b1 (c_api_Log x4.1 v10 v11 v12) 26) :: As) _ := S45
   obtain ⟨m21, l21, S46⟩ := St.drop S45 0
   clear S45
   replace S46 : St _ ((row 2 v19 c1 x9.1.length) :: (bx b7 (c_api_Head x8.1) 40) :: (bx b6 (c_api_Head x7.1) 40) :: (bx b5 (c_api_Log x6.1 v16 v17 v18) 26) :: (bx b4 (c_api_Promise x4.2.1) 59) :: (bx b3 (c_api_Promise x3.2.1) 59) :: (bx b2 (c_api_Key x2.1) 32) :: (bx b1 (c_api_Log x4.1 v10 v11 v12) 26) :: As) _ := S46
   obtain ⟨m22, l22, S47⟩ := St.drop S46 0
   clear S46
   replace S47 : St _ ((bx b7 (c_api_Head x8.1) 40) :: (bx b6 (c_api_Head x7.1) 40) :: (bx b5 (c_api_Log x6.1 v16 v17 v18) 26) :: (bx b4 (c_api_Promise x4.2.1) 59) :: (bx b3 (c_api_Promise x3.2.1) 59) :: (bx b2 (c_api_Key x2.1) 32) :: (bx b1 (c_api_Log x4.1 v10 v11 v12) 26) :: As) _ := S47
   obtain ⟨m23, l23, S48⟩ := St.drop S47 0
   clear S47
   replace S48 : St _ ((bx b6 (c_api_Head x7.1) 40) :: (bx b5 (c_api_Log x6.1 v16 v17 v18) 26) :: (bx b4 (c_api_Promise x4.2.1) 59) :: (bx b3 (c_api_Promise x3.2.1) 59) :: (bx b2 (c_api_Key x2.1) 32) :: (bx b1 (c_api_Log x4.1 v10 v11 v12) 26) :: As) _ := S48
   obtain ⟨m24, l24, S49⟩ := St.drop S48 0
   clear S48
   replace S49 : St _ ((bx b5 (c_api_Log x6.1 v16 v17 v18) 26) :: (bx b4 (c_api_Promise x4.2.1) 59) :: (bx b3 (c_api_Promise x3.2.1) 59) :: (bx b2 (c_api_Key x2.1) 32) :: (bx b1 (c_api_Log x4.1 v10 v11 v12) 26) :: As) _ := S49
   obtain ⟨m25, l25, S50⟩ := St.drop S49 0
   clear S49
   replace S50 : St _ ((bx b4 (c_api_Promise x4.2.1) 59) :: (bx b3 (c_api_Promise x3.2.1) 59) :: (bx b2 (c_api_Key x2.1) 32) :: (bx b1 (c_api_Log x4.1 v10 v11 v12) 26) :: As) _ := S50
   obtain ⟨m26, l26, S51⟩ := St.drop S50 0
   clear S50
   replace S51 : St _ ((bx b3 (c_api_Promise x3.2.1) 59) :: (bx b2 (c_api_Key x2.1) 32) :: (bx b1 (c_api_Log x4.1 v10 v11 v12) 26) :: As) _ := S51
   obtain ⟨m27, l27, S52⟩ := St.drop S51 0
   clear S51
   replace S52 : St _ ((bx b2 (c_api_Key x2.1) 32) :: (bx b1 (c_api_Log x4.1 v10 v11 v12) 26) :: As) _ := S52
   obtain ⟨m28, l28, S53⟩ := St.drop S52 0
   clear S52
   replace S53 : St _ ((bx b1 (c_api_Log x4.1 v10 v11 v12) 26) :: As) _ := S53
   obtain ⟨m29, l29, S54⟩ := St.drop S53 0
   clear S53
   replace S54 : St _ (As) _ := S54
   have e0 := Option.some.inj hm
   subst e0
   replace L0 := Mem.tr L0 (mt l1 (mt l2 (mt l3 (mt l4 (mt l5 (mt l6 (mt l7 (mt l8 (mt l9 (mt l15 (mt l16 (mt l17 (mt l18 (mt l19 (mt l20 (mt l21 (mt l22 (mt l23 (mt l24 (mt l25 (mt l26 (mt l27 (mt l28 l29)))))))))))))))))))))))
   exact outR [_] rfl ⟨rfl, trivial⟩ ⟨_, L0, S54, rfl⟩
 replace hm := ifF hc2 hm
 refine wpc_skip <| nrm <| wpc_seq ?_
 obtain ⟨x12, q12, hm⟩ := obind_some hm
 obtain ⟨x13, q13, hm⟩ := obind_some hm
 obtain ⟨x14, q14, hm⟩ := obind_some hm
 obtain ⟨x15, q15, hm⟩ := obind_some hm
 obtain ⟨x16, q16, hm⟩ := obind_some hm
 obtain ⟨x17, q17, hm⟩ := obind_some hm
 obtain ⟨x18, q18, hm⟩ := obind_some hm
 have HM : MonoAll [(139, fv (pt b2 0)), (140, fv (vI x2.1.Log)), (141, fv (vb (x2.1.Log == 3))), (142, fv (vb (x2.1.Log == 3))), (143, fc (x2.1.Log == 3) (fv (pt b2 2))), (144, fc (x2.1.Log == 3) (fv (vI x2.1.Delay))), (145, fc (x2.1.Log == 3) (fv (vb (x2.1.Delay == 20)))), (146, fv (vb ((x2.1.Log == 3) && (x2.1.Delay == 20)))), (147, fv (vb ((x2.1.Log == 3) && (x2.1.Delay == 20)))), (148, fc ((x2.1.Log == 3) && (x2.1.Delay == 20)) (fv (pt b3 0))), (149, fc ((x2.1.Log == 3) && (x2.1.Delay == 20)) (fv (vI x3.2.1.Log))), (150, fc ((x2.1.Log == 3) && (x2.1.Delay == 20)) (fv (vb (x3.2.1.Log == 3)))), (151, fv (vb (((x2.1.Log == 3) && (x2.1.Delay == 20)) && (x3.2.1.Log == 3)))), (152, fv (vb (((x2.1.Log == 3) && (x2.1.Delay == 20)) && (x3.2.1.Log == 3)))), (153, fc (((x2.1.Log == 3) && (x2.1.Delay == 20)) && (x3.2.1.Log == 3)) (fv (pt b3 1))), (154, fc (((x2.1.Log == 3) && (x2.1.Delay == 20)) && (x3.2.1.Log == 3)) (fv (vI x3.2.1.At))), (155, fc (((x2.1.Log == 3) && (x2.1.Delay == 20)) && (x3.2.1.Log == 3)) (fv (vb (x3.2.1.At == 5)))), (156, fv (vb ((((x2.1.Log == 3) && (x2.1.Delay == 20)) && (x3.2.1.Log == 3)) && (x3.2.1.At == 5)))), (157, fv (vb ((((x2.1.Log == 3) && (x2.1.Delay == 20)) && (x3.2.1.Log == 3)) && (x3.2.1.At == 5)))), (158, fc ((((x2.1.Log == 3) && (x2.1.Delay == 20)) && (x3.2.1.Log == 3)) && (x3.2.1.At == 5)) (fv (pt b3 2))), (159, fc ((((x2.1.Log == 3) && (x2.1.Delay == 20)) && (x3.2.1.Log == 3)) && (x3.2.1.At == 5)) (fv (.agg #[vU x3.2.1.Leaf.1, vU x3.2.1.Leaf.2]))), (160, fun _ _ => True), (161, fc ((((x2.1.Log == 3) && (x2.1.Delay == 20)) && (x3.2.1.Log == 3)) && (x3.2.1.At == 5)) (fun (M : Mem) (v : Value) => ∃ (v22 : Value), v = v22 ∧ SlR M v22 ([97] : List UInt8))), (162, fc ((((x2.1.Log == 3) && (x2.1.Delay == 20)) && (x3.2.1.Log == 3)) && (x3.2.1.At == 5)) (fv (.agg #[vU x12.1, vU x12.2]))), (163, fc ((((x2.1.Log == 3) && (x2.1.Delay == 20)) && (x3.2.1.Log == 3)) && (x3.2.1.At == 5)) (fv (vb (eqSum x3.2.1.Leaf x12)))), (164, fv (vb (((((x2.1.Log == 3) && (x2.1.Delay == 20)) && (x3.2.1.Log == 3)) && (x3.2.1.At == 5)) && (eqSum x3.2.1.Leaf x12)))), (165, fv (vb (((((x2.1.Log == 3) && (x2.1.Delay == 20)) && (x3.2.1.Log == 3)) && (x3.2.1.At == 5)) && (eqSum x3.2.1.Leaf x12)))), (166, fc (((((x2.1.Log == 3) && (x2.1.Delay == 20)) && (x3.2.1.Log == 3)) && (x3.2.1.At == 5)) && (eqSum x3.2.1.Leaf x12)) (fv (.agg (c_api_Key x2.1).toArray))), (167, fc (((((x2.1.Log == 3) && (x2.1.Delay == 20)) && (x3.2.1.Log == 3)) && (x3.2.1.At == 5)) && (eqSum x3.2.1.Leaf x12)) (fv (.agg (c_api_Promise x3.2.1).toArray))), (168, fc (((((x2.1.Log == 3) && (x2.1.Delay == 20)) && (x3.2.1.Log == 3)) && (x3.2.1.At == 5)) && (eqSum x3.2.1.Leaf x12)) (fv (vI x13))), (169, fc (((((x2.1.Log == 3) && (x2.1.Delay == 20)) && (x3.2.1.Log == 3)) && (x3.2.1.At == 5)) && (eqSum x3.2.1.Leaf x12)) (fv (vb (x13 == 0)))), (170, fv (vb ((((((x2.1.Log == 3) && (x2.1.Delay == 20)) && (x3.2.1.Log == 3)) && (x3.2.1.At == 5)) && (eqSum x3.2.1.Leaf x12)) && (x13 == 0)))), (171, fv (vb ((((((x2.1.Log == 3) && (x2.1.Delay == 20)) && (x3.2.1.Log == 3)) && (x3.2.1.At == 5)) && (eqSum x3.2.1.Leaf x12)) && (x13 == 0)))), (172, fc ((((((x2.1.Log == 3) && (x2.1.Delay == 20)) && (x3.2.1.Log == 3)) && (x3.2.1.At == 5)) && (eqSum x3.2.1.Leaf x12)) && (x13 == 0)) (fv (.agg (c_api_Head x7.1).toArray))), (173, fc ((((((x2.1.Log == 3) && (x2.1.Delay == 20)) && (x3.2.1.Log == 3)) && (x3.2.1.At == 5)) && (eqSum x3.2.1.Leaf x12)) && (x13 == 0)) (fv (.agg (c_api_Head x8.1).toArray))), (174, fc ((((((x2.1.Log == 3) && (x2.1.Delay == 20)) && (x3.2.1.Log == 3)) && (x3.2.1.At == 5)) && (eqSum x3.2.1.Leaf x12)) && (x13 == 0)) (fv (vb (eq_api_Head x7.1 x8.1)))), (175, fv (vb (((((((x2.1.Log == 3) && (x2.1.Delay == 20)) && (x3.2.1.Log == 3)) && (x3.2.1.At == 5)) && (eqSum x3.2.1.Leaf x12)) && (x13 == 0)) && (eq_api_Head x7.1 x8.1)))), (176, fv (vb (((((((x2.1.Log == 3) && (x2.1.Delay == 20)) && (x3.2.1.Log == 3)) && (x3.2.1.At == 5)) && (eqSum x3.2.1.Leaf x12)) && (x13 == 0)) && (eq_api_Head x7.1 x8.1)))), (177, fc (((((((x2.1.Log == 3) && (x2.1.Delay == 20)) && (x3.2.1.Log == 3)) && (x3.2.1.At == 5)) && (eqSum x3.2.1.Leaf x12)) && (x13 == 0)) && (eq_api_Head x7.1 x8.1)) (fv (.agg (c_api_Key x2.1).toArray))), (178, fc (((((((x2.1.Log == 3) && (x2.1.Delay == 20)) && (x3.2.1.Log == 3)) && (x3.2.1.At == 5)) && (eqSum x3.2.1.Leaf x12)) && (x13 == 0)) && (eq_api_Head x7.1 x8.1)) (fv (.agg (c_api_Head x7.1).toArray))), (179, fc (((((((x2.1.Log == 3) && (x2.1.Delay == 20)) && (x3.2.1.Log == 3)) && (x3.2.1.At == 5)) && (eqSum x3.2.1.Leaf x12)) && (x13 == 0)) && (eq_api_Head x7.1 x8.1)) (fv (vI x14))), (180, fc (((((((x2.1.Log == 3) && (x2.1.Delay == 20)) && (x3.2.1.Log == 3)) && (x3.2.1.At == 5)) && (eqSum x3.2.1.Leaf x12)) && (x13 == 0)) && (eq_api_Head x7.1 x8.1)) (fv (vb (x14 == 0)))), (181, fv (vb ((((((((x2.1.Log == 3) && (x2.1.Delay == 20)) && (x3.2.1.Log == 3)) && (x3.2.1.At == 5)) && (eqSum x3.2.1.Leaf x12)) && (x13 == 0)) && (eq_api_Head x7.1 x8.1)) && (x14 == 0)))), (182, fv (vb ((((((((x2.1.Log == 3) && (x2.1.Delay == 20)) && (x3.2.1.Log == 3)) && (x3.2.1.At == 5)) && (eqSum x3.2.1.Leaf x12)) && (x13 == 0)) && (eq_api_Head x7.1 x8.1)) && (x14 == 0)))), (183, fc ((((((((x2.1.Log == 3) && (x2.1.Delay == 20)) && (x3.2.1.Log == 3)) && (x3.2.1.At == 5)) && (eqSum x3.2.1.Leaf x12)) && (x13 == 0)) && (eq_api_Head x7.1 x8.1)) && (x14 == 0)) (fv v19)), (184, fc ((((((((x2.1.Log == 3) && (x2.1.Delay == 20)) && (x3.2.1.Log == 3)) && (x3.2.1.At == 5)) && (eqSum x3.2.1.Leaf x12)) && (x13 == 0)) && (eq_api_Head x7.1 x8.1)) && (x14 == 0)) (fun (M : Mem) (v : Value) => ∃ (p1 : Value), v = p1 ∧ PtO v19 p1 ((0 : Int).toNat * 2))), (185, fc ((((((((x2.1.Log == 3) && (x2.1.Delay == 20)) && (x3.2.1.Log == 3)) && (x3.2.1.At == 5)) && (eqSum x3.2.1.Leaf x12)) && (x13 == 0)) && (eq_api_Head x7.1 x8.1)) && (x14 == 0)) (fv (.agg #[vU x15.1, vU x15.2]))), (186, fun _ _ => True), (187, fc ((((((((x2.1.Log == 3) && (x2.1.Delay == 20)) && (x3.2.1.Log == 3)) && (x3.2.1.At == 5)) && (eqSum x3.2.1.Leaf x12)) && (x13 == 0)) && (eq_api_Head x7.1 x8.1)) && (x14 == 0)) (fun (M : Mem) (v : Value) => ∃ (v27 : Value), v = v27 ∧ SlR M v27 ([97] : List UInt8))), (188, fc ((((((((x2.1.Log == 3) && (x2.1.Delay == 20)) && (x3.2.1.Log == 3)) && (x3.2.1.At == 5)) && (eqSum x3.2.1.Leaf x12)) && (x13 == 0)) && (eq_api_Head x7.1 x8.1)) && (x14 == 0)) (fv (.agg #[vU x16.1, vU x16.2]))), (189, fc ((((((((x2.1.Log == 3) && (x2.1.Delay == 20)) && (x3.2.1.Log == 3)) && (x3.2.1.At == 5)) && (eqSum x3.2.1.Leaf x12)) && (x13 == 0)) && (eq_api_Head x7.1 x8.1)) && (x14 == 0)) (fv (vb (eqSum x15 x16)))), (190, fv (vb (((((((((x2.1.Log == 3) && (x2.1.Delay == 20)) && (x3.2.1.Log == 3)) && (x3.2.1.At == 5)) && (eqSum x3.2.1.Leaf x12)) && (x13 == 0)) && (eq_api_Head x7.1 x8.1)) && (x14 == 0)) && (eqSum x15 x16)))), (191, fv (vb (((((((((x2.1.Log == 3) && (x2.1.Delay == 20)) && (x3.2.1.Log == 3)) && (x3.2.1.At == 5)) && (eqSum x3.2.1.Leaf x12)) && (x13 == 0)) && (eq_api_Head x7.1 x8.1)) && (x14 == 0)) && (eqSum x15 x16)))), (192, fc (((((((((x2.1.Log == 3) && (x2.1.Delay == 20)) && (x3.2.1.Log == 3)) && (x3.2.1.At == 5)) && (eqSum x3.2.1.Leaf x12)) && (x13 == 0)) && (eq_api_Head x7.1 x8.1)) && (x14 == 0)) && (eqSum x15 x16)) (fv v19)), (193, fc (((((((((x2.1.Log == 3) && (x2.1.Delay == 20)) && (x3.2.1.Log == 3)) && (x3.2.1.At == 5)) && (eqSum x3.2.1.Leaf x12)) && (x13 == 0)) && (eq_api_Head x7.1 x8.1)) && (x14 == 0)) && (eqSum x15 x16)) (fun (M : Mem) (v : Value) => ∃ (p2 : Value), v = p2 ∧ PtO v19 p2 ((1 : Int).toNat * 2))), (194, fc (((((((((x2.1.Log == 3) && (x2.1.Delay == 20)) && (x3.2.1.Log == 3)) && (x3.2.1.At == 5)) && (eqSum x3.2.1.Leaf x12)) && (x13 == 0)) && (eq_api_Head x7.1 x8.1)) && (x14 == 0)) && (eqSum x15 x16)) (fv (.agg #[vU x17.1, vU x17.2]))), (195, fc (((((((((x2.1.Log == 3) && (x2.1.Delay == 20)) && (x3.2.1.Log == 3)) && (x3.2.1.At == 5)) && (eqSum x3.2.1.Leaf x12)) && (x13 == 0)) && (eq_api_Head x7.1 x8.1)) && (x14 == 0)) && (eqSum x15 x16)) (fun (M : Mem) (v : Value) => ∃ (v31 : Value), v = v31 ∧ SlR M v31 ([0, 98] : List UInt8))), (196, fc (((((((((x2.1.Log == 3) && (x2.1.Delay == 20)) && (x3.2.1.Log == 3)) && (x3.2.1.At == 5)) && (eqSum x3.2.1.Leaf x12)) && (x13 == 0)) && (eq_api_Head x7.1 x8.1)) && (x14 == 0)) && (eqSum x15 x16)) (fv (.agg #[vU x18.1, vU x18.2]))), (197, fc (((((((((x2.1.Log == 3) && (x2.1.Delay == 20)) && (x3.2.1.Log == 3)) && (x3.2.1.At == 5)) && (eqSum x3.2.1.Leaf x12)) && (x13 == 0)) && (eq_api_Head x7.1 x8.1)) && (x14 == 0)) && (eqSum x15 x16)) (fv (vb (eqSum x17 x18)))), (198, fv (vb ((((((((((x2.1.Log == 3) && (x2.1.Delay == 20)) && (x3.2.1.Log == 3)) && (x3.2.1.At == 5)) && (eqSum x3.2.1.Leaf x12)) && (x13 == 0)) && (eq_api_Head x7.1 x8.1)) && (x14 == 0)) && (eqSum x15 x16)) && (eqSum x17 x18))))] := ⟨mv, mv, mv, mv, (mc mv), (mc mv), (mc mv), mv, mv, (mc mv), (mc mv), (mc mv), mv, mv, (mc mv), (mc mv), (mc mv), mv, mv, (mc mv), (mc mv), (fun _ _ _ _ h => h), (mc (fun _ _ _ l ⟨v22, e, h37⟩ => ⟨v22, e, h37.up l⟩)), (mc mv), (mc mv), mv, mv, (mc mv), (mc mv), (mc mv), (mc mv), mv, mv, (mc mv), (mc mv), (mc mv), mv, mv, (mc mv), (mc mv), (mc mv), (mc mv), mv, mv, (mc mv), (mc (fun _ _ _ l ⟨p1, e, h39⟩ => ⟨p1, e, h39⟩)), (mc mv), (fun _ _ _ _ h => h), (mc (fun _ _ _ l ⟨v27, e, h43⟩ => ⟨v27, e, h43.up l⟩)), (mc mv), (mc mv), mv, mv, (mc mv), (mc (fun _ _ _ l ⟨p2, e, h45⟩ => ⟨p2, e, h45⟩)), (mc mv), (mc (fun _ _ _ l ⟨v31, e, h47⟩ => ⟨v31, e, h47.up l⟩)), (mc mv), (mc mv), mv, trivial⟩
 refine wpc_flowG HM 60 mixed rfl rfl rfl (rg 139 60) (fun L f M w => ∃ (X1 : List Ow), ∃ (X2 : List Ow), ((L 21 = false → X1 = []) ∧ (L 21 = true → L 22 = false → ((((((x2.1.Log == 3) && (x2.1.Delay == 20)) && (x3.2.1.Log == 3)) && (x3.2.1.At == 5)) = true → (RowS M X1 1 (f 160) ([97] : List UInt8))) ∧ (((((x2.1.Log == 3) && (x2.1.Delay == 20)) && (x3.2.1.Log == 3)) && (x3.2.1.At == 5)) = false → X1 = []))) ∧ (L 22 = true → X1 = [])) ∧ ((L 47 = false → X2 = []) ∧ (L 47 = true → L 48 = false → ((((((((((x2.1.Log == 3) && (x2.1.Delay == 20)) && (x3.2.1.Log == 3)) && (x3.2.1.At == 5)) && (eqSum x3.2.1.Leaf x12)) && (x13 == 0)) && (eq_api_Head x7.1 x8.1)) && (x14 == 0)) = true → (RowS M X2 1 (f 186) ([97] : List UInt8))) ∧ (((((((((x2.1.Log == 3) && (x2.1.Delay == 20)) && (x3.2.1.Log == 3)) && (x3.2.1.At == 5)) && (eqSum x3.2.1.Leaf x12)) && (x13 == 0)) && (eq_api_Head x7.1 x8.1)) && (x14 == 0)) = false → X2 = []))) ∧ (L 48 = true → X2 = [])) ∧ St M ((bx b8 (c_api_Head x11.1) 40) :: (row 2 v20 c2 x10.1.length) :: (row 2 v19 c1 x9.1.length) :: (bx b7 (c_api_Head x8.1) 40) :: (bx b6 (c_api_Head x7.1) 40) :: (bx b5 (c_api_Log x6.1 v16 v17 v18) 26) :: (bx b4 (c_api_Promise x4.2.1) 59) :: (bx b3 (c_api_Promise x3.2.1) 59) :: (bx b2 (c_api_Key x2.1) 32) :: (bx b1 (c_api_Log x4.1 v10 v11 v12) 26) :: (X1 ++ (X2 ++ As))) w) (⟨[], [], ⟨fun _ => rfl, fun hx _ => ff hx, fun hx => ff hx⟩, ⟨fun _ => rfl, fun hx _ => ff hx, fun hx => ff hx⟩, St.drew S44 _⟩) ?_ ?_
 · refine ⟨?_, ?_, ?_, ?_, ?_, ?_, ?_, ?_, ?_, ?_, ?_, ?_, ?_, ?_, ?_, ?_, ?_, ?_, ?_, ?_, ?_, ?_, ?_, ?_, ?_, ?_, ?_, ?_, ?_, ?_, ?_, ?_, ?_, ?_, ?_, ?_, ?_, ?_, ?_, ?_, ?_, ?_, ?_, ?_, ?_, ?_, ?_, ?_, ?_, ?_, ?_, ?_, ?_, ?_, ?_, ?_, ?_, ?_, ?_, ?_, trivial⟩
   · exact flp HM rfl [] (fun _ _ => trivial) (fun _ _ q => s_fld (n := 0) rfl underlying32 rfl rfl sizeOf3 q) rfl
   · exact flp HM rfl [(139, _)] (fun K _ => ⟨K 0 rfl, trivial⟩) (fun _ ⟨_, _, _, _, S56⟩ q => s_ld (i := 8) (cs := [vI x2.1.Log]) S56 rfl rfl isAgg3 sizeOf3 rfl (fun _ => rfl) q) rfl
   · exact flp HM rfl [(140, _)] (fun K _ => ⟨K 1 rfl, trivial⟩) (fun _ _ q => s_eql (m := x2.1.Log) (n := 3) rfl rfl q) rfl
   · exact flp HM rfl [(141, _)] (fun K _ => ⟨K 2 rfl, trivial⟩) (fun _ _ q => s_mvv (v := vb (x2.1.Log == 3)) rfl q) rfl
   · exact flg HM rfl rfl (fun K _ => K 3 rfl) [] (fun _ _ _ => trivial) (fun _ => fun _ _ q => s_fld (n := 0) rfl underlying32 rfl rfl sizeOf3 q) (fun _ => rfl)
   · exact flg HM rfl rfl (fun K _ => K 3 rfl) [(143, _)] (fun K _ hb => ⟨(K 4 rfl).1 hb, trivial⟩) (fun _ => fun _ ⟨_, _, _, _, S60⟩ q => s_ld (i := 8) (cs := [vI x2.1.Delay]) S60 rfl rfl isAgg3 sizeOf3 rfl (fun _ => rfl) q) (fun _ => rfl)
   · exact flg HM rfl rfl (fun K _ => K 3 rfl) [(144, _)] (fun K _ hb => ⟨(K 5 rfl).1 hb, trivial⟩) (fun _ => fun _ _ q => s_eql (m := x2.1.Delay) (n := 20) rfl rfl q) (fun _ => rfl)
   · exact flc HM rfl (x2.1.Log == 3) [(142, _), (145, _)] [(142, _)] (fun K _ hb => ⟨K 3 rfl, (K 6 rfl).1 hb, trivial⟩) (fun K _ _ => ⟨K 3 rfl, trivial⟩) (fun hb => fun _ _ q => s_pickT (cb hb) rfl q) (fun hb => fun _ _ q => s_pickF (cb hb) rfl q) (fun hb => cb (and_t hb)) (fun hb => cb (and_f hb))
   · exact flp HM rfl [(146, _)] (fun K _ => ⟨K 7 rfl, trivial⟩) (fun _ _ q => s_mvv (v := vb ((x2.1.Log == 3) && (x2.1.Delay == 20))) rfl q) rfl
   · exact flg HM rfl rfl (fun K _ => K 8 rfl) [] (fun _ _ _ => trivial) (fun _ => fun _ _ q => s_fld (n := 0) rfl underlying59 rfl rfl sizeOf3 q) (fun _ => rfl)
   · exact flg HM rfl rfl (fun K _ => K 8 rfl) [(148, _)] (fun K _ hb => ⟨(K 9 rfl).1 hb, trivial⟩) (fun _ => fun _ ⟨_, _, _, _, S65⟩ q => s_ld (i := 7) (cs := [vI x3.2.1.Log]) S65 rfl rfl isAgg3 sizeOf3 rfl (fun _ => rfl) q) (fun _ => rfl)
   · exact flg HM rfl rfl (fun K _ => K 8 rfl) [(149, _)] (fun K _ hb => ⟨(K 10 rfl).1 hb, trivial⟩) (fun _ => fun _ _ q => s_eql (m := x3.2.1.Log) (n := 3) rfl rfl q) (fun _ => rfl)
   · exact flc HM rfl ((x2.1.Log == 3) && (x2.1.Delay == 20)) [(147, _), (150, _)] [(147, _)] (fun K _ hb => ⟨K 8 rfl, (K 11 rfl).1 hb, trivial⟩) (fun K _ _ => ⟨K 8 rfl, trivial⟩) (fun hb => fun _ _ q => s_pickT (cb hb) rfl q) (fun hb => fun _ _ q => s_pickF (cb hb) rfl q) (fun hb => cb (and_t hb)) (fun hb => cb (and_f hb))
   · exact flp HM rfl [(151, _)] (fun K _ => ⟨K 12 rfl, trivial⟩) (fun _ _ q => s_mvv (v := vb (((x2.1.Log == 3) && (x2.1.Delay == 20)) && (x3.2.1.Log == 3))) rfl q) rfl
   · exact flg HM rfl rfl (fun K _ => K 13 rfl) [] (fun _ _ _ => trivial) (fun _ => fun _ _ q => s_fld (n := 0) rfl underlying59 rfl rfl sizeOf3 q) (fun _ => rfl)
   · exact flg HM rfl rfl (fun K _ => K 13 rfl) [(153, _)] (fun K _ hb => ⟨(K 14 rfl).1 hb, trivial⟩) (fun _ => fun _ ⟨_, _, _, _, S70⟩ q => s_ld (i := 7) (cs := [vI x3.2.1.At]) S70 rfl rfl isAgg3 sizeOf3 rfl (fun _ => rfl) q) (fun _ => rfl)
   · exact flg HM rfl rfl (fun K _ => K 13 rfl) [(154, _)] (fun K _ hb => ⟨(K 15 rfl).1 hb, trivial⟩) (fun _ => fun _ _ q => s_eql (m := x3.2.1.At) (n := 5) rfl rfl q) (fun _ => rfl)
   · exact flc HM rfl (((x2.1.Log == 3) && (x2.1.Delay == 20)) && (x3.2.1.Log == 3)) [(152, _), (155, _)] [(152, _)] (fun K _ hb => ⟨K 13 rfl, (K 16 rfl).1 hb, trivial⟩) (fun K _ _ => ⟨K 13 rfl, trivial⟩) (fun hb => fun _ _ q => s_pickT (cb hb) rfl q) (fun hb => fun _ _ q => s_pickF (cb hb) rfl q) (fun hb => cb (and_t hb)) (fun hb => cb (and_f hb))
   · exact flp HM rfl [(156, _)] (fun K _ => ⟨K 17 rfl, trivial⟩) (fun _ _ q => s_mvv (v := vb ((((x2.1.Log == 3) && (x2.1.Delay == 20)) && (x3.2.1.Log == 3)) && (x3.2.1.At == 5))) rfl q) rfl
   · exact flg HM rfl rfl (fun K _ => K 18 rfl) [] (fun _ _ _ => trivial) (fun _ => fun _ _ q => s_fld (n := 1) rfl underlying59 rfl rfl sizeOf36 q) (fun _ => rfl)
   · exact flg HM rfl rfl (fun K _ => K 18 rfl) [(158, _)] (fun K _ hb => ⟨(K 19 rfl).1 hb, trivial⟩) (fun _ => fun _ ⟨_, _, _, _, S75⟩ q => s_ld (i := 7) (cs := [vU x3.2.1.Leaf.1, vU x3.2.1.Leaf.2]) S75 rfl rfl isAgg36 sizeOf36 rfl (fun h => by cases h) q) (fun _ => rfl)
   · intro L f33 w69 hL hd hc ⟨m51, L46, ⟨X1, X2, C43, C44, S76⟩, K, hO⟩
     rcases bool_tf ((((x2.1.Log == 3) && (x2.1.Delay == 20)) && (x3.2.1.Log == 3)) && (x3.2.1.At == 5)) with hb26 | hb26
     · have d21 : L 21 = false := hL
       have d22 : L 22 = false := undep hc hL rfl
       obtain ⟨u36, rfl⟩ := fr_of (N := 212) (L := [(157, _)]) hO ⟨K 18 (dep hd rfl), trivial⟩
       obtain rfl := C43.1 d21
       replace S76 : St _ ((bx b8 (c_api_Head x11.1) 40) :: (row 2 v20 c2 x10.1.length) :: (row 2 v19 c1 x9.1.length) :: (bx b7 (c_api_Head x8.1) 40) :: (bx b6 (c_api_Head x7.1) 40) :: (bx b5 (c_api_Log x6.1 v16 v17 v18) 26) :: (bx b4 (c_api_Promise x4.2.1) 59) :: (bx b3 (c_api_Promise x3.2.1) 59) :: (bx b2 (c_api_Key x2.1) 32) :: (bx b1 (c_api_Log x4.1 v10 v11 v12) 26) :: (X2 ++ As)) _ := S76
       have L47 := Mem.rfl' m51
       refine wpl_yes (d := 157) rfl rfl (cb hb26) <| s_litOC (parts := [.const (.int .u8 97)]) (vs := [vB 97]) (cls := [[vB 97]]) (n := 1) (sz := 1) S76 underlying57 sizeOf5 zeroValue5 rfl ⟨rfl, trivial⟩ rfl rfl (by decide) (by decide) fun v21 w70 S77 => ?_
       have h35 : RepL m51 [vB 97] ([97] : List UInt8) := (RepL.cons (c := [vB 97]) (x := 97) rfl RepL.nil)
       replace S77 : St _ ((row 1 v21 [vB 97] ([97] : List UInt8).length) :: (bx b8 (c_api_Head x11.1) 40) :: (row 2 v20 c2 x10.1.length) :: (row 2 v19 c1 x9.1.length) :: (bx b7 (c_api_Head x8.1) 40) :: (bx b6 (c_api_Head x7.1) 40) :: (bx b5 (c_api_Log x6.1 v16 v17 v18) 26) :: (bx b4 (c_api_Promise x4.2.1) 59) :: (bx b3 (c_api_Promise x3.2.1) 59) :: (bx b2 (c_api_Key x2.1) 32) :: (bx b1 (c_api_Log x4.1 v10 v11 v12) 26) :: (X2 ++ As)) _ := S77
       clear S76
       refine wpn <| ⟨m51, Mem.tr L46 L47, ⟨[row 1 v21 [vB 97] ([97] : List UInt8).length], X2, ⟨fun hx => tf rfl hx, fun _ _ => ⟨fun _ => ⟨_, rfl, h35⟩, fun hx => tf hb26 hx⟩, fun hx => tf hx d22⟩, C44, ?_⟩, facts_step HM rfl K L47 rfl rfl trivial, outP⟩
       have S143 : St _ ((bx b8 (c_api_Head x11.1) 40) :: (row 2 v20 c2 x10.1.length) :: (row 2 v19 c1 x9.1.length) :: (bx b7 (c_api_Head x8.1) 40) :: (bx b6 (c_api_Head x7.1) 40) :: (bx b5 (c_api_Log x6.1 v16 v17 v18) 26) :: (bx b4 (c_api_Promise x4.2.1) 59) :: (bx b3 (c_api_Promise x3.2.1) 59) :: (bx b2 (c_api_Key x2.1) 32) :: (bx b1 (c_api_Log x4.1 v10 v11 v12) 26) :: (row 1 v21 [vB 97] ([97] : List UInt8).length) :: (X2 ++ As)) _ := St.perm S77 (List.Perm.trans (List.Perm.swap _ _ _) (List.Perm.trans (List.Perm.cons _ (List.Perm.swap _ _ _)) (List.Perm.trans (List.Perm.cons _ (List.Perm.cons _ (List.Perm.swap _ _ _))) (List.Perm.trans (List.Perm.cons _ (List.Perm.cons _ (List.Perm.cons _ (List.Perm.swap _ _ _)))) (List.Perm.trans (List.Perm.cons _ (List.Perm.cons _ (List.Perm.cons _ (List.Perm.cons _ (List.Perm.swap _ _ _))))) (List.Perm.trans (List.Perm.cons _ (List.Perm.cons _ (List.Perm.cons _ (List.Perm.cons _ (List.Perm.cons _ (List.Perm.swap _ _ _)))))) (List.Perm.trans (List.Perm.cons _ (List.Perm.cons _ (List.Perm.cons _ (List.Perm.cons _ (List.Perm.cons _ (List.Perm.cons _ (List.Perm.swap _ _ _))))))) (List.Perm.trans (List.Perm.cons _ (List.Perm.cons _ (List.Perm.cons _ (List.Perm.cons _ (List.Perm.cons _ (List.Perm.cons _ (List.Perm.cons _ (List.Perm.swap _ _ _)))))))) (List.Perm.trans (List.Perm.cons _ (List.Perm.cons _ (List.Perm.cons _ (List.Perm.cons _ (List.Perm.cons _ (List.Perm.cons _ (List.Perm.cons _ (List.Perm.cons _ (List.Perm.swap _ _ _))))))))) (List.Perm.cons _ (List.Perm.cons _ (List.Perm.cons _ (List.Perm.cons _ (List.Perm.cons _ (List.Perm.cons _ (List.Perm.cons _ (List.Perm.cons _ (List.Perm.cons _ (List.Perm.swap _ _ _)))))))))))))))))))
       exact S143
     have d21 : L 21 = false := hL
     have d22 : L 22 = false := undep hc hL rfl
     obtain ⟨u37, rfl⟩ := fr_of (N := 212) (L := [(157, _)]) hO ⟨K 18 (dep hd rfl), trivial⟩
     obtain rfl := C43.1 d21
     replace S76 : St _ ((bx b8 (c_api_Head x11.1) 40) :: (row 2 v20 c2 x10.1.length) :: (row 2 v19 c1 x9.1.length) :: (bx b7 (c_api_Head x8.1) 40) :: (bx b6 (c_api_Head x7.1) 40) :: (bx b5 (c_api_Log x6.1 v16 v17 v18) 26) :: (bx b4 (c_api_Promise x4.2.1) 59) :: (bx b3 (c_api_Promise x3.2.1) 59) :: (bx b2 (c_api_Key x2.1) 32) :: (bx b1 (c_api_Log x4.1 v10 v11 v12) 26) :: (X2 ++ As)) _ := S76
     have L48 := Mem.rfl' m51
     exact wpl_no (d := 157) rfl rfl (cb hb26) <| wpn <| ⟨m51, Mem.tr L46 L48, ⟨[], X2, ⟨fun hx => tf rfl hx, fun _ _ => ⟨fun hx => tf hx hb26, fun _ => rfl⟩, fun hx => tf hx d22⟩, C44, S76⟩, facts_step HM rfl K L48 rfl rfl trivial, outP⟩
   · intro L f34 w71 hL hd hc ⟨m52, L49, ⟨X1, X2, C45, C46, S78⟩, K, hO⟩
     rcases bool_tf ((((x2.1.Log == 3) && (x2.1.Delay == 20)) && (x3.2.1.Log == 3)) && (x3.2.1.At == 5)) with hb27 | hb27
     · obtain ⟨v22, e26⟩ : ∃ x, f34 160 = x := ⟨_, rfl⟩
       have d21 : L 21 = true := dep hd rfl
       have d22 : L 22 = false := hL
       obtain ⟨u38, rfl⟩ := fr_of (N := 212) (L := [(157, _), (160, _)]) hO ⟨K 18 (dep hd rfl), e26, trivial⟩
       obtain ⟨c3, rfl, h36⟩ := (C45.2.1 d21 d22).1 hb27
       replace h36 : RepL _ c3 ([97] : List UInt8) := h36
       replace S78 : St _ ((bx b8 (c_api_Head x11.1) 40) :: (row 2 v20 c2 x10.1.length) :: (row 2 v19 c1 x9.1.length) :: (bx b7 (c_api_Head x8.1) 40) :: (bx b6 (c_api_Head x7.1) 40) :: (bx b5 (c_api_Log x6.1 v16 v17 v18) 26) :: (bx b4 (c_api_Promise x4.2.1) 59) :: (bx b3 (c_api_Promise x3.2.1) 59) :: (bx b2 (c_api_Key x2.1) 32) :: (bx b1 (c_api_Log x4.1 v10 v11 v12) 26) :: (row 1 v22 c3 ([97] : List UInt8).length) :: (X2 ++ As)) _ := S78
       have L50 := Mem.rfl' m52
       refine wpl_yes (d := 157) rfl rfl (cb hb27) <| s_mark (i := 10) S78 rfl rfl (nb rfl) underlying57 underlying5 fun w72 S79 => ?_
       clear S78
       obtain ⟨m53, l30, h37, S80⟩ := St.rowKeepT (i := 10) S79 rfl h36 rfl
       replace C46 := C46.imp id (fun q => q.imp (fun p a b => (p a b).imp (fun r hc => RowS.up l30 (r hc)) id) id)
       clear S79
       refine wpn ?_
       replace L50 := Mem.tr L50 l30
       exact ⟨m53, Mem.tr L49 L50, ⟨[], X2, ⟨fun hx => tf d21 hx, fun _ hx => tf rfl hx, fun _ => rfl⟩, C46, S80⟩, facts_step HM rfl K L50 rfl rfl ⟨fun _ => ⟨v22, rfl, h37⟩, fun hx => tf hb27 hx⟩, outP⟩
     have d21 : L 21 = true := dep hd rfl
     have d22 : L 22 = false := hL
     obtain ⟨v23, e28⟩ : ∃ x, f34 160 = x := ⟨_, rfl⟩
     obtain ⟨u39, rfl⟩ := fr_of (N := 212) (L := [(157, _), (160, _)]) hO ⟨K 18 (dep hd rfl), e28, trivial⟩
     obtain rfl := (C45.2.1 d21 d22).2 hb27
     replace S78 : St _ ((bx b8 (c_api_Head x11.1) 40) :: (row 2 v20 c2 x10.1.length) :: (row 2 v19 c1 x9.1.length) :: (bx b7 (c_api_Head x8.1) 40) :: (bx b6 (c_api_Head x7.1) 40) :: (bx b5 (c_api_Log x6.1 v16 v17 v18) 26) :: (bx b4 (c_api_Promise x4.2.1) 59) :: (bx b3 (c_api_Promise x3.2.1) 59) :: (bx b2 (c_api_Key x2.1) 32) :: (bx b1 (c_api_Log x4.1 v10 v11 v12) 26) :: (X2 ++ As)) _ := S78
     have L51 := Mem.rfl' m52
     exact wpl_no (d := 157) rfl rfl (cb hb27) <| wpn <| ⟨m52, Mem.tr L49 L51, ⟨[], X2, ⟨fun hx => tf d21 hx, fun _ hx => tf rfl hx, fun _ => rfl⟩, C46, S78⟩, facts_step HM rfl K L51 rfl rfl ⟨fun hx => tf hx hb27, fun _ => rfl⟩, outP⟩
   · refine flb HM rfl rfl (fun K _ => K 18 rfl) fun hb28 => ?_
     intro L f35 w73 hL hd hc ⟨m54, L52, ⟨X1, X2, C47, C48, S81⟩, K, hO⟩
     obtain ⟨v24, e29, h38⟩ := (K 22 (dep hd rfl)).1 hb28
     obtain ⟨u40, rfl⟩ := fr_of (N := 212) (L := [(161, _)]) hO ⟨e29, trivial⟩
     replace S81 : St _ ((bx b8 (c_api_Head x11.1) 40) :: (row 2 v20 c2 x10.1.length) :: (row 2 v19 c1 x9.1.length) :: (bx b7 (c_api_Head x8.1) 40) :: (bx b6 (c_api_Head x7.1) 40) :: (bx b5 (c_api_Log x6.1 v16 v17 v18) 26) :: (bx b4 (c_api_Promise x4.2.1) 59) :: (bx b3 (c_api_Promise x3.2.1) 59) :: (bx b2 (c_api_Key x2.1) 32) :: (bx b1 (c_api_Log x4.1 v10 v11 v12) 26) :: (X1 ++ (X2 ++ As))) _ := S81
     have L53 := Mem.rfl' m54
     replace q12 := gu_t hb28 q12
     refine s_call call19 (w_merkle_Leaf (a0 := ([97] : List UInt8)) S81 h38 q12) rfl ?_
     rintro _ w74 ⟨m55, l31, S82, rfl⟩
     replace C47 := C47.imp id (fun q => q.imp (fun p a b => (p a b).imp (fun r hc => RowS.up l31 (r hc)) id) id)
     replace C48 := C48.imp id (fun q => q.imp (fun p a b => (p a b).imp (fun r hc => RowS.up l31 (r hc)) id) id)
     clear S81
     refine wpn ?_
     replace L53 := Mem.tr L53 l31
     exact ⟨m55, Mem.tr L52 L53, ⟨X1, X2, C47, C48, S82⟩, facts_step HM rfl K L53 rfl rfl ⟨fun _ => rfl, fun hx => tf hb28 hx⟩, outP⟩
   · exact flg HM rfl rfl (fun K _ => K 18 rfl) [(159, _), (162, _)] (fun K _ hb => ⟨(K 20 rfl).1 hb, (K 23 rfl).1 hb, trivial⟩) (fun _ => fun _ _ q => s_eqlSum (p := x3.2.1.Leaf) (q := x12) rfl rfl underlying36 underlying22 sizeOf22 isAgg22 eqGuardType36 q) (fun _ => rfl)
   · exact flc HM rfl ((((x2.1.Log == 3) && (x2.1.Delay == 20)) && (x3.2.1.Log == 3)) && (x3.2.1.At == 5)) [(157, _), (163, _)] [(157, _)] (fun K _ hb => ⟨K 18 rfl, (K 24 rfl).1 hb, trivial⟩) (fun K _ _ => ⟨K 18 rfl, trivial⟩) (fun hb => fun _ _ q => s_pickT (cb hb) rfl q) (fun hb => fun _ _ q => s_pickF (cb hb) rfl q) (fun hb => cb (and_t hb)) (fun hb => cb (and_f hb))
   · exact flp HM rfl [(164, _)] (fun K _ => ⟨K 25 rfl, trivial⟩) (fun _ _ q => s_mvv (v := vb (((((x2.1.Log == 3) && (x2.1.Delay == 20)) && (x3.2.1.Log == 3)) && (x3.2.1.At == 5)) && (eqSum x3.2.1.Leaf x12))) rfl q) rfl
   · exact flg HM rfl rfl (fun K _ => K 26 rfl) [] (fun _ _ _ => trivial) (fun _ => fun _ ⟨_, _, _, _, S86⟩ q => s_ld (i := 8) (cs := (c_api_Key x2.1)) S86 rfl rfl isAgg32 sizeOf32 rfl (fun h => by cases h) q) (fun _ => rfl)
   · exact flg HM rfl rfl (fun K _ => K 26 rfl) [] (fun _ _ _ => trivial) (fun _ => fun _ ⟨_, _, _, _, S87⟩ q => s_ld (i := 7) (cs := (c_api_Promise x3.2.1)) S87 rfl rfl isAgg59 sizeOf59 rfl (fun h => by cases h) q) (fun _ => rfl)
   · refine flb HM rfl rfl (fun K _ => K 26 rfl) fun hb33 => ?_
     intro L f41 w80 hL hd hc ⟨m61, L65, ⟨X1, X2, C59, C60, S88⟩, K, hO⟩
     obtain ⟨u47, rfl⟩ := fr_of (N := 212) (L := [(166, _), (167, _)]) hO ⟨(K 27 (dep hd rfl)).1 hb33, (K 28 (dep hd rfl)).1 hb33, trivial⟩
     replace S88 : St _ ((bx b8 (c_api_Head x11.1) 40) :: (row 2 v20 c2 x10.1.length) :: (row 2 v19 c1 x9.1.length) :: (bx b7 (c_api_Head x8.1) 40) :: (bx b6 (c_api_Head x7.1) 40) :: (bx b5 (c_api_Log x6.1 v16 v17 v18) 26) :: (bx b4 (c_api_Promise x4.2.1) 59) :: (bx b3 (c_api_Promise x3.2.1) 59) :: (bx b2 (c_api_Key x2.1) 32) :: (bx b1 (c_api_Log x4.1 v10 v11 v12) 26) :: (X1 ++ (X2 ++ As))) _ := S88
     have L66 := Mem.rfl' m61
     replace q13 := gu_t hb33 q13
     refine s_call call20 (w_logd_CheckPromise (a0 := x2.1) (a1 := x3.2.1) S88  q13) rfl ?_
     rintro _ w81 ⟨m62, l32, S89, rfl⟩
     replace C59 := C59.imp id (fun q => q.imp (fun p a b => (p a b).imp (fun r hc => RowS.up l32 (r hc)) id) id)
     replace C60 := C60.imp id (fun q => q.imp (fun p a b => (p a b).imp (fun r hc => RowS.up l32 (r hc)) id) id)
     clear S88
     refine wpn ?_
     replace L66 := Mem.tr L66 l32
     exact ⟨m62, Mem.tr L65 L66, ⟨X1, X2, C59, C60, S89⟩, facts_step HM rfl K L66 rfl rfl ⟨fun _ => rfl, fun hx => tf hb33 hx⟩, outP⟩
   · exact flg HM rfl rfl (fun K _ => K 26 rfl) [(168, _)] (fun K _ hb => ⟨(K 29 rfl).1 hb, trivial⟩) (fun _ => fun _ _ q => s_eql (m := x13) (n := 0) rfl rfl q) (fun _ => rfl)
   · exact flc HM rfl (((((x2.1.Log == 3) && (x2.1.Delay == 20)) && (x3.2.1.Log == 3)) && (x3.2.1.At == 5)) && (eqSum x3.2.1.Leaf x12)) [(165, _), (169, _)] [(165, _)] (fun K _ hb => ⟨K 26 rfl, (K 30 rfl).1 hb, trivial⟩) (fun K _ _ => ⟨K 26 rfl, trivial⟩) (fun hb => fun _ _ q => s_pickT (cb hb) rfl q) (fun hb => fun _ _ q => s_pickF (cb hb) rfl q) (fun hb => cb (and_t hb)) (fun hb => cb (and_f hb))
   · exact flp HM rfl [(170, _)] (fun K _ => ⟨K 31 rfl, trivial⟩) (fun _ _ q => s_mvv (v := vb ((((((x2.1.Log == 3) && (x2.1.Delay == 20)) && (x3.2.1.Log == 3)) && (x3.2.1.At == 5)) && (eqSum x3.2.1.Leaf x12)) && (x13 == 0))) rfl q) rfl
   · exact flg HM rfl rfl (fun K _ => K 32 rfl) [] (fun _ _ _ => trivial) (fun _ => fun _ ⟨_, _, _, _, S93⟩ q => s_ld (i := 4) (cs := (c_api_Head x7.1)) S93 rfl rfl isAgg40 sizeOf40 rfl (fun h => by cases h) q) (fun _ => rfl)
   · exact flg HM rfl rfl (fun K _ => K 32 rfl) [] (fun _ _ _ => trivial) (fun _ => fun _ ⟨_, _, _, _, S94⟩ q => s_ld (i := 3) (cs := (c_api_Head x8.1)) S94 rfl rfl isAgg40 sizeOf40 rfl (fun h => by cases h) q) (fun _ => rfl)
   · exact flg HM rfl rfl (fun K _ => K 32 rfl) [(172, _), (173, _)] (fun K _ hb => ⟨(K 33 rfl).1 hb, (K 34 rfl).1 hb, trivial⟩) (fun _ => fun _ _ q => s_eqlA (cs := (c_api_Head x7.1)) (ds := (c_api_Head x8.1)) rfl rfl (eqv_api_Head (p := x7.1) (q := x8.1)) rfl eqGuardType40 q) (fun _ => rfl)
   · exact flc HM rfl ((((((x2.1.Log == 3) && (x2.1.Delay == 20)) && (x3.2.1.Log == 3)) && (x3.2.1.At == 5)) && (eqSum x3.2.1.Leaf x12)) && (x13 == 0)) [(171, _), (174, _)] [(171, _)] (fun K _ hb => ⟨K 32 rfl, (K 35 rfl).1 hb, trivial⟩) (fun K _ _ => ⟨K 32 rfl, trivial⟩) (fun hb => fun _ _ q => s_pickT (cb hb) rfl q) (fun hb => fun _ _ q => s_pickF (cb hb) rfl q) (fun hb => cb (and_t hb)) (fun hb => cb (and_f hb))
   · exact flp HM rfl [(175, _)] (fun K _ => ⟨K 36 rfl, trivial⟩) (fun _ _ q => s_mvv (v := vb (((((((x2.1.Log == 3) && (x2.1.Delay == 20)) && (x3.2.1.Log == 3)) && (x3.2.1.At == 5)) && (eqSum x3.2.1.Leaf x12)) && (x13 == 0)) && (eq_api_Head x7.1 x8.1))) rfl q) rfl
   · exact flg HM rfl rfl (fun K _ => K 37 rfl) [] (fun _ _ _ => trivial) (fun _ => fun _ ⟨_, _, _, _, S98⟩ q => s_ld (i := 8) (cs := (c_api_Key x2.1)) S98 rfl rfl isAgg32 sizeOf32 rfl (fun h => by cases h) q) (fun _ => rfl)
   · exact flg HM rfl rfl (fun K _ => K 37 rfl) [] (fun _ _ _ => trivial) (fun _ => fun _ ⟨_, _, _, _, S99⟩ q => s_ld (i := 4) (cs := (c_api_Head x7.1)) S99 rfl rfl isAgg40 sizeOf40 rfl (fun h => by cases h) q) (fun _ => rfl)
   · refine flb HM rfl rfl (fun K _ => K 37 rfl) fun hb42 => ?_
     intro L f52 w92 hL hd hc ⟨m73, L89, ⟨X1, X2, C81, C82, S100⟩, K, hO⟩
     obtain ⟨u60, rfl⟩ := fr_of (N := 212) (L := [(177, _), (178, _)]) hO ⟨(K 38 (dep hd rfl)).1 hb42, (K 39 (dep hd rfl)).1 hb42, trivial⟩
     replace S100 : St _ ((bx b8 (c_api_Head x11.1) 40) :: (row 2 v20 c2 x10.1.length) :: (row 2 v19 c1 x9.1.length) :: (bx b7 (c_api_Head x8.1) 40) :: (bx b6 (c_api_Head x7.1) 40) :: (bx b5 (c_api_Log x6.1 v16 v17 v18) 26) :: (bx b4 (c_api_Promise x4.2.1) 59) :: (bx b3 (c_api_Promise x3.2.1) 59) :: (bx b2 (c_api_Key x2.1) 32) :: (bx b1 (c_api_Log x4.1 v10 v11 v12) 26) :: (X1 ++ (X2 ++ As))) _ := S100
     have L90 := Mem.rfl' m73
     replace q14 := gu_t hb42 q14
     refine s_call call12 (w_logd_CheckHead (a0 := x2.1) (a1 := x7.1) S100  q14) rfl ?_
     rintro _ w93 ⟨m74, l33, S101, rfl⟩
     replace C81 := C81.imp id (fun q => q.imp (fun p a b => (p a b).imp (fun r hc => RowS.up l33 (r hc)) id) id)
     replace C82 := C82.imp id (fun q => q.imp (fun p a b => (p a b).imp (fun r hc => RowS.up l33 (r hc)) id) id)
     clear S100
     refine wpn ?_
     replace L90 := Mem.tr L90 l33
     exact ⟨m74, Mem.tr L89 L90, ⟨X1, X2, C81, C82, S101⟩, facts_step HM rfl K L90 rfl rfl ⟨fun _ => rfl, fun hx => tf hb42 hx⟩, outP⟩
   · exact flg HM rfl rfl (fun K _ => K 37 rfl) [(179, _)] (fun K _ hb => ⟨(K 40 rfl).1 hb, trivial⟩) (fun _ => fun _ _ q => s_eql (m := x14) (n := 0) rfl rfl q) (fun _ => rfl)
   · exact flc HM rfl (((((((x2.1.Log == 3) && (x2.1.Delay == 20)) && (x3.2.1.Log == 3)) && (x3.2.1.At == 5)) && (eqSum x3.2.1.Leaf x12)) && (x13 == 0)) && (eq_api_Head x7.1 x8.1)) [(176, _), (180, _)] [(176, _)] (fun K _ hb => ⟨K 37 rfl, (K 41 rfl).1 hb, trivial⟩) (fun K _ _ => ⟨K 37 rfl, trivial⟩) (fun hb => fun _ _ q => s_pickT (cb hb) rfl q) (fun hb => fun _ _ q => s_pickF (cb hb) rfl q) (fun hb => cb (and_t hb)) (fun hb => cb (and_f hb))
   · exact flp HM rfl [(181, _)] (fun K _ => ⟨K 42 rfl, trivial⟩) (fun _ _ q => s_mvv (v := vb ((((((((x2.1.Log == 3) && (x2.1.Delay == 20)) && (x3.2.1.Log == 3)) && (x3.2.1.At == 5)) && (eqSum x3.2.1.Leaf x12)) && (x13 == 0)) && (eq_api_Head x7.1 x8.1)) && (x14 == 0))) rfl q) rfl
   · exact flg HM rfl rfl (fun K _ => K 43 rfl) [] (fun _ _ _ => trivial) (fun _ => fun _ _ q => s_mvv (v := v19) rfl q) (fun _ => rfl)
   · refine flb HM rfl rfl (fun K _ => K 43 rfl) fun hb46 => ?_
     intro L f57 w98 hL hd hc ⟨m79, L100, ⟨X1, X2, C91, C92, S106⟩, K, hO⟩
     obtain ⟨u66, rfl⟩ := fr_of (N := 212) (L := [(183, _)]) hO ⟨(K 44 (dep hd rfl)).1 hb46, trivial⟩
     replace S106 : St _ ((bx b8 (c_api_Head x11.1) 40) :: (row 2 v20 c2 x10.1.length) :: (row 2 v19 c1 x9.1.length) :: (bx b7 (c_api_Head x8.1) 40) :: (bx b6 (c_api_Head x7.1) 40) :: (bx b5 (c_api_Log x6.1 v16 v17 v18) 26) :: (bx b4 (c_api_Promise x4.2.1) 59) :: (bx b3 (c_api_Promise x3.2.1) 59) :: (bx b2 (c_api_Key x2.1) 32) :: (bx b1 (c_api_Log x4.1 v10 v11 v12) 26) :: (X1 ++ (X2 ++ As))) _ := S106
     have L101 := Mem.rfl' m79
     replace q15 := gu_t hb46 q15
     exact s_idxO (i := 2) (j := 0) S106 rfl rfl rfl (idx_rng q15).1 (idx_rng q15).2 underlying43 sizeOf36 fun p1 h39 => wpn <| ⟨m79, Mem.tr L100 L101, ⟨X1, X2, C91, C92, S106⟩, facts_step HM rfl K L101 rfl rfl ⟨fun _ => ⟨p1, rfl, h39⟩, fun hx => tf hb46 hx⟩, outP⟩
   · refine flb HM rfl rfl (fun K _ => K 43 rfl) fun hb47 => ?_
     intro L f58 w99 hL hd hc ⟨m80, L102, ⟨X1, X2, C93, C94, S107⟩, K, hO⟩
     obtain ⟨v25, e57, h40⟩ := (K 45 (dep hd rfl)).1 hb47
     obtain ⟨u67, rfl⟩ := fr_of (N := 212) (L := [(184, _)]) hO ⟨e57, trivial⟩
     replace S107 : St _ ((bx b8 (c_api_Head x11.1) 40) :: (row 2 v20 c2 x10.1.length) :: (row 2 v19 c1 x9.1.length) :: (bx b7 (c_api_Head x8.1) 40) :: (bx b6 (c_api_Head x7.1) 40) :: (bx b5 (c_api_Log x6.1 v16 v17 v18) 26) :: (bx b4 (c_api_Promise x4.2.1) 59) :: (bx b3 (c_api_Promise x3.2.1) 59) :: (bx b2 (c_api_Key x2.1) 32) :: (bx b1 (c_api_Log x4.1 v10 v11 v12) 26) :: (X1 ++ (X2 ++ As))) _ := S107
     have L103 := Mem.rfl' m80
     replace h30 := RepL.up (mt l18 (mt l19 L102)) h30
     have e58 := rep_arr2_UInt64 (RepL.getI h30 (gu_t hb47 q15))
     exact s_ldO (i := 2) (off := (0 : Int).toNat * 2) (d := [vU x15.1, vU x15.2]) S107 rfl h40 rfl e58 isAgg36 sizeOf36 (fun h => by cases h) <| wpn <| ⟨m80, Mem.tr L102 L103, ⟨X1, X2, C93, C94, S107⟩, facts_step HM rfl K L103 rfl rfl ⟨fun _ => rfl, fun hx => tf hb47 hx⟩, outP⟩
   · intro L f59 w100 hL hd hc ⟨m81, L104, ⟨X1, X2, C95, C96, S108⟩, K, hO⟩
     rcases bool_tf ((((((((x2.1.Log == 3) && (x2.1.Delay == 20)) && (x3.2.1.Log == 3)) && (x3.2.1.At == 5)) && (eqSum x3.2.1.Leaf x12)) && (x13 == 0)) && (eq_api_Head x7.1 x8.1)) && (x14 == 0)) with hb48 | hb48
     · have d47 : L 47 = false := hL
       have d48 : L 48 = false := undep hc hL rfl
       obtain ⟨u68, rfl⟩ := fr_of (N := 212) (L := [(182, _)]) hO ⟨K 43 (dep hd rfl), trivial⟩
       replace S108 := St.sw (L := [bx b8 (c_api_Head x11.1) 40, row 2 v20 c2 x10.1.length, row 2 v19 c1 x9.1.length, bx b7 (c_api_Head x8.1) 40, bx b6 (c_api_Head x7.1) 40, bx b5 (c_api_Log x6.1 v16 v17 v18) 26, bx b4 (c_api_Promise x4.2.1) 59, bx b3 (c_api_Promise x3.2.1) 59, bx b2 (c_api_Key x2.1) 32, bx b1 (c_api_Log x4.1 v10 v11 v12) 26]) (X := X1) (Y := X2) (As := As) S108
       replace S108 : St _ ((bx b8 (c_api_Head x11.1) 40) :: (row 2 v20 c2 x10.1.length) :: (row 2 v19 c1 x9.1.length) :: (bx b7 (c_api_Head x8.1) 40) :: (bx b6 (c_api_Head x7.1) 40) :: (bx b5 (c_api_Log x6.1 v16 v17 v18) 26) :: (bx b4 (c_api_Promise x4.2.1) 59) :: (bx b3 (c_api_Promise x3.2.1) 59) :: (bx b2 (c_api_Key x2.1) 32) :: (bx b1 (c_api_Log x4.1 v10 v11 v12) 26) :: (X2 ++ (X1 ++ As))) _ := S108
       obtain rfl := C96.1 d47
       replace S108 : St _ ((bx b8 (c_api_Head x11.1) 40) :: (row 2 v20 c2 x10.1.length) :: (row 2 v19 c1 x9.1.length) :: (bx b7 (c_api_Head x8.1) 40) :: (bx b6 (c_api_Head x7.1) 40) :: (bx b5 (c_api_Log x6.1 v16 v17 v18) 26) :: (bx b4 (c_api_Promise x4.2.1) 59) :: (bx b3 (c_api_Promise x3.2.1) 59) :: (bx b2 (c_api_Key x2.1) 32) :: (bx b1 (c_api_Log x4.1 v10 v11 v12) 26) :: (X1 ++ As)) _ := S108
       have L105 := Mem.rfl' m81
       refine wpl_yes (d := 182) rfl rfl (cb hb48) <| s_litOC (parts := [.const (.int .u8 97)]) (vs := [vB 97]) (cls := [[vB 97]]) (n := 1) (sz := 1) S108 underlying57 sizeOf5 zeroValue5 rfl ⟨rfl, trivial⟩ rfl rfl (by decide) (by decide) fun v26 w101 S109 => ?_
       have h41 : RepL m81 [vB 97] ([97] : List UInt8) := (RepL.cons (c := [vB 97]) (x := 97) rfl RepL.nil)
       replace S109 : St _ ((row 1 v26 [vB 97] ([97] : List UInt8).length) :: (bx b8 (c_api_Head x11.1) 40) :: (row 2 v20 c2 x10.1.length) :: (row 2 v19 c1 x9.1.length) :: (bx b7 (c_api_Head x8.1) 40) :: (bx b6 (c_api_Head x7.1) 40) :: (bx b5 (c_api_Log x6.1 v16 v17 v18) 26) :: (bx b4 (c_api_Promise x4.2.1) 59) :: (bx b3 (c_api_Promise x3.2.1) 59) :: (bx b2 (c_api_Key x2.1) 32) :: (bx b1 (c_api_Log x4.1 v10 v11 v12) 26) :: (X1 ++ As)) _ := S109
       clear S108
       refine wpn <| ⟨m81, Mem.tr L104 L105, ⟨X1, [row 1 v26 [vB 97] ([97] : List UInt8).length], C95, ⟨fun hx => tf rfl hx, fun _ _ => ⟨fun _ => ⟨_, rfl, h41⟩, fun hx => tf hb48 hx⟩, fun hx => tf hx d48⟩, ?_⟩, facts_step HM rfl K L105 rfl rfl trivial, outP⟩
       have S144 : St _ ((bx b8 (c_api_Head x11.1) 40) :: (row 2 v20 c2 x10.1.length) :: (row 2 v19 c1 x9.1.length) :: (bx b7 (c_api_Head x8.1) 40) :: (bx b6 (c_api_Head x7.1) 40) :: (bx b5 (c_api_Log x6.1 v16 v17 v18) 26) :: (bx b4 (c_api_Promise x4.2.1) 59) :: (bx b3 (c_api_Promise x3.2.1) 59) :: (bx b2 (c_api_Key x2.1) 32) :: (bx b1 (c_api_Log x4.1 v10 v11 v12) 26) :: (row 1 v26 [vB 97] ([97] : List UInt8).length) :: (X1 ++ As)) _ := St.perm S109 (List.Perm.trans (List.Perm.swap _ _ _) (List.Perm.trans (List.Perm.cons _ (List.Perm.swap _ _ _)) (List.Perm.trans (List.Perm.cons _ (List.Perm.cons _ (List.Perm.swap _ _ _))) (List.Perm.trans (List.Perm.cons _ (List.Perm.cons _ (List.Perm.cons _ (List.Perm.swap _ _ _)))) (List.Perm.trans (List.Perm.cons _ (List.Perm.cons _ (List.Perm.cons _ (List.Perm.cons _ (List.Perm.swap _ _ _))))) (List.Perm.trans (List.Perm.cons _ (List.Perm.cons _ (List.Perm.cons _ (List.Perm.cons _ (List.Perm.cons _ (List.Perm.swap _ _ _)))))) (List.Perm.trans (List.Perm.cons _ (List.Perm.cons _ (List.Perm.cons _ (List.Perm.cons _ (List.Perm.cons _ (List.Perm.cons _ (List.Perm.swap _ _ _))))))) (List.Perm.trans (List.Perm.cons _ (List.Perm.cons _ (List.Perm.cons _ (List.Perm.cons _ (List.Perm.cons _ (List.Perm.cons _ (List.Perm.cons _ (List.Perm.swap _ _ _)))))))) (List.Perm.trans (List.Perm.cons _ (List.Perm.cons _ (List.Perm.cons _ (List.Perm.cons _ (List.Perm.cons _ (List.Perm.cons _ (List.Perm.cons _ (List.Perm.cons _ (List.Perm.swap _ _ _))))))))) (List.Perm.cons _ (List.Perm.cons _ (List.Perm.cons _ (List.Perm.cons _ (List.Perm.cons _ (List.Perm.cons _ (List.Perm.cons _ (List.Perm.cons _ (List.Perm.cons _ (List.Perm.swap _ _ _)))))))))))))))))))
       have S144s := St.sw (L := [bx b8 (c_api_Head x11.1) 40, row 2 v20 c2 x10.1.length, row 2 v19 c1 x9.1.length, bx b7 (c_api_Head x8.1) 40, bx b6 (c_api_Head x7.1) 40, bx b5 (c_api_Log x6.1 v16 v17 v18) 26, bx b4 (c_api_Promise x4.2.1) 59, bx b3 (c_api_Promise x3.2.1) 59, bx b2 (c_api_Key x2.1) 32, bx b1 (c_api_Log x4.1 v10 v11 v12) 26]) (X := [row 1 v26 [vB 97] ([97] : List UInt8).length]) (Y := X1) (As := As) S144
       exact S144s
     have d47 : L 47 = false := hL
     have d48 : L 48 = false := undep hc hL rfl
     obtain ⟨u69, rfl⟩ := fr_of (N := 212) (L := [(182, _)]) hO ⟨K 43 (dep hd rfl), trivial⟩
     replace S108 := St.sw (L := [bx b8 (c_api_Head x11.1) 40, row 2 v20 c2 x10.1.length, row 2 v19 c1 x9.1.length, bx b7 (c_api_Head x8.1) 40, bx b6 (c_api_Head x7.1) 40, bx b5 (c_api_Log x6.1 v16 v17 v18) 26, bx b4 (c_api_Promise x4.2.1) 59, bx b3 (c_api_Promise x3.2.1) 59, bx b2 (c_api_Key x2.1) 32, bx b1 (c_api_Log x4.1 v10 v11 v12) 26]) (X := X1) (Y := X2) (As := As) S108
     replace S108 : St _ ((bx b8 (c_api_Head x11.1) 40) :: (row 2 v20 c2 x10.1.length) :: (row 2 v19 c1 x9.1.length) :: (bx b7 (c_api_Head x8.1) 40) :: (bx b6 (c_api_Head x7.1) 40) :: (bx b5 (c_api_Log x6.1 v16 v17 v18) 26) :: (bx b4 (c_api_Promise x4.2.1) 59) :: (bx b3 (c_api_Promise x3.2.1) 59) :: (bx b2 (c_api_Key x2.1) 32) :: (bx b1 (c_api_Log x4.1 v10 v11 v12) 26) :: (X2 ++ (X1 ++ As))) _ := S108
     obtain rfl := C96.1 d47
     replace S108 : St _ ((bx b8 (c_api_Head x11.1) 40) :: (row 2 v20 c2 x10.1.length) :: (row 2 v19 c1 x9.1.length) :: (bx b7 (c_api_Head x8.1) 40) :: (bx b6 (c_api_Head x7.1) 40) :: (bx b5 (c_api_Log x6.1 v16 v17 v18) 26) :: (bx b4 (c_api_Promise x4.2.1) 59) :: (bx b3 (c_api_Promise x3.2.1) 59) :: (bx b2 (c_api_Key x2.1) 32) :: (bx b1 (c_api_Log x4.1 v10 v11 v12) 26) :: (X1 ++ As)) _ := S108
     have L106 := Mem.rfl' m81
     exact wpl_no (d := 182) rfl rfl (cb hb48) <| wpn <| ⟨m81, Mem.tr L104 L106, ⟨X1, [], C95, ⟨fun hx => tf rfl hx, fun _ _ => ⟨fun hx => tf hx hb48, fun _ => rfl⟩, fun hx => tf hx d48⟩, S108⟩, facts_step HM rfl K L106 rfl rfl trivial, outP⟩
   · intro L f60 w102 hL hd hc ⟨m82, L107, ⟨X1, X2, C97, C98, S110⟩, K, hO⟩
     rcases bool_tf ((((((((x2.1.Log == 3) && (x2.1.Delay == 20)) && (x3.2.1.Log == 3)) && (x3.2.1.At == 5)) && (eqSum x3.2.1.Leaf x12)) && (x13 == 0)) && (eq_api_Head x7.1 x8.1)) && (x14 == 0)) with hb49 | hb49
     · obtain ⟨v27, e62⟩ : ∃ x, f60 186 = x := ⟨_, rfl⟩
       have d47 : L 47 = true := dep hd rfl
       have d48 : L 48 = false := hL
       obtain ⟨u70, rfl⟩ := fr_of (N := 212) (L := [(182, _), (186, _)]) hO ⟨K 43 (dep hd rfl), e62, trivial⟩
       replace S110 := St.sw (L := [bx b8 (c_api_Head x11.1) 40, row 2 v20 c2 x10.1.length, row 2 v19 c1 x9.1.length, bx b7 (c_api_Head x8.1) 40, bx b6 (c_api_Head x7.1) 40, bx b5 (c_api_Log x6.1 v16 v17 v18) 26, bx b4 (c_api_Promise x4.2.1) 59, bx b3 (c_api_Promise x3.2.1) 59, bx b2 (c_api_Key x2.1) 32, bx b1 (c_api_Log x4.1 v10 v11 v12) 26]) (X := X1) (Y := X2) (As := As) S110
       replace S110 : St _ ((bx b8 (c_api_Head x11.1) 40) :: (row 2 v20 c2 x10.1.length) :: (row 2 v19 c1 x9.1.length) :: (bx b7 (c_api_Head x8.1) 40) :: (bx b6 (c_api_Head x7.1) 40) :: (bx b5 (c_api_Log x6.1 v16 v17 v18) 26) :: (bx b4 (c_api_Promise x4.2.1) 59) :: (bx b3 (c_api_Promise x3.2.1) 59) :: (bx b2 (c_api_Key x2.1) 32) :: (bx b1 (c_api_Log x4.1 v10 v11 v12) 26) :: (X2 ++ (X1 ++ As))) _ := S110
       obtain ⟨c4, rfl, h42⟩ := (C98.2.1 d47 d48).1 hb49
       replace h42 : RepL _ c4 ([97] : List UInt8) := h42
       replace S110 : St _ ((bx b8 (c_api_Head x11.1) 40) :: (row 2 v20 c2 x10.1.length) :: (row 2 v19 c1 x9.1.length) :: (bx b7 (c_api_Head x8.1) 40) :: (bx b6 (c_api_Head x7.1) 40) :: (bx b5 (c_api_Log x6.1 v16 v17 v18) 26) :: (bx b4 (c_api_Promise x4.2.1) 59) :: (bx b3 (c_api_Promise x3.2.1) 59) :: (bx b2 (c_api_Key x2.1) 32) :: (bx b1 (c_api_Log x4.1 v10 v11 v12) 26) :: (row 1 v27 c4 ([97] : List UInt8).length) :: (X1 ++ As)) _ := S110
       have L108 := Mem.rfl' m82
       refine wpl_yes (d := 182) rfl rfl (cb hb49) <| s_mark (i := 10) S110 rfl rfl (nb rfl) underlying57 underlying5 fun w103 S111 => ?_
       clear S110
       obtain ⟨m83, l34, h43, S112⟩ := St.rowKeepT (i := 10) S111 rfl h42 rfl
       replace C97 := C97.imp id (fun q => q.imp (fun p a b => (p a b).imp (fun r hc => RowS.up l34 (r hc)) id) id)
       clear S111
       refine wpn ?_
       replace L108 := Mem.tr L108 l34
       exact ⟨m83, Mem.tr L107 L108, ⟨X1, [], C97, ⟨fun hx => tf d47 hx, fun _ hx => tf rfl hx, fun _ => rfl⟩, S112⟩, facts_step HM rfl K L108 rfl rfl ⟨fun _ => ⟨v27, rfl, h43⟩, fun hx => tf hb49 hx⟩, outP⟩
     have d47 : L 47 = true := dep hd rfl
     have d48 : L 48 = false := hL
     obtain ⟨v28, e64⟩ : ∃ x, f60 186 = x := ⟨_, rfl⟩
     obtain ⟨u71, rfl⟩ := fr_of (N := 212) (L := [(182, _), (186, _)]) hO ⟨K 43 (dep hd rfl), e64, trivial⟩
     replace S110 := St.sw (L := [bx b8 (c_api_Head x11.1) 40, row 2 v20 c2 x10.1.length, row 2 v19 c1 x9.1.length, bx b7 (c_api_Head x8.1) 40, bx b6 (c_api_Head x7.1) 40, bx b5 (c_api_Log x6.1 v16 v17 v18) 26, bx b4 (c_api_Promise x4.2.1) 59, bx b3 (c_api_Promise x3.2.1) 59, bx b2 (c_api_Key x2.1) 32, bx b1 (c_api_Log x4.1 v10 v11 v12) 26]) (X := X1) (Y := X2) (As := As) S110
     replace S110 : St _ ((bx b8 (c_api_Head x11.1) 40) :: (row 2 v20 c2 x10.1.length) :: (row 2 v19 c1 x9.1.length) :: (bx b7 (c_api_Head x8.1) 40) :: (bx b6 (c_api_Head x7.1) 40) :: (bx b5 (c_api_Log x6.1 v16 v17 v18) 26) :: (bx b4 (c_api_Promise x4.2.1) 59) :: (bx b3 (c_api_Promise x3.2.1) 59) :: (bx b2 (c_api_Key x2.1) 32) :: (bx b1 (c_api_Log x4.1 v10 v11 v12) 26) :: (X2 ++ (X1 ++ As))) _ := S110
     obtain rfl := (C98.2.1 d47 d48).2 hb49
     replace S110 : St _ ((bx b8 (c_api_Head x11.1) 40) :: (row 2 v20 c2 x10.1.length) :: (row 2 v19 c1 x9.1.length) :: (bx b7 (c_api_Head x8.1) 40) :: (bx b6 (c_api_Head x7.1) 40) :: (bx b5 (c_api_Log x6.1 v16 v17 v18) 26) :: (bx b4 (c_api_Promise x4.2.1) 59) :: (bx b3 (c_api_Promise x3.2.1) 59) :: (bx b2 (c_api_Key x2.1) 32) :: (bx b1 (c_api_Log x4.1 v10 v11 v12) 26) :: (X1 ++ As)) _ := S110
     have L109 := Mem.rfl' m82
     exact wpl_no (d := 182) rfl rfl (cb hb49) <| wpn <| ⟨m82, Mem.tr L107 L109, ⟨X1, [], C97, ⟨fun hx => tf d47 hx, fun _ hx => tf rfl hx, fun _ => rfl⟩, S110⟩, facts_step HM rfl K L109 rfl rfl ⟨fun hx => tf hx hb49, fun _ => rfl⟩, outP⟩
   · refine flb HM rfl rfl (fun K _ => K 43 rfl) fun hb50 => ?_
     intro L f61 w104 hL hd hc ⟨m84, L110, ⟨X1, X2, C99, C100, S113⟩, K, hO⟩
     obtain ⟨v29, e65, h44⟩ := (K 48 (dep hd rfl)).1 hb50
     obtain ⟨u72, rfl⟩ := fr_of (N := 212) (L := [(187, _)]) hO ⟨e65, trivial⟩
     replace S113 : St _ ((bx b8 (c_api_Head x11.1) 40) :: (row 2 v20 c2 x10.1.length) :: (row 2 v19 c1 x9.1.length) :: (bx b7 (c_api_Head x8.1) 40) :: (bx b6 (c_api_Head x7.1) 40) :: (bx b5 (c_api_Log x6.1 v16 v17 v18) 26) :: (bx b4 (c_api_Promise x4.2.1) 59) :: (bx b3 (c_api_Promise x3.2.1) 59) :: (bx b2 (c_api_Key x2.1) 32) :: (bx b1 (c_api_Log x4.1 v10 v11 v12) 26) :: (X1 ++ (X2 ++ As))) _ := S113
     have L111 := Mem.rfl' m84
     replace q16 := gu_t hb50 q16
     refine s_call call19 (w_merkle_Leaf (a0 := ([97] : List UInt8)) S113 h44 q16) rfl ?_
     rintro _ w105 ⟨m85, l35, S114, rfl⟩
     replace C99 := C99.imp id (fun q => q.imp (fun p a b => (p a b).imp (fun r hc => RowS.up l35 (r hc)) id) id)
     replace C100 := C100.imp id (fun q => q.imp (fun p a b => (p a b).imp (fun r hc => RowS.up l35 (r hc)) id) id)
     clear S113
     refine wpn ?_
     replace L111 := Mem.tr L111 l35
     exact ⟨m85, Mem.tr L110 L111, ⟨X1, X2, C99, C100, S114⟩, facts_step HM rfl K L111 rfl rfl ⟨fun _ => rfl, fun hx => tf hb50 hx⟩, outP⟩
   · exact flg HM rfl rfl (fun K _ => K 43 rfl) [(185, _), (188, _)] (fun K _ hb => ⟨(K 46 rfl).1 hb, (K 49 rfl).1 hb, trivial⟩) (fun _ => fun _ _ q => s_eqlSum (p := x15) (q := x16) rfl rfl underlying36 underlying22 sizeOf22 isAgg22 eqGuardType36 q) (fun _ => rfl)
   · exact flc HM rfl ((((((((x2.1.Log == 3) && (x2.1.Delay == 20)) && (x3.2.1.Log == 3)) && (x3.2.1.At == 5)) && (eqSum x3.2.1.Leaf x12)) && (x13 == 0)) && (eq_api_Head x7.1 x8.1)) && (x14 == 0)) [(182, _), (189, _)] [(182, _)] (fun K _ hb => ⟨K 43 rfl, (K 50 rfl).1 hb, trivial⟩) (fun K _ _ => ⟨K 43 rfl, trivial⟩) (fun hb => fun _ _ q => s_pickT (cb hb) rfl q) (fun hb => fun _ _ q => s_pickF (cb hb) rfl q) (fun hb => cb (and_t hb)) (fun hb => cb (and_f hb))
   · exact flp HM rfl [(190, _)] (fun K _ => ⟨K 51 rfl, trivial⟩) (fun _ _ q => s_mvv (v := vb (((((((((x2.1.Log == 3) && (x2.1.Delay == 20)) && (x3.2.1.Log == 3)) && (x3.2.1.At == 5)) && (eqSum x3.2.1.Leaf x12)) && (x13 == 0)) && (eq_api_Head x7.1 x8.1)) && (x14 == 0)) && (eqSum x15 x16))) rfl q) rfl
   · exact flg HM rfl rfl (fun K _ => K 52 rfl) [] (fun _ _ _ => trivial) (fun _ => fun _ _ q => s_mvv (v := v19) rfl q) (fun _ => rfl)
   · refine flb HM rfl rfl (fun K _ => K 52 rfl) fun hb54 => ?_
     intro L f66 w110 hL hd hc ⟨m90, L121, ⟨X1, X2, C109, C110, S119⟩, K, hO⟩
     obtain ⟨u78, rfl⟩ := fr_of (N := 212) (L := [(192, _)]) hO ⟨(K 53 (dep hd rfl)).1 hb54, trivial⟩
     replace S119 : St _ ((bx b8 (c_api_Head x11.1) 40) :: (row 2 v20 c2 x10.1.length) :: (row 2 v19 c1 x9.1.length) :: (bx b7 (c_api_Head x8.1) 40) :: (bx b6 (c_api_Head x7.1) 40) :: (bx b5 (c_api_Log x6.1 v16 v17 v18) 26) :: (bx b4 (c_api_Promise x4.2.1) 59) :: (bx b3 (c_api_Promise x3.2.1) 59) :: (bx b2 (c_api_Key x2.1) 32) :: (bx b1 (c_api_Log x4.1 v10 v11 v12) 26) :: (X1 ++ (X2 ++ As))) _ := S119
     have L122 := Mem.rfl' m90
     replace q17 := gu_t hb54 q17
     exact s_idxO (i := 2) (j := 1) S119 rfl rfl rfl (idx_rng q17).1 (idx_rng q17).2 underlying43 sizeOf36 fun p2 h45 => wpn <| ⟨m90, Mem.tr L121 L122, ⟨X1, X2, C109, C110, S119⟩, facts_step HM rfl K L122 rfl rfl ⟨fun _ => ⟨p2, rfl, h45⟩, fun hx => tf hb54 hx⟩, outP⟩
   · refine flb HM rfl rfl (fun K _ => K 52 rfl) fun hb55 => ?_
     intro L f67 w111 hL hd hc ⟨m91, L123, ⟨X1, X2, C111, C112, S120⟩, K, hO⟩
     obtain ⟨v30, e73, h46⟩ := (K 54 (dep hd rfl)).1 hb55
     obtain ⟨u79, rfl⟩ := fr_of (N := 212) (L := [(193, _)]) hO ⟨e73, trivial⟩
     replace S120 : St _ ((bx b8 (c_api_Head x11.1) 40) :: (row 2 v20 c2 x10.1.length) :: (row 2 v19 c1 x9.1.length) :: (bx b7 (c_api_Head x8.1) 40) :: (bx b6 (c_api_Head x7.1) 40) :: (bx b5 (c_api_Log x6.1 v16 v17 v18) 26) :: (bx b4 (c_api_Promise x4.2.1) 59) :: (bx b3 (c_api_Promise x3.2.1) 59) :: (bx b2 (c_api_Key x2.1) 32) :: (bx b1 (c_api_Log x4.1 v10 v11 v12) 26) :: (X1 ++ (X2 ++ As))) _ := S120
     have L124 := Mem.rfl' m91
     replace h30 := RepL.up (mt l18 (mt l19 L123)) h30
     have e74 := rep_arr2_UInt64 (RepL.getI h30 (gu_t hb55 q17))
     exact s_ldO (i := 2) (off := (1 : Int).toNat * 2) (d := [vU x17.1, vU x17.2]) S120 rfl h46 rfl e74 isAgg36 sizeOf36 (fun h => by cases h) <| wpn <| ⟨m91, Mem.tr L123 L124, ⟨X1, X2, C111, C112, S120⟩, facts_step HM rfl K L124 rfl rfl ⟨fun _ => rfl, fun hx => tf hb55 hx⟩, outP⟩
   · refine flb HM rfl rfl (fun K _ => K 52 rfl) fun hb56 => ?_
     intro L f68 w112 hL hd hc ⟨m92, L125, ⟨X1, X2, C113, C114, S121⟩, K, hO⟩
     obtain ⟨u80, rfl⟩ := fr_of (N := 212) (L := []) hO trivial
     replace S121 : St _ ((bx b8 (c_api_Head x11.1) 40) :: (row 2 v20 c2 x10.1.length) :: (row 2 v19 c1 x9.1.length) :: (bx b7 (c_api_Head x8.1) 40) :: (bx b6 (c_api_Head x7.1) 40) :: (bx b5 (c_api_Log x6.1 v16 v17 v18) 26) :: (bx b4 (c_api_Promise x4.2.1) 59) :: (bx b3 (c_api_Promise x3.2.1) 59) :: (bx b2 (c_api_Key x2.1) 32) :: (bx b1 (c_api_Log x4.1 v10 v11 v12) 26) :: (X1 ++ (X2 ++ As))) _ := S121
     have L126 := Mem.rfl' m92
     refine s_litC (parts := [.const (.int .u8 0), .const (.int .u8 98)]) (vs := [vB 0, vB 98]) (cls := [[vB 0], [vB 98]]) (xs := ([0, 98] : List UInt8)) (n := 2) S121 underlying57 sizeOf5 zeroValue5 rfl ⟨rfl, rfl, trivial⟩ (RepL.cons (c := [vB 0]) (x := 0) rfl (RepL.cons (c := [vB 98]) (x := 98) rfl RepL.nil)) rfl rfl rfl (by decide) (by decide) fun v31 m93 w113 l36 S122 h47 => ?_
     replace C113 := C113.imp id (fun q => q.imp (fun p a b => (p a b).imp (fun r hc => RowS.up l36 (r hc)) id) id)
     replace C114 := C114.imp id (fun q => q.imp (fun p a b => (p a b).imp (fun r hc => RowS.up l36 (r hc)) id) id)
     clear S121
     refine wpn ?_
     replace L126 := Mem.tr L126 l36
     exact ⟨m93, Mem.tr L125 L126, ⟨X1, X2, C113, C114, S122⟩, facts_step HM rfl K L126 rfl rfl ⟨fun _ => ⟨v31, rfl, h47⟩, fun hx => tf hb56 hx⟩, outP⟩
   · refine flb HM rfl rfl (fun K _ => K 52 rfl) fun hb57 => ?_
     intro L f69 w114 hL hd hc ⟨m94, L127, ⟨X1, X2, C115, C116, S123⟩, K, hO⟩
     obtain ⟨v32, e75, h48⟩ := (K 56 (dep hd rfl)).1 hb57
     obtain ⟨u81, rfl⟩ := fr_of (N := 212) (L := [(195, _)]) hO ⟨e75, trivial⟩
     replace S123 : St _ ((bx b8 (c_api_Head x11.1) 40) :: (row 2 v20 c2 x10.1.length) :: (row 2 v19 c1 x9.1.length) :: (bx b7 (c_api_Head x8.1) 40) :: (bx b6 (c_api_Head x7.1) 40) :: (bx b5 (c_api_Log x6.1 v16 v17 v18) 26) :: (bx b4 (c_api_Promise x4.2.1) 59) :: (bx b3 (c_api_Promise x3.2.1) 59) :: (bx b2 (c_api_Key x2.1) 32) :: (bx b1 (c_api_Log x4.1 v10 v11 v12) 26) :: (X1 ++ (X2 ++ As))) _ := S123
     have L128 := Mem.rfl' m94
     replace q18 := gu_t hb57 q18
     refine s_call call19 (w_merkle_Leaf (a0 := ([0, 98] : List UInt8)) S123 h48 q18) rfl ?_
     rintro _ w115 ⟨m95, l37, S124, rfl⟩
     replace C115 := C115.imp id (fun q => q.imp (fun p a b => (p a b).imp (fun r hc => RowS.up l37 (r hc)) id) id)
     replace C116 := C116.imp id (fun q => q.imp (fun p a b => (p a b).imp (fun r hc => RowS.up l37 (r hc)) id) id)
     clear S123
     refine wpn ?_
     replace L128 := Mem.tr L128 l37
     exact ⟨m95, Mem.tr L127 L128, ⟨X1, X2, C115, C116, S124⟩, facts_step HM rfl K L128 rfl rfl ⟨fun _ => rfl, fun hx => tf hb57 hx⟩, outP⟩
   · exact flg HM rfl rfl (fun K _ => K 52 rfl) [(194, _), (196, _)] (fun K _ hb => ⟨(K 55 rfl).1 hb, (K 57 rfl).1 hb, trivial⟩) (fun _ => fun _ _ q => s_eqlSum (p := x17) (q := x18) rfl rfl underlying36 underlying22 sizeOf22 isAgg22 eqGuardType36 q) (fun _ => rfl)
   · exact flc HM rfl (((((((((x2.1.Log == 3) && (x2.1.Delay == 20)) && (x3.2.1.Log == 3)) && (x3.2.1.At == 5)) && (eqSum x3.2.1.Leaf x12)) && (x13 == 0)) && (eq_api_Head x7.1 x8.1)) && (x14 == 0)) && (eqSum x15 x16)) [(191, _), (197, _)] [(191, _)] (fun K _ hb => ⟨K 52 rfl, (K 58 rfl).1 hb, trivial⟩) (fun K _ _ => ⟨K 52 rfl, trivial⟩) (fun hb => fun _ _ q => s_pickT (cb hb) rfl q) (fun hb => fun _ _ q => s_pickF (cb hb) rfl q) (fun hb => cb (and_t hb)) (fun hb => cb (and_f hb))
 intro L f72 w118 hall ⟨m98, L134, ⟨X1, X2, C121, C122, S127⟩, K, hO⟩
 have d59 : L 59 = true := hall 59 (by decide)
 have d22 : L 22 = true := hall 22 (by decide)
 have d48 : L 48 = true := hall 48 (by decide)
 obtain ⟨u85, rfl⟩ := fr_of (N := 212) (L := [(198, _)]) hO ⟨K 59 d59, trivial⟩
 replace S127 : St _ ((bx b8 (c_api_Head x11.1) 40) :: (row 2 v20 c2 x10.1.length) :: (row 2 v19 c1 x9.1.length) :: (bx b7 (c_api_Head x8.1) 40) :: (bx b6 (c_api_Head x7.1) 40) :: (bx b5 (c_api_Log x6.1 v16 v17 v18) 26) :: (bx b4 (c_api_Promise x4.2.1) 59) :: (bx b3 (c_api_Promise x3.2.1) 59) :: (bx b2 (c_api_Key x2.1) 32) :: (bx b1 (c_api_Log x4.1 v10 v11 v12) 26) :: (X1 ++ (X2 ++ As))) _ := S127
 obtain rfl := C121.2.2 d22
 obtain rfl := C122.2.2 d48
 replace S127 : St _ ((bx b8 (c_api_Head x11.1) 40) :: (row 2 v20 c2 x10.1.length) :: (row 2 v19 c1 x9.1.length) :: (bx b7 (c_api_Head x8.1) 40) :: (bx b6 (c_api_Head x7.1) 40) :: (bx b5 (c_api_Log x6.1 v16 v17 v18) 26) :: (bx b4 (c_api_Promise x4.2.1) 59) :: (bx b3 (c_api_Promise x3.2.1) 59) :: (bx b2 (c_api_Key x2.1) 32) :: (bx b1 (c_api_Log x4.1 v10 v11 v12) 26) :: As) _ := S127
 clear S44
 refine s_mvv (v := vb ((((((((((x2.1.Log == 3) && (x2.1.Delay == 20)) && (x3.2.1.Log == 3)) && (x3.2.1.At == 5)) && (eqSum x3.2.1.Leaf x12)) && (x13 == 0)) && (eq_api_Head x7.1 x8.1)) && (x14 == 0)) && (eqSum x15 x16)) && (eqSum x17 x18))) rfl <| wpl_cut 3 [200, 201, 202] (fun f' w' => w' = w118 ∧ AllAt f' [(202, vb (((((((((((x2.1.Log == 3) && (x2.1.Delay == 20)) && (x3.2.1.Log == 3)) && (x3.2.1.At == 5)) && (eqSum x3.2.1.Leaf x12)) && (x13 == 0)) && (eq_api_Head x7.1 x8.1)) && (x14 == 0)) && (eqSum x15 x16)) && (eqSum x17 x18)) && (x10.2 == 240)))]) ?_ ?_
 · rcases bool_tf ((((((((((x2.1.Log == 3) && (x2.1.Delay == 20)) && (x3.2.1.Log == 3)) && (x3.2.1.At == 5)) && (eqSum x3.2.1.Leaf x12)) && (x13 == 0)) && (eq_api_Head x7.1 x8.1)) && (x14 == 0)) && (eqSum x15 x16)) && (eqSum x17 x18)) with hb60 | hb60
   · exact wpl_yes (d := 199) rfl rfl (cb hb60) <| s_mvv (v := vI x10.2) rfl <| wpl_yes (d := 199) rfl rfl (cb hb60) <| s_eql (m := x10.2) (n := 240) rfl rfl <| s_pickT (cb hb60) rfl <| wpl_nil (nrm ⟨outP, rfl, congrArg Value.bool (and_t hb60), trivial⟩)
   · exact wpl_no (d := 199) rfl rfl (cb hb60) <| wpl_no (d := 199) rfl rfl (cb hb60) <| s_pickF (cb hb60) rfl <| wpl_nil (nrm ⟨outP, rfl, congrArg Value.bool (and_f hb60), trivial⟩)
 rintro f73 w119 ho ⟨h49, ha⟩
 subst h49
 obtain ⟨u86, rfl⟩ := fr_of (N := 212) ho ha
 refine s_mvv (v := vb (((((((((((x2.1.Log == 3) && (x2.1.Delay == 20)) && (x3.2.1.Log == 3)) && (x3.2.1.At == 5)) && (eqSum x3.2.1.Leaf x12)) && (x13 == 0)) && (eq_api_Head x7.1 x8.1)) && (x14 == 0)) && (eqSum x15 x16)) && (eqSum x17 x18)) && (x10.2 == 240))) rfl <| wpl_cut 3 [204, 205, 206] (fun f' w' => w' = w119 ∧ AllAt f' [(206, vb ((((((((((((x2.1.Log == 3) && (x2.1.Delay == 20)) && (x3.2.1.Log == 3)) && (x3.2.1.At == 5)) && (eqSum x3.2.1.Leaf x12)) && (x13 == 0)) && (eq_api_Head x7.1 x8.1)) && (x14 == 0)) && (eqSum x15 x16)) && (eqSum x17 x18)) && (x10.2 == 240)) && (x11.2 == 80)))]) ?_ ?_
 · rcases bool_tf (((((((((((x2.1.Log == 3) && (x2.1.Delay == 20)) && (x3.2.1.Log == 3)) && (x3.2.1.At == 5)) && (eqSum x3.2.1.Leaf x12)) && (x13 == 0)) && (eq_api_Head x7.1 x8.1)) && (x14 == 0)) && (eqSum x15 x16)) && (eqSum x17 x18)) && (x10.2 == 240)) with hb61 | hb61
   · exact wpl_yes (d := 203) rfl rfl (cb hb61) <| s_mvv (v := vI x11.2) rfl <| wpl_yes (d := 203) rfl rfl (cb hb61) <| s_eql (m := x11.2) (n := 80) rfl rfl <| s_pickT (cb hb61) rfl <| wpl_nil (nrm ⟨outP, rfl, congrArg Value.bool (and_t hb61), trivial⟩)
   · exact wpl_no (d := 203) rfl rfl (cb hb61) <| wpl_no (d := 203) rfl rfl (cb hb61) <| s_pickF (cb hb61) rfl <| wpl_nil (nrm ⟨outP, rfl, congrArg Value.bool (and_f hb61), trivial⟩)
 rintro f74 w120 ho ⟨h50, ha⟩
 subst h50
 obtain ⟨u87, rfl⟩ := fr_of (N := 212) ho ha
 refine s_mvv (v := vb ((((((((((((x2.1.Log == 3) && (x2.1.Delay == 20)) && (x3.2.1.Log == 3)) && (x3.2.1.At == 5)) && (eqSum x3.2.1.Leaf x12)) && (x13 == 0)) && (eq_api_Head x7.1 x8.1)) && (x14 == 0)) && (eqSum x15 x16)) && (eqSum x17 x18)) && (x10.2 == 240)) && (x11.2 == 80))) rfl ?_
 obtain ⟨x20, q20, hm⟩ := obind_some hm
 have L135 := Mem.rfl' m98
 refine wpl_cut 4 [208, 209, 210, 211] (fun f' w' => ∃ (M1 : Mem), m98 ≤ M1 ∧ St M1 ((bx b8 (c_api_Head x11.1) 40) :: (bx b7 (c_api_Head x8.1) 40) :: (bx b6 (c_api_Head x7.1) 40) :: (bx b5 (c_api_Log x6.1 v16 v17 v18) 26) :: (bx b4 (c_api_Promise x4.2.1) 59) :: (bx b3 (c_api_Promise x3.2.1) 59) :: (bx b2 (c_api_Key x2.1) 32) :: (bx b1 (c_api_Log x4.1 v10 v11 v12) 26) :: As) w' ∧ AllAt f' [(211, vb x20)]) ?_ ?_
 · rcases bool_tf ((((((((((((x2.1.Log == 3) && (x2.1.Delay == 20)) && (x3.2.1.Log == 3)) && (x3.2.1.At == 5)) && (eqSum x3.2.1.Leaf x12)) && (x13 == 0)) && (eq_api_Head x7.1 x8.1)) && (x14 == 0)) && (eqSum x15 x16)) && (eqSum x17 x18)) && (x10.2 == 240)) && (x11.2 == 80)) with hb62 | hb62
   · replace q20 := ifT hb62 q20
     refine wpl_yes (d := 207) rfl rfl (cb hb62) <| s_build (parts := []) (ps := []) (cs := z_api_Log) zeroValue26 (BuildPl.str (ss := [1, 1, 1, 1, 1, 1]) underlying26 ⟨sizeOf3, sizeOf22, sizeOf3, sizeOf23, sizeOf24, sizeOf23, trivial⟩) rfl trivial rfl <| wpl_yes (d := 207) rfl rfl (cb hb62) ?_
     obtain ⟨x21, q21, q20⟩ := obind_some q20
     refine s_call call6 (w_logd_Check (a0 := (⟨0, 0, 0, [], [], []⟩ : g_api_Log)) S127 (SlR.nil (a := none) (c := 0)) (SlR.nil (a := none) (c := 0)) (SlR.nil (a := none) (c := 0)) q21) rfl ?_
     rintro _ w122 ⟨m100, l39, S129, rfl⟩
     clear S127
     refine wpl_yes (d := 207) rfl rfl (cb hb62) <| s_eql (m := x21) (n := 1) rfl rfl <| s_pickT (cb hb62) rfl <| wpl_nil (nrm ?_)
     obtain ⟨m101, l40, S130⟩ := St.drop S129 1
     clear S129
     replace S130 : St _ ((bx b8 (c_api_Head x11.1) 40) :: (row 2 v19 c1 x9.1.length) :: (bx b7 (c_api_Head x8.1) 40) :: (bx b6 (c_api_Head x7.1) 40) :: (bx b5 (c_api_Log x6.1 v16 v17 v18) 26) :: (bx b4 (c_api_Promise x4.2.1) 59) :: (bx b3 (c_api_Promise x3.2.1) 59) :: (bx b2 (c_api_Key x2.1) 32) :: (bx b1 (c_api_Log x4.1 v10 v11 v12) 26) :: As) _ := S130
     obtain ⟨m102, l41, S131⟩ := St.drop S130 1
     clear S130
     replace S131 : St _ ((bx b8 (c_api_Head x11.1) 40) :: (bx b7 (c_api_Head x8.1) 40) :: (bx b6 (c_api_Head x7.1) 40) :: (bx b5 (c_api_Log x6.1 v16 v17 v18) 26) :: (bx b4 (c_api_Promise x4.2.1) 59) :: (bx b3 (c_api_Promise x3.2.1) 59) :: (bx b2 (c_api_Key x2.1) 32) :: (bx b1 (c_api_Log x4.1 v10 v11 v12) 26) :: As) _ := S131
     have e0 := Option.some.inj q20
     subst e0
     replace L135 := Mem.tr L135 (mt l39 (mt l40 l41))
     exact ⟨outP, m102, L135, S131, ⟨rfl, trivial⟩⟩
   replace q20 := ifF hb62 q20
   refine wpl_no (d := 207) rfl rfl (cb hb62) <| wpl_no (d := 207) rfl rfl (cb hb62) <| wpl_no (d := 207) rfl rfl (cb hb62) <| s_pickF (cb hb62) rfl <| wpl_nil (nrm ?_)
   obtain ⟨m103, l42, S132⟩ := St.drop S127 1
   clear S127
   replace S132 : St _ ((bx b8 (c_api_Head x11.1) 40) :: (row 2 v19 c1 x9.1.length) :: (bx b7 (c_api_Head x8.1) 40) :: (bx b6 (c_api_Head x7.1) 40) :: (bx b5 (c_api_Log x6.1 v16 v17 v18) 26) :: (bx b4 (c_api_Promise x4.2.1) 59) :: (bx b3 (c_api_Promise x3.2.1) 59) :: (bx b2 (c_api_Key x2.1) 32) :: (bx b1 (c_api_Log x4.1 v10 v11 v12) 26) :: As) _ := S132
   obtain ⟨m104, l43, S133⟩ := St.drop S132 1
   clear S132
   replace S133 : St _ ((bx b8 (c_api_Head x11.1) 40) :: (bx b7 (c_api_Head x8.1) 40) :: (bx b6 (c_api_Head x7.1) 40) :: (bx b5 (c_api_Log x6.1 v16 v17 v18) 26) :: (bx b4 (c_api_Promise x4.2.1) 59) :: (bx b3 (c_api_Promise x3.2.1) 59) :: (bx b2 (c_api_Key x2.1) 32) :: (bx b1 (c_api_Log x4.1 v10 v11 v12) 26) :: As) _ := S133
   have e0 := Option.some.inj q20
   subst e0
   replace L135 := Mem.tr L135 (mt l42 l43)
   exact ⟨outP, m104, L135, S133, ⟨rfl, trivial⟩⟩
 rintro f75 w123 ho ⟨m105, l44, S134, ha⟩
 obtain ⟨u88, rfl⟩ := fr_of (N := 212) ho ha
 clear S127
 refine s_asv (v := vb x20) rfl <| wpl_nil <| nrm <| wpc_ret <| outRw fun we hpd => ?_
 replace S134 := St.pd S134 hpd
 obtain ⟨m106, l45, S135⟩ := St.drop S134 0
 clear S134
 replace S135 : St _ ((bx b7 (c_api_Head x8.1) 40) :: (bx b6 (c_api_Head x7.1) 40) :: (bx b5 (c_api_Log x6.1 v16 v17 v18) 26) :: (bx b4 (c_api_Promise x4.2.1) 59) :: (bx b3 (c_api_Promise x3.2.1) 59) :: (bx b2 (c_api_Key x2.1) 32) :: (bx b1 (c_api_Log x4.1 v10 v11 v12) 26) :: As) _ := S135
 obtain ⟨m107, l46, S136⟩ := St.drop S135 0
 clear S135
 replace S136 : St _ ((bx b6 (c_api_Head x7.1) 40) :: (bx b5 (c_api_Log x6.1 v16 v17 v18) 26) :: (bx b4 (c_api_Promise x4.2.1) 59) :: (bx b3 (c_api_Promise x3.2.1) 59) :: (bx b2 (c_api_Key x2.1) 32) :: (bx b1 (c_api_Log x4.1 v10 v11 v12) 26) :: As) _ := S136
 obtain ⟨m108, l47, S137⟩ := St.drop S136 0
 clear S136
 replace S137 : St _ ((bx b5 (c_api_Log x6.1 v16 v17 v18) 26) :: (bx b4 (c_api_Promise x4.2.1) 59) :: (bx b3 (c_api_Promise x3.2.1) 59) :: (bx b2 (c_api_Key x2.1) 32) :: (bx b1 (c_api_Log x4.1 v10 v11 v12) 26) :: As) _ := S137
 obtain ⟨m109, l48, S138⟩ := St.drop S137 0
 clear S137
 replace S138 : St _ ((bx b4 (c_api_Promise x4.2.1) 59) :: (bx b3 (c_api_Promise x3.2.1) 59) :: (bx b2 (c_api_Key x2.1) 32) :: (bx b1 (c_api_Log x4.1 v10 v11 v12) 26) :: As) _ := S138
 obtain ⟨m110, l49, S139⟩ := St.drop S138 0
 clear S138
 replace S139 : St _ ((bx b3 (c_api_Promise x3.2.1) 59) :: (bx b2 (c_api_Key x2.1) 32) :: (bx b1 (c_api_Log x4.1 v10 v11 v12) 26) :: As) _ := S139
 obtain ⟨m111, l50, S140⟩ := St.drop S139 0
 clear S139
 replace S140 : St _ ((bx b2 (c_api_Key x2.1) 32) :: (bx b1 (c_api_Log x4.1 v10 v11 v12) 26) :: As) _ := S140
 obtain ⟨m112, l51, S141⟩ := St.drop S140 0
 clear S140
 replace S141 : St _ ((bx b1 (c_api_Log x4.1 v10 v11 v12) 26) :: As) _ := S141
 obtain ⟨m113, l52, S142⟩ := St.drop S141 0
 clear S141
 replace S142 : St _ (As) _ := S142
 have e0 := Option.some.inj hm
 subst e0
 replace L0 := Mem.tr L0 (mt l1 (mt l2 (mt l3 (mt l4 (mt l5 (mt l6 (mt l7 (mt l8 (mt l9 (mt l15 (mt l16 (mt l17 (mt l18 (mt l19 (mt L134 (mt l44 (mt l45 (mt l46 (mt l47 (mt l48 (mt l49 (mt l50 (mt l51 l52)))))))))))))))))))))))
 exact outR [_] rfl ⟨rfl, trivial⟩ ⟨_, L0, S142, rfl⟩

def m_ref24_Few_b2 (a0 : g_api_Log) (s1 : Int × Int) : Option ((Int × Int) ⊕ (Int)) :=
  if ((decide (s1.2 < (a0.L.length : Int))) && (decide (s1.2 < 40))) = true then
    obind (idx a0.L s1.2) fun x4 =>
    bnd ((w64 (s1.1 + (x4.Body.length : Int)))) fun x5 =>
    some (.inl (x5, (w64 (s1.2 + 1))))
  else
  some (.inr s1.1)

def m_ref24_Few_b3 (a0 : g_api_Log) (s2 : Int × Int) : Option ((Int × Int) ⊕ (Int)) :=
  if ((decide (s2.2 < (a0.Wait.length : Int))) && (decide (s2.2 < 40))) = true then
    obind (idx a0.Wait s2.2) fun x9 =>
    bnd ((w64 (s2.1 + (x9.Body.length : Int)))) fun x10 =>
    some (.inl (x10, (w64 (s2.2 + 1))))
  else
  some (.inr s2.1)

def m_ref24_Few (a0 : g_api_Log) : Option Bool :=
  obind (
    obind (iter (m_ref24_Few_b2 a0) FUEL (0, 0)) fun x2 =>
    some x2
  ) fun x1 =>
  obind (
    obind (iter (m_ref24_Few_b3 a0) FUEL (x1, 0)) fun x7 =>
    some x7
  ) fun x6 =>
  bnd (((((decide ((a0.L.length : Int) ≤ 40)) && (decide ((a0.Wait.length : Int) ≤ 40))) && (decide ((a0.Hide.length : Int) ≤ 60))) && (decide (x6 ≤ 20000)))) fun x11 =>
  some x11

theorem w_ref24_Few {m : Mem} {As : List Ow} {w : World} {a0 : g_api_Log} {a0v3 : Value} {a0v4 : Value} {a0v5 : Value} {r : Bool} (S : St m (As) w) (a0h3 : SlR m a0v3 a0.L) (a0h4 : SlR m a0v4 a0.Hide) (a0h5 : SlR m a0v5 a0.Wait) (hm : m_ref24_Few a0 = some r) :
    CallsR Tryz.prog 21 #[.agg (c_api_Log a0 a0v3 a0v4 a0v5).toArray] w fun v w' => ∃ (M : Mem), m ≤ M ∧ St M (As) w' ∧ v = vb r := by
 unfold m_ref24_Few at hm
 have L0 := Mem.rfl' m
 refine callsR (args := [.agg (c_api_Log a0 a0v3 a0v4 a0v5).toArray]) func21 rfl ntmps21 (nb rfl) <| ws <| s_box S rfl fun b1 w1 S1 => ?_
 replace S1 : St _ ((bx b1 (c_api_Log a0 a0v3 a0v4 a0v5) 26) :: As) _ := S1
 clear S
 refine s_asv (v := vb false) rfl <| nx <| s_asv (v := vI 0) rfl <| wpl_nil <| nrm ?_
 obtain ⟨x1, q1, hm⟩ := obind_some hm
 have L1 := Mem.rfl' m
 refine wpc_seq <| wpc_join [3, 4, 6, 7, 8, 9, 10, 11, 12, 13, 14, 15, 16, 17, 18, 19, 20, 21, 22, 23, 24, 25] (fun f' w' => ∃ (M1 : Mem), m ≤ M1 ∧ St M1 ((bx b1 (c_api_Log a0 a0v3 a0v4 a0v5) 26) :: As) w' ∧ AllAt f' [(3, vI x1)]) ?_ ?_
 · refine ws <| s_asv (v := vI 0) rfl <| wpl_nil <| nrm ?_
   obtain ⟨x2, q2, q1⟩ := obind_some q1
   have L2 := Mem.rfl' m
   refine wpc_join [3, 4, 6, 7, 8, 9, 10, 11, 12, 13, 14, 15, 16, 17, 18, 19, 20, 21, 22, 23, 24, 25] (fun f' w' => ∃ (M2 : Mem), m ≤ M2 ∧ St M2 ((bx b1 (c_api_Log a0 a0v3 a0v4 a0v5) 26) :: As) w' ∧ AllAt f' [(3, vI x2)]) ?_ ?_
   · refine wpc_block <| wpc_rounds [3, 4, 6, 7, 8, 9, 10, 11, 12, 13, 14, 15, 16, 17, 18, 19, 20, 21, 22, 23, 24, 25] (fun n1 f' w' => ∃ (s1 : Int × Int) (m2 : Mem), iter (m_ref24_Few_b2 a0) n1 s1 = some x2 ∧ m ≤ m2 ∧ St m2 ((bx b1 (c_api_Log a0 a0v3 a0v4 a0v5) 26) :: As) w' ∧ AllAt f' [(3, vI s1.1), (4, vI s1.2)]) FUEL ⟨(0, 0), m, q2, L2, S1, ⟨rfl, rfl, trivial⟩⟩ ?_
     rintro n1 f1 w2 ho ⟨s1, m1, q3, L4, S2, ha⟩
     obtain ⟨u1, rfl⟩ := fr_of (N := 66) ho ha
     clear ho ha
     have L3 := Mem.rfl' m1
     clear S1
     cases n1 with
     | zero => exact (iter_zero q3).elim
     | succ n1 =>
      obtain ⟨y1, q5, q4⟩ := iter_succ q3
      unfold m_ref24_Few_b2 at q5
      refine wpc_seq <| ws <| s_mvv (v := vI s1.2) rfl <| s_fld (n := 0) rfl underlying26 rfl rfl sizeOf23 <| s_ld (i := 0) (cs := [a0v3]) S2 rfl rfl isAgg23 sizeOf23 rfl (fun _ => rfl) <| s_lenR (xs := a0.L) rfl (a0h3.up L4) underlying23 <| s_lss (m := s1.2) (n := (a0.L.length : Int)) rfl rfl <| s_mvv (v := vb (decide (s1.2 < (a0.L.length : Int)))) rfl <| wpl_cut 3 [12, 13, 14] (fun f' w' => w' = w2 ∧ AllAt f' [(14, vb ((decide (s1.2 < (a0.L.length : Int))) && (decide (s1.2 < 40))))]) ?_ ?_
      · rcases bool_tf (decide (s1.2 < (a0.L.length : Int))) with hb1 | hb1
        · exact wpl_yes (d := 11) rfl rfl (cb hb1) <| s_mvv (v := vI s1.2) rfl <| wpl_yes (d := 11) rfl rfl (cb hb1) <| s_lss (m := s1.2) (n := 40) rfl rfl <| s_pickT (cb hb1) rfl <| wpl_nil (nrm ⟨outP, rfl, congrArg Value.bool (and_t hb1), trivial⟩)
        · exact wpl_no (d := 11) rfl rfl (cb hb1) <| wpl_no (d := 11) rfl rfl (cb hb1) <| s_pickF (cb hb1) rfl <| wpl_nil (nrm ⟨outP, rfl, congrArg Value.bool (and_f hb1), trivial⟩)
      rintro f2 w3 ho ⟨h1, ha⟩
      subst h1
      obtain ⟨u2, rfl⟩ := fr_of (N := 66) ho ha
      refine wpl_nil <| nrm <| wpc_if (t := ((decide (s1.2 < (a0.L.length : Int))) && (decide (s1.2 < 40)))) rfl (fun hc1 => ?_) (fun hc1 => ?_)
      · replace q5 := ifT hc1 q5
        refine wpc_skip <| nrm <| wpc_seq <| wpc_block <| wpc_region <| s_mvv (v := vI s1.1) rfl <| s_fld (n := 0) rfl underlying26 rfl rfl sizeOf23 <| s_ld (i := 0) (cs := [a0v3]) S2 rfl rfl isAgg23 sizeOf23 rfl (fun _ => rfl) <| s_mvv (v := vI s1.2) rfl ?_
        obtain ⟨x4, q7, q5⟩ := obind_some q5
        refine s_idx (q := x4) rfl rfl (a0h3.up L4) q7 underlying23 sizeOf70 fun p1 c1 h2 r1 => ?_
        obtain ⟨v1, rfl, h3⟩ := rep_g_api_Leaf r1
        refine s_fldM (n := 0) rfl h2 underlying70 rfl rfl sizeOf57 fun p2 h4 => ?_
        replace h4 : PtC _ _ (c_api_Leaf x4 v1) := h4
        refine s_ldM (cs := [v1]) S2 rfl h4 rfl isAgg57 sizeOf57 (fun _ => rfl) <| s_lenR (xs := x4.Body) rfl h3 underlying57 <| s_addI (m := s1.1) (n := (x4.Body.length : Int)) rfl rfl ?_
        obtain ⟨x5, q8, q5⟩ := bnd_eq q5
        refine s_asv (v := vI x5) (congrArg (fun z => vI z) q8.symm) <| wpl_nil <| nrmB <| nrm <| wpc_region <| s_mvv (v := vI s1.2) rfl <| s_addI (m := s1.2) (n := 1) rfl rfl <| s_asv (v := vI (w64 (s1.2 + 1))) rfl <| wpl_nil <| nrm ?_
        have e0 := Option.some.inj q5
        subst e0
        rcases q4 with ⟨sn, e, q4'⟩ | e
        · cases e
          exact ⟨outP, _, Nat.lt_succ_self _, ⟨_, m1, q4', Mem.tr L4 L3, S2, ⟨rfl, rfl, trivial⟩⟩⟩
        · cases e
      replace q5 := ifF hc1 q5
      refine wpc_exit <| thE <| thE <| exB <| nrm ?_
      have e0 := Option.some.inj q5
      subst e0
      rcases q4 with ⟨sn, e, _⟩ | e
      · cases e
      · cases e
        exact ⟨outP, m1, Mem.tr L4 L3, S2, ⟨rfl, trivial⟩⟩
   rintro f3 w4 ho ⟨m3, l1, S3, ha⟩
   obtain ⟨u3, rfl⟩ := fr_of (N := 66) ho ha
   clear ho ha S1
   have e0 := Option.some.inj q1
   subst e0
   replace L1 := Mem.tr L1 l1
   exact ⟨outP, m3, L1, S3, ⟨rfl, trivial⟩⟩
 rintro f4 w5 ho ⟨m4, l2, S4, ha⟩
 obtain ⟨u4, rfl⟩ := fr_of (N := 66) ho ha
 clear S1
 obtain ⟨x6, q9, hm⟩ := obind_some hm
 have L5 := Mem.rfl' m4
 refine wpc_seq <| wpc_join [3, 5, 26, 27, 28, 29, 30, 31, 32, 33, 34, 35, 36, 37, 38, 39, 40, 41, 42, 43, 44, 45] (fun f' w' => ∃ (M3 : Mem), m4 ≤ M3 ∧ St M3 ((bx b1 (c_api_Log a0 a0v3 a0v4 a0v5) 26) :: As) w' ∧ AllAt f' [(3, vI x6)]) ?_ ?_
 · refine ws <| s_asv (v := vI 0) rfl <| wpl_nil <| nrm ?_
   obtain ⟨x7, q10, q9⟩ := obind_some q9
   have L6 := Mem.rfl' m4
   refine wpc_join [3, 5, 26, 27, 28, 29, 30, 31, 32, 33, 34, 35, 36, 37, 38, 39, 40, 41, 42, 43, 44, 45] (fun f' w' => ∃ (M4 : Mem), m4 ≤ M4 ∧ St M4 ((bx b1 (c_api_Log a0 a0v3 a0v4 a0v5) 26) :: As) w' ∧ AllAt f' [(3, vI x7)]) ?_ ?_
   · refine wpc_block <| wpc_rounds [3, 5, 26, 27, 28, 29, 30, 31, 32, 33, 34, 35, 36, 37, 38, 39, 40, 41, 42, 43, 44, 45] (fun n2 f' w' => ∃ (s2 : Int × Int) (m6 : Mem), iter (m_ref24_Few_b3 a0) n2 s2 = some x7 ∧ m4 ≤ m6 ∧ St m6 ((bx b1 (c_api_Log a0 a0v3 a0v4 a0v5) 26) :: As) w' ∧ AllAt f' [(3, vI s2.1), (5, vI s2.2)]) FUEL ⟨(x1, 0), m4, q10, L6, S4, ⟨rfl, rfl, trivial⟩⟩ ?_
     rintro n2 f5 w6 ho ⟨s2, m5, q11, L8, S5, ha⟩
     obtain ⟨u5, rfl⟩ := fr_of (N := 66) ho ha
     clear ho ha
     have L7 := Mem.rfl' m5
     clear S4
     cases n2 with
     | zero => exact (iter_zero q11).elim
     | succ n2 =>
      obtain ⟨y2, q13, q12⟩ := iter_succ q11
      unfold m_ref24_Few_b3 at q13
      refine wpc_seq <| ws <| s_mvv (v := vI s2.2) rfl <| s_fld (n := 0) rfl underlying26 rfl rfl sizeOf23 <| s_ld (i := 0) (cs := [a0v5]) S5 rfl rfl isAgg23 sizeOf23 rfl (fun _ => rfl) ?_
      replace a0h5 := a0h5.up (mt l2 L8)
      refine s_lenR (xs := a0.Wait) rfl a0h5 underlying23 <| s_lss (m := s2.2) (n := (a0.Wait.length : Int)) rfl rfl <| s_mvv (v := vb (decide (s2.2 < (a0.Wait.length : Int)))) rfl <| wpl_cut 3 [32, 33, 34] (fun f' w' => w' = w6 ∧ AllAt f' [(34, vb ((decide (s2.2 < (a0.Wait.length : Int))) && (decide (s2.2 < 40))))]) ?_ ?_
      · rcases bool_tf (decide (s2.2 < (a0.Wait.length : Int))) with hb2 | hb2
        · exact wpl_yes (d := 31) rfl rfl (cb hb2) <| s_mvv (v := vI s2.2) rfl <| wpl_yes (d := 31) rfl rfl (cb hb2) <| s_lss (m := s2.2) (n := 40) rfl rfl <| s_pickT (cb hb2) rfl <| wpl_nil (nrm ⟨outP, rfl, congrArg Value.bool (and_t hb2), trivial⟩)
        · exact wpl_no (d := 31) rfl rfl (cb hb2) <| wpl_no (d := 31) rfl rfl (cb hb2) <| s_pickF (cb hb2) rfl <| wpl_nil (nrm ⟨outP, rfl, congrArg Value.bool (and_f hb2), trivial⟩)
      rintro f6 w7 ho ⟨h5, ha⟩
      subst h5
      obtain ⟨u6, rfl⟩ := fr_of (N := 66) ho ha
      refine wpl_nil <| nrm <| wpc_if (t := ((decide (s2.2 < (a0.Wait.length : Int))) && (decide (s2.2 < 40)))) rfl (fun hc2 => ?_) (fun hc2 => ?_)
      · replace q13 := ifT hc2 q13
        refine wpc_skip <| nrm <| wpc_seq <| wpc_block <| wpc_region <| s_mvv (v := vI s2.1) rfl <| s_fld (n := 0) rfl underlying26 rfl rfl sizeOf23 <| s_ld (i := 0) (cs := [a0v5]) S5 rfl rfl isAgg23 sizeOf23 rfl (fun _ => rfl) <| s_mvv (v := vI s2.2) rfl ?_
        obtain ⟨x9, q15, q13⟩ := obind_some q13
        refine s_idx (q := x9) rfl rfl a0h5 q15 underlying23 sizeOf70 fun p3 c2 h6 r2 => ?_
        obtain ⟨v2, rfl, h7⟩ := rep_g_api_Leaf r2
        refine s_fldM (n := 0) rfl h6 underlying70 rfl rfl sizeOf57 fun p4 h8 => ?_
        replace h8 : PtC _ _ (c_api_Leaf x9 v2) := h8
        refine s_ldM (cs := [v2]) S5 rfl h8 rfl isAgg57 sizeOf57 (fun _ => rfl) <| s_lenR (xs := x9.Body) rfl h7 underlying57 <| s_addI (m := s2.1) (n := (x9.Body.length : Int)) rfl rfl ?_
        obtain ⟨x10, q16, q13⟩ := bnd_eq q13
        refine s_asv (v := vI x10) (congrArg (fun z => vI z) q16.symm) <| wpl_nil <| nrmB <| nrm <| wpc_region <| s_mvv (v := vI s2.2) rfl <| s_addI (m := s2.2) (n := 1) rfl rfl <| s_asv (v := vI (w64 (s2.2 + 1))) rfl <| wpl_nil <| nrm ?_
        have e0 := Option.some.inj q13
        subst e0
        rcases q12 with ⟨sn, e, q12'⟩ | e
        · cases e
          exact ⟨outP, _, Nat.lt_succ_self _, ⟨_, m5, q12', Mem.tr L8 L7, S5, ⟨rfl, rfl, trivial⟩⟩⟩
        · cases e
      replace q13 := ifF hc2 q13
      refine wpc_exit <| thE <| thE <| exB <| nrm ?_
      have e0 := Option.some.inj q13
      subst e0
      rcases q12 with ⟨sn, e, _⟩ | e
      · cases e
      · cases e
        exact ⟨outP, m5, Mem.tr L8 L7, S5, ⟨rfl, trivial⟩⟩
   rintro f7 w8 ho ⟨m7, l3, S6, ha⟩
   obtain ⟨u7, rfl⟩ := fr_of (N := 66) ho ha
   clear ho ha S4
   have e0 := Option.some.inj q9
   subst e0
   replace L5 := Mem.tr L5 l3
   exact ⟨outP, m7, L5, S6, ⟨rfl, trivial⟩⟩
 rintro f8 w9 ho ⟨m8, l4, S7, ha⟩
 obtain ⟨u8, rfl⟩ := fr_of (N := 66) ho ha
 clear S4
 refine ws <| s_fld (n := 0) rfl underlying26 rfl rfl sizeOf23 <| s_ld (i := 0) (cs := [a0v3]) S7 rfl rfl isAgg23 sizeOf23 rfl (fun _ => rfl) ?_
 replace a0h3 := a0h3.up (mt l2 l4)
 refine s_lenR (xs := a0.L) rfl a0h3 underlying23 <| s_leq (m := (a0.L.length : Int)) (n := 40) rfl rfl <| s_mvv (v := vb (decide ((a0.L.length : Int) ≤ 40))) rfl <| wpl_cut 5 [51, 52, 53, 54, 55] (fun f' w' => w' = w9 ∧ AllAt f' [(55, vb ((decide ((a0.L.length : Int) ≤ 40)) && (decide ((a0.Wait.length : Int) ≤ 40))))]) ?_ ?_
 · rcases bool_tf (decide ((a0.L.length : Int) ≤ 40)) with hb3 | hb3
   · refine wpl_yes (d := 50) rfl rfl (cb hb3) <| s_fld (n := 0) rfl underlying26 rfl rfl sizeOf23 <| wpl_yes (d := 50) rfl rfl (cb hb3) <| s_ld (i := 0) (cs := [a0v5]) S7 rfl rfl isAgg23 sizeOf23 rfl (fun _ => rfl) <| wpl_yes (d := 50) rfl rfl (cb hb3) ?_
     replace a0h5 := a0h5.up (mt l2 l4)
     exact s_lenR (xs := a0.Wait) rfl a0h5 underlying23 <| wpl_yes (d := 50) rfl rfl (cb hb3) <| s_leq (m := (a0.Wait.length : Int)) (n := 40) rfl rfl <| s_pickT (cb hb3) rfl <| wpl_nil (nrm ⟨outP, rfl, congrArg Value.bool (and_t hb3), trivial⟩)
   · exact wpl_no (d := 50) rfl rfl (cb hb3) <| wpl_no (d := 50) rfl rfl (cb hb3) <| wpl_no (d := 50) rfl rfl (cb hb3) <| wpl_no (d := 50) rfl rfl (cb hb3) <| s_pickF (cb hb3) rfl <| wpl_nil (nrm ⟨outP, rfl, congrArg Value.bool (and_f hb3), trivial⟩)
 rintro f9 w10 ho ⟨h9, ha⟩
 subst h9
 obtain ⟨u9, rfl⟩ := fr_of (N := 66) ho ha
 refine s_mvv (v := vb ((decide ((a0.L.length : Int) ≤ 40)) && (decide ((a0.Wait.length : Int) ≤ 40)))) rfl <| wpl_cut 5 [57, 58, 59, 60, 61] (fun f' w' => w' = w10 ∧ AllAt f' [(61, vb (((decide ((a0.L.length : Int) ≤ 40)) && (decide ((a0.Wait.length : Int) ≤ 40))) && (decide ((a0.Hide.length : Int) ≤ 60))))]) ?_ ?_
 · rcases bool_tf ((decide ((a0.L.length : Int) ≤ 40)) && (decide ((a0.Wait.length : Int) ≤ 40))) with hb4 | hb4
   · refine wpl_yes (d := 56) rfl rfl (cb hb4) <| s_fld (n := 0) rfl underlying26 rfl rfl sizeOf24 <| wpl_yes (d := 56) rfl rfl (cb hb4) <| s_ld (i := 0) (cs := [a0v4]) S7 rfl rfl isAgg24 sizeOf24 rfl (fun _ => rfl) <| wpl_yes (d := 56) rfl rfl (cb hb4) ?_
     replace a0h4 := a0h4.up (mt l2 l4)
     exact s_lenR (xs := a0.Hide) rfl a0h4 underlying24 <| wpl_yes (d := 56) rfl rfl (cb hb4) <| s_leq (m := (a0.Hide.length : Int)) (n := 60) rfl rfl <| s_pickT (cb hb4) rfl <| wpl_nil (nrm ⟨outP, rfl, congrArg Value.bool (and_t hb4), trivial⟩)
   · exact wpl_no (d := 56) rfl rfl (cb hb4) <| wpl_no (d := 56) rfl rfl (cb hb4) <| wpl_no (d := 56) rfl rfl (cb hb4) <| wpl_no (d := 56) rfl rfl (cb hb4) <| s_pickF (cb hb4) rfl <| wpl_nil (nrm ⟨outP, rfl, congrArg Value.bool (and_f hb4), trivial⟩)
 rintro f10 w11 ho ⟨h10, ha⟩
 subst h10
 obtain ⟨u10, rfl⟩ := fr_of (N := 66) ho ha
 refine s_mvv (v := vb (((decide ((a0.L.length : Int) ≤ 40)) && (decide ((a0.Wait.length : Int) ≤ 40))) && (decide ((a0.Hide.length : Int) ≤ 60)))) rfl <| wpl_cut 3 [63, 64, 65] (fun f' w' => w' = w11 ∧ AllAt f' [(65, vb ((((decide ((a0.L.length : Int) ≤ 40)) && (decide ((a0.Wait.length : Int) ≤ 40))) && (decide ((a0.Hide.length : Int) ≤ 60))) && (decide (x6 ≤ 20000))))]) ?_ ?_
 · rcases bool_tf (((decide ((a0.L.length : Int) ≤ 40)) && (decide ((a0.Wait.length : Int) ≤ 40))) && (decide ((a0.Hide.length : Int) ≤ 60))) with hb5 | hb5
   · exact wpl_yes (d := 62) rfl rfl (cb hb5) <| s_mvv (v := vI x6) rfl <| wpl_yes (d := 62) rfl rfl (cb hb5) <| s_leq (m := x6) (n := 20000) rfl rfl <| s_pickT (cb hb5) rfl <| wpl_nil (nrm ⟨outP, rfl, congrArg Value.bool (and_t hb5), trivial⟩)
   · exact wpl_no (d := 62) rfl rfl (cb hb5) <| wpl_no (d := 62) rfl rfl (cb hb5) <| s_pickF (cb hb5) rfl <| wpl_nil (nrm ⟨outP, rfl, congrArg Value.bool (and_f hb5), trivial⟩)
 rintro f11 w12 ho ⟨h11, ha⟩
 subst h11
 obtain ⟨u11, rfl⟩ := fr_of (N := 66) ho ha
 obtain ⟨x11, q17, hm⟩ := bnd_eq hm
 refine s_asv (v := vb x11) (congrArg (fun z => vb z) q17.symm) <| wpl_nil <| nrm <| wpc_ret <| outRw fun we hpd => ?_
 replace S7 := St.pd S7 hpd
 obtain ⟨m9, l5, S8⟩ := St.drop S7 0
 clear S7
 replace S8 : St _ (As) _ := S8
 have e0 := Option.some.inj hm
 subst e0
 replace L0 := Mem.tr L0 (mt l2 (mt l4 l5))
 exact outR [_] rfl ⟨rfl, trivial⟩ ⟨_, L0, S8, rfl⟩

def m_law24_few (a0 : g_api_Log) (a1 : List UInt8) : Option Bool :=
  obind (m_ref24_Few a0) fun x1 =>
  bnd ((x1 && (decide ((a1.length : Int) ≤ 3000)))) fun x2 =>
  some x2

theorem w_law24_few {m : Mem} {As : List Ow} {w : World} {a0 : g_api_Log} {a0v3 : Value} {a0v4 : Value} {a0v5 : Value} {a1 : List UInt8} {a1v0 : Value} {r : Bool} (S : St m (As) w) (a0h3 : SlR m a0v3 a0.L) (a0h4 : SlR m a0v4 a0.Hide) (a0h5 : SlR m a0v5 a0.Wait) (a1h0 : SlR m a1v0 a1) (hm : m_law24_few a0 a1 = some r) :
    CallsR Tryz.prog 5 #[.agg (c_api_Log a0 a0v3 a0v4 a0v5).toArray, a1v0] w fun v w' => ∃ (M : Mem), m ≤ M ∧ St M (As) w' ∧ v = vb r := by
 unfold m_law24_few at hm
 have L0 := Mem.rfl' m
 refine callsR (args := [.agg (c_api_Log a0 a0v3 a0v4 a0v5).toArray, a1v0]) func5 rfl ntmps5 (nb rfl) <| ws <| s_box S rfl fun b1 w1 S1 => ?_
 replace S1 : St _ ((bx b1 (c_api_Log a0 a0v3 a0v4 a0v5) 26) :: As) _ := S1
 clear S
 refine s_asv (v := vb false) rfl <| nx <| s_ld (i := 0) (cs := (c_api_Log a0 a0v3 a0v4 a0v5)) S1 rfl rfl isAgg26 sizeOf26 rfl (fun h => by cases h) ?_
 obtain ⟨x1, q1, hm⟩ := obind_some hm
 refine s_call call21 (w_ref24_Few (a0 := a0) S1 a0h3 a0h4 a0h5 q1) rfl ?_
 rintro _ w2 ⟨m1, l1, S2, rfl⟩
 clear S1
 refine s_mvv (v := vb x1) rfl <| wpl_cut 4 [8, 9, 10, 11] (fun f' w' => w' = w2 ∧ AllAt f' [(11, vb (x1 && (decide ((a1.length : Int) ≤ 3000))))]) ?_ ?_
 · rcases bool_tf x1 with hb1 | hb1
   · exact wpl_yes (d := 7) rfl rfl (cb hb1) <| s_mvv (v := a1v0) rfl <| wpl_yes (d := 7) rfl rfl (cb hb1) <| s_lenR (xs := a1) rfl (a1h0.up l1) underlying57 <| wpl_yes (d := 7) rfl rfl (cb hb1) <| s_leq (m := (a1.length : Int)) (n := 3000) rfl rfl <| s_pickT (cb hb1) rfl <| wpl_nil (nrm ⟨outP, rfl, congrArg Value.bool (and_t hb1), trivial⟩)
   · exact wpl_no (d := 7) rfl rfl (cb hb1) <| wpl_no (d := 7) rfl rfl (cb hb1) <| wpl_no (d := 7) rfl rfl (cb hb1) <| s_pickF (cb hb1) rfl <| wpl_nil (nrm ⟨outP, rfl, congrArg Value.bool (and_f hb1), trivial⟩)
 rintro f1 w3 ho ⟨h1, ha⟩
 subst h1
 obtain ⟨u1, rfl⟩ := fr_of (N := 12) ho ha
 obtain ⟨x2, q2, hm⟩ := bnd_eq hm
 refine s_asv (v := vb x2) (congrArg (fun z => vb z) q2.symm) <| wpl_nil <| nrm <| wpc_ret <| outRw fun we hpd => ?_
 replace S2 := St.pd S2 hpd
 obtain ⟨m2, l2, S3⟩ := St.drop S2 0
 clear S2
 replace S3 : St _ (As) _ := S3
 have e0 := Option.some.inj hm
 subst e0
 replace L0 := Mem.tr L0 (mt l1 l2)
 exact outR [_] rfl ⟨rfl, trivial⟩ ⟨_, L0, S3, rfl⟩

def m_merkle_half (a0 : Int) : Option Int :=
  obind (m_bits_Len (toU (w64 (a0 - 1)))) fun x1 =>
  if (0 : Int) ≤ (w64 (x1 - 1)) then
    bnd ((shl64 1 ((w64 (x1 - 1)).toNat))) fun x2 =>
    some x2
  else none

theorem w_merkle_half {m : Mem} {As : List Ow} {w : World} {a0 : Int} {r : Int} (S : St m (As) w) (hm : m_merkle_half a0 = some r) :
    CallsR Tryz.prog 69 #[vI a0] w fun v w' => ∃ (M : Mem), m ≤ M ∧ St M (As) w' ∧ v = vI r := by
 unfold m_merkle_half at hm
 have L0 := Mem.rfl' m
 refine callsR (args := [vI a0]) func69 rfl ntmps69 (nb rfl) <| ws <| s_asv (v := vI 0) rfl <| nx <| s_mvv (v := vI a0) rfl <| s_subI (m := a0) (n := 1) rfl rfl <| s_convU rfl underlying3 underlying88 ?_
 obtain ⟨x1, q1, hm⟩ := obind_some hm
 refine s_call call72 (w_bits_Len (a0 := (toU (w64 (a0 - 1)))) S  q1) rfl ?_
 rintro _ w1 ⟨m1, l1, S1, rfl⟩
 clear S
 refine s_subI (m := x1) (n := 1) rfl rfl ?_
 obtain ⟨q2, hm⟩ := if_some hm
 refine s_shlI (m := 1) (n := (w64 (x1 - 1))) rfl rfl q2 ?_
 obtain ⟨x2, q3, hm⟩ := bnd_eq hm
 refine s_asv (v := vI x2) (congrArg (fun z => vI z) q3.symm) <| wpl_nil <| nrm <| wpc_ret <| outRw fun we hpd => ?_
 replace S1 := St.pd S1 hpd
 have e0 := Option.some.inj hm
 subst e0
 replace L0 := Mem.tr L0 l1
 exact outR [_] rfl ⟨rfl, trivial⟩ ⟨_, L0, S1, rfl⟩

def r_merkle_Prove_1 : Nat → (List (UInt64 × UInt64)) → Int → (List (UInt64 × UInt64)) → Option (List (UInt64 × UInt64))
  | 0, _, _, _ => none
  | n + 1, a0, a1, k1 =>
    if ((a0.length : Int) == 1) = true then
      some k1
    else
    obind (m_merkle_half (a0.length : Int)) fun x1 =>
    obind (cut a0 0 x1) fun x2 =>
    obind (cut a0 x1 (a0.length : Int)) fun x3 =>
    obind (
      if (decide (a1 ≥ x1)) = true then
        some ((w64 (a1 - x1)), x3, x2)
      else
      some (a1, x2, x3)
    ) fun x4 =>
    obind (r_merkle_Prove_1 n x4.2.1 x4.1 k1) fun x5 =>
    obind (m_merkle_Root x4.2.2) fun x6 =>
    obind (app 16 x5 ([x6] : List (UInt64 × UInt64))) fun x7 =>
    some x7

def m_merkle_Prove_1 (a0 : List (UInt64 × UInt64)) (a1 : Int) (k1 : List (UInt64 × UInt64)) : Option (List (UInt64 × UInt64)) := r_merkle_Prove_1 FUEL a0 a1 k1

theorem wr_merkle_Prove_1 (n : Nat) : ∀ {m : Mem} {As : List Ow} {w : World} {a0 : List (UInt64 × UInt64)} {a0v0 : Value} {a1 : Int} {kb0 : Nat} {kb1 : Nat} {k1 : List (UInt64 × UInt64)} {k1v0 : Value} {k1c0 : List Value} {r : List (UInt64 × UInt64)} (S : St m ((bx kb0 [.func (.func 68) #[] #[pt kb0 0, pt kb1 0]] 121) :: (bx kb1 [k1v0] 43) :: (row 2 k1v0 k1c0 k1.length) :: As) w) (a0h0 : SlR m a0v0 a0) (k1h0 : RepL m k1c0 k1) (hm : r_merkle_Prove_1 n a0 a1 k1 = some r),
    CallsR Tryz.prog 68 #[a0v0, vI a1, pt kb0 0, pt kb1 0] w fun v w' => ∃ (M : Mem), m ≤ M ∧ ∃ (rbv1 : Value) (rbc1 : List Value), St M ((bx kb1 [rbv1] 43) :: (row 2 rbv1 rbc1 r.length) :: (bx kb0 [.func (.func 68) #[] #[pt kb0 0, pt kb1 0]] 121) :: As) w' ∧ v = .tuple #[] ∧ RepL M rbc1 r := by
 induction n with
 | zero => intro m As w a0 a0v0 a1 kb0 kb1 k1 k1v0 k1c0 r S a0h0 k1h0 hm; cases hm
 | succ n ih =>
  intro m As w a0 a0v0 a1 kb0 kb1 k1 k1v0 k1c0 r S a0h0 k1h0 hm
  unfold r_merkle_Prove_1 at hm
  have L0 := Mem.rfl' m
  refine callsR (args := [a0v0, vI a1, pt kb0 0, pt kb1 0]) func68 rfl ntmps68 (nb rfl) <| wpc_seq <| ws <| s_mvv (v := a0v0) rfl <| s_lenR (xs := a0) rfl a0h0 underlying43 <| s_eql (m := (a0.length : Int)) (n := 1) rfl rfl <| wpl_nil <| nrm <| wpc_if (t := ((a0.length : Int) == 1)) rfl (fun hc1 => ?_) (fun hc1 => ?_)
  · replace hm := ifT hc1 hm
    refine wpc_ret <| thR <| outRw fun we hpd => ?_
    replace S := St.pd S hpd
    have S1 : St _ ((bx kb1 [k1v0] 43) :: (row 2 k1v0 k1c0 k1.length) :: (bx kb0 [.func (.func 68) #[] #[pt kb0 0, pt kb1 0]] 121) :: As) _ := St.perm S (List.Perm.trans (List.Perm.swap _ _ _) (List.Perm.cons _ (List.Perm.swap _ _ _)))
    have e0 := Option.some.inj hm
    subst e0
    exact outR [] rfl trivial ⟨_, L0, _, _, S1, rfl, k1h0⟩
  replace hm := ifF hc1 hm
  refine wpc_skip <| nrm <| ws <| s_mvv (v := a0v0) rfl <| s_lenR (xs := a0) rfl a0h0 underlying43 ?_
  obtain ⟨x1, q1, hm⟩ := obind_some hm
  refine s_call call69 (w_merkle_half (a0 := (a0.length : Int)) S  q1) rfl ?_
  rintro _ w1 ⟨m1, l1, S2, rfl⟩
  clear S
  refine s_asv (v := vI x1) rfl <| wpl_nil <| nrm <| wpc_seq ?_
  obtain ⟨x2, q2, hm⟩ := obind_some hm
  obtain ⟨x3, q3, hm⟩ := obind_some hm
  have HM : MonoAll [(15, fv a0v0), (16, fv (vI x1)), (17, fun (M : Mem) (v : Value) => ∃ (v1 : Value), v = v1 ∧ SlR M v1 x2), (18, fv a0v0), (19, fv (vI x1)), (20, fun (M : Mem) (v : Value) => ∃ (v2 : Value), v = v2 ∧ SlR M v2 x3), (7, fun (M : Mem) (v : Value) => ∃ (v3 : Value), v = v3 ∧ SlR M v3 x2)] := ⟨mv, mv, (fun _ _ _ l ⟨v1, e, h1⟩ => ⟨v1, e, h1.up l⟩), mv, mv, (fun _ _ _ l ⟨v2, e, h2⟩ => ⟨v2, e, h2.up l⟩), (fun _ _ _ l ⟨v3, e, h3⟩ => ⟨v3, e, h3.up l⟩), trivial⟩
  refine wpc_flowG HM 7 mixed rfl rfl rfl [7, 15, 16, 17, 18, 19, 20] (fun L f M w => St M ((bx kb0 [.func (.func 68) #[] #[pt kb0 0, pt kb1 0]] 121) :: (bx kb1 [k1v0] 43) :: (row 2 k1v0 k1c0 k1.length) :: As) w) (St.drew S2 _) ?_ ?_
  · refine ⟨?_, ?_, ?_, ?_, ?_, ?_, ?_, trivial⟩
    · exact flp HM rfl [] (fun _ _ => trivial) (fun _ _ q => s_mvv (v := a0v0) rfl q) rfl
    · exact flp HM rfl [] (fun _ _ => trivial) (fun _ _ q => s_mvv (v := vI x1) rfl q) rfl
    · intro L f3 w4 hL hd hc ⟨m4, L5, S5, K, hO⟩
      obtain ⟨u3, rfl⟩ := fr_of (N := 38) (L := [(15, _), (16, _)]) hO ⟨K 0 (dep hd rfl), K 1 (dep hd rfl), trivial⟩
      replace a0h0 := a0h0.up (mt l1 L5)
      exact s_cut (ys := x2) (l := 0) (h := x1) rfl a0h0 underlying43 sizeOf36 (.inl ⟨rfl, rfl⟩) (.inr ⟨_, rfl⟩) (.inl rfl) q2 fun v1 h1 => oS HM L5 S5 rfl K rfl rfl ⟨v1, rfl, h1⟩ outP
    · exact flp HM rfl [] (fun _ _ => trivial) (fun _ _ q => s_mvv (v := a0v0) rfl q) rfl
    · exact flp HM rfl [] (fun _ _ => trivial) (fun _ _ q => s_mvv (v := vI x1) rfl q) rfl
    · intro L f6 w7 hL hd hc ⟨m7, L11, S8, K, hO⟩
      obtain ⟨u6, rfl⟩ := fr_of (N := 38) (L := [(18, _), (19, _)]) hO ⟨K 3 (dep hd rfl), K 4 (dep hd rfl), trivial⟩
      replace a0h0 := a0h0.up (mt l1 L11)
      exact s_cut (ys := x3) (l := x1) (h := (a0.length : Int)) rfl a0h0 underlying43 sizeOf36 (.inr ⟨_, rfl⟩) (.inl ⟨rfl, rfl⟩) (.inl rfl) q3 fun v2 h2 => oS HM L11 S8 rfl K rfl rfl ⟨v2, rfl, h2⟩ outP
    · intro L f7 w8 hL hd hc ⟨m8, L13, S9, K, hO⟩
      obtain ⟨v3, e5, h3⟩ := K 2 (dep hd rfl)
      obtain ⟨u7, rfl⟩ := fr_of (N := 38) (L := [(17, _)]) hO ⟨e5, trivial⟩
      exact s_asv (v := v3) rfl <| oS HM L13 S9 rfl K rfl rfl ⟨v3, rfl, h3⟩ outP
  intro L f8 w9 hall ⟨m9, L15, S10, K, hO⟩
  have d6 : L 6 = true := hall 6 (by decide)
  obtain ⟨v4, e6, h4⟩ := K 6 d6
  have d5 : L 5 = true := hall 5 (by decide)
  obtain ⟨v5, e7, h5⟩ := K 5 d5
  obtain ⟨u8, rfl⟩ := fr_of (N := 38) (L := [(7, _), (20, _)]) hO ⟨e6, e7, trivial⟩
  replace S10 : St _ ((bx kb0 [.func (.func 68) #[] #[pt kb0 0, pt kb1 0]] 121) :: (bx kb1 [k1v0] 43) :: (row 2 k1v0 k1c0 k1.length) :: As) _ := S10
  clear S2
  refine s_asv (v := v5) rfl <| wpl_nil <| nrm ?_
  obtain ⟨x4, q4, hm⟩ := obind_some hm
  have L16 := Mem.rfl' m9
  refine wpc_seq <| wpc_join [1, 7, 8, 21, 22, 23, 24, 25, 26, 27, 28] (fun f' w' => ∃ (M1 : Mem) (v6 : Value) (v7 : Value), m9 ≤ M1 ∧ St M1 ((bx kb0 [.func (.func 68) #[] #[pt kb0 0, pt kb1 0]] 121) :: (bx kb1 [k1v0] 43) :: (row 2 k1v0 k1c0 k1.length) :: As) w' ∧ SlR M1 v6 x4.2.1 ∧ SlR M1 v7 x4.2.2 ∧ AllAt f' [(1, vI x4.1), (7, v6), (8, v7)]) ?_ ?_
  · refine ws <| s_mvv (v := vI a1) rfl <| s_mvv (v := vI x1) rfl <| s_geq (m := a1) (n := x1) rfl rfl <| wpl_nil <| nrm <| wpc_if (t := (decide (a1 ≥ x1))) rfl (fun hc2 => ?_) (fun hc2 => ?_)
    · replace q4 := ifT hc2 q4
      refine wpc_region <| s_mvv (v := v5) rfl <| s_mvv (v := v4) rfl <| s_mvv (v := vI a1) rfl <| s_mvv (v := vI x1) rfl <| s_subI (m := a1) (n := x1) rfl rfl <| s_asv (v := v5) rfl <| s_asv (v := v4) rfl <| s_asv (v := vI (w64 (a1 - x1))) rfl <| wpl_nil <| nrm ?_
      have e0 := Option.some.inj q4
      subst e0
      exact ⟨outP, m9, _, _, L16, S10, h5, h4, ⟨rfl, rfl, rfl, trivial⟩⟩
    replace q4 := ifF hc2 q4
    refine wpc_skip <| nrm ?_
    have e0 := Option.some.inj q4
    subst e0
    exact ⟨outP, m9, _, _, L16, S10, h4, h5, ⟨rfl, rfl, rfl, trivial⟩⟩
  rintro f9 w10 ho ⟨m10, v6, v7, l2, S11, h6, h7, ha⟩
  obtain ⟨u9, rfl⟩ := fr_of (N := 38) ho ha
  clear S10
  refine ws <| s_ld (i := 0) (cs := [.func (.func 68) #[] #[pt kb0 0, pt kb1 0]]) S11 rfl rfl isAgg121 sizeOf121 rfl (fun _ => rfl) <| s_mvv (v := v6) rfl <| s_mvv (v := vI x4.1) rfl ?_
  obtain ⟨x5, q5, hm⟩ := obind_some hm
  replace k1h0 := RepL.up (mt l1 (mt L15 l2)) k1h0
  refine s_callC rfl call68 (ih (a0 := x4.2.1) (a1 := x4.1) (k1 := k1) S11 h6 k1h0 q5) rfl rfl ?_
  rintro _ w11 ⟨m11, l3, v8, c1, S12, rfl, h8⟩
  clear S11
  refine wpl_nil <| nrm ?_
  obtain ⟨x6, q6, hm⟩ := obind_some hm
  have HM : MonoAll [(33, fv v8), (34, fv v7), (35, fv (.agg #[vU x6.1, vU x6.2])), (36, fun (M : Mem) (v : Value) => ∃ (v9 : Value), v = v9 ∧ SlR M v9 ([x6] : List (UInt64 × UInt64)))] := ⟨mv, mv, mv, (fun _ _ _ l ⟨v9, e, h9⟩ => ⟨v9, e, h9.up l⟩), trivial⟩
  refine wpc_flowG HM 4 mixed rfl rfl rfl [33, 34, 35, 36] (fun L f M w => St M ((bx kb1 [v8] 43) :: (row 2 v8 c1 x5.length) :: (bx kb0 [.func (.func 68) #[] #[pt kb0 0, pt kb1 0]] 121) :: As) w) (St.drew S12 _) ?_ ?_
  · refine ⟨?_, ?_, ?_, ?_, trivial⟩
    · exact flp HM rfl [] (fun _ _ => trivial) (fun _ S13 q => s_ld (i := 0) (cs := [v8]) S13 rfl rfl isAgg43 sizeOf43 rfl (fun _ => rfl) q) rfl
    · exact flp HM rfl [] (fun _ _ => trivial) (fun _ _ q => s_mvv (v := v7) rfl q) rfl
    · intro L f12 w14 hL hd hc ⟨m14, L21, S15, K, hO⟩
      obtain ⟨u12, rfl⟩ := fr_of (N := 38) (L := [(34, _)]) hO ⟨K 1 (dep hd rfl), trivial⟩
      have L22 := Mem.rfl' m14
      replace h7 := h7.up (mt l3 L21)
      refine s_call call27 (w_merkle_Root (a0 := x4.2.2) S15 h7 q6) rfl ?_
      rintro _ w15 ⟨m15, l4, S16, rfl⟩
      clear S15
      refine wpn ?_
      replace L22 := Mem.tr L22 l4
      exact ⟨m15, Mem.tr L21 L22, S16, facts_step HM rfl K L22 rfl rfl rfl, outP⟩
    · intro L f13 w16 hL hd hc ⟨m16, L23, S17, K, hO⟩
      obtain ⟨u13, rfl⟩ := fr_of (N := 38) (L := [(35, _)]) hO ⟨K 2 (dep hd rfl), trivial⟩
      have L24 := Mem.rfl' m16
      refine s_litC (parts := [.tmp 35]) (vs := [.agg #[vU x6.1, vU x6.2]]) (cls := [[vU x6.1, vU x6.2]]) (xs := ([x6] : List (UInt64 × UInt64))) (n := 1) S17 underlying43 sizeOf36 zeroValue36 rfl ⟨rfl, trivial⟩ (RepL.cons (c := [vU x6.1, vU x6.2]) (x := x6) mk_arr2_UInt64 RepL.nil) rfl rfl rfl (by decide) (by decide) fun v9 m17 w17 l5 S18 h9 => ?_
      clear S17
      refine wpn ?_
      replace L24 := Mem.tr L24 l5
      exact ⟨m17, Mem.tr L23 L24, S18, facts_step HM rfl K L24 rfl rfl ⟨v9, rfl, h9⟩, outP⟩
  intro L f14 w18 hall ⟨m18, L25, S19, K, hO⟩
  have d0 : L 0 = true := hall 0 (by decide)
  have d3 : L 3 = true := hall 3 (by decide)
  obtain ⟨v10, e11, h10⟩ := K 3 d3
  obtain ⟨u14, rfl⟩ := fr_of (N := 38) (L := [(33, _), (36, _)]) hO ⟨K 0 d0, e11, trivial⟩
  replace S19 : St _ ((bx kb1 [v8] 43) :: (row 2 v8 c1 x5.length) :: (bx kb0 [.func (.func 68) #[] #[pt kb0 0, pt kb1 0]] 121) :: As) _ := S19
  clear S12
  obtain ⟨x7, q7, hm⟩ := obind_some hm
  replace h8 := RepL.up L25 h8
  refine s_app (i := 1) (zs := x7) (bytes := 16) (ti := Tryz.t36) S19 rfl rfl h8 rfl rfl h10 q7 underlying43 type36 rfl rfl rfl rfl fun v11 c2 w19 S20 h11 => ?_
  replace S20 : St _ ((bx kb1 [v8] 43) :: (row 2 v11 c2 x7.length) :: (bx kb0 [.func (.func 68) #[] #[pt kb0 0, pt kb1 0]] 121) :: As) _ := S20
  clear S19
  refine s_stS (i := 0) S20 rfl rfl rfl sizeOf43 (St.rowCells (i := 1) S20 rfl) rfl fun w20 S21 => ?_
  replace S21 : St _ ((bx kb1 [v11] 43) :: (row 2 v11 c2 x7.length) :: (bx kb0 [.func (.func 68) #[] #[pt kb0 0, pt kb1 0]] 121) :: As) _ := S21
  clear S20
  refine wpl_nil <| outNw fun we hpd => ?_
  replace S21 := St.pd S21 hpd
  have e0 := Option.some.inj hm
  subst e0
  replace L0 := Mem.tr L0 (mt l1 (mt L15 (mt l2 (mt l3 L25))))
  exact outR [] rfl trivial ⟨_, L0, _, _, S21, rfl, h11⟩

theorem w_merkle_Prove_1 {m : Mem} {As : List Ow} {w : World} {a0 : List (UInt64 × UInt64)} {a0v0 : Value} {a1 : Int} {kb0 : Nat} {kb1 : Nat} {k1 : List (UInt64 × UInt64)} {k1v0 : Value} {k1c0 : List Value} {r : List (UInt64 × UInt64)} (S : St m ((bx kb0 [.func (.func 68) #[] #[pt kb0 0, pt kb1 0]] 121) :: (bx kb1 [k1v0] 43) :: (row 2 k1v0 k1c0 k1.length) :: As) w) (a0h0 : SlR m a0v0 a0) (k1h0 : RepL m k1c0 k1) (hm : m_merkle_Prove_1 a0 a1 k1 = some r) :
    CallsR Tryz.prog 68 #[a0v0, vI a1, pt kb0 0, pt kb1 0] w fun v w' => ∃ (M : Mem), m ≤ M ∧ ∃ (rbv1 : Value) (rbc1 : List Value), St M ((bx kb1 [rbv1] 43) :: (row 2 rbv1 rbc1 r.length) :: (bx kb0 [.func (.func 68) #[] #[pt kb0 0, pt kb1 0]] 121) :: As) w' ∧ v = .tuple #[] ∧ RepL M rbc1 r := wr_merkle_Prove_1 FUEL S a0h0 k1h0 hm

def m_merkle_Prove (a0 : List (UInt64 × UInt64)) (a1 : Int) : Option ((List (UInt64 × UInt64)) × Int) :=
  if (((decide ((a0.length : Int) > 256)) || (decide (a1 < 0))) || (decide (a1 ≥ (a0.length : Int)))) = true then
    some (([] : List (UInt64 × UInt64)), 80)
  else
  obind (m_merkle_Prove_1 a0 a1 ([] : List (UInt64 × UInt64))) fun x1 =>
  some (x1, 0)

theorem w_merkle_Prove {m : Mem} {As : List Ow} {w : World} {a0 : List (UInt64 × UInt64)} {a0v0 : Value} {a1 : Int} {r : (List (UInt64 × UInt64)) × Int} (S : St m (As) w) (a0h0 : SlR m a0v0 a0) (hm : m_merkle_Prove a0 a1 = some r) :
    CallsR Tryz.prog 31 #[a0v0, vI a1] w fun v w' => ∃ (M : Mem), m ≤ M ∧ ∃ (rv0 : Value) (rc0 : List Value), St M ((row 2 rv0 rc0 r.1.length) :: As) w' ∧ v = .tuple #[rv0, vI r.2] ∧ RepL M rc0 r.1 := by
 unfold m_merkle_Prove at hm
 have L0 := Mem.rfl' m
 refine callsR (args := [a0v0, vI a1]) func31 rfl ntmps31 (nb rfl) <| ws <| s_asv (v := .slice none 0 0) rfl <| s_asv (v := vI 0) rfl <| wpl_nil <| nrm <| wpc_seq <| ws <| s_mvv (v := a0v0) rfl <| s_lenR (xs := a0) rfl a0h0 underlying43 <| s_gtr (m := (a0.length : Int)) (n := 256) rfl rfl <| s_mvv (v := vb (decide ((a0.length : Int) > 256))) rfl <| wpl_cut 3 [12, 13, 14] (fun f' w' => w' = w ∧ AllAt f' [(14, vb ((decide ((a0.length : Int) > 256)) || (decide (a1 < 0))))]) ?_ ?_
 · rcases bool_tf (decide ((a0.length : Int) > 256)) with hb1 | hb1
   · exact wpl_no (d := 11) rfl rfl (cb hb1) <| wpl_no (d := 11) rfl rfl (cb hb1) <| s_pickT (cb hb1) rfl <| wpl_nil (nrm ⟨outP, rfl, congrArg Value.bool (or_t hb1), trivial⟩)
   · exact wpl_yes (d := 11) rfl rfl (cb hb1) <| s_mvv (v := vI a1) rfl <| wpl_yes (d := 11) rfl rfl (cb hb1) <| s_lss (m := a1) (n := 0) rfl rfl <| s_pickF (cb hb1) rfl <| wpl_nil (nrm ⟨outP, rfl, congrArg Value.bool (or_f hb1), trivial⟩)
 rintro f1 w1 ho ⟨h1, ha⟩
 subst h1
 obtain ⟨u1, rfl⟩ := fr_of (N := 27) ho ha
 refine s_mvv (v := vb ((decide ((a0.length : Int) > 256)) || (decide (a1 < 0)))) rfl <| wpl_cut 5 [16, 17, 18, 19, 20] (fun f' w' => w' = w1 ∧ AllAt f' [(20, vb (((decide ((a0.length : Int) > 256)) || (decide (a1 < 0))) || (decide (a1 ≥ (a0.length : Int)))))]) ?_ ?_
 · rcases bool_tf ((decide ((a0.length : Int) > 256)) || (decide (a1 < 0))) with hb2 | hb2
   · exact wpl_no (d := 15) rfl rfl (cb hb2) <| wpl_no (d := 15) rfl rfl (cb hb2) <| wpl_no (d := 15) rfl rfl (cb hb2) <| wpl_no (d := 15) rfl rfl (cb hb2) <| s_pickT (cb hb2) rfl <| wpl_nil (nrm ⟨outP, rfl, congrArg Value.bool (or_t hb2), trivial⟩)
   · exact wpl_yes (d := 15) rfl rfl (cb hb2) <| s_mvv (v := vI a1) rfl <| wpl_yes (d := 15) rfl rfl (cb hb2) <| s_mvv (v := a0v0) rfl <| wpl_yes (d := 15) rfl rfl (cb hb2) <| s_lenR (xs := a0) rfl a0h0 underlying43 <| wpl_yes (d := 15) rfl rfl (cb hb2) <| s_geq (m := a1) (n := (a0.length : Int)) rfl rfl <| s_pickF (cb hb2) rfl <| wpl_nil (nrm ⟨outP, rfl, congrArg Value.bool (or_f hb2), trivial⟩)
 rintro f2 w2 ho ⟨h2, ha⟩
 subst h2
 obtain ⟨u2, rfl⟩ := fr_of (N := 27) ho ha
 refine wpl_nil <| nrm <| wpc_if (t := (((decide ((a0.length : Int) > 256)) || (decide (a1 < 0))) || (decide (a1 ≥ (a0.length : Int))))) rfl (fun hc1 => ?_) (fun hc1 => ?_)
 · replace hm := ifT hc1 hm
   refine ws <| s_asv (v := .slice none 0 0) rfl <| s_asv (v := vI 80) rfl <| wpl_nil <| nrm <| wpc_ret <| thR <| outRw fun we hpd => ?_
   replace S := St.pd S hpd
   have S1 := St.rowNil S 2
   have h3 : RepL m [] ([] : List (UInt64 × UInt64)) := RepL.nil
   replace S1 : St _ ((row 2 (.slice none 0 0) [] ([] : List (UInt64 × UInt64)).length) :: As) _ := S1
   clear S
   have e0 := Option.some.inj hm
   subst e0
   exact outR [_, _] rfl ⟨rfl, rfl, trivial⟩ ⟨_, L0, _, _, S1, rfl, h3⟩
 replace hm := ifF hc1 hm
 refine wpc_skip <| nrm <| ws <| s_alloc S zeroValue43 fun b1 w3 S2 => ?_
 replace S2 : St _ ((bx b1 [.slice none 0 0] 43) :: As) _ := S2
 clear S
 refine nx <| s_alloc S2 zeroValue121 fun b2 w4 S3 => nx <| s_funcC (caps := [pt b2 0, pt b1 0]) rfl <| s_stL (i := 0) S3 rfl rfl rfl sizeOf121 (oneC rfl oneN) rfl fun w5 S4 => ?_
 replace S4 : St _ ((bx b2 [.func (.func 68) #[] #[pt b2 0, pt b1 0]] 121) :: (bx b1 [.slice none 0 0] 43) :: As) _ := S4
 clear S2 S3
 refine nx <| s_ld (i := 0) (cs := [.func (.func 68) #[] #[pt b2 0, pt b1 0]]) S4 rfl rfl isAgg121 sizeOf121 rfl (fun _ => rfl) <| s_mvv (v := a0v0) rfl <| s_mvv (v := vI a1) rfl ?_
 have S5 := St.rowNil S4 2
 have h4 : RepL m [] ([] : List (UInt64 × UInt64)) := RepL.nil
 replace S5 : St _ ((row 2 (.slice none 0 0) [] ([] : List (UInt64 × UInt64)).length) :: (bx b2 [.func (.func 68) #[] #[pt b2 0, pt b1 0]] 121) :: (bx b1 [(.slice none 0 0)] 43) :: As) _ := S5
 clear S4
 have S6 : St _ ((bx b2 [.func (.func 68) #[] #[pt b2 0, pt b1 0]] 121) :: (bx b1 [(.slice none 0 0)] 43) :: (row 2 (.slice none 0 0) [] ([] : List (UInt64 × UInt64)).length) :: As) _ := St.perm S5 (List.Perm.trans (List.Perm.swap _ _ _) (List.Perm.cons _ (List.Perm.swap _ _ _)))
 clear S5
 obtain ⟨x1, q1, hm⟩ := obind_some hm
 refine s_callC rfl call68 (w_merkle_Prove_1 (a0 := a0) (a1 := a1) (k1 := ([] : List (UInt64 × UInt64))) S6 a0h0 h4 q1) rfl rfl ?_
 rintro _ w6 ⟨m1, l1, v1, c1, S7, rfl, h5⟩
 clear S6
 refine nx <| s_ld (i := 0) (cs := [v1]) S7 rfl rfl isAgg43 sizeOf43 rfl (fun _ => rfl) <| s_asv (v := v1) rfl <| s_asv (v := vI 0) rfl <| wpl_nil <| nrm <| wpc_ret <| outRw fun we hpd => ?_
 replace S7 := St.pd S7 hpd
 obtain ⟨m2, l2, S8⟩ := St.drop S7 0
 clear S7
 replace S8 : St _ ((row 2 v1 c1 x1.length) :: (bx b2 [.func (.func 68) #[] #[pt b2 0, pt b1 0]] 121) :: As) _ := S8
 obtain ⟨m3, l3, S9⟩ := St.drop S8 1
 clear S8
 replace S9 : St _ ((row 2 v1 c1 x1.length) :: As) _ := S9
 have e0 := Option.some.inj hm
 subst e0
 replace L0 := Mem.tr L0 (mt l1 (mt l2 l3))
 replace h5 := RepL.up (mt l2 l3) h5
 exact outR [_, _] rfl ⟨rfl, rfl, trivial⟩ ⟨_, L0, _, _, S9, rfl, h5⟩

def m_logd_Prove (a0 : g_api_Log) (a1 : Int) (a2 : Int) (a3 : Int) : Option (g_api_Place × Int) :=
  obind (m_logd_first a0 a1 a3) fun x1 =>
  if (x1.2 != 0) = true then
    some ((⟨0, 0, 0, []⟩ : g_api_Place), x1.2)
  else
  obind (m_merkle_Prove x1.1 a2) fun x2 =>
  if (x2.2 != 0) = true then
    some ((⟨0, 0, 0, []⟩ : g_api_Place), x2.2)
  else
  some ((⟨a0.Id, a2, a3, x2.1⟩ : g_api_Place), 0)

theorem w_logd_Prove {m : Mem} {As : List Ow} {w : World} {a0 : g_api_Log} {a0v3 : Value} {a0v4 : Value} {a0v5 : Value} {a1 : Int} {a2 : Int} {a3 : Int} {r : g_api_Place × Int} (S : St m (As) w) (a0h3 : SlR m a0v3 a0.L) (a0h4 : SlR m a0v4 a0.Hide) (a0h5 : SlR m a0v5 a0.Wait) (hm : m_logd_Prove a0 a1 a2 a3 = some r) :
    CallsR Tryz.prog 10 #[.agg (c_api_Log a0 a0v3 a0v4 a0v5).toArray, vI a1, vI a2, vI a3] w fun v w' => ∃ (M : Mem), m ≤ M ∧ ∃ (rv0_3 : Value), St M (As) w' ∧ v = .tuple #[.agg (c_api_Place r.1 rv0_3).toArray, vI r.2] ∧ SlR M rv0_3 r.1.Proof := by
 unfold m_logd_Prove at hm
 have L0 := Mem.rfl' m
 refine callsR (args := [.agg (c_api_Log a0 a0v3 a0v4 a0v5).toArray, vI a1, vI a2, vI a3]) func10 rfl ntmps10 (nb rfl) <| ws <| s_box S rfl fun b1 w1 S1 => ?_
 replace S1 : St _ ((bx b1 (c_api_Log a0 a0v3 a0v4 a0v5) 26) :: As) _ := S1
 clear S
 refine s_alloc S1 zeroValue47 fun b2 w2 S2 => ?_
 replace S2 : St _ ((bx b2 z_api_Place 47) :: (bx b1 (c_api_Log a0 a0v3 a0v4 a0v5) 26) :: As) _ := S2
 clear S1
 refine s_asv (v := vI 0) rfl <| nx <| s_ld (i := 1) (cs := (c_api_Log a0 a0v3 a0v4 a0v5)) S2 rfl rfl isAgg26 sizeOf26 rfl (fun h => by cases h) <| s_mvv (v := vI a1) rfl <| s_mvv (v := vI a3) rfl ?_
 obtain ⟨x1, q1, hm⟩ := obind_some hm
 refine s_call call26 (w_logd_first (a0 := a0) (a1 := a1) (a2 := a3) S2 a0h3 a0h4 a0h5 q1) rfl ?_
 rintro _ w3 ⟨m1, l1, v1, c1, S3, rfl, h1⟩
 clear S2
 refine s_mvv (v := .tuple #[v1, vI x1.2]) rfl <| s_ext (i := 0) rfl rfl <| s_ext (i := 1) rfl rfl <| s_asv (v := v1) rfl <| s_asv (v := vI x1.2) rfl <| wpl_nil <| nrm <| wpc_seq <| ws <| s_mvv (v := vI x1.2) rfl <| s_neq (m := x1.2) (n := 0) rfl rfl <| wpl_nil <| nrm <| wpc_if (t := (x1.2 != 0)) rfl (fun hc1 => ?_) (fun hc1 => ?_)
 · replace hm := ifT hc1 hm
   refine ws <| s_build (parts := []) (ps := []) (cs := z_api_Place) zeroValue47 (BuildPl.str (ss := [1, 1, 1, 1]) underlying47 ⟨sizeOf3, sizeOf3, sizeOf3, sizeOf43, trivial⟩) rfl trivial rfl <| s_mvv (v := vI x1.2) rfl <| s_stL (i := 1) S3 rfl rfl rfl sizeOf47 (oneC rfl (oneC rfl (oneC rfl (oneC rfl oneN)))) rfl fun w4 S4 => ?_
   replace S4 : St _ ((row 2 v1 c1 x1.1.length) :: (bx b2 z_api_Place 47) :: (bx b1 (c_api_Log a0 a0v3 a0v4 a0v5) 26) :: As) _ := S4
   clear S3
   refine s_asv (v := vI x1.2) rfl <| wpl_nil <| nrm <| wpc_ret <| thR <| outRw fun we hpd => ?_
   replace S4 := St.pd S4 hpd
   have SR := S4
   obtain ⟨m2, l2, S5⟩ := St.drop S4 0
   replace S5 : St _ ((bx b2 z_api_Place 47) :: (bx b1 (c_api_Log a0 a0v3 a0v4 a0v5) 26) :: As) _ := S5
   obtain ⟨m3, l3, S6⟩ := St.drop S5 0
   clear S5
   replace S6 : St _ ((bx b1 (c_api_Log a0 a0v3 a0v4 a0v5) 26) :: As) _ := S6
   obtain ⟨m4, l4, S7⟩ := St.drop S6 0
   clear S6
   replace S7 : St _ (As) _ := S7
   have e0 := Option.some.inj hm
   subst e0
   replace L0 := Mem.tr L0 (mt l1 (mt l2 (mt l3 l4)))
   exact outR [_, _] rfl ⟨res_box (i := 1) (off := 0) (cs := z_api_Place) SR rfl rfl isAgg47 sizeOf47 rfl (fun h => by cases h), rfl, trivial⟩ ⟨_, L0, _, S7, rfl, SlR.nil⟩
 replace hm := ifF hc1 hm
 refine wpc_skip <| nrm <| ws <| s_mvv (v := v1) rfl <| s_mvv (v := vI a2) rfl ?_
 obtain ⟨m5, l5, h2, S8⟩ := St.rowKeepT (i := 0) S3 rfl h1 rfl
 clear S3
 obtain ⟨x2, q2, hm⟩ := obind_some hm
 refine s_call call31 (w_merkle_Prove (a0 := x1.1) (a1 := a2) S8 h2 q2) rfl ?_
 rintro _ w5 ⟨m6, l6, v2, c2, S9, rfl, h3⟩
 clear S8
 refine s_mvv (v := .tuple #[v2, vI x2.2]) rfl <| s_ext (i := 0) rfl rfl <| s_ext (i := 1) rfl rfl <| s_asv (v := v2) rfl <| s_asv (v := vI x2.2) rfl <| wpl_nil <| nrm <| wpc_seq <| ws <| s_mvv (v := vI x2.2) rfl <| s_neq (m := x2.2) (n := 0) rfl rfl <| wpl_nil <| nrm <| wpc_if (t := (x2.2 != 0)) rfl (fun hc2 => ?_) (fun hc2 => ?_)
 · replace hm := ifT hc2 hm
   refine ws <| s_build (parts := []) (ps := []) (cs := z_api_Place) zeroValue47 (BuildPl.str (ss := [1, 1, 1, 1]) underlying47 ⟨sizeOf3, sizeOf3, sizeOf3, sizeOf43, trivial⟩) rfl trivial rfl <| s_mvv (v := vI x2.2) rfl <| s_stL (i := 1) S9 rfl rfl rfl sizeOf47 (oneC rfl (oneC rfl (oneC rfl (oneC rfl oneN)))) rfl fun w6 S10 => ?_
   replace S10 : St _ ((row 2 v2 c2 x2.1.length) :: (bx b2 z_api_Place 47) :: (bx b1 (c_api_Log a0 a0v3 a0v4 a0v5) 26) :: As) _ := S10
   clear S9
   refine s_asv (v := vI x2.2) rfl <| wpl_nil <| nrm <| wpc_ret <| thR <| outRw fun we hpd => ?_
   replace S10 := St.pd S10 hpd
   have SR := S10
   obtain ⟨m7, l7, S11⟩ := St.drop S10 0
   replace S11 : St _ ((bx b2 z_api_Place 47) :: (bx b1 (c_api_Log a0 a0v3 a0v4 a0v5) 26) :: As) _ := S11
   obtain ⟨m8, l8, S12⟩ := St.drop S11 0
   clear S11
   replace S12 : St _ ((bx b1 (c_api_Log a0 a0v3 a0v4 a0v5) 26) :: As) _ := S12
   obtain ⟨m9, l9, S13⟩ := St.drop S12 0
   clear S12
   replace S13 : St _ (As) _ := S13
   have e0 := Option.some.inj hm
   subst e0
   replace L0 := Mem.tr L0 (mt l1 (mt l5 (mt l6 (mt l7 (mt l8 l9)))))
   exact outR [_, _] rfl ⟨res_box (i := 1) (off := 0) (cs := z_api_Place) SR rfl rfl isAgg47 sizeOf47 rfl (fun h => by cases h), rfl, trivial⟩ ⟨_, L0, _, S13, rfl, SlR.nil⟩
 replace hm := ifF hc2 hm
 refine wpc_skip <| nrm <| ws <| s_fld (n := 0) rfl underlying26 rfl rfl sizeOf3 <| s_ld (i := 2) (cs := [vI a0.Id]) S9 rfl rfl isAgg3 sizeOf3 rfl (fun _ => rfl) <| s_mvv (v := vI a2) rfl <| s_mvv (v := vI a3) rfl <| s_mvv (v := v2) rfl ?_
 obtain ⟨m10, l10, h4, S14⟩ := St.rowKeepT (i := 0) S9 rfl h3 rfl
 clear S9
 refine s_build (parts := [(0, .tmp 35), (1, .tmp 36), (2, .tmp 37), (3, .tmp 38)]) (ps := [(0, vI a0.Id, [vI a0.Id]), (1, vI a2, [vI a2]), (2, vI a3, [vI a3]), (3, v2, [v2])]) (cs := [vI a0.Id, vI a2, vI a3, v2]) zeroValue47 (BuildPl.str (ss := [1, 1, 1, 1]) underlying47 ⟨sizeOf3, sizeOf3, sizeOf3, sizeOf43, trivial⟩) rfl ⟨rfl, rfl, rfl, SlR.cells h4, trivial⟩ rfl <| s_stL (i := 0) S14 rfl rfl rfl sizeOf47 (oneC rfl (oneC rfl (oneC rfl (oneC (SlR.one h4) oneN)))) rfl fun w7 S15 => ?_
 replace S15 : St _ ((bx b2 [vI a0.Id, vI a2, vI a3, v2] 47) :: (bx b1 (c_api_Log a0 a0v3 a0v4 a0v5) 26) :: As) _ := S15
 clear S14
 refine s_asv (v := vI 0) rfl <| wpl_nil <| nrm <| wpc_ret <| outRw fun we hpd => ?_
 replace S15 := St.pd S15 hpd
 have SR := S15
 obtain ⟨m11, l11, S16⟩ := St.drop S15 0
 replace S16 : St _ ((bx b1 (c_api_Log a0 a0v3 a0v4 a0v5) 26) :: As) _ := S16
 obtain ⟨m12, l12, S17⟩ := St.drop S16 0
 clear S16
 replace S17 : St _ (As) _ := S17
 have e0 := Option.some.inj hm
 subst e0
 replace L0 := Mem.tr L0 (mt l1 (mt l5 (mt l6 (mt l10 (mt l11 l12)))))
 replace h4 := h4.up (mt l11 l12)
 exact outR [_, _] rfl ⟨res_box (i := 0) (off := 0) (cs := [vI a0.Id, vI a2, vI a3, v2]) SR rfl rfl isAgg47 sizeOf47 rfl (fun h => by cases h), rfl, trivial⟩ ⟨_, L0, _, S17, rfl, h4⟩

end Go.Proofs.YtemiampgjgenhaaGreatDoor
