/- The walks of some functions, written by program. Conditions: none. -/
import Derived.Test.YtemiampgjgenhaaGreatWkC
set_option maxHeartbeats 20000000
set_option maxRecDepth 100000
set_option linter.unusedVariables false
set_option linter.unusedSimpArgs false
namespace Go.Proofs.YtemiampgjgenhaaGreat
open Go Go.Gw Tryz

def m_law24_live  : Option Bool :=
  obind (m_logd_New 3 ([115, 101, 101, 100] : List UInt8) 20) fun x1 =>
  obind (m_logd_Public x1.1) fun x2 =>
  obind (m_logd_Add x1.1 ([97] : List UInt8) 5) fun x3 =>
  obind (m_logd_Add x3.1 ([98] : List UInt8) 6) fun x4 =>
  obind (m_logd_Merge x4.1) fun x5 =>
  obind (m_logd_Hide x5.1) fun x6 =>
  if (((((((((x1.2 != 0) || (x2.2 != 0)) || (x3.2.2 != 0)) || (x4.2.2 != 0)) || (x5.2 != 0)) || (x6.2 != 0)) || ((x6.1.L.length : Int) != 2)) || ((x6.1.Wait.length : Int) != 0)) || ((x6.1.Hide.length : Int) != 1)) = true then
    some false
  else
  obind (m_logd_Head x6.1 0 1 9) fun x7 =>
  obind (m_logd_Head x6.1 1 1 9) fun x8 =>
  obind (m_logd_Leaves x6.1 1) fun x9 =>
  obind (m_logd_Leaves x6.1 2) fun x10 =>
  obind (m_logd_Head x6.1 0 3 9) fun x11 =>
  if ((((x7.2 != 0) || (x8.2 != 0)) || (x9.2 != 0)) || ((x9.1.length : Int) != 2)) = true then
    some false
  else
  obind (gu ((((x2.1.Log == 3) && (x2.1.Delay == 20)) && (x3.2.1.Log == 3)) && (x3.2.1.At == 5)) (m_merkle_Leaf ([97] : List UInt8))) fun x12 =>
  obind (gu (((((x2.1.Log == 3) && (x2.1.Delay == 20)) && (x3.2.1.Log == 3)) && (x3.2.1.At == 5)) && (eqSum x3.2.1.Leaf x12)) (m_logd_CheckPromise x2.1 x3.2.1)) fun x13 =>
  obind (gu (((((((x2.1.Log == 3) && (x2.1.Delay == 20)) && (x3.2.1.Log == 3)) && (x3.2.1.At == 5)) && (eqSum x3.2.1.Leaf x12)) && (x13 == 0)) && (eq_api_Head x7.1 x8.1)) (m_logd_CheckHead x2.1 x7.1)) fun x14 =>
  obind (gu ((((((((x2.1.Log == 3) && (x2.1.Delay == 20)) && (x3.2.1.Log == 3)) && (x3.2.1.At == 5)) && (eqSum x3.2.1.Leaf x12)) && (x13 == 0)) && (eq_api_Head x7.1 x8.1)) && (x14 == 0)) (idx x9.1 0)) fun x15 =>
  obind (gu ((((((((x2.1.Log == 3) && (x2.1.Delay == 20)) && (x3.2.1.Log == 3)) && (x3.2.1.At == 5)) && (eqSum x3.2.1.Leaf x12)) && (x13 == 0)) && (eq_api_Head x7.1 x8.1)) && (x14 == 0)) (m_merkle_Leaf ([97] : List UInt8))) fun x16 =>
  obind (gu (((((((((x2.1.Log == 3) && (x2.1.Delay == 20)) && (x3.2.1.Log == 3)) && (x3.2.1.At == 5)) && (eqSum x3.2.1.Leaf x12)) && (x13 == 0)) && (eq_api_Head x7.1 x8.1)) && (x14 == 0)) && (eqSum x15 x16)) (idx x9.1 1)) fun x17 =>
  obind (gu (((((((((x2.1.Log == 3) && (x2.1.Delay == 20)) && (x3.2.1.Log == 3)) && (x3.2.1.At == 5)) && (eqSum x3.2.1.Leaf x12)) && (x13 == 0)) && (eq_api_Head x7.1 x8.1)) && (x14 == 0)) && (eqSum x15 x16)) (m_merkle_Leaf ([0, 98] : List UInt8))) fun x18 =>
  obind (
    if ((((((((((((x2.1.Log == 3) && (x2.1.Delay == 20)) && (x3.2.1.Log == 3)) && (x3.2.1.At == 5)) && (eqSum x3.2.1.Leaf x12)) && (x13 == 0)) && (eq_api_Head x7.1 x8.1)) && (x14 == 0)) && (eqSum x15 x16)) && (eqSum x17 x18)) && (x10.2 == 240)) && (x11.2 == 80)) = true then
      obind (m_logd_Check (⟨0, 0, 0, [], [], []⟩ : g_api_Log)) fun x21 =>
      some (x21 == 1)
    else
    some false
  ) fun x20 =>
  some x20

theorem w_law24_live {m : Mem} {As : List Ow} {w : World}  {r : Bool} (S : St m (As) w) (hm : m_law24_live = some r) :
    CallsR Tryz.prog 7 #[] w fun v w' => ∃ (M : Mem), m ≤ M ∧ St M (As) w' ∧ v = vb r := by
 unfold m_law24_live at hm
 have L0 := Mem.rfl' m
 refine callsR (args := []) func7 rfl ntmps7 (nb rfl) <| ws <| s_asv (v := vb false) rfl <| nx <| s_litOC (parts := [.const (.int .u8 115), .const (.int .u8 101), .const (.int .u8 101), .const (.int .u8 100)]) (vs := [vB 115, vB 101, vB 101, vB 100]) (cls := [[vB 115], [vB 101], [vB 101], [vB 100]]) (n := 4) (sz := 1) S underlying27 sizeOf5 zeroValue5 rfl ⟨rfl, rfl, rfl, rfl, trivial⟩ rfl rfl (by decide) (by decide) fun v1 w1 S1 => ?_
 have h1 : RepL m [vB 115, vB 101, vB 101, vB 100] ([115, 101, 101, 100] : List UInt8) := (RepL.cons (c := [vB 115]) (x := 115) rfl (RepL.cons (c := [vB 101]) (x := 101) rfl (RepL.cons (c := [vB 101]) (x := 101) rfl (RepL.cons (c := [vB 100]) (x := 100) rfl RepL.nil))))
 replace S1 : St _ ((row 1 v1 [vB 115, vB 101, vB 101, vB 100] ([115, 101, 101, 100] : List UInt8).length) :: As) _ := S1
 clear S
 refine s_mark (i := 0) S1 rfl rfl (nb rfl) underlying27 underlying5 fun w2 S2 => ?_
 clear S1
 obtain ⟨m1, l1, h2, S3⟩ := St.rowKeepT (i := 0) S2 rfl h1 rfl
 clear S2
 obtain ⟨x1, q1, hm⟩ := obind_some hm
 refine s_call call9 (w_logd_New (a0 := 3) (a1 := ([115, 101, 101, 100] : List UInt8)) (a2 := 20) S3 h2 q1) rfl ?_
 rintro _ w3 ⟨m2, l2, v2, v3, v4, S4, rfl, h3, h4, h5⟩
 clear S3
 refine s_mvv (v := .tuple #[.agg (c_api_Log x1.1 v2 v3 v4).toArray, vI x1.2]) rfl <| s_ext (i := 0) rfl rfl <| s_ext (i := 1) rfl rfl <| s_alloc S4 zeroValue26 fun b1 w4 S5 => s_stL (i := 0) S5 rfl rfl rfl sizeOf26 (oneC rfl (oneC rfl (oneC rfl (oneC (SlR.one h3) (oneC (SlR.one h4) (oneC (SlR.one h5) oneN)))))) rfl fun w5 S6 => ?_
 replace S6 : St _ ((bx b1 (c_api_Log x1.1 v2 v3 v4) 26) :: As) _ := S6
 clear S4 S5
 refine s_asv (v := vI x1.2) rfl <| nx <| s_ld (i := 0) (cs := (c_api_Log x1.1 v2 v3 v4)) S6 rfl rfl isAgg26 sizeOf26 rfl (fun h => by cases h) ?_
 obtain ⟨x2, q2, hm⟩ := obind_some hm
 refine s_call call11 (w_logd_Public (a0 := x1.1) S6 h3 h4 h5 q2) rfl ?_
 rintro _ w6 ⟨m3, l3, S7, rfl⟩
 clear S6
 refine s_mvv (v := .tuple #[.agg (c_api_Key x2.1).toArray, vI x2.2]) rfl <| s_ext (i := 0) rfl rfl <| s_ext (i := 1) rfl rfl <| s_alloc S7 zeroValue34 fun b2 w7 S8 => s_stL (i := 0) S8 rfl rfl rfl sizeOf34 (oneC rfl (oneC rfl (oneC rfl oneN))) rfl fun w8 S9 => ?_
 replace S9 : St _ ((bx b2 (c_api_Key x2.1) 34) :: (bx b1 (c_api_Log x1.1 v2 v3 v4) 26) :: As) _ := S9
 clear S7 S8
 refine s_asv (v := vI x2.2) rfl <| nx <| s_ld (i := 1) (cs := (c_api_Log x1.1 v2 v3 v4)) S9 rfl rfl isAgg26 sizeOf26 rfl (fun h => by cases h) <| s_litOC (parts := [.const (.int .u8 97)]) (vs := [vB 97]) (cls := [[vB 97]]) (n := 1) (sz := 1) S9 underlying27 sizeOf5 zeroValue5 rfl ⟨rfl, trivial⟩ rfl rfl (by decide) (by decide) fun v5 w9 S10 => ?_
 have h6 : RepL m3 [vB 97] ([97] : List UInt8) := (RepL.cons (c := [vB 97]) (x := 97) rfl RepL.nil)
 replace S10 : St _ ((row 1 v5 [vB 97] ([97] : List UInt8).length) :: (bx b2 (c_api_Key x2.1) 34) :: (bx b1 (c_api_Log x1.1 v2 v3 v4) 26) :: As) _ := S10
 clear S9
 refine s_mark (i := 0) S10 rfl rfl (nb rfl) underlying27 underlying5 fun w10 S11 => ?_
 clear S10
 obtain ⟨m4, l4, h7, S12⟩ := St.rowKeepT (i := 0) S11 rfl h6 rfl
 clear S11
 obtain ⟨x3, q3, hm⟩ := obind_some hm
 replace h3 := h3.up (mt l3 l4)
 replace h4 := h4.up (mt l3 l4)
 replace h5 := h5.up (mt l3 l4)
 refine s_call call16 (w_logd_Add (a0 := x1.1) (a1 := ([97] : List UInt8)) (a2 := 5) S12 h3 h4 h5 h7 q3) rfl ?_
 rintro _ w11 ⟨m5, l5, v6, v7, v8, S13, rfl, h8, h9, h10⟩
 clear S12
 refine s_mvv (v := .tuple #[.agg (c_api_Log x3.1 v6 v7 v8).toArray, .agg (c_api_Promise x3.2.1).toArray, vI x3.2.2]) rfl <| s_ext (i := 0) rfl rfl <| s_ext (i := 1) rfl rfl <| s_ext (i := 2) rfl rfl <| s_alloc S13 zeroValue45 fun b3 w12 S14 => s_stL (i := 2) S14 rfl rfl rfl sizeOf26 (oneC rfl (oneC rfl (oneC rfl (oneC (SlR.one h8) (oneC (SlR.one h9) (oneC (SlR.one h10) oneN)))))) rfl fun w13 S15 => s_stL (i := 0) S15 rfl rfl rfl sizeOf45 (oneC rfl (oneC rfl (oneC rfl (oneC rfl (oneC rfl (oneC rfl oneN)))))) rfl fun w14 S16 => ?_
 replace S16 : St _ ((bx b3 (c_api_Promise x3.2.1) 45) :: (bx b2 (c_api_Key x2.1) 34) :: (bx b1 (c_api_Log x3.1 v6 v7 v8) 26) :: As) _ := S16
 clear S13 S14 S15
 refine s_asv (v := vI x3.2.2) rfl <| nx <| s_ld (i := 2) (cs := (c_api_Log x3.1 v6 v7 v8)) S16 rfl rfl isAgg26 sizeOf26 rfl (fun h => by cases h) <| s_litOC (parts := [.const (.int .u8 98)]) (vs := [vB 98]) (cls := [[vB 98]]) (n := 1) (sz := 1) S16 underlying27 sizeOf5 zeroValue5 rfl ⟨rfl, trivial⟩ rfl rfl (by decide) (by decide) fun v9 w15 S17 => ?_
 have h11 : RepL m5 [vB 98] ([98] : List UInt8) := (RepL.cons (c := [vB 98]) (x := 98) rfl RepL.nil)
 replace S17 : St _ ((row 1 v9 [vB 98] ([98] : List UInt8).length) :: (bx b3 (c_api_Promise x3.2.1) 45) :: (bx b2 (c_api_Key x2.1) 34) :: (bx b1 (c_api_Log x3.1 v6 v7 v8) 26) :: As) _ := S17
 clear S16
 refine s_mark (i := 0) S17 rfl rfl (nb rfl) underlying27 underlying5 fun w16 S18 => ?_
 clear S17
 obtain ⟨m6, l6, h12, S19⟩ := St.rowKeepT (i := 0) S18 rfl h11 rfl
 clear S18
 obtain ⟨x4, q4, hm⟩ := obind_some hm
 refine s_call call16 (w_logd_Add (a0 := x3.1) (a1 := ([98] : List UInt8)) (a2 := 6) S19 (h8.up l6) (h9.up l6) (h10.up l6) h12 q4) rfl ?_
 rintro _ w17 ⟨m7, l7, v10, v11, v12, S20, rfl, h13, h14, h15⟩
 clear S19
 refine s_mvv (v := .tuple #[.agg (c_api_Log x4.1 v10 v11 v12).toArray, .agg (c_api_Promise x4.2.1).toArray, vI x4.2.2]) rfl <| s_ext (i := 0) rfl rfl <| s_ext (i := 1) rfl rfl <| s_ext (i := 2) rfl rfl <| s_alloc S20 zeroValue45 fun b4 w18 S21 => s_stL (i := 3) S21 rfl rfl rfl sizeOf26 (oneC rfl (oneC rfl (oneC rfl (oneC (SlR.one h13) (oneC (SlR.one h14) (oneC (SlR.one h15) oneN)))))) rfl fun w19 S22 => s_stL (i := 0) S22 rfl rfl rfl sizeOf45 (oneC rfl (oneC rfl (oneC rfl (oneC rfl (oneC rfl (oneC rfl oneN)))))) rfl fun w20 S23 => ?_
 replace S23 : St _ ((bx b4 (c_api_Promise x4.2.1) 45) :: (bx b3 (c_api_Promise x3.2.1) 45) :: (bx b2 (c_api_Key x2.1) 34) :: (bx b1 (c_api_Log x4.1 v10 v11 v12) 26) :: As) _ := S23
 clear S20 S21 S22
 refine s_asv (v := vI x4.2.2) rfl <| nx <| s_ld (i := 3) (cs := (c_api_Log x4.1 v10 v11 v12)) S23 rfl rfl isAgg26 sizeOf26 rfl (fun h => by cases h) ?_
 obtain ⟨x5, q5, hm⟩ := obind_some hm
 refine s_call call18 (w_logd_Merge (a0 := x4.1) S23 h13 h14 h15 q5) rfl ?_
 rintro _ w21 ⟨m8, l8, v13, v14, v15, S24, rfl, h16, h17, h18⟩
 clear S23
 refine s_mvv (v := .tuple #[.agg (c_api_Log x5.1 v13 v14 v15).toArray, vI x5.2]) rfl <| s_ext (i := 0) rfl rfl <| s_ext (i := 1) rfl rfl <| s_alloc S24 zeroValue26 fun b5 w22 S25 => s_stL (i := 0) S25 rfl rfl rfl sizeOf26 (oneC rfl (oneC rfl (oneC rfl (oneC (SlR.one h16) (oneC (SlR.one h17) (oneC (SlR.one h18) oneN)))))) rfl fun w23 S26 => ?_
 replace S26 : St _ ((bx b5 (c_api_Log x5.1 v13 v14 v15) 26) :: (bx b4 (c_api_Promise x4.2.1) 45) :: (bx b3 (c_api_Promise x3.2.1) 45) :: (bx b2 (c_api_Key x2.1) 34) :: (bx b1 (c_api_Log x4.1 v10 v11 v12) 26) :: As) _ := S26
 clear S24 S25
 refine s_asv (v := vI x5.2) rfl <| nx <| s_ld (i := 0) (cs := (c_api_Log x5.1 v13 v14 v15)) S26 rfl rfl isAgg26 sizeOf26 rfl (fun h => by cases h) ?_
 obtain ⟨x6, q6, hm⟩ := obind_some hm
 refine s_call call20 (w_logd_Hide (a0 := x5.1) S26 h16 h17 h18 q6) rfl ?_
 rintro _ w24 ⟨m9, l9, v16, v17, v18, S27, rfl, h19, h20, h21⟩
 clear S26
 refine s_mvv (v := .tuple #[.agg (c_api_Log x6.1 v16 v17 v18).toArray, vI x6.2]) rfl <| s_ext (i := 0) rfl rfl <| s_ext (i := 1) rfl rfl <| s_stL (i := 0) S27 rfl rfl rfl sizeOf26 (oneC rfl (oneC rfl (oneC rfl (oneC (SlR.one h19) (oneC (SlR.one h20) (oneC (SlR.one h21) oneN)))))) rfl fun w25 S28 => ?_
 replace S28 : St _ ((bx b5 (c_api_Log x6.1 v16 v17 v18) 26) :: (bx b4 (c_api_Promise x4.2.1) 45) :: (bx b3 (c_api_Promise x3.2.1) 45) :: (bx b2 (c_api_Key x2.1) 34) :: (bx b1 (c_api_Log x4.1 v10 v11 v12) 26) :: As) _ := S28
 clear S27
 refine s_asv (v := vI x6.2) rfl <| wpl_nil <| nrm <| wpc_seq <| ws <| s_mvv (v := vI x1.2) rfl <| s_neq (m := x1.2) (n := 0) rfl rfl <| s_mvv (v := vb (x1.2 != 0)) rfl <| wpl_cut 3 [62, 63, 64] (fun f' w' => w' = w25 ∧ AllAt f' [(64, vb ((x1.2 != 0) || (x2.2 != 0)))]) ?_ ?_
 · rcases bool_tf (x1.2 != 0) with hb1 | hb1
   · exact wpl_no (d := 61) rfl rfl (cb hb1) <| wpl_no (d := 61) rfl rfl (cb hb1) <| s_pickT (cb hb1) rfl <| wpl_nil (nrm ⟨outP, rfl, congrArg Value.bool (or_t hb1), trivial⟩)
   · exact wpl_yes (d := 61) rfl rfl (cb hb1) <| s_mvv (v := vI x2.2) rfl <| wpl_yes (d := 61) rfl rfl (cb hb1) <| s_neq (m := x2.2) (n := 0) rfl rfl <| s_pickF (cb hb1) rfl <| wpl_nil (nrm ⟨outP, rfl, congrArg Value.bool (or_f hb1), trivial⟩)
 rintro f1 w26 ho ⟨h22, ha⟩
 subst h22
 obtain ⟨u1, rfl⟩ := fr_of (N := 212) ho ha
 refine s_mvv (v := vb ((x1.2 != 0) || (x2.2 != 0))) rfl <| wpl_cut 3 [66, 67, 68] (fun f' w' => w' = w26 ∧ AllAt f' [(68, vb (((x1.2 != 0) || (x2.2 != 0)) || (x3.2.2 != 0)))]) ?_ ?_
 · rcases bool_tf ((x1.2 != 0) || (x2.2 != 0)) with hb2 | hb2
   · exact wpl_no (d := 65) rfl rfl (cb hb2) <| wpl_no (d := 65) rfl rfl (cb hb2) <| s_pickT (cb hb2) rfl <| wpl_nil (nrm ⟨outP, rfl, congrArg Value.bool (or_t hb2), trivial⟩)
   · exact wpl_yes (d := 65) rfl rfl (cb hb2) <| s_mvv (v := vI x3.2.2) rfl <| wpl_yes (d := 65) rfl rfl (cb hb2) <| s_neq (m := x3.2.2) (n := 0) rfl rfl <| s_pickF (cb hb2) rfl <| wpl_nil (nrm ⟨outP, rfl, congrArg Value.bool (or_f hb2), trivial⟩)
 rintro f2 w27 ho ⟨h23, ha⟩
 subst h23
 obtain ⟨u2, rfl⟩ := fr_of (N := 212) ho ha
 refine s_mvv (v := vb (((x1.2 != 0) || (x2.2 != 0)) || (x3.2.2 != 0))) rfl <| wpl_cut 3 [70, 71, 72] (fun f' w' => w' = w27 ∧ AllAt f' [(72, vb ((((x1.2 != 0) || (x2.2 != 0)) || (x3.2.2 != 0)) || (x4.2.2 != 0)))]) ?_ ?_
 · rcases bool_tf (((x1.2 != 0) || (x2.2 != 0)) || (x3.2.2 != 0)) with hb3 | hb3
   · exact wpl_no (d := 69) rfl rfl (cb hb3) <| wpl_no (d := 69) rfl rfl (cb hb3) <| s_pickT (cb hb3) rfl <| wpl_nil (nrm ⟨outP, rfl, congrArg Value.bool (or_t hb3), trivial⟩)
   · exact wpl_yes (d := 69) rfl rfl (cb hb3) <| s_mvv (v := vI x4.2.2) rfl <| wpl_yes (d := 69) rfl rfl (cb hb3) <| s_neq (m := x4.2.2) (n := 0) rfl rfl <| s_pickF (cb hb3) rfl <| wpl_nil (nrm ⟨outP, rfl, congrArg Value.bool (or_f hb3), trivial⟩)
 rintro f3 w28 ho ⟨h24, ha⟩
 subst h24
 obtain ⟨u3, rfl⟩ := fr_of (N := 212) ho ha
 refine s_mvv (v := vb ((((x1.2 != 0) || (x2.2 != 0)) || (x3.2.2 != 0)) || (x4.2.2 != 0))) rfl <| wpl_cut 3 [74, 75, 76] (fun f' w' => w' = w28 ∧ AllAt f' [(76, vb (((((x1.2 != 0) || (x2.2 != 0)) || (x3.2.2 != 0)) || (x4.2.2 != 0)) || (x5.2 != 0)))]) ?_ ?_
 · rcases bool_tf ((((x1.2 != 0) || (x2.2 != 0)) || (x3.2.2 != 0)) || (x4.2.2 != 0)) with hb4 | hb4
   · exact wpl_no (d := 73) rfl rfl (cb hb4) <| wpl_no (d := 73) rfl rfl (cb hb4) <| s_pickT (cb hb4) rfl <| wpl_nil (nrm ⟨outP, rfl, congrArg Value.bool (or_t hb4), trivial⟩)
   · exact wpl_yes (d := 73) rfl rfl (cb hb4) <| s_mvv (v := vI x5.2) rfl <| wpl_yes (d := 73) rfl rfl (cb hb4) <| s_neq (m := x5.2) (n := 0) rfl rfl <| s_pickF (cb hb4) rfl <| wpl_nil (nrm ⟨outP, rfl, congrArg Value.bool (or_f hb4), trivial⟩)
 rintro f4 w29 ho ⟨h25, ha⟩
 subst h25
 obtain ⟨u4, rfl⟩ := fr_of (N := 212) ho ha
 refine s_mvv (v := vb (((((x1.2 != 0) || (x2.2 != 0)) || (x3.2.2 != 0)) || (x4.2.2 != 0)) || (x5.2 != 0))) rfl <| wpl_cut 3 [78, 79, 80] (fun f' w' => w' = w29 ∧ AllAt f' [(80, vb ((((((x1.2 != 0) || (x2.2 != 0)) || (x3.2.2 != 0)) || (x4.2.2 != 0)) || (x5.2 != 0)) || (x6.2 != 0)))]) ?_ ?_
 · rcases bool_tf (((((x1.2 != 0) || (x2.2 != 0)) || (x3.2.2 != 0)) || (x4.2.2 != 0)) || (x5.2 != 0)) with hb5 | hb5
   · exact wpl_no (d := 77) rfl rfl (cb hb5) <| wpl_no (d := 77) rfl rfl (cb hb5) <| s_pickT (cb hb5) rfl <| wpl_nil (nrm ⟨outP, rfl, congrArg Value.bool (or_t hb5), trivial⟩)
   · exact wpl_yes (d := 77) rfl rfl (cb hb5) <| s_mvv (v := vI x6.2) rfl <| wpl_yes (d := 77) rfl rfl (cb hb5) <| s_neq (m := x6.2) (n := 0) rfl rfl <| s_pickF (cb hb5) rfl <| wpl_nil (nrm ⟨outP, rfl, congrArg Value.bool (or_f hb5), trivial⟩)
 rintro f5 w30 ho ⟨h26, ha⟩
 subst h26
 obtain ⟨u5, rfl⟩ := fr_of (N := 212) ho ha
 refine s_mvv (v := vb ((((((x1.2 != 0) || (x2.2 != 0)) || (x3.2.2 != 0)) || (x4.2.2 != 0)) || (x5.2 != 0)) || (x6.2 != 0))) rfl <| wpl_cut 5 [82, 83, 84, 85, 86] (fun f' w' => w' = w30 ∧ AllAt f' [(86, vb (((((((x1.2 != 0) || (x2.2 != 0)) || (x3.2.2 != 0)) || (x4.2.2 != 0)) || (x5.2 != 0)) || (x6.2 != 0)) || ((x6.1.L.length : Int) != 2)))]) ?_ ?_
 · rcases bool_tf ((((((x1.2 != 0) || (x2.2 != 0)) || (x3.2.2 != 0)) || (x4.2.2 != 0)) || (x5.2 != 0)) || (x6.2 != 0)) with hb6 | hb6
   · exact wpl_no (d := 81) rfl rfl (cb hb6) <| wpl_no (d := 81) rfl rfl (cb hb6) <| wpl_no (d := 81) rfl rfl (cb hb6) <| wpl_no (d := 81) rfl rfl (cb hb6) <| s_pickT (cb hb6) rfl <| wpl_nil (nrm ⟨outP, rfl, congrArg Value.bool (or_t hb6), trivial⟩)
   · exact wpl_yes (d := 81) rfl rfl (cb hb6) <| s_fld (n := 0) rfl underlying26 rfl rfl sizeOf23 <| wpl_yes (d := 81) rfl rfl (cb hb6) <| s_ld (i := 0) (cs := [v16]) S28 rfl rfl isAgg23 sizeOf23 rfl (fun _ => rfl) <| wpl_yes (d := 81) rfl rfl (cb hb6) <| s_lenR (xs := x6.1.L) rfl h19 underlying23 <| wpl_yes (d := 81) rfl rfl (cb hb6) <| s_neq (m := (x6.1.L.length : Int)) (n := 2) rfl rfl <| s_pickF (cb hb6) rfl <| wpl_nil (nrm ⟨outP, rfl, congrArg Value.bool (or_f hb6), trivial⟩)
 rintro f6 w31 ho ⟨h27, ha⟩
 subst h27
 obtain ⟨u6, rfl⟩ := fr_of (N := 212) ho ha
 refine s_mvv (v := vb (((((((x1.2 != 0) || (x2.2 != 0)) || (x3.2.2 != 0)) || (x4.2.2 != 0)) || (x5.2 != 0)) || (x6.2 != 0)) || ((x6.1.L.length : Int) != 2))) rfl <| wpl_cut 5 [88, 89, 90, 91, 92] (fun f' w' => w' = w31 ∧ AllAt f' [(92, vb ((((((((x1.2 != 0) || (x2.2 != 0)) || (x3.2.2 != 0)) || (x4.2.2 != 0)) || (x5.2 != 0)) || (x6.2 != 0)) || ((x6.1.L.length : Int) != 2)) || ((x6.1.Wait.length : Int) != 0)))]) ?_ ?_
 · rcases bool_tf (((((((x1.2 != 0) || (x2.2 != 0)) || (x3.2.2 != 0)) || (x4.2.2 != 0)) || (x5.2 != 0)) || (x6.2 != 0)) || ((x6.1.L.length : Int) != 2)) with hb7 | hb7
   · exact wpl_no (d := 87) rfl rfl (cb hb7) <| wpl_no (d := 87) rfl rfl (cb hb7) <| wpl_no (d := 87) rfl rfl (cb hb7) <| wpl_no (d := 87) rfl rfl (cb hb7) <| s_pickT (cb hb7) rfl <| wpl_nil (nrm ⟨outP, rfl, congrArg Value.bool (or_t hb7), trivial⟩)
   · exact wpl_yes (d := 87) rfl rfl (cb hb7) <| s_fld (n := 0) rfl underlying26 rfl rfl sizeOf23 <| wpl_yes (d := 87) rfl rfl (cb hb7) <| s_ld (i := 0) (cs := [v18]) S28 rfl rfl isAgg23 sizeOf23 rfl (fun _ => rfl) <| wpl_yes (d := 87) rfl rfl (cb hb7) <| s_lenR (xs := x6.1.Wait) rfl h21 underlying23 <| wpl_yes (d := 87) rfl rfl (cb hb7) <| s_neq (m := (x6.1.Wait.length : Int)) (n := 0) rfl rfl <| s_pickF (cb hb7) rfl <| wpl_nil (nrm ⟨outP, rfl, congrArg Value.bool (or_f hb7), trivial⟩)
 rintro f7 w32 ho ⟨h28, ha⟩
 subst h28
 obtain ⟨u7, rfl⟩ := fr_of (N := 212) ho ha
 refine s_mvv (v := vb ((((((((x1.2 != 0) || (x2.2 != 0)) || (x3.2.2 != 0)) || (x4.2.2 != 0)) || (x5.2 != 0)) || (x6.2 != 0)) || ((x6.1.L.length : Int) != 2)) || ((x6.1.Wait.length : Int) != 0))) rfl <| wpl_cut 5 [94, 95, 96, 97, 98] (fun f' w' => w' = w32 ∧ AllAt f' [(98, vb (((((((((x1.2 != 0) || (x2.2 != 0)) || (x3.2.2 != 0)) || (x4.2.2 != 0)) || (x5.2 != 0)) || (x6.2 != 0)) || ((x6.1.L.length : Int) != 2)) || ((x6.1.Wait.length : Int) != 0)) || ((x6.1.Hide.length : Int) != 1)))]) ?_ ?_
 · rcases bool_tf ((((((((x1.2 != 0) || (x2.2 != 0)) || (x3.2.2 != 0)) || (x4.2.2 != 0)) || (x5.2 != 0)) || (x6.2 != 0)) || ((x6.1.L.length : Int) != 2)) || ((x6.1.Wait.length : Int) != 0)) with hb8 | hb8
   · exact wpl_no (d := 93) rfl rfl (cb hb8) <| wpl_no (d := 93) rfl rfl (cb hb8) <| wpl_no (d := 93) rfl rfl (cb hb8) <| wpl_no (d := 93) rfl rfl (cb hb8) <| s_pickT (cb hb8) rfl <| wpl_nil (nrm ⟨outP, rfl, congrArg Value.bool (or_t hb8), trivial⟩)
   · exact wpl_yes (d := 93) rfl rfl (cb hb8) <| s_fld (n := 0) rfl underlying26 rfl rfl sizeOf24 <| wpl_yes (d := 93) rfl rfl (cb hb8) <| s_ld (i := 0) (cs := [v17]) S28 rfl rfl isAgg24 sizeOf24 rfl (fun _ => rfl) <| wpl_yes (d := 93) rfl rfl (cb hb8) <| s_lenR (xs := x6.1.Hide) rfl h20 underlying24 <| wpl_yes (d := 93) rfl rfl (cb hb8) <| s_neq (m := (x6.1.Hide.length : Int)) (n := 1) rfl rfl <| s_pickF (cb hb8) rfl <| wpl_nil (nrm ⟨outP, rfl, congrArg Value.bool (or_f hb8), trivial⟩)
 rintro f8 w33 ho ⟨h29, ha⟩
 subst h29
 obtain ⟨u8, rfl⟩ := fr_of (N := 212) ho ha
 refine wpl_nil <| nrm <| wpc_if (t := (((((((((x1.2 != 0) || (x2.2 != 0)) || (x3.2.2 != 0)) || (x4.2.2 != 0)) || (x5.2 != 0)) || (x6.2 != 0)) || ((x6.1.L.length : Int) != 2)) || ((x6.1.Wait.length : Int) != 0)) || ((x6.1.Hide.length : Int) != 1))) rfl (fun hc1 => ?_) (fun hc1 => ?_)
 · replace hm := ifT hc1 hm
   refine ws <| s_asv (v := vb false) rfl <| wpl_nil <| nrm <| wpc_ret <| thR <| outRw fun we hpd => ?_
   replace S28 := St.pd S28 hpd
   obtain ⟨m10, l10, S29⟩ := St.drop S28 0
   clear S28
   replace S29 : St _ ((bx b4 (c_api_Promise x4.2.1) 45) :: (bx b3 (c_api_Promise x3.2.1) 45) :: (bx b2 (c_api_Key x2.1) 34) :: (bx b1 (c_api_Log x4.1 v10 v11 v12) 26) :: As) _ := S29
   obtain ⟨m11, l11, S30⟩ := St.drop S29 0
   clear S29
   replace S30 : St _ ((bx b3 (c_api_Promise x3.2.1) 45) :: (bx b2 (c_api_Key x2.1) 34) :: (bx b1 (c_api_Log x4.1 v10 v11 v12) 26) :: As) _ := S30
   obtain ⟨m12, l12, S31⟩ := St.drop S30 0
   clear S30
   replace S31 : St _ ((bx b2 (c_api_Key x2.1) 34) :: (bx b1 (c_api_Log x4.1 v10 v11 v12) 26) :: As) _ := S31
   obtain ⟨m13, l13, S32⟩ := St.drop S31 0
   clear S31
   replace S32 : St _ ((bx b1 (c_api_Log x4.1 v10 v11 v12) 26) :: As) _ := S32
   obtain ⟨m14, l14, S33⟩ := St.drop S32 0
   clear S32
   replace S33 : St _ (As) _ := S33
   have e0 := Option.some.inj hm
   subst e0
   replace L0 := Mem.tr L0 (mt l1 (mt l2 (mt l3 (mt l4 (mt l5 (mt l6 (mt l7 (mt l8 (mt l9 (mt l10 (mt l11 (mt l12 (mt l13 l14)))))))))))))
   exact outR [_] rfl ⟨rfl, trivial⟩ ⟨_, L0, S33, rfl⟩
 replace hm := ifF hc1 hm
 refine wpc_skip <| nrm <| ws <| s_ld (i := 0) (cs := (c_api_Log x6.1 v16 v17 v18)) S28 rfl rfl isAgg26 sizeOf26 rfl (fun h => by cases h) ?_
 obtain ⟨x7, q7, hm⟩ := obind_some hm
 refine s_call call28 (w_logd_Head (a0 := x6.1) (a1 := 0) (a2 := 1) (a3 := 9) S28 h19 h20 h21 q7) rfl ?_
 rintro _ w34 ⟨m15, l15, S34, rfl⟩
 clear S28
 refine s_mvv (v := .tuple #[.agg (c_api_Head x7.1).toArray, vI x7.2]) rfl <| s_ext (i := 0) rfl rfl <| s_ext (i := 1) rfl rfl <| s_alloc S34 zeroValue51 fun b6 w35 S35 => s_stL (i := 0) S35 rfl rfl rfl sizeOf51 (oneC rfl (oneC rfl (oneC rfl (oneC rfl (oneC rfl (oneC rfl (oneC rfl oneN))))))) rfl fun w36 S36 => ?_
 replace S36 : St _ ((bx b6 (c_api_Head x7.1) 51) :: (bx b5 (c_api_Log x6.1 v16 v17 v18) 26) :: (bx b4 (c_api_Promise x4.2.1) 45) :: (bx b3 (c_api_Promise x3.2.1) 45) :: (bx b2 (c_api_Key x2.1) 34) :: (bx b1 (c_api_Log x4.1 v10 v11 v12) 26) :: As) _ := S36
 clear S34 S35
 refine s_asv (v := vI x7.2) rfl <| nx <| s_ld (i := 1) (cs := (c_api_Log x6.1 v16 v17 v18)) S36 rfl rfl isAgg26 sizeOf26 rfl (fun h => by cases h) ?_
 obtain ⟨x8, q8, hm⟩ := obind_some hm
 refine s_call call28 (w_logd_Head (a0 := x6.1) (a1 := 1) (a2 := 1) (a3 := 9) S36 (h19.up l15) (h20.up l15) (h21.up l15) q8) rfl ?_
 rintro _ w37 ⟨m16, l16, S37, rfl⟩
 clear S36
 refine s_mvv (v := .tuple #[.agg (c_api_Head x8.1).toArray, vI x8.2]) rfl <| s_ext (i := 0) rfl rfl <| s_ext (i := 1) rfl rfl <| s_alloc S37 zeroValue51 fun b7 w38 S38 => s_stL (i := 0) S38 rfl rfl rfl sizeOf51 (oneC rfl (oneC rfl (oneC rfl (oneC rfl (oneC rfl (oneC rfl (oneC rfl oneN))))))) rfl fun w39 S39 => ?_
 replace S39 : St _ ((bx b7 (c_api_Head x8.1) 51) :: (bx b6 (c_api_Head x7.1) 51) :: (bx b5 (c_api_Log x6.1 v16 v17 v18) 26) :: (bx b4 (c_api_Promise x4.2.1) 45) :: (bx b3 (c_api_Promise x3.2.1) 45) :: (bx b2 (c_api_Key x2.1) 34) :: (bx b1 (c_api_Log x4.1 v10 v11 v12) 26) :: As) _ := S39
 clear S37 S38
 refine s_asv (v := vI x8.2) rfl <| nx <| s_ld (i := 2) (cs := (c_api_Log x6.1 v16 v17 v18)) S39 rfl rfl isAgg26 sizeOf26 rfl (fun h => by cases h) ?_
 obtain ⟨x9, q9, hm⟩ := obind_some hm
 replace h19 := h19.up (mt l15 l16)
 replace h20 := h20.up (mt l15 l16)
 replace h21 := h21.up (mt l15 l16)
 refine s_call call26 (w_logd_Leaves (a0 := x6.1) (a1 := 1) S39 h19 h20 h21 q9) rfl ?_
 rintro _ w40 ⟨m17, l17, v19, c1, S40, rfl, h30⟩
 clear S39
 refine s_mvv (v := .tuple #[v19, vI x9.2]) rfl <| s_ext (i := 0) rfl rfl <| s_ext (i := 1) rfl rfl <| s_asv (v := v19) rfl <| s_asv (v := vI x9.2) rfl <| nx <| s_ld (i := 3) (cs := (c_api_Log x6.1 v16 v17 v18)) S40 rfl rfl isAgg26 sizeOf26 rfl (fun h => by cases h) ?_
 obtain ⟨x10, q10, hm⟩ := obind_some hm
 refine s_call call26 (w_logd_Leaves (a0 := x6.1) (a1 := 2) S40 (h19.up l17) (h20.up l17) (h21.up l17) q10) rfl ?_
 rintro _ w41 ⟨m18, l18, v20, c2, S41, rfl, h31⟩
 clear S40
 refine s_mvv (v := .tuple #[v20, vI x10.2]) rfl <| s_ext (i := 0) rfl rfl <| s_ext (i := 1) rfl rfl <| s_asv (v := v20) rfl <| s_asv (v := vI x10.2) rfl <| nx <| s_ld (i := 4) (cs := (c_api_Log x6.1 v16 v17 v18)) S41 rfl rfl isAgg26 sizeOf26 rfl (fun h => by cases h) ?_
 obtain ⟨x11, q11, hm⟩ := obind_some hm
 replace h19 := h19.up (mt l17 l18)
 replace h20 := h20.up (mt l17 l18)
 replace h21 := h21.up (mt l17 l18)
 refine s_call call28 (w_logd_Head (a0 := x6.1) (a1 := 0) (a2 := 3) (a3 := 9) S41 h19 h20 h21 q11) rfl ?_
 rintro _ w42 ⟨m19, l19, S42, rfl⟩
 clear S41
 refine s_mvv (v := .tuple #[.agg (c_api_Head x11.1).toArray, vI x11.2]) rfl <| s_ext (i := 0) rfl rfl <| s_ext (i := 1) rfl rfl <| s_alloc S42 zeroValue51 fun b8 w43 S43 => s_stL (i := 0) S43 rfl rfl rfl sizeOf51 (oneC rfl (oneC rfl (oneC rfl (oneC rfl (oneC rfl (oneC rfl (oneC rfl oneN))))))) rfl fun w44 S44 => ?_
 replace S44 : St _ ((bx b8 (c_api_Head x11.1) 51) :: (row 2 v20 c2 x10.1.length) :: (row 2 v19 c1 x9.1.length) :: (bx b7 (c_api_Head x8.1) 51) :: (bx b6 (c_api_Head x7.1) 51) :: (bx b5 (c_api_Log x6.1 v16 v17 v18) 26) :: (bx b4 (c_api_Promise x4.2.1) 45) :: (bx b3 (c_api_Promise x3.2.1) 45) :: (bx b2 (c_api_Key x2.1) 34) :: (bx b1 (c_api_Log x4.1 v10 v11 v12) 26) :: As) _ := S44
 clear S42 S43
 refine s_asv (v := vI x11.2) rfl <| wpl_nil <| nrm <| wpc_seq <| ws <| s_mvv (v := vI x7.2) rfl <| s_neq (m := x7.2) (n := 0) rfl rfl <| s_mvv (v := vb (x7.2 != 0)) rfl <| wpl_cut 3 [127, 128, 129] (fun f' w' => w' = w44 ∧ AllAt f' [(129, vb ((x7.2 != 0) || (x8.2 != 0)))]) ?_ ?_
 · rcases bool_tf (x7.2 != 0) with hb9 | hb9
   · exact wpl_no (d := 126) rfl rfl (cb hb9) <| wpl_no (d := 126) rfl rfl (cb hb9) <| s_pickT (cb hb9) rfl <| wpl_nil (nrm ⟨outP, rfl, congrArg Value.bool (or_t hb9), trivial⟩)
   · exact wpl_yes (d := 126) rfl rfl (cb hb9) <| s_mvv (v := vI x8.2) rfl <| wpl_yes (d := 126) rfl rfl (cb hb9) <| s_neq (m := x8.2) (n := 0) rfl rfl <| s_pickF (cb hb9) rfl <| wpl_nil (nrm ⟨outP, rfl, congrArg Value.bool (or_f hb9), trivial⟩)
 rintro f9 w45 ho ⟨h32, ha⟩
 subst h32
 obtain ⟨u9, rfl⟩ := fr_of (N := 212) ho ha
 refine s_mvv (v := vb ((x7.2 != 0) || (x8.2 != 0))) rfl <| wpl_cut 3 [131, 132, 133] (fun f' w' => w' = w45 ∧ AllAt f' [(133, vb (((x7.2 != 0) || (x8.2 != 0)) || (x9.2 != 0)))]) ?_ ?_
 · rcases bool_tf ((x7.2 != 0) || (x8.2 != 0)) with hb10 | hb10
   · exact wpl_no (d := 130) rfl rfl (cb hb10) <| wpl_no (d := 130) rfl rfl (cb hb10) <| s_pickT (cb hb10) rfl <| wpl_nil (nrm ⟨outP, rfl, congrArg Value.bool (or_t hb10), trivial⟩)
   · exact wpl_yes (d := 130) rfl rfl (cb hb10) <| s_mvv (v := vI x9.2) rfl <| wpl_yes (d := 130) rfl rfl (cb hb10) <| s_neq (m := x9.2) (n := 0) rfl rfl <| s_pickF (cb hb10) rfl <| wpl_nil (nrm ⟨outP, rfl, congrArg Value.bool (or_f hb10), trivial⟩)
 rintro f10 w46 ho ⟨h33, ha⟩
 subst h33
 obtain ⟨u10, rfl⟩ := fr_of (N := 212) ho ha
 refine s_mvv (v := vb (((x7.2 != 0) || (x8.2 != 0)) || (x9.2 != 0))) rfl <| wpl_cut 4 [135, 136, 137, 138] (fun f' w' => w' = w46 ∧ AllAt f' [(138, vb ((((x7.2 != 0) || (x8.2 != 0)) || (x9.2 != 0)) || ((x9.1.length : Int) != 2)))]) ?_ ?_
 · rcases bool_tf (((x7.2 != 0) || (x8.2 != 0)) || (x9.2 != 0)) with hb11 | hb11
   · exact wpl_no (d := 134) rfl rfl (cb hb11) <| wpl_no (d := 134) rfl rfl (cb hb11) <| wpl_no (d := 134) rfl rfl (cb hb11) <| s_pickT (cb hb11) rfl <| wpl_nil (nrm ⟨outP, rfl, congrArg Value.bool (or_t hb11), trivial⟩)
   · exact wpl_yes (d := 134) rfl rfl (cb hb11) <| s_mvv (v := v19) rfl <| wpl_yes (d := 134) rfl rfl (cb hb11) <| s_lenO (i := 2) S44 rfl rfl underlying55 <| wpl_yes (d := 134) rfl rfl (cb hb11) <| s_neq (m := (x9.1.length : Int)) (n := 2) rfl rfl <| s_pickF (cb hb11) rfl <| wpl_nil (nrm ⟨outP, rfl, congrArg Value.bool (or_f hb11), trivial⟩)
 rintro f11 w47 ho ⟨h34, ha⟩
 subst h34
 obtain ⟨u11, rfl⟩ := fr_of (N := 212) ho ha
 refine wpl_nil <| nrm <| wpc_if (t := ((((x7.2 != 0) || (x8.2 != 0)) || (x9.2 != 0)) || ((x9.1.length : Int) != 2))) rfl (fun hc2 => ?_) (fun hc2 => ?_)
 · replace hm := ifT hc2 hm
   refine ws <| s_asv (v := vb false) rfl <| wpl_nil <| nrm <| wpc_ret <| thR <| outRw fun we hpd => ?_
   replace S44 := St.pd S44 hpd
   obtain ⟨m20, l20, S45⟩ := St.drop S44 0
   clear S44
   replace S45 : St _ ((row 2 v20 c2 x10.1.length) :: (row 2 v19 c1 x9.1.length) :: (bx b7 (c_api_Head x8.1) 51) :: (bx b6 (c_api_Head x7.1) 51) :: (bx b5 (c_api_Log x6.1 v16 v17 v18) 26) :: (bx b4 (c_api_Promise x4.2.1) 45) :: (bx b3 (c_api_Promise x3.2.1) 45) :: (bx b2 (c_api_Key x2.1) 34) :: (bx b1 (c_api_Log x4.1 v10 v11 v12) 26) :: As) _ := S45
   obtain ⟨m21, l21, S46⟩ := St.drop S45 0
   clear S45
   replace S46 : St _ ((row 2 v19 c1 x9.1.length) :: (bx b7 (c_api_Head x8.1) 51) :: (bx b6 (c_api_Head x7.1) 51) :: (bx b5 (c_api_Log x6.1 v16 v17 v18) 26) :: (bx b4 (c_api_Promise x4.2.1) 45) :: (bx b3 (c_api_Promise x3.2.1) 45) :: (bx b2 (c_api_Key x2.1) 34) :: (bx b1 (c_api_Log x4.1 v10 v11 v12) 26) :: As) _ := S46
   obtain ⟨m22, l22, S47⟩ := St.drop S46 0
   clear S46
   replace S47 : St _ ((bx b7 (c_api_Head x8.1) 51) :: (bx b6 (c_api_Head x7.1) 51) :: (bx b5 (c_api_Log x6.1 v16 v17 v18) 26) :: (bx b4 (c_api_Promise x4.2.1) 45) :: (bx b3 (c_api_Promise x3.2.1) 45) :: (bx b2 (c_api_Key x2.1) 34) :: (bx b1 (c_api_Log x4.1 v10 v11 v12) 26) :: As) _ := S47
   obtain ⟨m23, l23, S48⟩ := St.drop S47 0
   clear S47
   replace S48 : St _ ((bx b6 (c_api_Head x7.1) 51) :: (bx b5 (c_api_Log x6.1 v16 v17 v18) 26) :: (bx b4 (c_api_Promise x4.2.1) 45) :: (bx b3 (c_api_Promise x3.2.1) 45) :: (bx b2 (c_api_Key x2.1) 34) :: (bx b1 (c_api_Log x4.1 v10 v11 v12) 26) :: As) _ := S48
   obtain ⟨m24, l24, S49⟩ := St.drop S48 0
   clear S48
   replace S49 : St _ ((bx b5 (c_api_Log x6.1 v16 v17 v18) 26) :: (bx b4 (c_api_Promise x4.2.1) 45) :: (bx b3 (c_api_Promise x3.2.1) 45) :: (bx b2 (c_api_Key x2.1) 34) :: (bx b1 (c_api_Log x4.1 v10 v11 v12) 26) :: As) _ := S49
   obtain ⟨m25, l25, S50⟩ := St.drop S49 0
   clear S49
   replace S50 : St _ ((bx b4 (c_api_Promise x4.2.1) 45) :: (bx b3 (c_api_Promise x3.2.1) 45) :: (bx b2 (c_api_Key x2.1) 34) :: (bx b1 (c_api_Log x4.1 v10 v11 v12) 26) :: As) _ := S50
   obtain ⟨m26, l26, S51⟩ := St.drop S50 0
   clear S50
   replace S51 : St _ ((bx b3 (c_api_Promise x3.2.1) 45) :: (bx b2 (c_api_Key x2.1) 34) :: (bx b1 (c_api_Log x4.1 v10 v11 v12) 26) :: As) _ := S51
   obtain ⟨m27, l27, S52⟩ := St.drop S51 0
   clear S51
   replace S52 : St _ ((bx b2 (c_api_Key x2.1) 34) :: (bx b1 (c_api_Log x4.1 v10 v11 v12) 26) :: As) _ := S52
   obtain ⟨m28, l28, S53⟩ := St.drop S52 0
   clear S52
   replace S53 : St _ ((bx b1 (c_api_Log x4.1 v10 v11 v12) 26) :: As) _ := S53
   obtain ⟨m29, l29, S54⟩ := St.drop S53 0
   clear S53
   replace S54 : St _ (As) _ := S54
   have e0 := Option.some.inj hm
   subst e0
   replace L0 := Mem.tr L0 (mt l1 (mt l2 (mt l3 (mt l4 (mt l5 (mt l6 (mt l7 (mt l8 (mt l9 (mt l15 (mt l16 (mt l17 (mt l18 (mt l19 (mt l20 (mt l21 (mt l22 (mt l23 (mt l24 (mt l25 (mt l26 (mt l27 (mt l28 l29)))))))))))))))))))))))
   exact outR [_] rfl ⟨rfl, trivial⟩ ⟨_, L0, S54, rfl⟩
 replace hm := ifF hc2 hm
 refine wpc_skip <| nrm <| wpc_seq ?_
 obtain ⟨x12, q12, hm⟩ := obind_some hm
 obtain ⟨x13, q13, hm⟩ := obind_some hm
 obtain ⟨x14, q14, hm⟩ := obind_some hm
 obtain ⟨x15, q15, hm⟩ := obind_some hm
 obtain ⟨x16, q16, hm⟩ := obind_some hm
 obtain ⟨x17, q17, hm⟩ := obind_some hm
 obtain ⟨x18, q18, hm⟩ := obind_some hm
 have HM : MonoAll [(139, fv (pt b2 0)), (140, fv (vI x2.1.Log)), (141, fv (vb (x2.1.Log == 3))), (142, fv (vb (x2.1.Log == 3))), (143, fc (x2.1.Log == 3) (fv (pt b2 2))), (144, fc (x2.1.Log == 3) (fv (vI x2.1.Delay))), (145, fc (x2.1.Log == 3) (fv (vb (x2.1.Delay == 20)))), (146, fv (vb ((x2.1.Log == 3) && (x2.1.Delay == 20)))), (147, fv (vb ((x2.1.Log == 3) && (x2.1.Delay == 20)))), (148, fc ((x2.1.Log == 3) && (x2.1.Delay == 20)) (fv (pt b3 0))), (149, fc ((x2.1.Log == 3) && (x2.1.Delay == 20)) (fv (vI x3.2.1.Log))), (150, fc ((x2.1.Log == 3) && (x2.1.Delay == 20)) (fv (vb (x3.2.1.Log == 3)))), (151, fv (vb (((x2.1.Log == 3) && (x2.1.Delay == 20)) && (x3.2.1.Log == 3)))), (152, fv (vb (((x2.1.Log == 3) && (x2.1.Delay == 20)) && (x3.2.1.Log == 3)))), (153, fc (((x2.1.Log == 3) && (x2.1.Delay == 20)) && (x3.2.1.Log == 3)) (fv (pt b3 1))), (154, fc (((x2.1.Log == 3) && (x2.1.Delay == 20)) && (x3.2.1.Log == 3)) (fv (vI x3.2.1.At))), (155, fc (((x2.1.Log == 3) && (x2.1.Delay == 20)) && (x3.2.1.Log == 3)) (fv (vb (x3.2.1.At == 5)))), (156, fv (vb ((((x2.1.Log == 3) && (x2.1.Delay == 20)) && (x3.2.1.Log == 3)) && (x3.2.1.At == 5)))), (157, fv (vb ((((x2.1.Log == 3) && (x2.1.Delay == 20)) && (x3.2.1.Log == 3)) && (x3.2.1.At == 5)))), (158, fc ((((x2.1.Log == 3) && (x2.1.Delay == 20)) && (x3.2.1.Log == 3)) && (x3.2.1.At == 5)) (fv (pt b3 2))), (159, fc ((((x2.1.Log == 3) && (x2.1.Delay == 20)) && (x3.2.1.Log == 3)) && (x3.2.1.At == 5)) (fv (.agg #[vU x3.2.1.Leaf.1, vU x3.2.1.Leaf.2]))), (160, fun _ _ => True), (161, fc ((((x2.1.Log == 3) && (x2.1.Delay == 20)) && (x3.2.1.Log == 3)) && (x3.2.1.At == 5)) (fun (M : Mem) (v : Value) => ∃ (v22 : Value), v = v22 ∧ SlR M v22 ([97] : List UInt8))), (162, fc ((((x2.1.Log == 3) && (x2.1.Delay == 20)) && (x3.2.1.Log == 3)) && (x3.2.1.At == 5)) (fv (.agg #[vU x12.1, vU x12.2]))), (163, fc ((((x2.1.Log == 3) && (x2.1.Delay == 20)) && (x3.2.1.Log == 3)) && (x3.2.1.At == 5)) (fv (vb (eqSum x3.2.1.Leaf x12)))), (164, fv (vb (((((x2.1.Log == 3) && (x2.1.Delay == 20)) && (x3.2.1.Log == 3)) && (x3.2.1.At == 5)) && (eqSum x3.2.1.Leaf x12)))), (165, fv (vb (((((x2.1.Log == 3) && (x2.1.Delay == 20)) && (x3.2.1.Log == 3)) && (x3.2.1.At == 5)) && (eqSum x3.2.1.Leaf x12)))), (166, fc (((((x2.1.Log == 3) && (x2.1.Delay == 20)) && (x3.2.1.Log == 3)) && (x3.2.1.At == 5)) && (eqSum x3.2.1.Leaf x12)) (fv (.agg (c_api_Key x2.1).toArray))), (167, fc (((((x2.1.Log == 3) && (x2.1.Delay == 20)) && (x3.2.1.Log == 3)) && (x3.2.1.At == 5)) && (eqSum x3.2.1.Leaf x12)) (fv (.agg (c_api_Promise x3.2.1).toArray))), (168, fc (((((x2.1.Log == 3) && (x2.1.Delay == 20)) && (x3.2.1.Log == 3)) && (x3.2.1.At == 5)) && (eqSum x3.2.1.Leaf x12)) (fv (vI x13))), (169, fc (((((x2.1.Log == 3) && (x2.1.Delay == 20)) && (x3.2.1.Log == 3)) && (x3.2.1.At == 5)) && (eqSum x3.2.1.Leaf x12)) (fv (vb (x13 == 0)))), (170, fv (vb ((((((x2.1.Log == 3) && (x2.1.Delay == 20)) && (x3.2.1.Log == 3)) && (x3.2.1.At == 5)) && (eqSum x3.2.1.Leaf x12)) && (x13 == 0)))), (171, fv (vb ((((((x2.1.Log == 3) && (x2.1.Delay == 20)) && (x3.2.1.Log == 3)) && (x3.2.1.At == 5)) && (eqSum x3.2.1.Leaf x12)) && (x13 == 0)))), (172, fc ((((((x2.1.Log == 3) && (x2.1.Delay == 20)) && (x3.2.1.Log == 3)) && (x3.2.1.At == 5)) && (eqSum x3.2.1.Leaf x12)) && (x13 == 0)) (fv (.agg (c_api_Head x7.1).toArray))), (173, fc ((((((x2.1.Log == 3) && (x2.1.Delay == 20)) && (x3.2.1.Log == 3)) && (x3.2.1.At == 5)) && (eqSum x3.2.1.Leaf x12)) && (x13 == 0)) (fv (.agg (c_api_Head x8.1).toArray))), (174, fc ((((((x2.1.Log == 3) && (x2.1.Delay == 20)) && (x3.2.1.Log == 3)) && (x3.2.1.At == 5)) && (eqSum x3.2.1.Leaf x12)) && (x13 == 0)) (fv (vb (eq_api_Head x7.1 x8.1)))), (175, fv (vb (((((((x2.1.Log == 3) && (x2.1.Delay == 20)) && (x3.2.1.Log == 3)) && (x3.2.1.At == 5)) && (eqSum x3.2.1.Leaf x12)) && (x13 == 0)) && (eq_api_Head x7.1 x8.1)))), (176, fv (vb (((((((x2.1.Log == 3) && (x2.1.Delay == 20)) && (x3.2.1.Log == 3)) && (x3.2.1.At == 5)) && (eqSum x3.2.1.Leaf x12)) && (x13 == 0)) && (eq_api_Head x7.1 x8.1)))), (177, fc (((((((x2.1.Log == 3) && (x2.1.Delay == 20)) && (x3.2.1.Log == 3)) && (x3.2.1.At == 5)) && (eqSum x3.2.1.Leaf x12)) && (x13 == 0)) && (eq_api_Head x7.1 x8.1)) (fv (.agg (c_api_Key x2.1).toArray))), (178, fc (((((((x2.1.Log == 3) && (x2.1.Delay == 20)) && (x3.2.1.Log == 3)) && (x3.2.1.At == 5)) && (eqSum x3.2.1.Leaf x12)) && (x13 == 0)) && (eq_api_Head x7.1 x8.1)) (fv (.agg (c_api_Head x7.1).toArray))), (179, fc (((((((x2.1.Log == 3) && (x2.1.Delay == 20)) && (x3.2.1.Log == 3)) && (x3.2.1.At == 5)) && (eqSum x3.2.1.Leaf x12)) && (x13 == 0)) && (eq_api_Head x7.1 x8.1)) (fv (vI x14))), (180, fc (((((((x2.1.Log == 3) && (x2.1.Delay == 20)) && (x3.2.1.Log == 3)) && (x3.2.1.At == 5)) && (eqSum x3.2.1.Leaf x12)) && (x13 == 0)) && (eq_api_Head x7.1 x8.1)) (fv (vb (x14 == 0)))), (181, fv (vb ((((((((x2.1.Log == 3) && (x2.1.Delay == 20)) && (x3.2.1.Log == 3)) && (x3.2.1.At == 5)) && (eqSum x3.2.1.Leaf x12)) && (x13 == 0)) && (eq_api_Head x7.1 x8.1)) && (x14 == 0)))), (182, fv (vb ((((((((x2.1.Log == 3) && (x2.1.Delay == 20)) && (x3.2.1.Log == 3)) && (x3.2.1.At == 5)) && (eqSum x3.2.1.Leaf x12)) && (x13 == 0)) && (eq_api_Head x7.1 x8.1)) && (x14 == 0)))), (183, fc ((((((((x2.1.Log == 3) && (x2.1.Delay == 20)) && (x3.2.1.Log == 3)) && (x3.2.1.At == 5)) && (eqSum x3.2.1.Leaf x12)) && (x13 == 0)) && (eq_api_Head x7.1 x8.1)) && (x14 == 0)) (fv v19)), (184, fc ((((((((x2.1.Log == 3) && (x2.1.Delay == 20)) && (x3.2.1.Log == 3)) && (x3.2.1.At == 5)) && (eqSum x3.2.1.Leaf x12)) && (x13 == 0)) && (eq_api_Head x7.1 x8.1)) && (x14 == 0)) (fun (M : Mem) (v : Value) => ∃ (p1 : Value), v = p1 ∧ PtO v19 p1 ((0 : Int).toNat * 2))), (185, fc ((((((((x2.1.Log == 3) && (x2.1.Delay == 20)) && (x3.2.1.Log == 3)) && (x3.2.1.At == 5)) && (eqSum x3.2.1.Leaf x12)) && (x13 == 0)) && (eq_api_Head x7.1 x8.1)) && (x14 == 0)) (fv (.agg #[vU x15.1, vU x15.2]))), (186, fun _ _ => True), (187, fc ((((((((x2.1.Log == 3) && (x2.1.Delay == 20)) && (x3.2.1.Log == 3)) && (x3.2.1.At == 5)) && (eqSum x3.2.1.Leaf x12)) && (x13 == 0)) && (eq_api_Head x7.1 x8.1)) && (x14 == 0)) (fun (M : Mem) (v : Value) => ∃ (v27 : Value), v = v27 ∧ SlR M v27 ([97] : List UInt8))), (188, fc ((((((((x2.1.Log == 3) && (x2.1.Delay == 20)) && (x3.2.1.Log == 3)) && (x3.2.1.At == 5)) && (eqSum x3.2.1.Leaf x12)) && (x13 == 0)) && (eq_api_Head x7.1 x8.1)) && (x14 == 0)) (fv (.agg #[vU x16.1, vU x16.2]))), (189, fc ((((((((x2.1.Log == 3) && (x2.1.Delay == 20)) && (x3.2.1.Log == 3)) && (x3.2.1.At == 5)) && (eqSum x3.2.1.Leaf x12)) && (x13 == 0)) && (eq_api_Head x7.1 x8.1)) && (x14 == 0)) (fv (vb (eqSum x15 x16)))), (190, fv (vb (((((((((x2.1.Log == 3) && (x2.1.Delay == 20)) && (x3.2.1.Log == 3)) && (x3.2.1.At == 5)) && (eqSum x3.2.1.Leaf x12)) && (x13 == 0)) && (eq_api_Head x7.1 x8.1)) && (x14 == 0)) && (eqSum x15 x16)))), (191, fv (vb (((((((((x2.1.Log == 3) && (x2.1.Delay == 20)) && (x3.2.1.Log == 3)) && (x3.2.1.At == 5)) && (eqSum x3.2.1.Leaf x12)) && (x13 == 0)) && (eq_api_Head x7.1 x8.1)) && (x14 == 0)) && (eqSum x15 x16)))), (192, fc (((((((((x2.1.Log == 3) && (x2.1.Delay == 20)) && (x3.2.1.Log == 3)) && (x3.2.1.At == 5)) && (eqSum x3.2.1.Leaf x12)) && (x13 == 0)) && (eq_api_Head x7.1 x8.1)) && (x14 == 0)) && (eqSum x15 x16)) (fv v19)), (193, fc (((((((((x2.1.Log == 3) && (x2.1.Delay == 20)) && (x3.2.1.Log == 3)) && (x3.2.1.At == 5)) && (eqSum x3.2.1.Leaf x12)) && (x13 == 0)) && (eq_api_Head x7.1 x8.1)) && (x14 == 0)) && (eqSum x15 x16)) (fun (M : Mem) (v : Value) => ∃ (p2 : Value), v = p2 ∧ PtO v19 p2 ((1 : Int).toNat * 2))), (194, fc (((((((((x2.1.Log == 3) && (x2.1.Delay == 20)) && (x3.2.1.Log == 3)) && (x3.2.1.At == 5)) && (eqSum x3.2.1.Leaf x12)) && (x13 == 0)) && (eq_api_Head x7.1 x8.1)) && (x14 == 0)) && (eqSum x15 x16)) (fv (.agg #[vU x17.1, vU x17.2]))), (195, fc (((((((((x2.1.Log == 3) && (x2.1.Delay == 20)) && (x3.2.1.Log == 3)) && (x3.2.1.At == 5)) && (eqSum x3.2.1.Leaf x12)) && (x13 == 0)) && (eq_api_Head x7.1 x8.1)) && (x14 == 0)) && (eqSum x15 x16)) (fun (M : Mem) (v : Value) => ∃ (v31 : Value), v = v31 ∧ SlR M v31 ([0, 98] : List UInt8))), (196, fc (((((((((x2.1.Log == 3) && (x2.1.Delay == 20)) && (x3.2.1.Log == 3)) && (x3.2.1.At == 5)) && (eqSum x3.2.1.Leaf x12)) && (x13 == 0)) && (eq_api_Head x7.1 x8.1)) && (x14 == 0)) && (eqSum x15 x16)) (fv (.agg #[vU x18.1, vU x18.2]))), (197, fc (((((((((x2.1.Log == 3) && (x2.1.Delay == 20)) && (x3.2.1.Log == 3)) && (x3.2.1.At == 5)) && (eqSum x3.2.1.Leaf x12)) && (x13 == 0)) && (eq_api_Head x7.1 x8.1)) && (x14 == 0)) && (eqSum x15 x16)) (fv (vb (eqSum x17 x18)))), (198, fv (vb ((((((((((x2.1.Log == 3) && (x2.1.Delay == 20)) && (x3.2.1.Log == 3)) && (x3.2.1.At == 5)) && (eqSum x3.2.1.Leaf x12)) && (x13 == 0)) && (eq_api_Head x7.1 x8.1)) && (x14 == 0)) && (eqSum x15 x16)) && (eqSum x17 x18))))] := ⟨mv, mv, mv, mv, (mc mv), (mc mv), (mc mv), mv, mv, (mc mv), (mc mv), (mc mv), mv, mv, (mc mv), (mc mv), (mc mv), mv, mv, (mc mv), (mc mv), (fun _ _ _ _ h => h), (mc (fun _ _ _ l ⟨v22, e, h37⟩ => ⟨v22, e, h37.up l⟩)), (mc mv), (mc mv), mv, mv, (mc mv), (mc mv), (mc mv), (mc mv), mv, mv, (mc mv), (mc mv), (mc mv), mv, mv, (mc mv), (mc mv), (mc mv), (mc mv), mv, mv, (mc mv), (mc (fun _ _ _ l ⟨p1, e, h39⟩ => ⟨p1, e, h39⟩)), (mc mv), (fun _ _ _ _ h => h), (mc (fun _ _ _ l ⟨v27, e, h43⟩ => ⟨v27, e, h43.up l⟩)), (mc mv), (mc mv), mv, mv, (mc mv), (mc (fun _ _ _ l ⟨p2, e, h45⟩ => ⟨p2, e, h45⟩)), (mc mv), (mc (fun _ _ _ l ⟨v31, e, h47⟩ => ⟨v31, e, h47.up l⟩)), (mc mv), (mc mv), mv, trivial⟩
 refine wpc_flowG HM 60 mixed rfl rfl rfl (rg 139 60) (fun L f M w => ∃ (X1 : List Ow), ∃ (X2 : List Ow), ((L 21 = false → X1 = []) ∧ (L 21 = true → L 22 = false → ((((((x2.1.Log == 3) && (x2.1.Delay == 20)) && (x3.2.1.Log == 3)) && (x3.2.1.At == 5)) = true → (RowS M X1 1 (f 160) ([97] : List UInt8))) ∧ (((((x2.1.Log == 3) && (x2.1.Delay == 20)) && (x3.2.1.Log == 3)) && (x3.2.1.At == 5)) = false → X1 = []))) ∧ (L 22 = true → X1 = [])) ∧ ((L 47 = false → X2 = []) ∧ (L 47 = true → L 48 = false → ((((((((((x2.1.Log == 3) && (x2.1.Delay == 20)) && (x3.2.1.Log == 3)) && (x3.2.1.At == 5)) && (eqSum x3.2.1.Leaf x12)) && (x13 == 0)) && (eq_api_Head x7.1 x8.1)) && (x14 == 0)) = true → (RowS M X2 1 (f 186) ([97] : List UInt8))) ∧ (((((((((x2.1.Log == 3) && (x2.1.Delay == 20)) && (x3.2.1.Log == 3)) && (x3.2.1.At == 5)) && (eqSum x3.2.1.Leaf x12)) && (x13 == 0)) && (eq_api_Head x7.1 x8.1)) && (x14 == 0)) = false → X2 = []))) ∧ (L 48 = true → X2 = [])) ∧ St M ((bx b8 (c_api_Head x11.1) 51) :: (row 2 v20 c2 x10.1.length) :: (row 2 v19 c1 x9.1.length) :: (bx b7 (c_api_Head x8.1) 51) :: (bx b6 (c_api_Head x7.1) 51) :: (bx b5 (c_api_Log x6.1 v16 v17 v18) 26) :: (bx b4 (c_api_Promise x4.2.1) 45) :: (bx b3 (c_api_Promise x3.2.1) 45) :: (bx b2 (c_api_Key x2.1) 34) :: (bx b1 (c_api_Log x4.1 v10 v11 v12) 26) :: (X1 ++ (X2 ++ As))) w) (⟨[], [], ⟨fun _ => rfl, fun hx _ => ff hx, fun hx => ff hx⟩, ⟨fun _ => rfl, fun hx _ => ff hx, fun hx => ff hx⟩, St.drew S44 _⟩) ?_ ?_
 · refine ⟨?_, ?_, ?_, ?_, ?_, ?_, ?_, ?_, ?_, ?_, ?_, ?_, ?_, ?_, ?_, ?_, ?_, ?_, ?_, ?_, ?_, ?_, ?_, ?_, ?_, ?_, ?_, ?_, ?_, ?_, ?_, ?_, ?_, ?_, ?_, ?_, ?_, ?_, ?_, ?_, ?_, ?_, ?_, ?_, ?_, ?_, ?_, ?_, ?_, ?_, ?_, ?_, ?_, ?_, ?_, ?_, ?_, ?_, ?_, ?_, trivial⟩
   · exact flp HM rfl [] (fun _ _ => trivial) (fun _ _ q => s_fld (n := 0) rfl underlying34 rfl rfl sizeOf3 q) rfl
   · exact flp HM rfl [(139, _)] (fun K _ => ⟨K 0 rfl, trivial⟩) (fun _ ⟨_, _, _, _, S56⟩ q => s_ld (i := 8) (cs := [vI x2.1.Log]) S56 rfl rfl isAgg3 sizeOf3 rfl (fun _ => rfl) q) rfl
   · exact flp HM rfl [(140, _)] (fun K _ => ⟨K 1 rfl, trivial⟩) (fun _ _ q => s_eql (m := x2.1.Log) (n := 3) rfl rfl q) rfl
   · exact flp HM rfl [(141, _)] (fun K _ => ⟨K 2 rfl, trivial⟩) (fun _ _ q => s_mvv (v := vb (x2.1.Log == 3)) rfl q) rfl
   · exact flg HM rfl rfl (fun K _ => K 3 rfl) [] (fun _ _ _ => trivial) (fun _ => fun _ _ q => s_fld (n := 0) rfl underlying34 rfl rfl sizeOf3 q) (fun _ => rfl)
   · exact flg HM rfl rfl (fun K _ => K 3 rfl) [(143, _)] (fun K _ hb => ⟨(K 4 rfl).1 hb, trivial⟩) (fun _ => fun _ ⟨_, _, _, _, S60⟩ q => s_ld (i := 8) (cs := [vI x2.1.Delay]) S60 rfl rfl isAgg3 sizeOf3 rfl (fun _ => rfl) q) (fun _ => rfl)
   · exact flg HM rfl rfl (fun K _ => K 3 rfl) [(144, _)] (fun K _ hb => ⟨(K 5 rfl).1 hb, trivial⟩) (fun _ => fun _ _ q => s_eql (m := x2.1.Delay) (n := 20) rfl rfl q) (fun _ => rfl)
   · exact flc HM rfl (x2.1.Log == 3) [(142, _), (145, _)] [(142, _)] (fun K _ hb => ⟨K 3 rfl, (K 6 rfl).1 hb, trivial⟩) (fun K _ _ => ⟨K 3 rfl, trivial⟩) (fun hb => fun _ _ q => s_pickT (cb hb) rfl q) (fun hb => fun _ _ q => s_pickF (cb hb) rfl q) (fun hb => cb (and_t hb)) (fun hb => cb (and_f hb))
   · exact flp HM rfl [(146, _)] (fun K _ => ⟨K 7 rfl, trivial⟩) (fun _ _ q => s_mvv (v := vb ((x2.1.Log == 3) && (x2.1.Delay == 20))) rfl q) rfl
   · exact flg HM rfl rfl (fun K _ => K 8 rfl) [] (fun _ _ _ => trivial) (fun _ => fun _ _ q => s_fld (n := 0) rfl underlying45 rfl rfl sizeOf3 q) (fun _ => rfl)
   · exact flg HM rfl rfl (fun K _ => K 8 rfl) [(148, _)] (fun K _ hb => ⟨(K 9 rfl).1 hb, trivial⟩) (fun _ => fun _ ⟨_, _, _, _, S65⟩ q => s_ld (i := 7) (cs := [vI x3.2.1.Log]) S65 rfl rfl isAgg3 sizeOf3 rfl (fun _ => rfl) q) (fun _ => rfl)
   · exact flg HM rfl rfl (fun K _ => K 8 rfl) [(149, _)] (fun K _ hb => ⟨(K 10 rfl).1 hb, trivial⟩) (fun _ => fun _ _ q => s_eql (m := x3.2.1.Log) (n := 3) rfl rfl q) (fun _ => rfl)
   · exact flc HM rfl ((x2.1.Log == 3) && (x2.1.Delay == 20)) [(147, _), (150, _)] [(147, _)] (fun K _ hb => ⟨K 8 rfl, (K 11 rfl).1 hb, trivial⟩) (fun K _ _ => ⟨K 8 rfl, trivial⟩) (fun hb => fun _ _ q => s_pickT (cb hb) rfl q) (fun hb => fun _ _ q => s_pickF (cb hb) rfl q) (fun hb => cb (and_t hb)) (fun hb => cb (and_f hb))
   · exact flp HM rfl [(151, _)] (fun K _ => ⟨K 12 rfl, trivial⟩) (fun _ _ q => s_mvv (v := vb (((x2.1.Log == 3) && (x2.1.Delay == 20)) && (x3.2.1.Log == 3))) rfl q) rfl
   · exact flg HM rfl rfl (fun K _ => K 13 rfl) [] (fun _ _ _ => trivial) (fun _ => fun _ _ q => s_fld (n := 0) rfl underlying45 rfl rfl sizeOf3 q) (fun _ => rfl)
   · exact flg HM rfl rfl (fun K _ => K 13 rfl) [(153, _)] (fun K _ hb => ⟨(K 14 rfl).1 hb, trivial⟩) (fun _ => fun _ ⟨_, _, _, _, S70⟩ q => s_ld (i := 7) (cs := [vI x3.2.1.At]) S70 rfl rfl isAgg3 sizeOf3 rfl (fun _ => rfl) q) (fun _ => rfl)
   · exact flg HM rfl rfl (fun K _ => K 13 rfl) [(154, _)] (fun K _ hb => ⟨(K 15 rfl).1 hb, trivial⟩) (fun _ => fun _ _ q => s_eql (m := x3.2.1.At) (n := 5) rfl rfl q) (fun _ => rfl)
   · exact flc HM rfl (((x2.1.Log == 3) && (x2.1.Delay == 20)) && (x3.2.1.Log == 3)) [(152, _), (155, _)] [(152, _)] (fun K _ hb => ⟨K 13 rfl, (K 16 rfl).1 hb, trivial⟩) (fun K _ _ => ⟨K 13 rfl, trivial⟩) (fun hb => fun _ _ q => s_pickT (cb hb) rfl q) (fun hb => fun _ _ q => s_pickF (cb hb) rfl q) (fun hb => cb (and_t hb)) (fun hb => cb (and_f hb))
   · exact flp HM rfl [(156, _)] (fun K _ => ⟨K 17 rfl, trivial⟩) (fun _ _ q => s_mvv (v := vb ((((x2.1.Log == 3) && (x2.1.Delay == 20)) && (x3.2.1.Log == 3)) && (x3.2.1.At == 5))) rfl q) rfl
   · exact flg HM rfl rfl (fun K _ => K 18 rfl) [] (fun _ _ _ => trivial) (fun _ => fun _ _ q => s_fld (n := 1) rfl underlying45 rfl rfl sizeOf41 q) (fun _ => rfl)
   · exact flg HM rfl rfl (fun K _ => K 18 rfl) [(158, _)] (fun K _ hb => ⟨(K 19 rfl).1 hb, trivial⟩) (fun _ => fun _ ⟨_, _, _, _, S75⟩ q => s_ld (i := 7) (cs := [vU x3.2.1.Leaf.1, vU x3.2.1.Leaf.2]) S75 rfl rfl isAgg41 sizeOf41 rfl (fun h => by cases h) q) (fun _ => rfl)
   · intro L f33 w69 hL hd hc ⟨m51, L46, ⟨X1, X2, C43, C44, S76⟩, K, hO⟩
     rcases bool_tf ((((x2.1.Log == 3) && (x2.1.Delay == 20)) && (x3.2.1.Log == 3)) && (x3.2.1.At == 5)) with hb26 | hb26
     · have d21 : L 21 = false := hL
       have d22 : L 22 = false := undep hc hL rfl
       obtain ⟨u36, rfl⟩ := fr_of (N := 212) (L := [(157, _)]) hO ⟨K 18 (dep hd rfl), trivial⟩
       obtain rfl := C43.1 d21
       replace S76 : St _ ((bx b8 (c_api_Head x11.1) 51) :: (row 2 v20 c2 x10.1.length) :: (row 2 v19 c1 x9.1.length) :: (bx b7 (c_api_Head x8.1) 51) :: (bx b6 (c_api_Head x7.1) 51) :: (bx b5 (c_api_Log x6.1 v16 v17 v18) 26) :: (bx b4 (c_api_Promise x4.2.1) 45) :: (bx b3 (c_api_Promise x3.2.1) 45) :: (bx b2 (c_api_Key x2.1) 34) :: (bx b1 (c_api_Log x4.1 v10 v11 v12) 26) :: (X2 ++ As)) _ := S76
       have L47 := Mem.rfl' m51
       refine wpl_yes (d := 157) rfl rfl (cb hb26) <| s_litOC (parts := [.const (.int .u8 97)]) (vs := [vB 97]) (cls := [[vB 97]]) (n := 1) (sz := 1) S76 underlying27 sizeOf5 zeroValue5 rfl ⟨rfl, trivial⟩ rfl rfl (by decide) (by decide) fun v21 w70 S77 => ?_
       have h35 : RepL m51 [vB 97] ([97] : List UInt8) := (RepL.cons (c := [vB 97]) (x := 97) rfl RepL.nil)
       replace S77 : St _ ((row 1 v21 [vB 97] ([97] : List UInt8).length) :: (bx b8 (c_api_Head x11.1) 51) :: (row 2 v20 c2 x10.1.length) :: (row 2 v19 c1 x9.1.length) :: (bx b7 (c_api_Head x8.1) 51) :: (bx b6 (c_api_Head x7.1) 51) :: (bx b5 (c_api_Log x6.1 v16 v17 v18) 26) :: (bx b4 (c_api_Promise x4.2.1) 45) :: (bx b3 (c_api_Promise x3.2.1) 45) :: (bx b2 (c_api_Key x2.1) 34) :: (bx b1 (c_api_Log x4.1 v10 v11 v12) 26) :: (X2 ++ As)) _ := S77
       clear S76
       refine wpn <| ⟨m51, Mem.tr L46 L47, ⟨[row 1 v21 [vB 97] ([97] : List UInt8).length], X2, ⟨fun hx => tf rfl hx, fun _ _ => ⟨fun _ => ⟨_, rfl, h35⟩, fun hx => tf hb26 hx⟩, fun hx => tf hx d22⟩, C44, ?_⟩, facts_step HM rfl K L47 rfl rfl trivial, outP⟩
       have S143 : St _ ((bx b8 (c_api_Head x11.1) 51) :: (row 2 v20 c2 x10.1.length) :: (row 2 v19 c1 x9.1.length) :: (bx b7 (c_api_Head x8.1) 51) :: (bx b6 (c_api_Head x7.1) 51) :: (bx b5 (c_api_Log x6.1 v16 v17 v18) 26) :: (bx b4 (c_api_Promise x4.2.1) 45) :: (bx b3 (c_api_Promise x3.2.1) 45) :: (bx b2 (c_api_Key x2.1) 34) :: (bx b1 (c_api_Log x4.1 v10 v11 v12) 26) :: (row 1 v21 [vB 97] ([97] : List UInt8).length) :: (X2 ++ As)) _ := St.perm S77 (List.Perm.trans (List.Perm.swap _ _ _) (List.Perm.trans (List.Perm.cons _ (List.Perm.swap _ _ _)) (List.Perm.trans (List.Perm.cons _ (List.Perm.cons _ (List.Perm.swap _ _ _))) (List.Perm.trans (List.Perm.cons _ (List.Perm.cons _ (List.Perm.cons _ (List.Perm.swap _ _ _)))) (List.Perm.trans (List.Perm.cons _ (List.Perm.cons _ (List.Perm.cons _ (List.Perm.cons _ (List.Perm.swap _ _ _))))) (List.Perm.trans (List.Perm.cons _ (List.Perm.cons _ (List.Perm.cons _ (List.Perm.cons _ (List.Perm.cons _ (List.Perm.swap _ _ _)))))) (List.Perm.trans (List.Perm.cons _ (List.Perm.cons _ (List.Perm.cons _ (List.Perm.cons _ (List.Perm.cons _ (List.Perm.cons _ (List.Perm.swap _ _ _))))))) (List.Perm.trans (List.Perm.cons _ (List.Perm.cons _ (List.Perm.cons _ (List.Perm.cons _ (List.Perm.cons _ (List.Perm.cons _ (List.Perm.cons _ (List.Perm.swap _ _ _)))))))) (List.Perm.trans (List.Perm.cons _ (List.Perm.cons _ (List.Perm.cons _ (List.Perm.cons _ (List.Perm.cons _ (List.Perm.cons _ (List.Perm.cons _ (List.Perm.cons _ (List.Perm.swap _ _ _))))))))) (List.Perm.cons _ (List.Perm.cons _ (List.Perm.cons _ (List.Perm.cons _ (List.Perm.cons _ (List.Perm.cons _ (List.Perm.cons _ (List.Perm.cons _ (List.Perm.cons _ (List.Perm.swap _ _ _)))))))))))))))))))
       exact S143
     have d21 : L 21 = false := hL
     have d22 : L 22 = false := undep hc hL rfl
     obtain ⟨u37, rfl⟩ := fr_of (N := 212) (L := [(157, _)]) hO ⟨K 18 (dep hd rfl), trivial⟩
     obtain rfl := C43.1 d21
     replace S76 : St _ ((bx b8 (c_api_Head x11.1) 51) :: (row 2 v20 c2 x10.1.length) :: (row 2 v19 c1 x9.1.length) :: (bx b7 (c_api_Head x8.1) 51) :: (bx b6 (c_api_Head x7.1) 51) :: (bx b5 (c_api_Log x6.1 v16 v17 v18) 26) :: (bx b4 (c_api_Promise x4.2.1) 45) :: (bx b3 (c_api_Promise x3.2.1) 45) :: (bx b2 (c_api_Key x2.1) 34) :: (bx b1 (c_api_Log x4.1 v10 v11 v12) 26) :: (X2 ++ As)) _ := S76
     have L48 := Mem.rfl' m51
     exact wpl_no (d := 157) rfl rfl (cb hb26) <| wpn <| ⟨m51, Mem.tr L46 L48, ⟨[], X2, ⟨fun hx => tf rfl hx, fun _ _ => ⟨fun hx => tf hx hb26, fun _ => rfl⟩, fun hx => tf hx d22⟩, C44, S76⟩, facts_step HM rfl K L48 rfl rfl trivial, outP⟩
   · intro L f34 w71 hL hd hc ⟨m52, L49, ⟨X1, X2, C45, C46, S78⟩, K, hO⟩
     rcases bool_tf ((((x2.1.Log == 3) && (x2.1.Delay == 20)) && (x3.2.1.Log == 3)) && (x3.2.1.At == 5)) with hb27 | hb27
     · obtain ⟨v22, e26⟩ : ∃ x, f34 160 = x := ⟨_, rfl⟩
       have d21 : L 21 = true := dep hd rfl
       have d22 : L 22 = false := hL
       obtain ⟨u38, rfl⟩ := fr_of (N := 212) (L := [(157, _), (160, _)]) hO ⟨K 18 (dep hd rfl), e26, trivial⟩
       obtain ⟨c3, rfl, h36⟩ := (C45.2.1 d21 d22).1 hb27
       replace h36 : RepL _ c3 ([97] : List UInt8) := h36
       replace S78 : St _ ((bx b8 (c_api_Head x11.1) 51) :: (row 2 v20 c2 x10.1.length) :: (row 2 v19 c1 x9.1.length) :: (bx b7 (c_api_Head x8.1) 51) :: (bx b6 (c_api_Head x7.1) 51) :: (bx b5 (c_api_Log x6.1 v16 v17 v18) 26) :: (bx b4 (c_api_Promise x4.2.1) 45) :: (bx b3 (c_api_Promise x3.2.1) 45) :: (bx b2 (c_api_Key x2.1) 34) :: (bx b1 (c_api_Log x4.1 v10 v11 v12) 26) :: (row 1 v22 c3 ([97] : List UInt8).length) :: (X2 ++ As)) _ := S78
       have L50 := Mem.rfl' m52
       refine wpl_yes (d := 157) rfl rfl (cb hb27) <| s_mark (i := 10) S78 rfl rfl (nb rfl) underlying27 underlying5 fun w72 S79 => ?_
       clear S78
       obtain ⟨m53, l30, h37, S80⟩ := St.rowKeepT (i := 10) S79 rfl h36 rfl
       replace C46 := C46.imp id (fun q => q.imp (fun p a b => (p a b).imp (fun r hc => RowS.up l30 (r hc)) id) id)
       clear S79
       refine wpn ?_
       replace L50 := Mem.tr L50 l30
       exact ⟨m53, Mem.tr L49 L50, ⟨[], X2, ⟨fun hx => tf d21 hx, fun _ hx => tf rfl hx, fun _ => rfl⟩, C46, S80⟩, facts_step HM rfl K L50 rfl rfl ⟨fun _ => ⟨v22, rfl, h37⟩, fun hx => tf hb27 hx⟩, outP⟩
     have d21 : L 21 = true := dep hd rfl
     have d22 : L 22 = false := hL
     obtain ⟨v23, e28⟩ : ∃ x, f34 160 = x := ⟨_, rfl⟩
     obtain ⟨u39, rfl⟩ := fr_of (N := 212) (L := [(157, _), (160, _)]) hO ⟨K 18 (dep hd rfl), e28, trivial⟩
     obtain rfl := (C45.2.1 d21 d22).2 hb27
     replace S78 : St _ ((bx b8 (c_api_Head x11.1) 51) :: (row 2 v20 c2 x10.1.length) :: (row 2 v19 c1 x9.1.length) :: (bx b7 (c_api_Head x8.1) 51) :: (bx b6 (c_api_Head x7.1) 51) :: (bx b5 (c_api_Log x6.1 v16 v17 v18) 26) :: (bx b4 (c_api_Promise x4.2.1) 45) :: (bx b3 (c_api_Promise x3.2.1) 45) :: (bx b2 (c_api_Key x2.1) 34) :: (bx b1 (c_api_Log x4.1 v10 v11 v12) 26) :: (X2 ++ As)) _ := S78
     have L51 := Mem.rfl' m52
     exact wpl_no (d := 157) rfl rfl (cb hb27) <| wpn <| ⟨m52, Mem.tr L49 L51, ⟨[], X2, ⟨fun hx => tf d21 hx, fun _ hx => tf rfl hx, fun _ => rfl⟩, C46, S78⟩, facts_step HM rfl K L51 rfl rfl ⟨fun hx => tf hx hb27, fun _ => rfl⟩, outP⟩
   · refine flb HM rfl rfl (fun K _ => K 18 rfl) fun hb28 => ?_
     intro L f35 w73 hL hd hc ⟨m54, L52, ⟨X1, X2, C47, C48, S81⟩, K, hO⟩
     obtain ⟨v24, e29, h38⟩ := (K 22 (dep hd rfl)).1 hb28
     obtain ⟨u40, rfl⟩ := fr_of (N := 212) (L := [(161, _)]) hO ⟨e29, trivial⟩
     replace S81 : St _ ((bx b8 (c_api_Head x11.1) 51) :: (row 2 v20 c2 x10.1.length) :: (row 2 v19 c1 x9.1.length) :: (bx b7 (c_api_Head x8.1) 51) :: (bx b6 (c_api_Head x7.1) 51) :: (bx b5 (c_api_Log x6.1 v16 v17 v18) 26) :: (bx b4 (c_api_Promise x4.2.1) 45) :: (bx b3 (c_api_Promise x3.2.1) 45) :: (bx b2 (c_api_Key x2.1) 34) :: (bx b1 (c_api_Log x4.1 v10 v11 v12) 26) :: (X1 ++ (X2 ++ As))) _ := S81
     have L53 := Mem.rfl' m54
     replace q12 := gu_t hb28 q12
     refine s_call call36 (w_merkle_Leaf (a0 := ([97] : List UInt8)) S81 h38 q12) rfl ?_
     rintro _ w74 ⟨m55, l31, S82, rfl⟩
     replace C47 := C47.imp id (fun q => q.imp (fun p a b => (p a b).imp (fun r hc => RowS.up l31 (r hc)) id) id)
     replace C48 := C48.imp id (fun q => q.imp (fun p a b => (p a b).imp (fun r hc => RowS.up l31 (r hc)) id) id)
     clear S81
     refine wpn ?_
     replace L53 := Mem.tr L53 l31
     exact ⟨m55, Mem.tr L52 L53, ⟨X1, X2, C47, C48, S82⟩, facts_step HM rfl K L53 rfl rfl ⟨fun _ => rfl, fun hx => tf hb28 hx⟩, outP⟩
   · exact flg HM rfl rfl (fun K _ => K 18 rfl) [(159, _), (162, _)] (fun K _ hb => ⟨(K 20 rfl).1 hb, (K 23 rfl).1 hb, trivial⟩) (fun _ => fun _ _ q => s_eqlSum (p := x3.2.1.Leaf) (q := x12) rfl rfl underlying41 underlying22 sizeOf22 isAgg22 eqGuardType41 q) (fun _ => rfl)
   · exact flc HM rfl ((((x2.1.Log == 3) && (x2.1.Delay == 20)) && (x3.2.1.Log == 3)) && (x3.2.1.At == 5)) [(157, _), (163, _)] [(157, _)] (fun K _ hb => ⟨K 18 rfl, (K 24 rfl).1 hb, trivial⟩) (fun K _ _ => ⟨K 18 rfl, trivial⟩) (fun hb => fun _ _ q => s_pickT (cb hb) rfl q) (fun hb => fun _ _ q => s_pickF (cb hb) rfl q) (fun hb => cb (and_t hb)) (fun hb => cb (and_f hb))
   · exact flp HM rfl [(164, _)] (fun K _ => ⟨K 25 rfl, trivial⟩) (fun _ _ q => s_mvv (v := vb (((((x2.1.Log == 3) && (x2.1.Delay == 20)) && (x3.2.1.Log == 3)) && (x3.2.1.At == 5)) && (eqSum x3.2.1.Leaf x12))) rfl q) rfl
   · exact flg HM rfl rfl (fun K _ => K 26 rfl) [] (fun _ _ _ => trivial) (fun _ => fun _ ⟨_, _, _, _, S86⟩ q => s_ld (i := 8) (cs := (c_api_Key x2.1)) S86 rfl rfl isAgg34 sizeOf34 rfl (fun h => by cases h) q) (fun _ => rfl)
   · exact flg HM rfl rfl (fun K _ => K 26 rfl) [] (fun _ _ _ => trivial) (fun _ => fun _ ⟨_, _, _, _, S87⟩ q => s_ld (i := 7) (cs := (c_api_Promise x3.2.1)) S87 rfl rfl isAgg45 sizeOf45 rfl (fun h => by cases h) q) (fun _ => rfl)
   · refine flb HM rfl rfl (fun K _ => K 26 rfl) fun hb33 => ?_
     intro L f41 w80 hL hd hc ⟨m61, L65, ⟨X1, X2, C59, C60, S88⟩, K, hO⟩
     obtain ⟨u47, rfl⟩ := fr_of (N := 212) (L := [(166, _), (167, _)]) hO ⟨(K 27 (dep hd rfl)).1 hb33, (K 28 (dep hd rfl)).1 hb33, trivial⟩
     replace S88 : St _ ((bx b8 (c_api_Head x11.1) 51) :: (row 2 v20 c2 x10.1.length) :: (row 2 v19 c1 x9.1.length) :: (bx b7 (c_api_Head x8.1) 51) :: (bx b6 (c_api_Head x7.1) 51) :: (bx b5 (c_api_Log x6.1 v16 v17 v18) 26) :: (bx b4 (c_api_Promise x4.2.1) 45) :: (bx b3 (c_api_Promise x3.2.1) 45) :: (bx b2 (c_api_Key x2.1) 34) :: (bx b1 (c_api_Log x4.1 v10 v11 v12) 26) :: (X1 ++ (X2 ++ As))) _ := S88
     have L66 := Mem.rfl' m61
     replace q13 := gu_t hb33 q13
     refine s_call call22 (w_logd_CheckPromise (a0 := x2.1) (a1 := x3.2.1) S88  q13) rfl ?_
     rintro _ w81 ⟨m62, l32, S89, rfl⟩
     replace C59 := C59.imp id (fun q => q.imp (fun p a b => (p a b).imp (fun r hc => RowS.up l32 (r hc)) id) id)
     replace C60 := C60.imp id (fun q => q.imp (fun p a b => (p a b).imp (fun r hc => RowS.up l32 (r hc)) id) id)
     clear S88
     refine wpn ?_
     replace L66 := Mem.tr L66 l32
     exact ⟨m62, Mem.tr L65 L66, ⟨X1, X2, C59, C60, S89⟩, facts_step HM rfl K L66 rfl rfl ⟨fun _ => rfl, fun hx => tf hb33 hx⟩, outP⟩
   · exact flg HM rfl rfl (fun K _ => K 26 rfl) [(168, _)] (fun K _ hb => ⟨(K 29 rfl).1 hb, trivial⟩) (fun _ => fun _ _ q => s_eql (m := x13) (n := 0) rfl rfl q) (fun _ => rfl)
   · exact flc HM rfl (((((x2.1.Log == 3) && (x2.1.Delay == 20)) && (x3.2.1.Log == 3)) && (x3.2.1.At == 5)) && (eqSum x3.2.1.Leaf x12)) [(165, _), (169, _)] [(165, _)] (fun K _ hb => ⟨K 26 rfl, (K 30 rfl).1 hb, trivial⟩) (fun K _ _ => ⟨K 26 rfl, trivial⟩) (fun hb => fun _ _ q => s_pickT (cb hb) rfl q) (fun hb => fun _ _ q => s_pickF (cb hb) rfl q) (fun hb => cb (and_t hb)) (fun hb => cb (and_f hb))
   · exact flp HM rfl [(170, _)] (fun K _ => ⟨K 31 rfl, trivial⟩) (fun _ _ q => s_mvv (v := vb ((((((x2.1.Log == 3) && (x2.1.Delay == 20)) && (x3.2.1.Log == 3)) && (x3.2.1.At == 5)) && (eqSum x3.2.1.Leaf x12)) && (x13 == 0))) rfl q) rfl
   · exact flg HM rfl rfl (fun K _ => K 32 rfl) [] (fun _ _ _ => trivial) (fun _ => fun _ ⟨_, _, _, _, S93⟩ q => s_ld (i := 4) (cs := (c_api_Head x7.1)) S93 rfl rfl isAgg51 sizeOf51 rfl (fun h => by cases h) q) (fun _ => rfl)
   · exact flg HM rfl rfl (fun K _ => K 32 rfl) [] (fun _ _ _ => trivial) (fun _ => fun _ ⟨_, _, _, _, S94⟩ q => s_ld (i := 3) (cs := (c_api_Head x8.1)) S94 rfl rfl isAgg51 sizeOf51 rfl (fun h => by cases h) q) (fun _ => rfl)
   · exact flg HM rfl rfl (fun K _ => K 32 rfl) [(172, _), (173, _)] (fun K _ hb => ⟨(K 33 rfl).1 hb, (K 34 rfl).1 hb, trivial⟩) (fun _ => fun _ _ q => s_eqlA (cs := (c_api_Head x7.1)) (ds := (c_api_Head x8.1)) rfl rfl (eqv_api_Head (p := x7.1) (q := x8.1)) rfl eqGuardType51 q) (fun _ => rfl)
   · exact flc HM rfl ((((((x2.1.Log == 3) && (x2.1.Delay == 20)) && (x3.2.1.Log == 3)) && (x3.2.1.At == 5)) && (eqSum x3.2.1.Leaf x12)) && (x13 == 0)) [(171, _), (174, _)] [(171, _)] (fun K _ hb => ⟨K 32 rfl, (K 35 rfl).1 hb, trivial⟩) (fun K _ _ => ⟨K 32 rfl, trivial⟩) (fun hb => fun _ _ q => s_pickT (cb hb) rfl q) (fun hb => fun _ _ q => s_pickF (cb hb) rfl q) (fun hb => cb (and_t hb)) (fun hb => cb (and_f hb))
   · exact flp HM rfl [(175, _)] (fun K _ => ⟨K 36 rfl, trivial⟩) (fun _ _ q => s_mvv (v := vb (((((((x2.1.Log == 3) && (x2.1.Delay == 20)) && (x3.2.1.Log == 3)) && (x3.2.1.At == 5)) && (eqSum x3.2.1.Leaf x12)) && (x13 == 0)) && (eq_api_Head x7.1 x8.1))) rfl q) rfl
   · exact flg HM rfl rfl (fun K _ => K 37 rfl) [] (fun _ _ _ => trivial) (fun _ => fun _ ⟨_, _, _, _, S98⟩ q => s_ld (i := 8) (cs := (c_api_Key x2.1)) S98 rfl rfl isAgg34 sizeOf34 rfl (fun h => by cases h) q) (fun _ => rfl)
   · exact flg HM rfl rfl (fun K _ => K 37 rfl) [] (fun _ _ _ => trivial) (fun _ => fun _ ⟨_, _, _, _, S99⟩ q => s_ld (i := 4) (cs := (c_api_Head x7.1)) S99 rfl rfl isAgg51 sizeOf51 rfl (fun h => by cases h) q) (fun _ => rfl)
   · refine flb HM rfl rfl (fun K _ => K 37 rfl) fun hb42 => ?_
     intro L f52 w92 hL hd hc ⟨m73, L89, ⟨X1, X2, C81, C82, S100⟩, K, hO⟩
     obtain ⟨u60, rfl⟩ := fr_of (N := 212) (L := [(177, _), (178, _)]) hO ⟨(K 38 (dep hd rfl)).1 hb42, (K 39 (dep hd rfl)).1 hb42, trivial⟩
     replace S100 : St _ ((bx b8 (c_api_Head x11.1) 51) :: (row 2 v20 c2 x10.1.length) :: (row 2 v19 c1 x9.1.length) :: (bx b7 (c_api_Head x8.1) 51) :: (bx b6 (c_api_Head x7.1) 51) :: (bx b5 (c_api_Log x6.1 v16 v17 v18) 26) :: (bx b4 (c_api_Promise x4.2.1) 45) :: (bx b3 (c_api_Promise x3.2.1) 45) :: (bx b2 (c_api_Key x2.1) 34) :: (bx b1 (c_api_Log x4.1 v10 v11 v12) 26) :: (X1 ++ (X2 ++ As))) _ := S100
     have L90 := Mem.rfl' m73
     replace q14 := gu_t hb42 q14
     refine s_call call24 (w_logd_CheckHead (a0 := x2.1) (a1 := x7.1) S100  q14) rfl ?_
     rintro _ w93 ⟨m74, l33, S101, rfl⟩
     replace C81 := C81.imp id (fun q => q.imp (fun p a b => (p a b).imp (fun r hc => RowS.up l33 (r hc)) id) id)
     replace C82 := C82.imp id (fun q => q.imp (fun p a b => (p a b).imp (fun r hc => RowS.up l33 (r hc)) id) id)
     clear S100
     refine wpn ?_
     replace L90 := Mem.tr L90 l33
     exact ⟨m74, Mem.tr L89 L90, ⟨X1, X2, C81, C82, S101⟩, facts_step HM rfl K L90 rfl rfl ⟨fun _ => rfl, fun hx => tf hb42 hx⟩, outP⟩
   · exact flg HM rfl rfl (fun K _ => K 37 rfl) [(179, _)] (fun K _ hb => ⟨(K 40 rfl).1 hb, trivial⟩) (fun _ => fun _ _ q => s_eql (m := x14) (n := 0) rfl rfl q) (fun _ => rfl)
   · exact flc HM rfl (((((((x2.1.Log == 3) && (x2.1.Delay == 20)) && (x3.2.1.Log == 3)) && (x3.2.1.At == 5)) && (eqSum x3.2.1.Leaf x12)) && (x13 == 0)) && (eq_api_Head x7.1 x8.1)) [(176, _), (180, _)] [(176, _)] (fun K _ hb => ⟨K 37 rfl, (K 41 rfl).1 hb, trivial⟩) (fun K _ _ => ⟨K 37 rfl, trivial⟩) (fun hb => fun _ _ q => s_pickT (cb hb) rfl q) (fun hb => fun _ _ q => s_pickF (cb hb) rfl q) (fun hb => cb (and_t hb)) (fun hb => cb (and_f hb))
   · exact flp HM rfl [(181, _)] (fun K _ => ⟨K 42 rfl, trivial⟩) (fun _ _ q => s_mvv (v := vb ((((((((x2.1.Log == 3) && (x2.1.Delay == 20)) && (x3.2.1.Log == 3)) && (x3.2.1.At == 5)) && (eqSum x3.2.1.Leaf x12)) && (x13 == 0)) && (eq_api_Head x7.1 x8.1)) && (x14 == 0))) rfl q) rfl
   · exact flg HM rfl rfl (fun K _ => K 43 rfl) [] (fun _ _ _ => trivial) (fun _ => fun _ _ q => s_mvv (v := v19) rfl q) (fun _ => rfl)
   · refine flb HM rfl rfl (fun K _ => K 43 rfl) fun hb46 => ?_
     intro L f57 w98 hL hd hc ⟨m79, L100, ⟨X1, X2, C91, C92, S106⟩, K, hO⟩
     obtain ⟨u66, rfl⟩ := fr_of (N := 212) (L := [(183, _)]) hO ⟨(K 44 (dep hd rfl)).1 hb46, trivial⟩
     replace S106 : St _ ((bx b8 (c_api_Head x11.1) 51) :: (row 2 v20 c2 x10.1.length) :: (row 2 v19 c1 x9.1.length) :: (bx b7 (c_api_Head x8.1) 51) :: (bx b6 (c_api_Head x7.1) 51) :: (bx b5 (c_api_Log x6.1 v16 v17 v18) 26) :: (bx b4 (c_api_Promise x4.2.1) 45) :: (bx b3 (c_api_Promise x3.2.1) 45) :: (bx b2 (c_api_Key x2.1) 34) :: (bx b1 (c_api_Log x4.1 v10 v11 v12) 26) :: (X1 ++ (X2 ++ As))) _ := S106
     have L101 := Mem.rfl' m79
     replace q15 := gu_t hb46 q15
     exact s_idxO (i := 2) (j := 0) S106 rfl rfl rfl (idx_rng q15).1 (idx_rng q15).2 underlying55 sizeOf41 fun p1 h39 => wpn <| ⟨m79, Mem.tr L100 L101, ⟨X1, X2, C91, C92, S106⟩, facts_step HM rfl K L101 rfl rfl ⟨fun _ => ⟨p1, rfl, h39⟩, fun hx => tf hb46 hx⟩, outP⟩
   · refine flb HM rfl rfl (fun K _ => K 43 rfl) fun hb47 => ?_
     intro L f58 w99 hL hd hc ⟨m80, L102, ⟨X1, X2, C93, C94, S107⟩, K, hO⟩
     obtain ⟨v25, e57, h40⟩ := (K 45 (dep hd rfl)).1 hb47
     obtain ⟨u67, rfl⟩ := fr_of (N := 212) (L := [(184, _)]) hO ⟨e57, trivial⟩
     replace S107 : St _ ((bx b8 (c_api_Head x11.1) 51) :: (row 2 v20 c2 x10.1.length) :: (row 2 v19 c1 x9.1.length) :: (bx b7 (c_api_Head x8.1) 51) :: (bx b6 (c_api_Head x7.1) 51) :: (bx b5 (c_api_Log x6.1 v16 v17 v18) 26) :: (bx b4 (c_api_Promise x4.2.1) 45) :: (bx b3 (c_api_Promise x3.2.1) 45) :: (bx b2 (c_api_Key x2.1) 34) :: (bx b1 (c_api_Log x4.1 v10 v11 v12) 26) :: (X1 ++ (X2 ++ As))) _ := S107
     have L103 := Mem.rfl' m80
     replace h30 := RepL.up (mt l18 (mt l19 L102)) h30
     have e58 := rep_arr2_UInt64 (RepL.getI h30 (gu_t hb47 q15))
     exact s_ldO (i := 2) (off := (0 : Int).toNat * 2) (d := [vU x15.1, vU x15.2]) S107 rfl h40 rfl e58 isAgg41 sizeOf41 (fun h => by cases h) <| wpn <| ⟨m80, Mem.tr L102 L103, ⟨X1, X2, C93, C94, S107⟩, facts_step HM rfl K L103 rfl rfl ⟨fun _ => rfl, fun hx => tf hb47 hx⟩, outP⟩
   · intro L f59 w100 hL hd hc ⟨m81, L104, ⟨X1, X2, C95, C96, S108⟩, K, hO⟩
     rcases bool_tf ((((((((x2.1.Log == 3) && (x2.1.Delay == 20)) && (x3.2.1.Log == 3)) && (x3.2.1.At == 5)) && (eqSum x3.2.1.Leaf x12)) && (x13 == 0)) && (eq_api_Head x7.1 x8.1)) && (x14 == 0)) with hb48 | hb48
     · have d47 : L 47 = false := hL
       have d48 : L 48 = false := undep hc hL rfl
       obtain ⟨u68, rfl⟩ := fr_of (N := 212) (L := [(182, _)]) hO ⟨K 43 (dep hd rfl), trivial⟩
       replace S108 := St.sw (L := [bx b8 (c_api_Head x11.1) 51, row 2 v20 c2 x10.1.length, row 2 v19 c1 x9.1.length, bx b7 (c_api_Head x8.1) 51, bx b6 (c_api_Head x7.1) 51, bx b5 (c_api_Log x6.1 v16 v17 v18) 26, bx b4 (c_api_Promise x4.2.1) 45, bx b3 (c_api_Promise x3.2.1) 45, bx b2 (c_api_Key x2.1) 34, bx b1 (c_api_Log x4.1 v10 v11 v12) 26]) (X := X1) (Y := X2) (As := As) S108
       replace S108 : St _ ((bx b8 (c_api_Head x11.1) 51) :: (row 2 v20 c2 x10.1.length) :: (row 2 v19 c1 x9.1.length) :: (bx b7 (c_api_Head x8.1) 51) :: (bx b6 (c_api_Head x7.1) 51) :: (bx b5 (c_api_Log x6.1 v16 v17 v18) 26) :: (bx b4 (c_api_Promise x4.2.1) 45) :: (bx b3 (c_api_Promise x3.2.1) 45) :: (bx b2 (c_api_Key x2.1) 34) :: (bx b1 (c_api_Log x4.1 v10 v11 v12) 26) :: (X2 ++ (X1 ++ As))) _ := S108
       obtain rfl := C96.1 d47
       replace S108 : St _ ((bx b8 (c_api_Head x11.1) 51) :: (row 2 v20 c2 x10.1.length) :: (row 2 v19 c1 x9.1.length) :: (bx b7 (c_api_Head x8.1) 51) :: (bx b6 (c_api_Head x7.1) 51) :: (bx b5 (c_api_Log x6.1 v16 v17 v18) 26) :: (bx b4 (c_api_Promise x4.2.1) 45) :: (bx b3 (c_api_Promise x3.2.1) 45) :: (bx b2 (c_api_Key x2.1) 34) :: (bx b1 (c_api_Log x4.1 v10 v11 v12) 26) :: (X1 ++ As)) _ := S108
       have L105 := Mem.rfl' m81
       refine wpl_yes (d := 182) rfl rfl (cb hb48) <| s_litOC (parts := [.const (.int .u8 97)]) (vs := [vB 97]) (cls := [[vB 97]]) (n := 1) (sz := 1) S108 underlying27 sizeOf5 zeroValue5 rfl ⟨rfl, trivial⟩ rfl rfl (by decide) (by decide) fun v26 w101 S109 => ?_
       have h41 : RepL m81 [vB 97] ([97] : List UInt8) := (RepL.cons (c := [vB 97]) (x := 97) rfl RepL.nil)
       replace S109 : St _ ((row 1 v26 [vB 97] ([97] : List UInt8).length) :: (bx b8 (c_api_Head x11.1) 51) :: (row 2 v20 c2 x10.1.length) :: (row 2 v19 c1 x9.1.length) :: (bx b7 (c_api_Head x8.1) 51) :: (bx b6 (c_api_Head x7.1) 51) :: (bx b5 (c_api_Log x6.1 v16 v17 v18) 26) :: (bx b4 (c_api_Promise x4.2.1) 45) :: (bx b3 (c_api_Promise x3.2.1) 45) :: (bx b2 (c_api_Key x2.1) 34) :: (bx b1 (c_api_Log x4.1 v10 v11 v12) 26) :: (X1 ++ As)) _ := S109
       clear S108
       refine wpn <| ⟨m81, Mem.tr L104 L105, ⟨X1, [row 1 v26 [vB 97] ([97] : List UInt8).length], C95, ⟨fun hx => tf rfl hx, fun _ _ => ⟨fun _ => ⟨_, rfl, h41⟩, fun hx => tf hb48 hx⟩, fun hx => tf hx d48⟩, ?_⟩, facts_step HM rfl K L105 rfl rfl trivial, outP⟩
       have S144 : St _ ((bx b8 (c_api_Head x11.1) 51) :: (row 2 v20 c2 x10.1.length) :: (row 2 v19 c1 x9.1.length) :: (bx b7 (c_api_Head x8.1) 51) :: (bx b6 (c_api_Head x7.1) 51) :: (bx b5 (c_api_Log x6.1 v16 v17 v18) 26) :: (bx b4 (c_api_Promise x4.2.1) 45) :: (bx b3 (c_api_Promise x3.2.1) 45) :: (bx b2 (c_api_Key x2.1) 34) :: (bx b1 (c_api_Log x4.1 v10 v11 v12) 26) :: (row 1 v26 [vB 97] ([97] : List UInt8).length) :: (X1 ++ As)) _ := St.perm S109 (List.Perm.trans (List.Perm.swap _ _ _) (List.Perm.trans (List.Perm.cons _ (List.Perm.swap _ _ _)) (List.Perm.trans (List.Perm.cons _ (List.Perm.cons _ (List.Perm.swap _ _ _))) (List.Perm.trans (List.Perm.cons _ (List.Perm.cons _ (List.Perm.cons _ (List.Perm.swap _ _ _)))) (List.Perm.trans (List.Perm.cons _ (List.Perm.cons _ (List.Perm.cons _ (List.Perm.cons _ (List.Perm.swap _ _ _))))) (List.Perm.trans (List.Perm.cons _ (List.Perm.cons _ (List.Perm.cons _ (List.Perm.cons _ (List.Perm.cons _ (List.Perm.swap _ _ _)))))) (List.Perm.trans (List.Perm.cons _ (List.Perm.cons _ (List.Perm.cons _ (List.Perm.cons _ (List.Perm.cons _ (List.Perm.cons _ (List.Perm.swap _ _ _))))))) (List.Perm.trans (List.Perm.cons _ (List.Perm.cons _ (List.Perm.cons _ (List.Perm.cons _ (List.Perm.cons _ (List.Perm.cons _ (List.Perm.cons _ (List.Perm.swap _ _ _)))))))) (List.Perm.trans (List.Perm.cons _ (List.Perm.cons _ (List.Perm.cons _ (List.Perm.cons _ (List.Perm.cons _ (List.Perm.cons _ (List.Perm.cons _ (List.Perm.cons _ (List.Perm.swap _ _ _))))))))) (List.Perm.cons _ (List.Perm.cons _ (List.Perm.cons _ (List.Perm.cons _ (List.Perm.cons _ (List.Perm.cons _ (List.Perm.cons _ (List.Perm.cons _ (List.Perm.cons _ (List.Perm.swap _ _ _)))))))))))))))))))
       have S144s := St.sw (L := [bx b8 (c_api_Head x11.1) 51, row 2 v20 c2 x10.1.length, row 2 v19 c1 x9.1.length, bx b7 (c_api_Head x8.1) 51, bx b6 (c_api_Head x7.1) 51, bx b5 (c_api_Log x6.1 v16 v17 v18) 26, bx b4 (c_api_Promise x4.2.1) 45, bx b3 (c_api_Promise x3.2.1) 45, bx b2 (c_api_Key x2.1) 34, bx b1 (c_api_Log x4.1 v10 v11 v12) 26]) (X := [row 1 v26 [vB 97] ([97] : List UInt8).length]) (Y := X1) (As := As) S144
       exact S144s
     have d47 : L 47 = false := hL
     have d48 : L 48 = false := undep hc hL rfl
     obtain ⟨u69, rfl⟩ := fr_of (N := 212) (L := [(182, _)]) hO ⟨K 43 (dep hd rfl), trivial⟩
     replace S108 := St.sw (L := [bx b8 (c_api_Head x11.1) 51, row 2 v20 c2 x10.1.length, row 2 v19 c1 x9.1.length, bx b7 (c_api_Head x8.1) 51, bx b6 (c_api_Head x7.1) 51, bx b5 (c_api_Log x6.1 v16 v17 v18) 26, bx b4 (c_api_Promise x4.2.1) 45, bx b3 (c_api_Promise x3.2.1) 45, bx b2 (c_api_Key x2.1) 34, bx b1 (c_api_Log x4.1 v10 v11 v12) 26]) (X := X1) (Y := X2) (As := As) S108
     replace S108 : St _ ((bx b8 (c_api_Head x11.1) 51) :: (row 2 v20 c2 x10.1.length) :: (row 2 v19 c1 x9.1.length) :: (bx b7 (c_api_Head x8.1) 51) :: (bx b6 (c_api_Head x7.1) 51) :: (bx b5 (c_api_Log x6.1 v16 v17 v18) 26) :: (bx b4 (c_api_Promise x4.2.1) 45) :: (bx b3 (c_api_Promise x3.2.1) 45) :: (bx b2 (c_api_Key x2.1) 34) :: (bx b1 (c_api_Log x4.1 v10 v11 v12) 26) :: (X2 ++ (X1 ++ As))) _ := S108
     obtain rfl := C96.1 d47
     replace S108 : St _ ((bx b8 (c_api_Head x11.1) 51) :: (row 2 v20 c2 x10.1.length) :: (row 2 v19 c1 x9.1.length) :: (bx b7 (c_api_Head x8.1) 51) :: (bx b6 (c_api_Head x7.1) 51) :: (bx b5 (c_api_Log x6.1 v16 v17 v18) 26) :: (bx b4 (c_api_Promise x4.2.1) 45) :: (bx b3 (c_api_Promise x3.2.1) 45) :: (bx b2 (c_api_Key x2.1) 34) :: (bx b1 (c_api_Log x4.1 v10 v11 v12) 26) :: (X1 ++ As)) _ := S108
     have L106 := Mem.rfl' m81
     exact wpl_no (d := 182) rfl rfl (cb hb48) <| wpn <| ⟨m81, Mem.tr L104 L106, ⟨X1, [], C95, ⟨fun hx => tf rfl hx, fun _ _ => ⟨fun hx => tf hx hb48, fun _ => rfl⟩, fun hx => tf hx d48⟩, S108⟩, facts_step HM rfl K L106 rfl rfl trivial, outP⟩
   · intro L f60 w102 hL hd hc ⟨m82, L107, ⟨X1, X2, C97, C98, S110⟩, K, hO⟩
     rcases bool_tf ((((((((x2.1.Log == 3) && (x2.1.Delay == 20)) && (x3.2.1.Log == 3)) && (x3.2.1.At == 5)) && (eqSum x3.2.1.Leaf x12)) && (x13 == 0)) && (eq_api_Head x7.1 x8.1)) && (x14 == 0)) with hb49 | hb49
     · obtain ⟨v27, e62⟩ : ∃ x, f60 186 = x := ⟨_, rfl⟩
       have d47 : L 47 = true := dep hd rfl
       have d48 : L 48 = false := hL
       obtain ⟨u70, rfl⟩ := fr_of (N := 212) (L := [(182, _), (186, _)]) hO ⟨K 43 (dep hd rfl), e62, trivial⟩
       replace S110 := St.sw (L := [bx b8 (c_api_Head x11.1) 51, row 2 v20 c2 x10.1.length, row 2 v19 c1 x9.1.length, bx b7 (c_api_Head x8.1) 51, bx b6 (c_api_Head x7.1) 51, bx b5 (c_api_Log x6.1 v16 v17 v18) 26, bx b4 (c_api_Promise x4.2.1) 45, bx b3 (c_api_Promise x3.2.1) 45, bx b2 (c_api_Key x2.1) 34, bx b1 (c_api_Log x4.1 v10 v11 v12) 26]) (X := X1) (Y := X2) (As := As) S110
       replace S110 : St _ ((bx b8 (c_api_Head x11.1) 51) :: (row 2 v20 c2 x10.1.length) :: (row 2 v19 c1 x9.1.length) :: (bx b7 (c_api_Head x8.1) 51) :: (bx b6 (c_api_Head x7.1) 51) :: (bx b5 (c_api_Log x6.1 v16 v17 v18) 26) :: (bx b4 (c_api_Promise x4.2.1) 45) :: (bx b3 (c_api_Promise x3.2.1) 45) :: (bx b2 (c_api_Key x2.1) 34) :: (bx b1 (c_api_Log x4.1 v10 v11 v12) 26) :: (X2 ++ (X1 ++ As))) _ := S110
       obtain ⟨c4, rfl, h42⟩ := (C98.2.1 d47 d48).1 hb49
       replace h42 : RepL _ c4 ([97] : List UInt8) := h42
       replace S110 : St _ ((bx b8 (c_api_Head x11.1) 51) :: (row 2 v20 c2 x10.1.length) :: (row 2 v19 c1 x9.1.length) :: (bx b7 (c_api_Head x8.1) 51) :: (bx b6 (c_api_Head x7.1) 51) :: (bx b5 (c_api_Log x6.1 v16 v17 v18) 26) :: (bx b4 (c_api_Promise x4.2.1) 45) :: (bx b3 (c_api_Promise x3.2.1) 45) :: (bx b2 (c_api_Key x2.1) 34) :: (bx b1 (c_api_Log x4.1 v10 v11 v12) 26) :: (row 1 v27 c4 ([97] : List UInt8).length) :: (X1 ++ As)) _ := S110
       have L108 := Mem.rfl' m82
       refine wpl_yes (d := 182) rfl rfl (cb hb49) <| s_mark (i := 10) S110 rfl rfl (nb rfl) underlying27 underlying5 fun w103 S111 => ?_
       clear S110
       obtain ⟨m83, l34, h43, S112⟩ := St.rowKeepT (i := 10) S111 rfl h42 rfl
       replace C97 := C97.imp id (fun q => q.imp (fun p a b => (p a b).imp (fun r hc => RowS.up l34 (r hc)) id) id)
       clear S111
       refine wpn ?_
       replace L108 := Mem.tr L108 l34
       exact ⟨m83, Mem.tr L107 L108, ⟨X1, [], C97, ⟨fun hx => tf d47 hx, fun _ hx => tf rfl hx, fun _ => rfl⟩, S112⟩, facts_step HM rfl K L108 rfl rfl ⟨fun _ => ⟨v27, rfl, h43⟩, fun hx => tf hb49 hx⟩, outP⟩
     have d47 : L 47 = true := dep hd rfl
     have d48 : L 48 = false := hL
     obtain ⟨v28, e64⟩ : ∃ x, f60 186 = x := ⟨_, rfl⟩
     obtain ⟨u71, rfl⟩ := fr_of (N := 212) (L := [(182, _), (186, _)]) hO ⟨K 43 (dep hd rfl), e64, trivial⟩
     replace S110 := St.sw (L := [bx b8 (c_api_Head x11.1) 51, row 2 v20 c2 x10.1.length, row 2 v19 c1 x9.1.length, bx b7 (c_api_Head x8.1) 51, bx b6 (c_api_Head x7.1) 51, bx b5 (c_api_Log x6.1 v16 v17 v18) 26, bx b4 (c_api_Promise x4.2.1) 45, bx b3 (c_api_Promise x3.2.1) 45, bx b2 (c_api_Key x2.1) 34, bx b1 (c_api_Log x4.1 v10 v11 v12) 26]) (X := X1) (Y := X2) (As := As) S110
     replace S110 : St _ ((bx b8 (c_api_Head x11.1) 51) :: (row 2 v20 c2 x10.1.length) :: (row 2 v19 c1 x9.1.length) :: (bx b7 (c_api_Head x8.1) 51) :: (bx b6 (c_api_Head x7.1) 51) :: (bx b5 (c_api_Log x6.1 v16 v17 v18) 26) :: (bx b4 (c_api_Promise x4.2.1) 45) :: (bx b3 (c_api_Promise x3.2.1) 45) :: (bx b2 (c_api_Key x2.1) 34) :: (bx b1 (c_api_Log x4.1 v10 v11 v12) 26) :: (X2 ++ (X1 ++ As))) _ := S110
     obtain rfl := (C98.2.1 d47 d48).2 hb49
     replace S110 : St _ ((bx b8 (c_api_Head x11.1) 51) :: (row 2 v20 c2 x10.1.length) :: (row 2 v19 c1 x9.1.length) :: (bx b7 (c_api_Head x8.1) 51) :: (bx b6 (c_api_Head x7.1) 51) :: (bx b5 (c_api_Log x6.1 v16 v17 v18) 26) :: (bx b4 (c_api_Promise x4.2.1) 45) :: (bx b3 (c_api_Promise x3.2.1) 45) :: (bx b2 (c_api_Key x2.1) 34) :: (bx b1 (c_api_Log x4.1 v10 v11 v12) 26) :: (X1 ++ As)) _ := S110
     have L109 := Mem.rfl' m82
     exact wpl_no (d := 182) rfl rfl (cb hb49) <| wpn <| ⟨m82, Mem.tr L107 L109, ⟨X1, [], C97, ⟨fun hx => tf d47 hx, fun _ hx => tf rfl hx, fun _ => rfl⟩, S110⟩, facts_step HM rfl K L109 rfl rfl ⟨fun hx => tf hx hb49, fun _ => rfl⟩, outP⟩
   · refine flb HM rfl rfl (fun K _ => K 43 rfl) fun hb50 => ?_
     intro L f61 w104 hL hd hc ⟨m84, L110, ⟨X1, X2, C99, C100, S113⟩, K, hO⟩
     obtain ⟨v29, e65, h44⟩ := (K 48 (dep hd rfl)).1 hb50
     obtain ⟨u72, rfl⟩ := fr_of (N := 212) (L := [(187, _)]) hO ⟨e65, trivial⟩
     replace S113 : St _ ((bx b8 (c_api_Head x11.1) 51) :: (row 2 v20 c2 x10.1.length) :: (row 2 v19 c1 x9.1.length) :: (bx b7 (c_api_Head x8.1) 51) :: (bx b6 (c_api_Head x7.1) 51) :: (bx b5 (c_api_Log x6.1 v16 v17 v18) 26) :: (bx b4 (c_api_Promise x4.2.1) 45) :: (bx b3 (c_api_Promise x3.2.1) 45) :: (bx b2 (c_api_Key x2.1) 34) :: (bx b1 (c_api_Log x4.1 v10 v11 v12) 26) :: (X1 ++ (X2 ++ As))) _ := S113
     have L111 := Mem.rfl' m84
     replace q16 := gu_t hb50 q16
     refine s_call call36 (w_merkle_Leaf (a0 := ([97] : List UInt8)) S113 h44 q16) rfl ?_
     rintro _ w105 ⟨m85, l35, S114, rfl⟩
     replace C99 := C99.imp id (fun q => q.imp (fun p a b => (p a b).imp (fun r hc => RowS.up l35 (r hc)) id) id)
     replace C100 := C100.imp id (fun q => q.imp (fun p a b => (p a b).imp (fun r hc => RowS.up l35 (r hc)) id) id)
     clear S113
     refine wpn ?_
     replace L111 := Mem.tr L111 l35
     exact ⟨m85, Mem.tr L110 L111, ⟨X1, X2, C99, C100, S114⟩, facts_step HM rfl K L111 rfl rfl ⟨fun _ => rfl, fun hx => tf hb50 hx⟩, outP⟩
   · exact flg HM rfl rfl (fun K _ => K 43 rfl) [(185, _), (188, _)] (fun K _ hb => ⟨(K 46 rfl).1 hb, (K 49 rfl).1 hb, trivial⟩) (fun _ => fun _ _ q => s_eqlSum (p := x15) (q := x16) rfl rfl underlying41 underlying22 sizeOf22 isAgg22 eqGuardType41 q) (fun _ => rfl)
   · exact flc HM rfl ((((((((x2.1.Log == 3) && (x2.1.Delay == 20)) && (x3.2.1.Log == 3)) && (x3.2.1.At == 5)) && (eqSum x3.2.1.Leaf x12)) && (x13 == 0)) && (eq_api_Head x7.1 x8.1)) && (x14 == 0)) [(182, _), (189, _)] [(182, _)] (fun K _ hb => ⟨K 43 rfl, (K 50 rfl).1 hb, trivial⟩) (fun K _ _ => ⟨K 43 rfl, trivial⟩) (fun hb => fun _ _ q => s_pickT (cb hb) rfl q) (fun hb => fun _ _ q => s_pickF (cb hb) rfl q) (fun hb => cb (and_t hb)) (fun hb => cb (and_f hb))
   · exact flp HM rfl [(190, _)] (fun K _ => ⟨K 51 rfl, trivial⟩) (fun _ _ q => s_mvv (v := vb (((((((((x2.1.Log == 3) && (x2.1.Delay == 20)) && (x3.2.1.Log == 3)) && (x3.2.1.At == 5)) && (eqSum x3.2.1.Leaf x12)) && (x13 == 0)) && (eq_api_Head x7.1 x8.1)) && (x14 == 0)) && (eqSum x15 x16))) rfl q) rfl
   · exact flg HM rfl rfl (fun K _ => K 52 rfl) [] (fun _ _ _ => trivial) (fun _ => fun _ _ q => s_mvv (v := v19) rfl q) (fun _ => rfl)
   · refine flb HM rfl rfl (fun K _ => K 52 rfl) fun hb54 => ?_
     intro L f66 w110 hL hd hc ⟨m90, L121, ⟨X1, X2, C109, C110, S119⟩, K, hO⟩
     obtain ⟨u78, rfl⟩ := fr_of (N := 212) (L := [(192, _)]) hO ⟨(K 53 (dep hd rfl)).1 hb54, trivial⟩
     replace S119 : St _ ((bx b8 (c_api_Head x11.1) 51) :: (row 2 v20 c2 x10.1.length) :: (row 2 v19 c1 x9.1.length) :: (bx b7 (c_api_Head x8.1) 51) :: (bx b6 (c_api_Head x7.1) 51) :: (bx b5 (c_api_Log x6.1 v16 v17 v18) 26) :: (bx b4 (c_api_Promise x4.2.1) 45) :: (bx b3 (c_api_Promise x3.2.1) 45) :: (bx b2 (c_api_Key x2.1) 34) :: (bx b1 (c_api_Log x4.1 v10 v11 v12) 26) :: (X1 ++ (X2 ++ As))) _ := S119
     have L122 := Mem.rfl' m90
     replace q17 := gu_t hb54 q17
     exact s_idxO (i := 2) (j := 1) S119 rfl rfl rfl (idx_rng q17).1 (idx_rng q17).2 underlying55 sizeOf41 fun p2 h45 => wpn <| ⟨m90, Mem.tr L121 L122, ⟨X1, X2, C109, C110, S119⟩, facts_step HM rfl K L122 rfl rfl ⟨fun _ => ⟨p2, rfl, h45⟩, fun hx => tf hb54 hx⟩, outP⟩
   · refine flb HM rfl rfl (fun K _ => K 52 rfl) fun hb55 => ?_
     intro L f67 w111 hL hd hc ⟨m91, L123, ⟨X1, X2, C111, C112, S120⟩, K, hO⟩
     obtain ⟨v30, e73, h46⟩ := (K 54 (dep hd rfl)).1 hb55
     obtain ⟨u79, rfl⟩ := fr_of (N := 212) (L := [(193, _)]) hO ⟨e73, trivial⟩
     replace S120 : St _ ((bx b8 (c_api_Head x11.1) 51) :: (row 2 v20 c2 x10.1.length) :: (row 2 v19 c1 x9.1.length) :: (bx b7 (c_api_Head x8.1) 51) :: (bx b6 (c_api_Head x7.1) 51) :: (bx b5 (c_api_Log x6.1 v16 v17 v18) 26) :: (bx b4 (c_api_Promise x4.2.1) 45) :: (bx b3 (c_api_Promise x3.2.1) 45) :: (bx b2 (c_api_Key x2.1) 34) :: (bx b1 (c_api_Log x4.1 v10 v11 v12) 26) :: (X1 ++ (X2 ++ As))) _ := S120
     have L124 := Mem.rfl' m91
     replace h30 := RepL.up (mt l18 (mt l19 L123)) h30
     have e74 := rep_arr2_UInt64 (RepL.getI h30 (gu_t hb55 q17))
     exact s_ldO (i := 2) (off := (1 : Int).toNat * 2) (d := [vU x17.1, vU x17.2]) S120 rfl h46 rfl e74 isAgg41 sizeOf41 (fun h => by cases h) <| wpn <| ⟨m91, Mem.tr L123 L124, ⟨X1, X2, C111, C112, S120⟩, facts_step HM rfl K L124 rfl rfl ⟨fun _ => rfl, fun hx => tf hb55 hx⟩, outP⟩
   · refine flb HM rfl rfl (fun K _ => K 52 rfl) fun hb56 => ?_
     intro L f68 w112 hL hd hc ⟨m92, L125, ⟨X1, X2, C113, C114, S121⟩, K, hO⟩
     obtain ⟨u80, rfl⟩ := fr_of (N := 212) (L := []) hO trivial
     replace S121 : St _ ((bx b8 (c_api_Head x11.1) 51) :: (row 2 v20 c2 x10.1.length) :: (row 2 v19 c1 x9.1.length) :: (bx b7 (c_api_Head x8.1) 51) :: (bx b6 (c_api_Head x7.1) 51) :: (bx b5 (c_api_Log x6.1 v16 v17 v18) 26) :: (bx b4 (c_api_Promise x4.2.1) 45) :: (bx b3 (c_api_Promise x3.2.1) 45) :: (bx b2 (c_api_Key x2.1) 34) :: (bx b1 (c_api_Log x4.1 v10 v11 v12) 26) :: (X1 ++ (X2 ++ As))) _ := S121
     have L126 := Mem.rfl' m92
     refine s_litC (parts := [.const (.int .u8 0), .const (.int .u8 98)]) (vs := [vB 0, vB 98]) (cls := [[vB 0], [vB 98]]) (xs := ([0, 98] : List UInt8)) (n := 2) S121 underlying27 sizeOf5 zeroValue5 rfl ⟨rfl, rfl, trivial⟩ (RepL.cons (c := [vB 0]) (x := 0) rfl (RepL.cons (c := [vB 98]) (x := 98) rfl RepL.nil)) rfl rfl rfl (by decide) (by decide) fun v31 m93 w113 l36 S122 h47 => ?_
     replace C113 := C113.imp id (fun q => q.imp (fun p a b => (p a b).imp (fun r hc => RowS.up l36 (r hc)) id) id)
     replace C114 := C114.imp id (fun q => q.imp (fun p a b => (p a b).imp (fun r hc => RowS.up l36 (r hc)) id) id)
     clear S121
     refine wpn ?_
     replace L126 := Mem.tr L126 l36
     exact ⟨m93, Mem.tr L125 L126, ⟨X1, X2, C113, C114, S122⟩, facts_step HM rfl K L126 rfl rfl ⟨fun _ => ⟨v31, rfl, h47⟩, fun hx => tf hb56 hx⟩, outP⟩
   · refine flb HM rfl rfl (fun K _ => K 52 rfl) fun hb57 => ?_
     intro L f69 w114 hL hd hc ⟨m94, L127, ⟨X1, X2, C115, C116, S123⟩, K, hO⟩
     obtain ⟨v32, e75, h48⟩ := (K 56 (dep hd rfl)).1 hb57
     obtain ⟨u81, rfl⟩ := fr_of (N := 212) (L := [(195, _)]) hO ⟨e75, trivial⟩
     replace S123 : St _ ((bx b8 (c_api_Head x11.1) 51) :: (row 2 v20 c2 x10.1.length) :: (row 2 v19 c1 x9.1.length) :: (bx b7 (c_api_Head x8.1) 51) :: (bx b6 (c_api_Head x7.1) 51) :: (bx b5 (c_api_Log x6.1 v16 v17 v18) 26) :: (bx b4 (c_api_Promise x4.2.1) 45) :: (bx b3 (c_api_Promise x3.2.1) 45) :: (bx b2 (c_api_Key x2.1) 34) :: (bx b1 (c_api_Log x4.1 v10 v11 v12) 26) :: (X1 ++ (X2 ++ As))) _ := S123
     have L128 := Mem.rfl' m94
     replace q18 := gu_t hb57 q18
     refine s_call call36 (w_merkle_Leaf (a0 := ([0, 98] : List UInt8)) S123 h48 q18) rfl ?_
     rintro _ w115 ⟨m95, l37, S124, rfl⟩
     replace C115 := C115.imp id (fun q => q.imp (fun p a b => (p a b).imp (fun r hc => RowS.up l37 (r hc)) id) id)
     replace C116 := C116.imp id (fun q => q.imp (fun p a b => (p a b).imp (fun r hc => RowS.up l37 (r hc)) id) id)
     clear S123
     refine wpn ?_
     replace L128 := Mem.tr L128 l37
     exact ⟨m95, Mem.tr L127 L128, ⟨X1, X2, C115, C116, S124⟩, facts_step HM rfl K L128 rfl rfl ⟨fun _ => rfl, fun hx => tf hb57 hx⟩, outP⟩
   · exact flg HM rfl rfl (fun K _ => K 52 rfl) [(194, _), (196, _)] (fun K _ hb => ⟨(K 55 rfl).1 hb, (K 57 rfl).1 hb, trivial⟩) (fun _ => fun _ _ q => s_eqlSum (p := x17) (q := x18) rfl rfl underlying41 underlying22 sizeOf22 isAgg22 eqGuardType41 q) (fun _ => rfl)
   · exact flc HM rfl (((((((((x2.1.Log == 3) && (x2.1.Delay == 20)) && (x3.2.1.Log == 3)) && (x3.2.1.At == 5)) && (eqSum x3.2.1.Leaf x12)) && (x13 == 0)) && (eq_api_Head x7.1 x8.1)) && (x14 == 0)) && (eqSum x15 x16)) [(191, _), (197, _)] [(191, _)] (fun K _ hb => ⟨K 52 rfl, (K 58 rfl).1 hb, trivial⟩) (fun K _ _ => ⟨K 52 rfl, trivial⟩) (fun hb => fun _ _ q => s_pickT (cb hb) rfl q) (fun hb => fun _ _ q => s_pickF (cb hb) rfl q) (fun hb => cb (and_t hb)) (fun hb => cb (and_f hb))
 intro L f72 w118 hall ⟨m98, L134, ⟨X1, X2, C121, C122, S127⟩, K, hO⟩
 have d59 : L 59 = true := hall 59 (by decide)
 have d22 : L 22 = true := hall 22 (by decide)
 have d48 : L 48 = true := hall 48 (by decide)
 obtain ⟨u85, rfl⟩ := fr_of (N := 212) (L := [(198, _)]) hO ⟨K 59 d59, trivial⟩
 replace S127 : St _ ((bx b8 (c_api_Head x11.1) 51) :: (row 2 v20 c2 x10.1.length) :: (row 2 v19 c1 x9.1.length) :: (bx b7 (c_api_Head x8.1) 51) :: (bx b6 (c_api_Head x7.1) 51) :: (bx b5 (c_api_Log x6.1 v16 v17 v18) 26) :: (bx b4 (c_api_Promise x4.2.1) 45) :: (bx b3 (c_api_Promise x3.2.1) 45) :: (bx b2 (c_api_Key x2.1) 34) :: (bx b1 (c_api_Log x4.1 v10 v11 v12) 26) :: (X1 ++ (X2 ++ As))) _ := S127
 obtain rfl := C121.2.2 d22
 obtain rfl := C122.2.2 d48
 replace S127 : St _ ((bx b8 (c_api_Head x11.1) 51) :: (row 2 v20 c2 x10.1.length) :: (row 2 v19 c1 x9.1.length) :: (bx b7 (c_api_Head x8.1) 51) :: (bx b6 (c_api_Head x7.1) 51) :: (bx b5 (c_api_Log x6.1 v16 v17 v18) 26) :: (bx b4 (c_api_Promise x4.2.1) 45) :: (bx b3 (c_api_Promise x3.2.1) 45) :: (bx b2 (c_api_Key x2.1) 34) :: (bx b1 (c_api_Log x4.1 v10 v11 v12) 26) :: As) _ := S127
 clear S44
 refine s_mvv (v := vb ((((((((((x2.1.Log == 3) && (x2.1.Delay == 20)) && (x3.2.1.Log == 3)) && (x3.2.1.At == 5)) && (eqSum x3.2.1.Leaf x12)) && (x13 == 0)) && (eq_api_Head x7.1 x8.1)) && (x14 == 0)) && (eqSum x15 x16)) && (eqSum x17 x18))) rfl <| wpl_cut 3 [200, 201, 202] (fun f' w' => w' = w118 ∧ AllAt f' [(202, vb (((((((((((x2.1.Log == 3) && (x2.1.Delay == 20)) && (x3.2.1.Log == 3)) && (x3.2.1.At == 5)) && (eqSum x3.2.1.Leaf x12)) && (x13 == 0)) && (eq_api_Head x7.1 x8.1)) && (x14 == 0)) && (eqSum x15 x16)) && (eqSum x17 x18)) && (x10.2 == 240)))]) ?_ ?_
 · rcases bool_tf ((((((((((x2.1.Log == 3) && (x2.1.Delay == 20)) && (x3.2.1.Log == 3)) && (x3.2.1.At == 5)) && (eqSum x3.2.1.Leaf x12)) && (x13 == 0)) && (eq_api_Head x7.1 x8.1)) && (x14 == 0)) && (eqSum x15 x16)) && (eqSum x17 x18)) with hb60 | hb60
   · exact wpl_yes (d := 199) rfl rfl (cb hb60) <| s_mvv (v := vI x10.2) rfl <| wpl_yes (d := 199) rfl rfl (cb hb60) <| s_eql (m := x10.2) (n := 240) rfl rfl <| s_pickT (cb hb60) rfl <| wpl_nil (nrm ⟨outP, rfl, congrArg Value.bool (and_t hb60), trivial⟩)
   · exact wpl_no (d := 199) rfl rfl (cb hb60) <| wpl_no (d := 199) rfl rfl (cb hb60) <| s_pickF (cb hb60) rfl <| wpl_nil (nrm ⟨outP, rfl, congrArg Value.bool (and_f hb60), trivial⟩)
 rintro f73 w119 ho ⟨h49, ha⟩
 subst h49
 obtain ⟨u86, rfl⟩ := fr_of (N := 212) ho ha
 refine s_mvv (v := vb (((((((((((x2.1.Log == 3) && (x2.1.Delay == 20)) && (x3.2.1.Log == 3)) && (x3.2.1.At == 5)) && (eqSum x3.2.1.Leaf x12)) && (x13 == 0)) && (eq_api_Head x7.1 x8.1)) && (x14 == 0)) && (eqSum x15 x16)) && (eqSum x17 x18)) && (x10.2 == 240))) rfl <| wpl_cut 3 [204, 205, 206] (fun f' w' => w' = w119 ∧ AllAt f' [(206, vb ((((((((((((x2.1.Log == 3) && (x2.1.Delay == 20)) && (x3.2.1.Log == 3)) && (x3.2.1.At == 5)) && (eqSum x3.2.1.Leaf x12)) && (x13 == 0)) && (eq_api_Head x7.1 x8.1)) && (x14 == 0)) && (eqSum x15 x16)) && (eqSum x17 x18)) && (x10.2 == 240)) && (x11.2 == 80)))]) ?_ ?_
 · rcases bool_tf (((((((((((x2.1.Log == 3) && (x2.1.Delay == 20)) && (x3.2.1.Log == 3)) && (x3.2.1.At == 5)) && (eqSum x3.2.1.Leaf x12)) && (x13 == 0)) && (eq_api_Head x7.1 x8.1)) && (x14 == 0)) && (eqSum x15 x16)) && (eqSum x17 x18)) && (x10.2 == 240)) with hb61 | hb61
   · exact wpl_yes (d := 203) rfl rfl (cb hb61) <| s_mvv (v := vI x11.2) rfl <| wpl_yes (d := 203) rfl rfl (cb hb61) <| s_eql (m := x11.2) (n := 80) rfl rfl <| s_pickT (cb hb61) rfl <| wpl_nil (nrm ⟨outP, rfl, congrArg Value.bool (and_t hb61), trivial⟩)
   · exact wpl_no (d := 203) rfl rfl (cb hb61) <| wpl_no (d := 203) rfl rfl (cb hb61) <| s_pickF (cb hb61) rfl <| wpl_nil (nrm ⟨outP, rfl, congrArg Value.bool (and_f hb61), trivial⟩)
 rintro f74 w120 ho ⟨h50, ha⟩
 subst h50
 obtain ⟨u87, rfl⟩ := fr_of (N := 212) ho ha
 refine s_mvv (v := vb ((((((((((((x2.1.Log == 3) && (x2.1.Delay == 20)) && (x3.2.1.Log == 3)) && (x3.2.1.At == 5)) && (eqSum x3.2.1.Leaf x12)) && (x13 == 0)) && (eq_api_Head x7.1 x8.1)) && (x14 == 0)) && (eqSum x15 x16)) && (eqSum x17 x18)) && (x10.2 == 240)) && (x11.2 == 80))) rfl ?_
 obtain ⟨x20, q20, hm⟩ := obind_some hm
 have L135 := Mem.rfl' m98
 refine wpl_cut 4 [208, 209, 210, 211] (fun f' w' => ∃ (M1 : Mem), m98 ≤ M1 ∧ St M1 ((bx b8 (c_api_Head x11.1) 51) :: (bx b7 (c_api_Head x8.1) 51) :: (bx b6 (c_api_Head x7.1) 51) :: (bx b5 (c_api_Log x6.1 v16 v17 v18) 26) :: (bx b4 (c_api_Promise x4.2.1) 45) :: (bx b3 (c_api_Promise x3.2.1) 45) :: (bx b2 (c_api_Key x2.1) 34) :: (bx b1 (c_api_Log x4.1 v10 v11 v12) 26) :: As) w' ∧ AllAt f' [(211, vb x20)]) ?_ ?_
 · rcases bool_tf ((((((((((((x2.1.Log == 3) && (x2.1.Delay == 20)) && (x3.2.1.Log == 3)) && (x3.2.1.At == 5)) && (eqSum x3.2.1.Leaf x12)) && (x13 == 0)) && (eq_api_Head x7.1 x8.1)) && (x14 == 0)) && (eqSum x15 x16)) && (eqSum x17 x18)) && (x10.2 == 240)) && (x11.2 == 80)) with hb62 | hb62
   · replace q20 := ifT hb62 q20
     refine wpl_yes (d := 207) rfl rfl (cb hb62) <| s_build (parts := []) (ps := []) (cs := z_api_Log) zeroValue26 (BuildPl.str (ss := [1, 1, 1, 1, 1, 1]) underlying26 ⟨sizeOf3, sizeOf22, sizeOf3, sizeOf23, sizeOf24, sizeOf23, trivial⟩) rfl trivial rfl <| wpl_yes (d := 207) rfl rfl (cb hb62) ?_
     obtain ⟨x21, q21, q20⟩ := obind_some q20
     refine s_call call13 (w_logd_Check (a0 := (⟨0, 0, 0, [], [], []⟩ : g_api_Log)) S127 (SlR.nil (a := none) (c := 0)) (SlR.nil (a := none) (c := 0)) (SlR.nil (a := none) (c := 0)) q21) rfl ?_
     rintro _ w122 ⟨m100, l39, S129, rfl⟩
     clear S127
     refine wpl_yes (d := 207) rfl rfl (cb hb62) <| s_eql (m := x21) (n := 1) rfl rfl <| s_pickT (cb hb62) rfl <| wpl_nil (nrm ?_)
     obtain ⟨m101, l40, S130⟩ := St.drop S129 1
     clear S129
     replace S130 : St _ ((bx b8 (c_api_Head x11.1) 51) :: (row 2 v19 c1 x9.1.length) :: (bx b7 (c_api_Head x8.1) 51) :: (bx b6 (c_api_Head x7.1) 51) :: (bx b5 (c_api_Log x6.1 v16 v17 v18) 26) :: (bx b4 (c_api_Promise x4.2.1) 45) :: (bx b3 (c_api_Promise x3.2.1) 45) :: (bx b2 (c_api_Key x2.1) 34) :: (bx b1 (c_api_Log x4.1 v10 v11 v12) 26) :: As) _ := S130
     obtain ⟨m102, l41, S131⟩ := St.drop S130 1
     clear S130
     replace S131 : St _ ((bx b8 (c_api_Head x11.1) 51) :: (bx b7 (c_api_Head x8.1) 51) :: (bx b6 (c_api_Head x7.1) 51) :: (bx b5 (c_api_Log x6.1 v16 v17 v18) 26) :: (bx b4 (c_api_Promise x4.2.1) 45) :: (bx b3 (c_api_Promise x3.2.1) 45) :: (bx b2 (c_api_Key x2.1) 34) :: (bx b1 (c_api_Log x4.1 v10 v11 v12) 26) :: As) _ := S131
     have e0 := Option.some.inj q20
     subst e0
     replace L135 := Mem.tr L135 (mt l39 (mt l40 l41))
     exact ⟨outP, m102, L135, S131, ⟨rfl, trivial⟩⟩
   replace q20 := ifF hb62 q20
   refine wpl_no (d := 207) rfl rfl (cb hb62) <| wpl_no (d := 207) rfl rfl (cb hb62) <| wpl_no (d := 207) rfl rfl (cb hb62) <| s_pickF (cb hb62) rfl <| wpl_nil (nrm ?_)
   obtain ⟨m103, l42, S132⟩ := St.drop S127 1
   clear S127
   replace S132 : St _ ((bx b8 (c_api_Head x11.1) 51) :: (row 2 v19 c1 x9.1.length) :: (bx b7 (c_api_Head x8.1) 51) :: (bx b6 (c_api_Head x7.1) 51) :: (bx b5 (c_api_Log x6.1 v16 v17 v18) 26) :: (bx b4 (c_api_Promise x4.2.1) 45) :: (bx b3 (c_api_Promise x3.2.1) 45) :: (bx b2 (c_api_Key x2.1) 34) :: (bx b1 (c_api_Log x4.1 v10 v11 v12) 26) :: As) _ := S132
   obtain ⟨m104, l43, S133⟩ := St.drop S132 1
   clear S132
   replace S133 : St _ ((bx b8 (c_api_Head x11.1) 51) :: (bx b7 (c_api_Head x8.1) 51) :: (bx b6 (c_api_Head x7.1) 51) :: (bx b5 (c_api_Log x6.1 v16 v17 v18) 26) :: (bx b4 (c_api_Promise x4.2.1) 45) :: (bx b3 (c_api_Promise x3.2.1) 45) :: (bx b2 (c_api_Key x2.1) 34) :: (bx b1 (c_api_Log x4.1 v10 v11 v12) 26) :: As) _ := S133
   have e0 := Option.some.inj q20
   subst e0
   replace L135 := Mem.tr L135 (mt l42 l43)
   exact ⟨outP, m104, L135, S133, ⟨rfl, trivial⟩⟩
 rintro f75 w123 ho ⟨m105, l44, S134, ha⟩
 obtain ⟨u88, rfl⟩ := fr_of (N := 212) ho ha
 clear S127
 refine s_asv (v := vb x20) rfl <| wpl_nil <| nrm <| wpc_ret <| outRw fun we hpd => ?_
 replace S134 := St.pd S134 hpd
 obtain ⟨m106, l45, S135⟩ := St.drop S134 0
 clear S134
 replace S135 : St _ ((bx b7 (c_api_Head x8.1) 51) :: (bx b6 (c_api_Head x7.1) 51) :: (bx b5 (c_api_Log x6.1 v16 v17 v18) 26) :: (bx b4 (c_api_Promise x4.2.1) 45) :: (bx b3 (c_api_Promise x3.2.1) 45) :: (bx b2 (c_api_Key x2.1) 34) :: (bx b1 (c_api_Log x4.1 v10 v11 v12) 26) :: As) _ := S135
 obtain ⟨m107, l46, S136⟩ := St.drop S135 0
 clear S135
 replace S136 : St _ ((bx b6 (c_api_Head x7.1) 51) :: (bx b5 (c_api_Log x6.1 v16 v17 v18) 26) :: (bx b4 (c_api_Promise x4.2.1) 45) :: (bx b3 (c_api_Promise x3.2.1) 45) :: (bx b2 (c_api_Key x2.1) 34) :: (bx b1 (c_api_Log x4.1 v10 v11 v12) 26) :: As) _ := S136
 obtain ⟨m108, l47, S137⟩ := St.drop S136 0
 clear S136
 replace S137 : St _ ((bx b5 (c_api_Log x6.1 v16 v17 v18) 26) :: (bx b4 (c_api_Promise x4.2.1) 45) :: (bx b3 (c_api_Promise x3.2.1) 45) :: (bx b2 (c_api_Key x2.1) 34) :: (bx b1 (c_api_Log x4.1 v10 v11 v12) 26) :: As) _ := S137
 obtain ⟨m109, l48, S138⟩ := St.drop S137 0
 clear S137
 replace S138 : St _ ((bx b4 (c_api_Promise x4.2.1) 45) :: (bx b3 (c_api_Promise x3.2.1) 45) :: (bx b2 (c_api_Key x2.1) 34) :: (bx b1 (c_api_Log x4.1 v10 v11 v12) 26) :: As) _ := S138
 obtain ⟨m110, l49, S139⟩ := St.drop S138 0
 clear S138
 replace S139 : St _ ((bx b3 (c_api_Promise x3.2.1) 45) :: (bx b2 (c_api_Key x2.1) 34) :: (bx b1 (c_api_Log x4.1 v10 v11 v12) 26) :: As) _ := S139
 obtain ⟨m111, l50, S140⟩ := St.drop S139 0
 clear S139
 replace S140 : St _ ((bx b2 (c_api_Key x2.1) 34) :: (bx b1 (c_api_Log x4.1 v10 v11 v12) 26) :: As) _ := S140
 obtain ⟨m112, l51, S141⟩ := St.drop S140 0
 clear S140
 replace S141 : St _ ((bx b1 (c_api_Log x4.1 v10 v11 v12) 26) :: As) _ := S141
 obtain ⟨m113, l52, S142⟩ := St.drop S141 0
 clear S141
 replace S142 : St _ (As) _ := S142
 have e0 := Option.some.inj hm
 subst e0
 replace L0 := Mem.tr L0 (mt l1 (mt l2 (mt l3 (mt l4 (mt l5 (mt l6 (mt l7 (mt l8 (mt l9 (mt l15 (mt l16 (mt l17 (mt l18 (mt l19 (mt L134 (mt l44 (mt l45 (mt l46 (mt l47 (mt l48 (mt l49 (mt l50 (mt l51 l52)))))))))))))))))))))))
 exact outR [_] rfl ⟨rfl, trivial⟩ ⟨_, L0, S142, rfl⟩

end Go.Proofs.YtemiampgjgenhaaGreat
