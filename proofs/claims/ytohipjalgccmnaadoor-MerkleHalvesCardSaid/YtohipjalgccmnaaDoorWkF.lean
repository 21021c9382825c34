/- The walks of some functions, written by program. Conditions: none. -/
import Derived.Test.YtohipjalgccmnaaDoorWkC
set_option maxHeartbeats 20000000
set_option maxRecDepth 100000
set_option linter.unusedVariables false
set_option linter.unusedSimpArgs false
namespace Go.Proofs.YtohipjalgccmnaaDoor
open Go Go.Gw

def m_law08_live  : Option Bool :=
  obind (m_merkle_Leaf ([97] : List UInt8)) fun x1 =>
  obind (m_merkle_Leaf ([98] : List UInt8)) fun x2 =>
  obind (m_merkle_Leaf ([] : List UInt8)) fun x3 =>
  obind (m_hash_Pair x1 x2) fun x4 =>
  obind (m_merkle_Root ([x1, x2, x3] : List (UInt64 × UInt64))) fun x5 =>
  obind (m_merkle_Prove ([x1, x2, x3] : List (UInt64 × UInt64)) 0) fun x6 =>
  obind (m_merkle_Prove ([x1, x2, x3] : List (UInt64 × UInt64)) 2) fun x7 =>
  obind (m_merkle_Grow ([x1, x2, x3] : List (UInt64 × UInt64)) 2) fun x8 =>
  obind (m_merkle_Prove ([x1, x2, x3] : List (UInt64 × UInt64)) 3) fun x9 =>
  obind (m_ref08_Sums x6.1 ([x2, x3] : List (UInt64 × UInt64))) fun x10 =>
  obind (
    if x10 = true then
      obind (m_ref08_Sums x7.1 ([x4] : List (UInt64 × UInt64))) fun x13 =>
      some x13
    else
    some false
  ) fun x12 =>
  obind (
    if x12 = true then
      obind (m_ref08_Sums x8.1 ([x3] : List (UInt64 × UInt64))) fun x16 =>
      some x16
    else
    some false
  ) fun x15 =>
  bnd (((((x6.2 == 0) && (x7.2 == 0)) && (x8.2 == 0)) && (x9.2 == 80))) fun x17 =>
  obind (gu (x17 && x15) (m_hash_Tagged (⟨#[108, 101, 97, 102]⟩ : ByteArray) ([([97] : List UInt8)] : List (List UInt8)))) fun x18 =>
  obind (gu ((x17 && x15) && (eqSum x1 x18)) (m_merkle_Root ([] : List (UInt64 × UInt64)))) fun x19 =>
  obind (gu ((x17 && x15) && (eqSum x1 x18)) (m_hash_Tagged (⟨#[101, 109, 112, 116, 121]⟩ : ByteArray) ([] : List (List UInt8)))) fun x20 =>
  obind (gu (((x17 && x15) && (eqSum x1 x18)) && (eqSum x19 x20)) (cut ([x1, x2, x3] : List (UInt64 × UInt64)) 0 1)) fun x21 =>
  obind (gu (((x17 && x15) && (eqSum x1 x18)) && (eqSum x19 x20)) (m_merkle_Root x21)) fun x22 =>
  obind (gu ((((x17 && x15) && (eqSum x1 x18)) && (eqSum x19 x20)) && (eqSum x22 x1)) (m_hash_Pair x4 x3)) fun x23 =>
  obind (gu (((((x17 && x15) && (eqSum x1 x18)) && (eqSum x19 x20)) && (eqSum x22 x1)) && (eqSum x5 x23)) (m_merkle_Check x1 0 3 x6.1 x5)) fun x24 =>
  obind (gu ((((((x17 && x15) && (eqSum x1 x18)) && (eqSum x19 x20)) && (eqSum x22 x1)) && (eqSum x5 x23)) && (x24 == 0)) (m_merkle_Check x1 0 3 x7.1 x5)) fun x25 =>
  obind (gu (((((((x17 && x15) && (eqSum x1 x18)) && (eqSum x19 x20)) && (eqSum x22 x1)) && (eqSum x5 x23)) && (x24 == 0)) && (x25 == 80)) (m_merkle_Check x1 3 3 x7.1 x5)) fun x26 =>
  obind (gu ((((((((x17 && x15) && (eqSum x1 x18)) && (eqSum x19 x20)) && (eqSum x22 x1)) && (eqSum x5 x23)) && (x24 == 0)) && (x25 == 80)) && (x26 == 1)) (m_merkle_CheckGrow 2 3 x4 x5 x8.1)) fun x27 =>
  bnd ((((((((((x17 && x15) && (eqSum x1 x18)) && (eqSum x19 x20)) && (eqSum x22 x1)) && (eqSum x5 x23)) && (x24 == 0)) && (x25 == 80)) && (x26 == 1)) && (x27 == 0))) fun x28 =>
  some x28

theorem w_law08_live {m : Mem} {As : List Ow} {w : World}  {r : Bool} (S : St m (As) w) (T1 : PtC m (pt 1 0) (tab_1.map vB)) (hm : m_law08_live = some r) :
    CallsR Tryd.prog 12 #[] w fun v w' => ∃ (M : Mem), m ≤ M ∧ St M (As) w' ∧ v = vb r := by
  unfold m_law08_live at hm
  have L0 := Mem.rfl' m
  refine callsR (args := []) Tryd.func12 rfl Tryd.ntmps12 (Nat.le_of_ble_eq_true rfl) ?_
  refine wpc_seq ?_
  refine wpc_region ?_
  refine s_asv (v := vb false) rfl ?_
  refine wpl_nil ?_
  refine nrm ?_
  refine wpc_seq ?_
  refine wpc_region ?_
  refine s_litOC (parts := [.const (.int .u8 97)]) (vs := [vB 97]) (cls := [[vB 97]]) (n := 1) (sz := 1) S Tryd.underlying23 Tryd.sizeOf5 Tryd.zeroValue5 rfl ⟨rfl, trivial⟩ rfl rfl (by decide) (by decide) ?_
  intro v1 w1 S1
  have h1 : RepL m [vB 97] ([97] : List UInt8) := (RepL.cons (c := [vB 97]) (x := 97) rfl RepL.nil)
  replace S1 : St _ ((row 1 v1 [vB 97] ([97] : List UInt8).length) :: As) _ := S1
  clear S
  refine s_mark (i := 0) S1 rfl rfl (Nat.le_of_ble_eq_true rfl) Tryd.underlying23 Tryd.underlying5 ?_
  intro w2 S2
  clear S1
  obtain ⟨m1, l1, h2, S3⟩ := St.rowKeepT (i := 0) S2 rfl h1 rfl
  replace T1 := T1.up l1
  replace L0 := Mem.tr L0 l1
  clear S2
  obtain ⟨x1, q1, hm⟩ := obind_some hm
  refine s_call Tryd.call15 (w_merkle_Leaf (a0 := ([97] : List UInt8)) S3 h2 q1) rfl ?_
  rintro _ w3 ⟨m2, l2, S4, rfl⟩
  replace h2 := h2.up l2
  replace T1 := T1.up l2
  replace L0 := Mem.tr L0 l2
  clear S3
  replace S4 : St _ (As) _ := S4
  refine s_litOC (parts := [.const (.int .u8 98)]) (vs := [vB 98]) (cls := [[vB 98]]) (n := 1) (sz := 1) S4 Tryd.underlying23 Tryd.sizeOf5 Tryd.zeroValue5 rfl ⟨rfl, trivial⟩ rfl rfl (by decide) (by decide) ?_
  intro v2 w4 S5
  have h3 : RepL m2 [vB 98] ([98] : List UInt8) := (RepL.cons (c := [vB 98]) (x := 98) rfl RepL.nil)
  replace S5 : St _ ((row 1 v2 [vB 98] ([98] : List UInt8).length) :: As) _ := S5
  clear S4
  refine s_mark (i := 0) S5 rfl rfl (Nat.le_of_ble_eq_true rfl) Tryd.underlying23 Tryd.underlying5 ?_
  intro w5 S6
  clear S5
  obtain ⟨m3, l3, h4, S7⟩ := St.rowKeepT (i := 0) S6 rfl h3 rfl
  replace T1 := T1.up l3
  replace L0 := Mem.tr L0 l3
  clear S6
  obtain ⟨x2, q2, hm⟩ := obind_some hm
  refine s_call Tryd.call15 (w_merkle_Leaf (a0 := ([98] : List UInt8)) S7 h4 q2) rfl ?_
  rintro _ w6 ⟨m4, l4, S8, rfl⟩
  replace h4 := h4.up l4
  replace T1 := T1.up l4
  replace L0 := Mem.tr L0 l4
  clear S7
  replace S8 : St _ (As) _ := S8
  obtain ⟨x3, q3, hm⟩ := obind_some hm
  refine s_call Tryd.call15 (w_merkle_Leaf (a0 := ([] : List UInt8)) S8 (SlR.nil (a := none) (c := 0)) q3) rfl ?_
  rintro _ w7 ⟨m5, l5, S9, rfl⟩
  replace T1 := T1.up l5
  replace L0 := Mem.tr L0 l5
  clear S8
  replace S9 : St _ (As) _ := S9
  refine s_alloc S9 Tryd.zeroValue27 ?_
  intro b1 w8 S10
  replace S10 : St _ ((bx b1 [vU 0, vU 0] 27) :: As) _ := S10
  clear S9
  refine s_alloc S10 Tryd.zeroValue27 ?_
  intro b2 w9 S11
  replace S11 : St _ ((bx b2 [vU 0, vU 0] 27) :: (bx b1 [vU 0, vU 0] 27) :: As) _ := S11
  clear S10
  refine s_alloc S11 Tryd.zeroValue27 ?_
  intro b3 w10 S12
  replace S12 : St _ ((bx b3 [vU 0, vU 0] 27) :: (bx b2 [vU 0, vU 0] 27) :: (bx b1 [vU 0, vU 0] 27) :: As) _ := S12
  clear S11
  refine s_stL (i := 2) S12 rfl rfl rfl Tryd.sizeOf27 (oneC rfl (oneC rfl oneN)) rfl ?_
  intro w11 S13
  replace S13 : St _ ((bx b3 [vU 0, vU 0] 27) :: (bx b2 [vU 0, vU 0] 27) :: (bx b1 [vU x1.1, vU x1.2] 27) :: As) _ := S13
  clear S12
  refine s_stL (i := 1) S13 rfl rfl rfl Tryd.sizeOf27 (oneC rfl (oneC rfl oneN)) rfl ?_
  intro w12 S14
  replace S14 : St _ ((bx b3 [vU 0, vU 0] 27) :: (bx b2 [vU x2.1, vU x2.2] 27) :: (bx b1 [vU x1.1, vU x1.2] 27) :: As) _ := S14
  clear S13
  refine s_stL (i := 0) S14 rfl rfl rfl Tryd.sizeOf27 (oneC rfl (oneC rfl oneN)) rfl ?_
  intro w13 S15
  replace S15 : St _ ((bx b3 [vU x3.1, vU x3.2] 27) :: (bx b2 [vU x2.1, vU x2.2] 27) :: (bx b1 [vU x1.1, vU x1.2] 27) :: As) _ := S15
  clear S14
  refine wpl_nil ?_
  refine nrm ?_
  refine wpc_seq ?_
  refine wpc_region ?_
  refine s_ld (i := 2) (cs := [vU x1.1, vU x1.2]) S15 rfl rfl Tryd.isAgg27 Tryd.sizeOf27 rfl (fun h => by cases h) ?_
  refine s_ld (i := 1) (cs := [vU x2.1, vU x2.2]) S15 rfl rfl Tryd.isAgg27 Tryd.sizeOf27 rfl (fun h => by cases h) ?_
  refine s_ld (i := 0) (cs := [vU x3.1, vU x3.2]) S15 rfl rfl Tryd.isAgg27 Tryd.sizeOf27 rfl (fun h => by cases h) ?_
  refine s_litC (parts := [.tmp 24, .tmp 25, .tmp 26]) (vs := [.agg #[vU x1.1, vU x1.2], .agg #[vU x2.1, vU x2.2], .agg #[vU x3.1, vU x3.2]]) (cls := [[vU x1.1, vU x1.2], [vU x2.1, vU x2.2], [vU x3.1, vU x3.2]]) (xs := ([x1, x2, x3] : List (UInt64 × UInt64))) (n := 3) S15 Tryd.underlying22 Tryd.sizeOf27 Tryd.zeroValue27 rfl ⟨rfl, rfl, rfl, trivial⟩ (RepL.cons (c := [vU x1.1, vU x1.2]) (x := x1) mk_arr2_UInt64 (RepL.cons (c := [vU x2.1, vU x2.2]) (x := x2) mk_arr2_UInt64 (RepL.cons (c := [vU x3.1, vU x3.2]) (x := x3) mk_arr2_UInt64 RepL.nil))) rfl rfl rfl (by decide) (by decide) ?_
  intro v3 m6 w14 l6 S16 h5
  replace T1 := T1.up l6
  replace L0 := Mem.tr L0 l6
  clear S15
  refine s_asv (v := v3) rfl ?_
  refine wpl_nil ?_
  refine nrm ?_
  refine wpc_seq ?_
  refine wpc_region ?_
  refine s_ld (i := 2) (cs := [vU x1.1, vU x1.2]) S16 rfl rfl Tryd.isAgg27 Tryd.sizeOf27 rfl (fun h => by cases h) ?_
  refine s_ld (i := 1) (cs := [vU x2.1, vU x2.2]) S16 rfl rfl Tryd.isAgg27 Tryd.sizeOf27 rfl (fun h => by cases h) ?_
  obtain ⟨x4, q4, hm⟩ := obind_some hm
  refine s_call Tryd.call29 (w_hash_Pair (a0 := x1) (a1 := x2) S16  q4) rfl ?_
  rintro _ w15 ⟨m7, l7, S17, rfl⟩
  replace h5 := h5.up l7
  replace T1 := T1.up l7
  replace L0 := Mem.tr L0 l7
  clear S16
  replace S17 : St _ ((bx b3 [vU x3.1, vU x3.2] 27) :: (bx b2 [vU x2.1, vU x2.2] 27) :: (bx b1 [vU x1.1, vU x1.2] 27) :: As) _ := S17
  refine s_alloc S17 Tryd.zeroValue27 ?_
  intro b4 w16 S18
  replace S18 : St _ ((bx b4 [vU 0, vU 0] 27) :: (bx b3 [vU x3.1, vU x3.2] 27) :: (bx b2 [vU x2.1, vU x2.2] 27) :: (bx b1 [vU x1.1, vU x1.2] 27) :: As) _ := S18
  clear S17
  refine s_stL (i := 0) S18 rfl rfl rfl Tryd.sizeOf27 (oneC rfl (oneC rfl oneN)) rfl ?_
  intro w17 S19
  replace S19 : St _ ((bx b4 [vU x4.1, vU x4.2] 27) :: (bx b3 [vU x3.1, vU x3.2] 27) :: (bx b2 [vU x2.1, vU x2.2] 27) :: (bx b1 [vU x1.1, vU x1.2] 27) :: As) _ := S19
  clear S18
  refine wpl_nil ?_
  refine nrm ?_
  refine wpc_seq ?_
  refine wpc_region ?_
  refine s_mvv (v := v3) rfl ?_
  obtain ⟨x5, q5, hm⟩ := obind_some hm
  refine s_call Tryd.call13 (w_merkle_Root (a0 := ([x1, x2, x3] : List (UInt64 × UInt64))) S19 h5 q5) rfl ?_
  rintro _ w18 ⟨m8, l8, S20, rfl⟩
  replace h5 := h5.up l8
  replace T1 := T1.up l8
  replace L0 := Mem.tr L0 l8
  clear S19
  replace S20 : St _ ((bx b4 [vU x4.1, vU x4.2] 27) :: (bx b3 [vU x3.1, vU x3.2] 27) :: (bx b2 [vU x2.1, vU x2.2] 27) :: (bx b1 [vU x1.1, vU x1.2] 27) :: As) _ := S20
  refine s_alloc S20 Tryd.zeroValue27 ?_
  intro b5 w19 S21
  replace S21 : St _ ((bx b5 [vU 0, vU 0] 27) :: (bx b4 [vU x4.1, vU x4.2] 27) :: (bx b3 [vU x3.1, vU x3.2] 27) :: (bx b2 [vU x2.1, vU x2.2] 27) :: (bx b1 [vU x1.1, vU x1.2] 27) :: As) _ := S21
  clear S20
  refine s_stL (i := 0) S21 rfl rfl rfl Tryd.sizeOf27 (oneC rfl (oneC rfl oneN)) rfl ?_
  intro w20 S22
  replace S22 : St _ ((bx b5 [vU x5.1, vU x5.2] 27) :: (bx b4 [vU x4.1, vU x4.2] 27) :: (bx b3 [vU x3.1, vU x3.2] 27) :: (bx b2 [vU x2.1, vU x2.2] 27) :: (bx b1 [vU x1.1, vU x1.2] 27) :: As) _ := S22
  clear S21
  refine wpl_nil ?_
  refine nrm ?_
  refine wpc_seq ?_
  refine wpc_region ?_
  refine s_mvv (v := v3) rfl ?_
  obtain ⟨x6, q6, hm⟩ := obind_some hm
  refine s_call Tryd.call18 (w_merkle_Prove (a0 := ([x1, x2, x3] : List (UInt64 × UInt64))) (a1 := 0) S22 h5 q6) rfl ?_
  rintro _ w21 ⟨m9, l9, v4, c1, S23, rfl, h6⟩
  replace h5 := h5.up l9
  replace T1 := T1.up l9
  replace L0 := Mem.tr L0 l9
  clear S22
  replace S23 : St _ ((row 2 v4 c1 x6.1.length) :: (bx b5 [vU x5.1, vU x5.2] 27) :: (bx b4 [vU x4.1, vU x4.2] 27) :: (bx b3 [vU x3.1, vU x3.2] 27) :: (bx b2 [vU x2.1, vU x2.2] 27) :: (bx b1 [vU x1.1, vU x1.2] 27) :: As) _ := S23
  refine s_mvv (v := .tuple #[v4, vI x6.2]) rfl ?_
  refine s_ext (i := 0) rfl rfl ?_
  refine s_ext (i := 1) rfl rfl ?_
  refine s_asv (v := v4) rfl ?_
  refine s_asv (v := vI x6.2) rfl ?_
  refine wpl_nil ?_
  refine nrm ?_
  refine wpc_seq ?_
  refine wpc_region ?_
  refine s_mvv (v := v3) rfl ?_
  obtain ⟨x7, q7, hm⟩ := obind_some hm
  refine s_call Tryd.call18 (w_merkle_Prove (a0 := ([x1, x2, x3] : List (UInt64 × UInt64))) (a1 := 2) S23 h5 q7) rfl ?_
  rintro _ w22 ⟨m10, l10, v5, c2, S24, rfl, h7⟩
  replace h5 := h5.up l10
  replace h6 := RepL.up l10 h6
  replace T1 := T1.up l10
  replace L0 := Mem.tr L0 l10
  clear S23
  replace S24 : St _ ((row 2 v5 c2 x7.1.length) :: (row 2 v4 c1 x6.1.length) :: (bx b5 [vU x5.1, vU x5.2] 27) :: (bx b4 [vU x4.1, vU x4.2] 27) :: (bx b3 [vU x3.1, vU x3.2] 27) :: (bx b2 [vU x2.1, vU x2.2] 27) :: (bx b1 [vU x1.1, vU x1.2] 27) :: As) _ := S24
  refine s_mvv (v := .tuple #[v5, vI x7.2]) rfl ?_
  refine s_ext (i := 0) rfl rfl ?_
  refine s_ext (i := 1) rfl rfl ?_
  refine s_asv (v := v5) rfl ?_
  refine s_asv (v := vI x7.2) rfl ?_
  refine wpl_nil ?_
  refine nrm ?_
  refine wpc_seq ?_
  refine wpc_region ?_
  refine s_mvv (v := v3) rfl ?_
  obtain ⟨x8, q8, hm⟩ := obind_some hm
  refine s_call Tryd.call23 (w_merkle_Grow (a0 := ([x1, x2, x3] : List (UInt64 × UInt64))) (a1 := 2) S24 h5 q8) rfl ?_
  rintro _ w23 ⟨m11, l11, v6, c3, S25, rfl, h8⟩
  replace h5 := h5.up l11
  replace h6 := RepL.up l11 h6
  replace h7 := RepL.up l11 h7
  replace T1 := T1.up l11
  replace L0 := Mem.tr L0 l11
  clear S24
  replace S25 : St _ ((row 2 v6 c3 x8.1.length) :: (row 2 v5 c2 x7.1.length) :: (row 2 v4 c1 x6.1.length) :: (bx b5 [vU x5.1, vU x5.2] 27) :: (bx b4 [vU x4.1, vU x4.2] 27) :: (bx b3 [vU x3.1, vU x3.2] 27) :: (bx b2 [vU x2.1, vU x2.2] 27) :: (bx b1 [vU x1.1, vU x1.2] 27) :: As) _ := S25
  refine s_mvv (v := .tuple #[v6, vI x8.2]) rfl ?_
  refine s_ext (i := 0) rfl rfl ?_
  refine s_ext (i := 1) rfl rfl ?_
  refine s_asv (v := v6) rfl ?_
  refine s_asv (v := vI x8.2) rfl ?_
  refine wpl_nil ?_
  refine nrm ?_
  refine wpc_seq ?_
  refine wpc_region ?_
  refine s_mvv (v := v3) rfl ?_
  obtain ⟨x9, q9, hm⟩ := obind_some hm
  refine s_call Tryd.call18 (w_merkle_Prove (a0 := ([x1, x2, x3] : List (UInt64 × UInt64))) (a1 := 3) S25 h5 q9) rfl ?_
  rintro _ w24 ⟨m12, l12, v7, c4, S26, rfl, h9⟩
  replace h5 := h5.up l12
  replace h6 := RepL.up l12 h6
  replace h7 := RepL.up l12 h7
  replace h8 := RepL.up l12 h8
  replace T1 := T1.up l12
  replace L0 := Mem.tr L0 l12
  clear S25
  replace S26 : St _ ((row 2 v7 c4 x9.1.length) :: (row 2 v6 c3 x8.1.length) :: (row 2 v5 c2 x7.1.length) :: (row 2 v4 c1 x6.1.length) :: (bx b5 [vU x5.1, vU x5.2] 27) :: (bx b4 [vU x4.1, vU x4.2] 27) :: (bx b3 [vU x3.1, vU x3.2] 27) :: (bx b2 [vU x2.1, vU x2.2] 27) :: (bx b1 [vU x1.1, vU x1.2] 27) :: As) _ := S26
  refine s_mvv (v := .tuple #[v7, vI x9.2]) rfl ?_
  refine s_ext (i := 0) rfl rfl ?_
  refine s_ext (i := 1) rfl rfl ?_
  refine s_asv (v := v7) rfl ?_
  refine s_asv (v := vI x9.2) rfl ?_
  refine wpl_nil ?_
  refine nrm ?_
  refine wpc_seq ?_
  refine wpc_region ?_
  refine s_mvv (v := v4) rfl ?_
  refine s_ld (i := 7) (cs := [vU x2.1, vU x2.2]) S26 rfl rfl Tryd.isAgg27 Tryd.sizeOf27 rfl (fun h => by cases h) ?_
  refine s_ld (i := 6) (cs := [vU x3.1, vU x3.2]) S26 rfl rfl Tryd.isAgg27 Tryd.sizeOf27 rfl (fun h => by cases h) ?_
  refine s_litC (parts := [.tmp 54, .tmp 55]) (vs := [.agg #[vU x2.1, vU x2.2], .agg #[vU x3.1, vU x3.2]]) (cls := [[vU x2.1, vU x2.2], [vU x3.1, vU x3.2]]) (xs := ([x2, x3] : List (UInt64 × UInt64))) (n := 2) S26 Tryd.underlying22 Tryd.sizeOf27 Tryd.zeroValue27 rfl ⟨rfl, rfl, trivial⟩ (RepL.cons (c := [vU x2.1, vU x2.2]) (x := x2) mk_arr2_UInt64 (RepL.cons (c := [vU x3.1, vU x3.2]) (x := x3) mk_arr2_UInt64 RepL.nil)) rfl rfl rfl (by decide) (by decide) ?_
  intro v8 m13 w25 l13 S27 h10
  replace h5 := h5.up l13
  replace h6 := RepL.up l13 h6
  replace h7 := RepL.up l13 h7
  replace h8 := RepL.up l13 h8
  replace h9 := RepL.up l13 h9
  replace T1 := T1.up l13
  replace L0 := Mem.tr L0 l13
  clear S26
  obtain ⟨m14, l14, h11, S28⟩ := St.rowKeepT (i := 3) S27 rfl h6 rfl
  replace h5 := h5.up l14
  replace h7 := RepL.up l14 h7
  replace h8 := RepL.up l14 h8
  replace h10 := h10.up l14
  replace h9 := RepL.up l14 h9
  replace T1 := T1.up l14
  replace L0 := Mem.tr L0 l14
  clear S27
  obtain ⟨x10, q10, hm⟩ := obind_some hm
  refine s_call Tryd.call20 (w_ref08_Sums (a0 := x6.1) (a1 := ([x2, x3] : List (UInt64 × UInt64))) S28 h11 h10 q10) rfl ?_
  rintro _ w26 ⟨m15, l15, S29, rfl⟩
  replace h5 := h5.up l15
  replace h11 := h11.up l15
  replace h7 := RepL.up l15 h7
  replace h8 := RepL.up l15 h8
  replace h10 := h10.up l15
  replace h9 := RepL.up l15 h9
  replace T1 := T1.up l15
  replace L0 := Mem.tr L0 l15
  clear S28
  replace S29 : St _ ((row 2 v7 c4 x9.1.length) :: (row 2 v6 c3 x8.1.length) :: (row 2 v5 c2 x7.1.length) :: (bx b5 [vU x5.1, vU x5.2] 27) :: (bx b4 [vU x4.1, vU x4.2] 27) :: (bx b3 [vU x3.1, vU x3.2] 27) :: (bx b2 [vU x2.1, vU x2.2] 27) :: (bx b1 [vU x1.1, vU x1.2] 27) :: As) _ := S29
  refine s_mvv (v := vb x10) rfl ?_
  obtain ⟨m19, l19, h14, S33⟩ := St.rowKeepT (i := 2) S29 rfl h7 rfl
  replace h5 := h5.up l19
  replace h11 := h11.up l19
  replace h8 := RepL.up l19 h8
  replace h9 := RepL.up l19 h9
  replace T1 := T1.up l19
  replace L0 := Mem.tr L0 l19
  clear S29
  obtain ⟨x12, q12, hm⟩ := obind_some hm
  have L1 := Mem.rfl' m19
  refine wpl_cut 5 [59, 60, 61, 62, 63] (fun f' w' => ∃ (M1 : Mem), m19 ≤ M1 ∧ St M1 ((row 2 v6 c3 x8.1.length) :: (bx b5 [vU x5.1, vU x5.2] 27) :: (bx b4 [vU x4.1, vU x4.2] 27) :: (bx b3 [vU x3.1, vU x3.2] 27) :: (bx b2 [vU x2.1, vU x2.2] 27) :: (bx b1 [vU x1.1, vU x1.2] 27) :: As) w' ∧ AllAt f' [(63, vb x12)]) ?_ ?_
  · rcases bool_tf x10 with hb1 | hb1
    · replace q12 := ifT hb1 q12
      refine wpl_yes (d := 58) rfl rfl (congrArg Value.bool hb1) ?_
      refine s_mvv (v := v5) rfl ?_
      refine wpl_yes (d := 58) rfl rfl (congrArg Value.bool hb1) ?_
      refine s_ld (i := 3) (cs := [vU x4.1, vU x4.2]) S33 rfl rfl Tryd.isAgg27 Tryd.sizeOf27 rfl (fun h => by cases h) ?_
      refine wpl_yes (d := 58) rfl rfl (congrArg Value.bool hb1) ?_
      refine s_litC (parts := [.tmp 60]) (vs := [.agg #[vU x4.1, vU x4.2]]) (cls := [[vU x4.1, vU x4.2]]) (xs := ([x4] : List (UInt64 × UInt64))) (n := 1) S33 Tryd.underlying22 Tryd.sizeOf27 Tryd.zeroValue27 rfl ⟨rfl, trivial⟩ (RepL.cons (c := [vU x4.1, vU x4.2]) (x := x4) mk_arr2_UInt64 RepL.nil) rfl rfl rfl (by decide) (by decide) ?_
      intro v10 m20 w29 l20 S34 h15
      replace h5 := h5.up l20
      replace h11 := h11.up l20
      replace h14 := h14.up l20
      replace h8 := RepL.up l20 h8
      replace h9 := RepL.up l20 h9
      replace T1 := T1.up l20
      replace L1 := Mem.tr L1 l20
      clear S33
      refine wpl_yes (d := 58) rfl rfl (congrArg Value.bool hb1) ?_
      obtain ⟨x13, q13, q12⟩ := obind_some q12
      refine s_call Tryd.call20 (w_ref08_Sums (a0 := x7.1) (a1 := ([x4] : List (UInt64 × UInt64))) S34 h14 h15 q13) rfl ?_
      rintro _ w30 ⟨m21, l21, S35, rfl⟩
      replace h5 := h5.up l21
      replace h11 := h11.up l21
      replace h14 := h14.up l21
      replace h8 := RepL.up l21 h8
      replace h15 := h15.up l21
      replace h9 := RepL.up l21 h9
      replace T1 := T1.up l21
      replace L1 := Mem.tr L1 l21
      clear S34
      replace S35 : St _ ((row 2 v7 c4 x9.1.length) :: (row 2 v6 c3 x8.1.length) :: (bx b5 [vU x5.1, vU x5.2] 27) :: (bx b4 [vU x4.1, vU x4.2] 27) :: (bx b3 [vU x3.1, vU x3.2] 27) :: (bx b2 [vU x2.1, vU x2.2] 27) :: (bx b1 [vU x1.1, vU x1.2] 27) :: As) _ := S35
      refine s_pickT (congrArg Value.bool hb1) rfl ?_
      refine wpl_nil (nrm ?_)
      obtain ⟨m22, l22, S36⟩ := St.drop S35 0
      replace h5 := h5.up l22
      replace h11 := h11.up l22
      replace h14 := h14.up l22
      replace h8 := RepL.up l22 h8
      replace h15 := h15.up l22
      replace T1 := T1.up l22
      replace L1 := Mem.tr L1 l22
      clear S35
      replace S36 : St _ ((row 2 v6 c3 x8.1.length) :: (bx b5 [vU x5.1, vU x5.2] 27) :: (bx b4 [vU x4.1, vU x4.2] 27) :: (bx b3 [vU x3.1, vU x3.2] 27) :: (bx b2 [vU x2.1, vU x2.2] 27) :: (bx b1 [vU x1.1, vU x1.2] 27) :: As) _ := S36
      have e0 := Option.some.inj q12
      subst e0
      exact ⟨outP, m22, L1, S36, ⟨rfl, trivial⟩⟩
    replace q12 := ifF hb1 q12
    refine wpl_no (d := 58) rfl rfl (congrArg Value.bool hb1) ?_
    refine wpl_no (d := 58) rfl rfl (congrArg Value.bool hb1) ?_
    refine wpl_no (d := 58) rfl rfl (congrArg Value.bool hb1) ?_
    refine wpl_no (d := 58) rfl rfl (congrArg Value.bool hb1) ?_
    refine s_pickF (congrArg Value.bool hb1) rfl ?_
    refine wpl_nil (nrm ?_)
    obtain ⟨m23, l23, S37⟩ := St.drop S33 0
    replace h5 := h5.up l23
    replace h11 := h11.up l23
    replace h14 := h14.up l23
    replace h8 := RepL.up l23 h8
    replace T1 := T1.up l23
    replace L1 := Mem.tr L1 l23
    clear S33
    replace S37 : St _ ((row 2 v6 c3 x8.1.length) :: (bx b5 [vU x5.1, vU x5.2] 27) :: (bx b4 [vU x4.1, vU x4.2] 27) :: (bx b3 [vU x3.1, vU x3.2] 27) :: (bx b2 [vU x2.1, vU x2.2] 27) :: (bx b1 [vU x1.1, vU x1.2] 27) :: As) _ := S37
    have e0 := Option.some.inj q12
    subst e0
    exact ⟨outP, m23, L1, S37, ⟨rfl, trivial⟩⟩
  rintro f1 w31 ho ⟨m24, l24, S38, ha⟩
  obtain ⟨u1, rfl⟩ := fr_of (N := 143) ho ha
  replace h5 := h5.up l24
  replace h11 := h11.up l24
  replace h14 := h14.up l24
  replace h8 := RepL.up l24 h8
  replace T1 := T1.up l24
  replace L0 := Mem.tr L0 l24
  clear S33
  refine s_mvv (v := vb x12) rfl ?_
  obtain ⟨m28, l28, h18, S42⟩ := St.rowKeepT (i := 0) S38 rfl h8 rfl
  replace h5 := h5.up l28
  replace h11 := h11.up l28
  replace h14 := h14.up l28
  replace T1 := T1.up l28
  replace L0 := Mem.tr L0 l28
  clear S38
  obtain ⟨x15, q15, hm⟩ := obind_some hm
  have L2 := Mem.rfl' m28
  refine wpl_cut 5 [65, 66, 67, 68, 69] (fun f' w' => ∃ (M2 : Mem), m28 ≤ M2 ∧ St M2 ((bx b5 [vU x5.1, vU x5.2] 27) :: (bx b4 [vU x4.1, vU x4.2] 27) :: (bx b3 [vU x3.1, vU x3.2] 27) :: (bx b2 [vU x2.1, vU x2.2] 27) :: (bx b1 [vU x1.1, vU x1.2] 27) :: As) w' ∧ AllAt f' [(69, vb x15)]) ?_ ?_
  · rcases bool_tf x12 with hb2 | hb2
    · replace q15 := ifT hb2 q15
      refine wpl_yes (d := 64) rfl rfl (congrArg Value.bool hb2) ?_
      refine s_mvv (v := v6) rfl ?_
      refine wpl_yes (d := 64) rfl rfl (congrArg Value.bool hb2) ?_
      refine s_ld (i := 2) (cs := [vU x3.1, vU x3.2]) S42 rfl rfl Tryd.isAgg27 Tryd.sizeOf27 rfl (fun h => by cases h) ?_
      refine wpl_yes (d := 64) rfl rfl (congrArg Value.bool hb2) ?_
      refine s_litC (parts := [.tmp 66]) (vs := [.agg #[vU x3.1, vU x3.2]]) (cls := [[vU x3.1, vU x3.2]]) (xs := ([x3] : List (UInt64 × UInt64))) (n := 1) S42 Tryd.underlying22 Tryd.sizeOf27 Tryd.zeroValue27 rfl ⟨rfl, trivial⟩ (RepL.cons (c := [vU x3.1, vU x3.2]) (x := x3) mk_arr2_UInt64 RepL.nil) rfl rfl rfl (by decide) (by decide) ?_
      intro v12 m29 w34 l29 S43 h19
      replace h5 := h5.up l29
      replace h11 := h11.up l29
      replace h14 := h14.up l29
      replace h18 := h18.up l29
      replace T1 := T1.up l29
      replace L2 := Mem.tr L2 l29
      clear S42
      refine wpl_yes (d := 64) rfl rfl (congrArg Value.bool hb2) ?_
      obtain ⟨x16, q16, q15⟩ := obind_some q15
      refine s_call Tryd.call20 (w_ref08_Sums (a0 := x8.1) (a1 := ([x3] : List (UInt64 × UInt64))) S43 h18 h19 q16) rfl ?_
      rintro _ w35 ⟨m30, l30, S44, rfl⟩
      replace h5 := h5.up l30
      replace h11 := h11.up l30
      replace h14 := h14.up l30
      replace h18 := h18.up l30
      replace h19 := h19.up l30
      replace T1 := T1.up l30
      replace L2 := Mem.tr L2 l30
      clear S43
      replace S44 : St _ ((bx b5 [vU x5.1, vU x5.2] 27) :: (bx b4 [vU x4.1, vU x4.2] 27) :: (bx b3 [vU x3.1, vU x3.2] 27) :: (bx b2 [vU x2.1, vU x2.2] 27) :: (bx b1 [vU x1.1, vU x1.2] 27) :: As) _ := S44
      refine s_pickT (congrArg Value.bool hb2) rfl ?_
      refine wpl_nil (nrm ?_)
      have e0 := Option.some.inj q15
      subst e0
      exact ⟨outP, m30, L2, S44, ⟨rfl, trivial⟩⟩
    replace q15 := ifF hb2 q15
    refine wpl_no (d := 64) rfl rfl (congrArg Value.bool hb2) ?_
    refine wpl_no (d := 64) rfl rfl (congrArg Value.bool hb2) ?_
    refine wpl_no (d := 64) rfl rfl (congrArg Value.bool hb2) ?_
    refine wpl_no (d := 64) rfl rfl (congrArg Value.bool hb2) ?_
    refine s_pickF (congrArg Value.bool hb2) rfl ?_
    refine wpl_nil (nrm ?_)
    have e0 := Option.some.inj q15
    subst e0
    exact ⟨outP, m28, L2, S42, ⟨rfl, trivial⟩⟩
  rintro f2 w36 ho ⟨m31, l31, S45, ha⟩
  obtain ⟨u2, rfl⟩ := fr_of (N := 143) ho ha
  replace h5 := h5.up l31
  replace h11 := h11.up l31
  replace h14 := h14.up l31
  replace h18 := h18.up l31
  replace T1 := T1.up l31
  replace L0 := Mem.tr L0 l31
  clear S42
  refine s_asv (v := vb x15) rfl ?_
  refine wpl_nil ?_
  refine nrm ?_
  refine wpc_seq ?_
  refine wpc_region ?_
  refine s_mvv (v := vI x6.2) rfl ?_
  refine s_eql (m := x6.2) (n := 0) rfl rfl ?_
  refine s_mvv (v := vb (x6.2 == 0)) rfl ?_
  refine wpl_cut 3 [73, 74, 75] (fun f' w' => w' = w36 ∧ AllAt f' [(75, vb ((x6.2 == 0) && (x7.2 == 0)))]) ?_ ?_
  · rcases bool_tf (x6.2 == 0) with hb3 | hb3
    · refine wpl_yes (d := 72) rfl rfl (congrArg Value.bool hb3) ?_
      refine s_mvv (v := vI x7.2) rfl ?_
      refine wpl_yes (d := 72) rfl rfl (congrArg Value.bool hb3) ?_
      refine s_eql (m := x7.2) (n := 0) rfl rfl ?_
      refine s_pickT (congrArg Value.bool hb3) rfl ?_
      exact wpl_nil (nrm ⟨outP, rfl, congrArg Value.bool (and_t hb3), trivial⟩)
    · refine wpl_no (d := 72) rfl rfl (congrArg Value.bool hb3) ?_
      refine wpl_no (d := 72) rfl rfl (congrArg Value.bool hb3) ?_
      refine s_pickF (congrArg Value.bool hb3) rfl ?_
      exact wpl_nil (nrm ⟨outP, rfl, congrArg Value.bool (and_f hb3), trivial⟩)
  rintro f3 w37 ho ⟨h20, ha⟩
  subst h20
  obtain ⟨u3, rfl⟩ := fr_of (N := 143) ho ha
  refine s_mvv (v := vb ((x6.2 == 0) && (x7.2 == 0))) rfl ?_
  refine wpl_cut 3 [77, 78, 79] (fun f' w' => w' = w37 ∧ AllAt f' [(79, vb (((x6.2 == 0) && (x7.2 == 0)) && (x8.2 == 0)))]) ?_ ?_
  · rcases bool_tf ((x6.2 == 0) && (x7.2 == 0)) with hb4 | hb4
    · refine wpl_yes (d := 76) rfl rfl (congrArg Value.bool hb4) ?_
      refine s_mvv (v := vI x8.2) rfl ?_
      refine wpl_yes (d := 76) rfl rfl (congrArg Value.bool hb4) ?_
      refine s_eql (m := x8.2) (n := 0) rfl rfl ?_
      refine s_pickT (congrArg Value.bool hb4) rfl ?_
      exact wpl_nil (nrm ⟨outP, rfl, congrArg Value.bool (and_t hb4), trivial⟩)
    · refine wpl_no (d := 76) rfl rfl (congrArg Value.bool hb4) ?_
      refine wpl_no (d := 76) rfl rfl (congrArg Value.bool hb4) ?_
      refine s_pickF (congrArg Value.bool hb4) rfl ?_
      exact wpl_nil (nrm ⟨outP, rfl, congrArg Value.bool (and_f hb4), trivial⟩)
  rintro f4 w38 ho ⟨h21, ha⟩
  subst h21
  obtain ⟨u4, rfl⟩ := fr_of (N := 143) ho ha
  refine s_mvv (v := vb (((x6.2 == 0) && (x7.2 == 0)) && (x8.2 == 0))) rfl ?_
  refine wpl_cut 3 [81, 82, 83] (fun f' w' => w' = w38 ∧ AllAt f' [(83, vb ((((x6.2 == 0) && (x7.2 == 0)) && (x8.2 == 0)) && (x9.2 == 80)))]) ?_ ?_
  · rcases bool_tf (((x6.2 == 0) && (x7.2 == 0)) && (x8.2 == 0)) with hb5 | hb5
    · refine wpl_yes (d := 80) rfl rfl (congrArg Value.bool hb5) ?_
      refine s_mvv (v := vI x9.2) rfl ?_
      refine wpl_yes (d := 80) rfl rfl (congrArg Value.bool hb5) ?_
      refine s_eql (m := x9.2) (n := 80) rfl rfl ?_
      refine s_pickT (congrArg Value.bool hb5) rfl ?_
      exact wpl_nil (nrm ⟨outP, rfl, congrArg Value.bool (and_t hb5), trivial⟩)
    · refine wpl_no (d := 80) rfl rfl (congrArg Value.bool hb5) ?_
      refine wpl_no (d := 80) rfl rfl (congrArg Value.bool hb5) ?_
      refine s_pickF (congrArg Value.bool hb5) rfl ?_
      exact wpl_nil (nrm ⟨outP, rfl, congrArg Value.bool (and_f hb5), trivial⟩)
  rintro f5 w39 ho ⟨h22, ha⟩
  subst h22
  obtain ⟨u5, rfl⟩ := fr_of (N := 143) ho ha
  obtain ⟨x17, q17, hm⟩ := bnd_eq hm
  refine s_asv (v := vb x17) (congrArg (fun z => vb z) q17.symm) ?_
  refine wpl_nil ?_
  refine nrm ?_
  refine wpc_seq ?_
  obtain ⟨x18, q18, hm⟩ := obind_some hm
  obtain ⟨x19, q19, hm⟩ := obind_some hm
  obtain ⟨x20, q20, hm⟩ := obind_some hm
  obtain ⟨x21, q21, hm⟩ := obind_some hm
  obtain ⟨x22, q22, hm⟩ := obind_some hm
  obtain ⟨x23, q23, hm⟩ := obind_some hm
  obtain ⟨x24, q24, hm⟩ := obind_some hm
  obtain ⟨x25, q25, hm⟩ := obind_some hm
  obtain ⟨x26, q26, hm⟩ := obind_some hm
  obtain ⟨x27, q27, hm⟩ := obind_some hm
  have HM : MonoAll [(84, fun (M : Mem) (v : Value) => v = vb x17), (85, fun (M : Mem) (v : Value) => v = vb x17), (86, fun (M : Mem) (v : Value) => (x17 = true → v = vb x15) ∧ (x17 = false → v = undef)), (87, fun (M : Mem) (v : Value) => v = vb (x17 && x15)), (88, fun (M : Mem) (v : Value) => v = vb (x17 && x15)), (89, fun (M : Mem) (v : Value) => ((x17 && x15) = true → v = .agg #[vU x1.1, vU x1.2]) ∧ ((x17 && x15) = false → v = undef)), (90, fun _ _ => True), (91, fun (M : Mem) (v : Value) => ((x17 && x15) = true → ∃ (v14 : Value), v = v14 ∧ SlR M v14 ([97] : List UInt8)) ∧ ((x17 && x15) = false → v = undef)), (92, fun (M : Mem) (v : Value) => ((x17 && x15) = true → ∃ (v17 : Value), v = v17 ∧ SlR M v17 ([([97] : List UInt8)] : List (List UInt8))) ∧ ((x17 && x15) = false → v = undef)), (93, fun (M : Mem) (v : Value) => ((x17 && x15) = true → v = .agg #[vU x18.1, vU x18.2]) ∧ ((x17 && x15) = false → v = undef)), (94, fun (M : Mem) (v : Value) => ((x17 && x15) = true → v = vb (eqSum x1 x18)) ∧ ((x17 && x15) = false → v = undef)), (95, fun (M : Mem) (v : Value) => v = vb ((x17 && x15) && (eqSum x1 x18))), (96, fun (M : Mem) (v : Value) => v = vb ((x17 && x15) && (eqSum x1 x18))), (97, fun (M : Mem) (v : Value) => (((x17 && x15) && (eqSum x1 x18)) = true → v = .agg #[vU x19.1, vU x19.2]) ∧ (((x17 && x15) && (eqSum x1 x18)) = false → v = undef)), (98, fun (M : Mem) (v : Value) => (((x17 && x15) && (eqSum x1 x18)) = true → v = .agg #[vU x20.1, vU x20.2]) ∧ (((x17 && x15) && (eqSum x1 x18)) = false → v = undef)), (99, fun (M : Mem) (v : Value) => (((x17 && x15) && (eqSum x1 x18)) = true → v = vb (eqSum x19 x20)) ∧ (((x17 && x15) && (eqSum x1 x18)) = false → v = undef)), (100, fun (M : Mem) (v : Value) => v = vb (((x17 && x15) && (eqSum x1 x18)) && (eqSum x19 x20))), (101, fun (M : Mem) (v : Value) => v = vb (((x17 && x15) && (eqSum x1 x18)) && (eqSum x19 x20))), (102, fun (M : Mem) (v : Value) => ((((x17 && x15) && (eqSum x1 x18)) && (eqSum x19 x20)) = true → v = v3) ∧ ((((x17 && x15) && (eqSum x1 x18)) && (eqSum x19 x20)) = false → v = undef)), (103, fun (M : Mem) (v : Value) => ((((x17 && x15) && (eqSum x1 x18)) && (eqSum x19 x20)) = true → ∃ (v19 : Value), v = v19 ∧ SlR M v19 x21) ∧ ((((x17 && x15) && (eqSum x1 x18)) && (eqSum x19 x20)) = false → v = undef)), (104, fun (M : Mem) (v : Value) => ((((x17 && x15) && (eqSum x1 x18)) && (eqSum x19 x20)) = true → v = .agg #[vU x22.1, vU x22.2]) ∧ ((((x17 && x15) && (eqSum x1 x18)) && (eqSum x19 x20)) = false → v = undef)), (105, fun (M : Mem) (v : Value) => ((((x17 && x15) && (eqSum x1 x18)) && (eqSum x19 x20)) = true → v = .agg #[vU x1.1, vU x1.2]) ∧ ((((x17 && x15) && (eqSum x1 x18)) && (eqSum x19 x20)) = false → v = undef)), (106, fun (M : Mem) (v : Value) => ((((x17 && x15) && (eqSum x1 x18)) && (eqSum x19 x20)) = true → v = vb (eqSum x22 x1)) ∧ ((((x17 && x15) && (eqSum x1 x18)) && (eqSum x19 x20)) = false → v = undef)), (107, fun (M : Mem) (v : Value) => v = vb ((((x17 && x15) && (eqSum x1 x18)) && (eqSum x19 x20)) && (eqSum x22 x1))), (108, fun (M : Mem) (v : Value) => v = vb ((((x17 && x15) && (eqSum x1 x18)) && (eqSum x19 x20)) && (eqSum x22 x1))), (109, fun (M : Mem) (v : Value) => (((((x17 && x15) && (eqSum x1 x18)) && (eqSum x19 x20)) && (eqSum x22 x1)) = true → v = .agg #[vU x5.1, vU x5.2]) ∧ (((((x17 && x15) && (eqSum x1 x18)) && (eqSum x19 x20)) && (eqSum x22 x1)) = false → v = undef)), (110, fun (M : Mem) (v : Value) => (((((x17 && x15) && (eqSum x1 x18)) && (eqSum x19 x20)) && (eqSum x22 x1)) = true → v = .agg #[vU x4.1, vU x4.2]) ∧ (((((x17 && x15) && (eqSum x1 x18)) && (eqSum x19 x20)) && (eqSum x22 x1)) = false → v = undef)), (111, fun (M : Mem) (v : Value) => (((((x17 && x15) && (eqSum x1 x18)) && (eqSum x19 x20)) && (eqSum x22 x1)) = true → v = .agg #[vU x3.1, vU x3.2]) ∧ (((((x17 && x15) && (eqSum x1 x18)) && (eqSum x19 x20)) && (eqSum x22 x1)) = false → v = undef)), (112, fun (M : Mem) (v : Value) => (((((x17 && x15) && (eqSum x1 x18)) && (eqSum x19 x20)) && (eqSum x22 x1)) = true → v = .agg #[vU x23.1, vU x23.2]) ∧ (((((x17 && x15) && (eqSum x1 x18)) && (eqSum x19 x20)) && (eqSum x22 x1)) = false → v = undef)), (113, fun (M : Mem) (v : Value) => (((((x17 && x15) && (eqSum x1 x18)) && (eqSum x19 x20)) && (eqSum x22 x1)) = true → v = vb (eqSum x5 x23)) ∧ (((((x17 && x15) && (eqSum x1 x18)) && (eqSum x19 x20)) && (eqSum x22 x1)) = false → v = undef)), (114, fun (M : Mem) (v : Value) => v = vb (((((x17 && x15) && (eqSum x1 x18)) && (eqSum x19 x20)) && (eqSum x22 x1)) && (eqSum x5 x23))), (115, fun (M : Mem) (v : Value) => v = vb (((((x17 && x15) && (eqSum x1 x18)) && (eqSum x19 x20)) && (eqSum x22 x1)) && (eqSum x5 x23))), (116, fun (M : Mem) (v : Value) => ((((((x17 && x15) && (eqSum x1 x18)) && (eqSum x19 x20)) && (eqSum x22 x1)) && (eqSum x5 x23)) = true → v = .agg #[vU x1.1, vU x1.2]) ∧ ((((((x17 && x15) && (eqSum x1 x18)) && (eqSum x19 x20)) && (eqSum x22 x1)) && (eqSum x5 x23)) = false → v = undef)), (117, fun (M : Mem) (v : Value) => ((((((x17 && x15) && (eqSum x1 x18)) && (eqSum x19 x20)) && (eqSum x22 x1)) && (eqSum x5 x23)) = true → v = v4) ∧ ((((((x17 && x15) && (eqSum x1 x18)) && (eqSum x19 x20)) && (eqSum x22 x1)) && (eqSum x5 x23)) = false → v = undef)), (118, fun (M : Mem) (v : Value) => ((((((x17 && x15) && (eqSum x1 x18)) && (eqSum x19 x20)) && (eqSum x22 x1)) && (eqSum x5 x23)) = true → v = .agg #[vU x5.1, vU x5.2]) ∧ ((((((x17 && x15) && (eqSum x1 x18)) && (eqSum x19 x20)) && (eqSum x22 x1)) && (eqSum x5 x23)) = false → v = undef)), (119, fun (M : Mem) (v : Value) => ((((((x17 && x15) && (eqSum x1 x18)) && (eqSum x19 x20)) && (eqSum x22 x1)) && (eqSum x5 x23)) = true → v = vI x24) ∧ ((((((x17 && x15) && (eqSum x1 x18)) && (eqSum x19 x20)) && (eqSum x22 x1)) && (eqSum x5 x23)) = false → v = undef)), (120, fun (M : Mem) (v : Value) => ((((((x17 && x15) && (eqSum x1 x18)) && (eqSum x19 x20)) && (eqSum x22 x1)) && (eqSum x5 x23)) = true → v = vb (x24 == 0)) ∧ ((((((x17 && x15) && (eqSum x1 x18)) && (eqSum x19 x20)) && (eqSum x22 x1)) && (eqSum x5 x23)) = false → v = undef)), (121, fun (M : Mem) (v : Value) => v = vb ((((((x17 && x15) && (eqSum x1 x18)) && (eqSum x19 x20)) && (eqSum x22 x1)) && (eqSum x5 x23)) && (x24 == 0))), (122, fun (M : Mem) (v : Value) => v = vb ((((((x17 && x15) && (eqSum x1 x18)) && (eqSum x19 x20)) && (eqSum x22 x1)) && (eqSum x5 x23)) && (x24 == 0))), (123, fun (M : Mem) (v : Value) => (((((((x17 && x15) && (eqSum x1 x18)) && (eqSum x19 x20)) && (eqSum x22 x1)) && (eqSum x5 x23)) && (x24 == 0)) = true → v = .agg #[vU x1.1, vU x1.2]) ∧ (((((((x17 && x15) && (eqSum x1 x18)) && (eqSum x19 x20)) && (eqSum x22 x1)) && (eqSum x5 x23)) && (x24 == 0)) = false → v = undef)), (124, fun (M : Mem) (v : Value) => (((((((x17 && x15) && (eqSum x1 x18)) && (eqSum x19 x20)) && (eqSum x22 x1)) && (eqSum x5 x23)) && (x24 == 0)) = true → v = v5) ∧ (((((((x17 && x15) && (eqSum x1 x18)) && (eqSum x19 x20)) && (eqSum x22 x1)) && (eqSum x5 x23)) && (x24 == 0)) = false → v = undef)), (125, fun (M : Mem) (v : Value) => (((((((x17 && x15) && (eqSum x1 x18)) && (eqSum x19 x20)) && (eqSum x22 x1)) && (eqSum x5 x23)) && (x24 == 0)) = true → v = .agg #[vU x5.1, vU x5.2]) ∧ (((((((x17 && x15) && (eqSum x1 x18)) && (eqSum x19 x20)) && (eqSum x22 x1)) && (eqSum x5 x23)) && (x24 == 0)) = false → v = undef)), (126, fun (M : Mem) (v : Value) => (((((((x17 && x15) && (eqSum x1 x18)) && (eqSum x19 x20)) && (eqSum x22 x1)) && (eqSum x5 x23)) && (x24 == 0)) = true → v = vI x25) ∧ (((((((x17 && x15) && (eqSum x1 x18)) && (eqSum x19 x20)) && (eqSum x22 x1)) && (eqSum x5 x23)) && (x24 == 0)) = false → v = undef)), (127, fun (M : Mem) (v : Value) => (((((((x17 && x15) && (eqSum x1 x18)) && (eqSum x19 x20)) && (eqSum x22 x1)) && (eqSum x5 x23)) && (x24 == 0)) = true → v = vb (x25 == 80)) ∧ (((((((x17 && x15) && (eqSum x1 x18)) && (eqSum x19 x20)) && (eqSum x22 x1)) && (eqSum x5 x23)) && (x24 == 0)) = false → v = undef)), (128, fun (M : Mem) (v : Value) => v = vb (((((((x17 && x15) && (eqSum x1 x18)) && (eqSum x19 x20)) && (eqSum x22 x1)) && (eqSum x5 x23)) && (x24 == 0)) && (x25 == 80))), (129, fun (M : Mem) (v : Value) => v = vb (((((((x17 && x15) && (eqSum x1 x18)) && (eqSum x19 x20)) && (eqSum x22 x1)) && (eqSum x5 x23)) && (x24 == 0)) && (x25 == 80))), (130, fun (M : Mem) (v : Value) => ((((((((x17 && x15) && (eqSum x1 x18)) && (eqSum x19 x20)) && (eqSum x22 x1)) && (eqSum x5 x23)) && (x24 == 0)) && (x25 == 80)) = true → v = .agg #[vU x1.1, vU x1.2]) ∧ ((((((((x17 && x15) && (eqSum x1 x18)) && (eqSum x19 x20)) && (eqSum x22 x1)) && (eqSum x5 x23)) && (x24 == 0)) && (x25 == 80)) = false → v = undef)), (131, fun (M : Mem) (v : Value) => ((((((((x17 && x15) && (eqSum x1 x18)) && (eqSum x19 x20)) && (eqSum x22 x1)) && (eqSum x5 x23)) && (x24 == 0)) && (x25 == 80)) = true → v = v5) ∧ ((((((((x17 && x15) && (eqSum x1 x18)) && (eqSum x19 x20)) && (eqSum x22 x1)) && (eqSum x5 x23)) && (x24 == 0)) && (x25 == 80)) = false → v = undef)), (132, fun (M : Mem) (v : Value) => ((((((((x17 && x15) && (eqSum x1 x18)) && (eqSum x19 x20)) && (eqSum x22 x1)) && (eqSum x5 x23)) && (x24 == 0)) && (x25 == 80)) = true → v = .agg #[vU x5.1, vU x5.2]) ∧ ((((((((x17 && x15) && (eqSum x1 x18)) && (eqSum x19 x20)) && (eqSum x22 x1)) && (eqSum x5 x23)) && (x24 == 0)) && (x25 == 80)) = false → v = undef)), (133, fun (M : Mem) (v : Value) => ((((((((x17 && x15) && (eqSum x1 x18)) && (eqSum x19 x20)) && (eqSum x22 x1)) && (eqSum x5 x23)) && (x24 == 0)) && (x25 == 80)) = true → v = vI x26) ∧ ((((((((x17 && x15) && (eqSum x1 x18)) && (eqSum x19 x20)) && (eqSum x22 x1)) && (eqSum x5 x23)) && (x24 == 0)) && (x25 == 80)) = false → v = undef)), (134, fun (M : Mem) (v : Value) => ((((((((x17 && x15) && (eqSum x1 x18)) && (eqSum x19 x20)) && (eqSum x22 x1)) && (eqSum x5 x23)) && (x24 == 0)) && (x25 == 80)) = true → v = vb (x26 == 1)) ∧ ((((((((x17 && x15) && (eqSum x1 x18)) && (eqSum x19 x20)) && (eqSum x22 x1)) && (eqSum x5 x23)) && (x24 == 0)) && (x25 == 80)) = false → v = undef)), (135, fun (M : Mem) (v : Value) => v = vb ((((((((x17 && x15) && (eqSum x1 x18)) && (eqSum x19 x20)) && (eqSum x22 x1)) && (eqSum x5 x23)) && (x24 == 0)) && (x25 == 80)) && (x26 == 1))), (136, fun (M : Mem) (v : Value) => v = vb ((((((((x17 && x15) && (eqSum x1 x18)) && (eqSum x19 x20)) && (eqSum x22 x1)) && (eqSum x5 x23)) && (x24 == 0)) && (x25 == 80)) && (x26 == 1))), (137, fun (M : Mem) (v : Value) => (((((((((x17 && x15) && (eqSum x1 x18)) && (eqSum x19 x20)) && (eqSum x22 x1)) && (eqSum x5 x23)) && (x24 == 0)) && (x25 == 80)) && (x26 == 1)) = true → v = .agg #[vU x4.1, vU x4.2]) ∧ (((((((((x17 && x15) && (eqSum x1 x18)) && (eqSum x19 x20)) && (eqSum x22 x1)) && (eqSum x5 x23)) && (x24 == 0)) && (x25 == 80)) && (x26 == 1)) = false → v = undef)), (138, fun (M : Mem) (v : Value) => (((((((((x17 && x15) && (eqSum x1 x18)) && (eqSum x19 x20)) && (eqSum x22 x1)) && (eqSum x5 x23)) && (x24 == 0)) && (x25 == 80)) && (x26 == 1)) = true → v = .agg #[vU x5.1, vU x5.2]) ∧ (((((((((x17 && x15) && (eqSum x1 x18)) && (eqSum x19 x20)) && (eqSum x22 x1)) && (eqSum x5 x23)) && (x24 == 0)) && (x25 == 80)) && (x26 == 1)) = false → v = undef)), (139, fun (M : Mem) (v : Value) => (((((((((x17 && x15) && (eqSum x1 x18)) && (eqSum x19 x20)) && (eqSum x22 x1)) && (eqSum x5 x23)) && (x24 == 0)) && (x25 == 80)) && (x26 == 1)) = true → v = v6) ∧ (((((((((x17 && x15) && (eqSum x1 x18)) && (eqSum x19 x20)) && (eqSum x22 x1)) && (eqSum x5 x23)) && (x24 == 0)) && (x25 == 80)) && (x26 == 1)) = false → v = undef)), (140, fun (M : Mem) (v : Value) => (((((((((x17 && x15) && (eqSum x1 x18)) && (eqSum x19 x20)) && (eqSum x22 x1)) && (eqSum x5 x23)) && (x24 == 0)) && (x25 == 80)) && (x26 == 1)) = true → v = vI x27) ∧ (((((((((x17 && x15) && (eqSum x1 x18)) && (eqSum x19 x20)) && (eqSum x22 x1)) && (eqSum x5 x23)) && (x24 == 0)) && (x25 == 80)) && (x26 == 1)) = false → v = undef)), (141, fun (M : Mem) (v : Value) => (((((((((x17 && x15) && (eqSum x1 x18)) && (eqSum x19 x20)) && (eqSum x22 x1)) && (eqSum x5 x23)) && (x24 == 0)) && (x25 == 80)) && (x26 == 1)) = true → v = vb (x27 == 0)) ∧ (((((((((x17 && x15) && (eqSum x1 x18)) && (eqSum x19 x20)) && (eqSum x22 x1)) && (eqSum x5 x23)) && (x24 == 0)) && (x25 == 80)) && (x26 == 1)) = false → v = undef)), (142, fun (M : Mem) (v : Value) => v = vb (((((((((x17 && x15) && (eqSum x1 x18)) && (eqSum x19 x20)) && (eqSum x22 x1)) && (eqSum x5 x23)) && (x24 == 0)) && (x25 == 80)) && (x26 == 1)) && (x27 == 0)))] := ⟨(fun _ _ _ _ h => h), (fun _ _ _ _ h => h), (fun _ _ _ _ h => h), (fun _ _ _ _ h => h), (fun _ _ _ _ h => h), (fun _ _ _ _ h => h), (fun _ _ _ _ h => h), (fun _ _ _ l h => ⟨fun c => let ⟨v14, e, h25⟩ := h.1 c; ⟨v14, e, h25.up l⟩, h.2⟩), (fun _ _ _ l h => ⟨fun c => let ⟨v17, e, h27⟩ := h.1 c; ⟨v17, e, h27.up l⟩, h.2⟩), (fun _ _ _ _ h => h), (fun _ _ _ _ h => h), (fun _ _ _ _ h => h), (fun _ _ _ _ h => h), (fun _ _ _ _ h => h), (fun _ _ _ _ h => h), (fun _ _ _ _ h => h), (fun _ _ _ _ h => h), (fun _ _ _ _ h => h), (fun _ _ _ _ h => h), (fun _ _ _ l h => ⟨fun c => let ⟨v19, e, h29⟩ := h.1 c; ⟨v19, e, h29.up l⟩, h.2⟩), (fun _ _ _ _ h => h), (fun _ _ _ _ h => h), (fun _ _ _ _ h => h), (fun _ _ _ _ h => h), (fun _ _ _ _ h => h), (fun _ _ _ _ h => h), (fun _ _ _ _ h => h), (fun _ _ _ _ h => h), (fun _ _ _ _ h => h), (fun _ _ _ _ h => h), (fun _ _ _ _ h => h), (fun _ _ _ _ h => h), (fun _ _ _ _ h => h), (fun _ _ _ _ h => h), (fun _ _ _ _ h => h), (fun _ _ _ _ h => h), (fun _ _ _ _ h => h), (fun _ _ _ _ h => h), (fun _ _ _ _ h => h), (fun _ _ _ _ h => h), (fun _ _ _ _ h => h), (fun _ _ _ _ h => h), (fun _ _ _ _ h => h), (fun _ _ _ _ h => h), (fun _ _ _ _ h => h), (fun _ _ _ _ h => h), (fun _ _ _ _ h => h), (fun _ _ _ _ h => h), (fun _ _ _ _ h => h), (fun _ _ _ _ h => h), (fun _ _ _ _ h => h), (fun _ _ _ _ h => h), (fun _ _ _ _ h => h), (fun _ _ _ _ h => h), (fun _ _ _ _ h => h), (fun _ _ _ _ h => h), (fun _ _ _ _ h => h), (fun _ _ _ _ h => h), (fun _ _ _ _ h => h), trivial⟩
  refine wpc_flowG HM 59 mixed rfl rfl rfl [84, 85, 86, 87, 88, 89, 90, 91, 92, 93, 94, 95, 96, 97, 98, 99, 100, 101, 102, 103, 104, 105, 106, 107, 108, 109, 110, 111, 112, 113, 114, 115, 116, 117, 118, 119, 120, 121, 122, 123, 124, 125, 126, 127, 128, 129, 130, 131, 132, 133, 134, 135, 136, 137, 138, 139, 140, 141, 142] (fun L f M w => ∃ (X1 : List Ow), ((L 6 = false → X1 = []) ∧ (L 6 = true → L 7 = false → (((x17 && x15) = true → (RowS M X1 1 (f 90) ([97] : List UInt8))) ∧ ((x17 && x15) = false → X1 = []))) ∧ (L 7 = true → X1 = [])) ∧ St M ((bx b5 [vU x5.1, vU x5.2] 27) :: (bx b4 [vU x4.1, vU x4.2] 27) :: (bx b3 [vU x3.1, vU x3.2] 27) :: (bx b2 [vU x2.1, vU x2.2] 27) :: (bx b1 [vU x1.1, vU x1.2] 27) :: (X1 ++ As)) w) (⟨[], ⟨fun _ => rfl, fun hx _ => ff hx, fun hx => ff hx⟩, St.drew S45 _⟩) ?_ ?_
  · refine ⟨?_, ?_, ?_, ?_, ?_, ?_, ?_, ?_, ?_, ?_, ?_, ?_, ?_, ?_, ?_, ?_, ?_, ?_, ?_, ?_, ?_, ?_, ?_, ?_, ?_, ?_, ?_, ?_, ?_, ?_, ?_, ?_, ?_, ?_, ?_, ?_, ?_, ?_, ?_, ?_, ?_, ?_, ?_, ?_, ?_, ?_, ?_, ?_, ?_, ?_, ?_, ?_, ?_, ?_, ?_, ?_, ?_, ?_, ?_, trivial⟩
    · intro L f6 w40 hL hd hc ⟨m32, L3, ⟨X1, C1, S46⟩, K, hO⟩
      obtain ⟨u6, rfl⟩ := fr_of (N := 143) (L := []) hO trivial
      replace S46 : St _ ((bx b5 [vU x5.1, vU x5.2] 27) :: (bx b4 [vU x4.1, vU x4.2] 27) :: (bx b3 [vU x3.1, vU x3.2] 27) :: (bx b2 [vU x2.1, vU x2.2] 27) :: (bx b1 [vU x1.1, vU x1.2] 27) :: (X1 ++ As)) _ := S46
      have L4 := Mem.rfl' m32
      refine s_mvv (v := vb x17) rfl ?_
      refine wpn ?_
      refine ⟨m32, Mem.tr L3 L4, ⟨X1, C1, ?_⟩, facts_step HM rfl K L4 rfl rfl rfl, outP⟩
      exact S46
    · intro L f7 w41 hL hd hc ⟨m33, L5, ⟨X1, C2, S47⟩, K, hO⟩
      have d0 : L 0 = true := dep hd rfl
      have e1 := K 0 d0
      obtain ⟨u7, rfl⟩ := fr_of (N := 143) (L := [(84, vb x17)]) hO ⟨e1, trivial⟩
      replace S47 : St _ ((bx b5 [vU x5.1, vU x5.2] 27) :: (bx b4 [vU x4.1, vU x4.2] 27) :: (bx b3 [vU x3.1, vU x3.2] 27) :: (bx b2 [vU x2.1, vU x2.2] 27) :: (bx b1 [vU x1.1, vU x1.2] 27) :: (X1 ++ As)) _ := S47
      have L6 := Mem.rfl' m33
      refine s_mvv (v := vb x17) rfl ?_
      refine wpn ?_
      refine ⟨m33, Mem.tr L5 L6, ⟨X1, C2, ?_⟩, facts_step HM rfl K L6 rfl rfl rfl, outP⟩
      exact S47
    · intro L f8 w42 hL hd hc ⟨m34, L7, ⟨X1, C3, S48⟩, K, hO⟩
      rcases bool_tf x17 with hb6 | hb6
      · have d1 : L 1 = true := dep hd rfl
        have e2 := K 1 d1
        obtain ⟨u8, rfl⟩ := fr_of (N := 143) (L := [(85, vb x17)]) hO ⟨e2, trivial⟩
        replace S48 : St _ ((bx b5 [vU x5.1, vU x5.2] 27) :: (bx b4 [vU x4.1, vU x4.2] 27) :: (bx b3 [vU x3.1, vU x3.2] 27) :: (bx b2 [vU x2.1, vU x2.2] 27) :: (bx b1 [vU x1.1, vU x1.2] 27) :: (X1 ++ As)) _ := S48
        have L8 := Mem.rfl' m34
        refine wpl_yes (d := 85) rfl rfl (congrArg Value.bool hb6) ?_
        refine s_mvv (v := vb x15) rfl ?_
        refine wpn ?_
        refine ⟨m34, Mem.tr L7 L8, ⟨X1, C3, ?_⟩, facts_step HM rfl K L8 rfl rfl ⟨fun _ => rfl, fun hx => tf hb6 hx⟩, outP⟩
        exact S48
      have d1 : L 1 = true := dep hd rfl
      have e3 := K 1 d1
      obtain ⟨u9, rfl⟩ := fr_of (N := 143) (L := [(85, vb x17)]) hO ⟨e3, trivial⟩
      replace S48 : St _ ((bx b5 [vU x5.1, vU x5.2] 27) :: (bx b4 [vU x4.1, vU x4.2] 27) :: (bx b3 [vU x3.1, vU x3.2] 27) :: (bx b2 [vU x2.1, vU x2.2] 27) :: (bx b1 [vU x1.1, vU x1.2] 27) :: (X1 ++ As)) _ := S48
      have L9 := Mem.rfl' m34
      refine wpl_no (d := 85) rfl rfl (congrArg Value.bool hb6) ?_
      refine wpn ?_
      refine ⟨m34, Mem.tr L7 L9, ⟨X1, C3, ?_⟩, facts_step HM rfl K L9 rfl rfl ⟨fun hx => tf hx hb6, fun _ => rfl⟩, outP⟩
      exact S48
    · intro L f9 w43 hL hd hc ⟨m35, L10, ⟨X1, C4, S49⟩, K, hO⟩
      rcases bool_tf x17 with hb7 | hb7
      · have d1 : L 1 = true := dep hd rfl
        have e4 := K 1 d1
        have d2 : L 2 = true := dep hd rfl
        have e5 := (K 2 d2).1 hb7
        obtain ⟨u10, rfl⟩ := fr_of (N := 143) (L := [(85, vb x17), (86, vb x15)]) hO ⟨e4, e5, trivial⟩
        replace S49 : St _ ((bx b5 [vU x5.1, vU x5.2] 27) :: (bx b4 [vU x4.1, vU x4.2] 27) :: (bx b3 [vU x3.1, vU x3.2] 27) :: (bx b2 [vU x2.1, vU x2.2] 27) :: (bx b1 [vU x1.1, vU x1.2] 27) :: (X1 ++ As)) _ := S49
        have L11 := Mem.rfl' m35
        refine s_pickT (congrArg Value.bool hb7) rfl ?_
        refine wpn ?_
        refine ⟨m35, Mem.tr L10 L11, ⟨X1, C4, ?_⟩, facts_step HM rfl K L11 rfl rfl (congrArg Value.bool (and_t hb7)), outP⟩
        exact S49
      · have d1 : L 1 = true := dep hd rfl
        have e6 := K 1 d1
        obtain ⟨u11, rfl⟩ := fr_of (N := 143) (L := [(85, vb x17)]) hO ⟨e6, trivial⟩
        replace S49 : St _ ((bx b5 [vU x5.1, vU x5.2] 27) :: (bx b4 [vU x4.1, vU x4.2] 27) :: (bx b3 [vU x3.1, vU x3.2] 27) :: (bx b2 [vU x2.1, vU x2.2] 27) :: (bx b1 [vU x1.1, vU x1.2] 27) :: (X1 ++ As)) _ := S49
        have L12 := Mem.rfl' m35
        refine s_pickF (congrArg Value.bool hb7) rfl ?_
        refine wpn ?_
        refine ⟨m35, Mem.tr L10 L12, ⟨X1, C4, ?_⟩, facts_step HM rfl K L12 rfl rfl (congrArg Value.bool (and_f hb7)), outP⟩
        exact S49
    · intro L f10 w44 hL hd hc ⟨m36, L13, ⟨X1, C5, S50⟩, K, hO⟩
      have d3 : L 3 = true := dep hd rfl
      have e7 := K 3 d3
      obtain ⟨u12, rfl⟩ := fr_of (N := 143) (L := [(87, vb (x17 && x15))]) hO ⟨e7, trivial⟩
      replace S50 : St _ ((bx b5 [vU x5.1, vU x5.2] 27) :: (bx b4 [vU x4.1, vU x4.2] 27) :: (bx b3 [vU x3.1, vU x3.2] 27) :: (bx b2 [vU x2.1, vU x2.2] 27) :: (bx b1 [vU x1.1, vU x1.2] 27) :: (X1 ++ As)) _ := S50
      have L14 := Mem.rfl' m36
      refine s_mvv (v := vb (x17 && x15)) rfl ?_
      refine wpn ?_
      refine ⟨m36, Mem.tr L13 L14, ⟨X1, C5, ?_⟩, facts_step HM rfl K L14 rfl rfl rfl, outP⟩
      exact S50
    · intro L f11 w45 hL hd hc ⟨m37, L15, ⟨X1, C6, S51⟩, K, hO⟩
      rcases bool_tf (x17 && x15) with hb8 | hb8
      · have d4 : L 4 = true := dep hd rfl
        have e8 := K 4 d4
        obtain ⟨u13, rfl⟩ := fr_of (N := 143) (L := [(88, vb (x17 && x15))]) hO ⟨e8, trivial⟩
        replace S51 : St _ ((bx b5 [vU x5.1, vU x5.2] 27) :: (bx b4 [vU x4.1, vU x4.2] 27) :: (bx b3 [vU x3.1, vU x3.2] 27) :: (bx b2 [vU x2.1, vU x2.2] 27) :: (bx b1 [vU x1.1, vU x1.2] 27) :: (X1 ++ As)) _ := S51
        replace h5 := h5.up L15
        replace h11 := h11.up L15
        replace h14 := h14.up L15
        replace h18 := h18.up L15
        replace T1 := T1.up L15
        have L16 := Mem.rfl' m37
        refine wpl_yes (d := 88) rfl rfl (congrArg Value.bool hb8) ?_
        refine s_ld (i := 4) (cs := [vU x1.1, vU x1.2]) S51 rfl rfl Tryd.isAgg27 Tryd.sizeOf27 rfl (fun h => by cases h) ?_
        refine wpn ?_
        refine ⟨m37, Mem.tr L15 L16, ⟨X1, C6, ?_⟩, facts_step HM rfl K L16 rfl rfl ⟨fun _ => rfl, fun hx => tf hb8 hx⟩, outP⟩
        exact S51
      have d4 : L 4 = true := dep hd rfl
      have e9 := K 4 d4
      obtain ⟨u14, rfl⟩ := fr_of (N := 143) (L := [(88, vb (x17 && x15))]) hO ⟨e9, trivial⟩
      replace S51 : St _ ((bx b5 [vU x5.1, vU x5.2] 27) :: (bx b4 [vU x4.1, vU x4.2] 27) :: (bx b3 [vU x3.1, vU x3.2] 27) :: (bx b2 [vU x2.1, vU x2.2] 27) :: (bx b1 [vU x1.1, vU x1.2] 27) :: (X1 ++ As)) _ := S51
      have L17 := Mem.rfl' m37
      refine wpl_no (d := 88) rfl rfl (congrArg Value.bool hb8) ?_
      refine wpn ?_
      refine ⟨m37, Mem.tr L15 L17, ⟨X1, C6, ?_⟩, facts_step HM rfl K L17 rfl rfl ⟨fun hx => tf hx hb8, fun _ => rfl⟩, outP⟩
      exact S51
    · intro L f12 w46 hL hd hc ⟨m38, L18, ⟨X1, C7, S52⟩, K, hO⟩
      rcases bool_tf (x17 && x15) with hb9 | hb9
      · have d4 : L 4 = true := dep hd rfl
        have e10 := K 4 d4
        have d6 : L 6 = false := hL
        have d7 : L 7 = false := undep hc hL rfl
        obtain ⟨u15, rfl⟩ := fr_of (N := 143) (L := [(88, vb (x17 && x15))]) hO ⟨e10, trivial⟩
        replace S52 : St _ ((bx b5 [vU x5.1, vU x5.2] 27) :: (bx b4 [vU x4.1, vU x4.2] 27) :: (bx b3 [vU x3.1, vU x3.2] 27) :: (bx b2 [vU x2.1, vU x2.2] 27) :: (bx b1 [vU x1.1, vU x1.2] 27) :: (X1 ++ As)) _ := S52
        obtain rfl := C7.1 d6
        replace S52 : St _ ((bx b5 [vU x5.1, vU x5.2] 27) :: (bx b4 [vU x4.1, vU x4.2] 27) :: (bx b3 [vU x3.1, vU x3.2] 27) :: (bx b2 [vU x2.1, vU x2.2] 27) :: (bx b1 [vU x1.1, vU x1.2] 27) :: As) _ := S52
        replace h5 := h5.up L18
        replace h11 := h11.up L18
        replace h14 := h14.up L18
        replace h18 := h18.up L18
        replace T1 := T1.up L18
        have L19 := Mem.rfl' m38
        refine wpl_yes (d := 88) rfl rfl (congrArg Value.bool hb9) ?_
        refine s_litOC (parts := [.const (.int .u8 97)]) (vs := [vB 97]) (cls := [[vB 97]]) (n := 1) (sz := 1) S52 Tryd.underlying23 Tryd.sizeOf5 Tryd.zeroValue5 rfl ⟨rfl, trivial⟩ rfl rfl (by decide) (by decide) ?_
        intro v13 w47 S53
        have h23 : RepL m38 [vB 97] ([97] : List UInt8) := (RepL.cons (c := [vB 97]) (x := 97) rfl RepL.nil)
        replace S53 : St _ ((row 1 v13 [vB 97] ([97] : List UInt8).length) :: (bx b5 [vU x5.1, vU x5.2] 27) :: (bx b4 [vU x4.1, vU x4.2] 27) :: (bx b3 [vU x3.1, vU x3.2] 27) :: (bx b2 [vU x2.1, vU x2.2] 27) :: (bx b1 [vU x1.1, vU x1.2] 27) :: As) _ := S53
        clear S52
        refine wpn ?_
        refine ⟨m38, Mem.tr L18 L19, ⟨[row 1 v13 [vB 97] ([97] : List UInt8).length], ⟨fun hx => tf rfl hx, fun _ _ => ⟨fun _ => ⟨_, rfl, h23⟩, fun hx => tf hb9 hx⟩, fun hx => tf hx d7⟩, ?_⟩, facts_step HM rfl K L19 rfl rfl trivial, outP⟩
        have S124 : St _ ((bx b5 [vU x5.1, vU x5.2] 27) :: (bx b4 [vU x4.1, vU x4.2] 27) :: (bx b3 [vU x3.1, vU x3.2] 27) :: (bx b2 [vU x2.1, vU x2.2] 27) :: (bx b1 [vU x1.1, vU x1.2] 27) :: (row 1 v13 [vB 97] ([97] : List UInt8).length) :: As) _ := St.perm S53 (List.Perm.trans (List.Perm.swap _ _ _) (List.Perm.trans (List.Perm.cons _ (List.Perm.swap _ _ _)) (List.Perm.trans (List.Perm.cons _ (List.Perm.cons _ (List.Perm.swap _ _ _))) (List.Perm.trans (List.Perm.cons _ (List.Perm.cons _ (List.Perm.cons _ (List.Perm.swap _ _ _)))) (List.Perm.cons _ (List.Perm.cons _ (List.Perm.cons _ (List.Perm.cons _ (List.Perm.swap _ _ _)))))))))
        exact S124
      have d4 : L 4 = true := dep hd rfl
      have e11 := K 4 d4
      have d6 : L 6 = false := hL
      have d7 : L 7 = false := undep hc hL rfl
      obtain ⟨u16, rfl⟩ := fr_of (N := 143) (L := [(88, vb (x17 && x15))]) hO ⟨e11, trivial⟩
      replace S52 : St _ ((bx b5 [vU x5.1, vU x5.2] 27) :: (bx b4 [vU x4.1, vU x4.2] 27) :: (bx b3 [vU x3.1, vU x3.2] 27) :: (bx b2 [vU x2.1, vU x2.2] 27) :: (bx b1 [vU x1.1, vU x1.2] 27) :: (X1 ++ As)) _ := S52
      obtain rfl := C7.1 d6
      replace S52 : St _ ((bx b5 [vU x5.1, vU x5.2] 27) :: (bx b4 [vU x4.1, vU x4.2] 27) :: (bx b3 [vU x3.1, vU x3.2] 27) :: (bx b2 [vU x2.1, vU x2.2] 27) :: (bx b1 [vU x1.1, vU x1.2] 27) :: As) _ := S52
      have L20 := Mem.rfl' m38
      refine wpl_no (d := 88) rfl rfl (congrArg Value.bool hb9) ?_
      refine wpn ?_
      refine ⟨m38, Mem.tr L18 L20, ⟨[], ⟨fun hx => tf rfl hx, fun _ _ => ⟨fun hx => tf hx hb9, fun _ => rfl⟩, fun hx => tf hx d7⟩, ?_⟩, facts_step HM rfl K L20 rfl rfl trivial, outP⟩
      exact S52
    · intro L f13 w48 hL hd hc ⟨m39, L21, ⟨X1, C8, S54⟩, K, hO⟩
      rcases bool_tf (x17 && x15) with hb10 | hb10
      · have d4 : L 4 = true := dep hd rfl
        have e12 := K 4 d4
        obtain ⟨v14, e13⟩ : ∃ x, f13 90 = x := ⟨_, rfl⟩
        have d6 : L 6 = true := dep hd rfl
        have d7 : L 7 = false := hL
        obtain ⟨u17, rfl⟩ := fr_of (N := 143) (L := [(88, vb (x17 && x15)), (90, v14)]) hO ⟨e12, e13, trivial⟩
        replace S54 : St _ ((bx b5 [vU x5.1, vU x5.2] 27) :: (bx b4 [vU x4.1, vU x4.2] 27) :: (bx b3 [vU x3.1, vU x3.2] 27) :: (bx b2 [vU x2.1, vU x2.2] 27) :: (bx b1 [vU x1.1, vU x1.2] 27) :: (X1 ++ As)) _ := S54
        obtain ⟨c5, rfl, h24⟩ := (C8.2.1 d6 d7).1 hb10
        replace h24 : RepL _ c5 ([97] : List UInt8) := h24
        replace S54 : St _ ((bx b5 [vU x5.1, vU x5.2] 27) :: (bx b4 [vU x4.1, vU x4.2] 27) :: (bx b3 [vU x3.1, vU x3.2] 27) :: (bx b2 [vU x2.1, vU x2.2] 27) :: (bx b1 [vU x1.1, vU x1.2] 27) :: (row 1 v14 c5 ([97] : List UInt8).length) :: As) _ := S54
        replace h5 := h5.up L21
        replace h11 := h11.up L21
        replace h14 := h14.up L21
        replace h18 := h18.up L21
        replace T1 := T1.up L21
        have L22 := Mem.rfl' m39
        refine wpl_yes (d := 88) rfl rfl (congrArg Value.bool hb10) ?_
        refine s_mark (i := 5) S54 rfl rfl (Nat.le_of_ble_eq_true rfl) Tryd.underlying23 Tryd.underlying5 ?_
        intro w49 S55
        clear S54
        obtain ⟨m40, l32, h25, S56⟩ := St.rowKeepT (i := 5) S55 rfl h24 rfl
        replace h5 := h5.up l32
        replace h11 := h11.up l32
        replace h14 := h14.up l32
        replace h18 := h18.up l32
        replace T1 := T1.up l32
        replace L22 := Mem.tr L22 l32
        clear S55
        refine wpn ?_
        refine ⟨m40, Mem.tr L21 L22, ⟨[], ⟨fun hx => tf d6 hx, fun _ hx => tf rfl hx, fun _ => rfl⟩, ?_⟩, facts_step HM rfl K L22 rfl rfl ⟨fun _ => ⟨v14, rfl, h25⟩, fun hx => tf hb10 hx⟩, outP⟩
        exact S56
      have d4 : L 4 = true := dep hd rfl
      have e14 := K 4 d4
      have d6 : L 6 = true := dep hd rfl
      have d7 : L 7 = false := hL
      obtain ⟨v15, e15⟩ : ∃ x, f13 90 = x := ⟨_, rfl⟩
      obtain ⟨u18, rfl⟩ := fr_of (N := 143) (L := [(88, vb (x17 && x15)), (90, v15)]) hO ⟨e14, e15, trivial⟩
      replace S54 : St _ ((bx b5 [vU x5.1, vU x5.2] 27) :: (bx b4 [vU x4.1, vU x4.2] 27) :: (bx b3 [vU x3.1, vU x3.2] 27) :: (bx b2 [vU x2.1, vU x2.2] 27) :: (bx b1 [vU x1.1, vU x1.2] 27) :: (X1 ++ As)) _ := S54
      obtain rfl := (C8.2.1 d6 d7).2 hb10
      replace S54 : St _ ((bx b5 [vU x5.1, vU x5.2] 27) :: (bx b4 [vU x4.1, vU x4.2] 27) :: (bx b3 [vU x3.1, vU x3.2] 27) :: (bx b2 [vU x2.1, vU x2.2] 27) :: (bx b1 [vU x1.1, vU x1.2] 27) :: As) _ := S54
      have L23 := Mem.rfl' m39
      refine wpl_no (d := 88) rfl rfl (congrArg Value.bool hb10) ?_
      refine wpn ?_
      refine ⟨m39, Mem.tr L21 L23, ⟨[], ⟨fun hx => tf d6 hx, fun _ hx => tf rfl hx, fun _ => rfl⟩, ?_⟩, facts_step HM rfl K L23 rfl rfl ⟨fun hx => tf hx hb10, fun _ => rfl⟩, outP⟩
      exact S54
    · intro L f14 w50 hL hd hc ⟨m41, L24, ⟨X1, C9, S57⟩, K, hO⟩
      rcases bool_tf (x17 && x15) with hb11 | hb11
      · have d4 : L 4 = true := dep hd rfl
        have e16 := K 4 d4
        have d7 : L 7 = true := dep hd rfl
        obtain ⟨v16, e17, h26⟩ := (K 7 d7).1 hb11
        obtain ⟨u19, rfl⟩ := fr_of (N := 143) (L := [(88, vb (x17 && x15)), (91, v16)]) hO ⟨e16, e17, trivial⟩
        replace S57 : St _ ((bx b5 [vU x5.1, vU x5.2] 27) :: (bx b4 [vU x4.1, vU x4.2] 27) :: (bx b3 [vU x3.1, vU x3.2] 27) :: (bx b2 [vU x2.1, vU x2.2] 27) :: (bx b1 [vU x1.1, vU x1.2] 27) :: (X1 ++ As)) _ := S57
        replace h5 := h5.up L24
        replace h11 := h11.up L24
        replace h14 := h14.up L24
        replace h18 := h18.up L24
        replace T1 := T1.up L24
        have L25 := Mem.rfl' m41
        refine wpl_yes (d := 88) rfl rfl (congrArg Value.bool hb11) ?_
        refine s_litC (parts := [.tmp 91]) (vs := [v16]) (cls := [[v16]]) (xs := ([([97] : List UInt8)] : List (List UInt8))) (n := 1) S57 Tryd.underlying75 Tryd.sizeOf23 Tryd.zeroValue23 rfl ⟨SlR.cells h26, trivial⟩ (RepL.cons (c := [v16]) (x := ([97] : List UInt8)) ⟨_, rfl, h26⟩ RepL.nil) rfl rfl rfl (by decide) (by decide) ?_
        intro v17 m42 w51 l33 S58 h27
        replace h5 := h5.up l33
        replace h11 := h11.up l33
        replace h14 := h14.up l33
        replace h18 := h18.up l33
        replace h26 := h26.up l33
        replace C9 := C9.imp id (fun q => q.imp (fun p a b => (p a b).imp (fun r hc => RowS.up l33 (r hc)) id) id)
        replace T1 := T1.up l33
        replace L25 := Mem.tr L25 l33
        clear S57
        refine wpn ?_
        refine ⟨m42, Mem.tr L24 L25, ⟨X1, C9, ?_⟩, facts_step HM rfl K L25 rfl rfl ⟨fun _ => ⟨v17, rfl, h27⟩, fun hx => tf hb11 hx⟩, outP⟩
        exact S58
      have d4 : L 4 = true := dep hd rfl
      have e18 := K 4 d4
      obtain ⟨u20, rfl⟩ := fr_of (N := 143) (L := [(88, vb (x17 && x15))]) hO ⟨e18, trivial⟩
      replace S57 : St _ ((bx b5 [vU x5.1, vU x5.2] 27) :: (bx b4 [vU x4.1, vU x4.2] 27) :: (bx b3 [vU x3.1, vU x3.2] 27) :: (bx b2 [vU x2.1, vU x2.2] 27) :: (bx b1 [vU x1.1, vU x1.2] 27) :: (X1 ++ As)) _ := S57
      have L26 := Mem.rfl' m41
      refine wpl_no (d := 88) rfl rfl (congrArg Value.bool hb11) ?_
      refine wpn ?_
      refine ⟨m41, Mem.tr L24 L26, ⟨X1, C9, ?_⟩, facts_step HM rfl K L26 rfl rfl ⟨fun hx => tf hx hb11, fun _ => rfl⟩, outP⟩
      exact S57
    · intro L f15 w52 hL hd hc ⟨m43, L27, ⟨X1, C10, S59⟩, K, hO⟩
      rcases bool_tf (x17 && x15) with hb12 | hb12
      · have d4 : L 4 = true := dep hd rfl
        have e19 := K 4 d4
        have d8 : L 8 = true := dep hd rfl
        obtain ⟨v18, e20, h28⟩ := (K 8 d8).1 hb12
        obtain ⟨u21, rfl⟩ := fr_of (N := 143) (L := [(88, vb (x17 && x15)), (92, v18)]) hO ⟨e19, e20, trivial⟩
        replace S59 : St _ ((bx b5 [vU x5.1, vU x5.2] 27) :: (bx b4 [vU x4.1, vU x4.2] 27) :: (bx b3 [vU x3.1, vU x3.2] 27) :: (bx b2 [vU x2.1, vU x2.2] 27) :: (bx b1 [vU x1.1, vU x1.2] 27) :: (X1 ++ As)) _ := S59
        replace h5 := h5.up L27
        replace h11 := h11.up L27
        replace h14 := h14.up L27
        replace h18 := h18.up L27
        replace T1 := T1.up L27
        have L28 := Mem.rfl' m43
        refine wpl_yes (d := 88) rfl rfl (congrArg Value.bool hb12) ?_
        replace q18 := gu_t hb12 q18
        refine s_call Tryd.call30 (w_hash_Tagged (a0 := (⟨#[108, 101, 97, 102]⟩ : ByteArray)) (a1 := ([([97] : List UInt8)] : List (List UInt8))) S59 h28 q18) rfl ?_
        rintro _ w53 ⟨m44, l34, S60, rfl⟩
        replace h5 := h5.up l34
        replace h11 := h11.up l34
        replace h14 := h14.up l34
        replace h18 := h18.up l34
        replace h28 := h28.up l34
        replace C10 := C10.imp id (fun q => q.imp (fun p a b => (p a b).imp (fun r hc => RowS.up l34 (r hc)) id) id)
        replace T1 := T1.up l34
        replace L28 := Mem.tr L28 l34
        clear S59
        replace S60 : St _ ((bx b5 [vU x5.1, vU x5.2] 27) :: (bx b4 [vU x4.1, vU x4.2] 27) :: (bx b3 [vU x3.1, vU x3.2] 27) :: (bx b2 [vU x2.1, vU x2.2] 27) :: (bx b1 [vU x1.1, vU x1.2] 27) :: (X1 ++ As)) _ := S60
        refine wpn ?_
        refine ⟨m44, Mem.tr L27 L28, ⟨X1, C10, ?_⟩, facts_step HM rfl K L28 rfl rfl ⟨fun _ => rfl, fun hx => tf hb12 hx⟩, outP⟩
        exact S60
      have d4 : L 4 = true := dep hd rfl
      have e21 := K 4 d4
      obtain ⟨u22, rfl⟩ := fr_of (N := 143) (L := [(88, vb (x17 && x15))]) hO ⟨e21, trivial⟩
      replace S59 : St _ ((bx b5 [vU x5.1, vU x5.2] 27) :: (bx b4 [vU x4.1, vU x4.2] 27) :: (bx b3 [vU x3.1, vU x3.2] 27) :: (bx b2 [vU x2.1, vU x2.2] 27) :: (bx b1 [vU x1.1, vU x1.2] 27) :: (X1 ++ As)) _ := S59
      have L29 := Mem.rfl' m43
      refine wpl_no (d := 88) rfl rfl (congrArg Value.bool hb12) ?_
      refine wpn ?_
      refine ⟨m43, Mem.tr L27 L29, ⟨X1, C10, ?_⟩, facts_step HM rfl K L29 rfl rfl ⟨fun hx => tf hx hb12, fun _ => rfl⟩, outP⟩
      exact S59
    · intro L f16 w54 hL hd hc ⟨m45, L30, ⟨X1, C11, S61⟩, K, hO⟩
      rcases bool_tf (x17 && x15) with hb13 | hb13
      · have d4 : L 4 = true := dep hd rfl
        have e22 := K 4 d4
        have d5 : L 5 = true := dep hd rfl
        have e23 := (K 5 d5).1 hb13
        have d9 : L 9 = true := dep hd rfl
        have e24 := (K 9 d9).1 hb13
        obtain ⟨u23, rfl⟩ := fr_of (N := 143) (L := [(88, vb (x17 && x15)), (89, .agg #[vU x1.1, vU x1.2]), (93, .agg #[vU x18.1, vU x18.2])]) hO ⟨e22, e23, e24, trivial⟩
        replace S61 : St _ ((bx b5 [vU x5.1, vU x5.2] 27) :: (bx b4 [vU x4.1, vU x4.2] 27) :: (bx b3 [vU x3.1, vU x3.2] 27) :: (bx b2 [vU x2.1, vU x2.2] 27) :: (bx b1 [vU x1.1, vU x1.2] 27) :: (X1 ++ As)) _ := S61
        replace h5 := h5.up L30
        replace h11 := h11.up L30
        replace h14 := h14.up L30
        replace h18 := h18.up L30
        replace T1 := T1.up L30
        have L31 := Mem.rfl' m45
        refine wpl_yes (d := 88) rfl rfl (congrArg Value.bool hb13) ?_
        refine s_eqlSum (p := x1) (q := x18) rfl rfl Tryd.underlying27 Tryd.underlying25 Tryd.sizeOf25 Tryd.isAgg25 Tryd.eqGuardType27 ?_
        refine wpn ?_
        refine ⟨m45, Mem.tr L30 L31, ⟨X1, C11, ?_⟩, facts_step HM rfl K L31 rfl rfl ⟨fun _ => rfl, fun hx => tf hb13 hx⟩, outP⟩
        exact S61
      have d4 : L 4 = true := dep hd rfl
      have e25 := K 4 d4
      obtain ⟨u24, rfl⟩ := fr_of (N := 143) (L := [(88, vb (x17 && x15))]) hO ⟨e25, trivial⟩
      replace S61 : St _ ((bx b5 [vU x5.1, vU x5.2] 27) :: (bx b4 [vU x4.1, vU x4.2] 27) :: (bx b3 [vU x3.1, vU x3.2] 27) :: (bx b2 [vU x2.1, vU x2.2] 27) :: (bx b1 [vU x1.1, vU x1.2] 27) :: (X1 ++ As)) _ := S61
      have L32 := Mem.rfl' m45
      refine wpl_no (d := 88) rfl rfl (congrArg Value.bool hb13) ?_
      refine wpn ?_
      refine ⟨m45, Mem.tr L30 L32, ⟨X1, C11, ?_⟩, facts_step HM rfl K L32 rfl rfl ⟨fun hx => tf hx hb13, fun _ => rfl⟩, outP⟩
      exact S61
    · intro L f17 w55 hL hd hc ⟨m46, L33, ⟨X1, C12, S62⟩, K, hO⟩
      rcases bool_tf (x17 && x15) with hb14 | hb14
      · have d4 : L 4 = true := dep hd rfl
        have e26 := K 4 d4
        have d10 : L 10 = true := dep hd rfl
        have e27 := (K 10 d10).1 hb14
        obtain ⟨u25, rfl⟩ := fr_of (N := 143) (L := [(88, vb (x17 && x15)), (94, vb (eqSum x1 x18))]) hO ⟨e26, e27, trivial⟩
        replace S62 : St _ ((bx b5 [vU x5.1, vU x5.2] 27) :: (bx b4 [vU x4.1, vU x4.2] 27) :: (bx b3 [vU x3.1, vU x3.2] 27) :: (bx b2 [vU x2.1, vU x2.2] 27) :: (bx b1 [vU x1.1, vU x1.2] 27) :: (X1 ++ As)) _ := S62
        have L34 := Mem.rfl' m46
        refine s_pickT (congrArg Value.bool hb14) rfl ?_
        refine wpn ?_
        refine ⟨m46, Mem.tr L33 L34, ⟨X1, C12, ?_⟩, facts_step HM rfl K L34 rfl rfl (congrArg Value.bool (and_t hb14)), outP⟩
        exact S62
      · have d4 : L 4 = true := dep hd rfl
        have e28 := K 4 d4
        obtain ⟨u26, rfl⟩ := fr_of (N := 143) (L := [(88, vb (x17 && x15))]) hO ⟨e28, trivial⟩
        replace S62 : St _ ((bx b5 [vU x5.1, vU x5.2] 27) :: (bx b4 [vU x4.1, vU x4.2] 27) :: (bx b3 [vU x3.1, vU x3.2] 27) :: (bx b2 [vU x2.1, vU x2.2] 27) :: (bx b1 [vU x1.1, vU x1.2] 27) :: (X1 ++ As)) _ := S62
        have L35 := Mem.rfl' m46
        refine s_pickF (congrArg Value.bool hb14) rfl ?_
        refine wpn ?_
        refine ⟨m46, Mem.tr L33 L35, ⟨X1, C12, ?_⟩, facts_step HM rfl K L35 rfl rfl (congrArg Value.bool (and_f hb14)), outP⟩
        exact S62
    · intro L f18 w56 hL hd hc ⟨m47, L36, ⟨X1, C13, S63⟩, K, hO⟩
      have d11 : L 11 = true := dep hd rfl
      have e29 := K 11 d11
      obtain ⟨u27, rfl⟩ := fr_of (N := 143) (L := [(95, vb ((x17 && x15) && (eqSum x1 x18)))]) hO ⟨e29, trivial⟩
      replace S63 : St _ ((bx b5 [vU x5.1, vU x5.2] 27) :: (bx b4 [vU x4.1, vU x4.2] 27) :: (bx b3 [vU x3.1, vU x3.2] 27) :: (bx b2 [vU x2.1, vU x2.2] 27) :: (bx b1 [vU x1.1, vU x1.2] 27) :: (X1 ++ As)) _ := S63
      have L37 := Mem.rfl' m47
      refine s_mvv (v := vb ((x17 && x15) && (eqSum x1 x18))) rfl ?_
      refine wpn ?_
      refine ⟨m47, Mem.tr L36 L37, ⟨X1, C13, ?_⟩, facts_step HM rfl K L37 rfl rfl rfl, outP⟩
      exact S63
    · intro L f19 w57 hL hd hc ⟨m48, L38, ⟨X1, C14, S64⟩, K, hO⟩
      rcases bool_tf ((x17 && x15) && (eqSum x1 x18)) with hb15 | hb15
      · have d12 : L 12 = true := dep hd rfl
        have e30 := K 12 d12
        obtain ⟨u28, rfl⟩ := fr_of (N := 143) (L := [(96, vb ((x17 && x15) && (eqSum x1 x18)))]) hO ⟨e30, trivial⟩
        replace S64 : St _ ((bx b5 [vU x5.1, vU x5.2] 27) :: (bx b4 [vU x4.1, vU x4.2] 27) :: (bx b3 [vU x3.1, vU x3.2] 27) :: (bx b2 [vU x2.1, vU x2.2] 27) :: (bx b1 [vU x1.1, vU x1.2] 27) :: (X1 ++ As)) _ := S64
        replace h5 := h5.up L38
        replace h11 := h11.up L38
        replace h14 := h14.up L38
        replace h18 := h18.up L38
        replace T1 := T1.up L38
        have L39 := Mem.rfl' m48
        refine wpl_yes (d := 96) rfl rfl (congrArg Value.bool hb15) ?_
        replace q19 := gu_t hb15 q19
        refine s_call Tryd.call13 (w_merkle_Root (a0 := ([] : List (UInt64 × UInt64))) S64 (SlR.nil (a := none) (c := 0)) q19) rfl ?_
        rintro _ w58 ⟨m49, l35, S65, rfl⟩
        replace h5 := h5.up l35
        replace h11 := h11.up l35
        replace h14 := h14.up l35
        replace h18 := h18.up l35
        replace C14 := C14.imp id (fun q => q.imp (fun p a b => (p a b).imp (fun r hc => RowS.up l35 (r hc)) id) id)
        replace T1 := T1.up l35
        replace L39 := Mem.tr L39 l35
        clear S64
        replace S65 : St _ ((bx b5 [vU x5.1, vU x5.2] 27) :: (bx b4 [vU x4.1, vU x4.2] 27) :: (bx b3 [vU x3.1, vU x3.2] 27) :: (bx b2 [vU x2.1, vU x2.2] 27) :: (bx b1 [vU x1.1, vU x1.2] 27) :: (X1 ++ As)) _ := S65
        refine wpn ?_
        refine ⟨m49, Mem.tr L38 L39, ⟨X1, C14, ?_⟩, facts_step HM rfl K L39 rfl rfl ⟨fun _ => rfl, fun hx => tf hb15 hx⟩, outP⟩
        exact S65
      have d12 : L 12 = true := dep hd rfl
      have e31 := K 12 d12
      obtain ⟨u29, rfl⟩ := fr_of (N := 143) (L := [(96, vb ((x17 && x15) && (eqSum x1 x18)))]) hO ⟨e31, trivial⟩
      replace S64 : St _ ((bx b5 [vU x5.1, vU x5.2] 27) :: (bx b4 [vU x4.1, vU x4.2] 27) :: (bx b3 [vU x3.1, vU x3.2] 27) :: (bx b2 [vU x2.1, vU x2.2] 27) :: (bx b1 [vU x1.1, vU x1.2] 27) :: (X1 ++ As)) _ := S64
      have L40 := Mem.rfl' m48
      refine wpl_no (d := 96) rfl rfl (congrArg Value.bool hb15) ?_
      refine wpn ?_
      refine ⟨m48, Mem.tr L38 L40, ⟨X1, C14, ?_⟩, facts_step HM rfl K L40 rfl rfl ⟨fun hx => tf hx hb15, fun _ => rfl⟩, outP⟩
      exact S64
    · intro L f20 w59 hL hd hc ⟨m50, L41, ⟨X1, C15, S66⟩, K, hO⟩
      rcases bool_tf ((x17 && x15) && (eqSum x1 x18)) with hb16 | hb16
      · have d12 : L 12 = true := dep hd rfl
        have e32 := K 12 d12
        obtain ⟨u30, rfl⟩ := fr_of (N := 143) (L := [(96, vb ((x17 && x15) && (eqSum x1 x18)))]) hO ⟨e32, trivial⟩
        replace S66 : St _ ((bx b5 [vU x5.1, vU x5.2] 27) :: (bx b4 [vU x4.1, vU x4.2] 27) :: (bx b3 [vU x3.1, vU x3.2] 27) :: (bx b2 [vU x2.1, vU x2.2] 27) :: (bx b1 [vU x1.1, vU x1.2] 27) :: (X1 ++ As)) _ := S66
        replace h5 := h5.up L41
        replace h11 := h11.up L41
        replace h14 := h14.up L41
        replace h18 := h18.up L41
        replace T1 := T1.up L41
        have L42 := Mem.rfl' m50
        refine wpl_yes (d := 96) rfl rfl (congrArg Value.bool hb16) ?_
        replace q20 := gu_t hb16 q20
        refine s_call Tryd.call30 (w_hash_Tagged (a0 := (⟨#[101, 109, 112, 116, 121]⟩ : ByteArray)) (a1 := ([] : List (List UInt8))) S66 (SlR.nil (a := none) (c := 0)) q20) rfl ?_
        rintro _ w60 ⟨m51, l36, S67, rfl⟩
        replace h5 := h5.up l36
        replace h11 := h11.up l36
        replace h14 := h14.up l36
        replace h18 := h18.up l36
        replace C15 := C15.imp id (fun q => q.imp (fun p a b => (p a b).imp (fun r hc => RowS.up l36 (r hc)) id) id)
        replace T1 := T1.up l36
        replace L42 := Mem.tr L42 l36
        clear S66
        replace S67 : St _ ((bx b5 [vU x5.1, vU x5.2] 27) :: (bx b4 [vU x4.1, vU x4.2] 27) :: (bx b3 [vU x3.1, vU x3.2] 27) :: (bx b2 [vU x2.1, vU x2.2] 27) :: (bx b1 [vU x1.1, vU x1.2] 27) :: (X1 ++ As)) _ := S67
        refine wpn ?_
        refine ⟨m51, Mem.tr L41 L42, ⟨X1, C15, ?_⟩, facts_step HM rfl K L42 rfl rfl ⟨fun _ => rfl, fun hx => tf hb16 hx⟩, outP⟩
        exact S67
      have d12 : L 12 = true := dep hd rfl
      have e33 := K 12 d12
      obtain ⟨u31, rfl⟩ := fr_of (N := 143) (L := [(96, vb ((x17 && x15) && (eqSum x1 x18)))]) hO ⟨e33, trivial⟩
      replace S66 : St _ ((bx b5 [vU x5.1, vU x5.2] 27) :: (bx b4 [vU x4.1, vU x4.2] 27) :: (bx b3 [vU x3.1, vU x3.2] 27) :: (bx b2 [vU x2.1, vU x2.2] 27) :: (bx b1 [vU x1.1, vU x1.2] 27) :: (X1 ++ As)) _ := S66
      have L43 := Mem.rfl' m50
      refine wpl_no (d := 96) rfl rfl (congrArg Value.bool hb16) ?_
      refine wpn ?_
      refine ⟨m50, Mem.tr L41 L43, ⟨X1, C15, ?_⟩, facts_step HM rfl K L43 rfl rfl ⟨fun hx => tf hx hb16, fun _ => rfl⟩, outP⟩
      exact S66
    · intro L f21 w61 hL hd hc ⟨m52, L44, ⟨X1, C16, S68⟩, K, hO⟩
      rcases bool_tf ((x17 && x15) && (eqSum x1 x18)) with hb17 | hb17
      · have d12 : L 12 = true := dep hd rfl
        have e34 := K 12 d12
        have d13 : L 13 = true := dep hd rfl
        have e35 := (K 13 d13).1 hb17
        have d14 : L 14 = true := dep hd rfl
        have e36 := (K 14 d14).1 hb17
        obtain ⟨u32, rfl⟩ := fr_of (N := 143) (L := [(96, vb ((x17 && x15) && (eqSum x1 x18))), (97, .agg #[vU x19.1, vU x19.2]), (98, .agg #[vU x20.1, vU x20.2])]) hO ⟨e34, e35, e36, trivial⟩
        replace S68 : St _ ((bx b5 [vU x5.1, vU x5.2] 27) :: (bx b4 [vU x4.1, vU x4.2] 27) :: (bx b3 [vU x3.1, vU x3.2] 27) :: (bx b2 [vU x2.1, vU x2.2] 27) :: (bx b1 [vU x1.1, vU x1.2] 27) :: (X1 ++ As)) _ := S68
        replace h5 := h5.up L44
        replace h11 := h11.up L44
        replace h14 := h14.up L44
        replace h18 := h18.up L44
        replace T1 := T1.up L44
        have L45 := Mem.rfl' m52
        refine wpl_yes (d := 96) rfl rfl (congrArg Value.bool hb17) ?_
        refine s_eqlSum (p := x19) (q := x20) rfl rfl Tryd.underlying27 Tryd.underlying25 Tryd.sizeOf25 Tryd.isAgg25 Tryd.eqGuardType27 ?_
        refine wpn ?_
        refine ⟨m52, Mem.tr L44 L45, ⟨X1, C16, ?_⟩, facts_step HM rfl K L45 rfl rfl ⟨fun _ => rfl, fun hx => tf hb17 hx⟩, outP⟩
        exact S68
      have d12 : L 12 = true := dep hd rfl
      have e37 := K 12 d12
      obtain ⟨u33, rfl⟩ := fr_of (N := 143) (L := [(96, vb ((x17 && x15) && (eqSum x1 x18)))]) hO ⟨e37, trivial⟩
      replace S68 : St _ ((bx b5 [vU x5.1, vU x5.2] 27) :: (bx b4 [vU x4.1, vU x4.2] 27) :: (bx b3 [vU x3.1, vU x3.2] 27) :: (bx b2 [vU x2.1, vU x2.2] 27) :: (bx b1 [vU x1.1, vU x1.2] 27) :: (X1 ++ As)) _ := S68
      have L46 := Mem.rfl' m52
      refine wpl_no (d := 96) rfl rfl (congrArg Value.bool hb17) ?_
      refine wpn ?_
      refine ⟨m52, Mem.tr L44 L46, ⟨X1, C16, ?_⟩, facts_step HM rfl K L46 rfl rfl ⟨fun hx => tf hx hb17, fun _ => rfl⟩, outP⟩
      exact S68
    · intro L f22 w62 hL hd hc ⟨m53, L47, ⟨X1, C17, S69⟩, K, hO⟩
      rcases bool_tf ((x17 && x15) && (eqSum x1 x18)) with hb18 | hb18
      · have d12 : L 12 = true := dep hd rfl
        have e38 := K 12 d12
        have d15 : L 15 = true := dep hd rfl
        have e39 := (K 15 d15).1 hb18
        obtain ⟨u34, rfl⟩ := fr_of (N := 143) (L := [(96, vb ((x17 && x15) && (eqSum x1 x18))), (99, vb (eqSum x19 x20))]) hO ⟨e38, e39, trivial⟩
        replace S69 : St _ ((bx b5 [vU x5.1, vU x5.2] 27) :: (bx b4 [vU x4.1, vU x4.2] 27) :: (bx b3 [vU x3.1, vU x3.2] 27) :: (bx b2 [vU x2.1, vU x2.2] 27) :: (bx b1 [vU x1.1, vU x1.2] 27) :: (X1 ++ As)) _ := S69
        have L48 := Mem.rfl' m53
        refine s_pickT (congrArg Value.bool hb18) rfl ?_
        refine wpn ?_
        refine ⟨m53, Mem.tr L47 L48, ⟨X1, C17, ?_⟩, facts_step HM rfl K L48 rfl rfl (congrArg Value.bool (and_t hb18)), outP⟩
        exact S69
      · have d12 : L 12 = true := dep hd rfl
        have e40 := K 12 d12
        obtain ⟨u35, rfl⟩ := fr_of (N := 143) (L := [(96, vb ((x17 && x15) && (eqSum x1 x18)))]) hO ⟨e40, trivial⟩
        replace S69 : St _ ((bx b5 [vU x5.1, vU x5.2] 27) :: (bx b4 [vU x4.1, vU x4.2] 27) :: (bx b3 [vU x3.1, vU x3.2] 27) :: (bx b2 [vU x2.1, vU x2.2] 27) :: (bx b1 [vU x1.1, vU x1.2] 27) :: (X1 ++ As)) _ := S69
        have L49 := Mem.rfl' m53
        refine s_pickF (congrArg Value.bool hb18) rfl ?_
        refine wpn ?_
        refine ⟨m53, Mem.tr L47 L49, ⟨X1, C17, ?_⟩, facts_step HM rfl K L49 rfl rfl (congrArg Value.bool (and_f hb18)), outP⟩
        exact S69
    · intro L f23 w63 hL hd hc ⟨m54, L50, ⟨X1, C18, S70⟩, K, hO⟩
      have d16 : L 16 = true := dep hd rfl
      have e41 := K 16 d16
      obtain ⟨u36, rfl⟩ := fr_of (N := 143) (L := [(100, vb (((x17 && x15) && (eqSum x1 x18)) && (eqSum x19 x20)))]) hO ⟨e41, trivial⟩
      replace S70 : St _ ((bx b5 [vU x5.1, vU x5.2] 27) :: (bx b4 [vU x4.1, vU x4.2] 27) :: (bx b3 [vU x3.1, vU x3.2] 27) :: (bx b2 [vU x2.1, vU x2.2] 27) :: (bx b1 [vU x1.1, vU x1.2] 27) :: (X1 ++ As)) _ := S70
      have L51 := Mem.rfl' m54
      refine s_mvv (v := vb (((x17 && x15) && (eqSum x1 x18)) && (eqSum x19 x20))) rfl ?_
      refine wpn ?_
      refine ⟨m54, Mem.tr L50 L51, ⟨X1, C18, ?_⟩, facts_step HM rfl K L51 rfl rfl rfl, outP⟩
      exact S70
    · intro L f24 w64 hL hd hc ⟨m55, L52, ⟨X1, C19, S71⟩, K, hO⟩
      rcases bool_tf (((x17 && x15) && (eqSum x1 x18)) && (eqSum x19 x20)) with hb19 | hb19
      · have d17 : L 17 = true := dep hd rfl
        have e42 := K 17 d17
        obtain ⟨u37, rfl⟩ := fr_of (N := 143) (L := [(101, vb (((x17 && x15) && (eqSum x1 x18)) && (eqSum x19 x20)))]) hO ⟨e42, trivial⟩
        replace S71 : St _ ((bx b5 [vU x5.1, vU x5.2] 27) :: (bx b4 [vU x4.1, vU x4.2] 27) :: (bx b3 [vU x3.1, vU x3.2] 27) :: (bx b2 [vU x2.1, vU x2.2] 27) :: (bx b1 [vU x1.1, vU x1.2] 27) :: (X1 ++ As)) _ := S71
        have L53 := Mem.rfl' m55
        refine wpl_yes (d := 101) rfl rfl (congrArg Value.bool hb19) ?_
        refine s_mvv (v := v3) rfl ?_
        refine wpn ?_
        refine ⟨m55, Mem.tr L52 L53, ⟨X1, C19, ?_⟩, facts_step HM rfl K L53 rfl rfl ⟨fun _ => rfl, fun hx => tf hb19 hx⟩, outP⟩
        exact S71
      have d17 : L 17 = true := dep hd rfl
      have e43 := K 17 d17
      obtain ⟨u38, rfl⟩ := fr_of (N := 143) (L := [(101, vb (((x17 && x15) && (eqSum x1 x18)) && (eqSum x19 x20)))]) hO ⟨e43, trivial⟩
      replace S71 : St _ ((bx b5 [vU x5.1, vU x5.2] 27) :: (bx b4 [vU x4.1, vU x4.2] 27) :: (bx b3 [vU x3.1, vU x3.2] 27) :: (bx b2 [vU x2.1, vU x2.2] 27) :: (bx b1 [vU x1.1, vU x1.2] 27) :: (X1 ++ As)) _ := S71
      have L54 := Mem.rfl' m55
      refine wpl_no (d := 101) rfl rfl (congrArg Value.bool hb19) ?_
      refine wpn ?_
      refine ⟨m55, Mem.tr L52 L54, ⟨X1, C19, ?_⟩, facts_step HM rfl K L54 rfl rfl ⟨fun hx => tf hx hb19, fun _ => rfl⟩, outP⟩
      exact S71
    · intro L f25 w65 hL hd hc ⟨m56, L55, ⟨X1, C20, S72⟩, K, hO⟩
      rcases bool_tf (((x17 && x15) && (eqSum x1 x18)) && (eqSum x19 x20)) with hb20 | hb20
      · have d17 : L 17 = true := dep hd rfl
        have e44 := K 17 d17
        have d18 : L 18 = true := dep hd rfl
        have e45 := (K 18 d18).1 hb20
        obtain ⟨u39, rfl⟩ := fr_of (N := 143) (L := [(101, vb (((x17 && x15) && (eqSum x1 x18)) && (eqSum x19 x20))), (102, v3)]) hO ⟨e44, e45, trivial⟩
        replace S72 : St _ ((bx b5 [vU x5.1, vU x5.2] 27) :: (bx b4 [vU x4.1, vU x4.2] 27) :: (bx b3 [vU x3.1, vU x3.2] 27) :: (bx b2 [vU x2.1, vU x2.2] 27) :: (bx b1 [vU x1.1, vU x1.2] 27) :: (X1 ++ As)) _ := S72
        replace h5 := h5.up L55
        replace h11 := h11.up L55
        replace h14 := h14.up L55
        replace h18 := h18.up L55
        replace T1 := T1.up L55
        have L56 := Mem.rfl' m56
        refine wpl_yes (d := 101) rfl rfl (congrArg Value.bool hb20) ?_
        replace q21 := gu_t hb20 q21
        refine s_cut (ys := x21) (l := 0) (h := 1) rfl h5 Tryd.underlying22 Tryd.sizeOf27 (.inl ⟨rfl, rfl⟩) (.inr ⟨_, rfl⟩) (.inl rfl) q21 ?_
        intro v19 h29
        refine wpn ?_
        refine ⟨m56, Mem.tr L55 L56, ⟨X1, C20, ?_⟩, facts_step HM rfl K L56 rfl rfl ⟨fun _ => ⟨v19, rfl, h29⟩, fun hx => tf hb20 hx⟩, outP⟩
        exact S72
      have d17 : L 17 = true := dep hd rfl
      have e46 := K 17 d17
      obtain ⟨u40, rfl⟩ := fr_of (N := 143) (L := [(101, vb (((x17 && x15) && (eqSum x1 x18)) && (eqSum x19 x20)))]) hO ⟨e46, trivial⟩
      replace S72 : St _ ((bx b5 [vU x5.1, vU x5.2] 27) :: (bx b4 [vU x4.1, vU x4.2] 27) :: (bx b3 [vU x3.1, vU x3.2] 27) :: (bx b2 [vU x2.1, vU x2.2] 27) :: (bx b1 [vU x1.1, vU x1.2] 27) :: (X1 ++ As)) _ := S72
      have L57 := Mem.rfl' m56
      refine wpl_no (d := 101) rfl rfl (congrArg Value.bool hb20) ?_
      refine wpn ?_
      refine ⟨m56, Mem.tr L55 L57, ⟨X1, C20, ?_⟩, facts_step HM rfl K L57 rfl rfl ⟨fun hx => tf hx hb20, fun _ => rfl⟩, outP⟩
      exact S72
    · intro L f26 w66 hL hd hc ⟨m57, L58, ⟨X1, C21, S73⟩, K, hO⟩
      rcases bool_tf (((x17 && x15) && (eqSum x1 x18)) && (eqSum x19 x20)) with hb21 | hb21
      · have d17 : L 17 = true := dep hd rfl
        have e47 := K 17 d17
        have d19 : L 19 = true := dep hd rfl
        obtain ⟨v20, e48, h30⟩ := (K 19 d19).1 hb21
        obtain ⟨u41, rfl⟩ := fr_of (N := 143) (L := [(101, vb (((x17 && x15) && (eqSum x1 x18)) && (eqSum x19 x20))), (103, v20)]) hO ⟨e47, e48, trivial⟩
        replace S73 : St _ ((bx b5 [vU x5.1, vU x5.2] 27) :: (bx b4 [vU x4.1, vU x4.2] 27) :: (bx b3 [vU x3.1, vU x3.2] 27) :: (bx b2 [vU x2.1, vU x2.2] 27) :: (bx b1 [vU x1.1, vU x1.2] 27) :: (X1 ++ As)) _ := S73
        replace h5 := h5.up L58
        replace h11 := h11.up L58
        replace h14 := h14.up L58
        replace h18 := h18.up L58
        replace T1 := T1.up L58
        have L59 := Mem.rfl' m57
        refine wpl_yes (d := 101) rfl rfl (congrArg Value.bool hb21) ?_
        replace q22 := gu_t hb21 q22
        refine s_call Tryd.call13 (w_merkle_Root (a0 := x21) S73 h30 q22) rfl ?_
        rintro _ w67 ⟨m58, l37, S74, rfl⟩
        replace h5 := h5.up l37
        replace h11 := h11.up l37
        replace h14 := h14.up l37
        replace h18 := h18.up l37
        replace h30 := h30.up l37
        replace C21 := C21.imp id (fun q => q.imp (fun p a b => (p a b).imp (fun r hc => RowS.up l37 (r hc)) id) id)
        replace T1 := T1.up l37
        replace L59 := Mem.tr L59 l37
        clear S73
        replace S74 : St _ ((bx b5 [vU x5.1, vU x5.2] 27) :: (bx b4 [vU x4.1, vU x4.2] 27) :: (bx b3 [vU x3.1, vU x3.2] 27) :: (bx b2 [vU x2.1, vU x2.2] 27) :: (bx b1 [vU x1.1, vU x1.2] 27) :: (X1 ++ As)) _ := S74
        refine wpn ?_
        refine ⟨m58, Mem.tr L58 L59, ⟨X1, C21, ?_⟩, facts_step HM rfl K L59 rfl rfl ⟨fun _ => rfl, fun hx => tf hb21 hx⟩, outP⟩
        exact S74
      have d17 : L 17 = true := dep hd rfl
      have e49 := K 17 d17
      obtain ⟨u42, rfl⟩ := fr_of (N := 143) (L := [(101, vb (((x17 && x15) && (eqSum x1 x18)) && (eqSum x19 x20)))]) hO ⟨e49, trivial⟩
      replace S73 : St _ ((bx b5 [vU x5.1, vU x5.2] 27) :: (bx b4 [vU x4.1, vU x4.2] 27) :: (bx b3 [vU x3.1, vU x3.2] 27) :: (bx b2 [vU x2.1, vU x2.2] 27) :: (bx b1 [vU x1.1, vU x1.2] 27) :: (X1 ++ As)) _ := S73
      have L60 := Mem.rfl' m57
      refine wpl_no (d := 101) rfl rfl (congrArg Value.bool hb21) ?_
      refine wpn ?_
      refine ⟨m57, Mem.tr L58 L60, ⟨X1, C21, ?_⟩, facts_step HM rfl K L60 rfl rfl ⟨fun hx => tf hx hb21, fun _ => rfl⟩, outP⟩
      exact S73
    · intro L f27 w68 hL hd hc ⟨m59, L61, ⟨X1, C22, S75⟩, K, hO⟩
      rcases bool_tf (((x17 && x15) && (eqSum x1 x18)) && (eqSum x19 x20)) with hb22 | hb22
      · have d17 : L 17 = true := dep hd rfl
        have e50 := K 17 d17
        obtain ⟨u43, rfl⟩ := fr_of (N := 143) (L := [(101, vb (((x17 && x15) && (eqSum x1 x18)) && (eqSum x19 x20)))]) hO ⟨e50, trivial⟩
        replace S75 : St _ ((bx b5 [vU x5.1, vU x5.2] 27) :: (bx b4 [vU x4.1, vU x4.2] 27) :: (bx b3 [vU x3.1, vU x3.2] 27) :: (bx b2 [vU x2.1, vU x2.2] 27) :: (bx b1 [vU x1.1, vU x1.2] 27) :: (X1 ++ As)) _ := S75
        replace h5 := h5.up L61
        replace h11 := h11.up L61
        replace h14 := h14.up L61
        replace h18 := h18.up L61
        replace T1 := T1.up L61
        have L62 := Mem.rfl' m59
        refine wpl_yes (d := 101) rfl rfl (congrArg Value.bool hb22) ?_
        refine s_ld (i := 4) (cs := [vU x1.1, vU x1.2]) S75 rfl rfl Tryd.isAgg27 Tryd.sizeOf27 rfl (fun h => by cases h) ?_
        refine wpn ?_
        refine ⟨m59, Mem.tr L61 L62, ⟨X1, C22, ?_⟩, facts_step HM rfl K L62 rfl rfl ⟨fun _ => rfl, fun hx => tf hb22 hx⟩, outP⟩
        exact S75
      have d17 : L 17 = true := dep hd rfl
      have e51 := K 17 d17
      obtain ⟨u44, rfl⟩ := fr_of (N := 143) (L := [(101, vb (((x17 && x15) && (eqSum x1 x18)) && (eqSum x19 x20)))]) hO ⟨e51, trivial⟩
      replace S75 : St _ ((bx b5 [vU x5.1, vU x5.2] 27) :: (bx b4 [vU x4.1, vU x4.2] 27) :: (bx b3 [vU x3.1, vU x3.2] 27) :: (bx b2 [vU x2.1, vU x2.2] 27) :: (bx b1 [vU x1.1, vU x1.2] 27) :: (X1 ++ As)) _ := S75
      have L63 := Mem.rfl' m59
      refine wpl_no (d := 101) rfl rfl (congrArg Value.bool hb22) ?_
      refine wpn ?_
      refine ⟨m59, Mem.tr L61 L63, ⟨X1, C22, ?_⟩, facts_step HM rfl K L63 rfl rfl ⟨fun hx => tf hx hb22, fun _ => rfl⟩, outP⟩
      exact S75
    · intro L f28 w69 hL hd hc ⟨m60, L64, ⟨X1, C23, S76⟩, K, hO⟩
      rcases bool_tf (((x17 && x15) && (eqSum x1 x18)) && (eqSum x19 x20)) with hb23 | hb23
      · have d17 : L 17 = true := dep hd rfl
        have e52 := K 17 d17
        have d20 : L 20 = true := dep hd rfl
        have e53 := (K 20 d20).1 hb23
        have d21 : L 21 = true := dep hd rfl
        have e54 := (K 21 d21).1 hb23
        obtain ⟨u45, rfl⟩ := fr_of (N := 143) (L := [(101, vb (((x17 && x15) && (eqSum x1 x18)) && (eqSum x19 x20))), (104, .agg #[vU x22.1, vU x22.2]), (105, .agg #[vU x1.1, vU x1.2])]) hO ⟨e52, e53, e54, trivial⟩
        replace S76 : St _ ((bx b5 [vU x5.1, vU x5.2] 27) :: (bx b4 [vU x4.1, vU x4.2] 27) :: (bx b3 [vU x3.1, vU x3.2] 27) :: (bx b2 [vU x2.1, vU x2.2] 27) :: (bx b1 [vU x1.1, vU x1.2] 27) :: (X1 ++ As)) _ := S76
        replace h5 := h5.up L64
        replace h11 := h11.up L64
        replace h14 := h14.up L64
        replace h18 := h18.up L64
        replace T1 := T1.up L64
        have L65 := Mem.rfl' m60
        refine wpl_yes (d := 101) rfl rfl (congrArg Value.bool hb23) ?_
        refine s_eqlSum (p := x22) (q := x1) rfl rfl Tryd.underlying27 Tryd.underlying25 Tryd.sizeOf25 Tryd.isAgg25 Tryd.eqGuardType27 ?_
        refine wpn ?_
        refine ⟨m60, Mem.tr L64 L65, ⟨X1, C23, ?_⟩, facts_step HM rfl K L65 rfl rfl ⟨fun _ => rfl, fun hx => tf hb23 hx⟩, outP⟩
        exact S76
      have d17 : L 17 = true := dep hd rfl
      have e55 := K 17 d17
      obtain ⟨u46, rfl⟩ := fr_of (N := 143) (L := [(101, vb (((x17 && x15) && (eqSum x1 x18)) && (eqSum x19 x20)))]) hO ⟨e55, trivial⟩
      replace S76 : St _ ((bx b5 [vU x5.1, vU x5.2] 27) :: (bx b4 [vU x4.1, vU x4.2] 27) :: (bx b3 [vU x3.1, vU x3.2] 27) :: (bx b2 [vU x2.1, vU x2.2] 27) :: (bx b1 [vU x1.1, vU x1.2] 27) :: (X1 ++ As)) _ := S76
      have L66 := Mem.rfl' m60
      refine wpl_no (d := 101) rfl rfl (congrArg Value.bool hb23) ?_
      refine wpn ?_
      refine ⟨m60, Mem.tr L64 L66, ⟨X1, C23, ?_⟩, facts_step HM rfl K L66 rfl rfl ⟨fun hx => tf hx hb23, fun _ => rfl⟩, outP⟩
      exact S76
    · intro L f29 w70 hL hd hc ⟨m61, L67, ⟨X1, C24, S77⟩, K, hO⟩
      rcases bool_tf (((x17 && x15) && (eqSum x1 x18)) && (eqSum x19 x20)) with hb24 | hb24
      · have d17 : L 17 = true := dep hd rfl
        have e56 := K 17 d17
        have d22 : L 22 = true := dep hd rfl
        have e57 := (K 22 d22).1 hb24
        obtain ⟨u47, rfl⟩ := fr_of (N := 143) (L := [(101, vb (((x17 && x15) && (eqSum x1 x18)) && (eqSum x19 x20))), (106, vb (eqSum x22 x1))]) hO ⟨e56, e57, trivial⟩
        replace S77 : St _ ((bx b5 [vU x5.1, vU x5.2] 27) :: (bx b4 [vU x4.1, vU x4.2] 27) :: (bx b3 [vU x3.1, vU x3.2] 27) :: (bx b2 [vU x2.1, vU x2.2] 27) :: (bx b1 [vU x1.1, vU x1.2] 27) :: (X1 ++ As)) _ := S77
        have L68 := Mem.rfl' m61
        refine s_pickT (congrArg Value.bool hb24) rfl ?_
        refine wpn ?_
        refine ⟨m61, Mem.tr L67 L68, ⟨X1, C24, ?_⟩, facts_step HM rfl K L68 rfl rfl (congrArg Value.bool (and_t hb24)), outP⟩
        exact S77
      · have d17 : L 17 = true := dep hd rfl
        have e58 := K 17 d17
        obtain ⟨u48, rfl⟩ := fr_of (N := 143) (L := [(101, vb (((x17 && x15) && (eqSum x1 x18)) && (eqSum x19 x20)))]) hO ⟨e58, trivial⟩
        replace S77 : St _ ((bx b5 [vU x5.1, vU x5.2] 27) :: (bx b4 [vU x4.1, vU x4.2] 27) :: (bx b3 [vU x3.1, vU x3.2] 27) :: (bx b2 [vU x2.1, vU x2.2] 27) :: (bx b1 [vU x1.1, vU x1.2] 27) :: (X1 ++ As)) _ := S77
        have L69 := Mem.rfl' m61
        refine s_pickF (congrArg Value.bool hb24) rfl ?_
        refine wpn ?_
        refine ⟨m61, Mem.tr L67 L69, ⟨X1, C24, ?_⟩, facts_step HM rfl K L69 rfl rfl (congrArg Value.bool (and_f hb24)), outP⟩
        exact S77
    · intro L f30 w71 hL hd hc ⟨m62, L70, ⟨X1, C25, S78⟩, K, hO⟩
      have d23 : L 23 = true := dep hd rfl
      have e59 := K 23 d23
      obtain ⟨u49, rfl⟩ := fr_of (N := 143) (L := [(107, vb ((((x17 && x15) && (eqSum x1 x18)) && (eqSum x19 x20)) && (eqSum x22 x1)))]) hO ⟨e59, trivial⟩
      replace S78 : St _ ((bx b5 [vU x5.1, vU x5.2] 27) :: (bx b4 [vU x4.1, vU x4.2] 27) :: (bx b3 [vU x3.1, vU x3.2] 27) :: (bx b2 [vU x2.1, vU x2.2] 27) :: (bx b1 [vU x1.1, vU x1.2] 27) :: (X1 ++ As)) _ := S78
      have L71 := Mem.rfl' m62
      refine s_mvv (v := vb ((((x17 && x15) && (eqSum x1 x18)) && (eqSum x19 x20)) && (eqSum x22 x1))) rfl ?_
      refine wpn ?_
      refine ⟨m62, Mem.tr L70 L71, ⟨X1, C25, ?_⟩, facts_step HM rfl K L71 rfl rfl rfl, outP⟩
      exact S78
    · intro L f31 w72 hL hd hc ⟨m63, L72, ⟨X1, C26, S79⟩, K, hO⟩
      rcases bool_tf ((((x17 && x15) && (eqSum x1 x18)) && (eqSum x19 x20)) && (eqSum x22 x1)) with hb25 | hb25
      · have d24 : L 24 = true := dep hd rfl
        have e60 := K 24 d24
        obtain ⟨u50, rfl⟩ := fr_of (N := 143) (L := [(108, vb ((((x17 && x15) && (eqSum x1 x18)) && (eqSum x19 x20)) && (eqSum x22 x1)))]) hO ⟨e60, trivial⟩
        replace S79 : St _ ((bx b5 [vU x5.1, vU x5.2] 27) :: (bx b4 [vU x4.1, vU x4.2] 27) :: (bx b3 [vU x3.1, vU x3.2] 27) :: (bx b2 [vU x2.1, vU x2.2] 27) :: (bx b1 [vU x1.1, vU x1.2] 27) :: (X1 ++ As)) _ := S79
        replace h5 := h5.up L72
        replace h11 := h11.up L72
        replace h14 := h14.up L72
        replace h18 := h18.up L72
        replace T1 := T1.up L72
        have L73 := Mem.rfl' m63
        refine wpl_yes (d := 108) rfl rfl (congrArg Value.bool hb25) ?_
        refine s_ld (i := 0) (cs := [vU x5.1, vU x5.2]) S79 rfl rfl Tryd.isAgg27 Tryd.sizeOf27 rfl (fun h => by cases h) ?_
        refine wpn ?_
        refine ⟨m63, Mem.tr L72 L73, ⟨X1, C26, ?_⟩, facts_step HM rfl K L73 rfl rfl ⟨fun _ => rfl, fun hx => tf hb25 hx⟩, outP⟩
        exact S79
      have d24 : L 24 = true := dep hd rfl
      have e61 := K 24 d24
      obtain ⟨u51, rfl⟩ := fr_of (N := 143) (L := [(108, vb ((((x17 && x15) && (eqSum x1 x18)) && (eqSum x19 x20)) && (eqSum x22 x1)))]) hO ⟨e61, trivial⟩
      replace S79 : St _ ((bx b5 [vU x5.1, vU x5.2] 27) :: (bx b4 [vU x4.1, vU x4.2] 27) :: (bx b3 [vU x3.1, vU x3.2] 27) :: (bx b2 [vU x2.1, vU x2.2] 27) :: (bx b1 [vU x1.1, vU x1.2] 27) :: (X1 ++ As)) _ := S79
      have L74 := Mem.rfl' m63
      refine wpl_no (d := 108) rfl rfl (congrArg Value.bool hb25) ?_
      refine wpn ?_
      refine ⟨m63, Mem.tr L72 L74, ⟨X1, C26, ?_⟩, facts_step HM rfl K L74 rfl rfl ⟨fun hx => tf hx hb25, fun _ => rfl⟩, outP⟩
      exact S79
    · intro L f32 w73 hL hd hc ⟨m64, L75, ⟨X1, C27, S80⟩, K, hO⟩
      rcases bool_tf ((((x17 && x15) && (eqSum x1 x18)) && (eqSum x19 x20)) && (eqSum x22 x1)) with hb26 | hb26
      · have d24 : L 24 = true := dep hd rfl
        have e62 := K 24 d24
        obtain ⟨u52, rfl⟩ := fr_of (N := 143) (L := [(108, vb ((((x17 && x15) && (eqSum x1 x18)) && (eqSum x19 x20)) && (eqSum x22 x1)))]) hO ⟨e62, trivial⟩
        replace S80 : St _ ((bx b5 [vU x5.1, vU x5.2] 27) :: (bx b4 [vU x4.1, vU x4.2] 27) :: (bx b3 [vU x3.1, vU x3.2] 27) :: (bx b2 [vU x2.1, vU x2.2] 27) :: (bx b1 [vU x1.1, vU x1.2] 27) :: (X1 ++ As)) _ := S80
        replace h5 := h5.up L75
        replace h11 := h11.up L75
        replace h14 := h14.up L75
        replace h18 := h18.up L75
        replace T1 := T1.up L75
        have L76 := Mem.rfl' m64
        refine wpl_yes (d := 108) rfl rfl (congrArg Value.bool hb26) ?_
        refine s_ld (i := 1) (cs := [vU x4.1, vU x4.2]) S80 rfl rfl Tryd.isAgg27 Tryd.sizeOf27 rfl (fun h => by cases h) ?_
        refine wpn ?_
        refine ⟨m64, Mem.tr L75 L76, ⟨X1, C27, ?_⟩, facts_step HM rfl K L76 rfl rfl ⟨fun _ => rfl, fun hx => tf hb26 hx⟩, outP⟩
        exact S80
      have d24 : L 24 = true := dep hd rfl
      have e63 := K 24 d24
      obtain ⟨u53, rfl⟩ := fr_of (N := 143) (L := [(108, vb ((((x17 && x15) && (eqSum x1 x18)) && (eqSum x19 x20)) && (eqSum x22 x1)))]) hO ⟨e63, trivial⟩
      replace S80 : St _ ((bx b5 [vU x5.1, vU x5.2] 27) :: (bx b4 [vU x4.1, vU x4.2] 27) :: (bx b3 [vU x3.1, vU x3.2] 27) :: (bx b2 [vU x2.1, vU x2.2] 27) :: (bx b1 [vU x1.1, vU x1.2] 27) :: (X1 ++ As)) _ := S80
      have L77 := Mem.rfl' m64
      refine wpl_no (d := 108) rfl rfl (congrArg Value.bool hb26) ?_
      refine wpn ?_
      refine ⟨m64, Mem.tr L75 L77, ⟨X1, C27, ?_⟩, facts_step HM rfl K L77 rfl rfl ⟨fun hx => tf hx hb26, fun _ => rfl⟩, outP⟩
      exact S80
    · intro L f33 w74 hL hd hc ⟨m65, L78, ⟨X1, C28, S81⟩, K, hO⟩
      rcases bool_tf ((((x17 && x15) && (eqSum x1 x18)) && (eqSum x19 x20)) && (eqSum x22 x1)) with hb27 | hb27
      · have d24 : L 24 = true := dep hd rfl
        have e64 := K 24 d24
        obtain ⟨u54, rfl⟩ := fr_of (N := 143) (L := [(108, vb ((((x17 && x15) && (eqSum x1 x18)) && (eqSum x19 x20)) && (eqSum x22 x1)))]) hO ⟨e64, trivial⟩
        replace S81 : St _ ((bx b5 [vU x5.1, vU x5.2] 27) :: (bx b4 [vU x4.1, vU x4.2] 27) :: (bx b3 [vU x3.1, vU x3.2] 27) :: (bx b2 [vU x2.1, vU x2.2] 27) :: (bx b1 [vU x1.1, vU x1.2] 27) :: (X1 ++ As)) _ := S81
        replace h5 := h5.up L78
        replace h11 := h11.up L78
        replace h14 := h14.up L78
        replace h18 := h18.up L78
        replace T1 := T1.up L78
        have L79 := Mem.rfl' m65
        refine wpl_yes (d := 108) rfl rfl (congrArg Value.bool hb27) ?_
        refine s_ld (i := 2) (cs := [vU x3.1, vU x3.2]) S81 rfl rfl Tryd.isAgg27 Tryd.sizeOf27 rfl (fun h => by cases h) ?_
        refine wpn ?_
        refine ⟨m65, Mem.tr L78 L79, ⟨X1, C28, ?_⟩, facts_step HM rfl K L79 rfl rfl ⟨fun _ => rfl, fun hx => tf hb27 hx⟩, outP⟩
        exact S81
      have d24 : L 24 = true := dep hd rfl
      have e65 := K 24 d24
      obtain ⟨u55, rfl⟩ := fr_of (N := 143) (L := [(108, vb ((((x17 && x15) && (eqSum x1 x18)) && (eqSum x19 x20)) && (eqSum x22 x1)))]) hO ⟨e65, trivial⟩
      replace S81 : St _ ((bx b5 [vU x5.1, vU x5.2] 27) :: (bx b4 [vU x4.1, vU x4.2] 27) :: (bx b3 [vU x3.1, vU x3.2] 27) :: (bx b2 [vU x2.1, vU x2.2] 27) :: (bx b1 [vU x1.1, vU x1.2] 27) :: (X1 ++ As)) _ := S81
      have L80 := Mem.rfl' m65
      refine wpl_no (d := 108) rfl rfl (congrArg Value.bool hb27) ?_
      refine wpn ?_
      refine ⟨m65, Mem.tr L78 L80, ⟨X1, C28, ?_⟩, facts_step HM rfl K L80 rfl rfl ⟨fun hx => tf hx hb27, fun _ => rfl⟩, outP⟩
      exact S81
    · intro L f34 w75 hL hd hc ⟨m66, L81, ⟨X1, C29, S82⟩, K, hO⟩
      rcases bool_tf ((((x17 && x15) && (eqSum x1 x18)) && (eqSum x19 x20)) && (eqSum x22 x1)) with hb28 | hb28
      · have d24 : L 24 = true := dep hd rfl
        have e66 := K 24 d24
        have d26 : L 26 = true := dep hd rfl
        have e67 := (K 26 d26).1 hb28
        have d27 : L 27 = true := dep hd rfl
        have e68 := (K 27 d27).1 hb28
        obtain ⟨u56, rfl⟩ := fr_of (N := 143) (L := [(108, vb ((((x17 && x15) && (eqSum x1 x18)) && (eqSum x19 x20)) && (eqSum x22 x1))), (110, .agg #[vU x4.1, vU x4.2]), (111, .agg #[vU x3.1, vU x3.2])]) hO ⟨e66, e67, e68, trivial⟩
        replace S82 : St _ ((bx b5 [vU x5.1, vU x5.2] 27) :: (bx b4 [vU x4.1, vU x4.2] 27) :: (bx b3 [vU x3.1, vU x3.2] 27) :: (bx b2 [vU x2.1, vU x2.2] 27) :: (bx b1 [vU x1.1, vU x1.2] 27) :: (X1 ++ As)) _ := S82
        replace h5 := h5.up L81
        replace h11 := h11.up L81
        replace h14 := h14.up L81
        replace h18 := h18.up L81
        replace T1 := T1.up L81
        have L82 := Mem.rfl' m66
        refine wpl_yes (d := 108) rfl rfl (congrArg Value.bool hb28) ?_
        replace q23 := gu_t hb28 q23
        refine s_call Tryd.call29 (w_hash_Pair (a0 := x4) (a1 := x3) S82  q23) rfl ?_
        rintro _ w76 ⟨m67, l38, S83, rfl⟩
        replace h5 := h5.up l38
        replace h11 := h11.up l38
        replace h14 := h14.up l38
        replace h18 := h18.up l38
        replace C29 := C29.imp id (fun q => q.imp (fun p a b => (p a b).imp (fun r hc => RowS.up l38 (r hc)) id) id)
        replace T1 := T1.up l38
        replace L82 := Mem.tr L82 l38
        clear S82
        replace S83 : St _ ((bx b5 [vU x5.1, vU x5.2] 27) :: (bx b4 [vU x4.1, vU x4.2] 27) :: (bx b3 [vU x3.1, vU x3.2] 27) :: (bx b2 [vU x2.1, vU x2.2] 27) :: (bx b1 [vU x1.1, vU x1.2] 27) :: (X1 ++ As)) _ := S83
        refine wpn ?_
        refine ⟨m67, Mem.tr L81 L82, ⟨X1, C29, ?_⟩, facts_step HM rfl K L82 rfl rfl ⟨fun _ => rfl, fun hx => tf hb28 hx⟩, outP⟩
        exact S83
      have d24 : L 24 = true := dep hd rfl
      have e69 := K 24 d24
      obtain ⟨u57, rfl⟩ := fr_of (N := 143) (L := [(108, vb ((((x17 && x15) && (eqSum x1 x18)) && (eqSum x19 x20)) && (eqSum x22 x1)))]) hO ⟨e69, trivial⟩
      replace S82 : St _ ((bx b5 [vU x5.1, vU x5.2] 27) :: (bx b4 [vU x4.1, vU x4.2] 27) :: (bx b3 [vU x3.1, vU x3.2] 27) :: (bx b2 [vU x2.1, vU x2.2] 27) :: (bx b1 [vU x1.1, vU x1.2] 27) :: (X1 ++ As)) _ := S82
      have L83 := Mem.rfl' m66
      refine wpl_no (d := 108) rfl rfl (congrArg Value.bool hb28) ?_
      refine wpn ?_
      refine ⟨m66, Mem.tr L81 L83, ⟨X1, C29, ?_⟩, facts_step HM rfl K L83 rfl rfl ⟨fun hx => tf hx hb28, fun _ => rfl⟩, outP⟩
      exact S82
    · intro L f35 w77 hL hd hc ⟨m68, L84, ⟨X1, C30, S84⟩, K, hO⟩
      rcases bool_tf ((((x17 && x15) && (eqSum x1 x18)) && (eqSum x19 x20)) && (eqSum x22 x1)) with hb29 | hb29
      · have d24 : L 24 = true := dep hd rfl
        have e70 := K 24 d24
        have d25 : L 25 = true := dep hd rfl
        have e71 := (K 25 d25).1 hb29
        have d28 : L 28 = true := dep hd rfl
        have e72 := (K 28 d28).1 hb29
        obtain ⟨u58, rfl⟩ := fr_of (N := 143) (L := [(108, vb ((((x17 && x15) && (eqSum x1 x18)) && (eqSum x19 x20)) && (eqSum x22 x1))), (109, .agg #[vU x5.1, vU x5.2]), (112, .agg #[vU x23.1, vU x23.2])]) hO ⟨e70, e71, e72, trivial⟩
        replace S84 : St _ ((bx b5 [vU x5.1, vU x5.2] 27) :: (bx b4 [vU x4.1, vU x4.2] 27) :: (bx b3 [vU x3.1, vU x3.2] 27) :: (bx b2 [vU x2.1, vU x2.2] 27) :: (bx b1 [vU x1.1, vU x1.2] 27) :: (X1 ++ As)) _ := S84
        replace h5 := h5.up L84
        replace h11 := h11.up L84
        replace h14 := h14.up L84
        replace h18 := h18.up L84
        replace T1 := T1.up L84
        have L85 := Mem.rfl' m68
        refine wpl_yes (d := 108) rfl rfl (congrArg Value.bool hb29) ?_
        refine s_eqlSum (p := x5) (q := x23) rfl rfl Tryd.underlying27 Tryd.underlying25 Tryd.sizeOf25 Tryd.isAgg25 Tryd.eqGuardType27 ?_
        refine wpn ?_
        refine ⟨m68, Mem.tr L84 L85, ⟨X1, C30, ?_⟩, facts_step HM rfl K L85 rfl rfl ⟨fun _ => rfl, fun hx => tf hb29 hx⟩, outP⟩
        exact S84
      have d24 : L 24 = true := dep hd rfl
      have e73 := K 24 d24
      obtain ⟨u59, rfl⟩ := fr_of (N := 143) (L := [(108, vb ((((x17 && x15) && (eqSum x1 x18)) && (eqSum x19 x20)) && (eqSum x22 x1)))]) hO ⟨e73, trivial⟩
      replace S84 : St _ ((bx b5 [vU x5.1, vU x5.2] 27) :: (bx b4 [vU x4.1, vU x4.2] 27) :: (bx b3 [vU x3.1, vU x3.2] 27) :: (bx b2 [vU x2.1, vU x2.2] 27) :: (bx b1 [vU x1.1, vU x1.2] 27) :: (X1 ++ As)) _ := S84
      have L86 := Mem.rfl' m68
      refine wpl_no (d := 108) rfl rfl (congrArg Value.bool hb29) ?_
      refine wpn ?_
      refine ⟨m68, Mem.tr L84 L86, ⟨X1, C30, ?_⟩, facts_step HM rfl K L86 rfl rfl ⟨fun hx => tf hx hb29, fun _ => rfl⟩, outP⟩
      exact S84
    · intro L f36 w78 hL hd hc ⟨m69, L87, ⟨X1, C31, S85⟩, K, hO⟩
      rcases bool_tf ((((x17 && x15) && (eqSum x1 x18)) && (eqSum x19 x20)) && (eqSum x22 x1)) with hb30 | hb30
      · have d24 : L 24 = true := dep hd rfl
        have e74 := K 24 d24
        have d29 : L 29 = true := dep hd rfl
        have e75 := (K 29 d29).1 hb30
        obtain ⟨u60, rfl⟩ := fr_of (N := 143) (L := [(108, vb ((((x17 && x15) && (eqSum x1 x18)) && (eqSum x19 x20)) && (eqSum x22 x1))), (113, vb (eqSum x5 x23))]) hO ⟨e74, e75, trivial⟩
        replace S85 : St _ ((bx b5 [vU x5.1, vU x5.2] 27) :: (bx b4 [vU x4.1, vU x4.2] 27) :: (bx b3 [vU x3.1, vU x3.2] 27) :: (bx b2 [vU x2.1, vU x2.2] 27) :: (bx b1 [vU x1.1, vU x1.2] 27) :: (X1 ++ As)) _ := S85
        have L88 := Mem.rfl' m69
        refine s_pickT (congrArg Value.bool hb30) rfl ?_
        refine wpn ?_
        refine ⟨m69, Mem.tr L87 L88, ⟨X1, C31, ?_⟩, facts_step HM rfl K L88 rfl rfl (congrArg Value.bool (and_t hb30)), outP⟩
        exact S85
      · have d24 : L 24 = true := dep hd rfl
        have e76 := K 24 d24
        obtain ⟨u61, rfl⟩ := fr_of (N := 143) (L := [(108, vb ((((x17 && x15) && (eqSum x1 x18)) && (eqSum x19 x20)) && (eqSum x22 x1)))]) hO ⟨e76, trivial⟩
        replace S85 : St _ ((bx b5 [vU x5.1, vU x5.2] 27) :: (bx b4 [vU x4.1, vU x4.2] 27) :: (bx b3 [vU x3.1, vU x3.2] 27) :: (bx b2 [vU x2.1, vU x2.2] 27) :: (bx b1 [vU x1.1, vU x1.2] 27) :: (X1 ++ As)) _ := S85
        have L89 := Mem.rfl' m69
        refine s_pickF (congrArg Value.bool hb30) rfl ?_
        refine wpn ?_
        refine ⟨m69, Mem.tr L87 L89, ⟨X1, C31, ?_⟩, facts_step HM rfl K L89 rfl rfl (congrArg Value.bool (and_f hb30)), outP⟩
        exact S85
    · intro L f37 w79 hL hd hc ⟨m70, L90, ⟨X1, C32, S86⟩, K, hO⟩
      have d30 : L 30 = true := dep hd rfl
      have e77 := K 30 d30
      obtain ⟨u62, rfl⟩ := fr_of (N := 143) (L := [(114, vb (((((x17 && x15) && (eqSum x1 x18)) && (eqSum x19 x20)) && (eqSum x22 x1)) && (eqSum x5 x23)))]) hO ⟨e77, trivial⟩
      replace S86 : St _ ((bx b5 [vU x5.1, vU x5.2] 27) :: (bx b4 [vU x4.1, vU x4.2] 27) :: (bx b3 [vU x3.1, vU x3.2] 27) :: (bx b2 [vU x2.1, vU x2.2] 27) :: (bx b1 [vU x1.1, vU x1.2] 27) :: (X1 ++ As)) _ := S86
      have L91 := Mem.rfl' m70
      refine s_mvv (v := vb (((((x17 && x15) && (eqSum x1 x18)) && (eqSum x19 x20)) && (eqSum x22 x1)) && (eqSum x5 x23))) rfl ?_
      refine wpn ?_
      refine ⟨m70, Mem.tr L90 L91, ⟨X1, C32, ?_⟩, facts_step HM rfl K L91 rfl rfl rfl, outP⟩
      exact S86
    · intro L f38 w80 hL hd hc ⟨m71, L92, ⟨X1, C33, S87⟩, K, hO⟩
      rcases bool_tf (((((x17 && x15) && (eqSum x1 x18)) && (eqSum x19 x20)) && (eqSum x22 x1)) && (eqSum x5 x23)) with hb31 | hb31
      · have d31 : L 31 = true := dep hd rfl
        have e78 := K 31 d31
        obtain ⟨u63, rfl⟩ := fr_of (N := 143) (L := [(115, vb (((((x17 && x15) && (eqSum x1 x18)) && (eqSum x19 x20)) && (eqSum x22 x1)) && (eqSum x5 x23)))]) hO ⟨e78, trivial⟩
        replace S87 : St _ ((bx b5 [vU x5.1, vU x5.2] 27) :: (bx b4 [vU x4.1, vU x4.2] 27) :: (bx b3 [vU x3.1, vU x3.2] 27) :: (bx b2 [vU x2.1, vU x2.2] 27) :: (bx b1 [vU x1.1, vU x1.2] 27) :: (X1 ++ As)) _ := S87
        replace h5 := h5.up L92
        replace h11 := h11.up L92
        replace h14 := h14.up L92
        replace h18 := h18.up L92
        replace T1 := T1.up L92
        have L93 := Mem.rfl' m71
        refine wpl_yes (d := 115) rfl rfl (congrArg Value.bool hb31) ?_
        refine s_ld (i := 4) (cs := [vU x1.1, vU x1.2]) S87 rfl rfl Tryd.isAgg27 Tryd.sizeOf27 rfl (fun h => by cases h) ?_
        refine wpn ?_
        refine ⟨m71, Mem.tr L92 L93, ⟨X1, C33, ?_⟩, facts_step HM rfl K L93 rfl rfl ⟨fun _ => rfl, fun hx => tf hb31 hx⟩, outP⟩
        exact S87
      have d31 : L 31 = true := dep hd rfl
      have e79 := K 31 d31
      obtain ⟨u64, rfl⟩ := fr_of (N := 143) (L := [(115, vb (((((x17 && x15) && (eqSum x1 x18)) && (eqSum x19 x20)) && (eqSum x22 x1)) && (eqSum x5 x23)))]) hO ⟨e79, trivial⟩
      replace S87 : St _ ((bx b5 [vU x5.1, vU x5.2] 27) :: (bx b4 [vU x4.1, vU x4.2] 27) :: (bx b3 [vU x3.1, vU x3.2] 27) :: (bx b2 [vU x2.1, vU x2.2] 27) :: (bx b1 [vU x1.1, vU x1.2] 27) :: (X1 ++ As)) _ := S87
      have L94 := Mem.rfl' m71
      refine wpl_no (d := 115) rfl rfl (congrArg Value.bool hb31) ?_
      refine wpn ?_
      refine ⟨m71, Mem.tr L92 L94, ⟨X1, C33, ?_⟩, facts_step HM rfl K L94 rfl rfl ⟨fun hx => tf hx hb31, fun _ => rfl⟩, outP⟩
      exact S87
    · intro L f39 w81 hL hd hc ⟨m72, L95, ⟨X1, C34, S88⟩, K, hO⟩
      rcases bool_tf (((((x17 && x15) && (eqSum x1 x18)) && (eqSum x19 x20)) && (eqSum x22 x1)) && (eqSum x5 x23)) with hb32 | hb32
      · have d31 : L 31 = true := dep hd rfl
        have e80 := K 31 d31
        obtain ⟨u65, rfl⟩ := fr_of (N := 143) (L := [(115, vb (((((x17 && x15) && (eqSum x1 x18)) && (eqSum x19 x20)) && (eqSum x22 x1)) && (eqSum x5 x23)))]) hO ⟨e80, trivial⟩
        replace S88 : St _ ((bx b5 [vU x5.1, vU x5.2] 27) :: (bx b4 [vU x4.1, vU x4.2] 27) :: (bx b3 [vU x3.1, vU x3.2] 27) :: (bx b2 [vU x2.1, vU x2.2] 27) :: (bx b1 [vU x1.1, vU x1.2] 27) :: (X1 ++ As)) _ := S88
        have L96 := Mem.rfl' m72
        refine wpl_yes (d := 115) rfl rfl (congrArg Value.bool hb32) ?_
        refine s_mvv (v := v4) rfl ?_
        refine wpn ?_
        refine ⟨m72, Mem.tr L95 L96, ⟨X1, C34, ?_⟩, facts_step HM rfl K L96 rfl rfl ⟨fun _ => rfl, fun hx => tf hb32 hx⟩, outP⟩
        exact S88
      have d31 : L 31 = true := dep hd rfl
      have e81 := K 31 d31
      obtain ⟨u66, rfl⟩ := fr_of (N := 143) (L := [(115, vb (((((x17 && x15) && (eqSum x1 x18)) && (eqSum x19 x20)) && (eqSum x22 x1)) && (eqSum x5 x23)))]) hO ⟨e81, trivial⟩
      replace S88 : St _ ((bx b5 [vU x5.1, vU x5.2] 27) :: (bx b4 [vU x4.1, vU x4.2] 27) :: (bx b3 [vU x3.1, vU x3.2] 27) :: (bx b2 [vU x2.1, vU x2.2] 27) :: (bx b1 [vU x1.1, vU x1.2] 27) :: (X1 ++ As)) _ := S88
      have L97 := Mem.rfl' m72
      refine wpl_no (d := 115) rfl rfl (congrArg Value.bool hb32) ?_
      refine wpn ?_
      refine ⟨m72, Mem.tr L95 L97, ⟨X1, C34, ?_⟩, facts_step HM rfl K L97 rfl rfl ⟨fun hx => tf hx hb32, fun _ => rfl⟩, outP⟩
      exact S88
    · intro L f40 w82 hL hd hc ⟨m73, L98, ⟨X1, C35, S89⟩, K, hO⟩
      rcases bool_tf (((((x17 && x15) && (eqSum x1 x18)) && (eqSum x19 x20)) && (eqSum x22 x1)) && (eqSum x5 x23)) with hb33 | hb33
      · have d31 : L 31 = true := dep hd rfl
        have e82 := K 31 d31
        obtain ⟨u67, rfl⟩ := fr_of (N := 143) (L := [(115, vb (((((x17 && x15) && (eqSum x1 x18)) && (eqSum x19 x20)) && (eqSum x22 x1)) && (eqSum x5 x23)))]) hO ⟨e82, trivial⟩
        replace S89 : St _ ((bx b5 [vU x5.1, vU x5.2] 27) :: (bx b4 [vU x4.1, vU x4.2] 27) :: (bx b3 [vU x3.1, vU x3.2] 27) :: (bx b2 [vU x2.1, vU x2.2] 27) :: (bx b1 [vU x1.1, vU x1.2] 27) :: (X1 ++ As)) _ := S89
        replace h5 := h5.up L98
        replace h11 := h11.up L98
        replace h14 := h14.up L98
        replace h18 := h18.up L98
        replace T1 := T1.up L98
        have L99 := Mem.rfl' m73
        refine wpl_yes (d := 115) rfl rfl (congrArg Value.bool hb33) ?_
        refine s_ld (i := 0) (cs := [vU x5.1, vU x5.2]) S89 rfl rfl Tryd.isAgg27 Tryd.sizeOf27 rfl (fun h => by cases h) ?_
        refine wpn ?_
        refine ⟨m73, Mem.tr L98 L99, ⟨X1, C35, ?_⟩, facts_step HM rfl K L99 rfl rfl ⟨fun _ => rfl, fun hx => tf hb33 hx⟩, outP⟩
        exact S89
      have d31 : L 31 = true := dep hd rfl
      have e83 := K 31 d31
      obtain ⟨u68, rfl⟩ := fr_of (N := 143) (L := [(115, vb (((((x17 && x15) && (eqSum x1 x18)) && (eqSum x19 x20)) && (eqSum x22 x1)) && (eqSum x5 x23)))]) hO ⟨e83, trivial⟩
      replace S89 : St _ ((bx b5 [vU x5.1, vU x5.2] 27) :: (bx b4 [vU x4.1, vU x4.2] 27) :: (bx b3 [vU x3.1, vU x3.2] 27) :: (bx b2 [vU x2.1, vU x2.2] 27) :: (bx b1 [vU x1.1, vU x1.2] 27) :: (X1 ++ As)) _ := S89
      have L100 := Mem.rfl' m73
      refine wpl_no (d := 115) rfl rfl (congrArg Value.bool hb33) ?_
      refine wpn ?_
      refine ⟨m73, Mem.tr L98 L100, ⟨X1, C35, ?_⟩, facts_step HM rfl K L100 rfl rfl ⟨fun hx => tf hx hb33, fun _ => rfl⟩, outP⟩
      exact S89
    · intro L f41 w83 hL hd hc ⟨m74, L101, ⟨X1, C36, S90⟩, K, hO⟩
      rcases bool_tf (((((x17 && x15) && (eqSum x1 x18)) && (eqSum x19 x20)) && (eqSum x22 x1)) && (eqSum x5 x23)) with hb34 | hb34
      · have d31 : L 31 = true := dep hd rfl
        have e84 := K 31 d31
        have d32 : L 32 = true := dep hd rfl
        have e85 := (K 32 d32).1 hb34
        have d33 : L 33 = true := dep hd rfl
        have e86 := (K 33 d33).1 hb34
        have d34 : L 34 = true := dep hd rfl
        have e87 := (K 34 d34).1 hb34
        obtain ⟨u69, rfl⟩ := fr_of (N := 143) (L := [(115, vb (((((x17 && x15) && (eqSum x1 x18)) && (eqSum x19 x20)) && (eqSum x22 x1)) && (eqSum x5 x23))), (116, .agg #[vU x1.1, vU x1.2]), (117, v4), (118, .agg #[vU x5.1, vU x5.2])]) hO ⟨e84, e85, e86, e87, trivial⟩
        replace S90 : St _ ((bx b5 [vU x5.1, vU x5.2] 27) :: (bx b4 [vU x4.1, vU x4.2] 27) :: (bx b3 [vU x3.1, vU x3.2] 27) :: (bx b2 [vU x2.1, vU x2.2] 27) :: (bx b1 [vU x1.1, vU x1.2] 27) :: (X1 ++ As)) _ := S90
        replace h5 := h5.up L101
        replace h11 := h11.up L101
        replace h14 := h14.up L101
        replace h18 := h18.up L101
        replace T1 := T1.up L101
        have L102 := Mem.rfl' m74
        refine wpl_yes (d := 115) rfl rfl (congrArg Value.bool hb34) ?_
        replace q24 := gu_t hb34 q24
        refine s_call Tryd.call21 (w_merkle_Check (a0 := x1) (a1 := 0) (a2 := 3) (a3 := x6.1) (a4 := x5) S90 h11 q24) rfl ?_
        rintro _ w84 ⟨m75, l39, S91, rfl⟩
        replace h5 := h5.up l39
        replace h11 := h11.up l39
        replace h14 := h14.up l39
        replace h18 := h18.up l39
        replace C36 := C36.imp id (fun q => q.imp (fun p a b => (p a b).imp (fun r hc => RowS.up l39 (r hc)) id) id)
        replace T1 := T1.up l39
        replace L102 := Mem.tr L102 l39
        clear S90
        replace S91 : St _ ((bx b5 [vU x5.1, vU x5.2] 27) :: (bx b4 [vU x4.1, vU x4.2] 27) :: (bx b3 [vU x3.1, vU x3.2] 27) :: (bx b2 [vU x2.1, vU x2.2] 27) :: (bx b1 [vU x1.1, vU x1.2] 27) :: (X1 ++ As)) _ := S91
        refine wpn ?_
        refine ⟨m75, Mem.tr L101 L102, ⟨X1, C36, ?_⟩, facts_step HM rfl K L102 rfl rfl ⟨fun _ => rfl, fun hx => tf hb34 hx⟩, outP⟩
        exact S91
      have d31 : L 31 = true := dep hd rfl
      have e88 := K 31 d31
      obtain ⟨u70, rfl⟩ := fr_of (N := 143) (L := [(115, vb (((((x17 && x15) && (eqSum x1 x18)) && (eqSum x19 x20)) && (eqSum x22 x1)) && (eqSum x5 x23)))]) hO ⟨e88, trivial⟩
      replace S90 : St _ ((bx b5 [vU x5.1, vU x5.2] 27) :: (bx b4 [vU x4.1, vU x4.2] 27) :: (bx b3 [vU x3.1, vU x3.2] 27) :: (bx b2 [vU x2.1, vU x2.2] 27) :: (bx b1 [vU x1.1, vU x1.2] 27) :: (X1 ++ As)) _ := S90
      have L103 := Mem.rfl' m74
      refine wpl_no (d := 115) rfl rfl (congrArg Value.bool hb34) ?_
      refine wpn ?_
      refine ⟨m74, Mem.tr L101 L103, ⟨X1, C36, ?_⟩, facts_step HM rfl K L103 rfl rfl ⟨fun hx => tf hx hb34, fun _ => rfl⟩, outP⟩
      exact S90
    · intro L f42 w85 hL hd hc ⟨m76, L104, ⟨X1, C37, S92⟩, K, hO⟩
      rcases bool_tf (((((x17 && x15) && (eqSum x1 x18)) && (eqSum x19 x20)) && (eqSum x22 x1)) && (eqSum x5 x23)) with hb35 | hb35
      · have d31 : L 31 = true := dep hd rfl
        have e89 := K 31 d31
        have d35 : L 35 = true := dep hd rfl
        have e90 := (K 35 d35).1 hb35
        obtain ⟨u71, rfl⟩ := fr_of (N := 143) (L := [(115, vb (((((x17 && x15) && (eqSum x1 x18)) && (eqSum x19 x20)) && (eqSum x22 x1)) && (eqSum x5 x23))), (119, vI x24)]) hO ⟨e89, e90, trivial⟩
        replace S92 : St _ ((bx b5 [vU x5.1, vU x5.2] 27) :: (bx b4 [vU x4.1, vU x4.2] 27) :: (bx b3 [vU x3.1, vU x3.2] 27) :: (bx b2 [vU x2.1, vU x2.2] 27) :: (bx b1 [vU x1.1, vU x1.2] 27) :: (X1 ++ As)) _ := S92
        have L105 := Mem.rfl' m76
        refine wpl_yes (d := 115) rfl rfl (congrArg Value.bool hb35) ?_
        refine s_eql (m := x24) (n := 0) rfl rfl ?_
        refine wpn ?_
        refine ⟨m76, Mem.tr L104 L105, ⟨X1, C37, ?_⟩, facts_step HM rfl K L105 rfl rfl ⟨fun _ => rfl, fun hx => tf hb35 hx⟩, outP⟩
        exact S92
      have d31 : L 31 = true := dep hd rfl
      have e91 := K 31 d31
      obtain ⟨u72, rfl⟩ := fr_of (N := 143) (L := [(115, vb (((((x17 && x15) && (eqSum x1 x18)) && (eqSum x19 x20)) && (eqSum x22 x1)) && (eqSum x5 x23)))]) hO ⟨e91, trivial⟩
      replace S92 : St _ ((bx b5 [vU x5.1, vU x5.2] 27) :: (bx b4 [vU x4.1, vU x4.2] 27) :: (bx b3 [vU x3.1, vU x3.2] 27) :: (bx b2 [vU x2.1, vU x2.2] 27) :: (bx b1 [vU x1.1, vU x1.2] 27) :: (X1 ++ As)) _ := S92
      have L106 := Mem.rfl' m76
      refine wpl_no (d := 115) rfl rfl (congrArg Value.bool hb35) ?_
      refine wpn ?_
      refine ⟨m76, Mem.tr L104 L106, ⟨X1, C37, ?_⟩, facts_step HM rfl K L106 rfl rfl ⟨fun hx => tf hx hb35, fun _ => rfl⟩, outP⟩
      exact S92
    · intro L f43 w86 hL hd hc ⟨m77, L107, ⟨X1, C38, S93⟩, K, hO⟩
      rcases bool_tf (((((x17 && x15) && (eqSum x1 x18)) && (eqSum x19 x20)) && (eqSum x22 x1)) && (eqSum x5 x23)) with hb36 | hb36
      · have d31 : L 31 = true := dep hd rfl
        have e92 := K 31 d31
        have d36 : L 36 = true := dep hd rfl
        have e93 := (K 36 d36).1 hb36
        obtain ⟨u73, rfl⟩ := fr_of (N := 143) (L := [(115, vb (((((x17 && x15) && (eqSum x1 x18)) && (eqSum x19 x20)) && (eqSum x22 x1)) && (eqSum x5 x23))), (120, vb (x24 == 0))]) hO ⟨e92, e93, trivial⟩
        replace S93 : St _ ((bx b5 [vU x5.1, vU x5.2] 27) :: (bx b4 [vU x4.1, vU x4.2] 27) :: (bx b3 [vU x3.1, vU x3.2] 27) :: (bx b2 [vU x2.1, vU x2.2] 27) :: (bx b1 [vU x1.1, vU x1.2] 27) :: (X1 ++ As)) _ := S93
        have L108 := Mem.rfl' m77
        refine s_pickT (congrArg Value.bool hb36) rfl ?_
        refine wpn ?_
        refine ⟨m77, Mem.tr L107 L108, ⟨X1, C38, ?_⟩, facts_step HM rfl K L108 rfl rfl (congrArg Value.bool (and_t hb36)), outP⟩
        exact S93
      · have d31 : L 31 = true := dep hd rfl
        have e94 := K 31 d31
        obtain ⟨u74, rfl⟩ := fr_of (N := 143) (L := [(115, vb (((((x17 && x15) && (eqSum x1 x18)) && (eqSum x19 x20)) && (eqSum x22 x1)) && (eqSum x5 x23)))]) hO ⟨e94, trivial⟩
        replace S93 : St _ ((bx b5 [vU x5.1, vU x5.2] 27) :: (bx b4 [vU x4.1, vU x4.2] 27) :: (bx b3 [vU x3.1, vU x3.2] 27) :: (bx b2 [vU x2.1, vU x2.2] 27) :: (bx b1 [vU x1.1, vU x1.2] 27) :: (X1 ++ As)) _ := S93
        have L109 := Mem.rfl' m77
        refine s_pickF (congrArg Value.bool hb36) rfl ?_
        refine wpn ?_
        refine ⟨m77, Mem.tr L107 L109, ⟨X1, C38, ?_⟩, facts_step HM rfl K L109 rfl rfl (congrArg Value.bool (and_f hb36)), outP⟩
        exact S93
    · intro L f44 w87 hL hd hc ⟨m78, L110, ⟨X1, C39, S94⟩, K, hO⟩
      have d37 : L 37 = true := dep hd rfl
      have e95 := K 37 d37
      obtain ⟨u75, rfl⟩ := fr_of (N := 143) (L := [(121, vb ((((((x17 && x15) && (eqSum x1 x18)) && (eqSum x19 x20)) && (eqSum x22 x1)) && (eqSum x5 x23)) && (x24 == 0)))]) hO ⟨e95, trivial⟩
      replace S94 : St _ ((bx b5 [vU x5.1, vU x5.2] 27) :: (bx b4 [vU x4.1, vU x4.2] 27) :: (bx b3 [vU x3.1, vU x3.2] 27) :: (bx b2 [vU x2.1, vU x2.2] 27) :: (bx b1 [vU x1.1, vU x1.2] 27) :: (X1 ++ As)) _ := S94
      have L111 := Mem.rfl' m78
      refine s_mvv (v := vb ((((((x17 && x15) && (eqSum x1 x18)) && (eqSum x19 x20)) && (eqSum x22 x1)) && (eqSum x5 x23)) && (x24 == 0))) rfl ?_
      refine wpn ?_
      refine ⟨m78, Mem.tr L110 L111, ⟨X1, C39, ?_⟩, facts_step HM rfl K L111 rfl rfl rfl, outP⟩
      exact S94
    · intro L f45 w88 hL hd hc ⟨m79, L112, ⟨X1, C40, S95⟩, K, hO⟩
      rcases bool_tf ((((((x17 && x15) && (eqSum x1 x18)) && (eqSum x19 x20)) && (eqSum x22 x1)) && (eqSum x5 x23)) && (x24 == 0)) with hb37 | hb37
      · have d38 : L 38 = true := dep hd rfl
        have e96 := K 38 d38
        obtain ⟨u76, rfl⟩ := fr_of (N := 143) (L := [(122, vb ((((((x17 && x15) && (eqSum x1 x18)) && (eqSum x19 x20)) && (eqSum x22 x1)) && (eqSum x5 x23)) && (x24 == 0)))]) hO ⟨e96, trivial⟩
        replace S95 : St _ ((bx b5 [vU x5.1, vU x5.2] 27) :: (bx b4 [vU x4.1, vU x4.2] 27) :: (bx b3 [vU x3.1, vU x3.2] 27) :: (bx b2 [vU x2.1, vU x2.2] 27) :: (bx b1 [vU x1.1, vU x1.2] 27) :: (X1 ++ As)) _ := S95
        replace h5 := h5.up L112
        replace h11 := h11.up L112
        replace h14 := h14.up L112
        replace h18 := h18.up L112
        replace T1 := T1.up L112
        have L113 := Mem.rfl' m79
        refine wpl_yes (d := 122) rfl rfl (congrArg Value.bool hb37) ?_
        refine s_ld (i := 4) (cs := [vU x1.1, vU x1.2]) S95 rfl rfl Tryd.isAgg27 Tryd.sizeOf27 rfl (fun h => by cases h) ?_
        refine wpn ?_
        refine ⟨m79, Mem.tr L112 L113, ⟨X1, C40, ?_⟩, facts_step HM rfl K L113 rfl rfl ⟨fun _ => rfl, fun hx => tf hb37 hx⟩, outP⟩
        exact S95
      have d38 : L 38 = true := dep hd rfl
      have e97 := K 38 d38
      obtain ⟨u77, rfl⟩ := fr_of (N := 143) (L := [(122, vb ((((((x17 && x15) && (eqSum x1 x18)) && (eqSum x19 x20)) && (eqSum x22 x1)) && (eqSum x5 x23)) && (x24 == 0)))]) hO ⟨e97, trivial⟩
      replace S95 : St _ ((bx b5 [vU x5.1, vU x5.2] 27) :: (bx b4 [vU x4.1, vU x4.2] 27) :: (bx b3 [vU x3.1, vU x3.2] 27) :: (bx b2 [vU x2.1, vU x2.2] 27) :: (bx b1 [vU x1.1, vU x1.2] 27) :: (X1 ++ As)) _ := S95
      have L114 := Mem.rfl' m79
      refine wpl_no (d := 122) rfl rfl (congrArg Value.bool hb37) ?_
      refine wpn ?_
      refine ⟨m79, Mem.tr L112 L114, ⟨X1, C40, ?_⟩, facts_step HM rfl K L114 rfl rfl ⟨fun hx => tf hx hb37, fun _ => rfl⟩, outP⟩
      exact S95
    · intro L f46 w89 hL hd hc ⟨m80, L115, ⟨X1, C41, S96⟩, K, hO⟩
      rcases bool_tf ((((((x17 && x15) && (eqSum x1 x18)) && (eqSum x19 x20)) && (eqSum x22 x1)) && (eqSum x5 x23)) && (x24 == 0)) with hb38 | hb38
      · have d38 : L 38 = true := dep hd rfl
        have e98 := K 38 d38
        obtain ⟨u78, rfl⟩ := fr_of (N := 143) (L := [(122, vb ((((((x17 && x15) && (eqSum x1 x18)) && (eqSum x19 x20)) && (eqSum x22 x1)) && (eqSum x5 x23)) && (x24 == 0)))]) hO ⟨e98, trivial⟩
        replace S96 : St _ ((bx b5 [vU x5.1, vU x5.2] 27) :: (bx b4 [vU x4.1, vU x4.2] 27) :: (bx b3 [vU x3.1, vU x3.2] 27) :: (bx b2 [vU x2.1, vU x2.2] 27) :: (bx b1 [vU x1.1, vU x1.2] 27) :: (X1 ++ As)) _ := S96
        have L116 := Mem.rfl' m80
        refine wpl_yes (d := 122) rfl rfl (congrArg Value.bool hb38) ?_
        refine s_mvv (v := v5) rfl ?_
        refine wpn ?_
        refine ⟨m80, Mem.tr L115 L116, ⟨X1, C41, ?_⟩, facts_step HM rfl K L116 rfl rfl ⟨fun _ => rfl, fun hx => tf hb38 hx⟩, outP⟩
        exact S96
      have d38 : L 38 = true := dep hd rfl
      have e99 := K 38 d38
      obtain ⟨u79, rfl⟩ := fr_of (N := 143) (L := [(122, vb ((((((x17 && x15) && (eqSum x1 x18)) && (eqSum x19 x20)) && (eqSum x22 x1)) && (eqSum x5 x23)) && (x24 == 0)))]) hO ⟨e99, trivial⟩
      replace S96 : St _ ((bx b5 [vU x5.1, vU x5.2] 27) :: (bx b4 [vU x4.1, vU x4.2] 27) :: (bx b3 [vU x3.1, vU x3.2] 27) :: (bx b2 [vU x2.1, vU x2.2] 27) :: (bx b1 [vU x1.1, vU x1.2] 27) :: (X1 ++ As)) _ := S96
      have L117 := Mem.rfl' m80
      refine wpl_no (d := 122) rfl rfl (congrArg Value.bool hb38) ?_
      refine wpn ?_
      refine ⟨m80, Mem.tr L115 L117, ⟨X1, C41, ?_⟩, facts_step HM rfl K L117 rfl rfl ⟨fun hx => tf hx hb38, fun _ => rfl⟩, outP⟩
      exact S96
    · intro L f47 w90 hL hd hc ⟨m81, L118, ⟨X1, C42, S97⟩, K, hO⟩
      rcases bool_tf ((((((x17 && x15) && (eqSum x1 x18)) && (eqSum x19 x20)) && (eqSum x22 x1)) && (eqSum x5 x23)) && (x24 == 0)) with hb39 | hb39
      · have d38 : L 38 = true := dep hd rfl
        have e100 := K 38 d38
        obtain ⟨u80, rfl⟩ := fr_of (N := 143) (L := [(122, vb ((((((x17 && x15) && (eqSum x1 x18)) && (eqSum x19 x20)) && (eqSum x22 x1)) && (eqSum x5 x23)) && (x24 == 0)))]) hO ⟨e100, trivial⟩
        replace S97 : St _ ((bx b5 [vU x5.1, vU x5.2] 27) :: (bx b4 [vU x4.1, vU x4.2] 27) :: (bx b3 [vU x3.1, vU x3.2] 27) :: (bx b2 [vU x2.1, vU x2.2] 27) :: (bx b1 [vU x1.1, vU x1.2] 27) :: (X1 ++ As)) _ := S97
        replace h5 := h5.up L118
        replace h11 := h11.up L118
        replace h14 := h14.up L118
        replace h18 := h18.up L118
        replace T1 := T1.up L118
        have L119 := Mem.rfl' m81
        refine wpl_yes (d := 122) rfl rfl (congrArg Value.bool hb39) ?_
        refine s_ld (i := 0) (cs := [vU x5.1, vU x5.2]) S97 rfl rfl Tryd.isAgg27 Tryd.sizeOf27 rfl (fun h => by cases h) ?_
        refine wpn ?_
        refine ⟨m81, Mem.tr L118 L119, ⟨X1, C42, ?_⟩, facts_step HM rfl K L119 rfl rfl ⟨fun _ => rfl, fun hx => tf hb39 hx⟩, outP⟩
        exact S97
      have d38 : L 38 = true := dep hd rfl
      have e101 := K 38 d38
      obtain ⟨u81, rfl⟩ := fr_of (N := 143) (L := [(122, vb ((((((x17 && x15) && (eqSum x1 x18)) && (eqSum x19 x20)) && (eqSum x22 x1)) && (eqSum x5 x23)) && (x24 == 0)))]) hO ⟨e101, trivial⟩
      replace S97 : St _ ((bx b5 [vU x5.1, vU x5.2] 27) :: (bx b4 [vU x4.1, vU x4.2] 27) :: (bx b3 [vU x3.1, vU x3.2] 27) :: (bx b2 [vU x2.1, vU x2.2] 27) :: (bx b1 [vU x1.1, vU x1.2] 27) :: (X1 ++ As)) _ := S97
      have L120 := Mem.rfl' m81
      refine wpl_no (d := 122) rfl rfl (congrArg Value.bool hb39) ?_
      refine wpn ?_
      refine ⟨m81, Mem.tr L118 L120, ⟨X1, C42, ?_⟩, facts_step HM rfl K L120 rfl rfl ⟨fun hx => tf hx hb39, fun _ => rfl⟩, outP⟩
      exact S97
    · intro L f48 w91 hL hd hc ⟨m82, L121, ⟨X1, C43, S98⟩, K, hO⟩
      rcases bool_tf ((((((x17 && x15) && (eqSum x1 x18)) && (eqSum x19 x20)) && (eqSum x22 x1)) && (eqSum x5 x23)) && (x24 == 0)) with hb40 | hb40
      · have d38 : L 38 = true := dep hd rfl
        have e102 := K 38 d38
        have d39 : L 39 = true := dep hd rfl
        have e103 := (K 39 d39).1 hb40
        have d40 : L 40 = true := dep hd rfl
        have e104 := (K 40 d40).1 hb40
        have d41 : L 41 = true := dep hd rfl
        have e105 := (K 41 d41).1 hb40
        obtain ⟨u82, rfl⟩ := fr_of (N := 143) (L := [(122, vb ((((((x17 && x15) && (eqSum x1 x18)) && (eqSum x19 x20)) && (eqSum x22 x1)) && (eqSum x5 x23)) && (x24 == 0))), (123, .agg #[vU x1.1, vU x1.2]), (124, v5), (125, .agg #[vU x5.1, vU x5.2])]) hO ⟨e102, e103, e104, e105, trivial⟩
        replace S98 : St _ ((bx b5 [vU x5.1, vU x5.2] 27) :: (bx b4 [vU x4.1, vU x4.2] 27) :: (bx b3 [vU x3.1, vU x3.2] 27) :: (bx b2 [vU x2.1, vU x2.2] 27) :: (bx b1 [vU x1.1, vU x1.2] 27) :: (X1 ++ As)) _ := S98
        replace h5 := h5.up L121
        replace h11 := h11.up L121
        replace h14 := h14.up L121
        replace h18 := h18.up L121
        replace T1 := T1.up L121
        have L122 := Mem.rfl' m82
        refine wpl_yes (d := 122) rfl rfl (congrArg Value.bool hb40) ?_
        replace q25 := gu_t hb40 q25
        refine s_call Tryd.call21 (w_merkle_Check (a0 := x1) (a1 := 0) (a2 := 3) (a3 := x7.1) (a4 := x5) S98 h14 q25) rfl ?_
        rintro _ w92 ⟨m83, l40, S99, rfl⟩
        replace h5 := h5.up l40
        replace h11 := h11.up l40
        replace h14 := h14.up l40
        replace h18 := h18.up l40
        replace C43 := C43.imp id (fun q => q.imp (fun p a b => (p a b).imp (fun r hc => RowS.up l40 (r hc)) id) id)
        replace T1 := T1.up l40
        replace L122 := Mem.tr L122 l40
        clear S98
        replace S99 : St _ ((bx b5 [vU x5.1, vU x5.2] 27) :: (bx b4 [vU x4.1, vU x4.2] 27) :: (bx b3 [vU x3.1, vU x3.2] 27) :: (bx b2 [vU x2.1, vU x2.2] 27) :: (bx b1 [vU x1.1, vU x1.2] 27) :: (X1 ++ As)) _ := S99
        refine wpn ?_
        refine ⟨m83, Mem.tr L121 L122, ⟨X1, C43, ?_⟩, facts_step HM rfl K L122 rfl rfl ⟨fun _ => rfl, fun hx => tf hb40 hx⟩, outP⟩
        exact S99
      have d38 : L 38 = true := dep hd rfl
      have e106 := K 38 d38
      obtain ⟨u83, rfl⟩ := fr_of (N := 143) (L := [(122, vb ((((((x17 && x15) && (eqSum x1 x18)) && (eqSum x19 x20)) && (eqSum x22 x1)) && (eqSum x5 x23)) && (x24 == 0)))]) hO ⟨e106, trivial⟩
      replace S98 : St _ ((bx b5 [vU x5.1, vU x5.2] 27) :: (bx b4 [vU x4.1, vU x4.2] 27) :: (bx b3 [vU x3.1, vU x3.2] 27) :: (bx b2 [vU x2.1, vU x2.2] 27) :: (bx b1 [vU x1.1, vU x1.2] 27) :: (X1 ++ As)) _ := S98
      have L123 := Mem.rfl' m82
      refine wpl_no (d := 122) rfl rfl (congrArg Value.bool hb40) ?_
      refine wpn ?_
      refine ⟨m82, Mem.tr L121 L123, ⟨X1, C43, ?_⟩, facts_step HM rfl K L123 rfl rfl ⟨fun hx => tf hx hb40, fun _ => rfl⟩, outP⟩
      exact S98
    · intro L f49 w93 hL hd hc ⟨m84, L124, ⟨X1, C44, S100⟩, K, hO⟩
      rcases bool_tf ((((((x17 && x15) && (eqSum x1 x18)) && (eqSum x19 x20)) && (eqSum x22 x1)) && (eqSum x5 x23)) && (x24 == 0)) with hb41 | hb41
      · have d38 : L 38 = true := dep hd rfl
        have e107 := K 38 d38
        have d42 : L 42 = true := dep hd rfl
        have e108 := (K 42 d42).1 hb41
        obtain ⟨u84, rfl⟩ := fr_of (N := 143) (L := [(122, vb ((((((x17 && x15) && (eqSum x1 x18)) && (eqSum x19 x20)) && (eqSum x22 x1)) && (eqSum x5 x23)) && (x24 == 0))), (126, vI x25)]) hO ⟨e107, e108, trivial⟩
        replace S100 : St _ ((bx b5 [vU x5.1, vU x5.2] 27) :: (bx b4 [vU x4.1, vU x4.2] 27) :: (bx b3 [vU x3.1, vU x3.2] 27) :: (bx b2 [vU x2.1, vU x2.2] 27) :: (bx b1 [vU x1.1, vU x1.2] 27) :: (X1 ++ As)) _ := S100
        have L125 := Mem.rfl' m84
        refine wpl_yes (d := 122) rfl rfl (congrArg Value.bool hb41) ?_
        refine s_eql (m := x25) (n := 80) rfl rfl ?_
        refine wpn ?_
        refine ⟨m84, Mem.tr L124 L125, ⟨X1, C44, ?_⟩, facts_step HM rfl K L125 rfl rfl ⟨fun _ => rfl, fun hx => tf hb41 hx⟩, outP⟩
        exact S100
      have d38 : L 38 = true := dep hd rfl
      have e109 := K 38 d38
      obtain ⟨u85, rfl⟩ := fr_of (N := 143) (L := [(122, vb ((((((x17 && x15) && (eqSum x1 x18)) && (eqSum x19 x20)) && (eqSum x22 x1)) && (eqSum x5 x23)) && (x24 == 0)))]) hO ⟨e109, trivial⟩
      replace S100 : St _ ((bx b5 [vU x5.1, vU x5.2] 27) :: (bx b4 [vU x4.1, vU x4.2] 27) :: (bx b3 [vU x3.1, vU x3.2] 27) :: (bx b2 [vU x2.1, vU x2.2] 27) :: (bx b1 [vU x1.1, vU x1.2] 27) :: (X1 ++ As)) _ := S100
      have L126 := Mem.rfl' m84
      refine wpl_no (d := 122) rfl rfl (congrArg Value.bool hb41) ?_
      refine wpn ?_
      refine ⟨m84, Mem.tr L124 L126, ⟨X1, C44, ?_⟩, facts_step HM rfl K L126 rfl rfl ⟨fun hx => tf hx hb41, fun _ => rfl⟩, outP⟩
      exact S100
    · intro L f50 w94 hL hd hc ⟨m85, L127, ⟨X1, C45, S101⟩, K, hO⟩
      rcases bool_tf ((((((x17 && x15) && (eqSum x1 x18)) && (eqSum x19 x20)) && (eqSum x22 x1)) && (eqSum x5 x23)) && (x24 == 0)) with hb42 | hb42
      · have d38 : L 38 = true := dep hd rfl
        have e110 := K 38 d38
        have d43 : L 43 = true := dep hd rfl
        have e111 := (K 43 d43).1 hb42
        obtain ⟨u86, rfl⟩ := fr_of (N := 143) (L := [(122, vb ((((((x17 && x15) && (eqSum x1 x18)) && (eqSum x19 x20)) && (eqSum x22 x1)) && (eqSum x5 x23)) && (x24 == 0))), (127, vb (x25 == 80))]) hO ⟨e110, e111, trivial⟩
        replace S101 : St _ ((bx b5 [vU x5.1, vU x5.2] 27) :: (bx b4 [vU x4.1, vU x4.2] 27) :: (bx b3 [vU x3.1, vU x3.2] 27) :: (bx b2 [vU x2.1, vU x2.2] 27) :: (bx b1 [vU x1.1, vU x1.2] 27) :: (X1 ++ As)) _ := S101
        have L128 := Mem.rfl' m85
        refine s_pickT (congrArg Value.bool hb42) rfl ?_
        refine wpn ?_
        refine ⟨m85, Mem.tr L127 L128, ⟨X1, C45, ?_⟩, facts_step HM rfl K L128 rfl rfl (congrArg Value.bool (and_t hb42)), outP⟩
        exact S101
      · have d38 : L 38 = true := dep hd rfl
        have e112 := K 38 d38
        obtain ⟨u87, rfl⟩ := fr_of (N := 143) (L := [(122, vb ((((((x17 && x15) && (eqSum x1 x18)) && (eqSum x19 x20)) && (eqSum x22 x1)) && (eqSum x5 x23)) && (x24 == 0)))]) hO ⟨e112, trivial⟩
        replace S101 : St _ ((bx b5 [vU x5.1, vU x5.2] 27) :: (bx b4 [vU x4.1, vU x4.2] 27) :: (bx b3 [vU x3.1, vU x3.2] 27) :: (bx b2 [vU x2.1, vU x2.2] 27) :: (bx b1 [vU x1.1, vU x1.2] 27) :: (X1 ++ As)) _ := S101
        have L129 := Mem.rfl' m85
        refine s_pickF (congrArg Value.bool hb42) rfl ?_
        refine wpn ?_
        refine ⟨m85, Mem.tr L127 L129, ⟨X1, C45, ?_⟩, facts_step HM rfl K L129 rfl rfl (congrArg Value.bool (and_f hb42)), outP⟩
        exact S101
    · intro L f51 w95 hL hd hc ⟨m86, L130, ⟨X1, C46, S102⟩, K, hO⟩
      have d44 : L 44 = true := dep hd rfl
      have e113 := K 44 d44
      obtain ⟨u88, rfl⟩ := fr_of (N := 143) (L := [(128, vb (((((((x17 && x15) && (eqSum x1 x18)) && (eqSum x19 x20)) && (eqSum x22 x1)) && (eqSum x5 x23)) && (x24 == 0)) && (x25 == 80)))]) hO ⟨e113, trivial⟩
      replace S102 : St _ ((bx b5 [vU x5.1, vU x5.2] 27) :: (bx b4 [vU x4.1, vU x4.2] 27) :: (bx b3 [vU x3.1, vU x3.2] 27) :: (bx b2 [vU x2.1, vU x2.2] 27) :: (bx b1 [vU x1.1, vU x1.2] 27) :: (X1 ++ As)) _ := S102
      have L131 := Mem.rfl' m86
      refine s_mvv (v := vb (((((((x17 && x15) && (eqSum x1 x18)) && (eqSum x19 x20)) && (eqSum x22 x1)) && (eqSum x5 x23)) && (x24 == 0)) && (x25 == 80))) rfl ?_
      refine wpn ?_
      refine ⟨m86, Mem.tr L130 L131, ⟨X1, C46, ?_⟩, facts_step HM rfl K L131 rfl rfl rfl, outP⟩
      exact S102
    · intro L f52 w96 hL hd hc ⟨m87, L132, ⟨X1, C47, S103⟩, K, hO⟩
      rcases bool_tf (((((((x17 && x15) && (eqSum x1 x18)) && (eqSum x19 x20)) && (eqSum x22 x1)) && (eqSum x5 x23)) && (x24 == 0)) && (x25 == 80)) with hb43 | hb43
      · have d45 : L 45 = true := dep hd rfl
        have e114 := K 45 d45
        obtain ⟨u89, rfl⟩ := fr_of (N := 143) (L := [(129, vb (((((((x17 && x15) && (eqSum x1 x18)) && (eqSum x19 x20)) && (eqSum x22 x1)) && (eqSum x5 x23)) && (x24 == 0)) && (x25 == 80)))]) hO ⟨e114, trivial⟩
        replace S103 : St _ ((bx b5 [vU x5.1, vU x5.2] 27) :: (bx b4 [vU x4.1, vU x4.2] 27) :: (bx b3 [vU x3.1, vU x3.2] 27) :: (bx b2 [vU x2.1, vU x2.2] 27) :: (bx b1 [vU x1.1, vU x1.2] 27) :: (X1 ++ As)) _ := S103
        replace h5 := h5.up L132
        replace h11 := h11.up L132
        replace h14 := h14.up L132
        replace h18 := h18.up L132
        replace T1 := T1.up L132
        have L133 := Mem.rfl' m87
        refine wpl_yes (d := 129) rfl rfl (congrArg Value.bool hb43) ?_
        refine s_ld (i := 4) (cs := [vU x1.1, vU x1.2]) S103 rfl rfl Tryd.isAgg27 Tryd.sizeOf27 rfl (fun h => by cases h) ?_
        refine wpn ?_
        refine ⟨m87, Mem.tr L132 L133, ⟨X1, C47, ?_⟩, facts_step HM rfl K L133 rfl rfl ⟨fun _ => rfl, fun hx => tf hb43 hx⟩, outP⟩
        exact S103
      have d45 : L 45 = true := dep hd rfl
      have e115 := K 45 d45
      obtain ⟨u90, rfl⟩ := fr_of (N := 143) (L := [(129, vb (((((((x17 && x15) && (eqSum x1 x18)) && (eqSum x19 x20)) && (eqSum x22 x1)) && (eqSum x5 x23)) && (x24 == 0)) && (x25 == 80)))]) hO ⟨e115, trivial⟩
      replace S103 : St _ ((bx b5 [vU x5.1, vU x5.2] 27) :: (bx b4 [vU x4.1, vU x4.2] 27) :: (bx b3 [vU x3.1, vU x3.2] 27) :: (bx b2 [vU x2.1, vU x2.2] 27) :: (bx b1 [vU x1.1, vU x1.2] 27) :: (X1 ++ As)) _ := S103
      have L134 := Mem.rfl' m87
      refine wpl_no (d := 129) rfl rfl (congrArg Value.bool hb43) ?_
      refine wpn ?_
      refine ⟨m87, Mem.tr L132 L134, ⟨X1, C47, ?_⟩, facts_step HM rfl K L134 rfl rfl ⟨fun hx => tf hx hb43, fun _ => rfl⟩, outP⟩
      exact S103
    · intro L f53 w97 hL hd hc ⟨m88, L135, ⟨X1, C48, S104⟩, K, hO⟩
      rcases bool_tf (((((((x17 && x15) && (eqSum x1 x18)) && (eqSum x19 x20)) && (eqSum x22 x1)) && (eqSum x5 x23)) && (x24 == 0)) && (x25 == 80)) with hb44 | hb44
      · have d45 : L 45 = true := dep hd rfl
        have e116 := K 45 d45
        obtain ⟨u91, rfl⟩ := fr_of (N := 143) (L := [(129, vb (((((((x17 && x15) && (eqSum x1 x18)) && (eqSum x19 x20)) && (eqSum x22 x1)) && (eqSum x5 x23)) && (x24 == 0)) && (x25 == 80)))]) hO ⟨e116, trivial⟩
        replace S104 : St _ ((bx b5 [vU x5.1, vU x5.2] 27) :: (bx b4 [vU x4.1, vU x4.2] 27) :: (bx b3 [vU x3.1, vU x3.2] 27) :: (bx b2 [vU x2.1, vU x2.2] 27) :: (bx b1 [vU x1.1, vU x1.2] 27) :: (X1 ++ As)) _ := S104
        have L136 := Mem.rfl' m88
        refine wpl_yes (d := 129) rfl rfl (congrArg Value.bool hb44) ?_
        refine s_mvv (v := v5) rfl ?_
        refine wpn ?_
        refine ⟨m88, Mem.tr L135 L136, ⟨X1, C48, ?_⟩, facts_step HM rfl K L136 rfl rfl ⟨fun _ => rfl, fun hx => tf hb44 hx⟩, outP⟩
        exact S104
      have d45 : L 45 = true := dep hd rfl
      have e117 := K 45 d45
      obtain ⟨u92, rfl⟩ := fr_of (N := 143) (L := [(129, vb (((((((x17 && x15) && (eqSum x1 x18)) && (eqSum x19 x20)) && (eqSum x22 x1)) && (eqSum x5 x23)) && (x24 == 0)) && (x25 == 80)))]) hO ⟨e117, trivial⟩
      replace S104 : St _ ((bx b5 [vU x5.1, vU x5.2] 27) :: (bx b4 [vU x4.1, vU x4.2] 27) :: (bx b3 [vU x3.1, vU x3.2] 27) :: (bx b2 [vU x2.1, vU x2.2] 27) :: (bx b1 [vU x1.1, vU x1.2] 27) :: (X1 ++ As)) _ := S104
      have L137 := Mem.rfl' m88
      refine wpl_no (d := 129) rfl rfl (congrArg Value.bool hb44) ?_
      refine wpn ?_
      refine ⟨m88, Mem.tr L135 L137, ⟨X1, C48, ?_⟩, facts_step HM rfl K L137 rfl rfl ⟨fun hx => tf hx hb44, fun _ => rfl⟩, outP⟩
      exact S104
    · intro L f54 w98 hL hd hc ⟨m89, L138, ⟨X1, C49, S105⟩, K, hO⟩
      rcases bool_tf (((((((x17 && x15) && (eqSum x1 x18)) && (eqSum x19 x20)) && (eqSum x22 x1)) && (eqSum x5 x23)) && (x24 == 0)) && (x25 == 80)) with hb45 | hb45
      · have d45 : L 45 = true := dep hd rfl
        have e118 := K 45 d45
        obtain ⟨u93, rfl⟩ := fr_of (N := 143) (L := [(129, vb (((((((x17 && x15) && (eqSum x1 x18)) && (eqSum x19 x20)) && (eqSum x22 x1)) && (eqSum x5 x23)) && (x24 == 0)) && (x25 == 80)))]) hO ⟨e118, trivial⟩
        replace S105 : St _ ((bx b5 [vU x5.1, vU x5.2] 27) :: (bx b4 [vU x4.1, vU x4.2] 27) :: (bx b3 [vU x3.1, vU x3.2] 27) :: (bx b2 [vU x2.1, vU x2.2] 27) :: (bx b1 [vU x1.1, vU x1.2] 27) :: (X1 ++ As)) _ := S105
        replace h5 := h5.up L138
        replace h11 := h11.up L138
        replace h14 := h14.up L138
        replace h18 := h18.up L138
        replace T1 := T1.up L138
        have L139 := Mem.rfl' m89
        refine wpl_yes (d := 129) rfl rfl (congrArg Value.bool hb45) ?_
        refine s_ld (i := 0) (cs := [vU x5.1, vU x5.2]) S105 rfl rfl Tryd.isAgg27 Tryd.sizeOf27 rfl (fun h => by cases h) ?_
        refine wpn ?_
        refine ⟨m89, Mem.tr L138 L139, ⟨X1, C49, ?_⟩, facts_step HM rfl K L139 rfl rfl ⟨fun _ => rfl, fun hx => tf hb45 hx⟩, outP⟩
        exact S105
      have d45 : L 45 = true := dep hd rfl
      have e119 := K 45 d45
      obtain ⟨u94, rfl⟩ := fr_of (N := 143) (L := [(129, vb (((((((x17 && x15) && (eqSum x1 x18)) && (eqSum x19 x20)) && (eqSum x22 x1)) && (eqSum x5 x23)) && (x24 == 0)) && (x25 == 80)))]) hO ⟨e119, trivial⟩
      replace S105 : St _ ((bx b5 [vU x5.1, vU x5.2] 27) :: (bx b4 [vU x4.1, vU x4.2] 27) :: (bx b3 [vU x3.1, vU x3.2] 27) :: (bx b2 [vU x2.1, vU x2.2] 27) :: (bx b1 [vU x1.1, vU x1.2] 27) :: (X1 ++ As)) _ := S105
      have L140 := Mem.rfl' m89
      refine wpl_no (d := 129) rfl rfl (congrArg Value.bool hb45) ?_
      refine wpn ?_
      refine ⟨m89, Mem.tr L138 L140, ⟨X1, C49, ?_⟩, facts_step HM rfl K L140 rfl rfl ⟨fun hx => tf hx hb45, fun _ => rfl⟩, outP⟩
      exact S105
    · intro L f55 w99 hL hd hc ⟨m90, L141, ⟨X1, C50, S106⟩, K, hO⟩
      rcases bool_tf (((((((x17 && x15) && (eqSum x1 x18)) && (eqSum x19 x20)) && (eqSum x22 x1)) && (eqSum x5 x23)) && (x24 == 0)) && (x25 == 80)) with hb46 | hb46
      · have d45 : L 45 = true := dep hd rfl
        have e120 := K 45 d45
        have d46 : L 46 = true := dep hd rfl
        have e121 := (K 46 d46).1 hb46
        have d47 : L 47 = true := dep hd rfl
        have e122 := (K 47 d47).1 hb46
        have d48 : L 48 = true := dep hd rfl
        have e123 := (K 48 d48).1 hb46
        obtain ⟨u95, rfl⟩ := fr_of (N := 143) (L := [(129, vb (((((((x17 && x15) && (eqSum x1 x18)) && (eqSum x19 x20)) && (eqSum x22 x1)) && (eqSum x5 x23)) && (x24 == 0)) && (x25 == 80))), (130, .agg #[vU x1.1, vU x1.2]), (131, v5), (132, .agg #[vU x5.1, vU x5.2])]) hO ⟨e120, e121, e122, e123, trivial⟩
        replace S106 : St _ ((bx b5 [vU x5.1, vU x5.2] 27) :: (bx b4 [vU x4.1, vU x4.2] 27) :: (bx b3 [vU x3.1, vU x3.2] 27) :: (bx b2 [vU x2.1, vU x2.2] 27) :: (bx b1 [vU x1.1, vU x1.2] 27) :: (X1 ++ As)) _ := S106
        replace h5 := h5.up L141
        replace h11 := h11.up L141
        replace h14 := h14.up L141
        replace h18 := h18.up L141
        replace T1 := T1.up L141
        have L142 := Mem.rfl' m90
        refine wpl_yes (d := 129) rfl rfl (congrArg Value.bool hb46) ?_
        replace q26 := gu_t hb46 q26
        refine s_call Tryd.call21 (w_merkle_Check (a0 := x1) (a1 := 3) (a2 := 3) (a3 := x7.1) (a4 := x5) S106 h14 q26) rfl ?_
        rintro _ w100 ⟨m91, l41, S107, rfl⟩
        replace h5 := h5.up l41
        replace h11 := h11.up l41
        replace h14 := h14.up l41
        replace h18 := h18.up l41
        replace C50 := C50.imp id (fun q => q.imp (fun p a b => (p a b).imp (fun r hc => RowS.up l41 (r hc)) id) id)
        replace T1 := T1.up l41
        replace L142 := Mem.tr L142 l41
        clear S106
        replace S107 : St _ ((bx b5 [vU x5.1, vU x5.2] 27) :: (bx b4 [vU x4.1, vU x4.2] 27) :: (bx b3 [vU x3.1, vU x3.2] 27) :: (bx b2 [vU x2.1, vU x2.2] 27) :: (bx b1 [vU x1.1, vU x1.2] 27) :: (X1 ++ As)) _ := S107
        refine wpn ?_
        refine ⟨m91, Mem.tr L141 L142, ⟨X1, C50, ?_⟩, facts_step HM rfl K L142 rfl rfl ⟨fun _ => rfl, fun hx => tf hb46 hx⟩, outP⟩
        exact S107
      have d45 : L 45 = true := dep hd rfl
      have e124 := K 45 d45
      obtain ⟨u96, rfl⟩ := fr_of (N := 143) (L := [(129, vb (((((((x17 && x15) && (eqSum x1 x18)) && (eqSum x19 x20)) && (eqSum x22 x1)) && (eqSum x5 x23)) && (x24 == 0)) && (x25 == 80)))]) hO ⟨e124, trivial⟩
      replace S106 : St _ ((bx b5 [vU x5.1, vU x5.2] 27) :: (bx b4 [vU x4.1, vU x4.2] 27) :: (bx b3 [vU x3.1, vU x3.2] 27) :: (bx b2 [vU x2.1, vU x2.2] 27) :: (bx b1 [vU x1.1, vU x1.2] 27) :: (X1 ++ As)) _ := S106
      have L143 := Mem.rfl' m90
      refine wpl_no (d := 129) rfl rfl (congrArg Value.bool hb46) ?_
      refine wpn ?_
      refine ⟨m90, Mem.tr L141 L143, ⟨X1, C50, ?_⟩, facts_step HM rfl K L143 rfl rfl ⟨fun hx => tf hx hb46, fun _ => rfl⟩, outP⟩
      exact S106
    · intro L f56 w101 hL hd hc ⟨m92, L144, ⟨X1, C51, S108⟩, K, hO⟩
      rcases bool_tf (((((((x17 && x15) && (eqSum x1 x18)) && (eqSum x19 x20)) && (eqSum x22 x1)) && (eqSum x5 x23)) && (x24 == 0)) && (x25 == 80)) with hb47 | hb47
      · have d45 : L 45 = true := dep hd rfl
        have e125 := K 45 d45
        have d49 : L 49 = true := dep hd rfl
        have e126 := (K 49 d49).1 hb47
        obtain ⟨u97, rfl⟩ := fr_of (N := 143) (L := [(129, vb (((((((x17 && x15) && (eqSum x1 x18)) && (eqSum x19 x20)) && (eqSum x22 x1)) && (eqSum x5 x23)) && (x24 == 0)) && (x25 == 80))), (133, vI x26)]) hO ⟨e125, e126, trivial⟩
        replace S108 : St _ ((bx b5 [vU x5.1, vU x5.2] 27) :: (bx b4 [vU x4.1, vU x4.2] 27) :: (bx b3 [vU x3.1, vU x3.2] 27) :: (bx b2 [vU x2.1, vU x2.2] 27) :: (bx b1 [vU x1.1, vU x1.2] 27) :: (X1 ++ As)) _ := S108
        have L145 := Mem.rfl' m92
        refine wpl_yes (d := 129) rfl rfl (congrArg Value.bool hb47) ?_
        refine s_eql (m := x26) (n := 1) rfl rfl ?_
        refine wpn ?_
        refine ⟨m92, Mem.tr L144 L145, ⟨X1, C51, ?_⟩, facts_step HM rfl K L145 rfl rfl ⟨fun _ => rfl, fun hx => tf hb47 hx⟩, outP⟩
        exact S108
      have d45 : L 45 = true := dep hd rfl
      have e127 := K 45 d45
      obtain ⟨u98, rfl⟩ := fr_of (N := 143) (L := [(129, vb (((((((x17 && x15) && (eqSum x1 x18)) && (eqSum x19 x20)) && (eqSum x22 x1)) && (eqSum x5 x23)) && (x24 == 0)) && (x25 == 80)))]) hO ⟨e127, trivial⟩
      replace S108 : St _ ((bx b5 [vU x5.1, vU x5.2] 27) :: (bx b4 [vU x4.1, vU x4.2] 27) :: (bx b3 [vU x3.1, vU x3.2] 27) :: (bx b2 [vU x2.1, vU x2.2] 27) :: (bx b1 [vU x1.1, vU x1.2] 27) :: (X1 ++ As)) _ := S108
      have L146 := Mem.rfl' m92
      refine wpl_no (d := 129) rfl rfl (congrArg Value.bool hb47) ?_
      refine wpn ?_
      refine ⟨m92, Mem.tr L144 L146, ⟨X1, C51, ?_⟩, facts_step HM rfl K L146 rfl rfl ⟨fun hx => tf hx hb47, fun _ => rfl⟩, outP⟩
      exact S108
    · intro L f57 w102 hL hd hc ⟨m93, L147, ⟨X1, C52, S109⟩, K, hO⟩
      rcases bool_tf (((((((x17 && x15) && (eqSum x1 x18)) && (eqSum x19 x20)) && (eqSum x22 x1)) && (eqSum x5 x23)) && (x24 == 0)) && (x25 == 80)) with hb48 | hb48
      · have d45 : L 45 = true := dep hd rfl
        have e128 := K 45 d45
        have d50 : L 50 = true := dep hd rfl
        have e129 := (K 50 d50).1 hb48
        obtain ⟨u99, rfl⟩ := fr_of (N := 143) (L := [(129, vb (((((((x17 && x15) && (eqSum x1 x18)) && (eqSum x19 x20)) && (eqSum x22 x1)) && (eqSum x5 x23)) && (x24 == 0)) && (x25 == 80))), (134, vb (x26 == 1))]) hO ⟨e128, e129, trivial⟩
        replace S109 : St _ ((bx b5 [vU x5.1, vU x5.2] 27) :: (bx b4 [vU x4.1, vU x4.2] 27) :: (bx b3 [vU x3.1, vU x3.2] 27) :: (bx b2 [vU x2.1, vU x2.2] 27) :: (bx b1 [vU x1.1, vU x1.2] 27) :: (X1 ++ As)) _ := S109
        have L148 := Mem.rfl' m93
        refine s_pickT (congrArg Value.bool hb48) rfl ?_
        refine wpn ?_
        refine ⟨m93, Mem.tr L147 L148, ⟨X1, C52, ?_⟩, facts_step HM rfl K L148 rfl rfl (congrArg Value.bool (and_t hb48)), outP⟩
        exact S109
      · have d45 : L 45 = true := dep hd rfl
        have e130 := K 45 d45
        obtain ⟨u100, rfl⟩ := fr_of (N := 143) (L := [(129, vb (((((((x17 && x15) && (eqSum x1 x18)) && (eqSum x19 x20)) && (eqSum x22 x1)) && (eqSum x5 x23)) && (x24 == 0)) && (x25 == 80)))]) hO ⟨e130, trivial⟩
        replace S109 : St _ ((bx b5 [vU x5.1, vU x5.2] 27) :: (bx b4 [vU x4.1, vU x4.2] 27) :: (bx b3 [vU x3.1, vU x3.2] 27) :: (bx b2 [vU x2.1, vU x2.2] 27) :: (bx b1 [vU x1.1, vU x1.2] 27) :: (X1 ++ As)) _ := S109
        have L149 := Mem.rfl' m93
        refine s_pickF (congrArg Value.bool hb48) rfl ?_
        refine wpn ?_
        refine ⟨m93, Mem.tr L147 L149, ⟨X1, C52, ?_⟩, facts_step HM rfl K L149 rfl rfl (congrArg Value.bool (and_f hb48)), outP⟩
        exact S109
    · intro L f58 w103 hL hd hc ⟨m94, L150, ⟨X1, C53, S110⟩, K, hO⟩
      have d51 : L 51 = true := dep hd rfl
      have e131 := K 51 d51
      obtain ⟨u101, rfl⟩ := fr_of (N := 143) (L := [(135, vb ((((((((x17 && x15) && (eqSum x1 x18)) && (eqSum x19 x20)) && (eqSum x22 x1)) && (eqSum x5 x23)) && (x24 == 0)) && (x25 == 80)) && (x26 == 1)))]) hO ⟨e131, trivial⟩
      replace S110 : St _ ((bx b5 [vU x5.1, vU x5.2] 27) :: (bx b4 [vU x4.1, vU x4.2] 27) :: (bx b3 [vU x3.1, vU x3.2] 27) :: (bx b2 [vU x2.1, vU x2.2] 27) :: (bx b1 [vU x1.1, vU x1.2] 27) :: (X1 ++ As)) _ := S110
      have L151 := Mem.rfl' m94
      refine s_mvv (v := vb ((((((((x17 && x15) && (eqSum x1 x18)) && (eqSum x19 x20)) && (eqSum x22 x1)) && (eqSum x5 x23)) && (x24 == 0)) && (x25 == 80)) && (x26 == 1))) rfl ?_
      refine wpn ?_
      refine ⟨m94, Mem.tr L150 L151, ⟨X1, C53, ?_⟩, facts_step HM rfl K L151 rfl rfl rfl, outP⟩
      exact S110
    · intro L f59 w104 hL hd hc ⟨m95, L152, ⟨X1, C54, S111⟩, K, hO⟩
      rcases bool_tf ((((((((x17 && x15) && (eqSum x1 x18)) && (eqSum x19 x20)) && (eqSum x22 x1)) && (eqSum x5 x23)) && (x24 == 0)) && (x25 == 80)) && (x26 == 1)) with hb49 | hb49
      · have d52 : L 52 = true := dep hd rfl
        have e132 := K 52 d52
        obtain ⟨u102, rfl⟩ := fr_of (N := 143) (L := [(136, vb ((((((((x17 && x15) && (eqSum x1 x18)) && (eqSum x19 x20)) && (eqSum x22 x1)) && (eqSum x5 x23)) && (x24 == 0)) && (x25 == 80)) && (x26 == 1)))]) hO ⟨e132, trivial⟩
        replace S111 : St _ ((bx b5 [vU x5.1, vU x5.2] 27) :: (bx b4 [vU x4.1, vU x4.2] 27) :: (bx b3 [vU x3.1, vU x3.2] 27) :: (bx b2 [vU x2.1, vU x2.2] 27) :: (bx b1 [vU x1.1, vU x1.2] 27) :: (X1 ++ As)) _ := S111
        replace h5 := h5.up L152
        replace h11 := h11.up L152
        replace h14 := h14.up L152
        replace h18 := h18.up L152
        replace T1 := T1.up L152
        have L153 := Mem.rfl' m95
        refine wpl_yes (d := 136) rfl rfl (congrArg Value.bool hb49) ?_
        refine s_ld (i := 1) (cs := [vU x4.1, vU x4.2]) S111 rfl rfl Tryd.isAgg27 Tryd.sizeOf27 rfl (fun h => by cases h) ?_
        refine wpn ?_
        refine ⟨m95, Mem.tr L152 L153, ⟨X1, C54, ?_⟩, facts_step HM rfl K L153 rfl rfl ⟨fun _ => rfl, fun hx => tf hb49 hx⟩, outP⟩
        exact S111
      have d52 : L 52 = true := dep hd rfl
      have e133 := K 52 d52
      obtain ⟨u103, rfl⟩ := fr_of (N := 143) (L := [(136, vb ((((((((x17 && x15) && (eqSum x1 x18)) && (eqSum x19 x20)) && (eqSum x22 x1)) && (eqSum x5 x23)) && (x24 == 0)) && (x25 == 80)) && (x26 == 1)))]) hO ⟨e133, trivial⟩
      replace S111 : St _ ((bx b5 [vU x5.1, vU x5.2] 27) :: (bx b4 [vU x4.1, vU x4.2] 27) :: (bx b3 [vU x3.1, vU x3.2] 27) :: (bx b2 [vU x2.1, vU x2.2] 27) :: (bx b1 [vU x1.1, vU x1.2] 27) :: (X1 ++ As)) _ := S111
      have L154 := Mem.rfl' m95
      refine wpl_no (d := 136) rfl rfl (congrArg Value.bool hb49) ?_
      refine wpn ?_
      refine ⟨m95, Mem.tr L152 L154, ⟨X1, C54, ?_⟩, facts_step HM rfl K L154 rfl rfl ⟨fun hx => tf hx hb49, fun _ => rfl⟩, outP⟩
      exact S111
    · intro L f60 w105 hL hd hc ⟨m96, L155, ⟨X1, C55, S112⟩, K, hO⟩
      rcases bool_tf ((((((((x17 && x15) && (eqSum x1 x18)) && (eqSum x19 x20)) && (eqSum x22 x1)) && (eqSum x5 x23)) && (x24 == 0)) && (x25 == 80)) && (x26 == 1)) with hb50 | hb50
      · have d52 : L 52 = true := dep hd rfl
        have e134 := K 52 d52
        obtain ⟨u104, rfl⟩ := fr_of (N := 143) (L := [(136, vb ((((((((x17 && x15) && (eqSum x1 x18)) && (eqSum x19 x20)) && (eqSum x22 x1)) && (eqSum x5 x23)) && (x24 == 0)) && (x25 == 80)) && (x26 == 1)))]) hO ⟨e134, trivial⟩
        replace S112 : St _ ((bx b5 [vU x5.1, vU x5.2] 27) :: (bx b4 [vU x4.1, vU x4.2] 27) :: (bx b3 [vU x3.1, vU x3.2] 27) :: (bx b2 [vU x2.1, vU x2.2] 27) :: (bx b1 [vU x1.1, vU x1.2] 27) :: (X1 ++ As)) _ := S112
        replace h5 := h5.up L155
        replace h11 := h11.up L155
        replace h14 := h14.up L155
        replace h18 := h18.up L155
        replace T1 := T1.up L155
        have L156 := Mem.rfl' m96
        refine wpl_yes (d := 136) rfl rfl (congrArg Value.bool hb50) ?_
        refine s_ld (i := 0) (cs := [vU x5.1, vU x5.2]) S112 rfl rfl Tryd.isAgg27 Tryd.sizeOf27 rfl (fun h => by cases h) ?_
        refine wpn ?_
        refine ⟨m96, Mem.tr L155 L156, ⟨X1, C55, ?_⟩, facts_step HM rfl K L156 rfl rfl ⟨fun _ => rfl, fun hx => tf hb50 hx⟩, outP⟩
        exact S112
      have d52 : L 52 = true := dep hd rfl
      have e135 := K 52 d52
      obtain ⟨u105, rfl⟩ := fr_of (N := 143) (L := [(136, vb ((((((((x17 && x15) && (eqSum x1 x18)) && (eqSum x19 x20)) && (eqSum x22 x1)) && (eqSum x5 x23)) && (x24 == 0)) && (x25 == 80)) && (x26 == 1)))]) hO ⟨e135, trivial⟩
      replace S112 : St _ ((bx b5 [vU x5.1, vU x5.2] 27) :: (bx b4 [vU x4.1, vU x4.2] 27) :: (bx b3 [vU x3.1, vU x3.2] 27) :: (bx b2 [vU x2.1, vU x2.2] 27) :: (bx b1 [vU x1.1, vU x1.2] 27) :: (X1 ++ As)) _ := S112
      have L157 := Mem.rfl' m96
      refine wpl_no (d := 136) rfl rfl (congrArg Value.bool hb50) ?_
      refine wpn ?_
      refine ⟨m96, Mem.tr L155 L157, ⟨X1, C55, ?_⟩, facts_step HM rfl K L157 rfl rfl ⟨fun hx => tf hx hb50, fun _ => rfl⟩, outP⟩
      exact S112
    · intro L f61 w106 hL hd hc ⟨m97, L158, ⟨X1, C56, S113⟩, K, hO⟩
      rcases bool_tf ((((((((x17 && x15) && (eqSum x1 x18)) && (eqSum x19 x20)) && (eqSum x22 x1)) && (eqSum x5 x23)) && (x24 == 0)) && (x25 == 80)) && (x26 == 1)) with hb51 | hb51
      · have d52 : L 52 = true := dep hd rfl
        have e136 := K 52 d52
        obtain ⟨u106, rfl⟩ := fr_of (N := 143) (L := [(136, vb ((((((((x17 && x15) && (eqSum x1 x18)) && (eqSum x19 x20)) && (eqSum x22 x1)) && (eqSum x5 x23)) && (x24 == 0)) && (x25 == 80)) && (x26 == 1)))]) hO ⟨e136, trivial⟩
        replace S113 : St _ ((bx b5 [vU x5.1, vU x5.2] 27) :: (bx b4 [vU x4.1, vU x4.2] 27) :: (bx b3 [vU x3.1, vU x3.2] 27) :: (bx b2 [vU x2.1, vU x2.2] 27) :: (bx b1 [vU x1.1, vU x1.2] 27) :: (X1 ++ As)) _ := S113
        have L159 := Mem.rfl' m97
        refine wpl_yes (d := 136) rfl rfl (congrArg Value.bool hb51) ?_
        refine s_mvv (v := v6) rfl ?_
        refine wpn ?_
        refine ⟨m97, Mem.tr L158 L159, ⟨X1, C56, ?_⟩, facts_step HM rfl K L159 rfl rfl ⟨fun _ => rfl, fun hx => tf hb51 hx⟩, outP⟩
        exact S113
      have d52 : L 52 = true := dep hd rfl
      have e137 := K 52 d52
      obtain ⟨u107, rfl⟩ := fr_of (N := 143) (L := [(136, vb ((((((((x17 && x15) && (eqSum x1 x18)) && (eqSum x19 x20)) && (eqSum x22 x1)) && (eqSum x5 x23)) && (x24 == 0)) && (x25 == 80)) && (x26 == 1)))]) hO ⟨e137, trivial⟩
      replace S113 : St _ ((bx b5 [vU x5.1, vU x5.2] 27) :: (bx b4 [vU x4.1, vU x4.2] 27) :: (bx b3 [vU x3.1, vU x3.2] 27) :: (bx b2 [vU x2.1, vU x2.2] 27) :: (bx b1 [vU x1.1, vU x1.2] 27) :: (X1 ++ As)) _ := S113
      have L160 := Mem.rfl' m97
      refine wpl_no (d := 136) rfl rfl (congrArg Value.bool hb51) ?_
      refine wpn ?_
      refine ⟨m97, Mem.tr L158 L160, ⟨X1, C56, ?_⟩, facts_step HM rfl K L160 rfl rfl ⟨fun hx => tf hx hb51, fun _ => rfl⟩, outP⟩
      exact S113
    · intro L f62 w107 hL hd hc ⟨m98, L161, ⟨X1, C57, S114⟩, K, hO⟩
      rcases bool_tf ((((((((x17 && x15) && (eqSum x1 x18)) && (eqSum x19 x20)) && (eqSum x22 x1)) && (eqSum x5 x23)) && (x24 == 0)) && (x25 == 80)) && (x26 == 1)) with hb52 | hb52
      · have d52 : L 52 = true := dep hd rfl
        have e138 := K 52 d52
        have d53 : L 53 = true := dep hd rfl
        have e139 := (K 53 d53).1 hb52
        have d54 : L 54 = true := dep hd rfl
        have e140 := (K 54 d54).1 hb52
        have d55 : L 55 = true := dep hd rfl
        have e141 := (K 55 d55).1 hb52
        obtain ⟨u108, rfl⟩ := fr_of (N := 143) (L := [(136, vb ((((((((x17 && x15) && (eqSum x1 x18)) && (eqSum x19 x20)) && (eqSum x22 x1)) && (eqSum x5 x23)) && (x24 == 0)) && (x25 == 80)) && (x26 == 1))), (137, .agg #[vU x4.1, vU x4.2]), (138, .agg #[vU x5.1, vU x5.2]), (139, v6)]) hO ⟨e138, e139, e140, e141, trivial⟩
        replace S114 : St _ ((bx b5 [vU x5.1, vU x5.2] 27) :: (bx b4 [vU x4.1, vU x4.2] 27) :: (bx b3 [vU x3.1, vU x3.2] 27) :: (bx b2 [vU x2.1, vU x2.2] 27) :: (bx b1 [vU x1.1, vU x1.2] 27) :: (X1 ++ As)) _ := S114
        replace h5 := h5.up L161
        replace h11 := h11.up L161
        replace h14 := h14.up L161
        replace h18 := h18.up L161
        replace T1 := T1.up L161
        have L162 := Mem.rfl' m98
        refine wpl_yes (d := 136) rfl rfl (congrArg Value.bool hb52) ?_
        replace q27 := gu_t hb52 q27
        refine s_call Tryd.call25 (w_merkle_CheckGrow (a0 := 2) (a1 := 3) (a2 := x4) (a3 := x5) (a4 := x8.1) S114 T1 h18 q27) rfl ?_
        rintro _ w108 ⟨m99, l42, S115, rfl⟩
        replace h5 := h5.up l42
        replace h11 := h11.up l42
        replace h14 := h14.up l42
        replace h18 := h18.up l42
        replace C57 := C57.imp id (fun q => q.imp (fun p a b => (p a b).imp (fun r hc => RowS.up l42 (r hc)) id) id)
        replace T1 := T1.up l42
        replace L162 := Mem.tr L162 l42
        clear S114
        replace S115 : St _ ((bx b5 [vU x5.1, vU x5.2] 27) :: (bx b4 [vU x4.1, vU x4.2] 27) :: (bx b3 [vU x3.1, vU x3.2] 27) :: (bx b2 [vU x2.1, vU x2.2] 27) :: (bx b1 [vU x1.1, vU x1.2] 27) :: (X1 ++ As)) _ := S115
        refine wpn ?_
        refine ⟨m99, Mem.tr L161 L162, ⟨X1, C57, ?_⟩, facts_step HM rfl K L162 rfl rfl ⟨fun _ => rfl, fun hx => tf hb52 hx⟩, outP⟩
        exact S115
      have d52 : L 52 = true := dep hd rfl
      have e142 := K 52 d52
      obtain ⟨u109, rfl⟩ := fr_of (N := 143) (L := [(136, vb ((((((((x17 && x15) && (eqSum x1 x18)) && (eqSum x19 x20)) && (eqSum x22 x1)) && (eqSum x5 x23)) && (x24 == 0)) && (x25 == 80)) && (x26 == 1)))]) hO ⟨e142, trivial⟩
      replace S114 : St _ ((bx b5 [vU x5.1, vU x5.2] 27) :: (bx b4 [vU x4.1, vU x4.2] 27) :: (bx b3 [vU x3.1, vU x3.2] 27) :: (bx b2 [vU x2.1, vU x2.2] 27) :: (bx b1 [vU x1.1, vU x1.2] 27) :: (X1 ++ As)) _ := S114
      have L163 := Mem.rfl' m98
      refine wpl_no (d := 136) rfl rfl (congrArg Value.bool hb52) ?_
      refine wpn ?_
      refine ⟨m98, Mem.tr L161 L163, ⟨X1, C57, ?_⟩, facts_step HM rfl K L163 rfl rfl ⟨fun hx => tf hx hb52, fun _ => rfl⟩, outP⟩
      exact S114
    · intro L f63 w109 hL hd hc ⟨m100, L164, ⟨X1, C58, S116⟩, K, hO⟩
      rcases bool_tf ((((((((x17 && x15) && (eqSum x1 x18)) && (eqSum x19 x20)) && (eqSum x22 x1)) && (eqSum x5 x23)) && (x24 == 0)) && (x25 == 80)) && (x26 == 1)) with hb53 | hb53
      · have d52 : L 52 = true := dep hd rfl
        have e143 := K 52 d52
        have d56 : L 56 = true := dep hd rfl
        have e144 := (K 56 d56).1 hb53
        obtain ⟨u110, rfl⟩ := fr_of (N := 143) (L := [(136, vb ((((((((x17 && x15) && (eqSum x1 x18)) && (eqSum x19 x20)) && (eqSum x22 x1)) && (eqSum x5 x23)) && (x24 == 0)) && (x25 == 80)) && (x26 == 1))), (140, vI x27)]) hO ⟨e143, e144, trivial⟩
        replace S116 : St _ ((bx b5 [vU x5.1, vU x5.2] 27) :: (bx b4 [vU x4.1, vU x4.2] 27) :: (bx b3 [vU x3.1, vU x3.2] 27) :: (bx b2 [vU x2.1, vU x2.2] 27) :: (bx b1 [vU x1.1, vU x1.2] 27) :: (X1 ++ As)) _ := S116
        have L165 := Mem.rfl' m100
        refine wpl_yes (d := 136) rfl rfl (congrArg Value.bool hb53) ?_
        refine s_eql (m := x27) (n := 0) rfl rfl ?_
        refine wpn ?_
        refine ⟨m100, Mem.tr L164 L165, ⟨X1, C58, ?_⟩, facts_step HM rfl K L165 rfl rfl ⟨fun _ => rfl, fun hx => tf hb53 hx⟩, outP⟩
        exact S116
      have d52 : L 52 = true := dep hd rfl
      have e145 := K 52 d52
      obtain ⟨u111, rfl⟩ := fr_of (N := 143) (L := [(136, vb ((((((((x17 && x15) && (eqSum x1 x18)) && (eqSum x19 x20)) && (eqSum x22 x1)) && (eqSum x5 x23)) && (x24 == 0)) && (x25 == 80)) && (x26 == 1)))]) hO ⟨e145, trivial⟩
      replace S116 : St _ ((bx b5 [vU x5.1, vU x5.2] 27) :: (bx b4 [vU x4.1, vU x4.2] 27) :: (bx b3 [vU x3.1, vU x3.2] 27) :: (bx b2 [vU x2.1, vU x2.2] 27) :: (bx b1 [vU x1.1, vU x1.2] 27) :: (X1 ++ As)) _ := S116
      have L166 := Mem.rfl' m100
      refine wpl_no (d := 136) rfl rfl (congrArg Value.bool hb53) ?_
      refine wpn ?_
      refine ⟨m100, Mem.tr L164 L166, ⟨X1, C58, ?_⟩, facts_step HM rfl K L166 rfl rfl ⟨fun hx => tf hx hb53, fun _ => rfl⟩, outP⟩
      exact S116
    · intro L f64 w110 hL hd hc ⟨m101, L167, ⟨X1, C59, S117⟩, K, hO⟩
      rcases bool_tf ((((((((x17 && x15) && (eqSum x1 x18)) && (eqSum x19 x20)) && (eqSum x22 x1)) && (eqSum x5 x23)) && (x24 == 0)) && (x25 == 80)) && (x26 == 1)) with hb54 | hb54
      · have d52 : L 52 = true := dep hd rfl
        have e146 := K 52 d52
        have d57 : L 57 = true := dep hd rfl
        have e147 := (K 57 d57).1 hb54
        obtain ⟨u112, rfl⟩ := fr_of (N := 143) (L := [(136, vb ((((((((x17 && x15) && (eqSum x1 x18)) && (eqSum x19 x20)) && (eqSum x22 x1)) && (eqSum x5 x23)) && (x24 == 0)) && (x25 == 80)) && (x26 == 1))), (141, vb (x27 == 0))]) hO ⟨e146, e147, trivial⟩
        replace S117 : St _ ((bx b5 [vU x5.1, vU x5.2] 27) :: (bx b4 [vU x4.1, vU x4.2] 27) :: (bx b3 [vU x3.1, vU x3.2] 27) :: (bx b2 [vU x2.1, vU x2.2] 27) :: (bx b1 [vU x1.1, vU x1.2] 27) :: (X1 ++ As)) _ := S117
        have L168 := Mem.rfl' m101
        refine s_pickT (congrArg Value.bool hb54) rfl ?_
        refine wpn ?_
        refine ⟨m101, Mem.tr L167 L168, ⟨X1, C59, ?_⟩, facts_step HM rfl K L168 rfl rfl (congrArg Value.bool (and_t hb54)), outP⟩
        exact S117
      · have d52 : L 52 = true := dep hd rfl
        have e148 := K 52 d52
        obtain ⟨u113, rfl⟩ := fr_of (N := 143) (L := [(136, vb ((((((((x17 && x15) && (eqSum x1 x18)) && (eqSum x19 x20)) && (eqSum x22 x1)) && (eqSum x5 x23)) && (x24 == 0)) && (x25 == 80)) && (x26 == 1)))]) hO ⟨e148, trivial⟩
        replace S117 : St _ ((bx b5 [vU x5.1, vU x5.2] 27) :: (bx b4 [vU x4.1, vU x4.2] 27) :: (bx b3 [vU x3.1, vU x3.2] 27) :: (bx b2 [vU x2.1, vU x2.2] 27) :: (bx b1 [vU x1.1, vU x1.2] 27) :: (X1 ++ As)) _ := S117
        have L169 := Mem.rfl' m101
        refine s_pickF (congrArg Value.bool hb54) rfl ?_
        refine wpn ?_
        refine ⟨m101, Mem.tr L167 L169, ⟨X1, C59, ?_⟩, facts_step HM rfl K L169 rfl rfl (congrArg Value.bool (and_f hb54)), outP⟩
        exact S117
  intro L f65 w111 hall ⟨m102, L170, ⟨X1, C60, S118⟩, K, hO⟩
  have d58 : L 58 = true := hall 58 (by decide)
  have e149 := K 58 d58
  have d6 : L 6 = true := hall 6 (by decide)
  have d7 : L 7 = true := hall 7 (by decide)
  obtain ⟨u114, rfl⟩ := fr_of (N := 143) (L := [(142, vb (((((((((x17 && x15) && (eqSum x1 x18)) && (eqSum x19 x20)) && (eqSum x22 x1)) && (eqSum x5 x23)) && (x24 == 0)) && (x25 == 80)) && (x26 == 1)) && (x27 == 0)))]) hO ⟨e149, trivial⟩
  replace S118 : St _ ((bx b5 [vU x5.1, vU x5.2] 27) :: (bx b4 [vU x4.1, vU x4.2] 27) :: (bx b3 [vU x3.1, vU x3.2] 27) :: (bx b2 [vU x2.1, vU x2.2] 27) :: (bx b1 [vU x1.1, vU x1.2] 27) :: (X1 ++ As)) _ := S118
  obtain rfl := C60.2.2 d7
  replace S118 : St _ ((bx b5 [vU x5.1, vU x5.2] 27) :: (bx b4 [vU x4.1, vU x4.2] 27) :: (bx b3 [vU x3.1, vU x3.2] 27) :: (bx b2 [vU x2.1, vU x2.2] 27) :: (bx b1 [vU x1.1, vU x1.2] 27) :: As) _ := S118
  replace h5 := h5.up L170
  replace h11 := h11.up L170
  replace h14 := h14.up L170
  replace h18 := h18.up L170
  replace T1 := T1.up L170
  replace L0 := Mem.tr L0 L170
  clear S45
  obtain ⟨x28, q28, hm⟩ := bnd_eq hm
  refine s_asv (v := vb x28) (congrArg (fun z => vb z) q28.symm) ?_
  refine wpl_nil ?_
  refine nrm ?_
  refine wpc_ret ?_
  refine outRw ?_
  intro we hpd
  replace S118 := St.pd S118 hpd
  obtain ⟨m103, l43, S119⟩ := St.drop S118 0
  replace T1 := T1.up l43
  replace L0 := Mem.tr L0 l43
  clear S118
  replace S119 : St _ ((bx b4 [vU x4.1, vU x4.2] 27) :: (bx b3 [vU x3.1, vU x3.2] 27) :: (bx b2 [vU x2.1, vU x2.2] 27) :: (bx b1 [vU x1.1, vU x1.2] 27) :: As) _ := S119
  obtain ⟨m104, l44, S120⟩ := St.drop S119 0
  replace T1 := T1.up l44
  replace L0 := Mem.tr L0 l44
  clear S119
  replace S120 : St _ ((bx b3 [vU x3.1, vU x3.2] 27) :: (bx b2 [vU x2.1, vU x2.2] 27) :: (bx b1 [vU x1.1, vU x1.2] 27) :: As) _ := S120
  obtain ⟨m105, l45, S121⟩ := St.drop S120 0
  replace T1 := T1.up l45
  replace L0 := Mem.tr L0 l45
  clear S120
  replace S121 : St _ ((bx b2 [vU x2.1, vU x2.2] 27) :: (bx b1 [vU x1.1, vU x1.2] 27) :: As) _ := S121
  obtain ⟨m106, l46, S122⟩ := St.drop S121 0
  replace T1 := T1.up l46
  replace L0 := Mem.tr L0 l46
  clear S121
  replace S122 : St _ ((bx b1 [vU x1.1, vU x1.2] 27) :: As) _ := S122
  obtain ⟨m107, l47, S123⟩ := St.drop S122 0
  replace T1 := T1.up l47
  replace L0 := Mem.tr L0 l47
  clear S122
  replace S123 : St _ (As) _ := S123
  have e0 := Option.some.inj hm
  subst e0
  exact outR [_] rfl ⟨rfl, trivial⟩ ⟨_, L0, S123, rfl⟩

end Go.Proofs.YtohipjalgccmnaaDoor
