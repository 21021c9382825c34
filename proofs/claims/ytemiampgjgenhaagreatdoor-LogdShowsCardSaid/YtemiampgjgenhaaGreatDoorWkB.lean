/- The walks of some functions, written by program. Conditions: none. -/
import Derived.Test.YtemiampgjgenhaaGreatDoorWkA
set_option maxHeartbeats 20000000
set_option maxRecDepth 100000
set_option linter.unusedVariables false
set_option linter.unusedSimpArgs false
namespace Go.Proofs.YtemiampgjgenhaaGreatDoor
open Go Go.Gw Tryz

def m_slices_Grow_byte_byte_nil (a1 : Int) : Option (List UInt8) :=
  obind (
    if (decide (a1 < 0)) = true then
      none
    else
    some ()
  ) fun x1 =>
  obind (
    bnd ((w64 (a1 - (w64 (0 - ((0 : Nat) : Int)))))) fun x3 =>
    if (decide (x3 > 0)) = true then
      if 0 ≤ x3 ∧ x3 * 1 ≤ 140737488355328 ∧ x3 ≤ 140737488355328 then
        some ([] : List UInt8)
      else none
    else
    some ([] : List UInt8)
  ) fun x2 =>
  some x2

theorem w_slices_Grow_byte_byte_nil {m : Mem} {As : List Ow} {w : World} {a1 : Int} {r : List UInt8} (S : St m (As) w) (hm : m_slices_Grow_byte_byte_nil a1 = some r) :
    CallsR Tryz.prog 67 #[.slice none 0 0, vI a1] w fun v w' => ∃ (M : Mem), m ≤ M ∧ ∃ (rv0 : Value) (rc0 : List Value), St M ((row 1 rv0 rc0 r.length) :: As) w' ∧ v = rv0 ∧ RepL M rc0 r := by
 unfold m_slices_Grow_byte_byte_nil at hm
 have L0 := Mem.rfl' m
 refine callsR (args := [.slice none 0 0, vI a1]) func67 rfl ntmps67 (nb rfl) <| ws <| s_asv (v := .slice none 0 0) rfl <| wpl_nil <| nrm ?_
 obtain ⟨x1, q1, hm⟩ := obind_some hm
 have L1 := Mem.rfl' m
 refine wpc_seq <| wpc_join [5, 6, 7] (fun f' w' => ∃ (M1 : Mem), m ≤ M1 ∧ St M1 (As) w' ∧ AllAt f' []) ?_ ?_
 · refine ws <| s_mvv (v := vI a1) rfl <| s_lss (m := a1) (n := 0) rfl rfl <| wpl_nil <| nrm <| wpc_if (t := (decide (a1 < 0))) rfl (fun hc1 => ?_) (fun hc1 => ?_)
   · replace q1 := ifT hc1 q1
     cases q1
   replace q1 := ifF hc1 q1
   refine wpc_skip <| nrm ?_
   have e0 := Option.some.inj q1
   subst e0
   exact ⟨outP, m, L1, S, trivial⟩
 rintro f1 w1 ho ⟨m1, l1, S1, ha⟩
 obtain ⟨u1, rfl⟩ := fr_of (N := 27) ho ha
 clear S
 obtain ⟨x2, q2, hm⟩ := obind_some hm
 have L2 := Mem.rfl' m1
 refine wpc_seq <| wpc_join [0, 1, 8, 9, 10, 11, 12, 13, 14, 15, 16, 17, 18, 19, 20, 21, 22, 23, 24, 25] (fun f' w' => ∃ (M2 : Mem) (v1 : Value) (c1 : List Value), m1 ≤ M2 ∧ St M2 ((row 1 v1 c1 x2.length) :: As) w' ∧ RepL M2 c1 x2 ∧ AllAt f' [(0, v1)]) ?_ ?_
 · refine ws <| s_mvv (v := vI a1) rfl <| s_mvv (v := .slice none 0 0) rfl <| s_capNil rfl underlying57 <| s_mvv (v := .slice none 0 0) rfl <| s_len (n := 0) rfl underlying57 <| s_subI (m := 0) (n := ((0 : Nat) : Int)) rfl rfl <| s_subI (m := a1) (n := (w64 (0 - ((0 : Nat) : Int)))) rfl rfl ?_
   obtain ⟨x3, q3, q2⟩ := bnd_eq q2
   refine s_asv (v := vI x3) (congrArg (fun z => vI z) q3.symm) <| nx <| s_mvv (v := vI x3) rfl <| s_gtr (m := x3) (n := 0) rfl rfl <| wpl_nil <| nrm <| wpc_if (t := (decide (x3 > 0))) rfl (fun hc2 => ?_) (fun hc2 => ?_)
   · replace q2 := ifT hc2 q2
     refine wpc_region <| s_mvv (v := .slice none 0 0) rfl <| s_mvv (v := .slice none 0 0) rfl <| s_capNil rfl underlying57 <| s_cutN rfl underlying57 sizeOf5 rfl <| s_mvv (v := vI x3) rfl ?_
     obtain ⟨q4, q2⟩ := if_some q2
     refine s_appN (bytes := 1) (sz := 1) (k := x3) (ti := Tryz.t5) S1 rfl rfl q4 underlying57 underlying3 type5 rfl rfl rfl rfl fun v2 c2 w2 S2 => ?_
     replace S2 : St _ ((row 1 v2 c2 x3.toNat) :: As) _ := S2
     clear S1
     refine s_mvv (v := .slice none 0 0) rfl <| s_len (n := 0) rfl underlying57 <| s_cutO (i := 0) S2 rfl rfl underlying57 sizeOf5 rfl (j := 0) rfl (Int.le_refl 0) (Int.natCast_nonneg _) fun v3 S3 => ?_
     rw [show c2.take ((0 : Int).toNat * 1) = [] from by simp] at S3
     have h2 : RepL m1 [] ([] : List UInt8) := RepL.nil
     replace S3 : St _ ((row 1 v3 [] ([] : List UInt8).length) :: As) _ := S3
     clear S2
     refine s_asv (v := v3) rfl <| wpl_nil <| nrm ?_
     have e0 := Option.some.inj q2
     subst e0
     exact ⟨outP, m1, _, _, L2, S3, h2, ⟨rfl, trivial⟩⟩
   replace q2 := ifF hc2 q2
   refine wpc_skip <| nrm ?_
   have S4 := St.rowNil S1 1
   have h3 : RepL m1 [] ([] : List UInt8) := RepL.nil
   replace S4 : St _ ((row 1 (.slice none 0 0) [] ([] : List UInt8).length) :: As) _ := S4
   clear S1
   have e0 := Option.some.inj q2
   subst e0
   exact ⟨outP, m1, _, _, L2, S4, h3, ⟨rfl, trivial⟩⟩
 rintro f2 w3 ho ⟨m2, v1, c1, l2, S5, h1, ha⟩
 obtain ⟨u2, rfl⟩ := fr_of (N := 27) ho ha
 clear S1
 refine ws <| s_mvv (v := v1) rfl <| s_asv (v := v1) rfl <| wpl_nil <| nrm <| wpc_ret <| outRw fun we hpd => ?_
 replace S5 := St.pd S5 hpd
 have e0 := Option.some.inj hm
 subst e0
 replace L0 := Mem.tr L0 (mt l1 l2)
 exact outR [_] rfl ⟨rfl, trivial⟩ ⟨_, L0, _, _, S5, rfl, h1⟩

def m_slices_Concat_byte_byte_b1  (i1 : Int) (x3 : List UInt8) (s1 : Int) : Option (Int) :=
  obind (
    bnd ((w64 (s1 + (x3.length : Int)))) fun x5 =>
    if (decide (x5 < 0)) = true then
      none
    else
    some x5
  ) fun x4 =>
  some x4

def m_slices_Concat_byte_byte_b2  (i2 : Int) (x9 : List UInt8) (s2 : (List UInt8)) : Option ((List UInt8)) :=
  obind (app 1 s2 x9) fun x10 =>
  some x10

def m_slices_Concat_byte_byte (a0 : List (List UInt8)) : Option (List UInt8) :=
  obind (
    obind (each0 m_slices_Concat_byte_byte_b1 a0 0 0) fun x2 =>
    some x2
  ) fun x1 =>
  obind (m_slices_Grow_byte_byte_nil x1) fun x6 =>
  obind (
    obind (each0 m_slices_Concat_byte_byte_b2 a0 0 x6) fun x8 =>
    some x8
  ) fun x7 =>
  some x7

theorem w_slices_Concat_byte_byte {m : Mem} {As : List Ow} {w : World} {a0 : List (List UInt8)} {a0v0 : Value} {r : List UInt8} (S : St m (As) w) (a0h0 : SlR m a0v0 a0) (hm : m_slices_Concat_byte_byte a0 = some r) :
    CallsR Tryz.prog 30 #[a0v0] w fun v w' => ∃ (M : Mem), m ≤ M ∧ ∃ (rv0 : Value) (rc0 : List Value), St M ((row 1 rv0 rc0 r.length) :: As) w' ∧ v = rv0 ∧ RepL M rc0 r := by
 unfold m_slices_Concat_byte_byte at hm
 have L0 := Mem.rfl' m
 refine callsR (args := [a0v0]) func30 rfl ntmps30 (nb rfl) <| ws <| s_asv (v := .slice none 0 0) rfl <| nx <| s_asv (v := vI 0) rfl <| wpl_nil <| nrm ?_
 obtain ⟨x1, q1, hm⟩ := obind_some hm
 have L1 := Mem.rfl' m
 refine wpc_seq <| wpc_join [3, 5, 9, 10, 11, 12, 13, 14, 15, 16, 17, 18, 19, 20, 21, 22] (fun f' w' => ∃ (M1 : Mem), m ≤ M1 ∧ St M1 (As) w' ∧ AllAt f' [(3, vI x1)]) ?_ ?_
 · refine ws <| s_mvv (v := a0v0) rfl <| s_lenR (xs := a0) rfl a0h0 underlying119 <| s_mvv (v := vI 0) rfl <| wpl_nil <| nrm ?_
   obtain ⟨x2, q2, q1⟩ := obind_some q1
   have L2 := Mem.rfl' m
   refine wpc_join [3, 5, 11, 12, 13, 14, 15, 16, 17, 18, 19, 20, 21, 22] (fun f' w' => ∃ (M2 : Mem), m ≤ M2 ∧ St M2 (As) w' ∧ AllAt f' [(3, vI x2)]) ?_ ?_
   · refine wpc_block <| wpc_rounds [3, 5, 11, 12, 13, 14, 15, 16, 17, 18, 19, 20, 21, 22] (fun n1 f' w' => ∃ (i1 : Nat) (s1 : Int) (m3 : Mem), n1 = a0.length - i1 ∧ i1 ≤ a0.length ∧ each0 m_slices_Concat_byte_byte_b1 (a0.drop i1) (i1 : Int) s1 = some x2 ∧ m ≤ m3 ∧ St m3 (As) w' ∧ AllAt f' [(11, vI (i1 : Int)), (3, vI s1)]) a0.length ⟨0, 0, m, rfl, Nat.zero_le _, q2, L2, S, ⟨rfl, rfl, trivial⟩⟩ ?_
     rintro n1 f1 w1 ho ⟨i1, s1, m1, hn, hi, q3, L4, S1, ha⟩
     obtain ⟨u1, rfl⟩ := fr_of (N := 36) ho ha
     clear ho ha
     have L3 := Mem.rfl' m1
     clear S
     refine ws <| s_lss (m := (i1 : Int)) (n := (a0.length : Int)) rfl rfl <| wpl_nil <| nrm <| wpc_seq <| wpc_if (t := decide ((i1 : Int) < (a0.length : Int))) rfl (fun hc2 => ?_) (fun hc2 => ?_)
     · have hlt1 : i1 < a0.length := by have := of_decide_eq_true hc2; omega
       obtain ⟨x3, y1, q6, q5, q4⟩ := each0_in q3 hlt1
       unfold m_slices_Concat_byte_byte_b1 at q5
       refine wpc_skip <| nrm ?_
       obtain ⟨x4, q7, q5⟩ := obind_some q5
       have L5 := Mem.rfl' m1
       refine wpc_seq <| wpc_join [3, 5, 13, 14, 15, 16, 17, 18, 19, 20, 21] (fun f' w' => ∃ (M3 : Mem), m1 ≤ M3 ∧ St M3 (As) w' ∧ AllAt f' [(3, vI x4)]) ?_ ?_
       · refine wpc_block <| ws <| s_idx (q := x3) rfl rfl (a0h0.up L4) q6 underlying119 sizeOf57 fun p1 c1 h1 r1 => ?_
         obtain ⟨v1, rfl, h2⟩ := r1
         refine s_ldM (cs := [v1]) S1 rfl h1 rfl isAgg57 sizeOf57 (fun _ => rfl) <| s_asv (v := v1) rfl <| nx <| s_mvv (v := vI s1) rfl <| s_mvv (v := v1) rfl <| s_lenR (xs := x3) rfl h2 underlying57 <| s_addI (m := s1) (n := (x3.length : Int)) rfl rfl ?_
         obtain ⟨x5, q8, q7⟩ := bnd_eq q7
         refine s_asv (v := vI x5) (congrArg (fun z => vI z) q8.symm) <| nx <| s_mvv (v := vI x5) rfl <| s_lss (m := x5) (n := 0) rfl rfl <| wpl_nil <| nrm <| wpc_if (t := (decide (x5 < 0))) rfl (fun hc1 => ?_) (fun hc1 => ?_)
         · replace q7 := ifT hc1 q7
           cases q7
         replace q7 := ifF hc1 q7
         refine wpc_skip <| nrmB <| nrm ?_
         have e0 := Option.some.inj q7
         subst e0
         exact ⟨outP, m1, L5, S1, ⟨rfl, trivial⟩⟩
       rintro f2 w2 ho ⟨m2, l1, S2, ha⟩
       obtain ⟨u2, rfl⟩ := fr_of (N := 36) ho ha
       clear S1
       refine wpc_region <| s_addI (m := (i1 : Int)) (n := 1) rfl rfl <| s_mvv (v := vI (w64 ((i1 : Int) + 1))) rfl <| wpl_nil <| nrm ?_
       have e0 := Option.some.inj q5
       subst e0
       replace a0h0 := a0h0.up (mt L4 l1)
       replace L3 := Mem.tr L3 l1
       exact ⟨outP, _, (by omega), ⟨i1 + 1, x4, m2, rfl, hlt1, q4, Mem.tr L4 L3, S2, ⟨congrArg (Value.int .i64) (w64_succ hlt1 (SlR.le a0h0)), rfl, trivial⟩⟩⟩
     have hlt1 : ¬ i1 < a0.length := by have := of_decide_eq_false hc2; omega
     have e := Eq.symm (each0_out q3 hlt1)
     subst e
     exact wpc_exit <| thE <| thE <| exB <| nrm <| ⟨outP, m1, Mem.tr L4 L3, S1, ⟨rfl, trivial⟩⟩
   rintro f3 w3 ho ⟨m4, l2, S3, ha⟩
   obtain ⟨u3, rfl⟩ := fr_of (N := 36) ho ha
   clear ho ha S
   have e0 := Option.some.inj q1
   subst e0
   replace L1 := Mem.tr L1 l2
   exact ⟨outP, m4, L1, S3, ⟨rfl, trivial⟩⟩
 rintro f4 w4 ho ⟨m5, l3, S4, ha⟩
 obtain ⟨u4, rfl⟩ := fr_of (N := 36) ho ha
 clear S
 refine ws <| s_mvv (v := vI x1) rfl ?_
 obtain ⟨x6, q9, hm⟩ := obind_some hm
 refine s_call call67 (w_slices_Grow_byte_byte_nil (a1 := x1) S4  q9) rfl ?_
 rintro v2 w5 ⟨m6, l4, _, c2, S5, rfl, h3⟩
 clear S4
 refine s_asv (v := v2) rfl <| wpl_nil <| nrm ?_
 obtain ⟨x7, q10, hm⟩ := obind_some hm
 have L6 := Mem.rfl' m6
 refine wpc_seq <| wpc_join [6, 8, 25, 26, 27, 28, 29, 30, 31, 32, 33, 34] (fun f' w' => ∃ (M4 : Mem) (v3 : Value) (c3 : List Value), m6 ≤ M4 ∧ St M4 ((row 1 v3 c3 x7.length) :: As) w' ∧ RepL M4 c3 x7 ∧ AllAt f' [(6, v3)]) ?_ ?_
 · refine ws <| s_mvv (v := a0v0) rfl ?_
   replace a0h0 := a0h0.up (mt l3 l4)
   refine s_lenR (xs := a0) rfl a0h0 underlying119 <| s_mvv (v := vI 0) rfl <| wpl_nil <| nrm ?_
   obtain ⟨x8, q11, q10⟩ := obind_some q10
   have L7 := Mem.rfl' m6
   refine wpc_join [6, 8, 27, 28, 29, 30, 31, 32, 33, 34] (fun f' w' => ∃ (M5 : Mem) (v5 : Value) (c5 : List Value), m6 ≤ M5 ∧ St M5 ((row 1 v5 c5 x8.length) :: As) w' ∧ RepL M5 c5 x8 ∧ AllAt f' [(6, v5)]) ?_ ?_
   · refine wpc_block <| wpc_rounds [6, 8, 27, 28, 29, 30, 31, 32, 33, 34] (fun n2 f' w' => ∃ (i2 : Nat) (s2 : (List UInt8)) (m8 : Mem) (v4 : Value) (c4 : List Value), n2 = a0.length - i2 ∧ i2 ≤ a0.length ∧ each0 m_slices_Concat_byte_byte_b2 (a0.drop i2) (i2 : Int) s2 = some x8 ∧ m6 ≤ m8 ∧ St m8 ((row 1 v4 c4 s2.length) :: As) w' ∧ RepL m8 c4 s2 ∧ AllAt f' [(27, vI (i2 : Int)), (6, v4)]) a0.length ⟨0, x6, m6, _, _, rfl, Nat.zero_le _, q11, L7, S5, h3, ⟨rfl, rfl, trivial⟩⟩ ?_
     rintro n2 f5 w6 ho ⟨i2, s2, m7, v4, c4, hn, hi, q12, L9, S6, h5, ha⟩
     obtain ⟨u5, rfl⟩ := fr_of (N := 36) ho ha
     clear ho ha
     have L8 := Mem.rfl' m7
     clear S5
     refine ws <| s_lss (m := (i2 : Int)) (n := (a0.length : Int)) rfl rfl <| wpl_nil <| nrm <| wpc_seq <| wpc_if (t := decide ((i2 : Int) < (a0.length : Int))) rfl (fun hc3 => ?_) (fun hc3 => ?_)
     · have hlt2 : i2 < a0.length := by have := of_decide_eq_true hc3; omega
       obtain ⟨x9, y2, q15, q14, q13⟩ := each0_in q12 hlt2
       unfold m_slices_Concat_byte_byte_b2 at q14
       refine wpc_skip <| nrm <| wpc_seq <| wpc_block <| ws <| s_idx (q := x9) rfl rfl (a0h0.up L9) q15 underlying119 sizeOf57 fun p2 c6 h7 r6 => ?_
       obtain ⟨v6, rfl, h8⟩ := r6
       refine s_ldM (cs := [v6]) S6 rfl h7 rfl isAgg57 sizeOf57 (fun _ => rfl) <| s_asv (v := v6) rfl <| wpl_nil <| nrm <| wpc_region <| s_mvv (v := v4) rfl <| s_mvv (v := v6) rfl ?_
       obtain ⟨x10, q16, q14⟩ := obind_some q14
       refine s_app (i := 0) (zs := x10) (bytes := 1) (ti := Tryz.t5) S6 rfl rfl h5 rfl rfl h8 q16 underlying57 type5 rfl rfl rfl rfl fun v7 c7 w7 S7 h9 => ?_
       replace S7 : St _ ((row 1 v7 c7 x10.length) :: As) _ := S7
       clear S6
       refine s_asv (v := v7) rfl <| wpl_nil <| nrmB <| nrm <| wpc_region <| s_addI (m := (i2 : Int)) (n := 1) rfl rfl <| s_mvv (v := vI (w64 ((i2 : Int) + 1))) rfl <| wpl_nil <| nrm ?_
       have e0 := Option.some.inj q14
       subst e0
       exact ⟨outP, _, (by omega), ⟨i2 + 1, x10, m7, _, _, rfl, hlt2, q13, Mem.tr L9 L8, S7, h9, ⟨congrArg (Value.int .i64) (w64_succ hlt2 (SlR.le (a0h0.up L9))), rfl, trivial⟩⟩⟩
     have hlt2 : ¬ i2 < a0.length := by have := of_decide_eq_false hc3; omega
     have e := Eq.symm (each0_out q12 hlt2)
     subst e
     exact wpc_exit <| thE <| thE <| exB <| nrm <| ⟨outP, m7, _, _, Mem.tr L9 L8, S6, h5, ⟨rfl, trivial⟩⟩
   rintro f6 w8 ho ⟨m9, v5, c5, l5, S8, h6, ha⟩
   obtain ⟨u6, rfl⟩ := fr_of (N := 36) ho ha
   clear ho ha S5
   have e0 := Option.some.inj q10
   subst e0
   replace L6 := Mem.tr L6 l5
   exact ⟨outP, m9, _, _, L6, S8, h6, ⟨rfl, trivial⟩⟩
 rintro f7 w9 ho ⟨m10, v3, c3, l6, S9, h4, ha⟩
 obtain ⟨u7, rfl⟩ := fr_of (N := 36) ho ha
 clear S5
 refine ws <| s_mvv (v := v3) rfl <| s_asv (v := v3) rfl <| wpl_nil <| nrm <| wpc_ret <| outRw fun we hpd => ?_
 replace S9 := St.pd S9 hpd
 have e0 := Option.some.inj hm
 subst e0
 replace L0 := Mem.tr L0 (mt l3 (mt l4 l6))
 exact outR [_] rfl ⟨rfl, trivial⟩ ⟨_, L0, _, _, S9, rfl, h4⟩

def m_logd_Leaves_b2 (a0 : g_api_Log) (a1 : Int) (i1 : Int) (s1 : (List Int) × (List (UInt64 × UInt64))) : Option ((List Int) × (List (UInt64 × UInt64))) :=
  obind (idx a0.L (i1 : Int)) fun x5 =>
  obind (
    obind (
      if (decide ((s1.1.length : Int) > 0)) = true then
        obind (idx s1.1 0) fun x9 =>
        some (x9 == (i1 : Int))
      else
      some false
    ) fun x8 =>
    if x8 = true then
      obind (cut s1.1 1 (s1.1.length : Int)) fun x10 =>
      if (a1 == 1) = true then
        obind (m_slices_Concat_byte_byte ([([0] : List UInt8), x5.Body] : List (List UInt8))) fun x11 =>
        some (x10, x11)
      else
      some (x10, x5.Body)
    else
    some (s1.1, x5.Body)
  ) fun x6 =>
  obind (m_merkle_Leaf x6.2) fun x12 =>
  obind (app 16 s1.2 ([x12] : List (UInt64 × UInt64))) fun x13 =>
  some (x6.1, x13)

def m_logd_Leaves (a0 : g_api_Log) (a1 : Int) : Option ((List (UInt64 × UInt64)) × Int) :=
  obind (m_logd_Check a0) fun x1 =>
  if (x1 != 0) = true then
    some (([] : List (UInt64 × UInt64)), x1)
  else
  if ((a1 != 0) && (a1 != 1)) = true then
    some (([] : List (UInt64 × UInt64)), 240)
  else
  obind (
    obind (eachN0 (m_logd_Leaves_b2 a0 a1) a0.L.length 0 (a0.Hide, ([] : List (UInt64 × UInt64)))) fun x3 =>
    some x3.2
  ) fun x2 =>
  some (x2, 0)

theorem w_logd_Leaves {m : Mem} {As : List Ow} {w : World} {a0 : g_api_Log} {a0v3 : Value} {a0v4 : Value} {a0v5 : Value} {a1 : Int} {r : (List (UInt64 × UInt64)) × Int} (S : St m (As) w) (a0h3 : SlR m a0v3 a0.L) (a0h4 : SlR m a0v4 a0.Hide) (a0h5 : SlR m a0v5 a0.Wait) (hm : m_logd_Leaves a0 a1 = some r) :
    CallsR Tryz.prog 9 #[.agg (c_api_Log a0 a0v3 a0v4 a0v5).toArray, vI a1] w fun v w' => ∃ (M : Mem), m ≤ M ∧ ∃ (rv0 : Value) (rc0 : List Value), St M ((row 2 rv0 rc0 r.1.length) :: As) w' ∧ v = .tuple #[rv0, vI r.2] ∧ RepL M rc0 r.1 := by
 unfold m_logd_Leaves at hm
 have L0 := Mem.rfl' m
 refine callsR (args := [.agg (c_api_Log a0 a0v3 a0v4 a0v5).toArray, vI a1]) func9 rfl ntmps9 (nb rfl) <| ws <| s_box S rfl fun b1 w1 S1 => ?_
 replace S1 : St _ ((bx b1 (c_api_Log a0 a0v3 a0v4 a0v5) 26) :: As) _ := S1
 clear S
 refine s_asv (v := .slice none 0 0) rfl <| s_asv (v := vI 0) rfl <| wpl_nil <| nrm <| wpc_seq <| ws <| s_ld (i := 0) (cs := (c_api_Log a0 a0v3 a0v4 a0v5)) S1 rfl rfl isAgg26 sizeOf26 rfl (fun h => by cases h) ?_
 obtain ⟨x1, q1, hm⟩ := obind_some hm
 refine s_call call6 (w_logd_Check (a0 := a0) S1 a0h3 a0h4 a0h5 q1) rfl ?_
 rintro _ w2 ⟨m1, l1, S2, rfl⟩
 clear S1
 refine s_asv (v := vI x1) rfl <| nx <| s_mvv (v := vI x1) rfl <| s_neq (m := x1) (n := 0) rfl rfl <| wpl_nil <| nrm <| wpc_if (t := (x1 != 0)) rfl (fun hc1 => ?_) (fun hc1 => ?_)
 · replace hm := ifT hc1 hm
   refine ws <| s_mvv (v := vI x1) rfl <| s_asv (v := .slice none 0 0) rfl <| s_asv (v := vI x1) rfl <| wpl_nil <| nrm <| wpc_ret <| thR <| outRw fun we hpd => ?_
   replace S2 := St.pd S2 hpd
   have S3 := St.rowNil S2 2
   have h1 : RepL m1 [] ([] : List (UInt64 × UInt64)) := RepL.nil
   replace S3 : St _ ((row 2 (.slice none 0 0) [] ([] : List (UInt64 × UInt64)).length) :: (bx b1 (c_api_Log a0 a0v3 a0v4 a0v5) 26) :: As) _ := S3
   clear S2
   obtain ⟨m2, l2, S4⟩ := St.drop S3 1
   clear S3
   replace S4 : St _ ((row 2 (.slice none 0 0) [] ([] : List (UInt64 × UInt64)).length) :: As) _ := S4
   have e0 := Option.some.inj hm
   subst e0
   replace L0 := Mem.tr L0 (mt l1 l2)
   replace h1 := RepL.up l2 h1
   exact outR [_, _] rfl ⟨rfl, rfl, trivial⟩ ⟨_, L0, _, _, S4, rfl, h1⟩
 replace hm := ifF hc1 hm
 refine wpc_skip <| nrm <| wpc_seq <| ws <| s_mvv (v := vI a1) rfl <| s_neq (m := a1) (n := 0) rfl rfl <| s_mvv (v := vb (a1 != 0)) rfl <| wpl_cut 3 [20, 21, 22] (fun f' w' => w' = w2 ∧ AllAt f' [(22, vb ((a1 != 0) && (a1 != 1)))]) ?_ ?_
 · rcases bool_tf (a1 != 0) with hb1 | hb1
   · exact wpl_yes (d := 19) rfl rfl (cb hb1) <| s_mvv (v := vI a1) rfl <| wpl_yes (d := 19) rfl rfl (cb hb1) <| s_neq (m := a1) (n := 1) rfl rfl <| s_pickT (cb hb1) rfl <| wpl_nil (nrm ⟨outP, rfl, congrArg Value.bool (and_t hb1), trivial⟩)
   · exact wpl_no (d := 19) rfl rfl (cb hb1) <| wpl_no (d := 19) rfl rfl (cb hb1) <| s_pickF (cb hb1) rfl <| wpl_nil (nrm ⟨outP, rfl, congrArg Value.bool (and_f hb1), trivial⟩)
 rintro f1 w3 ho ⟨h2, ha⟩
 subst h2
 obtain ⟨u1, rfl⟩ := fr_of (N := 60) ho ha
 refine wpl_nil <| nrm <| wpc_if (t := ((a1 != 0) && (a1 != 1))) rfl (fun hc2 => ?_) (fun hc2 => ?_)
 · replace hm := ifT hc2 hm
   refine ws <| s_asv (v := .slice none 0 0) rfl <| s_asv (v := vI 240) rfl <| wpl_nil <| nrm <| wpc_ret <| thR <| outRw fun we hpd => ?_
   replace S2 := St.pd S2 hpd
   have S5 := St.rowNil S2 2
   have h3 : RepL m1 [] ([] : List (UInt64 × UInt64)) := RepL.nil
   replace S5 : St _ ((row 2 (.slice none 0 0) [] ([] : List (UInt64 × UInt64)).length) :: (bx b1 (c_api_Log a0 a0v3 a0v4 a0v5) 26) :: As) _ := S5
   clear S2
   obtain ⟨m3, l3, S6⟩ := St.drop S5 1
   clear S5
   replace S6 : St _ ((row 2 (.slice none 0 0) [] ([] : List (UInt64 × UInt64)).length) :: As) _ := S6
   have e0 := Option.some.inj hm
   subst e0
   replace L0 := Mem.tr L0 (mt l1 l3)
   replace h3 := RepL.up l3 h3
   exact outR [_, _] rfl ⟨rfl, rfl, trivial⟩ ⟨_, L0, _, _, S6, rfl, h3⟩
 replace hm := ifF hc2 hm
 refine wpc_skip <| nrm <| ws <| s_fld (n := 0) rfl underlying26 rfl rfl sizeOf24 <| s_ld (i := 0) (cs := [a0v4]) S2 rfl rfl isAgg24 sizeOf24 rfl (fun _ => rfl) <| s_asv (v := a0v4) rfl <| nx <| s_asv (v := .slice none 0 0) rfl <| wpl_nil <| nrm ?_
 obtain ⟨x2, q2, hm⟩ := obind_some hm
 have L1 := Mem.rfl' m1
 refine wpc_seq <| wpc_join [7, 8, 9, 10, 11, 25, 26, 27, 28, 29, 30, 31, 32, 33, 34, 35, 36, 37, 38, 39, 40, 41, 42, 43, 44, 45, 46, 47, 48, 49, 50, 51, 52, 53, 54, 55, 56, 57, 58] (fun f' w' => ∃ (M1 : Mem) (v1 : Value) (c1 : List Value), m1 ≤ M1 ∧ St M1 ((row 2 v1 c1 x2.length) :: (bx b1 (c_api_Log a0 a0v3 a0v4 a0v5) 26) :: As) w' ∧ RepL M1 c1 x2 ∧ AllAt f' [(8, v1)]) ?_ ?_
 · refine ws <| s_fld (n := 0) rfl underlying26 rfl rfl sizeOf23 <| s_ld (i := 0) (cs := [a0v3]) S2 rfl rfl isAgg23 sizeOf23 rfl (fun _ => rfl) <| s_lenR (xs := a0.L) rfl (a0h3.up l1) underlying23 <| s_mvv (v := vI 0) rfl <| wpl_nil <| nrm ?_
   obtain ⟨x3, q3, q2⟩ := obind_some q2
   have L2 := Mem.rfl' m1
   have S7 := St.rowNil S2 2
   have h7 : RepL m1 [] ([] : List (UInt64 × UInt64)) := RepL.nil
   replace S7 : St _ ((row 2 (.slice none 0 0) [] ([] : List (UInt64 × UInt64)).length) :: (bx b1 (c_api_Log a0 a0v3 a0v4 a0v5) 26) :: As) _ := S7
   clear S2
   refine wpc_join [7, 8, 9, 10, 11, 28, 29, 30, 31, 32, 33, 34, 35, 36, 37, 38, 39, 40, 41, 42, 43, 44, 45, 46, 47, 48, 49, 50, 51, 52, 53, 54, 55, 56, 57, 58] (fun f' w' => ∃ (M2 : Mem) (v4 : Value) (v5 : Value) (c3 : List Value), m1 ≤ M2 ∧ St M2 ((row 2 v5 c3 x3.2.length) :: (bx b1 (c_api_Log a0 a0v3 a0v4 a0v5) 26) :: As) w' ∧ SlR M2 v4 x3.1 ∧ RepL M2 c3 x3.2 ∧ AllAt f' [(7, v4), (8, v5)]) ?_ ?_
   · refine wpc_block <| wpc_rounds [7, 8, 9, 10, 11, 28, 29, 30, 31, 32, 33, 34, 35, 36, 37, 38, 39, 40, 41, 42, 43, 44, 45, 46, 47, 48, 49, 50, 51, 52, 53, 54, 55, 56, 57, 58] (fun n1 f' w' => ∃ (i1 : Nat) (s1 : (List Int) × (List (UInt64 × UInt64))) (m14 : Mem) (v2 : Value) (v3 : Value) (c2 : List Value), n1 = a0.L.length - i1 ∧ i1 ≤ a0.L.length ∧ eachN0 (m_logd_Leaves_b2 a0 a1) (a0.L.length - i1) (i1 : Int) s1 = some x3 ∧ m1 ≤ m14 ∧ St m14 ((row 2 v3 c2 s1.2.length) :: (bx b1 (c_api_Log a0 a0v3 a0v4 a0v5) 26) :: As) w' ∧ SlR m14 v2 s1.1 ∧ RepL m14 c2 s1.2 ∧ AllAt f' [(28, vI (i1 : Int)), (7, v2), (8, v3)]) a0.L.length ⟨0, (a0.Hide, ([] : List (UInt64 × UInt64))), m1, _, _, _, rfl, Nat.zero_le _, q3, L2, S7, (a0h4.up l1), h7, ⟨rfl, rfl, rfl, trivial⟩⟩ ?_
     rintro n1 f2 w4 ho ⟨i1, s1, m4, v2, v3, c2, hn, hi, q4, L4, S8, h5, h6, ha⟩
     obtain ⟨u2, rfl⟩ := fr_of (N := 60) ho ha
     clear ho ha
     have L3 := Mem.rfl' m4
     clear S7
     refine ws <| s_lss (m := (i1 : Int)) (n := (a0.L.length : Int)) rfl rfl <| wpl_nil <| nrm <| wpc_seq <| wpc_if (t := decide ((i1 : Int) < (a0.L.length : Int))) rfl (fun hc5 => ?_) (fun hc5 => ?_)
     · have hlt1 : i1 < a0.L.length := by have := of_decide_eq_true hc5; omega
       obtain ⟨y1, q6, q5⟩ := eachN0_in q4 hlt1
       unfold m_logd_Leaves_b2 at q6
       refine wpc_skip <| nrm <| wpc_seq <| wpc_block <| ws <| s_mvv (v := vI (i1 : Int)) rfl ?_
       obtain ⟨x5, q8, q6⟩ := obind_some q6
       replace a0h3 := a0h3.up (mt l1 L4)
       refine s_idx (q := x5) rfl rfl a0h3 q8 underlying23 sizeOf70 fun p1 c4 h10 r7 => ?_
       obtain ⟨v6, rfl, h11⟩ := rep_g_api_Leaf r7
       refine s_ldM (cs := (c_api_Leaf x5 v6)) S8 rfl h10 rfl isAgg70 sizeOf70 (fun h => by cases h) <| s_alloc S8 zeroValue70 fun b3 w5 S9 => s_asv (v := vI (i1 : Int)) rfl <| s_stL (i := 0) S9 rfl rfl rfl sizeOf70 (oneC (SlR.one h11) (oneC rfl oneN)) rfl fun w6 S10 => ?_
       replace S10 : St _ ((bx b3 (c_api_Leaf x5 v6) 70) :: (row 2 v3 c2 s1.2.length) :: (bx b1 (c_api_Log a0 a0v3 a0v4 a0v5) 26) :: As) _ := S10
       clear S8 S9
       refine nx <| s_fld (n := 0) rfl underlying70 rfl rfl sizeOf57 <| s_ld (i := 0) (cs := [v6]) S10 rfl rfl isAgg57 sizeOf57 rfl (fun _ => rfl) <| s_asv (v := v6) rfl <| wpl_nil <| nrm ?_
       obtain ⟨x6, q9, q6⟩ := obind_some q6
       have L5 := Mem.rfl' m4
       refine wpc_seq <| wpc_join [7, 11, 35, 36, 37, 38, 39, 40, 41, 42, 43, 44, 45, 46, 47, 48, 49, 50, 51, 52] (fun f' w' => ∃ (M3 : Mem) (v7 : Value) (v8 : Value), m4 ≤ M3 ∧ St M3 ((bx b3 (c_api_Leaf x5 v6) 70) :: (row 2 v3 c2 s1.2.length) :: (bx b1 (c_api_Log a0 a0v3 a0v4 a0v5) 26) :: As) w' ∧ SlR M3 v7 x6.1 ∧ SlR M3 v8 x6.2 ∧ AllAt f' [(7, v7), (11, v8)]) ?_ ?_
       · refine ws <| s_mvv (v := v2) rfl <| s_lenR (xs := s1.1) rfl h5 underlying24 <| s_gtr (m := (s1.1.length : Int)) (n := 0) rfl rfl <| s_mvv (v := vb (decide ((s1.1.length : Int) > 0))) rfl ?_
         obtain ⟨x8, q11, q9⟩ := obind_some q9
         have L6 := Mem.rfl' m4
         refine wpl_cut 6 [39, 40, 41, 42, 43, 44] (fun f' w' => ∃ (M4 : Mem), m4 ≤ M4 ∧ St M4 ((bx b3 (c_api_Leaf x5 v6) 70) :: (row 2 v3 c2 s1.2.length) :: (bx b1 (c_api_Log a0 a0v3 a0v4 a0v5) 26) :: As) w' ∧ AllAt f' [(44, vb x8)]) ?_ ?_
         · rcases bool_tf (decide ((s1.1.length : Int) > 0)) with hb2 | hb2
           · replace q11 := ifT hb2 q11
             refine wpl_yes (d := 38) rfl rfl (cb hb2) <| s_mvv (v := v2) rfl <| wpl_yes (d := 38) rfl rfl (cb hb2) ?_
             obtain ⟨x9, q12, q11⟩ := obind_some q11
             refine s_idx (q := x9) (i := 0) rfl rfl h5 q12 underlying24 sizeOf3 fun p3 c6 h15 r9 => ?_
             obtain rfl : c6 = [vI x9] := r9
             refine wpl_yes (d := 38) rfl rfl (cb hb2) <| s_ldM (cs := [vI x9]) S10 rfl h15 rfl isAgg3 sizeOf3 (fun _ => rfl) <| wpl_yes (d := 38) rfl rfl (cb hb2) <| s_mvv (v := vI (i1 : Int)) rfl <| wpl_yes (d := 38) rfl rfl (cb hb2) <| s_eql (m := x9) (n := (i1 : Int)) rfl rfl <| s_pickT (cb hb2) rfl <| wpl_nil (nrm ?_)
             have e0 := Option.some.inj q11
             subst e0
             exact ⟨outP, m4, L6, S10, ⟨rfl, trivial⟩⟩
           replace q11 := ifF hb2 q11
           refine wpl_no (d := 38) rfl rfl (cb hb2) <| wpl_no (d := 38) rfl rfl (cb hb2) <| wpl_no (d := 38) rfl rfl (cb hb2) <| wpl_no (d := 38) rfl rfl (cb hb2) <| wpl_no (d := 38) rfl rfl (cb hb2) <| s_pickF (cb hb2) rfl <| wpl_nil (nrm ?_)
           have e0 := Option.some.inj q11
           subst e0
           exact ⟨outP, m4, L6, S10, ⟨rfl, trivial⟩⟩
         rintro f3 w7 ho ⟨m5, l4, S11, ha⟩
         obtain ⟨u3, rfl⟩ := fr_of (N := 60) ho ha
         clear S10
         refine wpl_nil <| nrm <| wpc_if (t := x8) rfl (fun hc3 => ?_) (fun hc3 => ?_)
         · replace q9 := ifT hc3 q9
           refine ws <| s_mvv (v := v2) rfl ?_
           obtain ⟨x10, q13, q9⟩ := obind_some q9
           refine s_cut (ys := x10) (l := 1) (h := (s1.1.length : Int)) rfl (h5.up l4) underlying24 sizeOf3 (.inr ⟨_, rfl⟩) (.inl ⟨rfl, rfl⟩) (.inl rfl) q13 fun v9 h16 => s_asv (v := v9) rfl <| nx <| s_mvv (v := vI a1) rfl <| s_eql (m := a1) (n := 1) rfl rfl <| wpl_nil <| nrm <| wpc_if (t := (a1 == 1)) rfl (fun hc4 => ?_) (fun hc4 => ?_)
           · replace q9 := ifT hc4 q9
             refine wpc_region <| s_litC (parts := [.const (.int .u8 0)]) (vs := [vB 0]) (cls := [[vB 0]]) (xs := ([0] : List UInt8)) (n := 1) S11 underlying57 sizeOf5 zeroValue5 rfl ⟨rfl, trivial⟩ (RepL.cons (c := [vB 0]) (x := 0) rfl RepL.nil) rfl rfl rfl (by decide) (by decide) fun v10 m6 w8 l5 S12 h17 => ?_
             clear S11
             refine s_mvv (v := v6) rfl ?_
             replace h11 := h11.up (mt l4 l5)
             refine s_litC (parts := [.tmp 49, .tmp 50]) (vs := [v10, v6]) (cls := [[v10], [v6]]) (xs := ([([0] : List UInt8), x5.Body] : List (List UInt8))) (n := 2) S12 underlying119 sizeOf57 zeroValue57 rfl ⟨SlR.cells h17, SlR.cells h11, trivial⟩ (RepL.cons (c := [v10]) (x := ([0] : List UInt8)) ⟨_, rfl, h17⟩ (RepL.cons (c := [v6]) (x := x5.Body) ⟨_, rfl, h11⟩ RepL.nil)) rfl rfl rfl (by decide) (by decide) fun v11 m7 w9 l6 S13 h18 => ?_
             clear S12
             obtain ⟨x11, q14, q9⟩ := obind_some q9
             refine s_call call30 (w_slices_Concat_byte_byte (a0 := ([([0] : List UInt8), x5.Body] : List (List UInt8))) S13 h18 q14) rfl ?_
             rintro v12 w10 ⟨m8, l7, _, c7, S14, rfl, h19⟩
             clear S13
             refine s_asv (v := v12) rfl <| wpl_nil <| nrm ?_
             obtain ⟨m9, l8, h20, S15⟩ := St.rowKeepT (i := 0) S14 rfl h19 rfl
             clear S14
             have e0 := Option.some.inj q9
             subst e0
             replace L5 := Mem.tr L5 (mt l4 (mt l5 (mt l6 (mt l7 l8))))
             replace h16 := h16.up (mt l5 (mt l6 (mt l7 l8)))
             exact ⟨outP, m9, _, _, L5, S15, h16, h20, ⟨rfl, rfl, trivial⟩⟩
           replace q9 := ifF hc4 q9
           refine wpc_skip <| nrm ?_
           have e0 := Option.some.inj q9
           subst e0
           replace L5 := Mem.tr L5 l4
           exact ⟨outP, m5, _, _, L5, S11, h16, (h11.up l4), ⟨rfl, rfl, trivial⟩⟩
         replace q9 := ifF hc3 q9
         refine wpc_skip <| nrm ?_
         have e0 := Option.some.inj q9
         subst e0
         replace L5 := Mem.tr L5 l4
         exact ⟨outP, m5, _, _, L5, S11, (h5.up l4), (h11.up l4), ⟨rfl, rfl, trivial⟩⟩
       rintro f4 w11 ho ⟨m10, v7, v8, l9, S16, h12, h13, ha⟩
       obtain ⟨u4, rfl⟩ := fr_of (N := 60) ho ha
       clear S10
       refine wpc_region <| s_mvv (v := v3) rfl <| s_mvv (v := v8) rfl ?_
       obtain ⟨x12, q15, q6⟩ := obind_some q6
       refine s_call call19 (w_merkle_Leaf (a0 := x6.2) S16 h13 q15) rfl ?_
       rintro _ w12 ⟨m11, l10, S17, rfl⟩
       clear S16
       refine s_litC (parts := [.tmp 55]) (vs := [.agg #[vU x12.1, vU x12.2]]) (cls := [[vU x12.1, vU x12.2]]) (xs := ([x12] : List (UInt64 × UInt64))) (n := 1) S17 underlying43 sizeOf36 zeroValue36 rfl ⟨rfl, trivial⟩ (RepL.cons (c := [vU x12.1, vU x12.2]) (x := x12) mk_arr2_UInt64 RepL.nil) rfl rfl rfl (by decide) (by decide) fun v13 m12 w13 l11 S18 h21 => ?_
       clear S17
       obtain ⟨x13, q16, q6⟩ := obind_some q6
       replace h6 := RepL.up (mt l9 (mt l10 l11)) h6
       refine s_app (i := 1) (zs := x13) (bytes := 16) (ti := Tryz.t36) S18 rfl rfl h6 rfl rfl h21 q16 underlying43 type36 rfl rfl rfl rfl fun v14 c8 w14 S19 h22 => ?_
       replace S19 : St _ ((bx b3 (c_api_Leaf x5 v6) 70) :: (row 2 v14 c8 x13.length) :: (bx b1 (c_api_Log a0 a0v3 a0v4 a0v5) 26) :: As) _ := S19
       clear S18
       refine s_asv (v := v14) rfl <| wpl_nil <| nrmB <| nrm <| wpc_region <| s_addI (m := (i1 : Int)) (n := 1) rfl rfl <| s_mvv (v := vI (w64 ((i1 : Int) + 1))) rfl <| wpl_nil <| nrm ?_
       obtain ⟨m13, l12, S20⟩ := St.drop S19 0
       clear S19
       replace S20 : St _ ((row 2 v14 c8 x13.length) :: (bx b1 (c_api_Log a0 a0v3 a0v4 a0v5) 26) :: As) _ := S20
       have e0 := Option.some.inj q6
       subst e0
       replace a0h3 := a0h3.up (mt l9 (mt l10 (mt l11 l12)))
       replace L3 := Mem.tr L3 (mt l9 (mt l10 (mt l11 l12)))
       replace h12 := h12.up (mt l10 (mt l11 l12))
       replace h22 := RepL.up l12 h22
       exact ⟨outP, _, (by omega), ⟨i1 + 1, (x6.1, x13), m13, _, _, _, rfl, hlt1, q5, Mem.tr L4 L3, S20, h12, h22, ⟨congrArg (Value.int .i64) (w64_succ hlt1 (SlR.le a0h3)), rfl, rfl, trivial⟩⟩⟩
     have hlt1 : ¬ i1 < a0.L.length := by have := of_decide_eq_false hc5; omega
     have e := Eq.symm (eachN0_out q4 hlt1)
     subst e
     exact wpc_exit <| thE <| thE <| exB <| nrm <| ⟨outP, m4, _, _, _, Mem.tr L4 L3, S8, h5, h6, ⟨rfl, rfl, trivial⟩⟩
   rintro f5 w15 ho ⟨m15, v4, v5, c3, l13, S21, h8, h9, ha⟩
   obtain ⟨u5, rfl⟩ := fr_of (N := 60) ho ha
   clear ho ha S7
   have e0 := Option.some.inj q2
   subst e0
   replace L1 := Mem.tr L1 l13
   exact ⟨outP, m15, _, _, L1, S21, h9, ⟨rfl, trivial⟩⟩
 rintro f6 w16 ho ⟨m16, v1, c1, l14, S22, h4, ha⟩
 obtain ⟨u6, rfl⟩ := fr_of (N := 60) ho ha
 clear S2
 refine ws <| s_mvv (v := v1) rfl <| s_asv (v := v1) rfl <| s_asv (v := vI 0) rfl <| wpl_nil <| nrm <| wpc_ret <| outRw fun we hpd => ?_
 replace S22 := St.pd S22 hpd
 obtain ⟨m17, l15, S23⟩ := St.drop S22 1
 clear S22
 replace S23 : St _ ((row 2 v1 c1 x2.length) :: As) _ := S23
 have e0 := Option.some.inj hm
 subst e0
 replace L0 := Mem.tr L0 (mt l1 (mt l14 l15))
 replace h4 := RepL.up l15 h4
 exact outR [_, _] rfl ⟨rfl, rfl, trivial⟩ ⟨_, L0, _, _, S23, rfl, h4⟩

def m_logd_first (a0 : g_api_Log) (a1 : Int) (a2 : Int) : Option ((List (UInt64 × UInt64)) × Int) :=
  obind (m_logd_Leaves a0 a1) fun x1 =>
  if (x1.2 != 0) = true then
    some (([] : List (UInt64 × UInt64)), x1.2)
  else
  if ((decide (a2 < 0)) || (decide (a2 > (x1.1.length : Int)))) = true then
    some (([] : List (UInt64 × UInt64)), 80)
  else
  if (0 : Int) ≤ a2 ∧ a2 ≤ (x1.1.length : Int) then
    some ((x1.1.take a2.toNat), 0)
  else none

theorem w_logd_first {m : Mem} {As : List Ow} {w : World} {a0 : g_api_Log} {a0v3 : Value} {a0v4 : Value} {a0v5 : Value} {a1 : Int} {a2 : Int} {r : (List (UInt64 × UInt64)) × Int} (S : St m (As) w) (a0h3 : SlR m a0v3 a0.L) (a0h4 : SlR m a0v4 a0.Hide) (a0h5 : SlR m a0v5 a0.Wait) (hm : m_logd_first a0 a1 a2 = some r) :
    CallsR Tryz.prog 26 #[.agg (c_api_Log a0 a0v3 a0v4 a0v5).toArray, vI a1, vI a2] w fun v w' => ∃ (M : Mem), m ≤ M ∧ ∃ (rv0 : Value) (rc0 : List Value), St M ((row 2 rv0 rc0 r.1.length) :: As) w' ∧ v = .tuple #[rv0, vI r.2] ∧ RepL M rc0 r.1 := by
 unfold m_logd_first at hm
 have L0 := Mem.rfl' m
 refine callsR (args := [.agg (c_api_Log a0 a0v3 a0v4 a0v5).toArray, vI a1, vI a2]) func26 rfl ntmps26 (nb rfl) <| ws <| s_box S rfl fun b1 w1 S1 => ?_
 replace S1 : St _ ((bx b1 (c_api_Log a0 a0v3 a0v4 a0v5) 26) :: As) _ := S1
 clear S
 refine s_asv (v := .slice none 0 0) rfl <| s_asv (v := vI 0) rfl <| nx <| s_ld (i := 0) (cs := (c_api_Log a0 a0v3 a0v4 a0v5)) S1 rfl rfl isAgg26 sizeOf26 rfl (fun h => by cases h) <| s_mvv (v := vI a1) rfl ?_
 obtain ⟨x1, q1, hm⟩ := obind_some hm
 refine s_call call9 (w_logd_Leaves (a0 := a0) (a1 := a1) S1 a0h3 a0h4 a0h5 q1) rfl ?_
 rintro _ w2 ⟨m1, l1, v1, c1, S2, rfl, h1⟩
 clear S1
 refine s_mvv (v := .tuple #[v1, vI x1.2]) rfl <| s_ext (i := 0) rfl rfl <| s_ext (i := 1) rfl rfl <| s_asv (v := v1) rfl <| s_asv (v := vI x1.2) rfl <| wpl_nil <| nrm <| wpc_seq <| ws <| s_mvv (v := vI x1.2) rfl <| s_neq (m := x1.2) (n := 0) rfl rfl <| wpl_nil <| nrm <| wpc_if (t := (x1.2 != 0)) rfl (fun hc1 => ?_) (fun hc1 => ?_)
 · replace hm := ifT hc1 hm
   refine ws <| s_mvv (v := vI x1.2) rfl <| s_asv (v := .slice none 0 0) rfl <| s_asv (v := vI x1.2) rfl <| wpl_nil <| nrm <| wpc_ret <| thR <| outRw fun we hpd => ?_
   replace S2 := St.pd S2 hpd
   have S3 := St.rowNil S2 2
   have h2 : RepL m1 [] ([] : List (UInt64 × UInt64)) := RepL.nil
   replace S3 : St _ ((row 2 (.slice none 0 0) [] ([] : List (UInt64 × UInt64)).length) :: (row 2 v1 c1 x1.1.length) :: (bx b1 (c_api_Log a0 a0v3 a0v4 a0v5) 26) :: As) _ := S3
   clear S2
   obtain ⟨m2, l2, S4⟩ := St.drop S3 1
   clear S3
   replace S4 : St _ ((row 2 (.slice none 0 0) [] ([] : List (UInt64 × UInt64)).length) :: (bx b1 (c_api_Log a0 a0v3 a0v4 a0v5) 26) :: As) _ := S4
   obtain ⟨m3, l3, S5⟩ := St.drop S4 1
   clear S4
   replace S5 : St _ ((row 2 (.slice none 0 0) [] ([] : List (UInt64 × UInt64)).length) :: As) _ := S5
   have e0 := Option.some.inj hm
   subst e0
   replace L0 := Mem.tr L0 (mt l1 (mt l2 l3))
   replace h2 := RepL.up (mt l2 l3) h2
   exact outR [_, _] rfl ⟨rfl, rfl, trivial⟩ ⟨_, L0, _, _, S5, rfl, h2⟩
 replace hm := ifF hc1 hm
 refine wpc_skip <| nrm <| wpc_seq <| ws <| s_mvv (v := vI a2) rfl <| s_lss (m := a2) (n := 0) rfl rfl <| s_mvv (v := vb (decide (a2 < 0))) rfl <| wpl_cut 5 [22, 23, 24, 25, 26] (fun f' w' => w' = w2 ∧ AllAt f' [(26, vb ((decide (a2 < 0)) || (decide (a2 > (x1.1.length : Int)))))]) ?_ ?_
 · rcases bool_tf (decide (a2 < 0)) with hb1 | hb1
   · exact wpl_no (d := 21) rfl rfl (cb hb1) <| wpl_no (d := 21) rfl rfl (cb hb1) <| wpl_no (d := 21) rfl rfl (cb hb1) <| wpl_no (d := 21) rfl rfl (cb hb1) <| s_pickT (cb hb1) rfl <| wpl_nil (nrm ⟨outP, rfl, congrArg Value.bool (or_t hb1), trivial⟩)
   · exact wpl_yes (d := 21) rfl rfl (cb hb1) <| s_mvv (v := vI a2) rfl <| wpl_yes (d := 21) rfl rfl (cb hb1) <| s_mvv (v := v1) rfl <| wpl_yes (d := 21) rfl rfl (cb hb1) <| s_lenO (i := 0) S2 rfl rfl underlying43 <| wpl_yes (d := 21) rfl rfl (cb hb1) <| s_gtr (m := a2) (n := (x1.1.length : Int)) rfl rfl <| s_pickF (cb hb1) rfl <| wpl_nil (nrm ⟨outP, rfl, congrArg Value.bool (or_f hb1), trivial⟩)
 rintro f1 w3 ho ⟨h3, ha⟩
 subst h3
 obtain ⟨u1, rfl⟩ := fr_of (N := 30) ho ha
 refine wpl_nil <| nrm <| wpc_if (t := ((decide (a2 < 0)) || (decide (a2 > (x1.1.length : Int))))) rfl (fun hc2 => ?_) (fun hc2 => ?_)
 · replace hm := ifT hc2 hm
   refine ws <| s_asv (v := .slice none 0 0) rfl <| s_asv (v := vI 80) rfl <| wpl_nil <| nrm <| wpc_ret <| thR <| outRw fun we hpd => ?_
   replace S2 := St.pd S2 hpd
   have S6 := St.rowNil S2 2
   have h4 : RepL m1 [] ([] : List (UInt64 × UInt64)) := RepL.nil
   replace S6 : St _ ((row 2 (.slice none 0 0) [] ([] : List (UInt64 × UInt64)).length) :: (row 2 v1 c1 x1.1.length) :: (bx b1 (c_api_Log a0 a0v3 a0v4 a0v5) 26) :: As) _ := S6
   clear S2
   obtain ⟨m4, l4, S7⟩ := St.drop S6 1
   clear S6
   replace S7 : St _ ((row 2 (.slice none 0 0) [] ([] : List (UInt64 × UInt64)).length) :: (bx b1 (c_api_Log a0 a0v3 a0v4 a0v5) 26) :: As) _ := S7
   obtain ⟨m5, l5, S8⟩ := St.drop S7 1
   clear S7
   replace S8 : St _ ((row 2 (.slice none 0 0) [] ([] : List (UInt64 × UInt64)).length) :: As) _ := S8
   have e0 := Option.some.inj hm
   subst e0
   replace L0 := Mem.tr L0 (mt l1 (mt l4 l5))
   replace h4 := RepL.up (mt l4 l5) h4
   exact outR [_, _] rfl ⟨rfl, rfl, trivial⟩ ⟨_, L0, _, _, S8, rfl, h4⟩
 replace hm := ifF hc2 hm
 refine wpc_skip <| nrm <| ws <| s_mvv (v := v1) rfl <| s_mvv (v := vI a2) rfl ?_
 obtain ⟨⟨q2, q3⟩, hm⟩ := if_some hm
 refine s_cutO (i := 0) S2 rfl rfl underlying43 sizeOf36 rfl rfl q2 q3 fun v2 S9 => ?_
 have h5 := RepL.take h1 a2.toNat
 replace S9 : St m1 ((row 2 v2 (c1.take (a2.toNat * 2)) (x1.1.take a2.toNat).length) :: (bx b1 (c_api_Log a0 a0v3 a0v4 a0v5) 26) :: As) w3 := by rw [show ((x1.1.take a2.toNat)).length = a2.toNat from by simp; omega]; exact S9
 clear S2
 refine s_asv (v := v2) rfl <| s_asv (v := vI 0) rfl <| wpl_nil <| nrm <| wpc_ret <| outRw fun we hpd => ?_
 replace S9 := St.pd S9 hpd
 obtain ⟨m6, l6, S10⟩ := St.drop S9 1
 clear S9
 replace S10 : St _ ((row 2 v2 (c1.take (a2.toNat * 2)) (x1.1.take a2.toNat).length) :: As) _ := S10
 have e0 := Option.some.inj hm
 subst e0
 replace L0 := Mem.tr L0 (mt l1 l6)
 replace h5 := RepL.up l6 h5
 exact outR [_, _] rfl ⟨rfl, rfl, trivial⟩ ⟨_, L0, _, _, S10, rfl, h5⟩

def m_hash_Bytes_b2 (a0 : UInt64 × UInt64) (i1 : Int) (s1 : (List UInt8)) : Option ((List UInt8)) :=
  obind (idx [a0.1, a0.2] (i1 : Int)) fun x4 =>
  obind (m_hash_put s1 x4 8) fun x5 =>
  some x5

def m_hash_Bytes (a0 : UInt64 × UInt64) : Option (List UInt8) :=
  obind (
    obind (eachN0 (m_hash_Bytes_b2 a0) 2 0 ([] : List UInt8)) fun x2 =>
    some x2
  ) fun x1 =>
  some x1

theorem w_hash_Bytes {m : Mem} {As : List Ow} {w : World} {a0 : UInt64 × UInt64} {r : List UInt8} (S : St m (As) w) (hm : m_hash_Bytes a0 = some r) :
    CallsR Tryz.prog 66 #[.agg #[vU a0.1, vU a0.2]] w fun v w' => ∃ (M : Mem), m ≤ M ∧ ∃ (rv0 : Value) (rc0 : List Value), St M ((row 1 rv0 rc0 r.length) :: As) w' ∧ v = rv0 ∧ RepL M rc0 r := by
 unfold m_hash_Bytes at hm
 have L0 := Mem.rfl' m
 refine callsR (args := [.agg #[vU a0.1, vU a0.2]]) func66 rfl ntmps66 (nb rfl) <| ws <| s_box S rfl fun b1 w1 S1 => ?_
 replace S1 : St _ ((bx b1 [vU a0.1, vU a0.2] 36) :: As) _ := S1
 clear S
 refine s_asv (v := .slice none 0 0) rfl <| nx <| s_asv (v := .slice none 0 0) rfl <| wpl_nil <| nrm ?_
 obtain ⟨x1, q1, hm⟩ := obind_some hm
 have L1 := Mem.rfl' m
 refine wpc_seq <| wpc_join [3, 5, 6, 7, 8, 9, 10, 11, 12, 13] (fun f' w' => ∃ (M1 : Mem) (v1 : Value) (c1 : List Value), m ≤ M1 ∧ St M1 ((row 1 v1 c1 x1.length) :: (bx b1 [vU a0.1, vU a0.2] 36) :: As) w' ∧ RepL M1 c1 x1 ∧ AllAt f' [(3, v1)]) ?_ ?_
 · refine ws <| s_ld (i := 0) (cs := [vU a0.1, vU a0.2]) S1 rfl rfl isAgg36 sizeOf36 rfl (fun h => by cases h) <| s_mvv (v := vI 0) rfl <| wpl_nil <| nrm ?_
   obtain ⟨x2, q2, q1⟩ := obind_some q1
   have L2 := Mem.rfl' m
   have S2 := St.rowNil S1 1
   have h3 : RepL m [] ([] : List UInt8) := RepL.nil
   replace S2 : St _ ((row 1 (.slice none 0 0) [] ([] : List UInt8).length) :: (bx b1 [vU a0.1, vU a0.2] 36) :: As) _ := S2
   clear S1
   refine wpc_join [3, 5, 7, 8, 9, 10, 11, 12, 13] (fun f' w' => ∃ (M2 : Mem) (v3 : Value) (c3 : List Value), m ≤ M2 ∧ St M2 ((row 1 v3 c3 x2.length) :: (bx b1 [vU a0.1, vU a0.2] 36) :: As) w' ∧ RepL M2 c3 x2 ∧ AllAt f' [(3, v3)]) ?_ ?_
   · refine wpc_block <| wpc_rounds [3, 5, 7, 8, 9, 10, 11, 12, 13] (fun n1 f' w' => ∃ (i1 : Nat) (s1 : (List UInt8)) (m3 : Mem) (v2 : Value) (c2 : List Value), n1 = 2 - i1 ∧ i1 ≤ 2 ∧ eachN0 (m_hash_Bytes_b2 a0) (2 - i1) (i1 : Int) s1 = some x2 ∧ m ≤ m3 ∧ St m3 ((row 1 v2 c2 s1.length) :: (bx b1 [vU a0.1, vU a0.2] 36) :: As) w' ∧ RepL m3 c2 s1 ∧ AllAt f' [(7, vI (i1 : Int)), (3, v2)]) 2 ⟨0, ([] : List UInt8), m, _, _, rfl, Nat.zero_le _, q2, L2, S2, h3, ⟨rfl, rfl, trivial⟩⟩ ?_
     rintro n1 f1 w2 ho ⟨i1, s1, m1, v2, c2, hn, hi, q3, L4, S3, h2, ha⟩
     obtain ⟨u1, rfl⟩ := fr_of (N := 15) ho ha
     clear ho ha
     have L3 := Mem.rfl' m1
     clear S2
     refine ws <| s_lss (m := (i1 : Int)) (n := 2) rfl rfl <| wpl_nil <| nrm <| wpc_seq <| wpc_if (t := decide ((i1 : Int) < (2 : Int))) rfl (fun hc1 => ?_) (fun hc1 => ?_)
     · have hlt1 : i1 < 2 := by have := of_decide_eq_true hc1; omega
       obtain ⟨y1, q5, q4⟩ := eachN0_in q3 hlt1
       unfold m_hash_Bytes_b2 at q5
       refine wpc_skip <| nrm <| wpc_seq <| wpc_block <| wpc_seq <| wpc_region ?_
       obtain ⟨x4, q7, q5⟩ := obind_some q5
       refine s_index (d := [vU x4]) (i := (i1 : Int)) rfl rfl (idx_rng q7).1 (idx_rng q7).2 underlying36 isAgg22 sizeOf22 (by rcases idx2 q7 with ⟨h, h'⟩ | ⟨h, h'⟩ <;> (rw [h, h']; rfl)) rfl (fun _ => rfl) <| s_asv (v := vU x4) rfl <| wpl_nil <| nrm <| wpc_region <| s_mvv (v := v2) rfl <| s_mvv (v := vU x4) rfl ?_
       obtain ⟨x5, q8, q5⟩ := obind_some q5
       refine s_call call80 (w_hash_put (a0 := s1) (a1 := x4) (a2 := 8) S3 h2 q8) rfl ?_
       rintro v4 w3 ⟨m2, l1, _, c4, S4, rfl, h5⟩
       clear S3
       refine s_asv (v := v4) rfl <| wpl_nil <| nrmB <| nrm <| wpc_region <| s_addI (m := (i1 : Int)) (n := 1) rfl rfl <| s_mvv (v := vI (w64 ((i1 : Int) + 1))) rfl <| wpl_nil <| nrm ?_
       have e0 := Option.some.inj q5
       subst e0
       replace L3 := Mem.tr L3 l1
       exact ⟨outP, _, (by omega), ⟨i1 + 1, x5, m2, _, _, rfl, hlt1, q4, Mem.tr L4 L3, S4, h5, ⟨congrArg (Value.int .i64) (w64_succ hlt1 (by decide)), rfl, trivial⟩⟩⟩
     have hlt1 : ¬ i1 < 2 := by have := of_decide_eq_false hc1; omega
     have e := Eq.symm (eachN0_out q3 hlt1)
     subst e
     exact wpc_exit <| thE <| thE <| exB <| nrm <| ⟨outP, m1, _, _, Mem.tr L4 L3, S3, h2, ⟨rfl, trivial⟩⟩
   rintro f2 w4 ho ⟨m4, v3, c3, l2, S5, h4, ha⟩
   obtain ⟨u2, rfl⟩ := fr_of (N := 15) ho ha
   clear ho ha S2
   have e0 := Option.some.inj q1
   subst e0
   replace L1 := Mem.tr L1 l2
   exact ⟨outP, m4, _, _, L1, S5, h4, ⟨rfl, trivial⟩⟩
 rintro f3 w5 ho ⟨m5, v1, c1, l3, S6, h1, ha⟩
 obtain ⟨u3, rfl⟩ := fr_of (N := 15) ho ha
 clear S1
 refine ws <| s_mvv (v := v1) rfl <| s_asv (v := v1) rfl <| wpl_nil <| nrm <| wpc_ret <| outRw fun we hpd => ?_
 replace S6 := St.pd S6 hpd
 obtain ⟨m6, l4, S7⟩ := St.drop S6 1
 clear S6
 replace S7 : St _ ((row 1 v1 c1 x1.length) :: As) _ := S7
 have e0 := Option.some.inj hm
 subst e0
 replace L0 := Mem.tr L0 (mt l3 l4)
 replace h1 := RepL.up l4 h1
 exact outR [_] rfl ⟨rfl, trivial⟩ ⟨_, L0, _, _, S7, rfl, h1⟩

def m_hash_Pair (a0 : UInt64 × UInt64) (a1 : UInt64 × UInt64) : Option (UInt64 × UInt64) :=
  obind (m_hash_Bytes a0) fun x1 =>
  obind (m_hash_Bytes a1) fun x2 =>
  obind (m_hash_Tagged (⟨#[110, 111, 100, 101]⟩ : ByteArray) ([x1, x2] : List (List UInt8))) fun x3 =>
  some x3

theorem w_hash_Pair {m : Mem} {As : List Ow} {w : World} {a0 : UInt64 × UInt64} {a1 : UInt64 × UInt64} {r : UInt64 × UInt64} (S : St m (As) w) (hm : m_hash_Pair a0 a1 = some r) :
    CallsR Tryz.prog 37 #[.agg #[vU a0.1, vU a0.2], .agg #[vU a1.1, vU a1.2]] w fun v w' => ∃ (M : Mem), m ≤ M ∧ St M (As) w' ∧ v = .agg #[vU r.1, vU r.2] := by
 unfold m_hash_Pair at hm
 have L0 := Mem.rfl' m
 refine callsR (args := [.agg #[vU a0.1, vU a0.2], .agg #[vU a1.1, vU a1.2]]) func37 rfl ntmps37 (nb rfl) <| ws <| s_box S rfl fun b1 w1 S1 => ?_
 replace S1 : St _ ((bx b1 [vU a0.1, vU a0.2] 36) :: As) _ := S1
 clear S
 refine s_box S1 rfl fun b2 w2 S2 => s_alloc S2 zeroValue36 fun b3 w3 S3 => ?_
 replace S3 : St _ ((bx b3 z_api_Sig 36) :: (bx b2 [vU a1.1, vU a1.2] 36) :: (bx b1 [vU a0.1, vU a0.2] 36) :: As) _ := S3
 clear S1 S2
 refine wpl_nil <| nrm <| wpc_seq ?_
 obtain ⟨x1, q1, hm⟩ := obind_some hm
 have HM : MonoAll [(5, fv (.agg #[vU a0.1, vU a0.2])), (6, fun _ _ => True), (7, fv (.agg #[vU a1.1, vU a1.2]))] := ⟨mv, (fun _ _ _ _ h => h), mv, trivial⟩
 refine wpc_flowG HM 3 mixed rfl rfl rfl [5, 6, 7] (fun L f M w => ∃ (X1 : List Ow), ((L 1 = false → X1 = []) ∧ (L 1 = true → (RowS M X1 1 (f 6) x1))) ∧ St M ((bx b3 z_api_Sig 36) :: (bx b2 [vU a1.1, vU a1.2] 36) :: (bx b1 [vU a0.1, vU a0.2] 36) :: (X1 ++ As)) w) (⟨[], ⟨fun _ => rfl, fun hx => ff hx⟩, St.drew S3 _⟩) ?_ ?_
 · refine ⟨?_, ?_, ?_, trivial⟩
   · exact flp HM rfl [] (fun _ _ => trivial) (fun _ ⟨_, _, S4⟩ q => s_ld (i := 2) (cs := [vU a0.1, vU a0.2]) S4 rfl rfl isAgg36 sizeOf36 rfl (fun h => by cases h) q) rfl
   · intro L f2 w5 hL hd hc ⟨m2, L3, ⟨X1, C2, S5⟩, K, hO⟩
     have d1 : L 1 = false := hL
     obtain ⟨u2, rfl⟩ := fr_of (N := 11) (L := [(5, _)]) hO ⟨K 0 (dep hd rfl), trivial⟩
     obtain rfl := C2.1 d1
     replace S5 : St _ ((bx b3 z_api_Sig 36) :: (bx b2 [vU a1.1, vU a1.2] 36) :: (bx b1 [vU a0.1, vU a0.2] 36) :: As) _ := S5
     have L4 := Mem.rfl' m2
     refine s_call call66 (w_hash_Bytes (a0 := a0) S5  q1) rfl ?_
     rintro v1 w6 ⟨m3, l1, _, c1, S6, rfl, h1⟩
     clear S5
     refine wpn ?_
     replace L4 := Mem.tr L4 l1
     refine ⟨m3, Mem.tr L3 L4, ⟨[row 1 v1 c1 x1.length], ⟨fun hx => tf rfl hx, fun _ => ⟨_, rfl, h1⟩⟩, ?_⟩, facts_step HM rfl K L4 rfl rfl trivial, outP⟩
     have S18 : St _ ((bx b3 z_api_Sig 36) :: (bx b2 [vU a1.1, vU a1.2] 36) :: (bx b1 [vU a0.1, vU a0.2] 36) :: (row 1 v1 c1 x1.length) :: As) _ := St.perm S6 (List.Perm.trans (List.Perm.swap _ _ _) (List.Perm.trans (List.Perm.cons _ (List.Perm.swap _ _ _)) (List.Perm.cons _ (List.Perm.cons _ (List.Perm.swap _ _ _)))))
     exact S18
   · exact flp HM rfl [] (fun _ _ => trivial) (fun _ ⟨_, _, S7⟩ q => s_ld (i := 1) (cs := [vU a1.1, vU a1.2]) S7 rfl rfl isAgg36 sizeOf36 rfl (fun h => by cases h) q) rfl
 intro L f4 w8 hall ⟨m5, L7, ⟨X1, C4, S8⟩, K, hO⟩
 obtain ⟨v2, e2⟩ : ∃ x, f4 6 = x := ⟨_, rfl⟩
 have d2 : L 2 = true := hall 2 (by decide)
 have d1 : L 1 = true := hall 1 (by decide)
 obtain ⟨u4, rfl⟩ := fr_of (N := 11) (L := [(6, _), (7, _)]) hO ⟨e2, K 2 d2, trivial⟩
 replace S8 : St _ ((bx b3 z_api_Sig 36) :: (bx b2 [vU a1.1, vU a1.2] 36) :: (bx b1 [vU a0.1, vU a0.2] 36) :: (X1 ++ As)) _ := S8
 obtain ⟨c2, rfl, h2⟩ := C4.2 d1
 replace h2 : RepL _ c2 x1 := h2
 replace S8 : St _ ((bx b3 z_api_Sig 36) :: (bx b2 [vU a1.1, vU a1.2] 36) :: (bx b1 [vU a0.1, vU a0.2] 36) :: (row 1 v2 c2 x1.length) :: As) _ := S8
 clear S3
 obtain ⟨x2, q2, hm⟩ := obind_some hm
 refine s_call call66 (w_hash_Bytes (a0 := a1) S8  q2) rfl ?_
 rintro v3 w9 ⟨m6, l2, _, c3, S9, rfl, h3⟩
 clear S8
 replace h2 := RepL.up l2 h2
 obtain ⟨m7, l3, h4, S10⟩ := St.rowKeepT (i := 4) S9 rfl h2 rfl
 clear S9
 replace h3 := RepL.up l3 h3
 obtain ⟨m8, l4, h5, S11⟩ := St.rowKeepT (i := 0) S10 rfl h3 rfl
 clear S10
 replace h4 := h4.up l4
 refine s_litC (parts := [.tmp 6, .tmp 8]) (vs := [v2, v3]) (cls := [[v2], [v3]]) (xs := ([x1, x2] : List (List UInt8))) (n := 2) S11 underlying119 sizeOf57 zeroValue57 rfl ⟨SlR.cells h4, SlR.cells h5, trivial⟩ (RepL.cons (c := [v2]) (x := x1) ⟨_, rfl, h4⟩ (RepL.cons (c := [v3]) (x := x2) ⟨_, rfl, h5⟩ RepL.nil)) rfl rfl rfl (by decide) (by decide) fun v4 m9 w10 l5 S12 h6 => ?_
 clear S11
 obtain ⟨x3, q3, hm⟩ := obind_some hm
 refine s_call call52 (w_hash_Tagged (a0 := (⟨#[110, 111, 100, 101]⟩ : ByteArray)) (a1 := ([x1, x2] : List (List UInt8))) S12 h6 q3) rfl ?_
 rintro _ w11 ⟨m10, l6, S13, rfl⟩
 clear S12
 refine s_stL (i := 0) S13 rfl rfl rfl sizeOf36 (oneC rfl (oneC rfl oneN)) rfl fun w12 S14 => ?_
 replace S14 : St _ ((bx b3 [vU x3.1, vU x3.2] 36) :: (bx b2 [vU a1.1, vU a1.2] 36) :: (bx b1 [vU a0.1, vU a0.2] 36) :: As) _ := S14
 clear S13
 refine wpl_nil <| nrm <| wpc_ret <| outRw fun we hpd => ?_
 replace S14 := St.pd S14 hpd
 have SR := S14
 obtain ⟨m11, l7, S15⟩ := St.drop S14 0
 replace S15 : St _ ((bx b2 [vU a1.1, vU a1.2] 36) :: (bx b1 [vU a0.1, vU a0.2] 36) :: As) _ := S15
 obtain ⟨m12, l8, S16⟩ := St.drop S15 0
 clear S15
 replace S16 : St _ ((bx b1 [vU a0.1, vU a0.2] 36) :: As) _ := S16
 obtain ⟨m13, l9, S17⟩ := St.drop S16 0
 clear S16
 replace S17 : St _ (As) _ := S17
 have e0 := Option.some.inj hm
 subst e0
 replace L0 := Mem.tr L0 (mt L7 (mt l2 (mt l3 (mt l4 (mt l5 (mt l6 (mt l7 (mt l8 l9))))))))
 exact outR [_] rfl ⟨res_box (i := 0) (off := 0) (cs := [vU x3.1, vU x3.2]) SR rfl rfl isAgg36 sizeOf36 rfl (fun h => by cases h), trivial⟩ ⟨_, L0, S17, rfl⟩

def m_bits_Len32 (a0 : UInt32) : Option Int :=
  obind (
    if (decide ((a0.toNat : Int) ≥ 65536)) = true then
      some ((shrW a0 16), 16)
    else
    some (a0, 0)
  ) fun x1 =>
  obind (
    if (decide ((x1.1.toNat : Int) ≥ 256)) = true then
      some ((shrW x1.1 8), (w64 (x1.2 + 8)))
    else
    some (x1.1, x1.2)
  ) fun x2 =>
  obind (idx str_0.data.toList ((toB (x2.1.toNat : Int)).toNat : Int)) fun x3 =>
  bnd ((w64 (x2.2 + (w64 (x3.toNat : Int))))) fun x4 =>
  some x4

theorem w_bits_Len32 {m : Mem} {As : List Ow} {w : World} {a0 : UInt32} {r : Int} (S : St m (As) w) (hm : m_bits_Len32 a0 = some r) :
    CallsR Tryz.prog 93 #[vW a0] w fun v w' => ∃ (M : Mem), m ≤ M ∧ St M (As) w' ∧ v = vI r := by
 unfold m_bits_Len32 at hm
 have L0 := Mem.rfl' m
 refine callsR (args := [vW a0]) func93 rfl ntmps93 (nb rfl) <| ws <| s_asv (v := vI 0) rfl <| wpl_nil <| nrm ?_
 obtain ⟨x1, q1, hm⟩ := obind_some hm
 have L1 := Mem.rfl' m
 refine wpc_seq <| wpc_join [0, 2, 3, 4, 5, 6] (fun f' w' => ∃ (M1 : Mem), m ≤ M1 ∧ St M1 (As) w' ∧ AllAt f' [(0, vW x1.1), (2, vI x1.2)]) ?_ ?_
 · refine ws <| s_mvv (v := vW a0) rfl <| s_geq (m := (a0.toNat : Int)) (n := 65536) rfl rfl <| wpl_nil <| nrm <| wpc_if (t := (decide ((a0.toNat : Int) ≥ 65536))) rfl (fun hc1 => ?_) (fun hc1 => ?_)
   · replace q1 := ifT hc1 q1
     refine ws <| s_mvv (v := vW a0) rfl <| s_shrW (m := a0) (n := 16) rfl rfl (by decide) <| s_asv (v := vW (shrW a0 16)) rfl <| wpl_nil <| nrm <| wpc_region <| s_asv (v := vI 16) rfl <| wpl_nil <| nrm ?_
     have e0 := Option.some.inj q1
     subst e0
     exact ⟨outP, m, L1, S, ⟨rfl, rfl, trivial⟩⟩
   replace q1 := ifF hc1 q1
   refine wpc_skip <| nrm ?_
   have e0 := Option.some.inj q1
   subst e0
   exact ⟨outP, m, L1, S, ⟨rfl, rfl, trivial⟩⟩
 rintro f1 w1 ho ⟨m1, l1, S1, ha⟩
 obtain ⟨u1, rfl⟩ := fr_of (N := 19) ho ha
 clear S
 obtain ⟨x2, q2, hm⟩ := obind_some hm
 have L2 := Mem.rfl' m1
 refine wpc_seq <| wpc_join [0, 2, 7, 8, 9, 10, 11, 12] (fun f' w' => ∃ (M2 : Mem), m1 ≤ M2 ∧ St M2 (As) w' ∧ AllAt f' [(0, vW x2.1), (2, vI x2.2)]) ?_ ?_
 · refine ws <| s_mvv (v := vW x1.1) rfl <| s_geq (m := (x1.1.toNat : Int)) (n := 256) rfl rfl <| wpl_nil <| nrm <| wpc_if (t := (decide ((x1.1.toNat : Int) ≥ 256))) rfl (fun hc2 => ?_) (fun hc2 => ?_)
   · replace q2 := ifT hc2 q2
     refine ws <| s_mvv (v := vW x1.1) rfl <| s_shrW (m := x1.1) (n := 8) rfl rfl (by decide) <| s_asv (v := vW (shrW x1.1 8)) rfl <| wpl_nil <| nrm <| wpc_region <| s_mvv (v := vI x1.2) rfl <| s_addI (m := x1.2) (n := 8) rfl rfl <| s_asv (v := vI (w64 (x1.2 + 8))) rfl <| wpl_nil <| nrm ?_
     have e0 := Option.some.inj q2
     subst e0
     exact ⟨outP, m1, L2, S1, ⟨rfl, rfl, trivial⟩⟩
   replace q2 := ifF hc2 q2
   refine wpc_skip <| nrm ?_
   have e0 := Option.some.inj q2
   subst e0
   exact ⟨outP, m1, L2, S1, ⟨rfl, rfl, trivial⟩⟩
 rintro f2 w2 ho ⟨m2, l2, S2, ha⟩
 obtain ⟨u2, rfl⟩ := fr_of (N := 19) ho ha
 clear S1
 refine ws <| s_mvv (v := vI x2.2) rfl <| s_mvv (v := vW x2.1) rfl <| s_convB rfl underlying126 underlying5 ?_
 obtain ⟨x3, q3, hm⟩ := obind_some hm
 refine s_indexS (s := str_0) (i := ((toB (x2.1.toNat : Int)).toNat : Int)) rfl rfl underlying9 q3 <| s_convI rfl underlying5 underlying3 <| s_addI (m := x2.2) (n := (w64 (x3.toNat : Int))) rfl rfl ?_
 obtain ⟨x4, q4, hm⟩ := bnd_eq hm
 refine s_asv (v := vI x4) (congrArg (fun z => vI z) q4.symm) <| wpl_nil <| nrm <| wpc_ret <| outRw fun we hpd => ?_
 replace S2 := St.pd S2 hpd
 have e0 := Option.some.inj hm
 subst e0
 replace L0 := Mem.tr L0 (mt l1 l2)
 exact outR [_] rfl ⟨rfl, trivial⟩ ⟨_, L0, S2, rfl⟩

def m_bits_Len (a0 : UInt64) : Option Int :=
  obind (m_bits_Len64 a0) fun x1 =>
  some x1

theorem w_bits_Len {m : Mem} {As : List Ow} {w : World} {a0 : UInt64} {r : Int} (S : St m (As) w) (hm : m_bits_Len a0 = some r) :
    CallsR Tryz.prog 72 #[vU a0] w fun v w' => ∃ (M : Mem), m ≤ M ∧ St M (As) w' ∧ v = vI r := by
 unfold m_bits_Len at hm
 have L0 := Mem.rfl' m
 refine callsR (args := [vU a0]) func72 rfl ntmps72 (nb rfl) <| ws <| s_asv (v := vI 0) rfl <| wpl_nil <| nrm <| wpc_seq <| wpc_false rfl <| wpc_skip <| nrm <| ws <| s_mvv (v := vU a0) rfl ?_
 obtain ⟨x1, q1, hm⟩ := obind_some hm
 refine s_call call94 (w_bits_Len64 (a0 := a0) S  q1) rfl ?_
 rintro _ w1 ⟨m1, l1, S1, rfl⟩
 clear S
 refine s_asv (v := vI x1) rfl <| wpl_nil <| nrm <| wpc_ret <| outRw fun we hpd => ?_
 replace S1 := St.pd S1 hpd
 have e0 := Option.some.inj hm
 subst e0
 replace L0 := Mem.tr L0 l1
 exact outR [_] rfl ⟨rfl, trivial⟩ ⟨_, L0, S1, rfl⟩

def m_slices_Clone_api_Sum_api_Sum (a0 : List (UInt64 × UInt64)) : Option (List (UInt64 × UInt64)) :=
  obind (app 16 ([] : List (UInt64 × UInt64)) a0) fun x1 =>
  some x1

theorem w_slices_Clone_api_Sum_api_Sum {m : Mem} {As : List Ow} {w : World} {a0 : List (UInt64 × UInt64)} {a0v0 : Value} {r : List (UInt64 × UInt64)} (S : St m (As) w) (a0h0 : SlR m a0v0 a0) (hm : m_slices_Clone_api_Sum_api_Sum a0 = some r) :
    CallsR Tryz.prog 86 #[a0v0] w fun v w' => ∃ (M : Mem), m ≤ M ∧ ∃ (rv0 : Value) (rc0 : List Value), St M ((row 2 rv0 rc0 r.length) :: As) w' ∧ v = rv0 ∧ RepL M rc0 r := by
 unfold m_slices_Clone_api_Sum_api_Sum at hm
 have L0 := Mem.rfl' m
 refine callsR (args := [a0v0]) func86 rfl ntmps86 (nb rfl) <| ws <| s_asv (v := .slice none 0 0) rfl <| wpl_nil <| nrm <| wpc_seq <| ws <| s_mvv (v := a0v0) rfl <| s_eqlNil rfl rfl a0h0 underlying43 <| wpl_nil <| nrm <| wpc_if (t := (isNilV a0v0)) rfl (fun hc1 => ?_) (fun hc1 => ?_)
 · have he1 : a0 = [] := SlR.nilOf a0h0 hc1
   rw [he1] at hm
   replace hm : (some ([] : List (UInt64 × UInt64))) = some _ := hm
   refine ws <| s_asv (v := .slice none 0 0) rfl <| wpl_nil <| nrm <| wpc_ret <| thR <| outRw fun we hpd => ?_
   replace S := St.pd S hpd
   have S1 := St.rowNil S 2
   have h1 : RepL m [] ([] : List (UInt64 × UInt64)) := RepL.nil
   replace S1 : St _ ((row 2 (.slice none 0 0) [] ([] : List (UInt64 × UInt64)).length) :: As) _ := S1
   clear S
   have e0 := Option.some.inj hm
   subst e0
   exact outR [_] rfl ⟨rfl, trivial⟩ ⟨_, L0, _, _, S1, rfl, h1⟩
 refine wpc_skip <| nrm <| ws <| s_litOC (parts := []) (vs := []) (cls := []) (n := 0) (sz := 2) S underlying43 sizeOf36 zeroValue36 rfl trivial rfl rfl (by decide) (by decide) fun v1 w1 S2 => ?_
 have h2 : RepL m [] ([] : List (UInt64 × UInt64)) := RepL.nil
 replace S2 : St _ ((row 2 v1 [] ([] : List (UInt64 × UInt64)).length) :: As) _ := S2
 clear S
 refine s_mvv (v := a0v0) rfl ?_
 obtain ⟨x1, q1, hm⟩ := obind_some hm
 refine s_app (i := 0) (zs := x1) (bytes := 16) (ti := Tryz.t36) S2 rfl rfl h2 rfl rfl a0h0 q1 underlying43 type36 rfl rfl rfl rfl fun v2 c1 w2 S3 h3 => ?_
 replace S3 : St _ ((row 2 v2 c1 x1.length) :: As) _ := S3
 clear S2
 refine s_asv (v := v2) rfl <| wpl_nil <| nrm <| wpc_ret <| outRw fun we hpd => ?_
 replace S3 := St.pd S3 hpd
 have e0 := Option.some.inj hm
 subst e0
 exact outR [_] rfl ⟨rfl, trivial⟩ ⟨_, L0, _, _, S3, rfl, h3⟩

def m_merkle_parts_1_b3  (i3 : Int) (s3 : (List (UInt64 × UInt64))) : Option ((List (UInt64 × UInt64))) :=
  obind (idx s3 (w64 (2 * (i3 : Int)))) fun x14 =>
  obind (idx s3 (w64 ((w64 (2 * (i3 : Int))) + 1))) fun x15 =>
  obind (m_hash_Pair x14 x15) fun x16 =>
  obind (idx s3 (i3 : Int)) fun x17 =>
  bnd (s3.set (i3 : Int).toNat x16) fun x18 =>
  some x18

def m_merkle_parts_1_b2  (s2 : (List (UInt64 × UInt64))) : Option (((List (UInt64 × UInt64))) ⊕ ((List (UInt64 × UInt64)))) :=
  if (decide ((s2.length : Int) > 1)) = true then
    obind (
      bnd (w64 (Int.tdiv (s2.length : Int) 2)) fun x11 =>
      obind (eachN0 m_merkle_parts_1_b3 (Int.toNat x11) 0 s2) fun x12 =>
      some x12
    ) fun x10 =>
    bnd (w64 (Int.tdiv (x10.length : Int) 2)) fun x19 =>
    if (0 : Int) ≤ x19 ∧ x19 ≤ (x10.length : Int) then
      some (.inl (x10.take x19.toNat))
    else none
  else
  some (.inr s2)

def m_merkle_parts_1_b1 {σ : Type} (p0 : σ → g_merkle_part → Option (Bool × σ)) (s1 : (List (UInt64 × UInt64)) × σ) : Option (((List (UInt64 × UInt64)) × σ) ⊕ (((List (UInt64 × UInt64)) × σ) ⊕ ((List (UInt64 × UInt64)) × σ))) :=
  if (decide ((s1.1.length : Int) > 0)) = true then
    obind (m_bits_Len (toU (s1.1.length : Int))) fun x3 =>
    if (0 : Int) ≤ (w64 (x3 - 1)) then
      bnd ((shl64 1 ((w64 (x3 - 1)).toNat))) fun x4 =>
      obind (cut s1.1 0 x4) fun x5 =>
      obind (m_slices_Clone_api_Sum_api_Sum x5) fun x6 =>
      obind (
        obind (iter m_merkle_parts_1_b2 FUEL x6) fun x8 =>
        some x8
      ) fun x7 =>
      obind (idx x7 0) fun x20 =>
      obind (p0 s1.2 (⟨x4, x20⟩ : g_merkle_part)) fun x21 =>
      if (!x21.1) = true then
        some (.inr (.inr (s1.1, x21.2)))
      else
      obind (cut s1.1 x4 (s1.1.length : Int)) fun x22 =>
      some (.inl (x22, x21.2))
    else none
  else
  some (.inr (.inl (s1.1, s1.2)))

def m_merkle_parts_1 {σ : Type} (p0 : σ → g_merkle_part → Option (Bool × σ)) (k0 : List (UInt64 × UInt64)) (s0 : σ) : Option ((List (UInt64 × UInt64)) × σ) :=
  obind (iter (m_merkle_parts_1_b1 p0) FUEL (k0, s0)) fun x1 => match x1 with
  | .inr r => some r
  | .inl y1 =>
  some (y1.1, y1.2)

theorem w_merkle_parts_1 {m : Mem} {As : List Ow} {w : World} {σ : Type} {R : σ → Mem → List Ow → Prop} {p0 : σ → g_merkle_part → Option (Bool × σ)} {f0 : Value} {kb0 : Nat} {k0 : List (UInt64 × UInt64)} {k0v0 : Value} {s0 : σ} {X0 : List Ow} {r : (List (UInt64 × UInt64)) × σ} (S : St m ((bx kb0 [k0v0] 43) :: (X0 ++ As)) w) (hup : ∀ {s M M' X}, M ≤ M' → R s M X → R s M' X) (hX0 : R s0 m X0) (cb0 : ∀ {m' : Mem} {As' : List Ow} {w' : World} {s : σ} {X : List Ow} {b0 : g_merkle_part} {r : Bool × σ}, St m' (X ++ As') w' → R s m' X → p0 s b0 = some r → CallV Tryz.prog f0 [.agg (c_merkle_part b0).toArray] w' fun v w'' => ∃ (M : Mem) (X' : List Ow), m' ≤ M ∧ St M (X' ++ As') w'' ∧ R r.2 M X' ∧ v = vb r.1) (fc0 : f0.cells = #[f0]) (k0h0 : SlR m k0v0 k0) (hm : m_merkle_parts_1 p0 k0 s0 = some r) :
    CallsR Tryz.prog 85 #[f0, pt kb0 0] w fun v w' => ∃ (M : Mem), m ≤ M ∧ ∃ (rb0_0 : Value) (X : List Ow), St M ((bx kb0 [rb0_0] 43) :: (X ++ As)) w' ∧ v = .tuple #[] ∧ SlR M rb0_0 r.1 ∧ R r.2 M X := by
 unfold m_merkle_parts_1 at hm
 have L0 := Mem.rfl' m
 refine callsR (args := [f0, pt kb0 0]) func85 rfl ntmps85 (nb rfl) ?_
 obtain ⟨x1, q1, hm⟩ := obind_some hm
 have L1 := Mem.rfl' m
 refine wpc_wrap <| wpc_join (rg 3 57) (fun f' w' => ∃ (M1 : Mem) (y1 : (List (UInt64 × UInt64)) × σ) (v2 : Value) (X2 : List Ow), x1 = .inl y1 ∧ m ≤ M1 ∧ St M1 ((bx kb0 [v2] 43) :: (X2 ++ As)) w' ∧ SlR M1 v2 y1.1 ∧ R y1.2 M1 X2 ∧ AllAt f' []) ?_ ?_
 · refine wpc_block <| wpc_rounds (rg 3 57) (fun n1 f' w' => ∃ (s1 : (List (UInt64 × UInt64)) × σ) (m31 : Mem) (v1 : Value) (X1 : List Ow), iter (m_merkle_parts_1_b1 p0) n1 s1 = some x1 ∧ m ≤ m31 ∧ St m31 ((bx kb0 [v1] 43) :: (X1 ++ As)) w' ∧ SlR m31 v1 s1.1 ∧ R s1.2 m31 X1 ∧ AllAt f' []) FUEL ⟨(k0, s0), m, _, _, q1, L1, S, k0h0, hX0, trivial⟩ ?_
   rintro n1 f1 w1 ho ⟨s1, m1, v1, X1, q2, L3, S1, h1, h2, ha⟩
   obtain ⟨u1, rfl⟩ := fr_of (N := 60) ho ha
   clear ho ha
   have L2 := Mem.rfl' m1
   clear S
   cases n1 with
   | zero => exact (iter_zero q2).elim
   | succ n1 =>
    obtain ⟨y2, q4, q3⟩ := iter_succ q2
    unfold m_merkle_parts_1_b1 at q4
    refine wpc_seq <| ws <| s_ld (i := 0) (cs := [v1]) S1 rfl rfl isAgg43 sizeOf43 rfl (fun _ => rfl) <| s_lenR (xs := s1.1) rfl h1 underlying43 <| s_gtr (m := (s1.1.length : Int)) (n := 0) rfl rfl <| wpl_nil <| nrm <| wpc_if (t := (decide ((s1.1.length : Int) > 0))) rfl (fun hc1 => ?_) (fun hc1 => ?_)
    · replace q4 := ifT hc1 q4
      refine wpc_skip <| nrm <| wpc_block <| ws <| s_ld (i := 0) (cs := [v1]) S1 rfl rfl isAgg43 sizeOf43 rfl (fun _ => rfl) <| s_lenR (xs := s1.1) rfl h1 underlying43 <| s_convU rfl underlying3 underlying88 ?_
      obtain ⟨x3, q6, q4⟩ := obind_some q4
      refine s_call call72 (w_bits_Len (a0 := (toU (s1.1.length : Int))) S1  q6) rfl ?_
      rintro _ w2 ⟨m2, l1, S2, rfl⟩
      replace h2 := hup l1 h2
      clear S1
      refine s_subI (m := x3) (n := 1) rfl rfl ?_
      obtain ⟨q7, q4⟩ := if_some q4
      refine s_shlI (m := 1) (n := (w64 (x3 - 1))) rfl rfl q7 ?_
      obtain ⟨x4, q8, q4⟩ := bnd_eq q4
      refine s_asv (v := vI x4) (congrArg (fun z => vI z) q8.symm) <| nx <| s_ld (i := 0) (cs := [v1]) S2 rfl rfl isAgg43 sizeOf43 rfl (fun _ => rfl) <| s_mvv (v := vI x4) rfl ?_
      obtain ⟨x5, q9, q4⟩ := obind_some q4
      refine s_cut (ys := x5) (l := 0) (h := x4) rfl (h1.up l1) underlying43 sizeOf36 (.inl ⟨rfl, rfl⟩) (.inr ⟨_, rfl⟩) (.inl rfl) q9 fun v3 h5 => ?_
      obtain ⟨x6, q10, q4⟩ := obind_some q4
      refine s_call call86 (w_slices_Clone_api_Sum_api_Sum (a0 := x5) S2 h5 q10) rfl ?_
      rintro v4 w3 ⟨m3, l2, _, c1, S3, rfl, h6⟩
      replace h2 := hup l2 h2
      clear S2
      refine s_asv (v := v4) rfl <| wpl_nil <| nrm ?_
      obtain ⟨x7, q11, q4⟩ := obind_some q4
      have L4 := Mem.rfl' m3
      refine wpc_seq <| wpc_join [4, 5, 19, 20, 21, 22, 23, 24, 25, 26, 27, 28, 29, 30, 31, 32, 33, 34, 35, 36, 37, 38, 39, 40, 41, 42, 43, 44, 45, 46, 47, 48] (fun f' w' => ∃ (M2 : Mem) (v5 : Value) (c2 : List Value), m3 ≤ M2 ∧ St M2 ((row 2 v5 c2 x7.length) :: (bx kb0 [v1] 43) :: (X1 ++ As)) w' ∧ RepL M2 c2 x7 ∧ AllAt f' [(4, v5)]) ?_ ?_
      · obtain ⟨x8, q12, q11⟩ := obind_some q11
        have L5 := Mem.rfl' m3
        refine wpc_join [4, 5, 19, 20, 21, 22, 23, 24, 25, 26, 27, 28, 29, 30, 31, 32, 33, 34, 35, 36, 37, 38, 39, 40, 41, 42, 43, 44, 45, 46, 47, 48] (fun f' w' => ∃ (M3 : Mem) (v7 : Value) (c4 : List Value), m3 ≤ M3 ∧ St M3 ((row 2 v7 c4 x8.length) :: (bx kb0 [v1] 43) :: (X1 ++ As)) w' ∧ RepL M3 c4 x8 ∧ AllAt f' [(4, v7)]) ?_ ?_
        · refine wpc_block <| wpc_rounds [4, 5, 19, 20, 21, 22, 23, 24, 25, 26, 27, 28, 29, 30, 31, 32, 33, 34, 35, 36, 37, 38, 39, 40, 41, 42, 43, 44, 45, 46, 47, 48] (fun n2 f' w' => ∃ (s2 : (List (UInt64 × UInt64))) (m25 : Mem) (v6 : Value) (c3 : List Value), iter m_merkle_parts_1_b2 n2 s2 = some x8 ∧ m3 ≤ m25 ∧ St m25 ((row 2 v6 c3 s2.length) :: (bx kb0 [v1] 43) :: (X1 ++ As)) w' ∧ RepL m25 c3 s2 ∧ AllAt f' [(4, v6)]) FUEL ⟨x6, m3, _, _, q12, L5, S3, h6, ⟨rfl, trivial⟩⟩ ?_
          rintro n2 f2 w4 ho ⟨s2, m4, v6, c3, q13, L7, S4, h8, ha⟩
          obtain ⟨u2, rfl⟩ := fr_of (N := 60) ho ha
          clear ho ha
          replace h2 := hup L7 h2
          have L6 := Mem.rfl' m4
          clear S3
          cases n2 with
          | zero => exact (iter_zero q13).elim
          | succ n2 =>
           obtain ⟨y3, q15, q14⟩ := iter_succ q13
           unfold m_merkle_parts_1_b2 at q15
           refine wpc_seq <| ws <| s_mvv (v := v6) rfl <| s_lenO (i := 0) S4 rfl rfl underlying43 <| s_gtr (m := (s2.length : Int)) (n := 1) rfl rfl <| wpl_nil <| nrm <| wpc_if (t := (decide ((s2.length : Int) > 1))) rfl (fun hc2 => ?_) (fun hc2 => ?_)
           · replace q15 := ifT hc2 q15
             refine wpc_skip <| nrm <| wpc_block ?_
             obtain ⟨x10, q17, q15⟩ := obind_some q15
             have L8 := Mem.rfl' m4
             refine wpc_seq <| wpc_join [5, 22, 23, 24, 25, 26, 27, 28, 29, 30, 31, 32, 33, 34, 35, 36, 37, 38, 39, 40, 41, 42, 43] (fun f' w' => ∃ (M4 : Mem) (c5 : List Value), m4 ≤ M4 ∧ St M4 ((row 2 v6 c5 x10.length) :: (bx kb0 [v1] 43) :: (X1 ++ As)) w' ∧ RepL M4 c5 x10 ∧ AllAt f' []) ?_ ?_
             · refine ws <| s_mvv (v := v6) rfl <| s_lenO (i := 0) S4 rfl rfl underlying43 <| s_quoI (m := (s2.length : Int)) (n := 2) rfl rfl (by decide) ?_
               obtain ⟨x11, q18, q17⟩ := bnd_eq q17
               refine s_re (congrArg (fun z => vI z) q18.symm) <| s_mvv (v := vI 0) rfl <| wpl_nil <| nrm ?_
               obtain ⟨x12, q19, q17⟩ := obind_some q17
               have L9 := Mem.rfl' m4
               refine wpc_join [5, 25, 26, 27, 28, 29, 30, 31, 32, 33, 34, 35, 36, 37, 38, 39, 40, 41, 42, 43] (fun f' w' => ∃ (M5 : Mem) (c7 : List Value), m4 ≤ M5 ∧ St M5 ((row 2 v6 c7 x12.length) :: (bx kb0 [v1] 43) :: (X1 ++ As)) w' ∧ RepL M5 c7 x12 ∧ AllAt f' []) ?_ ?_
               · refine wpc_block <| wpc_rounds [5, 25, 26, 27, 28, 29, 30, 31, 32, 33, 34, 35, 36, 37, 38, 39, 40, 41, 42, 43] (fun n3 f' w' => ∃ (i3 : Nat) (s3 : (List (UInt64 × UInt64))) (m22 : Mem) (c6 : List Value), n3 = (Int.toNat x11) - i3 ∧ i3 ≤ (Int.toNat x11) ∧ eachN0 m_merkle_parts_1_b3 ((Int.toNat x11) - i3) (i3 : Int) s3 = some x12 ∧ m4 ≤ m22 ∧ St m22 ((row 2 v6 c6 s3.length) :: (bx kb0 [v1] 43) :: (X1 ++ As)) w' ∧ RepL m22 c6 s3 ∧ AllAt f' [(25, vI (i3 : Int))]) (Int.toNat x11) ⟨0, s2, m4, _, rfl, Nat.zero_le _, q19, L9, S4, h8, ⟨rfl, trivial⟩⟩ ?_
                 rintro n3 f3 w5 ho ⟨i3, s3, m5, c6, hn, hi, q20, L11, S5, h11, ha⟩
                 obtain ⟨u3, rfl⟩ := fr_of (N := 60) ho ha
                 clear ho ha
                 replace h2 := hup L11 h2
                 have L10 := Mem.rfl' m5
                 clear S4
                 refine ws <| s_lss (m := (i3 : Int)) (n := x11) rfl rfl <| wpl_nil <| nrm <| wpc_seq <| wpc_if (t := decide ((i3 : Int) < x11)) rfl (fun hc3 => ?_) (fun hc3 => ?_)
                 · have hlt3 : i3 < (Int.toNat x11) := by have := of_decide_eq_true hc3; omega
                   obtain ⟨y4, q22, q21⟩ := eachN0_in q20 hlt3
                   unfold m_merkle_parts_1_b3 at q22
                   refine wpc_skip <| nrm <| wpc_seq <| wpc_block <| ws <| s_mvv (v := vI (i3 : Int)) rfl <| s_asv (v := vI (i3 : Int)) rfl <| wpl_nil <| nrm ?_
                   obtain ⟨x14, q24, q22⟩ := obind_some q22
                   obtain ⟨x15, q25, q22⟩ := obind_some q22
                   obtain ⟨x16, q26, q22⟩ := obind_some q22
                   have HM : MonoAll [(28, fv v6), (29, fv (vI (i3 : Int))), (30, fv v6), (31, fv (vI (i3 : Int))), (32, fv (vI (w64 (2 * (i3 : Int))))), (33, fun (M : Mem) (v : Value) => ∃ (p1 : Value), v = p1 ∧ PtO v6 p1 ((w64 (2 * (i3 : Int))).toNat * 2)), (34, fv (.agg #[vU x14.1, vU x14.2])), (35, fv v6), (36, fv (vI (i3 : Int))), (37, fv (vI (w64 (2 * (i3 : Int))))), (38, fv (vI (w64 ((w64 (2 * (i3 : Int))) + 1)))), (39, fun (M : Mem) (v : Value) => ∃ (p2 : Value), v = p2 ∧ PtO v6 p2 ((w64 ((w64 (2 * (i3 : Int))) + 1)).toNat * 2)), (40, fv (.agg #[vU x15.1, vU x15.2])), (41, fv (.agg #[vU x16.1, vU x16.2]))] := ⟨mv, mv, mv, mv, mv, (fun _ _ _ l ⟨p1, e, h13⟩ => ⟨p1, e, h13⟩), mv, mv, mv, mv, mv, (fun _ _ _ l ⟨p2, e, h15⟩ => ⟨p2, e, h15⟩), mv, mv, trivial⟩
                   refine wpc_flowG HM 14 mixed rfl rfl rfl (rg 28 14) (fun L f M w => St M ((row 2 v6 c6 s3.length) :: (bx kb0 [v1] 43) :: (X1 ++ As)) w) (St.drew S5 _) ?_ ?_
                   · refine ⟨?_, ?_, ?_, ?_, ?_, ?_, ?_, ?_, ?_, ?_, ?_, ?_, ?_, ?_, trivial⟩
                     · exact flp HM rfl [] (fun _ _ => trivial) (fun _ _ q => s_mvv (v := v6) rfl q) rfl
                     · exact flp HM rfl [] (fun _ _ => trivial) (fun _ _ q => s_mvv (v := vI (i3 : Int)) rfl q) rfl
                     · exact flp HM rfl [] (fun _ _ => trivial) (fun _ _ q => s_mvv (v := v6) rfl q) rfl
                     · exact flp HM rfl [] (fun _ _ => trivial) (fun _ _ q => s_mvv (v := vI (i3 : Int)) rfl q) rfl
                     · exact flp HM rfl [(31, _)] (fun K _ => ⟨K 3 rfl, trivial⟩) (fun _ _ q => s_mulI (m := 2) (n := (i3 : Int)) rfl rfl q) rfl
                     · intro L f9 w11 hL hd hc ⟨m11, L22, S11, K, hO⟩
                       obtain ⟨u9, rfl⟩ := fr_of (N := 60) (L := [(30, _), (32, _)]) hO ⟨K 2 (dep hd rfl), K 4 (dep hd rfl), trivial⟩
                       replace h2 := hup L22 h2
                       exact s_idxO (i := 0) (j := (w64 (2 * (i3 : Int)))) S11 rfl rfl rfl (idx_rng q24).1 (idx_rng q24).2 underlying43 sizeOf36 fun p1 h13 => oS HM L22 S11 rfl K rfl rfl ⟨p1, rfl, h13⟩ outP
                     · intro L f10 w12 hL hd hc ⟨m12, L24, S12, K, hO⟩
                       obtain ⟨v8, e4, h14⟩ := K 5 (dep hd rfl)
                       obtain ⟨u10, rfl⟩ := fr_of (N := 60) (L := [(33, _)]) hO ⟨e4, trivial⟩
                       replace h2 := hup L24 h2
                       replace h11 := RepL.up L24 h11
                       have e5 := rep_arr2_UInt64 (RepL.getI h11 q24)
                       exact s_ldO (i := 0) (off := (w64 (2 * (i3 : Int))).toNat * 2) (d := [vU x14.1, vU x14.2]) S12 rfl h14 rfl e5 isAgg36 sizeOf36 (fun h => by cases h) <| oS HM L24 S12 rfl K rfl rfl rfl outP
                     · exact flp HM rfl [] (fun _ _ => trivial) (fun _ _ q => s_mvv (v := v6) rfl q) rfl
                     · exact flp HM rfl [] (fun _ _ => trivial) (fun _ _ q => s_mvv (v := vI (i3 : Int)) rfl q) rfl
                     · exact flp HM rfl [(36, _)] (fun K _ => ⟨K 8 rfl, trivial⟩) (fun _ _ q => s_mulI (m := 2) (n := (i3 : Int)) rfl rfl q) rfl
                     · exact flp HM rfl [(37, _)] (fun K _ => ⟨K 9 rfl, trivial⟩) (fun _ _ q => s_addI (m := (w64 (2 * (i3 : Int)))) (n := 1) rfl rfl q) rfl
                     · intro L f15 w17 hL hd hc ⟨m17, L34, S17, K, hO⟩
                       obtain ⟨u15, rfl⟩ := fr_of (N := 60) (L := [(35, _), (38, _)]) hO ⟨K 7 (dep hd rfl), K 10 (dep hd rfl), trivial⟩
                       replace h2 := hup L34 h2
                       exact s_idxO (i := 0) (j := (w64 ((w64 (2 * (i3 : Int))) + 1))) S17 rfl rfl rfl (idx_rng q25).1 (idx_rng q25).2 underlying43 sizeOf36 fun p2 h15 => oS HM L34 S17 rfl K rfl rfl ⟨p2, rfl, h15⟩ outP
                     · intro L f16 w18 hL hd hc ⟨m18, L36, S18, K, hO⟩
                       obtain ⟨v9, e10, h16⟩ := K 11 (dep hd rfl)
                       obtain ⟨u16, rfl⟩ := fr_of (N := 60) (L := [(39, _)]) hO ⟨e10, trivial⟩
                       replace h2 := hup L36 h2
                       replace h11 := RepL.up L36 h11
                       have e11 := rep_arr2_UInt64 (RepL.getI h11 q25)
                       exact s_ldO (i := 0) (off := (w64 ((w64 (2 * (i3 : Int))) + 1)).toNat * 2) (d := [vU x15.1, vU x15.2]) S18 rfl h16 rfl e11 isAgg36 sizeOf36 (fun h => by cases h) <| oS HM L36 S18 rfl K rfl rfl rfl outP
                     · intro L f17 w19 hL hd hc ⟨m19, L38, S19, K, hO⟩
                       obtain ⟨u17, rfl⟩ := fr_of (N := 60) (L := [(34, _), (40, _)]) hO ⟨K 6 (dep hd rfl), K 12 (dep hd rfl), trivial⟩
                       replace h2 := hup L38 h2
                       have L39 := Mem.rfl' m19
                       refine s_call call37 (w_hash_Pair (a0 := x14) (a1 := x15) S19  q26) rfl ?_
                       rintro _ w20 ⟨m20, l3, S20, rfl⟩
                       clear S19
                       refine wpn ?_
                       replace L39 := Mem.tr L39 l3
                       exact ⟨m20, Mem.tr L38 L39, S20, facts_step HM rfl K L39 rfl rfl rfl, outP⟩
                   intro L f18 w21 hall ⟨m21, L40, S21, K, hO⟩
                   have d0 : L 0 = true := hall 0 (by decide)
                   have d1 : L 1 = true := hall 1 (by decide)
                   have d13 : L 13 = true := hall 13 (by decide)
                   obtain ⟨u18, rfl⟩ := fr_of (N := 60) (L := [(28, _), (29, _), (41, _)]) hO ⟨K 0 d0, K 1 d1, K 13 d13, trivial⟩
                   replace S21 : St _ ((row 2 v6 c6 s3.length) :: (bx kb0 [v1] 43) :: (X1 ++ As)) _ := S21
                   replace h2 := hup L40 h2
                   clear S5
                   obtain ⟨x17, q27, q22⟩ := obind_some q22
                   refine s_idxO (i := 0) (j := (i3 : Int)) S21 rfl rfl rfl (idx_rng q27).1 (idx_rng q27).2 underlying43 sizeOf36 fun p3 h17 => ?_
                   obtain ⟨x18, q28, q22⟩ := bnd_eq q22
                   replace h11 := RepL.up L40 h11
                   refine s_stOR (i := 0) (j := (i3 : Int)) (z := x16) S21 rfl rfl h17 rfl h11 q27 sizeOf36 (oneC rfl (oneC rfl oneN)) mk_arr2_UInt64 fun w22 c8 S22 h18 => ?_
                   rw [← q28] at S22 h18
                   replace S22 : St _ ((row 2 v6 c8 x18.length) :: (bx kb0 [v1] 43) :: (X1 ++ As)) _ := S22
                   clear S21
                   refine wpl_nil <| nrmB <| nrm <| wpc_region <| s_addI (m := (i3 : Int)) (n := 1) rfl rfl <| s_mvv (v := vI (w64 ((i3 : Int) + 1))) rfl <| wpl_nil <| nrm ?_
                   have e0 := Option.some.inj q22
                   subst e0
                   replace L10 := Mem.tr L10 L40
                   exact ⟨outP, _, (by omega), ⟨i3 + 1, x18, m21, _, rfl, hlt3, q21, Mem.tr L11 L10, S22, h18, ⟨congrArg (Value.int .i64) (w64_succ hlt3 (by rw [q18]; exact w64_toNat_le _)), trivial⟩⟩⟩
                 have hlt3 : ¬ i3 < (Int.toNat x11) := by have := of_decide_eq_false hc3; omega
                 have e := Eq.symm (eachN0_out q20 hlt3)
                 subst e
                 exact wpc_exit <| thE <| thE <| exB <| nrm <| ⟨outP, m5, _, Mem.tr L11 L10, S5, h11, trivial⟩
               rintro f19 w23 ho ⟨m23, c7, l4, S23, h12, ha⟩
               obtain ⟨u19, rfl⟩ := fr_of (N := 60) ho ha
               clear ho ha
               replace h2 := hup l4 h2
               clear S4
               have e0 := Option.some.inj q17
               subst e0
               replace L8 := Mem.tr L8 l4
               exact ⟨outP, m23, _, L8, S23, h12, trivial⟩
             rintro f20 w24 ho ⟨m24, c5, l5, S24, h10, ha⟩
             obtain ⟨u20, rfl⟩ := fr_of (N := 60) ho ha
             replace h2 := hup l5 h2
             clear S4
             refine wpc_region <| s_mvv (v := v6) rfl <| s_mvv (v := v6) rfl <| s_lenO (i := 0) S24 rfl rfl underlying43 <| s_quoI (m := (x10.length : Int)) (n := 2) rfl rfl (by decide) ?_
             obtain ⟨x19, q29, q15⟩ := bnd_eq q15
             refine s_re (congrArg (fun z => vI z) q29.symm) ?_
             obtain ⟨⟨q30, q31⟩, q15⟩ := if_some q15
             refine s_cutO (i := 0) S24 rfl rfl underlying43 sizeOf36 rfl rfl q30 q31 fun v10 S25 => ?_
             have h19 := RepL.take h10 x19.toNat
             replace S25 : St m24 ((row 2 v10 (c5.take (x19.toNat * 2)) (x10.take x19.toNat).length) :: (bx kb0 [v1] 43) :: (X1 ++ As)) w24 := by rw [show ((x10.take x19.toNat)).length = x19.toNat from by simp; omega]; exact S25
             clear S24
             refine s_asv (v := v10) rfl <| wpl_nil <| nrmB <| nrm ?_
             have e0 := Option.some.inj q15
             subst e0
             rcases q14 with ⟨sn, e, q14'⟩ | e
             · cases e
               replace L6 := Mem.tr L6 l5
               exact ⟨outP, _, Nat.lt_succ_self _, ⟨_, m24, _, _, q14', Mem.tr L7 L6, S25, h19, ⟨rfl, trivial⟩⟩⟩
             · cases e
           replace q15 := ifF hc2 q15
           refine wpc_exit <| thE <| thE <| exB <| nrm ?_
           have e0 := Option.some.inj q15
           subst e0
           rcases q14 with ⟨sn, e, _⟩ | e
           · cases e
           · cases e
             exact ⟨outP, m4, _, _, Mem.tr L7 L6, S4, h8, ⟨rfl, trivial⟩⟩
        rintro f21 w25 ho ⟨m26, v7, c4, l6, S26, h9, ha⟩
        obtain ⟨u21, rfl⟩ := fr_of (N := 60) ho ha
        clear ho ha
        replace h2 := hup l6 h2
        clear S3
        have e0 := Option.some.inj q11
        subst e0
        replace L4 := Mem.tr L4 l6
        exact ⟨outP, m26, _, _, L4, S26, h9, ⟨rfl, trivial⟩⟩
      rintro f22 w26 ho ⟨m27, v5, c2, l7, S27, h7, ha⟩
      obtain ⟨u22, rfl⟩ := fr_of (N := 60) ho ha
      replace h2 := hup l7 h2
      clear S3
      refine wpc_seq <| ws <| s_mvv (v := f0) rfl <| s_mvv (v := vI x4) rfl <| s_mvv (v := v5) rfl ?_
      obtain ⟨x20, q32, q4⟩ := obind_some q4
      refine s_idxO (i := 0) (j := 0) S27 rfl rfl rfl (idx_rng q32).1 (idx_rng q32).2 underlying43 sizeOf36 fun p4 h20 => ?_
      have e17 := rep_arr2_UInt64 (RepL.getI h7 q32)
      refine s_ldO (i := 0) (off := (0 : Int).toNat * 2) (d := [vU x20.1, vU x20.2]) S27 rfl h20 rfl e17 isAgg36 sizeOf36 (fun h => by cases h) <| s_build (parts := [(0, .tmp 50), (1, .tmp 53)]) (ps := [(0, vI x4, [vI x4]), (1, .agg #[vU x20.1, vU x20.2], [vU x20.1, vU x20.2])]) (cs := [vI x4, vU x20.1, vU x20.2]) zeroValue107 (BuildPl.str (ss := [1, 2]) underlying107 ⟨sizeOf3, sizeOf36, trivial⟩) rfl ⟨rfl, rfl, trivial⟩ rfl ?_
      obtain ⟨x21, q33, q4⟩ := obind_some q4
      have S28 := St.absF (L := [row 2 v5 c2 x7.length, bx kb0 [v1] 43]) (X := X1) (As := As) S27
      refine s_callV rfl (cb0 S28 h2 q33) rfl ?_
      rintro _ w27 ⟨m28, X3, l8, S29, h21, rfl⟩
      replace S29 := St.absF (L := X3) (X := [row 2 v5 c2 x7.length, bx kb0 [v1] 43]) (As := As) S29
      clear S28
      replace S29 : St _ ((row 2 v5 c2 x7.length) :: (bx kb0 [v1] 43) :: (X3 ++ As)) _ := S29
      clear S27
      refine s_not rfl <| wpl_nil <| nrm <| wpc_if (t := (!x21.1)) rfl (fun hc4 => ?_) (fun hc4 => ?_)
      · replace q4 := ifT hc4 q4
        refine wpc_ret <| thR <| blR <| thR <| blR <| thR <| outRw fun we hpd => ?_
        replace S29 := St.pd S29 hpd
        obtain ⟨m29, l9, S30⟩ := St.drop S29 0
        replace h21 := hup l9 h21
        clear S29
        replace S30 : St _ ((bx kb0 [v1] 43) :: (X3 ++ As)) _ := S30
        cases q4
        rcases q3 with ⟨sn, e, _⟩ | e
        · cases e
        cases e
        dsimp only at hm
        have e0 := Option.some.inj hm
        subst e0
        replace h1 := h1.up (mt l1 (mt l2 (mt l7 (mt l8 l9))))
        replace L2 := Mem.tr L2 (mt l1 (mt l2 (mt l7 (mt l8 l9))))
        exact outR [] rfl trivial ⟨_, (Mem.tr L0 (Mem.tr L3 L2)), _, _, S30, rfl, h1, h21⟩
      replace q4 := ifF hc4 q4
      refine wpc_skip <| nrm <| wpc_region <| s_ld (i := 1) (cs := [v1]) S29 rfl rfl isAgg43 sizeOf43 rfl (fun _ => rfl) <| s_mvv (v := vI x4) rfl ?_
      obtain ⟨x22, q34, q4⟩ := obind_some q4
      replace h1 := h1.up (mt l1 (mt l2 (mt l7 l8)))
      refine s_cut (ys := x22) (l := x4) (h := (s1.1.length : Int)) rfl h1 underlying43 sizeOf36 (.inr ⟨_, rfl⟩) (.inl ⟨rfl, rfl⟩) (.inl rfl) q34 fun v11 h22 => s_stS (i := 1) S29 rfl rfl rfl sizeOf43 ⟨SlR.cells h22, SlR.one h22⟩ rfl fun w28 S31 => ?_
      replace S31 : St _ ((row 2 v5 c2 x7.length) :: (bx kb0 [v11] 43) :: (X3 ++ As)) _ := S31
      clear S29
      refine wpl_nil <| nrmB <| nrm ?_
      obtain ⟨m30, l10, S32⟩ := St.drop S31 0
      replace h21 := hup l10 h21
      clear S31
      replace S32 : St _ ((bx kb0 [v11] 43) :: (X3 ++ As)) _ := S32
      have e0 := Option.some.inj q4
      subst e0
      rcases q3 with ⟨sn, e, q3'⟩ | e
      · cases e
        replace L2 := Mem.tr L2 (mt l1 (mt l2 (mt l7 (mt l8 l10))))
        exact ⟨outP, _, Nat.lt_succ_self _, ⟨_, m30, _, _, q3', Mem.tr L3 L2, S32, (h22.up l10), h21, trivial⟩⟩
      · cases e
    replace q4 := ifF hc1 q4
    refine wpc_exit <| thE <| thE <| exB <| nrm ?_
    have e0 := Option.some.inj q4
    subst e0
    rcases q3 with ⟨sn, e, _⟩ | e
    · cases e
    · cases e
      exact ⟨outP, m1, _, _, _, rfl, Mem.tr L3 L2, S1, h1, h2, trivial⟩
 rintro f23 w29 ho ⟨m32, y1, v2, X2, rfl, l11, S33, h3, h4, ha⟩
 obtain ⟨u23, rfl⟩ := fr_of (N := 60) ho ha
 clear ho ha
 dsimp only at hm
 clear S
 refine outNw fun we hpd => ?_
 replace S33 := St.pd S33 hpd
 have e0 := Option.some.inj hm
 subst e0
 replace L0 := Mem.tr L0 l11
 exact outR [] rfl trivial ⟨_, L0, _, _, S33, rfl, h3, h4⟩

def m_merkle_parts (a0 : List (UInt64 × UInt64)) : Option (List (UInt64 × UInt64)) :=
  some a0

theorem w_merkle_parts {m : Mem} {As : List Ow} {w : World} {a0 : List (UInt64 × UInt64)} {a0v0 : Value} {r : (List (UInt64 × UInt64))} (S : St m (As) w) (a0h0 : SlR m a0v0 a0) (hm : m_merkle_parts a0 = some r) :
    CallsR Tryz.prog 57 #[a0v0] w fun v w' => ∃ (M : Mem), m ≤ M ∧ ∃ (rk0_0 : Nat) (rc0_0_0 : Value), St M ((bx rk0_0 [rc0_0_0] 43) :: As) w' ∧ v = .func (.func 85) #[] #[pt rk0_0 0] ∧ SlR M rc0_0_0 r := by
 unfold m_merkle_parts at hm
 have L0 := Mem.rfl' m
 refine callsR (args := [a0v0]) func57 rfl ntmps57 (nb rfl) <| ws <| s_boxS S rfl (SlR.cells a0h0) fun b1 w1 S1 => ?_
 replace S1 : St _ ((bx b1 [a0v0] 43) :: As) _ := S1
 clear S
 refine s_asv (v := .nilFunc) rfl <| nx <| s_funcC (caps := [pt b1 0]) rfl <| s_asv (v := .func (.func 85) #[] #[pt b1 0]) rfl <| wpl_nil <| nrm <| wpc_ret <| outRw fun we hpd => ?_
 replace S1 := St.pd S1 hpd
 have e0 := Option.some.inj hm
 subst e0
 exact outR [_] rfl ⟨rfl, trivial⟩ ⟨_, L0, _, _, S1, rfl, a0h0⟩

def m_slices_Reverse_merkle_part_merkle_part_b1  (s1 : Int × Int × (List g_merkle_part)) : Option ((Int × Int × (List g_merkle_part)) ⊕ ((List g_merkle_part))) :=
  if (decide (s1.1 < s1.2.1)) = true then
    obind (idx s1.2.2 s1.2.1) fun x4 =>
    obind (idx s1.2.2 s1.1) fun x5 =>
    obind (idx s1.2.2 s1.1) fun x6 =>
    bnd (s1.2.2.set s1.1.toNat x4) fun x7 =>
    obind (idx x7 s1.2.1) fun x8 =>
    bnd (x7.set s1.2.1.toNat x5) fun x9 =>
    some (.inl ((w64 (s1.1 + 1)), (w64 (s1.2.1 - 1)), x9))
  else
  some (.inr s1.2.2)

def m_slices_Reverse_merkle_part_merkle_part (a0 : List g_merkle_part) : Option (List g_merkle_part) :=
  bnd ((w64 ((a0.length : Int) - 1))) fun x1 =>
  obind (iter m_slices_Reverse_merkle_part_merkle_part_b1 FUEL (0, x1, a0)) fun x2 =>
  some x2

theorem w_slices_Reverse_merkle_part_merkle_part {m : Mem} {As : List Ow} {w : World} {a0 : List g_merkle_part} {a0v0 : Value} {a0c0 : List Value} {r : List g_merkle_part} (S : St m ((row 3 a0v0 a0c0 a0.length) :: As) w) (a0h0 : RepL m a0c0 a0) (hm : m_slices_Reverse_merkle_part_merkle_part a0 = some r) :
    CallsR Tryz.prog 58 #[a0v0] w fun v w' => ∃ (M : Mem), m ≤ M ∧ ∃ (rk0 : List Value), St M ((row 3 a0v0 rk0 r.length) :: As) w' ∧ v = .tuple #[] ∧ RepL M rk0 r := by
 unfold m_slices_Reverse_merkle_part_merkle_part at hm
 have L0 := Mem.rfl' m
 refine callsR (args := [a0v0]) func58 rfl ntmps58 (nb rfl) <| ws <| s_mvv (v := a0v0) rfl <| s_lenO (i := 0) S rfl rfl underlying104 <| s_subI (m := (a0.length : Int)) (n := 1) rfl rfl <| s_asv (v := vI 0) rfl ?_
 obtain ⟨x1, q1, hm⟩ := bnd_eq hm
 refine s_asv (v := vI x1) (congrArg (fun z => vI z) q1.symm) <| wpl_nil <| nrm ?_
 obtain ⟨x2, q2, hm⟩ := obind_some hm
 have L1 := Mem.rfl' m
 refine wpc_wrap <| wpc_join [2, 3, 7, 8, 9, 10, 11, 12, 13, 14, 15, 16, 17, 18, 19, 20, 21, 22, 23, 24, 25, 26, 27] (fun f' w' => ∃ (M1 : Mem) (c2 : List Value), m ≤ M1 ∧ St M1 ((row 3 a0v0 c2 x2.length) :: As) w' ∧ RepL M1 c2 x2 ∧ AllAt f' []) ?_ ?_
 · refine wpc_block <| wpc_rounds [2, 3, 7, 8, 9, 10, 11, 12, 13, 14, 15, 16, 17, 18, 19, 20, 21, 22, 23, 24, 25, 26, 27] (fun n1 f' w' => ∃ (s1 : Int × Int × (List g_merkle_part)) (m17 : Mem) (c1 : List Value), iter m_slices_Reverse_merkle_part_merkle_part_b1 n1 s1 = some x2 ∧ m ≤ m17 ∧ St m17 ((row 3 a0v0 c1 s1.2.2.length) :: As) w' ∧ RepL m17 c1 s1.2.2 ∧ AllAt f' [(2, vI s1.1), (3, vI s1.2.1)]) FUEL ⟨(0, x1, a0), m, _, q2, L1, S, a0h0, ⟨rfl, rfl, trivial⟩⟩ ?_
   rintro n1 f1 w1 ho ⟨s1, m1, c1, q3, L3, S1, h1, ha⟩
   obtain ⟨u1, rfl⟩ := fr_of (N := 28) ho ha
   clear ho ha
   have L2 := Mem.rfl' m1
   clear S
   cases n1 with
   | zero => exact (iter_zero q3).elim
   | succ n1 =>
    obtain ⟨y1, q5, q4⟩ := iter_succ q3
    unfold m_slices_Reverse_merkle_part_merkle_part_b1 at q5
    refine wpc_seq <| ws <| s_mvv (v := vI s1.1) rfl <| s_mvv (v := vI s1.2.1) rfl <| s_lss (m := s1.1) (n := s1.2.1) rfl rfl <| wpl_nil <| nrm <| wpc_if (t := (decide (s1.1 < s1.2.1))) rfl (fun hc1 => ?_) (fun hc1 => ?_)
    · replace q5 := ifT hc1 q5
      refine wpc_skip <| nrm <| wpc_seq <| wpc_block ?_
      obtain ⟨x4, q7, q5⟩ := obind_some q5
      obtain ⟨x5, q8, q5⟩ := obind_some q5
      obtain ⟨x6, q9, q5⟩ := obind_some q5
      obtain ⟨x7, q10, q5⟩ := bnd_eq q5
      have HM : MonoAll [(14, fv a0v0), (15, fv (vI s1.1)), (16, fv a0v0), (17, fv (vI s1.2.1)), (18, fv a0v0), (19, fv (vI s1.2.1)), (20, fun (M : Mem) (v : Value) => ∃ (p1 : Value), v = p1 ∧ PtO a0v0 p1 (s1.2.1.toNat * 3)), (21, fv (.agg (c_merkle_part x4).toArray)), (22, fv a0v0), (23, fv (vI s1.1)), (24, fun (M : Mem) (v : Value) => ∃ (p2 : Value), v = p2 ∧ PtO a0v0 p2 (s1.1.toNat * 3)), (25, fv (.agg (c_merkle_part x5).toArray)), (26, fun (M : Mem) (v : Value) => ∃ (p3 : Value), v = p3 ∧ PtO a0v0 p3 (s1.1.toNat * 3)), (100013, fun _ _ => True)] := ⟨mv, mv, mv, mv, mv, mv, (fun _ _ _ l ⟨p1, e, h4⟩ => ⟨p1, e, h4⟩), mv, mv, mv, (fun _ _ _ l ⟨p2, e, h8⟩ => ⟨p2, e, h8⟩), mv, (fun _ _ _ l ⟨p3, e, h12⟩ => ⟨p3, e, h12⟩), (fun _ _ _ _ h => h), trivial⟩
      refine wpc_flowG HM 14 mixed rfl rfl rfl (rg 14 13) (fun L f M w => ∃ (X1 : List Ow), ((L 13 = false → (RowS M X1 3 a0v0 s1.2.2)) ∧ (L 13 = true → (RowS M X1 3 a0v0 x7))) ∧ St M ((X1 ++ As)) w) (⟨[row 3 a0v0 c1 s1.2.2.length], ⟨fun _ => ⟨_, rfl, h1⟩, fun hx => ff hx⟩, St.drew S1 _⟩) ?_ ?_
      · refine ⟨?_, ?_, ?_, ?_, ?_, ?_, ?_, ?_, ?_, ?_, ?_, ?_, ?_, ?_, trivial⟩
        · exact flp HM rfl [] (fun _ _ => trivial) (fun _ _ q => s_mvv (v := a0v0) rfl q) rfl
        · exact flp HM rfl [] (fun _ _ => trivial) (fun _ _ q => s_mvv (v := vI s1.1) rfl q) rfl
        · exact flp HM rfl [] (fun _ _ => trivial) (fun _ _ q => s_mvv (v := a0v0) rfl q) rfl
        · exact flp HM rfl [] (fun _ _ => trivial) (fun _ _ q => s_mvv (v := vI s1.2.1) rfl q) rfl
        · exact flp HM rfl [] (fun _ _ => trivial) (fun _ _ q => s_mvv (v := a0v0) rfl q) rfl
        · exact flp HM rfl [] (fun _ _ => trivial) (fun _ _ q => s_mvv (v := vI s1.2.1) rfl q) rfl
        · intro L f8 w8 hL hd hc ⟨m8, L16, ⟨X1, C7, S8⟩, K, hO⟩
          have d13 : L 13 = false := undep hc hL rfl
          obtain ⟨u8, rfl⟩ := fr_of (N := 28) (L := [(18, _), (19, _)]) hO ⟨K 4 (dep hd rfl), K 5 (dep hd rfl), trivial⟩
          obtain ⟨c3, rfl, h3⟩ := C7.1 d13
          replace h3 : RepL _ c3 s1.2.2 := h3
          replace S8 : St _ ((row 3 a0v0 c3 s1.2.2.length) :: As) _ := S8
          have L17 := Mem.rfl' m8
          exact s_idxO (i := 0) (j := s1.2.1) S8 rfl rfl rfl (idx_rng q7).1 (idx_rng q7).2 underlying104 sizeOf107 fun p1 h4 => wpn <| ⟨m8, Mem.tr L16 L17, ⟨[row 3 a0v0 c3 s1.2.2.length], ⟨fun _ => ⟨_, rfl, h3⟩, fun hx => tf hx d13⟩, S8⟩, facts_step HM rfl K L17 rfl rfl ⟨p1, rfl, h4⟩, outP⟩
        · intro L f9 w9 hL hd hc ⟨m9, L18, ⟨X1, C8, S9⟩, K, hO⟩
          obtain ⟨v1, e3, h5⟩ := K 6 (dep hd rfl)
          have d13 : L 13 = false := undep hc hL rfl
          obtain ⟨u9, rfl⟩ := fr_of (N := 28) (L := [(20, _)]) hO ⟨e3, trivial⟩
          obtain ⟨c4, rfl, h6⟩ := C8.1 d13
          replace h6 : RepL _ c4 s1.2.2 := h6
          replace S9 : St _ ((row 3 a0v0 c4 s1.2.2.length) :: As) _ := S9
          have L19 := Mem.rfl' m9
          have e4 := rep_g_merkle_part (RepL.getI h6 q7)
          exact s_ldO (i := 0) (off := s1.2.1.toNat * 3) (d := (c_merkle_part x4)) S9 rfl h5 rfl e4 isAgg107 sizeOf107 (fun h => by cases h) <| wpn <| ⟨m9, Mem.tr L18 L19, ⟨[row 3 a0v0 c4 s1.2.2.length], ⟨fun _ => ⟨_, rfl, h6⟩, fun hx => tf hx d13⟩, S9⟩, facts_step HM rfl K L19 rfl rfl rfl, outP⟩
        · exact flp HM rfl [] (fun _ _ => trivial) (fun _ _ q => s_mvv (v := a0v0) rfl q) rfl
        · exact flp HM rfl [] (fun _ _ => trivial) (fun _ _ q => s_mvv (v := vI s1.1) rfl q) rfl
        · intro L f12 w12 hL hd hc ⟨m12, L24, ⟨X1, C11, S12⟩, K, hO⟩
          have d11 : L 11 = false := undep hc hL rfl
          have d13 : L 13 = false := undep hc d11 rfl
          obtain ⟨u12, rfl⟩ := fr_of (N := 28) (L := [(22, _), (23, _)]) hO ⟨K 8 (dep hd rfl), K 9 (dep hd rfl), trivial⟩
          obtain ⟨c5, rfl, h7⟩ := C11.1 d13
          replace h7 : RepL _ c5 s1.2.2 := h7
          replace S12 : St _ ((row 3 a0v0 c5 s1.2.2.length) :: As) _ := S12
          have L25 := Mem.rfl' m12
          exact s_idxO (i := 0) (j := s1.1) S12 rfl rfl rfl (idx_rng q8).1 (idx_rng q8).2 underlying104 sizeOf107 fun p2 h8 => wpn <| ⟨m12, Mem.tr L24 L25, ⟨[row 3 a0v0 c5 s1.2.2.length], ⟨fun _ => ⟨_, rfl, h7⟩, fun hx => tf hx d13⟩, S12⟩, facts_step HM rfl K L25 rfl rfl ⟨p2, rfl, h8⟩, outP⟩
        · intro L f13 w13 hL hd hc ⟨m13, L26, ⟨X1, C12, S13⟩, K, hO⟩
          obtain ⟨v2, e7, h9⟩ := K 10 (dep hd rfl)
          have d13 : L 13 = false := undep hc hL rfl
          obtain ⟨u13, rfl⟩ := fr_of (N := 28) (L := [(24, _)]) hO ⟨e7, trivial⟩
          obtain ⟨c6, rfl, h10⟩ := C12.1 d13
          replace h10 : RepL _ c6 s1.2.2 := h10
          replace S13 : St _ ((row 3 a0v0 c6 s1.2.2.length) :: As) _ := S13
          have L27 := Mem.rfl' m13
          have e8 := rep_g_merkle_part (RepL.getI h10 q8)
          exact s_ldO (i := 0) (off := s1.1.toNat * 3) (d := (c_merkle_part x5)) S13 rfl h9 rfl e8 isAgg107 sizeOf107 (fun h => by cases h) <| wpn <| ⟨m13, Mem.tr L26 L27, ⟨[row 3 a0v0 c6 s1.2.2.length], ⟨fun _ => ⟨_, rfl, h10⟩, fun hx => tf hx d13⟩, S13⟩, facts_step HM rfl K L27 rfl rfl rfl, outP⟩
        · intro L f14 w14 hL hd hc ⟨m14, L28, ⟨X1, C13, S14⟩, K, hO⟩
          have d13 : L 13 = false := undep hc hL rfl
          obtain ⟨u14, rfl⟩ := fr_of (N := 28) (L := [(14, _), (15, _)]) hO ⟨K 0 (dep hd rfl), K 1 (dep hd rfl), trivial⟩
          obtain ⟨c7, rfl, h11⟩ := C13.1 d13
          replace h11 : RepL _ c7 s1.2.2 := h11
          replace S14 : St _ ((row 3 a0v0 c7 s1.2.2.length) :: As) _ := S14
          have L29 := Mem.rfl' m14
          exact s_idxO (i := 0) (j := s1.1) S14 rfl rfl rfl (idx_rng q9).1 (idx_rng q9).2 underlying104 sizeOf107 fun p3 h12 => wpn <| ⟨m14, Mem.tr L28 L29, ⟨[row 3 a0v0 c7 s1.2.2.length], ⟨fun _ => ⟨_, rfl, h11⟩, fun hx => tf hx d13⟩, S14⟩, facts_step HM rfl K L29 rfl rfl ⟨p3, rfl, h12⟩, outP⟩
        · intro L f15 w15 hL hd hc ⟨m15, L30, ⟨X1, C14, S15⟩, K, hO⟩
          obtain ⟨v3, e11, h13⟩ := K 12 (dep hd rfl)
          have d13 : L 13 = false := hL
          obtain ⟨u15, rfl⟩ := fr_of (N := 28) (L := [(26, _), (21, _)]) hO ⟨e11, K 7 (dep hd rfl), trivial⟩
          obtain ⟨c8, rfl, h14⟩ := C14.1 d13
          replace h14 : RepL _ c8 s1.2.2 := h14
          replace S15 : St _ ((row 3 a0v0 c8 s1.2.2.length) :: As) _ := S15
          have L31 := Mem.rfl' m15
          refine s_stOR (i := 0) (j := s1.1) (z := x4) S15 rfl rfl h13 rfl h14 q9 sizeOf107 (oneC rfl (oneC rfl (oneC rfl oneN))) mk_g_merkle_part fun w16 c9 S16 h15 => ?_
          rw [← q10] at S16 h15
          replace S16 : St _ ((row 3 a0v0 c9 x7.length) :: As) _ := S16
          clear S15
          exact wpn <| ⟨m15, Mem.tr L30 L31, ⟨[row 3 a0v0 c9 x7.length], ⟨fun hx => tf rfl hx, fun _ => ⟨_, rfl, h15⟩⟩, S16⟩, facts_none HM K L31 rfl (fun _ => trivial), outP⟩
      intro L f16 w17 hall ⟨m16, L32, ⟨X1, C15, S17⟩, K, hO⟩
      have d2 : L 2 = true := hall 2 (by decide)
      have d3 : L 3 = true := hall 3 (by decide)
      have d11 : L 11 = true := hall 11 (by decide)
      have d13 : L 13 = true := hall 13 (by decide)
      obtain ⟨u16, rfl⟩ := fr_of (N := 28) (L := [(16, _), (17, _), (25, _)]) hO ⟨K 2 d2, K 3 d3, K 11 d11, trivial⟩
      replace S17 : St _ ((X1 ++ As)) _ := S17
      obtain ⟨c10, rfl, h16⟩ := C15.2 d13
      replace h16 : RepL _ c10 x7 := h16
      replace S17 : St _ ((row 3 a0v0 c10 x7.length) :: As) _ := S17
      clear S1
      obtain ⟨x8, q11, q5⟩ := obind_some q5
      refine s_idxO (i := 0) (j := s1.2.1) S17 rfl rfl rfl (idx_rng q11).1 (idx_rng q11).2 underlying104 sizeOf107 fun p4 h17 => ?_
      obtain ⟨x9, q12, q5⟩ := bnd_eq q5
      refine s_stOR (i := 0) (j := s1.2.1) (z := x5) S17 rfl rfl h17 rfl h16 q11 sizeOf107 (oneC rfl (oneC rfl (oneC rfl oneN))) mk_g_merkle_part fun w18 c11 S18 h18 => ?_
      rw [← q12] at S18 h18
      replace S18 : St _ ((row 3 a0v0 c11 x9.length) :: As) _ := S18
      clear S17
      refine wpl_nil <| nrmB <| nrm <| wpc_region <| s_mvv (v := vI s1.1) rfl <| s_addI (m := s1.1) (n := 1) rfl rfl <| s_mvv (v := vI s1.2.1) rfl <| s_subI (m := s1.2.1) (n := 1) rfl rfl <| s_asv (v := vI (w64 (s1.1 + 1))) rfl <| s_asv (v := vI (w64 (s1.2.1 - 1))) rfl <| wpl_nil <| nrm ?_
      have e0 := Option.some.inj q5
      subst e0
      rcases q4 with ⟨sn, e, q4'⟩ | e
      · cases e
        replace L2 := Mem.tr L2 L32
        exact ⟨outP, _, Nat.lt_succ_self _, ⟨_, m16, _, q4', Mem.tr L3 L2, S18, h18, ⟨rfl, rfl, trivial⟩⟩⟩
      · cases e
    replace q5 := ifF hc1 q5
    refine wpc_exit <| thE <| thE <| exB <| nrm ?_
    have e0 := Option.some.inj q5
    subst e0
    rcases q4 with ⟨sn, e, _⟩ | e
    · cases e
    · cases e
      exact ⟨outP, m1, _, Mem.tr L3 L2, S1, h1, trivial⟩
 rintro f17 w19 ho ⟨m18, c2, l1, S19, h2, ha⟩
 obtain ⟨u17, rfl⟩ := fr_of (N := 28) ho ha
 clear ho ha S
 refine outNw fun we hpd => ?_
 replace S19 := St.pd S19 hpd
 have e0 := Option.some.inj hm
 subst e0
 replace L0 := Mem.tr L0 l1
 exact outR [] rfl trivial ⟨_, L0, _, S19, rfl, h2⟩

def m_slices_AppendSeq_merkle_part_merkle_part_85_b2 (b3 : g_merkle_part) (s1 : (List g_merkle_part)) : Option ((List g_merkle_part)) :=
  obind (app 24 s1 ([b3] : List g_merkle_part)) fun x2 =>
  some x2

def m_slices_AppendSeq_merkle_part_merkle_part_85 (a0 : List g_merkle_part) (k0 : List (UInt64 × UInt64)) : Option ((List g_merkle_part) × (List (UInt64 × UInt64))) :=
  obind (m_merkle_parts_1 (fun (s : (List g_merkle_part)) (b0 : g_merkle_part) => obind (m_slices_AppendSeq_merkle_part_merkle_part_85_b2 b0 s) fun y => some (true, y)) k0 a0) fun x1 =>
  some (x1.2, x1.1)

theorem w_slices_AppendSeq_merkle_part_merkle_part_85 {m : Mem} {As : List Ow} {w : World} {a0 : List g_merkle_part} {a0v0 : Value} {a0c0 : List Value} {kb0 : Nat} {k0 : List (UInt64 × UInt64)} {k0v0 : Value} {r : (List g_merkle_part) × (List (UInt64 × UInt64))} (S : St m ((row 3 a0v0 a0c0 a0.length) :: (bx kb0 [k0v0] 43) :: As) w) (a0h0 : RepL m a0c0 a0) (k0h0 : SlR m k0v0 k0) (hm : m_slices_AppendSeq_merkle_part_merkle_part_85 a0 k0 = some r) :
    CallsR Tryz.prog 84 #[a0v0, .func (.func 85) #[] #[pt kb0 0]] w fun v w' => ∃ (M : Mem), m ≤ M ∧ ∃ (rv0 : Value) (rc0 : List Value) (rb0_0 : Value), St M ((row 3 rv0 rc0 r.1.length) :: (bx kb0 [rb0_0] 43) :: As) w' ∧ v = rv0 ∧ RepL M rc0 r.1 ∧ SlR M rb0_0 r.2 := by
 unfold m_slices_AppendSeq_merkle_part_merkle_part_85 at hm
 have L0 := Mem.rfl' m
 refine callsR (args := [a0v0, .func (.func 85) #[] #[pt kb0 0]]) func84 rfl ntmps84 (nb rfl) <| ws <| s_boxS S rfl (St.rowCells (i := 0) S rfl).1 fun b1 w1 S1 => ?_
 replace S1 : St _ ((bx b1 [a0v0] 104) :: (row 3 a0v0 a0c0 a0.length) :: (bx kb0 [k0v0] 43) :: As) _ := S1
 clear S
 refine s_asv (v := .slice none 0 0) rfl <| wpl_nil <| nrm <| wpc_seq <| ws <| s_mvv (v := .func (.func 85) #[] #[pt kb0 0]) rfl <| wpl_nil <| nrm <| wpc_block ?_
 have S2 : St _ ((bx kb0 [k0v0] 43) :: (bx b1 [a0v0] 104) :: (row 3 a0v0 a0c0 a0.length) :: As) _ := St.perm S1 (List.Perm.trans (List.Perm.cons _ (List.Perm.swap _ _ _)) (List.Perm.swap _ _ _))
 clear S1
 obtain ⟨x1, q1, hm⟩ := obind_some hm
 refine wpc_rangeFunc S2 rfl call85 fun lp1 rip2 w2 h1 S3 => ?_
 replace S3 : St _ ((Lp lp1 rip2 .ready none) :: (bx kb0 [k0v0] 43) :: (bx b1 [a0v0] 104) :: (row 3 a0v0 a0c0 a0.length) :: As) _ := S3
 clear S2
 have S4 : St _ ((row 3 a0v0 a0c0 a0.length) :: (Lp lp1 rip2 .ready none) :: (bx kb0 [k0v0] 43) :: (bx b1 [a0v0] 104) :: As) _ := St.perm S3 (List.Perm.trans (List.Perm.cons _ (List.Perm.cons _ (List.Perm.swap _ _ _))) (List.Perm.trans (List.Perm.cons _ (List.Perm.swap _ _ _)) (List.Perm.swap _ _ _)))
 clear S3
 have S5 : St _ ((bx kb0 [k0v0] 43) :: (Lp lp1 rip2 .ready none) :: (row 3 a0v0 a0c0 a0.length) :: (bx b1 [a0v0] 104) :: As) _ := St.perm S4 (List.Perm.trans (List.Perm.cons _ (List.Perm.swap _ _ _)) (List.Perm.trans (List.Perm.swap _ _ _) (List.Perm.cons _ (List.Perm.swap _ _ _))))
 clear S4
 have hcb1 : ∀ {m' : Mem} {As' : List Ow} {w' : World} {s : (List g_merkle_part)} {X : List Ow} {b0 : g_merkle_part} {r : Bool × (List g_merkle_part)}, St m' (X ++ As') w' → (∃ (v2 : Value) (c2 : List Value), m ≤ m' ∧ X = Lp lp1 rip2 .ready none :: (row 3 v2 c2 (s).length) :: (bx b1 [v2] 104) :: [] ∧ RepL m' c2 (s)) → (fun (s : (List g_merkle_part)) (b0 : g_merkle_part) => obind (m_slices_AppendSeq_merkle_part_merkle_part_85_b2 b0 s) fun y => some (true, y)) s b0 = some r → CallV Tryz.prog (.func (.yield lp1) #[] #[]) [.agg (c_merkle_part b0).toArray] w' fun v w'' => ∃ (M : Mem) (X' : List Ow), m' ≤ M ∧ St M (X' ++ As') w'' ∧ (∃ (v2 : Value) (c2 : List Value), m ≤ M ∧ X' = Lp lp1 rip2 .ready none :: (row 3 v2 c2 (r.2).length) :: (bx b1 [v2] 104) :: [] ∧ RepL M c2 (r.2)) ∧ v = vb r.1 := by
   intro m1 As1 w3 s1 X1 b3 r3 S6 h4 hm1
   obtain ⟨v3, c3, L2, rfl, h5⟩ := h4
   obtain ⟨y1, q2, hm1⟩ := obind_some hm1
   cases hm1
   unfold m_slices_AppendSeq_merkle_part_merkle_part_85_b2 at q2
   replace S6 : St _ ((Lp lp1 rip2 .ready none) :: (row 3 v3 c3 s1.length) :: (bx b1 [v3] 104) :: As1) _ := S6
   have L1 := Mem.rfl' m1
   refine CallV.round h1 rfl S6 ?_
   refine wpc_region ?_
   refine s_alloc S6 zeroValue107 ?_
   intro b4 w4 S7
   replace S7 : St _ ((bx b4 z_merkle_part 107) :: (Lp lp1 rip2 .ready none) :: (row 3 v3 c3 s1.length) :: (bx b1 [v3] 104) :: As1) _ := S7
   clear S6
   refine s_stL (i := 0) S7 rfl rfl rfl sizeOf107 (oneC rfl (oneC rfl (oneC rfl oneN))) rfl ?_
   intro w5 S8
   replace S8 : St _ ((bx b4 (c_merkle_part b3) 107) :: (Lp lp1 rip2 .ready none) :: (row 3 v3 c3 s1.length) :: (bx b1 [v3] 104) :: As1) _ := S8
   clear S7
   refine wpl_nil ?_
   refine nrm ?_
   have S9 : St _ ((Lp lp1 rip2 .ready none) :: (bx b4 (c_merkle_part b3) 107) :: (row 3 v3 c3 s1.length) :: (bx b1 [v3] 104) :: As1) _ := St.perm S8 (List.Perm.swap _ _ _)
   clear S8
   refine ⟨_, _, S9, ?_⟩
   intro w6 S10
   clear S9
   replace S10 : St _ ((Lp lp1 rip2 .busy none) :: (bx b4 (c_merkle_part b3) 107) :: (row 3 v3 c3 s1.length) :: (bx b1 [v3] 104) :: As1) _ := S10
   refine wpc_block ?_
   refine wpc_region ?_
   refine s_ld (i := 3) (cs := [v3]) S10 rfl rfl isAgg104 sizeOf104 rfl (fun _ => rfl) ?_
   refine s_ld (i := 1) (cs := (c_merkle_part b3)) S10 rfl rfl isAgg107 sizeOf107 rfl (fun h => by cases h) ?_
   refine s_litC (parts := [.tmp 9]) (vs := [.agg (c_merkle_part b3).toArray]) (cls := [(c_merkle_part b3)]) (xs := ([b3] : List g_merkle_part)) (n := 1) S10 underlying104 sizeOf107 zeroValue107 rfl ⟨rfl, trivial⟩ (RepL.cons (c := (c_merkle_part b3)) (x := b3) mk_g_merkle_part RepL.nil) rfl rfl rfl (by decide) (by decide) ?_
   intro v4 m2 w7 l1 S11 h6
   replace h5 := RepL.up l1 h5
   replace L1 := Mem.tr L1 l1
   clear S10
   obtain ⟨x2, q3, q2⟩ := obind_some q2
   refine s_app (i := 2) (zs := x2) (bytes := 24) (ti := Tryz.t107) S11 rfl rfl h5 rfl rfl h6 q3 underlying104 type107 rfl rfl rfl rfl ?_
   intro v5 c4 w8 S12 h7
   replace S12 : St _ ((Lp lp1 rip2 .busy none) :: (bx b4 (c_merkle_part b3) 107) :: (row 3 v5 c4 x2.length) :: (bx b1 [v3] 104) :: As1) _ := S12
   clear S11
   refine s_stS (i := 3) S12 rfl rfl rfl sizeOf104 (St.rowCells (i := 2) S12 rfl) rfl ?_
   intro w9 S13
   replace S13 : St _ ((Lp lp1 rip2 .busy none) :: (bx b4 (c_merkle_part b3) 107) :: (row 3 v5 c4 x2.length) :: (bx b1 [v5] 104) :: As1) _ := S13
   clear S12
   refine wpl_nil ?_
   refine nrmB ?_
   obtain ⟨m3, l2, S14⟩ := St.drop S13 1
   replace h7 := RepL.up l2 h7
   replace L1 := Mem.tr L1 l2
   clear S13
   replace S14 : St _ ((Lp lp1 rip2 .busy none) :: (row 3 v5 c4 x2.length) :: (bx b1 [v5] 104) :: As1) _ := S14
   have S15 : St _ ((row 3 v5 c4 x2.length) :: (Lp lp1 rip2 .busy none) :: (bx b1 [v5] 104) :: As1) _ := St.perm S14 (List.Perm.swap _ _ _)
   clear S14
   have S16 : St _ ((Lp lp1 rip2 .busy none) :: (row 3 v5 c4 x2.length) :: (bx b1 [v5] 104) :: As1) _ := St.perm S15 (List.Perm.swap _ _ _)
   clear S15
   refine ⟨_, _, S16, ?_⟩
   intro w10 S17
   have e0 := Option.some.inj q2
   subst e0
   exact ⟨_, Lp lp1 rip2 .ready none :: (row 3 v5 c4 x2.length) :: (bx b1 [v5] 104) :: [], L1, S17, ⟨_, _, Mem.tr L2 L1, rfl, h7⟩, rfl⟩
 refine CallsR.mono (w_merkle_parts_1 (p0 := (fun (s : (List g_merkle_part)) (b0 : g_merkle_part) => obind (m_slices_AppendSeq_merkle_part_merkle_part_85_b2 b0 s) fun y => some (true, y))) (k0 := k0) (s0 := a0) (R := (fun (s : (List g_merkle_part)) (M : Mem) (X : List Ow) => (∃ (v2 : Value) (c2 : List Value), m ≤ M ∧ X = Lp lp1 rip2 .ready none :: (row 3 v2 c2 (s).length) :: (bx b1 [v2] 104) :: [] ∧ RepL M c2 (s)))) (X0 := ((Lp lp1 rip2 .ready none) :: (row 3 a0v0 a0c0 a0.length) :: (bx b1 [a0v0] 104) :: [])) (As := As) S5 (fun l h => by obtain ⟨v2, c2, Lm, e, h3⟩ := h; exact ⟨_, _, Mem.tr Lm l, e, RepL.up l h3⟩) ⟨_, _, Mem.rfl' _, rfl, a0h0⟩ @hcb1 rfl k0h0 q1) ?_
 rintro _ w11 ⟨m4, l3, v6, X2, S18, rfl, h8, ⟨v7, c5, L3, rfl, h9⟩⟩
 have S19 : St _ ((Lp lp1 rip2 .ready none) :: (bx kb0 [v6] 43) :: (row 3 v7 c5 x1.2.length) :: (bx b1 [v7] 104) :: As) _ := St.perm S18 (List.Perm.swap _ _ _)
 clear S18
 refine ⟨_, .ready, none, _, l3, (fun h => by cases h), S19, ?_⟩
 intro m5 w12 l4 S20
 have l5 := Mem.tr l3 l4
 replace S20 : St _ ((bx kb0 [v6] 43) :: (row 3 v7 c5 x1.2.length) :: (bx b1 [v7] 104) :: As) _ := S20
 refine nrmB <| nrm <| ws <| s_ld (i := 2) (cs := [v7]) S20 rfl rfl isAgg104 sizeOf104 rfl (fun _ => rfl) <| s_asv (v := v7) rfl <| wpl_nil <| nrm <| wpc_ret <| outRw fun we hpd => ?_
 replace S20 := St.pd S20 hpd
 obtain ⟨m6, l6, S21⟩ := St.drop S20 2
 clear S20
 replace S21 : St _ ((bx kb0 [v6] 43) :: (row 3 v7 c5 x1.2.length) :: As) _ := S21
 have S22 : St _ ((row 3 v7 c5 x1.2.length) :: (bx kb0 [v6] 43) :: As) _ := St.perm S21 (List.Perm.swap _ _ _)
 have e0 := Option.some.inj hm
 subst e0
 replace h8 := h8.up (mt l4 l6)
 replace h9 := RepL.up (mt l4 l6) h9
 replace L0 := Mem.tr L0 (mt l5 l6)
 exact outR [_] rfl ⟨rfl, trivial⟩ ⟨_, L0, _, _, _, S22, rfl, h9, h8⟩

def m_slices_Collect_merkle_part_85 (k0 : List (UInt64 × UInt64)) : Option ((List g_merkle_part) × (List (UInt64 × UInt64))) :=
  obind (m_slices_AppendSeq_merkle_part_merkle_part_85 ([] : List g_merkle_part) k0) fun x1 =>
  some (x1.1, x1.2)

theorem w_slices_Collect_merkle_part_85 {m : Mem} {As : List Ow} {w : World} {kb0 : Nat} {k0 : List (UInt64 × UInt64)} {k0v0 : Value} {r : (List g_merkle_part) × (List (UInt64 × UInt64))} (S : St m ((bx kb0 [k0v0] 43) :: As) w) (k0h0 : SlR m k0v0 k0) (hm : m_slices_Collect_merkle_part_85 k0 = some r) :
    CallsR Tryz.prog 56 #[.func (.func 85) #[] #[pt kb0 0]] w fun v w' => ∃ (M : Mem), m ≤ M ∧ ∃ (rv0 : Value) (rc0 : List Value) (rb0_0 : Value), St M ((row 3 rv0 rc0 r.1.length) :: (bx kb0 [rb0_0] 43) :: As) w' ∧ v = rv0 ∧ RepL M rc0 r.1 ∧ SlR M rb0_0 r.2 := by
 unfold m_slices_Collect_merkle_part_85 at hm
 have L0 := Mem.rfl' m
 refine callsR (args := [.func (.func 85) #[] #[pt kb0 0]]) func56 rfl ntmps56 (nb rfl) <| ws <| s_asv (v := .slice none 0 0) rfl <| nx <| s_mvv (v := .func (.func 85) #[] #[pt kb0 0]) rfl ?_
 have S1 := St.rowNil S 3
 have h1 : RepL m [] ([] : List g_merkle_part) := RepL.nil
 replace S1 : St _ ((row 3 (.slice none 0 0) [] ([] : List g_merkle_part).length) :: (bx kb0 [k0v0] 43) :: As) _ := S1
 clear S
 obtain ⟨x1, q1, hm⟩ := obind_some hm
 refine s_call call84 (w_slices_AppendSeq_merkle_part_merkle_part_85 (a0 := ([] : List g_merkle_part)) (k0 := k0) S1 h1 k0h0 q1) rfl ?_
 rintro v1 w1 ⟨m1, l1, _, c1, v2, S2, rfl, h2, h3⟩
 clear S1
 refine s_asv (v := v1) rfl <| wpl_nil <| nrm <| wpc_ret <| outRw fun we hpd => ?_
 replace S2 := St.pd S2 hpd
 have e0 := Option.some.inj hm
 subst e0
 replace L0 := Mem.tr L0 l1
 exact outR [_] rfl ⟨rfl, trivial⟩ ⟨_, L0, _, _, _, S2, rfl, h2, h3⟩

def m_merkle_Root_b4  (i1 : Int) (x9 : g_merkle_part) (s1 : UInt64 × UInt64) : Option (UInt64 × UInt64) :=
  obind (m_hash_Pair x9.root_ s1) fun x10 =>
  some (x10.1, x10.2)

def m_merkle_Root (a0 : List (UInt64 × UInt64)) : Option (UInt64 × UInt64) :=
  obind (m_merkle_parts a0) fun x1 =>
  obind (m_slices_Collect_merkle_part_85 x1) fun x2 =>
  if ((x2.1.length : Int) == 0) = true then
    obind (m_hash_Tagged (⟨#[101, 109, 112, 116, 121]⟩ : ByteArray) ([] : List (List UInt8))) fun x3 =>
    some x3
  else
  obind (m_slices_Reverse_merkle_part_merkle_part x2.1) fun x4 =>
  obind (idx x4 0) fun x5 =>
  obind (
    obind (cut x4 1 (x4.length : Int)) fun x7 =>
    obind (each0 m_merkle_Root_b4 x7 0 (x5.root_.1, x5.root_.2)) fun x8 =>
    some (x8.1, x8.2)
  ) fun x6 =>
  some x6

theorem w_merkle_Root {m : Mem} {As : List Ow} {w : World} {a0 : List (UInt64 × UInt64)} {a0v0 : Value} {r : UInt64 × UInt64} (S : St m (As) w) (a0h0 : SlR m a0v0 a0) (hm : m_merkle_Root a0 = some r) :
    CallsR Tryz.prog 27 #[a0v0] w fun v w' => ∃ (M : Mem), m ≤ M ∧ St M (As) w' ∧ v = .agg #[vU r.1, vU r.2] := by
 unfold m_merkle_Root at hm
 have L0 := Mem.rfl' m
 refine callsR (args := [a0v0]) func27 rfl ntmps27 (nb rfl) <| ws <| s_alloc S zeroValue36 fun b1 w1 S1 => ?_
 replace S1 : St _ ((bx b1 z_api_Sig 36) :: As) _ := S1
 clear S
 refine nx <| s_mvv (v := a0v0) rfl ?_
 obtain ⟨x1, q1, hm⟩ := obind_some hm
 refine s_call call57 (w_merkle_parts (a0 := a0) S1 a0h0 q1) rfl ?_
 rintro _ w2 ⟨m1, l1, b2, v1, S2, rfl, h1⟩
 clear S1
 obtain ⟨x2, q2, hm⟩ := obind_some hm
 refine s_call call56 (w_slices_Collect_merkle_part_85 (k0 := x1) S2 h1 q2) rfl ?_
 rintro v2 w3 ⟨m2, l2, _, c1, v3, S3, rfl, h2, h3⟩
 clear S2
 refine s_asv (v := v2) rfl <| wpl_nil <| nrm <| wpc_seq <| ws <| s_mvv (v := v2) rfl <| s_lenO (i := 0) S3 rfl rfl underlying104 <| s_eql (m := (x2.1.length : Int)) (n := 0) rfl rfl <| wpl_nil <| nrm <| wpc_if (t := ((x2.1.length : Int) == 0)) rfl (fun hc1 => ?_) (fun hc1 => ?_)
 · replace hm := ifT hc1 hm
   refine wpc_seq <| wpc_region ?_
   obtain ⟨x3, q3, hm⟩ := obind_some hm
   refine s_call call52 (w_hash_Tagged (a0 := (⟨#[101, 109, 112, 116, 121]⟩ : ByteArray)) (a1 := ([] : List (List UInt8))) S3 (SlR.nil (a := none) (c := 0)) q3) rfl ?_
   rintro _ w4 ⟨m3, l3, S4, rfl⟩
   clear S3
   refine s_stL (i := 2) S4 rfl rfl rfl sizeOf36 (oneC rfl (oneC rfl oneN)) rfl fun w5 S5 => ?_
   replace S5 : St _ ((row 3 v2 c1 x2.1.length) :: (bx b2 [v3] 43) :: (bx b1 [vU x3.1, vU x3.2] 36) :: As) _ := S5
   clear S4
   refine wpl_nil <| nrm <| wpc_ret <| thR <| outRw fun we hpd => ?_
   replace S5 := St.pd S5 hpd
   have SR := S5
   obtain ⟨m4, l4, S6⟩ := St.drop S5 0
   replace S6 : St _ ((bx b2 [v3] 43) :: (bx b1 [vU x3.1, vU x3.2] 36) :: As) _ := S6
   obtain ⟨m5, l5, S7⟩ := St.drop S6 0
   clear S6
   replace S7 : St _ ((bx b1 [vU x3.1, vU x3.2] 36) :: As) _ := S7
   obtain ⟨m6, l6, S8⟩ := St.drop S7 0
   clear S7
   replace S8 : St _ (As) _ := S8
   have e0 := Option.some.inj hm
   subst e0
   replace L0 := Mem.tr L0 (mt l1 (mt l2 (mt l3 (mt l4 (mt l5 l6)))))
   exact outR [_] rfl ⟨res_box (i := 2) (off := 0) (cs := [vU x3.1, vU x3.2]) SR rfl rfl isAgg36 sizeOf36 rfl (fun h => by cases h), trivial⟩ ⟨_, L0, S8, rfl⟩
 replace hm := ifF hc1 hm
 refine wpc_skip <| nrm <| ws <| s_mvv (v := v2) rfl ?_
 obtain ⟨x4, q4, hm⟩ := obind_some hm
 refine s_call call58 (w_slices_Reverse_merkle_part_merkle_part (a0 := x2.1) S3 h2 q4) rfl ?_
 rintro _ w6 ⟨m7, l7, c2, S9, rfl, h4⟩
 clear S3
 refine nx <| s_mvv (v := v2) rfl ?_
 obtain ⟨x5, q5, hm⟩ := obind_some hm
 refine s_idxO (i := 0) (j := 0) S9 rfl rfl rfl (idx_rng q5).1 (idx_rng q5).2 underlying104 sizeOf107 fun p1 h5 => s_fldO (n := 1) rfl h5 underlying107 rfl rfl sizeOf36 fun p2 h6 => ?_
 have e1 := rep_g_merkle_part (RepL.getI h4 q5)
 refine s_ldO (i := 0) (off := (0 : Int).toNat * 3 + 1) (d := [vU x5.root_.1, vU x5.root_.2]) S9 rfl h6 rfl (drop_sub e1 rfl (nb rfl)) isAgg36 sizeOf36 (fun h => by cases h) <| s_alloc S9 zeroValue36 fun b3 w7 S10 => s_stL (i := 0) S10 rfl rfl rfl sizeOf36 (oneC rfl (oneC rfl oneN)) rfl fun w8 S11 => ?_
 replace S11 : St _ ((bx b3 [vU x5.root_.1, vU x5.root_.2] 36) :: (row 3 v2 c2 x4.length) :: (bx b2 [v3] 43) :: (bx b1 z_api_Sig 36) :: As) _ := S11
 clear S9 S10
 refine wpl_nil <| nrm ?_
 obtain ⟨x6, q6, hm⟩ := obind_some hm
 have L1 := Mem.rfl' m7
 refine wpc_seq <| wpc_join [6, 20, 21, 22, 23, 24, 25, 26, 27, 28, 29, 30, 31] (fun f' w' => ∃ (M1 : Mem), m7 ≤ M1 ∧ St M1 ((bx b3 [vU x6.1, vU x6.2] 36) :: (bx b2 [v3] 43) :: (bx b1 z_api_Sig 36) :: As) w' ∧ AllAt f' []) ?_ ?_
 · refine ws <| s_mvv (v := v2) rfl ?_
   obtain ⟨m8, l8, h7, S12⟩ := St.rowKeepT (i := 1) S11 rfl h4 rfl
   clear S11
   obtain ⟨x7, q7, q6⟩ := obind_some q6
   refine s_cut (ys := x7) (l := 1) (h := (x4.length : Int)) rfl h7 underlying104 sizeOf107 (.inr ⟨_, rfl⟩) (.inl ⟨rfl, rfl⟩) (.inl rfl) q7 fun v4 h8 => s_lenR (xs := x7) rfl h8 underlying104 <| s_mvv (v := vI 0) rfl <| wpl_nil <| nrm ?_
   obtain ⟨x8, q8, q6⟩ := obind_some q6
   have L2 := Mem.rfl' m8
   refine wpc_join [6, 23, 24, 25, 26, 27, 28, 29, 30, 31] (fun f' w' => ∃ (M2 : Mem), m8 ≤ M2 ∧ St M2 ((bx b3 [vU x8.1, vU x8.2] 36) :: (bx b2 [v3] 43) :: (bx b1 z_api_Sig 36) :: As) w' ∧ AllAt f' []) ?_ ?_
   · refine wpc_block <| wpc_rounds [6, 23, 24, 25, 26, 27, 28, 29, 30, 31] (fun n1 f' w' => ∃ (i1 : Nat) (s1 : UInt64 × UInt64) (m12 : Mem), n1 = x7.length - i1 ∧ i1 ≤ x7.length ∧ each0 m_merkle_Root_b4 (x7.drop i1) (i1 : Int) s1 = some x8 ∧ m8 ≤ m12 ∧ St m12 ((bx b3 [vU s1.1, vU s1.2] 36) :: (bx b2 [v3] 43) :: (bx b1 z_api_Sig 36) :: As) w' ∧ AllAt f' [(23, vI (i1 : Int))]) x7.length ⟨0, (x5.root_.1, x5.root_.2), m8, rfl, Nat.zero_le _, q8, L2, S12, ⟨rfl, trivial⟩⟩ ?_
     rintro n1 f1 w9 ho ⟨i1, s1, m9, hn, hi, q9, L4, S13, ha⟩
     obtain ⟨u1, rfl⟩ := fr_of (N := 33) ho ha
     clear ho ha
     have L3 := Mem.rfl' m9
     clear S12
     refine ws <| s_lss (m := (i1 : Int)) (n := (x7.length : Int)) rfl rfl <| wpl_nil <| nrm <| wpc_seq <| wpc_if (t := decide ((i1 : Int) < (x7.length : Int))) rfl (fun hc2 => ?_) (fun hc2 => ?_)
     · have hlt1 : i1 < x7.length := by have := of_decide_eq_true hc2; omega
       obtain ⟨x9, y1, q12, q11, q10⟩ := each0_in q9 hlt1
       unfold m_merkle_Root_b4 at q11
       refine wpc_skip <| nrm <| wpc_seq <| wpc_block <| ws <| s_idx (q := x9) rfl rfl (h8.up L4) q12 underlying104 sizeOf107 fun p3 c3 h9 r2 => ?_
       obtain rfl := rep_g_merkle_part r2
       refine s_ldM (cs := (c_merkle_part x9)) S13 rfl h9 rfl isAgg107 sizeOf107 (fun h => by cases h) <| s_alloc S13 zeroValue107 fun b5 w10 S14 => s_stL (i := 0) S14 rfl rfl rfl sizeOf107 (oneC rfl (oneC rfl (oneC rfl oneN))) rfl fun w11 S15 => ?_
       replace S15 : St _ ((bx b5 (c_merkle_part x9) 107) :: (bx b3 [vU s1.1, vU s1.2] 36) :: (bx b2 [v3] 43) :: (bx b1 z_api_Sig 36) :: As) _ := S15
       clear S13 S14
       refine wpl_nil <| nrm <| wpc_region <| s_fld (n := 1) rfl underlying107 rfl rfl sizeOf36 <| s_ld (i := 0) (cs := [vU x9.root_.1, vU x9.root_.2]) S15 rfl rfl isAgg36 sizeOf36 rfl (fun h => by cases h) <| s_ld (i := 1) (cs := [vU s1.1, vU s1.2]) S15 rfl rfl isAgg36 sizeOf36 rfl (fun h => by cases h) ?_
       obtain ⟨x10, q13, q11⟩ := obind_some q11
       refine s_call call37 (w_hash_Pair (a0 := x9.root_) (a1 := s1) S15  q13) rfl ?_
       rintro _ w12 ⟨m10, l9, S16, rfl⟩
       clear S15
       refine s_stL (i := 1) S16 rfl rfl rfl sizeOf36 (oneC rfl (oneC rfl oneN)) rfl fun w13 S17 => ?_
       replace S17 : St _ ((bx b5 (c_merkle_part x9) 107) :: (bx b3 [vU x10.1, vU x10.2] 36) :: (bx b2 [v3] 43) :: (bx b1 z_api_Sig 36) :: As) _ := S17
       clear S16
       refine wpl_nil <| nrmB <| nrm <| wpc_region <| s_addI (m := (i1 : Int)) (n := 1) rfl rfl <| s_mvv (v := vI (w64 ((i1 : Int) + 1))) rfl <| wpl_nil <| nrm ?_
       obtain ⟨m11, l10, S18⟩ := St.drop S17 0
       clear S17
       replace S18 : St _ ((bx b3 [vU x10.1, vU x10.2] 36) :: (bx b2 [v3] 43) :: (bx b1 z_api_Sig 36) :: As) _ := S18
       have e0 := Option.some.inj q11
       subst e0
       replace h8 := h8.up (mt L4 (mt l9 l10))
       replace L3 := Mem.tr L3 (mt l9 l10)
       exact ⟨outP, _, (by omega), ⟨i1 + 1, (x10.1, x10.2), m11, rfl, hlt1, q10, Mem.tr L4 L3, S18, ⟨congrArg (Value.int .i64) (w64_succ hlt1 (SlR.le h8)), trivial⟩⟩⟩
     have hlt1 : ¬ i1 < x7.length := by have := of_decide_eq_false hc2; omega
     have e := Eq.symm (each0_out q9 hlt1)
     subst e
     exact wpc_exit <| thE <| thE <| exB <| nrm <| ⟨outP, m9, Mem.tr L4 L3, S13, trivial⟩
   rintro f2 w14 ho ⟨m13, l11, S19, ha⟩
   obtain ⟨u2, rfl⟩ := fr_of (N := 33) ho ha
   clear ho ha S12
   have e0 := Option.some.inj q6
   subst e0
   replace L1 := Mem.tr L1 (mt l8 l11)
   exact ⟨outP, m13, L1, S19, trivial⟩
 rintro f3 w15 ho ⟨m14, l12, S20, ha⟩
 obtain ⟨u3, rfl⟩ := fr_of (N := 33) ho ha
 clear S11
 refine ws <| s_ld (i := 0) (cs := [vU x6.1, vU x6.2]) S20 rfl rfl isAgg36 sizeOf36 rfl (fun h => by cases h) <| s_stL (i := 2) S20 rfl rfl rfl sizeOf36 (oneC rfl (oneC rfl oneN)) rfl fun w16 S21 => ?_
 replace S21 : St _ ((bx b3 [vU x6.1, vU x6.2] 36) :: (bx b2 [v3] 43) :: (bx b1 [vU x6.1, vU x6.2] 36) :: As) _ := S21
 clear S20
 refine wpl_nil <| nrm <| wpc_ret <| outRw fun we hpd => ?_
 replace S21 := St.pd S21 hpd
 have SR := S21
 obtain ⟨m15, l13, S22⟩ := St.drop S21 0
 replace S22 : St _ ((bx b2 [v3] 43) :: (bx b1 [vU x6.1, vU x6.2] 36) :: As) _ := S22
 obtain ⟨m16, l14, S23⟩ := St.drop S22 0
 clear S22
 replace S23 : St _ ((bx b1 [vU x6.1, vU x6.2] 36) :: As) _ := S23
 obtain ⟨m17, l15, S24⟩ := St.drop S23 0
 clear S23
 replace S24 : St _ (As) _ := S24
 have e0 := Option.some.inj hm
 subst e0
 replace L0 := Mem.tr L0 (mt l1 (mt l2 (mt l7 (mt l12 (mt l13 (mt l14 l15))))))
 exact outR [_] rfl ⟨res_box (i := 2) (off := 0) (cs := [vU x6.1, vU x6.2]) SR rfl rfl isAgg36 sizeOf36 rfl (fun h => by cases h), trivial⟩ ⟨_, L0, S24, rfl⟩

def m_hash_Num (a0 : UInt64 × UInt64) (a1 : UInt64) : Option UInt64 :=
  if ((a1.toNat : Int) == 0) = true then
    some 0
  else
  obind (m_bits_Mul64 a0.1 2305843009213693952) fun x1 =>
  if a1 ≠ 0 then
    obind (m_bits_Div64 ((x1.1 + (carryU x1.2 a0.2)) % a1) (x1.2 + a0.2) a1) fun x2 =>
    some x2.2
  else none

theorem w_hash_Num {m : Mem} {As : List Ow} {w : World} {a0 : UInt64 × UInt64} {a1 : UInt64} {r : UInt64} (S : St m (As) w) (hm : m_hash_Num a0 a1 = some r) :
    CallsR Tryz.prog 87 #[.agg #[vU a0.1, vU a0.2], vU a1] w fun v w' => ∃ (M : Mem), m ≤ M ∧ St M (As) w' ∧ v = vU r := by
 unfold m_hash_Num at hm
 have L0 := Mem.rfl' m
 refine callsR (args := [.agg #[vU a0.1, vU a0.2], vU a1]) func87 rfl ntmps87 (nb rfl) <| ws <| s_box S rfl fun b1 w1 S1 => ?_
 replace S1 : St _ ((bx b1 [vU a0.1, vU a0.2] 36) :: As) _ := S1
 clear S
 refine s_asv (v := vU 0) rfl <| wpl_nil <| nrm <| wpc_seq <| ws <| s_mvv (v := vU a1) rfl <| s_eql (m := (a1.toNat : Int)) (n := 0) rfl rfl <| wpl_nil <| nrm <| wpc_if (t := ((a1.toNat : Int) == 0)) rfl (fun hc1 => ?_) (fun hc1 => ?_)
 · replace hm := ifT hc1 hm
   refine ws <| s_asv (v := vU 0) rfl <| wpl_nil <| nrm <| wpc_ret <| thR <| outRw fun we hpd => ?_
   replace S1 := St.pd S1 hpd
   obtain ⟨m1, l1, S2⟩ := St.drop S1 0
   clear S1
   replace S2 : St _ (As) _ := S2
   have e0 := Option.some.inj hm
   subst e0
   replace L0 := Mem.tr L0 l1
   exact outR [_] rfl ⟨rfl, trivial⟩ ⟨_, L0, S2, rfl⟩
 replace hm := ifF hc1 hm
 refine wpc_skip <| nrm <| ws <| s_idxA (i := 0) rfl rfl underlying36 sizeOf22 (by decide) (by decide) <| s_ld (i := 0) (cs := [vU a0.1]) S1 rfl rfl isAgg22 sizeOf22 rfl (fun _ => rfl) ?_
 obtain ⟨x1, q1, hm⟩ := obind_some hm
 refine s_call call103 (w_bits_Mul64 (a0 := a0.1) (a1 := 2305843009213693952) S1  q1) rfl ?_
 rintro _ w2 ⟨m2, l2, S3, rfl⟩
 clear S1
 refine s_mvv (v := .tuple #[vU x1.1, vU x1.2]) rfl <| s_ext (i := 0) rfl rfl <| s_ext (i := 1) rfl rfl <| s_asv (v := vU x1.1) rfl <| s_asv (v := vU x1.2) rfl <| nx <| s_mvv (v := vU x1.2) rfl <| s_idxA (i := 1) rfl rfl underlying36 sizeOf22 (by decide) (by decide) <| s_ld (i := 0) (cs := [vU a0.2]) S3 rfl rfl isAgg22 sizeOf22 rfl (fun _ => rfl) <| s_add64 (p := x1.2) (q := a0.2) func104 (by kernel_rfl) (by kernel_rfl) (by kernel_rfl) (by kernel_rfl) rfl rfl rfl <| s_mvv (v := .tuple #[vU (x1.2 + a0.2), vU (carryU x1.2 a0.2)]) rfl <| s_ext (i := 0) rfl rfl <| s_ext (i := 1) rfl rfl <| s_asv (v := vU (x1.2 + a0.2)) rfl <| s_asv (v := vU (carryU x1.2 a0.2)) rfl <| nx <| s_mvv (v := vU x1.1) rfl <| s_mvv (v := vU (carryU x1.2 a0.2)) rfl <| s_addU (m := x1.1) (n := (carryU x1.2 a0.2)) rfl rfl <| s_mvv (v := vU a1) rfl ?_
 obtain ⟨q2, hm⟩ := if_some hm
 refine s_remU (m := (x1.1 + (carryU x1.2 a0.2))) (n := a1) rfl rfl q2 <| s_mvv (v := vU (x1.2 + a0.2)) rfl <| s_mvv (v := vU a1) rfl ?_
 obtain ⟨x2, q3, hm⟩ := obind_some hm
 refine s_call call105 (w_bits_Div64 (a0 := ((x1.1 + (carryU x1.2 a0.2)) % a1)) (a1 := (x1.2 + a0.2)) (a2 := a1) S3  q3) rfl ?_
 rintro _ w3 ⟨m3, l3, S4, rfl⟩
 clear S3
 refine s_mvv (v := .tuple #[vU x2.1, vU x2.2]) rfl <| s_ext (i := 0) rfl rfl <| s_ext (i := 1) rfl rfl <| s_asv (v := vU x2.1) rfl <| s_asv (v := vU x2.2) rfl <| nx <| s_mvv (v := vU x2.2) rfl <| s_asv (v := vU x2.2) rfl <| wpl_nil <| nrm <| wpc_ret <| outRw fun we hpd => ?_
 replace S4 := St.pd S4 hpd
 obtain ⟨m4, l4, S5⟩ := St.drop S4 0
 clear S4
 replace S5 : St _ (As) _ := S5
 have e0 := Option.some.inj hm
 subst e0
 replace L0 := Mem.tr L0 (mt l2 (mt l3 l4))
 exact outR [_] rfl ⟨rfl, trivial⟩ ⟨_, L0, S5, rfl⟩

def m_sign_some (a0 : ByteArray) (a1 : List (List UInt8)) : Option UInt64 :=
  obind (m_hash_Tagged a0 a1) fun x1 =>
  obind (m_hash_Num x1 1152921504606845788) fun x2 =>
  some (x2 + 1)

theorem w_sign_some {m : Mem} {As : List Ow} {w : World} {a0 : ByteArray} {a1 : List (List UInt8)} {a1v0 : Value} {r : UInt64} (S : St m (As) w) (a1h0 : SlR m a1v0 a1) (hm : m_sign_some a0 a1 = some r) :
    CallsR Tryz.prog 59 #[vS a0, a1v0] w fun v w' => ∃ (M : Mem), m ≤ M ∧ St M (As) w' ∧ v = vU r := by
 unfold m_sign_some at hm
 have L0 := Mem.rfl' m
 refine callsR (args := [vS a0, a1v0]) func59 rfl ntmps59 (nb rfl) <| ws <| s_asv (v := vU 0) rfl <| nx <| s_mvv (v := vS a0) rfl <| s_mvv (v := a1v0) rfl ?_
 obtain ⟨x1, q1, hm⟩ := obind_some hm
 refine s_call call52 (w_hash_Tagged (a0 := a0) (a1 := a1) S a1h0 q1) rfl ?_
 rintro _ w1 ⟨m1, l1, S1, rfl⟩
 clear S
 obtain ⟨x2, q2, hm⟩ := obind_some hm
 refine s_call call87 (w_hash_Num (a0 := x1) (a1 := 1152921504606845788) S1  q2) rfl ?_
 rintro _ w2 ⟨m2, l2, S2, rfl⟩
 clear S1
 refine s_addU (m := x2) (n := 1) rfl rfl <| s_asv (v := vU (x2 + 1)) rfl <| wpl_nil <| nrm <| wpc_ret <| outRw fun we hpd => ?_
 replace S2 := St.pd S2 hpd
 have e0 := Option.some.inj hm
 subst e0
 replace L0 := Mem.tr L0 (mt l1 l2)
 exact outR [_] rfl ⟨rfl, trivial⟩ ⟨_, L0, S2, rfl⟩

def m_sign_bytes_b2 (a0 : UInt64) (i1 : Int) (s1 : UInt8 × UInt8 × UInt8 × UInt8 × UInt8 × UInt8 × UInt8 × UInt8) : Option (UInt8 × UInt8 × UInt8 × UInt8 × UInt8 × UInt8 × UInt8 × UInt8) :=
  if (0 : Int) ≤ (w64 (8 * (i1 : Int))) then
    obind (idx [s1.1, s1.2.1, s1.2.2.1, s1.2.2.2.1, s1.2.2.2.2.1, s1.2.2.2.2.2.1, s1.2.2.2.2.2.2.1, s1.2.2.2.2.2.2.2] (w64 (7 - (i1 : Int)))) fun x4 =>
    bnd (if (w64 (7 - (i1 : Int))) = 0 then (toB ((shrU a0 ((w64 (8 * (i1 : Int))).toNat)).toNat : Int)) else s1.1) fun x5 =>
    bnd (if (w64 (7 - (i1 : Int))) = 1 then (toB ((shrU a0 ((w64 (8 * (i1 : Int))).toNat)).toNat : Int)) else s1.2.1) fun x6 =>
    bnd (if (w64 (7 - (i1 : Int))) = 2 then (toB ((shrU a0 ((w64 (8 * (i1 : Int))).toNat)).toNat : Int)) else s1.2.2.1) fun x7 =>
    bnd (if (w64 (7 - (i1 : Int))) = 3 then (toB ((shrU a0 ((w64 (8 * (i1 : Int))).toNat)).toNat : Int)) else s1.2.2.2.1) fun x8 =>
    bnd (if (w64 (7 - (i1 : Int))) = 4 then (toB ((shrU a0 ((w64 (8 * (i1 : Int))).toNat)).toNat : Int)) else s1.2.2.2.2.1) fun x9 =>
    bnd (if (w64 (7 - (i1 : Int))) = 5 then (toB ((shrU a0 ((w64 (8 * (i1 : Int))).toNat)).toNat : Int)) else s1.2.2.2.2.2.1) fun x10 =>
    bnd (if (w64 (7 - (i1 : Int))) = 6 then (toB ((shrU a0 ((w64 (8 * (i1 : Int))).toNat)).toNat : Int)) else s1.2.2.2.2.2.2.1) fun x11 =>
    bnd (if (w64 (7 - (i1 : Int))) = 7 then (toB ((shrU a0 ((w64 (8 * (i1 : Int))).toNat)).toNat : Int)) else s1.2.2.2.2.2.2.2) fun x12 =>
    some (x5, x6, x7, x8, x9, x10, x11, x12)
  else none

def m_sign_bytes (a0 : UInt64) : Option (List UInt8) :=
  obind (
    obind (eachN0 (m_sign_bytes_b2 a0) 8 0 (0, 0, 0, 0, 0, 0, 0, 0)) fun x2 =>
    some (x2.1, x2.2.1, x2.2.2.1, x2.2.2.2.1, x2.2.2.2.2.1, x2.2.2.2.2.2.1, x2.2.2.2.2.2.2.1, x2.2.2.2.2.2.2.2)
  ) fun x1 =>
  some ([x1.1, x1.2.1, x1.2.2.1, x1.2.2.2.1, x1.2.2.2.2.1, x1.2.2.2.2.2.1, x1.2.2.2.2.2.2.1, x1.2.2.2.2.2.2.2] : List UInt8)

theorem w_sign_bytes {m : Mem} {As : List Ow} {w : World} {a0 : UInt64} {r : List UInt8} (S : St m (As) w) (hm : m_sign_bytes a0 = some r) :
    CallsR Tryz.prog 60 #[vU a0] w fun v w' => ∃ (M : Mem), m ≤ M ∧ ∃ (rv0 : Value) (rc0 : List Value), St M ((row 1 rv0 rc0 r.length) :: As) w' ∧ v = rv0 ∧ RepL M rc0 r := by
 unfold m_sign_bytes at hm
 have L0 := Mem.rfl' m
 refine callsR (args := [vU a0]) func60 rfl ntmps60 (nb rfl) <| ws <| s_asv (v := .slice none 0 0) rfl <| nx <| s_alloc S zeroValue138 fun b1 w1 S1 => ?_
 replace S1 : St _ ((bx b1 [vB 0, vB 0, vB 0, vB 0, vB 0, vB 0, vB 0, vB 0] 138) :: As) _ := S1
 clear S
 refine wpl_nil <| nrm ?_
 obtain ⟨x1, q1, hm⟩ := obind_some hm
 have L1 := Mem.rfl' m
 refine wpc_seq <| wpc_join (rg 4 13) (fun f' w' => ∃ (M1 : Mem), m ≤ M1 ∧ St M1 ((bx b1 [vB x1.1, vB x1.2.1, vB x1.2.2.1, vB x1.2.2.2.1, vB x1.2.2.2.2.1, vB x1.2.2.2.2.2.1, vB x1.2.2.2.2.2.2.1, vB x1.2.2.2.2.2.2.2] 138) :: As) w' ∧ AllAt f' []) ?_ ?_
 · refine ws <| s_mvv (v := vI 0) rfl <| wpl_nil <| nrm ?_
   obtain ⟨x2, q2, q1⟩ := obind_some q1
   have L2 := Mem.rfl' m
   refine wpc_join (rg 4 13) (fun f' w' => ∃ (M2 : Mem), m ≤ M2 ∧ St M2 ((bx b1 [vB x2.1, vB x2.2.1, vB x2.2.2.1, vB x2.2.2.2.1, vB x2.2.2.2.2.1, vB x2.2.2.2.2.2.1, vB x2.2.2.2.2.2.2.1, vB x2.2.2.2.2.2.2.2] 138) :: As) w' ∧ AllAt f' []) ?_ ?_
   · refine wpc_block <| wpc_rounds (rg 4 13) (fun n1 f' w' => ∃ (i1 : Nat) (s1 : UInt8 × UInt8 × UInt8 × UInt8 × UInt8 × UInt8 × UInt8 × UInt8) (m2 : Mem), n1 = 8 - i1 ∧ i1 ≤ 8 ∧ eachN0 (m_sign_bytes_b2 a0) (8 - i1) (i1 : Int) s1 = some x2 ∧ m ≤ m2 ∧ St m2 ((bx b1 [vB s1.1, vB s1.2.1, vB s1.2.2.1, vB s1.2.2.2.1, vB s1.2.2.2.2.1, vB s1.2.2.2.2.2.1, vB s1.2.2.2.2.2.2.1, vB s1.2.2.2.2.2.2.2] 138) :: As) w' ∧ AllAt f' [(5, vI (i1 : Int))]) 8 ⟨0, (0, 0, 0, 0, 0, 0, 0, 0), m, rfl, Nat.zero_le _, q2, L2, S1, ⟨rfl, trivial⟩⟩ ?_
     rintro n1 f1 w2 ho ⟨i1, s1, m1, hn, hi, q3, L4, S2, ha⟩
     obtain ⟨u1, rfl⟩ := fr_of (N := 18) ho ha
     clear ho ha
     have L3 := Mem.rfl' m1
     clear S1
     refine ws <| s_lss (m := (i1 : Int)) (n := 8) rfl rfl <| wpl_nil <| nrm <| wpc_seq <| wpc_if (t := decide ((i1 : Int) < (8 : Int))) rfl (fun hc1 => ?_) (fun hc1 => ?_)
     · have hlt1 : i1 < 8 := by have := of_decide_eq_true hc1; omega
       obtain ⟨y1, q5, q4⟩ := eachN0_in q3 hlt1
       unfold m_sign_bytes_b2 at q5
       refine wpc_skip <| nrm <| wpc_seq <| wpc_block <| ws <| s_mvv (v := vI (i1 : Int)) rfl <| s_asv (v := vI (i1 : Int)) rfl <| wpl_nil <| nrm <| wpc_region <| s_mvv (v := vI (i1 : Int)) rfl <| s_subI (m := 7) (n := (i1 : Int)) rfl rfl <| s_mvv (v := vU a0) rfl <| s_mvv (v := vI (i1 : Int)) rfl <| s_mulI (m := 8) (n := (i1 : Int)) rfl rfl ?_
       obtain ⟨q7, q5⟩ := if_some q5
       refine s_shrU (m := a0) (n := (w64 (8 * (i1 : Int)))) rfl rfl q7 <| s_convB rfl underlying22 underlying5 ?_
       obtain ⟨x4, q8, q5⟩ := obind_some q5
       refine s_idxA (i := (w64 (7 - (i1 : Int)))) rfl rfl underlying138 sizeOf5 (idx_rng q8).1 (idx_rng q8).2 ?_
       obtain ⟨x5, q9, q5⟩ := bnd_eq q5
       obtain ⟨x6, q10, q5⟩ := bnd_eq q5
       obtain ⟨x7, q11, q5⟩ := bnd_eq q5
       obtain ⟨x8, q12, q5⟩ := bnd_eq q5
       obtain ⟨x9, q13, q5⟩ := bnd_eq q5
       obtain ⟨x10, q14, q5⟩ := bnd_eq q5
       obtain ⟨x11, q15, q5⟩ := bnd_eq q5
       obtain ⟨x12, q16, q5⟩ := bnd_eq q5
       refine s_st (i := 0) (off := 0 + (w64 (7 - (i1 : Int))).toNat * 1) S2 rfl rfl rfl sizeOf5 (OneL.all (oneC rfl oneN)) (by rcases idx8 q8 with ⟨h, h'⟩ | ⟨h, h'⟩ | ⟨h, h'⟩ | ⟨h, h'⟩ | ⟨h, h'⟩ | ⟨h, h'⟩ | ⟨h, h'⟩ | ⟨h, h'⟩ <;> (rw [h]; exact nb rfl)) fun w3 S3 => ?_
       replace S3 := St.cellsTo (i := 0) (l' := [vB x5, vB x6, vB x7, vB x8, vB x9, vB x10, vB x11, vB x12]) S3 (by rcases idx8 q8 with ⟨h, h'⟩ | ⟨h, h'⟩ | ⟨h, h'⟩ | ⟨h, h'⟩ | ⟨h, h'⟩ | ⟨h, h'⟩ | ⟨h, h'⟩ | ⟨h, h'⟩ <;> (simp only [q9, q10, q11, q12, q13, q14, q15, q16, h]; rfl)) rfl
       replace S3 : St _ ((bx b1 [vB x5, vB x6, vB x7, vB x8, vB x9, vB x10, vB x11, vB x12] 138) :: As) _ := S3
       clear S2
       refine wpl_nil <| nrmB <| nrm <| wpc_region <| s_addI (m := (i1 : Int)) (n := 1) rfl rfl <| s_mvv (v := vI (w64 ((i1 : Int) + 1))) rfl <| wpl_nil <| nrm ?_
       have e0 := Option.some.inj q5
       subst e0
       exact ⟨outP, _, (by omega), ⟨i1 + 1, (x5, x6, x7, x8, x9, x10, x11, x12), m1, rfl, hlt1, q4, Mem.tr L4 L3, S3, ⟨congrArg (Value.int .i64) (w64_succ hlt1 (by decide)), trivial⟩⟩⟩
     have hlt1 : ¬ i1 < 8 := by have := of_decide_eq_false hc1; omega
     have e := Eq.symm (eachN0_out q3 hlt1)
     subst e
     exact wpc_exit <| thE <| thE <| exB <| nrm <| ⟨outP, m1, Mem.tr L4 L3, S2, trivial⟩
   rintro f2 w4 ho ⟨m3, l1, S4, ha⟩
   obtain ⟨u2, rfl⟩ := fr_of (N := 18) ho ha
   clear ho ha S1
   have e0 := Option.some.inj q1
   subst e0
   replace L1 := Mem.tr L1 l1
   exact ⟨outP, m3, L1, S4, trivial⟩
 rintro f3 w5 ho ⟨m4, l2, S5, ha⟩
 obtain ⟨u3, rfl⟩ := fr_of (N := 18) ho ha
 clear S1
 refine ws <| s_sliceA (k := 8) (n := 8) (sz := 1) (off := 0) rfl underlying138 sizeOf5 (.inl ⟨rfl, rfl⟩) (Nat.le_refl _) ?_
 have S6 := St.bxRow (i := 0) (sz := 1) (n := 8) S5 rfl rfl (by decide)
 have h1 : RepL m4 [vB x1.1, vB x1.2.1, vB x1.2.2.1, vB x1.2.2.2.1, vB x1.2.2.2.2.1, vB x1.2.2.2.2.2.1, vB x1.2.2.2.2.2.2.1, vB x1.2.2.2.2.2.2.2] ([x1.1, x1.2.1, x1.2.2.1, x1.2.2.2.1, x1.2.2.2.2.1, x1.2.2.2.2.2.1, x1.2.2.2.2.2.2.1, x1.2.2.2.2.2.2.2] : List UInt8) := (RepL.cons (c := [vB x1.1]) rfl (RepL.cons (c := [vB x1.2.1]) rfl (RepL.cons (c := [vB x1.2.2.1]) rfl (RepL.cons (c := [vB x1.2.2.2.1]) rfl (RepL.cons (c := [vB x1.2.2.2.2.1]) rfl (RepL.cons (c := [vB x1.2.2.2.2.2.1]) rfl (RepL.cons (c := [vB x1.2.2.2.2.2.2.1]) rfl (RepL.cons (c := [vB x1.2.2.2.2.2.2.2]) rfl RepL.nil))))))))
 replace S6 : St _ ((row 1 (.slice (some ⟨b1, 0, none⟩) 8 8) [vB x1.1, vB x1.2.1, vB x1.2.2.1, vB x1.2.2.2.1, vB x1.2.2.2.2.1, vB x1.2.2.2.2.2.1, vB x1.2.2.2.2.2.2.1, vB x1.2.2.2.2.2.2.2] ([x1.1, x1.2.1, x1.2.2.1, x1.2.2.2.1, x1.2.2.2.2.1, x1.2.2.2.2.2.1, x1.2.2.2.2.2.2.1, x1.2.2.2.2.2.2.2] : List UInt8).length) :: As) _ := S6
 clear S5
 refine s_asv (v := (.slice (some ⟨b1, 0, none⟩) 8 8)) rfl <| wpl_nil <| nrm <| wpc_ret <| outRw fun we hpd => ?_
 replace S6 := St.pd S6 hpd
 have e0 := Option.some.inj hm
 subst e0
 replace L0 := Mem.tr L0 l2
 exact outR [_] rfl ⟨rfl, trivial⟩ ⟨_, L0, _, _, S6, rfl, h1⟩

def m_sign_Challenge (a0 : UInt64) (a1 : UInt64) (a2 : List UInt8) : Option UInt64 :=
  obind (m_sign_bytes a0) fun x1 =>
  obind (m_sign_bytes a1) fun x2 =>
  obind (m_hash_Tagged (⟨#[115, 105, 103, 110]⟩ : ByteArray) ([x1, x2, a2] : List (List UInt8))) fun x3 =>
  obind (m_hash_Num x3 1152921504606845789) fun x4 =>
  some x4

theorem w_sign_Challenge {m : Mem} {As : List Ow} {w : World} {a0 : UInt64} {a1 : UInt64} {a2 : List UInt8} {a2v0 : Value} {r : UInt64} (S : St m (As) w) (a2h0 : SlR m a2v0 a2) (hm : m_sign_Challenge a0 a1 a2 = some r) :
    CallsR Tryz.prog 61 #[vU a0, vU a1, a2v0] w fun v w' => ∃ (M : Mem), m ≤ M ∧ St M (As) w' ∧ v = vU r := by
 unfold m_sign_Challenge at hm
 have L0 := Mem.rfl' m
 refine callsR (args := [vU a0, vU a1, a2v0]) func61 rfl ntmps61 (nb rfl) <| ws <| s_asv (v := vU 0) rfl <| nx <| s_mvv (v := vU a0) rfl ?_
 obtain ⟨x1, q1, hm⟩ := obind_some hm
 refine s_call call60 (w_sign_bytes (a0 := a0) S  q1) rfl ?_
 rintro v1 w1 ⟨m1, l1, _, c1, S1, rfl, h1⟩
 clear S
 refine s_mvv (v := vU a1) rfl ?_
 obtain ⟨x2, q2, hm⟩ := obind_some hm
 refine s_call call60 (w_sign_bytes (a0 := a1) S1  q2) rfl ?_
 rintro v2 w2 ⟨m2, l2, _, c2, S2, rfl, h2⟩
 clear S1
 refine s_mvv (v := a2v0) rfl ?_
 replace h1 := RepL.up l2 h1
 obtain ⟨m3, l3, h3, S3⟩ := St.rowKeepT (i := 1) S2 rfl h1 rfl
 clear S2
 replace h2 := RepL.up l3 h2
 obtain ⟨m4, l4, h4, S4⟩ := St.rowKeepT (i := 0) S3 rfl h2 rfl
 clear S3
 replace a2h0 := a2h0.up (mt l1 (mt l2 (mt l3 l4)))
 replace h3 := h3.up l4
 refine s_litC (parts := [.tmp 8, .tmp 10, .tmp 11]) (vs := [v1, v2, a2v0]) (cls := [[v1], [v2], [a2v0]]) (xs := ([x1, x2, a2] : List (List UInt8))) (n := 3) S4 underlying119 sizeOf57 zeroValue57 rfl ⟨SlR.cells h3, SlR.cells h4, SlR.cells a2h0, trivial⟩ (RepL.cons (c := [v1]) (x := x1) ⟨_, rfl, h3⟩ (RepL.cons (c := [v2]) (x := x2) ⟨_, rfl, h4⟩ (RepL.cons (c := [a2v0]) (x := a2) ⟨_, rfl, a2h0⟩ RepL.nil))) rfl rfl rfl (by decide) (by decide) fun v3 m5 w3 l5 S5 h5 => ?_
 clear S4
 obtain ⟨x3, q3, hm⟩ := obind_some hm
 refine s_call call52 (w_hash_Tagged (a0 := (⟨#[115, 105, 103, 110]⟩ : ByteArray)) (a1 := ([x1, x2, a2] : List (List UInt8))) S5 h5 q3) rfl ?_
 rintro _ w4 ⟨m6, l6, S6, rfl⟩
 clear S5
 obtain ⟨x4, q4, hm⟩ := obind_some hm
 refine s_call call87 (w_hash_Num (a0 := x3) (a1 := 1152921504606845789) S6  q4) rfl ?_
 rintro _ w5 ⟨m7, l7, S7, rfl⟩
 clear S6
 refine s_asv (v := vU x4) rfl <| wpl_nil <| nrm <| wpc_ret <| outRw fun we hpd => ?_
 replace S7 := St.pd S7 hpd
 have e0 := Option.some.inj hm
 subst e0
 replace L0 := Mem.tr L0 (mt l1 (mt l2 (mt l3 (mt l4 (mt l5 (mt l6 l7))))))
 exact outR [_] rfl ⟨rfl, trivial⟩ ⟨_, L0, S7, rfl⟩

def m_cyclic_ring_add (a0 : UInt64) (a1 : UInt64) (a2 : UInt64) : Option UInt64 :=
  if a0 ≠ 0 then
    if a0 ≠ 0 then
      obind (m_bits_Rem64 (carryU (a1 % a0) (a2 % a0)) ((a1 % a0) + (a2 % a0)) a0) fun x1 =>
      some x1
    else none
  else none

theorem w_cyclic_ring_add {m : Mem} {As : List Ow} {w : World} {a0 : UInt64} {a1 : UInt64} {a2 : UInt64} {r : UInt64} (S : St m (As) w) (hm : m_cyclic_ring_add a0 a1 a2 = some r) :
    CallsR Tryz.prog 88 #[vU a0, vU a1, vU a2] w fun v w' => ∃ (M : Mem), m ≤ M ∧ St M (As) w' ∧ v = vU r := by
 unfold m_cyclic_ring_add at hm
 have L0 := Mem.rfl' m
 refine callsR (args := [vU a0, vU a1, vU a2]) func88 rfl ntmps88 (nb rfl) <| ws <| s_asv (v := vU 0) rfl <| wpl_nil <| nrm <| wpc_seq ?_
 obtain ⟨q1, hm⟩ := if_some hm
 obtain ⟨q2, hm⟩ := if_some hm
 have HM : MonoAll [(10, fv (vU a1)), (11, fv (vU a0)), (12, fv (vU (a1 % a0))), (13, fv (vU a2)), (14, fv (vU a0)), (15, fv (vU (a2 % a0))), (16, fv (.tuple #[vU ((a1 % a0) + (a2 % a0)), vU (carryU (a1 % a0) (a2 % a0))])), (9, fv (.tuple #[vU ((a1 % a0) + (a2 % a0)), vU (carryU (a1 % a0) (a2 % a0))])), (17, fv (vU ((a1 % a0) + (a2 % a0)))), (18, fv (vU (carryU (a1 % a0) (a2 % a0)))), (7, fv (vU ((a1 % a0) + (a2 % a0))))] := ⟨mv, mv, mv, mv, mv, mv, mv, mv, mv, mv, mv, trivial⟩
 refine wpc_flowG HM 11 mixed rfl rfl rfl [7, 9, 10, 11, 12, 13, 14, 15, 16, 17, 18] (fun L f M w => St M (As) w) (St.drew S _) ?_ ?_
 · refine ⟨?_, ?_, ?_, ?_, ?_, ?_, ?_, ?_, ?_, ?_, ?_, trivial⟩
   · exact flp HM rfl [] (fun _ _ => trivial) (fun _ _ q => s_mvv (v := vU a1) rfl q) rfl
   · exact flp HM rfl [] (fun _ _ => trivial) (fun _ _ q => s_mvv (v := vU a0) rfl q) rfl
   · exact flp HM rfl [(10, _), (11, _)] (fun K _ => ⟨K 0 rfl, K 1 rfl, trivial⟩) (fun _ _ q => s_remU (m := a1) (n := a0) rfl rfl q1 q) rfl
   · exact flp HM rfl [] (fun _ _ => trivial) (fun _ _ q => s_mvv (v := vU a2) rfl q) rfl
   · exact flp HM rfl [] (fun _ _ => trivial) (fun _ _ q => s_mvv (v := vU a0) rfl q) rfl
   · exact flp HM rfl [(13, _), (14, _)] (fun K _ => ⟨K 3 rfl, K 4 rfl, trivial⟩) (fun _ _ q => s_remU (m := a2) (n := a0) rfl rfl q2 q) rfl
   · intro L f7 w7 hL hd hc ⟨m7, L13, S7, K, hO⟩
     obtain ⟨u7, rfl⟩ := fr_of (N := 23) (L := [(12, _), (15, _)]) hO ⟨K 2 (dep hd rfl), K 5 (dep hd rfl), trivial⟩
     exact s_add64 (p := (a1 % a0)) (q := (a2 % a0)) func104 (by kernel_rfl) (by kernel_rfl) (by kernel_rfl) (by kernel_rfl) rfl rfl rfl <| oS HM L13 S7 rfl K rfl rfl rfl outP
   · exact flp HM rfl [(16, _)] (fun K _ => ⟨K 6 rfl, trivial⟩) (fun _ _ q => s_mvv (v := .tuple #[vU ((a1 % a0) + (a2 % a0)), vU (carryU (a1 % a0) (a2 % a0))]) rfl q) rfl
   · exact flp HM rfl [(9, _)] (fun K _ => ⟨K 7 rfl, trivial⟩) (fun _ _ q => s_ext (i := 0) rfl rfl q) rfl
   · exact flp HM rfl [(9, _)] (fun K _ => ⟨K 7 rfl, trivial⟩) (fun _ _ q => s_ext (i := 1) rfl rfl q) rfl
   · exact flp HM rfl [(17, _)] (fun K _ => ⟨K 8 rfl, trivial⟩) (fun _ _ q => s_asv (v := vU ((a1 % a0) + (a2 % a0))) rfl q) rfl
 intro L f12 w12 hall ⟨m12, L23, S12, K, hO⟩
 have d10 : L 10 = true := hall 10 (by decide)
 have d9 : L 9 = true := hall 9 (by decide)
 obtain ⟨u12, rfl⟩ := fr_of (N := 23) (L := [(7, _), (18, _)]) hO ⟨K 10 d10, K 9 d9, trivial⟩
 replace S12 : St _ (As) _ := S12
 clear S
 refine s_asv (v := vU (carryU (a1 % a0) (a2 % a0))) rfl <| nx <| s_mvv (v := vU (carryU (a1 % a0) (a2 % a0))) rfl <| s_mvv (v := vU ((a1 % a0) + (a2 % a0))) rfl <| s_mvv (v := vU a0) rfl ?_
 obtain ⟨x1, q3, hm⟩ := obind_some hm
 refine s_call call106 (w_bits_Rem64 (a0 := (carryU (a1 % a0) (a2 % a0))) (a1 := ((a1 % a0) + (a2 % a0))) (a2 := a0) S12  q3) rfl ?_
 rintro _ w13 ⟨m13, l1, S13, rfl⟩
 clear S12
 refine s_asv (v := vU x1) rfl <| wpl_nil <| nrm <| wpc_ret <| outRw fun we hpd => ?_
 replace S13 := St.pd S13 hpd
 have e0 := Option.some.inj hm
 subst e0
 replace L0 := Mem.tr L0 (mt L23 l1)
 exact outR [_] rfl ⟨rfl, trivial⟩ ⟨_, L0, S13, rfl⟩

def m_cyclic_AddR (a0 : UInt64) (a1 : UInt64) : Option UInt64 :=
  obind (m_cyclic_ring_add 1152921504606845789 a0 a1) fun x1 =>
  some x1

theorem w_cyclic_AddR {m : Mem} {As : List Ow} {w : World} {a0 : UInt64} {a1 : UInt64} {r : UInt64} (S : St m (As) w) (hm : m_cyclic_AddR a0 a1 = some r) :
    CallsR Tryz.prog 62 #[vU a0, vU a1] w fun v w' => ∃ (M : Mem), m ≤ M ∧ St M (As) w' ∧ v = vU r := by
 unfold m_cyclic_AddR at hm
 have L0 := Mem.rfl' m
 refine callsR (args := [vU a0, vU a1]) func62 rfl ntmps62 (nb rfl) <| ws <| s_asv (v := vU 0) rfl <| nx <| s_mvv (v := vU a0) rfl <| s_mvv (v := vU a1) rfl ?_
 obtain ⟨x1, q1, hm⟩ := obind_some hm
 refine s_call call88 (w_cyclic_ring_add (a0 := 1152921504606845789) (a1 := a0) (a2 := a1) S  q1) rfl ?_
 rintro _ w1 ⟨m1, l1, S1, rfl⟩
 clear S
 refine s_asv (v := vU x1) rfl <| wpl_nil <| nrm <| wpc_ret <| outRw fun we hpd => ?_
 replace S1 := St.pd S1 hpd
 have e0 := Option.some.inj hm
 subst e0
 replace L0 := Mem.tr L0 l1
 exact outR [_] rfl ⟨rfl, trivial⟩ ⟨_, L0, S1, rfl⟩

def m_cyclic_MulR (a0 : UInt64) (a1 : UInt64) : Option UInt64 :=
  obind (m_cyclic_ring_mul 1152921504606845789 a0 a1) fun x1 =>
  some x1

theorem w_cyclic_MulR {m : Mem} {As : List Ow} {w : World} {a0 : UInt64} {a1 : UInt64} {r : UInt64} (S : St m (As) w) (hm : m_cyclic_MulR a0 a1 = some r) :
    CallsR Tryz.prog 63 #[vU a0, vU a1] w fun v w' => ∃ (M : Mem), m ≤ M ∧ St M (As) w' ∧ v = vU r := by
 unfold m_cyclic_MulR at hm
 have L0 := Mem.rfl' m
 refine callsR (args := [vU a0, vU a1]) func63 rfl ntmps63 (nb rfl) <| ws <| s_asv (v := vU 0) rfl <| nx <| s_mvv (v := vU a0) rfl <| s_mvv (v := vU a1) rfl ?_
 obtain ⟨x1, q1, hm⟩ := obind_some hm
 refine s_call call89 (w_cyclic_ring_mul (a0 := 1152921504606845789) (a1 := a0) (a2 := a1) S  q1) rfl ?_
 rintro _ w1 ⟨m1, l1, S1, rfl⟩
 clear S
 refine s_asv (v := vU x1) rfl <| wpl_nil <| nrm <| wpc_ret <| outRw fun we hpd => ?_
 replace S1 := St.pd S1 hpd
 have e0 := Option.some.inj hm
 subst e0
 replace L0 := Mem.tr L0 l1
 exact outR [_] rfl ⟨rfl, trivial⟩ ⟨_, L0, S1, rfl⟩

def m_sign_Sign (a0 : UInt64) (a1 : List UInt8) : Option (g_api_Sig × Int) :=
  obind (m_sign_Public a0) fun x1 =>
  if (x1.2 != 0) = true then
    some ((⟨0, 0⟩ : g_api_Sig), x1.2)
  else
  obind (m_sign_bytes a0) fun x2 =>
  obind (m_sign_some (⟨#[110, 111, 110, 99, 101]⟩ : ByteArray) ([x2, a1] : List (List UInt8))) fun x3 =>
  obind (m_cyclic_Base x3) fun x4 =>
  obind (m_sign_Challenge x4 x1.1 a1) fun x5 =>
  obind (m_cyclic_MulR x5 a0) fun x6 =>
  obind (m_cyclic_AddR x6 x3) fun x7 =>
  some ((⟨x5, x7⟩ : g_api_Sig), 0)

theorem w_sign_Sign {m : Mem} {As : List Ow} {w : World} {a0 : UInt64} {a1 : List UInt8} {a1v0 : Value} {r : g_api_Sig × Int} (S : St m (As) w) (a1h0 : SlR m a1v0 a1) (hm : m_sign_Sign a0 a1 = some r) :
    CallsR Tryz.prog 28 #[vU a0, a1v0] w fun v w' => ∃ (M : Mem), m ≤ M ∧ St M (As) w' ∧ v = .tuple #[.agg (c_api_Sig r.1).toArray, vI r.2] := by
 unfold m_sign_Sign at hm
 have L0 := Mem.rfl' m
 refine callsR (args := [vU a0, a1v0]) func28 rfl ntmps28 (nb rfl) <| ws <| s_alloc S zeroValue38 fun b1 w1 S1 => ?_
 replace S1 : St _ ((bx b1 z_api_Sig 38) :: As) _ := S1
 clear S
 refine s_asv (v := vI 0) rfl <| nx <| s_mvv (v := vU a0) rfl ?_
 obtain ⟨x1, q1, hm⟩ := obind_some hm
 refine s_call call25 (w_sign_Public (a0 := a0) S1  q1) rfl ?_
 rintro _ w2 ⟨m1, l1, S2, rfl⟩
 clear S1
 refine s_mvv (v := .tuple #[vU x1.1, vI x1.2]) rfl <| s_ext (i := 0) rfl rfl <| s_ext (i := 1) rfl rfl <| s_asv (v := vU x1.1) rfl <| s_asv (v := vI x1.2) rfl <| wpl_nil <| nrm <| wpc_seq <| ws <| s_mvv (v := vI x1.2) rfl <| s_neq (m := x1.2) (n := 0) rfl rfl <| wpl_nil <| nrm <| wpc_if (t := (x1.2 != 0)) rfl (fun hc1 => ?_) (fun hc1 => ?_)
 · replace hm := ifT hc1 hm
   refine ws <| s_build (parts := []) (ps := []) (cs := z_api_Sig) zeroValue38 (BuildPl.str (ss := [1, 1]) underlying38 ⟨sizeOf22, sizeOf22, trivial⟩) rfl trivial rfl <| s_mvv (v := vI x1.2) rfl <| s_stL (i := 0) S2 rfl rfl rfl sizeOf38 (oneC rfl (oneC rfl oneN)) rfl fun w3 S3 => ?_
   replace S3 : St _ ((bx b1 z_api_Sig 38) :: As) _ := S3
   clear S2
   refine s_asv (v := vI x1.2) rfl <| wpl_nil <| nrm <| wpc_ret <| thR <| outRw fun we hpd => ?_
   replace S3 := St.pd S3 hpd
   have SR := S3
   obtain ⟨m2, l2, S4⟩ := St.drop S3 0
   replace S4 : St _ (As) _ := S4
   have e0 := Option.some.inj hm
   subst e0
   replace L0 := Mem.tr L0 (mt l1 l2)
   exact outR [_, _] rfl ⟨res_box (i := 0) (off := 0) (cs := z_api_Sig) SR rfl rfl isAgg38 sizeOf38 rfl (fun h => by cases h), rfl, trivial⟩ ⟨_, L0, S4, rfl⟩
 replace hm := ifF hc1 hm
 refine wpc_skip <| nrm <| ws <| s_mvv (v := vU a0) rfl ?_
 obtain ⟨x2, q2, hm⟩ := obind_some hm
 refine s_call call60 (w_sign_bytes (a0 := a0) S2  q2) rfl ?_
 rintro v1 w4 ⟨m3, l3, _, c1, S5, rfl, h1⟩
 clear S2
 refine s_mvv (v := a1v0) rfl ?_
 obtain ⟨m4, l4, h2, S6⟩ := St.rowKeepT (i := 0) S5 rfl h1 rfl
 clear S5
 replace a1h0 := a1h0.up (mt l1 (mt l3 l4))
 refine s_litC (parts := [.tmp 20, .tmp 21]) (vs := [v1, a1v0]) (cls := [[v1], [a1v0]]) (xs := ([x2, a1] : List (List UInt8))) (n := 2) S6 underlying119 sizeOf57 zeroValue57 rfl ⟨SlR.cells h2, SlR.cells a1h0, trivial⟩ (RepL.cons (c := [v1]) (x := x2) ⟨_, rfl, h2⟩ (RepL.cons (c := [a1v0]) (x := a1) ⟨_, rfl, a1h0⟩ RepL.nil)) rfl rfl rfl (by decide) (by decide) fun v2 m5 w5 l5 S7 h3 => ?_
 clear S6
 obtain ⟨x3, q3, hm⟩ := obind_some hm
 refine s_call call59 (w_sign_some (a0 := (⟨#[110, 111, 110, 99, 101]⟩ : ByteArray)) (a1 := ([x2, a1] : List (List UInt8))) S7 h3 q3) rfl ?_
 rintro _ w6 ⟨m6, l6, S8, rfl⟩
 clear S7
 refine s_asv (v := vU x3) rfl <| nx <| s_mvv (v := vU x3) rfl ?_
 obtain ⟨x4, q4, hm⟩ := obind_some hm
 refine s_call call55 (w_cyclic_Base (a0 := x3) S8  q4) rfl ?_
 rintro _ w7 ⟨m7, l7, S9, rfl⟩
 clear S8
 refine s_mvv (v := vU x1.1) rfl <| s_mvv (v := a1v0) rfl ?_
 obtain ⟨x5, q5, hm⟩ := obind_some hm
 replace a1h0 := a1h0.up (mt l5 (mt l6 l7))
 refine s_call call61 (w_sign_Challenge (a0 := x4) (a1 := x1.1) (a2 := a1) S9 a1h0 q5) rfl ?_
 rintro _ w8 ⟨m8, l8, S10, rfl⟩
 clear S9
 refine s_asv (v := vU x5) rfl <| nx <| s_mvv (v := vU x5) rfl <| s_mvv (v := vU x5) rfl <| s_mvv (v := vU a0) rfl ?_
 obtain ⟨x6, q6, hm⟩ := obind_some hm
 refine s_call call63 (w_cyclic_MulR (a0 := x5) (a1 := a0) S10  q6) rfl ?_
 rintro _ w9 ⟨m9, l9, S11, rfl⟩
 clear S10
 refine s_mvv (v := vU x3) rfl ?_
 obtain ⟨x7, q7, hm⟩ := obind_some hm
 refine s_call call62 (w_cyclic_AddR (a0 := x6) (a1 := x3) S11  q7) rfl ?_
 rintro _ w10 ⟨m10, l10, S12, rfl⟩
 clear S11
 refine s_build (parts := [(0, .tmp 29), (1, .tmp 34)]) (ps := [(0, vU x5, [vU x5]), (1, vU x7, [vU x7])]) (cs := [vU x5, vU x7]) zeroValue38 (BuildPl.str (ss := [1, 1]) underlying38 ⟨sizeOf22, sizeOf22, trivial⟩) rfl ⟨rfl, rfl, trivial⟩ rfl <| s_stL (i := 0) S12 rfl rfl rfl sizeOf38 (oneC rfl (oneC rfl oneN)) rfl fun w11 S13 => ?_
 replace S13 : St _ ((bx b1 [vU x5, vU x7] 38) :: As) _ := S13
 clear S12
 refine s_asv (v := vI 0) rfl <| wpl_nil <| nrm <| wpc_ret <| outRw fun we hpd => ?_
 replace S13 := St.pd S13 hpd
 have SR := S13
 obtain ⟨m11, l11, S14⟩ := St.drop S13 0
 replace S14 : St _ (As) _ := S14
 have e0 := Option.some.inj hm
 subst e0
 replace L0 := Mem.tr L0 (mt l1 (mt l3 (mt l4 (mt l5 (mt l6 (mt l7 (mt l8 (mt l9 (mt l10 l11)))))))))
 exact outR [_, _] rfl ⟨res_box (i := 0) (off := 0) (cs := [vU x5, vU x7]) SR rfl rfl isAgg38 sizeOf38 rfl (fun h => by cases h), rfl, trivial⟩ ⟨_, L0, S14, rfl⟩

def m_logd_msg (a0 : ByteArray) (a1 : List (List UInt8)) : Option (List UInt8) :=
  obind (app 1 ([] : List UInt8) a0.data.toList) fun x1 =>
  obind (m_slices_Concat_byte_byte a1) fun x2 =>
  obind (app 1 x1 x2) fun x3 =>
  some x3

theorem w_logd_msg {m : Mem} {As : List Ow} {w : World} {a0 : ByteArray} {a1 : List (List UInt8)} {a1v0 : Value} {r : List UInt8} (S : St m (As) w) (a1h0 : SlR m a1v0 a1) (hm : m_logd_msg a0 a1 = some r) :
    CallsR Tryz.prog 64 #[vS a0, a1v0] w fun v w' => ∃ (M : Mem), m ≤ M ∧ ∃ (rv0 : Value) (rc0 : List Value), St M ((row 1 rv0 rc0 r.length) :: As) w' ∧ v = rv0 ∧ RepL M rc0 r := by
 unfold m_logd_msg at hm
 have L0 := Mem.rfl' m
 refine callsR (args := [vS a0, a1v0]) func64 rfl ntmps64 (nb rfl) <| ws <| s_asv (v := .slice none 0 0) rfl <| nx <| s_mvv (v := vS a0) rfl ?_
 obtain ⟨x1, q1, hm⟩ := obind_some hm
 refine s_ofS (zs := x1) S rfl q1 underlying9 underlying57 underlying5 fun v1 c1 w1 S1 h1 => ?_
 replace S1 : St _ ((row 1 v1 c1 x1.length) :: As) _ := S1
 clear S
 refine s_mvv (v := a1v0) rfl ?_
 obtain ⟨x2, q2, hm⟩ := obind_some hm
 refine s_call call30 (w_slices_Concat_byte_byte (a0 := a1) S1 a1h0 q2) rfl ?_
 rintro v2 w2 ⟨m1, l1, _, c2, S2, rfl, h2⟩
 clear S1
 obtain ⟨m2, l2, h3, S3⟩ := St.rowKeepT (i := 0) S2 rfl h2 rfl
 clear S2
 obtain ⟨x3, q3, hm⟩ := obind_some hm
 replace h1 := RepL.up (mt l1 l2) h1
 refine s_app (i := 0) (zs := x3) (bytes := 1) (ti := Tryz.t5) S3 rfl rfl h1 rfl rfl h3 q3 underlying57 type5 rfl rfl rfl rfl fun v3 c3 w3 S4 h4 => ?_
 replace S4 : St _ ((row 1 v3 c3 x3.length) :: As) _ := S4
 clear S3
 refine s_asv (v := v3) rfl <| wpl_nil <| nrm <| wpc_ret <| outRw fun we hpd => ?_
 replace S4 := St.pd S4 hpd
 have e0 := Option.some.inj hm
 subst e0
 replace L0 := Mem.tr L0 (mt l1 l2)
 exact outR [_] rfl ⟨rfl, trivial⟩ ⟨_, L0, _, _, S4, rfl, h4⟩

def m_logd_eight_b2 (a0 : Int) (i1 : Int) (s1 : UInt8 × UInt8 × UInt8 × UInt8 × UInt8 × UInt8 × UInt8 × UInt8) : Option (UInt8 × UInt8 × UInt8 × UInt8 × UInt8 × UInt8 × UInt8 × UInt8) :=
  if (0 : Int) ≤ (w64 (56 - (w64 (8 * (i1 : Int))))) then
    obind (idx [s1.1, s1.2.1, s1.2.2.1, s1.2.2.2.1, s1.2.2.2.2.1, s1.2.2.2.2.2.1, s1.2.2.2.2.2.2.1, s1.2.2.2.2.2.2.2] (i1 : Int)) fun x4 =>
    bnd (if (i1 : Int) = 0 then (toB (shr64 a0 ((w64 (56 - (w64 (8 * (i1 : Int))))).toNat))) else s1.1) fun x5 =>
    bnd (if (i1 : Int) = 1 then (toB (shr64 a0 ((w64 (56 - (w64 (8 * (i1 : Int))))).toNat))) else s1.2.1) fun x6 =>
    bnd (if (i1 : Int) = 2 then (toB (shr64 a0 ((w64 (56 - (w64 (8 * (i1 : Int))))).toNat))) else s1.2.2.1) fun x7 =>
    bnd (if (i1 : Int) = 3 then (toB (shr64 a0 ((w64 (56 - (w64 (8 * (i1 : Int))))).toNat))) else s1.2.2.2.1) fun x8 =>
    bnd (if (i1 : Int) = 4 then (toB (shr64 a0 ((w64 (56 - (w64 (8 * (i1 : Int))))).toNat))) else s1.2.2.2.2.1) fun x9 =>
    bnd (if (i1 : Int) = 5 then (toB (shr64 a0 ((w64 (56 - (w64 (8 * (i1 : Int))))).toNat))) else s1.2.2.2.2.2.1) fun x10 =>
    bnd (if (i1 : Int) = 6 then (toB (shr64 a0 ((w64 (56 - (w64 (8 * (i1 : Int))))).toNat))) else s1.2.2.2.2.2.2.1) fun x11 =>
    bnd (if (i1 : Int) = 7 then (toB (shr64 a0 ((w64 (56 - (w64 (8 * (i1 : Int))))).toNat))) else s1.2.2.2.2.2.2.2) fun x12 =>
    some (x5, x6, x7, x8, x9, x10, x11, x12)
  else none

def m_logd_eight (a0 : Int) : Option (List UInt8) :=
  obind (
    obind (eachN0 (m_logd_eight_b2 a0) 8 0 (0, 0, 0, 0, 0, 0, 0, 0)) fun x2 =>
    some (x2.1, x2.2.1, x2.2.2.1, x2.2.2.2.1, x2.2.2.2.2.1, x2.2.2.2.2.2.1, x2.2.2.2.2.2.2.1, x2.2.2.2.2.2.2.2)
  ) fun x1 =>
  some ([x1.1, x1.2.1, x1.2.2.1, x1.2.2.2.1, x1.2.2.2.2.1, x1.2.2.2.2.2.1, x1.2.2.2.2.2.2.1, x1.2.2.2.2.2.2.2] : List UInt8)

theorem w_logd_eight {m : Mem} {As : List Ow} {w : World} {a0 : Int} {r : List UInt8} (S : St m (As) w) (hm : m_logd_eight a0 = some r) :
    CallsR Tryz.prog 65 #[vI a0] w fun v w' => ∃ (M : Mem), m ≤ M ∧ ∃ (rv0 : Value) (rc0 : List Value), St M ((row 1 rv0 rc0 r.length) :: As) w' ∧ v = rv0 ∧ RepL M rc0 r := by
 unfold m_logd_eight at hm
 have L0 := Mem.rfl' m
 refine callsR (args := [vI a0]) func65 rfl ntmps65 (nb rfl) <| ws <| s_asv (v := .slice none 0 0) rfl <| nx <| s_alloc S zeroValue138 fun b1 w1 S1 => ?_
 replace S1 : St _ ((bx b1 [vB 0, vB 0, vB 0, vB 0, vB 0, vB 0, vB 0, vB 0] 138) :: As) _ := S1
 clear S
 refine wpl_nil <| nrm ?_
 obtain ⟨x1, q1, hm⟩ := obind_some hm
 have L1 := Mem.rfl' m
 refine wpc_seq <| wpc_join (rg 4 13) (fun f' w' => ∃ (M1 : Mem), m ≤ M1 ∧ St M1 ((bx b1 [vB x1.1, vB x1.2.1, vB x1.2.2.1, vB x1.2.2.2.1, vB x1.2.2.2.2.1, vB x1.2.2.2.2.2.1, vB x1.2.2.2.2.2.2.1, vB x1.2.2.2.2.2.2.2] 138) :: As) w' ∧ AllAt f' []) ?_ ?_
 · refine ws <| s_mvv (v := vI 0) rfl <| wpl_nil <| nrm ?_
   obtain ⟨x2, q2, q1⟩ := obind_some q1
   have L2 := Mem.rfl' m
   refine wpc_join (rg 4 13) (fun f' w' => ∃ (M2 : Mem), m ≤ M2 ∧ St M2 ((bx b1 [vB x2.1, vB x2.2.1, vB x2.2.2.1, vB x2.2.2.2.1, vB x2.2.2.2.2.1, vB x2.2.2.2.2.2.1, vB x2.2.2.2.2.2.2.1, vB x2.2.2.2.2.2.2.2] 138) :: As) w' ∧ AllAt f' []) ?_ ?_
   · refine wpc_block <| wpc_rounds (rg 4 13) (fun n1 f' w' => ∃ (i1 : Nat) (s1 : UInt8 × UInt8 × UInt8 × UInt8 × UInt8 × UInt8 × UInt8 × UInt8) (m2 : Mem), n1 = 8 - i1 ∧ i1 ≤ 8 ∧ eachN0 (m_logd_eight_b2 a0) (8 - i1) (i1 : Int) s1 = some x2 ∧ m ≤ m2 ∧ St m2 ((bx b1 [vB s1.1, vB s1.2.1, vB s1.2.2.1, vB s1.2.2.2.1, vB s1.2.2.2.2.1, vB s1.2.2.2.2.2.1, vB s1.2.2.2.2.2.2.1, vB s1.2.2.2.2.2.2.2] 138) :: As) w' ∧ AllAt f' [(5, vI (i1 : Int))]) 8 ⟨0, (0, 0, 0, 0, 0, 0, 0, 0), m, rfl, Nat.zero_le _, q2, L2, S1, ⟨rfl, trivial⟩⟩ ?_
     rintro n1 f1 w2 ho ⟨i1, s1, m1, hn, hi, q3, L4, S2, ha⟩
     obtain ⟨u1, rfl⟩ := fr_of (N := 18) ho ha
     clear ho ha
     have L3 := Mem.rfl' m1
     clear S1
     refine ws <| s_lss (m := (i1 : Int)) (n := 8) rfl rfl <| wpl_nil <| nrm <| wpc_seq <| wpc_if (t := decide ((i1 : Int) < (8 : Int))) rfl (fun hc1 => ?_) (fun hc1 => ?_)
     · have hlt1 : i1 < 8 := by have := of_decide_eq_true hc1; omega
       obtain ⟨y1, q5, q4⟩ := eachN0_in q3 hlt1
       unfold m_logd_eight_b2 at q5
       refine wpc_skip <| nrm <| wpc_seq <| wpc_block <| ws <| s_mvv (v := vI (i1 : Int)) rfl <| s_asv (v := vI (i1 : Int)) rfl <| wpl_nil <| nrm <| wpc_region <| s_mvv (v := vI (i1 : Int)) rfl <| s_mvv (v := vI a0) rfl <| s_mvv (v := vI (i1 : Int)) rfl <| s_mulI (m := 8) (n := (i1 : Int)) rfl rfl <| s_subI (m := 56) (n := (w64 (8 * (i1 : Int)))) rfl rfl ?_
       obtain ⟨q7, q5⟩ := if_some q5
       refine s_shrI (m := a0) (n := (w64 (56 - (w64 (8 * (i1 : Int)))))) rfl rfl q7 <| s_convB rfl underlying3 underlying5 ?_
       obtain ⟨x4, q8, q5⟩ := obind_some q5
       refine s_idxA (i := (i1 : Int)) rfl rfl underlying138 sizeOf5 (idx_rng q8).1 (idx_rng q8).2 ?_
       obtain ⟨x5, q9, q5⟩ := bnd_eq q5
       obtain ⟨x6, q10, q5⟩ := bnd_eq q5
       obtain ⟨x7, q11, q5⟩ := bnd_eq q5
       obtain ⟨x8, q12, q5⟩ := bnd_eq q5
       obtain ⟨x9, q13, q5⟩ := bnd_eq q5
       obtain ⟨x10, q14, q5⟩ := bnd_eq q5
       obtain ⟨x11, q15, q5⟩ := bnd_eq q5
       obtain ⟨x12, q16, q5⟩ := bnd_eq q5
       refine s_st (i := 0) (off := 0 + (i1 : Int).toNat * 1) S2 rfl rfl rfl sizeOf5 (OneL.all (oneC rfl oneN)) (by rcases idx8 q8 with ⟨h, h'⟩ | ⟨h, h'⟩ | ⟨h, h'⟩ | ⟨h, h'⟩ | ⟨h, h'⟩ | ⟨h, h'⟩ | ⟨h, h'⟩ | ⟨h, h'⟩ <;> (rw [h]; exact nb rfl)) fun w3 S3 => ?_
       replace S3 := St.cellsTo (i := 0) (l' := [vB x5, vB x6, vB x7, vB x8, vB x9, vB x10, vB x11, vB x12]) S3 (by rcases idx8 q8 with ⟨h, h'⟩ | ⟨h, h'⟩ | ⟨h, h'⟩ | ⟨h, h'⟩ | ⟨h, h'⟩ | ⟨h, h'⟩ | ⟨h, h'⟩ | ⟨h, h'⟩ <;> (simp only [q9, q10, q11, q12, q13, q14, q15, q16, h]; rfl)) rfl
       replace S3 : St _ ((bx b1 [vB x5, vB x6, vB x7, vB x8, vB x9, vB x10, vB x11, vB x12] 138) :: As) _ := S3
       clear S2
       refine wpl_nil <| nrmB <| nrm <| wpc_region <| s_addI (m := (i1 : Int)) (n := 1) rfl rfl <| s_mvv (v := vI (w64 ((i1 : Int) + 1))) rfl <| wpl_nil <| nrm ?_
       have e0 := Option.some.inj q5
       subst e0
       exact ⟨outP, _, (by omega), ⟨i1 + 1, (x5, x6, x7, x8, x9, x10, x11, x12), m1, rfl, hlt1, q4, Mem.tr L4 L3, S3, ⟨congrArg (Value.int .i64) (w64_succ hlt1 (by decide)), trivial⟩⟩⟩
     have hlt1 : ¬ i1 < 8 := by have := of_decide_eq_false hc1; omega
     have e := Eq.symm (eachN0_out q3 hlt1)
     subst e
     exact wpc_exit <| thE <| thE <| exB <| nrm <| ⟨outP, m1, Mem.tr L4 L3, S2, trivial⟩
   rintro f2 w4 ho ⟨m3, l1, S4, ha⟩
   obtain ⟨u2, rfl⟩ := fr_of (N := 18) ho ha
   clear ho ha S1
   have e0 := Option.some.inj q1
   subst e0
   replace L1 := Mem.tr L1 l1
   exact ⟨outP, m3, L1, S4, trivial⟩
 rintro f3 w5 ho ⟨m4, l2, S5, ha⟩
 obtain ⟨u3, rfl⟩ := fr_of (N := 18) ho ha
 clear S1
 refine ws <| s_sliceA (k := 8) (n := 8) (sz := 1) (off := 0) rfl underlying138 sizeOf5 (.inl ⟨rfl, rfl⟩) (Nat.le_refl _) ?_
 have S6 := St.bxRow (i := 0) (sz := 1) (n := 8) S5 rfl rfl (by decide)
 have h1 : RepL m4 [vB x1.1, vB x1.2.1, vB x1.2.2.1, vB x1.2.2.2.1, vB x1.2.2.2.2.1, vB x1.2.2.2.2.2.1, vB x1.2.2.2.2.2.2.1, vB x1.2.2.2.2.2.2.2] ([x1.1, x1.2.1, x1.2.2.1, x1.2.2.2.1, x1.2.2.2.2.1, x1.2.2.2.2.2.1, x1.2.2.2.2.2.2.1, x1.2.2.2.2.2.2.2] : List UInt8) := (RepL.cons (c := [vB x1.1]) rfl (RepL.cons (c := [vB x1.2.1]) rfl (RepL.cons (c := [vB x1.2.2.1]) rfl (RepL.cons (c := [vB x1.2.2.2.1]) rfl (RepL.cons (c := [vB x1.2.2.2.2.1]) rfl (RepL.cons (c := [vB x1.2.2.2.2.2.1]) rfl (RepL.cons (c := [vB x1.2.2.2.2.2.2.1]) rfl (RepL.cons (c := [vB x1.2.2.2.2.2.2.2]) rfl RepL.nil))))))))
 replace S6 : St _ ((row 1 (.slice (some ⟨b1, 0, none⟩) 8 8) [vB x1.1, vB x1.2.1, vB x1.2.2.1, vB x1.2.2.2.1, vB x1.2.2.2.2.1, vB x1.2.2.2.2.2.1, vB x1.2.2.2.2.2.2.1, vB x1.2.2.2.2.2.2.2] ([x1.1, x1.2.1, x1.2.2.1, x1.2.2.2.1, x1.2.2.2.2.1, x1.2.2.2.2.2.1, x1.2.2.2.2.2.2.1, x1.2.2.2.2.2.2.2] : List UInt8).length) :: As) _ := S6
 clear S5
 refine s_asv (v := (.slice (some ⟨b1, 0, none⟩) 8 8)) rfl <| wpl_nil <| nrm <| wpc_ret <| outRw fun we hpd => ?_
 replace S6 := St.pd S6 hpd
 have e0 := Option.some.inj hm
 subst e0
 replace L0 := Mem.tr L0 l2
 exact outR [_] rfl ⟨rfl, trivial⟩ ⟨_, L0, _, _, S6, rfl, h1⟩

def m_logd_ofHead (a0 : g_api_Head) : Option (List UInt8) :=
  obind (m_logd_eight a0.Log) fun x1 =>
  obind (m_logd_eight a0.Size) fun x2 =>
  obind (m_hash_Bytes a0.Root) fun x3 =>
  obind (m_logd_eight a0.At) fun x4 =>
  obind (m_logd_msg (⟨#[104, 101, 97, 100]⟩ : ByteArray) ([x1, x2, x3, x4] : List (List UInt8))) fun x5 =>
  some x5

theorem w_logd_ofHead {m : Mem} {As : List Ow} {w : World} {a0 : g_api_Head} {r : List UInt8} (S : St m (As) w) (hm : m_logd_ofHead a0 = some r) :
    CallsR Tryz.prog 29 #[.agg (c_api_Head a0).toArray] w fun v w' => ∃ (M : Mem), m ≤ M ∧ ∃ (rv0 : Value) (rc0 : List Value), St M ((row 1 rv0 rc0 r.length) :: As) w' ∧ v = rv0 ∧ RepL M rc0 r := by
 unfold m_logd_ofHead at hm
 have L0 := Mem.rfl' m
 refine callsR (args := [.agg (c_api_Head a0).toArray]) func29 rfl ntmps29 (nb rfl) <| ws <| s_box S rfl fun b1 w1 S1 => ?_
 replace S1 : St _ ((bx b1 (c_api_Head a0) 40) :: As) _ := S1
 clear S
 refine s_asv (v := .slice none 0 0) rfl <| wpl_nil <| nrm <| wpc_seq ?_
 obtain ⟨x1, q1, hm⟩ := obind_some hm
 obtain ⟨x2, q2, hm⟩ := obind_some hm
 obtain ⟨x3, q3, hm⟩ := obind_some hm
 have HM : MonoAll [(3, fv (pt b1 0)), (4, fv (vI a0.Log)), (5, fun _ _ => True), (6, fv (pt b1 1)), (7, fv (vI a0.Size)), (8, fun _ _ => True), (9, fv (pt b1 2)), (10, fv (.agg #[vU a0.Root.1, vU a0.Root.2])), (11, fun _ _ => True), (12, fv (pt b1 4)), (13, fv (vI a0.At))] := ⟨mv, mv, (fun _ _ _ _ h => h), mv, mv, (fun _ _ _ _ h => h), mv, mv, (fun _ _ _ _ h => h), mv, mv, trivial⟩
 refine wpc_flowG HM 11 mixed rfl rfl rfl (rg 3 11) (fun L f M w => ∃ (X1 : List Ow), ∃ (X2 : List Ow), ∃ (X3 : List Ow), ((L 2 = false → X1 = []) ∧ (L 2 = true → (RowS M X1 1 (f 5) x1))) ∧ ((L 5 = false → X2 = []) ∧ (L 5 = true → (RowS M X2 1 (f 8) x2))) ∧ ((L 8 = false → X3 = []) ∧ (L 8 = true → (RowS M X3 1 (f 11) x3))) ∧ St M ((bx b1 (c_api_Head a0) 40) :: (X1 ++ (X2 ++ (X3 ++ As)))) w) (⟨[], [], [], ⟨fun _ => rfl, fun hx => ff hx⟩, ⟨fun _ => rfl, fun hx => ff hx⟩, ⟨fun _ => rfl, fun hx => ff hx⟩, St.drew S1 _⟩) ?_ ?_
 · refine ⟨?_, ?_, ?_, ?_, ?_, ?_, ?_, ?_, ?_, ?_, ?_, trivial⟩
   · exact flp HM rfl [] (fun _ _ => trivial) (fun _ _ q => s_fld (n := 0) rfl underlying40 rfl rfl sizeOf3 q) rfl
   · exact flp HM rfl [(3, _)] (fun K _ => ⟨K 0 rfl, trivial⟩) (fun _ ⟨_, _, _, _, _, _, S3⟩ q => s_ld (i := 0) (cs := [vI a0.Log]) S3 rfl rfl isAgg3 sizeOf3 rfl (fun _ => rfl) q) rfl
   · intro L f3 w4 hL hd hc ⟨m3, L5, ⟨X1, X2, X3, C7, C8, C9, S4⟩, K, hO⟩
     have d2 : L 2 = false := hL
     obtain ⟨u3, rfl⟩ := fr_of (N := 17) (L := [(4, _)]) hO ⟨K 1 (dep hd rfl), trivial⟩
     obtain rfl := C7.1 d2
     replace S4 : St _ ((bx b1 (c_api_Head a0) 40) :: (X2 ++ (X3 ++ As))) _ := S4
     have L6 := Mem.rfl' m3
     refine s_call call65 (w_logd_eight (a0 := a0.Log) S4  q1) rfl ?_
     rintro v1 w5 ⟨m4, l1, _, c1, S5, rfl, h1⟩
     replace C8 := C8.imp id (fun p a => RowS.up l1 (p a))
     replace C9 := C9.imp id (fun p a => RowS.up l1 (p a))
     clear S4
     refine wpn ?_
     replace L6 := Mem.tr L6 l1
     refine ⟨m4, Mem.tr L5 L6, ⟨[row 1 v1 c1 x1.length], X2, X3, ⟨fun hx => tf rfl hx, fun _ => ⟨_, rfl, h1⟩⟩, C8, C9, ?_⟩, facts_step HM rfl K L6 rfl rfl trivial, outP⟩
     have S25 : St _ ((bx b1 (c_api_Head a0) 40) :: (row 1 v1 c1 x1.length) :: (X2 ++ (X3 ++ As))) _ := St.perm S5 (List.Perm.swap _ _ _)
     exact S25
   · exact flp HM rfl [] (fun _ _ => trivial) (fun _ _ q => s_fld (n := 0) rfl underlying40 rfl rfl sizeOf3 q) rfl
   · exact flp HM rfl [(6, _)] (fun K _ => ⟨K 3 rfl, trivial⟩) (fun _ ⟨_, _, _, _, _, _, S7⟩ q => s_ld (i := 0) (cs := [vI a0.Size]) S7 rfl rfl isAgg3 sizeOf3 rfl (fun _ => rfl) q) rfl
   · intro L f6 w8 hL hd hc ⟨m7, L11, ⟨X1, X2, X3, C16, C17, C18, S8⟩, K, hO⟩
     have d5 : L 5 = false := hL
     obtain ⟨u6, rfl⟩ := fr_of (N := 17) (L := [(7, _)]) hO ⟨K 4 (dep hd rfl), trivial⟩
     replace S8 := St.sw (L := [bx b1 (c_api_Head a0) 40]) (X := X1) (Y := X2) (As := (X3 ++ As)) S8
     replace S8 : St _ ((bx b1 (c_api_Head a0) 40) :: (X2 ++ (X1 ++ (X3 ++ As)))) _ := S8
     obtain rfl := C17.1 d5
     replace S8 : St _ ((bx b1 (c_api_Head a0) 40) :: (X1 ++ (X3 ++ As))) _ := S8
     have L12 := Mem.rfl' m7
     refine s_call call65 (w_logd_eight (a0 := a0.Size) S8  q2) rfl ?_
     rintro v2 w9 ⟨m8, l2, _, c2, S9, rfl, h2⟩
     replace C16 := C16.imp id (fun p a => RowS.up l2 (p a))
     replace C18 := C18.imp id (fun p a => RowS.up l2 (p a))
     clear S8
     refine wpn ?_
     replace L12 := Mem.tr L12 l2
     refine ⟨m8, Mem.tr L11 L12, ⟨X1, [row 1 v2 c2 x2.length], X3, C16, ⟨fun hx => tf rfl hx, fun _ => ⟨_, rfl, h2⟩⟩, C18, ?_⟩, facts_step HM rfl K L12 rfl rfl trivial, outP⟩
     have S26 : St _ ((bx b1 (c_api_Head a0) 40) :: (row 1 v2 c2 x2.length) :: (X1 ++ (X3 ++ As))) _ := St.perm S9 (List.Perm.swap _ _ _)
     have S26s := St.sw (L := [bx b1 (c_api_Head a0) 40]) (X := [row 1 v2 c2 x2.length]) (Y := X1) (As := (X3 ++ As)) S26
     exact S26s
   · exact flp HM rfl [] (fun _ _ => trivial) (fun _ _ q => s_fld (n := 1) rfl underlying40 rfl rfl sizeOf36 q) rfl
   · exact flp HM rfl [(9, _)] (fun K _ => ⟨K 6 rfl, trivial⟩) (fun _ ⟨_, _, _, _, _, _, S11⟩ q => s_ld (i := 0) (cs := [vU a0.Root.1, vU a0.Root.2]) S11 rfl rfl isAgg36 sizeOf36 rfl (fun h => by cases h) q) rfl
   · intro L f9 w12 hL hd hc ⟨m11, L17, ⟨X1, X2, X3, C25, C26, C27, S12⟩, K, hO⟩
     have d8 : L 8 = false := hL
     obtain ⟨u9, rfl⟩ := fr_of (N := 17) (L := [(10, _)]) hO ⟨K 7 (dep hd rfl), trivial⟩
     replace S12 := St.swN (L := [bx b1 (c_api_Head a0) 40]) (T := [X1]) (X := X2) (Y := X3) (As := As) S12
     replace S12 : St _ ((bx b1 (c_api_Head a0) 40) :: (X1 ++ (X3 ++ (X2 ++ As)))) _ := S12
     replace S12 := St.sw (L := [bx b1 (c_api_Head a0) 40]) (X := X1) (Y := X3) (As := (X2 ++ As)) S12
     replace S12 : St _ ((bx b1 (c_api_Head a0) 40) :: (X3 ++ (X1 ++ (X2 ++ As)))) _ := S12
     obtain rfl := C27.1 d8
     replace S12 : St _ ((bx b1 (c_api_Head a0) 40) :: (X1 ++ (X2 ++ As))) _ := S12
     have L18 := Mem.rfl' m11
     refine s_call call66 (w_hash_Bytes (a0 := a0.Root) S12  q3) rfl ?_
     rintro v3 w13 ⟨m12, l3, _, c3, S13, rfl, h3⟩
     replace C25 := C25.imp id (fun p a => RowS.up l3 (p a))
     replace C26 := C26.imp id (fun p a => RowS.up l3 (p a))
     clear S12
     refine wpn ?_
     replace L18 := Mem.tr L18 l3
     refine ⟨m12, Mem.tr L17 L18, ⟨X1, X2, [row 1 v3 c3 x3.length], C25, C26, ⟨fun hx => tf rfl hx, fun _ => ⟨_, rfl, h3⟩⟩, ?_⟩, facts_step HM rfl K L18 rfl rfl trivial, outP⟩
     have S27 : St _ ((bx b1 (c_api_Head a0) 40) :: (row 1 v3 c3 x3.length) :: (X1 ++ (X2 ++ As))) _ := St.perm S13 (List.Perm.swap _ _ _)
     have S27s := St.sw (L := [bx b1 (c_api_Head a0) 40]) (X := [row 1 v3 c3 x3.length]) (Y := X1) (As := (X2 ++ As)) S27
     have S27ss := St.swN (L := [bx b1 (c_api_Head a0) 40]) (T := [X1]) (X := [row 1 v3 c3 x3.length]) (Y := X2) (As := As) S27s
     exact S27ss
   · exact flp HM rfl [] (fun _ _ => trivial) (fun _ _ q => s_fld (n := 0) rfl underlying40 rfl rfl sizeOf3 q) rfl
   · exact flp HM rfl [(12, _)] (fun K _ => ⟨K 9 rfl, trivial⟩) (fun _ ⟨_, _, _, _, _, _, S15⟩ q => s_ld (i := 0) (cs := [vI a0.At]) S15 rfl rfl isAgg3 sizeOf3 rfl (fun _ => rfl) q) rfl
 intro L f12 w16 hall ⟨m15, L23, ⟨X1, X2, X3, C34, C35, C36, S16⟩, K, hO⟩
 obtain ⟨v4, e8⟩ : ∃ x, f12 5 = x := ⟨_, rfl⟩
 obtain ⟨v5, e9⟩ : ∃ x, f12 8 = x := ⟨_, rfl⟩
 obtain ⟨v6, e10⟩ : ∃ x, f12 11 = x := ⟨_, rfl⟩
 have d10 : L 10 = true := hall 10 (by decide)
 have d2 : L 2 = true := hall 2 (by decide)
 have d5 : L 5 = true := hall 5 (by decide)
 have d8 : L 8 = true := hall 8 (by decide)
 obtain ⟨u12, rfl⟩ := fr_of (N := 17) (L := [(5, _), (8, _), (11, _), (13, _)]) hO ⟨e8, e9, e10, K 10 d10, trivial⟩
 replace S16 : St _ ((bx b1 (c_api_Head a0) 40) :: (X1 ++ (X2 ++ (X3 ++ As)))) _ := S16
 obtain ⟨c4, rfl, h4⟩ := C34.2 d2
 replace h4 : RepL _ c4 x1 := h4
 obtain ⟨c5, rfl, h5⟩ := C35.2 d5
 replace h5 : RepL _ c5 x2 := h5
 obtain ⟨c6, rfl, h6⟩ := C36.2 d8
 replace h6 : RepL _ c6 x3 := h6
 replace S16 : St _ ((bx b1 (c_api_Head a0) 40) :: (row 1 v4 c4 x1.length) :: (row 1 v5 c5 x2.length) :: (row 1 v6 c6 x3.length) :: As) _ := S16
 clear S1
 obtain ⟨x4, q4, hm⟩ := obind_some hm
 refine s_call call65 (w_logd_eight (a0 := a0.At) S16  q4) rfl ?_
 rintro v7 w17 ⟨m16, l4, _, c7, S17, rfl, h7⟩
 clear S16
 replace h4 := RepL.up l4 h4
 obtain ⟨m17, l5, h8, S18⟩ := St.rowKeepT (i := 2) S17 rfl h4 rfl
 clear S17
 replace h5 := RepL.up (mt l4 l5) h5
 obtain ⟨m18, l6, h9, S19⟩ := St.rowKeepT (i := 2) S18 rfl h5 rfl
 clear S18
 replace h6 := RepL.up (mt l4 (mt l5 l6)) h6
 obtain ⟨m19, l7, h10, S20⟩ := St.rowKeepT (i := 2) S19 rfl h6 rfl
 clear S19
 replace h7 := RepL.up (mt l5 (mt l6 l7)) h7
 obtain ⟨m20, l8, h11, S21⟩ := St.rowKeepT (i := 0) S20 rfl h7 rfl
 clear S20
 replace h8 := h8.up (mt l6 (mt l7 l8))
 replace h9 := h9.up (mt l7 l8)
 replace h10 := h10.up l8
 refine s_litC (parts := [.tmp 5, .tmp 8, .tmp 11, .tmp 14]) (vs := [v4, v5, v6, v7]) (cls := [[v4], [v5], [v6], [v7]]) (xs := ([x1, x2, x3, x4] : List (List UInt8))) (n := 4) S21 underlying119 sizeOf57 zeroValue57 rfl ⟨SlR.cells h8, SlR.cells h9, SlR.cells h10, SlR.cells h11, trivial⟩ (RepL.cons (c := [v4]) (x := x1) ⟨_, rfl, h8⟩ (RepL.cons (c := [v5]) (x := x2) ⟨_, rfl, h9⟩ (RepL.cons (c := [v6]) (x := x3) ⟨_, rfl, h10⟩ (RepL.cons (c := [v7]) (x := x4) ⟨_, rfl, h11⟩ RepL.nil)))) rfl rfl rfl (by decide) (by decide) fun v8 m21 w18 l9 S22 h12 => ?_
 clear S21
 obtain ⟨x5, q5, hm⟩ := obind_some hm
 refine s_call call64 (w_logd_msg (a0 := (⟨#[104, 101, 97, 100]⟩ : ByteArray)) (a1 := ([x1, x2, x3, x4] : List (List UInt8))) S22 h12 q5) rfl ?_
 rintro v9 w19 ⟨m22, l10, _, c8, S23, rfl, h13⟩
 clear S22
 refine s_asv (v := v9) rfl <| wpl_nil <| nrm <| wpc_ret <| outRw fun we hpd => ?_
 replace S23 := St.pd S23 hpd
 obtain ⟨m23, l11, S24⟩ := St.drop S23 1
 clear S23
 replace S24 : St _ ((row 1 v9 c8 x5.length) :: As) _ := S24
 have e0 := Option.some.inj hm
 subst e0
 replace L0 := Mem.tr L0 (mt L23 (mt l4 (mt l5 (mt l6 (mt l7 (mt l8 (mt l9 (mt l10 l11))))))))
 replace h13 := RepL.up l11 h13
 exact outR [_] rfl ⟨rfl, trivial⟩ ⟨_, L0, _, _, S24, rfl, h13⟩

def m_logd_Head (a0 : g_api_Log) (a1 : Int) (a2 : Int) (a3 : Int) : Option (g_api_Head × Int) :=
  obind (m_logd_first a0 a1 a2) fun x1 =>
  obind (
    obind (
      if ((x1.2 == 0) || (x1.2 == 80)) = true then
        obind (m_logd_number a3) fun x5 =>
        some (!x5)
      else
      some false
    ) fun x4 =>
    if x4 = true then
      some 1
    else
    some x1.2
  ) fun x2 =>
  if (x2 != 0) = true then
    some ((⟨0, 0, (0, 0), 0, (⟨0, 0⟩ : g_api_Sig)⟩ : g_api_Head), x2)
  else
  obind (m_merkle_Root x1.1) fun x6 =>
  obind (m_logd_ofHead (⟨a0.Id, a2, x6, a3, (⟨0, 0⟩ : g_api_Sig)⟩ : g_api_Head)) fun x7 =>
  obind (m_sign_Sign a0.Key x7) fun x8 =>
  some ((⟨a0.Id, a2, x6, a3, x8.1⟩ : g_api_Head), x8.2)

theorem w_logd_Head {m : Mem} {As : List Ow} {w : World} {a0 : g_api_Log} {a0v3 : Value} {a0v4 : Value} {a0v5 : Value} {a1 : Int} {a2 : Int} {a3 : Int} {r : g_api_Head × Int} (S : St m (As) w) (a0h3 : SlR m a0v3 a0.L) (a0h4 : SlR m a0v4 a0.Hide) (a0h5 : SlR m a0v5 a0.Wait) (hm : m_logd_Head a0 a1 a2 a3 = some r) :
    CallsR Tryz.prog 8 #[.agg (c_api_Log a0 a0v3 a0v4 a0v5).toArray, vI a1, vI a2, vI a3] w fun v w' => ∃ (M : Mem), m ≤ M ∧ St M (As) w' ∧ v = .tuple #[.agg (c_api_Head r.1).toArray, vI r.2] := by
 unfold m_logd_Head at hm
 have L0 := Mem.rfl' m
 refine callsR (args := [.agg (c_api_Log a0 a0v3 a0v4 a0v5).toArray, vI a1, vI a2, vI a3]) func8 rfl ntmps8 (nb rfl) <| ws <| s_box S rfl fun b1 w1 S1 => ?_
 replace S1 : St _ ((bx b1 (c_api_Log a0 a0v3 a0v4 a0v5) 26) :: As) _ := S1
 clear S
 refine s_alloc S1 zeroValue40 fun b2 w2 S2 => ?_
 replace S2 : St _ ((bx b2 z_api_Head 40) :: (bx b1 (c_api_Log a0 a0v3 a0v4 a0v5) 26) :: As) _ := S2
 clear S1
 refine s_asv (v := vI 0) rfl <| nx <| s_ld (i := 1) (cs := (c_api_Log a0 a0v3 a0v4 a0v5)) S2 rfl rfl isAgg26 sizeOf26 rfl (fun h => by cases h) <| s_mvv (v := vI a1) rfl <| s_mvv (v := vI a2) rfl ?_
 obtain ⟨x1, q1, hm⟩ := obind_some hm
 refine s_call call26 (w_logd_first (a0 := a0) (a1 := a1) (a2 := a2) S2 a0h3 a0h4 a0h5 q1) rfl ?_
 rintro _ w3 ⟨m1, l1, v1, c1, S3, rfl, h1⟩
 clear S2
 refine s_mvv (v := .tuple #[v1, vI x1.2]) rfl <| s_ext (i := 0) rfl rfl <| s_ext (i := 1) rfl rfl <| s_asv (v := v1) rfl <| s_asv (v := vI x1.2) rfl <| wpl_nil <| nrm ?_
 obtain ⟨x2, q2, hm⟩ := obind_some hm
 have L1 := Mem.rfl' m1
 refine wpc_seq <| wpc_join [11, 20, 21, 22, 23, 24, 25, 26, 27, 28, 29, 30] (fun f' w' => ∃ (M1 : Mem), m1 ≤ M1 ∧ St M1 ((row 2 v1 c1 x1.1.length) :: (bx b2 z_api_Head 40) :: (bx b1 (c_api_Log a0 a0v3 a0v4 a0v5) 26) :: As) w' ∧ AllAt f' [(11, vI x2)]) ?_ ?_
 · refine ws <| s_mvv (v := vI x1.2) rfl <| s_eql (m := x1.2) (n := 0) rfl rfl <| s_mvv (v := vb (x1.2 == 0)) rfl <| wpl_cut 3 [23, 24, 25] (fun f' w' => w' = w3 ∧ AllAt f' [(25, vb ((x1.2 == 0) || (x1.2 == 80)))]) ?_ ?_
   · rcases bool_tf (x1.2 == 0) with hb1 | hb1
     · exact wpl_no (d := 22) rfl rfl (cb hb1) <| wpl_no (d := 22) rfl rfl (cb hb1) <| s_pickT (cb hb1) rfl <| wpl_nil (nrm ⟨outP, rfl, congrArg Value.bool (or_t hb1), trivial⟩)
     · exact wpl_yes (d := 22) rfl rfl (cb hb1) <| s_mvv (v := vI x1.2) rfl <| wpl_yes (d := 22) rfl rfl (cb hb1) <| s_eql (m := x1.2) (n := 80) rfl rfl <| s_pickF (cb hb1) rfl <| wpl_nil (nrm ⟨outP, rfl, congrArg Value.bool (or_f hb1), trivial⟩)
   rintro f1 w4 ho ⟨h2, ha⟩
   subst h2
   obtain ⟨u1, rfl⟩ := fr_of (N := 53) ho ha
   refine s_mvv (v := vb ((x1.2 == 0) || (x1.2 == 80))) rfl ?_
   obtain ⟨x4, q4, q2⟩ := obind_some q2
   have L2 := Mem.rfl' m1
   refine wpl_cut 4 [27, 28, 29, 30] (fun f' w' => ∃ (M2 : Mem), m1 ≤ M2 ∧ St M2 ((row 2 v1 c1 x1.1.length) :: (bx b2 z_api_Head 40) :: (bx b1 (c_api_Log a0 a0v3 a0v4 a0v5) 26) :: As) w' ∧ AllAt f' [(30, vb x4)]) ?_ ?_
   · rcases bool_tf ((x1.2 == 0) || (x1.2 == 80)) with hb2 | hb2
     · replace q4 := ifT hb2 q4
       refine wpl_yes (d := 26) rfl rfl (cb hb2) <| s_mvv (v := vI a3) rfl <| wpl_yes (d := 26) rfl rfl (cb hb2) ?_
       obtain ⟨x5, q5, q4⟩ := obind_some q4
       refine s_call call22 (w_logd_number (a0 := a3) S3  q5) rfl ?_
       rintro _ w6 ⟨m3, l3, S5, rfl⟩
       clear S3
       refine wpl_yes (d := 26) rfl rfl (cb hb2) <| s_not rfl <| s_pickT (cb hb2) rfl <| wpl_nil (nrm ?_)
       have e0 := Option.some.inj q4
       subst e0
       replace L2 := Mem.tr L2 l3
       exact ⟨outP, m3, L2, S5, ⟨rfl, trivial⟩⟩
     replace q4 := ifF hb2 q4
     refine wpl_no (d := 26) rfl rfl (cb hb2) <| wpl_no (d := 26) rfl rfl (cb hb2) <| wpl_no (d := 26) rfl rfl (cb hb2) <| s_pickF (cb hb2) rfl <| wpl_nil (nrm ?_)
     have e0 := Option.some.inj q4
     subst e0
     exact ⟨outP, m1, L2, S3, ⟨rfl, trivial⟩⟩
   rintro f2 w7 ho ⟨m4, l4, S6, ha⟩
   obtain ⟨u2, rfl⟩ := fr_of (N := 53) ho ha
   clear S3
   refine wpl_nil <| nrm <| wpc_if (t := x4) rfl (fun hc1 => ?_) (fun hc1 => ?_)
   · replace q2 := ifT hc1 q2
     refine wpc_region <| s_asv (v := vI 1) rfl <| wpl_nil <| nrm ?_
     have e0 := Option.some.inj q2
     subst e0
     replace L1 := Mem.tr L1 l4
     exact ⟨outP, m4, L1, S6, ⟨rfl, trivial⟩⟩
   replace q2 := ifF hc1 q2
   refine wpc_skip <| nrm ?_
   have e0 := Option.some.inj q2
   subst e0
   replace L1 := Mem.tr L1 l4
   exact ⟨outP, m4, L1, S6, ⟨rfl, trivial⟩⟩
 rintro f3 w8 ho ⟨m5, l5, S7, ha⟩
 obtain ⟨u3, rfl⟩ := fr_of (N := 53) ho ha
 clear S3
 refine wpc_seq <| ws <| s_mvv (v := vI x2) rfl <| s_neq (m := x2) (n := 0) rfl rfl <| wpl_nil <| nrm <| wpc_if (t := (x2 != 0)) rfl (fun hc2 => ?_) (fun hc2 => ?_)
 · replace hm := ifT hc2 hm
   refine ws <| s_build (parts := []) (ps := []) (cs := z_api_Head) zeroValue40 (BuildPl.str (ss := [1, 1, 2, 1, 2]) underlying40 ⟨sizeOf3, sizeOf3, sizeOf36, sizeOf3, sizeOf38, trivial⟩) rfl trivial rfl <| s_mvv (v := vI x2) rfl <| s_stL (i := 1) S7 rfl rfl rfl sizeOf40 (oneC rfl (oneC rfl (oneC rfl (oneC rfl (oneC rfl (oneC rfl (oneC rfl oneN))))))) rfl fun w9 S8 => ?_
   replace S8 : St _ ((row 2 v1 c1 x1.1.length) :: (bx b2 z_api_Head 40) :: (bx b1 (c_api_Log a0 a0v3 a0v4 a0v5) 26) :: As) _ := S8
   clear S7
   refine s_asv (v := vI x2) rfl <| wpl_nil <| nrm <| wpc_ret <| thR <| outRw fun we hpd => ?_
   replace S8 := St.pd S8 hpd
   have SR := S8
   obtain ⟨m6, l6, S9⟩ := St.drop S8 0
   replace S9 : St _ ((bx b2 z_api_Head 40) :: (bx b1 (c_api_Log a0 a0v3 a0v4 a0v5) 26) :: As) _ := S9
   obtain ⟨m7, l7, S10⟩ := St.drop S9 0
   clear S9
   replace S10 : St _ ((bx b1 (c_api_Log a0 a0v3 a0v4 a0v5) 26) :: As) _ := S10
   obtain ⟨m8, l8, S11⟩ := St.drop S10 0
   clear S10
   replace S11 : St _ (As) _ := S11
   have e0 := Option.some.inj hm
   subst e0
   replace L0 := Mem.tr L0 (mt l1 (mt l5 (mt l6 (mt l7 l8))))
   exact outR [_, _] rfl ⟨res_box (i := 1) (off := 0) (cs := z_api_Head) SR rfl rfl isAgg40 sizeOf40 rfl (fun h => by cases h), rfl, trivial⟩ ⟨_, L0, S11, rfl⟩
 replace hm := ifF hc2 hm
 refine wpc_skip <| nrm <| wpc_seq ?_
 replace h1 := RepL.up l5 h1
 obtain ⟨m9, l9, h3, S12⟩ := St.rowKeepT (i := 0) S7 rfl h1 rfl
 clear S7
 obtain ⟨x6, q6, hm⟩ := obind_some hm
 have HM : MonoAll [(35, fv (pt b1 0)), (36, fv (vI a0.Id)), (37, fv (vI a2)), (38, fv v1), (39, fv (.agg #[vU x6.1, vU x6.2])), (40, fv (vI a3)), (41, fv (.agg #[vI a0.Id, vI a2, vU x6.1, vU x6.2, vI a3, vU 0, vU 0])), (12, fun (M : Mem) (v : Value) => ∃ (b3 : Nat), v = pt b3 0)] := ⟨mv, mv, mv, mv, mv, mv, mv, (fun _ _ _ _ h => h), trivial⟩
 refine wpc_flowG HM 8 mixed rfl rfl rfl [12, 35, 36, 37, 38, 39, 40, 41] (fun L f M w => St M ((bx b2 z_api_Head 40) :: (bx b1 (c_api_Log a0 a0v3 a0v4 a0v5) 26) :: ((bif L 7 then [bxv (f 12) z_api_Head 40] else []) ++ As)) w) (St.drew S12 _) ?_ ?_
 · refine ⟨?_, ?_, ?_, ?_, ?_, ?_, ?_, ?_, trivial⟩
   · exact flp HM rfl [] (fun _ _ => trivial) (fun _ _ q => s_fld (n := 0) rfl underlying26 rfl rfl sizeOf3 q) rfl
   · exact flp HM rfl [(35, _)] (fun K _ => ⟨K 0 rfl, trivial⟩) (fun _ S14 q => s_ld (i := 1) (cs := [vI a0.Id]) S14 rfl rfl isAgg3 sizeOf3 rfl (fun _ => rfl) q) rfl
   · exact flp HM rfl [] (fun _ _ => trivial) (fun _ _ q => s_mvv (v := vI a2) rfl q) rfl
   · exact flp HM rfl [] (fun _ _ => trivial) (fun _ _ q => s_mvv (v := v1) rfl q) rfl
   · intro L f8 w14 hL hd hc ⟨m14, L11, S17, K, hO⟩
     obtain ⟨u8, rfl⟩ := fr_of (N := 53) (L := [(38, _)]) hO ⟨K 3 (dep hd rfl), trivial⟩
     have L12 := Mem.rfl' m14
     refine s_call call27 (w_merkle_Root (a0 := x1.1) S17 (h3.up L11) q6) rfl ?_
     rintro _ w15 ⟨m15, l10, S18, rfl⟩
     clear S17
     refine wpn ?_
     replace L12 := Mem.tr L12 l10
     exact ⟨m15, Mem.tr L11 L12, S18, facts_step HM rfl K L12 rfl rfl rfl, outP⟩
   · exact flp HM rfl [] (fun _ _ => trivial) (fun _ _ q => s_mvv (v := vI a3) rfl q) rfl
   · intro L f10 w17 hL hd hc ⟨m17, L15, S20, K, hO⟩
     obtain ⟨u10, rfl⟩ := fr_of (N := 53) (L := [(36, _), (37, _), (39, _), (40, _)]) hO ⟨K 1 (dep hd rfl), K 2 (dep hd rfl), K 4 (dep hd rfl), K 5 (dep hd rfl), trivial⟩
     exact s_build (parts := [(0, .tmp 36), (1, .tmp 37), (2, .tmp 39), (3, .tmp 40)]) (ps := [(0, vI a0.Id, [vI a0.Id]), (1, vI a2, [vI a2]), (2, .agg #[vU x6.1, vU x6.2], [vU x6.1, vU x6.2]), (3, vI a3, [vI a3])]) (cs := [vI a0.Id, vI a2, vU x6.1, vU x6.2, vI a3, vU 0, vU 0]) zeroValue40 (BuildPl.str (ss := [1, 1, 2, 1, 2]) underlying40 ⟨sizeOf3, sizeOf3, sizeOf36, sizeOf3, sizeOf38, trivial⟩) rfl ⟨rfl, rfl, rfl, rfl, trivial⟩ rfl <| oS HM L15 S20 rfl K rfl rfl rfl outP
   · intro L f11 w18 hL hd hc ⟨m18, L17, S21, K, hO⟩
     have d7 : L 7 = false := hL
     replace S21 : St _ ((bx b2 z_api_Head 40) :: (bx b1 (c_api_Log a0 a0v3 a0v4 a0v5) 26) :: ((bif L 7 then [bxv (f11 12) z_api_Head 40] else []) ++ As)) _ := S21
     rw [d7] at S21
     obtain ⟨u11, rfl⟩ := fr_of (N := 53) (L := []) hO trivial
     replace S21 : St _ ((bx b2 z_api_Head 40) :: (bx b1 (c_api_Log a0 a0v3 a0v4 a0v5) 26) :: As) _ := S21
     have L18 := Mem.rfl' m18
     refine s_alloc S21 zeroValue40 fun b3 w19 S22 => ?_
     replace S22 : St _ ((bx b3 z_api_Head 40) :: (bx b2 z_api_Head 40) :: (bx b1 (c_api_Log a0 a0v3 a0v4 a0v5) 26) :: As) _ := S22
     clear S21
     refine wpn <| ⟨m18, Mem.tr L17 L18, ?_, facts_step HM rfl K L18 rfl rfl ⟨b3, rfl⟩, outP⟩
     have S44 : St _ ((bx b2 z_api_Head 40) :: (bx b1 (c_api_Log a0 a0v3 a0v4 a0v5) 26) :: (bx b3 z_api_Head 40) :: As) _ := St.perm S22 (List.Perm.trans (List.Perm.swap _ _ _) (List.Perm.cons _ (List.Perm.swap _ _ _)))
     exact S44
 intro L f12 w20 hall ⟨m19, L19, S23, K, hO⟩
 have d7 : L 7 = true := hall 7 (by decide)
 obtain ⟨b4, e7⟩ := K 7 d7
 have d6 : L 6 = true := hall 6 (by decide)
 replace S23 : St _ ((bx b2 z_api_Head 40) :: (bx b1 (c_api_Log a0 a0v3 a0v4 a0v5) 26) :: ((bif L 7 then [bxv (f12 12) z_api_Head 40] else []) ++ As)) _ := S23
 rw [d7] at S23
 obtain ⟨u12, rfl⟩ := fr_of (N := 53) (L := [(12, _), (41, _)]) hO ⟨e7, K 6 d6, trivial⟩
 replace S23 : St _ ((bx b2 z_api_Head 40) :: (bx b1 (c_api_Log a0 a0v3 a0v4 a0v5) 26) :: (bx b4 z_api_Head 40) :: As) _ := S23
 clear S12
 refine s_stL (i := 2) S23 rfl rfl rfl sizeOf40 (oneC rfl (oneC rfl (oneC rfl (oneC rfl (oneC rfl (oneC rfl (oneC rfl oneN))))))) rfl fun w21 S24 => ?_
 replace S24 : St _ ((bx b2 z_api_Head 40) :: (bx b1 (c_api_Log a0 a0v3 a0v4 a0v5) 26) :: (bx b4 [vI a0.Id, vI a2, vU x6.1, vU x6.2, vI a3, vU 0, vU 0] 40) :: As) _ := S24
 clear S23
 refine wpl_nil <| nrm <| wpc_seq ?_
 obtain ⟨x7, q7, hm⟩ := obind_some hm
 obtain ⟨x8, q8, hm⟩ := obind_some hm
 have HM : MonoAll [(43, fv (pt b1 1)), (44, fv (vU a0.Key)), (45, fv (.agg #[vI a0.Id, vI a2, vU x6.1, vU x6.2, vI a3, vU 0, vU 0])), (46, fun (M : Mem) (v : Value) => ∃ (v2 : Value), v = v2 ∧ SlR M v2 x7), (47, fv (.tuple #[.agg (c_api_Sig x8.1).toArray, vI x8.2])), (42, fv (.tuple #[.agg (c_api_Sig x8.1).toArray, vI x8.2])), (48, fv (.agg (c_api_Sig x8.1).toArray)), (49, fv (vI x8.2)), (50, fv (pt b4 5)), (100009, fun _ _ => True)] := ⟨mv, mv, mv, (fun _ _ _ l ⟨v2, e, h5⟩ => ⟨v2, e, h5.up l⟩), mv, mv, mv, mv, mv, (fun _ _ _ _ h => h), trivial⟩
 refine wpc_flowG HM 10 mixed rfl rfl rfl (rg 42 9) (fun L f M w => St M ((bx b2 z_api_Head 40) :: (bx b1 (c_api_Log a0 a0v3 a0v4 a0v5) 26) :: (bx b4 (bif L 9 then [vI a0.Id, vI a2, vU x6.1, vU x6.2, vI a3, vU x8.1.E, vU x8.1.S] else [vI a0.Id, vI a2, vU x6.1, vU x6.2, vI a3, vU 0, vU 0]) 40) :: As) w) (St.drew S24 _) ?_ ?_
 · refine ⟨?_, ?_, ?_, ?_, ?_, ?_, ?_, ?_, ?_, ?_, trivial⟩
   · exact flp HM rfl [] (fun _ _ => trivial) (fun _ _ q => s_fld (n := 0) rfl underlying26 rfl rfl sizeOf22 q) rfl
   · intro L f14 w23 hL hd hc ⟨m21, L22, S26, K, hO⟩
     have d9 : L 9 = false := undep hc hL rfl
     replace S26 : St _ ((bx b2 z_api_Head 40) :: (bx b1 (c_api_Log a0 a0v3 a0v4 a0v5) 26) :: (bx b4 (bif L 9 then [vI a0.Id, vI a2, vU x6.1, vU x6.2, vI a3, vU x8.1.E, vU x8.1.S] else [vI a0.Id, vI a2, vU x6.1, vU x6.2, vI a3, vU 0, vU 0]) 40) :: As) _ := S26
     rw [d9] at S26
     obtain ⟨u14, rfl⟩ := fr_of (N := 53) (L := [(43, _)]) hO ⟨K 0 (dep hd rfl), trivial⟩
     replace S26 : St _ ((bx b2 z_api_Head 40) :: (bx b1 (c_api_Log a0 a0v3 a0v4 a0v5) 26) :: (bx b4 [vI a0.Id, vI a2, vU x6.1, vU x6.2, vI a3, vU 0, vU 0] 40) :: As) _ := S26
     have L23 := Mem.rfl' m21
     refine s_ld (i := 1) (cs := [vU a0.Key]) S26 rfl rfl isAgg22 sizeOf22 rfl (fun _ => rfl) <| wpn <| ⟨m21, Mem.tr L22 L23, ?_, facts_step HM rfl K L23 rfl rfl rfl, outP⟩
     show St _ ((bx b2 z_api_Head 40) :: (bx b1 (c_api_Log a0 a0v3 a0v4 a0v5) 26) :: (bx b4 (bif L 9 then [vI a0.Id, vI a2, vU x6.1, vU x6.2, vI a3, vU x8.1.E, vU x8.1.S] else [vI a0.Id, vI a2, vU x6.1, vU x6.2, vI a3, vU 0, vU 0]) 40) :: As) _
     rw [d9]
     exact S26
   · intro L f15 w24 hL hd hc ⟨m22, L24, S27, K, hO⟩
     have d9 : L 9 = false := undep hc hL rfl
     replace S27 : St _ ((bx b2 z_api_Head 40) :: (bx b1 (c_api_Log a0 a0v3 a0v4 a0v5) 26) :: (bx b4 (bif L 9 then [vI a0.Id, vI a2, vU x6.1, vU x6.2, vI a3, vU x8.1.E, vU x8.1.S] else [vI a0.Id, vI a2, vU x6.1, vU x6.2, vI a3, vU 0, vU 0]) 40) :: As) _ := S27
     rw [d9] at S27
     obtain ⟨u15, rfl⟩ := fr_of (N := 53) (L := []) hO trivial
     replace S27 : St _ ((bx b2 z_api_Head 40) :: (bx b1 (c_api_Log a0 a0v3 a0v4 a0v5) 26) :: (bx b4 [vI a0.Id, vI a2, vU x6.1, vU x6.2, vI a3, vU 0, vU 0] 40) :: As) _ := S27
     have L25 := Mem.rfl' m22
     refine s_ld (i := 2) (cs := [vI a0.Id, vI a2, vU x6.1, vU x6.2, vI a3, vU 0, vU 0]) S27 rfl rfl isAgg40 sizeOf40 rfl (fun h => by cases h) <| wpn <| ⟨m22, Mem.tr L24 L25, ?_, facts_step HM rfl K L25 rfl rfl rfl, outP⟩
     show St _ ((bx b2 z_api_Head 40) :: (bx b1 (c_api_Log a0 a0v3 a0v4 a0v5) 26) :: (bx b4 (bif L 9 then [vI a0.Id, vI a2, vU x6.1, vU x6.2, vI a3, vU x8.1.E, vU x8.1.S] else [vI a0.Id, vI a2, vU x6.1, vU x6.2, vI a3, vU 0, vU 0]) 40) :: As) _
     rw [d9]
     exact S27
   · intro L f16 w25 hL hd hc ⟨m23, L26, S28, K, hO⟩
     have d9 : L 9 = false := undep hc hL rfl
     replace S28 : St _ ((bx b2 z_api_Head 40) :: (bx b1 (c_api_Log a0 a0v3 a0v4 a0v5) 26) :: (bx b4 (bif L 9 then [vI a0.Id, vI a2, vU x6.1, vU x6.2, vI a3, vU x8.1.E, vU x8.1.S] else [vI a0.Id, vI a2, vU x6.1, vU x6.2, vI a3, vU 0, vU 0]) 40) :: As) _ := S28
     rw [d9] at S28
     obtain ⟨u16, rfl⟩ := fr_of (N := 53) (L := [(45, _)]) hO ⟨K 2 (dep hd rfl), trivial⟩
     replace S28 : St _ ((bx b2 z_api_Head 40) :: (bx b1 (c_api_Log a0 a0v3 a0v4 a0v5) 26) :: (bx b4 [vI a0.Id, vI a2, vU x6.1, vU x6.2, vI a3, vU 0, vU 0] 40) :: As) _ := S28
     have L27 := Mem.rfl' m23
     refine s_call call29 (w_logd_ofHead (a0 := (⟨a0.Id, a2, x6, a3, (⟨0, 0⟩ : g_api_Sig)⟩ : g_api_Head)) S28  q7) rfl ?_
     rintro v2 w26 ⟨m24, l11, _, c2, S29, rfl, h4⟩
     clear S28
     obtain ⟨m25, l12, h5, S30⟩ := St.rowKeepT (i := 0) S29 rfl h4 rfl
     clear S29
     refine wpn ?_
     replace L27 := Mem.tr L27 (mt l11 l12)
     refine ⟨m25, Mem.tr L26 L27, ?_, facts_step HM rfl K L27 rfl rfl ⟨v2, rfl, h5⟩, outP⟩
     show St _ ((bx b2 z_api_Head 40) :: (bx b1 (c_api_Log a0 a0v3 a0v4 a0v5) 26) :: (bx b4 (bif L 9 then [vI a0.Id, vI a2, vU x6.1, vU x6.2, vI a3, vU x8.1.E, vU x8.1.S] else [vI a0.Id, vI a2, vU x6.1, vU x6.2, vI a3, vU 0, vU 0]) 40) :: As) _
     rw [d9]
     exact S30
   · intro L f17 w27 hL hd hc ⟨m26, L28, S31, K, hO⟩
     have d9 : L 9 = false := undep hc hL rfl
     obtain ⟨v3, e12, h6⟩ := K 3 (dep hd rfl)
     replace S31 : St _ ((bx b2 z_api_Head 40) :: (bx b1 (c_api_Log a0 a0v3 a0v4 a0v5) 26) :: (bx b4 (bif L 9 then [vI a0.Id, vI a2, vU x6.1, vU x6.2, vI a3, vU x8.1.E, vU x8.1.S] else [vI a0.Id, vI a2, vU x6.1, vU x6.2, vI a3, vU 0, vU 0]) 40) :: As) _ := S31
     rw [d9] at S31
     obtain ⟨u17, rfl⟩ := fr_of (N := 53) (L := [(44, _), (46, _)]) hO ⟨K 1 (dep hd rfl), e12, trivial⟩
     replace S31 : St _ ((bx b2 z_api_Head 40) :: (bx b1 (c_api_Log a0 a0v3 a0v4 a0v5) 26) :: (bx b4 [vI a0.Id, vI a2, vU x6.1, vU x6.2, vI a3, vU 0, vU 0] 40) :: As) _ := S31
     have L29 := Mem.rfl' m26
     refine s_call call28 (w_sign_Sign (a0 := a0.Key) (a1 := x7) S31 h6 q8) rfl ?_
     rintro _ w28 ⟨m27, l13, S32, rfl⟩
     clear S31
     refine wpn ?_
     replace L29 := Mem.tr L29 l13
     refine ⟨m27, Mem.tr L28 L29, ?_, facts_step HM rfl K L29 rfl rfl rfl, outP⟩
     show St _ ((bx b2 z_api_Head 40) :: (bx b1 (c_api_Log a0 a0v3 a0v4 a0v5) 26) :: (bx b4 (bif L 9 then [vI a0.Id, vI a2, vU x6.1, vU x6.2, vI a3, vU x8.1.E, vU x8.1.S] else [vI a0.Id, vI a2, vU x6.1, vU x6.2, vI a3, vU 0, vU 0]) 40) :: As) _
     rw [d9]
     exact S32
   · exact flp HM rfl [(47, _)] (fun K _ => ⟨K 4 rfl, trivial⟩) (fun _ _ q => s_mvv (v := .tuple #[.agg (c_api_Sig x8.1).toArray, vI x8.2]) rfl q) rfl
   · exact flp HM rfl [(42, _)] (fun K _ => ⟨K 5 rfl, trivial⟩) (fun _ _ q => s_ext (i := 0) rfl rfl q) rfl
   · exact flp HM rfl [(42, _)] (fun K _ => ⟨K 5 rfl, trivial⟩) (fun _ _ q => s_ext (i := 1) rfl rfl q) rfl
   · exact flp HM rfl [] (fun _ _ => trivial) (fun _ _ q => s_fld (n := 1) rfl underlying40 rfl rfl sizeOf38 q) rfl
   · intro L f22 w33 hL hd hc ⟨m32, L38, S37, K, hO⟩
     have d9 : L 9 = false := hL
     replace S37 : St _ ((bx b2 z_api_Head 40) :: (bx b1 (c_api_Log a0 a0v3 a0v4 a0v5) 26) :: (bx b4 (bif L 9 then [vI a0.Id, vI a2, vU x6.1, vU x6.2, vI a3, vU x8.1.E, vU x8.1.S] else [vI a0.Id, vI a2, vU x6.1, vU x6.2, vI a3, vU 0, vU 0]) 40) :: As) _ := S37
     rw [d9] at S37
     obtain ⟨u22, rfl⟩ := fr_of (N := 53) (L := [(50, _), (48, _)]) hO ⟨K 8 (dep hd rfl), K 6 (dep hd rfl), trivial⟩
     replace S37 : St _ ((bx b2 z_api_Head 40) :: (bx b1 (c_api_Log a0 a0v3 a0v4 a0v5) 26) :: (bx b4 [vI a0.Id, vI a2, vU x6.1, vU x6.2, vI a3, vU 0, vU 0] 40) :: As) _ := S37
     refine s_stL (i := 2) S37 rfl rfl rfl sizeOf38 (oneC rfl (oneC rfl oneN)) rfl fun w34 S38 => ?_
     replace S38 : St _ ((bx b2 z_api_Head 40) :: (bx b1 (c_api_Log a0 a0v3 a0v4 a0v5) 26) :: (bx b4 [vI a0.Id, vI a2, vU x6.1, vU x6.2, vI a3, vU x8.1.E, vU x8.1.S] 40) :: As) _ := S38
     clear S37
     exact oN HM L38 S38 K rfl (fun _ => trivial) outP
 intro L f23 w35 hall ⟨m33, L40, S39, K, hO⟩
 have d9 : L 9 = true := hall 9 (by decide)
 have d7 : L 7 = true := hall 7 (by decide)
 replace S39 : St _ ((bx b2 z_api_Head 40) :: (bx b1 (c_api_Log a0 a0v3 a0v4 a0v5) 26) :: (bx b4 (bif L 9 then [vI a0.Id, vI a2, vU x6.1, vU x6.2, vI a3, vU x8.1.E, vU x8.1.S] else [vI a0.Id, vI a2, vU x6.1, vU x6.2, vI a3, vU 0, vU 0]) 40) :: As) _ := S39
 rw [d9] at S39
 obtain ⟨u23, rfl⟩ := fr_of (N := 53) (L := [(49, _)]) hO ⟨K 7 d7, trivial⟩
 replace S39 : St _ ((bx b2 z_api_Head 40) :: (bx b1 (c_api_Log a0 a0v3 a0v4 a0v5) 26) :: (bx b4 [vI a0.Id, vI a2, vU x6.1, vU x6.2, vI a3, vU x8.1.E, vU x8.1.S] 40) :: As) _ := S39
 clear S24
 refine s_asv (v := vI x8.2) rfl <| nx <| s_ld (i := 2) (cs := [vI a0.Id, vI a2, vU x6.1, vU x6.2, vI a3, vU x8.1.E, vU x8.1.S]) S39 rfl rfl isAgg40 sizeOf40 rfl (fun h => by cases h) <| s_mvv (v := vI x8.2) rfl <| s_stL (i := 0) S39 rfl rfl rfl sizeOf40 (oneC rfl (oneC rfl (oneC rfl (oneC rfl (oneC rfl (oneC rfl (oneC rfl oneN))))))) rfl fun w36 S40 => ?_
 replace S40 : St _ ((bx b2 [vI a0.Id, vI a2, vU x6.1, vU x6.2, vI a3, vU x8.1.E, vU x8.1.S] 40) :: (bx b1 (c_api_Log a0 a0v3 a0v4 a0v5) 26) :: (bx b4 [vI a0.Id, vI a2, vU x6.1, vU x6.2, vI a3, vU x8.1.E, vU x8.1.S] 40) :: As) _ := S40
 clear S39
 refine s_asv (v := vI x8.2) rfl <| wpl_nil <| nrm <| wpc_ret <| outRw fun we hpd => ?_
 replace S40 := St.pd S40 hpd
 have SR := S40
 obtain ⟨m34, l14, S41⟩ := St.drop S40 0
 replace S41 : St _ ((bx b1 (c_api_Log a0 a0v3 a0v4 a0v5) 26) :: (bx b4 [vI a0.Id, vI a2, vU x6.1, vU x6.2, vI a3, vU x8.1.E, vU x8.1.S] 40) :: As) _ := S41
 obtain ⟨m35, l15, S42⟩ := St.drop S41 0
 clear S41
 replace S42 : St _ ((bx b4 [vI a0.Id, vI a2, vU x6.1, vU x6.2, vI a3, vU x8.1.E, vU x8.1.S] 40) :: As) _ := S42
 obtain ⟨m36, l16, S43⟩ := St.drop S42 0
 clear S42
 replace S43 : St _ (As) _ := S43
 have e0 := Option.some.inj hm
 subst e0
 replace L0 := Mem.tr L0 (mt l1 (mt l5 (mt l9 (mt L19 (mt L40 (mt l14 (mt l15 l16)))))))
 exact outR [_, _] rfl ⟨res_box (i := 0) (off := 0) (cs := [vI a0.Id, vI a2, vU x6.1, vU x6.2, vI a3, vU x8.1.E, vU x8.1.S]) SR rfl rfl isAgg40 sizeOf40 rfl (fun h => by cases h), rfl, trivial⟩ ⟨_, L0, S43, rfl⟩

def m_cyclic_In (a0 : UInt64) : Option Bool :=
  obind (
    if ((decide ((a0.toNat : Int) > 0)) && (decide ((a0.toNat : Int) < 2305843009213691579))) = true then
      obind (m_cyclic_Pow a0 1152921504606845789) fun x3 =>
      some ((x3.toNat : Int) == 1)
    else
    some false
  ) fun x2 =>
  some x2

theorem w_cyclic_In {m : Mem} {As : List Ow} {w : World} {a0 : UInt64} {r : Bool} (S : St m (As) w) (hm : m_cyclic_In a0 = some r) :
    CallsR Tryz.prog 90 #[vU a0] w fun v w' => ∃ (M : Mem), m ≤ M ∧ St M (As) w' ∧ v = vb r := by
 unfold m_cyclic_In at hm
 have L0 := Mem.rfl' m
 refine callsR (args := [vU a0]) func90 rfl ntmps90 (nb rfl) <| ws <| s_asv (v := vb false) rfl <| nx <| s_mvv (v := vU a0) rfl <| s_gtr (m := (a0.toNat : Int)) (n := 0) rfl rfl <| s_mvv (v := vb (decide ((a0.toNat : Int) > 0))) rfl <| wpl_cut 3 [6, 7, 8] (fun f' w' => w' = w ∧ AllAt f' [(8, vb ((decide ((a0.toNat : Int) > 0)) && (decide ((a0.toNat : Int) < 2305843009213691579))))]) ?_ ?_
 · rcases bool_tf (decide ((a0.toNat : Int) > 0)) with hb1 | hb1
   · exact wpl_yes (d := 5) rfl rfl (cb hb1) <| s_mvv (v := vU a0) rfl <| wpl_yes (d := 5) rfl rfl (cb hb1) <| s_lss (m := (a0.toNat : Int)) (n := 2305843009213691579) rfl rfl <| s_pickT (cb hb1) rfl <| wpl_nil (nrm ⟨outP, rfl, congrArg Value.bool (and_t hb1), trivial⟩)
   · exact wpl_no (d := 5) rfl rfl (cb hb1) <| wpl_no (d := 5) rfl rfl (cb hb1) <| s_pickF (cb hb1) rfl <| wpl_nil (nrm ⟨outP, rfl, congrArg Value.bool (and_f hb1), trivial⟩)
 rintro f1 w1 ho ⟨h1, ha⟩
 subst h1
 obtain ⟨u1, rfl⟩ := fr_of (N := 14) ho ha
 refine s_mvv (v := vb ((decide ((a0.toNat : Int) > 0)) && (decide ((a0.toNat : Int) < 2305843009213691579)))) rfl ?_
 obtain ⟨x2, q2, hm⟩ := obind_some hm
 have L1 := Mem.rfl' m
 refine wpl_cut 4 [10, 11, 12, 13] (fun f' w' => ∃ (M1 : Mem), m ≤ M1 ∧ St M1 (As) w' ∧ AllAt f' [(13, vb x2)]) ?_ ?_
 · rcases bool_tf ((decide ((a0.toNat : Int) > 0)) && (decide ((a0.toNat : Int) < 2305843009213691579))) with hb2 | hb2
   · replace q2 := ifT hb2 q2
     refine wpl_yes (d := 9) rfl rfl (cb hb2) <| s_mvv (v := vU a0) rfl <| wpl_yes (d := 9) rfl rfl (cb hb2) ?_
     obtain ⟨x3, q3, q2⟩ := obind_some q2
     refine s_call call83 (w_cyclic_Pow (a0 := a0) (a1 := 1152921504606845789) S  q3) rfl ?_
     rintro _ w3 ⟨m2, l2, S2, rfl⟩
     clear S
     refine wpl_yes (d := 9) rfl rfl (cb hb2) <| s_eql (m := (x3.toNat : Int)) (n := 1) rfl rfl <| s_pickT (cb hb2) rfl <| wpl_nil (nrm ?_)
     have e0 := Option.some.inj q2
     subst e0
     replace L1 := Mem.tr L1 l2
     exact ⟨outP, m2, L1, S2, ⟨rfl, trivial⟩⟩
   replace q2 := ifF hb2 q2
   refine wpl_no (d := 9) rfl rfl (cb hb2) <| wpl_no (d := 9) rfl rfl (cb hb2) <| wpl_no (d := 9) rfl rfl (cb hb2) <| s_pickF (cb hb2) rfl <| wpl_nil (nrm ?_)
   have e0 := Option.some.inj q2
   subst e0
   exact ⟨outP, m, L1, S, ⟨rfl, trivial⟩⟩
 rintro f2 w4 ho ⟨m3, l3, S3, ha⟩
 obtain ⟨u2, rfl⟩ := fr_of (N := 14) ho ha
 clear S
 refine s_asv (v := vb x2) rfl <| wpl_nil <| nrm <| wpc_ret <| outRw fun we hpd => ?_
 replace S3 := St.pd S3 hpd
 have e0 := Option.some.inj hm
 subst e0
 replace L0 := Mem.tr L0 l3
 exact outR [_] rfl ⟨rfl, trivial⟩ ⟨_, L0, S3, rfl⟩

def m_cyclic_ring_inverse_b1  (s1 : UInt64 × UInt64 × Int × Int) : Option ((UInt64 × UInt64 × Int × Int) ⊕ (Int)) :=
  if ((s1.2.1.toNat : Int) != 0) = true then
    if s1.2.1 ≠ 0 then
      bnd ((s1.1 - ((s1.1 / s1.2.1) * s1.2.1))) fun x4 =>
      bnd ((w64 (s1.2.2.1 - (w64 ((w64 ((s1.1 / s1.2.1).toNat : Int)) * s1.2.2.2))))) fun x5 =>
      some (.inl (s1.2.1, x4, s1.2.2.2, x5))
    else none
  else
  some (.inr s1.2.2.1)

def m_cyclic_ring_inverse (a0 : UInt64) (a1 : UInt64) : Option (UInt64 × Int) :=
  if a0 ≠ 0 then
    if (((a1 % a0).toNat : Int) == 0) = true then
      some (0, 10)
    else
    obind (
      obind (iter m_cyclic_ring_inverse_b1 FUEL ((a1 % a0), a0, 1, 0)) fun x2 =>
      some x2
    ) fun x1 =>
    obind (
      if (decide (x1 < 0)) = true then
        bnd ((w64 (x1 + (w64 (a0.toNat : Int))))) fun x7 =>
        some x7
      else
      some x1
    ) fun x6 =>
    some ((toU x6), 0)
  else none

theorem w_cyclic_ring_inverse {m : Mem} {As : List Ow} {w : World} {a0 : UInt64} {a1 : UInt64} {r : UInt64 × Int} (S : St m (As) w) (hm : m_cyclic_ring_inverse a0 a1 = some r) :
    CallsR Tryz.prog 107 #[vU a0, vU a1] w fun v w' => ∃ (M : Mem), m ≤ M ∧ St M (As) w' ∧ v = .tuple #[vU r.1, vI r.2] := by
 unfold m_cyclic_ring_inverse at hm
 have L0 := Mem.rfl' m
 refine callsR (args := [vU a0, vU a1]) func107 rfl ntmps107 (nb rfl) <| ws <| s_asv (v := vU 0) rfl <| s_asv (v := vI 0) rfl <| nx <| s_mvv (v := vU a1) rfl <| s_mvv (v := vU a0) rfl ?_
 obtain ⟨q1, hm⟩ := if_some hm
 refine s_remU (m := a1) (n := a0) rfl rfl q1 <| s_mvv (v := vU a0) rfl <| s_asv (v := vU (a1 % a0)) rfl <| s_asv (v := vU a0) rfl <| wpl_nil <| nrm <| wpc_seq <| ws <| s_mvv (v := vU (a1 % a0)) rfl <| s_eql (m := ((a1 % a0).toNat : Int)) (n := 0) rfl rfl <| wpl_nil <| nrm <| wpc_if (t := (((a1 % a0).toNat : Int) == 0)) rfl (fun hc1 => ?_) (fun hc1 => ?_)
 · replace hm := ifT hc1 hm
   refine ws <| s_asv (v := vU 0) rfl <| s_asv (v := vI 10) rfl <| wpl_nil <| nrm <| wpc_ret <| thR <| outRw fun we hpd => ?_
   replace S := St.pd S hpd
   have e0 := Option.some.inj hm
   subst e0
   exact outR [_, _] rfl ⟨rfl, rfl, trivial⟩ ⟨_, L0, S, rfl⟩
 replace hm := ifF hc1 hm
 refine wpc_skip <| nrm <| ws <| s_asv (v := vI 1) rfl <| s_asv (v := vI 0) rfl <| wpl_nil <| nrm ?_
 obtain ⟨x1, q2, hm⟩ := obind_some hm
 have L1 := Mem.rfl' m
 refine wpc_seq <| wpc_join [6, 7, 8, 9, 10, 17, 18, 19, 20, 21, 22, 23, 24, 25, 26, 27, 28, 29, 30, 31, 32, 33, 34] (fun f' w' => ∃ (M1 : Mem), m ≤ M1 ∧ St M1 (As) w' ∧ AllAt f' [(8, vI x1)]) ?_ ?_
 · obtain ⟨x2, q3, q2⟩ := obind_some q2
   have L2 := Mem.rfl' m
   refine wpc_join [6, 7, 8, 9, 10, 17, 18, 19, 20, 21, 22, 23, 24, 25, 26, 27, 28, 29, 30, 31, 32, 33, 34] (fun f' w' => ∃ (M2 : Mem), m ≤ M2 ∧ St M2 (As) w' ∧ AllAt f' [(8, vI x2)]) ?_ ?_
   · refine wpc_block <| wpc_rounds [6, 7, 8, 9, 10, 17, 18, 19, 20, 21, 22, 23, 24, 25, 26, 27, 28, 29, 30, 31, 32, 33, 34] (fun n1 f' w' => ∃ (s1 : UInt64 × UInt64 × Int × Int) (m2 : Mem), iter m_cyclic_ring_inverse_b1 n1 s1 = some x2 ∧ m ≤ m2 ∧ St m2 (As) w' ∧ AllAt f' [(6, vU s1.1), (7, vU s1.2.1), (8, vI s1.2.2.1), (9, vI s1.2.2.2)]) FUEL ⟨((a1 % a0), a0, 1, 0), m, q3, L2, S, ⟨rfl, rfl, rfl, rfl, trivial⟩⟩ ?_
     rintro n1 f1 w1 ho ⟨s1, m1, q4, L4, S1, ha⟩
     obtain ⟨u1, rfl⟩ := fr_of (N := 43) ho ha
     clear ho ha
     have L3 := Mem.rfl' m1
     clear S
     cases n1 with
     | zero => exact (iter_zero q4).elim
     | succ n1 =>
      obtain ⟨y1, q6, q5⟩ := iter_succ q4
      unfold m_cyclic_ring_inverse_b1 at q6
      refine wpc_seq <| ws <| s_mvv (v := vU s1.2.1) rfl <| s_neq (m := (s1.2.1.toNat : Int)) (n := 0) rfl rfl <| wpl_nil <| nrm <| wpc_if (t := ((s1.2.1.toNat : Int) != 0)) rfl (fun hc2 => ?_) (fun hc2 => ?_)
      · replace q6 := ifT hc2 q6
        refine wpc_skip <| nrm <| wpc_block <| ws <| s_mvv (v := vU s1.1) rfl <| s_mvv (v := vU s1.2.1) rfl ?_
        obtain ⟨q8, q6⟩ := if_some q6
        refine s_quoU (m := s1.1) (n := s1.2.1) rfl rfl q8 <| s_asv (v := vU (s1.1 / s1.2.1)) rfl <| nx <| s_mvv (v := vU s1.2.1) rfl <| s_mvv (v := vU s1.1) rfl <| s_mvv (v := vU (s1.1 / s1.2.1)) rfl <| s_mvv (v := vU s1.2.1) rfl <| s_mulU (m := (s1.1 / s1.2.1)) (n := s1.2.1) rfl rfl <| s_subU (m := s1.1) (n := ((s1.1 / s1.2.1) * s1.2.1)) rfl rfl <| s_asv (v := vU s1.2.1) rfl ?_
        obtain ⟨x4, q9, q6⟩ := bnd_eq q6
        refine s_asv (v := vU x4) (congrArg (fun z => vU z) q9.symm) <| wpl_nil <| nrm <| wpc_region <| s_mvv (v := vI s1.2.2.2) rfl <| s_mvv (v := vI s1.2.2.1) rfl <| s_mvv (v := vU (s1.1 / s1.2.1)) rfl <| s_convI rfl underlying22 underlying2 <| s_mvv (v := vI s1.2.2.2) rfl <| s_mulI (m := (w64 ((s1.1 / s1.2.1).toNat : Int))) (n := s1.2.2.2) rfl rfl <| s_subI (m := s1.2.2.1) (n := (w64 ((w64 ((s1.1 / s1.2.1).toNat : Int)) * s1.2.2.2))) rfl rfl <| s_asv (v := vI s1.2.2.2) rfl ?_
        obtain ⟨x5, q10, q6⟩ := bnd_eq q6
        refine s_asv (v := vI x5) (congrArg (fun z => vI z) q10.symm) <| wpl_nil <| nrmB <| nrm ?_
        have e0 := Option.some.inj q6
        subst e0
        rcases q5 with ⟨sn, e, q5'⟩ | e
        · cases e
          exact ⟨outP, _, Nat.lt_succ_self _, ⟨_, m1, q5', Mem.tr L4 L3, S1, ⟨rfl, rfl, rfl, rfl, trivial⟩⟩⟩
        · cases e
      replace q6 := ifF hc2 q6
      refine wpc_exit <| thE <| thE <| exB <| nrm ?_
      have e0 := Option.some.inj q6
      subst e0
      rcases q5 with ⟨sn, e, _⟩ | e
      · cases e
      · cases e
        exact ⟨outP, m1, Mem.tr L4 L3, S1, ⟨rfl, trivial⟩⟩
   rintro f2 w2 ho ⟨m3, l1, S2, ha⟩
   obtain ⟨u2, rfl⟩ := fr_of (N := 43) ho ha
   clear ho ha S
   have e0 := Option.some.inj q2
   subst e0
   replace L1 := Mem.tr L1 l1
   exact ⟨outP, m3, L1, S2, ⟨rfl, trivial⟩⟩
 rintro f3 w3 ho ⟨m4, l2, S3, ha⟩
 obtain ⟨u3, rfl⟩ := fr_of (N := 43) ho ha
 clear S
 obtain ⟨x6, q11, hm⟩ := obind_some hm
 have L5 := Mem.rfl' m4
 refine wpc_seq <| wpc_join [8, 35, 36, 37, 38, 39, 40] (fun f' w' => ∃ (M3 : Mem), m4 ≤ M3 ∧ St M3 (As) w' ∧ AllAt f' [(8, vI x6)]) ?_ ?_
 · refine ws <| s_mvv (v := vI x1) rfl <| s_lss (m := x1) (n := 0) rfl rfl <| wpl_nil <| nrm <| wpc_if (t := (decide (x1 < 0))) rfl (fun hc3 => ?_) (fun hc3 => ?_)
   · replace q11 := ifT hc3 q11
     refine wpc_region <| s_mvv (v := vI x1) rfl <| s_mvv (v := vU a0) rfl <| s_convI rfl underlying139 underlying2 <| s_addI (m := x1) (n := (w64 (a0.toNat : Int))) rfl rfl ?_
     obtain ⟨x7, q12, q11⟩ := bnd_eq q11
     refine s_asv (v := vI x7) (congrArg (fun z => vI z) q12.symm) <| wpl_nil <| nrm ?_
     have e0 := Option.some.inj q11
     subst e0
     exact ⟨outP, m4, L5, S3, ⟨rfl, trivial⟩⟩
   replace q11 := ifF hc3 q11
   refine wpc_skip <| nrm ?_
   have e0 := Option.some.inj q11
   subst e0
   exact ⟨outP, m4, L5, S3, ⟨rfl, trivial⟩⟩
 rintro f4 w4 ho ⟨m5, l3, S4, ha⟩
 obtain ⟨u4, rfl⟩ := fr_of (N := 43) ho ha
 clear S3
 refine ws <| s_mvv (v := vI x6) rfl <| s_convU rfl underlying2 underlying22 <| s_asv (v := vU (toU x6)) rfl <| s_asv (v := vI 0) rfl <| wpl_nil <| nrm <| wpc_ret <| outRw fun we hpd => ?_
 replace S4 := St.pd S4 hpd
 have e0 := Option.some.inj hm
 subst e0
 replace L0 := Mem.tr L0 (mt l2 l3)
 exact outR [_, _] rfl ⟨rfl, rfl, trivial⟩ ⟨_, L0, S4, rfl⟩

def m_cyclic_Inv (a0 : UInt64) : Option (UInt64 × Int) :=
  obind (m_cyclic_ring_inverse 2305843009213691579 a0) fun x1 =>
  some (x1.1, x1.2)

theorem w_cyclic_Inv {m : Mem} {As : List Ow} {w : World} {a0 : UInt64} {r : UInt64 × Int} (S : St m (As) w) (hm : m_cyclic_Inv a0 = some r) :
    CallsR Tryz.prog 91 #[vU a0] w fun v w' => ∃ (M : Mem), m ≤ M ∧ St M (As) w' ∧ v = .tuple #[vU r.1, vI r.2] := by
 unfold m_cyclic_Inv at hm
 have L0 := Mem.rfl' m
 refine callsR (args := [vU a0]) func91 rfl ntmps91 (nb rfl) <| ws <| s_asv (v := vU 0) rfl <| s_asv (v := vI 0) rfl <| nx <| s_mvv (v := vU a0) rfl ?_
 obtain ⟨x1, q1, hm⟩ := obind_some hm
 refine s_call call107 (w_cyclic_ring_inverse (a0 := 2305843009213691579) (a1 := a0) S  q1) rfl ?_
 rintro _ w1 ⟨m1, l1, S1, rfl⟩
 clear S
 refine s_ext (i := 0) rfl rfl <| s_ext (i := 1) rfl rfl <| s_asv (v := vU x1.1) rfl <| s_asv (v := vI x1.2) rfl <| wpl_nil <| nrm <| wpc_ret <| outRw fun we hpd => ?_
 replace S1 := St.pd S1 hpd
 have e0 := Option.some.inj hm
 subst e0
 replace L0 := Mem.tr L0 l1
 exact outR [_, _] rfl ⟨rfl, rfl, trivial⟩ ⟨_, L0, S1, rfl⟩

def m_cyclic_Mul (a0 : UInt64) (a1 : UInt64) : Option UInt64 :=
  obind (m_cyclic_ring_mul 2305843009213691579 a0 a1) fun x1 =>
  some x1

theorem w_cyclic_Mul {m : Mem} {As : List Ow} {w : World} {a0 : UInt64} {a1 : UInt64} {r : UInt64} (S : St m (As) w) (hm : m_cyclic_Mul a0 a1 = some r) :
    CallsR Tryz.prog 92 #[vU a0, vU a1] w fun v w' => ∃ (M : Mem), m ≤ M ∧ St M (As) w' ∧ v = vU r := by
 unfold m_cyclic_Mul at hm
 have L0 := Mem.rfl' m
 refine callsR (args := [vU a0, vU a1]) func92 rfl ntmps92 (nb rfl) <| ws <| s_asv (v := vU 0) rfl <| nx <| s_mvv (v := vU a0) rfl <| s_mvv (v := vU a1) rfl ?_
 obtain ⟨x1, q1, hm⟩ := obind_some hm
 refine s_call call89 (w_cyclic_ring_mul (a0 := 2305843009213691579) (a1 := a0) (a2 := a1) S  q1) rfl ?_
 rintro _ w1 ⟨m1, l1, S1, rfl⟩
 clear S
 refine s_asv (v := vU x1) rfl <| wpl_nil <| nrm <| wpc_ret <| outRw fun we hpd => ?_
 replace S1 := St.pd S1 hpd
 have e0 := Option.some.inj hm
 subst e0
 replace L0 := Mem.tr L0 l1
 exact outR [_] rfl ⟨rfl, trivial⟩ ⟨_, L0, S1, rfl⟩

end Go.Proofs.YtemiampgjgenhaaGreatDoor
