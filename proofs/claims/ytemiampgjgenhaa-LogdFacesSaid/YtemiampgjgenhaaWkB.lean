/- The walks of some functions, written by program. Conditions: none. -/
import Derived.Test.YtemiampgjgenhaaWkA
set_option maxHeartbeats 20000000
set_option maxRecDepth 100000
set_option linter.unusedVariables false
set_option linter.unusedSimpArgs false
namespace Go.Proofs.Ytemiampgjgenhaa
open Go Go.Gw

def m_logd_isBody (a0 : List UInt8) : Option Bool :=
  bnd (((decide ((a0.length : Int) > 0)) && (decide ((a0.length : Int) ≤ 2048)))) fun x1 =>
  some x1

theorem w_logd_isBody {m : Mem} {As : List Ow} {w : World} {a0 : List UInt8} {a0v0 : Value} {r : Bool} (S : St m (As) w) (a0h0 : SlR m a0v0 a0) (hm : m_logd_isBody a0 = some r) :
    CallsR Try.prog 23 #[a0v0] w fun v w' => ∃ (M : Mem), m ≤ M ∧ St M (As) w' ∧ v = vb r := by
 unfold m_logd_isBody at hm
 have L0 := Mem.rfl' m
 refine callsR (args := [a0v0]) Try.func23 rfl Try.ntmps23 (Nat.le_of_ble_eq_true rfl) <| wpc_seq <| wpc_region <| s_asv (v := vb false) rfl <| wpl_nil <| nrm <| wpc_seq <| wpc_region <| s_mvv (v := a0v0) rfl <| s_lenR (xs := a0) rfl a0h0 Try.underlying27 <| s_gtr (m := (a0.length : Int)) (n := 0) rfl rfl <| s_mvv (v := vb (decide ((a0.length : Int) > 0))) rfl <| wpl_cut 4 [7, 8, 9, 10] (fun f' w' => w' = w ∧ AllAt f' [(10, vb ((decide ((a0.length : Int) > 0)) && (decide ((a0.length : Int) ≤ 2048))))]) ?_ ?_
 · rcases bool_tf (decide ((a0.length : Int) > 0)) with hb1 | hb1
   · exact wpl_yes (d := 6) rfl rfl (congrArg Value.bool hb1) <| s_mvv (v := a0v0) rfl <| wpl_yes (d := 6) rfl rfl (congrArg Value.bool hb1) <| s_lenR (xs := a0) rfl a0h0 Try.underlying27 <| wpl_yes (d := 6) rfl rfl (congrArg Value.bool hb1) <| s_leq (m := (a0.length : Int)) (n := 2048) rfl rfl <| s_pickT (congrArg Value.bool hb1) rfl <| wpl_nil (nrm ⟨outP, rfl, congrArg Value.bool (and_t hb1), trivial⟩)
   · exact wpl_no (d := 6) rfl rfl (congrArg Value.bool hb1) <| wpl_no (d := 6) rfl rfl (congrArg Value.bool hb1) <| wpl_no (d := 6) rfl rfl (congrArg Value.bool hb1) <| s_pickF (congrArg Value.bool hb1) rfl <| wpl_nil (nrm ⟨outP, rfl, congrArg Value.bool (and_f hb1), trivial⟩)
 rintro f1 w1 ho ⟨h1, ha⟩
 subst h1
 obtain ⟨u1, rfl⟩ := fr_of (N := 11) ho ha
 obtain ⟨x1, q1, hm⟩ := bnd_eq hm
 refine s_asv (v := vb x1) (congrArg (fun z => vb z) q1.symm) <| wpl_nil <| nrm <| wpc_ret <| outRw fun we hpd => ?_
 replace S := St.pd S hpd
 have e0 := Option.some.inj hm
 subst e0
 exact outR [_] rfl ⟨rfl, trivial⟩ ⟨_, L0, S, rfl⟩

def m_logd_number (a0 : Int) : Option Bool :=
  bnd (((decide (a0 ≥ 0)) && (decide (a0 ≤ 1099511627776)))) fun x1 =>
  some x1

theorem w_logd_number {m : Mem} {As : List Ow} {w : World} {a0 : Int} {r : Bool} (S : St m (As) w) (hm : m_logd_number a0 = some r) :
    CallsR Try.prog 24 #[vI a0] w fun v w' => ∃ (M : Mem), m ≤ M ∧ St M (As) w' ∧ v = vb r := by
 unfold m_logd_number at hm
 have L0 := Mem.rfl' m
 refine callsR (args := [vI a0]) Try.func24 rfl Try.ntmps24 (Nat.le_of_ble_eq_true rfl) <| wpc_seq <| wpc_region <| s_asv (v := vb false) rfl <| wpl_nil <| nrm <| wpc_seq <| wpc_region <| s_mvv (v := vI a0) rfl <| s_geq (m := a0) (n := 0) rfl rfl <| s_mvv (v := vb (decide (a0 ≥ 0))) rfl <| wpl_cut 3 [6, 7, 8] (fun f' w' => w' = w ∧ AllAt f' [(8, vb ((decide (a0 ≥ 0)) && (decide (a0 ≤ 1099511627776))))]) ?_ ?_
 · rcases bool_tf (decide (a0 ≥ 0)) with hb1 | hb1
   · exact wpl_yes (d := 5) rfl rfl (congrArg Value.bool hb1) <| s_mvv (v := vI a0) rfl <| wpl_yes (d := 5) rfl rfl (congrArg Value.bool hb1) <| s_leq (m := a0) (n := 1099511627776) rfl rfl <| s_pickT (congrArg Value.bool hb1) rfl <| wpl_nil (nrm ⟨outP, rfl, congrArg Value.bool (and_t hb1), trivial⟩)
   · exact wpl_no (d := 5) rfl rfl (congrArg Value.bool hb1) <| wpl_no (d := 5) rfl rfl (congrArg Value.bool hb1) <| s_pickF (congrArg Value.bool hb1) rfl <| wpl_nil (nrm ⟨outP, rfl, congrArg Value.bool (and_f hb1), trivial⟩)
 rintro f1 w1 ho ⟨h1, ha⟩
 subst h1
 obtain ⟨u1, rfl⟩ := fr_of (N := 9) ho ha
 obtain ⟨x1, q1, hm⟩ := bnd_eq hm
 refine s_asv (v := vb x1) (congrArg (fun z => vb z) q1.symm) <| wpl_nil <| nrm <| wpc_ret <| outRw fun we hpd => ?_
 replace S := St.pd S hpd
 have e0 := Option.some.inj hm
 subst e0
 exact outR [_] rfl ⟨rfl, trivial⟩ ⟨_, L0, S, rfl⟩

def m_slices_Grow_api_Leaf_api_Leaf_nil (a1 : Int) : Option (List g_api_Leaf) :=
  obind (
    if (decide (a1 < 0)) = true then
      none
    else
    some ()
  ) fun x1 =>
  obind (
    bnd ((w64 (a1 - (w64 (0 - ((0 : Nat) : Int)))))) fun x3 =>
    if (decide (x3 > 0)) = true then
      if 0 ≤ x3 ∧ x3 * 32 ≤ 140737488355328 ∧ x3 ≤ 140737488355328 then
        some ([] : List g_api_Leaf)
      else none
    else
    some ([] : List g_api_Leaf)
  ) fun x2 =>
  some x2

theorem w_slices_Grow_api_Leaf_api_Leaf_nil {m : Mem} {As : List Ow} {w : World} {a1 : Int} {r : List g_api_Leaf} (S : St m (As) w) (hm : m_slices_Grow_api_Leaf_api_Leaf_nil a1 = some r) :
    CallsR Try.prog 68 #[.slice none 0 0, vI a1] w fun v w' => ∃ (M : Mem), m ≤ M ∧ ∃ (rv0 : Value) (rc0 : List Value), St M ((row 2 rv0 rc0 r.length) :: As) w' ∧ v = rv0 ∧ RepL M rc0 r := by
 unfold m_slices_Grow_api_Leaf_api_Leaf_nil at hm
 have L0 := Mem.rfl' m
 refine callsR (args := [.slice none 0 0, vI a1]) Try.func68 rfl Try.ntmps68 (Nat.le_of_ble_eq_true rfl) <| wpc_seq <| wpc_region <| s_asv (v := .slice none 0 0) rfl <| wpl_nil <| nrm ?_
 obtain ⟨x1, q1, hm⟩ := obind_some hm
 have L1 := Mem.rfl' m
 refine wpc_seq <| wpc_join [5, 6, 7] (fun f' w' => ∃ (M1 : Mem), m ≤ M1 ∧ St M1 (As) w' ∧ AllAt f' []) ?_ ?_
 · refine wpc_seq <| wpc_region <| s_mvv (v := vI a1) rfl <| s_lss (m := a1) (n := 0) rfl rfl <| wpl_nil <| nrm <| wpc_if (t := (decide (a1 < 0))) rfl (fun hc1 => ?_) (fun hc1 => ?_)
   · replace q1 := ifT hc1 q1
     cases q1
   replace q1 := ifF hc1 q1
   refine wpc_skip <| nrm ?_
   have e0 := Option.some.inj q1
   subst e0
   exact ⟨outP, m, L1, S, trivial⟩
 rintro f1 w1 ho ⟨m1, l1, S1, ha⟩
 obtain ⟨u1, rfl⟩ := fr_of (N := 27) ho ha
 replace L0 := Mem.tr L0 l1
 clear S
 obtain ⟨x2, q2, hm⟩ := obind_some hm
 have L2 := Mem.rfl' m1
 refine wpc_seq <| wpc_join [0, 1, 8, 9, 10, 11, 12, 13, 14, 15, 16, 17, 18, 19, 20, 21, 22, 23, 24, 25] (fun f' w' => ∃ (M2 : Mem) (v1 : Value) (c1 : List Value), m1 ≤ M2 ∧ St M2 ((row 2 v1 c1 x2.length) :: As) w' ∧ RepL M2 c1 x2 ∧ AllAt f' [(0, v1)]) ?_ ?_
 · refine wpc_seq <| wpc_region <| s_mvv (v := vI a1) rfl <| s_mvv (v := .slice none 0 0) rfl <| s_capNil rfl Try.underlying23 <| s_mvv (v := .slice none 0 0) rfl <| s_len (n := 0) rfl Try.underlying23 <| s_subI (m := 0) (n := ((0 : Nat) : Int)) rfl rfl <| s_subI (m := a1) (n := (w64 (0 - ((0 : Nat) : Int)))) rfl rfl ?_
   obtain ⟨x3, q3, q2⟩ := bnd_eq q2
   refine s_asv (v := vI x3) (congrArg (fun z => vI z) q3.symm) <| wpl_nil <| nrm <| wpc_seq <| wpc_region <| s_mvv (v := vI x3) rfl <| s_gtr (m := x3) (n := 0) rfl rfl <| wpl_nil <| nrm <| wpc_if (t := (decide (x3 > 0))) rfl (fun hc2 => ?_) (fun hc2 => ?_)
   · replace q2 := ifT hc2 q2
     refine wpc_region <| s_mvv (v := .slice none 0 0) rfl <| s_mvv (v := .slice none 0 0) rfl <| s_capNil rfl Try.underlying23 <| s_cutN rfl Try.underlying23 Try.sizeOf55 rfl <| s_mvv (v := vI x3) rfl ?_
     obtain ⟨q4, q2⟩ := if_some q2
     refine s_appN (bytes := 32) (sz := 2) (k := x3) (ti := Try.t55) S1 rfl rfl q4 Try.underlying23 Try.underlying3 Try.type55 rfl rfl rfl rfl fun v2 c2 w2 S2 => ?_
     replace S2 : St _ ((row 2 v2 c2 x3.toNat) :: As) _ := S2
     clear S1
     refine s_mvv (v := .slice none 0 0) rfl <| s_len (n := 0) rfl Try.underlying23 <| s_cutO (i := 0) S2 rfl rfl Try.underlying23 Try.sizeOf55 rfl (j := 0) rfl (Int.le_refl 0) (Int.natCast_nonneg _) fun v3 S3 => ?_
     rw [show c2.take ((0 : Int).toNat * 2) = [] from by simp] at S3
     have h2 : RepL m1 [] ([] : List g_api_Leaf) := RepL.nil
     replace S3 : St _ ((row 2 v3 [] ([] : List g_api_Leaf).length) :: As) _ := S3
     clear S2
     refine s_asv (v := v3) rfl <| wpl_nil <| nrm ?_
     have e0 := Option.some.inj q2
     subst e0
     exact ⟨outP, m1, _, _, L2, S3, h2, ⟨rfl, trivial⟩⟩
   replace q2 := ifF hc2 q2
   refine wpc_skip <| nrm ?_
   have S4 := St.rowNil S1 2
   have h3 : RepL m1 [] ([] : List g_api_Leaf) := RepL.nil
   replace S4 : St _ ((row 2 (.slice none 0 0) [] ([] : List g_api_Leaf).length) :: As) _ := S4
   clear S1
   have e0 := Option.some.inj q2
   subst e0
   exact ⟨outP, m1, _, _, L2, S4, h3, ⟨rfl, trivial⟩⟩
 rintro f2 w3 ho ⟨m2, v1, c1, l2, S5, h1, ha⟩
 obtain ⟨u2, rfl⟩ := fr_of (N := 27) ho ha
 replace L0 := Mem.tr L0 l2
 clear S1
 refine wpc_seq <| wpc_region <| s_mvv (v := v1) rfl <| s_asv (v := v1) rfl <| wpl_nil <| nrm <| wpc_ret <| outRw fun we hpd => ?_
 replace S5 := St.pd S5 hpd
 have e0 := Option.some.inj hm
 subst e0
 exact outR [_] rfl ⟨rfl, trivial⟩ ⟨_, L0, _, _, S5, rfl, h1⟩

def m_slices_Concat_api_Leaf_api_Leaf_b1  (i1 : Int) (x3 : List g_api_Leaf) (s1 : Int) : Option (Int) :=
  obind (
    bnd ((w64 (s1 + (x3.length : Int)))) fun x5 =>
    if (decide (x5 < 0)) = true then
      none
    else
    some x5
  ) fun x4 =>
  some x4

def m_slices_Concat_api_Leaf_api_Leaf_b2  (i2 : Int) (x9 : List g_api_Leaf) (s2 : (List g_api_Leaf)) : Option ((List g_api_Leaf)) :=
  obind (app 32 s2 x9) fun x10 =>
  some x10

def m_slices_Concat_api_Leaf_api_Leaf (a0 : List (List g_api_Leaf)) : Option (List g_api_Leaf) :=
  obind (
    obind (each0 m_slices_Concat_api_Leaf_api_Leaf_b1 a0 0 0) fun x2 =>
    some x2
  ) fun x1 =>
  obind (m_slices_Grow_api_Leaf_api_Leaf_nil x1) fun x6 =>
  obind (
    obind (each0 m_slices_Concat_api_Leaf_api_Leaf_b2 a0 0 x6) fun x8 =>
    some x8
  ) fun x7 =>
  some x7

theorem w_slices_Concat_api_Leaf_api_Leaf {m : Mem} {As : List Ow} {w : World} {a0 : List (List g_api_Leaf)} {a0v0 : Value} {r : List g_api_Leaf} (S : St m (As) w) (a0h0 : SlR m a0v0 a0) (hm : m_slices_Concat_api_Leaf_api_Leaf a0 = some r) :
    CallsR Try.prog 45 #[a0v0] w fun v w' => ∃ (M : Mem), m ≤ M ∧ ∃ (rv0 : Value) (rc0 : List Value), St M ((row 2 rv0 rc0 r.length) :: As) w' ∧ v = rv0 ∧ RepL M rc0 r := by
 unfold m_slices_Concat_api_Leaf_api_Leaf at hm
 have L0 := Mem.rfl' m
 refine callsR (args := [a0v0]) Try.func45 rfl Try.ntmps45 (Nat.le_of_ble_eq_true rfl) <| wpc_seq <| wpc_region <| s_asv (v := .slice none 0 0) rfl <| wpl_nil <| nrm <| wpc_seq <| wpc_region <| s_asv (v := vI 0) rfl <| wpl_nil <| nrm ?_
 obtain ⟨x1, q1, hm⟩ := obind_some hm
 have L1 := Mem.rfl' m
 refine wpc_seq <| wpc_join [3, 5, 9, 10, 11, 12, 13, 14, 15, 16, 17, 18, 19, 20, 21, 22] (fun f' w' => ∃ (M1 : Mem), m ≤ M1 ∧ St M1 (As) w' ∧ AllAt f' [(3, vI x1)]) ?_ ?_
 · refine wpc_seq <| wpc_region <| s_mvv (v := a0v0) rfl <| s_lenR (xs := a0) rfl a0h0 Try.underlying118 <| s_mvv (v := vI 0) rfl <| wpl_nil <| nrm ?_
   obtain ⟨x2, q2, q1⟩ := obind_some q1
   have L2 := Mem.rfl' m
   refine wpc_join [3, 5, 11, 12, 13, 14, 15, 16, 17, 18, 19, 20, 21, 22] (fun f' w' => ∃ (M2 : Mem), m ≤ M2 ∧ St M2 (As) w' ∧ AllAt f' [(3, vI x2)]) ?_ ?_
   · refine wpc_block <| wpc_rounds [3, 5, 11, 12, 13, 14, 15, 16, 17, 18, 19, 20, 21, 22] (fun n1 f' w' => ∃ (i1 : Nat) (s1 : Int) (m3 : Mem), n1 = a0.length - i1 ∧ i1 ≤ a0.length ∧ each0 m_slices_Concat_api_Leaf_api_Leaf_b1 (a0.drop i1) (i1 : Int) s1 = some x2 ∧ m ≤ m3 ∧ St m3 (As) w' ∧ AllAt f' [(11, vI (i1 : Int)), (3, vI s1)]) a0.length ⟨0, 0, m, rfl, Nat.zero_le _, q2, L2, S, ⟨rfl, rfl, trivial⟩⟩ ?_
     rintro n1 f1 w1 ho ⟨i1, s1, m1, hn, hi, q3, L4, S1, ha⟩
     obtain ⟨u1, rfl⟩ := fr_of (N := 36) ho ha
     clear ho ha
     replace a0h0 := a0h0.up L4
     have L3 := Mem.rfl' m1
     clear S
     refine wpc_seq <| wpc_region <| s_lss (m := (i1 : Int)) (n := (a0.length : Int)) rfl rfl <| wpl_nil <| nrm <| wpc_seq <| wpc_if (t := decide ((i1 : Int) < (a0.length : Int))) rfl (fun hc2 => ?_) (fun hc2 => ?_)
     · have hlt1 : i1 < a0.length := by have := of_decide_eq_true hc2; omega
       obtain ⟨x3, y1, q6, q5, q4⟩ := each0_in q3 hlt1
       unfold m_slices_Concat_api_Leaf_api_Leaf_b1 at q5
       refine wpc_skip <| nrm ?_
       obtain ⟨x4, q7, q5⟩ := obind_some q5
       have L5 := Mem.rfl' m1
       refine wpc_seq <| wpc_join [3, 5, 13, 14, 15, 16, 17, 18, 19, 20, 21] (fun f' w' => ∃ (M3 : Mem), m1 ≤ M3 ∧ St M3 (As) w' ∧ AllAt f' [(3, vI x4)]) ?_ ?_
       · refine wpc_block <| wpc_seq <| wpc_region <| s_idx (q := x3) rfl rfl a0h0 q6 Try.underlying118 Try.sizeOf23 fun p1 c1 h1 r1 => ?_
         obtain ⟨v1, rfl, h2⟩ := r1
         refine s_ldM (cs := [v1]) S1 rfl h1 rfl Try.isAgg23 Try.sizeOf23 (fun _ => rfl) <| s_asv (v := v1) rfl <| wpl_nil <| nrm <| wpc_seq <| wpc_region <| s_mvv (v := vI s1) rfl <| s_mvv (v := v1) rfl <| s_lenR (xs := x3) rfl h2 Try.underlying23 <| s_addI (m := s1) (n := (x3.length : Int)) rfl rfl ?_
         obtain ⟨x5, q8, q7⟩ := bnd_eq q7
         refine s_asv (v := vI x5) (congrArg (fun z => vI z) q8.symm) <| wpl_nil <| nrm <| wpc_seq <| wpc_region <| s_mvv (v := vI x5) rfl <| s_lss (m := x5) (n := 0) rfl rfl <| wpl_nil <| nrm <| wpc_if (t := (decide (x5 < 0))) rfl (fun hc1 => ?_) (fun hc1 => ?_)
         · replace q7 := ifT hc1 q7
           cases q7
         replace q7 := ifF hc1 q7
         refine wpc_skip <| nrmB <| nrm ?_
         have e0 := Option.some.inj q7
         subst e0
         exact ⟨outP, m1, L5, S1, ⟨rfl, trivial⟩⟩
       rintro f2 w2 ho ⟨m2, l1, S2, ha⟩
       obtain ⟨u2, rfl⟩ := fr_of (N := 36) ho ha
       replace a0h0 := a0h0.up l1
       replace L3 := Mem.tr L3 l1
       clear S1
       refine wpc_region <| s_addI (m := (i1 : Int)) (n := 1) rfl rfl <| s_mvv (v := vI (w64 ((i1 : Int) + 1))) rfl <| wpl_nil <| nrm ?_
       have e0 := Option.some.inj q5
       subst e0
       exact ⟨outP, _, (by omega), ⟨i1 + 1, x4, m2, rfl, hlt1, q4, Mem.tr L4 L3, S2, ⟨congrArg (Value.int .i64) (w64_succ hlt1 (SlR.le a0h0)), rfl, trivial⟩⟩⟩
     have hlt1 : ¬ i1 < a0.length := by have := of_decide_eq_false hc2; omega
     have e := Eq.symm (each0_out q3 hlt1)
     subst e
     exact wpc_exit <| thE <| thE <| exB <| nrm <| ⟨outP, m1, Mem.tr L4 L3, S1, ⟨rfl, trivial⟩⟩
   rintro f3 w3 ho ⟨m4, l2, S3, ha⟩
   obtain ⟨u3, rfl⟩ := fr_of (N := 36) ho ha
   clear ho ha
   replace L1 := Mem.tr L1 l2
   clear S
   have e0 := Option.some.inj q1
   subst e0
   exact ⟨outP, m4, L1, S3, ⟨rfl, trivial⟩⟩
 rintro f4 w4 ho ⟨m5, l3, S4, ha⟩
 obtain ⟨u4, rfl⟩ := fr_of (N := 36) ho ha
 replace a0h0 := a0h0.up l3
 replace L0 := Mem.tr L0 l3
 clear S
 refine wpc_seq <| wpc_region <| s_mvv (v := vI x1) rfl ?_
 obtain ⟨x6, q9, hm⟩ := obind_some hm
 refine s_call Try.call68 (w_slices_Grow_api_Leaf_api_Leaf_nil (a1 := x1) S4  q9) rfl ?_
 rintro v2 w5 ⟨m6, l4, _, c2, S5, rfl, h3⟩
 replace a0h0 := a0h0.up l4
 replace L0 := Mem.tr L0 l4
 clear S4
 refine s_asv (v := v2) rfl <| wpl_nil <| nrm ?_
 obtain ⟨x7, q10, hm⟩ := obind_some hm
 have L6 := Mem.rfl' m6
 refine wpc_seq <| wpc_join [6, 8, 25, 26, 27, 28, 29, 30, 31, 32, 33, 34] (fun f' w' => ∃ (M4 : Mem) (v3 : Value) (c3 : List Value), m6 ≤ M4 ∧ St M4 ((row 2 v3 c3 x7.length) :: As) w' ∧ RepL M4 c3 x7 ∧ AllAt f' [(6, v3)]) ?_ ?_
 · refine wpc_seq <| wpc_region <| s_mvv (v := a0v0) rfl <| s_lenR (xs := a0) rfl a0h0 Try.underlying118 <| s_mvv (v := vI 0) rfl <| wpl_nil <| nrm ?_
   obtain ⟨x8, q11, q10⟩ := obind_some q10
   have L7 := Mem.rfl' m6
   refine wpc_join [6, 8, 27, 28, 29, 30, 31, 32, 33, 34] (fun f' w' => ∃ (M5 : Mem) (v5 : Value) (c5 : List Value), m6 ≤ M5 ∧ St M5 ((row 2 v5 c5 x8.length) :: As) w' ∧ RepL M5 c5 x8 ∧ AllAt f' [(6, v5)]) ?_ ?_
   · refine wpc_block <| wpc_rounds [6, 8, 27, 28, 29, 30, 31, 32, 33, 34] (fun n2 f' w' => ∃ (i2 : Nat) (s2 : (List g_api_Leaf)) (m8 : Mem) (v4 : Value) (c4 : List Value), n2 = a0.length - i2 ∧ i2 ≤ a0.length ∧ each0 m_slices_Concat_api_Leaf_api_Leaf_b2 (a0.drop i2) (i2 : Int) s2 = some x8 ∧ m6 ≤ m8 ∧ St m8 ((row 2 v4 c4 s2.length) :: As) w' ∧ RepL m8 c4 s2 ∧ AllAt f' [(27, vI (i2 : Int)), (6, v4)]) a0.length ⟨0, x6, m6, _, _, rfl, Nat.zero_le _, q11, L7, S5, h3, ⟨rfl, rfl, trivial⟩⟩ ?_
     rintro n2 f5 w6 ho ⟨i2, s2, m7, v4, c4, hn, hi, q12, L9, S6, h5, ha⟩
     obtain ⟨u5, rfl⟩ := fr_of (N := 36) ho ha
     clear ho ha
     replace a0h0 := a0h0.up L9
     have L8 := Mem.rfl' m7
     clear S5
     refine wpc_seq <| wpc_region <| s_lss (m := (i2 : Int)) (n := (a0.length : Int)) rfl rfl <| wpl_nil <| nrm <| wpc_seq <| wpc_if (t := decide ((i2 : Int) < (a0.length : Int))) rfl (fun hc3 => ?_) (fun hc3 => ?_)
     · have hlt2 : i2 < a0.length := by have := of_decide_eq_true hc3; omega
       obtain ⟨x9, y2, q15, q14, q13⟩ := each0_in q12 hlt2
       unfold m_slices_Concat_api_Leaf_api_Leaf_b2 at q14
       refine wpc_skip <| nrm <| wpc_seq <| wpc_block <| wpc_seq <| wpc_region <| s_idx (q := x9) rfl rfl a0h0 q15 Try.underlying118 Try.sizeOf23 fun p2 c6 h7 r6 => ?_
       obtain ⟨v6, rfl, h8⟩ := r6
       refine s_ldM (cs := [v6]) S6 rfl h7 rfl Try.isAgg23 Try.sizeOf23 (fun _ => rfl) <| s_asv (v := v6) rfl <| wpl_nil <| nrm <| wpc_region <| s_mvv (v := v4) rfl <| s_mvv (v := v6) rfl ?_
       obtain ⟨x10, q16, q14⟩ := obind_some q14
       refine s_app (i := 0) (zs := x10) (bytes := 32) (ti := Try.t55) S6 rfl rfl h5 rfl rfl h8 q16 Try.underlying23 Try.type55 rfl rfl rfl rfl fun v7 c7 w7 S7 h9 => ?_
       replace S7 : St _ ((row 2 v7 c7 x10.length) :: As) _ := S7
       clear S6
       refine s_asv (v := v7) rfl <| wpl_nil <| nrmB <| nrm <| wpc_region <| s_addI (m := (i2 : Int)) (n := 1) rfl rfl <| s_mvv (v := vI (w64 ((i2 : Int) + 1))) rfl <| wpl_nil <| nrm ?_
       have e0 := Option.some.inj q14
       subst e0
       exact ⟨outP, _, (by omega), ⟨i2 + 1, x10, m7, _, _, rfl, hlt2, q13, Mem.tr L9 L8, S7, h9, ⟨congrArg (Value.int .i64) (w64_succ hlt2 (SlR.le a0h0)), rfl, trivial⟩⟩⟩
     have hlt2 : ¬ i2 < a0.length := by have := of_decide_eq_false hc3; omega
     have e := Eq.symm (each0_out q12 hlt2)
     subst e
     exact wpc_exit <| thE <| thE <| exB <| nrm <| ⟨outP, m7, _, _, Mem.tr L9 L8, S6, h5, ⟨rfl, trivial⟩⟩
   rintro f6 w8 ho ⟨m9, v5, c5, l5, S8, h6, ha⟩
   obtain ⟨u6, rfl⟩ := fr_of (N := 36) ho ha
   clear ho ha
   replace L6 := Mem.tr L6 l5
   clear S5
   have e0 := Option.some.inj q10
   subst e0
   exact ⟨outP, m9, _, _, L6, S8, h6, ⟨rfl, trivial⟩⟩
 rintro f7 w9 ho ⟨m10, v3, c3, l6, S9, h4, ha⟩
 obtain ⟨u7, rfl⟩ := fr_of (N := 36) ho ha
 replace L0 := Mem.tr L0 l6
 clear S5
 refine wpc_seq <| wpc_region <| s_mvv (v := v3) rfl <| s_asv (v := v3) rfl <| wpl_nil <| nrm <| wpc_ret <| outRw fun we hpd => ?_
 replace S9 := St.pd S9 hpd
 have e0 := Option.some.inj hm
 subst e0
 exact outR [_] rfl ⟨rfl, trivial⟩ ⟨_, L0, _, _, S9, rfl, h4⟩

def m_logd_all (a0 : g_api_Log) : Option (List g_api_Leaf) :=
  obind (m_slices_Concat_api_Leaf_api_Leaf ([a0.L, a0.Wait] : List (List g_api_Leaf))) fun x1 =>
  some x1

theorem w_logd_all {m : Mem} {As : List Ow} {w : World} {a0 : g_api_Log} {a0v3 : Value} {a0v4 : Value} {a0v5 : Value} {r : List g_api_Leaf} (S : St m (As) w) (a0h3 : SlR m a0v3 a0.L) (a0h4 : SlR m a0v4 a0.Hide) (a0h5 : SlR m a0v5 a0.Wait) (hm : m_logd_all a0 = some r) :
    CallsR Try.prog 25 #[.agg #[vI a0.Id, vU a0.Key, vI a0.Delay, a0v3, a0v4, a0v5]] w fun v w' => ∃ (M : Mem), m ≤ M ∧ ∃ (rv0 : Value) (rc0 : List Value), St M ((row 2 rv0 rc0 r.length) :: As) w' ∧ v = rv0 ∧ RepL M rc0 r := by
 unfold m_logd_all at hm
 have L0 := Mem.rfl' m
 refine callsR (args := [.agg #[vI a0.Id, vU a0.Key, vI a0.Delay, a0v3, a0v4, a0v5]]) Try.func25 rfl Try.ntmps25 (Nat.le_of_ble_eq_true rfl) <| wpc_seq <| wpc_region <| s_box S rfl fun b1 w1 S1 => ?_
 replace S1 : St _ ((bx b1 [vI a0.Id, vU a0.Key, vI a0.Delay, a0v3, a0v4, a0v5] 26) :: As) _ := S1
 clear S
 refine s_asv (v := .slice none 0 0) rfl <| wpl_nil <| nrm <| wpc_seq <| wpc_region <| s_fld (n := 0) rfl Try.underlying26 rfl rfl Try.sizeOf23 <| s_ld (i := 0) (cs := [a0v3]) S1 rfl rfl Try.isAgg23 Try.sizeOf23 rfl (fun _ => rfl) <| s_fld (n := 0) rfl Try.underlying26 rfl rfl Try.sizeOf23 <| s_ld (i := 0) (cs := [a0v5]) S1 rfl rfl Try.isAgg23 Try.sizeOf23 rfl (fun _ => rfl) <| s_litC (parts := [.tmp 4, .tmp 6]) (vs := [a0v3, a0v5]) (cls := [[a0v3], [a0v5]]) (xs := ([a0.L, a0.Wait] : List (List g_api_Leaf))) (n := 2) S1 Try.underlying118 Try.sizeOf23 Try.zeroValue23 rfl ⟨SlR.cells a0h3, SlR.cells a0h5, trivial⟩ (RepL.cons (c := [a0v3]) (x := a0.L) ⟨_, rfl, a0h3⟩ (RepL.cons (c := [a0v5]) (x := a0.Wait) ⟨_, rfl, a0h5⟩ RepL.nil)) rfl rfl rfl (by decide) (by decide) fun v1 m1 w2 l1 S2 h1 => ?_
 replace a0h3 := a0h3.up l1
 replace a0h5 := a0h5.up l1
 replace a0h4 := a0h4.up l1
 replace L0 := Mem.tr L0 l1
 clear S1
 obtain ⟨x1, q1, hm⟩ := obind_some hm
 refine s_call Try.call45 (w_slices_Concat_api_Leaf_api_Leaf (a0 := ([a0.L, a0.Wait] : List (List g_api_Leaf))) S2 h1 q1) rfl ?_
 rintro v2 w3 ⟨m2, l2, _, c1, S3, rfl, h2⟩
 replace L0 := Mem.tr L0 l2
 clear S2
 refine s_asv (v := v2) rfl <| wpl_nil <| nrm <| wpc_ret <| outRw fun we hpd => ?_
 replace S3 := St.pd S3 hpd
 obtain ⟨m3, l3, S4⟩ := St.drop S3 1
 replace h2 := RepL.up l3 h2
 replace L0 := Mem.tr L0 l3
 clear S3
 replace S4 : St _ ((row 2 v2 c1 x1.length) :: As) _ := S4
 have e0 := Option.some.inj hm
 subst e0
 exact outR [_] rfl ⟨rfl, trivial⟩ ⟨_, L0, _, _, S4, rfl, h2⟩

def m_logd_Check_b3  (i1 : Int) (x4 : g_api_Leaf) (s1 : (List (ByteArray × Bool))) : Option (((List (ByteArray × Bool))) ⊕ Int) :=
  obind (m_logd_isBody x4.Body) fun x5 =>
  obind (
    if (!x5) = true then
      some true
    else
    obind (m_logd_number x4.At) fun x8 =>
    some (!x8)
  ) fun x7 =>
  if (x7 || (lkB s1 (bs x4.Body))) = true then
    some (.inr 1)
  else
  if (lkI s1 (bs x4.Body) 0).isNone = true then
    some (.inl (s1 ++ [((bs x4.Body), true)]))
  else none

def m_logd_Check_b5 (a0 : g_api_Log) (i2 : Int) (x10 : Int) (s2 : Int) : Option ((Int) ⊕ Int) :=
  if ((decide (x10 ≤ s2)) || (decide (x10 ≥ (a0.L.length : Int)))) = true then
    some (.inr 1)
  else
  some (.inl x10)

def m_logd_Check (a0 : g_api_Log) : Option Int :=
  obind (m_logd_number a0.Id) fun x1 =>
  if (((((!x1) || ((a0.Key.toNat : Int) == 0)) || (decide ((a0.Key.toNat : Int) ≥ 1152921504606845789))) || (decide (a0.Delay < 0))) || (decide (a0.Delay > 1000))) = true then
    some 1
  else
  obind (m_logd_all a0) fun x2 =>
  obind (eachR m_logd_Check_b3 x2 0 ([] : List (ByteArray × Bool))) fun x3 => match x3 with
  | .inr r => some r
  | .inl y1 =>
  obind (eachR (m_logd_Check_b5 a0) a0.Hide 0 (-1)) fun x9 => match x9 with
  | .inr r => some r
  | .inl y3 =>
  if (decide ((y1.length : Int) > 256)) = true then
    some 2
  else
  some 0

theorem w_logd_Check {m : Mem} {As : List Ow} {w : World} {a0 : g_api_Log} {a0v3 : Value} {a0v4 : Value} {a0v5 : Value} {r : Int} (S : St m (As) w) (a0h3 : SlR m a0v3 a0.L) (a0h4 : SlR m a0v4 a0.Hide) (a0h5 : SlR m a0v5 a0.Wait) (hm : m_logd_Check a0 = some r) :
    CallsR Try.prog 16 #[.agg #[vI a0.Id, vU a0.Key, vI a0.Delay, a0v3, a0v4, a0v5]] w fun v w' => ∃ (M : Mem), m ≤ M ∧ St M (As) w' ∧ v = vI r := by
 unfold m_logd_Check at hm
 have L0 := Mem.rfl' m
 refine callsR (args := [.agg #[vI a0.Id, vU a0.Key, vI a0.Delay, a0v3, a0v4, a0v5]]) Try.func16 rfl Try.ntmps16 (Nat.le_of_ble_eq_true rfl) <| wpc_seq <| wpc_region <| s_box S rfl fun b1 w1 S1 => ?_
 replace S1 : St _ ((bx b1 [vI a0.Id, vU a0.Key, vI a0.Delay, a0v3, a0v4, a0v5] 26) :: As) _ := S1
 clear S
 refine s_asv (v := vI 0) rfl <| wpl_nil <| nrm <| wpc_seq <| wpc_seq <| wpc_region <| s_fld (n := 0) rfl Try.underlying26 rfl rfl Try.sizeOf3 <| s_ld (i := 0) (cs := [vI a0.Id]) S1 rfl rfl Try.isAgg3 Try.sizeOf3 rfl (fun _ => rfl) ?_
 obtain ⟨x1, q1, hm⟩ := obind_some hm
 refine s_call Try.call24 (w_logd_number (a0 := a0.Id) S1  q1) rfl ?_
 rintro _ w2 ⟨m1, l1, S2, rfl⟩
 replace a0h3 := a0h3.up l1
 replace a0h4 := a0h4.up l1
 replace a0h5 := a0h5.up l1
 replace L0 := Mem.tr L0 l1
 clear S1
 refine s_not rfl <| s_mvv (v := vb (!x1)) rfl <| wpl_cut 4 [14, 15, 16, 17] (fun f' w' => w' = w2 ∧ AllAt f' [(17, vb ((!x1) || ((a0.Key.toNat : Int) == 0)))]) ?_ ?_
 · rcases bool_tf (!x1) with hb1 | hb1
   · exact wpl_no (d := 13) rfl rfl (congrArg Value.bool hb1) <| wpl_no (d := 13) rfl rfl (congrArg Value.bool hb1) <| wpl_no (d := 13) rfl rfl (congrArg Value.bool hb1) <| s_pickT (congrArg Value.bool hb1) rfl <| wpl_nil (nrm ⟨outP, rfl, congrArg Value.bool (or_t hb1), trivial⟩)
   · exact wpl_yes (d := 13) rfl rfl (congrArg Value.bool hb1) <| s_fld (n := 0) rfl Try.underlying26 rfl rfl Try.sizeOf22 <| wpl_yes (d := 13) rfl rfl (congrArg Value.bool hb1) <| s_ld (i := 0) (cs := [vU a0.Key]) S2 rfl rfl Try.isAgg22 Try.sizeOf22 rfl (fun _ => rfl) <| wpl_yes (d := 13) rfl rfl (congrArg Value.bool hb1) <| s_eql (m := (a0.Key.toNat : Int)) (n := 0) rfl rfl <| s_pickF (congrArg Value.bool hb1) rfl <| wpl_nil (nrm ⟨outP, rfl, congrArg Value.bool (or_f hb1), trivial⟩)
 rintro f1 w3 ho ⟨h1, ha⟩
 subst h1
 obtain ⟨u1, rfl⟩ := fr_of (N := 85) ho ha
 refine s_mvv (v := vb ((!x1) || ((a0.Key.toNat : Int) == 0))) rfl <| wpl_cut 4 [19, 20, 21, 22] (fun f' w' => w' = w3 ∧ AllAt f' [(22, vb (((!x1) || ((a0.Key.toNat : Int) == 0)) || (decide ((a0.Key.toNat : Int) ≥ 1152921504606845789))))]) ?_ ?_
 · rcases bool_tf ((!x1) || ((a0.Key.toNat : Int) == 0)) with hb2 | hb2
   · exact wpl_no (d := 18) rfl rfl (congrArg Value.bool hb2) <| wpl_no (d := 18) rfl rfl (congrArg Value.bool hb2) <| wpl_no (d := 18) rfl rfl (congrArg Value.bool hb2) <| s_pickT (congrArg Value.bool hb2) rfl <| wpl_nil (nrm ⟨outP, rfl, congrArg Value.bool (or_t hb2), trivial⟩)
   · exact wpl_yes (d := 18) rfl rfl (congrArg Value.bool hb2) <| s_fld (n := 0) rfl Try.underlying26 rfl rfl Try.sizeOf22 <| wpl_yes (d := 18) rfl rfl (congrArg Value.bool hb2) <| s_ld (i := 0) (cs := [vU a0.Key]) S2 rfl rfl Try.isAgg22 Try.sizeOf22 rfl (fun _ => rfl) <| wpl_yes (d := 18) rfl rfl (congrArg Value.bool hb2) <| s_geq (m := (a0.Key.toNat : Int)) (n := 1152921504606845789) rfl rfl <| s_pickF (congrArg Value.bool hb2) rfl <| wpl_nil (nrm ⟨outP, rfl, congrArg Value.bool (or_f hb2), trivial⟩)
 rintro f2 w4 ho ⟨h2, ha⟩
 subst h2
 obtain ⟨u2, rfl⟩ := fr_of (N := 85) ho ha
 refine s_mvv (v := vb (((!x1) || ((a0.Key.toNat : Int) == 0)) || (decide ((a0.Key.toNat : Int) ≥ 1152921504606845789)))) rfl <| wpl_cut 4 [24, 25, 26, 27] (fun f' w' => w' = w4 ∧ AllAt f' [(27, vb ((((!x1) || ((a0.Key.toNat : Int) == 0)) || (decide ((a0.Key.toNat : Int) ≥ 1152921504606845789))) || (decide (a0.Delay < 0))))]) ?_ ?_
 · rcases bool_tf (((!x1) || ((a0.Key.toNat : Int) == 0)) || (decide ((a0.Key.toNat : Int) ≥ 1152921504606845789))) with hb3 | hb3
   · exact wpl_no (d := 23) rfl rfl (congrArg Value.bool hb3) <| wpl_no (d := 23) rfl rfl (congrArg Value.bool hb3) <| wpl_no (d := 23) rfl rfl (congrArg Value.bool hb3) <| s_pickT (congrArg Value.bool hb3) rfl <| wpl_nil (nrm ⟨outP, rfl, congrArg Value.bool (or_t hb3), trivial⟩)
   · exact wpl_yes (d := 23) rfl rfl (congrArg Value.bool hb3) <| s_fld (n := 0) rfl Try.underlying26 rfl rfl Try.sizeOf3 <| wpl_yes (d := 23) rfl rfl (congrArg Value.bool hb3) <| s_ld (i := 0) (cs := [vI a0.Delay]) S2 rfl rfl Try.isAgg3 Try.sizeOf3 rfl (fun _ => rfl) <| wpl_yes (d := 23) rfl rfl (congrArg Value.bool hb3) <| s_lss (m := a0.Delay) (n := 0) rfl rfl <| s_pickF (congrArg Value.bool hb3) rfl <| wpl_nil (nrm ⟨outP, rfl, congrArg Value.bool (or_f hb3), trivial⟩)
 rintro f3 w5 ho ⟨h3, ha⟩
 subst h3
 obtain ⟨u3, rfl⟩ := fr_of (N := 85) ho ha
 refine s_mvv (v := vb ((((!x1) || ((a0.Key.toNat : Int) == 0)) || (decide ((a0.Key.toNat : Int) ≥ 1152921504606845789))) || (decide (a0.Delay < 0)))) rfl <| wpl_cut 4 [29, 30, 31, 32] (fun f' w' => w' = w5 ∧ AllAt f' [(32, vb (((((!x1) || ((a0.Key.toNat : Int) == 0)) || (decide ((a0.Key.toNat : Int) ≥ 1152921504606845789))) || (decide (a0.Delay < 0))) || (decide (a0.Delay > 1000))))]) ?_ ?_
 · rcases bool_tf ((((!x1) || ((a0.Key.toNat : Int) == 0)) || (decide ((a0.Key.toNat : Int) ≥ 1152921504606845789))) || (decide (a0.Delay < 0))) with hb4 | hb4
   · exact wpl_no (d := 28) rfl rfl (congrArg Value.bool hb4) <| wpl_no (d := 28) rfl rfl (congrArg Value.bool hb4) <| wpl_no (d := 28) rfl rfl (congrArg Value.bool hb4) <| s_pickT (congrArg Value.bool hb4) rfl <| wpl_nil (nrm ⟨outP, rfl, congrArg Value.bool (or_t hb4), trivial⟩)
   · exact wpl_yes (d := 28) rfl rfl (congrArg Value.bool hb4) <| s_fld (n := 0) rfl Try.underlying26 rfl rfl Try.sizeOf3 <| wpl_yes (d := 28) rfl rfl (congrArg Value.bool hb4) <| s_ld (i := 0) (cs := [vI a0.Delay]) S2 rfl rfl Try.isAgg3 Try.sizeOf3 rfl (fun _ => rfl) <| wpl_yes (d := 28) rfl rfl (congrArg Value.bool hb4) <| s_gtr (m := a0.Delay) (n := 1000) rfl rfl <| s_pickF (congrArg Value.bool hb4) rfl <| wpl_nil (nrm ⟨outP, rfl, congrArg Value.bool (or_f hb4), trivial⟩)
 rintro f4 w6 ho ⟨h4, ha⟩
 subst h4
 obtain ⟨u4, rfl⟩ := fr_of (N := 85) ho ha
 refine wpl_nil <| nrm <| wpc_if (t := (((((!x1) || ((a0.Key.toNat : Int) == 0)) || (decide ((a0.Key.toNat : Int) ≥ 1152921504606845789))) || (decide (a0.Delay < 0))) || (decide (a0.Delay > 1000)))) rfl (fun hc1 => ?_) (fun hc1 => ?_)
 · replace hm := ifT hc1 hm
   refine wpc_seq <| wpc_region <| s_asv (v := vI 1) rfl <| wpl_nil <| nrm <| wpc_ret <| thR <| outRw fun we hpd => ?_
   replace S2 := St.pd S2 hpd
   obtain ⟨m2, l2, S3⟩ := St.drop S2 0
   replace L0 := Mem.tr L0 l2
   clear S2
   replace S3 : St _ (As) _ := S3
   have e0 := Option.some.inj hm
   subst e0
   exact outR [_] rfl ⟨rfl, trivial⟩ ⟨_, L0, S3, rfl⟩
 replace hm := ifF hc1 hm
 refine wpc_skip <| nrm <| wpc_seq <| wpc_region <| s_makeMap S2 fun b2 w7 S4 => ?_
 clear S2
 refine s_asv (v := .map (some b2)) rfl <| wpl_nil <| nrm <| wpc_seq <| wpc_seq <| wpc_region <| s_ld (i := 1) (cs := [vI a0.Id, vU a0.Key, vI a0.Delay, a0v3, a0v4, a0v5]) S4 rfl rfl Try.isAgg26 Try.sizeOf26 rfl (fun h => by cases h) ?_
 obtain ⟨x2, q2, hm⟩ := obind_some hm
 refine s_call Try.call25 (w_logd_all (a0 := a0) S4 a0h3 a0h4 a0h5 q2) rfl ?_
 rintro v1 w8 ⟨m3, l3, _, c1, S5, rfl, h5⟩
 replace a0h3 := a0h3.up l3
 replace a0h4 := a0h4.up l3
 replace a0h5 := a0h5.up l3
 replace L0 := Mem.tr L0 l3
 clear S4
 refine s_lenO (i := 0) S5 rfl rfl Try.underlying23 <| s_mvv (v := vI 0) rfl <| wpl_nil <| nrm ?_
 obtain ⟨m4, l4, h6, S6⟩ := St.rowKeepT (i := 0) S5 rfl h5 rfl
 replace a0h3 := a0h3.up l4
 replace a0h4 := a0h4.up l4
 replace a0h5 := a0h5.up l4
 replace L0 := Mem.tr L0 l4
 clear S5
 obtain ⟨x3, q3, hm⟩ := obind_some hm
 have L1 := Mem.rfl' m4
 refine wpc_join [2, 5, 37, 38, 39, 40, 41, 42, 43, 44, 45, 46, 47, 48, 49, 50, 51, 52, 53, 54, 55, 56, 57, 58, 59, 60, 61, 62] (fun f' w' => ∃ (M1 : Mem) (y1 : (List (ByteArray × Bool))), x3 = .inl y1 ∧ m4 ≤ M1 ∧ St M1 ((mpS b2 y1) :: (bx b1 [vI a0.Id, vU a0.Key, vI a0.Delay, a0v3, a0v4, a0v5] 26) :: As) w' ∧ AllAt f' []) ?_ ?_
 · refine wpc_block <| wpc_rounds [2, 5, 37, 38, 39, 40, 41, 42, 43, 44, 45, 46, 47, 48, 49, 50, 51, 52, 53, 54, 55, 56, 57, 58, 59, 60, 61, 62] (fun n1 f' w' => ∃ (i1 : Nat) (s1 : (List (ByteArray × Bool))) (m14 : Mem), n1 = x2.length - i1 ∧ i1 ≤ x2.length ∧ eachR m_logd_Check_b3 (x2.drop i1) (i1 : Int) s1 = some x3 ∧ m4 ≤ m14 ∧ St m14 ((mpS b2 s1) :: (bx b1 [vI a0.Id, vU a0.Key, vI a0.Delay, a0v3, a0v4, a0v5] 26) :: As) w' ∧ AllAt f' [(37, vI (i1 : Int))]) x2.length ⟨0, ([] : List (ByteArray × Bool)), m4, rfl, Nat.zero_le _, q3, L1, S6, ⟨rfl, trivial⟩⟩ ?_
   rintro n1 f5 w9 ho ⟨i1, s1, m5, hn, hi, q4, L3, S7, ha⟩
   obtain ⟨u5, rfl⟩ := fr_of (N := 85) ho ha
   clear ho ha
   replace h6 := h6.up L3
   replace a0h3 := a0h3.up L3
   replace a0h4 := a0h4.up L3
   replace a0h5 := a0h5.up L3
   have L2 := Mem.rfl' m5
   clear S6
   refine wpc_seq <| wpc_region <| s_lss (m := (i1 : Int)) (n := (x2.length : Int)) rfl rfl <| wpl_nil <| nrm <| wpc_seq <| wpc_if (t := decide ((i1 : Int) < (x2.length : Int))) rfl (fun hc3 => ?_) (fun hc3 => ?_)
   · have hlt1 : i1 < x2.length := by have := of_decide_eq_true hc3; omega
     obtain ⟨x4, y2, q7, q6, q5⟩ := eachR_in q4 hlt1
     unfold m_logd_Check_b3 at q6
     refine wpc_skip <| nrm <| wpc_seq <| wpc_block <| wpc_seq <| wpc_region <| s_idx (q := x4) rfl rfl h6 q7 Try.underlying23 Try.sizeOf55 fun p1 c2 h7 r2 => ?_
     obtain ⟨v2, rfl, h8⟩ := rep_g_api_Leaf r2
     refine s_ldM (cs := [v2, vI x4.At]) S7 rfl h7 rfl Try.isAgg55 Try.sizeOf55 (fun h => by cases h) <| s_alloc S7 Try.zeroValue55 fun b4 w10 S8 => ?_
     replace S8 : St _ ((bx b4 [.slice none 0 0, vI 0] 55) :: (mpS b2 s1) :: (bx b1 [vI a0.Id, vU a0.Key, vI a0.Delay, a0v3, a0v4, a0v5] 26) :: As) _ := S8
     clear S7
     refine s_stL (i := 0) S8 rfl rfl rfl Try.sizeOf55 (oneC (SlR.one h8) (oneC rfl oneN)) rfl fun w11 S9 => ?_
     replace S9 : St _ ((bx b4 [v2, vI x4.At] 55) :: (mpS b2 s1) :: (bx b1 [vI a0.Id, vU a0.Key, vI a0.Delay, a0v3, a0v4, a0v5] 26) :: As) _ := S9
     clear S8
     refine wpl_nil <| nrm <| wpc_seq <| wpc_seq <| wpc_region <| s_fld (n := 0) rfl Try.underlying55 rfl rfl Try.sizeOf27 <| s_ld (i := 0) (cs := [v2]) S9 rfl rfl Try.isAgg27 Try.sizeOf27 rfl (fun _ => rfl) ?_
     obtain ⟨x5, q8, q6⟩ := obind_some q6
     refine s_call Try.call23 (w_logd_isBody (a0 := x4.Body) S9 h8 q8) rfl ?_
     rintro _ w12 ⟨m6, l5, S10, rfl⟩
     replace h6 := h6.up l5
     replace h8 := h8.up l5
     replace a0h3 := a0h3.up l5
     replace a0h4 := a0h4.up l5
     replace a0h5 := a0h5.up l5
     replace L2 := Mem.tr L2 l5
     clear S9
     refine s_not rfl <| s_mvv (v := vb (!x5)) rfl ?_
     obtain ⟨x7, q10, q6⟩ := obind_some q6
     have L4 := Mem.rfl' m6
     refine wpl_cut 5 [46, 47, 48, 49, 50] (fun f' w' => ∃ (M2 : Mem), m6 ≤ M2 ∧ St M2 ((bx b4 [v2, vI x4.At] 55) :: (mpS b2 s1) :: (bx b1 [vI a0.Id, vU a0.Key, vI a0.Delay, a0v3, a0v4, a0v5] 26) :: As) w' ∧ AllAt f' [(50, vb x7)]) ?_ ?_
     · rcases bool_tf (!x5) with hb5 | hb5
       · replace q10 := ifT hb5 q10
         refine wpl_no (d := 45) rfl rfl (congrArg Value.bool hb5) <| wpl_no (d := 45) rfl rfl (congrArg Value.bool hb5) <| wpl_no (d := 45) rfl rfl (congrArg Value.bool hb5) <| wpl_no (d := 45) rfl rfl (congrArg Value.bool hb5) <| s_pickT (congrArg Value.bool hb5) rfl <| wpl_nil (nrm ?_)
         have e0 := Option.some.inj q10
         subst e0
         exact ⟨outP, m6, L4, S10, ⟨rfl, trivial⟩⟩
       replace q10 := ifF hb5 q10
       refine wpl_yes (d := 45) rfl rfl (congrArg Value.bool hb5) <| s_fld (n := 0) rfl Try.underlying55 rfl rfl Try.sizeOf3 <| wpl_yes (d := 45) rfl rfl (congrArg Value.bool hb5) <| s_ld (i := 0) (cs := [vI x4.At]) S10 rfl rfl Try.isAgg3 Try.sizeOf3 rfl (fun _ => rfl) <| wpl_yes (d := 45) rfl rfl (congrArg Value.bool hb5) ?_
       obtain ⟨x8, q11, q10⟩ := obind_some q10
       refine s_call Try.call24 (w_logd_number (a0 := x4.At) S10  q11) rfl ?_
       rintro _ w14 ⟨m8, l7, S12, rfl⟩
       replace L4 := Mem.tr L4 l7
       clear S10
       refine wpl_yes (d := 45) rfl rfl (congrArg Value.bool hb5) <| s_not rfl <| s_pickF (congrArg Value.bool hb5) rfl <| wpl_nil (nrm ?_)
       have e0 := Option.some.inj q10
       subst e0
       exact ⟨outP, m8, L4, S12, ⟨rfl, trivial⟩⟩
     rintro f6 w15 ho ⟨m9, l8, S13, ha⟩
     obtain ⟨u6, rfl⟩ := fr_of (N := 85) ho ha
     replace h6 := h6.up l8
     replace h8 := h8.up l8
     replace a0h3 := a0h3.up l8
     replace a0h4 := a0h4.up l8
     replace a0h5 := a0h5.up l8
     replace L2 := Mem.tr L2 l8
     clear S10
     refine s_mvv (v := vb x7) rfl <| wpl_cut 6 [52, 53, 54, 55, 56, 57] (fun f' w' => w' = w15 ∧ AllAt f' [(57, vb (x7 || (lkB s1 (bs x4.Body))))]) ?_ ?_
     · rcases bool_tf x7 with hb6 | hb6
       · exact wpl_no (d := 51) rfl rfl (congrArg Value.bool hb6) <| wpl_no (d := 51) rfl rfl (congrArg Value.bool hb6) <| wpl_no (d := 51) rfl rfl (congrArg Value.bool hb6) <| wpl_no (d := 51) rfl rfl (congrArg Value.bool hb6) <| wpl_no (d := 51) rfl rfl (congrArg Value.bool hb6) <| s_pickT (congrArg Value.bool hb6) rfl <| wpl_nil (nrm ⟨outP, rfl, congrArg Value.bool (or_t hb6), trivial⟩)
       · exact wpl_yes (d := 51) rfl rfl (congrArg Value.bool hb6) <| s_mvv (v := .map (some b2)) rfl <| wpl_yes (d := 51) rfl rfl (congrArg Value.bool hb6) <| s_fld (n := 0) rfl Try.underlying55 rfl rfl Try.sizeOf27 <| wpl_yes (d := 51) rfl rfl (congrArg Value.bool hb6) <| s_ld (i := 0) (cs := [v2]) S13 rfl rfl Try.isAgg27 Try.sizeOf27 rfl (fun _ => rfl) <| wpl_yes (d := 51) rfl rfl (congrArg Value.bool hb6) <| s_bytesS (xs := x4.Body) (t2' := 5) S13 rfl h8 Try.underlying27 Try.underlying5 Try.underlying9 <| wpl_yes (d := 51) rfl rfl (congrArg Value.bool hb6) <| s_lookupS (i := 1) (k := (bs x4.Body)) S13 rfl rfl rfl Try.underlying82 Try.underlying9 Try.zeroValue4 <| s_pickF (congrArg Value.bool hb6) rfl <| wpl_nil (nrm ⟨outP, rfl, congrArg Value.bool (or_f hb6), trivial⟩)
     rintro f7 w16 ho ⟨h9, ha⟩
     subst h9
     obtain ⟨u7, rfl⟩ := fr_of (N := 85) ho ha
     refine wpl_nil <| nrm <| wpc_if (t := (x7 || (lkB s1 (bs x4.Body)))) rfl (fun hc2 => ?_) (fun hc2 => ?_)
     · replace q6 := ifT hc2 q6
       refine wpc_seq <| wpc_region <| s_asv (v := vI 1) rfl <| wpl_nil <| nrm <| wpc_ret <| thR <| blR <| thR <| thR <| blR <| thR <| outRw fun we hpd => ?_
       replace S13 := St.pd S13 hpd
       obtain ⟨m10, l9, S14⟩ := St.drop S13 0
       replace a0h3 := a0h3.up l9
       replace a0h4 := a0h4.up l9
       replace a0h5 := a0h5.up l9
       replace L2 := Mem.tr L2 l9
       clear S13
       replace S14 : St _ ((mpS b2 s1) :: (bx b1 [vI a0.Id, vU a0.Key, vI a0.Delay, a0v3, a0v4, a0v5] 26) :: As) _ := S14
       obtain ⟨m11, l10, S15⟩ := St.drop S14 0
       replace L2 := Mem.tr L2 l10
       clear S14
       replace S15 : St _ ((bx b1 [vI a0.Id, vU a0.Key, vI a0.Delay, a0v3, a0v4, a0v5] 26) :: As) _ := S15
       obtain ⟨m12, l11, S16⟩ := St.drop S15 0
       replace L2 := Mem.tr L2 l11
       clear S15
       replace S16 : St _ (As) _ := S16
       cases q6
       rcases q5 with ⟨sn, e, _⟩ | ⟨tn, e, e2⟩
       · cases e
       cases e
       cases e2
       dsimp only at hm
       have e0 := Option.some.inj hm
       subst e0
       exact outR [_] rfl ⟨rfl, trivial⟩ ⟨_, (Mem.tr L0 (Mem.tr L3 L2)), S16, rfl⟩
     replace q6 := ifF hc2 q6
     refine wpc_skip <| nrm <| wpc_region <| s_mvv (v := .map (some b2)) rfl <| s_fld (n := 0) rfl Try.underlying55 rfl rfl Try.sizeOf27 <| s_ld (i := 0) (cs := [v2]) S13 rfl rfl Try.isAgg27 Try.sizeOf27 rfl (fun _ => rfl) <| s_bytesS (xs := x4.Body) (t2' := 5) S13 rfl h8 Try.underlying27 Try.underlying5 Try.underlying9 ?_
     obtain ⟨q12, q6⟩ := if_some q6
     refine s_mapUpdS (i := 1) (k := (bs x4.Body)) (u := true) S13 rfl rfl rfl rfl Try.underlying82 Try.underlying9 q12 fun w17 S17 => ?_
     replace S17 : St _ ((bx b4 [v2, vI x4.At] 55) :: (mpS b2 (s1 ++ [((bs x4.Body), true)])) :: (bx b1 [vI a0.Id, vU a0.Key, vI a0.Delay, a0v3, a0v4, a0v5] 26) :: As) _ := S17
     clear S13
     refine wpl_nil <| nrmB <| nrm <| wpc_region <| s_addI (m := (i1 : Int)) (n := 1) rfl rfl <| s_mvv (v := vI (w64 ((i1 : Int) + 1))) rfl <| wpl_nil <| nrm ?_
     obtain ⟨m13, l12, S18⟩ := St.drop S17 0
     replace h6 := h6.up l12
     replace L2 := Mem.tr L2 l12
     clear S17
     replace S18 : St _ ((mpS b2 (s1 ++ [((bs x4.Body), true)])) :: (bx b1 [vI a0.Id, vU a0.Key, vI a0.Delay, a0v3, a0v4, a0v5] 26) :: As) _ := S18
     have e0 := Option.some.inj q6
     subst e0
     rcases q5 with ⟨sn, e, q5'⟩ | ⟨tn, e, _⟩
     · cases e
       exact ⟨outP, _, (by omega), ⟨i1 + 1, _, m13, rfl, hlt1, q5', Mem.tr L3 L2, S18, ⟨congrArg (Value.int .i64) (w64_succ hlt1 (SlR.le h6)), trivial⟩⟩⟩
     · cases e
   have hlt1 : ¬ i1 < x2.length := by have := of_decide_eq_false hc3; omega
   have e := eachR_out q4 hlt1
   cases e
   exact wpc_exit <| thE <| thE <| exB <| nrm <| ⟨outP, m5, _, rfl, Mem.tr L3 L2, S7, trivial⟩
 rintro f8 w18 ho ⟨m15, y1, rfl, l13, S19, ha⟩
 obtain ⟨u8, rfl⟩ := fr_of (N := 85) ho ha
 clear ho ha
 dsimp only at hm
 replace a0h3 := a0h3.up l13
 replace a0h4 := a0h4.up l13
 replace a0h5 := a0h5.up l13
 replace L0 := Mem.tr L0 l13
 clear S6
 refine wpc_seq <| wpc_region <| s_asv (v := vI (-1)) rfl <| wpl_nil <| nrm <| wpc_seq <| wpc_seq <| wpc_region <| s_fld (n := 0) rfl Try.underlying26 rfl rfl Try.sizeOf24 <| s_ld (i := 1) (cs := [a0v4]) S19 rfl rfl Try.isAgg24 Try.sizeOf24 rfl (fun _ => rfl) <| s_lenR (xs := a0.Hide) rfl a0h4 Try.underlying24 <| s_mvv (v := vI 0) rfl <| wpl_nil <| nrm ?_
 obtain ⟨x9, q13, hm⟩ := obind_some hm
 have L5 := Mem.rfl' m15
 refine wpc_join [2, 6, 8, 66, 67, 68, 69, 70, 71, 72, 73, 74, 75, 76, 77, 78, 79, 80, 81] (fun f' w' => ∃ (M3 : Mem) (y3 : Int), x9 = .inl y3 ∧ m15 ≤ M3 ∧ St M3 ((mpS b2 y1) :: (bx b1 [vI a0.Id, vU a0.Key, vI a0.Delay, a0v3, a0v4, a0v5] 26) :: As) w' ∧ AllAt f' [(6, vI y3)]) ?_ ?_
 · refine wpc_block <| wpc_rounds [2, 6, 8, 66, 67, 68, 69, 70, 71, 72, 73, 74, 75, 76, 77, 78, 79, 80, 81] (fun n2 f' w' => ∃ (i2 : Nat) (s2 : Int) (m19 : Mem), n2 = a0.Hide.length - i2 ∧ i2 ≤ a0.Hide.length ∧ eachR (m_logd_Check_b5 a0) (a0.Hide.drop i2) (i2 : Int) s2 = some x9 ∧ m15 ≤ m19 ∧ St m19 ((mpS b2 y1) :: (bx b1 [vI a0.Id, vU a0.Key, vI a0.Delay, a0v3, a0v4, a0v5] 26) :: As) w' ∧ AllAt f' [(66, vI (i2 : Int)), (6, vI s2)]) a0.Hide.length ⟨0, (-1), m15, rfl, Nat.zero_le _, q13, L5, S19, ⟨rfl, rfl, trivial⟩⟩ ?_
   rintro n2 f9 w19 ho ⟨i2, s2, m16, hn, hi, q14, L7, S20, ha⟩
   obtain ⟨u9, rfl⟩ := fr_of (N := 85) ho ha
   clear ho ha
   replace a0h4 := a0h4.up L7
   replace a0h3 := a0h3.up L7
   replace a0h5 := a0h5.up L7
   have L6 := Mem.rfl' m16
   clear S19
   refine wpc_seq <| wpc_region <| s_lss (m := (i2 : Int)) (n := (a0.Hide.length : Int)) rfl rfl <| wpl_nil <| nrm <| wpc_seq <| wpc_if (t := decide ((i2 : Int) < (a0.Hide.length : Int))) rfl (fun hc5 => ?_) (fun hc5 => ?_)
   · have hlt2 : i2 < a0.Hide.length := by have := of_decide_eq_true hc5; omega
     obtain ⟨x10, y4, q17, q16, q15⟩ := eachR_in q14 hlt2
     unfold m_logd_Check_b5 at q16
     refine wpc_skip <| nrm <| wpc_seq <| wpc_block <| wpc_seq <| wpc_region <| s_idx (q := x10) rfl rfl a0h4 q17 Try.underlying24 Try.sizeOf3 fun p2 c3 h10 r3 => ?_
     obtain rfl : c3 = [vI x10] := r3
     refine s_ldM (cs := [vI x10]) S20 rfl h10 rfl Try.isAgg3 Try.sizeOf3 (fun _ => rfl) <| s_asv (v := vI x10) rfl <| wpl_nil <| nrm <| wpc_seq <| wpc_seq <| wpc_region <| s_mvv (v := vI x10) rfl <| s_mvv (v := vI s2) rfl <| s_leq (m := x10) (n := s2) rfl rfl <| s_mvv (v := vb (decide (x10 ≤ s2))) rfl <| wpl_cut 6 [74, 75, 76, 77, 78, 79] (fun f' w' => w' = w19 ∧ AllAt f' [(79, vb ((decide (x10 ≤ s2)) || (decide (x10 ≥ (a0.L.length : Int)))))]) ?_ ?_
     · rcases bool_tf (decide (x10 ≤ s2)) with hb7 | hb7
       · exact wpl_no (d := 73) rfl rfl (congrArg Value.bool hb7) <| wpl_no (d := 73) rfl rfl (congrArg Value.bool hb7) <| wpl_no (d := 73) rfl rfl (congrArg Value.bool hb7) <| wpl_no (d := 73) rfl rfl (congrArg Value.bool hb7) <| wpl_no (d := 73) rfl rfl (congrArg Value.bool hb7) <| s_pickT (congrArg Value.bool hb7) rfl <| wpl_nil (nrm ⟨outP, rfl, congrArg Value.bool (or_t hb7), trivial⟩)
       · exact wpl_yes (d := 73) rfl rfl (congrArg Value.bool hb7) <| s_mvv (v := vI x10) rfl <| wpl_yes (d := 73) rfl rfl (congrArg Value.bool hb7) <| s_fld (n := 0) rfl Try.underlying26 rfl rfl Try.sizeOf23 <| wpl_yes (d := 73) rfl rfl (congrArg Value.bool hb7) <| s_ld (i := 1) (cs := [a0v3]) S20 rfl rfl Try.isAgg23 Try.sizeOf23 rfl (fun _ => rfl) <| wpl_yes (d := 73) rfl rfl (congrArg Value.bool hb7) <| s_lenR (xs := a0.L) rfl a0h3 Try.underlying23 <| wpl_yes (d := 73) rfl rfl (congrArg Value.bool hb7) <| s_geq (m := x10) (n := (a0.L.length : Int)) rfl rfl <| s_pickF (congrArg Value.bool hb7) rfl <| wpl_nil (nrm ⟨outP, rfl, congrArg Value.bool (or_f hb7), trivial⟩)
     rintro f10 w20 ho ⟨h11, ha⟩
     subst h11
     obtain ⟨u10, rfl⟩ := fr_of (N := 85) ho ha
     refine wpl_nil <| nrm <| wpc_if (t := ((decide (x10 ≤ s2)) || (decide (x10 ≥ (a0.L.length : Int))))) rfl (fun hc4 => ?_) (fun hc4 => ?_)
     · replace q16 := ifT hc4 q16
       refine wpc_seq <| wpc_region <| s_asv (v := vI 1) rfl <| wpl_nil <| nrm <| wpc_ret <| thR <| blR <| thR <| thR <| blR <| thR <| outRw fun we hpd => ?_
       replace S20 := St.pd S20 hpd
       obtain ⟨m17, l14, S21⟩ := St.drop S20 0
       replace L6 := Mem.tr L6 l14
       clear S20
       replace S21 : St _ ((bx b1 [vI a0.Id, vU a0.Key, vI a0.Delay, a0v3, a0v4, a0v5] 26) :: As) _ := S21
       obtain ⟨m18, l15, S22⟩ := St.drop S21 0
       replace L6 := Mem.tr L6 l15
       clear S21
       replace S22 : St _ (As) _ := S22
       cases q16
       rcases q15 with ⟨sn, e, _⟩ | ⟨tn, e, e2⟩
       · cases e
       cases e
       cases e2
       dsimp only at hm
       have e0 := Option.some.inj hm
       subst e0
       exact outR [_] rfl ⟨rfl, trivial⟩ ⟨_, (Mem.tr L0 (Mem.tr L7 L6)), S22, rfl⟩
     replace q16 := ifF hc4 q16
     refine wpc_skip <| nrm <| wpc_region <| s_mvv (v := vI x10) rfl <| s_asv (v := vI x10) rfl <| wpl_nil <| nrmB <| nrm <| wpc_region <| s_addI (m := (i2 : Int)) (n := 1) rfl rfl <| s_mvv (v := vI (w64 ((i2 : Int) + 1))) rfl <| wpl_nil <| nrm ?_
     have e0 := Option.some.inj q16
     subst e0
     rcases q15 with ⟨sn, e, q15'⟩ | ⟨tn, e, _⟩
     · cases e
       exact ⟨outP, _, (by omega), ⟨i2 + 1, _, m16, rfl, hlt2, q15', Mem.tr L7 L6, S20, ⟨congrArg (Value.int .i64) (w64_succ hlt2 (SlR.le a0h4)), rfl, trivial⟩⟩⟩
     · cases e
   have hlt2 : ¬ i2 < a0.Hide.length := by have := of_decide_eq_false hc5; omega
   have e := eachR_out q14 hlt2
   cases e
   exact wpc_exit <| thE <| thE <| exB <| nrm <| ⟨outP, m16, _, rfl, Mem.tr L7 L6, S20, ⟨rfl, trivial⟩⟩
 rintro f11 w21 ho ⟨m20, y3, rfl, l16, S23, ha⟩
 obtain ⟨u11, rfl⟩ := fr_of (N := 85) ho ha
 clear ho ha
 dsimp only at hm
 replace a0h3 := a0h3.up l16
 replace a0h4 := a0h4.up l16
 replace a0h5 := a0h5.up l16
 replace L0 := Mem.tr L0 l16
 clear S19
 refine wpc_seq <| wpc_seq <| wpc_region <| s_mvv (v := .map (some b2)) rfl <| s_lenMap (i := 0) S23 rfl rfl Try.underlying82 <| s_gtr (m := (y1.length : Int)) (n := 256) rfl rfl <| wpl_nil <| nrm <| wpc_if (t := (decide ((y1.length : Int) > 256))) rfl (fun hc6 => ?_) (fun hc6 => ?_)
 · replace hm := ifT hc6 hm
   refine wpc_seq <| wpc_region <| s_asv (v := vI 2) rfl <| wpl_nil <| nrm <| wpc_ret <| thR <| outRw fun we hpd => ?_
   replace S23 := St.pd S23 hpd
   obtain ⟨m21, l17, S24⟩ := St.drop S23 0
   replace L0 := Mem.tr L0 l17
   clear S23
   replace S24 : St _ ((bx b1 [vI a0.Id, vU a0.Key, vI a0.Delay, a0v3, a0v4, a0v5] 26) :: As) _ := S24
   obtain ⟨m22, l18, S25⟩ := St.drop S24 0
   replace L0 := Mem.tr L0 l18
   clear S24
   replace S25 : St _ (As) _ := S25
   have e0 := Option.some.inj hm
   subst e0
   exact outR [_] rfl ⟨rfl, trivial⟩ ⟨_, L0, S25, rfl⟩
 replace hm := ifF hc6 hm
 refine wpc_skip <| nrm <| wpc_seq <| wpc_region <| s_asv (v := vI 0) rfl <| wpl_nil <| nrm <| wpc_ret <| outRw fun we hpd => ?_
 replace S23 := St.pd S23 hpd
 obtain ⟨m23, l19, S26⟩ := St.drop S23 0
 replace L0 := Mem.tr L0 l19
 clear S23
 replace S26 : St _ ((bx b1 [vI a0.Id, vU a0.Key, vI a0.Delay, a0v3, a0v4, a0v5] 26) :: As) _ := S26
 obtain ⟨m24, l20, S27⟩ := St.drop S26 0
 replace L0 := Mem.tr L0 l20
 clear S26
 replace S27 : St _ (As) _ := S27
 have e0 := Option.some.inj hm
 subst e0
 exact outR [_] rfl ⟨rfl, trivial⟩ ⟨_, L0, S27, rfl⟩

def m_slices_IndexFunc_api_Leaf_api_Leaf_b1 {σ : Type} (a0 : List g_api_Leaf) (p1 : σ → g_api_Leaf → Option (Bool × σ)) (i1 : Int) (s1 : σ) : Option ((σ) ⊕ (Int × σ)) :=
  obind (idx a0 (i1 : Int)) fun x3 =>
  obind (p1 s1 x3) fun x4 =>
  if x4.1 = true then
    some (.inr ((i1 : Int), x4.2))
  else
  some (.inl x4.2)

def m_slices_IndexFunc_api_Leaf_api_Leaf {σ : Type} (a0 : List g_api_Leaf) (p1 : σ → g_api_Leaf → Option (Bool × σ)) (s0 : σ) : Option (Int × σ) :=
  obind (eachN (m_slices_IndexFunc_api_Leaf_api_Leaf_b1 a0 p1) a0.length 0 s0) fun x1 => match x1 with
  | .inr r => some r
  | .inl y1 =>
  some ((-1), y1)

theorem w_slices_IndexFunc_api_Leaf_api_Leaf {m : Mem} {As : List Ow} {w : World} {σ : Type} {R : σ → Mem → List Ow → Prop} {a0 : List g_api_Leaf} {a0v0 : Value} {p1 : σ → g_api_Leaf → Option (Bool × σ)} {f1 : Value} {s0 : σ} {X0 : List Ow} {r : Int × σ} (S : St m ((X0 ++ As)) w) (hup : ∀ {s M M' X}, M ≤ M' → R s M X → R s M' X) (hX0 : R s0 m X0) (cb1 : ∀ {m' : Mem} {As' : List Ow} {w' : World} {s : σ} {X : List Ow} {b0 : g_api_Leaf} {b0v0 : Value} {r : Bool × σ}, St m' (X ++ As') w' → R s m' X → SlR m' b0v0 b0.Body → p1 s b0 = some r → CallV Try.prog f1 [.agg #[b0v0, vI b0.At]] w' fun v w'' => ∃ (M : Mem) (X' : List Ow), m' ≤ M ∧ St M (X' ++ As') w'' ∧ R r.2 M X' ∧ v = vb r.1) (fc1 : f1.cells = #[f1]) (a0h0 : SlR m a0v0 a0) (hm : m_slices_IndexFunc_api_Leaf_api_Leaf a0 p1 s0 = some r) :
    CallsR Try.prog 26 #[a0v0, f1] w fun v w' => ∃ (M : Mem), m ≤ M ∧ ∃ (X : List Ow), St M ((X ++ As)) w' ∧ v = vI r.1 ∧ R r.2 M X := by
 unfold m_slices_IndexFunc_api_Leaf_api_Leaf at hm
 have L0 := Mem.rfl' m
 refine callsR (args := [a0v0, f1]) Try.func26 rfl Try.ntmps26 (Nat.le_of_ble_eq_true rfl) <| wpc_seq <| wpc_region <| s_asv (v := vI 0) rfl <| wpl_nil <| nrm <| wpc_seq <| wpc_seq <| wpc_region <| s_mvv (v := a0v0) rfl <| s_lenR (xs := a0) rfl a0h0 Try.underlying23 <| s_mvv (v := vI 0) rfl <| wpl_nil <| nrm ?_
 obtain ⟨x1, q1, hm⟩ := obind_some hm
 have L1 := Mem.rfl' m
 refine wpc_join [4, 5, 8, 9, 10, 11, 12, 13, 14, 15, 16, 17, 18] (fun f' w' => ∃ (M1 : Mem) (y1 : σ) (X2 : List Ow), x1 = .inl y1 ∧ m ≤ M1 ∧ St M1 ((X2 ++ As)) w' ∧ R y1 M1 X2 ∧ AllAt f' []) ?_ ?_
 · refine wpc_block <| wpc_rounds [4, 5, 8, 9, 10, 11, 12, 13, 14, 15, 16, 17, 18] (fun n1 f' w' => ∃ (i1 : Nat) (s1 : σ) (m3 : Mem) (X1 : List Ow), n1 = a0.length - i1 ∧ i1 ≤ a0.length ∧ eachN (m_slices_IndexFunc_api_Leaf_api_Leaf_b1 a0 p1) (a0.length - i1) (i1 : Int) s1 = some x1 ∧ m ≤ m3 ∧ St m3 ((X1 ++ As)) w' ∧ R s1 m3 X1 ∧ AllAt f' [(8, vI (i1 : Int))]) a0.length ⟨0, s0, m, _, rfl, Nat.zero_le _, q1, L1, S, hX0, ⟨rfl, trivial⟩⟩ ?_
   rintro n1 f1 w1 ho ⟨i1, s1, m1, X1, hn, hi, q2, L3, S1, h1, ha⟩
   obtain ⟨u1, rfl⟩ := fr_of (N := 19) ho ha
   clear ho ha
   replace a0h0 := a0h0.up L3
   have L2 := Mem.rfl' m1
   clear S
   refine wpc_seq <| wpc_region <| s_lss (m := (i1 : Int)) (n := (a0.length : Int)) rfl rfl <| wpl_nil <| nrm <| wpc_seq <| wpc_if (t := decide ((i1 : Int) < (a0.length : Int))) rfl (fun hc2 => ?_) (fun hc2 => ?_)
   · have hlt1 : i1 < a0.length := by have := of_decide_eq_true hc2; omega
     obtain ⟨y2, q4, q3⟩ := eachN_in q2 hlt1
     unfold m_slices_IndexFunc_api_Leaf_api_Leaf_b1 at q4
     refine wpc_skip <| nrm <| wpc_seq <| wpc_block <| wpc_seq <| wpc_region <| s_mvv (v := vI (i1 : Int)) rfl <| s_asv (v := vI (i1 : Int)) rfl <| wpl_nil <| nrm <| wpc_seq <| wpc_region <| s_mvv (v := f1) rfl <| s_mvv (v := a0v0) rfl <| s_mvv (v := vI (i1 : Int)) rfl ?_
     obtain ⟨x3, q6, q4⟩ := obind_some q4
     refine s_idx (q := x3) rfl rfl a0h0 q6 Try.underlying23 Try.sizeOf55 fun p1 c1 h3 r1 => ?_
     obtain ⟨v1, rfl, h4⟩ := rep_g_api_Leaf r1
     refine s_ldM (cs := [v1, vI x3.At]) S1 rfl h3 rfl Try.isAgg55 Try.sizeOf55 (fun h => by cases h) ?_
     obtain ⟨x4, q7, q4⟩ := obind_some q4
     have S2 := St.absF (L := []) (X := X1) (As := As) S1
     refine s_callV rfl (cb1 S2 h1 h4 q7) rfl ?_
     rintro _ w2 ⟨m2, X3, l1, S3, h5, rfl⟩
     replace S3 := St.absF (L := X3) (X := []) (As := As) S3
     clear S2
     replace a0h0 := a0h0.up l1
     replace L2 := Mem.tr L2 l1
     replace S3 : St _ ((X3 ++ As)) _ := S3
     clear S1
     refine wpl_nil <| nrm <| wpc_if (t := x4.1) rfl (fun hc1 => ?_) (fun hc1 => ?_)
     · replace q4 := ifT hc1 q4
       refine wpc_seq <| wpc_region <| s_mvv (v := vI (i1 : Int)) rfl <| s_asv (v := vI (i1 : Int)) rfl <| wpl_nil <| nrm <| wpc_ret <| blR <| thR <| thR <| blR <| thR <| outRw fun we hpd => ?_
       replace S3 := St.pd S3 hpd
       cases q4
       rcases q3 with ⟨sn, e, _⟩ | ⟨tn, e, e2⟩
       · cases e
       cases e
       cases e2
       dsimp only at hm
       have e0 := Option.some.inj hm
       subst e0
       exact outR [_] rfl ⟨rfl, trivial⟩ ⟨_, (Mem.tr L0 (Mem.tr L3 L2)), _, S3, rfl, h5⟩
     replace q4 := ifF hc1 q4
     refine wpc_skip <| nrmB <| nrm <| wpc_region <| s_addI (m := (i1 : Int)) (n := 1) rfl rfl <| s_mvv (v := vI (w64 ((i1 : Int) + 1))) rfl <| wpl_nil <| nrm ?_
     have e0 := Option.some.inj q4
     subst e0
     rcases q3 with ⟨sn, e, q3'⟩ | ⟨tn, e, _⟩
     · cases e
       exact ⟨outP, _, (by omega), ⟨i1 + 1, _, m2, _, rfl, hlt1, q3', Mem.tr L3 L2, S3, h5, ⟨congrArg (Value.int .i64) (w64_succ hlt1 (SlR.le a0h0)), trivial⟩⟩⟩
     · cases e
   have hlt1 : ¬ i1 < a0.length := by have := of_decide_eq_false hc2; omega
   have e := eachN_out q2 hlt1
   cases e
   exact wpc_exit <| thE <| thE <| exB <| nrm <| ⟨outP, m1, _, _, rfl, Mem.tr L3 L2, S1, h1, trivial⟩
 rintro f2 w3 ho ⟨m4, y1, X2, rfl, l2, S4, h2, ha⟩
 obtain ⟨u2, rfl⟩ := fr_of (N := 19) ho ha
 clear ho ha
 dsimp only at hm
 replace L0 := Mem.tr L0 l2
 clear S
 refine wpc_seq <| wpc_region <| s_asv (v := vI (-1)) rfl <| wpl_nil <| nrm <| wpc_ret <| outRw fun we hpd => ?_
 replace S4 := St.pd S4 hpd
 have e0 := Option.some.inj hm
 subst e0
 exact outR [_] rfl ⟨rfl, trivial⟩ ⟨_, L0, _, S4, rfl, h2⟩

def m_bytes_Equal (a0 : List UInt8) (a1 : List UInt8) : Option Bool :=
  some (eqS (bs a0) (bs a1))

theorem w_bytes_Equal {m : Mem} {As : List Ow} {w : World} {a0 : List UInt8} {a0v0 : Value} {a1 : List UInt8} {a1v0 : Value} {r : Bool} (S : St m (As) w) (a0h0 : SlR m a0v0 a0) (a1h0 : SlR m a1v0 a1) (hm : m_bytes_Equal a0 a1 = some r) :
    CallsR Try.prog 28 #[a0v0, a1v0] w fun v w' => ∃ (M : Mem), m ≤ M ∧ St M (As) w' ∧ v = vb r := by
 unfold m_bytes_Equal at hm
 have L0 := Mem.rfl' m
 refine callsR (args := [a0v0, a1v0]) Try.func28 rfl Try.ntmps28 (Nat.le_of_ble_eq_true rfl) <| wpc_seq <| wpc_region <| s_asv (v := vb false) rfl <| wpl_nil <| nrm <| wpc_seq <| wpc_region <| s_mvv (v := a0v0) rfl <| s_bytesS (xs := a0) (t2' := 5) S rfl a0h0 Try.underlying27 Try.underlying5 Try.underlying9 <| s_mvv (v := a1v0) rfl <| s_bytesS (xs := a1) (t2' := 5) S rfl a1h0 Try.underlying27 Try.underlying5 Try.underlying9 <| s_eqlT (p := (bs a0)) (q := (bs a1)) rfl rfl <| s_asv (v := vb (eqS (bs a0) (bs a1))) rfl <| wpl_nil <| nrm <| wpc_ret <| outRw fun we hpd => ?_
 replace S := St.pd S hpd
 have e0 := Option.some.inj hm
 subst e0
 exact outR [_] rfl ⟨rfl, trivial⟩ ⟨_, L0, S, rfl⟩

def m_logd_Add_1 (a0 : g_api_Leaf) (k0 : List UInt8) : Option (Bool × (List UInt8)) :=
  obind (m_bytes_Equal a0.Body k0) fun x1 =>
  some (x1, k0)

theorem w_logd_Add_1 {m : Mem} {As : List Ow} {w : World} {a0 : g_api_Leaf} {a0v0 : Value} {kb0 : Nat} {k0 : List UInt8} {k0v0 : Value} {r : Bool × (List UInt8)} (S : St m ((bx kb0 [k0v0] 27) :: As) w) (a0h0 : SlR m a0v0 a0.Body) (k0h0 : SlR m k0v0 k0) (hm : m_logd_Add_1 a0 k0 = some r) :
    CallsR Try.prog 27 #[.agg #[a0v0, vI a0.At], pt kb0 0] w fun v w' => ∃ (M : Mem), m ≤ M ∧ ∃ (rb0_0 : Value), St M ((bx kb0 [rb0_0] 27) :: As) w' ∧ v = vb r.1 ∧ SlR M rb0_0 r.2 := by
 unfold m_logd_Add_1 at hm
 have L0 := Mem.rfl' m
 refine callsR (args := [.agg #[a0v0, vI a0.At], pt kb0 0]) Try.func27 rfl Try.ntmps27 (Nat.le_of_ble_eq_true rfl) <| wpc_seq <| wpc_region <| s_box S rfl fun b1 w1 S1 => ?_
 replace S1 : St _ ((bx b1 [a0v0, vI a0.At] 55) :: (bx kb0 [k0v0] 27) :: As) _ := S1
 clear S
 refine s_asv (v := vb false) rfl <| wpl_nil <| nrm <| wpc_seq <| wpc_region <| s_fld (n := 0) rfl Try.underlying55 rfl rfl Try.sizeOf27 <| s_ld (i := 0) (cs := [a0v0]) S1 rfl rfl Try.isAgg27 Try.sizeOf27 rfl (fun _ => rfl) <| s_ld (i := 1) (cs := [k0v0]) S1 rfl rfl Try.isAgg27 Try.sizeOf27 rfl (fun _ => rfl) ?_
 obtain ⟨x1, q1, hm⟩ := obind_some hm
 refine s_call Try.call28 (w_bytes_Equal (a0 := a0.Body) (a1 := k0) S1 a0h0 k0h0 q1) rfl ?_
 rintro _ w2 ⟨m1, l1, S2, rfl⟩
 replace k0h0 := k0h0.up l1
 replace L0 := Mem.tr L0 l1
 clear S1
 refine s_asv (v := vb x1) rfl <| wpl_nil <| nrm <| wpc_ret <| outRw fun we hpd => ?_
 replace S2 := St.pd S2 hpd
 obtain ⟨m2, l2, S3⟩ := St.drop S2 0
 replace k0h0 := k0h0.up l2
 replace L0 := Mem.tr L0 l2
 clear S2
 replace S3 : St _ ((bx kb0 [k0v0] 27) :: As) _ := S3
 have e0 := Option.some.inj hm
 subst e0
 exact outR [_] rfl ⟨rfl, trivial⟩ ⟨_, L0, _, S3, rfl, k0h0⟩

def m_slices_Clone_api_Leaf_api_Leaf (a0 : List g_api_Leaf) : Option (List g_api_Leaf) :=
  obind (app 32 ([] : List g_api_Leaf) a0) fun x1 =>
  some x1

theorem w_slices_Clone_api_Leaf_api_Leaf {m : Mem} {As : List Ow} {w : World} {a0 : List g_api_Leaf} {a0v0 : Value} {r : List g_api_Leaf} (S : St m (As) w) (a0h0 : SlR m a0v0 a0) (hm : m_slices_Clone_api_Leaf_api_Leaf a0 = some r) :
    CallsR Try.prog 29 #[a0v0] w fun v w' => ∃ (M : Mem), m ≤ M ∧ ∃ (rv0 : Value) (rc0 : List Value), St M ((row 2 rv0 rc0 r.length) :: As) w' ∧ v = rv0 ∧ RepL M rc0 r := by
 unfold m_slices_Clone_api_Leaf_api_Leaf at hm
 have L0 := Mem.rfl' m
 refine callsR (args := [a0v0]) Try.func29 rfl Try.ntmps29 (Nat.le_of_ble_eq_true rfl) <| wpc_seq <| wpc_region <| s_asv (v := .slice none 0 0) rfl <| wpl_nil <| nrm <| wpc_seq <| wpc_seq <| wpc_region <| s_mvv (v := a0v0) rfl <| s_eqlNil rfl rfl a0h0 Try.underlying23 <| wpl_nil <| nrm <| wpc_if (t := (isNilV a0v0)) rfl (fun hc1 => ?_) (fun hc1 => ?_)
 · have he1 : a0 = [] := SlR.nilOf a0h0 hc1
   rw [he1] at hm
   replace hm : (some ([] : List g_api_Leaf)) = some _ := hm
   refine wpc_seq <| wpc_region <| s_asv (v := .slice none 0 0) rfl <| wpl_nil <| nrm <| wpc_ret <| thR <| outRw fun we hpd => ?_
   replace S := St.pd S hpd
   have S1 := St.rowNil S 2
   have h1 : RepL m [] ([] : List g_api_Leaf) := RepL.nil
   replace S1 : St _ ((row 2 (.slice none 0 0) [] ([] : List g_api_Leaf).length) :: As) _ := S1
   clear S
   have e0 := Option.some.inj hm
   subst e0
   exact outR [_] rfl ⟨rfl, trivial⟩ ⟨_, L0, _, _, S1, rfl, h1⟩
 refine wpc_skip <| nrm <| wpc_seq <| wpc_region <| s_litOC (parts := []) (vs := []) (cls := []) (n := 0) (sz := 2) S Try.underlying23 Try.sizeOf55 Try.zeroValue55 rfl trivial rfl rfl (by decide) (by decide) fun v1 w1 S2 => ?_
 have h2 : RepL m [] ([] : List g_api_Leaf) := RepL.nil
 replace S2 : St _ ((row 2 v1 [] ([] : List g_api_Leaf).length) :: As) _ := S2
 clear S
 refine s_mvv (v := a0v0) rfl ?_
 obtain ⟨x1, q1, hm⟩ := obind_some hm
 refine s_app (i := 0) (zs := x1) (bytes := 32) (ti := Try.t55) S2 rfl rfl h2 rfl rfl a0h0 q1 Try.underlying23 Try.type55 rfl rfl rfl rfl fun v2 c1 w2 S3 h3 => ?_
 replace S3 : St _ ((row 2 v2 c1 x1.length) :: As) _ := S3
 clear S2
 refine s_asv (v := v2) rfl <| wpl_nil <| nrm <| wpc_ret <| outRw fun we hpd => ?_
 replace S3 := St.pd S3 hpd
 have e0 := Option.some.inj hm
 subst e0
 exact outR [_] rfl ⟨rfl, trivial⟩ ⟨_, L0, _, _, S3, rfl, h3⟩

def m_bytes_Clone (a0 : List UInt8) : Option (List UInt8) :=
  obind (app 1 ([] : List UInt8) a0) fun x1 =>
  some x1

theorem w_bytes_Clone {m : Mem} {As : List Ow} {w : World} {a0 : List UInt8} {a0v0 : Value} {r : List UInt8} (S : St m (As) w) (a0h0 : SlR m a0v0 a0) (hm : m_bytes_Clone a0 = some r) :
    CallsR Try.prog 30 #[a0v0] w fun v w' => ∃ (M : Mem), m ≤ M ∧ ∃ (rv0 : Value) (rc0 : List Value), St M ((row 1 rv0 rc0 r.length) :: As) w' ∧ v = rv0 ∧ RepL M rc0 r := by
 unfold m_bytes_Clone at hm
 have L0 := Mem.rfl' m
 refine callsR (args := [a0v0]) Try.func30 rfl Try.ntmps30 (Nat.le_of_ble_eq_true rfl) <| wpc_seq <| wpc_region <| s_asv (v := .slice none 0 0) rfl <| wpl_nil <| nrm <| wpc_seq <| wpc_seq <| wpc_region <| s_mvv (v := a0v0) rfl <| s_eqlNil rfl rfl a0h0 Try.underlying27 <| wpl_nil <| nrm <| wpc_if (t := (isNilV a0v0)) rfl (fun hc1 => ?_) (fun hc1 => ?_)
 · have he1 : a0 = [] := SlR.nilOf a0h0 hc1
   rw [he1] at hm
   replace hm : (some ([] : List UInt8)) = some _ := hm
   refine wpc_seq <| wpc_region <| s_asv (v := .slice none 0 0) rfl <| wpl_nil <| nrm <| wpc_ret <| thR <| outRw fun we hpd => ?_
   replace S := St.pd S hpd
   have S1 := St.rowNil S 1
   have h1 : RepL m [] ([] : List UInt8) := RepL.nil
   replace S1 : St _ ((row 1 (.slice none 0 0) [] ([] : List UInt8).length) :: As) _ := S1
   clear S
   have e0 := Option.some.inj hm
   subst e0
   exact outR [_] rfl ⟨rfl, trivial⟩ ⟨_, L0, _, _, S1, rfl, h1⟩
 refine wpc_skip <| nrm <| wpc_seq <| wpc_region <| s_litOC (parts := []) (vs := []) (cls := []) (n := 0) (sz := 1) S Try.underlying27 Try.sizeOf5 Try.zeroValue5 rfl trivial rfl rfl (by decide) (by decide) fun v1 w1 S2 => ?_
 have h2 : RepL m [] ([] : List UInt8) := RepL.nil
 replace S2 : St _ ((row 1 v1 [] ([] : List UInt8).length) :: As) _ := S2
 clear S
 refine s_mvv (v := a0v0) rfl ?_
 obtain ⟨x1, q1, hm⟩ := obind_some hm
 refine s_app (i := 0) (zs := x1) (bytes := 1) (ti := Try.t5) S2 rfl rfl h2 rfl rfl a0h0 q1 Try.underlying27 Try.type5 rfl rfl rfl rfl fun v2 c1 w2 S3 h3 => ?_
 replace S3 : St _ ((row 1 v2 c1 x1.length) :: As) _ := S3
 clear S2
 refine s_asv (v := v2) rfl <| wpl_nil <| nrm <| wpc_ret <| outRw fun we hpd => ?_
 replace S3 := St.pd S3 hpd
 have e0 := Option.some.inj hm
 subst e0
 exact outR [_] rfl ⟨rfl, trivial⟩ ⟨_, L0, _, _, S3, rfl, h3⟩

end Go.Proofs.Ytemiampgjgenhaa
