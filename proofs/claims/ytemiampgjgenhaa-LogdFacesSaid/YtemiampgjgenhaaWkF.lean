/- The walks of some functions, written by program. Conditions: none. -/
import Derived.Test.YtemiampgjgenhaaWkE
set_option maxHeartbeats 20000000
set_option maxRecDepth 100000
set_option linter.unusedVariables false
set_option linter.unusedSimpArgs false
namespace Go.Proofs.Ytemiampgjgenhaa
open Go Go.Gw

def m_ref24_Few_b2 (a0 : g_api_Log) (s1 : Int × Int) : Option ((Int × Int) ⊕ (Int)) :=
  if ((decide (s1.2 < (a0.L.length : Int))) && (decide (s1.2 < 40))) = true then
    obind (idx a0.L s1.2) fun x4 =>
    bnd ((w64 (s1.1 + (x4.Body.length : Int)))) fun x5 =>
    some (.inl (x5, (w64 (s1.2 + 1))))
  else
  some (.inr s1.1)

def m_ref24_Few_b3 (a0 : g_api_Log) (s2 : Int × Int) : Option ((Int × Int) ⊕ (Int)) :=
  if ((decide (s2.2 < (a0.Wait.length : Int))) && (decide (s2.2 < 40))) = true then
    obind (idx a0.Wait s2.2) fun x9 =>
    bnd ((w64 (s2.1 + (x9.Body.length : Int)))) fun x10 =>
    some (.inl (x10, (w64 (s2.2 + 1))))
  else
  some (.inr s2.1)

def m_ref24_Few (a0 : g_api_Log) : Option Bool :=
  obind (
    obind (iter (m_ref24_Few_b2 a0) FUEL (0, 0)) fun x2 =>
    some x2
  ) fun x1 =>
  obind (
    obind (iter (m_ref24_Few_b3 a0) FUEL (x1, 0)) fun x7 =>
    some x7
  ) fun x6 =>
  bnd (((((decide ((a0.L.length : Int) ≤ 40)) && (decide ((a0.Wait.length : Int) ≤ 40))) && (decide ((a0.Hide.length : Int) ≤ 60))) && (decide (x6 ≤ 20000)))) fun x11 =>
  some x11

theorem w_ref24_Few {m : Mem} {As : List Ow} {w : World} {a0 : g_api_Log} {a0v3 : Value} {a0v4 : Value} {a0v5 : Value} {r : Bool} (S : St m (As) w) (a0h3 : SlR m a0v3 a0.L) (a0h4 : SlR m a0v4 a0.Hide) (a0h5 : SlR m a0v5 a0.Wait) (hm : m_ref24_Few a0 = some r) :
    CallsR Try.prog 22 #[.agg #[vI a0.Id, vU a0.Key, vI a0.Delay, a0v3, a0v4, a0v5]] w fun v w' => ∃ (M : Mem), m ≤ M ∧ St M (As) w' ∧ v = vb r := by
 unfold m_ref24_Few at hm
 have L0 := Mem.rfl' m
 refine callsR (args := [.agg #[vI a0.Id, vU a0.Key, vI a0.Delay, a0v3, a0v4, a0v5]]) Try.func22 rfl Try.ntmps22 (Nat.le_of_ble_eq_true rfl) <| wpc_seq <| wpc_region <| s_box S rfl fun b1 w1 S1 => ?_
 replace S1 : St _ ((bx b1 [vI a0.Id, vU a0.Key, vI a0.Delay, a0v3, a0v4, a0v5] 26) :: As) _ := S1
 clear S
 refine s_asv (v := vb false) rfl <| wpl_nil <| nrm <| wpc_seq <| wpc_region <| s_asv (v := vI 0) rfl <| wpl_nil <| nrm ?_
 obtain ⟨x1, q1, hm⟩ := obind_some hm
 have L1 := Mem.rfl' m
 refine wpc_seq <| wpc_join [3, 4, 6, 7, 8, 9, 10, 11, 12, 13, 14, 15, 16, 17, 18, 19, 20, 21, 22, 23, 24, 25] (fun f' w' => ∃ (M1 : Mem), m ≤ M1 ∧ St M1 ((bx b1 [vI a0.Id, vU a0.Key, vI a0.Delay, a0v3, a0v4, a0v5] 26) :: As) w' ∧ AllAt f' [(3, vI x1)]) ?_ ?_
 · refine wpc_seq <| wpc_region <| s_asv (v := vI 0) rfl <| wpl_nil <| nrm ?_
   obtain ⟨x2, q2, q1⟩ := obind_some q1
   have L2 := Mem.rfl' m
   refine wpc_join [3, 4, 6, 7, 8, 9, 10, 11, 12, 13, 14, 15, 16, 17, 18, 19, 20, 21, 22, 23, 24, 25] (fun f' w' => ∃ (M2 : Mem), m ≤ M2 ∧ St M2 ((bx b1 [vI a0.Id, vU a0.Key, vI a0.Delay, a0v3, a0v4, a0v5] 26) :: As) w' ∧ AllAt f' [(3, vI x2)]) ?_ ?_
   · refine wpc_block <| wpc_rounds [3, 4, 6, 7, 8, 9, 10, 11, 12, 13, 14, 15, 16, 17, 18, 19, 20, 21, 22, 23, 24, 25] (fun n1 f' w' => ∃ (s1 : Int × Int) (m2 : Mem), iter (m_ref24_Few_b2 a0) n1 s1 = some x2 ∧ m ≤ m2 ∧ St m2 ((bx b1 [vI a0.Id, vU a0.Key, vI a0.Delay, a0v3, a0v4, a0v5] 26) :: As) w' ∧ AllAt f' [(3, vI s1.1), (4, vI s1.2)]) FUEL ⟨(0, 0), m, q2, L2, S1, ⟨rfl, rfl, trivial⟩⟩ ?_
     rintro n1 f1 w2 ho ⟨s1, m1, q3, L4, S2, ha⟩
     obtain ⟨u1, rfl⟩ := fr_of (N := 66) ho ha
     clear ho ha
     replace a0h3 := a0h3.up L4
     have L3 := Mem.rfl' m1
     clear S1
     cases n1 with
     | zero => exact (iter_zero q3).elim
     | succ n1 =>
      obtain ⟨y1, q5, q4⟩ := iter_succ q3
      unfold m_ref24_Few_b2 at q5
      refine wpc_seq <| wpc_seq <| wpc_region <| s_mvv (v := vI s1.2) rfl <| s_fld (n := 0) rfl Try.underlying26 rfl rfl Try.sizeOf23 <| s_ld (i := 0) (cs := [a0v3]) S2 rfl rfl Try.isAgg23 Try.sizeOf23 rfl (fun _ => rfl) <| s_lenR (xs := a0.L) rfl a0h3 Try.underlying23 <| s_lss (m := s1.2) (n := (a0.L.length : Int)) rfl rfl <| s_mvv (v := vb (decide (s1.2 < (a0.L.length : Int)))) rfl <| wpl_cut 3 [12, 13, 14] (fun f' w' => w' = w2 ∧ AllAt f' [(14, vb ((decide (s1.2 < (a0.L.length : Int))) && (decide (s1.2 < 40))))]) ?_ ?_
      · rcases bool_tf (decide (s1.2 < (a0.L.length : Int))) with hb1 | hb1
        · exact wpl_yes (d := 11) rfl rfl (congrArg Value.bool hb1) <| s_mvv (v := vI s1.2) rfl <| wpl_yes (d := 11) rfl rfl (congrArg Value.bool hb1) <| s_lss (m := s1.2) (n := 40) rfl rfl <| s_pickT (congrArg Value.bool hb1) rfl <| wpl_nil (nrm ⟨outP, rfl, congrArg Value.bool (and_t hb1), trivial⟩)
        · exact wpl_no (d := 11) rfl rfl (congrArg Value.bool hb1) <| wpl_no (d := 11) rfl rfl (congrArg Value.bool hb1) <| s_pickF (congrArg Value.bool hb1) rfl <| wpl_nil (nrm ⟨outP, rfl, congrArg Value.bool (and_f hb1), trivial⟩)
      rintro f2 w3 ho ⟨h1, ha⟩
      subst h1
      obtain ⟨u2, rfl⟩ := fr_of (N := 66) ho ha
      refine wpl_nil <| nrm <| wpc_if (t := ((decide (s1.2 < (a0.L.length : Int))) && (decide (s1.2 < 40)))) rfl (fun hc1 => ?_) (fun hc1 => ?_)
      · replace q5 := ifT hc1 q5
        refine wpc_skip <| nrm <| wpc_seq <| wpc_block <| wpc_region <| s_mvv (v := vI s1.1) rfl <| s_fld (n := 0) rfl Try.underlying26 rfl rfl Try.sizeOf23 <| s_ld (i := 0) (cs := [a0v3]) S2 rfl rfl Try.isAgg23 Try.sizeOf23 rfl (fun _ => rfl) <| s_mvv (v := vI s1.2) rfl ?_
        obtain ⟨x4, q7, q5⟩ := obind_some q5
        refine s_idx (q := x4) rfl rfl a0h3 q7 Try.underlying23 Try.sizeOf55 fun p1 c1 h2 r1 => ?_
        obtain ⟨v1, rfl, h3⟩ := rep_g_api_Leaf r1
        refine s_fldM (n := 0) rfl h2 Try.underlying55 rfl rfl Try.sizeOf27 fun p2 h4 => ?_
        replace h4 : PtC _ _ [v1, vI x4.At] := h4
        refine s_ldM (cs := [v1]) S2 rfl h4 rfl Try.isAgg27 Try.sizeOf27 (fun _ => rfl) <| s_lenR (xs := x4.Body) rfl h3 Try.underlying27 <| s_addI (m := s1.1) (n := (x4.Body.length : Int)) rfl rfl ?_
        obtain ⟨x5, q8, q5⟩ := bnd_eq q5
        refine s_asv (v := vI x5) (congrArg (fun z => vI z) q8.symm) <| wpl_nil <| nrmB <| nrm <| wpc_region <| s_mvv (v := vI s1.2) rfl <| s_addI (m := s1.2) (n := 1) rfl rfl <| s_asv (v := vI (w64 (s1.2 + 1))) rfl <| wpl_nil <| nrm ?_
        have e0 := Option.some.inj q5
        subst e0
        rcases q4 with ⟨sn, e, q4'⟩ | e
        · cases e
          exact ⟨outP, _, Nat.lt_succ_self _, ⟨_, m1, q4', Mem.tr L4 L3, S2, ⟨rfl, rfl, trivial⟩⟩⟩
        · cases e
      replace q5 := ifF hc1 q5
      refine wpc_exit <| thE <| thE <| exB <| nrm ?_
      have e0 := Option.some.inj q5
      subst e0
      rcases q4 with ⟨sn, e, _⟩ | e
      · cases e
      · cases e
        exact ⟨outP, m1, Mem.tr L4 L3, S2, ⟨rfl, trivial⟩⟩
   rintro f3 w4 ho ⟨m3, l1, S3, ha⟩
   obtain ⟨u3, rfl⟩ := fr_of (N := 66) ho ha
   clear ho ha
   replace L1 := Mem.tr L1 l1
   clear S1
   have e0 := Option.some.inj q1
   subst e0
   exact ⟨outP, m3, L1, S3, ⟨rfl, trivial⟩⟩
 rintro f4 w5 ho ⟨m4, l2, S4, ha⟩
 obtain ⟨u4, rfl⟩ := fr_of (N := 66) ho ha
 replace a0h3 := a0h3.up l2
 replace a0h4 := a0h4.up l2
 replace a0h5 := a0h5.up l2
 replace L0 := Mem.tr L0 l2
 clear S1
 obtain ⟨x6, q9, hm⟩ := obind_some hm
 have L5 := Mem.rfl' m4
 refine wpc_seq <| wpc_join [3, 5, 26, 27, 28, 29, 30, 31, 32, 33, 34, 35, 36, 37, 38, 39, 40, 41, 42, 43, 44, 45] (fun f' w' => ∃ (M3 : Mem), m4 ≤ M3 ∧ St M3 ((bx b1 [vI a0.Id, vU a0.Key, vI a0.Delay, a0v3, a0v4, a0v5] 26) :: As) w' ∧ AllAt f' [(3, vI x6)]) ?_ ?_
 · refine wpc_seq <| wpc_region <| s_asv (v := vI 0) rfl <| wpl_nil <| nrm ?_
   obtain ⟨x7, q10, q9⟩ := obind_some q9
   have L6 := Mem.rfl' m4
   refine wpc_join [3, 5, 26, 27, 28, 29, 30, 31, 32, 33, 34, 35, 36, 37, 38, 39, 40, 41, 42, 43, 44, 45] (fun f' w' => ∃ (M4 : Mem), m4 ≤ M4 ∧ St M4 ((bx b1 [vI a0.Id, vU a0.Key, vI a0.Delay, a0v3, a0v4, a0v5] 26) :: As) w' ∧ AllAt f' [(3, vI x7)]) ?_ ?_
   · refine wpc_block <| wpc_rounds [3, 5, 26, 27, 28, 29, 30, 31, 32, 33, 34, 35, 36, 37, 38, 39, 40, 41, 42, 43, 44, 45] (fun n2 f' w' => ∃ (s2 : Int × Int) (m6 : Mem), iter (m_ref24_Few_b3 a0) n2 s2 = some x7 ∧ m4 ≤ m6 ∧ St m6 ((bx b1 [vI a0.Id, vU a0.Key, vI a0.Delay, a0v3, a0v4, a0v5] 26) :: As) w' ∧ AllAt f' [(3, vI s2.1), (5, vI s2.2)]) FUEL ⟨(x1, 0), m4, q10, L6, S4, ⟨rfl, rfl, trivial⟩⟩ ?_
     rintro n2 f5 w6 ho ⟨s2, m5, q11, L8, S5, ha⟩
     obtain ⟨u5, rfl⟩ := fr_of (N := 66) ho ha
     clear ho ha
     replace a0h5 := a0h5.up L8
     have L7 := Mem.rfl' m5
     clear S4
     cases n2 with
     | zero => exact (iter_zero q11).elim
     | succ n2 =>
      obtain ⟨y2, q13, q12⟩ := iter_succ q11
      unfold m_ref24_Few_b3 at q13
      refine wpc_seq <| wpc_seq <| wpc_region <| s_mvv (v := vI s2.2) rfl <| s_fld (n := 0) rfl Try.underlying26 rfl rfl Try.sizeOf23 <| s_ld (i := 0) (cs := [a0v5]) S5 rfl rfl Try.isAgg23 Try.sizeOf23 rfl (fun _ => rfl) <| s_lenR (xs := a0.Wait) rfl a0h5 Try.underlying23 <| s_lss (m := s2.2) (n := (a0.Wait.length : Int)) rfl rfl <| s_mvv (v := vb (decide (s2.2 < (a0.Wait.length : Int)))) rfl <| wpl_cut 3 [32, 33, 34] (fun f' w' => w' = w6 ∧ AllAt f' [(34, vb ((decide (s2.2 < (a0.Wait.length : Int))) && (decide (s2.2 < 40))))]) ?_ ?_
      · rcases bool_tf (decide (s2.2 < (a0.Wait.length : Int))) with hb2 | hb2
        · exact wpl_yes (d := 31) rfl rfl (congrArg Value.bool hb2) <| s_mvv (v := vI s2.2) rfl <| wpl_yes (d := 31) rfl rfl (congrArg Value.bool hb2) <| s_lss (m := s2.2) (n := 40) rfl rfl <| s_pickT (congrArg Value.bool hb2) rfl <| wpl_nil (nrm ⟨outP, rfl, congrArg Value.bool (and_t hb2), trivial⟩)
        · exact wpl_no (d := 31) rfl rfl (congrArg Value.bool hb2) <| wpl_no (d := 31) rfl rfl (congrArg Value.bool hb2) <| s_pickF (congrArg Value.bool hb2) rfl <| wpl_nil (nrm ⟨outP, rfl, congrArg Value.bool (and_f hb2), trivial⟩)
      rintro f6 w7 ho ⟨h5, ha⟩
      subst h5
      obtain ⟨u6, rfl⟩ := fr_of (N := 66) ho ha
      refine wpl_nil <| nrm <| wpc_if (t := ((decide (s2.2 < (a0.Wait.length : Int))) && (decide (s2.2 < 40)))) rfl (fun hc2 => ?_) (fun hc2 => ?_)
      · replace q13 := ifT hc2 q13
        refine wpc_skip <| nrm <| wpc_seq <| wpc_block <| wpc_region <| s_mvv (v := vI s2.1) rfl <| s_fld (n := 0) rfl Try.underlying26 rfl rfl Try.sizeOf23 <| s_ld (i := 0) (cs := [a0v5]) S5 rfl rfl Try.isAgg23 Try.sizeOf23 rfl (fun _ => rfl) <| s_mvv (v := vI s2.2) rfl ?_
        obtain ⟨x9, q15, q13⟩ := obind_some q13
        refine s_idx (q := x9) rfl rfl a0h5 q15 Try.underlying23 Try.sizeOf55 fun p3 c2 h6 r2 => ?_
        obtain ⟨v2, rfl, h7⟩ := rep_g_api_Leaf r2
        refine s_fldM (n := 0) rfl h6 Try.underlying55 rfl rfl Try.sizeOf27 fun p4 h8 => ?_
        replace h8 : PtC _ _ [v2, vI x9.At] := h8
        refine s_ldM (cs := [v2]) S5 rfl h8 rfl Try.isAgg27 Try.sizeOf27 (fun _ => rfl) <| s_lenR (xs := x9.Body) rfl h7 Try.underlying27 <| s_addI (m := s2.1) (n := (x9.Body.length : Int)) rfl rfl ?_
        obtain ⟨x10, q16, q13⟩ := bnd_eq q13
        refine s_asv (v := vI x10) (congrArg (fun z => vI z) q16.symm) <| wpl_nil <| nrmB <| nrm <| wpc_region <| s_mvv (v := vI s2.2) rfl <| s_addI (m := s2.2) (n := 1) rfl rfl <| s_asv (v := vI (w64 (s2.2 + 1))) rfl <| wpl_nil <| nrm ?_
        have e0 := Option.some.inj q13
        subst e0
        rcases q12 with ⟨sn, e, q12'⟩ | e
        · cases e
          exact ⟨outP, _, Nat.lt_succ_self _, ⟨_, m5, q12', Mem.tr L8 L7, S5, ⟨rfl, rfl, trivial⟩⟩⟩
        · cases e
      replace q13 := ifF hc2 q13
      refine wpc_exit <| thE <| thE <| exB <| nrm ?_
      have e0 := Option.some.inj q13
      subst e0
      rcases q12 with ⟨sn, e, _⟩ | e
      · cases e
      · cases e
        exact ⟨outP, m5, Mem.tr L8 L7, S5, ⟨rfl, trivial⟩⟩
   rintro f7 w8 ho ⟨m7, l3, S6, ha⟩
   obtain ⟨u7, rfl⟩ := fr_of (N := 66) ho ha
   clear ho ha
   replace L5 := Mem.tr L5 l3
   clear S4
   have e0 := Option.some.inj q9
   subst e0
   exact ⟨outP, m7, L5, S6, ⟨rfl, trivial⟩⟩
 rintro f8 w9 ho ⟨m8, l4, S7, ha⟩
 obtain ⟨u8, rfl⟩ := fr_of (N := 66) ho ha
 replace a0h3 := a0h3.up l4
 replace a0h4 := a0h4.up l4
 replace a0h5 := a0h5.up l4
 replace L0 := Mem.tr L0 l4
 clear S4
 refine wpc_seq <| wpc_region <| s_fld (n := 0) rfl Try.underlying26 rfl rfl Try.sizeOf23 <| s_ld (i := 0) (cs := [a0v3]) S7 rfl rfl Try.isAgg23 Try.sizeOf23 rfl (fun _ => rfl) <| s_lenR (xs := a0.L) rfl a0h3 Try.underlying23 <| s_leq (m := (a0.L.length : Int)) (n := 40) rfl rfl <| s_mvv (v := vb (decide ((a0.L.length : Int) ≤ 40))) rfl <| wpl_cut 5 [51, 52, 53, 54, 55] (fun f' w' => w' = w9 ∧ AllAt f' [(55, vb ((decide ((a0.L.length : Int) ≤ 40)) && (decide ((a0.Wait.length : Int) ≤ 40))))]) ?_ ?_
 · rcases bool_tf (decide ((a0.L.length : Int) ≤ 40)) with hb3 | hb3
   · exact wpl_yes (d := 50) rfl rfl (congrArg Value.bool hb3) <| s_fld (n := 0) rfl Try.underlying26 rfl rfl Try.sizeOf23 <| wpl_yes (d := 50) rfl rfl (congrArg Value.bool hb3) <| s_ld (i := 0) (cs := [a0v5]) S7 rfl rfl Try.isAgg23 Try.sizeOf23 rfl (fun _ => rfl) <| wpl_yes (d := 50) rfl rfl (congrArg Value.bool hb3) <| s_lenR (xs := a0.Wait) rfl a0h5 Try.underlying23 <| wpl_yes (d := 50) rfl rfl (congrArg Value.bool hb3) <| s_leq (m := (a0.Wait.length : Int)) (n := 40) rfl rfl <| s_pickT (congrArg Value.bool hb3) rfl <| wpl_nil (nrm ⟨outP, rfl, congrArg Value.bool (and_t hb3), trivial⟩)
   · exact wpl_no (d := 50) rfl rfl (congrArg Value.bool hb3) <| wpl_no (d := 50) rfl rfl (congrArg Value.bool hb3) <| wpl_no (d := 50) rfl rfl (congrArg Value.bool hb3) <| wpl_no (d := 50) rfl rfl (congrArg Value.bool hb3) <| s_pickF (congrArg Value.bool hb3) rfl <| wpl_nil (nrm ⟨outP, rfl, congrArg Value.bool (and_f hb3), trivial⟩)
 rintro f9 w10 ho ⟨h9, ha⟩
 subst h9
 obtain ⟨u9, rfl⟩ := fr_of (N := 66) ho ha
 refine s_mvv (v := vb ((decide ((a0.L.length : Int) ≤ 40)) && (decide ((a0.Wait.length : Int) ≤ 40)))) rfl <| wpl_cut 5 [57, 58, 59, 60, 61] (fun f' w' => w' = w10 ∧ AllAt f' [(61, vb (((decide ((a0.L.length : Int) ≤ 40)) && (decide ((a0.Wait.length : Int) ≤ 40))) && (decide ((a0.Hide.length : Int) ≤ 60))))]) ?_ ?_
 · rcases bool_tf ((decide ((a0.L.length : Int) ≤ 40)) && (decide ((a0.Wait.length : Int) ≤ 40))) with hb4 | hb4
   · exact wpl_yes (d := 56) rfl rfl (congrArg Value.bool hb4) <| s_fld (n := 0) rfl Try.underlying26 rfl rfl Try.sizeOf24 <| wpl_yes (d := 56) rfl rfl (congrArg Value.bool hb4) <| s_ld (i := 0) (cs := [a0v4]) S7 rfl rfl Try.isAgg24 Try.sizeOf24 rfl (fun _ => rfl) <| wpl_yes (d := 56) rfl rfl (congrArg Value.bool hb4) <| s_lenR (xs := a0.Hide) rfl a0h4 Try.underlying24 <| wpl_yes (d := 56) rfl rfl (congrArg Value.bool hb4) <| s_leq (m := (a0.Hide.length : Int)) (n := 60) rfl rfl <| s_pickT (congrArg Value.bool hb4) rfl <| wpl_nil (nrm ⟨outP, rfl, congrArg Value.bool (and_t hb4), trivial⟩)
   · exact wpl_no (d := 56) rfl rfl (congrArg Value.bool hb4) <| wpl_no (d := 56) rfl rfl (congrArg Value.bool hb4) <| wpl_no (d := 56) rfl rfl (congrArg Value.bool hb4) <| wpl_no (d := 56) rfl rfl (congrArg Value.bool hb4) <| s_pickF (congrArg Value.bool hb4) rfl <| wpl_nil (nrm ⟨outP, rfl, congrArg Value.bool (and_f hb4), trivial⟩)
 rintro f10 w11 ho ⟨h10, ha⟩
 subst h10
 obtain ⟨u10, rfl⟩ := fr_of (N := 66) ho ha
 refine s_mvv (v := vb (((decide ((a0.L.length : Int) ≤ 40)) && (decide ((a0.Wait.length : Int) ≤ 40))) && (decide ((a0.Hide.length : Int) ≤ 60)))) rfl <| wpl_cut 3 [63, 64, 65] (fun f' w' => w' = w11 ∧ AllAt f' [(65, vb ((((decide ((a0.L.length : Int) ≤ 40)) && (decide ((a0.Wait.length : Int) ≤ 40))) && (decide ((a0.Hide.length : Int) ≤ 60))) && (decide (x6 ≤ 20000))))]) ?_ ?_
 · rcases bool_tf (((decide ((a0.L.length : Int) ≤ 40)) && (decide ((a0.Wait.length : Int) ≤ 40))) && (decide ((a0.Hide.length : Int) ≤ 60))) with hb5 | hb5
   · exact wpl_yes (d := 62) rfl rfl (congrArg Value.bool hb5) <| s_mvv (v := vI x6) rfl <| wpl_yes (d := 62) rfl rfl (congrArg Value.bool hb5) <| s_leq (m := x6) (n := 20000) rfl rfl <| s_pickT (congrArg Value.bool hb5) rfl <| wpl_nil (nrm ⟨outP, rfl, congrArg Value.bool (and_t hb5), trivial⟩)
   · exact wpl_no (d := 62) rfl rfl (congrArg Value.bool hb5) <| wpl_no (d := 62) rfl rfl (congrArg Value.bool hb5) <| s_pickF (congrArg Value.bool hb5) rfl <| wpl_nil (nrm ⟨outP, rfl, congrArg Value.bool (and_f hb5), trivial⟩)
 rintro f11 w12 ho ⟨h11, ha⟩
 subst h11
 obtain ⟨u11, rfl⟩ := fr_of (N := 66) ho ha
 obtain ⟨x11, q17, hm⟩ := bnd_eq hm
 refine s_asv (v := vb x11) (congrArg (fun z => vb z) q17.symm) <| wpl_nil <| nrm <| wpc_ret <| outRw fun we hpd => ?_
 replace S7 := St.pd S7 hpd
 obtain ⟨m9, l5, S8⟩ := St.drop S7 0
 replace L0 := Mem.tr L0 l5
 clear S7
 replace S8 : St _ (As) _ := S8
 have e0 := Option.some.inj hm
 subst e0
 exact outR [_] rfl ⟨rfl, trivial⟩ ⟨_, L0, S8, rfl⟩

def m_law24_few (a0 : g_api_Log) (a1 : List UInt8) : Option Bool :=
  obind (m_ref24_Few a0) fun x1 =>
  bnd ((x1 && (decide ((a1.length : Int) ≤ 3000)))) fun x2 =>
  some x2

theorem w_law24_few {m : Mem} {As : List Ow} {w : World} {a0 : g_api_Log} {a0v3 : Value} {a0v4 : Value} {a0v5 : Value} {a1 : List UInt8} {a1v0 : Value} {r : Bool} (S : St m (As) w) (a0h3 : SlR m a0v3 a0.L) (a0h4 : SlR m a0v4 a0.Hide) (a0h5 : SlR m a0v5 a0.Wait) (a1h0 : SlR m a1v0 a1) (hm : m_law24_few a0 a1 = some r) :
    CallsR Try.prog 8 #[.agg #[vI a0.Id, vU a0.Key, vI a0.Delay, a0v3, a0v4, a0v5], a1v0] w fun v w' => ∃ (M : Mem), m ≤ M ∧ St M (As) w' ∧ v = vb r := by
 unfold m_law24_few at hm
 have L0 := Mem.rfl' m
 refine callsR (args := [.agg #[vI a0.Id, vU a0.Key, vI a0.Delay, a0v3, a0v4, a0v5], a1v0]) Try.func8 rfl Try.ntmps8 (Nat.le_of_ble_eq_true rfl) <| wpc_seq <| wpc_region <| s_box S rfl fun b1 w1 S1 => ?_
 replace S1 : St _ ((bx b1 [vI a0.Id, vU a0.Key, vI a0.Delay, a0v3, a0v4, a0v5] 26) :: As) _ := S1
 clear S
 refine s_asv (v := vb false) rfl <| wpl_nil <| nrm <| wpc_seq <| wpc_region <| s_ld (i := 0) (cs := [vI a0.Id, vU a0.Key, vI a0.Delay, a0v3, a0v4, a0v5]) S1 rfl rfl Try.isAgg26 Try.sizeOf26 rfl (fun h => by cases h) ?_
 obtain ⟨x1, q1, hm⟩ := obind_some hm
 refine s_call Try.call22 (w_ref24_Few (a0 := a0) S1 a0h3 a0h4 a0h5 q1) rfl ?_
 rintro _ w2 ⟨m1, l1, S2, rfl⟩
 replace a1h0 := a1h0.up l1
 replace L0 := Mem.tr L0 l1
 clear S1
 refine s_mvv (v := vb x1) rfl <| wpl_cut 4 [8, 9, 10, 11] (fun f' w' => w' = w2 ∧ AllAt f' [(11, vb (x1 && (decide ((a1.length : Int) ≤ 3000))))]) ?_ ?_
 · rcases bool_tf x1 with hb1 | hb1
   · exact wpl_yes (d := 7) rfl rfl (congrArg Value.bool hb1) <| s_mvv (v := a1v0) rfl <| wpl_yes (d := 7) rfl rfl (congrArg Value.bool hb1) <| s_lenR (xs := a1) rfl a1h0 Try.underlying27 <| wpl_yes (d := 7) rfl rfl (congrArg Value.bool hb1) <| s_leq (m := (a1.length : Int)) (n := 3000) rfl rfl <| s_pickT (congrArg Value.bool hb1) rfl <| wpl_nil (nrm ⟨outP, rfl, congrArg Value.bool (and_t hb1), trivial⟩)
   · exact wpl_no (d := 7) rfl rfl (congrArg Value.bool hb1) <| wpl_no (d := 7) rfl rfl (congrArg Value.bool hb1) <| wpl_no (d := 7) rfl rfl (congrArg Value.bool hb1) <| s_pickF (congrArg Value.bool hb1) rfl <| wpl_nil (nrm ⟨outP, rfl, congrArg Value.bool (and_f hb1), trivial⟩)
 rintro f1 w3 ho ⟨h1, ha⟩
 subst h1
 obtain ⟨u1, rfl⟩ := fr_of (N := 12) ho ha
 obtain ⟨x2, q2, hm⟩ := bnd_eq hm
 refine s_asv (v := vb x2) (congrArg (fun z => vb z) q2.symm) <| wpl_nil <| nrm <| wpc_ret <| outRw fun we hpd => ?_
 replace S2 := St.pd S2 hpd
 obtain ⟨m2, l2, S3⟩ := St.drop S2 0
 replace L0 := Mem.tr L0 l2
 clear S2
 replace S3 : St _ (As) _ := S3
 have e0 := Option.some.inj hm
 subst e0
 exact outR [_] rfl ⟨rfl, trivial⟩ ⟨_, L0, S3, rfl⟩

def m_law24_live  : Option Bool :=
  obind (m_logd_New 3 ([115, 101, 101, 100] : List UInt8) 20) fun x1 =>
  obind (m_logd_Public x1.1) fun x2 =>
  obind (m_logd_Add x1.1 ([97] : List UInt8) 5) fun x3 =>
  obind (m_logd_Add x3.1 ([98] : List UInt8) 6) fun x4 =>
  obind (m_logd_Merge x4.1) fun x5 =>
  obind (m_logd_Hide x5.1) fun x6 =>
  if (((((((((x1.2 != 0) || (x2.2 != 0)) || (x3.2.2 != 0)) || (x4.2.2 != 0)) || (x5.2 != 0)) || (x6.2 != 0)) || ((x6.1.L.length : Int) != 2)) || ((x6.1.Wait.length : Int) != 0)) || ((x6.1.Hide.length : Int) != 1)) = true then
    some false
  else
  obind (m_logd_Head x6.1 0 1 9) fun x7 =>
  obind (m_logd_Head x6.1 1 1 9) fun x8 =>
  obind (m_logd_Leaves x6.1 1) fun x9 =>
  obind (m_logd_Leaves x6.1 2) fun x10 =>
  obind (m_logd_Head x6.1 0 3 9) fun x11 =>
  if ((((x7.2 != 0) || (x8.2 != 0)) || (x9.2 != 0)) || ((x9.1.length : Int) != 2)) = true then
    some false
  else
  obind (gu ((((x2.1.Log == 3) && (x2.1.Delay == 20)) && (x3.2.1.Log == 3)) && (x3.2.1.At == 5)) (m_merkle_Leaf ([97] : List UInt8))) fun x12 =>
  obind (gu (((((x2.1.Log == 3) && (x2.1.Delay == 20)) && (x3.2.1.Log == 3)) && (x3.2.1.At == 5)) && (eqSum x3.2.1.Leaf x12)) (m_logd_CheckPromise x2.1 x3.2.1)) fun x13 =>
  obind (gu (((((((x2.1.Log == 3) && (x2.1.Delay == 20)) && (x3.2.1.Log == 3)) && (x3.2.1.At == 5)) && (eqSum x3.2.1.Leaf x12)) && (x13 == 0)) && (eq_api_Head x7.1 x8.1)) (m_logd_CheckHead x2.1 x7.1)) fun x14 =>
  obind (gu ((((((((x2.1.Log == 3) && (x2.1.Delay == 20)) && (x3.2.1.Log == 3)) && (x3.2.1.At == 5)) && (eqSum x3.2.1.Leaf x12)) && (x13 == 0)) && (eq_api_Head x7.1 x8.1)) && (x14 == 0)) (idx x9.1 0)) fun x15 =>
  obind (gu ((((((((x2.1.Log == 3) && (x2.1.Delay == 20)) && (x3.2.1.Log == 3)) && (x3.2.1.At == 5)) && (eqSum x3.2.1.Leaf x12)) && (x13 == 0)) && (eq_api_Head x7.1 x8.1)) && (x14 == 0)) (m_merkle_Leaf ([97] : List UInt8))) fun x16 =>
  obind (gu (((((((((x2.1.Log == 3) && (x2.1.Delay == 20)) && (x3.2.1.Log == 3)) && (x3.2.1.At == 5)) && (eqSum x3.2.1.Leaf x12)) && (x13 == 0)) && (eq_api_Head x7.1 x8.1)) && (x14 == 0)) && (eqSum x15 x16)) (idx x9.1 1)) fun x17 =>
  obind (gu (((((((((x2.1.Log == 3) && (x2.1.Delay == 20)) && (x3.2.1.Log == 3)) && (x3.2.1.At == 5)) && (eqSum x3.2.1.Leaf x12)) && (x13 == 0)) && (eq_api_Head x7.1 x8.1)) && (x14 == 0)) && (eqSum x15 x16)) (m_merkle_Leaf ([0, 98] : List UInt8))) fun x18 =>
  obind (
    if ((((((((((((x2.1.Log == 3) && (x2.1.Delay == 20)) && (x3.2.1.Log == 3)) && (x3.2.1.At == 5)) && (eqSum x3.2.1.Leaf x12)) && (x13 == 0)) && (eq_api_Head x7.1 x8.1)) && (x14 == 0)) && (eqSum x15 x16)) && (eqSum x17 x18)) && (x10.2 == 240)) && (x11.2 == 80)) = true then
      obind (m_logd_Check (⟨0, 0, 0, [], [], []⟩ : g_api_Log)) fun x21 =>
      some (x21 == 1)
    else
    some false
  ) fun x20 =>
  some x20

theorem w_law24_live {m : Mem} {As : List Ow} {w : World}  {r : Bool} (S : St m (As) w) (hm : m_law24_live = some r) :
    CallsR Try.prog 7 #[] w fun v w' => ∃ (M : Mem), m ≤ M ∧ St M (As) w' ∧ v = vb r := by
 unfold m_law24_live at hm
 have L0 := Mem.rfl' m
 refine callsR (args := []) Try.func7 rfl Try.ntmps7 (Nat.le_of_ble_eq_true rfl) <| wpc_seq <| wpc_region <| s_asv (v := vb false) rfl <| wpl_nil <| nrm <| wpc_seq <| wpc_region <| s_litOC (parts := [.const (.int .u8 115), .const (.int .u8 101), .const (.int .u8 101), .const (.int .u8 100)]) (vs := [vB 115, vB 101, vB 101, vB 100]) (cls := [[vB 115], [vB 101], [vB 101], [vB 100]]) (n := 4) (sz := 1) S Try.underlying27 Try.sizeOf5 Try.zeroValue5 rfl ⟨rfl, rfl, rfl, rfl, trivial⟩ rfl rfl (by decide) (by decide) fun v1 w1 S1 => ?_
 have h1 : RepL m [vB 115, vB 101, vB 101, vB 100] ([115, 101, 101, 100] : List UInt8) := (RepL.cons (c := [vB 115]) (x := 115) rfl (RepL.cons (c := [vB 101]) (x := 101) rfl (RepL.cons (c := [vB 101]) (x := 101) rfl (RepL.cons (c := [vB 100]) (x := 100) rfl RepL.nil))))
 replace S1 : St _ ((row 1 v1 [vB 115, vB 101, vB 101, vB 100] ([115, 101, 101, 100] : List UInt8).length) :: As) _ := S1
 clear S
 refine s_mark (i := 0) S1 rfl rfl (Nat.le_of_ble_eq_true rfl) Try.underlying27 Try.underlying5 fun w2 S2 => ?_
 clear S1
 obtain ⟨m1, l1, h2, S3⟩ := St.rowKeepT (i := 0) S2 rfl h1 rfl
 replace L0 := Mem.tr L0 l1
 clear S2
 obtain ⟨x1, q1, hm⟩ := obind_some hm
 refine s_call Try.call21 (w_logd_New (a0 := 3) (a1 := ([115, 101, 101, 100] : List UInt8)) (a2 := 20) S3 h2 q1) rfl ?_
 rintro _ w3 ⟨m2, l2, v2, v3, v4, S4, rfl, h3, h4, h5⟩
 replace L0 := Mem.tr L0 l2
 clear S3
 refine s_mvv (v := .tuple #[.agg #[vI x1.1.Id, vU x1.1.Key, vI x1.1.Delay, v2, v3, v4], vI x1.2]) rfl <| s_ext (i := 0) rfl rfl <| s_ext (i := 1) rfl rfl <| s_alloc S4 Try.zeroValue26 fun b1 w4 S5 => ?_
 replace S5 : St _ ((bx b1 [vI 0, vU 0, vI 0, .slice none 0 0, .slice none 0 0, .slice none 0 0] 26) :: As) _ := S5
 clear S4
 refine s_stL (i := 0) S5 rfl rfl rfl Try.sizeOf26 (oneC rfl (oneC rfl (oneC rfl (oneC (SlR.one h3) (oneC (SlR.one h4) (oneC (SlR.one h5) oneN)))))) rfl fun w5 S6 => ?_
 replace S6 : St _ ((bx b1 [vI x1.1.Id, vU x1.1.Key, vI x1.1.Delay, v2, v3, v4] 26) :: As) _ := S6
 clear S5
 refine s_asv (v := vI x1.2) rfl <| wpl_nil <| nrm <| wpc_seq <| wpc_region <| s_ld (i := 0) (cs := [vI x1.1.Id, vU x1.1.Key, vI x1.1.Delay, v2, v3, v4]) S6 rfl rfl Try.isAgg26 Try.sizeOf26 rfl (fun h => by cases h) ?_
 obtain ⟨x2, q2, hm⟩ := obind_some hm
 refine s_call Try.call10 (w_logd_Public (a0 := x1.1) S6 h3 h4 h5 q2) rfl ?_
 rintro _ w6 ⟨m3, l3, S7, rfl⟩
 replace h3 := h3.up l3
 replace h4 := h4.up l3
 replace h5 := h5.up l3
 replace L0 := Mem.tr L0 l3
 clear S6
 refine s_mvv (v := .tuple #[.agg #[vI x2.1.Log, vU x2.1.Key, vI x2.1.Delay], vI x2.2]) rfl <| s_ext (i := 0) rfl rfl <| s_ext (i := 1) rfl rfl <| s_alloc S7 Try.zeroValue40 fun b2 w7 S8 => ?_
 replace S8 : St _ ((bx b2 [vI 0, vU 0, vI 0] 40) :: (bx b1 [vI x1.1.Id, vU x1.1.Key, vI x1.1.Delay, v2, v3, v4] 26) :: As) _ := S8
 clear S7
 refine s_stL (i := 0) S8 rfl rfl rfl Try.sizeOf40 (oneC rfl (oneC rfl (oneC rfl oneN))) rfl fun w8 S9 => ?_
 replace S9 : St _ ((bx b2 [vI x2.1.Log, vU x2.1.Key, vI x2.1.Delay] 40) :: (bx b1 [vI x1.1.Id, vU x1.1.Key, vI x1.1.Delay, v2, v3, v4] 26) :: As) _ := S9
 clear S8
 refine s_asv (v := vI x2.2) rfl <| wpl_nil <| nrm <| wpc_seq <| wpc_region <| s_ld (i := 1) (cs := [vI x1.1.Id, vU x1.1.Key, vI x1.1.Delay, v2, v3, v4]) S9 rfl rfl Try.isAgg26 Try.sizeOf26 rfl (fun h => by cases h) <| s_litOC (parts := [.const (.int .u8 97)]) (vs := [vB 97]) (cls := [[vB 97]]) (n := 1) (sz := 1) S9 Try.underlying27 Try.sizeOf5 Try.zeroValue5 rfl ⟨rfl, trivial⟩ rfl rfl (by decide) (by decide) fun v5 w9 S10 => ?_
 have h6 : RepL m3 [vB 97] ([97] : List UInt8) := (RepL.cons (c := [vB 97]) (x := 97) rfl RepL.nil)
 replace S10 : St _ ((row 1 v5 [vB 97] ([97] : List UInt8).length) :: (bx b2 [vI x2.1.Log, vU x2.1.Key, vI x2.1.Delay] 40) :: (bx b1 [vI x1.1.Id, vU x1.1.Key, vI x1.1.Delay, v2, v3, v4] 26) :: As) _ := S10
 clear S9
 refine s_mark (i := 0) S10 rfl rfl (Nat.le_of_ble_eq_true rfl) Try.underlying27 Try.underlying5 fun w10 S11 => ?_
 clear S10
 obtain ⟨m4, l4, h7, S12⟩ := St.rowKeepT (i := 0) S11 rfl h6 rfl
 replace h3 := h3.up l4
 replace h4 := h4.up l4
 replace h5 := h5.up l4
 replace L0 := Mem.tr L0 l4
 clear S11
 obtain ⟨x3, q3, hm⟩ := obind_some hm
 refine s_call Try.call9 (w_logd_Add (a0 := x1.1) (a1 := ([97] : List UInt8)) (a2 := 5) S12 h3 h4 h5 h7 q3) rfl ?_
 rintro _ w11 ⟨m5, l5, v6, v7, v8, S13, rfl, h8, h9, h10⟩
 replace L0 := Mem.tr L0 l5
 clear S12
 refine s_mvv (v := .tuple #[.agg #[vI x3.1.Id, vU x3.1.Key, vI x3.1.Delay, v6, v7, v8], .agg #[vI x3.2.1.Log, vI x3.2.1.At, vU x3.2.1.Leaf.1, vU x3.2.1.Leaf.2, vU x3.2.1.Sig.E, vU x3.2.1.Sig.S], vI x3.2.2]) rfl <| s_ext (i := 0) rfl rfl <| s_ext (i := 1) rfl rfl <| s_ext (i := 2) rfl rfl <| s_alloc S13 Try.zeroValue35 fun b3 w12 S14 => ?_
 replace S14 : St _ ((bx b3 [vI 0, vI 0, vU 0, vU 0, vU 0, vU 0] 35) :: (bx b2 [vI x2.1.Log, vU x2.1.Key, vI x2.1.Delay] 40) :: (bx b1 [vI x1.1.Id, vU x1.1.Key, vI x1.1.Delay, v2, v3, v4] 26) :: As) _ := S14
 clear S13
 refine s_stL (i := 2) S14 rfl rfl rfl Try.sizeOf26 (oneC rfl (oneC rfl (oneC rfl (oneC (SlR.one h8) (oneC (SlR.one h9) (oneC (SlR.one h10) oneN)))))) rfl fun w13 S15 => ?_
 replace S15 : St _ ((bx b3 [vI 0, vI 0, vU 0, vU 0, vU 0, vU 0] 35) :: (bx b2 [vI x2.1.Log, vU x2.1.Key, vI x2.1.Delay] 40) :: (bx b1 [vI x3.1.Id, vU x3.1.Key, vI x3.1.Delay, v6, v7, v8] 26) :: As) _ := S15
 clear S14
 refine s_stL (i := 0) S15 rfl rfl rfl Try.sizeOf35 (oneC rfl (oneC rfl (oneC rfl (oneC rfl (oneC rfl (oneC rfl oneN)))))) rfl fun w14 S16 => ?_
 replace S16 : St _ ((bx b3 [vI x3.2.1.Log, vI x3.2.1.At, vU x3.2.1.Leaf.1, vU x3.2.1.Leaf.2, vU x3.2.1.Sig.E, vU x3.2.1.Sig.S] 35) :: (bx b2 [vI x2.1.Log, vU x2.1.Key, vI x2.1.Delay] 40) :: (bx b1 [vI x3.1.Id, vU x3.1.Key, vI x3.1.Delay, v6, v7, v8] 26) :: As) _ := S16
 clear S15
 refine s_asv (v := vI x3.2.2) rfl <| wpl_nil <| nrm <| wpc_seq <| wpc_region <| s_ld (i := 2) (cs := [vI x3.1.Id, vU x3.1.Key, vI x3.1.Delay, v6, v7, v8]) S16 rfl rfl Try.isAgg26 Try.sizeOf26 rfl (fun h => by cases h) <| s_litOC (parts := [.const (.int .u8 98)]) (vs := [vB 98]) (cls := [[vB 98]]) (n := 1) (sz := 1) S16 Try.underlying27 Try.sizeOf5 Try.zeroValue5 rfl ⟨rfl, trivial⟩ rfl rfl (by decide) (by decide) fun v9 w15 S17 => ?_
 have h11 : RepL m5 [vB 98] ([98] : List UInt8) := (RepL.cons (c := [vB 98]) (x := 98) rfl RepL.nil)
 replace S17 : St _ ((row 1 v9 [vB 98] ([98] : List UInt8).length) :: (bx b3 [vI x3.2.1.Log, vI x3.2.1.At, vU x3.2.1.Leaf.1, vU x3.2.1.Leaf.2, vU x3.2.1.Sig.E, vU x3.2.1.Sig.S] 35) :: (bx b2 [vI x2.1.Log, vU x2.1.Key, vI x2.1.Delay] 40) :: (bx b1 [vI x3.1.Id, vU x3.1.Key, vI x3.1.Delay, v6, v7, v8] 26) :: As) _ := S17
 clear S16
 refine s_mark (i := 0) S17 rfl rfl (Nat.le_of_ble_eq_true rfl) Try.underlying27 Try.underlying5 fun w16 S18 => ?_
 clear S17
 obtain ⟨m6, l6, h12, S19⟩ := St.rowKeepT (i := 0) S18 rfl h11 rfl
 replace h8 := h8.up l6
 replace h9 := h9.up l6
 replace h10 := h10.up l6
 replace L0 := Mem.tr L0 l6
 clear S18
 obtain ⟨x4, q4, hm⟩ := obind_some hm
 refine s_call Try.call9 (w_logd_Add (a0 := x3.1) (a1 := ([98] : List UInt8)) (a2 := 6) S19 h8 h9 h10 h12 q4) rfl ?_
 rintro _ w17 ⟨m7, l7, v10, v11, v12, S20, rfl, h13, h14, h15⟩
 replace L0 := Mem.tr L0 l7
 clear S19
 refine s_mvv (v := .tuple #[.agg #[vI x4.1.Id, vU x4.1.Key, vI x4.1.Delay, v10, v11, v12], .agg #[vI x4.2.1.Log, vI x4.2.1.At, vU x4.2.1.Leaf.1, vU x4.2.1.Leaf.2, vU x4.2.1.Sig.E, vU x4.2.1.Sig.S], vI x4.2.2]) rfl <| s_ext (i := 0) rfl rfl <| s_ext (i := 1) rfl rfl <| s_ext (i := 2) rfl rfl <| s_alloc S20 Try.zeroValue35 fun b4 w18 S21 => ?_
 replace S21 : St _ ((bx b4 [vI 0, vI 0, vU 0, vU 0, vU 0, vU 0] 35) :: (bx b3 [vI x3.2.1.Log, vI x3.2.1.At, vU x3.2.1.Leaf.1, vU x3.2.1.Leaf.2, vU x3.2.1.Sig.E, vU x3.2.1.Sig.S] 35) :: (bx b2 [vI x2.1.Log, vU x2.1.Key, vI x2.1.Delay] 40) :: (bx b1 [vI x3.1.Id, vU x3.1.Key, vI x3.1.Delay, v6, v7, v8] 26) :: As) _ := S21
 clear S20
 refine s_stL (i := 3) S21 rfl rfl rfl Try.sizeOf26 (oneC rfl (oneC rfl (oneC rfl (oneC (SlR.one h13) (oneC (SlR.one h14) (oneC (SlR.one h15) oneN)))))) rfl fun w19 S22 => ?_
 replace S22 : St _ ((bx b4 [vI 0, vI 0, vU 0, vU 0, vU 0, vU 0] 35) :: (bx b3 [vI x3.2.1.Log, vI x3.2.1.At, vU x3.2.1.Leaf.1, vU x3.2.1.Leaf.2, vU x3.2.1.Sig.E, vU x3.2.1.Sig.S] 35) :: (bx b2 [vI x2.1.Log, vU x2.1.Key, vI x2.1.Delay] 40) :: (bx b1 [vI x4.1.Id, vU x4.1.Key, vI x4.1.Delay, v10, v11, v12] 26) :: As) _ := S22
 clear S21
 refine s_stL (i := 0) S22 rfl rfl rfl Try.sizeOf35 (oneC rfl (oneC rfl (oneC rfl (oneC rfl (oneC rfl (oneC rfl oneN)))))) rfl fun w20 S23 => ?_
 replace S23 : St _ ((bx b4 [vI x4.2.1.Log, vI x4.2.1.At, vU x4.2.1.Leaf.1, vU x4.2.1.Leaf.2, vU x4.2.1.Sig.E, vU x4.2.1.Sig.S] 35) :: (bx b3 [vI x3.2.1.Log, vI x3.2.1.At, vU x3.2.1.Leaf.1, vU x3.2.1.Leaf.2, vU x3.2.1.Sig.E, vU x3.2.1.Sig.S] 35) :: (bx b2 [vI x2.1.Log, vU x2.1.Key, vI x2.1.Delay] 40) :: (bx b1 [vI x4.1.Id, vU x4.1.Key, vI x4.1.Delay, v10, v11, v12] 26) :: As) _ := S23
 clear S22
 refine s_asv (v := vI x4.2.2) rfl <| wpl_nil <| nrm <| wpc_seq <| wpc_region <| s_ld (i := 3) (cs := [vI x4.1.Id, vU x4.1.Key, vI x4.1.Delay, v10, v11, v12]) S23 rfl rfl Try.isAgg26 Try.sizeOf26 rfl (fun h => by cases h) ?_
 obtain ⟨x5, q5, hm⟩ := obind_some hm
 refine s_call Try.call11 (w_logd_Merge (a0 := x4.1) S23 h13 h14 h15 q5) rfl ?_
 rintro _ w21 ⟨m8, l8, v13, v14, v15, S24, rfl, h16, h17, h18⟩
 replace h13 := h13.up l8
 replace h14 := h14.up l8
 replace h15 := h15.up l8
 replace L0 := Mem.tr L0 l8
 clear S23
 refine s_mvv (v := .tuple #[.agg #[vI x5.1.Id, vU x5.1.Key, vI x5.1.Delay, v13, v14, v15], vI x5.2]) rfl <| s_ext (i := 0) rfl rfl <| s_ext (i := 1) rfl rfl <| s_alloc S24 Try.zeroValue26 fun b5 w22 S25 => ?_
 replace S25 : St _ ((bx b5 [vI 0, vU 0, vI 0, .slice none 0 0, .slice none 0 0, .slice none 0 0] 26) :: (bx b4 [vI x4.2.1.Log, vI x4.2.1.At, vU x4.2.1.Leaf.1, vU x4.2.1.Leaf.2, vU x4.2.1.Sig.E, vU x4.2.1.Sig.S] 35) :: (bx b3 [vI x3.2.1.Log, vI x3.2.1.At, vU x3.2.1.Leaf.1, vU x3.2.1.Leaf.2, vU x3.2.1.Sig.E, vU x3.2.1.Sig.S] 35) :: (bx b2 [vI x2.1.Log, vU x2.1.Key, vI x2.1.Delay] 40) :: (bx b1 [vI x4.1.Id, vU x4.1.Key, vI x4.1.Delay, v10, v11, v12] 26) :: As) _ := S25
 clear S24
 refine s_stL (i := 0) S25 rfl rfl rfl Try.sizeOf26 (oneC rfl (oneC rfl (oneC rfl (oneC (SlR.one h16) (oneC (SlR.one h17) (oneC (SlR.one h18) oneN)))))) rfl fun w23 S26 => ?_
 replace S26 : St _ ((bx b5 [vI x5.1.Id, vU x5.1.Key, vI x5.1.Delay, v13, v14, v15] 26) :: (bx b4 [vI x4.2.1.Log, vI x4.2.1.At, vU x4.2.1.Leaf.1, vU x4.2.1.Leaf.2, vU x4.2.1.Sig.E, vU x4.2.1.Sig.S] 35) :: (bx b3 [vI x3.2.1.Log, vI x3.2.1.At, vU x3.2.1.Leaf.1, vU x3.2.1.Leaf.2, vU x3.2.1.Sig.E, vU x3.2.1.Sig.S] 35) :: (bx b2 [vI x2.1.Log, vU x2.1.Key, vI x2.1.Delay] 40) :: (bx b1 [vI x4.1.Id, vU x4.1.Key, vI x4.1.Delay, v10, v11, v12] 26) :: As) _ := S26
 clear S25
 refine s_asv (v := vI x5.2) rfl <| wpl_nil <| nrm <| wpc_seq <| wpc_region <| s_ld (i := 0) (cs := [vI x5.1.Id, vU x5.1.Key, vI x5.1.Delay, v13, v14, v15]) S26 rfl rfl Try.isAgg26 Try.sizeOf26 rfl (fun h => by cases h) ?_
 obtain ⟨x6, q6, hm⟩ := obind_some hm
 refine s_call Try.call18 (w_logd_Hide (a0 := x5.1) S26 h16 h17 h18 q6) rfl ?_
 rintro _ w24 ⟨m9, l9, v16, v17, v18, S27, rfl, h19, h20, h21⟩
 replace h13 := h13.up l9
 replace h14 := h14.up l9
 replace h15 := h15.up l9
 replace L0 := Mem.tr L0 l9
 clear S26
 refine s_mvv (v := .tuple #[.agg #[vI x6.1.Id, vU x6.1.Key, vI x6.1.Delay, v16, v17, v18], vI x6.2]) rfl <| s_ext (i := 0) rfl rfl <| s_ext (i := 1) rfl rfl <| s_stL (i := 0) S27 rfl rfl rfl Try.sizeOf26 (oneC rfl (oneC rfl (oneC rfl (oneC (SlR.one h19) (oneC (SlR.one h20) (oneC (SlR.one h21) oneN)))))) rfl fun w25 S28 => ?_
 replace S28 : St _ ((bx b5 [vI x6.1.Id, vU x6.1.Key, vI x6.1.Delay, v16, v17, v18] 26) :: (bx b4 [vI x4.2.1.Log, vI x4.2.1.At, vU x4.2.1.Leaf.1, vU x4.2.1.Leaf.2, vU x4.2.1.Sig.E, vU x4.2.1.Sig.S] 35) :: (bx b3 [vI x3.2.1.Log, vI x3.2.1.At, vU x3.2.1.Leaf.1, vU x3.2.1.Leaf.2, vU x3.2.1.Sig.E, vU x3.2.1.Sig.S] 35) :: (bx b2 [vI x2.1.Log, vU x2.1.Key, vI x2.1.Delay] 40) :: (bx b1 [vI x4.1.Id, vU x4.1.Key, vI x4.1.Delay, v10, v11, v12] 26) :: As) _ := S28
 clear S27
 refine s_asv (v := vI x6.2) rfl <| wpl_nil <| nrm <| wpc_seq <| wpc_seq <| wpc_region <| s_mvv (v := vI x1.2) rfl <| s_neq (m := x1.2) (n := 0) rfl rfl <| s_mvv (v := vb (x1.2 != 0)) rfl <| wpl_cut 3 [62, 63, 64] (fun f' w' => w' = w25 ∧ AllAt f' [(64, vb ((x1.2 != 0) || (x2.2 != 0)))]) ?_ ?_
 · rcases bool_tf (x1.2 != 0) with hb1 | hb1
   · exact wpl_no (d := 61) rfl rfl (congrArg Value.bool hb1) <| wpl_no (d := 61) rfl rfl (congrArg Value.bool hb1) <| s_pickT (congrArg Value.bool hb1) rfl <| wpl_nil (nrm ⟨outP, rfl, congrArg Value.bool (or_t hb1), trivial⟩)
   · exact wpl_yes (d := 61) rfl rfl (congrArg Value.bool hb1) <| s_mvv (v := vI x2.2) rfl <| wpl_yes (d := 61) rfl rfl (congrArg Value.bool hb1) <| s_neq (m := x2.2) (n := 0) rfl rfl <| s_pickF (congrArg Value.bool hb1) rfl <| wpl_nil (nrm ⟨outP, rfl, congrArg Value.bool (or_f hb1), trivial⟩)
 rintro f1 w26 ho ⟨h22, ha⟩
 subst h22
 obtain ⟨u1, rfl⟩ := fr_of (N := 212) ho ha
 refine s_mvv (v := vb ((x1.2 != 0) || (x2.2 != 0))) rfl <| wpl_cut 3 [66, 67, 68] (fun f' w' => w' = w26 ∧ AllAt f' [(68, vb (((x1.2 != 0) || (x2.2 != 0)) || (x3.2.2 != 0)))]) ?_ ?_
 · rcases bool_tf ((x1.2 != 0) || (x2.2 != 0)) with hb2 | hb2
   · exact wpl_no (d := 65) rfl rfl (congrArg Value.bool hb2) <| wpl_no (d := 65) rfl rfl (congrArg Value.bool hb2) <| s_pickT (congrArg Value.bool hb2) rfl <| wpl_nil (nrm ⟨outP, rfl, congrArg Value.bool (or_t hb2), trivial⟩)
   · exact wpl_yes (d := 65) rfl rfl (congrArg Value.bool hb2) <| s_mvv (v := vI x3.2.2) rfl <| wpl_yes (d := 65) rfl rfl (congrArg Value.bool hb2) <| s_neq (m := x3.2.2) (n := 0) rfl rfl <| s_pickF (congrArg Value.bool hb2) rfl <| wpl_nil (nrm ⟨outP, rfl, congrArg Value.bool (or_f hb2), trivial⟩)
 rintro f2 w27 ho ⟨h23, ha⟩
 subst h23
 obtain ⟨u2, rfl⟩ := fr_of (N := 212) ho ha
 refine s_mvv (v := vb (((x1.2 != 0) || (x2.2 != 0)) || (x3.2.2 != 0))) rfl <| wpl_cut 3 [70, 71, 72] (fun f' w' => w' = w27 ∧ AllAt f' [(72, vb ((((x1.2 != 0) || (x2.2 != 0)) || (x3.2.2 != 0)) || (x4.2.2 != 0)))]) ?_ ?_
 · rcases bool_tf (((x1.2 != 0) || (x2.2 != 0)) || (x3.2.2 != 0)) with hb3 | hb3
   · exact wpl_no (d := 69) rfl rfl (congrArg Value.bool hb3) <| wpl_no (d := 69) rfl rfl (congrArg Value.bool hb3) <| s_pickT (congrArg Value.bool hb3) rfl <| wpl_nil (nrm ⟨outP, rfl, congrArg Value.bool (or_t hb3), trivial⟩)
   · exact wpl_yes (d := 69) rfl rfl (congrArg Value.bool hb3) <| s_mvv (v := vI x4.2.2) rfl <| wpl_yes (d := 69) rfl rfl (congrArg Value.bool hb3) <| s_neq (m := x4.2.2) (n := 0) rfl rfl <| s_pickF (congrArg Value.bool hb3) rfl <| wpl_nil (nrm ⟨outP, rfl, congrArg Value.bool (or_f hb3), trivial⟩)
 rintro f3 w28 ho ⟨h24, ha⟩
 subst h24
 obtain ⟨u3, rfl⟩ := fr_of (N := 212) ho ha
 refine s_mvv (v := vb ((((x1.2 != 0) || (x2.2 != 0)) || (x3.2.2 != 0)) || (x4.2.2 != 0))) rfl <| wpl_cut 3 [74, 75, 76] (fun f' w' => w' = w28 ∧ AllAt f' [(76, vb (((((x1.2 != 0) || (x2.2 != 0)) || (x3.2.2 != 0)) || (x4.2.2 != 0)) || (x5.2 != 0)))]) ?_ ?_
 · rcases bool_tf ((((x1.2 != 0) || (x2.2 != 0)) || (x3.2.2 != 0)) || (x4.2.2 != 0)) with hb4 | hb4
   · exact wpl_no (d := 73) rfl rfl (congrArg Value.bool hb4) <| wpl_no (d := 73) rfl rfl (congrArg Value.bool hb4) <| s_pickT (congrArg Value.bool hb4) rfl <| wpl_nil (nrm ⟨outP, rfl, congrArg Value.bool (or_t hb4), trivial⟩)
   · exact wpl_yes (d := 73) rfl rfl (congrArg Value.bool hb4) <| s_mvv (v := vI x5.2) rfl <| wpl_yes (d := 73) rfl rfl (congrArg Value.bool hb4) <| s_neq (m := x5.2) (n := 0) rfl rfl <| s_pickF (congrArg Value.bool hb4) rfl <| wpl_nil (nrm ⟨outP, rfl, congrArg Value.bool (or_f hb4), trivial⟩)
 rintro f4 w29 ho ⟨h25, ha⟩
 subst h25
 obtain ⟨u4, rfl⟩ := fr_of (N := 212) ho ha
 refine s_mvv (v := vb (((((x1.2 != 0) || (x2.2 != 0)) || (x3.2.2 != 0)) || (x4.2.2 != 0)) || (x5.2 != 0))) rfl <| wpl_cut 3 [78, 79, 80] (fun f' w' => w' = w29 ∧ AllAt f' [(80, vb ((((((x1.2 != 0) || (x2.2 != 0)) || (x3.2.2 != 0)) || (x4.2.2 != 0)) || (x5.2 != 0)) || (x6.2 != 0)))]) ?_ ?_
 · rcases bool_tf (((((x1.2 != 0) || (x2.2 != 0)) || (x3.2.2 != 0)) || (x4.2.2 != 0)) || (x5.2 != 0)) with hb5 | hb5
   · exact wpl_no (d := 77) rfl rfl (congrArg Value.bool hb5) <| wpl_no (d := 77) rfl rfl (congrArg Value.bool hb5) <| s_pickT (congrArg Value.bool hb5) rfl <| wpl_nil (nrm ⟨outP, rfl, congrArg Value.bool (or_t hb5), trivial⟩)
   · exact wpl_yes (d := 77) rfl rfl (congrArg Value.bool hb5) <| s_mvv (v := vI x6.2) rfl <| wpl_yes (d := 77) rfl rfl (congrArg Value.bool hb5) <| s_neq (m := x6.2) (n := 0) rfl rfl <| s_pickF (congrArg Value.bool hb5) rfl <| wpl_nil (nrm ⟨outP, rfl, congrArg Value.bool (or_f hb5), trivial⟩)
 rintro f5 w30 ho ⟨h26, ha⟩
 subst h26
 obtain ⟨u5, rfl⟩ := fr_of (N := 212) ho ha
 refine s_mvv (v := vb ((((((x1.2 != 0) || (x2.2 != 0)) || (x3.2.2 != 0)) || (x4.2.2 != 0)) || (x5.2 != 0)) || (x6.2 != 0))) rfl <| wpl_cut 5 [82, 83, 84, 85, 86] (fun f' w' => w' = w30 ∧ AllAt f' [(86, vb (((((((x1.2 != 0) || (x2.2 != 0)) || (x3.2.2 != 0)) || (x4.2.2 != 0)) || (x5.2 != 0)) || (x6.2 != 0)) || ((x6.1.L.length : Int) != 2)))]) ?_ ?_
 · rcases bool_tf ((((((x1.2 != 0) || (x2.2 != 0)) || (x3.2.2 != 0)) || (x4.2.2 != 0)) || (x5.2 != 0)) || (x6.2 != 0)) with hb6 | hb6
   · exact wpl_no (d := 81) rfl rfl (congrArg Value.bool hb6) <| wpl_no (d := 81) rfl rfl (congrArg Value.bool hb6) <| wpl_no (d := 81) rfl rfl (congrArg Value.bool hb6) <| wpl_no (d := 81) rfl rfl (congrArg Value.bool hb6) <| s_pickT (congrArg Value.bool hb6) rfl <| wpl_nil (nrm ⟨outP, rfl, congrArg Value.bool (or_t hb6), trivial⟩)
   · exact wpl_yes (d := 81) rfl rfl (congrArg Value.bool hb6) <| s_fld (n := 0) rfl Try.underlying26 rfl rfl Try.sizeOf23 <| wpl_yes (d := 81) rfl rfl (congrArg Value.bool hb6) <| s_ld (i := 0) (cs := [v16]) S28 rfl rfl Try.isAgg23 Try.sizeOf23 rfl (fun _ => rfl) <| wpl_yes (d := 81) rfl rfl (congrArg Value.bool hb6) <| s_lenR (xs := x6.1.L) rfl h19 Try.underlying23 <| wpl_yes (d := 81) rfl rfl (congrArg Value.bool hb6) <| s_neq (m := (x6.1.L.length : Int)) (n := 2) rfl rfl <| s_pickF (congrArg Value.bool hb6) rfl <| wpl_nil (nrm ⟨outP, rfl, congrArg Value.bool (or_f hb6), trivial⟩)
 rintro f6 w31 ho ⟨h27, ha⟩
 subst h27
 obtain ⟨u6, rfl⟩ := fr_of (N := 212) ho ha
 refine s_mvv (v := vb (((((((x1.2 != 0) || (x2.2 != 0)) || (x3.2.2 != 0)) || (x4.2.2 != 0)) || (x5.2 != 0)) || (x6.2 != 0)) || ((x6.1.L.length : Int) != 2))) rfl <| wpl_cut 5 [88, 89, 90, 91, 92] (fun f' w' => w' = w31 ∧ AllAt f' [(92, vb ((((((((x1.2 != 0) || (x2.2 != 0)) || (x3.2.2 != 0)) || (x4.2.2 != 0)) || (x5.2 != 0)) || (x6.2 != 0)) || ((x6.1.L.length : Int) != 2)) || ((x6.1.Wait.length : Int) != 0)))]) ?_ ?_
 · rcases bool_tf (((((((x1.2 != 0) || (x2.2 != 0)) || (x3.2.2 != 0)) || (x4.2.2 != 0)) || (x5.2 != 0)) || (x6.2 != 0)) || ((x6.1.L.length : Int) != 2)) with hb7 | hb7
   · exact wpl_no (d := 87) rfl rfl (congrArg Value.bool hb7) <| wpl_no (d := 87) rfl rfl (congrArg Value.bool hb7) <| wpl_no (d := 87) rfl rfl (congrArg Value.bool hb7) <| wpl_no (d := 87) rfl rfl (congrArg Value.bool hb7) <| s_pickT (congrArg Value.bool hb7) rfl <| wpl_nil (nrm ⟨outP, rfl, congrArg Value.bool (or_t hb7), trivial⟩)
   · exact wpl_yes (d := 87) rfl rfl (congrArg Value.bool hb7) <| s_fld (n := 0) rfl Try.underlying26 rfl rfl Try.sizeOf23 <| wpl_yes (d := 87) rfl rfl (congrArg Value.bool hb7) <| s_ld (i := 0) (cs := [v18]) S28 rfl rfl Try.isAgg23 Try.sizeOf23 rfl (fun _ => rfl) <| wpl_yes (d := 87) rfl rfl (congrArg Value.bool hb7) <| s_lenR (xs := x6.1.Wait) rfl h21 Try.underlying23 <| wpl_yes (d := 87) rfl rfl (congrArg Value.bool hb7) <| s_neq (m := (x6.1.Wait.length : Int)) (n := 0) rfl rfl <| s_pickF (congrArg Value.bool hb7) rfl <| wpl_nil (nrm ⟨outP, rfl, congrArg Value.bool (or_f hb7), trivial⟩)
 rintro f7 w32 ho ⟨h28, ha⟩
 subst h28
 obtain ⟨u7, rfl⟩ := fr_of (N := 212) ho ha
 refine s_mvv (v := vb ((((((((x1.2 != 0) || (x2.2 != 0)) || (x3.2.2 != 0)) || (x4.2.2 != 0)) || (x5.2 != 0)) || (x6.2 != 0)) || ((x6.1.L.length : Int) != 2)) || ((x6.1.Wait.length : Int) != 0))) rfl <| wpl_cut 5 [94, 95, 96, 97, 98] (fun f' w' => w' = w32 ∧ AllAt f' [(98, vb (((((((((x1.2 != 0) || (x2.2 != 0)) || (x3.2.2 != 0)) || (x4.2.2 != 0)) || (x5.2 != 0)) || (x6.2 != 0)) || ((x6.1.L.length : Int) != 2)) || ((x6.1.Wait.length : Int) != 0)) || ((x6.1.Hide.length : Int) != 1)))]) ?_ ?_
 · rcases bool_tf ((((((((x1.2 != 0) || (x2.2 != 0)) || (x3.2.2 != 0)) || (x4.2.2 != 0)) || (x5.2 != 0)) || (x6.2 != 0)) || ((x6.1.L.length : Int) != 2)) || ((x6.1.Wait.length : Int) != 0)) with hb8 | hb8
   · exact wpl_no (d := 93) rfl rfl (congrArg Value.bool hb8) <| wpl_no (d := 93) rfl rfl (congrArg Value.bool hb8) <| wpl_no (d := 93) rfl rfl (congrArg Value.bool hb8) <| wpl_no (d := 93) rfl rfl (congrArg Value.bool hb8) <| s_pickT (congrArg Value.bool hb8) rfl <| wpl_nil (nrm ⟨outP, rfl, congrArg Value.bool (or_t hb8), trivial⟩)
   · exact wpl_yes (d := 93) rfl rfl (congrArg Value.bool hb8) <| s_fld (n := 0) rfl Try.underlying26 rfl rfl Try.sizeOf24 <| wpl_yes (d := 93) rfl rfl (congrArg Value.bool hb8) <| s_ld (i := 0) (cs := [v17]) S28 rfl rfl Try.isAgg24 Try.sizeOf24 rfl (fun _ => rfl) <| wpl_yes (d := 93) rfl rfl (congrArg Value.bool hb8) <| s_lenR (xs := x6.1.Hide) rfl h20 Try.underlying24 <| wpl_yes (d := 93) rfl rfl (congrArg Value.bool hb8) <| s_neq (m := (x6.1.Hide.length : Int)) (n := 1) rfl rfl <| s_pickF (congrArg Value.bool hb8) rfl <| wpl_nil (nrm ⟨outP, rfl, congrArg Value.bool (or_f hb8), trivial⟩)
 rintro f8 w33 ho ⟨h29, ha⟩
 subst h29
 obtain ⟨u8, rfl⟩ := fr_of (N := 212) ho ha
 refine wpl_nil <| nrm <| wpc_if (t := (((((((((x1.2 != 0) || (x2.2 != 0)) || (x3.2.2 != 0)) || (x4.2.2 != 0)) || (x5.2 != 0)) || (x6.2 != 0)) || ((x6.1.L.length : Int) != 2)) || ((x6.1.Wait.length : Int) != 0)) || ((x6.1.Hide.length : Int) != 1))) rfl (fun hc1 => ?_) (fun hc1 => ?_)
 · replace hm := ifT hc1 hm
   refine wpc_seq <| wpc_region <| s_asv (v := vb false) rfl <| wpl_nil <| nrm <| wpc_ret <| thR <| outRw fun we hpd => ?_
   replace S28 := St.pd S28 hpd
   obtain ⟨m10, l10, S29⟩ := St.drop S28 0
   replace h13 := h13.up l10
   replace h14 := h14.up l10
   replace h15 := h15.up l10
   replace L0 := Mem.tr L0 l10
   clear S28
   replace S29 : St _ ((bx b4 [vI x4.2.1.Log, vI x4.2.1.At, vU x4.2.1.Leaf.1, vU x4.2.1.Leaf.2, vU x4.2.1.Sig.E, vU x4.2.1.Sig.S] 35) :: (bx b3 [vI x3.2.1.Log, vI x3.2.1.At, vU x3.2.1.Leaf.1, vU x3.2.1.Leaf.2, vU x3.2.1.Sig.E, vU x3.2.1.Sig.S] 35) :: (bx b2 [vI x2.1.Log, vU x2.1.Key, vI x2.1.Delay] 40) :: (bx b1 [vI x4.1.Id, vU x4.1.Key, vI x4.1.Delay, v10, v11, v12] 26) :: As) _ := S29
   obtain ⟨m11, l11, S30⟩ := St.drop S29 0
   replace h13 := h13.up l11
   replace h14 := h14.up l11
   replace h15 := h15.up l11
   replace L0 := Mem.tr L0 l11
   clear S29
   replace S30 : St _ ((bx b3 [vI x3.2.1.Log, vI x3.2.1.At, vU x3.2.1.Leaf.1, vU x3.2.1.Leaf.2, vU x3.2.1.Sig.E, vU x3.2.1.Sig.S] 35) :: (bx b2 [vI x2.1.Log, vU x2.1.Key, vI x2.1.Delay] 40) :: (bx b1 [vI x4.1.Id, vU x4.1.Key, vI x4.1.Delay, v10, v11, v12] 26) :: As) _ := S30
   obtain ⟨m12, l12, S31⟩ := St.drop S30 0
   replace h13 := h13.up l12
   replace h14 := h14.up l12
   replace h15 := h15.up l12
   replace L0 := Mem.tr L0 l12
   clear S30
   replace S31 : St _ ((bx b2 [vI x2.1.Log, vU x2.1.Key, vI x2.1.Delay] 40) :: (bx b1 [vI x4.1.Id, vU x4.1.Key, vI x4.1.Delay, v10, v11, v12] 26) :: As) _ := S31
   obtain ⟨m13, l13, S32⟩ := St.drop S31 0
   replace L0 := Mem.tr L0 l13
   clear S31
   replace S32 : St _ ((bx b1 [vI x4.1.Id, vU x4.1.Key, vI x4.1.Delay, v10, v11, v12] 26) :: As) _ := S32
   obtain ⟨m14, l14, S33⟩ := St.drop S32 0
   replace L0 := Mem.tr L0 l14
   clear S32
   replace S33 : St _ (As) _ := S33
   have e0 := Option.some.inj hm
   subst e0
   exact outR [_] rfl ⟨rfl, trivial⟩ ⟨_, L0, S33, rfl⟩
 replace hm := ifF hc1 hm
 refine wpc_skip <| nrm <| wpc_seq <| wpc_region <| s_ld (i := 0) (cs := [vI x6.1.Id, vU x6.1.Key, vI x6.1.Delay, v16, v17, v18]) S28 rfl rfl Try.isAgg26 Try.sizeOf26 rfl (fun h => by cases h) ?_
 obtain ⟨x7, q7, hm⟩ := obind_some hm
 refine s_call Try.call17 (w_logd_Head (a0 := x6.1) (a1 := 0) (a2 := 1) (a3 := 9) S28 h19 h20 h21 q7) rfl ?_
 rintro _ w34 ⟨m15, l15, S34, rfl⟩
 replace h19 := h19.up l15
 replace h20 := h20.up l15
 replace h21 := h21.up l15
 replace h13 := h13.up l15
 replace h14 := h14.up l15
 replace h15 := h15.up l15
 replace L0 := Mem.tr L0 l15
 clear S28
 refine s_mvv (v := .tuple #[.agg #[vI x7.1.Log, vI x7.1.Size, vU x7.1.Root.1, vU x7.1.Root.2, vI x7.1.At, vU x7.1.Sig.E, vU x7.1.Sig.S], vI x7.2]) rfl <| s_ext (i := 0) rfl rfl <| s_ext (i := 1) rfl rfl <| s_alloc S34 Try.zeroValue57 fun b6 w35 S35 => ?_
 replace S35 : St _ ((bx b6 [vI 0, vI 0, vU 0, vU 0, vI 0, vU 0, vU 0] 57) :: (bx b5 [vI x6.1.Id, vU x6.1.Key, vI x6.1.Delay, v16, v17, v18] 26) :: (bx b4 [vI x4.2.1.Log, vI x4.2.1.At, vU x4.2.1.Leaf.1, vU x4.2.1.Leaf.2, vU x4.2.1.Sig.E, vU x4.2.1.Sig.S] 35) :: (bx b3 [vI x3.2.1.Log, vI x3.2.1.At, vU x3.2.1.Leaf.1, vU x3.2.1.Leaf.2, vU x3.2.1.Sig.E, vU x3.2.1.Sig.S] 35) :: (bx b2 [vI x2.1.Log, vU x2.1.Key, vI x2.1.Delay] 40) :: (bx b1 [vI x4.1.Id, vU x4.1.Key, vI x4.1.Delay, v10, v11, v12] 26) :: As) _ := S35
 clear S34
 refine s_stL (i := 0) S35 rfl rfl rfl Try.sizeOf57 (oneC rfl (oneC rfl (oneC rfl (oneC rfl (oneC rfl (oneC rfl (oneC rfl oneN))))))) rfl fun w36 S36 => ?_
 replace S36 : St _ ((bx b6 [vI x7.1.Log, vI x7.1.Size, vU x7.1.Root.1, vU x7.1.Root.2, vI x7.1.At, vU x7.1.Sig.E, vU x7.1.Sig.S] 57) :: (bx b5 [vI x6.1.Id, vU x6.1.Key, vI x6.1.Delay, v16, v17, v18] 26) :: (bx b4 [vI x4.2.1.Log, vI x4.2.1.At, vU x4.2.1.Leaf.1, vU x4.2.1.Leaf.2, vU x4.2.1.Sig.E, vU x4.2.1.Sig.S] 35) :: (bx b3 [vI x3.2.1.Log, vI x3.2.1.At, vU x3.2.1.Leaf.1, vU x3.2.1.Leaf.2, vU x3.2.1.Sig.E, vU x3.2.1.Sig.S] 35) :: (bx b2 [vI x2.1.Log, vU x2.1.Key, vI x2.1.Delay] 40) :: (bx b1 [vI x4.1.Id, vU x4.1.Key, vI x4.1.Delay, v10, v11, v12] 26) :: As) _ := S36
 clear S35
 refine s_asv (v := vI x7.2) rfl <| wpl_nil <| nrm <| wpc_seq <| wpc_region <| s_ld (i := 1) (cs := [vI x6.1.Id, vU x6.1.Key, vI x6.1.Delay, v16, v17, v18]) S36 rfl rfl Try.isAgg26 Try.sizeOf26 rfl (fun h => by cases h) ?_
 obtain ⟨x8, q8, hm⟩ := obind_some hm
 refine s_call Try.call17 (w_logd_Head (a0 := x6.1) (a1 := 1) (a2 := 1) (a3 := 9) S36 h19 h20 h21 q8) rfl ?_
 rintro _ w37 ⟨m16, l16, S37, rfl⟩
 replace h19 := h19.up l16
 replace h20 := h20.up l16
 replace h21 := h21.up l16
 replace h13 := h13.up l16
 replace h14 := h14.up l16
 replace h15 := h15.up l16
 replace L0 := Mem.tr L0 l16
 clear S36
 refine s_mvv (v := .tuple #[.agg #[vI x8.1.Log, vI x8.1.Size, vU x8.1.Root.1, vU x8.1.Root.2, vI x8.1.At, vU x8.1.Sig.E, vU x8.1.Sig.S], vI x8.2]) rfl <| s_ext (i := 0) rfl rfl <| s_ext (i := 1) rfl rfl <| s_alloc S37 Try.zeroValue57 fun b7 w38 S38 => ?_
 replace S38 : St _ ((bx b7 [vI 0, vI 0, vU 0, vU 0, vI 0, vU 0, vU 0] 57) :: (bx b6 [vI x7.1.Log, vI x7.1.Size, vU x7.1.Root.1, vU x7.1.Root.2, vI x7.1.At, vU x7.1.Sig.E, vU x7.1.Sig.S] 57) :: (bx b5 [vI x6.1.Id, vU x6.1.Key, vI x6.1.Delay, v16, v17, v18] 26) :: (bx b4 [vI x4.2.1.Log, vI x4.2.1.At, vU x4.2.1.Leaf.1, vU x4.2.1.Leaf.2, vU x4.2.1.Sig.E, vU x4.2.1.Sig.S] 35) :: (bx b3 [vI x3.2.1.Log, vI x3.2.1.At, vU x3.2.1.Leaf.1, vU x3.2.1.Leaf.2, vU x3.2.1.Sig.E, vU x3.2.1.Sig.S] 35) :: (bx b2 [vI x2.1.Log, vU x2.1.Key, vI x2.1.Delay] 40) :: (bx b1 [vI x4.1.Id, vU x4.1.Key, vI x4.1.Delay, v10, v11, v12] 26) :: As) _ := S38
 clear S37
 refine s_stL (i := 0) S38 rfl rfl rfl Try.sizeOf57 (oneC rfl (oneC rfl (oneC rfl (oneC rfl (oneC rfl (oneC rfl (oneC rfl oneN))))))) rfl fun w39 S39 => ?_
 replace S39 : St _ ((bx b7 [vI x8.1.Log, vI x8.1.Size, vU x8.1.Root.1, vU x8.1.Root.2, vI x8.1.At, vU x8.1.Sig.E, vU x8.1.Sig.S] 57) :: (bx b6 [vI x7.1.Log, vI x7.1.Size, vU x7.1.Root.1, vU x7.1.Root.2, vI x7.1.At, vU x7.1.Sig.E, vU x7.1.Sig.S] 57) :: (bx b5 [vI x6.1.Id, vU x6.1.Key, vI x6.1.Delay, v16, v17, v18] 26) :: (bx b4 [vI x4.2.1.Log, vI x4.2.1.At, vU x4.2.1.Leaf.1, vU x4.2.1.Leaf.2, vU x4.2.1.Sig.E, vU x4.2.1.Sig.S] 35) :: (bx b3 [vI x3.2.1.Log, vI x3.2.1.At, vU x3.2.1.Leaf.1, vU x3.2.1.Leaf.2, vU x3.2.1.Sig.E, vU x3.2.1.Sig.S] 35) :: (bx b2 [vI x2.1.Log, vU x2.1.Key, vI x2.1.Delay] 40) :: (bx b1 [vI x4.1.Id, vU x4.1.Key, vI x4.1.Delay, v10, v11, v12] 26) :: As) _ := S39
 clear S38
 refine s_asv (v := vI x8.2) rfl <| wpl_nil <| nrm <| wpc_seq <| wpc_region <| s_ld (i := 2) (cs := [vI x6.1.Id, vU x6.1.Key, vI x6.1.Delay, v16, v17, v18]) S39 rfl rfl Try.isAgg26 Try.sizeOf26 rfl (fun h => by cases h) ?_
 obtain ⟨x9, q9, hm⟩ := obind_some hm
 refine s_call Try.call12 (w_logd_Leaves (a0 := x6.1) (a1 := 1) S39 h19 h20 h21 q9) rfl ?_
 rintro _ w40 ⟨m17, l17, v19, c1, S40, rfl, h30⟩
 replace h19 := h19.up l17
 replace h20 := h20.up l17
 replace h21 := h21.up l17
 replace h13 := h13.up l17
 replace h14 := h14.up l17
 replace h15 := h15.up l17
 replace L0 := Mem.tr L0 l17
 clear S39
 refine s_mvv (v := .tuple #[v19, vI x9.2]) rfl <| s_ext (i := 0) rfl rfl <| s_ext (i := 1) rfl rfl <| s_asv (v := v19) rfl <| s_asv (v := vI x9.2) rfl <| wpl_nil <| nrm <| wpc_seq <| wpc_region <| s_ld (i := 3) (cs := [vI x6.1.Id, vU x6.1.Key, vI x6.1.Delay, v16, v17, v18]) S40 rfl rfl Try.isAgg26 Try.sizeOf26 rfl (fun h => by cases h) ?_
 obtain ⟨x10, q10, hm⟩ := obind_some hm
 refine s_call Try.call12 (w_logd_Leaves (a0 := x6.1) (a1 := 2) S40 h19 h20 h21 q10) rfl ?_
 rintro _ w41 ⟨m18, l18, v20, c2, S41, rfl, h31⟩
 replace h30 := RepL.up l18 h30
 replace h19 := h19.up l18
 replace h20 := h20.up l18
 replace h21 := h21.up l18
 replace h13 := h13.up l18
 replace h14 := h14.up l18
 replace h15 := h15.up l18
 replace L0 := Mem.tr L0 l18
 clear S40
 refine s_mvv (v := .tuple #[v20, vI x10.2]) rfl <| s_ext (i := 0) rfl rfl <| s_ext (i := 1) rfl rfl <| s_asv (v := v20) rfl <| s_asv (v := vI x10.2) rfl <| wpl_nil <| nrm <| wpc_seq <| wpc_region <| s_ld (i := 4) (cs := [vI x6.1.Id, vU x6.1.Key, vI x6.1.Delay, v16, v17, v18]) S41 rfl rfl Try.isAgg26 Try.sizeOf26 rfl (fun h => by cases h) ?_
 obtain ⟨x11, q11, hm⟩ := obind_some hm
 refine s_call Try.call17 (w_logd_Head (a0 := x6.1) (a1 := 0) (a2 := 3) (a3 := 9) S41 h19 h20 h21 q11) rfl ?_
 rintro _ w42 ⟨m19, l19, S42, rfl⟩
 replace h30 := RepL.up l19 h30
 replace h19 := h19.up l19
 replace h20 := h20.up l19
 replace h21 := h21.up l19
 replace h31 := RepL.up l19 h31
 replace h13 := h13.up l19
 replace h14 := h14.up l19
 replace h15 := h15.up l19
 replace L0 := Mem.tr L0 l19
 clear S41
 refine s_mvv (v := .tuple #[.agg #[vI x11.1.Log, vI x11.1.Size, vU x11.1.Root.1, vU x11.1.Root.2, vI x11.1.At, vU x11.1.Sig.E, vU x11.1.Sig.S], vI x11.2]) rfl <| s_ext (i := 0) rfl rfl <| s_ext (i := 1) rfl rfl <| s_alloc S42 Try.zeroValue57 fun b8 w43 S43 => ?_
 replace S43 : St _ ((bx b8 [vI 0, vI 0, vU 0, vU 0, vI 0, vU 0, vU 0] 57) :: (row 2 v20 c2 x10.1.length) :: (row 2 v19 c1 x9.1.length) :: (bx b7 [vI x8.1.Log, vI x8.1.Size, vU x8.1.Root.1, vU x8.1.Root.2, vI x8.1.At, vU x8.1.Sig.E, vU x8.1.Sig.S] 57) :: (bx b6 [vI x7.1.Log, vI x7.1.Size, vU x7.1.Root.1, vU x7.1.Root.2, vI x7.1.At, vU x7.1.Sig.E, vU x7.1.Sig.S] 57) :: (bx b5 [vI x6.1.Id, vU x6.1.Key, vI x6.1.Delay, v16, v17, v18] 26) :: (bx b4 [vI x4.2.1.Log, vI x4.2.1.At, vU x4.2.1.Leaf.1, vU x4.2.1.Leaf.2, vU x4.2.1.Sig.E, vU x4.2.1.Sig.S] 35) :: (bx b3 [vI x3.2.1.Log, vI x3.2.1.At, vU x3.2.1.Leaf.1, vU x3.2.1.Leaf.2, vU x3.2.1.Sig.E, vU x3.2.1.Sig.S] 35) :: (bx b2 [vI x2.1.Log, vU x2.1.Key, vI x2.1.Delay] 40) :: (bx b1 [vI x4.1.Id, vU x4.1.Key, vI x4.1.Delay, v10, v11, v12] 26) :: As) _ := S43
 clear S42
 refine s_stL (i := 0) S43 rfl rfl rfl Try.sizeOf57 (oneC rfl (oneC rfl (oneC rfl (oneC rfl (oneC rfl (oneC rfl (oneC rfl oneN))))))) rfl fun w44 S44 => ?_
 replace S44 : St _ ((bx b8 [vI x11.1.Log, vI x11.1.Size, vU x11.1.Root.1, vU x11.1.Root.2, vI x11.1.At, vU x11.1.Sig.E, vU x11.1.Sig.S] 57) :: (row 2 v20 c2 x10.1.length) :: (row 2 v19 c1 x9.1.length) :: (bx b7 [vI x8.1.Log, vI x8.1.Size, vU x8.1.Root.1, vU x8.1.Root.2, vI x8.1.At, vU x8.1.Sig.E, vU x8.1.Sig.S] 57) :: (bx b6 [vI x7.1.Log, vI x7.1.Size, vU x7.1.Root.1, vU x7.1.Root.2, vI x7.1.At, vU x7.1.Sig.E, vU x7.1.Sig.S] 57) :: (bx b5 [vI x6.1.Id, vU x6.1.Key, vI x6.1.Delay, v16, v17, v18] 26) :: (bx b4 [vI x4.2.1.Log, vI x4.2.1.At, vU x4.2.1.Leaf.1, vU x4.2.1.Leaf.2, vU x4.2.1.Sig.E, vU x4.2.1.Sig.S] 35) :: (bx b3 [vI x3.2.1.Log, vI x3.2.1.At, vU x3.2.1.Leaf.1, vU x3.2.1.Leaf.2, vU x3.2.1.Sig.E, vU x3.2.1.Sig.S] 35) :: (bx b2 [vI x2.1.Log, vU x2.1.Key, vI x2.1.Delay] 40) :: (bx b1 [vI x4.1.Id, vU x4.1.Key, vI x4.1.Delay, v10, v11, v12] 26) :: As) _ := S44
 clear S43
 refine s_asv (v := vI x11.2) rfl <| wpl_nil <| nrm <| wpc_seq <| wpc_seq <| wpc_region <| s_mvv (v := vI x7.2) rfl <| s_neq (m := x7.2) (n := 0) rfl rfl <| s_mvv (v := vb (x7.2 != 0)) rfl <| wpl_cut 3 [127, 128, 129] (fun f' w' => w' = w44 ∧ AllAt f' [(129, vb ((x7.2 != 0) || (x8.2 != 0)))]) ?_ ?_
 · rcases bool_tf (x7.2 != 0) with hb9 | hb9
   · exact wpl_no (d := 126) rfl rfl (congrArg Value.bool hb9) <| wpl_no (d := 126) rfl rfl (congrArg Value.bool hb9) <| s_pickT (congrArg Value.bool hb9) rfl <| wpl_nil (nrm ⟨outP, rfl, congrArg Value.bool (or_t hb9), trivial⟩)
   · exact wpl_yes (d := 126) rfl rfl (congrArg Value.bool hb9) <| s_mvv (v := vI x8.2) rfl <| wpl_yes (d := 126) rfl rfl (congrArg Value.bool hb9) <| s_neq (m := x8.2) (n := 0) rfl rfl <| s_pickF (congrArg Value.bool hb9) rfl <| wpl_nil (nrm ⟨outP, rfl, congrArg Value.bool (or_f hb9), trivial⟩)
 rintro f9 w45 ho ⟨h32, ha⟩
 subst h32
 obtain ⟨u9, rfl⟩ := fr_of (N := 212) ho ha
 refine s_mvv (v := vb ((x7.2 != 0) || (x8.2 != 0))) rfl <| wpl_cut 3 [131, 132, 133] (fun f' w' => w' = w45 ∧ AllAt f' [(133, vb (((x7.2 != 0) || (x8.2 != 0)) || (x9.2 != 0)))]) ?_ ?_
 · rcases bool_tf ((x7.2 != 0) || (x8.2 != 0)) with hb10 | hb10
   · exact wpl_no (d := 130) rfl rfl (congrArg Value.bool hb10) <| wpl_no (d := 130) rfl rfl (congrArg Value.bool hb10) <| s_pickT (congrArg Value.bool hb10) rfl <| wpl_nil (nrm ⟨outP, rfl, congrArg Value.bool (or_t hb10), trivial⟩)
   · exact wpl_yes (d := 130) rfl rfl (congrArg Value.bool hb10) <| s_mvv (v := vI x9.2) rfl <| wpl_yes (d := 130) rfl rfl (congrArg Value.bool hb10) <| s_neq (m := x9.2) (n := 0) rfl rfl <| s_pickF (congrArg Value.bool hb10) rfl <| wpl_nil (nrm ⟨outP, rfl, congrArg Value.bool (or_f hb10), trivial⟩)
 rintro f10 w46 ho ⟨h33, ha⟩
 subst h33
 obtain ⟨u10, rfl⟩ := fr_of (N := 212) ho ha
 refine s_mvv (v := vb (((x7.2 != 0) || (x8.2 != 0)) || (x9.2 != 0))) rfl <| wpl_cut 4 [135, 136, 137, 138] (fun f' w' => w' = w46 ∧ AllAt f' [(138, vb ((((x7.2 != 0) || (x8.2 != 0)) || (x9.2 != 0)) || ((x9.1.length : Int) != 2)))]) ?_ ?_
 · rcases bool_tf (((x7.2 != 0) || (x8.2 != 0)) || (x9.2 != 0)) with hb11 | hb11
   · exact wpl_no (d := 134) rfl rfl (congrArg Value.bool hb11) <| wpl_no (d := 134) rfl rfl (congrArg Value.bool hb11) <| wpl_no (d := 134) rfl rfl (congrArg Value.bool hb11) <| s_pickT (congrArg Value.bool hb11) rfl <| wpl_nil (nrm ⟨outP, rfl, congrArg Value.bool (or_t hb11), trivial⟩)
   · exact wpl_yes (d := 134) rfl rfl (congrArg Value.bool hb11) <| s_mvv (v := v19) rfl <| wpl_yes (d := 134) rfl rfl (congrArg Value.bool hb11) <| s_lenO (i := 2) S44 rfl rfl Try.underlying45 <| wpl_yes (d := 134) rfl rfl (congrArg Value.bool hb11) <| s_neq (m := (x9.1.length : Int)) (n := 2) rfl rfl <| s_pickF (congrArg Value.bool hb11) rfl <| wpl_nil (nrm ⟨outP, rfl, congrArg Value.bool (or_f hb11), trivial⟩)
 rintro f11 w47 ho ⟨h34, ha⟩
 subst h34
 obtain ⟨u11, rfl⟩ := fr_of (N := 212) ho ha
 refine wpl_nil <| nrm <| wpc_if (t := ((((x7.2 != 0) || (x8.2 != 0)) || (x9.2 != 0)) || ((x9.1.length : Int) != 2))) rfl (fun hc2 => ?_) (fun hc2 => ?_)
 · replace hm := ifT hc2 hm
   refine wpc_seq <| wpc_region <| s_asv (v := vb false) rfl <| wpl_nil <| nrm <| wpc_ret <| thR <| outRw fun we hpd => ?_
   replace S44 := St.pd S44 hpd
   obtain ⟨m20, l20, S45⟩ := St.drop S44 0
   replace h30 := RepL.up l20 h30
   replace h19 := h19.up l20
   replace h20 := h20.up l20
   replace h21 := h21.up l20
   replace h13 := h13.up l20
   replace h14 := h14.up l20
   replace h15 := h15.up l20
   replace L0 := Mem.tr L0 l20
   clear S44
   replace S45 : St _ ((row 2 v20 c2 x10.1.length) :: (row 2 v19 c1 x9.1.length) :: (bx b7 [vI x8.1.Log, vI x8.1.Size, vU x8.1.Root.1, vU x8.1.Root.2, vI x8.1.At, vU x8.1.Sig.E, vU x8.1.Sig.S] 57) :: (bx b6 [vI x7.1.Log, vI x7.1.Size, vU x7.1.Root.1, vU x7.1.Root.2, vI x7.1.At, vU x7.1.Sig.E, vU x7.1.Sig.S] 57) :: (bx b5 [vI x6.1.Id, vU x6.1.Key, vI x6.1.Delay, v16, v17, v18] 26) :: (bx b4 [vI x4.2.1.Log, vI x4.2.1.At, vU x4.2.1.Leaf.1, vU x4.2.1.Leaf.2, vU x4.2.1.Sig.E, vU x4.2.1.Sig.S] 35) :: (bx b3 [vI x3.2.1.Log, vI x3.2.1.At, vU x3.2.1.Leaf.1, vU x3.2.1.Leaf.2, vU x3.2.1.Sig.E, vU x3.2.1.Sig.S] 35) :: (bx b2 [vI x2.1.Log, vU x2.1.Key, vI x2.1.Delay] 40) :: (bx b1 [vI x4.1.Id, vU x4.1.Key, vI x4.1.Delay, v10, v11, v12] 26) :: As) _ := S45
   obtain ⟨m21, l21, S46⟩ := St.drop S45 0
   replace h19 := h19.up l21
   replace h20 := h20.up l21
   replace h21 := h21.up l21
   replace h13 := h13.up l21
   replace h14 := h14.up l21
   replace h15 := h15.up l21
   replace L0 := Mem.tr L0 l21
   clear S45
   replace S46 : St _ ((row 2 v19 c1 x9.1.length) :: (bx b7 [vI x8.1.Log, vI x8.1.Size, vU x8.1.Root.1, vU x8.1.Root.2, vI x8.1.At, vU x8.1.Sig.E, vU x8.1.Sig.S] 57) :: (bx b6 [vI x7.1.Log, vI x7.1.Size, vU x7.1.Root.1, vU x7.1.Root.2, vI x7.1.At, vU x7.1.Sig.E, vU x7.1.Sig.S] 57) :: (bx b5 [vI x6.1.Id, vU x6.1.Key, vI x6.1.Delay, v16, v17, v18] 26) :: (bx b4 [vI x4.2.1.Log, vI x4.2.1.At, vU x4.2.1.Leaf.1, vU x4.2.1.Leaf.2, vU x4.2.1.Sig.E, vU x4.2.1.Sig.S] 35) :: (bx b3 [vI x3.2.1.Log, vI x3.2.1.At, vU x3.2.1.Leaf.1, vU x3.2.1.Leaf.2, vU x3.2.1.Sig.E, vU x3.2.1.Sig.S] 35) :: (bx b2 [vI x2.1.Log, vU x2.1.Key, vI x2.1.Delay] 40) :: (bx b1 [vI x4.1.Id, vU x4.1.Key, vI x4.1.Delay, v10, v11, v12] 26) :: As) _ := S46
   obtain ⟨m22, l22, S47⟩ := St.drop S46 0
   replace h19 := h19.up l22
   replace h20 := h20.up l22
   replace h21 := h21.up l22
   replace h13 := h13.up l22
   replace h14 := h14.up l22
   replace h15 := h15.up l22
   replace L0 := Mem.tr L0 l22
   clear S46
   replace S47 : St _ ((bx b7 [vI x8.1.Log, vI x8.1.Size, vU x8.1.Root.1, vU x8.1.Root.2, vI x8.1.At, vU x8.1.Sig.E, vU x8.1.Sig.S] 57) :: (bx b6 [vI x7.1.Log, vI x7.1.Size, vU x7.1.Root.1, vU x7.1.Root.2, vI x7.1.At, vU x7.1.Sig.E, vU x7.1.Sig.S] 57) :: (bx b5 [vI x6.1.Id, vU x6.1.Key, vI x6.1.Delay, v16, v17, v18] 26) :: (bx b4 [vI x4.2.1.Log, vI x4.2.1.At, vU x4.2.1.Leaf.1, vU x4.2.1.Leaf.2, vU x4.2.1.Sig.E, vU x4.2.1.Sig.S] 35) :: (bx b3 [vI x3.2.1.Log, vI x3.2.1.At, vU x3.2.1.Leaf.1, vU x3.2.1.Leaf.2, vU x3.2.1.Sig.E, vU x3.2.1.Sig.S] 35) :: (bx b2 [vI x2.1.Log, vU x2.1.Key, vI x2.1.Delay] 40) :: (bx b1 [vI x4.1.Id, vU x4.1.Key, vI x4.1.Delay, v10, v11, v12] 26) :: As) _ := S47
   obtain ⟨m23, l23, S48⟩ := St.drop S47 0
   replace h19 := h19.up l23
   replace h20 := h20.up l23
   replace h21 := h21.up l23
   replace h13 := h13.up l23
   replace h14 := h14.up l23
   replace h15 := h15.up l23
   replace L0 := Mem.tr L0 l23
   clear S47
   replace S48 : St _ ((bx b6 [vI x7.1.Log, vI x7.1.Size, vU x7.1.Root.1, vU x7.1.Root.2, vI x7.1.At, vU x7.1.Sig.E, vU x7.1.Sig.S] 57) :: (bx b5 [vI x6.1.Id, vU x6.1.Key, vI x6.1.Delay, v16, v17, v18] 26) :: (bx b4 [vI x4.2.1.Log, vI x4.2.1.At, vU x4.2.1.Leaf.1, vU x4.2.1.Leaf.2, vU x4.2.1.Sig.E, vU x4.2.1.Sig.S] 35) :: (bx b3 [vI x3.2.1.Log, vI x3.2.1.At, vU x3.2.1.Leaf.1, vU x3.2.1.Leaf.2, vU x3.2.1.Sig.E, vU x3.2.1.Sig.S] 35) :: (bx b2 [vI x2.1.Log, vU x2.1.Key, vI x2.1.Delay] 40) :: (bx b1 [vI x4.1.Id, vU x4.1.Key, vI x4.1.Delay, v10, v11, v12] 26) :: As) _ := S48
   obtain ⟨m24, l24, S49⟩ := St.drop S48 0
   replace h13 := h13.up l24
   replace h14 := h14.up l24
   replace h15 := h15.up l24
   replace L0 := Mem.tr L0 l24
   clear S48
   replace S49 : St _ ((bx b5 [vI x6.1.Id, vU x6.1.Key, vI x6.1.Delay, v16, v17, v18] 26) :: (bx b4 [vI x4.2.1.Log, vI x4.2.1.At, vU x4.2.1.Leaf.1, vU x4.2.1.Leaf.2, vU x4.2.1.Sig.E, vU x4.2.1.Sig.S] 35) :: (bx b3 [vI x3.2.1.Log, vI x3.2.1.At, vU x3.2.1.Leaf.1, vU x3.2.1.Leaf.2, vU x3.2.1.Sig.E, vU x3.2.1.Sig.S] 35) :: (bx b2 [vI x2.1.Log, vU x2.1.Key, vI x2.1.Delay] 40) :: (bx b1 [vI x4.1.Id, vU x4.1.Key, vI x4.1.Delay, v10, v11, v12] 26) :: As) _ := S49
   obtain ⟨m25, l25, S50⟩ := St.drop S49 0
   replace h13 := h13.up l25
   replace h14 := h14.up l25
   replace h15 := h15.up l25
   replace L0 := Mem.tr L0 l25
   clear S49
   replace S50 : St _ ((bx b4 [vI x4.2.1.Log, vI x4.2.1.At, vU x4.2.1.Leaf.1, vU x4.2.1.Leaf.2, vU x4.2.1.Sig.E, vU x4.2.1.Sig.S] 35) :: (bx b3 [vI x3.2.1.Log, vI x3.2.1.At, vU x3.2.1.Leaf.1, vU x3.2.1.Leaf.2, vU x3.2.1.Sig.E, vU x3.2.1.Sig.S] 35) :: (bx b2 [vI x2.1.Log, vU x2.1.Key, vI x2.1.Delay] 40) :: (bx b1 [vI x4.1.Id, vU x4.1.Key, vI x4.1.Delay, v10, v11, v12] 26) :: As) _ := S50
   obtain ⟨m26, l26, S51⟩ := St.drop S50 0
   replace h13 := h13.up l26
   replace h14 := h14.up l26
   replace h15 := h15.up l26
   replace L0 := Mem.tr L0 l26
   clear S50
   replace S51 : St _ ((bx b3 [vI x3.2.1.Log, vI x3.2.1.At, vU x3.2.1.Leaf.1, vU x3.2.1.Leaf.2, vU x3.2.1.Sig.E, vU x3.2.1.Sig.S] 35) :: (bx b2 [vI x2.1.Log, vU x2.1.Key, vI x2.1.Delay] 40) :: (bx b1 [vI x4.1.Id, vU x4.1.Key, vI x4.1.Delay, v10, v11, v12] 26) :: As) _ := S51
   obtain ⟨m27, l27, S52⟩ := St.drop S51 0
   replace h13 := h13.up l27
   replace h14 := h14.up l27
   replace h15 := h15.up l27
   replace L0 := Mem.tr L0 l27
   clear S51
   replace S52 : St _ ((bx b2 [vI x2.1.Log, vU x2.1.Key, vI x2.1.Delay] 40) :: (bx b1 [vI x4.1.Id, vU x4.1.Key, vI x4.1.Delay, v10, v11, v12] 26) :: As) _ := S52
   obtain ⟨m28, l28, S53⟩ := St.drop S52 0
   replace L0 := Mem.tr L0 l28
   clear S52
   replace S53 : St _ ((bx b1 [vI x4.1.Id, vU x4.1.Key, vI x4.1.Delay, v10, v11, v12] 26) :: As) _ := S53
   obtain ⟨m29, l29, S54⟩ := St.drop S53 0
   replace L0 := Mem.tr L0 l29
   clear S53
   replace S54 : St _ (As) _ := S54
   have e0 := Option.some.inj hm
   subst e0
   exact outR [_] rfl ⟨rfl, trivial⟩ ⟨_, L0, S54, rfl⟩
 replace hm := ifF hc2 hm
 refine wpc_skip <| nrm <| wpc_seq ?_
 obtain ⟨x12, q12, hm⟩ := obind_some hm
 obtain ⟨x13, q13, hm⟩ := obind_some hm
 obtain ⟨x14, q14, hm⟩ := obind_some hm
 obtain ⟨x15, q15, hm⟩ := obind_some hm
 obtain ⟨x16, q16, hm⟩ := obind_some hm
 obtain ⟨x17, q17, hm⟩ := obind_some hm
 obtain ⟨x18, q18, hm⟩ := obind_some hm
 have HM : MonoAll [(139, fun (M : Mem) (v : Value) => v = pt b2 0), (140, fun (M : Mem) (v : Value) => v = vI x2.1.Log), (141, fun (M : Mem) (v : Value) => v = vb (x2.1.Log == 3)), (142, fun (M : Mem) (v : Value) => v = vb (x2.1.Log == 3)), (143, fun (M : Mem) (v : Value) => ((x2.1.Log == 3) = true → v = pt b2 2) ∧ ((x2.1.Log == 3) = false → v = undef)), (144, fun (M : Mem) (v : Value) => ((x2.1.Log == 3) = true → v = vI x2.1.Delay) ∧ ((x2.1.Log == 3) = false → v = undef)), (145, fun (M : Mem) (v : Value) => ((x2.1.Log == 3) = true → v = vb (x2.1.Delay == 20)) ∧ ((x2.1.Log == 3) = false → v = undef)), (146, fun (M : Mem) (v : Value) => v = vb ((x2.1.Log == 3) && (x2.1.Delay == 20))), (147, fun (M : Mem) (v : Value) => v = vb ((x2.1.Log == 3) && (x2.1.Delay == 20))), (148, fun (M : Mem) (v : Value) => (((x2.1.Log == 3) && (x2.1.Delay == 20)) = true → v = pt b3 0) ∧ (((x2.1.Log == 3) && (x2.1.Delay == 20)) = false → v = undef)), (149, fun (M : Mem) (v : Value) => (((x2.1.Log == 3) && (x2.1.Delay == 20)) = true → v = vI x3.2.1.Log) ∧ (((x2.1.Log == 3) && (x2.1.Delay == 20)) = false → v = undef)), (150, fun (M : Mem) (v : Value) => (((x2.1.Log == 3) && (x2.1.Delay == 20)) = true → v = vb (x3.2.1.Log == 3)) ∧ (((x2.1.Log == 3) && (x2.1.Delay == 20)) = false → v = undef)), (151, fun (M : Mem) (v : Value) => v = vb (((x2.1.Log == 3) && (x2.1.Delay == 20)) && (x3.2.1.Log == 3))), (152, fun (M : Mem) (v : Value) => v = vb (((x2.1.Log == 3) && (x2.1.Delay == 20)) && (x3.2.1.Log == 3))), (153, fun (M : Mem) (v : Value) => ((((x2.1.Log == 3) && (x2.1.Delay == 20)) && (x3.2.1.Log == 3)) = true → v = pt b3 1) ∧ ((((x2.1.Log == 3) && (x2.1.Delay == 20)) && (x3.2.1.Log == 3)) = false → v = undef)), (154, fun (M : Mem) (v : Value) => ((((x2.1.Log == 3) && (x2.1.Delay == 20)) && (x3.2.1.Log == 3)) = true → v = vI x3.2.1.At) ∧ ((((x2.1.Log == 3) && (x2.1.Delay == 20)) && (x3.2.1.Log == 3)) = false → v = undef)), (155, fun (M : Mem) (v : Value) => ((((x2.1.Log == 3) && (x2.1.Delay == 20)) && (x3.2.1.Log == 3)) = true → v = vb (x3.2.1.At == 5)) ∧ ((((x2.1.Log == 3) && (x2.1.Delay == 20)) && (x3.2.1.Log == 3)) = false → v = undef)), (156, fun (M : Mem) (v : Value) => v = vb ((((x2.1.Log == 3) && (x2.1.Delay == 20)) && (x3.2.1.Log == 3)) && (x3.2.1.At == 5))), (157, fun (M : Mem) (v : Value) => v = vb ((((x2.1.Log == 3) && (x2.1.Delay == 20)) && (x3.2.1.Log == 3)) && (x3.2.1.At == 5))), (158, fun (M : Mem) (v : Value) => (((((x2.1.Log == 3) && (x2.1.Delay == 20)) && (x3.2.1.Log == 3)) && (x3.2.1.At == 5)) = true → v = pt b3 2) ∧ (((((x2.1.Log == 3) && (x2.1.Delay == 20)) && (x3.2.1.Log == 3)) && (x3.2.1.At == 5)) = false → v = undef)), (159, fun (M : Mem) (v : Value) => (((((x2.1.Log == 3) && (x2.1.Delay == 20)) && (x3.2.1.Log == 3)) && (x3.2.1.At == 5)) = true → v = .agg #[vU x3.2.1.Leaf.1, vU x3.2.1.Leaf.2]) ∧ (((((x2.1.Log == 3) && (x2.1.Delay == 20)) && (x3.2.1.Log == 3)) && (x3.2.1.At == 5)) = false → v = undef)), (160, fun _ _ => True), (161, fun (M : Mem) (v : Value) => (((((x2.1.Log == 3) && (x2.1.Delay == 20)) && (x3.2.1.Log == 3)) && (x3.2.1.At == 5)) = true → ∃ (v22 : Value), v = v22 ∧ SlR M v22 ([97] : List UInt8)) ∧ (((((x2.1.Log == 3) && (x2.1.Delay == 20)) && (x3.2.1.Log == 3)) && (x3.2.1.At == 5)) = false → v = undef)), (162, fun (M : Mem) (v : Value) => (((((x2.1.Log == 3) && (x2.1.Delay == 20)) && (x3.2.1.Log == 3)) && (x3.2.1.At == 5)) = true → v = .agg #[vU x12.1, vU x12.2]) ∧ (((((x2.1.Log == 3) && (x2.1.Delay == 20)) && (x3.2.1.Log == 3)) && (x3.2.1.At == 5)) = false → v = undef)), (163, fun (M : Mem) (v : Value) => (((((x2.1.Log == 3) && (x2.1.Delay == 20)) && (x3.2.1.Log == 3)) && (x3.2.1.At == 5)) = true → v = vb (eqSum x3.2.1.Leaf x12)) ∧ (((((x2.1.Log == 3) && (x2.1.Delay == 20)) && (x3.2.1.Log == 3)) && (x3.2.1.At == 5)) = false → v = undef)), (164, fun (M : Mem) (v : Value) => v = vb (((((x2.1.Log == 3) && (x2.1.Delay == 20)) && (x3.2.1.Log == 3)) && (x3.2.1.At == 5)) && (eqSum x3.2.1.Leaf x12))), (165, fun (M : Mem) (v : Value) => v = vb (((((x2.1.Log == 3) && (x2.1.Delay == 20)) && (x3.2.1.Log == 3)) && (x3.2.1.At == 5)) && (eqSum x3.2.1.Leaf x12))), (166, fun (M : Mem) (v : Value) => ((((((x2.1.Log == 3) && (x2.1.Delay == 20)) && (x3.2.1.Log == 3)) && (x3.2.1.At == 5)) && (eqSum x3.2.1.Leaf x12)) = true → v = .agg #[vI x2.1.Log, vU x2.1.Key, vI x2.1.Delay]) ∧ ((((((x2.1.Log == 3) && (x2.1.Delay == 20)) && (x3.2.1.Log == 3)) && (x3.2.1.At == 5)) && (eqSum x3.2.1.Leaf x12)) = false → v = undef)), (167, fun (M : Mem) (v : Value) => ((((((x2.1.Log == 3) && (x2.1.Delay == 20)) && (x3.2.1.Log == 3)) && (x3.2.1.At == 5)) && (eqSum x3.2.1.Leaf x12)) = true → v = .agg #[vI x3.2.1.Log, vI x3.2.1.At, vU x3.2.1.Leaf.1, vU x3.2.1.Leaf.2, vU x3.2.1.Sig.E, vU x3.2.1.Sig.S]) ∧ ((((((x2.1.Log == 3) && (x2.1.Delay == 20)) && (x3.2.1.Log == 3)) && (x3.2.1.At == 5)) && (eqSum x3.2.1.Leaf x12)) = false → v = undef)), (168, fun (M : Mem) (v : Value) => ((((((x2.1.Log == 3) && (x2.1.Delay == 20)) && (x3.2.1.Log == 3)) && (x3.2.1.At == 5)) && (eqSum x3.2.1.Leaf x12)) = true → v = vI x13) ∧ ((((((x2.1.Log == 3) && (x2.1.Delay == 20)) && (x3.2.1.Log == 3)) && (x3.2.1.At == 5)) && (eqSum x3.2.1.Leaf x12)) = false → v = undef)), (169, fun (M : Mem) (v : Value) => ((((((x2.1.Log == 3) && (x2.1.Delay == 20)) && (x3.2.1.Log == 3)) && (x3.2.1.At == 5)) && (eqSum x3.2.1.Leaf x12)) = true → v = vb (x13 == 0)) ∧ ((((((x2.1.Log == 3) && (x2.1.Delay == 20)) && (x3.2.1.Log == 3)) && (x3.2.1.At == 5)) && (eqSum x3.2.1.Leaf x12)) = false → v = undef)), (170, fun (M : Mem) (v : Value) => v = vb ((((((x2.1.Log == 3) && (x2.1.Delay == 20)) && (x3.2.1.Log == 3)) && (x3.2.1.At == 5)) && (eqSum x3.2.1.Leaf x12)) && (x13 == 0))), (171, fun (M : Mem) (v : Value) => v = vb ((((((x2.1.Log == 3) && (x2.1.Delay == 20)) && (x3.2.1.Log == 3)) && (x3.2.1.At == 5)) && (eqSum x3.2.1.Leaf x12)) && (x13 == 0))), (172, fun (M : Mem) (v : Value) => (((((((x2.1.Log == 3) && (x2.1.Delay == 20)) && (x3.2.1.Log == 3)) && (x3.2.1.At == 5)) && (eqSum x3.2.1.Leaf x12)) && (x13 == 0)) = true → v = .agg #[vI x7.1.Log, vI x7.1.Size, vU x7.1.Root.1, vU x7.1.Root.2, vI x7.1.At, vU x7.1.Sig.E, vU x7.1.Sig.S]) ∧ (((((((x2.1.Log == 3) && (x2.1.Delay == 20)) && (x3.2.1.Log == 3)) && (x3.2.1.At == 5)) && (eqSum x3.2.1.Leaf x12)) && (x13 == 0)) = false → v = undef)), (173, fun (M : Mem) (v : Value) => (((((((x2.1.Log == 3) && (x2.1.Delay == 20)) && (x3.2.1.Log == 3)) && (x3.2.1.At == 5)) && (eqSum x3.2.1.Leaf x12)) && (x13 == 0)) = true → v = .agg #[vI x8.1.Log, vI x8.1.Size, vU x8.1.Root.1, vU x8.1.Root.2, vI x8.1.At, vU x8.1.Sig.E, vU x8.1.Sig.S]) ∧ (((((((x2.1.Log == 3) && (x2.1.Delay == 20)) && (x3.2.1.Log == 3)) && (x3.2.1.At == 5)) && (eqSum x3.2.1.Leaf x12)) && (x13 == 0)) = false → v = undef)), (174, fun (M : Mem) (v : Value) => (((((((x2.1.Log == 3) && (x2.1.Delay == 20)) && (x3.2.1.Log == 3)) && (x3.2.1.At == 5)) && (eqSum x3.2.1.Leaf x12)) && (x13 == 0)) = true → v = vb (eq_api_Head x7.1 x8.1)) ∧ (((((((x2.1.Log == 3) && (x2.1.Delay == 20)) && (x3.2.1.Log == 3)) && (x3.2.1.At == 5)) && (eqSum x3.2.1.Leaf x12)) && (x13 == 0)) = false → v = undef)), (175, fun (M : Mem) (v : Value) => v = vb (((((((x2.1.Log == 3) && (x2.1.Delay == 20)) && (x3.2.1.Log == 3)) && (x3.2.1.At == 5)) && (eqSum x3.2.1.Leaf x12)) && (x13 == 0)) && (eq_api_Head x7.1 x8.1))), (176, fun (M : Mem) (v : Value) => v = vb (((((((x2.1.Log == 3) && (x2.1.Delay == 20)) && (x3.2.1.Log == 3)) && (x3.2.1.At == 5)) && (eqSum x3.2.1.Leaf x12)) && (x13 == 0)) && (eq_api_Head x7.1 x8.1))), (177, fun (M : Mem) (v : Value) => ((((((((x2.1.Log == 3) && (x2.1.Delay == 20)) && (x3.2.1.Log == 3)) && (x3.2.1.At == 5)) && (eqSum x3.2.1.Leaf x12)) && (x13 == 0)) && (eq_api_Head x7.1 x8.1)) = true → v = .agg #[vI x2.1.Log, vU x2.1.Key, vI x2.1.Delay]) ∧ ((((((((x2.1.Log == 3) && (x2.1.Delay == 20)) && (x3.2.1.Log == 3)) && (x3.2.1.At == 5)) && (eqSum x3.2.1.Leaf x12)) && (x13 == 0)) && (eq_api_Head x7.1 x8.1)) = false → v = undef)), (178, fun (M : Mem) (v : Value) => ((((((((x2.1.Log == 3) && (x2.1.Delay == 20)) && (x3.2.1.Log == 3)) && (x3.2.1.At == 5)) && (eqSum x3.2.1.Leaf x12)) && (x13 == 0)) && (eq_api_Head x7.1 x8.1)) = true → v = .agg #[vI x7.1.Log, vI x7.1.Size, vU x7.1.Root.1, vU x7.1.Root.2, vI x7.1.At, vU x7.1.Sig.E, vU x7.1.Sig.S]) ∧ ((((((((x2.1.Log == 3) && (x2.1.Delay == 20)) && (x3.2.1.Log == 3)) && (x3.2.1.At == 5)) && (eqSum x3.2.1.Leaf x12)) && (x13 == 0)) && (eq_api_Head x7.1 x8.1)) = false → v = undef)), (179, fun (M : Mem) (v : Value) => ((((((((x2.1.Log == 3) && (x2.1.Delay == 20)) && (x3.2.1.Log == 3)) && (x3.2.1.At == 5)) && (eqSum x3.2.1.Leaf x12)) && (x13 == 0)) && (eq_api_Head x7.1 x8.1)) = true → v = vI x14) ∧ ((((((((x2.1.Log == 3) && (x2.1.Delay == 20)) && (x3.2.1.Log == 3)) && (x3.2.1.At == 5)) && (eqSum x3.2.1.Leaf x12)) && (x13 == 0)) && (eq_api_Head x7.1 x8.1)) = false → v = undef)), (180, fun (M : Mem) (v : Value) => ((((((((x2.1.Log == 3) && (x2.1.Delay == 20)) && (x3.2.1.Log == 3)) && (x3.2.1.At == 5)) && (eqSum x3.2.1.Leaf x12)) && (x13 == 0)) && (eq_api_Head x7.1 x8.1)) = true → v = vb (x14 == 0)) ∧ ((((((((x2.1.Log == 3) && (x2.1.Delay == 20)) && (x3.2.1.Log == 3)) && (x3.2.1.At == 5)) && (eqSum x3.2.1.Leaf x12)) && (x13 == 0)) && (eq_api_Head x7.1 x8.1)) = false → v = undef)), (181, fun (M : Mem) (v : Value) => v = vb ((((((((x2.1.Log == 3) && (x2.1.Delay == 20)) && (x3.2.1.Log == 3)) && (x3.2.1.At == 5)) && (eqSum x3.2.1.Leaf x12)) && (x13 == 0)) && (eq_api_Head x7.1 x8.1)) && (x14 == 0))), (182, fun (M : Mem) (v : Value) => v = vb ((((((((x2.1.Log == 3) && (x2.1.Delay == 20)) && (x3.2.1.Log == 3)) && (x3.2.1.At == 5)) && (eqSum x3.2.1.Leaf x12)) && (x13 == 0)) && (eq_api_Head x7.1 x8.1)) && (x14 == 0))), (183, fun (M : Mem) (v : Value) => (((((((((x2.1.Log == 3) && (x2.1.Delay == 20)) && (x3.2.1.Log == 3)) && (x3.2.1.At == 5)) && (eqSum x3.2.1.Leaf x12)) && (x13 == 0)) && (eq_api_Head x7.1 x8.1)) && (x14 == 0)) = true → v = v19) ∧ (((((((((x2.1.Log == 3) && (x2.1.Delay == 20)) && (x3.2.1.Log == 3)) && (x3.2.1.At == 5)) && (eqSum x3.2.1.Leaf x12)) && (x13 == 0)) && (eq_api_Head x7.1 x8.1)) && (x14 == 0)) = false → v = undef)), (184, fun (M : Mem) (v : Value) => (((((((((x2.1.Log == 3) && (x2.1.Delay == 20)) && (x3.2.1.Log == 3)) && (x3.2.1.At == 5)) && (eqSum x3.2.1.Leaf x12)) && (x13 == 0)) && (eq_api_Head x7.1 x8.1)) && (x14 == 0)) = true → ∃ (p1 : Value), v = p1 ∧ PtO v19 p1 ((0 : Int).toNat * 2)) ∧ (((((((((x2.1.Log == 3) && (x2.1.Delay == 20)) && (x3.2.1.Log == 3)) && (x3.2.1.At == 5)) && (eqSum x3.2.1.Leaf x12)) && (x13 == 0)) && (eq_api_Head x7.1 x8.1)) && (x14 == 0)) = false → v = undef)), (185, fun (M : Mem) (v : Value) => (((((((((x2.1.Log == 3) && (x2.1.Delay == 20)) && (x3.2.1.Log == 3)) && (x3.2.1.At == 5)) && (eqSum x3.2.1.Leaf x12)) && (x13 == 0)) && (eq_api_Head x7.1 x8.1)) && (x14 == 0)) = true → v = .agg #[vU x15.1, vU x15.2]) ∧ (((((((((x2.1.Log == 3) && (x2.1.Delay == 20)) && (x3.2.1.Log == 3)) && (x3.2.1.At == 5)) && (eqSum x3.2.1.Leaf x12)) && (x13 == 0)) && (eq_api_Head x7.1 x8.1)) && (x14 == 0)) = false → v = undef)), (186, fun _ _ => True), (187, fun (M : Mem) (v : Value) => (((((((((x2.1.Log == 3) && (x2.1.Delay == 20)) && (x3.2.1.Log == 3)) && (x3.2.1.At == 5)) && (eqSum x3.2.1.Leaf x12)) && (x13 == 0)) && (eq_api_Head x7.1 x8.1)) && (x14 == 0)) = true → ∃ (v27 : Value), v = v27 ∧ SlR M v27 ([97] : List UInt8)) ∧ (((((((((x2.1.Log == 3) && (x2.1.Delay == 20)) && (x3.2.1.Log == 3)) && (x3.2.1.At == 5)) && (eqSum x3.2.1.Leaf x12)) && (x13 == 0)) && (eq_api_Head x7.1 x8.1)) && (x14 == 0)) = false → v = undef)), (188, fun (M : Mem) (v : Value) => (((((((((x2.1.Log == 3) && (x2.1.Delay == 20)) && (x3.2.1.Log == 3)) && (x3.2.1.At == 5)) && (eqSum x3.2.1.Leaf x12)) && (x13 == 0)) && (eq_api_Head x7.1 x8.1)) && (x14 == 0)) = true → v = .agg #[vU x16.1, vU x16.2]) ∧ (((((((((x2.1.Log == 3) && (x2.1.Delay == 20)) && (x3.2.1.Log == 3)) && (x3.2.1.At == 5)) && (eqSum x3.2.1.Leaf x12)) && (x13 == 0)) && (eq_api_Head x7.1 x8.1)) && (x14 == 0)) = false → v = undef)), (189, fun (M : Mem) (v : Value) => (((((((((x2.1.Log == 3) && (x2.1.Delay == 20)) && (x3.2.1.Log == 3)) && (x3.2.1.At == 5)) && (eqSum x3.2.1.Leaf x12)) && (x13 == 0)) && (eq_api_Head x7.1 x8.1)) && (x14 == 0)) = true → v = vb (eqSum x15 x16)) ∧ (((((((((x2.1.Log == 3) && (x2.1.Delay == 20)) && (x3.2.1.Log == 3)) && (x3.2.1.At == 5)) && (eqSum x3.2.1.Leaf x12)) && (x13 == 0)) && (eq_api_Head x7.1 x8.1)) && (x14 == 0)) = false → v = undef)), (190, fun (M : Mem) (v : Value) => v = vb (((((((((x2.1.Log == 3) && (x2.1.Delay == 20)) && (x3.2.1.Log == 3)) && (x3.2.1.At == 5)) && (eqSum x3.2.1.Leaf x12)) && (x13 == 0)) && (eq_api_Head x7.1 x8.1)) && (x14 == 0)) && (eqSum x15 x16))), (191, fun (M : Mem) (v : Value) => v = vb (((((((((x2.1.Log == 3) && (x2.1.Delay == 20)) && (x3.2.1.Log == 3)) && (x3.2.1.At == 5)) && (eqSum x3.2.1.Leaf x12)) && (x13 == 0)) && (eq_api_Head x7.1 x8.1)) && (x14 == 0)) && (eqSum x15 x16))), (192, fun (M : Mem) (v : Value) => ((((((((((x2.1.Log == 3) && (x2.1.Delay == 20)) && (x3.2.1.Log == 3)) && (x3.2.1.At == 5)) && (eqSum x3.2.1.Leaf x12)) && (x13 == 0)) && (eq_api_Head x7.1 x8.1)) && (x14 == 0)) && (eqSum x15 x16)) = true → v = v19) ∧ ((((((((((x2.1.Log == 3) && (x2.1.Delay == 20)) && (x3.2.1.Log == 3)) && (x3.2.1.At == 5)) && (eqSum x3.2.1.Leaf x12)) && (x13 == 0)) && (eq_api_Head x7.1 x8.1)) && (x14 == 0)) && (eqSum x15 x16)) = false → v = undef)), (193, fun (M : Mem) (v : Value) => ((((((((((x2.1.Log == 3) && (x2.1.Delay == 20)) && (x3.2.1.Log == 3)) && (x3.2.1.At == 5)) && (eqSum x3.2.1.Leaf x12)) && (x13 == 0)) && (eq_api_Head x7.1 x8.1)) && (x14 == 0)) && (eqSum x15 x16)) = true → ∃ (p2 : Value), v = p2 ∧ PtO v19 p2 ((1 : Int).toNat * 2)) ∧ ((((((((((x2.1.Log == 3) && (x2.1.Delay == 20)) && (x3.2.1.Log == 3)) && (x3.2.1.At == 5)) && (eqSum x3.2.1.Leaf x12)) && (x13 == 0)) && (eq_api_Head x7.1 x8.1)) && (x14 == 0)) && (eqSum x15 x16)) = false → v = undef)), (194, fun (M : Mem) (v : Value) => ((((((((((x2.1.Log == 3) && (x2.1.Delay == 20)) && (x3.2.1.Log == 3)) && (x3.2.1.At == 5)) && (eqSum x3.2.1.Leaf x12)) && (x13 == 0)) && (eq_api_Head x7.1 x8.1)) && (x14 == 0)) && (eqSum x15 x16)) = true → v = .agg #[vU x17.1, vU x17.2]) ∧ ((((((((((x2.1.Log == 3) && (x2.1.Delay == 20)) && (x3.2.1.Log == 3)) && (x3.2.1.At == 5)) && (eqSum x3.2.1.Leaf x12)) && (x13 == 0)) && (eq_api_Head x7.1 x8.1)) && (x14 == 0)) && (eqSum x15 x16)) = false → v = undef)), (195, fun (M : Mem) (v : Value) => ((((((((((x2.1.Log == 3) && (x2.1.Delay == 20)) && (x3.2.1.Log == 3)) && (x3.2.1.At == 5)) && (eqSum x3.2.1.Leaf x12)) && (x13 == 0)) && (eq_api_Head x7.1 x8.1)) && (x14 == 0)) && (eqSum x15 x16)) = true → ∃ (v31 : Value), v = v31 ∧ SlR M v31 ([0, 98] : List UInt8)) ∧ ((((((((((x2.1.Log == 3) && (x2.1.Delay == 20)) && (x3.2.1.Log == 3)) && (x3.2.1.At == 5)) && (eqSum x3.2.1.Leaf x12)) && (x13 == 0)) && (eq_api_Head x7.1 x8.1)) && (x14 == 0)) && (eqSum x15 x16)) = false → v = undef)), (196, fun (M : Mem) (v : Value) => ((((((((((x2.1.Log == 3) && (x2.1.Delay == 20)) && (x3.2.1.Log == 3)) && (x3.2.1.At == 5)) && (eqSum x3.2.1.Leaf x12)) && (x13 == 0)) && (eq_api_Head x7.1 x8.1)) && (x14 == 0)) && (eqSum x15 x16)) = true → v = .agg #[vU x18.1, vU x18.2]) ∧ ((((((((((x2.1.Log == 3) && (x2.1.Delay == 20)) && (x3.2.1.Log == 3)) && (x3.2.1.At == 5)) && (eqSum x3.2.1.Leaf x12)) && (x13 == 0)) && (eq_api_Head x7.1 x8.1)) && (x14 == 0)) && (eqSum x15 x16)) = false → v = undef)), (197, fun (M : Mem) (v : Value) => ((((((((((x2.1.Log == 3) && (x2.1.Delay == 20)) && (x3.2.1.Log == 3)) && (x3.2.1.At == 5)) && (eqSum x3.2.1.Leaf x12)) && (x13 == 0)) && (eq_api_Head x7.1 x8.1)) && (x14 == 0)) && (eqSum x15 x16)) = true → v = vb (eqSum x17 x18)) ∧ ((((((((((x2.1.Log == 3) && (x2.1.Delay == 20)) && (x3.2.1.Log == 3)) && (x3.2.1.At == 5)) && (eqSum x3.2.1.Leaf x12)) && (x13 == 0)) && (eq_api_Head x7.1 x8.1)) && (x14 == 0)) && (eqSum x15 x16)) = false → v = undef)), (198, fun (M : Mem) (v : Value) => v = vb ((((((((((x2.1.Log == 3) && (x2.1.Delay == 20)) && (x3.2.1.Log == 3)) && (x3.2.1.At == 5)) && (eqSum x3.2.1.Leaf x12)) && (x13 == 0)) && (eq_api_Head x7.1 x8.1)) && (x14 == 0)) && (eqSum x15 x16)) && (eqSum x17 x18)))] := ⟨(fun _ _ _ _ h => h), (fun _ _ _ _ h => h), (fun _ _ _ _ h => h), (fun _ _ _ _ h => h), (fun _ _ _ _ h => h), (fun _ _ _ _ h => h), (fun _ _ _ _ h => h), (fun _ _ _ _ h => h), (fun _ _ _ _ h => h), (fun _ _ _ _ h => h), (fun _ _ _ _ h => h), (fun _ _ _ _ h => h), (fun _ _ _ _ h => h), (fun _ _ _ _ h => h), (fun _ _ _ _ h => h), (fun _ _ _ _ h => h), (fun _ _ _ _ h => h), (fun _ _ _ _ h => h), (fun _ _ _ _ h => h), (fun _ _ _ _ h => h), (fun _ _ _ _ h => h), (fun _ _ _ _ h => h), (fun _ _ _ l h => ⟨fun c => let ⟨v22, e, h37⟩ := h.1 c; ⟨v22, e, h37.up l⟩, h.2⟩), (fun _ _ _ _ h => h), (fun _ _ _ _ h => h), (fun _ _ _ _ h => h), (fun _ _ _ _ h => h), (fun _ _ _ _ h => h), (fun _ _ _ _ h => h), (fun _ _ _ _ h => h), (fun _ _ _ _ h => h), (fun _ _ _ _ h => h), (fun _ _ _ _ h => h), (fun _ _ _ _ h => h), (fun _ _ _ _ h => h), (fun _ _ _ _ h => h), (fun _ _ _ _ h => h), (fun _ _ _ _ h => h), (fun _ _ _ _ h => h), (fun _ _ _ _ h => h), (fun _ _ _ _ h => h), (fun _ _ _ _ h => h), (fun _ _ _ _ h => h), (fun _ _ _ _ h => h), (fun _ _ _ _ h => h), (fun _ _ _ l h => ⟨fun c => let ⟨p1, e, h39⟩ := h.1 c; ⟨p1, e, h39⟩, h.2⟩), (fun _ _ _ _ h => h), (fun _ _ _ _ h => h), (fun _ _ _ l h => ⟨fun c => let ⟨v27, e, h43⟩ := h.1 c; ⟨v27, e, h43.up l⟩, h.2⟩), (fun _ _ _ _ h => h), (fun _ _ _ _ h => h), (fun _ _ _ _ h => h), (fun _ _ _ _ h => h), (fun _ _ _ _ h => h), (fun _ _ _ l h => ⟨fun c => let ⟨p2, e, h45⟩ := h.1 c; ⟨p2, e, h45⟩, h.2⟩), (fun _ _ _ _ h => h), (fun _ _ _ l h => ⟨fun c => let ⟨v31, e, h47⟩ := h.1 c; ⟨v31, e, h47.up l⟩, h.2⟩), (fun _ _ _ _ h => h), (fun _ _ _ _ h => h), (fun _ _ _ _ h => h), trivial⟩
 refine wpc_flowG HM 60 mixed rfl rfl rfl [139, 140, 141, 142, 143, 144, 145, 146, 147, 148, 149, 150, 151, 152, 153, 154, 155, 156, 157, 158, 159, 160, 161, 162, 163, 164, 165, 166, 167, 168, 169, 170, 171, 172, 173, 174, 175, 176, 177, 178, 179, 180, 181, 182, 183, 184, 185, 186, 187, 188, 189, 190, 191, 192, 193, 194, 195, 196, 197, 198] (fun L f M w => ∃ (X1 : List Ow), ∃ (X2 : List Ow), ((L 21 = false → X1 = []) ∧ (L 21 = true → L 22 = false → ((((((x2.1.Log == 3) && (x2.1.Delay == 20)) && (x3.2.1.Log == 3)) && (x3.2.1.At == 5)) = true → (RowS M X1 1 (f 160) ([97] : List UInt8))) ∧ (((((x2.1.Log == 3) && (x2.1.Delay == 20)) && (x3.2.1.Log == 3)) && (x3.2.1.At == 5)) = false → X1 = []))) ∧ (L 22 = true → X1 = [])) ∧ ((L 47 = false → X2 = []) ∧ (L 47 = true → L 48 = false → ((((((((((x2.1.Log == 3) && (x2.1.Delay == 20)) && (x3.2.1.Log == 3)) && (x3.2.1.At == 5)) && (eqSum x3.2.1.Leaf x12)) && (x13 == 0)) && (eq_api_Head x7.1 x8.1)) && (x14 == 0)) = true → (RowS M X2 1 (f 186) ([97] : List UInt8))) ∧ (((((((((x2.1.Log == 3) && (x2.1.Delay == 20)) && (x3.2.1.Log == 3)) && (x3.2.1.At == 5)) && (eqSum x3.2.1.Leaf x12)) && (x13 == 0)) && (eq_api_Head x7.1 x8.1)) && (x14 == 0)) = false → X2 = []))) ∧ (L 48 = true → X2 = [])) ∧ St M ((bx b8 [vI x11.1.Log, vI x11.1.Size, vU x11.1.Root.1, vU x11.1.Root.2, vI x11.1.At, vU x11.1.Sig.E, vU x11.1.Sig.S] 57) :: (row 2 v20 c2 x10.1.length) :: (row 2 v19 c1 x9.1.length) :: (bx b7 [vI x8.1.Log, vI x8.1.Size, vU x8.1.Root.1, vU x8.1.Root.2, vI x8.1.At, vU x8.1.Sig.E, vU x8.1.Sig.S] 57) :: (bx b6 [vI x7.1.Log, vI x7.1.Size, vU x7.1.Root.1, vU x7.1.Root.2, vI x7.1.At, vU x7.1.Sig.E, vU x7.1.Sig.S] 57) :: (bx b5 [vI x6.1.Id, vU x6.1.Key, vI x6.1.Delay, v16, v17, v18] 26) :: (bx b4 [vI x4.2.1.Log, vI x4.2.1.At, vU x4.2.1.Leaf.1, vU x4.2.1.Leaf.2, vU x4.2.1.Sig.E, vU x4.2.1.Sig.S] 35) :: (bx b3 [vI x3.2.1.Log, vI x3.2.1.At, vU x3.2.1.Leaf.1, vU x3.2.1.Leaf.2, vU x3.2.1.Sig.E, vU x3.2.1.Sig.S] 35) :: (bx b2 [vI x2.1.Log, vU x2.1.Key, vI x2.1.Delay] 40) :: (bx b1 [vI x4.1.Id, vU x4.1.Key, vI x4.1.Delay, v10, v11, v12] 26) :: (X1 ++ (X2 ++ As))) w) (⟨[], [], ⟨fun _ => rfl, fun hx _ => ff hx, fun hx => ff hx⟩, ⟨fun _ => rfl, fun hx _ => ff hx, fun hx => ff hx⟩, St.drew S44 _⟩) ?_ ?_
 · refine ⟨?_, ?_, ?_, ?_, ?_, ?_, ?_, ?_, ?_, ?_, ?_, ?_, ?_, ?_, ?_, ?_, ?_, ?_, ?_, ?_, ?_, ?_, ?_, ?_, ?_, ?_, ?_, ?_, ?_, ?_, ?_, ?_, ?_, ?_, ?_, ?_, ?_, ?_, ?_, ?_, ?_, ?_, ?_, ?_, ?_, ?_, ?_, ?_, ?_, ?_, ?_, ?_, ?_, ?_, ?_, ?_, ?_, ?_, ?_, ?_, trivial⟩
   · intro L f12 w48 hL hd hc ⟨m30, L1, ⟨X1, X2, C1, C2, S55⟩, K, hO⟩
     obtain ⟨u12, rfl⟩ := fr_of (N := 212) (L := []) hO trivial
     have L2 := Mem.rfl' m30
     exact s_fld (n := 0) rfl Try.underlying40 rfl rfl Try.sizeOf3 <| wpn <| ⟨m30, Mem.tr L1 L2, ⟨X1, X2, C1, C2, S55⟩, facts_step HM rfl K L2 rfl rfl rfl, outP⟩
   · intro L f13 w49 hL hd hc ⟨m31, L3, ⟨X1, X2, C3, C4, S56⟩, K, hO⟩
     obtain ⟨u13, rfl⟩ := fr_of (N := 212) (L := [(139, _)]) hO ⟨K 0 (dep hd rfl), trivial⟩
     have L4 := Mem.rfl' m31
     exact s_ld (i := 8) (cs := [vI x2.1.Log]) S56 rfl rfl Try.isAgg3 Try.sizeOf3 rfl (fun _ => rfl) <| wpn <| ⟨m31, Mem.tr L3 L4, ⟨X1, X2, C3, C4, S56⟩, facts_step HM rfl K L4 rfl rfl rfl, outP⟩
   · intro L f14 w50 hL hd hc ⟨m32, L5, ⟨X1, X2, C5, C6, S57⟩, K, hO⟩
     obtain ⟨u14, rfl⟩ := fr_of (N := 212) (L := [(140, _)]) hO ⟨K 1 (dep hd rfl), trivial⟩
     have L6 := Mem.rfl' m32
     exact s_eql (m := x2.1.Log) (n := 3) rfl rfl <| wpn <| ⟨m32, Mem.tr L5 L6, ⟨X1, X2, C5, C6, S57⟩, facts_step HM rfl K L6 rfl rfl rfl, outP⟩
   · intro L f15 w51 hL hd hc ⟨m33, L7, ⟨X1, X2, C7, C8, S58⟩, K, hO⟩
     obtain ⟨u15, rfl⟩ := fr_of (N := 212) (L := [(141, _)]) hO ⟨K 2 (dep hd rfl), trivial⟩
     have L8 := Mem.rfl' m33
     exact s_mvv (v := vb (x2.1.Log == 3)) rfl <| wpn <| ⟨m33, Mem.tr L7 L8, ⟨X1, X2, C7, C8, S58⟩, facts_step HM rfl K L8 rfl rfl rfl, outP⟩
   · intro L f16 w52 hL hd hc ⟨m34, L9, ⟨X1, X2, C9, C10, S59⟩, K, hO⟩
     rcases bool_tf (x2.1.Log == 3) with hb12 | hb12
     · obtain ⟨u16, rfl⟩ := fr_of (N := 212) (L := [(142, _)]) hO ⟨K 3 (dep hd rfl), trivial⟩
       have L10 := Mem.rfl' m34
       exact wpl_yes (d := 142) rfl rfl (congrArg Value.bool hb12) <| s_fld (n := 0) rfl Try.underlying40 rfl rfl Try.sizeOf3 <| wpn <| ⟨m34, Mem.tr L9 L10, ⟨X1, X2, C9, C10, S59⟩, facts_step HM rfl K L10 rfl rfl ⟨fun _ => rfl, fun hx => tf hb12 hx⟩, outP⟩
     obtain ⟨u17, rfl⟩ := fr_of (N := 212) (L := [(142, _)]) hO ⟨K 3 (dep hd rfl), trivial⟩
     have L11 := Mem.rfl' m34
     exact wpl_no (d := 142) rfl rfl (congrArg Value.bool hb12) <| wpn <| ⟨m34, Mem.tr L9 L11, ⟨X1, X2, C9, C10, S59⟩, facts_step HM rfl K L11 rfl rfl ⟨fun hx => tf hx hb12, fun _ => rfl⟩, outP⟩
   · intro L f17 w53 hL hd hc ⟨m35, L12, ⟨X1, X2, C11, C12, S60⟩, K, hO⟩
     rcases bool_tf (x2.1.Log == 3) with hb13 | hb13
     · obtain ⟨u18, rfl⟩ := fr_of (N := 212) (L := [(142, _), (143, _)]) hO ⟨K 3 (dep hd rfl), (K 4 (dep hd rfl)).1 hb13, trivial⟩
       have L13 := Mem.rfl' m35
       exact wpl_yes (d := 142) rfl rfl (congrArg Value.bool hb13) <| s_ld (i := 8) (cs := [vI x2.1.Delay]) S60 rfl rfl Try.isAgg3 Try.sizeOf3 rfl (fun _ => rfl) <| wpn <| ⟨m35, Mem.tr L12 L13, ⟨X1, X2, C11, C12, S60⟩, facts_step HM rfl K L13 rfl rfl ⟨fun _ => rfl, fun hx => tf hb13 hx⟩, outP⟩
     obtain ⟨u19, rfl⟩ := fr_of (N := 212) (L := [(142, _)]) hO ⟨K 3 (dep hd rfl), trivial⟩
     have L14 := Mem.rfl' m35
     exact wpl_no (d := 142) rfl rfl (congrArg Value.bool hb13) <| wpn <| ⟨m35, Mem.tr L12 L14, ⟨X1, X2, C11, C12, S60⟩, facts_step HM rfl K L14 rfl rfl ⟨fun hx => tf hx hb13, fun _ => rfl⟩, outP⟩
   · intro L f18 w54 hL hd hc ⟨m36, L15, ⟨X1, X2, C13, C14, S61⟩, K, hO⟩
     rcases bool_tf (x2.1.Log == 3) with hb14 | hb14
     · obtain ⟨u20, rfl⟩ := fr_of (N := 212) (L := [(142, _), (144, _)]) hO ⟨K 3 (dep hd rfl), (K 5 (dep hd rfl)).1 hb14, trivial⟩
       have L16 := Mem.rfl' m36
       exact wpl_yes (d := 142) rfl rfl (congrArg Value.bool hb14) <| s_eql (m := x2.1.Delay) (n := 20) rfl rfl <| wpn <| ⟨m36, Mem.tr L15 L16, ⟨X1, X2, C13, C14, S61⟩, facts_step HM rfl K L16 rfl rfl ⟨fun _ => rfl, fun hx => tf hb14 hx⟩, outP⟩
     obtain ⟨u21, rfl⟩ := fr_of (N := 212) (L := [(142, _)]) hO ⟨K 3 (dep hd rfl), trivial⟩
     have L17 := Mem.rfl' m36
     exact wpl_no (d := 142) rfl rfl (congrArg Value.bool hb14) <| wpn <| ⟨m36, Mem.tr L15 L17, ⟨X1, X2, C13, C14, S61⟩, facts_step HM rfl K L17 rfl rfl ⟨fun hx => tf hx hb14, fun _ => rfl⟩, outP⟩
   · intro L f19 w55 hL hd hc ⟨m37, L18, ⟨X1, X2, C15, C16, S62⟩, K, hO⟩
     rcases bool_tf (x2.1.Log == 3) with hb15 | hb15
     · obtain ⟨u22, rfl⟩ := fr_of (N := 212) (L := [(142, _), (145, _)]) hO ⟨K 3 (dep hd rfl), (K 6 (dep hd rfl)).1 hb15, trivial⟩
       have L19 := Mem.rfl' m37
       exact s_pickT (congrArg Value.bool hb15) rfl <| wpn <| ⟨m37, Mem.tr L18 L19, ⟨X1, X2, C15, C16, S62⟩, facts_step HM rfl K L19 rfl rfl (congrArg Value.bool (and_t hb15)), outP⟩
     · obtain ⟨u23, rfl⟩ := fr_of (N := 212) (L := [(142, _)]) hO ⟨K 3 (dep hd rfl), trivial⟩
       have L20 := Mem.rfl' m37
       exact s_pickF (congrArg Value.bool hb15) rfl <| wpn <| ⟨m37, Mem.tr L18 L20, ⟨X1, X2, C15, C16, S62⟩, facts_step HM rfl K L20 rfl rfl (congrArg Value.bool (and_f hb15)), outP⟩
   · intro L f20 w56 hL hd hc ⟨m38, L21, ⟨X1, X2, C17, C18, S63⟩, K, hO⟩
     obtain ⟨u24, rfl⟩ := fr_of (N := 212) (L := [(146, _)]) hO ⟨K 7 (dep hd rfl), trivial⟩
     have L22 := Mem.rfl' m38
     exact s_mvv (v := vb ((x2.1.Log == 3) && (x2.1.Delay == 20))) rfl <| wpn <| ⟨m38, Mem.tr L21 L22, ⟨X1, X2, C17, C18, S63⟩, facts_step HM rfl K L22 rfl rfl rfl, outP⟩
   · intro L f21 w57 hL hd hc ⟨m39, L23, ⟨X1, X2, C19, C20, S64⟩, K, hO⟩
     rcases bool_tf ((x2.1.Log == 3) && (x2.1.Delay == 20)) with hb16 | hb16
     · obtain ⟨u25, rfl⟩ := fr_of (N := 212) (L := [(147, _)]) hO ⟨K 8 (dep hd rfl), trivial⟩
       have L24 := Mem.rfl' m39
       exact wpl_yes (d := 147) rfl rfl (congrArg Value.bool hb16) <| s_fld (n := 0) rfl Try.underlying35 rfl rfl Try.sizeOf3 <| wpn <| ⟨m39, Mem.tr L23 L24, ⟨X1, X2, C19, C20, S64⟩, facts_step HM rfl K L24 rfl rfl ⟨fun _ => rfl, fun hx => tf hb16 hx⟩, outP⟩
     obtain ⟨u26, rfl⟩ := fr_of (N := 212) (L := [(147, _)]) hO ⟨K 8 (dep hd rfl), trivial⟩
     have L25 := Mem.rfl' m39
     exact wpl_no (d := 147) rfl rfl (congrArg Value.bool hb16) <| wpn <| ⟨m39, Mem.tr L23 L25, ⟨X1, X2, C19, C20, S64⟩, facts_step HM rfl K L25 rfl rfl ⟨fun hx => tf hx hb16, fun _ => rfl⟩, outP⟩
   · intro L f22 w58 hL hd hc ⟨m40, L26, ⟨X1, X2, C21, C22, S65⟩, K, hO⟩
     rcases bool_tf ((x2.1.Log == 3) && (x2.1.Delay == 20)) with hb17 | hb17
     · obtain ⟨u27, rfl⟩ := fr_of (N := 212) (L := [(147, _), (148, _)]) hO ⟨K 8 (dep hd rfl), (K 9 (dep hd rfl)).1 hb17, trivial⟩
       have L27 := Mem.rfl' m40
       exact wpl_yes (d := 147) rfl rfl (congrArg Value.bool hb17) <| s_ld (i := 7) (cs := [vI x3.2.1.Log]) S65 rfl rfl Try.isAgg3 Try.sizeOf3 rfl (fun _ => rfl) <| wpn <| ⟨m40, Mem.tr L26 L27, ⟨X1, X2, C21, C22, S65⟩, facts_step HM rfl K L27 rfl rfl ⟨fun _ => rfl, fun hx => tf hb17 hx⟩, outP⟩
     obtain ⟨u28, rfl⟩ := fr_of (N := 212) (L := [(147, _)]) hO ⟨K 8 (dep hd rfl), trivial⟩
     have L28 := Mem.rfl' m40
     exact wpl_no (d := 147) rfl rfl (congrArg Value.bool hb17) <| wpn <| ⟨m40, Mem.tr L26 L28, ⟨X1, X2, C21, C22, S65⟩, facts_step HM rfl K L28 rfl rfl ⟨fun hx => tf hx hb17, fun _ => rfl⟩, outP⟩
   · intro L f23 w59 hL hd hc ⟨m41, L29, ⟨X1, X2, C23, C24, S66⟩, K, hO⟩
     rcases bool_tf ((x2.1.Log == 3) && (x2.1.Delay == 20)) with hb18 | hb18
     · obtain ⟨u29, rfl⟩ := fr_of (N := 212) (L := [(147, _), (149, _)]) hO ⟨K 8 (dep hd rfl), (K 10 (dep hd rfl)).1 hb18, trivial⟩
       have L30 := Mem.rfl' m41
       exact wpl_yes (d := 147) rfl rfl (congrArg Value.bool hb18) <| s_eql (m := x3.2.1.Log) (n := 3) rfl rfl <| wpn <| ⟨m41, Mem.tr L29 L30, ⟨X1, X2, C23, C24, S66⟩, facts_step HM rfl K L30 rfl rfl ⟨fun _ => rfl, fun hx => tf hb18 hx⟩, outP⟩
     obtain ⟨u30, rfl⟩ := fr_of (N := 212) (L := [(147, _)]) hO ⟨K 8 (dep hd rfl), trivial⟩
     have L31 := Mem.rfl' m41
     exact wpl_no (d := 147) rfl rfl (congrArg Value.bool hb18) <| wpn <| ⟨m41, Mem.tr L29 L31, ⟨X1, X2, C23, C24, S66⟩, facts_step HM rfl K L31 rfl rfl ⟨fun hx => tf hx hb18, fun _ => rfl⟩, outP⟩
   · intro L f24 w60 hL hd hc ⟨m42, L32, ⟨X1, X2, C25, C26, S67⟩, K, hO⟩
     rcases bool_tf ((x2.1.Log == 3) && (x2.1.Delay == 20)) with hb19 | hb19
     · obtain ⟨u31, rfl⟩ := fr_of (N := 212) (L := [(147, _), (150, _)]) hO ⟨K 8 (dep hd rfl), (K 11 (dep hd rfl)).1 hb19, trivial⟩
       have L33 := Mem.rfl' m42
       exact s_pickT (congrArg Value.bool hb19) rfl <| wpn <| ⟨m42, Mem.tr L32 L33, ⟨X1, X2, C25, C26, S67⟩, facts_step HM rfl K L33 rfl rfl (congrArg Value.bool (and_t hb19)), outP⟩
     · obtain ⟨u32, rfl⟩ := fr_of (N := 212) (L := [(147, _)]) hO ⟨K 8 (dep hd rfl), trivial⟩
       have L34 := Mem.rfl' m42
       exact s_pickF (congrArg Value.bool hb19) rfl <| wpn <| ⟨m42, Mem.tr L32 L34, ⟨X1, X2, C25, C26, S67⟩, facts_step HM rfl K L34 rfl rfl (congrArg Value.bool (and_f hb19)), outP⟩
   · intro L f25 w61 hL hd hc ⟨m43, L35, ⟨X1, X2, C27, C28, S68⟩, K, hO⟩
     obtain ⟨u33, rfl⟩ := fr_of (N := 212) (L := [(151, _)]) hO ⟨K 12 (dep hd rfl), trivial⟩
     have L36 := Mem.rfl' m43
     exact s_mvv (v := vb (((x2.1.Log == 3) && (x2.1.Delay == 20)) && (x3.2.1.Log == 3))) rfl <| wpn <| ⟨m43, Mem.tr L35 L36, ⟨X1, X2, C27, C28, S68⟩, facts_step HM rfl K L36 rfl rfl rfl, outP⟩
   · intro L f26 w62 hL hd hc ⟨m44, L37, ⟨X1, X2, C29, C30, S69⟩, K, hO⟩
     rcases bool_tf (((x2.1.Log == 3) && (x2.1.Delay == 20)) && (x3.2.1.Log == 3)) with hb20 | hb20
     · obtain ⟨u34, rfl⟩ := fr_of (N := 212) (L := [(152, _)]) hO ⟨K 13 (dep hd rfl), trivial⟩
       have L38 := Mem.rfl' m44
       exact wpl_yes (d := 152) rfl rfl (congrArg Value.bool hb20) <| s_fld (n := 0) rfl Try.underlying35 rfl rfl Try.sizeOf3 <| wpn <| ⟨m44, Mem.tr L37 L38, ⟨X1, X2, C29, C30, S69⟩, facts_step HM rfl K L38 rfl rfl ⟨fun _ => rfl, fun hx => tf hb20 hx⟩, outP⟩
     obtain ⟨u35, rfl⟩ := fr_of (N := 212) (L := [(152, _)]) hO ⟨K 13 (dep hd rfl), trivial⟩
     have L39 := Mem.rfl' m44
     exact wpl_no (d := 152) rfl rfl (congrArg Value.bool hb20) <| wpn <| ⟨m44, Mem.tr L37 L39, ⟨X1, X2, C29, C30, S69⟩, facts_step HM rfl K L39 rfl rfl ⟨fun hx => tf hx hb20, fun _ => rfl⟩, outP⟩
   · intro L f27 w63 hL hd hc ⟨m45, L40, ⟨X1, X2, C31, C32, S70⟩, K, hO⟩
     rcases bool_tf (((x2.1.Log == 3) && (x2.1.Delay == 20)) && (x3.2.1.Log == 3)) with hb21 | hb21
     · obtain ⟨u36, rfl⟩ := fr_of (N := 212) (L := [(152, _), (153, _)]) hO ⟨K 13 (dep hd rfl), (K 14 (dep hd rfl)).1 hb21, trivial⟩
       have L41 := Mem.rfl' m45
       exact wpl_yes (d := 152) rfl rfl (congrArg Value.bool hb21) <| s_ld (i := 7) (cs := [vI x3.2.1.At]) S70 rfl rfl Try.isAgg3 Try.sizeOf3 rfl (fun _ => rfl) <| wpn <| ⟨m45, Mem.tr L40 L41, ⟨X1, X2, C31, C32, S70⟩, facts_step HM rfl K L41 rfl rfl ⟨fun _ => rfl, fun hx => tf hb21 hx⟩, outP⟩
     obtain ⟨u37, rfl⟩ := fr_of (N := 212) (L := [(152, _)]) hO ⟨K 13 (dep hd rfl), trivial⟩
     have L42 := Mem.rfl' m45
     exact wpl_no (d := 152) rfl rfl (congrArg Value.bool hb21) <| wpn <| ⟨m45, Mem.tr L40 L42, ⟨X1, X2, C31, C32, S70⟩, facts_step HM rfl K L42 rfl rfl ⟨fun hx => tf hx hb21, fun _ => rfl⟩, outP⟩
   · intro L f28 w64 hL hd hc ⟨m46, L43, ⟨X1, X2, C33, C34, S71⟩, K, hO⟩
     rcases bool_tf (((x2.1.Log == 3) && (x2.1.Delay == 20)) && (x3.2.1.Log == 3)) with hb22 | hb22
     · obtain ⟨u38, rfl⟩ := fr_of (N := 212) (L := [(152, _), (154, _)]) hO ⟨K 13 (dep hd rfl), (K 15 (dep hd rfl)).1 hb22, trivial⟩
       have L44 := Mem.rfl' m46
       exact wpl_yes (d := 152) rfl rfl (congrArg Value.bool hb22) <| s_eql (m := x3.2.1.At) (n := 5) rfl rfl <| wpn <| ⟨m46, Mem.tr L43 L44, ⟨X1, X2, C33, C34, S71⟩, facts_step HM rfl K L44 rfl rfl ⟨fun _ => rfl, fun hx => tf hb22 hx⟩, outP⟩
     obtain ⟨u39, rfl⟩ := fr_of (N := 212) (L := [(152, _)]) hO ⟨K 13 (dep hd rfl), trivial⟩
     have L45 := Mem.rfl' m46
     exact wpl_no (d := 152) rfl rfl (congrArg Value.bool hb22) <| wpn <| ⟨m46, Mem.tr L43 L45, ⟨X1, X2, C33, C34, S71⟩, facts_step HM rfl K L45 rfl rfl ⟨fun hx => tf hx hb22, fun _ => rfl⟩, outP⟩
   · intro L f29 w65 hL hd hc ⟨m47, L46, ⟨X1, X2, C35, C36, S72⟩, K, hO⟩
     rcases bool_tf (((x2.1.Log == 3) && (x2.1.Delay == 20)) && (x3.2.1.Log == 3)) with hb23 | hb23
     · obtain ⟨u40, rfl⟩ := fr_of (N := 212) (L := [(152, _), (155, _)]) hO ⟨K 13 (dep hd rfl), (K 16 (dep hd rfl)).1 hb23, trivial⟩
       have L47 := Mem.rfl' m47
       exact s_pickT (congrArg Value.bool hb23) rfl <| wpn <| ⟨m47, Mem.tr L46 L47, ⟨X1, X2, C35, C36, S72⟩, facts_step HM rfl K L47 rfl rfl (congrArg Value.bool (and_t hb23)), outP⟩
     · obtain ⟨u41, rfl⟩ := fr_of (N := 212) (L := [(152, _)]) hO ⟨K 13 (dep hd rfl), trivial⟩
       have L48 := Mem.rfl' m47
       exact s_pickF (congrArg Value.bool hb23) rfl <| wpn <| ⟨m47, Mem.tr L46 L48, ⟨X1, X2, C35, C36, S72⟩, facts_step HM rfl K L48 rfl rfl (congrArg Value.bool (and_f hb23)), outP⟩
   · intro L f30 w66 hL hd hc ⟨m48, L49, ⟨X1, X2, C37, C38, S73⟩, K, hO⟩
     obtain ⟨u42, rfl⟩ := fr_of (N := 212) (L := [(156, _)]) hO ⟨K 17 (dep hd rfl), trivial⟩
     have L50 := Mem.rfl' m48
     exact s_mvv (v := vb ((((x2.1.Log == 3) && (x2.1.Delay == 20)) && (x3.2.1.Log == 3)) && (x3.2.1.At == 5))) rfl <| wpn <| ⟨m48, Mem.tr L49 L50, ⟨X1, X2, C37, C38, S73⟩, facts_step HM rfl K L50 rfl rfl rfl, outP⟩
   · intro L f31 w67 hL hd hc ⟨m49, L51, ⟨X1, X2, C39, C40, S74⟩, K, hO⟩
     rcases bool_tf ((((x2.1.Log == 3) && (x2.1.Delay == 20)) && (x3.2.1.Log == 3)) && (x3.2.1.At == 5)) with hb24 | hb24
     · obtain ⟨u43, rfl⟩ := fr_of (N := 212) (L := [(157, _)]) hO ⟨K 18 (dep hd rfl), trivial⟩
       have L52 := Mem.rfl' m49
       exact wpl_yes (d := 157) rfl rfl (congrArg Value.bool hb24) <| s_fld (n := 1) rfl Try.underlying35 rfl rfl Try.sizeOf31 <| wpn <| ⟨m49, Mem.tr L51 L52, ⟨X1, X2, C39, C40, S74⟩, facts_step HM rfl K L52 rfl rfl ⟨fun _ => rfl, fun hx => tf hb24 hx⟩, outP⟩
     obtain ⟨u44, rfl⟩ := fr_of (N := 212) (L := [(157, _)]) hO ⟨K 18 (dep hd rfl), trivial⟩
     have L53 := Mem.rfl' m49
     exact wpl_no (d := 157) rfl rfl (congrArg Value.bool hb24) <| wpn <| ⟨m49, Mem.tr L51 L53, ⟨X1, X2, C39, C40, S74⟩, facts_step HM rfl K L53 rfl rfl ⟨fun hx => tf hx hb24, fun _ => rfl⟩, outP⟩
   · intro L f32 w68 hL hd hc ⟨m50, L54, ⟨X1, X2, C41, C42, S75⟩, K, hO⟩
     rcases bool_tf ((((x2.1.Log == 3) && (x2.1.Delay == 20)) && (x3.2.1.Log == 3)) && (x3.2.1.At == 5)) with hb25 | hb25
     · obtain ⟨u45, rfl⟩ := fr_of (N := 212) (L := [(157, _), (158, _)]) hO ⟨K 18 (dep hd rfl), (K 19 (dep hd rfl)).1 hb25, trivial⟩
       have L55 := Mem.rfl' m50
       exact wpl_yes (d := 157) rfl rfl (congrArg Value.bool hb25) <| s_ld (i := 7) (cs := [vU x3.2.1.Leaf.1, vU x3.2.1.Leaf.2]) S75 rfl rfl Try.isAgg31 Try.sizeOf31 rfl (fun h => by cases h) <| wpn <| ⟨m50, Mem.tr L54 L55, ⟨X1, X2, C41, C42, S75⟩, facts_step HM rfl K L55 rfl rfl ⟨fun _ => rfl, fun hx => tf hb25 hx⟩, outP⟩
     obtain ⟨u46, rfl⟩ := fr_of (N := 212) (L := [(157, _)]) hO ⟨K 18 (dep hd rfl), trivial⟩
     have L56 := Mem.rfl' m50
     exact wpl_no (d := 157) rfl rfl (congrArg Value.bool hb25) <| wpn <| ⟨m50, Mem.tr L54 L56, ⟨X1, X2, C41, C42, S75⟩, facts_step HM rfl K L56 rfl rfl ⟨fun hx => tf hx hb25, fun _ => rfl⟩, outP⟩
   · intro L f33 w69 hL hd hc ⟨m51, L57, ⟨X1, X2, C43, C44, S76⟩, K, hO⟩
     rcases bool_tf ((((x2.1.Log == 3) && (x2.1.Delay == 20)) && (x3.2.1.Log == 3)) && (x3.2.1.At == 5)) with hb26 | hb26
     · have d21 : L 21 = false := hL
       have d22 : L 22 = false := undep hc hL rfl
       obtain ⟨u47, rfl⟩ := fr_of (N := 212) (L := [(157, _)]) hO ⟨K 18 (dep hd rfl), trivial⟩
       obtain rfl := C43.1 d21
       replace S76 : St _ ((bx b8 [vI x11.1.Log, vI x11.1.Size, vU x11.1.Root.1, vU x11.1.Root.2, vI x11.1.At, vU x11.1.Sig.E, vU x11.1.Sig.S] 57) :: (row 2 v20 c2 x10.1.length) :: (row 2 v19 c1 x9.1.length) :: (bx b7 [vI x8.1.Log, vI x8.1.Size, vU x8.1.Root.1, vU x8.1.Root.2, vI x8.1.At, vU x8.1.Sig.E, vU x8.1.Sig.S] 57) :: (bx b6 [vI x7.1.Log, vI x7.1.Size, vU x7.1.Root.1, vU x7.1.Root.2, vI x7.1.At, vU x7.1.Sig.E, vU x7.1.Sig.S] 57) :: (bx b5 [vI x6.1.Id, vU x6.1.Key, vI x6.1.Delay, v16, v17, v18] 26) :: (bx b4 [vI x4.2.1.Log, vI x4.2.1.At, vU x4.2.1.Leaf.1, vU x4.2.1.Leaf.2, vU x4.2.1.Sig.E, vU x4.2.1.Sig.S] 35) :: (bx b3 [vI x3.2.1.Log, vI x3.2.1.At, vU x3.2.1.Leaf.1, vU x3.2.1.Leaf.2, vU x3.2.1.Sig.E, vU x3.2.1.Sig.S] 35) :: (bx b2 [vI x2.1.Log, vU x2.1.Key, vI x2.1.Delay] 40) :: (bx b1 [vI x4.1.Id, vU x4.1.Key, vI x4.1.Delay, v10, v11, v12] 26) :: (X2 ++ As)) _ := S76
       have L58 := Mem.rfl' m51
       refine wpl_yes (d := 157) rfl rfl (congrArg Value.bool hb26) <| s_litOC (parts := [.const (.int .u8 97)]) (vs := [vB 97]) (cls := [[vB 97]]) (n := 1) (sz := 1) S76 Try.underlying27 Try.sizeOf5 Try.zeroValue5 rfl ⟨rfl, trivial⟩ rfl rfl (by decide) (by decide) fun v21 w70 S77 => ?_
       have h35 : RepL m51 [vB 97] ([97] : List UInt8) := (RepL.cons (c := [vB 97]) (x := 97) rfl RepL.nil)
       replace S77 : St _ ((row 1 v21 [vB 97] ([97] : List UInt8).length) :: (bx b8 [vI x11.1.Log, vI x11.1.Size, vU x11.1.Root.1, vU x11.1.Root.2, vI x11.1.At, vU x11.1.Sig.E, vU x11.1.Sig.S] 57) :: (row 2 v20 c2 x10.1.length) :: (row 2 v19 c1 x9.1.length) :: (bx b7 [vI x8.1.Log, vI x8.1.Size, vU x8.1.Root.1, vU x8.1.Root.2, vI x8.1.At, vU x8.1.Sig.E, vU x8.1.Sig.S] 57) :: (bx b6 [vI x7.1.Log, vI x7.1.Size, vU x7.1.Root.1, vU x7.1.Root.2, vI x7.1.At, vU x7.1.Sig.E, vU x7.1.Sig.S] 57) :: (bx b5 [vI x6.1.Id, vU x6.1.Key, vI x6.1.Delay, v16, v17, v18] 26) :: (bx b4 [vI x4.2.1.Log, vI x4.2.1.At, vU x4.2.1.Leaf.1, vU x4.2.1.Leaf.2, vU x4.2.1.Sig.E, vU x4.2.1.Sig.S] 35) :: (bx b3 [vI x3.2.1.Log, vI x3.2.1.At, vU x3.2.1.Leaf.1, vU x3.2.1.Leaf.2, vU x3.2.1.Sig.E, vU x3.2.1.Sig.S] 35) :: (bx b2 [vI x2.1.Log, vU x2.1.Key, vI x2.1.Delay] 40) :: (bx b1 [vI x4.1.Id, vU x4.1.Key, vI x4.1.Delay, v10, v11, v12] 26) :: (X2 ++ As)) _ := S77
       clear S76
       refine wpn <| ⟨m51, Mem.tr L57 L58, ⟨[row 1 v21 [vB 97] ([97] : List UInt8).length], X2, ⟨fun hx => tf rfl hx, fun _ _ => ⟨fun _ => ⟨_, rfl, h35⟩, fun hx => tf hb26 hx⟩, fun hx => tf hx d22⟩, C44, ?_⟩, facts_step HM rfl K L58 rfl rfl trivial, outP⟩
       have S143 : St _ ((bx b8 [vI x11.1.Log, vI x11.1.Size, vU x11.1.Root.1, vU x11.1.Root.2, vI x11.1.At, vU x11.1.Sig.E, vU x11.1.Sig.S] 57) :: (row 2 v20 c2 x10.1.length) :: (row 2 v19 c1 x9.1.length) :: (bx b7 [vI x8.1.Log, vI x8.1.Size, vU x8.1.Root.1, vU x8.1.Root.2, vI x8.1.At, vU x8.1.Sig.E, vU x8.1.Sig.S] 57) :: (bx b6 [vI x7.1.Log, vI x7.1.Size, vU x7.1.Root.1, vU x7.1.Root.2, vI x7.1.At, vU x7.1.Sig.E, vU x7.1.Sig.S] 57) :: (bx b5 [vI x6.1.Id, vU x6.1.Key, vI x6.1.Delay, v16, v17, v18] 26) :: (bx b4 [vI x4.2.1.Log, vI x4.2.1.At, vU x4.2.1.Leaf.1, vU x4.2.1.Leaf.2, vU x4.2.1.Sig.E, vU x4.2.1.Sig.S] 35) :: (bx b3 [vI x3.2.1.Log, vI x3.2.1.At, vU x3.2.1.Leaf.1, vU x3.2.1.Leaf.2, vU x3.2.1.Sig.E, vU x3.2.1.Sig.S] 35) :: (bx b2 [vI x2.1.Log, vU x2.1.Key, vI x2.1.Delay] 40) :: (bx b1 [vI x4.1.Id, vU x4.1.Key, vI x4.1.Delay, v10, v11, v12] 26) :: (row 1 v21 [vB 97] ([97] : List UInt8).length) :: (X2 ++ As)) _ := St.perm S77 (List.Perm.trans (List.Perm.swap _ _ _) (List.Perm.trans (List.Perm.cons _ (List.Perm.swap _ _ _)) (List.Perm.trans (List.Perm.cons _ (List.Perm.cons _ (List.Perm.swap _ _ _))) (List.Perm.trans (List.Perm.cons _ (List.Perm.cons _ (List.Perm.cons _ (List.Perm.swap _ _ _)))) (List.Perm.trans (List.Perm.cons _ (List.Perm.cons _ (List.Perm.cons _ (List.Perm.cons _ (List.Perm.swap _ _ _))))) (List.Perm.trans (List.Perm.cons _ (List.Perm.cons _ (List.Perm.cons _ (List.Perm.cons _ (List.Perm.cons _ (List.Perm.swap _ _ _)))))) (List.Perm.trans (List.Perm.cons _ (List.Perm.cons _ (List.Perm.cons _ (List.Perm.cons _ (List.Perm.cons _ (List.Perm.cons _ (List.Perm.swap _ _ _))))))) (List.Perm.trans (List.Perm.cons _ (List.Perm.cons _ (List.Perm.cons _ (List.Perm.cons _ (List.Perm.cons _ (List.Perm.cons _ (List.Perm.cons _ (List.Perm.swap _ _ _)))))))) (List.Perm.trans (List.Perm.cons _ (List.Perm.cons _ (List.Perm.cons _ (List.Perm.cons _ (List.Perm.cons _ (List.Perm.cons _ (List.Perm.cons _ (List.Perm.cons _ (List.Perm.swap _ _ _))))))))) (List.Perm.cons _ (List.Perm.cons _ (List.Perm.cons _ (List.Perm.cons _ (List.Perm.cons _ (List.Perm.cons _ (List.Perm.cons _ (List.Perm.cons _ (List.Perm.cons _ (List.Perm.swap _ _ _)))))))))))))))))))
       exact S143
     have d21 : L 21 = false := hL
     have d22 : L 22 = false := undep hc hL rfl
     obtain ⟨u48, rfl⟩ := fr_of (N := 212) (L := [(157, _)]) hO ⟨K 18 (dep hd rfl), trivial⟩
     obtain rfl := C43.1 d21
     replace S76 : St _ ((bx b8 [vI x11.1.Log, vI x11.1.Size, vU x11.1.Root.1, vU x11.1.Root.2, vI x11.1.At, vU x11.1.Sig.E, vU x11.1.Sig.S] 57) :: (row 2 v20 c2 x10.1.length) :: (row 2 v19 c1 x9.1.length) :: (bx b7 [vI x8.1.Log, vI x8.1.Size, vU x8.1.Root.1, vU x8.1.Root.2, vI x8.1.At, vU x8.1.Sig.E, vU x8.1.Sig.S] 57) :: (bx b6 [vI x7.1.Log, vI x7.1.Size, vU x7.1.Root.1, vU x7.1.Root.2, vI x7.1.At, vU x7.1.Sig.E, vU x7.1.Sig.S] 57) :: (bx b5 [vI x6.1.Id, vU x6.1.Key, vI x6.1.Delay, v16, v17, v18] 26) :: (bx b4 [vI x4.2.1.Log, vI x4.2.1.At, vU x4.2.1.Leaf.1, vU x4.2.1.Leaf.2, vU x4.2.1.Sig.E, vU x4.2.1.Sig.S] 35) :: (bx b3 [vI x3.2.1.Log, vI x3.2.1.At, vU x3.2.1.Leaf.1, vU x3.2.1.Leaf.2, vU x3.2.1.Sig.E, vU x3.2.1.Sig.S] 35) :: (bx b2 [vI x2.1.Log, vU x2.1.Key, vI x2.1.Delay] 40) :: (bx b1 [vI x4.1.Id, vU x4.1.Key, vI x4.1.Delay, v10, v11, v12] 26) :: (X2 ++ As)) _ := S76
     have L59 := Mem.rfl' m51
     exact wpl_no (d := 157) rfl rfl (congrArg Value.bool hb26) <| wpn <| ⟨m51, Mem.tr L57 L59, ⟨[], X2, ⟨fun hx => tf rfl hx, fun _ _ => ⟨fun hx => tf hx hb26, fun _ => rfl⟩, fun hx => tf hx d22⟩, C44, S76⟩, facts_step HM rfl K L59 rfl rfl trivial, outP⟩
   · intro L f34 w71 hL hd hc ⟨m52, L60, ⟨X1, X2, C45, C46, S78⟩, K, hO⟩
     rcases bool_tf ((((x2.1.Log == 3) && (x2.1.Delay == 20)) && (x3.2.1.Log == 3)) && (x3.2.1.At == 5)) with hb27 | hb27
     · obtain ⟨v22, e48⟩ : ∃ x, f34 160 = x := ⟨_, rfl⟩
       have d21 : L 21 = true := dep hd rfl
       have d22 : L 22 = false := hL
       obtain ⟨u49, rfl⟩ := fr_of (N := 212) (L := [(157, _), (160, _)]) hO ⟨K 18 (dep hd rfl), e48, trivial⟩
       obtain ⟨c3, rfl, h36⟩ := (C45.2.1 d21 d22).1 hb27
       replace h36 : RepL _ c3 ([97] : List UInt8) := h36
       replace S78 : St _ ((bx b8 [vI x11.1.Log, vI x11.1.Size, vU x11.1.Root.1, vU x11.1.Root.2, vI x11.1.At, vU x11.1.Sig.E, vU x11.1.Sig.S] 57) :: (row 2 v20 c2 x10.1.length) :: (row 2 v19 c1 x9.1.length) :: (bx b7 [vI x8.1.Log, vI x8.1.Size, vU x8.1.Root.1, vU x8.1.Root.2, vI x8.1.At, vU x8.1.Sig.E, vU x8.1.Sig.S] 57) :: (bx b6 [vI x7.1.Log, vI x7.1.Size, vU x7.1.Root.1, vU x7.1.Root.2, vI x7.1.At, vU x7.1.Sig.E, vU x7.1.Sig.S] 57) :: (bx b5 [vI x6.1.Id, vU x6.1.Key, vI x6.1.Delay, v16, v17, v18] 26) :: (bx b4 [vI x4.2.1.Log, vI x4.2.1.At, vU x4.2.1.Leaf.1, vU x4.2.1.Leaf.2, vU x4.2.1.Sig.E, vU x4.2.1.Sig.S] 35) :: (bx b3 [vI x3.2.1.Log, vI x3.2.1.At, vU x3.2.1.Leaf.1, vU x3.2.1.Leaf.2, vU x3.2.1.Sig.E, vU x3.2.1.Sig.S] 35) :: (bx b2 [vI x2.1.Log, vU x2.1.Key, vI x2.1.Delay] 40) :: (bx b1 [vI x4.1.Id, vU x4.1.Key, vI x4.1.Delay, v10, v11, v12] 26) :: (row 1 v22 c3 ([97] : List UInt8).length) :: (X2 ++ As)) _ := S78
       replace h30 := RepL.up L60 h30
       replace h31 := RepL.up L60 h31
       replace h19 := h19.up L60
       replace h20 := h20.up L60
       replace h21 := h21.up L60
       replace h13 := h13.up L60
       replace h14 := h14.up L60
       replace h15 := h15.up L60
       have L61 := Mem.rfl' m52
       refine wpl_yes (d := 157) rfl rfl (congrArg Value.bool hb27) <| s_mark (i := 10) S78 rfl rfl (Nat.le_of_ble_eq_true rfl) Try.underlying27 Try.underlying5 fun w72 S79 => ?_
       clear S78
       obtain ⟨m53, l30, h37, S80⟩ := St.rowKeepT (i := 10) S79 rfl h36 rfl
       replace C46 := C46.imp id (fun q => q.imp (fun p a b => (p a b).imp (fun r hc => RowS.up l30 (r hc)) id) id)
       replace L61 := Mem.tr L61 l30
       clear S79
       exact wpn <| ⟨m53, Mem.tr L60 L61, ⟨[], X2, ⟨fun hx => tf d21 hx, fun _ hx => tf rfl hx, fun _ => rfl⟩, C46, S80⟩, facts_step HM rfl K L61 rfl rfl ⟨fun _ => ⟨v22, rfl, h37⟩, fun hx => tf hb27 hx⟩, outP⟩
     have d21 : L 21 = true := dep hd rfl
     have d22 : L 22 = false := hL
     obtain ⟨v23, e50⟩ : ∃ x, f34 160 = x := ⟨_, rfl⟩
     obtain ⟨u50, rfl⟩ := fr_of (N := 212) (L := [(157, _), (160, _)]) hO ⟨K 18 (dep hd rfl), e50, trivial⟩
     obtain rfl := (C45.2.1 d21 d22).2 hb27
     replace S78 : St _ ((bx b8 [vI x11.1.Log, vI x11.1.Size, vU x11.1.Root.1, vU x11.1.Root.2, vI x11.1.At, vU x11.1.Sig.E, vU x11.1.Sig.S] 57) :: (row 2 v20 c2 x10.1.length) :: (row 2 v19 c1 x9.1.length) :: (bx b7 [vI x8.1.Log, vI x8.1.Size, vU x8.1.Root.1, vU x8.1.Root.2, vI x8.1.At, vU x8.1.Sig.E, vU x8.1.Sig.S] 57) :: (bx b6 [vI x7.1.Log, vI x7.1.Size, vU x7.1.Root.1, vU x7.1.Root.2, vI x7.1.At, vU x7.1.Sig.E, vU x7.1.Sig.S] 57) :: (bx b5 [vI x6.1.Id, vU x6.1.Key, vI x6.1.Delay, v16, v17, v18] 26) :: (bx b4 [vI x4.2.1.Log, vI x4.2.1.At, vU x4.2.1.Leaf.1, vU x4.2.1.Leaf.2, vU x4.2.1.Sig.E, vU x4.2.1.Sig.S] 35) :: (bx b3 [vI x3.2.1.Log, vI x3.2.1.At, vU x3.2.1.Leaf.1, vU x3.2.1.Leaf.2, vU x3.2.1.Sig.E, vU x3.2.1.Sig.S] 35) :: (bx b2 [vI x2.1.Log, vU x2.1.Key, vI x2.1.Delay] 40) :: (bx b1 [vI x4.1.Id, vU x4.1.Key, vI x4.1.Delay, v10, v11, v12] 26) :: (X2 ++ As)) _ := S78
     have L62 := Mem.rfl' m52
     exact wpl_no (d := 157) rfl rfl (congrArg Value.bool hb27) <| wpn <| ⟨m52, Mem.tr L60 L62, ⟨[], X2, ⟨fun hx => tf d21 hx, fun _ hx => tf rfl hx, fun _ => rfl⟩, C46, S78⟩, facts_step HM rfl K L62 rfl rfl ⟨fun hx => tf hx hb27, fun _ => rfl⟩, outP⟩
   · intro L f35 w73 hL hd hc ⟨m54, L63, ⟨X1, X2, C47, C48, S81⟩, K, hO⟩
     rcases bool_tf ((((x2.1.Log == 3) && (x2.1.Delay == 20)) && (x3.2.1.Log == 3)) && (x3.2.1.At == 5)) with hb28 | hb28
     · obtain ⟨v24, e52, h38⟩ := (K 22 (dep hd rfl)).1 hb28
       obtain ⟨u51, rfl⟩ := fr_of (N := 212) (L := [(157, _), (161, _)]) hO ⟨K 18 (dep hd rfl), e52, trivial⟩
       replace h30 := RepL.up L63 h30
       replace h31 := RepL.up L63 h31
       replace h19 := h19.up L63
       replace h20 := h20.up L63
       replace h21 := h21.up L63
       replace h13 := h13.up L63
       replace h14 := h14.up L63
       replace h15 := h15.up L63
       have L64 := Mem.rfl' m54
       refine wpl_yes (d := 157) rfl rfl (congrArg Value.bool hb28) ?_
       replace q12 := gu_t hb28 q12
       refine s_call Try.call13 (w_merkle_Leaf (a0 := ([97] : List UInt8)) S81 h38 q12) rfl ?_
       rintro _ w74 ⟨m55, l31, S82, rfl⟩
       replace C47 := C47.imp id (fun q => q.imp (fun p a b => (p a b).imp (fun r hc => RowS.up l31 (r hc)) id) id)
       replace C48 := C48.imp id (fun q => q.imp (fun p a b => (p a b).imp (fun r hc => RowS.up l31 (r hc)) id) id)
       replace L64 := Mem.tr L64 l31
       clear S81
       exact wpn <| ⟨m55, Mem.tr L63 L64, ⟨X1, X2, C47, C48, S82⟩, facts_step HM rfl K L64 rfl rfl ⟨fun _ => rfl, fun hx => tf hb28 hx⟩, outP⟩
     obtain ⟨u52, rfl⟩ := fr_of (N := 212) (L := [(157, _)]) hO ⟨K 18 (dep hd rfl), trivial⟩
     have L65 := Mem.rfl' m54
     exact wpl_no (d := 157) rfl rfl (congrArg Value.bool hb28) <| wpn <| ⟨m54, Mem.tr L63 L65, ⟨X1, X2, C47, C48, S81⟩, facts_step HM rfl K L65 rfl rfl ⟨fun hx => tf hx hb28, fun _ => rfl⟩, outP⟩
   · intro L f36 w75 hL hd hc ⟨m56, L66, ⟨X1, X2, C49, C50, S83⟩, K, hO⟩
     rcases bool_tf ((((x2.1.Log == 3) && (x2.1.Delay == 20)) && (x3.2.1.Log == 3)) && (x3.2.1.At == 5)) with hb29 | hb29
     · obtain ⟨u53, rfl⟩ := fr_of (N := 212) (L := [(157, _), (159, _), (162, _)]) hO ⟨K 18 (dep hd rfl), (K 20 (dep hd rfl)).1 hb29, (K 23 (dep hd rfl)).1 hb29, trivial⟩
       have L67 := Mem.rfl' m56
       exact wpl_yes (d := 157) rfl rfl (congrArg Value.bool hb29) <| s_eqlSum (p := x3.2.1.Leaf) (q := x12) rfl rfl Try.underlying31 Try.underlying22 Try.sizeOf22 Try.isAgg22 Try.eqGuardType31 <| wpn <| ⟨m56, Mem.tr L66 L67, ⟨X1, X2, C49, C50, S83⟩, facts_step HM rfl K L67 rfl rfl ⟨fun _ => rfl, fun hx => tf hb29 hx⟩, outP⟩
     obtain ⟨u54, rfl⟩ := fr_of (N := 212) (L := [(157, _)]) hO ⟨K 18 (dep hd rfl), trivial⟩
     have L68 := Mem.rfl' m56
     exact wpl_no (d := 157) rfl rfl (congrArg Value.bool hb29) <| wpn <| ⟨m56, Mem.tr L66 L68, ⟨X1, X2, C49, C50, S83⟩, facts_step HM rfl K L68 rfl rfl ⟨fun hx => tf hx hb29, fun _ => rfl⟩, outP⟩
   · intro L f37 w76 hL hd hc ⟨m57, L69, ⟨X1, X2, C51, C52, S84⟩, K, hO⟩
     rcases bool_tf ((((x2.1.Log == 3) && (x2.1.Delay == 20)) && (x3.2.1.Log == 3)) && (x3.2.1.At == 5)) with hb30 | hb30
     · obtain ⟨u55, rfl⟩ := fr_of (N := 212) (L := [(157, _), (163, _)]) hO ⟨K 18 (dep hd rfl), (K 24 (dep hd rfl)).1 hb30, trivial⟩
       have L70 := Mem.rfl' m57
       exact s_pickT (congrArg Value.bool hb30) rfl <| wpn <| ⟨m57, Mem.tr L69 L70, ⟨X1, X2, C51, C52, S84⟩, facts_step HM rfl K L70 rfl rfl (congrArg Value.bool (and_t hb30)), outP⟩
     · obtain ⟨u56, rfl⟩ := fr_of (N := 212) (L := [(157, _)]) hO ⟨K 18 (dep hd rfl), trivial⟩
       have L71 := Mem.rfl' m57
       exact s_pickF (congrArg Value.bool hb30) rfl <| wpn <| ⟨m57, Mem.tr L69 L71, ⟨X1, X2, C51, C52, S84⟩, facts_step HM rfl K L71 rfl rfl (congrArg Value.bool (and_f hb30)), outP⟩
   · intro L f38 w77 hL hd hc ⟨m58, L72, ⟨X1, X2, C53, C54, S85⟩, K, hO⟩
     obtain ⟨u57, rfl⟩ := fr_of (N := 212) (L := [(164, _)]) hO ⟨K 25 (dep hd rfl), trivial⟩
     have L73 := Mem.rfl' m58
     exact s_mvv (v := vb (((((x2.1.Log == 3) && (x2.1.Delay == 20)) && (x3.2.1.Log == 3)) && (x3.2.1.At == 5)) && (eqSum x3.2.1.Leaf x12))) rfl <| wpn <| ⟨m58, Mem.tr L72 L73, ⟨X1, X2, C53, C54, S85⟩, facts_step HM rfl K L73 rfl rfl rfl, outP⟩
   · intro L f39 w78 hL hd hc ⟨m59, L74, ⟨X1, X2, C55, C56, S86⟩, K, hO⟩
     rcases bool_tf (((((x2.1.Log == 3) && (x2.1.Delay == 20)) && (x3.2.1.Log == 3)) && (x3.2.1.At == 5)) && (eqSum x3.2.1.Leaf x12)) with hb31 | hb31
     · obtain ⟨u58, rfl⟩ := fr_of (N := 212) (L := [(165, _)]) hO ⟨K 26 (dep hd rfl), trivial⟩
       have L75 := Mem.rfl' m59
       exact wpl_yes (d := 165) rfl rfl (congrArg Value.bool hb31) <| s_ld (i := 8) (cs := [vI x2.1.Log, vU x2.1.Key, vI x2.1.Delay]) S86 rfl rfl Try.isAgg40 Try.sizeOf40 rfl (fun h => by cases h) <| wpn <| ⟨m59, Mem.tr L74 L75, ⟨X1, X2, C55, C56, S86⟩, facts_step HM rfl K L75 rfl rfl ⟨fun _ => rfl, fun hx => tf hb31 hx⟩, outP⟩
     obtain ⟨u59, rfl⟩ := fr_of (N := 212) (L := [(165, _)]) hO ⟨K 26 (dep hd rfl), trivial⟩
     have L76 := Mem.rfl' m59
     exact wpl_no (d := 165) rfl rfl (congrArg Value.bool hb31) <| wpn <| ⟨m59, Mem.tr L74 L76, ⟨X1, X2, C55, C56, S86⟩, facts_step HM rfl K L76 rfl rfl ⟨fun hx => tf hx hb31, fun _ => rfl⟩, outP⟩
   · intro L f40 w79 hL hd hc ⟨m60, L77, ⟨X1, X2, C57, C58, S87⟩, K, hO⟩
     rcases bool_tf (((((x2.1.Log == 3) && (x2.1.Delay == 20)) && (x3.2.1.Log == 3)) && (x3.2.1.At == 5)) && (eqSum x3.2.1.Leaf x12)) with hb32 | hb32
     · obtain ⟨u60, rfl⟩ := fr_of (N := 212) (L := [(165, _)]) hO ⟨K 26 (dep hd rfl), trivial⟩
       have L78 := Mem.rfl' m60
       exact wpl_yes (d := 165) rfl rfl (congrArg Value.bool hb32) <| s_ld (i := 7) (cs := [vI x3.2.1.Log, vI x3.2.1.At, vU x3.2.1.Leaf.1, vU x3.2.1.Leaf.2, vU x3.2.1.Sig.E, vU x3.2.1.Sig.S]) S87 rfl rfl Try.isAgg35 Try.sizeOf35 rfl (fun h => by cases h) <| wpn <| ⟨m60, Mem.tr L77 L78, ⟨X1, X2, C57, C58, S87⟩, facts_step HM rfl K L78 rfl rfl ⟨fun _ => rfl, fun hx => tf hb32 hx⟩, outP⟩
     obtain ⟨u61, rfl⟩ := fr_of (N := 212) (L := [(165, _)]) hO ⟨K 26 (dep hd rfl), trivial⟩
     have L79 := Mem.rfl' m60
     exact wpl_no (d := 165) rfl rfl (congrArg Value.bool hb32) <| wpn <| ⟨m60, Mem.tr L77 L79, ⟨X1, X2, C57, C58, S87⟩, facts_step HM rfl K L79 rfl rfl ⟨fun hx => tf hx hb32, fun _ => rfl⟩, outP⟩
   · intro L f41 w80 hL hd hc ⟨m61, L80, ⟨X1, X2, C59, C60, S88⟩, K, hO⟩
     rcases bool_tf (((((x2.1.Log == 3) && (x2.1.Delay == 20)) && (x3.2.1.Log == 3)) && (x3.2.1.At == 5)) && (eqSum x3.2.1.Leaf x12)) with hb33 | hb33
     · obtain ⟨u62, rfl⟩ := fr_of (N := 212) (L := [(165, _), (166, _), (167, _)]) hO ⟨K 26 (dep hd rfl), (K 27 (dep hd rfl)).1 hb33, (K 28 (dep hd rfl)).1 hb33, trivial⟩
       replace h30 := RepL.up L80 h30
       replace h31 := RepL.up L80 h31
       replace h19 := h19.up L80
       replace h20 := h20.up L80
       replace h21 := h21.up L80
       replace h13 := h13.up L80
       replace h14 := h14.up L80
       replace h15 := h15.up L80
       have L81 := Mem.rfl' m61
       refine wpl_yes (d := 165) rfl rfl (congrArg Value.bool hb33) ?_
       replace q13 := gu_t hb33 q13
       refine s_call Try.call14 (w_logd_CheckPromise (a0 := x2.1) (a1 := x3.2.1) S88  q13) rfl ?_
       rintro _ w81 ⟨m62, l32, S89, rfl⟩
       replace C59 := C59.imp id (fun q => q.imp (fun p a b => (p a b).imp (fun r hc => RowS.up l32 (r hc)) id) id)
       replace C60 := C60.imp id (fun q => q.imp (fun p a b => (p a b).imp (fun r hc => RowS.up l32 (r hc)) id) id)
       replace L81 := Mem.tr L81 l32
       clear S88
       exact wpn <| ⟨m62, Mem.tr L80 L81, ⟨X1, X2, C59, C60, S89⟩, facts_step HM rfl K L81 rfl rfl ⟨fun _ => rfl, fun hx => tf hb33 hx⟩, outP⟩
     obtain ⟨u63, rfl⟩ := fr_of (N := 212) (L := [(165, _)]) hO ⟨K 26 (dep hd rfl), trivial⟩
     have L82 := Mem.rfl' m61
     exact wpl_no (d := 165) rfl rfl (congrArg Value.bool hb33) <| wpn <| ⟨m61, Mem.tr L80 L82, ⟨X1, X2, C59, C60, S88⟩, facts_step HM rfl K L82 rfl rfl ⟨fun hx => tf hx hb33, fun _ => rfl⟩, outP⟩
   · intro L f42 w82 hL hd hc ⟨m63, L83, ⟨X1, X2, C61, C62, S90⟩, K, hO⟩
     rcases bool_tf (((((x2.1.Log == 3) && (x2.1.Delay == 20)) && (x3.2.1.Log == 3)) && (x3.2.1.At == 5)) && (eqSum x3.2.1.Leaf x12)) with hb34 | hb34
     · obtain ⟨u64, rfl⟩ := fr_of (N := 212) (L := [(165, _), (168, _)]) hO ⟨K 26 (dep hd rfl), (K 29 (dep hd rfl)).1 hb34, trivial⟩
       have L84 := Mem.rfl' m63
       exact wpl_yes (d := 165) rfl rfl (congrArg Value.bool hb34) <| s_eql (m := x13) (n := 0) rfl rfl <| wpn <| ⟨m63, Mem.tr L83 L84, ⟨X1, X2, C61, C62, S90⟩, facts_step HM rfl K L84 rfl rfl ⟨fun _ => rfl, fun hx => tf hb34 hx⟩, outP⟩
     obtain ⟨u65, rfl⟩ := fr_of (N := 212) (L := [(165, _)]) hO ⟨K 26 (dep hd rfl), trivial⟩
     have L85 := Mem.rfl' m63
     exact wpl_no (d := 165) rfl rfl (congrArg Value.bool hb34) <| wpn <| ⟨m63, Mem.tr L83 L85, ⟨X1, X2, C61, C62, S90⟩, facts_step HM rfl K L85 rfl rfl ⟨fun hx => tf hx hb34, fun _ => rfl⟩, outP⟩
   · intro L f43 w83 hL hd hc ⟨m64, L86, ⟨X1, X2, C63, C64, S91⟩, K, hO⟩
     rcases bool_tf (((((x2.1.Log == 3) && (x2.1.Delay == 20)) && (x3.2.1.Log == 3)) && (x3.2.1.At == 5)) && (eqSum x3.2.1.Leaf x12)) with hb35 | hb35
     · obtain ⟨u66, rfl⟩ := fr_of (N := 212) (L := [(165, _), (169, _)]) hO ⟨K 26 (dep hd rfl), (K 30 (dep hd rfl)).1 hb35, trivial⟩
       have L87 := Mem.rfl' m64
       exact s_pickT (congrArg Value.bool hb35) rfl <| wpn <| ⟨m64, Mem.tr L86 L87, ⟨X1, X2, C63, C64, S91⟩, facts_step HM rfl K L87 rfl rfl (congrArg Value.bool (and_t hb35)), outP⟩
     · obtain ⟨u67, rfl⟩ := fr_of (N := 212) (L := [(165, _)]) hO ⟨K 26 (dep hd rfl), trivial⟩
       have L88 := Mem.rfl' m64
       exact s_pickF (congrArg Value.bool hb35) rfl <| wpn <| ⟨m64, Mem.tr L86 L88, ⟨X1, X2, C63, C64, S91⟩, facts_step HM rfl K L88 rfl rfl (congrArg Value.bool (and_f hb35)), outP⟩
   · intro L f44 w84 hL hd hc ⟨m65, L89, ⟨X1, X2, C65, C66, S92⟩, K, hO⟩
     obtain ⟨u68, rfl⟩ := fr_of (N := 212) (L := [(170, _)]) hO ⟨K 31 (dep hd rfl), trivial⟩
     have L90 := Mem.rfl' m65
     exact s_mvv (v := vb ((((((x2.1.Log == 3) && (x2.1.Delay == 20)) && (x3.2.1.Log == 3)) && (x3.2.1.At == 5)) && (eqSum x3.2.1.Leaf x12)) && (x13 == 0))) rfl <| wpn <| ⟨m65, Mem.tr L89 L90, ⟨X1, X2, C65, C66, S92⟩, facts_step HM rfl K L90 rfl rfl rfl, outP⟩
   · intro L f45 w85 hL hd hc ⟨m66, L91, ⟨X1, X2, C67, C68, S93⟩, K, hO⟩
     rcases bool_tf ((((((x2.1.Log == 3) && (x2.1.Delay == 20)) && (x3.2.1.Log == 3)) && (x3.2.1.At == 5)) && (eqSum x3.2.1.Leaf x12)) && (x13 == 0)) with hb36 | hb36
     · obtain ⟨u69, rfl⟩ := fr_of (N := 212) (L := [(171, _)]) hO ⟨K 32 (dep hd rfl), trivial⟩
       have L92 := Mem.rfl' m66
       exact wpl_yes (d := 171) rfl rfl (congrArg Value.bool hb36) <| s_ld (i := 4) (cs := [vI x7.1.Log, vI x7.1.Size, vU x7.1.Root.1, vU x7.1.Root.2, vI x7.1.At, vU x7.1.Sig.E, vU x7.1.Sig.S]) S93 rfl rfl Try.isAgg57 Try.sizeOf57 rfl (fun h => by cases h) <| wpn <| ⟨m66, Mem.tr L91 L92, ⟨X1, X2, C67, C68, S93⟩, facts_step HM rfl K L92 rfl rfl ⟨fun _ => rfl, fun hx => tf hb36 hx⟩, outP⟩
     obtain ⟨u70, rfl⟩ := fr_of (N := 212) (L := [(171, _)]) hO ⟨K 32 (dep hd rfl), trivial⟩
     have L93 := Mem.rfl' m66
     exact wpl_no (d := 171) rfl rfl (congrArg Value.bool hb36) <| wpn <| ⟨m66, Mem.tr L91 L93, ⟨X1, X2, C67, C68, S93⟩, facts_step HM rfl K L93 rfl rfl ⟨fun hx => tf hx hb36, fun _ => rfl⟩, outP⟩
   · intro L f46 w86 hL hd hc ⟨m67, L94, ⟨X1, X2, C69, C70, S94⟩, K, hO⟩
     rcases bool_tf ((((((x2.1.Log == 3) && (x2.1.Delay == 20)) && (x3.2.1.Log == 3)) && (x3.2.1.At == 5)) && (eqSum x3.2.1.Leaf x12)) && (x13 == 0)) with hb37 | hb37
     · obtain ⟨u71, rfl⟩ := fr_of (N := 212) (L := [(171, _)]) hO ⟨K 32 (dep hd rfl), trivial⟩
       have L95 := Mem.rfl' m67
       exact wpl_yes (d := 171) rfl rfl (congrArg Value.bool hb37) <| s_ld (i := 3) (cs := [vI x8.1.Log, vI x8.1.Size, vU x8.1.Root.1, vU x8.1.Root.2, vI x8.1.At, vU x8.1.Sig.E, vU x8.1.Sig.S]) S94 rfl rfl Try.isAgg57 Try.sizeOf57 rfl (fun h => by cases h) <| wpn <| ⟨m67, Mem.tr L94 L95, ⟨X1, X2, C69, C70, S94⟩, facts_step HM rfl K L95 rfl rfl ⟨fun _ => rfl, fun hx => tf hb37 hx⟩, outP⟩
     obtain ⟨u72, rfl⟩ := fr_of (N := 212) (L := [(171, _)]) hO ⟨K 32 (dep hd rfl), trivial⟩
     have L96 := Mem.rfl' m67
     exact wpl_no (d := 171) rfl rfl (congrArg Value.bool hb37) <| wpn <| ⟨m67, Mem.tr L94 L96, ⟨X1, X2, C69, C70, S94⟩, facts_step HM rfl K L96 rfl rfl ⟨fun hx => tf hx hb37, fun _ => rfl⟩, outP⟩
   · intro L f47 w87 hL hd hc ⟨m68, L97, ⟨X1, X2, C71, C72, S95⟩, K, hO⟩
     rcases bool_tf ((((((x2.1.Log == 3) && (x2.1.Delay == 20)) && (x3.2.1.Log == 3)) && (x3.2.1.At == 5)) && (eqSum x3.2.1.Leaf x12)) && (x13 == 0)) with hb38 | hb38
     · obtain ⟨u73, rfl⟩ := fr_of (N := 212) (L := [(171, _), (172, _), (173, _)]) hO ⟨K 32 (dep hd rfl), (K 33 (dep hd rfl)).1 hb38, (K 34 (dep hd rfl)).1 hb38, trivial⟩
       have L98 := Mem.rfl' m68
       exact wpl_yes (d := 171) rfl rfl (congrArg Value.bool hb38) <| s_eqlA (cs := [vI x7.1.Log, vI x7.1.Size, vU x7.1.Root.1, vU x7.1.Root.2, vI x7.1.At, vU x7.1.Sig.E, vU x7.1.Sig.S]) (ds := [vI x8.1.Log, vI x8.1.Size, vU x8.1.Root.1, vU x8.1.Root.2, vI x8.1.At, vU x8.1.Sig.E, vU x8.1.Sig.S]) rfl rfl (eqv_api_Head (p := x7.1) (q := x8.1)) rfl Try.eqGuardType57 <| wpn <| ⟨m68, Mem.tr L97 L98, ⟨X1, X2, C71, C72, S95⟩, facts_step HM rfl K L98 rfl rfl ⟨fun _ => rfl, fun hx => tf hb38 hx⟩, outP⟩
     obtain ⟨u74, rfl⟩ := fr_of (N := 212) (L := [(171, _)]) hO ⟨K 32 (dep hd rfl), trivial⟩
     have L99 := Mem.rfl' m68
     exact wpl_no (d := 171) rfl rfl (congrArg Value.bool hb38) <| wpn <| ⟨m68, Mem.tr L97 L99, ⟨X1, X2, C71, C72, S95⟩, facts_step HM rfl K L99 rfl rfl ⟨fun hx => tf hx hb38, fun _ => rfl⟩, outP⟩
   · intro L f48 w88 hL hd hc ⟨m69, L100, ⟨X1, X2, C73, C74, S96⟩, K, hO⟩
     rcases bool_tf ((((((x2.1.Log == 3) && (x2.1.Delay == 20)) && (x3.2.1.Log == 3)) && (x3.2.1.At == 5)) && (eqSum x3.2.1.Leaf x12)) && (x13 == 0)) with hb39 | hb39
     · obtain ⟨u75, rfl⟩ := fr_of (N := 212) (L := [(171, _), (174, _)]) hO ⟨K 32 (dep hd rfl), (K 35 (dep hd rfl)).1 hb39, trivial⟩
       have L101 := Mem.rfl' m69
       exact s_pickT (congrArg Value.bool hb39) rfl <| wpn <| ⟨m69, Mem.tr L100 L101, ⟨X1, X2, C73, C74, S96⟩, facts_step HM rfl K L101 rfl rfl (congrArg Value.bool (and_t hb39)), outP⟩
     · obtain ⟨u76, rfl⟩ := fr_of (N := 212) (L := [(171, _)]) hO ⟨K 32 (dep hd rfl), trivial⟩
       have L102 := Mem.rfl' m69
       exact s_pickF (congrArg Value.bool hb39) rfl <| wpn <| ⟨m69, Mem.tr L100 L102, ⟨X1, X2, C73, C74, S96⟩, facts_step HM rfl K L102 rfl rfl (congrArg Value.bool (and_f hb39)), outP⟩
   · intro L f49 w89 hL hd hc ⟨m70, L103, ⟨X1, X2, C75, C76, S97⟩, K, hO⟩
     obtain ⟨u77, rfl⟩ := fr_of (N := 212) (L := [(175, _)]) hO ⟨K 36 (dep hd rfl), trivial⟩
     have L104 := Mem.rfl' m70
     exact s_mvv (v := vb (((((((x2.1.Log == 3) && (x2.1.Delay == 20)) && (x3.2.1.Log == 3)) && (x3.2.1.At == 5)) && (eqSum x3.2.1.Leaf x12)) && (x13 == 0)) && (eq_api_Head x7.1 x8.1))) rfl <| wpn <| ⟨m70, Mem.tr L103 L104, ⟨X1, X2, C75, C76, S97⟩, facts_step HM rfl K L104 rfl rfl rfl, outP⟩
   · intro L f50 w90 hL hd hc ⟨m71, L105, ⟨X1, X2, C77, C78, S98⟩, K, hO⟩
     rcases bool_tf (((((((x2.1.Log == 3) && (x2.1.Delay == 20)) && (x3.2.1.Log == 3)) && (x3.2.1.At == 5)) && (eqSum x3.2.1.Leaf x12)) && (x13 == 0)) && (eq_api_Head x7.1 x8.1)) with hb40 | hb40
     · obtain ⟨u78, rfl⟩ := fr_of (N := 212) (L := [(176, _)]) hO ⟨K 37 (dep hd rfl), trivial⟩
       have L106 := Mem.rfl' m71
       exact wpl_yes (d := 176) rfl rfl (congrArg Value.bool hb40) <| s_ld (i := 8) (cs := [vI x2.1.Log, vU x2.1.Key, vI x2.1.Delay]) S98 rfl rfl Try.isAgg40 Try.sizeOf40 rfl (fun h => by cases h) <| wpn <| ⟨m71, Mem.tr L105 L106, ⟨X1, X2, C77, C78, S98⟩, facts_step HM rfl K L106 rfl rfl ⟨fun _ => rfl, fun hx => tf hb40 hx⟩, outP⟩
     obtain ⟨u79, rfl⟩ := fr_of (N := 212) (L := [(176, _)]) hO ⟨K 37 (dep hd rfl), trivial⟩
     have L107 := Mem.rfl' m71
     exact wpl_no (d := 176) rfl rfl (congrArg Value.bool hb40) <| wpn <| ⟨m71, Mem.tr L105 L107, ⟨X1, X2, C77, C78, S98⟩, facts_step HM rfl K L107 rfl rfl ⟨fun hx => tf hx hb40, fun _ => rfl⟩, outP⟩
   · intro L f51 w91 hL hd hc ⟨m72, L108, ⟨X1, X2, C79, C80, S99⟩, K, hO⟩
     rcases bool_tf (((((((x2.1.Log == 3) && (x2.1.Delay == 20)) && (x3.2.1.Log == 3)) && (x3.2.1.At == 5)) && (eqSum x3.2.1.Leaf x12)) && (x13 == 0)) && (eq_api_Head x7.1 x8.1)) with hb41 | hb41
     · obtain ⟨u80, rfl⟩ := fr_of (N := 212) (L := [(176, _)]) hO ⟨K 37 (dep hd rfl), trivial⟩
       have L109 := Mem.rfl' m72
       exact wpl_yes (d := 176) rfl rfl (congrArg Value.bool hb41) <| s_ld (i := 4) (cs := [vI x7.1.Log, vI x7.1.Size, vU x7.1.Root.1, vU x7.1.Root.2, vI x7.1.At, vU x7.1.Sig.E, vU x7.1.Sig.S]) S99 rfl rfl Try.isAgg57 Try.sizeOf57 rfl (fun h => by cases h) <| wpn <| ⟨m72, Mem.tr L108 L109, ⟨X1, X2, C79, C80, S99⟩, facts_step HM rfl K L109 rfl rfl ⟨fun _ => rfl, fun hx => tf hb41 hx⟩, outP⟩
     obtain ⟨u81, rfl⟩ := fr_of (N := 212) (L := [(176, _)]) hO ⟨K 37 (dep hd rfl), trivial⟩
     have L110 := Mem.rfl' m72
     exact wpl_no (d := 176) rfl rfl (congrArg Value.bool hb41) <| wpn <| ⟨m72, Mem.tr L108 L110, ⟨X1, X2, C79, C80, S99⟩, facts_step HM rfl K L110 rfl rfl ⟨fun hx => tf hx hb41, fun _ => rfl⟩, outP⟩
   · intro L f52 w92 hL hd hc ⟨m73, L111, ⟨X1, X2, C81, C82, S100⟩, K, hO⟩
     rcases bool_tf (((((((x2.1.Log == 3) && (x2.1.Delay == 20)) && (x3.2.1.Log == 3)) && (x3.2.1.At == 5)) && (eqSum x3.2.1.Leaf x12)) && (x13 == 0)) && (eq_api_Head x7.1 x8.1)) with hb42 | hb42
     · obtain ⟨u82, rfl⟩ := fr_of (N := 212) (L := [(176, _), (177, _), (178, _)]) hO ⟨K 37 (dep hd rfl), (K 38 (dep hd rfl)).1 hb42, (K 39 (dep hd rfl)).1 hb42, trivial⟩
       replace h30 := RepL.up L111 h30
       replace h31 := RepL.up L111 h31
       replace h19 := h19.up L111
       replace h20 := h20.up L111
       replace h21 := h21.up L111
       replace h13 := h13.up L111
       replace h14 := h14.up L111
       replace h15 := h15.up L111
       have L112 := Mem.rfl' m73
       refine wpl_yes (d := 176) rfl rfl (congrArg Value.bool hb42) ?_
       replace q14 := gu_t hb42 q14
       refine s_call Try.call20 (w_logd_CheckHead (a0 := x2.1) (a1 := x7.1) S100  q14) rfl ?_
       rintro _ w93 ⟨m74, l33, S101, rfl⟩
       replace C81 := C81.imp id (fun q => q.imp (fun p a b => (p a b).imp (fun r hc => RowS.up l33 (r hc)) id) id)
       replace C82 := C82.imp id (fun q => q.imp (fun p a b => (p a b).imp (fun r hc => RowS.up l33 (r hc)) id) id)
       replace L112 := Mem.tr L112 l33
       clear S100
       exact wpn <| ⟨m74, Mem.tr L111 L112, ⟨X1, X2, C81, C82, S101⟩, facts_step HM rfl K L112 rfl rfl ⟨fun _ => rfl, fun hx => tf hb42 hx⟩, outP⟩
     obtain ⟨u83, rfl⟩ := fr_of (N := 212) (L := [(176, _)]) hO ⟨K 37 (dep hd rfl), trivial⟩
     have L113 := Mem.rfl' m73
     exact wpl_no (d := 176) rfl rfl (congrArg Value.bool hb42) <| wpn <| ⟨m73, Mem.tr L111 L113, ⟨X1, X2, C81, C82, S100⟩, facts_step HM rfl K L113 rfl rfl ⟨fun hx => tf hx hb42, fun _ => rfl⟩, outP⟩
   · intro L f53 w94 hL hd hc ⟨m75, L114, ⟨X1, X2, C83, C84, S102⟩, K, hO⟩
     rcases bool_tf (((((((x2.1.Log == 3) && (x2.1.Delay == 20)) && (x3.2.1.Log == 3)) && (x3.2.1.At == 5)) && (eqSum x3.2.1.Leaf x12)) && (x13 == 0)) && (eq_api_Head x7.1 x8.1)) with hb43 | hb43
     · obtain ⟨u84, rfl⟩ := fr_of (N := 212) (L := [(176, _), (179, _)]) hO ⟨K 37 (dep hd rfl), (K 40 (dep hd rfl)).1 hb43, trivial⟩
       have L115 := Mem.rfl' m75
       exact wpl_yes (d := 176) rfl rfl (congrArg Value.bool hb43) <| s_eql (m := x14) (n := 0) rfl rfl <| wpn <| ⟨m75, Mem.tr L114 L115, ⟨X1, X2, C83, C84, S102⟩, facts_step HM rfl K L115 rfl rfl ⟨fun _ => rfl, fun hx => tf hb43 hx⟩, outP⟩
     obtain ⟨u85, rfl⟩ := fr_of (N := 212) (L := [(176, _)]) hO ⟨K 37 (dep hd rfl), trivial⟩
     have L116 := Mem.rfl' m75
     exact wpl_no (d := 176) rfl rfl (congrArg Value.bool hb43) <| wpn <| ⟨m75, Mem.tr L114 L116, ⟨X1, X2, C83, C84, S102⟩, facts_step HM rfl K L116 rfl rfl ⟨fun hx => tf hx hb43, fun _ => rfl⟩, outP⟩
   · intro L f54 w95 hL hd hc ⟨m76, L117, ⟨X1, X2, C85, C86, S103⟩, K, hO⟩
     rcases bool_tf (((((((x2.1.Log == 3) && (x2.1.Delay == 20)) && (x3.2.1.Log == 3)) && (x3.2.1.At == 5)) && (eqSum x3.2.1.Leaf x12)) && (x13 == 0)) && (eq_api_Head x7.1 x8.1)) with hb44 | hb44
     · obtain ⟨u86, rfl⟩ := fr_of (N := 212) (L := [(176, _), (180, _)]) hO ⟨K 37 (dep hd rfl), (K 41 (dep hd rfl)).1 hb44, trivial⟩
       have L118 := Mem.rfl' m76
       exact s_pickT (congrArg Value.bool hb44) rfl <| wpn <| ⟨m76, Mem.tr L117 L118, ⟨X1, X2, C85, C86, S103⟩, facts_step HM rfl K L118 rfl rfl (congrArg Value.bool (and_t hb44)), outP⟩
     · obtain ⟨u87, rfl⟩ := fr_of (N := 212) (L := [(176, _)]) hO ⟨K 37 (dep hd rfl), trivial⟩
       have L119 := Mem.rfl' m76
       exact s_pickF (congrArg Value.bool hb44) rfl <| wpn <| ⟨m76, Mem.tr L117 L119, ⟨X1, X2, C85, C86, S103⟩, facts_step HM rfl K L119 rfl rfl (congrArg Value.bool (and_f hb44)), outP⟩
   · intro L f55 w96 hL hd hc ⟨m77, L120, ⟨X1, X2, C87, C88, S104⟩, K, hO⟩
     obtain ⟨u88, rfl⟩ := fr_of (N := 212) (L := [(181, _)]) hO ⟨K 42 (dep hd rfl), trivial⟩
     have L121 := Mem.rfl' m77
     exact s_mvv (v := vb ((((((((x2.1.Log == 3) && (x2.1.Delay == 20)) && (x3.2.1.Log == 3)) && (x3.2.1.At == 5)) && (eqSum x3.2.1.Leaf x12)) && (x13 == 0)) && (eq_api_Head x7.1 x8.1)) && (x14 == 0))) rfl <| wpn <| ⟨m77, Mem.tr L120 L121, ⟨X1, X2, C87, C88, S104⟩, facts_step HM rfl K L121 rfl rfl rfl, outP⟩
   · intro L f56 w97 hL hd hc ⟨m78, L122, ⟨X1, X2, C89, C90, S105⟩, K, hO⟩
     rcases bool_tf ((((((((x2.1.Log == 3) && (x2.1.Delay == 20)) && (x3.2.1.Log == 3)) && (x3.2.1.At == 5)) && (eqSum x3.2.1.Leaf x12)) && (x13 == 0)) && (eq_api_Head x7.1 x8.1)) && (x14 == 0)) with hb45 | hb45
     · obtain ⟨u89, rfl⟩ := fr_of (N := 212) (L := [(182, _)]) hO ⟨K 43 (dep hd rfl), trivial⟩
       have L123 := Mem.rfl' m78
       exact wpl_yes (d := 182) rfl rfl (congrArg Value.bool hb45) <| s_mvv (v := v19) rfl <| wpn <| ⟨m78, Mem.tr L122 L123, ⟨X1, X2, C89, C90, S105⟩, facts_step HM rfl K L123 rfl rfl ⟨fun _ => rfl, fun hx => tf hb45 hx⟩, outP⟩
     obtain ⟨u90, rfl⟩ := fr_of (N := 212) (L := [(182, _)]) hO ⟨K 43 (dep hd rfl), trivial⟩
     have L124 := Mem.rfl' m78
     exact wpl_no (d := 182) rfl rfl (congrArg Value.bool hb45) <| wpn <| ⟨m78, Mem.tr L122 L124, ⟨X1, X2, C89, C90, S105⟩, facts_step HM rfl K L124 rfl rfl ⟨fun hx => tf hx hb45, fun _ => rfl⟩, outP⟩
   · intro L f57 w98 hL hd hc ⟨m79, L125, ⟨X1, X2, C91, C92, S106⟩, K, hO⟩
     rcases bool_tf ((((((((x2.1.Log == 3) && (x2.1.Delay == 20)) && (x3.2.1.Log == 3)) && (x3.2.1.At == 5)) && (eqSum x3.2.1.Leaf x12)) && (x13 == 0)) && (eq_api_Head x7.1 x8.1)) && (x14 == 0)) with hb46 | hb46
     · obtain ⟨u91, rfl⟩ := fr_of (N := 212) (L := [(182, _), (183, _)]) hO ⟨K 43 (dep hd rfl), (K 44 (dep hd rfl)).1 hb46, trivial⟩
       have L126 := Mem.rfl' m79
       refine wpl_yes (d := 182) rfl rfl (congrArg Value.bool hb46) ?_
       replace q15 := gu_t hb46 q15
       exact s_idxO (i := 2) (j := 0) S106 rfl rfl rfl (idx_rng q15).1 (idx_rng q15).2 Try.underlying45 Try.sizeOf31 fun p1 h39 => wpn <| ⟨m79, Mem.tr L125 L126, ⟨X1, X2, C91, C92, S106⟩, facts_step HM rfl K L126 rfl rfl ⟨fun _ => ⟨p1, rfl, h39⟩, fun hx => tf hb46 hx⟩, outP⟩
     obtain ⟨u92, rfl⟩ := fr_of (N := 212) (L := [(182, _)]) hO ⟨K 43 (dep hd rfl), trivial⟩
     have L127 := Mem.rfl' m79
     exact wpl_no (d := 182) rfl rfl (congrArg Value.bool hb46) <| wpn <| ⟨m79, Mem.tr L125 L127, ⟨X1, X2, C91, C92, S106⟩, facts_step HM rfl K L127 rfl rfl ⟨fun hx => tf hx hb46, fun _ => rfl⟩, outP⟩
   · intro L f58 w99 hL hd hc ⟨m80, L128, ⟨X1, X2, C93, C94, S107⟩, K, hO⟩
     rcases bool_tf ((((((((x2.1.Log == 3) && (x2.1.Delay == 20)) && (x3.2.1.Log == 3)) && (x3.2.1.At == 5)) && (eqSum x3.2.1.Leaf x12)) && (x13 == 0)) && (eq_api_Head x7.1 x8.1)) && (x14 == 0)) with hb47 | hb47
     · obtain ⟨v25, e110, h40⟩ := (K 45 (dep hd rfl)).1 hb47
       obtain ⟨u93, rfl⟩ := fr_of (N := 212) (L := [(182, _), (184, _)]) hO ⟨K 43 (dep hd rfl), e110, trivial⟩
       replace h30 := RepL.up L128 h30
       have L129 := Mem.rfl' m80
       refine wpl_yes (d := 182) rfl rfl (congrArg Value.bool hb47) ?_
       have e111 := rep_arr2_UInt64 (RepL.getI h30 (gu_t hb47 q15))
       exact s_ldO (i := 2) (off := (0 : Int).toNat * 2) (d := [vU x15.1, vU x15.2]) S107 rfl h40 rfl e111 Try.isAgg31 Try.sizeOf31 (fun h => by cases h) <| wpn <| ⟨m80, Mem.tr L128 L129, ⟨X1, X2, C93, C94, S107⟩, facts_step HM rfl K L129 rfl rfl ⟨fun _ => rfl, fun hx => tf hb47 hx⟩, outP⟩
     obtain ⟨u94, rfl⟩ := fr_of (N := 212) (L := [(182, _)]) hO ⟨K 43 (dep hd rfl), trivial⟩
     have L130 := Mem.rfl' m80
     exact wpl_no (d := 182) rfl rfl (congrArg Value.bool hb47) <| wpn <| ⟨m80, Mem.tr L128 L130, ⟨X1, X2, C93, C94, S107⟩, facts_step HM rfl K L130 rfl rfl ⟨fun hx => tf hx hb47, fun _ => rfl⟩, outP⟩
   · intro L f59 w100 hL hd hc ⟨m81, L131, ⟨X1, X2, C95, C96, S108⟩, K, hO⟩
     rcases bool_tf ((((((((x2.1.Log == 3) && (x2.1.Delay == 20)) && (x3.2.1.Log == 3)) && (x3.2.1.At == 5)) && (eqSum x3.2.1.Leaf x12)) && (x13 == 0)) && (eq_api_Head x7.1 x8.1)) && (x14 == 0)) with hb48 | hb48
     · have d47 : L 47 = false := hL
       have d48 : L 48 = false := undep hc hL rfl
       obtain ⟨u95, rfl⟩ := fr_of (N := 212) (L := [(182, _)]) hO ⟨K 43 (dep hd rfl), trivial⟩
       replace S108 := St.sw (L := [bx b8 [vI x11.1.Log, vI x11.1.Size, vU x11.1.Root.1, vU x11.1.Root.2, vI x11.1.At, vU x11.1.Sig.E, vU x11.1.Sig.S] 57, row 2 v20 c2 x10.1.length, row 2 v19 c1 x9.1.length, bx b7 [vI x8.1.Log, vI x8.1.Size, vU x8.1.Root.1, vU x8.1.Root.2, vI x8.1.At, vU x8.1.Sig.E, vU x8.1.Sig.S] 57, bx b6 [vI x7.1.Log, vI x7.1.Size, vU x7.1.Root.1, vU x7.1.Root.2, vI x7.1.At, vU x7.1.Sig.E, vU x7.1.Sig.S] 57, bx b5 [vI x6.1.Id, vU x6.1.Key, vI x6.1.Delay, v16, v17, v18] 26, bx b4 [vI x4.2.1.Log, vI x4.2.1.At, vU x4.2.1.Leaf.1, vU x4.2.1.Leaf.2, vU x4.2.1.Sig.E, vU x4.2.1.Sig.S] 35, bx b3 [vI x3.2.1.Log, vI x3.2.1.At, vU x3.2.1.Leaf.1, vU x3.2.1.Leaf.2, vU x3.2.1.Sig.E, vU x3.2.1.Sig.S] 35, bx b2 [vI x2.1.Log, vU x2.1.Key, vI x2.1.Delay] 40, bx b1 [vI x4.1.Id, vU x4.1.Key, vI x4.1.Delay, v10, v11, v12] 26]) (X := X1) (Y := X2) (As := As) S108
       replace S108 : St _ ((bx b8 [vI x11.1.Log, vI x11.1.Size, vU x11.1.Root.1, vU x11.1.Root.2, vI x11.1.At, vU x11.1.Sig.E, vU x11.1.Sig.S] 57) :: (row 2 v20 c2 x10.1.length) :: (row 2 v19 c1 x9.1.length) :: (bx b7 [vI x8.1.Log, vI x8.1.Size, vU x8.1.Root.1, vU x8.1.Root.2, vI x8.1.At, vU x8.1.Sig.E, vU x8.1.Sig.S] 57) :: (bx b6 [vI x7.1.Log, vI x7.1.Size, vU x7.1.Root.1, vU x7.1.Root.2, vI x7.1.At, vU x7.1.Sig.E, vU x7.1.Sig.S] 57) :: (bx b5 [vI x6.1.Id, vU x6.1.Key, vI x6.1.Delay, v16, v17, v18] 26) :: (bx b4 [vI x4.2.1.Log, vI x4.2.1.At, vU x4.2.1.Leaf.1, vU x4.2.1.Leaf.2, vU x4.2.1.Sig.E, vU x4.2.1.Sig.S] 35) :: (bx b3 [vI x3.2.1.Log, vI x3.2.1.At, vU x3.2.1.Leaf.1, vU x3.2.1.Leaf.2, vU x3.2.1.Sig.E, vU x3.2.1.Sig.S] 35) :: (bx b2 [vI x2.1.Log, vU x2.1.Key, vI x2.1.Delay] 40) :: (bx b1 [vI x4.1.Id, vU x4.1.Key, vI x4.1.Delay, v10, v11, v12] 26) :: (X2 ++ (X1 ++ As))) _ := S108
       obtain rfl := C96.1 d47
       replace S108 : St _ ((bx b8 [vI x11.1.Log, vI x11.1.Size, vU x11.1.Root.1, vU x11.1.Root.2, vI x11.1.At, vU x11.1.Sig.E, vU x11.1.Sig.S] 57) :: (row 2 v20 c2 x10.1.length) :: (row 2 v19 c1 x9.1.length) :: (bx b7 [vI x8.1.Log, vI x8.1.Size, vU x8.1.Root.1, vU x8.1.Root.2, vI x8.1.At, vU x8.1.Sig.E, vU x8.1.Sig.S] 57) :: (bx b6 [vI x7.1.Log, vI x7.1.Size, vU x7.1.Root.1, vU x7.1.Root.2, vI x7.1.At, vU x7.1.Sig.E, vU x7.1.Sig.S] 57) :: (bx b5 [vI x6.1.Id, vU x6.1.Key, vI x6.1.Delay, v16, v17, v18] 26) :: (bx b4 [vI x4.2.1.Log, vI x4.2.1.At, vU x4.2.1.Leaf.1, vU x4.2.1.Leaf.2, vU x4.2.1.Sig.E, vU x4.2.1.Sig.S] 35) :: (bx b3 [vI x3.2.1.Log, vI x3.2.1.At, vU x3.2.1.Leaf.1, vU x3.2.1.Leaf.2, vU x3.2.1.Sig.E, vU x3.2.1.Sig.S] 35) :: (bx b2 [vI x2.1.Log, vU x2.1.Key, vI x2.1.Delay] 40) :: (bx b1 [vI x4.1.Id, vU x4.1.Key, vI x4.1.Delay, v10, v11, v12] 26) :: (X1 ++ As)) _ := S108
       have L132 := Mem.rfl' m81
       refine wpl_yes (d := 182) rfl rfl (congrArg Value.bool hb48) <| s_litOC (parts := [.const (.int .u8 97)]) (vs := [vB 97]) (cls := [[vB 97]]) (n := 1) (sz := 1) S108 Try.underlying27 Try.sizeOf5 Try.zeroValue5 rfl ⟨rfl, trivial⟩ rfl rfl (by decide) (by decide) fun v26 w101 S109 => ?_
       have h41 : RepL m81 [vB 97] ([97] : List UInt8) := (RepL.cons (c := [vB 97]) (x := 97) rfl RepL.nil)
       replace S109 : St _ ((row 1 v26 [vB 97] ([97] : List UInt8).length) :: (bx b8 [vI x11.1.Log, vI x11.1.Size, vU x11.1.Root.1, vU x11.1.Root.2, vI x11.1.At, vU x11.1.Sig.E, vU x11.1.Sig.S] 57) :: (row 2 v20 c2 x10.1.length) :: (row 2 v19 c1 x9.1.length) :: (bx b7 [vI x8.1.Log, vI x8.1.Size, vU x8.1.Root.1, vU x8.1.Root.2, vI x8.1.At, vU x8.1.Sig.E, vU x8.1.Sig.S] 57) :: (bx b6 [vI x7.1.Log, vI x7.1.Size, vU x7.1.Root.1, vU x7.1.Root.2, vI x7.1.At, vU x7.1.Sig.E, vU x7.1.Sig.S] 57) :: (bx b5 [vI x6.1.Id, vU x6.1.Key, vI x6.1.Delay, v16, v17, v18] 26) :: (bx b4 [vI x4.2.1.Log, vI x4.2.1.At, vU x4.2.1.Leaf.1, vU x4.2.1.Leaf.2, vU x4.2.1.Sig.E, vU x4.2.1.Sig.S] 35) :: (bx b3 [vI x3.2.1.Log, vI x3.2.1.At, vU x3.2.1.Leaf.1, vU x3.2.1.Leaf.2, vU x3.2.1.Sig.E, vU x3.2.1.Sig.S] 35) :: (bx b2 [vI x2.1.Log, vU x2.1.Key, vI x2.1.Delay] 40) :: (bx b1 [vI x4.1.Id, vU x4.1.Key, vI x4.1.Delay, v10, v11, v12] 26) :: (X1 ++ As)) _ := S109
       clear S108
       refine wpn <| ⟨m81, Mem.tr L131 L132, ⟨X1, [row 1 v26 [vB 97] ([97] : List UInt8).length], C95, ⟨fun hx => tf rfl hx, fun _ _ => ⟨fun _ => ⟨_, rfl, h41⟩, fun hx => tf hb48 hx⟩, fun hx => tf hx d48⟩, ?_⟩, facts_step HM rfl K L132 rfl rfl trivial, outP⟩
       have S144 : St _ ((bx b8 [vI x11.1.Log, vI x11.1.Size, vU x11.1.Root.1, vU x11.1.Root.2, vI x11.1.At, vU x11.1.Sig.E, vU x11.1.Sig.S] 57) :: (row 2 v20 c2 x10.1.length) :: (row 2 v19 c1 x9.1.length) :: (bx b7 [vI x8.1.Log, vI x8.1.Size, vU x8.1.Root.1, vU x8.1.Root.2, vI x8.1.At, vU x8.1.Sig.E, vU x8.1.Sig.S] 57) :: (bx b6 [vI x7.1.Log, vI x7.1.Size, vU x7.1.Root.1, vU x7.1.Root.2, vI x7.1.At, vU x7.1.Sig.E, vU x7.1.Sig.S] 57) :: (bx b5 [vI x6.1.Id, vU x6.1.Key, vI x6.1.Delay, v16, v17, v18] 26) :: (bx b4 [vI x4.2.1.Log, vI x4.2.1.At, vU x4.2.1.Leaf.1, vU x4.2.1.Leaf.2, vU x4.2.1.Sig.E, vU x4.2.1.Sig.S] 35) :: (bx b3 [vI x3.2.1.Log, vI x3.2.1.At, vU x3.2.1.Leaf.1, vU x3.2.1.Leaf.2, vU x3.2.1.Sig.E, vU x3.2.1.Sig.S] 35) :: (bx b2 [vI x2.1.Log, vU x2.1.Key, vI x2.1.Delay] 40) :: (bx b1 [vI x4.1.Id, vU x4.1.Key, vI x4.1.Delay, v10, v11, v12] 26) :: (row 1 v26 [vB 97] ([97] : List UInt8).length) :: (X1 ++ As)) _ := St.perm S109 (List.Perm.trans (List.Perm.swap _ _ _) (List.Perm.trans (List.Perm.cons _ (List.Perm.swap _ _ _)) (List.Perm.trans (List.Perm.cons _ (List.Perm.cons _ (List.Perm.swap _ _ _))) (List.Perm.trans (List.Perm.cons _ (List.Perm.cons _ (List.Perm.cons _ (List.Perm.swap _ _ _)))) (List.Perm.trans (List.Perm.cons _ (List.Perm.cons _ (List.Perm.cons _ (List.Perm.cons _ (List.Perm.swap _ _ _))))) (List.Perm.trans (List.Perm.cons _ (List.Perm.cons _ (List.Perm.cons _ (List.Perm.cons _ (List.Perm.cons _ (List.Perm.swap _ _ _)))))) (List.Perm.trans (List.Perm.cons _ (List.Perm.cons _ (List.Perm.cons _ (List.Perm.cons _ (List.Perm.cons _ (List.Perm.cons _ (List.Perm.swap _ _ _))))))) (List.Perm.trans (List.Perm.cons _ (List.Perm.cons _ (List.Perm.cons _ (List.Perm.cons _ (List.Perm.cons _ (List.Perm.cons _ (List.Perm.cons _ (List.Perm.swap _ _ _)))))))) (List.Perm.trans (List.Perm.cons _ (List.Perm.cons _ (List.Perm.cons _ (List.Perm.cons _ (List.Perm.cons _ (List.Perm.cons _ (List.Perm.cons _ (List.Perm.cons _ (List.Perm.swap _ _ _))))))))) (List.Perm.cons _ (List.Perm.cons _ (List.Perm.cons _ (List.Perm.cons _ (List.Perm.cons _ (List.Perm.cons _ (List.Perm.cons _ (List.Perm.cons _ (List.Perm.cons _ (List.Perm.swap _ _ _)))))))))))))))))))
       have S144s := St.sw (L := [bx b8 [vI x11.1.Log, vI x11.1.Size, vU x11.1.Root.1, vU x11.1.Root.2, vI x11.1.At, vU x11.1.Sig.E, vU x11.1.Sig.S] 57, row 2 v20 c2 x10.1.length, row 2 v19 c1 x9.1.length, bx b7 [vI x8.1.Log, vI x8.1.Size, vU x8.1.Root.1, vU x8.1.Root.2, vI x8.1.At, vU x8.1.Sig.E, vU x8.1.Sig.S] 57, bx b6 [vI x7.1.Log, vI x7.1.Size, vU x7.1.Root.1, vU x7.1.Root.2, vI x7.1.At, vU x7.1.Sig.E, vU x7.1.Sig.S] 57, bx b5 [vI x6.1.Id, vU x6.1.Key, vI x6.1.Delay, v16, v17, v18] 26, bx b4 [vI x4.2.1.Log, vI x4.2.1.At, vU x4.2.1.Leaf.1, vU x4.2.1.Leaf.2, vU x4.2.1.Sig.E, vU x4.2.1.Sig.S] 35, bx b3 [vI x3.2.1.Log, vI x3.2.1.At, vU x3.2.1.Leaf.1, vU x3.2.1.Leaf.2, vU x3.2.1.Sig.E, vU x3.2.1.Sig.S] 35, bx b2 [vI x2.1.Log, vU x2.1.Key, vI x2.1.Delay] 40, bx b1 [vI x4.1.Id, vU x4.1.Key, vI x4.1.Delay, v10, v11, v12] 26]) (X := [row 1 v26 [vB 97] ([97] : List UInt8).length]) (Y := X1) (As := As) S144
       exact S144s
     have d47 : L 47 = false := hL
     have d48 : L 48 = false := undep hc hL rfl
     obtain ⟨u96, rfl⟩ := fr_of (N := 212) (L := [(182, _)]) hO ⟨K 43 (dep hd rfl), trivial⟩
     replace S108 := St.sw (L := [bx b8 [vI x11.1.Log, vI x11.1.Size, vU x11.1.Root.1, vU x11.1.Root.2, vI x11.1.At, vU x11.1.Sig.E, vU x11.1.Sig.S] 57, row 2 v20 c2 x10.1.length, row 2 v19 c1 x9.1.length, bx b7 [vI x8.1.Log, vI x8.1.Size, vU x8.1.Root.1, vU x8.1.Root.2, vI x8.1.At, vU x8.1.Sig.E, vU x8.1.Sig.S] 57, bx b6 [vI x7.1.Log, vI x7.1.Size, vU x7.1.Root.1, vU x7.1.Root.2, vI x7.1.At, vU x7.1.Sig.E, vU x7.1.Sig.S] 57, bx b5 [vI x6.1.Id, vU x6.1.Key, vI x6.1.Delay, v16, v17, v18] 26, bx b4 [vI x4.2.1.Log, vI x4.2.1.At, vU x4.2.1.Leaf.1, vU x4.2.1.Leaf.2, vU x4.2.1.Sig.E, vU x4.2.1.Sig.S] 35, bx b3 [vI x3.2.1.Log, vI x3.2.1.At, vU x3.2.1.Leaf.1, vU x3.2.1.Leaf.2, vU x3.2.1.Sig.E, vU x3.2.1.Sig.S] 35, bx b2 [vI x2.1.Log, vU x2.1.Key, vI x2.1.Delay] 40, bx b1 [vI x4.1.Id, vU x4.1.Key, vI x4.1.Delay, v10, v11, v12] 26]) (X := X1) (Y := X2) (As := As) S108
     replace S108 : St _ ((bx b8 [vI x11.1.Log, vI x11.1.Size, vU x11.1.Root.1, vU x11.1.Root.2, vI x11.1.At, vU x11.1.Sig.E, vU x11.1.Sig.S] 57) :: (row 2 v20 c2 x10.1.length) :: (row 2 v19 c1 x9.1.length) :: (bx b7 [vI x8.1.Log, vI x8.1.Size, vU x8.1.Root.1, vU x8.1.Root.2, vI x8.1.At, vU x8.1.Sig.E, vU x8.1.Sig.S] 57) :: (bx b6 [vI x7.1.Log, vI x7.1.Size, vU x7.1.Root.1, vU x7.1.Root.2, vI x7.1.At, vU x7.1.Sig.E, vU x7.1.Sig.S] 57) :: (bx b5 [vI x6.1.Id, vU x6.1.Key, vI x6.1.Delay, v16, v17, v18] 26) :: (bx b4 [vI x4.2.1.Log, vI x4.2.1.At, vU x4.2.1.Leaf.1, vU x4.2.1.Leaf.2, vU x4.2.1.Sig.E, vU x4.2.1.Sig.S] 35) :: (bx b3 [vI x3.2.1.Log, vI x3.2.1.At, vU x3.2.1.Leaf.1, vU x3.2.1.Leaf.2, vU x3.2.1.Sig.E, vU x3.2.1.Sig.S] 35) :: (bx b2 [vI x2.1.Log, vU x2.1.Key, vI x2.1.Delay] 40) :: (bx b1 [vI x4.1.Id, vU x4.1.Key, vI x4.1.Delay, v10, v11, v12] 26) :: (X2 ++ (X1 ++ As))) _ := S108
     obtain rfl := C96.1 d47
     replace S108 : St _ ((bx b8 [vI x11.1.Log, vI x11.1.Size, vU x11.1.Root.1, vU x11.1.Root.2, vI x11.1.At, vU x11.1.Sig.E, vU x11.1.Sig.S] 57) :: (row 2 v20 c2 x10.1.length) :: (row 2 v19 c1 x9.1.length) :: (bx b7 [vI x8.1.Log, vI x8.1.Size, vU x8.1.Root.1, vU x8.1.Root.2, vI x8.1.At, vU x8.1.Sig.E, vU x8.1.Sig.S] 57) :: (bx b6 [vI x7.1.Log, vI x7.1.Size, vU x7.1.Root.1, vU x7.1.Root.2, vI x7.1.At, vU x7.1.Sig.E, vU x7.1.Sig.S] 57) :: (bx b5 [vI x6.1.Id, vU x6.1.Key, vI x6.1.Delay, v16, v17, v18] 26) :: (bx b4 [vI x4.2.1.Log, vI x4.2.1.At, vU x4.2.1.Leaf.1, vU x4.2.1.Leaf.2, vU x4.2.1.Sig.E, vU x4.2.1.Sig.S] 35) :: (bx b3 [vI x3.2.1.Log, vI x3.2.1.At, vU x3.2.1.Leaf.1, vU x3.2.1.Leaf.2, vU x3.2.1.Sig.E, vU x3.2.1.Sig.S] 35) :: (bx b2 [vI x2.1.Log, vU x2.1.Key, vI x2.1.Delay] 40) :: (bx b1 [vI x4.1.Id, vU x4.1.Key, vI x4.1.Delay, v10, v11, v12] 26) :: (X1 ++ As)) _ := S108
     have L133 := Mem.rfl' m81
     exact wpl_no (d := 182) rfl rfl (congrArg Value.bool hb48) <| wpn <| ⟨m81, Mem.tr L131 L133, ⟨X1, [], C95, ⟨fun hx => tf rfl hx, fun _ _ => ⟨fun hx => tf hx hb48, fun _ => rfl⟩, fun hx => tf hx d48⟩, S108⟩, facts_step HM rfl K L133 rfl rfl trivial, outP⟩
   · intro L f60 w102 hL hd hc ⟨m82, L134, ⟨X1, X2, C97, C98, S110⟩, K, hO⟩
     rcases bool_tf ((((((((x2.1.Log == 3) && (x2.1.Delay == 20)) && (x3.2.1.Log == 3)) && (x3.2.1.At == 5)) && (eqSum x3.2.1.Leaf x12)) && (x13 == 0)) && (eq_api_Head x7.1 x8.1)) && (x14 == 0)) with hb49 | hb49
     · obtain ⟨v27, e116⟩ : ∃ x, f60 186 = x := ⟨_, rfl⟩
       have d47 : L 47 = true := dep hd rfl
       have d48 : L 48 = false := hL
       obtain ⟨u97, rfl⟩ := fr_of (N := 212) (L := [(182, _), (186, _)]) hO ⟨K 43 (dep hd rfl), e116, trivial⟩
       replace S110 := St.sw (L := [bx b8 [vI x11.1.Log, vI x11.1.Size, vU x11.1.Root.1, vU x11.1.Root.2, vI x11.1.At, vU x11.1.Sig.E, vU x11.1.Sig.S] 57, row 2 v20 c2 x10.1.length, row 2 v19 c1 x9.1.length, bx b7 [vI x8.1.Log, vI x8.1.Size, vU x8.1.Root.1, vU x8.1.Root.2, vI x8.1.At, vU x8.1.Sig.E, vU x8.1.Sig.S] 57, bx b6 [vI x7.1.Log, vI x7.1.Size, vU x7.1.Root.1, vU x7.1.Root.2, vI x7.1.At, vU x7.1.Sig.E, vU x7.1.Sig.S] 57, bx b5 [vI x6.1.Id, vU x6.1.Key, vI x6.1.Delay, v16, v17, v18] 26, bx b4 [vI x4.2.1.Log, vI x4.2.1.At, vU x4.2.1.Leaf.1, vU x4.2.1.Leaf.2, vU x4.2.1.Sig.E, vU x4.2.1.Sig.S] 35, bx b3 [vI x3.2.1.Log, vI x3.2.1.At, vU x3.2.1.Leaf.1, vU x3.2.1.Leaf.2, vU x3.2.1.Sig.E, vU x3.2.1.Sig.S] 35, bx b2 [vI x2.1.Log, vU x2.1.Key, vI x2.1.Delay] 40, bx b1 [vI x4.1.Id, vU x4.1.Key, vI x4.1.Delay, v10, v11, v12] 26]) (X := X1) (Y := X2) (As := As) S110
       replace S110 : St _ ((bx b8 [vI x11.1.Log, vI x11.1.Size, vU x11.1.Root.1, vU x11.1.Root.2, vI x11.1.At, vU x11.1.Sig.E, vU x11.1.Sig.S] 57) :: (row 2 v20 c2 x10.1.length) :: (row 2 v19 c1 x9.1.length) :: (bx b7 [vI x8.1.Log, vI x8.1.Size, vU x8.1.Root.1, vU x8.1.Root.2, vI x8.1.At, vU x8.1.Sig.E, vU x8.1.Sig.S] 57) :: (bx b6 [vI x7.1.Log, vI x7.1.Size, vU x7.1.Root.1, vU x7.1.Root.2, vI x7.1.At, vU x7.1.Sig.E, vU x7.1.Sig.S] 57) :: (bx b5 [vI x6.1.Id, vU x6.1.Key, vI x6.1.Delay, v16, v17, v18] 26) :: (bx b4 [vI x4.2.1.Log, vI x4.2.1.At, vU x4.2.1.Leaf.1, vU x4.2.1.Leaf.2, vU x4.2.1.Sig.E, vU x4.2.1.Sig.S] 35) :: (bx b3 [vI x3.2.1.Log, vI x3.2.1.At, vU x3.2.1.Leaf.1, vU x3.2.1.Leaf.2, vU x3.2.1.Sig.E, vU x3.2.1.Sig.S] 35) :: (bx b2 [vI x2.1.Log, vU x2.1.Key, vI x2.1.Delay] 40) :: (bx b1 [vI x4.1.Id, vU x4.1.Key, vI x4.1.Delay, v10, v11, v12] 26) :: (X2 ++ (X1 ++ As))) _ := S110
       obtain ⟨c4, rfl, h42⟩ := (C98.2.1 d47 d48).1 hb49
       replace h42 : RepL _ c4 ([97] : List UInt8) := h42
       replace S110 : St _ ((bx b8 [vI x11.1.Log, vI x11.1.Size, vU x11.1.Root.1, vU x11.1.Root.2, vI x11.1.At, vU x11.1.Sig.E, vU x11.1.Sig.S] 57) :: (row 2 v20 c2 x10.1.length) :: (row 2 v19 c1 x9.1.length) :: (bx b7 [vI x8.1.Log, vI x8.1.Size, vU x8.1.Root.1, vU x8.1.Root.2, vI x8.1.At, vU x8.1.Sig.E, vU x8.1.Sig.S] 57) :: (bx b6 [vI x7.1.Log, vI x7.1.Size, vU x7.1.Root.1, vU x7.1.Root.2, vI x7.1.At, vU x7.1.Sig.E, vU x7.1.Sig.S] 57) :: (bx b5 [vI x6.1.Id, vU x6.1.Key, vI x6.1.Delay, v16, v17, v18] 26) :: (bx b4 [vI x4.2.1.Log, vI x4.2.1.At, vU x4.2.1.Leaf.1, vU x4.2.1.Leaf.2, vU x4.2.1.Sig.E, vU x4.2.1.Sig.S] 35) :: (bx b3 [vI x3.2.1.Log, vI x3.2.1.At, vU x3.2.1.Leaf.1, vU x3.2.1.Leaf.2, vU x3.2.1.Sig.E, vU x3.2.1.Sig.S] 35) :: (bx b2 [vI x2.1.Log, vU x2.1.Key, vI x2.1.Delay] 40) :: (bx b1 [vI x4.1.Id, vU x4.1.Key, vI x4.1.Delay, v10, v11, v12] 26) :: (row 1 v27 c4 ([97] : List UInt8).length) :: (X1 ++ As)) _ := S110
       replace h30 := RepL.up L134 h30
       replace h31 := RepL.up L134 h31
       replace h19 := h19.up L134
       replace h20 := h20.up L134
       replace h21 := h21.up L134
       replace h13 := h13.up L134
       replace h14 := h14.up L134
       replace h15 := h15.up L134
       have L135 := Mem.rfl' m82
       refine wpl_yes (d := 182) rfl rfl (congrArg Value.bool hb49) <| s_mark (i := 10) S110 rfl rfl (Nat.le_of_ble_eq_true rfl) Try.underlying27 Try.underlying5 fun w103 S111 => ?_
       clear S110
       obtain ⟨m83, l34, h43, S112⟩ := St.rowKeepT (i := 10) S111 rfl h42 rfl
       replace C97 := C97.imp id (fun q => q.imp (fun p a b => (p a b).imp (fun r hc => RowS.up l34 (r hc)) id) id)
       replace L135 := Mem.tr L135 l34
       clear S111
       exact wpn <| ⟨m83, Mem.tr L134 L135, ⟨X1, [], C97, ⟨fun hx => tf d47 hx, fun _ hx => tf rfl hx, fun _ => rfl⟩, S112⟩, facts_step HM rfl K L135 rfl rfl ⟨fun _ => ⟨v27, rfl, h43⟩, fun hx => tf hb49 hx⟩, outP⟩
     have d47 : L 47 = true := dep hd rfl
     have d48 : L 48 = false := hL
     obtain ⟨v28, e118⟩ : ∃ x, f60 186 = x := ⟨_, rfl⟩
     obtain ⟨u98, rfl⟩ := fr_of (N := 212) (L := [(182, _), (186, _)]) hO ⟨K 43 (dep hd rfl), e118, trivial⟩
     replace S110 := St.sw (L := [bx b8 [vI x11.1.Log, vI x11.1.Size, vU x11.1.Root.1, vU x11.1.Root.2, vI x11.1.At, vU x11.1.Sig.E, vU x11.1.Sig.S] 57, row 2 v20 c2 x10.1.length, row 2 v19 c1 x9.1.length, bx b7 [vI x8.1.Log, vI x8.1.Size, vU x8.1.Root.1, vU x8.1.Root.2, vI x8.1.At, vU x8.1.Sig.E, vU x8.1.Sig.S] 57, bx b6 [vI x7.1.Log, vI x7.1.Size, vU x7.1.Root.1, vU x7.1.Root.2, vI x7.1.At, vU x7.1.Sig.E, vU x7.1.Sig.S] 57, bx b5 [vI x6.1.Id, vU x6.1.Key, vI x6.1.Delay, v16, v17, v18] 26, bx b4 [vI x4.2.1.Log, vI x4.2.1.At, vU x4.2.1.Leaf.1, vU x4.2.1.Leaf.2, vU x4.2.1.Sig.E, vU x4.2.1.Sig.S] 35, bx b3 [vI x3.2.1.Log, vI x3.2.1.At, vU x3.2.1.Leaf.1, vU x3.2.1.Leaf.2, vU x3.2.1.Sig.E, vU x3.2.1.Sig.S] 35, bx b2 [vI x2.1.Log, vU x2.1.Key, vI x2.1.Delay] 40, bx b1 [vI x4.1.Id, vU x4.1.Key, vI x4.1.Delay, v10, v11, v12] 26]) (X := X1) (Y := X2) (As := As) S110
     replace S110 : St _ ((bx b8 [vI x11.1.Log, vI x11.1.Size, vU x11.1.Root.1, vU x11.1.Root.2, vI x11.1.At, vU x11.1.Sig.E, vU x11.1.Sig.S] 57) :: (row 2 v20 c2 x10.1.length) :: (row 2 v19 c1 x9.1.length) :: (bx b7 [vI x8.1.Log, vI x8.1.Size, vU x8.1.Root.1, vU x8.1.Root.2, vI x8.1.At, vU x8.1.Sig.E, vU x8.1.Sig.S] 57) :: (bx b6 [vI x7.1.Log, vI x7.1.Size, vU x7.1.Root.1, vU x7.1.Root.2, vI x7.1.At, vU x7.1.Sig.E, vU x7.1.Sig.S] 57) :: (bx b5 [vI x6.1.Id, vU x6.1.Key, vI x6.1.Delay, v16, v17, v18] 26) :: (bx b4 [vI x4.2.1.Log, vI x4.2.1.At, vU x4.2.1.Leaf.1, vU x4.2.1.Leaf.2, vU x4.2.1.Sig.E, vU x4.2.1.Sig.S] 35) :: (bx b3 [vI x3.2.1.Log, vI x3.2.1.At, vU x3.2.1.Leaf.1, vU x3.2.1.Leaf.2, vU x3.2.1.Sig.E, vU x3.2.1.Sig.S] 35) :: (bx b2 [vI x2.1.Log, vU x2.1.Key, vI x2.1.Delay] 40) :: (bx b1 [vI x4.1.Id, vU x4.1.Key, vI x4.1.Delay, v10, v11, v12] 26) :: (X2 ++ (X1 ++ As))) _ := S110
     obtain rfl := (C98.2.1 d47 d48).2 hb49
     replace S110 : St _ ((bx b8 [vI x11.1.Log, vI x11.1.Size, vU x11.1.Root.1, vU x11.1.Root.2, vI x11.1.At, vU x11.1.Sig.E, vU x11.1.Sig.S] 57) :: (row 2 v20 c2 x10.1.length) :: (row 2 v19 c1 x9.1.length) :: (bx b7 [vI x8.1.Log, vI x8.1.Size, vU x8.1.Root.1, vU x8.1.Root.2, vI x8.1.At, vU x8.1.Sig.E, vU x8.1.Sig.S] 57) :: (bx b6 [vI x7.1.Log, vI x7.1.Size, vU x7.1.Root.1, vU x7.1.Root.2, vI x7.1.At, vU x7.1.Sig.E, vU x7.1.Sig.S] 57) :: (bx b5 [vI x6.1.Id, vU x6.1.Key, vI x6.1.Delay, v16, v17, v18] 26) :: (bx b4 [vI x4.2.1.Log, vI x4.2.1.At, vU x4.2.1.Leaf.1, vU x4.2.1.Leaf.2, vU x4.2.1.Sig.E, vU x4.2.1.Sig.S] 35) :: (bx b3 [vI x3.2.1.Log, vI x3.2.1.At, vU x3.2.1.Leaf.1, vU x3.2.1.Leaf.2, vU x3.2.1.Sig.E, vU x3.2.1.Sig.S] 35) :: (bx b2 [vI x2.1.Log, vU x2.1.Key, vI x2.1.Delay] 40) :: (bx b1 [vI x4.1.Id, vU x4.1.Key, vI x4.1.Delay, v10, v11, v12] 26) :: (X1 ++ As)) _ := S110
     have L136 := Mem.rfl' m82
     exact wpl_no (d := 182) rfl rfl (congrArg Value.bool hb49) <| wpn <| ⟨m82, Mem.tr L134 L136, ⟨X1, [], C97, ⟨fun hx => tf d47 hx, fun _ hx => tf rfl hx, fun _ => rfl⟩, S110⟩, facts_step HM rfl K L136 rfl rfl ⟨fun hx => tf hx hb49, fun _ => rfl⟩, outP⟩
   · intro L f61 w104 hL hd hc ⟨m84, L137, ⟨X1, X2, C99, C100, S113⟩, K, hO⟩
     rcases bool_tf ((((((((x2.1.Log == 3) && (x2.1.Delay == 20)) && (x3.2.1.Log == 3)) && (x3.2.1.At == 5)) && (eqSum x3.2.1.Leaf x12)) && (x13 == 0)) && (eq_api_Head x7.1 x8.1)) && (x14 == 0)) with hb50 | hb50
     · obtain ⟨v29, e120, h44⟩ := (K 48 (dep hd rfl)).1 hb50
       obtain ⟨u99, rfl⟩ := fr_of (N := 212) (L := [(182, _), (187, _)]) hO ⟨K 43 (dep hd rfl), e120, trivial⟩
       replace h30 := RepL.up L137 h30
       replace h31 := RepL.up L137 h31
       replace h19 := h19.up L137
       replace h20 := h20.up L137
       replace h21 := h21.up L137
       replace h13 := h13.up L137
       replace h14 := h14.up L137
       replace h15 := h15.up L137
       have L138 := Mem.rfl' m84
       refine wpl_yes (d := 182) rfl rfl (congrArg Value.bool hb50) ?_
       replace q16 := gu_t hb50 q16
       refine s_call Try.call13 (w_merkle_Leaf (a0 := ([97] : List UInt8)) S113 h44 q16) rfl ?_
       rintro _ w105 ⟨m85, l35, S114, rfl⟩
       replace C99 := C99.imp id (fun q => q.imp (fun p a b => (p a b).imp (fun r hc => RowS.up l35 (r hc)) id) id)
       replace C100 := C100.imp id (fun q => q.imp (fun p a b => (p a b).imp (fun r hc => RowS.up l35 (r hc)) id) id)
       replace L138 := Mem.tr L138 l35
       clear S113
       exact wpn <| ⟨m85, Mem.tr L137 L138, ⟨X1, X2, C99, C100, S114⟩, facts_step HM rfl K L138 rfl rfl ⟨fun _ => rfl, fun hx => tf hb50 hx⟩, outP⟩
     obtain ⟨u100, rfl⟩ := fr_of (N := 212) (L := [(182, _)]) hO ⟨K 43 (dep hd rfl), trivial⟩
     have L139 := Mem.rfl' m84
     exact wpl_no (d := 182) rfl rfl (congrArg Value.bool hb50) <| wpn <| ⟨m84, Mem.tr L137 L139, ⟨X1, X2, C99, C100, S113⟩, facts_step HM rfl K L139 rfl rfl ⟨fun hx => tf hx hb50, fun _ => rfl⟩, outP⟩
   · intro L f62 w106 hL hd hc ⟨m86, L140, ⟨X1, X2, C101, C102, S115⟩, K, hO⟩
     rcases bool_tf ((((((((x2.1.Log == 3) && (x2.1.Delay == 20)) && (x3.2.1.Log == 3)) && (x3.2.1.At == 5)) && (eqSum x3.2.1.Leaf x12)) && (x13 == 0)) && (eq_api_Head x7.1 x8.1)) && (x14 == 0)) with hb51 | hb51
     · obtain ⟨u101, rfl⟩ := fr_of (N := 212) (L := [(182, _), (185, _), (188, _)]) hO ⟨K 43 (dep hd rfl), (K 46 (dep hd rfl)).1 hb51, (K 49 (dep hd rfl)).1 hb51, trivial⟩
       have L141 := Mem.rfl' m86
       exact wpl_yes (d := 182) rfl rfl (congrArg Value.bool hb51) <| s_eqlSum (p := x15) (q := x16) rfl rfl Try.underlying31 Try.underlying22 Try.sizeOf22 Try.isAgg22 Try.eqGuardType31 <| wpn <| ⟨m86, Mem.tr L140 L141, ⟨X1, X2, C101, C102, S115⟩, facts_step HM rfl K L141 rfl rfl ⟨fun _ => rfl, fun hx => tf hb51 hx⟩, outP⟩
     obtain ⟨u102, rfl⟩ := fr_of (N := 212) (L := [(182, _)]) hO ⟨K 43 (dep hd rfl), trivial⟩
     have L142 := Mem.rfl' m86
     exact wpl_no (d := 182) rfl rfl (congrArg Value.bool hb51) <| wpn <| ⟨m86, Mem.tr L140 L142, ⟨X1, X2, C101, C102, S115⟩, facts_step HM rfl K L142 rfl rfl ⟨fun hx => tf hx hb51, fun _ => rfl⟩, outP⟩
   · intro L f63 w107 hL hd hc ⟨m87, L143, ⟨X1, X2, C103, C104, S116⟩, K, hO⟩
     rcases bool_tf ((((((((x2.1.Log == 3) && (x2.1.Delay == 20)) && (x3.2.1.Log == 3)) && (x3.2.1.At == 5)) && (eqSum x3.2.1.Leaf x12)) && (x13 == 0)) && (eq_api_Head x7.1 x8.1)) && (x14 == 0)) with hb52 | hb52
     · obtain ⟨u103, rfl⟩ := fr_of (N := 212) (L := [(182, _), (189, _)]) hO ⟨K 43 (dep hd rfl), (K 50 (dep hd rfl)).1 hb52, trivial⟩
       have L144 := Mem.rfl' m87
       exact s_pickT (congrArg Value.bool hb52) rfl <| wpn <| ⟨m87, Mem.tr L143 L144, ⟨X1, X2, C103, C104, S116⟩, facts_step HM rfl K L144 rfl rfl (congrArg Value.bool (and_t hb52)), outP⟩
     · obtain ⟨u104, rfl⟩ := fr_of (N := 212) (L := [(182, _)]) hO ⟨K 43 (dep hd rfl), trivial⟩
       have L145 := Mem.rfl' m87
       exact s_pickF (congrArg Value.bool hb52) rfl <| wpn <| ⟨m87, Mem.tr L143 L145, ⟨X1, X2, C103, C104, S116⟩, facts_step HM rfl K L145 rfl rfl (congrArg Value.bool (and_f hb52)), outP⟩
   · intro L f64 w108 hL hd hc ⟨m88, L146, ⟨X1, X2, C105, C106, S117⟩, K, hO⟩
     obtain ⟨u105, rfl⟩ := fr_of (N := 212) (L := [(190, _)]) hO ⟨K 51 (dep hd rfl), trivial⟩
     have L147 := Mem.rfl' m88
     exact s_mvv (v := vb (((((((((x2.1.Log == 3) && (x2.1.Delay == 20)) && (x3.2.1.Log == 3)) && (x3.2.1.At == 5)) && (eqSum x3.2.1.Leaf x12)) && (x13 == 0)) && (eq_api_Head x7.1 x8.1)) && (x14 == 0)) && (eqSum x15 x16))) rfl <| wpn <| ⟨m88, Mem.tr L146 L147, ⟨X1, X2, C105, C106, S117⟩, facts_step HM rfl K L147 rfl rfl rfl, outP⟩
   · intro L f65 w109 hL hd hc ⟨m89, L148, ⟨X1, X2, C107, C108, S118⟩, K, hO⟩
     rcases bool_tf (((((((((x2.1.Log == 3) && (x2.1.Delay == 20)) && (x3.2.1.Log == 3)) && (x3.2.1.At == 5)) && (eqSum x3.2.1.Leaf x12)) && (x13 == 0)) && (eq_api_Head x7.1 x8.1)) && (x14 == 0)) && (eqSum x15 x16)) with hb53 | hb53
     · obtain ⟨u106, rfl⟩ := fr_of (N := 212) (L := [(191, _)]) hO ⟨K 52 (dep hd rfl), trivial⟩
       have L149 := Mem.rfl' m89
       exact wpl_yes (d := 191) rfl rfl (congrArg Value.bool hb53) <| s_mvv (v := v19) rfl <| wpn <| ⟨m89, Mem.tr L148 L149, ⟨X1, X2, C107, C108, S118⟩, facts_step HM rfl K L149 rfl rfl ⟨fun _ => rfl, fun hx => tf hb53 hx⟩, outP⟩
     obtain ⟨u107, rfl⟩ := fr_of (N := 212) (L := [(191, _)]) hO ⟨K 52 (dep hd rfl), trivial⟩
     have L150 := Mem.rfl' m89
     exact wpl_no (d := 191) rfl rfl (congrArg Value.bool hb53) <| wpn <| ⟨m89, Mem.tr L148 L150, ⟨X1, X2, C107, C108, S118⟩, facts_step HM rfl K L150 rfl rfl ⟨fun hx => tf hx hb53, fun _ => rfl⟩, outP⟩
   · intro L f66 w110 hL hd hc ⟨m90, L151, ⟨X1, X2, C109, C110, S119⟩, K, hO⟩
     rcases bool_tf (((((((((x2.1.Log == 3) && (x2.1.Delay == 20)) && (x3.2.1.Log == 3)) && (x3.2.1.At == 5)) && (eqSum x3.2.1.Leaf x12)) && (x13 == 0)) && (eq_api_Head x7.1 x8.1)) && (x14 == 0)) && (eqSum x15 x16)) with hb54 | hb54
     · obtain ⟨u108, rfl⟩ := fr_of (N := 212) (L := [(191, _), (192, _)]) hO ⟨K 52 (dep hd rfl), (K 53 (dep hd rfl)).1 hb54, trivial⟩
       have L152 := Mem.rfl' m90
       refine wpl_yes (d := 191) rfl rfl (congrArg Value.bool hb54) ?_
       replace q17 := gu_t hb54 q17
       exact s_idxO (i := 2) (j := 1) S119 rfl rfl rfl (idx_rng q17).1 (idx_rng q17).2 Try.underlying45 Try.sizeOf31 fun p2 h45 => wpn <| ⟨m90, Mem.tr L151 L152, ⟨X1, X2, C109, C110, S119⟩, facts_step HM rfl K L152 rfl rfl ⟨fun _ => ⟨p2, rfl, h45⟩, fun hx => tf hb54 hx⟩, outP⟩
     obtain ⟨u109, rfl⟩ := fr_of (N := 212) (L := [(191, _)]) hO ⟨K 52 (dep hd rfl), trivial⟩
     have L153 := Mem.rfl' m90
     exact wpl_no (d := 191) rfl rfl (congrArg Value.bool hb54) <| wpn <| ⟨m90, Mem.tr L151 L153, ⟨X1, X2, C109, C110, S119⟩, facts_step HM rfl K L153 rfl rfl ⟨fun hx => tf hx hb54, fun _ => rfl⟩, outP⟩
   · intro L f67 w111 hL hd hc ⟨m91, L154, ⟨X1, X2, C111, C112, S120⟩, K, hO⟩
     rcases bool_tf (((((((((x2.1.Log == 3) && (x2.1.Delay == 20)) && (x3.2.1.Log == 3)) && (x3.2.1.At == 5)) && (eqSum x3.2.1.Leaf x12)) && (x13 == 0)) && (eq_api_Head x7.1 x8.1)) && (x14 == 0)) && (eqSum x15 x16)) with hb55 | hb55
     · obtain ⟨v30, e136, h46⟩ := (K 54 (dep hd rfl)).1 hb55
       obtain ⟨u110, rfl⟩ := fr_of (N := 212) (L := [(191, _), (193, _)]) hO ⟨K 52 (dep hd rfl), e136, trivial⟩
       replace h30 := RepL.up L154 h30
       have L155 := Mem.rfl' m91
       refine wpl_yes (d := 191) rfl rfl (congrArg Value.bool hb55) ?_
       have e137 := rep_arr2_UInt64 (RepL.getI h30 (gu_t hb55 q17))
       exact s_ldO (i := 2) (off := (1 : Int).toNat * 2) (d := [vU x17.1, vU x17.2]) S120 rfl h46 rfl e137 Try.isAgg31 Try.sizeOf31 (fun h => by cases h) <| wpn <| ⟨m91, Mem.tr L154 L155, ⟨X1, X2, C111, C112, S120⟩, facts_step HM rfl K L155 rfl rfl ⟨fun _ => rfl, fun hx => tf hb55 hx⟩, outP⟩
     obtain ⟨u111, rfl⟩ := fr_of (N := 212) (L := [(191, _)]) hO ⟨K 52 (dep hd rfl), trivial⟩
     have L156 := Mem.rfl' m91
     exact wpl_no (d := 191) rfl rfl (congrArg Value.bool hb55) <| wpn <| ⟨m91, Mem.tr L154 L156, ⟨X1, X2, C111, C112, S120⟩, facts_step HM rfl K L156 rfl rfl ⟨fun hx => tf hx hb55, fun _ => rfl⟩, outP⟩
   · intro L f68 w112 hL hd hc ⟨m92, L157, ⟨X1, X2, C113, C114, S121⟩, K, hO⟩
     rcases bool_tf (((((((((x2.1.Log == 3) && (x2.1.Delay == 20)) && (x3.2.1.Log == 3)) && (x3.2.1.At == 5)) && (eqSum x3.2.1.Leaf x12)) && (x13 == 0)) && (eq_api_Head x7.1 x8.1)) && (x14 == 0)) && (eqSum x15 x16)) with hb56 | hb56
     · obtain ⟨u112, rfl⟩ := fr_of (N := 212) (L := [(191, _)]) hO ⟨K 52 (dep hd rfl), trivial⟩
       replace h30 := RepL.up L157 h30
       replace h31 := RepL.up L157 h31
       replace h19 := h19.up L157
       replace h20 := h20.up L157
       replace h21 := h21.up L157
       replace h13 := h13.up L157
       replace h14 := h14.up L157
       replace h15 := h15.up L157
       have L158 := Mem.rfl' m92
       refine wpl_yes (d := 191) rfl rfl (congrArg Value.bool hb56) <| s_litC (parts := [.const (.int .u8 0), .const (.int .u8 98)]) (vs := [vB 0, vB 98]) (cls := [[vB 0], [vB 98]]) (xs := ([0, 98] : List UInt8)) (n := 2) S121 Try.underlying27 Try.sizeOf5 Try.zeroValue5 rfl ⟨rfl, rfl, trivial⟩ (RepL.cons (c := [vB 0]) (x := 0) rfl (RepL.cons (c := [vB 98]) (x := 98) rfl RepL.nil)) rfl rfl rfl (by decide) (by decide) fun v31 m93 w113 l36 S122 h47 => ?_
       replace C113 := C113.imp id (fun q => q.imp (fun p a b => (p a b).imp (fun r hc => RowS.up l36 (r hc)) id) id)
       replace C114 := C114.imp id (fun q => q.imp (fun p a b => (p a b).imp (fun r hc => RowS.up l36 (r hc)) id) id)
       replace L158 := Mem.tr L158 l36
       clear S121
       exact wpn <| ⟨m93, Mem.tr L157 L158, ⟨X1, X2, C113, C114, S122⟩, facts_step HM rfl K L158 rfl rfl ⟨fun _ => ⟨v31, rfl, h47⟩, fun hx => tf hb56 hx⟩, outP⟩
     obtain ⟨u113, rfl⟩ := fr_of (N := 212) (L := [(191, _)]) hO ⟨K 52 (dep hd rfl), trivial⟩
     have L159 := Mem.rfl' m92
     exact wpl_no (d := 191) rfl rfl (congrArg Value.bool hb56) <| wpn <| ⟨m92, Mem.tr L157 L159, ⟨X1, X2, C113, C114, S121⟩, facts_step HM rfl K L159 rfl rfl ⟨fun hx => tf hx hb56, fun _ => rfl⟩, outP⟩
   · intro L f69 w114 hL hd hc ⟨m94, L160, ⟨X1, X2, C115, C116, S123⟩, K, hO⟩
     rcases bool_tf (((((((((x2.1.Log == 3) && (x2.1.Delay == 20)) && (x3.2.1.Log == 3)) && (x3.2.1.At == 5)) && (eqSum x3.2.1.Leaf x12)) && (x13 == 0)) && (eq_api_Head x7.1 x8.1)) && (x14 == 0)) && (eqSum x15 x16)) with hb57 | hb57
     · obtain ⟨v32, e142, h48⟩ := (K 56 (dep hd rfl)).1 hb57
       obtain ⟨u114, rfl⟩ := fr_of (N := 212) (L := [(191, _), (195, _)]) hO ⟨K 52 (dep hd rfl), e142, trivial⟩
       replace h30 := RepL.up L160 h30
       replace h31 := RepL.up L160 h31
       replace h19 := h19.up L160
       replace h20 := h20.up L160
       replace h21 := h21.up L160
       replace h13 := h13.up L160
       replace h14 := h14.up L160
       replace h15 := h15.up L160
       have L161 := Mem.rfl' m94
       refine wpl_yes (d := 191) rfl rfl (congrArg Value.bool hb57) ?_
       replace q18 := gu_t hb57 q18
       refine s_call Try.call13 (w_merkle_Leaf (a0 := ([0, 98] : List UInt8)) S123 h48 q18) rfl ?_
       rintro _ w115 ⟨m95, l37, S124, rfl⟩
       replace C115 := C115.imp id (fun q => q.imp (fun p a b => (p a b).imp (fun r hc => RowS.up l37 (r hc)) id) id)
       replace C116 := C116.imp id (fun q => q.imp (fun p a b => (p a b).imp (fun r hc => RowS.up l37 (r hc)) id) id)
       replace L161 := Mem.tr L161 l37
       clear S123
       exact wpn <| ⟨m95, Mem.tr L160 L161, ⟨X1, X2, C115, C116, S124⟩, facts_step HM rfl K L161 rfl rfl ⟨fun _ => rfl, fun hx => tf hb57 hx⟩, outP⟩
     obtain ⟨u115, rfl⟩ := fr_of (N := 212) (L := [(191, _)]) hO ⟨K 52 (dep hd rfl), trivial⟩
     have L162 := Mem.rfl' m94
     exact wpl_no (d := 191) rfl rfl (congrArg Value.bool hb57) <| wpn <| ⟨m94, Mem.tr L160 L162, ⟨X1, X2, C115, C116, S123⟩, facts_step HM rfl K L162 rfl rfl ⟨fun hx => tf hx hb57, fun _ => rfl⟩, outP⟩
   · intro L f70 w116 hL hd hc ⟨m96, L163, ⟨X1, X2, C117, C118, S125⟩, K, hO⟩
     rcases bool_tf (((((((((x2.1.Log == 3) && (x2.1.Delay == 20)) && (x3.2.1.Log == 3)) && (x3.2.1.At == 5)) && (eqSum x3.2.1.Leaf x12)) && (x13 == 0)) && (eq_api_Head x7.1 x8.1)) && (x14 == 0)) && (eqSum x15 x16)) with hb58 | hb58
     · obtain ⟨u116, rfl⟩ := fr_of (N := 212) (L := [(191, _), (194, _), (196, _)]) hO ⟨K 52 (dep hd rfl), (K 55 (dep hd rfl)).1 hb58, (K 57 (dep hd rfl)).1 hb58, trivial⟩
       have L164 := Mem.rfl' m96
       exact wpl_yes (d := 191) rfl rfl (congrArg Value.bool hb58) <| s_eqlSum (p := x17) (q := x18) rfl rfl Try.underlying31 Try.underlying22 Try.sizeOf22 Try.isAgg22 Try.eqGuardType31 <| wpn <| ⟨m96, Mem.tr L163 L164, ⟨X1, X2, C117, C118, S125⟩, facts_step HM rfl K L164 rfl rfl ⟨fun _ => rfl, fun hx => tf hb58 hx⟩, outP⟩
     obtain ⟨u117, rfl⟩ := fr_of (N := 212) (L := [(191, _)]) hO ⟨K 52 (dep hd rfl), trivial⟩
     have L165 := Mem.rfl' m96
     exact wpl_no (d := 191) rfl rfl (congrArg Value.bool hb58) <| wpn <| ⟨m96, Mem.tr L163 L165, ⟨X1, X2, C117, C118, S125⟩, facts_step HM rfl K L165 rfl rfl ⟨fun hx => tf hx hb58, fun _ => rfl⟩, outP⟩
   · intro L f71 w117 hL hd hc ⟨m97, L166, ⟨X1, X2, C119, C120, S126⟩, K, hO⟩
     rcases bool_tf (((((((((x2.1.Log == 3) && (x2.1.Delay == 20)) && (x3.2.1.Log == 3)) && (x3.2.1.At == 5)) && (eqSum x3.2.1.Leaf x12)) && (x13 == 0)) && (eq_api_Head x7.1 x8.1)) && (x14 == 0)) && (eqSum x15 x16)) with hb59 | hb59
     · obtain ⟨u118, rfl⟩ := fr_of (N := 212) (L := [(191, _), (197, _)]) hO ⟨K 52 (dep hd rfl), (K 58 (dep hd rfl)).1 hb59, trivial⟩
       have L167 := Mem.rfl' m97
       exact s_pickT (congrArg Value.bool hb59) rfl <| wpn <| ⟨m97, Mem.tr L166 L167, ⟨X1, X2, C119, C120, S126⟩, facts_step HM rfl K L167 rfl rfl (congrArg Value.bool (and_t hb59)), outP⟩
     · obtain ⟨u119, rfl⟩ := fr_of (N := 212) (L := [(191, _)]) hO ⟨K 52 (dep hd rfl), trivial⟩
       have L168 := Mem.rfl' m97
       exact s_pickF (congrArg Value.bool hb59) rfl <| wpn <| ⟨m97, Mem.tr L166 L168, ⟨X1, X2, C119, C120, S126⟩, facts_step HM rfl K L168 rfl rfl (congrArg Value.bool (and_f hb59)), outP⟩
 intro L f72 w118 hall ⟨m98, L169, ⟨X1, X2, C121, C122, S127⟩, K, hO⟩
 have d59 : L 59 = true := hall 59 (by decide)
 have d22 : L 22 = true := hall 22 (by decide)
 have d48 : L 48 = true := hall 48 (by decide)
 obtain ⟨u120, rfl⟩ := fr_of (N := 212) (L := [(198, _)]) hO ⟨K 59 d59, trivial⟩
 replace S127 : St _ ((bx b8 [vI x11.1.Log, vI x11.1.Size, vU x11.1.Root.1, vU x11.1.Root.2, vI x11.1.At, vU x11.1.Sig.E, vU x11.1.Sig.S] 57) :: (row 2 v20 c2 x10.1.length) :: (row 2 v19 c1 x9.1.length) :: (bx b7 [vI x8.1.Log, vI x8.1.Size, vU x8.1.Root.1, vU x8.1.Root.2, vI x8.1.At, vU x8.1.Sig.E, vU x8.1.Sig.S] 57) :: (bx b6 [vI x7.1.Log, vI x7.1.Size, vU x7.1.Root.1, vU x7.1.Root.2, vI x7.1.At, vU x7.1.Sig.E, vU x7.1.Sig.S] 57) :: (bx b5 [vI x6.1.Id, vU x6.1.Key, vI x6.1.Delay, v16, v17, v18] 26) :: (bx b4 [vI x4.2.1.Log, vI x4.2.1.At, vU x4.2.1.Leaf.1, vU x4.2.1.Leaf.2, vU x4.2.1.Sig.E, vU x4.2.1.Sig.S] 35) :: (bx b3 [vI x3.2.1.Log, vI x3.2.1.At, vU x3.2.1.Leaf.1, vU x3.2.1.Leaf.2, vU x3.2.1.Sig.E, vU x3.2.1.Sig.S] 35) :: (bx b2 [vI x2.1.Log, vU x2.1.Key, vI x2.1.Delay] 40) :: (bx b1 [vI x4.1.Id, vU x4.1.Key, vI x4.1.Delay, v10, v11, v12] 26) :: (X1 ++ (X2 ++ As))) _ := S127
 obtain rfl := C121.2.2 d22
 obtain rfl := C122.2.2 d48
 replace S127 : St _ ((bx b8 [vI x11.1.Log, vI x11.1.Size, vU x11.1.Root.1, vU x11.1.Root.2, vI x11.1.At, vU x11.1.Sig.E, vU x11.1.Sig.S] 57) :: (row 2 v20 c2 x10.1.length) :: (row 2 v19 c1 x9.1.length) :: (bx b7 [vI x8.1.Log, vI x8.1.Size, vU x8.1.Root.1, vU x8.1.Root.2, vI x8.1.At, vU x8.1.Sig.E, vU x8.1.Sig.S] 57) :: (bx b6 [vI x7.1.Log, vI x7.1.Size, vU x7.1.Root.1, vU x7.1.Root.2, vI x7.1.At, vU x7.1.Sig.E, vU x7.1.Sig.S] 57) :: (bx b5 [vI x6.1.Id, vU x6.1.Key, vI x6.1.Delay, v16, v17, v18] 26) :: (bx b4 [vI x4.2.1.Log, vI x4.2.1.At, vU x4.2.1.Leaf.1, vU x4.2.1.Leaf.2, vU x4.2.1.Sig.E, vU x4.2.1.Sig.S] 35) :: (bx b3 [vI x3.2.1.Log, vI x3.2.1.At, vU x3.2.1.Leaf.1, vU x3.2.1.Leaf.2, vU x3.2.1.Sig.E, vU x3.2.1.Sig.S] 35) :: (bx b2 [vI x2.1.Log, vU x2.1.Key, vI x2.1.Delay] 40) :: (bx b1 [vI x4.1.Id, vU x4.1.Key, vI x4.1.Delay, v10, v11, v12] 26) :: As) _ := S127
 replace h30 := RepL.up L169 h30
 replace h31 := RepL.up L169 h31
 replace h19 := h19.up L169
 replace h20 := h20.up L169
 replace h21 := h21.up L169
 replace h13 := h13.up L169
 replace h14 := h14.up L169
 replace h15 := h15.up L169
 replace L0 := Mem.tr L0 L169
 clear S44
 refine s_mvv (v := vb ((((((((((x2.1.Log == 3) && (x2.1.Delay == 20)) && (x3.2.1.Log == 3)) && (x3.2.1.At == 5)) && (eqSum x3.2.1.Leaf x12)) && (x13 == 0)) && (eq_api_Head x7.1 x8.1)) && (x14 == 0)) && (eqSum x15 x16)) && (eqSum x17 x18))) rfl <| wpl_cut 3 [200, 201, 202] (fun f' w' => w' = w118 ∧ AllAt f' [(202, vb (((((((((((x2.1.Log == 3) && (x2.1.Delay == 20)) && (x3.2.1.Log == 3)) && (x3.2.1.At == 5)) && (eqSum x3.2.1.Leaf x12)) && (x13 == 0)) && (eq_api_Head x7.1 x8.1)) && (x14 == 0)) && (eqSum x15 x16)) && (eqSum x17 x18)) && (x10.2 == 240)))]) ?_ ?_
 · rcases bool_tf ((((((((((x2.1.Log == 3) && (x2.1.Delay == 20)) && (x3.2.1.Log == 3)) && (x3.2.1.At == 5)) && (eqSum x3.2.1.Leaf x12)) && (x13 == 0)) && (eq_api_Head x7.1 x8.1)) && (x14 == 0)) && (eqSum x15 x16)) && (eqSum x17 x18)) with hb60 | hb60
   · exact wpl_yes (d := 199) rfl rfl (congrArg Value.bool hb60) <| s_mvv (v := vI x10.2) rfl <| wpl_yes (d := 199) rfl rfl (congrArg Value.bool hb60) <| s_eql (m := x10.2) (n := 240) rfl rfl <| s_pickT (congrArg Value.bool hb60) rfl <| wpl_nil (nrm ⟨outP, rfl, congrArg Value.bool (and_t hb60), trivial⟩)
   · exact wpl_no (d := 199) rfl rfl (congrArg Value.bool hb60) <| wpl_no (d := 199) rfl rfl (congrArg Value.bool hb60) <| s_pickF (congrArg Value.bool hb60) rfl <| wpl_nil (nrm ⟨outP, rfl, congrArg Value.bool (and_f hb60), trivial⟩)
 rintro f73 w119 ho ⟨h49, ha⟩
 subst h49
 obtain ⟨u121, rfl⟩ := fr_of (N := 212) ho ha
 refine s_mvv (v := vb (((((((((((x2.1.Log == 3) && (x2.1.Delay == 20)) && (x3.2.1.Log == 3)) && (x3.2.1.At == 5)) && (eqSum x3.2.1.Leaf x12)) && (x13 == 0)) && (eq_api_Head x7.1 x8.1)) && (x14 == 0)) && (eqSum x15 x16)) && (eqSum x17 x18)) && (x10.2 == 240))) rfl <| wpl_cut 3 [204, 205, 206] (fun f' w' => w' = w119 ∧ AllAt f' [(206, vb ((((((((((((x2.1.Log == 3) && (x2.1.Delay == 20)) && (x3.2.1.Log == 3)) && (x3.2.1.At == 5)) && (eqSum x3.2.1.Leaf x12)) && (x13 == 0)) && (eq_api_Head x7.1 x8.1)) && (x14 == 0)) && (eqSum x15 x16)) && (eqSum x17 x18)) && (x10.2 == 240)) && (x11.2 == 80)))]) ?_ ?_
 · rcases bool_tf (((((((((((x2.1.Log == 3) && (x2.1.Delay == 20)) && (x3.2.1.Log == 3)) && (x3.2.1.At == 5)) && (eqSum x3.2.1.Leaf x12)) && (x13 == 0)) && (eq_api_Head x7.1 x8.1)) && (x14 == 0)) && (eqSum x15 x16)) && (eqSum x17 x18)) && (x10.2 == 240)) with hb61 | hb61
   · exact wpl_yes (d := 203) rfl rfl (congrArg Value.bool hb61) <| s_mvv (v := vI x11.2) rfl <| wpl_yes (d := 203) rfl rfl (congrArg Value.bool hb61) <| s_eql (m := x11.2) (n := 80) rfl rfl <| s_pickT (congrArg Value.bool hb61) rfl <| wpl_nil (nrm ⟨outP, rfl, congrArg Value.bool (and_t hb61), trivial⟩)
   · exact wpl_no (d := 203) rfl rfl (congrArg Value.bool hb61) <| wpl_no (d := 203) rfl rfl (congrArg Value.bool hb61) <| s_pickF (congrArg Value.bool hb61) rfl <| wpl_nil (nrm ⟨outP, rfl, congrArg Value.bool (and_f hb61), trivial⟩)
 rintro f74 w120 ho ⟨h50, ha⟩
 subst h50
 obtain ⟨u122, rfl⟩ := fr_of (N := 212) ho ha
 refine s_mvv (v := vb ((((((((((((x2.1.Log == 3) && (x2.1.Delay == 20)) && (x3.2.1.Log == 3)) && (x3.2.1.At == 5)) && (eqSum x3.2.1.Leaf x12)) && (x13 == 0)) && (eq_api_Head x7.1 x8.1)) && (x14 == 0)) && (eqSum x15 x16)) && (eqSum x17 x18)) && (x10.2 == 240)) && (x11.2 == 80))) rfl ?_
 obtain ⟨x20, q20, hm⟩ := obind_some hm
 have L170 := Mem.rfl' m98
 refine wpl_cut 4 [208, 209, 210, 211] (fun f' w' => ∃ (M1 : Mem), m98 ≤ M1 ∧ St M1 ((bx b8 [vI x11.1.Log, vI x11.1.Size, vU x11.1.Root.1, vU x11.1.Root.2, vI x11.1.At, vU x11.1.Sig.E, vU x11.1.Sig.S] 57) :: (bx b7 [vI x8.1.Log, vI x8.1.Size, vU x8.1.Root.1, vU x8.1.Root.2, vI x8.1.At, vU x8.1.Sig.E, vU x8.1.Sig.S] 57) :: (bx b6 [vI x7.1.Log, vI x7.1.Size, vU x7.1.Root.1, vU x7.1.Root.2, vI x7.1.At, vU x7.1.Sig.E, vU x7.1.Sig.S] 57) :: (bx b5 [vI x6.1.Id, vU x6.1.Key, vI x6.1.Delay, v16, v17, v18] 26) :: (bx b4 [vI x4.2.1.Log, vI x4.2.1.At, vU x4.2.1.Leaf.1, vU x4.2.1.Leaf.2, vU x4.2.1.Sig.E, vU x4.2.1.Sig.S] 35) :: (bx b3 [vI x3.2.1.Log, vI x3.2.1.At, vU x3.2.1.Leaf.1, vU x3.2.1.Leaf.2, vU x3.2.1.Sig.E, vU x3.2.1.Sig.S] 35) :: (bx b2 [vI x2.1.Log, vU x2.1.Key, vI x2.1.Delay] 40) :: (bx b1 [vI x4.1.Id, vU x4.1.Key, vI x4.1.Delay, v10, v11, v12] 26) :: As) w' ∧ AllAt f' [(211, vb x20)]) ?_ ?_
 · rcases bool_tf ((((((((((((x2.1.Log == 3) && (x2.1.Delay == 20)) && (x3.2.1.Log == 3)) && (x3.2.1.At == 5)) && (eqSum x3.2.1.Leaf x12)) && (x13 == 0)) && (eq_api_Head x7.1 x8.1)) && (x14 == 0)) && (eqSum x15 x16)) && (eqSum x17 x18)) && (x10.2 == 240)) && (x11.2 == 80)) with hb62 | hb62
   · replace q20 := ifT hb62 q20
     refine wpl_yes (d := 207) rfl rfl (congrArg Value.bool hb62) <| s_build (parts := []) (ps := []) (cs := [vI 0, vU 0, vI 0, .slice none 0 0, .slice none 0 0, .slice none 0 0]) Try.zeroValue26 (BuildPl.str (ss := [1, 1, 1, 1, 1, 1]) Try.underlying26 ⟨Try.sizeOf3, Try.sizeOf22, Try.sizeOf3, Try.sizeOf23, Try.sizeOf24, Try.sizeOf23, trivial⟩) rfl trivial rfl <| wpl_yes (d := 207) rfl rfl (congrArg Value.bool hb62) ?_
     obtain ⟨x21, q21, q20⟩ := obind_some q20
     refine s_call Try.call16 (w_logd_Check (a0 := (⟨0, 0, 0, [], [], []⟩ : g_api_Log)) S127 (SlR.nil (a := none) (c := 0)) (SlR.nil (a := none) (c := 0)) (SlR.nil (a := none) (c := 0)) q21) rfl ?_
     rintro _ w122 ⟨m100, l39, S129, rfl⟩
     replace h30 := RepL.up l39 h30
     replace h19 := h19.up l39
     replace h20 := h20.up l39
     replace h21 := h21.up l39
     replace h13 := h13.up l39
     replace h14 := h14.up l39
     replace h15 := h15.up l39
     replace L170 := Mem.tr L170 l39
     clear S127
     refine wpl_yes (d := 207) rfl rfl (congrArg Value.bool hb62) <| s_eql (m := x21) (n := 1) rfl rfl <| s_pickT (congrArg Value.bool hb62) rfl <| wpl_nil (nrm ?_)
     obtain ⟨m101, l40, S130⟩ := St.drop S129 1
     replace h19 := h19.up l40
     replace h20 := h20.up l40
     replace h21 := h21.up l40
     replace h13 := h13.up l40
     replace h14 := h14.up l40
     replace h15 := h15.up l40
     replace L170 := Mem.tr L170 l40
     clear S129
     replace S130 : St _ ((bx b8 [vI x11.1.Log, vI x11.1.Size, vU x11.1.Root.1, vU x11.1.Root.2, vI x11.1.At, vU x11.1.Sig.E, vU x11.1.Sig.S] 57) :: (row 2 v19 c1 x9.1.length) :: (bx b7 [vI x8.1.Log, vI x8.1.Size, vU x8.1.Root.1, vU x8.1.Root.2, vI x8.1.At, vU x8.1.Sig.E, vU x8.1.Sig.S] 57) :: (bx b6 [vI x7.1.Log, vI x7.1.Size, vU x7.1.Root.1, vU x7.1.Root.2, vI x7.1.At, vU x7.1.Sig.E, vU x7.1.Sig.S] 57) :: (bx b5 [vI x6.1.Id, vU x6.1.Key, vI x6.1.Delay, v16, v17, v18] 26) :: (bx b4 [vI x4.2.1.Log, vI x4.2.1.At, vU x4.2.1.Leaf.1, vU x4.2.1.Leaf.2, vU x4.2.1.Sig.E, vU x4.2.1.Sig.S] 35) :: (bx b3 [vI x3.2.1.Log, vI x3.2.1.At, vU x3.2.1.Leaf.1, vU x3.2.1.Leaf.2, vU x3.2.1.Sig.E, vU x3.2.1.Sig.S] 35) :: (bx b2 [vI x2.1.Log, vU x2.1.Key, vI x2.1.Delay] 40) :: (bx b1 [vI x4.1.Id, vU x4.1.Key, vI x4.1.Delay, v10, v11, v12] 26) :: As) _ := S130
     obtain ⟨m102, l41, S131⟩ := St.drop S130 1
     replace L170 := Mem.tr L170 l41
     clear S130
     replace S131 : St _ ((bx b8 [vI x11.1.Log, vI x11.1.Size, vU x11.1.Root.1, vU x11.1.Root.2, vI x11.1.At, vU x11.1.Sig.E, vU x11.1.Sig.S] 57) :: (bx b7 [vI x8.1.Log, vI x8.1.Size, vU x8.1.Root.1, vU x8.1.Root.2, vI x8.1.At, vU x8.1.Sig.E, vU x8.1.Sig.S] 57) :: (bx b6 [vI x7.1.Log, vI x7.1.Size, vU x7.1.Root.1, vU x7.1.Root.2, vI x7.1.At, vU x7.1.Sig.E, vU x7.1.Sig.S] 57) :: (bx b5 [vI x6.1.Id, vU x6.1.Key, vI x6.1.Delay, v16, v17, v18] 26) :: (bx b4 [vI x4.2.1.Log, vI x4.2.1.At, vU x4.2.1.Leaf.1, vU x4.2.1.Leaf.2, vU x4.2.1.Sig.E, vU x4.2.1.Sig.S] 35) :: (bx b3 [vI x3.2.1.Log, vI x3.2.1.At, vU x3.2.1.Leaf.1, vU x3.2.1.Leaf.2, vU x3.2.1.Sig.E, vU x3.2.1.Sig.S] 35) :: (bx b2 [vI x2.1.Log, vU x2.1.Key, vI x2.1.Delay] 40) :: (bx b1 [vI x4.1.Id, vU x4.1.Key, vI x4.1.Delay, v10, v11, v12] 26) :: As) _ := S131
     have e0 := Option.some.inj q20
     subst e0
     exact ⟨outP, m102, L170, S131, ⟨rfl, trivial⟩⟩
   replace q20 := ifF hb62 q20
   refine wpl_no (d := 207) rfl rfl (congrArg Value.bool hb62) <| wpl_no (d := 207) rfl rfl (congrArg Value.bool hb62) <| wpl_no (d := 207) rfl rfl (congrArg Value.bool hb62) <| s_pickF (congrArg Value.bool hb62) rfl <| wpl_nil (nrm ?_)
   obtain ⟨m103, l42, S132⟩ := St.drop S127 1
   replace h19 := h19.up l42
   replace h20 := h20.up l42
   replace h21 := h21.up l42
   replace h13 := h13.up l42
   replace h14 := h14.up l42
   replace h15 := h15.up l42
   replace L170 := Mem.tr L170 l42
   clear S127
   replace S132 : St _ ((bx b8 [vI x11.1.Log, vI x11.1.Size, vU x11.1.Root.1, vU x11.1.Root.2, vI x11.1.At, vU x11.1.Sig.E, vU x11.1.Sig.S] 57) :: (row 2 v19 c1 x9.1.length) :: (bx b7 [vI x8.1.Log, vI x8.1.Size, vU x8.1.Root.1, vU x8.1.Root.2, vI x8.1.At, vU x8.1.Sig.E, vU x8.1.Sig.S] 57) :: (bx b6 [vI x7.1.Log, vI x7.1.Size, vU x7.1.Root.1, vU x7.1.Root.2, vI x7.1.At, vU x7.1.Sig.E, vU x7.1.Sig.S] 57) :: (bx b5 [vI x6.1.Id, vU x6.1.Key, vI x6.1.Delay, v16, v17, v18] 26) :: (bx b4 [vI x4.2.1.Log, vI x4.2.1.At, vU x4.2.1.Leaf.1, vU x4.2.1.Leaf.2, vU x4.2.1.Sig.E, vU x4.2.1.Sig.S] 35) :: (bx b3 [vI x3.2.1.Log, vI x3.2.1.At, vU x3.2.1.Leaf.1, vU x3.2.1.Leaf.2, vU x3.2.1.Sig.E, vU x3.2.1.Sig.S] 35) :: (bx b2 [vI x2.1.Log, vU x2.1.Key, vI x2.1.Delay] 40) :: (bx b1 [vI x4.1.Id, vU x4.1.Key, vI x4.1.Delay, v10, v11, v12] 26) :: As) _ := S132
   obtain ⟨m104, l43, S133⟩ := St.drop S132 1
   replace L170 := Mem.tr L170 l43
   clear S132
   replace S133 : St _ ((bx b8 [vI x11.1.Log, vI x11.1.Size, vU x11.1.Root.1, vU x11.1.Root.2, vI x11.1.At, vU x11.1.Sig.E, vU x11.1.Sig.S] 57) :: (bx b7 [vI x8.1.Log, vI x8.1.Size, vU x8.1.Root.1, vU x8.1.Root.2, vI x8.1.At, vU x8.1.Sig.E, vU x8.1.Sig.S] 57) :: (bx b6 [vI x7.1.Log, vI x7.1.Size, vU x7.1.Root.1, vU x7.1.Root.2, vI x7.1.At, vU x7.1.Sig.E, vU x7.1.Sig.S] 57) :: (bx b5 [vI x6.1.Id, vU x6.1.Key, vI x6.1.Delay, v16, v17, v18] 26) :: (bx b4 [vI x4.2.1.Log, vI x4.2.1.At, vU x4.2.1.Leaf.1, vU x4.2.1.Leaf.2, vU x4.2.1.Sig.E, vU x4.2.1.Sig.S] 35) :: (bx b3 [vI x3.2.1.Log, vI x3.2.1.At, vU x3.2.1.Leaf.1, vU x3.2.1.Leaf.2, vU x3.2.1.Sig.E, vU x3.2.1.Sig.S] 35) :: (bx b2 [vI x2.1.Log, vU x2.1.Key, vI x2.1.Delay] 40) :: (bx b1 [vI x4.1.Id, vU x4.1.Key, vI x4.1.Delay, v10, v11, v12] 26) :: As) _ := S133
   have e0 := Option.some.inj q20
   subst e0
   exact ⟨outP, m104, L170, S133, ⟨rfl, trivial⟩⟩
 rintro f75 w123 ho ⟨m105, l44, S134, ha⟩
 obtain ⟨u123, rfl⟩ := fr_of (N := 212) ho ha
 replace h19 := h19.up l44
 replace h20 := h20.up l44
 replace h21 := h21.up l44
 replace h13 := h13.up l44
 replace h14 := h14.up l44
 replace h15 := h15.up l44
 replace L0 := Mem.tr L0 l44
 clear S127
 refine s_asv (v := vb x20) rfl <| wpl_nil <| nrm <| wpc_ret <| outRw fun we hpd => ?_
 replace S134 := St.pd S134 hpd
 obtain ⟨m106, l45, S135⟩ := St.drop S134 0
 replace h19 := h19.up l45
 replace h20 := h20.up l45
 replace h21 := h21.up l45
 replace h13 := h13.up l45
 replace h14 := h14.up l45
 replace h15 := h15.up l45
 replace L0 := Mem.tr L0 l45
 clear S134
 replace S135 : St _ ((bx b7 [vI x8.1.Log, vI x8.1.Size, vU x8.1.Root.1, vU x8.1.Root.2, vI x8.1.At, vU x8.1.Sig.E, vU x8.1.Sig.S] 57) :: (bx b6 [vI x7.1.Log, vI x7.1.Size, vU x7.1.Root.1, vU x7.1.Root.2, vI x7.1.At, vU x7.1.Sig.E, vU x7.1.Sig.S] 57) :: (bx b5 [vI x6.1.Id, vU x6.1.Key, vI x6.1.Delay, v16, v17, v18] 26) :: (bx b4 [vI x4.2.1.Log, vI x4.2.1.At, vU x4.2.1.Leaf.1, vU x4.2.1.Leaf.2, vU x4.2.1.Sig.E, vU x4.2.1.Sig.S] 35) :: (bx b3 [vI x3.2.1.Log, vI x3.2.1.At, vU x3.2.1.Leaf.1, vU x3.2.1.Leaf.2, vU x3.2.1.Sig.E, vU x3.2.1.Sig.S] 35) :: (bx b2 [vI x2.1.Log, vU x2.1.Key, vI x2.1.Delay] 40) :: (bx b1 [vI x4.1.Id, vU x4.1.Key, vI x4.1.Delay, v10, v11, v12] 26) :: As) _ := S135
 obtain ⟨m107, l46, S136⟩ := St.drop S135 0
 replace h19 := h19.up l46
 replace h20 := h20.up l46
 replace h21 := h21.up l46
 replace h13 := h13.up l46
 replace h14 := h14.up l46
 replace h15 := h15.up l46
 replace L0 := Mem.tr L0 l46
 clear S135
 replace S136 : St _ ((bx b6 [vI x7.1.Log, vI x7.1.Size, vU x7.1.Root.1, vU x7.1.Root.2, vI x7.1.At, vU x7.1.Sig.E, vU x7.1.Sig.S] 57) :: (bx b5 [vI x6.1.Id, vU x6.1.Key, vI x6.1.Delay, v16, v17, v18] 26) :: (bx b4 [vI x4.2.1.Log, vI x4.2.1.At, vU x4.2.1.Leaf.1, vU x4.2.1.Leaf.2, vU x4.2.1.Sig.E, vU x4.2.1.Sig.S] 35) :: (bx b3 [vI x3.2.1.Log, vI x3.2.1.At, vU x3.2.1.Leaf.1, vU x3.2.1.Leaf.2, vU x3.2.1.Sig.E, vU x3.2.1.Sig.S] 35) :: (bx b2 [vI x2.1.Log, vU x2.1.Key, vI x2.1.Delay] 40) :: (bx b1 [vI x4.1.Id, vU x4.1.Key, vI x4.1.Delay, v10, v11, v12] 26) :: As) _ := S136
 obtain ⟨m108, l47, S137⟩ := St.drop S136 0
 replace h13 := h13.up l47
 replace h14 := h14.up l47
 replace h15 := h15.up l47
 replace L0 := Mem.tr L0 l47
 clear S136
 replace S137 : St _ ((bx b5 [vI x6.1.Id, vU x6.1.Key, vI x6.1.Delay, v16, v17, v18] 26) :: (bx b4 [vI x4.2.1.Log, vI x4.2.1.At, vU x4.2.1.Leaf.1, vU x4.2.1.Leaf.2, vU x4.2.1.Sig.E, vU x4.2.1.Sig.S] 35) :: (bx b3 [vI x3.2.1.Log, vI x3.2.1.At, vU x3.2.1.Leaf.1, vU x3.2.1.Leaf.2, vU x3.2.1.Sig.E, vU x3.2.1.Sig.S] 35) :: (bx b2 [vI x2.1.Log, vU x2.1.Key, vI x2.1.Delay] 40) :: (bx b1 [vI x4.1.Id, vU x4.1.Key, vI x4.1.Delay, v10, v11, v12] 26) :: As) _ := S137
 obtain ⟨m109, l48, S138⟩ := St.drop S137 0
 replace h13 := h13.up l48
 replace h14 := h14.up l48
 replace h15 := h15.up l48
 replace L0 := Mem.tr L0 l48
 clear S137
 replace S138 : St _ ((bx b4 [vI x4.2.1.Log, vI x4.2.1.At, vU x4.2.1.Leaf.1, vU x4.2.1.Leaf.2, vU x4.2.1.Sig.E, vU x4.2.1.Sig.S] 35) :: (bx b3 [vI x3.2.1.Log, vI x3.2.1.At, vU x3.2.1.Leaf.1, vU x3.2.1.Leaf.2, vU x3.2.1.Sig.E, vU x3.2.1.Sig.S] 35) :: (bx b2 [vI x2.1.Log, vU x2.1.Key, vI x2.1.Delay] 40) :: (bx b1 [vI x4.1.Id, vU x4.1.Key, vI x4.1.Delay, v10, v11, v12] 26) :: As) _ := S138
 obtain ⟨m110, l49, S139⟩ := St.drop S138 0
 replace h13 := h13.up l49
 replace h14 := h14.up l49
 replace h15 := h15.up l49
 replace L0 := Mem.tr L0 l49
 clear S138
 replace S139 : St _ ((bx b3 [vI x3.2.1.Log, vI x3.2.1.At, vU x3.2.1.Leaf.1, vU x3.2.1.Leaf.2, vU x3.2.1.Sig.E, vU x3.2.1.Sig.S] 35) :: (bx b2 [vI x2.1.Log, vU x2.1.Key, vI x2.1.Delay] 40) :: (bx b1 [vI x4.1.Id, vU x4.1.Key, vI x4.1.Delay, v10, v11, v12] 26) :: As) _ := S139
 obtain ⟨m111, l50, S140⟩ := St.drop S139 0
 replace h13 := h13.up l50
 replace h14 := h14.up l50
 replace h15 := h15.up l50
 replace L0 := Mem.tr L0 l50
 clear S139
 replace S140 : St _ ((bx b2 [vI x2.1.Log, vU x2.1.Key, vI x2.1.Delay] 40) :: (bx b1 [vI x4.1.Id, vU x4.1.Key, vI x4.1.Delay, v10, v11, v12] 26) :: As) _ := S140
 obtain ⟨m112, l51, S141⟩ := St.drop S140 0
 replace L0 := Mem.tr L0 l51
 clear S140
 replace S141 : St _ ((bx b1 [vI x4.1.Id, vU x4.1.Key, vI x4.1.Delay, v10, v11, v12] 26) :: As) _ := S141
 obtain ⟨m113, l52, S142⟩ := St.drop S141 0
 replace L0 := Mem.tr L0 l52
 clear S141
 replace S142 : St _ (As) _ := S142
 have e0 := Option.some.inj hm
 subst e0
 exact outR [_] rfl ⟨rfl, trivial⟩ ⟨_, L0, S142, rfl⟩

end Go.Proofs.Ytemiampgjgenhaa
