/- The walks of some functions, written by program. Conditions: none. -/
import Derived.Test.YtemiampgjgenhaaGreatWkE
set_option maxHeartbeats 20000000
set_option maxRecDepth 100000
set_option linter.unusedVariables false
set_option linter.unusedSimpArgs false
namespace Go.Proofs.YtemiampgjgenhaaGreat
open Go Go.Gw Tryz

def m_ref24_Few_b2 (a0 : g_api_Log) (s1 : Int × Int) : Option ((Int × Int) ⊕ (Int)) :=
  if ((decide (s1.2 < (a0.L.length : Int))) && (decide (s1.2 < 40))) = true then
    obind (idx a0.L s1.2) fun x4 =>
    bnd ((w64 (s1.1 + (x4.Body.length : Int)))) fun x5 =>
    some (.inl (x5, (w64 (s1.2 + 1))))
  else
  some (.inr s1.1)

def m_ref24_Few_b3 (a0 : g_api_Log) (s2 : Int × Int) : Option ((Int × Int) ⊕ (Int)) :=
  if ((decide (s2.2 < (a0.Wait.length : Int))) && (decide (s2.2 < 40))) = true then
    obind (idx a0.Wait s2.2) fun x9 =>
    bnd ((w64 (s2.1 + (x9.Body.length : Int)))) fun x10 =>
    some (.inl (x10, (w64 (s2.2 + 1))))
  else
  some (.inr s2.1)

def m_ref24_Few (a0 : g_api_Log) : Option Bool :=
  obind (
    obind (iter (m_ref24_Few_b2 a0) FUEL (0, 0)) fun x2 =>
    some x2
  ) fun x1 =>
  obind (
    obind (iter (m_ref24_Few_b3 a0) FUEL (x1, 0)) fun x7 =>
    some x7
  ) fun x6 =>
  bnd (((((decide ((a0.L.length : Int) ≤ 40)) && (decide ((a0.Wait.length : Int) ≤ 40))) && (decide ((a0.Hide.length : Int) ≤ 60))) && (decide (x6 ≤ 20000)))) fun x11 =>
  some x11

theorem w_ref24_Few {m : Mem} {As : List Ow} {w : World} {a0 : g_api_Log} {a0v3 : Value} {a0v4 : Value} {a0v5 : Value} {r : Bool} (S : St m (As) w) (a0h3 : SlR m a0v3 a0.L) (a0h4 : SlR m a0v4 a0.Hide) (a0h5 : SlR m a0v5 a0.Wait) (hm : m_ref24_Few a0 = some r) :
    CallsR Tryz.prog 37 #[.agg (c_api_Log a0 a0v3 a0v4 a0v5).toArray] w fun v w' => ∃ (M : Mem), m ≤ M ∧ St M (As) w' ∧ v = vb r := by
 unfold m_ref24_Few at hm
 have L0 := Mem.rfl' m
 refine callsR (args := [.agg (c_api_Log a0 a0v3 a0v4 a0v5).toArray]) func37 rfl ntmps37 (nb rfl) <| ws <| s_box S rfl fun b1 w1 S1 => ?_
 replace S1 : St _ ((bx b1 (c_api_Log a0 a0v3 a0v4 a0v5) 26) :: As) _ := S1
 clear S
 refine s_asv (v := vb false) rfl <| nx <| s_asv (v := vI 0) rfl <| wpl_nil <| nrm ?_
 obtain ⟨x1, q1, hm⟩ := obind_some hm
 have L1 := Mem.rfl' m
 refine wpc_seq <| wpc_join [3, 4, 6, 7, 8, 9, 10, 11, 12, 13, 14, 15, 16, 17, 18, 19, 20, 21, 22, 23, 24, 25] (fun f' w' => ∃ (M1 : Mem), m ≤ M1 ∧ St M1 ((bx b1 (c_api_Log a0 a0v3 a0v4 a0v5) 26) :: As) w' ∧ AllAt f' [(3, vI x1)]) ?_ ?_
 · refine ws <| s_asv (v := vI 0) rfl <| wpl_nil <| nrm ?_
   obtain ⟨x2, q2, q1⟩ := obind_some q1
   have L2 := Mem.rfl' m
   refine wpc_join [3, 4, 6, 7, 8, 9, 10, 11, 12, 13, 14, 15, 16, 17, 18, 19, 20, 21, 22, 23, 24, 25] (fun f' w' => ∃ (M2 : Mem), m ≤ M2 ∧ St M2 ((bx b1 (c_api_Log a0 a0v3 a0v4 a0v5) 26) :: As) w' ∧ AllAt f' [(3, vI x2)]) ?_ ?_
   · refine wpc_block <| wpc_rounds [3, 4, 6, 7, 8, 9, 10, 11, 12, 13, 14, 15, 16, 17, 18, 19, 20, 21, 22, 23, 24, 25] (fun n1 f' w' => ∃ (s1 : Int × Int) (m2 : Mem), iter (m_ref24_Few_b2 a0) n1 s1 = some x2 ∧ m ≤ m2 ∧ St m2 ((bx b1 (c_api_Log a0 a0v3 a0v4 a0v5) 26) :: As) w' ∧ AllAt f' [(3, vI s1.1), (4, vI s1.2)]) FUEL ⟨(0, 0), m, q2, L2, S1, ⟨rfl, rfl, trivial⟩⟩ ?_
     rintro n1 f1 w2 ho ⟨s1, m1, q3, L4, S2, ha⟩
     obtain ⟨u1, rfl⟩ := fr_of (N := 66) ho ha
     clear ho ha
     have L3 := Mem.rfl' m1
     clear S1
     cases n1 with
     | zero => exact (iter_zero q3).elim
     | succ n1 =>
      obtain ⟨y1, q5, q4⟩ := iter_succ q3
      unfold m_ref24_Few_b2 at q5
      refine wpc_seq <| ws <| s_mvv (v := vI s1.2) rfl <| s_fld (n := 0) rfl underlying26 rfl rfl sizeOf23 <| s_ld (i := 0) (cs := [a0v3]) S2 rfl rfl isAgg23 sizeOf23 rfl (fun _ => rfl) <| s_lenR (xs := a0.L) rfl (a0h3.up L4) underlying23 <| s_lss (m := s1.2) (n := (a0.L.length : Int)) rfl rfl <| s_mvv (v := vb (decide (s1.2 < (a0.L.length : Int)))) rfl <| wpl_cut 3 [12, 13, 14] (fun f' w' => w' = w2 ∧ AllAt f' [(14, vb ((decide (s1.2 < (a0.L.length : Int))) && (decide (s1.2 < 40))))]) ?_ ?_
      · rcases bool_tf (decide (s1.2 < (a0.L.length : Int))) with hb1 | hb1
        · exact wpl_yes (d := 11) rfl rfl (cb hb1) <| s_mvv (v := vI s1.2) rfl <| wpl_yes (d := 11) rfl rfl (cb hb1) <| s_lss (m := s1.2) (n := 40) rfl rfl <| s_pickT (cb hb1) rfl <| wpl_nil (nrm ⟨outP, rfl, congrArg Value.bool (and_t hb1), trivial⟩)
        · exact wpl_no (d := 11) rfl rfl (cb hb1) <| wpl_no (d := 11) rfl rfl (cb hb1) <| s_pickF (cb hb1) rfl <| wpl_nil (nrm ⟨outP, rfl, congrArg Value.bool (and_f hb1), trivial⟩)
      rintro f2 w3 ho ⟨h1, ha⟩
      subst h1
      obtain ⟨u2, rfl⟩ := fr_of (N := 66) ho ha
      refine wpl_nil <| nrm <| wpc_if (t := ((decide (s1.2 < (a0.L.length : Int))) && (decide (s1.2 < 40)))) rfl (fun hc1 => ?_) (fun hc1 => ?_)
      · replace q5 := ifT hc1 q5
        refine wpc_skip <| nrm <| wpc_seq <| wpc_block <| wpc_region <| s_mvv (v := vI s1.1) rfl <| s_fld (n := 0) rfl underlying26 rfl rfl sizeOf23 <| s_ld (i := 0) (cs := [a0v3]) S2 rfl rfl isAgg23 sizeOf23 rfl (fun _ => rfl) <| s_mvv (v := vI s1.2) rfl ?_
        obtain ⟨x4, q7, q5⟩ := obind_some q5
        refine s_idx (q := x4) rfl rfl (a0h3.up L4) q7 underlying23 sizeOf77 fun p1 c1 h2 r1 => ?_
        obtain ⟨v1, rfl, h3⟩ := rep_g_api_Leaf r1
        refine s_fldM (n := 0) rfl h2 underlying77 rfl rfl sizeOf27 fun p2 h4 => ?_
        replace h4 : PtC _ _ (c_api_Leaf x4 v1) := h4
        refine s_ldM (cs := [v1]) S2 rfl h4 rfl isAgg27 sizeOf27 (fun _ => rfl) <| s_lenR (xs := x4.Body) rfl h3 underlying27 <| s_addI (m := s1.1) (n := (x4.Body.length : Int)) rfl rfl ?_
        obtain ⟨x5, q8, q5⟩ := bnd_eq q5
        refine s_asv (v := vI x5) (congrArg (fun z => vI z) q8.symm) <| wpl_nil <| nrmB <| nrm <| wpc_region <| s_mvv (v := vI s1.2) rfl <| s_addI (m := s1.2) (n := 1) rfl rfl <| s_asv (v := vI (w64 (s1.2 + 1))) rfl <| wpl_nil <| nrm ?_
        have e0 := Option.some.inj q5
        subst e0
        rcases q4 with ⟨sn, e, q4'⟩ | e
        · cases e
          exact ⟨outP, _, Nat.lt_succ_self _, ⟨_, m1, q4', Mem.tr L4 L3, S2, ⟨rfl, rfl, trivial⟩⟩⟩
        · cases e
      replace q5 := ifF hc1 q5
      refine wpc_exit <| thE <| thE <| exB <| nrm ?_
      have e0 := Option.some.inj q5
      subst e0
      rcases q4 with ⟨sn, e, _⟩ | e
      · cases e
      · cases e
        exact ⟨outP, m1, Mem.tr L4 L3, S2, ⟨rfl, trivial⟩⟩
   rintro f3 w4 ho ⟨m3, l1, S3, ha⟩
   obtain ⟨u3, rfl⟩ := fr_of (N := 66) ho ha
   clear ho ha S1
   have e0 := Option.some.inj q1
   subst e0
   replace L1 := Mem.tr L1 l1
   exact ⟨outP, m3, L1, S3, ⟨rfl, trivial⟩⟩
 rintro f4 w5 ho ⟨m4, l2, S4, ha⟩
 obtain ⟨u4, rfl⟩ := fr_of (N := 66) ho ha
 clear S1
 obtain ⟨x6, q9, hm⟩ := obind_some hm
 have L5 := Mem.rfl' m4
 refine wpc_seq <| wpc_join [3, 5, 26, 27, 28, 29, 30, 31, 32, 33, 34, 35, 36, 37, 38, 39, 40, 41, 42, 43, 44, 45] (fun f' w' => ∃ (M3 : Mem), m4 ≤ M3 ∧ St M3 ((bx b1 (c_api_Log a0 a0v3 a0v4 a0v5) 26) :: As) w' ∧ AllAt f' [(3, vI x6)]) ?_ ?_
 · refine ws <| s_asv (v := vI 0) rfl <| wpl_nil <| nrm ?_
   obtain ⟨x7, q10, q9⟩ := obind_some q9
   have L6 := Mem.rfl' m4
   refine wpc_join [3, 5, 26, 27, 28, 29, 30, 31, 32, 33, 34, 35, 36, 37, 38, 39, 40, 41, 42, 43, 44, 45] (fun f' w' => ∃ (M4 : Mem), m4 ≤ M4 ∧ St M4 ((bx b1 (c_api_Log a0 a0v3 a0v4 a0v5) 26) :: As) w' ∧ AllAt f' [(3, vI x7)]) ?_ ?_
   · refine wpc_block <| wpc_rounds [3, 5, 26, 27, 28, 29, 30, 31, 32, 33, 34, 35, 36, 37, 38, 39, 40, 41, 42, 43, 44, 45] (fun n2 f' w' => ∃ (s2 : Int × Int) (m6 : Mem), iter (m_ref24_Few_b3 a0) n2 s2 = some x7 ∧ m4 ≤ m6 ∧ St m6 ((bx b1 (c_api_Log a0 a0v3 a0v4 a0v5) 26) :: As) w' ∧ AllAt f' [(3, vI s2.1), (5, vI s2.2)]) FUEL ⟨(x1, 0), m4, q10, L6, S4, ⟨rfl, rfl, trivial⟩⟩ ?_
     rintro n2 f5 w6 ho ⟨s2, m5, q11, L8, S5, ha⟩
     obtain ⟨u5, rfl⟩ := fr_of (N := 66) ho ha
     clear ho ha
     have L7 := Mem.rfl' m5
     clear S4
     cases n2 with
     | zero => exact (iter_zero q11).elim
     | succ n2 =>
      obtain ⟨y2, q13, q12⟩ := iter_succ q11
      unfold m_ref24_Few_b3 at q13
      refine wpc_seq <| ws <| s_mvv (v := vI s2.2) rfl <| s_fld (n := 0) rfl underlying26 rfl rfl sizeOf23 <| s_ld (i := 0) (cs := [a0v5]) S5 rfl rfl isAgg23 sizeOf23 rfl (fun _ => rfl) ?_
      replace a0h5 := a0h5.up (mt l2 L8)
      refine s_lenR (xs := a0.Wait) rfl a0h5 underlying23 <| s_lss (m := s2.2) (n := (a0.Wait.length : Int)) rfl rfl <| s_mvv (v := vb (decide (s2.2 < (a0.Wait.length : Int)))) rfl <| wpl_cut 3 [32, 33, 34] (fun f' w' => w' = w6 ∧ AllAt f' [(34, vb ((decide (s2.2 < (a0.Wait.length : Int))) && (decide (s2.2 < 40))))]) ?_ ?_
      · rcases bool_tf (decide (s2.2 < (a0.Wait.length : Int))) with hb2 | hb2
        · exact wpl_yes (d := 31) rfl rfl (cb hb2) <| s_mvv (v := vI s2.2) rfl <| wpl_yes (d := 31) rfl rfl (cb hb2) <| s_lss (m := s2.2) (n := 40) rfl rfl <| s_pickT (cb hb2) rfl <| wpl_nil (nrm ⟨outP, rfl, congrArg Value.bool (and_t hb2), trivial⟩)
        · exact wpl_no (d := 31) rfl rfl (cb hb2) <| wpl_no (d := 31) rfl rfl (cb hb2) <| s_pickF (cb hb2) rfl <| wpl_nil (nrm ⟨outP, rfl, congrArg Value.bool (and_f hb2), trivial⟩)
      rintro f6 w7 ho ⟨h5, ha⟩
      subst h5
      obtain ⟨u6, rfl⟩ := fr_of (N := 66) ho ha
      refine wpl_nil <| nrm <| wpc_if (t := ((decide (s2.2 < (a0.Wait.length : Int))) && (decide (s2.2 < 40)))) rfl (fun hc2 => ?_) (fun hc2 => ?_)
      · replace q13 := ifT hc2 q13
        refine wpc_skip <| nrm <| wpc_seq <| wpc_block <| wpc_region <| s_mvv (v := vI s2.1) rfl <| s_fld (n := 0) rfl underlying26 rfl rfl sizeOf23 <| s_ld (i := 0) (cs := [a0v5]) S5 rfl rfl isAgg23 sizeOf23 rfl (fun _ => rfl) <| s_mvv (v := vI s2.2) rfl ?_
        obtain ⟨x9, q15, q13⟩ := obind_some q13
        refine s_idx (q := x9) rfl rfl a0h5 q15 underlying23 sizeOf77 fun p3 c2 h6 r2 => ?_
        obtain ⟨v2, rfl, h7⟩ := rep_g_api_Leaf r2
        refine s_fldM (n := 0) rfl h6 underlying77 rfl rfl sizeOf27 fun p4 h8 => ?_
        replace h8 : PtC _ _ (c_api_Leaf x9 v2) := h8
        refine s_ldM (cs := [v2]) S5 rfl h8 rfl isAgg27 sizeOf27 (fun _ => rfl) <| s_lenR (xs := x9.Body) rfl h7 underlying27 <| s_addI (m := s2.1) (n := (x9.Body.length : Int)) rfl rfl ?_
        obtain ⟨x10, q16, q13⟩ := bnd_eq q13
        refine s_asv (v := vI x10) (congrArg (fun z => vI z) q16.symm) <| wpl_nil <| nrmB <| nrm <| wpc_region <| s_mvv (v := vI s2.2) rfl <| s_addI (m := s2.2) (n := 1) rfl rfl <| s_asv (v := vI (w64 (s2.2 + 1))) rfl <| wpl_nil <| nrm ?_
        have e0 := Option.some.inj q13
        subst e0
        rcases q12 with ⟨sn, e, q12'⟩ | e
        · cases e
          exact ⟨outP, _, Nat.lt_succ_self _, ⟨_, m5, q12', Mem.tr L8 L7, S5, ⟨rfl, rfl, trivial⟩⟩⟩
        · cases e
      replace q13 := ifF hc2 q13
      refine wpc_exit <| thE <| thE <| exB <| nrm ?_
      have e0 := Option.some.inj q13
      subst e0
      rcases q12 with ⟨sn, e, _⟩ | e
      · cases e
      · cases e
        exact ⟨outP, m5, Mem.tr L8 L7, S5, ⟨rfl, trivial⟩⟩
   rintro f7 w8 ho ⟨m7, l3, S6, ha⟩
   obtain ⟨u7, rfl⟩ := fr_of (N := 66) ho ha
   clear ho ha S4
   have e0 := Option.some.inj q9
   subst e0
   replace L5 := Mem.tr L5 l3
   exact ⟨outP, m7, L5, S6, ⟨rfl, trivial⟩⟩
 rintro f8 w9 ho ⟨m8, l4, S7, ha⟩
 obtain ⟨u8, rfl⟩ := fr_of (N := 66) ho ha
 clear S4
 refine ws <| s_fld (n := 0) rfl underlying26 rfl rfl sizeOf23 <| s_ld (i := 0) (cs := [a0v3]) S7 rfl rfl isAgg23 sizeOf23 rfl (fun _ => rfl) ?_
 replace a0h3 := a0h3.up (mt l2 l4)
 refine s_lenR (xs := a0.L) rfl a0h3 underlying23 <| s_leq (m := (a0.L.length : Int)) (n := 40) rfl rfl <| s_mvv (v := vb (decide ((a0.L.length : Int) ≤ 40))) rfl <| wpl_cut 5 [51, 52, 53, 54, 55] (fun f' w' => w' = w9 ∧ AllAt f' [(55, vb ((decide ((a0.L.length : Int) ≤ 40)) && (decide ((a0.Wait.length : Int) ≤ 40))))]) ?_ ?_
 · rcases bool_tf (decide ((a0.L.length : Int) ≤ 40)) with hb3 | hb3
   · refine wpl_yes (d := 50) rfl rfl (cb hb3) <| s_fld (n := 0) rfl underlying26 rfl rfl sizeOf23 <| wpl_yes (d := 50) rfl rfl (cb hb3) <| s_ld (i := 0) (cs := [a0v5]) S7 rfl rfl isAgg23 sizeOf23 rfl (fun _ => rfl) <| wpl_yes (d := 50) rfl rfl (cb hb3) ?_
     replace a0h5 := a0h5.up (mt l2 l4)
     exact s_lenR (xs := a0.Wait) rfl a0h5 underlying23 <| wpl_yes (d := 50) rfl rfl (cb hb3) <| s_leq (m := (a0.Wait.length : Int)) (n := 40) rfl rfl <| s_pickT (cb hb3) rfl <| wpl_nil (nrm ⟨outP, rfl, congrArg Value.bool (and_t hb3), trivial⟩)
   · exact wpl_no (d := 50) rfl rfl (cb hb3) <| wpl_no (d := 50) rfl rfl (cb hb3) <| wpl_no (d := 50) rfl rfl (cb hb3) <| wpl_no (d := 50) rfl rfl (cb hb3) <| s_pickF (cb hb3) rfl <| wpl_nil (nrm ⟨outP, rfl, congrArg Value.bool (and_f hb3), trivial⟩)
 rintro f9 w10 ho ⟨h9, ha⟩
 subst h9
 obtain ⟨u9, rfl⟩ := fr_of (N := 66) ho ha
 refine s_mvv (v := vb ((decide ((a0.L.length : Int) ≤ 40)) && (decide ((a0.Wait.length : Int) ≤ 40)))) rfl <| wpl_cut 5 [57, 58, 59, 60, 61] (fun f' w' => w' = w10 ∧ AllAt f' [(61, vb (((decide ((a0.L.length : Int) ≤ 40)) && (decide ((a0.Wait.length : Int) ≤ 40))) && (decide ((a0.Hide.length : Int) ≤ 60))))]) ?_ ?_
 · rcases bool_tf ((decide ((a0.L.length : Int) ≤ 40)) && (decide ((a0.Wait.length : Int) ≤ 40))) with hb4 | hb4
   · refine wpl_yes (d := 56) rfl rfl (cb hb4) <| s_fld (n := 0) rfl underlying26 rfl rfl sizeOf24 <| wpl_yes (d := 56) rfl rfl (cb hb4) <| s_ld (i := 0) (cs := [a0v4]) S7 rfl rfl isAgg24 sizeOf24 rfl (fun _ => rfl) <| wpl_yes (d := 56) rfl rfl (cb hb4) ?_
     replace a0h4 := a0h4.up (mt l2 l4)
     exact s_lenR (xs := a0.Hide) rfl a0h4 underlying24 <| wpl_yes (d := 56) rfl rfl (cb hb4) <| s_leq (m := (a0.Hide.length : Int)) (n := 60) rfl rfl <| s_pickT (cb hb4) rfl <| wpl_nil (nrm ⟨outP, rfl, congrArg Value.bool (and_t hb4), trivial⟩)
   · exact wpl_no (d := 56) rfl rfl (cb hb4) <| wpl_no (d := 56) rfl rfl (cb hb4) <| wpl_no (d := 56) rfl rfl (cb hb4) <| wpl_no (d := 56) rfl rfl (cb hb4) <| s_pickF (cb hb4) rfl <| wpl_nil (nrm ⟨outP, rfl, congrArg Value.bool (and_f hb4), trivial⟩)
 rintro f10 w11 ho ⟨h10, ha⟩
 subst h10
 obtain ⟨u10, rfl⟩ := fr_of (N := 66) ho ha
 refine s_mvv (v := vb (((decide ((a0.L.length : Int) ≤ 40)) && (decide ((a0.Wait.length : Int) ≤ 40))) && (decide ((a0.Hide.length : Int) ≤ 60)))) rfl <| wpl_cut 3 [63, 64, 65] (fun f' w' => w' = w11 ∧ AllAt f' [(65, vb ((((decide ((a0.L.length : Int) ≤ 40)) && (decide ((a0.Wait.length : Int) ≤ 40))) && (decide ((a0.Hide.length : Int) ≤ 60))) && (decide (x6 ≤ 20000))))]) ?_ ?_
 · rcases bool_tf (((decide ((a0.L.length : Int) ≤ 40)) && (decide ((a0.Wait.length : Int) ≤ 40))) && (decide ((a0.Hide.length : Int) ≤ 60))) with hb5 | hb5
   · exact wpl_yes (d := 62) rfl rfl (cb hb5) <| s_mvv (v := vI x6) rfl <| wpl_yes (d := 62) rfl rfl (cb hb5) <| s_leq (m := x6) (n := 20000) rfl rfl <| s_pickT (cb hb5) rfl <| wpl_nil (nrm ⟨outP, rfl, congrArg Value.bool (and_t hb5), trivial⟩)
   · exact wpl_no (d := 62) rfl rfl (cb hb5) <| wpl_no (d := 62) rfl rfl (cb hb5) <| s_pickF (cb hb5) rfl <| wpl_nil (nrm ⟨outP, rfl, congrArg Value.bool (and_f hb5), trivial⟩)
 rintro f11 w12 ho ⟨h11, ha⟩
 subst h11
 obtain ⟨u11, rfl⟩ := fr_of (N := 66) ho ha
 obtain ⟨x11, q17, hm⟩ := bnd_eq hm
 refine s_asv (v := vb x11) (congrArg (fun z => vb z) q17.symm) <| wpl_nil <| nrm <| wpc_ret <| outRw fun we hpd => ?_
 replace S7 := St.pd S7 hpd
 obtain ⟨m9, l5, S8⟩ := St.drop S7 0
 clear S7
 replace S8 : St _ (As) _ := S8
 have e0 := Option.some.inj hm
 subst e0
 replace L0 := Mem.tr L0 (mt l2 (mt l4 l5))
 exact outR [_] rfl ⟨rfl, trivial⟩ ⟨_, L0, S8, rfl⟩

def m_law24_few (a0 : g_api_Log) (a1 : List UInt8) : Option Bool :=
  obind (m_ref24_Few a0) fun x1 =>
  bnd ((x1 && (decide ((a1.length : Int) ≤ 3000)))) fun x2 =>
  some x2

theorem w_law24_few {m : Mem} {As : List Ow} {w : World} {a0 : g_api_Log} {a0v3 : Value} {a0v4 : Value} {a0v5 : Value} {a1 : List UInt8} {a1v0 : Value} {r : Bool} (S : St m (As) w) (a0h3 : SlR m a0v3 a0.L) (a0h4 : SlR m a0v4 a0.Hide) (a0h5 : SlR m a0v5 a0.Wait) (a1h0 : SlR m a1v0 a1) (hm : m_law24_few a0 a1 = some r) :
    CallsR Tryz.prog 8 #[.agg (c_api_Log a0 a0v3 a0v4 a0v5).toArray, a1v0] w fun v w' => ∃ (M : Mem), m ≤ M ∧ St M (As) w' ∧ v = vb r := by
 unfold m_law24_few at hm
 have L0 := Mem.rfl' m
 refine callsR (args := [.agg (c_api_Log a0 a0v3 a0v4 a0v5).toArray, a1v0]) func8 rfl ntmps8 (nb rfl) <| ws <| s_box S rfl fun b1 w1 S1 => ?_
 replace S1 : St _ ((bx b1 (c_api_Log a0 a0v3 a0v4 a0v5) 26) :: As) _ := S1
 clear S
 refine s_asv (v := vb false) rfl <| nx <| s_ld (i := 0) (cs := (c_api_Log a0 a0v3 a0v4 a0v5)) S1 rfl rfl isAgg26 sizeOf26 rfl (fun h => by cases h) ?_
 obtain ⟨x1, q1, hm⟩ := obind_some hm
 refine s_call call37 (w_ref24_Few (a0 := a0) S1 a0h3 a0h4 a0h5 q1) rfl ?_
 rintro _ w2 ⟨m1, l1, S2, rfl⟩
 clear S1
 refine s_mvv (v := vb x1) rfl <| wpl_cut 4 [8, 9, 10, 11] (fun f' w' => w' = w2 ∧ AllAt f' [(11, vb (x1 && (decide ((a1.length : Int) ≤ 3000))))]) ?_ ?_
 · rcases bool_tf x1 with hb1 | hb1
   · exact wpl_yes (d := 7) rfl rfl (cb hb1) <| s_mvv (v := a1v0) rfl <| wpl_yes (d := 7) rfl rfl (cb hb1) <| s_lenR (xs := a1) rfl (a1h0.up l1) underlying27 <| wpl_yes (d := 7) rfl rfl (cb hb1) <| s_leq (m := (a1.length : Int)) (n := 3000) rfl rfl <| s_pickT (cb hb1) rfl <| wpl_nil (nrm ⟨outP, rfl, congrArg Value.bool (and_t hb1), trivial⟩)
   · exact wpl_no (d := 7) rfl rfl (cb hb1) <| wpl_no (d := 7) rfl rfl (cb hb1) <| wpl_no (d := 7) rfl rfl (cb hb1) <| s_pickF (cb hb1) rfl <| wpl_nil (nrm ⟨outP, rfl, congrArg Value.bool (and_f hb1), trivial⟩)
 rintro f1 w3 ho ⟨h1, ha⟩
 subst h1
 obtain ⟨u1, rfl⟩ := fr_of (N := 12) ho ha
 obtain ⟨x2, q2, hm⟩ := bnd_eq hm
 refine s_asv (v := vb x2) (congrArg (fun z => vb z) q2.symm) <| wpl_nil <| nrm <| wpc_ret <| outRw fun we hpd => ?_
 replace S2 := St.pd S2 hpd
 obtain ⟨m2, l2, S3⟩ := St.drop S2 0
 clear S2
 replace S3 : St _ (As) _ := S3
 have e0 := Option.some.inj hm
 subst e0
 replace L0 := Mem.tr L0 (mt l1 l2)
 exact outR [_] rfl ⟨rfl, trivial⟩ ⟨_, L0, S3, rfl⟩

def m_ref24_All (a0 : g_api_Log) : Option (List g_api_Leaf) :=
  obind (app 32 ([] : List g_api_Leaf) a0.L) fun x1 =>
  obind (app 32 x1 a0.Wait) fun x2 =>
  some x2

theorem w_ref24_All {m : Mem} {As : List Ow} {w : World} {a0 : g_api_Log} {a0v3 : Value} {a0v4 : Value} {a0v5 : Value} {r : List g_api_Leaf} (S : St m (As) w) (a0h3 : SlR m a0v3 a0.L) (a0h4 : SlR m a0v4 a0.Hide) (a0h5 : SlR m a0v5 a0.Wait) (hm : m_ref24_All a0 = some r) :
    CallsR Tryz.prog 46 #[.agg (c_api_Log a0 a0v3 a0v4 a0v5).toArray] w fun v w' => ∃ (M : Mem), m ≤ M ∧ ∃ (rv0 : Value) (rc0 : List Value), St M ((row 2 rv0 rc0 r.length) :: As) w' ∧ v = rv0 ∧ RepL M rc0 r := by
 unfold m_ref24_All at hm
 have L0 := Mem.rfl' m
 refine callsR (args := [.agg (c_api_Log a0 a0v3 a0v4 a0v5).toArray]) func46 rfl ntmps46 (nb rfl) <| ws <| s_box S rfl fun b1 w1 S1 => ?_
 replace S1 : St _ ((bx b1 (c_api_Log a0 a0v3 a0v4 a0v5) 26) :: As) _ := S1
 clear S
 refine s_asv (v := .slice none 0 0) rfl <| nx <| s_litOC (parts := []) (vs := []) (cls := []) (n := 0) (sz := 2) S1 underlying23 sizeOf77 zeroValue77 rfl trivial rfl rfl (by decide) (by decide) fun v1 w2 S2 => ?_
 have h1 : RepL m [] ([] : List g_api_Leaf) := RepL.nil
 replace S2 : St _ ((row 2 v1 [] ([] : List g_api_Leaf).length) :: (bx b1 (c_api_Log a0 a0v3 a0v4 a0v5) 26) :: As) _ := S2
 clear S1
 refine s_fld (n := 0) rfl underlying26 rfl rfl sizeOf23 <| s_ld (i := 1) (cs := [a0v3]) S2 rfl rfl isAgg23 sizeOf23 rfl (fun _ => rfl) ?_
 obtain ⟨x1, q1, hm⟩ := obind_some hm
 refine s_app (i := 0) (zs := x1) (bytes := 32) (ti := Tryz.t77) S2 rfl rfl h1 rfl rfl a0h3 q1 underlying23 type77 rfl rfl rfl rfl fun v2 c1 w3 S3 h2 => ?_
 replace S3 : St _ ((row 2 v2 c1 x1.length) :: (bx b1 (c_api_Log a0 a0v3 a0v4 a0v5) 26) :: As) _ := S3
 clear S2
 refine s_asv (v := v2) rfl <| nx <| s_mvv (v := v2) rfl <| s_fld (n := 0) rfl underlying26 rfl rfl sizeOf23 <| s_ld (i := 1) (cs := [a0v5]) S3 rfl rfl isAgg23 sizeOf23 rfl (fun _ => rfl) ?_
 obtain ⟨x2, q2, hm⟩ := obind_some hm
 refine s_app (i := 0) (zs := x2) (bytes := 32) (ti := Tryz.t77) S3 rfl rfl h2 rfl rfl a0h5 q2 underlying23 type77 rfl rfl rfl rfl fun v3 c2 w4 S4 h3 => ?_
 replace S4 : St _ ((row 2 v3 c2 x2.length) :: (bx b1 (c_api_Log a0 a0v3 a0v4 a0v5) 26) :: As) _ := S4
 clear S3
 refine s_asv (v := v3) rfl <| wpl_nil <| nrm <| wpc_ret <| outRw fun we hpd => ?_
 replace S4 := St.pd S4 hpd
 obtain ⟨m1, l1, S5⟩ := St.drop S4 1
 clear S4
 replace S5 : St _ ((row 2 v3 c2 x2.length) :: As) _ := S5
 have e0 := Option.some.inj hm
 subst e0
 replace h3 := RepL.up l1 h3
 replace L0 := Mem.tr L0 l1
 exact outR [_] rfl ⟨rfl, trivial⟩ ⟨_, L0, _, _, S5, rfl, h3⟩

def m_ref24_isBody (a0 : List UInt8) : Option Bool :=
  bnd (((decide ((a0.length : Int) ≥ 1)) && (decide ((a0.length : Int) ≤ 2048)))) fun x1 =>
  some x1

theorem w_ref24_isBody {m : Mem} {As : List Ow} {w : World} {a0 : List UInt8} {a0v0 : Value} {r : Bool} (S : St m (As) w) (a0h0 : SlR m a0v0 a0) (hm : m_ref24_isBody a0 = some r) :
    CallsR Tryz.prog 47 #[a0v0] w fun v w' => ∃ (M : Mem), m ≤ M ∧ St M (As) w' ∧ v = vb r := by
 unfold m_ref24_isBody at hm
 have L0 := Mem.rfl' m
 refine callsR (args := [a0v0]) func47 rfl ntmps47 (nb rfl) <| ws <| s_asv (v := vb false) rfl <| nx <| s_mvv (v := a0v0) rfl <| s_lenR (xs := a0) rfl a0h0 underlying27 <| s_geq (m := (a0.length : Int)) (n := 1) rfl rfl <| s_mvv (v := vb (decide ((a0.length : Int) ≥ 1))) rfl <| wpl_cut 4 [7, 8, 9, 10] (fun f' w' => w' = w ∧ AllAt f' [(10, vb ((decide ((a0.length : Int) ≥ 1)) && (decide ((a0.length : Int) ≤ 2048))))]) ?_ ?_
 · rcases bool_tf (decide ((a0.length : Int) ≥ 1)) with hb1 | hb1
   · exact wpl_yes (d := 6) rfl rfl (cb hb1) <| s_mvv (v := a0v0) rfl <| wpl_yes (d := 6) rfl rfl (cb hb1) <| s_lenR (xs := a0) rfl a0h0 underlying27 <| wpl_yes (d := 6) rfl rfl (cb hb1) <| s_leq (m := (a0.length : Int)) (n := 2048) rfl rfl <| s_pickT (cb hb1) rfl <| wpl_nil (nrm ⟨outP, rfl, congrArg Value.bool (and_t hb1), trivial⟩)
   · exact wpl_no (d := 6) rfl rfl (cb hb1) <| wpl_no (d := 6) rfl rfl (cb hb1) <| wpl_no (d := 6) rfl rfl (cb hb1) <| s_pickF (cb hb1) rfl <| wpl_nil (nrm ⟨outP, rfl, congrArg Value.bool (and_f hb1), trivial⟩)
 rintro f1 w1 ho ⟨h1, ha⟩
 subst h1
 obtain ⟨u1, rfl⟩ := fr_of (N := 11) ho ha
 obtain ⟨x1, q1, hm⟩ := bnd_eq hm
 refine s_asv (v := vb x1) (congrArg (fun z => vb z) q1.symm) <| wpl_nil <| nrm <| wpc_ret <| outRw fun we hpd => ?_
 replace S := St.pd S hpd
 have e0 := Option.some.inj hm
 subst e0
 exact outR [_] rfl ⟨rfl, trivial⟩ ⟨_, L0, S, rfl⟩

def m_ref24_find_b1 (a0 : List g_api_Leaf) (a1 : List UInt8) (s1 : Int) : Option ((Int) ⊕ ((Unit) ⊕ Int)) :=
  if (decide (s1 < (a0.length : Int))) = true then
    obind (idx a0 s1) fun x3 =>
    if (eqS (bs x3.Body) (bs a1)) = true then
      some (.inr (.inr s1))
    else
    some (.inl (w64 (s1 + 1)))
  else
  some (.inr (.inl ()))

def m_ref24_find (a0 : List g_api_Leaf) (a1 : List UInt8) : Option Int :=
  obind (iter (m_ref24_find_b1 a0 a1) FUEL 0) fun x1 => match x1 with
  | .inr r => some r
  | .inl y1 =>
  some (-1)

theorem w_ref24_find {m : Mem} {As : List Ow} {w : World} {a0 : List g_api_Leaf} {a0v0 : Value} {a1 : List UInt8} {a1v0 : Value} {r : Int} (S : St m (As) w) (a0h0 : SlR m a0v0 a0) (a1h0 : SlR m a1v0 a1) (hm : m_ref24_find a0 a1 = some r) :
    CallsR Tryz.prog 48 #[a0v0, a1v0] w fun v w' => ∃ (M : Mem), m ≤ M ∧ St M (As) w' ∧ v = vI r := by
 unfold m_ref24_find at hm
 have L0 := Mem.rfl' m
 refine callsR (args := [a0v0, a1v0]) func48 rfl ntmps48 (nb rfl) <| ws <| s_asv (v := vI 0) rfl <| wpl_nil <| nrm <| wpc_seq <| ws <| s_asv (v := vI 0) rfl <| wpl_nil <| nrm ?_
 obtain ⟨x1, q1, hm⟩ := obind_some hm
 have L1 := Mem.rfl' m
 refine wpc_join (rg 4 18) (fun f' w' => ∃ (M1 : Mem) (y1 : Unit), x1 = .inl y1 ∧ m ≤ M1 ∧ St M1 (As) w' ∧ AllAt f' []) ?_ ?_
 · refine wpc_block <| wpc_rounds (rg 4 18) (fun n1 f' w' => ∃ (s1 : Int) (m11 : Mem), iter (m_ref24_find_b1 a0 a1) n1 s1 = some x1 ∧ m ≤ m11 ∧ St m11 (As) w' ∧ AllAt f' [(5, vI s1)]) FUEL ⟨0, m, q1, L1, S, ⟨rfl, trivial⟩⟩ ?_
   rintro n1 f1 w1 ho ⟨s1, m1, q2, L3, S1, ha⟩
   obtain ⟨u1, rfl⟩ := fr_of (N := 22) ho ha
   clear ho ha
   have L2 := Mem.rfl' m1
   clear S
   cases n1 with
   | zero => exact (iter_zero q2).elim
   | succ n1 =>
    obtain ⟨y2, q4, q3⟩ := iter_succ q2
    unfold m_ref24_find_b1 at q4
    refine wpc_seq <| ws <| s_mvv (v := vI s1) rfl <| s_mvv (v := a0v0) rfl <| s_lenR (xs := a0) rfl (a0h0.up L3) underlying23 <| s_lss (m := s1) (n := (a0.length : Int)) rfl rfl <| wpl_nil <| nrm <| wpc_if (t := (decide (s1 < (a0.length : Int)))) rfl (fun hc1 => ?_) (fun hc1 => ?_)
    · replace q4 := ifT hc1 q4
      refine wpc_skip <| nrm <| wpc_seq <| wpc_block <| wpc_seq ?_
      obtain ⟨x3, q6, q4⟩ := obind_some q4
      have HM : MonoAll [(12, fv a0v0), (13, fv (vI s1)), (14, fun (M : Mem) (v : Value) => ∃ (v1 : Value), ∃ (p1 : Value), v = p1 ∧ SlR M v1 x3.Body ∧ PtC M p1 (c_api_Leaf x3 v1)), (15, fun (M : Mem) (v : Value) => ∃ (v2 : Value), ∃ (p2 : Value), v = p2 ∧ SlR M v2 x3.Body ∧ PtC M p2 (c_api_Leaf x3 v2)), (16, fun (M : Mem) (v : Value) => ∃ (v4 : Value), v = v4 ∧ SlR M v4 x3.Body), (17, fv (vS (bs x3.Body))), (18, fv a1v0), (19, fv (vS (bs a1)))] := ⟨mv, mv, (fun _ _ _ l ⟨v1, p1, e, h2, h1⟩ => ⟨v1, p1, e, h2.up l, h1.up l⟩), (fun _ _ _ l ⟨v2, p2, e, h3, h5⟩ => ⟨v2, p2, e, h3.up l, h5.up l⟩), (fun _ _ _ l ⟨v4, e, h6⟩ => ⟨v4, e, h6.up l⟩), mv, mv, mv, trivial⟩
      refine wpc_flowG HM 8 mixed rfl rfl rfl (rg 12 8) (fun L f M w => St M (As) w) (St.drew S1 _) ?_ ?_
      · refine ⟨?_, ?_, ?_, ?_, ?_, ?_, ?_, ?_, trivial⟩
        · exact flp HM rfl [] (fun _ _ => trivial) (fun _ _ q => s_mvv (v := a0v0) rfl q) rfl
        · exact flp HM rfl [] (fun _ _ => trivial) (fun _ _ q => s_mvv (v := vI s1) rfl q) rfl
        · intro L f4 w4 hL hd hc ⟨m4, L8, S4, K, hO⟩
          obtain ⟨u4, rfl⟩ := fr_of (N := 22) (L := [(12, _), (13, _)]) hO ⟨K 0 (dep hd rfl), K 1 (dep hd rfl), trivial⟩
          replace a0h0 := a0h0.up (mt L3 L8)
          refine s_idx (q := x3) rfl rfl a0h0 q6 underlying23 sizeOf77 fun p1 c1 h1 r1 => ?_
          obtain ⟨v1, rfl, h2⟩ := rep_g_api_Leaf r1
          exact oS HM L8 S4 rfl K rfl rfl ⟨v1, p1, rfl, h2, h1⟩ outP
        · intro L f5 w5 hL hd hc ⟨m5, L10, S5, K, hO⟩
          obtain ⟨v2, v3, e3, h3, h4⟩ := K 2 (dep hd rfl)
          obtain ⟨u5, rfl⟩ := fr_of (N := 22) (L := [(14, _)]) hO ⟨e3, trivial⟩
          refine s_fldM (n := 0) rfl h4 underlying77 rfl rfl sizeOf27 fun p2 h5 => ?_
          replace h5 : PtC _ _ (c_api_Leaf x3 v2) := h5
          exact oS HM L10 S5 rfl K rfl rfl ⟨v2, p2, rfl, h3, h5⟩ outP
        · intro L f6 w6 hL hd hc ⟨m6, L12, S6, K, hO⟩
          obtain ⟨v4, v5, e4, h6, h7⟩ := K 3 (dep hd rfl)
          obtain ⟨u6, rfl⟩ := fr_of (N := 22) (L := [(15, _)]) hO ⟨e4, trivial⟩
          exact s_ldM (cs := [v4]) S6 rfl h7 rfl isAgg27 sizeOf27 (fun _ => rfl) <| oS HM L12 S6 rfl K rfl rfl ⟨v4, rfl, h6⟩ outP
        · intro L f7 w7 hL hd hc ⟨m7, L14, S7, K, hO⟩
          obtain ⟨v6, e5, h8⟩ := K 4 (dep hd rfl)
          obtain ⟨u7, rfl⟩ := fr_of (N := 22) (L := [(16, _)]) hO ⟨e5, trivial⟩
          exact s_bytesS (xs := x3.Body) (t2' := 5) S7 rfl h8 underlying27 underlying5 underlying9 <| oS HM L14 S7 rfl K rfl rfl rfl outP
        · exact flp HM rfl [] (fun _ _ => trivial) (fun _ _ q => s_mvv (v := a1v0) rfl q) rfl
        · intro L f9 w9 hL hd hc ⟨m9, L18, S9, K, hO⟩
          obtain ⟨u9, rfl⟩ := fr_of (N := 22) (L := [(18, _)]) hO ⟨K 6 (dep hd rfl), trivial⟩
          replace a1h0 := a1h0.up (mt L3 L18)
          exact s_bytesS (xs := a1) (t2' := 5) S9 rfl a1h0 underlying27 underlying5 underlying9 <| oS HM L18 S9 rfl K rfl rfl rfl outP
      intro L f10 w10 hall ⟨m10, L20, S10, K, hO⟩
      have d5 : L 5 = true := hall 5 (by decide)
      have d7 : L 7 = true := hall 7 (by decide)
      obtain ⟨u10, rfl⟩ := fr_of (N := 22) (L := [(17, _), (19, _)]) hO ⟨K 5 d5, K 7 d7, trivial⟩
      replace S10 : St _ (As) _ := S10
      clear S1
      refine s_eqlT (p := (bs x3.Body)) (q := (bs a1)) rfl rfl <| wpl_nil <| nrm <| wpc_if (t := (eqS (bs x3.Body) (bs a1))) rfl (fun hc2 => ?_) (fun hc2 => ?_)
      · replace q4 := ifT hc2 q4
        refine ws <| s_mvv (v := vI s1) rfl <| s_asv (v := vI s1) rfl <| wpl_nil <| nrm <| wpc_ret <| blR <| thR <| thR <| blR <| thR <| outRw fun we hpd => ?_
        replace S10 := St.pd S10 hpd
        cases q4
        rcases q3 with ⟨sn, e, _⟩ | e
        · cases e
        cases e
        dsimp only at hm
        have e0 := Option.some.inj hm
        subst e0
        replace L2 := Mem.tr L2 L20
        exact outR [_] rfl ⟨rfl, trivial⟩ ⟨_, (Mem.tr L0 (Mem.tr L3 L2)), S10, rfl⟩
      replace q4 := ifF hc2 q4
      refine wpc_skip <| nrmB <| nrm <| wpc_region <| s_mvv (v := vI s1) rfl <| s_addI (m := s1) (n := 1) rfl rfl <| s_asv (v := vI (w64 (s1 + 1))) rfl <| wpl_nil <| nrm ?_
      have e0 := Option.some.inj q4
      subst e0
      rcases q3 with ⟨sn, e, q3'⟩ | e
      · cases e
        replace L2 := Mem.tr L2 L20
        exact ⟨outP, _, Nat.lt_succ_self _, ⟨_, m10, q3', Mem.tr L3 L2, S10, ⟨rfl, trivial⟩⟩⟩
      · cases e
    replace q4 := ifF hc1 q4
    refine wpc_exit <| thE <| thE <| exB <| nrm ?_
    have e0 := Option.some.inj q4
    subst e0
    rcases q3 with ⟨sn, e, _⟩ | e
    · cases e
    · cases e
      exact ⟨outP, m1, _, rfl, Mem.tr L3 L2, S1, trivial⟩
 rintro f11 w11 ho ⟨m12, y1, rfl, l1, S11, ha⟩
 obtain ⟨u11, rfl⟩ := fr_of (N := 22) ho ha
 clear ho ha
 dsimp only at hm
 clear S
 refine ws <| s_asv (v := vI (-1)) rfl <| wpl_nil <| nrm <| wpc_ret <| outRw fun we hpd => ?_
 replace S11 := St.pd S11 hpd
 have e0 := Option.some.inj hm
 subst e0
 replace L0 := Mem.tr L0 l1
 exact outR [_] rfl ⟨rfl, trivial⟩ ⟨_, L0, S11, rfl⟩

def m_ref24_Check_b2 (x2 : List g_api_Leaf) (s1 : Int) : Option ((Int) ⊕ ((Unit) ⊕ Int)) :=
  if (decide (s1 < (x2.length : Int))) = true then
    obind (idx x2 s1) fun x5 =>
    obind (m_ref24_isBody x5.Body) fun x6 =>
    obind (
      if (!x6) = true then
        some true
      else
      obind (idx x2 s1) fun x10 =>
      obind (m_ref24_num x10.At) fun x11 =>
      some (!x11)
    ) fun x9 =>
    obind (
      if x9 = true then
        some true
      else
      obind (idx x2 s1) fun x15 =>
      obind (m_ref24_find x2 x15.Body) fun x16 =>
      some (x16 != s1)
    ) fun x14 =>
    if x14 = true then
      some (.inr (.inr 1))
    else
    some (.inl (w64 (s1 + 1)))
  else
  some (.inr (.inl ()))

def m_ref24_Check_b3 (a0 : g_api_Log) (s2 : Int) : Option ((Int) ⊕ ((Unit) ⊕ Int)) :=
  if (decide (s2 < (a0.Hide.length : Int))) = true then
    obind (idx a0.Hide s2) fun x19 =>
    obind (gu (!(decide (x19 < 0))) (idx a0.Hide s2)) fun x20 =>
    obind (gu ((!((decide (x19 < 0)) || (decide (x20 ≥ (a0.L.length : Int))))) && (decide (s2 > 0))) (idx a0.Hide (w64 (s2 - 1)))) fun x21 =>
    obind (gu ((!((decide (x19 < 0)) || (decide (x20 ≥ (a0.L.length : Int))))) && (decide (s2 > 0))) (idx a0.Hide s2)) fun x22 =>
    if (((decide (x19 < 0)) || (decide (x20 ≥ (a0.L.length : Int)))) || ((decide (s2 > 0)) && (decide (x21 ≥ x22)))) = true then
      some (.inr (.inr 1))
    else
    some (.inl (w64 (s2 + 1)))
  else
  some (.inr (.inl ()))

def m_ref24_Check (a0 : g_api_Log) : Option Int :=
  obind (m_ref24_num a0.Id) fun x1 =>
  if (((((!x1) || (decide ((a0.Key.toNat : Int) < 1))) || (decide ((a0.Key.toNat : Int) ≥ 1152921504606845789))) || (decide (a0.Delay < 0))) || (decide (a0.Delay > 1000))) = true then
    some 1
  else
  obind (m_ref24_All a0) fun x2 =>
  obind (iter (m_ref24_Check_b2 x2) FUEL 0) fun x3 => match x3 with
  | .inr r => some r
  | .inl y1 =>
  obind (iter (m_ref24_Check_b3 a0) FUEL 0) fun x17 => match x17 with
  | .inr r => some r
  | .inl y3 =>
  if (decide ((x2.length : Int) > 256)) = true then
    some 2
  else
  some 0

theorem w_ref24_Check {m : Mem} {As : List Ow} {w : World} {a0 : g_api_Log} {a0v3 : Value} {a0v4 : Value} {a0v5 : Value} {r : Int} (S : St m (As) w) (a0h3 : SlR m a0v3 a0.L) (a0h4 : SlR m a0v4 a0.Hide) (a0h5 : SlR m a0v5 a0.Wait) (hm : m_ref24_Check a0 = some r) :
    CallsR Tryz.prog 14 #[.agg (c_api_Log a0 a0v3 a0v4 a0v5).toArray] w fun v w' => ∃ (M : Mem), m ≤ M ∧ St M (As) w' ∧ v = vI r := by
 unfold m_ref24_Check at hm
 have L0 := Mem.rfl' m
 refine callsR (args := [.agg (c_api_Log a0 a0v3 a0v4 a0v5).toArray]) func14 rfl ntmps14 (nb rfl) <| ws <| s_box S rfl fun b1 w1 S1 => ?_
 replace S1 : St _ ((bx b1 (c_api_Log a0 a0v3 a0v4 a0v5) 26) :: As) _ := S1
 clear S
 refine s_asv (v := vI 0) rfl <| wpl_nil <| nrm <| wpc_seq <| ws <| s_fld (n := 0) rfl underlying26 rfl rfl sizeOf3 <| s_ld (i := 0) (cs := [vI a0.Id]) S1 rfl rfl isAgg3 sizeOf3 rfl (fun _ => rfl) ?_
 obtain ⟨x1, q1, hm⟩ := obind_some hm
 refine s_call call45 (w_ref24_num (a0 := a0.Id) S1  q1) rfl ?_
 rintro _ w2 ⟨m1, l1, S2, rfl⟩
 clear S1
 refine s_not rfl <| s_mvv (v := vb (!x1)) rfl <| wpl_cut 4 [11, 12, 13, 14] (fun f' w' => w' = w2 ∧ AllAt f' [(14, vb ((!x1) || (decide ((a0.Key.toNat : Int) < 1))))]) ?_ ?_
 · rcases bool_tf (!x1) with hb1 | hb1
   · exact wpl_no (d := 10) rfl rfl (cb hb1) <| wpl_no (d := 10) rfl rfl (cb hb1) <| wpl_no (d := 10) rfl rfl (cb hb1) <| s_pickT (cb hb1) rfl <| wpl_nil (nrm ⟨outP, rfl, congrArg Value.bool (or_t hb1), trivial⟩)
   · exact wpl_yes (d := 10) rfl rfl (cb hb1) <| s_fld (n := 0) rfl underlying26 rfl rfl sizeOf22 <| wpl_yes (d := 10) rfl rfl (cb hb1) <| s_ld (i := 0) (cs := [vU a0.Key]) S2 rfl rfl isAgg22 sizeOf22 rfl (fun _ => rfl) <| wpl_yes (d := 10) rfl rfl (cb hb1) <| s_lss (m := (a0.Key.toNat : Int)) (n := 1) rfl rfl <| s_pickF (cb hb1) rfl <| wpl_nil (nrm ⟨outP, rfl, congrArg Value.bool (or_f hb1), trivial⟩)
 rintro f1 w3 ho ⟨h1, ha⟩
 subst h1
 obtain ⟨u1, rfl⟩ := fr_of (N := 110) ho ha
 refine s_mvv (v := vb ((!x1) || (decide ((a0.Key.toNat : Int) < 1)))) rfl <| wpl_cut 4 [16, 17, 18, 19] (fun f' w' => w' = w3 ∧ AllAt f' [(19, vb (((!x1) || (decide ((a0.Key.toNat : Int) < 1))) || (decide ((a0.Key.toNat : Int) ≥ 1152921504606845789))))]) ?_ ?_
 · rcases bool_tf ((!x1) || (decide ((a0.Key.toNat : Int) < 1))) with hb2 | hb2
   · exact wpl_no (d := 15) rfl rfl (cb hb2) <| wpl_no (d := 15) rfl rfl (cb hb2) <| wpl_no (d := 15) rfl rfl (cb hb2) <| s_pickT (cb hb2) rfl <| wpl_nil (nrm ⟨outP, rfl, congrArg Value.bool (or_t hb2), trivial⟩)
   · exact wpl_yes (d := 15) rfl rfl (cb hb2) <| s_fld (n := 0) rfl underlying26 rfl rfl sizeOf22 <| wpl_yes (d := 15) rfl rfl (cb hb2) <| s_ld (i := 0) (cs := [vU a0.Key]) S2 rfl rfl isAgg22 sizeOf22 rfl (fun _ => rfl) <| wpl_yes (d := 15) rfl rfl (cb hb2) <| s_geq (m := (a0.Key.toNat : Int)) (n := 1152921504606845789) rfl rfl <| s_pickF (cb hb2) rfl <| wpl_nil (nrm ⟨outP, rfl, congrArg Value.bool (or_f hb2), trivial⟩)
 rintro f2 w4 ho ⟨h2, ha⟩
 subst h2
 obtain ⟨u2, rfl⟩ := fr_of (N := 110) ho ha
 refine s_mvv (v := vb (((!x1) || (decide ((a0.Key.toNat : Int) < 1))) || (decide ((a0.Key.toNat : Int) ≥ 1152921504606845789)))) rfl <| wpl_cut 4 [21, 22, 23, 24] (fun f' w' => w' = w4 ∧ AllAt f' [(24, vb ((((!x1) || (decide ((a0.Key.toNat : Int) < 1))) || (decide ((a0.Key.toNat : Int) ≥ 1152921504606845789))) || (decide (a0.Delay < 0))))]) ?_ ?_
 · rcases bool_tf (((!x1) || (decide ((a0.Key.toNat : Int) < 1))) || (decide ((a0.Key.toNat : Int) ≥ 1152921504606845789))) with hb3 | hb3
   · exact wpl_no (d := 20) rfl rfl (cb hb3) <| wpl_no (d := 20) rfl rfl (cb hb3) <| wpl_no (d := 20) rfl rfl (cb hb3) <| s_pickT (cb hb3) rfl <| wpl_nil (nrm ⟨outP, rfl, congrArg Value.bool (or_t hb3), trivial⟩)
   · exact wpl_yes (d := 20) rfl rfl (cb hb3) <| s_fld (n := 0) rfl underlying26 rfl rfl sizeOf3 <| wpl_yes (d := 20) rfl rfl (cb hb3) <| s_ld (i := 0) (cs := [vI a0.Delay]) S2 rfl rfl isAgg3 sizeOf3 rfl (fun _ => rfl) <| wpl_yes (d := 20) rfl rfl (cb hb3) <| s_lss (m := a0.Delay) (n := 0) rfl rfl <| s_pickF (cb hb3) rfl <| wpl_nil (nrm ⟨outP, rfl, congrArg Value.bool (or_f hb3), trivial⟩)
 rintro f3 w5 ho ⟨h3, ha⟩
 subst h3
 obtain ⟨u3, rfl⟩ := fr_of (N := 110) ho ha
 refine s_mvv (v := vb ((((!x1) || (decide ((a0.Key.toNat : Int) < 1))) || (decide ((a0.Key.toNat : Int) ≥ 1152921504606845789))) || (decide (a0.Delay < 0)))) rfl <| wpl_cut 4 [26, 27, 28, 29] (fun f' w' => w' = w5 ∧ AllAt f' [(29, vb (((((!x1) || (decide ((a0.Key.toNat : Int) < 1))) || (decide ((a0.Key.toNat : Int) ≥ 1152921504606845789))) || (decide (a0.Delay < 0))) || (decide (a0.Delay > 1000))))]) ?_ ?_
 · rcases bool_tf ((((!x1) || (decide ((a0.Key.toNat : Int) < 1))) || (decide ((a0.Key.toNat : Int) ≥ 1152921504606845789))) || (decide (a0.Delay < 0))) with hb4 | hb4
   · exact wpl_no (d := 25) rfl rfl (cb hb4) <| wpl_no (d := 25) rfl rfl (cb hb4) <| wpl_no (d := 25) rfl rfl (cb hb4) <| s_pickT (cb hb4) rfl <| wpl_nil (nrm ⟨outP, rfl, congrArg Value.bool (or_t hb4), trivial⟩)
   · exact wpl_yes (d := 25) rfl rfl (cb hb4) <| s_fld (n := 0) rfl underlying26 rfl rfl sizeOf3 <| wpl_yes (d := 25) rfl rfl (cb hb4) <| s_ld (i := 0) (cs := [vI a0.Delay]) S2 rfl rfl isAgg3 sizeOf3 rfl (fun _ => rfl) <| wpl_yes (d := 25) rfl rfl (cb hb4) <| s_gtr (m := a0.Delay) (n := 1000) rfl rfl <| s_pickF (cb hb4) rfl <| wpl_nil (nrm ⟨outP, rfl, congrArg Value.bool (or_f hb4), trivial⟩)
 rintro f4 w6 ho ⟨h4, ha⟩
 subst h4
 obtain ⟨u4, rfl⟩ := fr_of (N := 110) ho ha
 refine wpl_nil <| nrm <| wpc_if (t := (((((!x1) || (decide ((a0.Key.toNat : Int) < 1))) || (decide ((a0.Key.toNat : Int) ≥ 1152921504606845789))) || (decide (a0.Delay < 0))) || (decide (a0.Delay > 1000)))) rfl (fun hc1 => ?_) (fun hc1 => ?_)
 · replace hm := ifT hc1 hm
   refine ws <| s_asv (v := vI 1) rfl <| wpl_nil <| nrm <| wpc_ret <| thR <| outRw fun we hpd => ?_
   replace S2 := St.pd S2 hpd
   obtain ⟨m2, l2, S3⟩ := St.drop S2 0
   clear S2
   replace S3 : St _ (As) _ := S3
   have e0 := Option.some.inj hm
   subst e0
   replace L0 := Mem.tr L0 (mt l1 l2)
   exact outR [_] rfl ⟨rfl, trivial⟩ ⟨_, L0, S3, rfl⟩
 replace hm := ifF hc1 hm
 refine wpc_skip <| nrm <| ws <| s_ld (i := 0) (cs := (c_api_Log a0 a0v3 a0v4 a0v5)) S2 rfl rfl isAgg26 sizeOf26 rfl (fun h => by cases h) ?_
 obtain ⟨x2, q2, hm⟩ := obind_some hm
 refine s_call call46 (w_ref24_All (a0 := a0) S2 (a0h3.up l1) (a0h4.up l1) (a0h5.up l1) q2) rfl ?_
 rintro v1 w7 ⟨m3, l3, _, c1, S4, rfl, h5⟩
 clear S2
 refine s_asv (v := v1) rfl <| wpl_nil <| nrm <| wpc_seq <| ws <| s_asv (v := vI 0) rfl <| wpl_nil <| nrm ?_
 obtain ⟨m4, l4, h6, S5⟩ := St.rowKeepT (i := 0) S4 rfl h5 rfl
 clear S4
 obtain ⟨x3, q3, hm⟩ := obind_some hm
 have L1 := Mem.rfl' m4
 refine wpc_join [2, 4, 32, 33, 34, 35, 36, 37, 38, 39, 40, 41, 42, 43, 44, 45, 46, 47, 48, 49, 50, 51, 52, 53, 54, 55, 56, 57, 58, 59, 60, 61, 62, 63, 64] (fun f' w' => ∃ (M1 : Mem) (y1 : Unit), x3 = .inl y1 ∧ m4 ≤ M1 ∧ St M1 ((bx b1 (c_api_Log a0 a0v3 a0v4 a0v5) 26) :: As) w' ∧ AllAt f' []) ?_ ?_
 · refine wpc_block <| wpc_rounds [2, 4, 32, 33, 34, 35, 36, 37, 38, 39, 40, 41, 42, 43, 44, 45, 46, 47, 48, 49, 50, 51, 52, 53, 54, 55, 56, 57, 58, 59, 60, 61, 62, 63, 64] (fun n1 f' w' => ∃ (s1 : Int) (m14 : Mem), iter (m_ref24_Check_b2 x2) n1 s1 = some x3 ∧ m4 ≤ m14 ∧ St m14 ((bx b1 (c_api_Log a0 a0v3 a0v4 a0v5) 26) :: As) w' ∧ AllAt f' [(4, vI s1)]) FUEL ⟨0, m4, q3, L1, S5, ⟨rfl, trivial⟩⟩ ?_
   rintro n1 f5 w8 ho ⟨s1, m5, q4, L3, S6, ha⟩
   obtain ⟨u5, rfl⟩ := fr_of (N := 110) ho ha
   clear ho ha
   have L2 := Mem.rfl' m5
   clear S5
   cases n1 with
   | zero => exact (iter_zero q4).elim
   | succ n1 =>
    obtain ⟨y2, q6, q5⟩ := iter_succ q4
    unfold m_ref24_Check_b2 at q6
    refine wpc_seq <| ws <| s_mvv (v := vI s1) rfl <| s_mvv (v := v1) rfl <| s_lenR (xs := x2) rfl (h6.up L3) underlying23 <| s_lss (m := s1) (n := (x2.length : Int)) rfl rfl <| wpl_nil <| nrm <| wpc_if (t := (decide (s1 < (x2.length : Int)))) rfl (fun hc2 => ?_) (fun hc2 => ?_)
    · replace q6 := ifT hc2 q6
      refine wpc_skip <| nrm <| wpc_seq <| wpc_block <| ws <| s_mvv (v := v1) rfl <| s_mvv (v := vI s1) rfl ?_
      obtain ⟨x5, q8, q6⟩ := obind_some q6
      refine s_idx (q := x5) rfl rfl (h6.up L3) q8 underlying23 sizeOf77 fun p1 c2 h7 r2 => ?_
      obtain ⟨v2, rfl, h8⟩ := rep_g_api_Leaf r2
      refine s_fldM (n := 0) rfl h7 underlying77 rfl rfl sizeOf27 fun p2 h9 => ?_
      replace h9 : PtC _ _ (c_api_Leaf x5 v2) := h9
      refine s_ldM (cs := [v2]) S6 rfl h9 rfl isAgg27 sizeOf27 (fun _ => rfl) ?_
      obtain ⟨x6, q9, q6⟩ := obind_some q6
      refine s_call call47 (w_ref24_isBody (a0 := x5.Body) S6 h8 q9) rfl ?_
      rintro _ w9 ⟨m6, l5, S7, rfl⟩
      clear S6
      refine s_not rfl <| s_mvv (v := vb (!x6)) rfl ?_
      obtain ⟨x9, q12, q6⟩ := obind_some q6
      have L4 := Mem.rfl' m6
      refine wpl_cut 8 [46, 47, 48, 49, 50, 51, 52, 53] (fun f' w' => ∃ (M2 : Mem), m6 ≤ M2 ∧ St M2 ((bx b1 (c_api_Log a0 a0v3 a0v4 a0v5) 26) :: As) w' ∧ AllAt f' [(53, vb x9)]) ?_ ?_
      · rcases bool_tf (!x6) with hb5 | hb5
        · replace q12 := ifT hb5 q12
          refine wpl_no (d := 45) rfl rfl (cb hb5) <| wpl_no (d := 45) rfl rfl (cb hb5) <| wpl_no (d := 45) rfl rfl (cb hb5) <| wpl_no (d := 45) rfl rfl (cb hb5) <| wpl_no (d := 45) rfl rfl (cb hb5) <| wpl_no (d := 45) rfl rfl (cb hb5) <| wpl_no (d := 45) rfl rfl (cb hb5) <| s_pickT (cb hb5) rfl <| wpl_nil (nrm ?_)
          have e0 := Option.some.inj q12
          subst e0
          exact ⟨outP, m6, L4, S7, ⟨rfl, trivial⟩⟩
        replace q12 := ifF hb5 q12
        refine wpl_yes (d := 45) rfl rfl (cb hb5) <| s_mvv (v := v1) rfl <| wpl_yes (d := 45) rfl rfl (cb hb5) <| s_mvv (v := vI s1) rfl <| wpl_yes (d := 45) rfl rfl (cb hb5) ?_
        obtain ⟨x10, q13, q12⟩ := obind_some q12
        replace h6 := h6.up (mt L3 l5)
        refine s_idx (q := x10) rfl rfl h6 q13 underlying23 sizeOf77 fun p5 c4 h13 r4 => ?_
        obtain ⟨v4, rfl, h14⟩ := rep_g_api_Leaf r4
        refine wpl_yes (d := 45) rfl rfl (cb hb5) <| s_fldM (n := 0) rfl h13 underlying77 rfl rfl sizeOf3 fun p6 h15 => ?_
        replace h15 : PtC _ _ [vI x10.At] := h15
        refine wpl_yes (d := 45) rfl rfl (cb hb5) <| s_ldM (cs := [vI x10.At]) S7 rfl h15 rfl isAgg3 sizeOf3 (fun _ => rfl) <| wpl_yes (d := 45) rfl rfl (cb hb5) ?_
        obtain ⟨x11, q14, q12⟩ := obind_some q12
        refine s_call call45 (w_ref24_num (a0 := x10.At) S7  q14) rfl ?_
        rintro _ w11 ⟨m8, l7, S9, rfl⟩
        clear S7
        refine wpl_yes (d := 45) rfl rfl (cb hb5) <| s_not rfl <| s_pickF (cb hb5) rfl <| wpl_nil (nrm ?_)
        have e0 := Option.some.inj q12
        subst e0
        replace L4 := Mem.tr L4 l7
        exact ⟨outP, m8, L4, S9, ⟨rfl, trivial⟩⟩
      rintro f6 w12 ho ⟨m9, l8, S10, ha⟩
      obtain ⟨u6, rfl⟩ := fr_of (N := 110) ho ha
      clear S7
      refine s_mvv (v := vb x9) rfl ?_
      obtain ⟨x14, q17, q6⟩ := obind_some q6
      have L5 := Mem.rfl' m9
      refine wpl_cut 10 [55, 56, 57, 58, 59, 60, 61, 62, 63, 64] (fun f' w' => ∃ (M3 : Mem), m9 ≤ M3 ∧ St M3 ((bx b1 (c_api_Log a0 a0v3 a0v4 a0v5) 26) :: As) w' ∧ AllAt f' [(64, vb x14)]) ?_ ?_
      · rcases bool_tf x9 with hb6 | hb6
        · replace q17 := ifT hb6 q17
          refine wpl_no (d := 54) rfl rfl (cb hb6) <| wpl_no (d := 54) rfl rfl (cb hb6) <| wpl_no (d := 54) rfl rfl (cb hb6) <| wpl_no (d := 54) rfl rfl (cb hb6) <| wpl_no (d := 54) rfl rfl (cb hb6) <| wpl_no (d := 54) rfl rfl (cb hb6) <| wpl_no (d := 54) rfl rfl (cb hb6) <| wpl_no (d := 54) rfl rfl (cb hb6) <| wpl_no (d := 54) rfl rfl (cb hb6) <| s_pickT (cb hb6) rfl <| wpl_nil (nrm ?_)
          have e0 := Option.some.inj q17
          subst e0
          exact ⟨outP, m9, L5, S10, ⟨rfl, trivial⟩⟩
        replace q17 := ifF hb6 q17
        refine wpl_yes (d := 54) rfl rfl (cb hb6) <| s_mvv (v := v1) rfl <| wpl_yes (d := 54) rfl rfl (cb hb6) <| s_mvv (v := v1) rfl <| wpl_yes (d := 54) rfl rfl (cb hb6) <| s_mvv (v := vI s1) rfl <| wpl_yes (d := 54) rfl rfl (cb hb6) ?_
        obtain ⟨x15, q18, q17⟩ := obind_some q17
        replace h6 := h6.up (mt L3 (mt l5 l8))
        refine s_idx (q := x15) rfl rfl h6 q18 underlying23 sizeOf77 fun p9 c6 h19 r6 => ?_
        obtain ⟨v6, rfl, h20⟩ := rep_g_api_Leaf r6
        refine wpl_yes (d := 54) rfl rfl (cb hb6) <| s_fldM (n := 0) rfl h19 underlying77 rfl rfl sizeOf27 fun p10 h21 => ?_
        replace h21 : PtC _ _ (c_api_Leaf x15 v6) := h21
        refine wpl_yes (d := 54) rfl rfl (cb hb6) <| s_ldM (cs := [v6]) S10 rfl h21 rfl isAgg27 sizeOf27 (fun _ => rfl) <| wpl_yes (d := 54) rfl rfl (cb hb6) ?_
        obtain ⟨x16, q19, q17⟩ := obind_some q17
        refine s_call call48 (w_ref24_find (a0 := x2) (a1 := x15.Body) S10 h6 h20 q19) rfl ?_
        rintro _ w14 ⟨m11, l10, S12, rfl⟩
        clear S10
        refine wpl_yes (d := 54) rfl rfl (cb hb6) <| s_mvv (v := vI s1) rfl <| wpl_yes (d := 54) rfl rfl (cb hb6) <| s_neq (m := x16) (n := s1) rfl rfl <| s_pickF (cb hb6) rfl <| wpl_nil (nrm ?_)
        have e0 := Option.some.inj q17
        subst e0
        replace L5 := Mem.tr L5 l10
        exact ⟨outP, m11, L5, S12, ⟨rfl, trivial⟩⟩
      rintro f7 w15 ho ⟨m12, l11, S13, ha⟩
      obtain ⟨u7, rfl⟩ := fr_of (N := 110) ho ha
      clear S10
      refine wpl_nil <| nrm <| wpc_if (t := x14) rfl (fun hc3 => ?_) (fun hc3 => ?_)
      · replace q6 := ifT hc3 q6
        refine ws <| s_asv (v := vI 1) rfl <| wpl_nil <| nrm <| wpc_ret <| blR <| thR <| thR <| blR <| thR <| outRw fun we hpd => ?_
        replace S13 := St.pd S13 hpd
        obtain ⟨m13, l12, S14⟩ := St.drop S13 0
        clear S13
        replace S14 : St _ (As) _ := S14
        cases q6
        rcases q5 with ⟨sn, e, _⟩ | e
        · cases e
        cases e
        dsimp only at hm
        have e0 := Option.some.inj hm
        subst e0
        replace L0 := Mem.tr L0 (mt l1 (mt l3 l4))
        replace L2 := Mem.tr L2 (mt l5 (mt l8 (mt l11 l12)))
        exact outR [_] rfl ⟨rfl, trivial⟩ ⟨_, (Mem.tr L0 (Mem.tr L3 L2)), S14, rfl⟩
      replace q6 := ifF hc3 q6
      refine wpc_skip <| nrmB <| nrm <| wpc_region <| s_mvv (v := vI s1) rfl <| s_addI (m := s1) (n := 1) rfl rfl <| s_asv (v := vI (w64 (s1 + 1))) rfl <| wpl_nil <| nrm ?_
      have e0 := Option.some.inj q6
      subst e0
      rcases q5 with ⟨sn, e, q5'⟩ | e
      · cases e
        replace L2 := Mem.tr L2 (mt l5 (mt l8 l11))
        exact ⟨outP, _, Nat.lt_succ_self _, ⟨_, m12, q5', Mem.tr L3 L2, S13, ⟨rfl, trivial⟩⟩⟩
      · cases e
    replace q6 := ifF hc2 q6
    refine wpc_exit <| thE <| thE <| exB <| nrm ?_
    have e0 := Option.some.inj q6
    subst e0
    rcases q5 with ⟨sn, e, _⟩ | e
    · cases e
    · cases e
      exact ⟨outP, m5, _, rfl, Mem.tr L3 L2, S6, trivial⟩
 rintro f8 w16 ho ⟨m15, y1, rfl, l13, S15, ha⟩
 obtain ⟨u8, rfl⟩ := fr_of (N := 110) ho ha
 clear ho ha
 dsimp only at hm
 clear S5
 refine wpc_seq <| ws <| s_asv (v := vI 0) rfl <| wpl_nil <| nrm ?_
 obtain ⟨x17, q20, hm⟩ := obind_some hm
 have L6 := Mem.rfl' m15
 refine wpc_join [2, 5, 65, 66, 67, 68, 69, 70, 71, 72, 73, 74, 75, 76, 77, 78, 79, 80, 81, 82, 83, 84, 85, 86, 87, 88, 89, 90, 91, 92, 93, 94, 95, 96, 97, 98, 99, 100, 101, 102, 103, 104, 105, 106] (fun f' w' => ∃ (M4 : Mem) (y3 : Unit), x17 = .inl y3 ∧ m15 ≤ M4 ∧ St M4 ((bx b1 (c_api_Log a0 a0v3 a0v4 a0v5) 26) :: As) w' ∧ AllAt f' []) ?_ ?_
 · refine wpc_block <| wpc_rounds [2, 5, 65, 66, 67, 68, 69, 70, 71, 72, 73, 74, 75, 76, 77, 78, 79, 80, 81, 82, 83, 84, 85, 86, 87, 88, 89, 90, 91, 92, 93, 94, 95, 96, 97, 98, 99, 100, 101, 102, 103, 104, 105, 106] (fun n2 f' w' => ∃ (s2 : Int) (m54 : Mem), iter (m_ref24_Check_b3 a0) n2 s2 = some x17 ∧ m15 ≤ m54 ∧ St m54 ((bx b1 (c_api_Log a0 a0v3 a0v4 a0v5) 26) :: As) w' ∧ AllAt f' [(5, vI s2)]) FUEL ⟨0, m15, q20, L6, S15, ⟨rfl, trivial⟩⟩ ?_
   rintro n2 f9 w17 ho ⟨s2, m16, q21, L8, S16, ha⟩
   obtain ⟨u9, rfl⟩ := fr_of (N := 110) ho ha
   clear ho ha
   have L7 := Mem.rfl' m16
   clear S15
   cases n2 with
   | zero => exact (iter_zero q21).elim
   | succ n2 =>
    obtain ⟨y4, q23, q22⟩ := iter_succ q21
    unfold m_ref24_Check_b3 at q23
    refine wpc_seq <| ws <| s_mvv (v := vI s2) rfl <| s_fld (n := 0) rfl underlying26 rfl rfl sizeOf24 <| s_ld (i := 0) (cs := [a0v4]) S16 rfl rfl isAgg24 sizeOf24 rfl (fun _ => rfl) ?_
    replace a0h4 := a0h4.up (mt l1 (mt l3 (mt l4 (mt l13 L8))))
    refine s_lenR (xs := a0.Hide) rfl a0h4 underlying24 <| s_lss (m := s2) (n := (a0.Hide.length : Int)) rfl rfl <| wpl_nil <| nrm <| wpc_if (t := (decide (s2 < (a0.Hide.length : Int)))) rfl (fun hc4 => ?_) (fun hc4 => ?_)
    · replace q23 := ifT hc4 q23
      refine wpc_skip <| nrm <| wpc_seq <| wpc_block <| wpc_seq ?_
      obtain ⟨x19, q25, q23⟩ := obind_some q23
      obtain ⟨x20, q26, q23⟩ := obind_some q23
      obtain ⟨x21, q27, q23⟩ := obind_some q23
      obtain ⟨x22, q28, q23⟩ := obind_some q23
      have HM : MonoAll [(72, fv (pt b1 4)), (73, fv a0v4), (74, fv (vI s2)), (75, fun (M : Mem) (v : Value) => ∃ (p11 : Value), v = p11 ∧ PtC M p11 [vI x19]), (76, fv (vI x19)), (77, fv (vb (decide (x19 < 0)))), (78, fv (vb (decide (x19 < 0)))), (79, fc (!(decide (x19 < 0))) (fv (pt b1 4))), (80, fc (!(decide (x19 < 0))) (fv a0v4)), (81, fc (!(decide (x19 < 0))) (fv (vI s2))), (82, fc (!(decide (x19 < 0))) (fun (M : Mem) (v : Value) => ∃ (p12 : Value), v = p12 ∧ PtC M p12 [vI x20])), (83, fc (!(decide (x19 < 0))) (fv (vI x20))), (84, fc (!(decide (x19 < 0))) (fv (pt b1 3))), (85, fc (!(decide (x19 < 0))) (fv a0v3)), (86, fc (!(decide (x19 < 0))) (fv (vI (a0.L.length : Int)))), (87, fc (!(decide (x19 < 0))) (fv (vb (decide (x20 ≥ (a0.L.length : Int)))))), (88, fv (vb ((decide (x19 < 0)) || (decide (x20 ≥ (a0.L.length : Int)))))), (89, fv (vb ((decide (x19 < 0)) || (decide (x20 ≥ (a0.L.length : Int)))))), (90, fc (!((decide (x19 < 0)) || (decide (x20 ≥ (a0.L.length : Int))))) (fv (vI s2))), (91, fc (!((decide (x19 < 0)) || (decide (x20 ≥ (a0.L.length : Int))))) (fv (vb (decide (s2 > 0))))), (92, fc (!((decide (x19 < 0)) || (decide (x20 ≥ (a0.L.length : Int))))) (fv (vb (decide (s2 > 0))))), (93, fc ((!((decide (x19 < 0)) || (decide (x20 ≥ (a0.L.length : Int))))) && (decide (s2 > 0))) (fv (pt b1 4))), (94, fc ((!((decide (x19 < 0)) || (decide (x20 ≥ (a0.L.length : Int))))) && (decide (s2 > 0))) (fv a0v4)), (95, fc ((!((decide (x19 < 0)) || (decide (x20 ≥ (a0.L.length : Int))))) && (decide (s2 > 0))) (fv (vI s2))), (96, fc ((!((decide (x19 < 0)) || (decide (x20 ≥ (a0.L.length : Int))))) && (decide (s2 > 0))) (fv (vI (w64 (s2 - 1))))), (97, fc ((!((decide (x19 < 0)) || (decide (x20 ≥ (a0.L.length : Int))))) && (decide (s2 > 0))) (fun (M : Mem) (v : Value) => ∃ (p13 : Value), v = p13 ∧ PtC M p13 [vI x21])), (98, fc ((!((decide (x19 < 0)) || (decide (x20 ≥ (a0.L.length : Int))))) && (decide (s2 > 0))) (fv (vI x21))), (99, fc ((!((decide (x19 < 0)) || (decide (x20 ≥ (a0.L.length : Int))))) && (decide (s2 > 0))) (fv (pt b1 4))), (100, fc ((!((decide (x19 < 0)) || (decide (x20 ≥ (a0.L.length : Int))))) && (decide (s2 > 0))) (fv a0v4)), (101, fc ((!((decide (x19 < 0)) || (decide (x20 ≥ (a0.L.length : Int))))) && (decide (s2 > 0))) (fv (vI s2))), (102, fc ((!((decide (x19 < 0)) || (decide (x20 ≥ (a0.L.length : Int))))) && (decide (s2 > 0))) (fun (M : Mem) (v : Value) => ∃ (p14 : Value), v = p14 ∧ PtC M p14 [vI x22])), (103, fc ((!((decide (x19 < 0)) || (decide (x20 ≥ (a0.L.length : Int))))) && (decide (s2 > 0))) (fv (vI x22))), (104, fc ((!((decide (x19 < 0)) || (decide (x20 ≥ (a0.L.length : Int))))) && (decide (s2 > 0))) (fv (vb (decide (x21 ≥ x22))))), (105, fc (!((decide (x19 < 0)) || (decide (x20 ≥ (a0.L.length : Int))))) (fv (vb ((decide (s2 > 0)) && (decide (x21 ≥ x22)))))), (106, fv (vb (((decide (x19 < 0)) || (decide (x20 ≥ (a0.L.length : Int)))) || ((decide (s2 > 0)) && (decide (x21 ≥ x22))))))] := ⟨mv, mv, mv, (fun _ _ _ l ⟨p11, e, h22⟩ => ⟨p11, e, h22.up l⟩), mv, mv, mv, (mc mv), (mc mv), (mc mv), (mc (fun _ _ _ l ⟨p12, e, h24⟩ => ⟨p12, e, h24.up l⟩)), (mc mv), (mc mv), (mc mv), (mc mv), (mc mv), mv, mv, (mc mv), (mc mv), (mc mv), (mc mv), (mc mv), (mc mv), (mc mv), (mc (fun _ _ _ l ⟨p13, e, h26⟩ => ⟨p13, e, h26.up l⟩)), (mc mv), (mc mv), (mc mv), (mc mv), (mc (fun _ _ _ l ⟨p14, e, h28⟩ => ⟨p14, e, h28.up l⟩)), (mc mv), (mc mv), (mc mv), mv, trivial⟩
      refine wpc_flowG HM 35 mixed rfl rfl rfl (rg 72 35) (fun L f M w => St M ((bx b1 (c_api_Log a0 a0v3 a0v4 a0v5) 26) :: As) w) (St.drew S16 _) ?_ ?_
      · refine ⟨?_, ?_, ?_, ?_, ?_, ?_, ?_, ?_, ?_, ?_, ?_, ?_, ?_, ?_, ?_, ?_, ?_, ?_, ?_, ?_, ?_, ?_, ?_, ?_, ?_, ?_, ?_, ?_, ?_, ?_, ?_, ?_, ?_, ?_, ?_, trivial⟩
        · exact flp HM rfl [] (fun _ _ => trivial) (fun _ _ q => s_fld (n := 0) rfl underlying26 rfl rfl sizeOf24 q) rfl
        · exact flp HM rfl [(72, _)] (fun K _ => ⟨K 0 rfl, trivial⟩) (fun _ S18 q => s_ld (i := 0) (cs := [a0v4]) S18 rfl rfl isAgg24 sizeOf24 rfl (fun _ => rfl) q) rfl
        · exact flp HM rfl [] (fun _ _ => trivial) (fun _ _ q => s_mvv (v := vI s2) rfl q) rfl
        · intro L f13 w21 hL hd hc ⟨m20, L15, S20, K, hO⟩
          obtain ⟨u13, rfl⟩ := fr_of (N := 110) (L := [(73, _), (74, _)]) hO ⟨K 1 (dep hd rfl), K 2 (dep hd rfl), trivial⟩
          refine s_idx (q := x19) rfl rfl (a0h4.up L15) q25 underlying24 sizeOf3 fun p11 c7 h22 r7 => ?_
          obtain rfl : c7 = [vI x19] := r7
          exact oS HM L15 S20 rfl K rfl rfl ⟨p11, rfl, h22⟩ outP
        · intro L f14 w22 hL hd hc ⟨m21, L17, S21, K, hO⟩
          obtain ⟨v7, e4, h23⟩ := K 3 (dep hd rfl)
          obtain ⟨u14, rfl⟩ := fr_of (N := 110) (L := [(75, _)]) hO ⟨e4, trivial⟩
          exact s_ldM (cs := [vI x19]) S21 rfl h23 rfl isAgg3 sizeOf3 (fun _ => rfl) <| oS HM L17 S21 rfl K rfl rfl rfl outP
        · exact flp HM rfl [(76, _)] (fun K _ => ⟨K 4 rfl, trivial⟩) (fun _ _ q => s_lss (m := x19) (n := 0) rfl rfl q) rfl
        · exact flp HM rfl [(77, _)] (fun K _ => ⟨K 5 rfl, trivial⟩) (fun _ _ q => s_mvv (v := vb (decide (x19 < 0))) rfl q) rfl
        · exact flgn HM rfl rfl (fun K _ => K 6 rfl) [] (fun _ _ _ => trivial) (fun _ => fun _ _ q => s_fld (n := 0) rfl underlying26 rfl rfl sizeOf24 q) (fun _ => rfl)
        · exact flgn HM rfl rfl (fun K _ => K 6 rfl) [(79, _)] (fun K _ hb => ⟨(K 7 rfl).1 (not_t hb), trivial⟩) (fun _ => fun _ S25 q => s_ld (i := 0) (cs := [a0v4]) S25 rfl rfl isAgg24 sizeOf24 rfl (fun _ => rfl) q) (fun _ => rfl)
        · exact flgn HM rfl rfl (fun K _ => K 6 rfl) [] (fun _ _ _ => trivial) (fun _ => fun _ _ q => s_mvv (v := vI s2) rfl q) (fun _ => rfl)
        · refine flbn HM rfl rfl (fun K _ => K 6 rfl) fun hb10 => ?_
          intro L f20 w28 hL hd hc ⟨m27, L29, S27, K, hO⟩
          obtain ⟨u20, rfl⟩ := fr_of (N := 110) (L := [(80, _), (81, _)]) hO ⟨(K 8 (dep hd rfl)).1 (not_t hb10), (K 9 (dep hd rfl)).1 (not_t hb10), trivial⟩
          replace S27 : St _ ((bx b1 (c_api_Log a0 a0v3 a0v4 a0v5) 26) :: As) _ := S27
          replace q26 := gu_t (not_t hb10) q26
          refine s_idx (q := x20) rfl rfl (a0h4.up L29) q26 underlying24 sizeOf3 fun p12 c8 h24 r8 => ?_
          obtain rfl : c8 = [vI x20] := r8
          exact oS HM L29 S27 rfl K rfl rfl ⟨fun _ => ⟨p12, rfl, h24⟩, fun hx => tf (not_t hb10) hx⟩ outP
        · refine flbn HM rfl rfl (fun K _ => K 6 rfl) fun hb11 => ?_
          intro L f21 w29 hL hd hc ⟨m28, L31, S28, K, hO⟩
          obtain ⟨v8, e10, h25⟩ := (K 10 (dep hd rfl)).1 (not_t hb11)
          obtain ⟨u21, rfl⟩ := fr_of (N := 110) (L := [(82, _)]) hO ⟨e10, trivial⟩
          replace S28 : St _ ((bx b1 (c_api_Log a0 a0v3 a0v4 a0v5) 26) :: As) _ := S28
          exact s_ldM (cs := [vI x20]) S28 rfl h25 rfl isAgg3 sizeOf3 (fun _ => rfl) <| oS HM L31 S28 rfl K rfl rfl ⟨fun _ => rfl, fun hx => tf (not_t hb11) hx⟩ outP
        · exact flgn HM rfl rfl (fun K _ => K 6 rfl) [] (fun _ _ _ => trivial) (fun _ => fun _ _ q => s_fld (n := 0) rfl underlying26 rfl rfl sizeOf23 q) (fun _ => rfl)
        · exact flgn HM rfl rfl (fun K _ => K 6 rfl) [(84, _)] (fun K _ hb => ⟨(K 12 rfl).1 (not_t hb), trivial⟩) (fun _ => fun _ S30 q => s_ld (i := 0) (cs := [a0v3]) S30 rfl rfl isAgg23 sizeOf23 rfl (fun _ => rfl) q) (fun _ => rfl)
        · refine flbn HM rfl rfl (fun K _ => K 6 rfl) fun hb14 => ?_
          intro L f24 w32 hL hd hc ⟨m31, L37, S31, K, hO⟩
          obtain ⟨u24, rfl⟩ := fr_of (N := 110) (L := [(85, _)]) hO ⟨(K 13 (dep hd rfl)).1 (not_t hb14), trivial⟩
          replace S31 : St _ ((bx b1 (c_api_Log a0 a0v3 a0v4 a0v5) 26) :: As) _ := S31
          replace a0h3 := a0h3.up (mt l1 (mt l3 (mt l4 (mt l13 (mt L8 L37)))))
          exact s_lenR (xs := a0.L) rfl a0h3 underlying23 <| oS HM L37 S31 rfl K rfl rfl ⟨fun _ => rfl, fun hx => tf (not_t hb14) hx⟩ outP
        · exact flgn HM rfl rfl (fun K _ => K 6 rfl) [(83, _), (86, _)] (fun K _ hb => ⟨(K 11 rfl).1 (not_t hb), (K 14 rfl).1 (not_t hb), trivial⟩) (fun _ => fun _ _ q => s_geq (m := x20) (n := (a0.L.length : Int)) rfl rfl q) (fun _ => rfl)
        · exact flc HM rfl (decide (x19 < 0)) [(78, _)] [(78, _), (87, _)] (fun K _ _ => ⟨K 6 rfl, trivial⟩) (fun K _ hb => ⟨K 6 rfl, (K 15 rfl).1 (not_t hb), trivial⟩) (fun hb => fun _ _ q => s_pickT (cb hb) rfl q) (fun hb => fun _ _ q => s_pickF (cb hb) rfl q) (fun hb => cb (or_t hb)) (fun hb => cb (or_f hb))
        · exact flp HM rfl [(88, _)] (fun K _ => ⟨K 16 rfl, trivial⟩) (fun _ _ q => s_mvv (v := vb ((decide (x19 < 0)) || (decide (x20 ≥ (a0.L.length : Int))))) rfl q) rfl
        · exact flgn HM rfl rfl (fun K _ => K 17 rfl) [] (fun _ _ _ => trivial) (fun _ => fun _ _ q => s_mvv (v := vI s2) rfl q) (fun _ => rfl)
        · exact flgn HM rfl rfl (fun K _ => K 17 rfl) [(90, _)] (fun K _ hb => ⟨(K 18 rfl).1 (not_t hb), trivial⟩) (fun _ => fun _ _ q => s_gtr (m := s2) (n := 0) rfl rfl q) (fun _ => rfl)
        · exact flgn HM rfl rfl (fun K _ => K 17 rfl) [(91, _)] (fun K _ hb => ⟨(K 19 rfl).1 (not_t hb), trivial⟩) (fun _ => fun _ _ q => s_mvv (v := vb (decide (s2 > 0))) rfl q) (fun _ => rfl)
        · exact flgC HM rfl rfl (fun K _ => K 20 rfl) [] (fun _ _ _ _ => trivial) (fun _ _ => fun _ _ q => s_fld (n := 0) rfl underlying26 rfl rfl sizeOf24 q) (fun _ _ => rfl)
        · exact flgC HM rfl rfl (fun K _ => K 20 rfl) [(93, _)] (fun K _ hC hb => ⟨(K 21 rfl).1 (and_tt (not_t (not_tf hC)) hb), trivial⟩) (fun _ _ => fun _ S39 q => s_ld (i := 0) (cs := [a0v4]) S39 rfl rfl isAgg24 sizeOf24 rfl (fun _ => rfl) q) (fun _ _ => rfl)
        · exact flgC HM rfl rfl (fun K _ => K 20 rfl) [] (fun _ _ _ _ => trivial) (fun _ _ => fun _ _ q => s_mvv (v := vI s2) rfl q) (fun _ _ => rfl)
        · exact flgC HM rfl rfl (fun K _ => K 20 rfl) [(95, _)] (fun K _ hC hb => ⟨(K 23 rfl).1 (and_tt (not_t (not_tf hC)) hb), trivial⟩) (fun _ _ => fun _ _ q => s_subI (m := s2) (n := 1) rfl rfl q) (fun _ _ => rfl)
        · refine flbC HM rfl rfl (fun K _ => K 20 rfl) fun hb29 hb28 => ?_
          intro L f35 w43 hL hd hc ⟨m42, L60, S42, K, hO⟩
          obtain ⟨u36, rfl⟩ := fr_of (N := 110) (L := [(94, _), (96, _)]) hO ⟨(K 22 (dep hd rfl)).1 (and_tt (not_t (not_tf hb29)) hb28), (K 24 (dep hd rfl)).1 (and_tt (not_t (not_tf hb29)) hb28), trivial⟩
          replace S42 : St _ ((bx b1 (c_api_Log a0 a0v3 a0v4 a0v5) 26) :: As) _ := S42
          replace q27 := gu_t (and_tt (not_t (not_tf hb29)) hb28) q27
          refine s_idx (q := x21) rfl rfl (a0h4.up L60) q27 underlying24 sizeOf3 fun p13 c9 h26 r9 => ?_
          obtain rfl : c9 = [vI x21] := r9
          exact oS HM L60 S42 rfl K rfl rfl ⟨fun _ => ⟨p13, rfl, h26⟩, fun hx => tf (and_tt (not_t (not_tf hb29)) hb28) hx⟩ outP
        · refine flbC HM rfl rfl (fun K _ => K 20 rfl) fun hb31 hb30 => ?_
          intro L f36 w44 hL hd hc ⟨m43, L62, S43, K, hO⟩
          obtain ⟨v9, e25, h27⟩ := (K 25 (dep hd rfl)).1 (and_tt (not_t (not_tf hb31)) hb30)
          obtain ⟨u37, rfl⟩ := fr_of (N := 110) (L := [(97, _)]) hO ⟨e25, trivial⟩
          replace S43 : St _ ((bx b1 (c_api_Log a0 a0v3 a0v4 a0v5) 26) :: As) _ := S43
          exact s_ldM (cs := [vI x21]) S43 rfl h27 rfl isAgg3 sizeOf3 (fun _ => rfl) <| oS HM L62 S43 rfl K rfl rfl ⟨fun _ => rfl, fun hx => tf (and_tt (not_t (not_tf hb31)) hb30) hx⟩ outP
        · exact flgC HM rfl rfl (fun K _ => K 20 rfl) [] (fun _ _ _ _ => trivial) (fun _ _ => fun _ _ q => s_fld (n := 0) rfl underlying26 rfl rfl sizeOf24 q) (fun _ _ => rfl)
        · exact flgC HM rfl rfl (fun K _ => K 20 rfl) [(99, _)] (fun K _ hC hb => ⟨(K 27 rfl).1 (and_tt (not_t (not_tf hC)) hb), trivial⟩) (fun _ _ => fun _ S45 q => s_ld (i := 0) (cs := [a0v4]) S45 rfl rfl isAgg24 sizeOf24 rfl (fun _ => rfl) q) (fun _ _ => rfl)
        · exact flgC HM rfl rfl (fun K _ => K 20 rfl) [] (fun _ _ _ _ => trivial) (fun _ _ => fun _ _ q => s_mvv (v := vI s2) rfl q) (fun _ _ => rfl)
        · refine flbC HM rfl rfl (fun K _ => K 20 rfl) fun hb39 hb38 => ?_
          intro L f40 w48 hL hd hc ⟨m47, L70, S47, K, hO⟩
          obtain ⟨u41, rfl⟩ := fr_of (N := 110) (L := [(100, _), (101, _)]) hO ⟨(K 28 (dep hd rfl)).1 (and_tt (not_t (not_tf hb39)) hb38), (K 29 (dep hd rfl)).1 (and_tt (not_t (not_tf hb39)) hb38), trivial⟩
          replace S47 : St _ ((bx b1 (c_api_Log a0 a0v3 a0v4 a0v5) 26) :: As) _ := S47
          replace q28 := gu_t (and_tt (not_t (not_tf hb39)) hb38) q28
          refine s_idx (q := x22) rfl rfl (a0h4.up L70) q28 underlying24 sizeOf3 fun p14 c10 h28 r10 => ?_
          obtain rfl : c10 = [vI x22] := r10
          exact oS HM L70 S47 rfl K rfl rfl ⟨fun _ => ⟨p14, rfl, h28⟩, fun hx => tf (and_tt (not_t (not_tf hb39)) hb38) hx⟩ outP
        · refine flbC HM rfl rfl (fun K _ => K 20 rfl) fun hb41 hb40 => ?_
          intro L f41 w49 hL hd hc ⟨m48, L72, S48, K, hO⟩
          obtain ⟨v10, e29, h29⟩ := (K 30 (dep hd rfl)).1 (and_tt (not_t (not_tf hb41)) hb40)
          obtain ⟨u42, rfl⟩ := fr_of (N := 110) (L := [(102, _)]) hO ⟨e29, trivial⟩
          replace S48 : St _ ((bx b1 (c_api_Log a0 a0v3 a0v4 a0v5) 26) :: As) _ := S48
          exact s_ldM (cs := [vI x22]) S48 rfl h29 rfl isAgg3 sizeOf3 (fun _ => rfl) <| oS HM L72 S48 rfl K rfl rfl ⟨fun _ => rfl, fun hx => tf (and_tt (not_t (not_tf hb41)) hb40) hx⟩ outP
        · exact flgC HM rfl rfl (fun K _ => K 20 rfl) [(98, _), (103, _)] (fun K _ hC hb => ⟨(K 26 rfl).1 (and_tt (not_t (not_tf hC)) hb), (K 31 rfl).1 (and_tt (not_t (not_tf hC)) hb), trivial⟩) (fun _ _ => fun _ _ q => s_geq (m := x21) (n := x22) rfl rfl q) (fun _ _ => rfl)
        · refine flbn HM rfl rfl (fun K _ => K 17 rfl) fun hb44 => ?_
          intro L f43 w51 hL hd hc ⟨m50, L76, S50, K, hO⟩
          rcases bool_tf (decide (s2 > 0)) with hb45 | hb45
          · obtain ⟨u44, rfl⟩ := fr_of (N := 110) (L := [(92, _), (104, _)]) hO ⟨(K 20 (dep hd rfl)).1 (not_t hb44), (K 32 (dep hd rfl)).1 (and_tt (not_t hb44) hb45), trivial⟩
            replace S50 : St _ ((bx b1 (c_api_Log a0 a0v3 a0v4 a0v5) 26) :: As) _ := S50
            exact s_pickT (cb hb45) rfl <| oS HM L76 S50 rfl K rfl rfl ⟨fun _ => (cb (and_t hb45)), fun hx => tf (not_t hb44) hx⟩ outP
          · obtain ⟨u45, rfl⟩ := fr_of (N := 110) (L := [(92, _)]) hO ⟨(K 20 (dep hd rfl)).1 (not_t hb44), trivial⟩
            replace S50 : St _ ((bx b1 (c_api_Log a0 a0v3 a0v4 a0v5) 26) :: As) _ := S50
            exact s_pickF (cb hb45) rfl <| oS HM L76 S50 rfl K rfl rfl ⟨fun _ => (cb (and_f hb45)), fun hx => tf (not_t hb44) hx⟩ outP
        · exact flc HM rfl ((decide (x19 < 0)) || (decide (x20 ≥ (a0.L.length : Int)))) [(89, _)] [(89, _), (105, _)] (fun K _ _ => ⟨K 17 rfl, trivial⟩) (fun K _ hb => ⟨K 17 rfl, (K 33 rfl).1 (not_t hb), trivial⟩) (fun hb => fun _ _ q => s_pickT (cb hb) rfl q) (fun hb => fun _ _ q => s_pickF (cb hb) rfl q) (fun hb => cb (or_t hb)) (fun hb => cb (or_f hb))
      intro L f45 w53 hall ⟨m52, L82, S52, K, hO⟩
      have d34 : L 34 = true := hall 34 (by decide)
      obtain ⟨u48, rfl⟩ := fr_of (N := 110) (L := [(106, _)]) hO ⟨K 34 d34, trivial⟩
      replace S52 : St _ ((bx b1 (c_api_Log a0 a0v3 a0v4 a0v5) 26) :: As) _ := S52
      clear S16
      refine wpl_nil <| nrm <| wpc_if (t := (((decide (x19 < 0)) || (decide (x20 ≥ (a0.L.length : Int)))) || ((decide (s2 > 0)) && (decide (x21 ≥ x22))))) rfl (fun hc5 => ?_) (fun hc5 => ?_)
      · replace q23 := ifT hc5 q23
        refine ws <| s_asv (v := vI 1) rfl <| wpl_nil <| nrm <| wpc_ret <| blR <| thR <| thR <| blR <| thR <| outRw fun we hpd => ?_
        replace S52 := St.pd S52 hpd
        obtain ⟨m53, l14, S53⟩ := St.drop S52 0
        clear S52
        replace S53 : St _ (As) _ := S53
        cases q23
        rcases q22 with ⟨sn, e, _⟩ | e
        · cases e
        cases e
        dsimp only at hm
        have e0 := Option.some.inj hm
        subst e0
        replace L0 := Mem.tr L0 (mt l1 (mt l3 (mt l4 l13)))
        replace L7 := Mem.tr L7 (mt L82 l14)
        exact outR [_] rfl ⟨rfl, trivial⟩ ⟨_, (Mem.tr L0 (Mem.tr L8 L7)), S53, rfl⟩
      replace q23 := ifF hc5 q23
      refine wpc_skip <| nrmB <| nrm <| wpc_region <| s_mvv (v := vI s2) rfl <| s_addI (m := s2) (n := 1) rfl rfl <| s_asv (v := vI (w64 (s2 + 1))) rfl <| wpl_nil <| nrm ?_
      have e0 := Option.some.inj q23
      subst e0
      rcases q22 with ⟨sn, e, q22'⟩ | e
      · cases e
        replace L7 := Mem.tr L7 L82
        exact ⟨outP, _, Nat.lt_succ_self _, ⟨_, m52, q22', Mem.tr L8 L7, S52, ⟨rfl, trivial⟩⟩⟩
      · cases e
    replace q23 := ifF hc4 q23
    refine wpc_exit <| thE <| thE <| exB <| nrm ?_
    have e0 := Option.some.inj q23
    subst e0
    rcases q22 with ⟨sn, e, _⟩ | e
    · cases e
    · cases e
      exact ⟨outP, m16, _, rfl, Mem.tr L8 L7, S16, trivial⟩
 rintro f46 w54 ho ⟨m55, y3, rfl, l15, S54, ha⟩
 obtain ⟨u49, rfl⟩ := fr_of (N := 110) ho ha
 clear ho ha
 dsimp only at hm
 clear S15
 refine wpc_seq <| ws <| s_mvv (v := v1) rfl ?_
 replace h6 := h6.up (mt l13 l15)
 refine s_lenR (xs := x2) rfl h6 underlying23 <| s_gtr (m := (x2.length : Int)) (n := 256) rfl rfl <| wpl_nil <| nrm <| wpc_if (t := (decide ((x2.length : Int) > 256))) rfl (fun hc6 => ?_) (fun hc6 => ?_)
 · replace hm := ifT hc6 hm
   refine ws <| s_asv (v := vI 2) rfl <| wpl_nil <| nrm <| wpc_ret <| thR <| outRw fun we hpd => ?_
   replace S54 := St.pd S54 hpd
   obtain ⟨m56, l16, S55⟩ := St.drop S54 0
   clear S54
   replace S55 : St _ (As) _ := S55
   have e0 := Option.some.inj hm
   subst e0
   replace L0 := Mem.tr L0 (mt l1 (mt l3 (mt l4 (mt l13 (mt l15 l16)))))
   exact outR [_] rfl ⟨rfl, trivial⟩ ⟨_, L0, S55, rfl⟩
 replace hm := ifF hc6 hm
 refine wpc_skip <| nrm <| ws <| s_asv (v := vI 0) rfl <| wpl_nil <| nrm <| wpc_ret <| outRw fun we hpd => ?_
 replace S54 := St.pd S54 hpd
 obtain ⟨m57, l17, S56⟩ := St.drop S54 0
 clear S54
 replace S56 : St _ (As) _ := S56
 have e0 := Option.some.inj hm
 subst e0
 replace L0 := Mem.tr L0 (mt l1 (mt l3 (mt l4 (mt l13 (mt l15 l17)))))
 exact outR [_] rfl ⟨rfl, trivial⟩ ⟨_, L0, S56, rfl⟩

def m_ref04_right (a0 : UInt64) : Option Bool :=
  bnd (((decide ((a0.toNat : Int) ≥ 1)) && (decide ((a0.toNat : Int) < 1152921504606845789)))) fun x1 =>
  some x1

theorem w_ref04_right {m : Mem} {As : List Ow} {w : World} {a0 : UInt64} {r : Bool} (S : St m (As) w) (hm : m_ref04_right a0 = some r) :
    CallsR Tryz.prog 83 #[vU a0] w fun v w' => ∃ (M : Mem), m ≤ M ∧ St M (As) w' ∧ v = vb r := by
 unfold m_ref04_right at hm
 have L0 := Mem.rfl' m
 refine callsR (args := [vU a0]) func83 rfl ntmps83 (nb rfl) <| ws <| s_asv (v := vb false) rfl <| nx <| s_mvv (v := vU a0) rfl <| s_geq (m := (a0.toNat : Int)) (n := 1) rfl rfl <| s_mvv (v := vb (decide ((a0.toNat : Int) ≥ 1))) rfl <| wpl_cut 3 [6, 7, 8] (fun f' w' => w' = w ∧ AllAt f' [(8, vb ((decide ((a0.toNat : Int) ≥ 1)) && (decide ((a0.toNat : Int) < 1152921504606845789))))]) ?_ ?_
 · rcases bool_tf (decide ((a0.toNat : Int) ≥ 1)) with hb1 | hb1
   · exact wpl_yes (d := 5) rfl rfl (cb hb1) <| s_mvv (v := vU a0) rfl <| wpl_yes (d := 5) rfl rfl (cb hb1) <| s_lss (m := (a0.toNat : Int)) (n := 1152921504606845789) rfl rfl <| s_pickT (cb hb1) rfl <| wpl_nil (nrm ⟨outP, rfl, congrArg Value.bool (and_t hb1), trivial⟩)
   · exact wpl_no (d := 5) rfl rfl (cb hb1) <| wpl_no (d := 5) rfl rfl (cb hb1) <| s_pickF (cb hb1) rfl <| wpl_nil (nrm ⟨outP, rfl, congrArg Value.bool (and_f hb1), trivial⟩)
 rintro f1 w1 ho ⟨h1, ha⟩
 subst h1
 obtain ⟨u1, rfl⟩ := fr_of (N := 9) ho ha
 obtain ⟨x1, q1, hm⟩ := bnd_eq hm
 refine s_asv (v := vb x1) (congrArg (fun z => vb z) q1.symm) <| wpl_nil <| nrm <| wpc_ret <| outRw fun we hpd => ?_
 replace S := St.pd S hpd
 have e0 := Option.some.inj hm
 subst e0
 exact outR [_] rfl ⟨rfl, trivial⟩ ⟨_, L0, S, rfl⟩

def m_ref04_Public (a0 : UInt64) : Option (UInt64 × Int) :=
  obind (m_ref04_right a0) fun x1 =>
  if (!x1) = true then
    some (0, 1)
  else
  obind (m_ref03_Base a0) fun x2 =>
  some (x2, 0)

theorem w_ref04_Public {m : Mem} {As : List Ow} {w : World} {a0 : UInt64} {r : UInt64 × Int} (S : St m (As) w) (hm : m_ref04_Public a0 = some r) :
    CallsR Tryz.prog 41 #[vU a0] w fun v w' => ∃ (M : Mem), m ≤ M ∧ St M (As) w' ∧ v = .tuple #[vU r.1, vI r.2] := by
 unfold m_ref04_Public at hm
 have L0 := Mem.rfl' m
 refine callsR (args := [vU a0]) func41 rfl ntmps41 (nb rfl) <| ws <| s_asv (v := vU 0) rfl <| s_asv (v := vI 0) rfl <| wpl_nil <| nrm <| wpc_seq <| ws <| s_mvv (v := vU a0) rfl ?_
 obtain ⟨x1, q1, hm⟩ := obind_some hm
 refine s_call call83 (w_ref04_right (a0 := a0) S  q1) rfl ?_
 rintro _ w1 ⟨m1, l1, S1, rfl⟩
 clear S
 refine s_not rfl <| wpl_nil <| nrm <| wpc_if (t := (!x1)) rfl (fun hc1 => ?_) (fun hc1 => ?_)
 · replace hm := ifT hc1 hm
   refine ws <| s_asv (v := vU 0) rfl <| s_asv (v := vI 1) rfl <| wpl_nil <| nrm <| wpc_ret <| thR <| outRw fun we hpd => ?_
   replace S1 := St.pd S1 hpd
   have e0 := Option.some.inj hm
   subst e0
   replace L0 := Mem.tr L0 l1
   exact outR [_, _] rfl ⟨rfl, rfl, trivial⟩ ⟨_, L0, S1, rfl⟩
 replace hm := ifF hc1 hm
 refine wpc_skip <| nrm <| ws <| s_mvv (v := vU a0) rfl ?_
 obtain ⟨x2, q2, hm⟩ := obind_some hm
 refine s_call call84 (w_ref03_Base (a0 := a0) S1  q2) rfl ?_
 rintro _ w2 ⟨m2, l2, S2, rfl⟩
 clear S1
 refine s_asv (v := vU x2) rfl <| s_asv (v := vI 0) rfl <| wpl_nil <| nrm <| wpc_ret <| outRw fun we hpd => ?_
 replace S2 := St.pd S2 hpd
 have e0 := Option.some.inj hm
 subst e0
 replace L0 := Mem.tr L0 (mt l1 l2)
 exact outR [_, _] rfl ⟨rfl, rfl, trivial⟩ ⟨_, L0, S2, rfl⟩

end Go.Proofs.YtemiampgjgenhaaGreat
