/- The walks of some functions, written by program. Conditions: none. -/
import Derived.Test.YtemiampgjgenhaaGreatWkD
set_option maxHeartbeats 20000000
set_option maxRecDepth 100000
set_option linter.unusedVariables false
set_option linter.unusedSimpArgs false
namespace Go.Proofs.YtemiampgjgenhaaGreat
open Go Go.Gw Tryz

def m_ref24_num (a0 : Int) : Option Bool :=
  bnd (((decide (a0 ≥ 0)) && (decide (a0 ≤ 1099511627776)))) fun x1 =>
  some x1

theorem w_ref24_num {m : Mem} {As : List Ow} {w : World} {a0 : Int} {r : Bool} (S : St m (As) w) (hm : m_ref24_num a0 = some r) :
    CallsR Tryz.prog 45 #[vI a0] w fun v w' => ∃ (M : Mem), m ≤ M ∧ St M (As) w' ∧ v = vb r := by
 unfold m_ref24_num at hm
 have L0 := Mem.rfl' m
 refine callsR (args := [vI a0]) func45 rfl ntmps45 (nb rfl) <| ws <| s_asv (v := vb false) rfl <| nx <| s_mvv (v := vI a0) rfl <| s_geq (m := a0) (n := 0) rfl rfl <| s_mvv (v := vb (decide (a0 ≥ 0))) rfl <| wpl_cut 3 [6, 7, 8] (fun f' w' => w' = w ∧ AllAt f' [(8, vb ((decide (a0 ≥ 0)) && (decide (a0 ≤ 1099511627776))))]) ?_ ?_
 · rcases bool_tf (decide (a0 ≥ 0)) with hb1 | hb1
   · exact wpl_yes (d := 5) rfl rfl (cb hb1) <| s_mvv (v := vI a0) rfl <| wpl_yes (d := 5) rfl rfl (cb hb1) <| s_leq (m := a0) (n := 1099511627776) rfl rfl <| s_pickT (cb hb1) rfl <| wpl_nil (nrm ⟨outP, rfl, congrArg Value.bool (and_t hb1), trivial⟩)
   · exact wpl_no (d := 5) rfl rfl (cb hb1) <| wpl_no (d := 5) rfl rfl (cb hb1) <| s_pickF (cb hb1) rfl <| wpl_nil (nrm ⟨outP, rfl, congrArg Value.bool (and_f hb1), trivial⟩)
 rintro f1 w1 ho ⟨h1, ha⟩
 subst h1
 obtain ⟨u1, rfl⟩ := fr_of (N := 9) ho ha
 obtain ⟨x1, q1, hm⟩ := bnd_eq hm
 refine s_asv (v := vb x1) (congrArg (fun z => vb z) q1.symm) <| wpl_nil <| nrm <| wpc_ret <| outRw fun we hpd => ?_
 replace S := St.pd S hpd
 have e0 := Option.some.inj hm
 subst e0
 exact outR [_] rfl ⟨rfl, trivial⟩ ⟨_, L0, S, rfl⟩

def m_ref02_plus (a0 : UInt64) (a1 : UInt64) (a2 : UInt64) : Option UInt64 :=
  if (decide ((a0.toNat : Int) ≥ ((a2 - a1).toNat : Int))) = true then
    some (a0 - (a2 - a1))
  else
  some (a0 + a1)

theorem w_ref02_plus {m : Mem} {As : List Ow} {w : World} {a0 : UInt64} {a1 : UInt64} {a2 : UInt64} {r : UInt64} (S : St m (As) w) (hm : m_ref02_plus a0 a1 a2 = some r) :
    CallsR Tryz.prog 121 #[vU a0, vU a1, vU a2] w fun v w' => ∃ (M : Mem), m ≤ M ∧ St M (As) w' ∧ v = vU r := by
 unfold m_ref02_plus at hm
 have L0 := Mem.rfl' m
 refine callsR (args := [vU a0, vU a1, vU a2]) func121 rfl ntmps121 (nb rfl) <| ws <| s_asv (v := vU 0) rfl <| wpl_nil <| nrm <| wpc_seq <| ws <| s_mvv (v := vU a0) rfl <| s_mvv (v := vU a2) rfl <| s_mvv (v := vU a1) rfl <| s_subU (m := a2) (n := a1) rfl rfl <| s_geq (m := (a0.toNat : Int)) (n := ((a2 - a1).toNat : Int)) rfl rfl <| wpl_nil <| nrm <| wpc_if (t := (decide ((a0.toNat : Int) ≥ ((a2 - a1).toNat : Int)))) rfl (fun hc1 => ?_) (fun hc1 => ?_)
 · replace hm := ifT hc1 hm
   refine ws <| s_mvv (v := vU a0) rfl <| s_mvv (v := vU a2) rfl <| s_mvv (v := vU a1) rfl <| s_subU (m := a2) (n := a1) rfl rfl <| s_subU (m := a0) (n := (a2 - a1)) rfl rfl <| s_asv (v := vU (a0 - (a2 - a1))) rfl <| wpl_nil <| nrm <| wpc_ret <| thR <| outRw fun we hpd => ?_
   replace S := St.pd S hpd
   have e0 := Option.some.inj hm
   subst e0
   exact outR [_] rfl ⟨rfl, trivial⟩ ⟨_, L0, S, rfl⟩
 replace hm := ifF hc1 hm
 refine wpc_skip <| nrm <| ws <| s_mvv (v := vU a0) rfl <| s_mvv (v := vU a1) rfl <| s_addU (m := a0) (n := a1) rfl rfl <| s_asv (v := vU (a0 + a1)) rfl <| wpl_nil <| nrm <| wpc_ret <| outRw fun we hpd => ?_
 replace S := St.pd S hpd
 have e0 := Option.some.inj hm
 subst e0
 exact outR [_] rfl ⟨rfl, trivial⟩ ⟨_, L0, S, rfl⟩

def m_ref02_Num_b2 (a1 : UInt64) (s1 : UInt64 × Int) : Option ((UInt64 × Int) ⊕ (UInt64)) :=
  if (decide (s1.2 < 61)) = true then
    obind (m_ref02_plus s1.1 s1.1 a1) fun x4 =>
    some (.inl (x4, (w64 (s1.2 + 1))))
  else
  some (.inr s1.1)

def m_ref02_Num (a0 : UInt64 × UInt64) (a1 : UInt64) : Option UInt64 :=
  if ((a1.toNat : Int) == 0) = true then
    some 0
  else
  if a1 ≠ 0 then
    obind (
      obind (iter (m_ref02_Num_b2 a1) FUEL ((a0.1 % a1), 0)) fun x2 =>
      some x2
    ) fun x1 =>
    if a1 ≠ 0 then
      obind (m_ref02_plus x1 (a0.2 % a1) a1) fun x5 =>
      some x5
    else none
  else none

theorem w_ref02_Num {m : Mem} {As : List Ow} {w : World} {a0 : UInt64 × UInt64} {a1 : UInt64} {r : UInt64} (S : St m (As) w) (hm : m_ref02_Num a0 a1 = some r) :
    CallsR Tryz.prog 79 #[.agg #[vU a0.1, vU a0.2], vU a1] w fun v w' => ∃ (M : Mem), m ≤ M ∧ St M (As) w' ∧ v = vU r := by
 unfold m_ref02_Num at hm
 have L0 := Mem.rfl' m
 refine callsR (args := [.agg #[vU a0.1, vU a0.2], vU a1]) func79 rfl ntmps79 (nb rfl) <| ws <| s_box S rfl fun b1 w1 S1 => ?_
 replace S1 : St _ ((bx b1 [vU a0.1, vU a0.2] 41) :: As) _ := S1
 clear S
 refine s_asv (v := vU 0) rfl <| wpl_nil <| nrm <| wpc_seq <| ws <| s_mvv (v := vU a1) rfl <| s_eql (m := (a1.toNat : Int)) (n := 0) rfl rfl <| wpl_nil <| nrm <| wpc_if (t := ((a1.toNat : Int) == 0)) rfl (fun hc1 => ?_) (fun hc1 => ?_)
 · replace hm := ifT hc1 hm
   refine ws <| s_asv (v := vU 0) rfl <| wpl_nil <| nrm <| wpc_ret <| thR <| outRw fun we hpd => ?_
   replace S1 := St.pd S1 hpd
   obtain ⟨m1, l1, S2⟩ := St.drop S1 0
   clear S1
   replace S2 : St _ (As) _ := S2
   have e0 := Option.some.inj hm
   subst e0
   replace L0 := Mem.tr L0 l1
   exact outR [_] rfl ⟨rfl, trivial⟩ ⟨_, L0, S2, rfl⟩
 replace hm := ifF hc1 hm
 refine wpc_skip <| nrm <| ws <| s_idxA (i := 0) rfl rfl underlying41 sizeOf22 (by decide) (by decide) <| s_ld (i := 0) (cs := [vU a0.1]) S1 rfl rfl isAgg22 sizeOf22 rfl (fun _ => rfl) <| s_mvv (v := vU a1) rfl ?_
 obtain ⟨q1, hm⟩ := if_some hm
 refine s_remU (m := a0.1) (n := a1) rfl rfl q1 <| s_asv (v := vU (a0.1 % a1)) rfl <| wpl_nil <| nrm ?_
 obtain ⟨x1, q2, hm⟩ := obind_some hm
 have L1 := Mem.rfl' m
 refine wpc_seq <| wpc_join [5, 6, 13, 14, 15, 16, 17, 18, 19, 20] (fun f' w' => ∃ (M1 : Mem), m ≤ M1 ∧ St M1 ((bx b1 [vU a0.1, vU a0.2] 41) :: As) w' ∧ AllAt f' [(5, vU x1)]) ?_ ?_
 · refine ws <| s_asv (v := vI 0) rfl <| wpl_nil <| nrm ?_
   obtain ⟨x2, q3, q2⟩ := obind_some q2
   have L2 := Mem.rfl' m
   refine wpc_join [5, 6, 13, 14, 15, 16, 17, 18, 19, 20] (fun f' w' => ∃ (M2 : Mem), m ≤ M2 ∧ St M2 ((bx b1 [vU a0.1, vU a0.2] 41) :: As) w' ∧ AllAt f' [(5, vU x2)]) ?_ ?_
   · refine wpc_block <| wpc_rounds [5, 6, 13, 14, 15, 16, 17, 18, 19, 20] (fun n1 f' w' => ∃ (s1 : UInt64 × Int) (m4 : Mem), iter (m_ref02_Num_b2 a1) n1 s1 = some x2 ∧ m ≤ m4 ∧ St m4 ((bx b1 [vU a0.1, vU a0.2] 41) :: As) w' ∧ AllAt f' [(5, vU s1.1), (6, vI s1.2)]) FUEL ⟨((a0.1 % a1), 0), m, q3, L2, S1, ⟨rfl, rfl, trivial⟩⟩ ?_
     rintro n1 f1 w2 ho ⟨s1, m2, q4, L4, S3, ha⟩
     obtain ⟨u1, rfl⟩ := fr_of (N := 28) ho ha
     clear ho ha
     have L3 := Mem.rfl' m2
     clear S1
     cases n1 with
     | zero => exact (iter_zero q4).elim
     | succ n1 =>
      obtain ⟨y1, q6, q5⟩ := iter_succ q4
      unfold m_ref02_Num_b2 at q6
      refine wpc_seq <| ws <| s_mvv (v := vI s1.2) rfl <| s_lss (m := s1.2) (n := 61) rfl rfl <| wpl_nil <| nrm <| wpc_if (t := (decide (s1.2 < 61))) rfl (fun hc2 => ?_) (fun hc2 => ?_)
      · replace q6 := ifT hc2 q6
        refine wpc_skip <| nrm <| wpc_seq <| wpc_block <| wpc_region <| s_mvv (v := vU s1.1) rfl <| s_mvv (v := vU s1.1) rfl <| s_mvv (v := vU a1) rfl ?_
        obtain ⟨x4, q8, q6⟩ := obind_some q6
        refine s_call call121 (w_ref02_plus (a0 := s1.1) (a1 := s1.1) (a2 := a1) S3  q8) rfl ?_
        rintro _ w3 ⟨m3, l2, S4, rfl⟩
        clear S3
        refine s_asv (v := vU x4) rfl <| wpl_nil <| nrmB <| nrm <| wpc_region <| s_mvv (v := vI s1.2) rfl <| s_addI (m := s1.2) (n := 1) rfl rfl <| s_asv (v := vI (w64 (s1.2 + 1))) rfl <| wpl_nil <| nrm ?_
        have e0 := Option.some.inj q6
        subst e0
        rcases q5 with ⟨sn, e, q5'⟩ | e
        · cases e
          replace L3 := Mem.tr L3 l2
          exact ⟨outP, _, Nat.lt_succ_self _, ⟨_, m3, q5', Mem.tr L4 L3, S4, ⟨rfl, rfl, trivial⟩⟩⟩
        · cases e
      replace q6 := ifF hc2 q6
      refine wpc_exit <| thE <| thE <| exB <| nrm ?_
      have e0 := Option.some.inj q6
      subst e0
      rcases q5 with ⟨sn, e, _⟩ | e
      · cases e
      · cases e
        exact ⟨outP, m2, Mem.tr L4 L3, S3, ⟨rfl, trivial⟩⟩
   rintro f2 w4 ho ⟨m5, l3, S5, ha⟩
   obtain ⟨u2, rfl⟩ := fr_of (N := 28) ho ha
   clear ho ha S1
   have e0 := Option.some.inj q2
   subst e0
   replace L1 := Mem.tr L1 l3
   exact ⟨outP, m5, L1, S5, ⟨rfl, trivial⟩⟩
 rintro f3 w5 ho ⟨m6, l4, S6, ha⟩
 obtain ⟨u3, rfl⟩ := fr_of (N := 28) ho ha
 clear S1
 refine ws <| s_mvv (v := vU x1) rfl <| s_idxA (i := 1) rfl rfl underlying41 sizeOf22 (by decide) (by decide) <| s_ld (i := 0) (cs := [vU a0.2]) S6 rfl rfl isAgg22 sizeOf22 rfl (fun _ => rfl) <| s_mvv (v := vU a1) rfl ?_
 obtain ⟨q9, hm⟩ := if_some hm
 refine s_remU (m := a0.2) (n := a1) rfl rfl q9 <| s_mvv (v := vU a1) rfl ?_
 obtain ⟨x5, q10, hm⟩ := obind_some hm
 refine s_call call121 (w_ref02_plus (a0 := x1) (a1 := (a0.2 % a1)) (a2 := a1) S6  q10) rfl ?_
 rintro _ w6 ⟨m7, l5, S7, rfl⟩
 clear S6
 refine s_asv (v := vU x5) rfl <| wpl_nil <| nrm <| wpc_ret <| outRw fun we hpd => ?_
 replace S7 := St.pd S7 hpd
 obtain ⟨m8, l6, S8⟩ := St.drop S7 0
 clear S7
 replace S8 : St _ (As) _ := S8
 have e0 := Option.some.inj hm
 subst e0
 replace L0 := Mem.tr L0 (mt l4 (mt l5 l6))
 exact outR [_] rfl ⟨rfl, trivial⟩ ⟨_, L0, S8, rfl⟩

def m_ref01_Of_b2 (a0 : List UInt8) (s1 : (List UInt64) × Int) (s2 : UInt64 × UInt64 × Int) : Option ((UInt64 × UInt64 × Int) ⊕ (UInt64)) :=
  if ((decide (s2.2.2 < (a0.length : Int))) && (decide (s2.2.2 < (w64 (s1.2 + 7))))) = true then
    obind (idx a0 s2.2.2) fun x7 =>
    bnd ((s2.1 + (s2.2.1 * (toU (x7.toNat : Int))))) fun x8 =>
    some (.inl (x8, (s2.2.1 * 256), (w64 (s2.2.2 + 1))))
  else
  some (.inr s2.1)

def m_ref01_Of_b1 (a0 : List UInt8) (s1 : (List UInt64) × Int) : Option (((List UInt64) × Int) ⊕ ((List UInt64))) :=
  if (decide (s1.2 < (a0.length : Int))) = true then
    obind (
      obind (iter (m_ref01_Of_b2 a0 s1) FUEL (0, 1, s1.2)) fun x5 =>
      some x5
    ) fun x4 =>
    obind (app 8 s1.1 ([x4] : List UInt64)) fun x9 =>
    some (.inl (x9, (w64 (s1.2 + 7))))
  else
  some (.inr s1.1)

def m_ref01_Of (a0 : List UInt8) : Option (List UInt64) :=
  obind (
    obind (iter (m_ref01_Of_b1 a0) FUEL (([] : List UInt64), 0)) fun x2 =>
    some x2
  ) fun x1 =>
  some x1

theorem w_ref01_Of {m : Mem} {As : List Ow} {w : World} {a0 : List UInt8} {a0v0 : Value} {r : List UInt64} (S : St m (As) w) (a0h0 : SlR m a0v0 a0) (hm : m_ref01_Of a0 = some r) :
    CallsR Tryz.prog 147 #[a0v0] w fun v w' => ∃ (M : Mem), m ≤ M ∧ ∃ (rv0 : Value) (rc0 : List Value), St M ((row 1 rv0 rc0 r.length) :: As) w' ∧ v = rv0 ∧ RepL M rc0 r := by
 unfold m_ref01_Of at hm
 have L0 := Mem.rfl' m
 refine callsR (args := [a0v0]) func147 rfl ntmps147 (nb rfl) <| ws <| s_asv (v := .slice none 0 0) rfl <| nx <| s_asv (v := .slice none 0 0) rfl <| wpl_nil <| nrm ?_
 obtain ⟨x1, q1, hm⟩ := obind_some hm
 have L1 := Mem.rfl' m
 refine wpc_seq <| wpc_join (rg 3 39) (fun f' w' => ∃ (M1 : Mem) (v1 : Value) (c1 : List Value), m ≤ M1 ∧ St M1 ((row 1 v1 c1 x1.length) :: As) w' ∧ RepL M1 c1 x1 ∧ AllAt f' [(3, v1)]) ?_ ?_
 · refine ws <| s_asv (v := vI 0) rfl <| wpl_nil <| nrm ?_
   obtain ⟨x2, q2, q1⟩ := obind_some q1
   have L2 := Mem.rfl' m
   have S1 := St.rowNil S 1
   have h3 : RepL m [] ([] : List UInt64) := RepL.nil
   replace S1 : St _ ((row 1 (.slice none 0 0) [] ([] : List UInt64).length) :: As) _ := S1
   clear S
   refine wpc_join (rg 3 39) (fun f' w' => ∃ (M2 : Mem) (v3 : Value) (c3 : List Value), m ≤ M2 ∧ St M2 ((row 1 v3 c3 x2.length) :: As) w' ∧ RepL M2 c3 x2 ∧ AllAt f' [(3, v3)]) ?_ ?_
   · refine wpc_block <| wpc_rounds (rg 3 39) (fun n1 f' w' => ∃ (s1 : (List UInt64) × Int) (m7 : Mem) (v2 : Value) (c2 : List Value), iter (m_ref01_Of_b1 a0) n1 s1 = some x2 ∧ m ≤ m7 ∧ St m7 ((row 1 v2 c2 s1.1.length) :: As) w' ∧ RepL m7 c2 s1.1 ∧ AllAt f' [(3, v2), (4, vI s1.2)]) FUEL ⟨(([] : List UInt64), 0), m, _, _, q2, L2, S1, h3, ⟨rfl, rfl, trivial⟩⟩ ?_
     rintro n1 f1 w1 ho ⟨s1, m1, v2, c2, q3, L4, S2, h2, ha⟩
     obtain ⟨u1, rfl⟩ := fr_of (N := 43) ho ha
     clear ho ha
     have L3 := Mem.rfl' m1
     clear S1
     cases n1 with
     | zero => exact (iter_zero q3).elim
     | succ n1 =>
      obtain ⟨y1, q5, q4⟩ := iter_succ q3
      unfold m_ref01_Of_b1 at q5
      refine wpc_seq <| ws <| s_mvv (v := vI s1.2) rfl <| s_mvv (v := a0v0) rfl <| s_lenR (xs := a0) rfl (a0h0.up L4) underlying27 <| s_lss (m := s1.2) (n := (a0.length : Int)) rfl rfl <| wpl_nil <| nrm <| wpc_if (t := (decide (s1.2 < (a0.length : Int)))) rfl (fun hc1 => ?_) (fun hc1 => ?_)
      · replace q5 := ifT hc1 q5
        refine wpc_skip <| nrm <| wpc_seq <| wpc_block <| ws <| s_asv (v := vU 0) rfl <| nx <| s_asv (v := vU 1) rfl <| wpl_nil <| nrm ?_
        obtain ⟨x4, q7, q5⟩ := obind_some q5
        have L5 := Mem.rfl' m1
        refine wpc_seq <| wpc_join [5, 6, 7, 14, 15, 16, 17, 18, 19, 20, 21, 22, 23, 24, 25, 26, 27, 28, 29, 30, 31, 32, 33, 34, 35, 36, 37] (fun f' w' => ∃ (M3 : Mem), m1 ≤ M3 ∧ St M3 ((row 1 v2 c2 s1.1.length) :: As) w' ∧ AllAt f' [(5, vU x4)]) ?_ ?_
        · refine ws <| s_mvv (v := vI s1.2) rfl <| s_asv (v := vI s1.2) rfl <| wpl_nil <| nrm ?_
          obtain ⟨x5, q8, q7⟩ := obind_some q7
          have L6 := Mem.rfl' m1
          refine wpc_join [5, 6, 7, 15, 16, 17, 18, 19, 20, 21, 22, 23, 24, 25, 26, 27, 28, 29, 30, 31, 32, 33, 34, 35, 36, 37] (fun f' w' => ∃ (M4 : Mem), m1 ≤ M4 ∧ St M4 ((row 1 v2 c2 s1.1.length) :: As) w' ∧ AllAt f' [(5, vU x5)]) ?_ ?_
          · refine wpc_block <| wpc_rounds [5, 6, 7, 15, 16, 17, 18, 19, 20, 21, 22, 23, 24, 25, 26, 27, 28, 29, 30, 31, 32, 33, 34, 35, 36, 37] (fun n2 f' w' => ∃ (s2 : UInt64 × UInt64 × Int) (m3 : Mem), iter (m_ref01_Of_b2 a0 s1) n2 s2 = some x5 ∧ m1 ≤ m3 ∧ St m3 ((row 1 v2 c2 s1.1.length) :: As) w' ∧ AllAt f' [(5, vU s2.1), (6, vU s2.2.1), (7, vI s2.2.2)]) FUEL ⟨(0, 1, s1.2), m1, q8, L6, S2, ⟨rfl, rfl, rfl, trivial⟩⟩ ?_
            rintro n2 f2 w2 ho ⟨s2, m2, q9, L8, S3, ha⟩
            obtain ⟨u2, rfl⟩ := fr_of (N := 43) ho ha
            clear ho ha
            have L7 := Mem.rfl' m2
            clear S2
            cases n2 with
            | zero => exact (iter_zero q9).elim
            | succ n2 =>
             obtain ⟨y2, q11, q10⟩ := iter_succ q9
             unfold m_ref01_Of_b2 at q11
             refine wpc_seq <| ws <| s_mvv (v := vI s2.2.2) rfl <| s_mvv (v := a0v0) rfl ?_
             replace a0h0 := a0h0.up (mt L4 L8)
             refine s_lenR (xs := a0) rfl a0h0 underlying27 <| s_lss (m := s2.2.2) (n := (a0.length : Int)) rfl rfl <| s_mvv (v := vb (decide (s2.2.2 < (a0.length : Int)))) rfl <| wpl_cut 5 [20, 21, 22, 23, 24] (fun f' w' => w' = w2 ∧ AllAt f' [(24, vb ((decide (s2.2.2 < (a0.length : Int))) && (decide (s2.2.2 < (w64 (s1.2 + 7))))))]) ?_ ?_
             · rcases bool_tf (decide (s2.2.2 < (a0.length : Int))) with hb1 | hb1
               · exact wpl_yes (d := 19) rfl rfl (cb hb1) <| s_mvv (v := vI s2.2.2) rfl <| wpl_yes (d := 19) rfl rfl (cb hb1) <| s_mvv (v := vI s1.2) rfl <| wpl_yes (d := 19) rfl rfl (cb hb1) <| s_addI (m := s1.2) (n := 7) rfl rfl <| wpl_yes (d := 19) rfl rfl (cb hb1) <| s_lss (m := s2.2.2) (n := (w64 (s1.2 + 7))) rfl rfl <| s_pickT (cb hb1) rfl <| wpl_nil (nrm ⟨outP, rfl, congrArg Value.bool (and_t hb1), trivial⟩)
               · exact wpl_no (d := 19) rfl rfl (cb hb1) <| wpl_no (d := 19) rfl rfl (cb hb1) <| wpl_no (d := 19) rfl rfl (cb hb1) <| wpl_no (d := 19) rfl rfl (cb hb1) <| s_pickF (cb hb1) rfl <| wpl_nil (nrm ⟨outP, rfl, congrArg Value.bool (and_f hb1), trivial⟩)
             rintro f3 w3 ho ⟨h5, ha⟩
             subst h5
             obtain ⟨u3, rfl⟩ := fr_of (N := 43) ho ha
             refine wpl_nil <| nrm <| wpc_if (t := ((decide (s2.2.2 < (a0.length : Int))) && (decide (s2.2.2 < (w64 (s1.2 + 7)))))) rfl (fun hc2 => ?_) (fun hc2 => ?_)
             · replace q11 := ifT hc2 q11
               refine wpc_skip <| nrm <| wpc_seq <| wpc_block <| ws <| s_mvv (v := vU s2.1) rfl <| s_mvv (v := vU s2.2.1) rfl <| s_mvv (v := a0v0) rfl <| s_mvv (v := vI s2.2.2) rfl ?_
               obtain ⟨x7, q13, q11⟩ := obind_some q11
               refine s_idx (q := x7) rfl rfl a0h0 q13 underlying27 sizeOf5 fun p1 c4 h6 r5 => ?_
               obtain rfl : c4 = [vB x7] := r5
               refine s_ldM (cs := [vB x7]) S3 rfl h6 rfl isAgg5 sizeOf5 (fun _ => rfl) <| s_convU rfl underlying5 underlying22 <| s_mulU (m := s2.2.1) (n := (toU (x7.toNat : Int))) rfl rfl <| s_addU (m := s2.1) (n := (s2.2.1 * (toU (x7.toNat : Int)))) rfl rfl ?_
               obtain ⟨x8, q14, q11⟩ := bnd_eq q11
               refine s_asv (v := vU x8) (congrArg (fun z => vU z) q14.symm) <| wpl_nil <| nrm <| wpc_region <| s_mvv (v := vU s2.2.1) rfl <| s_mulU (m := s2.2.1) (n := 256) rfl rfl <| s_asv (v := vU (s2.2.1 * 256)) rfl <| wpl_nil <| nrmB <| nrm <| wpc_region <| s_mvv (v := vI s2.2.2) rfl <| s_addI (m := s2.2.2) (n := 1) rfl rfl <| s_asv (v := vI (w64 (s2.2.2 + 1))) rfl <| wpl_nil <| nrm ?_
               have e0 := Option.some.inj q11
               subst e0
               rcases q10 with ⟨sn, e, q10'⟩ | e
               · cases e
                 exact ⟨outP, _, Nat.lt_succ_self _, ⟨_, m2, q10', Mem.tr L8 L7, S3, ⟨rfl, rfl, rfl, trivial⟩⟩⟩
               · cases e
             replace q11 := ifF hc2 q11
             refine wpc_exit <| thE <| thE <| exB <| nrm ?_
             have e0 := Option.some.inj q11
             subst e0
             rcases q10 with ⟨sn, e, _⟩ | e
             · cases e
             · cases e
               exact ⟨outP, m2, Mem.tr L8 L7, S3, ⟨rfl, trivial⟩⟩
          rintro f4 w4 ho ⟨m4, l1, S4, ha⟩
          obtain ⟨u4, rfl⟩ := fr_of (N := 43) ho ha
          clear ho ha S2
          have e0 := Option.some.inj q7
          subst e0
          replace L5 := Mem.tr L5 l1
          exact ⟨outP, m4, L5, S4, ⟨rfl, trivial⟩⟩
        rintro f5 w5 ho ⟨m5, l2, S5, ha⟩
        obtain ⟨u5, rfl⟩ := fr_of (N := 43) ho ha
        clear S2
        refine wpc_region <| s_mvv (v := v2) rfl <| s_mvv (v := vU x4) rfl <| s_litC (parts := [.tmp 39]) (vs := [vU x4]) (cls := [[vU x4]]) (xs := ([x4] : List UInt64)) (n := 1) S5 underlying145 sizeOf22 zeroValue22 rfl ⟨rfl, trivial⟩ (RepL.cons (c := [vU x4]) (x := x4) rfl RepL.nil) rfl rfl rfl (by decide) (by decide) fun v4 m6 w6 l3 S6 h7 => ?_
        clear S5
        obtain ⟨x9, q15, q5⟩ := obind_some q5
        replace h2 := RepL.up (mt l2 l3) h2
        refine s_app (i := 0) (zs := x9) (bytes := 8) (ti := Tryz.t22) S6 rfl rfl h2 rfl rfl h7 q15 underlying145 type22 rfl rfl rfl rfl fun v5 c5 w7 S7 h8 => ?_
        replace S7 : St _ ((row 1 v5 c5 x9.length) :: As) _ := S7
        clear S6
        refine s_asv (v := v5) rfl <| wpl_nil <| nrmB <| nrm <| wpc_region <| s_mvv (v := vI s1.2) rfl <| s_addI (m := s1.2) (n := 7) rfl rfl <| s_asv (v := vI (w64 (s1.2 + 7))) rfl <| wpl_nil <| nrm ?_
        have e0 := Option.some.inj q5
        subst e0
        rcases q4 with ⟨sn, e, q4'⟩ | e
        · cases e
          replace L3 := Mem.tr L3 (mt l2 l3)
          exact ⟨outP, _, Nat.lt_succ_self _, ⟨_, m6, _, _, q4', Mem.tr L4 L3, S7, h8, ⟨rfl, rfl, trivial⟩⟩⟩
        · cases e
      replace q5 := ifF hc1 q5
      refine wpc_exit <| thE <| thE <| exB <| nrm ?_
      have e0 := Option.some.inj q5
      subst e0
      rcases q4 with ⟨sn, e, _⟩ | e
      · cases e
      · cases e
        exact ⟨outP, m1, _, _, Mem.tr L4 L3, S2, h2, ⟨rfl, trivial⟩⟩
   rintro f6 w8 ho ⟨m8, v3, c3, l4, S8, h4, ha⟩
   obtain ⟨u6, rfl⟩ := fr_of (N := 43) ho ha
   clear ho ha S1
   have e0 := Option.some.inj q1
   subst e0
   replace L1 := Mem.tr L1 l4
   exact ⟨outP, m8, _, _, L1, S8, h4, ⟨rfl, trivial⟩⟩
 rintro f7 w9 ho ⟨m9, v1, c1, l5, S9, h1, ha⟩
 obtain ⟨u7, rfl⟩ := fr_of (N := 43) ho ha
 clear S
 refine ws <| s_mvv (v := v1) rfl <| s_asv (v := v1) rfl <| wpl_nil <| nrm <| wpc_ret <| outRw fun we hpd => ?_
 replace S9 := St.pd S9 hpd
 have e0 := Option.some.inj hm
 subst e0
 replace L0 := Mem.tr L0 l5
 exact outR [_] rfl ⟨rfl, trivial⟩ ⟨_, L0, _, _, S9, rfl, h1⟩

def m_ref01_Add (a0 : UInt64) (a1 : UInt64) : Option UInt64 :=
  bnd ((((a0 % 2305843009213693951) + (a1 % 2305843009213693951)) % 2305843009213693951)) fun x1 =>
  some x1

theorem w_ref01_Add {m : Mem} {As : List Ow} {w : World} {a0 : UInt64} {a1 : UInt64} {r : UInt64} (S : St m (As) w) (hm : m_ref01_Add a0 a1 = some r) :
    CallsR Tryz.prog 148 #[vU a0, vU a1] w fun v w' => ∃ (M : Mem), m ≤ M ∧ St M (As) w' ∧ v = vU r := by
 unfold m_ref01_Add at hm
 have L0 := Mem.rfl' m
 refine callsR (args := [vU a0, vU a1]) func148 rfl ntmps148 (nb rfl) <| ws <| s_asv (v := vU 0) rfl <| nx <| s_mvv (v := vU a0) rfl <| s_remU (m := a0) (n := 2305843009213693951) rfl rfl (by decide) <| s_mvv (v := vU a1) rfl <| s_remU (m := a1) (n := 2305843009213693951) rfl rfl (by decide) <| s_addU (m := (a0 % 2305843009213693951)) (n := (a1 % 2305843009213693951)) rfl rfl <| s_remU (m := ((a0 % 2305843009213693951) + (a1 % 2305843009213693951))) (n := 2305843009213693951) rfl rfl (by decide) ?_
 obtain ⟨x1, q1, hm⟩ := bnd_eq hm
 refine s_asv (v := vU x1) (congrArg (fun z => vU z) q1.symm) <| wpl_nil <| nrm <| wpc_ret <| outRw fun we hpd => ?_
 replace S := St.pd S hpd
 have e0 := Option.some.inj hm
 subst e0
 exact outR [_] rfl ⟨rfl, trivial⟩ ⟨_, L0, S, rfl⟩

def m_ref01_Mul_b1  (s1 : UInt64 × UInt64 × UInt64) : Option ((UInt64 × UInt64 × UInt64) ⊕ (UInt64)) :=
  if (decide ((s1.2.1.toNat : Int) > 0)) = true then
    obind (
      if (((s1.2.1 % 2).toNat : Int) == 1) = true then
        obind (m_ref01_Add s1.2.2 s1.1) fun x5 =>
        some x5
      else
      some s1.2.2
    ) fun x4 =>
    obind (m_ref01_Add s1.1 s1.1) fun x6 =>
    some (.inl (x6, (s1.2.1 / 2), x4))
  else
  some (.inr s1.2.2)

def m_ref01_Mul (a0 : UInt64) (a1 : UInt64) : Option UInt64 :=
  obind (
    obind (iter m_ref01_Mul_b1 FUEL ((a0 % 2305843009213693951), (a1 % 2305843009213693951), 0)) fun x2 =>
    some x2
  ) fun x1 =>
  some x1

theorem w_ref01_Mul {m : Mem} {As : List Ow} {w : World} {a0 : UInt64} {a1 : UInt64} {r : UInt64} (S : St m (As) w) (hm : m_ref01_Mul a0 a1 = some r) :
    CallsR Tryz.prog 170 #[vU a0, vU a1] w fun v w' => ∃ (M : Mem), m ≤ M ∧ St M (As) w' ∧ v = vU r := by
 unfold m_ref01_Mul at hm
 have L0 := Mem.rfl' m
 refine callsR (args := [vU a0, vU a1]) func170 rfl ntmps170 (nb rfl) <| ws <| s_asv (v := vU 0) rfl <| nx <| s_mvv (v := vU a0) rfl <| s_remU (m := a0) (n := 2305843009213693951) rfl rfl (by decide) <| s_asv (v := vU (a0 % 2305843009213693951)) rfl <| nx <| s_mvv (v := vU a1) rfl <| s_remU (m := a1) (n := 2305843009213693951) rfl rfl (by decide) <| s_asv (v := vU (a1 % 2305843009213693951)) rfl <| nx <| s_asv (v := vU 0) rfl <| wpl_nil <| nrm ?_
 obtain ⟨x1, q1, hm⟩ := obind_some hm
 have L1 := Mem.rfl' m
 refine wpc_seq <| wpc_join [0, 1, 5, 10, 11, 12, 13, 14, 15, 16, 17, 18, 19, 20, 21, 22] (fun f' w' => ∃ (M1 : Mem), m ≤ M1 ∧ St M1 (As) w' ∧ AllAt f' [(5, vU x1)]) ?_ ?_
 · obtain ⟨x2, q2, q1⟩ := obind_some q1
   have L2 := Mem.rfl' m
   refine wpc_join [0, 1, 5, 10, 11, 12, 13, 14, 15, 16, 17, 18, 19, 20, 21, 22] (fun f' w' => ∃ (M2 : Mem), m ≤ M2 ∧ St M2 (As) w' ∧ AllAt f' [(5, vU x2)]) ?_ ?_
   · refine wpc_block <| wpc_rounds [0, 1, 5, 10, 11, 12, 13, 14, 15, 16, 17, 18, 19, 20, 21, 22] (fun n1 f' w' => ∃ (s1 : UInt64 × UInt64 × UInt64) (m5 : Mem), iter m_ref01_Mul_b1 n1 s1 = some x2 ∧ m ≤ m5 ∧ St m5 (As) w' ∧ AllAt f' [(0, vU s1.1), (1, vU s1.2.1), (5, vU s1.2.2)]) FUEL ⟨((a0 % 2305843009213693951), (a1 % 2305843009213693951), 0), m, q2, L2, S, ⟨rfl, rfl, rfl, trivial⟩⟩ ?_
     rintro n1 f1 w1 ho ⟨s1, m1, q3, L4, S1, ha⟩
     obtain ⟨u1, rfl⟩ := fr_of (N := 24) ho ha
     clear ho ha
     have L3 := Mem.rfl' m1
     clear S
     cases n1 with
     | zero => exact (iter_zero q3).elim
     | succ n1 =>
      obtain ⟨y1, q5, q4⟩ := iter_succ q3
      unfold m_ref01_Mul_b1 at q5
      refine wpc_seq <| ws <| s_mvv (v := vU s1.2.1) rfl <| s_gtr (m := (s1.2.1.toNat : Int)) (n := 0) rfl rfl <| wpl_nil <| nrm <| wpc_if (t := (decide ((s1.2.1.toNat : Int) > 0))) rfl (fun hc1 => ?_) (fun hc1 => ?_)
      · replace q5 := ifT hc1 q5
        refine wpc_skip <| nrm <| wpc_block ?_
        obtain ⟨x4, q7, q5⟩ := obind_some q5
        have L5 := Mem.rfl' m1
        refine wpc_seq <| wpc_join [5, 12, 13, 14, 15, 16, 17] (fun f' w' => ∃ (M3 : Mem), m1 ≤ M3 ∧ St M3 (As) w' ∧ AllAt f' [(5, vU x4)]) ?_ ?_
        · refine ws <| s_mvv (v := vU s1.2.1) rfl <| s_remU (m := s1.2.1) (n := 2) rfl rfl (by decide) <| s_eql (m := ((s1.2.1 % 2).toNat : Int)) (n := 1) rfl rfl <| wpl_nil <| nrm <| wpc_if (t := (((s1.2.1 % 2).toNat : Int) == 1)) rfl (fun hc2 => ?_) (fun hc2 => ?_)
          · replace q7 := ifT hc2 q7
            refine wpc_region <| s_mvv (v := vU s1.2.2) rfl <| s_mvv (v := vU s1.1) rfl ?_
            obtain ⟨x5, q8, q7⟩ := obind_some q7
            refine s_call call148 (w_ref01_Add (a0 := s1.2.2) (a1 := s1.1) S1  q8) rfl ?_
            rintro _ w2 ⟨m2, l1, S2, rfl⟩
            clear S1
            refine s_asv (v := vU x5) rfl <| wpl_nil <| nrm ?_
            have e0 := Option.some.inj q7
            subst e0
            replace L5 := Mem.tr L5 l1
            exact ⟨outP, m2, L5, S2, ⟨rfl, trivial⟩⟩
          replace q7 := ifF hc2 q7
          refine wpc_skip <| nrm ?_
          have e0 := Option.some.inj q7
          subst e0
          exact ⟨outP, m1, L5, S1, ⟨rfl, trivial⟩⟩
        rintro f2 w3 ho ⟨m3, l2, S3, ha⟩
        obtain ⟨u2, rfl⟩ := fr_of (N := 24) ho ha
        clear S1
        refine ws <| s_mvv (v := vU s1.1) rfl <| s_mvv (v := vU s1.1) rfl ?_
        obtain ⟨x6, q9, q5⟩ := obind_some q5
        refine s_call call148 (w_ref01_Add (a0 := s1.1) (a1 := s1.1) S3  q9) rfl ?_
        rintro _ w4 ⟨m4, l3, S4, rfl⟩
        clear S3
        refine s_asv (v := vU x6) rfl <| wpl_nil <| nrm <| wpc_region <| s_mvv (v := vU s1.2.1) rfl <| s_quoU (m := s1.2.1) (n := 2) rfl rfl (by decide) <| s_asv (v := vU (s1.2.1 / 2)) rfl <| wpl_nil <| nrmB <| nrm ?_
        have e0 := Option.some.inj q5
        subst e0
        rcases q4 with ⟨sn, e, q4'⟩ | e
        · cases e
          replace L3 := Mem.tr L3 (mt l2 l3)
          exact ⟨outP, _, Nat.lt_succ_self _, ⟨_, m4, q4', Mem.tr L4 L3, S4, ⟨rfl, rfl, rfl, trivial⟩⟩⟩
        · cases e
      replace q5 := ifF hc1 q5
      refine wpc_exit <| thE <| thE <| exB <| nrm ?_
      have e0 := Option.some.inj q5
      subst e0
      rcases q4 with ⟨sn, e, _⟩ | e
      · cases e
      · cases e
        exact ⟨outP, m1, Mem.tr L4 L3, S1, ⟨rfl, trivial⟩⟩
   rintro f3 w5 ho ⟨m6, l4, S5, ha⟩
   obtain ⟨u3, rfl⟩ := fr_of (N := 24) ho ha
   clear ho ha S
   have e0 := Option.some.inj q1
   subst e0
   replace L1 := Mem.tr L1 l4
   exact ⟨outP, m6, L1, S5, ⟨rfl, trivial⟩⟩
 rintro f4 w6 ho ⟨m7, l5, S6, ha⟩
 obtain ⟨u4, rfl⟩ := fr_of (N := 24) ho ha
 clear S
 refine ws <| s_mvv (v := vU x1) rfl <| s_asv (v := vU x1) rfl <| wpl_nil <| nrm <| wpc_ret <| outRw fun we hpd => ?_
 replace S6 := St.pd S6 hpd
 have e0 := Option.some.inj hm
 subst e0
 replace L0 := Mem.tr L0 l5
 exact outR [_] rfl ⟨rfl, trivial⟩ ⟨_, L0, S6, rfl⟩

def m_ref02_raised_b1 (a0 : UInt64) (a1 : Int) (s1 : UInt64 × Int) : Option ((UInt64 × Int) ⊕ (UInt64)) :=
  if (decide (s1.2 < a1)) = true then
    obind (m_ref01_Mul s1.1 a0) fun x4 =>
    some (.inl (x4, (w64 (s1.2 + 1))))
  else
  some (.inr s1.1)

def m_ref02_raised (a0 : UInt64) (a1 : Int) : Option UInt64 :=
  obind (
    obind (iter (m_ref02_raised_b1 a0 a1) FUEL (1, 0)) fun x2 =>
    some x2
  ) fun x1 =>
  some x1

theorem w_ref02_raised {m : Mem} {As : List Ow} {w : World} {a0 : UInt64} {a1 : Int} {r : UInt64} (S : St m (As) w) (hm : m_ref02_raised a0 a1 = some r) :
    CallsR Tryz.prog 168 #[vU a0, vI a1] w fun v w' => ∃ (M : Mem), m ≤ M ∧ St M (As) w' ∧ v = vU r := by
 unfold m_ref02_raised at hm
 have L0 := Mem.rfl' m
 refine callsR (args := [vU a0, vI a1]) func168 rfl ntmps168 (nb rfl) <| ws <| s_asv (v := vU 0) rfl <| nx <| s_asv (v := vU 1) rfl <| wpl_nil <| nrm ?_
 obtain ⟨x1, q1, hm⟩ := obind_some hm
 have L1 := Mem.rfl' m
 refine wpc_seq <| wpc_join (rg 5 10) (fun f' w' => ∃ (M1 : Mem), m ≤ M1 ∧ St M1 (As) w' ∧ AllAt f' [(5, vU x1)]) ?_ ?_
 · refine ws <| s_asv (v := vI 0) rfl <| wpl_nil <| nrm ?_
   obtain ⟨x2, q2, q1⟩ := obind_some q1
   have L2 := Mem.rfl' m
   refine wpc_join (rg 5 10) (fun f' w' => ∃ (M2 : Mem), m ≤ M2 ∧ St M2 (As) w' ∧ AllAt f' [(5, vU x2)]) ?_ ?_
   · refine wpc_block <| wpc_rounds (rg 5 10) (fun n1 f' w' => ∃ (s1 : UInt64 × Int) (m3 : Mem), iter (m_ref02_raised_b1 a0 a1) n1 s1 = some x2 ∧ m ≤ m3 ∧ St m3 (As) w' ∧ AllAt f' [(5, vU s1.1), (6, vI s1.2)]) FUEL ⟨(1, 0), m, q2, L2, S, ⟨rfl, rfl, trivial⟩⟩ ?_
     rintro n1 f1 w1 ho ⟨s1, m1, q3, L4, S1, ha⟩
     obtain ⟨u1, rfl⟩ := fr_of (N := 16) ho ha
     clear ho ha
     have L3 := Mem.rfl' m1
     clear S
     cases n1 with
     | zero => exact (iter_zero q3).elim
     | succ n1 =>
      obtain ⟨y1, q5, q4⟩ := iter_succ q3
      unfold m_ref02_raised_b1 at q5
      refine wpc_seq <| ws <| s_mvv (v := vI s1.2) rfl <| s_mvv (v := vI a1) rfl <| s_lss (m := s1.2) (n := a1) rfl rfl <| wpl_nil <| nrm <| wpc_if (t := (decide (s1.2 < a1))) rfl (fun hc1 => ?_) (fun hc1 => ?_)
      · replace q5 := ifT hc1 q5
        refine wpc_skip <| nrm <| wpc_seq <| wpc_block <| wpc_region <| s_mvv (v := vU s1.1) rfl <| s_mvv (v := vU a0) rfl ?_
        obtain ⟨x4, q7, q5⟩ := obind_some q5
        refine s_call call170 (w_ref01_Mul (a0 := s1.1) (a1 := a0) S1  q7) rfl ?_
        rintro _ w2 ⟨m2, l1, S2, rfl⟩
        clear S1
        refine s_asv (v := vU x4) rfl <| wpl_nil <| nrmB <| nrm <| wpc_region <| s_mvv (v := vI s1.2) rfl <| s_addI (m := s1.2) (n := 1) rfl rfl <| s_asv (v := vI (w64 (s1.2 + 1))) rfl <| wpl_nil <| nrm ?_
        have e0 := Option.some.inj q5
        subst e0
        rcases q4 with ⟨sn, e, q4'⟩ | e
        · cases e
          replace L3 := Mem.tr L3 l1
          exact ⟨outP, _, Nat.lt_succ_self _, ⟨_, m2, q4', Mem.tr L4 L3, S2, ⟨rfl, rfl, trivial⟩⟩⟩
        · cases e
      replace q5 := ifF hc1 q5
      refine wpc_exit <| thE <| thE <| exB <| nrm ?_
      have e0 := Option.some.inj q5
      subst e0
      rcases q4 with ⟨sn, e, _⟩ | e
      · cases e
      · cases e
        exact ⟨outP, m1, Mem.tr L4 L3, S1, ⟨rfl, trivial⟩⟩
   rintro f2 w3 ho ⟨m4, l2, S3, ha⟩
   obtain ⟨u2, rfl⟩ := fr_of (N := 16) ho ha
   clear ho ha S
   have e0 := Option.some.inj q1
   subst e0
   replace L1 := Mem.tr L1 l2
   exact ⟨outP, m4, L1, S3, ⟨rfl, trivial⟩⟩
 rintro f3 w4 ho ⟨m5, l3, S4, ha⟩
 obtain ⟨u3, rfl⟩ := fr_of (N := 16) ho ha
 clear S
 refine ws <| s_mvv (v := vU x1) rfl <| s_asv (v := vU x1) rfl <| wpl_nil <| nrm <| wpc_ret <| outRw fun we hpd => ?_
 replace S4 := St.pd S4 hpd
 have e0 := Option.some.inj hm
 subst e0
 replace L0 := Mem.tr L0 l3
 exact outR [_] rfl ⟨rfl, trivial⟩ ⟨_, L0, S4, rfl⟩

def m_ref02_round_b4 (a0 : UInt64 × UInt64 × UInt64) (a1 : Int) (s1 : Int × UInt64 × UInt64 × UInt64) : Option ((Int × UInt64 × UInt64 × UInt64) ⊕ (UInt64 × UInt64 × UInt64)) :=
  if (decide (s1.1 < 3)) = true then
    obind (m_ref02_raised (toU (w64 ((w64 ((w64 (3 * a1)) + s1.1)) + 1))) 3) fun x4 =>
    obind (m_ref01_Add x4 7) fun x5 =>
    obind (idx [a0.1, a0.2.1, a0.2.2] s1.1) fun x6 =>
    obind (m_ref01_Add x6 x5) fun x7 =>
    obind (m_ref02_raised x7 17) fun x8 =>
    obind (idx [s1.2.1, s1.2.2.1, s1.2.2.2] s1.1) fun x9 =>
    bnd (if s1.1 = 0 then x8 else s1.2.1) fun x10 =>
    bnd (if s1.1 = 1 then x8 else s1.2.2.1) fun x11 =>
    bnd (if s1.1 = 2 then x8 else s1.2.2.2) fun x12 =>
    some (.inl ((w64 (s1.1 + 1)), x10, x11, x12))
  else
  some (.inr (s1.2.1, s1.2.2.1, s1.2.2.2))

def m_ref02_round_b5 (x14 : UInt64) (s2 : Int × UInt64 × UInt64 × UInt64) : Option ((Int × UInt64 × UInt64 × UInt64) ⊕ (UInt64 × UInt64 × UInt64)) :=
  if (decide (s2.1 < 3)) = true then
    obind (idx [s2.2.1, s2.2.2.1, s2.2.2.2] s2.1) fun x18 =>
    obind (m_ref01_Add x18 x14) fun x19 =>
    obind (idx [s2.2.1, s2.2.2.1, s2.2.2.2] s2.1) fun x20 =>
    bnd (if s2.1 = 0 then x19 else s2.2.1) fun x21 =>
    bnd (if s2.1 = 1 then x19 else s2.2.2.1) fun x22 =>
    bnd (if s2.1 = 2 then x19 else s2.2.2.2) fun x23 =>
    some (.inl ((w64 (s2.1 + 1)), x21, x22, x23))
  else
  some (.inr (s2.2.1, s2.2.2.1, s2.2.2.2))

def m_ref02_round (a0 : UInt64 × UInt64 × UInt64) (a1 : Int) : Option (UInt64 × UInt64 × UInt64) :=
  obind (
    obind (iter (m_ref02_round_b4 a0 a1) FUEL (0, 0, 0, 0)) fun x2 =>
    some (x2.1, x2.2.1, x2.2.2)
  ) fun x1 =>
  obind (m_ref01_Add x1.1 x1.2.1) fun x13 =>
  obind (m_ref01_Add x13 x1.2.2) fun x14 =>
  obind (
    obind (iter (m_ref02_round_b5 x14) FUEL (0, x1.1, x1.2.1, x1.2.2)) fun x16 =>
    some (x16.1, x16.2.1, x16.2.2)
  ) fun x15 =>
  some x15

theorem w_ref02_round {m : Mem} {As : List Ow} {w : World} {a0 : UInt64 × UInt64 × UInt64} {a1 : Int} {r : UInt64 × UInt64 × UInt64} (S : St m (As) w) (hm : m_ref02_round a0 a1 = some r) :
    CallsR Tryz.prog 163 #[.agg #[vU a0.1, vU a0.2.1, vU a0.2.2], vI a1] w fun v w' => ∃ (M : Mem), m ≤ M ∧ St M (As) w' ∧ v = .agg #[vU r.1, vU r.2.1, vU r.2.2] := by
 unfold m_ref02_round at hm
 have L0 := Mem.rfl' m
 refine callsR (args := [.agg #[vU a0.1, vU a0.2.1, vU a0.2.2], vI a1]) func163 rfl ntmps163 (nb rfl) <| ws <| s_box S rfl fun b1 w1 S1 => ?_
 replace S1 : St _ ((bx b1 [vU a0.1, vU a0.2.1, vU a0.2.2] 144) :: As) _ := S1
 clear S
 refine s_alloc S1 zeroValue144 fun b2 w2 S2 => nx <| s_alloc S2 zeroValue144 fun b3 w3 S3 => ?_
 replace S3 : St _ ((bx b3 [vU 0, vU 0, vU 0] 144) :: (bx b2 [vU 0, vU 0, vU 0] 144) :: (bx b1 [vU a0.1, vU a0.2.1, vU a0.2.2] 144) :: As) _ := S3
 clear S1 S2
 refine wpl_nil <| nrm ?_
 obtain ⟨x1, q1, hm⟩ := obind_some hm
 have L1 := Mem.rfl' m
 refine wpc_seq <| wpc_join [6, 7, 10, 11, 12, 13, 14, 15, 16, 17, 18, 19, 20, 21, 22, 23, 24, 25, 26, 27, 28, 29] (fun f' w' => ∃ (M1 : Mem), m ≤ M1 ∧ St M1 ((bx b3 [vU x1.1, vU x1.2.1, vU x1.2.2] 144) :: (bx b2 [vU 0, vU 0, vU 0] 144) :: (bx b1 [vU a0.1, vU a0.2.1, vU a0.2.2] 144) :: As) w' ∧ AllAt f' []) ?_ ?_
 · refine ws <| s_asv (v := vI 0) rfl <| wpl_nil <| nrm ?_
   obtain ⟨x2, q2, q1⟩ := obind_some q1
   have L2 := Mem.rfl' m
   refine wpc_join [6, 7, 10, 11, 12, 13, 14, 15, 16, 17, 18, 19, 20, 21, 22, 23, 24, 25, 26, 27, 28, 29] (fun f' w' => ∃ (M2 : Mem), m ≤ M2 ∧ St M2 ((bx b3 [vU x2.1, vU x2.2.1, vU x2.2.2] 144) :: (bx b2 [vU 0, vU 0, vU 0] 144) :: (bx b1 [vU a0.1, vU a0.2.1, vU a0.2.2] 144) :: As) w' ∧ AllAt f' []) ?_ ?_
   · refine wpc_block <| wpc_rounds [6, 7, 10, 11, 12, 13, 14, 15, 16, 17, 18, 19, 20, 21, 22, 23, 24, 25, 26, 27, 28, 29] (fun n1 f' w' => ∃ (s1 : Int × UInt64 × UInt64 × UInt64) (m6 : Mem), iter (m_ref02_round_b4 a0 a1) n1 s1 = some x2 ∧ m ≤ m6 ∧ St m6 ((bx b3 [vU s1.2.1, vU s1.2.2.1, vU s1.2.2.2] 144) :: (bx b2 [vU 0, vU 0, vU 0] 144) :: (bx b1 [vU a0.1, vU a0.2.1, vU a0.2.2] 144) :: As) w' ∧ AllAt f' [(6, vI s1.1)]) FUEL ⟨(0, 0, 0, 0), m, q2, L2, S3, ⟨rfl, trivial⟩⟩ ?_
     rintro n1 f1 w4 ho ⟨s1, m1, q3, L4, S4, ha⟩
     obtain ⟨u1, rfl⟩ := fr_of (N := 50) ho ha
     clear ho ha
     have L3 := Mem.rfl' m1
     clear S3
     cases n1 with
     | zero => exact (iter_zero q3).elim
     | succ n1 =>
      obtain ⟨y1, q5, q4⟩ := iter_succ q3
      unfold m_ref02_round_b4 at q5
      refine wpc_seq <| ws <| s_mvv (v := vI s1.1) rfl <| s_lss (m := s1.1) (n := 3) rfl rfl <| wpl_nil <| nrm <| wpc_if (t := (decide (s1.1 < 3))) rfl (fun hc1 => ?_) (fun hc1 => ?_)
      · replace q5 := ifT hc1 q5
        refine wpc_skip <| nrm <| wpc_seq <| wpc_block <| ws <| s_mvv (v := vI a1) rfl <| s_mulI (m := 3) (n := a1) rfl rfl <| s_mvv (v := vI s1.1) rfl <| s_addI (m := (w64 (3 * a1))) (n := s1.1) rfl rfl <| s_addI (m := (w64 ((w64 (3 * a1)) + s1.1))) (n := 1) rfl rfl <| s_convU rfl underlying3 underlying22 ?_
        obtain ⟨x4, q7, q5⟩ := obind_some q5
        refine s_call call168 (w_ref02_raised (a0 := (toU (w64 ((w64 ((w64 (3 * a1)) + s1.1)) + 1)))) (a1 := 3) S4  q7) rfl ?_
        rintro _ w5 ⟨m2, l1, S5, rfl⟩
        clear S4
        obtain ⟨x5, q8, q5⟩ := obind_some q5
        refine s_call call148 (w_ref01_Add (a0 := x4) (a1 := 7) S5  q8) rfl ?_
        rintro _ w6 ⟨m3, l2, S6, rfl⟩
        clear S5
        refine s_asv (v := vU x5) rfl <| wpl_nil <| nrm <| wpc_region <| s_mvv (v := vI s1.1) rfl <| s_mvv (v := vI s1.1) rfl ?_
        obtain ⟨x6, q9, q5⟩ := obind_some q5
        refine s_idxA (i := s1.1) rfl rfl underlying144 sizeOf22 (idx_rng q9).1 (idx_rng q9).2 <| s_ld (i := 2) (off := 0 + s1.1.toNat * 1) (cs := [vU x6]) S6 rfl rfl isAgg22 sizeOf22 (by rcases idx3 q9 with ⟨h, h'⟩ | ⟨h, h'⟩ | ⟨h, h'⟩ <;> (rw [h, h']; rfl)) (fun _ => rfl) <| s_mvv (v := vU x5) rfl ?_
        obtain ⟨x7, q10, q5⟩ := obind_some q5
        refine s_call call148 (w_ref01_Add (a0 := x6) (a1 := x5) S6  q10) rfl ?_
        rintro _ w7 ⟨m4, l3, S7, rfl⟩
        clear S6
        obtain ⟨x8, q11, q5⟩ := obind_some q5
        refine s_call call168 (w_ref02_raised (a0 := x7) (a1 := 17) S7  q11) rfl ?_
        rintro _ w8 ⟨m5, l4, S8, rfl⟩
        clear S7
        obtain ⟨x9, q12, q5⟩ := obind_some q5
        refine s_idxA (i := s1.1) rfl rfl underlying144 sizeOf22 (idx_rng q12).1 (idx_rng q12).2 ?_
        obtain ⟨x10, q13, q5⟩ := bnd_eq q5
        obtain ⟨x11, q14, q5⟩ := bnd_eq q5
        obtain ⟨x12, q15, q5⟩ := bnd_eq q5
        refine s_st (i := 0) (off := 0 + s1.1.toNat * 1) S8 rfl rfl rfl sizeOf22 (OneL.all (oneC rfl oneN)) (by rcases idx3 q12 with ⟨h, h'⟩ | ⟨h, h'⟩ | ⟨h, h'⟩ <;> (rw [h]; exact nb rfl)) fun w9 S9 => ?_
        replace S9 := St.cellsTo (i := 0) (l' := [vU x10, vU x11, vU x12]) S9 (by rcases idx3 q12 with ⟨h, h'⟩ | ⟨h, h'⟩ | ⟨h, h'⟩ <;> (simp only [q13, q14, q15, h]; rfl)) rfl
        replace S9 : St _ ((bx b3 [vU x10, vU x11, vU x12] 144) :: (bx b2 [vU 0, vU 0, vU 0] 144) :: (bx b1 [vU a0.1, vU a0.2.1, vU a0.2.2] 144) :: As) _ := S9
        clear S8
        refine wpl_nil <| nrmB <| nrm <| wpc_region <| s_mvv (v := vI s1.1) rfl <| s_addI (m := s1.1) (n := 1) rfl rfl <| s_asv (v := vI (w64 (s1.1 + 1))) rfl <| wpl_nil <| nrm ?_
        have e0 := Option.some.inj q5
        subst e0
        rcases q4 with ⟨sn, e, q4'⟩ | e
        · cases e
          replace L3 := Mem.tr L3 (mt l1 (mt l2 (mt l3 l4)))
          exact ⟨outP, _, Nat.lt_succ_self _, ⟨_, m5, q4', Mem.tr L4 L3, S9, ⟨rfl, trivial⟩⟩⟩
        · cases e
      replace q5 := ifF hc1 q5
      refine wpc_exit <| thE <| thE <| exB <| nrm ?_
      have e0 := Option.some.inj q5
      subst e0
      rcases q4 with ⟨sn, e, _⟩ | e
      · cases e
      · cases e
        exact ⟨outP, m1, Mem.tr L4 L3, S4, trivial⟩
   rintro f2 w10 ho ⟨m7, l5, S10, ha⟩
   obtain ⟨u2, rfl⟩ := fr_of (N := 50) ho ha
   clear ho ha S3
   have e0 := Option.some.inj q1
   subst e0
   replace L1 := Mem.tr L1 l5
   exact ⟨outP, m7, L1, S10, trivial⟩
 rintro f3 w11 ho ⟨m8, l6, S11, ha⟩
 obtain ⟨u3, rfl⟩ := fr_of (N := 50) ho ha
 clear S3
 refine wpc_seq ?_
 obtain ⟨x13, q16, hm⟩ := obind_some hm
 have HM : MonoAll [(30, fv (pt b3 0)), (31, fv (vU x1.1)), (32, fv (pt b3 1)), (33, fv (vU x1.2.1)), (34, fv (vU x13)), (35, fv (pt b3 2)), (36, fv (vU x1.2.2))] := ⟨mv, mv, mv, mv, mv, mv, mv, trivial⟩
 refine wpc_flowG HM 7 mixed rfl rfl rfl (rg 30 7) (fun L f M w => St M ((bx b3 [vU x1.1, vU x1.2.1, vU x1.2.2] 144) :: (bx b2 [vU 0, vU 0, vU 0] 144) :: (bx b1 [vU a0.1, vU a0.2.1, vU a0.2.2] 144) :: As) w) (St.drew S11 _) ?_ ?_
 · refine ⟨?_, ?_, ?_, ?_, ?_, ?_, ?_, trivial⟩
   · exact flp HM rfl [] (fun _ _ => trivial) (fun _ _ q => s_idxA (i := 0) rfl rfl underlying144 sizeOf22 (by decide) (by decide) q) rfl
   · exact flp HM rfl [(30, _)] (fun K _ => ⟨K 0 rfl, trivial⟩) (fun _ S13 q => s_ld (i := 0) (cs := [vU x1.1]) S13 rfl rfl isAgg22 sizeOf22 rfl (fun _ => rfl) q) rfl
   · exact flp HM rfl [] (fun _ _ => trivial) (fun _ _ q => s_idxA (i := 1) rfl rfl underlying144 sizeOf22 (by decide) (by decide) q) rfl
   · exact flp HM rfl [(32, _)] (fun K _ => ⟨K 2 rfl, trivial⟩) (fun _ S15 q => s_ld (i := 0) (cs := [vU x1.2.1]) S15 rfl rfl isAgg22 sizeOf22 rfl (fun _ => rfl) q) rfl
   · intro L f8 w16 hL hd hc ⟨m13, L13, S16, K, hO⟩
     obtain ⟨u8, rfl⟩ := fr_of (N := 50) (L := [(31, _), (33, _)]) hO ⟨K 1 (dep hd rfl), K 3 (dep hd rfl), trivial⟩
     have L14 := Mem.rfl' m13
     refine s_call call148 (w_ref01_Add (a0 := x1.1) (a1 := x1.2.1) S16  q16) rfl ?_
     rintro _ w17 ⟨m14, l7, S17, rfl⟩
     clear S16
     refine wpn ?_
     replace L14 := Mem.tr L14 l7
     exact ⟨m14, Mem.tr L13 L14, S17, facts_step HM rfl K L14 rfl rfl rfl, outP⟩
   · exact flp HM rfl [] (fun _ _ => trivial) (fun _ _ q => s_idxA (i := 2) rfl rfl underlying144 sizeOf22 (by decide) (by decide) q) rfl
   · exact flp HM rfl [(35, _)] (fun K _ => ⟨K 5 rfl, trivial⟩) (fun _ S19 q => s_ld (i := 0) (cs := [vU x1.2.2]) S19 rfl rfl isAgg22 sizeOf22 rfl (fun _ => rfl) q) rfl
 intro L f11 w20 hall ⟨m17, L19, S20, K, hO⟩
 have d4 : L 4 = true := hall 4 (by decide)
 have d6 : L 6 = true := hall 6 (by decide)
 obtain ⟨u11, rfl⟩ := fr_of (N := 50) (L := [(34, _), (36, _)]) hO ⟨K 4 d4, K 6 d6, trivial⟩
 replace S20 : St _ ((bx b3 [vU x1.1, vU x1.2.1, vU x1.2.2] 144) :: (bx b2 [vU 0, vU 0, vU 0] 144) :: (bx b1 [vU a0.1, vU a0.2.1, vU a0.2.2] 144) :: As) _ := S20
 clear S11
 obtain ⟨x14, q17, hm⟩ := obind_some hm
 refine s_call call148 (w_ref01_Add (a0 := x13) (a1 := x1.2.2) S20  q17) rfl ?_
 rintro _ w21 ⟨m18, l8, S21, rfl⟩
 clear S20
 refine s_asv (v := vU x14) rfl <| wpl_nil <| nrm ?_
 obtain ⟨x15, q18, hm⟩ := obind_some hm
 have L20 := Mem.rfl' m18
 refine wpc_seq <| wpc_join [9, 38, 39, 40, 41, 42, 43, 44, 45, 46, 47, 48] (fun f' w' => ∃ (M3 : Mem), m18 ≤ M3 ∧ St M3 ((bx b3 [vU x15.1, vU x15.2.1, vU x15.2.2] 144) :: (bx b2 [vU 0, vU 0, vU 0] 144) :: (bx b1 [vU a0.1, vU a0.2.1, vU a0.2.2] 144) :: As) w' ∧ AllAt f' []) ?_ ?_
 · refine ws <| s_asv (v := vI 0) rfl <| wpl_nil <| nrm ?_
   obtain ⟨x16, q19, q18⟩ := obind_some q18
   have L21 := Mem.rfl' m18
   refine wpc_join [9, 38, 39, 40, 41, 42, 43, 44, 45, 46, 47, 48] (fun f' w' => ∃ (M4 : Mem), m18 ≤ M4 ∧ St M4 ((bx b3 [vU x16.1, vU x16.2.1, vU x16.2.2] 144) :: (bx b2 [vU 0, vU 0, vU 0] 144) :: (bx b1 [vU a0.1, vU a0.2.1, vU a0.2.2] 144) :: As) w' ∧ AllAt f' []) ?_ ?_
   · refine wpc_block <| wpc_rounds [9, 38, 39, 40, 41, 42, 43, 44, 45, 46, 47, 48] (fun n2 f' w' => ∃ (s2 : Int × UInt64 × UInt64 × UInt64) (m21 : Mem), iter (m_ref02_round_b5 x14) n2 s2 = some x16 ∧ m18 ≤ m21 ∧ St m21 ((bx b3 [vU s2.2.1, vU s2.2.2.1, vU s2.2.2.2] 144) :: (bx b2 [vU 0, vU 0, vU 0] 144) :: (bx b1 [vU a0.1, vU a0.2.1, vU a0.2.2] 144) :: As) w' ∧ AllAt f' [(9, vI s2.1)]) FUEL ⟨(0, x1.1, x1.2.1, x1.2.2), m18, q19, L21, S21, ⟨rfl, trivial⟩⟩ ?_
     rintro n2 f12 w22 ho ⟨s2, m19, q20, L23, S22, ha⟩
     obtain ⟨u12, rfl⟩ := fr_of (N := 50) ho ha
     clear ho ha
     have L22 := Mem.rfl' m19
     clear S21
     cases n2 with
     | zero => exact (iter_zero q20).elim
     | succ n2 =>
      obtain ⟨y2, q22, q21⟩ := iter_succ q20
      unfold m_ref02_round_b5 at q22
      refine wpc_seq <| ws <| s_mvv (v := vI s2.1) rfl <| s_lss (m := s2.1) (n := 3) rfl rfl <| wpl_nil <| nrm <| wpc_if (t := (decide (s2.1 < 3))) rfl (fun hc2 => ?_) (fun hc2 => ?_)
      · replace q22 := ifT hc2 q22
        refine wpc_skip <| nrm <| wpc_seq <| wpc_block <| wpc_region <| s_mvv (v := vI s2.1) rfl <| s_mvv (v := vI s2.1) rfl ?_
        obtain ⟨x18, q24, q22⟩ := obind_some q22
        refine s_idxA (i := s2.1) rfl rfl underlying144 sizeOf22 (idx_rng q24).1 (idx_rng q24).2 <| s_ld (i := 0) (off := 0 + s2.1.toNat * 1) (cs := [vU x18]) S22 rfl rfl isAgg22 sizeOf22 (by rcases idx3 q24 with ⟨h, h'⟩ | ⟨h, h'⟩ | ⟨h, h'⟩ <;> (rw [h, h']; rfl)) (fun _ => rfl) <| s_mvv (v := vU x14) rfl ?_
        obtain ⟨x19, q25, q22⟩ := obind_some q22
        refine s_call call148 (w_ref01_Add (a0 := x18) (a1 := x14) S22  q25) rfl ?_
        rintro _ w23 ⟨m20, l9, S23, rfl⟩
        clear S22
        obtain ⟨x20, q26, q22⟩ := obind_some q22
        refine s_idxA (i := s2.1) rfl rfl underlying144 sizeOf22 (idx_rng q26).1 (idx_rng q26).2 ?_
        obtain ⟨x21, q27, q22⟩ := bnd_eq q22
        obtain ⟨x22, q28, q22⟩ := bnd_eq q22
        obtain ⟨x23, q29, q22⟩ := bnd_eq q22
        refine s_st (i := 0) (off := 0 + s2.1.toNat * 1) S23 rfl rfl rfl sizeOf22 (OneL.all (oneC rfl oneN)) (by rcases idx3 q26 with ⟨h, h'⟩ | ⟨h, h'⟩ | ⟨h, h'⟩ <;> (rw [h]; exact nb rfl)) fun w24 S24 => ?_
        replace S24 := St.cellsTo (i := 0) (l' := [vU x21, vU x22, vU x23]) S24 (by rcases idx3 q26 with ⟨h, h'⟩ | ⟨h, h'⟩ | ⟨h, h'⟩ <;> (simp only [q27, q28, q29, h]; rfl)) rfl
        replace S24 : St _ ((bx b3 [vU x21, vU x22, vU x23] 144) :: (bx b2 [vU 0, vU 0, vU 0] 144) :: (bx b1 [vU a0.1, vU a0.2.1, vU a0.2.2] 144) :: As) _ := S24
        clear S23
        refine wpl_nil <| nrmB <| nrm <| wpc_region <| s_mvv (v := vI s2.1) rfl <| s_addI (m := s2.1) (n := 1) rfl rfl <| s_asv (v := vI (w64 (s2.1 + 1))) rfl <| wpl_nil <| nrm ?_
        have e0 := Option.some.inj q22
        subst e0
        rcases q21 with ⟨sn, e, q21'⟩ | e
        · cases e
          replace L22 := Mem.tr L22 l9
          exact ⟨outP, _, Nat.lt_succ_self _, ⟨_, m20, q21', Mem.tr L23 L22, S24, ⟨rfl, trivial⟩⟩⟩
        · cases e
      replace q22 := ifF hc2 q22
      refine wpc_exit <| thE <| thE <| exB <| nrm ?_
      have e0 := Option.some.inj q22
      subst e0
      rcases q21 with ⟨sn, e, _⟩ | e
      · cases e
      · cases e
        exact ⟨outP, m19, Mem.tr L23 L22, S22, trivial⟩
   rintro f13 w25 ho ⟨m22, l10, S25, ha⟩
   obtain ⟨u13, rfl⟩ := fr_of (N := 50) ho ha
   clear ho ha S21
   have e0 := Option.some.inj q18
   subst e0
   replace L20 := Mem.tr L20 l10
   exact ⟨outP, m22, L20, S25, trivial⟩
 rintro f14 w26 ho ⟨m23, l11, S26, ha⟩
 obtain ⟨u14, rfl⟩ := fr_of (N := 50) ho ha
 clear S21
 refine ws <| s_ld (i := 0) (cs := [vU x15.1, vU x15.2.1, vU x15.2.2]) S26 rfl rfl isAgg144 sizeOf144 rfl (fun h => by cases h) <| s_stL (i := 1) S26 rfl rfl rfl sizeOf144 (oneC rfl (oneC rfl (oneC rfl oneN))) rfl fun w27 S27 => ?_
 replace S27 : St _ ((bx b3 [vU x15.1, vU x15.2.1, vU x15.2.2] 144) :: (bx b2 [vU x15.1, vU x15.2.1, vU x15.2.2] 144) :: (bx b1 [vU a0.1, vU a0.2.1, vU a0.2.2] 144) :: As) _ := S27
 clear S26
 refine wpl_nil <| nrm <| wpc_ret <| outRw fun we hpd => ?_
 replace S27 := St.pd S27 hpd
 have SR := S27
 obtain ⟨m24, l12, S28⟩ := St.drop S27 0
 replace S28 : St _ ((bx b2 [vU x15.1, vU x15.2.1, vU x15.2.2] 144) :: (bx b1 [vU a0.1, vU a0.2.1, vU a0.2.2] 144) :: As) _ := S28
 obtain ⟨m25, l13, S29⟩ := St.drop S28 0
 clear S28
 replace S29 : St _ ((bx b1 [vU a0.1, vU a0.2.1, vU a0.2.2] 144) :: As) _ := S29
 obtain ⟨m26, l14, S30⟩ := St.drop S29 0
 clear S29
 replace S30 : St _ (As) _ := S30
 have e0 := Option.some.inj hm
 subst e0
 replace L0 := Mem.tr L0 (mt l6 (mt L19 (mt l8 (mt l11 (mt l12 (mt l13 l14))))))
 exact outR [_] rfl ⟨res_box (i := 1) (off := 0) (cs := [vU x15.1, vU x15.2.1, vU x15.2.2]) SR rfl rfl isAgg144 sizeOf144 rfl (fun h => by cases h), trivial⟩ ⟨_, L0, S30, rfl⟩

def m_ref02_Mix_b3  (s1 : Int × UInt64 × UInt64 × UInt64) : Option ((Int × UInt64 × UInt64 × UInt64) ⊕ (UInt64 × UInt64 × UInt64)) :=
  if (decide (s1.1 < 8)) = true then
    obind (m_ref02_round s1.2 s1.1) fun x4 =>
    some (.inl ((w64 (s1.1 + 1)), x4.1, x4.2.1, x4.2.2))
  else
  some (.inr (s1.2.1, s1.2.2.1, s1.2.2.2))

def m_ref02_Mix (a0 : UInt64 × UInt64 × UInt64) : Option (UInt64 × UInt64 × UInt64) :=
  obind (
    obind (iter m_ref02_Mix_b3 FUEL (0, a0.1, a0.2.1, a0.2.2)) fun x2 =>
    some (x2.1, x2.2.1, x2.2.2)
  ) fun x1 =>
  some x1

theorem w_ref02_Mix {m : Mem} {As : List Ow} {w : World} {a0 : UInt64 × UInt64 × UInt64} {r : UInt64 × UInt64 × UInt64} (S : St m (As) w) (hm : m_ref02_Mix a0 = some r) :
    CallsR Tryz.prog 149 #[.agg #[vU a0.1, vU a0.2.1, vU a0.2.2]] w fun v w' => ∃ (M : Mem), m ≤ M ∧ St M (As) w' ∧ v = .agg #[vU r.1, vU r.2.1, vU r.2.2] := by
 unfold m_ref02_Mix at hm
 have L0 := Mem.rfl' m
 refine callsR (args := [.agg #[vU a0.1, vU a0.2.1, vU a0.2.2]]) func149 rfl ntmps149 (nb rfl) <| ws <| s_box S rfl fun b1 w1 S1 => ?_
 replace S1 : St _ ((bx b1 [vU a0.1, vU a0.2.1, vU a0.2.2] 144) :: As) _ := S1
 clear S
 refine s_alloc S1 zeroValue144 fun b2 w2 S2 => ?_
 replace S2 : St _ ((bx b2 [vU 0, vU 0, vU 0] 144) :: (bx b1 [vU a0.1, vU a0.2.1, vU a0.2.2] 144) :: As) _ := S2
 clear S1
 refine wpl_nil <| nrm ?_
 obtain ⟨x1, q1, hm⟩ := obind_some hm
 have L1 := Mem.rfl' m
 refine wpc_seq <| wpc_join (rg 3 8) (fun f' w' => ∃ (M1 : Mem), m ≤ M1 ∧ St M1 ((bx b2 [vU 0, vU 0, vU 0] 144) :: (bx b1 [vU x1.1, vU x1.2.1, vU x1.2.2] 144) :: As) w' ∧ AllAt f' []) ?_ ?_
 · refine ws <| s_asv (v := vI 0) rfl <| wpl_nil <| nrm ?_
   obtain ⟨x2, q2, q1⟩ := obind_some q1
   have L2 := Mem.rfl' m
   refine wpc_join (rg 3 8) (fun f' w' => ∃ (M2 : Mem), m ≤ M2 ∧ St M2 ((bx b2 [vU 0, vU 0, vU 0] 144) :: (bx b1 [vU x2.1, vU x2.2.1, vU x2.2.2] 144) :: As) w' ∧ AllAt f' []) ?_ ?_
   · refine wpc_block <| wpc_rounds (rg 3 8) (fun n1 f' w' => ∃ (s1 : Int × UInt64 × UInt64 × UInt64) (m3 : Mem), iter m_ref02_Mix_b3 n1 s1 = some x2 ∧ m ≤ m3 ∧ St m3 ((bx b2 [vU 0, vU 0, vU 0] 144) :: (bx b1 [vU s1.2.1, vU s1.2.2.1, vU s1.2.2.2] 144) :: As) w' ∧ AllAt f' [(3, vI s1.1)]) FUEL ⟨(0, a0.1, a0.2.1, a0.2.2), m, q2, L2, S2, ⟨rfl, trivial⟩⟩ ?_
     rintro n1 f1 w3 ho ⟨s1, m1, q3, L4, S3, ha⟩
     obtain ⟨u1, rfl⟩ := fr_of (N := 12) ho ha
     clear ho ha
     have L3 := Mem.rfl' m1
     clear S2
     cases n1 with
     | zero => exact (iter_zero q3).elim
     | succ n1 =>
      obtain ⟨y1, q5, q4⟩ := iter_succ q3
      unfold m_ref02_Mix_b3 at q5
      refine wpc_seq <| ws <| s_mvv (v := vI s1.1) rfl <| s_lss (m := s1.1) (n := 8) rfl rfl <| wpl_nil <| nrm <| wpc_if (t := (decide (s1.1 < 8))) rfl (fun hc1 => ?_) (fun hc1 => ?_)
      · replace q5 := ifT hc1 q5
        refine wpc_skip <| nrm <| wpc_seq <| wpc_block <| wpc_region <| s_ld (i := 1) (cs := [vU s1.2.1, vU s1.2.2.1, vU s1.2.2.2]) S3 rfl rfl isAgg144 sizeOf144 rfl (fun h => by cases h) <| s_mvv (v := vI s1.1) rfl ?_
        obtain ⟨x4, q7, q5⟩ := obind_some q5
        refine s_call call163 (w_ref02_round (a0 := s1.2) (a1 := s1.1) S3  q7) rfl ?_
        rintro _ w4 ⟨m2, l1, S4, rfl⟩
        clear S3
        refine s_stL (i := 1) S4 rfl rfl rfl sizeOf144 (oneC rfl (oneC rfl (oneC rfl oneN))) rfl fun w5 S5 => ?_
        replace S5 : St _ ((bx b2 [vU 0, vU 0, vU 0] 144) :: (bx b1 [vU x4.1, vU x4.2.1, vU x4.2.2] 144) :: As) _ := S5
        clear S4
        refine wpl_nil <| nrmB <| nrm <| wpc_region <| s_mvv (v := vI s1.1) rfl <| s_addI (m := s1.1) (n := 1) rfl rfl <| s_asv (v := vI (w64 (s1.1 + 1))) rfl <| wpl_nil <| nrm ?_
        have e0 := Option.some.inj q5
        subst e0
        rcases q4 with ⟨sn, e, q4'⟩ | e
        · cases e
          replace L3 := Mem.tr L3 l1
          exact ⟨outP, _, Nat.lt_succ_self _, ⟨_, m2, q4', Mem.tr L4 L3, S5, ⟨rfl, trivial⟩⟩⟩
        · cases e
      replace q5 := ifF hc1 q5
      refine wpc_exit <| thE <| thE <| exB <| nrm ?_
      have e0 := Option.some.inj q5
      subst e0
      rcases q4 with ⟨sn, e, _⟩ | e
      · cases e
      · cases e
        exact ⟨outP, m1, Mem.tr L4 L3, S3, trivial⟩
   rintro f2 w6 ho ⟨m4, l2, S6, ha⟩
   obtain ⟨u2, rfl⟩ := fr_of (N := 12) ho ha
   clear ho ha S2
   have e0 := Option.some.inj q1
   subst e0
   replace L1 := Mem.tr L1 l2
   exact ⟨outP, m4, L1, S6, trivial⟩
 rintro f3 w7 ho ⟨m5, l3, S7, ha⟩
 obtain ⟨u3, rfl⟩ := fr_of (N := 12) ho ha
 clear S2
 refine ws <| s_ld (i := 1) (cs := [vU x1.1, vU x1.2.1, vU x1.2.2]) S7 rfl rfl isAgg144 sizeOf144 rfl (fun h => by cases h) <| s_stL (i := 0) S7 rfl rfl rfl sizeOf144 (oneC rfl (oneC rfl (oneC rfl oneN))) rfl fun w8 S8 => ?_
 replace S8 : St _ ((bx b2 [vU x1.1, vU x1.2.1, vU x1.2.2] 144) :: (bx b1 [vU x1.1, vU x1.2.1, vU x1.2.2] 144) :: As) _ := S8
 clear S7
 refine wpl_nil <| nrm <| wpc_ret <| outRw fun we hpd => ?_
 replace S8 := St.pd S8 hpd
 have SR := S8
 obtain ⟨m6, l4, S9⟩ := St.drop S8 0
 replace S9 : St _ ((bx b1 [vU x1.1, vU x1.2.1, vU x1.2.2] 144) :: As) _ := S9
 obtain ⟨m7, l5, S10⟩ := St.drop S9 0
 clear S9
 replace S10 : St _ (As) _ := S10
 have e0 := Option.some.inj hm
 subst e0
 replace L0 := Mem.tr L0 (mt l3 (mt l4 l5))
 exact outR [_] rfl ⟨res_box (i := 0) (off := 0) (cs := [vU x1.1, vU x1.2.1, vU x1.2.2]) SR rfl rfl isAgg144 sizeOf144 rfl (fun h => by cases h), trivial⟩ ⟨_, L0, S10, rfl⟩

def m_ref02_Sum_b3 (x1 : List UInt64) (s1 : Int × UInt64 × UInt64 × UInt64) : Option ((Int × UInt64 × UInt64 × UInt64) ⊕ (UInt64 × UInt64 × UInt64)) :=
  if ((decide (s1.1 < (x1.length : Int))) || (s1.1 == 0)) = true then
    obind (
      if (decide (s1.1 < (x1.length : Int))) = true then
        obind (idx x1 s1.1) fun x6 =>
        obind (m_ref01_Add s1.2.1 x6) fun x7 =>
        some x7
      else
      some s1.2.1
    ) fun x5 =>
    obind (
      if (decide ((w64 (s1.1 + 1)) < (x1.length : Int))) = true then
        obind (idx x1 (w64 (s1.1 + 1))) fun x9 =>
        obind (m_ref01_Add s1.2.2.1 x9) fun x10 =>
        some x10
      else
      some s1.2.2.1
    ) fun x8 =>
    obind (m_ref02_Mix (x5, x8, s1.2.2.2)) fun x11 =>
    some (.inl ((w64 (s1.1 + 2)), x11.1, x11.2.1, x11.2.2))
  else
  some (.inr (s1.2.1, s1.2.2.1, s1.2.2.2))

def m_ref02_Sum (a0 : List UInt8) : Option (UInt64 × UInt64) :=
  obind (m_ref01_Of a0) fun x1 =>
  obind (
    obind (iter (m_ref02_Sum_b3 x1) FUEL (0, 0, 0, (toU (a0.length : Int)))) fun x3 =>
    some (x3.1, x3.2.1, x3.2.2)
  ) fun x2 =>
  some (x2.1, x2.2.1)

theorem w_ref02_Sum {m : Mem} {As : List Ow} {w : World} {a0 : List UInt8} {a0v0 : Value} {r : UInt64 × UInt64} (S : St m (As) w) (a0h0 : SlR m a0v0 a0) (hm : m_ref02_Sum a0 = some r) :
    CallsR Tryz.prog 122 #[a0v0] w fun v w' => ∃ (M : Mem), m ≤ M ∧ St M (As) w' ∧ v = .agg #[vU r.1, vU r.2] := by
 unfold m_ref02_Sum at hm
 have L0 := Mem.rfl' m
 refine callsR (args := [a0v0]) func122 rfl ntmps122 (nb rfl) <| ws <| s_alloc S zeroValue41 fun b1 w1 S1 => ?_
 replace S1 : St _ ((bx b1 z_api_Sig 41) :: As) _ := S1
 clear S
 refine nx <| s_mvv (v := a0v0) rfl ?_
 obtain ⟨x1, q1, hm⟩ := obind_some hm
 refine s_call call147 (w_ref01_Of (a0 := a0) S1 a0h0 q1) rfl ?_
 rintro v1 w2 ⟨m1, l1, _, c1, S2, rfl, h1⟩
 clear S1
 refine s_asv (v := v1) rfl <| nx <| s_mvv (v := a0v0) rfl <| s_lenR (xs := a0) rfl (a0h0.up l1) underlying27 <| s_convU rfl underlying3 underlying22 <| s_build (parts := [(0, .const (.int .u64 0)), (1, .const (.int .u64 0)), (2, .tmp 10)]) (ps := [(0, vU 0, [vU 0]), (1, vU 0, [vU 0]), (2, vU (toU (a0.length : Int)), [vU (toU (a0.length : Int))])]) (cs := [vU 0, vU 0, vU (toU (a0.length : Int))]) zeroValue144 (BuildPl.arr underlying144 sizeOf22) rfl ⟨rfl, rfl, rfl, trivial⟩ rfl <| s_alloc S2 zeroValue144 fun b2 w3 S3 => s_stL (i := 0) S3 rfl rfl rfl sizeOf144 (oneC rfl (oneC rfl (oneC rfl oneN))) rfl fun w4 S4 => ?_
 replace S4 : St _ ((bx b2 [vU 0, vU 0, vU (toU (a0.length : Int))] 144) :: (row 1 v1 c1 x1.length) :: (bx b1 z_api_Sig 41) :: As) _ := S4
 clear S2 S3
 refine wpl_nil <| nrm ?_
 obtain ⟨x2, q2, hm⟩ := obind_some hm
 have L1 := Mem.rfl' m1
 refine wpc_seq <| wpc_join [5, 12, 13, 14, 15, 16, 17, 18, 19, 20, 21, 22, 23, 24, 25, 26, 27, 28, 29, 30, 31, 32, 33, 34, 35, 36, 37, 38, 39, 40, 41, 42, 43, 44, 45, 46, 47, 48, 49] (fun f' w' => ∃ (M1 : Mem), m1 ≤ M1 ∧ St M1 ((bx b2 [vU x2.1, vU x2.2.1, vU x2.2.2] 144) :: (bx b1 z_api_Sig 41) :: As) w' ∧ AllAt f' []) ?_ ?_
 · refine ws <| s_asv (v := vI 0) rfl <| wpl_nil <| nrm ?_
   obtain ⟨x3, q3, q2⟩ := obind_some q2
   have L2 := Mem.rfl' m1
   refine wpc_join [5, 12, 13, 14, 15, 16, 17, 18, 19, 20, 21, 22, 23, 24, 25, 26, 27, 28, 29, 30, 31, 32, 33, 34, 35, 36, 37, 38, 39, 40, 41, 42, 43, 44, 45, 46, 47, 48, 49] (fun f' w' => ∃ (M2 : Mem), m1 ≤ M2 ∧ St M2 ((bx b2 [vU x3.1, vU x3.2.1, vU x3.2.2] 144) :: (bx b1 z_api_Sig 41) :: As) w' ∧ AllAt f' []) ?_ ?_
   · refine wpc_block <| wpc_rounds [5, 12, 13, 14, 15, 16, 17, 18, 19, 20, 21, 22, 23, 24, 25, 26, 27, 28, 29, 30, 31, 32, 33, 34, 35, 36, 37, 38, 39, 40, 41, 42, 43, 44, 45, 46, 47, 48, 49] (fun n1 f' w' => ∃ (s1 : Int × UInt64 × UInt64 × UInt64) (m24 : Mem), iter (m_ref02_Sum_b3 x1) n1 s1 = some x3 ∧ m1 ≤ m24 ∧ St m24 ((bx b2 [vU s1.2.1, vU s1.2.2.1, vU s1.2.2.2] 144) :: (row 1 v1 c1 x1.length) :: (bx b1 z_api_Sig 41) :: As) w' ∧ AllAt f' [(5, vI s1.1)]) FUEL ⟨(0, 0, 0, (toU (a0.length : Int))), m1, q3, L2, S4, ⟨rfl, trivial⟩⟩ ?_
     rintro n1 f1 w5 ho ⟨s1, m2, q4, L4, S5, ha⟩
     obtain ⟨u1, rfl⟩ := fr_of (N := 55) ho ha
     clear ho ha
     have L3 := Mem.rfl' m2
     clear S4
     cases n1 with
     | zero => exact (iter_zero q4).elim
     | succ n1 =>
      obtain ⟨y1, q6, q5⟩ := iter_succ q4
      unfold m_ref02_Sum_b3 at q6
      refine wpc_seq <| ws <| s_mvv (v := vI s1.1) rfl <| s_mvv (v := v1) rfl <| s_lenO (i := 1) S5 rfl rfl underlying145 <| s_lss (m := s1.1) (n := (x1.length : Int)) rfl rfl <| s_mvv (v := vb (decide (s1.1 < (x1.length : Int)))) rfl <| wpl_cut 3 [17, 18, 19] (fun f' w' => w' = w5 ∧ AllAt f' [(19, vb ((decide (s1.1 < (x1.length : Int))) || (s1.1 == 0)))]) ?_ ?_
      · rcases bool_tf (decide (s1.1 < (x1.length : Int))) with hb1 | hb1
        · exact wpl_no (d := 16) rfl rfl (cb hb1) <| wpl_no (d := 16) rfl rfl (cb hb1) <| s_pickT (cb hb1) rfl <| wpl_nil (nrm ⟨outP, rfl, congrArg Value.bool (or_t hb1), trivial⟩)
        · exact wpl_yes (d := 16) rfl rfl (cb hb1) <| s_mvv (v := vI s1.1) rfl <| wpl_yes (d := 16) rfl rfl (cb hb1) <| s_eql (m := s1.1) (n := 0) rfl rfl <| s_pickF (cb hb1) rfl <| wpl_nil (nrm ⟨outP, rfl, congrArg Value.bool (or_f hb1), trivial⟩)
      rintro f2 w6 ho ⟨h2, ha⟩
      subst h2
      obtain ⟨u2, rfl⟩ := fr_of (N := 55) ho ha
      refine wpl_nil <| nrm <| wpc_if (t := ((decide (s1.1 < (x1.length : Int))) || (s1.1 == 0))) rfl (fun hc1 => ?_) (fun hc1 => ?_)
      · replace q6 := ifT hc1 q6
        refine wpc_skip <| nrm <| wpc_seq <| wpc_block ?_
        obtain ⟨x5, q8, q6⟩ := obind_some q6
        have L5 := Mem.rfl' m2
        refine wpc_seq <| wpc_join (rg 22 12) (fun f' w' => ∃ (M3 : Mem), m2 ≤ M3 ∧ St M3 ((bx b2 [vU x5, vU s1.2.2.1, vU s1.2.2.2] 144) :: (row 1 v1 c1 x1.length) :: (bx b1 z_api_Sig 41) :: As) w' ∧ AllAt f' []) ?_ ?_
        · refine ws <| s_mvv (v := vI s1.1) rfl <| s_mvv (v := v1) rfl <| s_lenO (i := 1) S5 rfl rfl underlying145 <| s_lss (m := s1.1) (n := (x1.length : Int)) rfl rfl <| wpl_nil <| nrm <| wpc_if (t := (decide (s1.1 < (x1.length : Int)))) rfl (fun hc2 => ?_) (fun hc2 => ?_)
          · replace q8 := ifT hc2 q8
            obtain ⟨x6, q9, q8⟩ := obind_some q8
            have HM : MonoAll [(26, fv (pt b2 0)), (27, fv (vU s1.2.1)), (28, fv v1), (29, fv (vI s1.1)), (30, fun (M : Mem) (v : Value) => ∃ (p1 : Value), v = p1 ∧ PtO v1 p1 (s1.1.toNat * 1)), (31, fv (vU x6))] := ⟨mv, mv, mv, mv, (fun _ _ _ l ⟨p1, e, h3⟩ => ⟨p1, e, h3⟩), mv, trivial⟩
            refine wpc_flowG HM 6 mixed rfl rfl rfl (rg 26 6) (fun L f M w => St M ((bx b2 [vU s1.2.1, vU s1.2.2.1, vU s1.2.2.2] 144) :: (row 1 v1 c1 x1.length) :: (bx b1 z_api_Sig 41) :: As) w) (St.drew S5 _) ?_ ?_
            · refine ⟨?_, ?_, ?_, ?_, ?_, ?_, trivial⟩
              · exact flp HM rfl [] (fun _ _ => trivial) (fun _ _ q => s_idxA (i := 0) rfl rfl underlying144 sizeOf22 (by decide) (by decide) q) rfl
              · exact flp HM rfl [(26, _)] (fun K _ => ⟨K 0 rfl, trivial⟩) (fun _ S7 q => s_ld (i := 0) (cs := [vU s1.2.1]) S7 rfl rfl isAgg22 sizeOf22 rfl (fun _ => rfl) q) rfl
              · exact flp HM rfl [] (fun _ _ => trivial) (fun _ _ q => s_mvv (v := v1) rfl q) rfl
              · exact flp HM rfl [] (fun _ _ => trivial) (fun _ _ q => s_mvv (v := vI s1.1) rfl q) rfl
              · intro L f7 w11 hL hd hc ⟨m7, L14, S10, K, hO⟩
                obtain ⟨u7, rfl⟩ := fr_of (N := 55) (L := [(28, _), (29, _)]) hO ⟨K 2 (dep hd rfl), K 3 (dep hd rfl), trivial⟩
                exact s_idxO (i := 1) (j := s1.1) S10 rfl rfl rfl (idx_rng q9).1 (idx_rng q9).2 underlying145 sizeOf22 fun p1 h3 => oS HM L14 S10 rfl K rfl rfl ⟨p1, rfl, h3⟩ outP
              · intro L f8 w12 hL hd hc ⟨m8, L16, S11, K, hO⟩
                obtain ⟨v2, e4, h4⟩ := K 4 (dep hd rfl)
                obtain ⟨u8, rfl⟩ := fr_of (N := 55) (L := [(30, _)]) hO ⟨e4, trivial⟩
                replace h1 := RepL.up (mt L4 L16) h1
                have e5 : _ = [vU x6] := RepL.getI h1 q9
                exact s_ldO (i := 1) (off := s1.1.toNat * 1) (d := [vU x6]) S11 rfl h4 rfl e5 isAgg22 sizeOf22 (fun _ => rfl) <| oS HM L16 S11 rfl K rfl rfl rfl outP
            intro L f9 w13 hall ⟨m9, L18, S12, K, hO⟩
            have d1 : L 1 = true := hall 1 (by decide)
            have d5 : L 5 = true := hall 5 (by decide)
            obtain ⟨u9, rfl⟩ := fr_of (N := 55) (L := [(27, _), (31, _)]) hO ⟨K 1 d1, K 5 d5, trivial⟩
            replace S12 : St _ ((bx b2 [vU s1.2.1, vU s1.2.2.1, vU s1.2.2.2] 144) :: (row 1 v1 c1 x1.length) :: (bx b1 z_api_Sig 41) :: As) _ := S12
            clear S5
            obtain ⟨x7, q10, q8⟩ := obind_some q8
            refine s_call call148 (w_ref01_Add (a0 := s1.2.1) (a1 := x6) S12  q10) rfl ?_
            rintro _ w14 ⟨m10, l2, S13, rfl⟩
            clear S12
            refine s_idxA (i := 0) rfl rfl underlying144 sizeOf22 (by decide) (by decide) <| s_stL (i := 0) S13 rfl rfl rfl sizeOf22 (oneC rfl oneN) rfl fun w15 S14 => ?_
            replace S14 : St _ ((bx b2 [vU x7, vU s1.2.2.1, vU s1.2.2.2] 144) :: (row 1 v1 c1 x1.length) :: (bx b1 z_api_Sig 41) :: As) _ := S14
            clear S13
            refine wpl_nil <| nrm ?_
            have e0 := Option.some.inj q8
            subst e0
            replace L5 := Mem.tr L5 (mt L18 l2)
            exact ⟨outP, m10, L5, S14, trivial⟩
          replace q8 := ifF hc2 q8
          refine wpc_skip <| nrm ?_
          have e0 := Option.some.inj q8
          subst e0
          exact ⟨outP, m2, L5, S5, trivial⟩
        rintro f10 w16 ho ⟨m11, l3, S15, ha⟩
        obtain ⟨u10, rfl⟩ := fr_of (N := 55) ho ha
        clear S5
        obtain ⟨x8, q11, q6⟩ := obind_some q6
        have L19 := Mem.rfl' m11
        refine wpc_seq <| wpc_join (rg 34 14) (fun f' w' => ∃ (M4 : Mem), m11 ≤ M4 ∧ St M4 ((bx b2 [vU x5, vU x8, vU s1.2.2.2] 144) :: (row 1 v1 c1 x1.length) :: (bx b1 z_api_Sig 41) :: As) w' ∧ AllAt f' []) ?_ ?_
        · refine ws <| s_mvv (v := vI s1.1) rfl <| s_addI (m := s1.1) (n := 1) rfl rfl <| s_mvv (v := v1) rfl <| s_lenO (i := 1) S15 rfl rfl underlying145 <| s_lss (m := (w64 (s1.1 + 1))) (n := (x1.length : Int)) rfl rfl <| wpl_nil <| nrm <| wpc_if (t := (decide ((w64 (s1.1 + 1)) < (x1.length : Int)))) rfl (fun hc3 => ?_) (fun hc3 => ?_)
          · replace q11 := ifT hc3 q11
            obtain ⟨x9, q12, q11⟩ := obind_some q11
            have HM : MonoAll [(39, fv (pt b2 1)), (40, fv (vU s1.2.2.1)), (41, fv v1), (42, fv (vI s1.1)), (43, fv (vI (w64 (s1.1 + 1)))), (44, fun (M : Mem) (v : Value) => ∃ (p2 : Value), v = p2 ∧ PtO v1 p2 ((w64 (s1.1 + 1)).toNat * 1)), (45, fv (vU x9))] := ⟨mv, mv, mv, mv, mv, (fun _ _ _ l ⟨p2, e, h5⟩ => ⟨p2, e, h5⟩), mv, trivial⟩
            refine wpc_flowG HM 7 mixed rfl rfl rfl (rg 39 7) (fun L f M w => St M ((bx b2 [vU x5, vU s1.2.2.1, vU s1.2.2.2] 144) :: (row 1 v1 c1 x1.length) :: (bx b1 z_api_Sig 41) :: As) w) (St.drew S15 _) ?_ ?_
            · refine ⟨?_, ?_, ?_, ?_, ?_, ?_, ?_, trivial⟩
              · exact flp HM rfl [] (fun _ _ => trivial) (fun _ _ q => s_idxA (i := 1) rfl rfl underlying144 sizeOf22 (by decide) (by decide) q) rfl
              · exact flp HM rfl [(39, _)] (fun K _ => ⟨K 0 rfl, trivial⟩) (fun _ S17 q => s_ld (i := 0) (cs := [vU s1.2.2.1]) S17 rfl rfl isAgg22 sizeOf22 rfl (fun _ => rfl) q) rfl
              · exact flp HM rfl [] (fun _ _ => trivial) (fun _ _ q => s_mvv (v := v1) rfl q) rfl
              · exact flp HM rfl [] (fun _ _ => trivial) (fun _ _ q => s_mvv (v := vI s1.1) rfl q) rfl
              · exact flp HM rfl [(42, _)] (fun K _ => ⟨K 3 rfl, trivial⟩) (fun _ _ q => s_addI (m := s1.1) (n := 1) rfl rfl q) rfl
              · intro L f16 w22 hL hd hc ⟨m17, L30, S21, K, hO⟩
                obtain ⟨u16, rfl⟩ := fr_of (N := 55) (L := [(41, _), (43, _)]) hO ⟨K 2 (dep hd rfl), K 4 (dep hd rfl), trivial⟩
                exact s_idxO (i := 1) (j := (w64 (s1.1 + 1))) S21 rfl rfl rfl (idx_rng q12).1 (idx_rng q12).2 underlying145 sizeOf22 fun p2 h5 => oS HM L30 S21 rfl K rfl rfl ⟨p2, rfl, h5⟩ outP
              · intro L f17 w23 hL hd hc ⟨m18, L32, S22, K, hO⟩
                obtain ⟨v3, e12, h6⟩ := K 5 (dep hd rfl)
                obtain ⟨u17, rfl⟩ := fr_of (N := 55) (L := [(44, _)]) hO ⟨e12, trivial⟩
                replace h1 := RepL.up (mt L4 (mt l3 L32)) h1
                have e13 : _ = [vU x9] := RepL.getI h1 q12
                exact s_ldO (i := 1) (off := (w64 (s1.1 + 1)).toNat * 1) (d := [vU x9]) S22 rfl h6 rfl e13 isAgg22 sizeOf22 (fun _ => rfl) <| oS HM L32 S22 rfl K rfl rfl rfl outP
            intro L f18 w24 hall ⟨m19, L34, S23, K, hO⟩
            have d1 : L 1 = true := hall 1 (by decide)
            have d6 : L 6 = true := hall 6 (by decide)
            obtain ⟨u18, rfl⟩ := fr_of (N := 55) (L := [(40, _), (45, _)]) hO ⟨K 1 d1, K 6 d6, trivial⟩
            replace S23 : St _ ((bx b2 [vU x5, vU s1.2.2.1, vU s1.2.2.2] 144) :: (row 1 v1 c1 x1.length) :: (bx b1 z_api_Sig 41) :: As) _ := S23
            clear S15
            obtain ⟨x10, q13, q11⟩ := obind_some q11
            refine s_call call148 (w_ref01_Add (a0 := s1.2.2.1) (a1 := x9) S23  q13) rfl ?_
            rintro _ w25 ⟨m20, l4, S24, rfl⟩
            clear S23
            refine s_idxA (i := 1) rfl rfl underlying144 sizeOf22 (by decide) (by decide) <| s_stL (i := 0) S24 rfl rfl rfl sizeOf22 (oneC rfl oneN) rfl fun w26 S25 => ?_
            replace S25 : St _ ((bx b2 [vU x5, vU x10, vU s1.2.2.2] 144) :: (row 1 v1 c1 x1.length) :: (bx b1 z_api_Sig 41) :: As) _ := S25
            clear S24
            refine wpl_nil <| nrm ?_
            have e0 := Option.some.inj q11
            subst e0
            replace L19 := Mem.tr L19 (mt L34 l4)
            exact ⟨outP, m20, L19, S25, trivial⟩
          replace q11 := ifF hc3 q11
          refine wpc_skip <| nrm ?_
          have e0 := Option.some.inj q11
          subst e0
          exact ⟨outP, m11, L19, S15, trivial⟩
        rintro f19 w27 ho ⟨m21, l5, S26, ha⟩
        obtain ⟨u19, rfl⟩ := fr_of (N := 55) ho ha
        clear S15
        refine wpc_region <| s_ld (i := 0) (cs := [vU x5, vU x8, vU s1.2.2.2]) S26 rfl rfl isAgg144 sizeOf144 rfl (fun h => by cases h) ?_
        obtain ⟨x11, q14, q6⟩ := obind_some q6
        refine s_call call149 (w_ref02_Mix (a0 := (x5, x8, s1.2.2.2)) S26  q14) rfl ?_
        rintro _ w28 ⟨m22, l6, S27, rfl⟩
        clear S26
        refine s_stL (i := 0) S27 rfl rfl rfl sizeOf144 (oneC rfl (oneC rfl (oneC rfl oneN))) rfl fun w29 S28 => ?_
        replace S28 : St _ ((bx b2 [vU x11.1, vU x11.2.1, vU x11.2.2] 144) :: (row 1 v1 c1 x1.length) :: (bx b1 z_api_Sig 41) :: As) _ := S28
        clear S27
        refine wpl_nil <| nrmB <| nrm <| wpc_region <| s_mvv (v := vI s1.1) rfl <| s_addI (m := s1.1) (n := 2) rfl rfl <| s_asv (v := vI (w64 (s1.1 + 2))) rfl <| wpl_nil <| nrm ?_
        have e0 := Option.some.inj q6
        subst e0
        rcases q5 with ⟨sn, e, q5'⟩ | e
        · cases e
          replace L3 := Mem.tr L3 (mt l3 (mt l5 l6))
          exact ⟨outP, _, Nat.lt_succ_self _, ⟨_, m22, q5', Mem.tr L4 L3, S28, ⟨rfl, trivial⟩⟩⟩
        · cases e
      replace q6 := ifF hc1 q6
      refine wpc_exit <| thE <| thE <| exB <| nrm ?_
      obtain ⟨m23, l7, S29⟩ := St.drop S5 1
      clear S5
      replace S29 : St _ ((bx b2 [vU s1.2.1, vU s1.2.2.1, vU s1.2.2.2] 144) :: (bx b1 z_api_Sig 41) :: As) _ := S29
      have e0 := Option.some.inj q6
      subst e0
      rcases q5 with ⟨sn, e, _⟩ | e
      · cases e
      · cases e
        replace L3 := Mem.tr L3 l7
        exact ⟨outP, m23, Mem.tr L4 L3, S29, trivial⟩
   rintro f20 w30 ho ⟨m25, l8, S30, ha⟩
   obtain ⟨u20, rfl⟩ := fr_of (N := 55) ho ha
   clear ho ha S4
   have e0 := Option.some.inj q2
   subst e0
   replace L1 := Mem.tr L1 l8
   exact ⟨outP, m25, L1, S30, trivial⟩
 rintro f21 w31 ho ⟨m26, l9, S31, ha⟩
 obtain ⟨u21, rfl⟩ := fr_of (N := 55) ho ha
 clear S4
 refine ws <| s_idxA (i := 0) rfl rfl underlying144 sizeOf22 (by decide) (by decide) <| s_ld (i := 0) (cs := [vU x2.1]) S31 rfl rfl isAgg22 sizeOf22 rfl (fun _ => rfl) <| s_idxA (i := 1) rfl rfl underlying144 sizeOf22 (by decide) (by decide) <| s_ld (i := 0) (cs := [vU x2.2.1]) S31 rfl rfl isAgg22 sizeOf22 rfl (fun _ => rfl) <| s_build (parts := [(0, .tmp 51), (1, .tmp 53)]) (ps := [(0, vU x2.1, [vU x2.1]), (1, vU x2.2.1, [vU x2.2.1])]) (cs := [vU x2.1, vU x2.2.1]) zeroValue41 (BuildPl.arr underlying41 sizeOf22) rfl ⟨rfl, rfl, trivial⟩ rfl <| s_stL (i := 1) S31 rfl rfl rfl sizeOf41 (oneC rfl (oneC rfl oneN)) rfl fun w32 S32 => ?_
 replace S32 : St _ ((bx b2 [vU x2.1, vU x2.2.1, vU x2.2.2] 144) :: (bx b1 [vU x2.1, vU x2.2.1] 41) :: As) _ := S32
 clear S31
 refine wpl_nil <| nrm <| wpc_ret <| outRw fun we hpd => ?_
 replace S32 := St.pd S32 hpd
 have SR := S32
 obtain ⟨m27, l10, S33⟩ := St.drop S32 0
 replace S33 : St _ ((bx b1 [vU x2.1, vU x2.2.1] 41) :: As) _ := S33
 obtain ⟨m28, l11, S34⟩ := St.drop S33 0
 clear S33
 replace S34 : St _ (As) _ := S34
 have e0 := Option.some.inj hm
 subst e0
 replace L0 := Mem.tr L0 (mt l1 (mt l9 (mt l10 l11)))
 exact outR [_] rfl ⟨res_box (i := 1) (off := 0) (cs := [vU x2.1, vU x2.2.1]) SR rfl rfl isAgg41 sizeOf41 rfl (fun h => by cases h), trivial⟩ ⟨_, L0, S34, rfl⟩

def m_ref02_Eight_b1 (a0 : UInt64) (s1 : (List UInt8) × Int) : Option (((List UInt8) × Int) ⊕ ((List UInt8))) :=
  if (decide (s1.2 ≥ 0)) = true then
    obind (app 1 s1.1 ([(toB ((shrU a0 ((toU (w64 (8 * s1.2))).toNat)).toNat : Int))] : List UInt8)) fun x4 =>
    some (.inl (x4, (w64 (s1.2 - 1))))
  else
  some (.inr s1.1)

def m_ref02_Eight (a0 : UInt64) : Option (List UInt8) :=
  obind (
    obind (iter (m_ref02_Eight_b1 a0) FUEL (([] : List UInt8), 7)) fun x2 =>
    some x2
  ) fun x1 =>
  some x1

theorem w_ref02_Eight {m : Mem} {As : List Ow} {w : World} {a0 : UInt64} {r : List UInt8} (S : St m (As) w) (hm : m_ref02_Eight a0 = some r) :
    CallsR Tryz.prog 131 #[vU a0] w fun v w' => ∃ (M : Mem), m ≤ M ∧ ∃ (rv0 : Value) (rc0 : List Value), St M ((row 1 rv0 rc0 r.length) :: As) w' ∧ v = rv0 ∧ RepL M rc0 r := by
 unfold m_ref02_Eight at hm
 have L0 := Mem.rfl' m
 refine callsR (args := [vU a0]) func131 rfl ntmps131 (nb rfl) <| ws <| s_asv (v := .slice none 0 0) rfl <| nx <| s_asv (v := .slice none 0 0) rfl <| wpl_nil <| nrm ?_
 obtain ⟨x1, q1, hm⟩ := obind_some hm
 have L1 := Mem.rfl' m
 refine wpc_seq <| wpc_join (rg 3 15) (fun f' w' => ∃ (M1 : Mem) (v1 : Value) (c1 : List Value), m ≤ M1 ∧ St M1 ((row 1 v1 c1 x1.length) :: As) w' ∧ RepL M1 c1 x1 ∧ AllAt f' [(3, v1)]) ?_ ?_
 · refine ws <| s_asv (v := vI 7) rfl <| wpl_nil <| nrm ?_
   obtain ⟨x2, q2, q1⟩ := obind_some q1
   have L2 := Mem.rfl' m
   have S1 := St.rowNil S 1
   have h3 : RepL m [] ([] : List UInt8) := RepL.nil
   replace S1 : St _ ((row 1 (.slice none 0 0) [] ([] : List UInt8).length) :: As) _ := S1
   clear S
   refine wpc_join (rg 3 15) (fun f' w' => ∃ (M2 : Mem) (v3 : Value) (c3 : List Value), m ≤ M2 ∧ St M2 ((row 1 v3 c3 x2.length) :: As) w' ∧ RepL M2 c3 x2 ∧ AllAt f' [(3, v3)]) ?_ ?_
   · refine wpc_block <| wpc_rounds (rg 3 15) (fun n1 f' w' => ∃ (s1 : (List UInt8) × Int) (m3 : Mem) (v2 : Value) (c2 : List Value), iter (m_ref02_Eight_b1 a0) n1 s1 = some x2 ∧ m ≤ m3 ∧ St m3 ((row 1 v2 c2 s1.1.length) :: As) w' ∧ RepL m3 c2 s1.1 ∧ AllAt f' [(3, v2), (4, vI s1.2)]) FUEL ⟨(([] : List UInt8), 7), m, _, _, q2, L2, S1, h3, ⟨rfl, rfl, trivial⟩⟩ ?_
     rintro n1 f1 w1 ho ⟨s1, m1, v2, c2, q3, L4, S2, h2, ha⟩
     obtain ⟨u1, rfl⟩ := fr_of (N := 19) ho ha
     clear ho ha
     have L3 := Mem.rfl' m1
     clear S1
     cases n1 with
     | zero => exact (iter_zero q3).elim
     | succ n1 =>
      obtain ⟨y1, q5, q4⟩ := iter_succ q3
      unfold m_ref02_Eight_b1 at q5
      refine wpc_seq <| ws <| s_mvv (v := vI s1.2) rfl <| s_geq (m := s1.2) (n := 0) rfl rfl <| wpl_nil <| nrm <| wpc_if (t := (decide (s1.2 ≥ 0))) rfl (fun hc1 => ?_) (fun hc1 => ?_)
      · replace q5 := ifT hc1 q5
        refine wpc_skip <| nrm <| wpc_seq <| wpc_block <| wpc_region <| s_mvv (v := v2) rfl <| s_mvv (v := vU a0) rfl <| s_mvv (v := vI s1.2) rfl <| s_mulI (m := 8) (n := s1.2) rfl rfl <| s_convU rfl underlying3 underlying113 <| s_shrU (m := a0) (n := ((toU (w64 (8 * s1.2))).toNat : Int)) rfl rfl (by omega) <| s_convB rfl underlying22 underlying5 <| s_litC (parts := [.tmp 15]) (vs := [vB (toB ((shrU a0 ((toU (w64 (8 * s1.2))).toNat)).toNat : Int))]) (cls := [[vB (toB ((shrU a0 ((toU (w64 (8 * s1.2))).toNat)).toNat : Int))]]) (xs := ([(toB ((shrU a0 ((toU (w64 (8 * s1.2))).toNat)).toNat : Int))] : List UInt8)) (n := 1) S2 underlying27 sizeOf5 zeroValue5 rfl ⟨rfl, trivial⟩ (RepL.cons (c := [vB (toB ((shrU a0 ((toU (w64 (8 * s1.2))).toNat)).toNat : Int))]) (x := (toB ((shrU a0 ((toU (w64 (8 * s1.2))).toNat)).toNat : Int))) rfl RepL.nil) rfl rfl rfl (by decide) (by decide) fun v4 m2 w2 l1 S3 h5 => ?_
        clear S2
        obtain ⟨x4, q7, q5⟩ := obind_some q5
        replace h2 := RepL.up l1 h2
        refine s_app (i := 0) (zs := x4) (bytes := 1) (ti := Tryz.t5) S3 rfl rfl h2 rfl rfl h5 q7 underlying27 type5 rfl rfl rfl rfl fun v5 c4 w3 S4 h6 => ?_
        replace S4 : St _ ((row 1 v5 c4 x4.length) :: As) _ := S4
        clear S3
        refine s_asv (v := v5) rfl <| wpl_nil <| nrmB <| nrm <| wpc_region <| s_mvv (v := vI s1.2) rfl <| s_subI (m := s1.2) (n := 1) rfl rfl <| s_asv (v := vI (w64 (s1.2 - 1))) rfl <| wpl_nil <| nrm ?_
        have e0 := Option.some.inj q5
        subst e0
        rcases q4 with ⟨sn, e, q4'⟩ | e
        · cases e
          replace L3 := Mem.tr L3 l1
          exact ⟨outP, _, Nat.lt_succ_self _, ⟨_, m2, _, _, q4', Mem.tr L4 L3, S4, h6, ⟨rfl, rfl, trivial⟩⟩⟩
        · cases e
      replace q5 := ifF hc1 q5
      refine wpc_exit <| thE <| thE <| exB <| nrm ?_
      have e0 := Option.some.inj q5
      subst e0
      rcases q4 with ⟨sn, e, _⟩ | e
      · cases e
      · cases e
        exact ⟨outP, m1, _, _, Mem.tr L4 L3, S2, h2, ⟨rfl, trivial⟩⟩
   rintro f2 w4 ho ⟨m4, v3, c3, l2, S5, h4, ha⟩
   obtain ⟨u2, rfl⟩ := fr_of (N := 19) ho ha
   clear ho ha S1
   have e0 := Option.some.inj q1
   subst e0
   replace L1 := Mem.tr L1 l2
   exact ⟨outP, m4, _, _, L1, S5, h4, ⟨rfl, trivial⟩⟩
 rintro f3 w5 ho ⟨m5, v1, c1, l3, S6, h1, ha⟩
 obtain ⟨u3, rfl⟩ := fr_of (N := 19) ho ha
 clear S
 refine ws <| s_mvv (v := v1) rfl <| s_asv (v := v1) rfl <| wpl_nil <| nrm <| wpc_ret <| outRw fun we hpd => ?_
 replace S6 := St.pd S6 hpd
 have e0 := Option.some.inj hm
 subst e0
 replace L0 := Mem.tr L0 l3
 exact outR [_] rfl ⟨rfl, trivial⟩ ⟨_, L0, _, _, S6, rfl, h1⟩

def m_ref02_Coded_b1 (a1 : List (List UInt8)) (s1 : (List UInt8) × Int) : Option (((List UInt8) × Int) ⊕ ((List UInt8))) :=
  if (decide (s1.2 < (a1.length : Int))) = true then
    obind (idx a1 s1.2) fun x5 =>
    obind (m_ref02_Eight (toU (x5.length : Int))) fun x6 =>
    obind (cut x6 4 (x6.length : Int)) fun x7 =>
    obind (app 1 s1.1 x7) fun x8 =>
    obind (idx a1 s1.2) fun x9 =>
    obind (app 1 x8 x9) fun x10 =>
    some (.inl (x10, (w64 (s1.2 + 1))))
  else
  some (.inr s1.1)

def m_ref02_Coded (a0 : ByteArray) (a1 : List (List UInt8)) : Option (List UInt8) :=
  obind (app 1 ([(toB (a0.size : Int))] : List UInt8) a0.data.toList) fun x1 =>
  obind (
    obind (iter (m_ref02_Coded_b1 a1) FUEL (x1, 0)) fun x3 =>
    some x3
  ) fun x2 =>
  some x2

theorem w_ref02_Coded {m : Mem} {As : List Ow} {w : World} {a0 : ByteArray} {a1 : List (List UInt8)} {a1v0 : Value} {r : List UInt8} (S : St m (As) w) (a1h0 : SlR m a1v0 a1) (hm : m_ref02_Coded a0 a1 = some r) :
    CallsR Tryz.prog 123 #[vS a0, a1v0] w fun v w' => ∃ (M : Mem), m ≤ M ∧ ∃ (rv0 : Value) (rc0 : List Value), St M ((row 1 rv0 rc0 r.length) :: As) w' ∧ v = rv0 ∧ RepL M rc0 r := by
 unfold m_ref02_Coded at hm
 have L0 := Mem.rfl' m
 refine callsR (args := [vS a0, a1v0]) func123 rfl ntmps123 (nb rfl) <| ws <| s_asv (v := .slice none 0 0) rfl <| nx <| s_mvv (v := vS a0) rfl <| s_lenS (s := a0) rfl underlying9 <| s_convB rfl underlying3 underlying5 <| s_litOC (parts := [.tmp 9]) (vs := [vB (toB (a0.size : Int))]) (cls := [[vB (toB (a0.size : Int))]]) (n := 1) (sz := 1) S underlying27 sizeOf5 zeroValue5 rfl ⟨rfl, trivial⟩ rfl rfl (by decide) (by decide) fun v1 w1 S1 => ?_
 have h1 : RepL m [vB (toB (a0.size : Int))] ([(toB (a0.size : Int))] : List UInt8) := (RepL.cons (c := [vB (toB (a0.size : Int))]) (x := (toB (a0.size : Int))) rfl RepL.nil)
 replace S1 : St _ ((row 1 v1 [vB (toB (a0.size : Int))] ([(toB (a0.size : Int))] : List UInt8).length) :: As) _ := S1
 clear S
 refine s_mvv (v := vS a0) rfl ?_
 obtain ⟨x1, q1, hm⟩ := obind_some hm
 refine s_appS (i := 0) (zs := x1) (bytes := 1) (ti := Tryz.t5) S1 rfl rfl h1 rfl rfl q1 underlying27 underlying9 type5 rfl rfl rfl rfl fun v2 c1 w2 S2 h2 => ?_
 replace S2 : St _ ((row 1 v2 c1 x1.length) :: As) _ := S2
 clear S1
 refine s_asv (v := v2) rfl <| wpl_nil <| nrm ?_
 obtain ⟨x2, q2, hm⟩ := obind_some hm
 have L1 := Mem.rfl' m
 refine wpc_seq <| wpc_join [5, 6, 13, 14, 15, 16, 17, 18, 19, 20, 21, 22, 23, 24, 25, 26, 27, 28, 29, 30, 31, 32, 33, 34] (fun f' w' => ∃ (M1 : Mem) (v3 : Value) (c2 : List Value), m ≤ M1 ∧ St M1 ((row 1 v3 c2 x2.length) :: As) w' ∧ RepL M1 c2 x2 ∧ AllAt f' [(5, v3)]) ?_ ?_
 · refine ws <| s_asv (v := vI 0) rfl <| wpl_nil <| nrm ?_
   obtain ⟨x3, q3, q2⟩ := obind_some q2
   have L2 := Mem.rfl' m
   refine wpc_join [5, 6, 13, 14, 15, 16, 17, 18, 19, 20, 21, 22, 23, 24, 25, 26, 27, 28, 29, 30, 31, 32, 33, 34] (fun f' w' => ∃ (M2 : Mem) (v5 : Value) (c4 : List Value), m ≤ M2 ∧ St M2 ((row 1 v5 c4 x3.length) :: As) w' ∧ RepL M2 c4 x3 ∧ AllAt f' [(5, v5)]) ?_ ?_
   · refine wpc_block <| wpc_rounds [5, 6, 13, 14, 15, 16, 17, 18, 19, 20, 21, 22, 23, 24, 25, 26, 27, 28, 29, 30, 31, 32, 33, 34] (fun n1 f' w' => ∃ (s1 : (List UInt8) × Int) (m4 : Mem) (v4 : Value) (c3 : List Value), iter (m_ref02_Coded_b1 a1) n1 s1 = some x3 ∧ m ≤ m4 ∧ St m4 ((row 1 v4 c3 s1.1.length) :: As) w' ∧ RepL m4 c3 s1.1 ∧ AllAt f' [(5, v4), (6, vI s1.2)]) FUEL ⟨(x1, 0), m, _, _, q3, L2, S2, h2, ⟨rfl, rfl, trivial⟩⟩ ?_
     rintro n1 f1 w3 ho ⟨s1, m1, v4, c3, q4, L4, S3, h4, ha⟩
     obtain ⟨u1, rfl⟩ := fr_of (N := 36) ho ha
     clear ho ha
     have L3 := Mem.rfl' m1
     clear S2
     cases n1 with
     | zero => exact (iter_zero q4).elim
     | succ n1 =>
      obtain ⟨y1, q6, q5⟩ := iter_succ q4
      unfold m_ref02_Coded_b1 at q6
      refine wpc_seq <| ws <| s_mvv (v := vI s1.2) rfl <| s_mvv (v := a1v0) rfl <| s_lenR (xs := a1) rfl (a1h0.up L4) underlying117 <| s_lss (m := s1.2) (n := (a1.length : Int)) rfl rfl <| wpl_nil <| nrm <| wpc_if (t := (decide (s1.2 < (a1.length : Int)))) rfl (fun hc1 => ?_) (fun hc1 => ?_)
      · replace q6 := ifT hc1 q6
        refine wpc_skip <| nrm <| wpc_seq <| wpc_block <| ws <| s_mvv (v := v4) rfl <| s_mvv (v := a1v0) rfl <| s_mvv (v := vI s1.2) rfl ?_
        obtain ⟨x5, q8, q6⟩ := obind_some q6
        refine s_idx (q := x5) rfl rfl (a1h0.up L4) q8 underlying117 sizeOf27 fun p1 c5 h6 r5 => ?_
        obtain ⟨v6, rfl, h7⟩ := r5
        refine s_ldM (cs := [v6]) S3 rfl h6 rfl isAgg27 sizeOf27 (fun _ => rfl) <| s_lenR (xs := x5) rfl h7 underlying27 <| s_convU rfl underlying3 underlying22 ?_
        obtain ⟨x6, q9, q6⟩ := obind_some q6
        refine s_call call131 (w_ref02_Eight (a0 := (toU (x5.length : Int))) S3  q9) rfl ?_
        rintro v7 w4 ⟨m2, l1, _, c6, S4, rfl, h8⟩
        clear S3
        obtain ⟨m3, l2, h9, S5⟩ := St.rowKeepT (i := 0) S4 rfl h8 rfl
        clear S4
        obtain ⟨x7, q10, q6⟩ := obind_some q6
        refine s_cut (ys := x7) (l := 4) (h := (x6.length : Int)) rfl h9 underlying27 sizeOf5 (.inr ⟨_, rfl⟩) (.inl ⟨rfl, rfl⟩) (.inl rfl) q10 fun v8 h10 => ?_
        obtain ⟨x8, q11, q6⟩ := obind_some q6
        replace h4 := RepL.up (mt l1 l2) h4
        refine s_app (i := 0) (zs := x8) (bytes := 1) (ti := Tryz.t5) S5 rfl rfl h4 rfl rfl h10 q11 underlying27 type5 rfl rfl rfl rfl fun v9 c7 w5 S6 h11 => ?_
        replace S6 : St _ ((row 1 v9 c7 x8.length) :: As) _ := S6
        clear S5
        refine s_asv (v := v9) rfl <| wpl_nil <| nrm <| wpc_region <| s_mvv (v := v9) rfl <| s_mvv (v := a1v0) rfl <| s_mvv (v := vI s1.2) rfl ?_
        obtain ⟨x9, q12, q6⟩ := obind_some q6
        replace a1h0 := a1h0.up (mt L4 (mt l1 l2))
        refine s_idx (q := x9) rfl rfl a1h0 q12 underlying117 sizeOf27 fun p2 c8 h12 r7 => ?_
        obtain ⟨v10, rfl, h13⟩ := r7
        refine s_ldM (cs := [v10]) S6 rfl h12 rfl isAgg27 sizeOf27 (fun _ => rfl) ?_
        obtain ⟨x10, q13, q6⟩ := obind_some q6
        refine s_app (i := 0) (zs := x10) (bytes := 1) (ti := Tryz.t5) S6 rfl rfl h11 rfl rfl h13 q13 underlying27 type5 rfl rfl rfl rfl fun v11 c9 w6 S7 h14 => ?_
        replace S7 : St _ ((row 1 v11 c9 x10.length) :: As) _ := S7
        clear S6
        refine s_asv (v := v11) rfl <| wpl_nil <| nrmB <| nrm <| wpc_region <| s_mvv (v := vI s1.2) rfl <| s_addI (m := s1.2) (n := 1) rfl rfl <| s_asv (v := vI (w64 (s1.2 + 1))) rfl <| wpl_nil <| nrm ?_
        have e0 := Option.some.inj q6
        subst e0
        rcases q5 with ⟨sn, e, q5'⟩ | e
        · cases e
          replace L3 := Mem.tr L3 (mt l1 l2)
          exact ⟨outP, _, Nat.lt_succ_self _, ⟨_, m3, _, _, q5', Mem.tr L4 L3, S7, h14, ⟨rfl, rfl, trivial⟩⟩⟩
        · cases e
      replace q6 := ifF hc1 q6
      refine wpc_exit <| thE <| thE <| exB <| nrm ?_
      have e0 := Option.some.inj q6
      subst e0
      rcases q5 with ⟨sn, e, _⟩ | e
      · cases e
      · cases e
        exact ⟨outP, m1, _, _, Mem.tr L4 L3, S3, h4, ⟨rfl, trivial⟩⟩
   rintro f2 w7 ho ⟨m5, v5, c4, l3, S8, h5, ha⟩
   obtain ⟨u2, rfl⟩ := fr_of (N := 36) ho ha
   clear ho ha S2
   have e0 := Option.some.inj q2
   subst e0
   replace L1 := Mem.tr L1 l3
   exact ⟨outP, m5, _, _, L1, S8, h5, ⟨rfl, trivial⟩⟩
 rintro f3 w8 ho ⟨m6, v3, c2, l4, S9, h3, ha⟩
 obtain ⟨u3, rfl⟩ := fr_of (N := 36) ho ha
 clear S2
 refine ws <| s_mvv (v := v3) rfl <| s_asv (v := v3) rfl <| wpl_nil <| nrm <| wpc_ret <| outRw fun we hpd => ?_
 replace S9 := St.pd S9 hpd
 have e0 := Option.some.inj hm
 subst e0
 replace L0 := Mem.tr L0 l4
 exact outR [_] rfl ⟨rfl, trivial⟩ ⟨_, L0, _, _, S9, rfl, h3⟩

def m_ref02_Tagged (a0 : ByteArray) (a1 : List (List UInt8)) : Option (UInt64 × UInt64) :=
  obind (m_ref02_Coded a0 a1) fun x1 =>
  obind (m_ref02_Sum x1) fun x2 =>
  some x2

theorem w_ref02_Tagged {m : Mem} {As : List Ow} {w : World} {a0 : ByteArray} {a1 : List (List UInt8)} {a1v0 : Value} {r : UInt64 × UInt64} (S : St m (As) w) (a1h0 : SlR m a1v0 a1) (hm : m_ref02_Tagged a0 a1 = some r) :
    CallsR Tryz.prog 80 #[vS a0, a1v0] w fun v w' => ∃ (M : Mem), m ≤ M ∧ St M (As) w' ∧ v = .agg #[vU r.1, vU r.2] := by
 unfold m_ref02_Tagged at hm
 have L0 := Mem.rfl' m
 refine callsR (args := [vS a0, a1v0]) func80 rfl ntmps80 (nb rfl) <| ws <| s_alloc S zeroValue41 fun b1 w1 S1 => ?_
 replace S1 : St _ ((bx b1 z_api_Sig 41) :: As) _ := S1
 clear S
 refine nx <| s_mvv (v := vS a0) rfl <| s_mvv (v := a1v0) rfl ?_
 obtain ⟨x1, q1, hm⟩ := obind_some hm
 refine s_call call123 (w_ref02_Coded (a0 := a0) (a1 := a1) S1 a1h0 q1) rfl ?_
 rintro v1 w2 ⟨m1, l1, _, c1, S2, rfl, h1⟩
 clear S1
 obtain ⟨m2, l2, h2, S3⟩ := St.rowKeepT (i := 0) S2 rfl h1 rfl
 clear S2
 obtain ⟨x2, q2, hm⟩ := obind_some hm
 refine s_call call122 (w_ref02_Sum (a0 := x1) S3 h2 q2) rfl ?_
 rintro _ w3 ⟨m3, l3, S4, rfl⟩
 clear S3
 refine s_stL (i := 0) S4 rfl rfl rfl sizeOf41 (oneC rfl (oneC rfl oneN)) rfl fun w4 S5 => ?_
 replace S5 : St _ ((bx b1 [vU x2.1, vU x2.2] 41) :: As) _ := S5
 clear S4
 refine wpl_nil <| nrm <| wpc_ret <| outRw fun we hpd => ?_
 replace S5 := St.pd S5 hpd
 have SR := S5
 obtain ⟨m4, l4, S6⟩ := St.drop S5 0
 replace S6 : St _ (As) _ := S6
 have e0 := Option.some.inj hm
 subst e0
 replace L0 := Mem.tr L0 (mt l1 (mt l2 (mt l3 l4)))
 exact outR [_] rfl ⟨res_box (i := 0) (off := 0) (cs := [vU x2.1, vU x2.2]) SR rfl rfl isAgg41 sizeOf41 rfl (fun h => by cases h), trivial⟩ ⟨_, L0, S6, rfl⟩

def m_ref03_sum (a0 : UInt64) (a1 : UInt64) (a2 : UInt64) : Option UInt64 :=
  if (decide ((a0.toNat : Int) ≥ ((a2 - a1).toNat : Int))) = true then
    some (a0 - (a2 - a1))
  else
  some (a0 + a1)

theorem w_ref03_sum {m : Mem} {As : List Ow} {w : World} {a0 : UInt64} {a1 : UInt64} {a2 : UInt64} {r : UInt64} (S : St m (As) w) (hm : m_ref03_sum a0 a1 a2 = some r) :
    CallsR Tryz.prog 129 #[vU a0, vU a1, vU a2] w fun v w' => ∃ (M : Mem), m ≤ M ∧ St M (As) w' ∧ v = vU r := by
 unfold m_ref03_sum at hm
 have L0 := Mem.rfl' m
 refine callsR (args := [vU a0, vU a1, vU a2]) func129 rfl ntmps129 (nb rfl) <| ws <| s_asv (v := vU 0) rfl <| wpl_nil <| nrm <| wpc_seq <| ws <| s_mvv (v := vU a0) rfl <| s_mvv (v := vU a2) rfl <| s_mvv (v := vU a1) rfl <| s_subU (m := a2) (n := a1) rfl rfl <| s_geq (m := (a0.toNat : Int)) (n := ((a2 - a1).toNat : Int)) rfl rfl <| wpl_nil <| nrm <| wpc_if (t := (decide ((a0.toNat : Int) ≥ ((a2 - a1).toNat : Int)))) rfl (fun hc1 => ?_) (fun hc1 => ?_)
 · replace hm := ifT hc1 hm
   refine ws <| s_mvv (v := vU a0) rfl <| s_mvv (v := vU a2) rfl <| s_mvv (v := vU a1) rfl <| s_subU (m := a2) (n := a1) rfl rfl <| s_subU (m := a0) (n := (a2 - a1)) rfl rfl <| s_asv (v := vU (a0 - (a2 - a1))) rfl <| wpl_nil <| nrm <| wpc_ret <| thR <| outRw fun we hpd => ?_
   replace S := St.pd S hpd
   have e0 := Option.some.inj hm
   subst e0
   exact outR [_] rfl ⟨rfl, trivial⟩ ⟨_, L0, S, rfl⟩
 replace hm := ifF hc1 hm
 refine wpc_skip <| nrm <| ws <| s_mvv (v := vU a0) rfl <| s_mvv (v := vU a1) rfl <| s_addU (m := a0) (n := a1) rfl rfl <| s_asv (v := vU (a0 + a1)) rfl <| wpl_nil <| nrm <| wpc_ret <| outRw fun we hpd => ?_
 replace S := St.pd S hpd
 have e0 := Option.some.inj hm
 subst e0
 exact outR [_] rfl ⟨rfl, trivial⟩ ⟨_, L0, S, rfl⟩

def m_ref03_times_b1 (a0 : UInt64) (a1 : UInt64) (a2 : UInt64) (s1 : UInt64 × Int) : Option ((UInt64 × Int) ⊕ (UInt64)) :=
  if (decide (s1.2 ≥ 0)) = true then
    obind (
      obind (m_ref03_sum s1.1 s1.1 a2) fun x5 =>
      if ((((shrU (a1 % a2) ((toU s1.2).toNat)) &&& 1).toNat : Int) == 1) = true then
        obind (m_ref03_sum x5 (a0 % a2) a2) fun x6 =>
        some x6
      else
      some x5
    ) fun x4 =>
    some (.inl (x4, (w64 (s1.2 - 1))))
  else
  some (.inr s1.1)

def m_ref03_times (a0 : UInt64) (a1 : UInt64) (a2 : UInt64) : Option UInt64 :=
  if a2 ≠ 0 then
    if a2 ≠ 0 then
      obind (
        obind (iter (m_ref03_times_b1 a0 a1 a2) FUEL (0, 63)) fun x2 =>
        some x2
      ) fun x1 =>
      some x1
    else none
  else none

theorem w_ref03_times {m : Mem} {As : List Ow} {w : World} {a0 : UInt64} {a1 : UInt64} {a2 : UInt64} {r : UInt64} (S : St m (As) w) (hm : m_ref03_times a0 a1 a2 = some r) :
    CallsR Tryz.prog 130 #[vU a0, vU a1, vU a2] w fun v w' => ∃ (M : Mem), m ≤ M ∧ St M (As) w' ∧ v = vU r := by
 unfold m_ref03_times at hm
 have L0 := Mem.rfl' m
 refine callsR (args := [vU a0, vU a1, vU a2]) func130 rfl ntmps130 (nb rfl) <| ws <| s_asv (v := vU 0) rfl <| nx <| s_mvv (v := vU a0) rfl <| s_mvv (v := vU a2) rfl ?_
 obtain ⟨q1, hm⟩ := if_some hm
 refine s_remU (m := a0) (n := a2) rfl rfl q1 <| s_asv (v := vU (a0 % a2)) rfl <| nx <| s_mvv (v := vU a1) rfl <| s_mvv (v := vU a2) rfl ?_
 obtain ⟨q2, hm⟩ := if_some hm
 refine s_remU (m := a1) (n := a2) rfl rfl q2 <| s_asv (v := vU (a1 % a2)) rfl <| nx <| s_asv (v := vU 0) rfl <| wpl_nil <| nrm ?_
 obtain ⟨x1, q3, hm⟩ := obind_some hm
 have L1 := Mem.rfl' m
 refine wpc_seq <| wpc_join [7, 8, 15, 16, 17, 18, 19, 20, 21, 22, 23, 24, 25, 26, 27, 28, 29, 30, 31, 32] (fun f' w' => ∃ (M1 : Mem), m ≤ M1 ∧ St M1 (As) w' ∧ AllAt f' [(7, vU x1)]) ?_ ?_
 · refine ws <| s_asv (v := vI 63) rfl <| wpl_nil <| nrm ?_
   obtain ⟨x2, q4, q3⟩ := obind_some q3
   have L2 := Mem.rfl' m
   refine wpc_join [7, 8, 15, 16, 17, 18, 19, 20, 21, 22, 23, 24, 25, 26, 27, 28, 29, 30, 31, 32] (fun f' w' => ∃ (M2 : Mem), m ≤ M2 ∧ St M2 (As) w' ∧ AllAt f' [(7, vU x2)]) ?_ ?_
   · refine wpc_block <| wpc_rounds [7, 8, 15, 16, 17, 18, 19, 20, 21, 22, 23, 24, 25, 26, 27, 28, 29, 30, 31, 32] (fun n1 f' w' => ∃ (s1 : UInt64 × Int) (m5 : Mem), iter (m_ref03_times_b1 a0 a1 a2) n1 s1 = some x2 ∧ m ≤ m5 ∧ St m5 (As) w' ∧ AllAt f' [(7, vU s1.1), (8, vI s1.2)]) FUEL ⟨(0, 63), m, q4, L2, S, ⟨rfl, rfl, trivial⟩⟩ ?_
     rintro n1 f1 w1 ho ⟨s1, m1, q5, L4, S1, ha⟩
     obtain ⟨u1, rfl⟩ := fr_of (N := 34) ho ha
     clear ho ha
     have L3 := Mem.rfl' m1
     clear S
     cases n1 with
     | zero => exact (iter_zero q5).elim
     | succ n1 =>
      obtain ⟨y1, q7, q6⟩ := iter_succ q5
      unfold m_ref03_times_b1 at q7
      refine wpc_seq <| ws <| s_mvv (v := vI s1.2) rfl <| s_geq (m := s1.2) (n := 0) rfl rfl <| wpl_nil <| nrm <| wpc_if (t := (decide (s1.2 ≥ 0))) rfl (fun hc1 => ?_) (fun hc1 => ?_)
      · replace q7 := ifT hc1 q7
        refine wpc_skip <| nrm ?_
        obtain ⟨x4, q9, q7⟩ := obind_some q7
        have L5 := Mem.rfl' m1
        refine wpc_seq <| wpc_join [7, 19, 20, 21, 22, 23, 24, 25, 26, 27, 28, 29, 30, 31, 32] (fun f' w' => ∃ (M3 : Mem), m1 ≤ M3 ∧ St M3 (As) w' ∧ AllAt f' [(7, vU x4)]) ?_ ?_
        · refine wpc_block <| ws <| s_mvv (v := vU s1.1) rfl <| s_mvv (v := vU s1.1) rfl <| s_mvv (v := vU a2) rfl ?_
          obtain ⟨x5, q10, q9⟩ := obind_some q9
          refine s_call call129 (w_ref03_sum (a0 := s1.1) (a1 := s1.1) (a2 := a2) S1  q10) rfl ?_
          rintro _ w2 ⟨m2, l1, S2, rfl⟩
          clear S1
          refine s_asv (v := vU x5) rfl <| nx <| s_mvv (v := vU (a1 % a2)) rfl <| s_mvv (v := vI s1.2) rfl <| s_convU rfl underlying3 underlying113 <| s_shrU (m := (a1 % a2)) (n := ((toU s1.2).toNat : Int)) rfl rfl (by omega) <| s_andU (m := (shrU (a1 % a2) ((toU s1.2).toNat))) (n := 1) rfl rfl <| s_eql (m := (((shrU (a1 % a2) ((toU s1.2).toNat)) &&& 1).toNat : Int)) (n := 1) rfl rfl <| wpl_nil <| nrm <| wpc_if (t := ((((shrU (a1 % a2) ((toU s1.2).toNat)) &&& 1).toNat : Int) == 1)) rfl (fun hc2 => ?_) (fun hc2 => ?_)
          · replace q9 := ifT hc2 q9
            refine wpc_region <| s_mvv (v := vU x5) rfl <| s_mvv (v := vU (a0 % a2)) rfl <| s_mvv (v := vU a2) rfl ?_
            obtain ⟨x6, q11, q9⟩ := obind_some q9
            refine s_call call129 (w_ref03_sum (a0 := x5) (a1 := (a0 % a2)) (a2 := a2) S2  q11) rfl ?_
            rintro _ w3 ⟨m3, l2, S3, rfl⟩
            clear S2
            refine s_asv (v := vU x6) rfl <| wpl_nil <| nrmB <| nrm ?_
            have e0 := Option.some.inj q9
            subst e0
            replace L5 := Mem.tr L5 (mt l1 l2)
            exact ⟨outP, m3, L5, S3, ⟨rfl, trivial⟩⟩
          replace q9 := ifF hc2 q9
          refine wpc_skip <| nrmB <| nrm ?_
          have e0 := Option.some.inj q9
          subst e0
          replace L5 := Mem.tr L5 l1
          exact ⟨outP, m2, L5, S2, ⟨rfl, trivial⟩⟩
        rintro f2 w4 ho ⟨m4, l3, S4, ha⟩
        obtain ⟨u2, rfl⟩ := fr_of (N := 34) ho ha
        clear S1
        refine wpc_region <| s_mvv (v := vI s1.2) rfl <| s_subI (m := s1.2) (n := 1) rfl rfl <| s_asv (v := vI (w64 (s1.2 - 1))) rfl <| wpl_nil <| nrm ?_
        have e0 := Option.some.inj q7
        subst e0
        rcases q6 with ⟨sn, e, q6'⟩ | e
        · cases e
          replace L3 := Mem.tr L3 l3
          exact ⟨outP, _, Nat.lt_succ_self _, ⟨_, m4, q6', Mem.tr L4 L3, S4, ⟨rfl, rfl, trivial⟩⟩⟩
        · cases e
      replace q7 := ifF hc1 q7
      refine wpc_exit <| thE <| thE <| exB <| nrm ?_
      have e0 := Option.some.inj q7
      subst e0
      rcases q6 with ⟨sn, e, _⟩ | e
      · cases e
      · cases e
        exact ⟨outP, m1, Mem.tr L4 L3, S1, ⟨rfl, trivial⟩⟩
   rintro f3 w5 ho ⟨m6, l4, S5, ha⟩
   obtain ⟨u3, rfl⟩ := fr_of (N := 34) ho ha
   clear ho ha S
   have e0 := Option.some.inj q3
   subst e0
   replace L1 := Mem.tr L1 l4
   exact ⟨outP, m6, L1, S5, ⟨rfl, trivial⟩⟩
 rintro f4 w6 ho ⟨m7, l5, S6, ha⟩
 obtain ⟨u4, rfl⟩ := fr_of (N := 34) ho ha
 clear S
 refine ws <| s_mvv (v := vU x1) rfl <| s_asv (v := vU x1) rfl <| wpl_nil <| nrm <| wpc_ret <| outRw fun we hpd => ?_
 replace S6 := St.pd S6 hpd
 have e0 := Option.some.inj hm
 subst e0
 replace L0 := Mem.tr L0 l5
 exact outR [_] rfl ⟨rfl, trivial⟩ ⟨_, L0, S6, rfl⟩

def m_ref03_power_b1 (a0 : UInt64) (a1 : UInt64) (a2 : UInt64) (s1 : UInt64 × Int) : Option ((UInt64 × Int) ⊕ (UInt64)) :=
  if (decide (s1.2 ≥ 0)) = true then
    obind (
      obind (m_ref03_times s1.1 s1.1 a2) fun x5 =>
      if ((((shrU a1 ((toU s1.2).toNat)) &&& 1).toNat : Int) == 1) = true then
        obind (m_ref03_times x5 a0 a2) fun x6 =>
        some x6
      else
      some x5
    ) fun x4 =>
    some (.inl (x4, (w64 (s1.2 - 1))))
  else
  some (.inr s1.1)

def m_ref03_power (a0 : UInt64) (a1 : UInt64) (a2 : UInt64) : Option UInt64 :=
  obind (
    obind (iter (m_ref03_power_b1 a0 a1 a2) FUEL (1, 63)) fun x2 =>
    some x2
  ) fun x1 =>
  some x1

theorem w_ref03_power {m : Mem} {As : List Ow} {w : World} {a0 : UInt64} {a1 : UInt64} {a2 : UInt64} {r : UInt64} (S : St m (As) w) (hm : m_ref03_power a0 a1 a2 = some r) :
    CallsR Tryz.prog 125 #[vU a0, vU a1, vU a2] w fun v w' => ∃ (M : Mem), m ≤ M ∧ St M (As) w' ∧ v = vU r := by
 unfold m_ref03_power at hm
 have L0 := Mem.rfl' m
 refine callsR (args := [vU a0, vU a1, vU a2]) func125 rfl ntmps125 (nb rfl) <| ws <| s_asv (v := vU 0) rfl <| nx <| s_asv (v := vU 1) rfl <| wpl_nil <| nrm ?_
 obtain ⟨x1, q1, hm⟩ := obind_some hm
 have L1 := Mem.rfl' m
 refine wpc_seq <| wpc_join (rg 7 20) (fun f' w' => ∃ (M1 : Mem), m ≤ M1 ∧ St M1 (As) w' ∧ AllAt f' [(7, vU x1)]) ?_ ?_
 · refine ws <| s_asv (v := vI 63) rfl <| wpl_nil <| nrm ?_
   obtain ⟨x2, q2, q1⟩ := obind_some q1
   have L2 := Mem.rfl' m
   refine wpc_join (rg 7 20) (fun f' w' => ∃ (M2 : Mem), m ≤ M2 ∧ St M2 (As) w' ∧ AllAt f' [(7, vU x2)]) ?_ ?_
   · refine wpc_block <| wpc_rounds (rg 7 20) (fun n1 f' w' => ∃ (s1 : UInt64 × Int) (m5 : Mem), iter (m_ref03_power_b1 a0 a1 a2) n1 s1 = some x2 ∧ m ≤ m5 ∧ St m5 (As) w' ∧ AllAt f' [(7, vU s1.1), (8, vI s1.2)]) FUEL ⟨(1, 63), m, q2, L2, S, ⟨rfl, rfl, trivial⟩⟩ ?_
     rintro n1 f1 w1 ho ⟨s1, m1, q3, L4, S1, ha⟩
     obtain ⟨u1, rfl⟩ := fr_of (N := 28) ho ha
     clear ho ha
     have L3 := Mem.rfl' m1
     clear S
     cases n1 with
     | zero => exact (iter_zero q3).elim
     | succ n1 =>
      obtain ⟨y1, q5, q4⟩ := iter_succ q3
      unfold m_ref03_power_b1 at q5
      refine wpc_seq <| ws <| s_mvv (v := vI s1.2) rfl <| s_geq (m := s1.2) (n := 0) rfl rfl <| wpl_nil <| nrm <| wpc_if (t := (decide (s1.2 ≥ 0))) rfl (fun hc1 => ?_) (fun hc1 => ?_)
      · replace q5 := ifT hc1 q5
        refine wpc_skip <| nrm ?_
        obtain ⟨x4, q7, q5⟩ := obind_some q5
        have L5 := Mem.rfl' m1
        refine wpc_seq <| wpc_join [7, 13, 14, 15, 16, 17, 18, 19, 20, 21, 22, 23, 24, 25, 26] (fun f' w' => ∃ (M3 : Mem), m1 ≤ M3 ∧ St M3 (As) w' ∧ AllAt f' [(7, vU x4)]) ?_ ?_
        · refine wpc_block <| ws <| s_mvv (v := vU s1.1) rfl <| s_mvv (v := vU s1.1) rfl <| s_mvv (v := vU a2) rfl ?_
          obtain ⟨x5, q8, q7⟩ := obind_some q7
          refine s_call call130 (w_ref03_times (a0 := s1.1) (a1 := s1.1) (a2 := a2) S1  q8) rfl ?_
          rintro _ w2 ⟨m2, l1, S2, rfl⟩
          clear S1
          refine s_asv (v := vU x5) rfl <| nx <| s_mvv (v := vU a1) rfl <| s_mvv (v := vI s1.2) rfl <| s_convU rfl underlying3 underlying113 <| s_shrU (m := a1) (n := ((toU s1.2).toNat : Int)) rfl rfl (by omega) <| s_andU (m := (shrU a1 ((toU s1.2).toNat))) (n := 1) rfl rfl <| s_eql (m := (((shrU a1 ((toU s1.2).toNat)) &&& 1).toNat : Int)) (n := 1) rfl rfl <| wpl_nil <| nrm <| wpc_if (t := ((((shrU a1 ((toU s1.2).toNat)) &&& 1).toNat : Int) == 1)) rfl (fun hc2 => ?_) (fun hc2 => ?_)
          · replace q7 := ifT hc2 q7
            refine wpc_region <| s_mvv (v := vU x5) rfl <| s_mvv (v := vU a0) rfl <| s_mvv (v := vU a2) rfl ?_
            obtain ⟨x6, q9, q7⟩ := obind_some q7
            refine s_call call130 (w_ref03_times (a0 := x5) (a1 := a0) (a2 := a2) S2  q9) rfl ?_
            rintro _ w3 ⟨m3, l2, S3, rfl⟩
            clear S2
            refine s_asv (v := vU x6) rfl <| wpl_nil <| nrmB <| nrm ?_
            have e0 := Option.some.inj q7
            subst e0
            replace L5 := Mem.tr L5 (mt l1 l2)
            exact ⟨outP, m3, L5, S3, ⟨rfl, trivial⟩⟩
          replace q7 := ifF hc2 q7
          refine wpc_skip <| nrmB <| nrm ?_
          have e0 := Option.some.inj q7
          subst e0
          replace L5 := Mem.tr L5 l1
          exact ⟨outP, m2, L5, S2, ⟨rfl, trivial⟩⟩
        rintro f2 w4 ho ⟨m4, l3, S4, ha⟩
        obtain ⟨u2, rfl⟩ := fr_of (N := 28) ho ha
        clear S1
        refine wpc_region <| s_mvv (v := vI s1.2) rfl <| s_subI (m := s1.2) (n := 1) rfl rfl <| s_asv (v := vI (w64 (s1.2 - 1))) rfl <| wpl_nil <| nrm ?_
        have e0 := Option.some.inj q5
        subst e0
        rcases q4 with ⟨sn, e, q4'⟩ | e
        · cases e
          replace L3 := Mem.tr L3 l3
          exact ⟨outP, _, Nat.lt_succ_self _, ⟨_, m4, q4', Mem.tr L4 L3, S4, ⟨rfl, rfl, trivial⟩⟩⟩
        · cases e
      replace q5 := ifF hc1 q5
      refine wpc_exit <| thE <| thE <| exB <| nrm ?_
      have e0 := Option.some.inj q5
      subst e0
      rcases q4 with ⟨sn, e, _⟩ | e
      · cases e
      · cases e
        exact ⟨outP, m1, Mem.tr L4 L3, S1, ⟨rfl, trivial⟩⟩
   rintro f3 w5 ho ⟨m6, l4, S5, ha⟩
   obtain ⟨u3, rfl⟩ := fr_of (N := 28) ho ha
   clear ho ha S
   have e0 := Option.some.inj q1
   subst e0
   replace L1 := Mem.tr L1 l4
   exact ⟨outP, m6, L1, S5, ⟨rfl, trivial⟩⟩
 rintro f4 w6 ho ⟨m7, l5, S6, ha⟩
 obtain ⟨u4, rfl⟩ := fr_of (N := 28) ho ha
 clear S
 refine ws <| s_mvv (v := vU x1) rfl <| s_asv (v := vU x1) rfl <| wpl_nil <| nrm <| wpc_ret <| outRw fun we hpd => ?_
 replace S6 := St.pd S6 hpd
 have e0 := Option.some.inj hm
 subst e0
 replace L0 := Mem.tr L0 l5
 exact outR [_] rfl ⟨rfl, trivial⟩ ⟨_, L0, S6, rfl⟩

def m_ref03_Base (a0 : UInt64) : Option UInt64 :=
  obind (m_ref03_power 4 a0 2305843009213691579) fun x1 =>
  some x1

theorem w_ref03_Base {m : Mem} {As : List Ow} {w : World} {a0 : UInt64} {r : UInt64} (S : St m (As) w) (hm : m_ref03_Base a0 = some r) :
    CallsR Tryz.prog 84 #[vU a0] w fun v w' => ∃ (M : Mem), m ≤ M ∧ St M (As) w' ∧ v = vU r := by
 unfold m_ref03_Base at hm
 have L0 := Mem.rfl' m
 refine callsR (args := [vU a0]) func84 rfl ntmps84 (nb rfl) <| ws <| s_asv (v := vU 0) rfl <| nx <| s_mvv (v := vU a0) rfl ?_
 obtain ⟨x1, q1, hm⟩ := obind_some hm
 refine s_call call125 (w_ref03_power (a0 := 4) (a1 := a0) (a2 := 2305843009213691579) S  q1) rfl ?_
 rintro _ w1 ⟨m1, l1, S1, rfl⟩
 clear S
 refine s_asv (v := vU x1) rfl <| wpl_nil <| nrm <| wpc_ret <| outRw fun we hpd => ?_
 replace S1 := St.pd S1 hpd
 have e0 := Option.some.inj hm
 subst e0
 replace L0 := Mem.tr L0 l1
 exact outR [_] rfl ⟨rfl, trivial⟩ ⟨_, L0, S1, rfl⟩

end Go.Proofs.YtemiampgjgenhaaGreat
