/- The walks of some functions, written by program. Conditions: none. -/
import Derived.Test.YtohipjalgccmnaaDoorGwT
set_option maxHeartbeats 20000000
set_option maxRecDepth 100000
set_option linter.unusedVariables false
set_option linter.unusedSimpArgs false
namespace Go.Proofs.YtohipjalgccmnaaDoor
open Go Go.Gw

def m_ref01_Of_b2 (a0 : List UInt8) (s1 : (List UInt64) × Int) (s2 : UInt64 × UInt64 × Int) : Option ((UInt64 × UInt64 × Int) ⊕ (UInt64)) :=
  if ((decide (s2.2.2 < (a0.length : Int))) && (decide (s2.2.2 < (w64 (s1.2 + 7))))) = true then
    obind (idx a0 s2.2.2) fun x7 =>
    bnd ((s2.1 + (s2.2.1 * (toU (x7.toNat : Int))))) fun x8 =>
    some (.inl (x8, (s2.2.1 * 256), (w64 (s2.2.2 + 1))))
  else
  some (.inr s2.1)

def m_ref01_Of_b1 (a0 : List UInt8) (s1 : (List UInt64) × Int) : Option (((List UInt64) × Int) ⊕ ((List UInt64))) :=
  if (decide (s1.2 < (a0.length : Int))) = true then
    obind (
      obind (iter (m_ref01_Of_b2 a0 s1) FUEL (0, 1, s1.2)) fun x5 =>
      some x5
    ) fun x4 =>
    obind (app 8 s1.1 ([x4] : List UInt64)) fun x9 =>
    some (.inl (x9, (w64 (s1.2 + 7))))
  else
  some (.inr s1.1)

def m_ref01_Of (a0 : List UInt8) : Option (List UInt64) :=
  obind (
    obind (iter (m_ref01_Of_b1 a0) FUEL (([] : List UInt64), 0)) fun x2 =>
    some x2
  ) fun x1 =>
  some x1

theorem w_ref01_Of {m : Mem} {As : List Ow} {w : World} {a0 : List UInt8} {a0v0 : Value} {r : List UInt64} (S : St m (As) w) (a0h0 : SlR m a0v0 a0) (hm : m_ref01_Of a0 = some r) :
    CallsR Tryd.prog 73 #[a0v0] w fun v w' => ∃ (M : Mem), m ≤ M ∧ ∃ (rv0 : Value) (rc0 : List Value), St M ((row 1 rv0 rc0 r.length) :: As) w' ∧ v = rv0 ∧ RepL M rc0 r := by
  unfold m_ref01_Of at hm
  have L0 := Mem.rfl' m
  refine callsR (args := [a0v0]) Tryd.func73 rfl Tryd.ntmps73 (Nat.le_of_ble_eq_true rfl) ?_
  refine wpc_seq ?_
  refine wpc_region ?_
  refine s_asv (v := .slice none 0 0) rfl ?_
  refine wpl_nil ?_
  refine nrm ?_
  refine wpc_seq ?_
  refine wpc_region ?_
  refine s_asv (v := .slice none 0 0) rfl ?_
  refine wpl_nil ?_
  refine nrm ?_
  obtain ⟨x1, q1, hm⟩ := obind_some hm
  have L1 := Mem.rfl' m
  refine wpc_seq ?_
  refine wpc_join [3, 4, 5, 6, 7, 8, 9, 10, 11, 12, 13, 14, 15, 16, 17, 18, 19, 20, 21, 22, 23, 24, 25, 26, 27, 28, 29, 30, 31, 32, 33, 34, 35, 36, 37, 38, 39, 40, 41] (fun f' w' => ∃ (M1 : Mem) (v1 : Value) (c1 : List Value), m ≤ M1 ∧ St M1 ((row 1 v1 c1 x1.length) :: As) w' ∧ RepL M1 c1 x1 ∧ AllAt f' [(3, v1)]) ?_ ?_
  · refine wpc_seq ?_
    refine wpc_region ?_
    refine s_asv (v := vI 0) rfl ?_
    refine wpl_nil ?_
    refine nrm ?_
    obtain ⟨x2, q2, q1⟩ := obind_some q1
    have L2 := Mem.rfl' m
    have S1 := St.rowNil S 1
    have h3 : RepL m [] ([] : List UInt64) := RepL.nil
    replace S1 : St _ ((row 1 (.slice none 0 0) [] ([] : List UInt64).length) :: As) _ := S1
    clear S
    refine wpc_join [3, 4, 5, 6, 7, 8, 9, 10, 11, 12, 13, 14, 15, 16, 17, 18, 19, 20, 21, 22, 23, 24, 25, 26, 27, 28, 29, 30, 31, 32, 33, 34, 35, 36, 37, 38, 39, 40, 41] (fun f' w' => ∃ (M2 : Mem) (v3 : Value) (c3 : List Value), m ≤ M2 ∧ St M2 ((row 1 v3 c3 x2.length) :: As) w' ∧ RepL M2 c3 x2 ∧ AllAt f' [(3, v3)]) ?_ ?_
    · refine wpc_block ?_
      refine wpc_rounds [3, 4, 5, 6, 7, 8, 9, 10, 11, 12, 13, 14, 15, 16, 17, 18, 19, 20, 21, 22, 23, 24, 25, 26, 27, 28, 29, 30, 31, 32, 33, 34, 35, 36, 37, 38, 39, 40, 41] (fun n1 f' w' => ∃ (s1 : (List UInt64) × Int) (m7 : Mem) (v2 : Value) (c2 : List Value), iter (m_ref01_Of_b1 a0) n1 s1 = some x2 ∧ m ≤ m7 ∧ St m7 ((row 1 v2 c2 s1.1.length) :: As) w' ∧ RepL m7 c2 s1.1 ∧ AllAt f' [(3, v2), (4, vI s1.2)]) FUEL ⟨(([] : List UInt64), 0), m, _, _, q2, L2, S1, h3, ⟨rfl, rfl, trivial⟩⟩ ?_
      rintro n1 f1 w1 ho ⟨s1, m1, v2, c2, q3, L4, S2, h2, ha⟩
      obtain ⟨u1, rfl⟩ := fr_of (N := 43) ho ha
      clear ho ha
      replace a0h0 := a0h0.up L4
      have L3 := Mem.rfl' m1
      clear S1
      cases n1 with
      | zero => exact (iter_zero q3).elim
      | succ n1 =>
        obtain ⟨y1, q5, q4⟩ := iter_succ q3
        unfold m_ref01_Of_b1 at q5
        refine wpc_seq ?_
        refine wpc_seq ?_
        refine wpc_region ?_
        refine s_mvv (v := vI s1.2) rfl ?_
        refine s_mvv (v := a0v0) rfl ?_
        refine s_lenR (xs := a0) rfl a0h0 Tryd.underlying23 ?_
        refine s_lss (m := s1.2) (n := (a0.length : Int)) rfl rfl ?_
        refine wpl_nil ?_
        refine nrm ?_
        refine wpc_if (t := (decide (s1.2 < (a0.length : Int)))) rfl (fun hc1 => ?_) (fun hc1 => ?_)
        · replace q5 := ifT hc1 q5
          refine wpc_skip ?_
          refine nrm ?_
          refine wpc_seq ?_
          refine wpc_block ?_
          refine wpc_seq ?_
          refine wpc_region ?_
          refine s_asv (v := vU 0) rfl ?_
          refine wpl_nil ?_
          refine nrm ?_
          refine wpc_seq ?_
          refine wpc_region ?_
          refine s_asv (v := vU 1) rfl ?_
          refine wpl_nil ?_
          refine nrm ?_
          obtain ⟨x4, q7, q5⟩ := obind_some q5
          have L5 := Mem.rfl' m1
          refine wpc_seq ?_
          refine wpc_join [5, 6, 7, 14, 15, 16, 17, 18, 19, 20, 21, 22, 23, 24, 25, 26, 27, 28, 29, 30, 31, 32, 33, 34, 35, 36, 37] (fun f' w' => ∃ (M3 : Mem), m1 ≤ M3 ∧ St M3 ((row 1 v2 c2 s1.1.length) :: As) w' ∧ AllAt f' [(5, vU x4)]) ?_ ?_
          · refine wpc_seq ?_
            refine wpc_region ?_
            refine s_mvv (v := vI s1.2) rfl ?_
            refine s_asv (v := vI s1.2) rfl ?_
            refine wpl_nil ?_
            refine nrm ?_
            obtain ⟨x5, q8, q7⟩ := obind_some q7
            have L6 := Mem.rfl' m1
            refine wpc_join [5, 6, 7, 15, 16, 17, 18, 19, 20, 21, 22, 23, 24, 25, 26, 27, 28, 29, 30, 31, 32, 33, 34, 35, 36, 37] (fun f' w' => ∃ (M4 : Mem), m1 ≤ M4 ∧ St M4 ((row 1 v2 c2 s1.1.length) :: As) w' ∧ AllAt f' [(5, vU x5)]) ?_ ?_
            · refine wpc_block ?_
              refine wpc_rounds [5, 6, 7, 15, 16, 17, 18, 19, 20, 21, 22, 23, 24, 25, 26, 27, 28, 29, 30, 31, 32, 33, 34, 35, 36, 37] (fun n2 f' w' => ∃ (s2 : UInt64 × UInt64 × Int) (m3 : Mem), iter (m_ref01_Of_b2 a0 s1) n2 s2 = some x5 ∧ m1 ≤ m3 ∧ St m3 ((row 1 v2 c2 s1.1.length) :: As) w' ∧ AllAt f' [(5, vU s2.1), (6, vU s2.2.1), (7, vI s2.2.2)]) FUEL ⟨(0, 1, s1.2), m1, q8, L6, S2, ⟨rfl, rfl, rfl, trivial⟩⟩ ?_
              rintro n2 f2 w2 ho ⟨s2, m2, q9, L8, S3, ha⟩
              obtain ⟨u2, rfl⟩ := fr_of (N := 43) ho ha
              clear ho ha
              replace a0h0 := a0h0.up L8
              replace h2 := RepL.up L8 h2
              have L7 := Mem.rfl' m2
              clear S2
              cases n2 with
              | zero => exact (iter_zero q9).elim
              | succ n2 =>
                obtain ⟨y2, q11, q10⟩ := iter_succ q9
                unfold m_ref01_Of_b2 at q11
                refine wpc_seq ?_
                refine wpc_seq ?_
                refine wpc_region ?_
                refine s_mvv (v := vI s2.2.2) rfl ?_
                refine s_mvv (v := a0v0) rfl ?_
                refine s_lenR (xs := a0) rfl a0h0 Tryd.underlying23 ?_
                refine s_lss (m := s2.2.2) (n := (a0.length : Int)) rfl rfl ?_
                refine s_mvv (v := vb (decide (s2.2.2 < (a0.length : Int)))) rfl ?_
                refine wpl_cut 5 [20, 21, 22, 23, 24] (fun f' w' => w' = w2 ∧ AllAt f' [(24, vb ((decide (s2.2.2 < (a0.length : Int))) && (decide (s2.2.2 < (w64 (s1.2 + 7))))))]) ?_ ?_
                · rcases bool_tf (decide (s2.2.2 < (a0.length : Int))) with hb1 | hb1
                  · refine wpl_yes (d := 19) rfl rfl (congrArg Value.bool hb1) ?_
                    refine s_mvv (v := vI s2.2.2) rfl ?_
                    refine wpl_yes (d := 19) rfl rfl (congrArg Value.bool hb1) ?_
                    refine s_mvv (v := vI s1.2) rfl ?_
                    refine wpl_yes (d := 19) rfl rfl (congrArg Value.bool hb1) ?_
                    refine s_addI (m := s1.2) (n := 7) rfl rfl ?_
                    refine wpl_yes (d := 19) rfl rfl (congrArg Value.bool hb1) ?_
                    refine s_lss (m := s2.2.2) (n := (w64 (s1.2 + 7))) rfl rfl ?_
                    refine s_pickT (congrArg Value.bool hb1) rfl ?_
                    exact wpl_nil (nrm ⟨outP, rfl, congrArg Value.bool (and_t hb1), trivial⟩)
                  · refine wpl_no (d := 19) rfl rfl (congrArg Value.bool hb1) ?_
                    refine wpl_no (d := 19) rfl rfl (congrArg Value.bool hb1) ?_
                    refine wpl_no (d := 19) rfl rfl (congrArg Value.bool hb1) ?_
                    refine wpl_no (d := 19) rfl rfl (congrArg Value.bool hb1) ?_
                    refine s_pickF (congrArg Value.bool hb1) rfl ?_
                    exact wpl_nil (nrm ⟨outP, rfl, congrArg Value.bool (and_f hb1), trivial⟩)
                rintro f3 w3 ho ⟨h5, ha⟩
                subst h5
                obtain ⟨u3, rfl⟩ := fr_of (N := 43) ho ha
                refine wpl_nil ?_
                refine nrm ?_
                refine wpc_if (t := ((decide (s2.2.2 < (a0.length : Int))) && (decide (s2.2.2 < (w64 (s1.2 + 7)))))) rfl (fun hc2 => ?_) (fun hc2 => ?_)
                · replace q11 := ifT hc2 q11
                  refine wpc_skip ?_
                  refine nrm ?_
                  refine wpc_seq ?_
                  refine wpc_block ?_
                  refine wpc_seq ?_
                  refine wpc_region ?_
                  refine s_mvv (v := vU s2.1) rfl ?_
                  refine s_mvv (v := vU s2.2.1) rfl ?_
                  refine s_mvv (v := a0v0) rfl ?_
                  refine s_mvv (v := vI s2.2.2) rfl ?_
                  obtain ⟨x7, q13, q11⟩ := obind_some q11
                  refine s_idx (q := x7) rfl rfl a0h0 q13 Tryd.underlying23 Tryd.sizeOf5 ?_
                  intro p1 c4 h6 r5
                  obtain rfl : c4 = [vB x7] := r5
                  refine s_ldM (cs := [vB x7]) S3 rfl h6 rfl Tryd.isAgg5 Tryd.sizeOf5 (fun _ => rfl) ?_
                  refine s_convU rfl Tryd.underlying5 Tryd.underlying25 ?_
                  refine s_mulU (m := s2.2.1) (n := (toU (x7.toNat : Int))) rfl rfl ?_
                  refine s_addU (m := s2.1) (n := (s2.2.1 * (toU (x7.toNat : Int)))) rfl rfl ?_
                  obtain ⟨x8, q14, q11⟩ := bnd_eq q11
                  refine s_asv (v := vU x8) (congrArg (fun z => vU z) q14.symm) ?_
                  refine wpl_nil ?_
                  refine nrm ?_
                  refine wpc_region ?_
                  refine s_mvv (v := vU s2.2.1) rfl ?_
                  refine s_mulU (m := s2.2.1) (n := 256) rfl rfl ?_
                  refine s_asv (v := vU (s2.2.1 * 256)) rfl ?_
                  refine wpl_nil ?_
                  refine nrmB ?_
                  refine nrm ?_
                  refine wpc_region ?_
                  refine s_mvv (v := vI s2.2.2) rfl ?_
                  refine s_addI (m := s2.2.2) (n := 1) rfl rfl ?_
                  refine s_asv (v := vI (w64 (s2.2.2 + 1))) rfl ?_
                  refine wpl_nil ?_
                  refine nrm ?_
                  have e0 := Option.some.inj q11
                  subst e0
                  rcases q10 with ⟨sn, e, q10'⟩ | e
                  · cases e
                    exact ⟨outP, _, Nat.lt_succ_self _, ⟨_, m2, q10', Mem.tr L8 L7, S3, ⟨rfl, rfl, rfl, trivial⟩⟩⟩
                  · cases e
                replace q11 := ifF hc2 q11
                refine wpc_exit ?_
                refine thE ?_
                refine thE ?_
                refine exB ?_
                refine nrm ?_
                have e0 := Option.some.inj q11
                subst e0
                rcases q10 with ⟨sn, e, _⟩ | e
                · cases e
                · cases e
                  exact ⟨outP, m2, Mem.tr L8 L7, S3, ⟨rfl, trivial⟩⟩
            rintro f4 w4 ho ⟨m4, l1, S4, ha⟩
            obtain ⟨u4, rfl⟩ := fr_of (N := 43) ho ha
            clear ho ha
            replace a0h0 := a0h0.up l1
            replace h2 := RepL.up l1 h2
            replace L5 := Mem.tr L5 l1
            clear S2
            have e0 := Option.some.inj q7
            subst e0
            exact ⟨outP, m4, L5, S4, ⟨rfl, trivial⟩⟩
          rintro f5 w5 ho ⟨m5, l2, S5, ha⟩
          obtain ⟨u5, rfl⟩ := fr_of (N := 43) ho ha
          replace a0h0 := a0h0.up l2
          replace h2 := RepL.up l2 h2
          replace L3 := Mem.tr L3 l2
          clear S2
          refine wpc_region ?_
          refine s_mvv (v := v2) rfl ?_
          refine s_mvv (v := vU x4) rfl ?_
          refine s_litC (parts := [.tmp 39]) (vs := [vU x4]) (cls := [[vU x4]]) (xs := ([x4] : List UInt64)) (n := 1) S5 Tryd.underlying85 Tryd.sizeOf25 Tryd.zeroValue25 rfl ⟨rfl, trivial⟩ (RepL.cons (c := [vU x4]) (x := x4) rfl RepL.nil) rfl rfl rfl (by decide) (by decide) ?_
          intro v4 m6 w6 l3 S6 h7
          replace a0h0 := a0h0.up l3
          replace h2 := RepL.up l3 h2
          replace L3 := Mem.tr L3 l3
          clear S5
          obtain ⟨x9, q15, q5⟩ := obind_some q5
          refine s_app (i := 0) (zs := x9) (bytes := 8) (ti := Tryd.t25) S6 rfl rfl h2 rfl rfl h7 q15 Tryd.underlying85 Tryd.type25 rfl rfl rfl rfl ?_
          intro v5 c5 w7 S7 h8
          replace S7 : St _ ((row 1 v5 c5 x9.length) :: As) _ := S7
          clear S6
          refine s_asv (v := v5) rfl ?_
          refine wpl_nil ?_
          refine nrmB ?_
          refine nrm ?_
          refine wpc_region ?_
          refine s_mvv (v := vI s1.2) rfl ?_
          refine s_addI (m := s1.2) (n := 7) rfl rfl ?_
          refine s_asv (v := vI (w64 (s1.2 + 7))) rfl ?_
          refine wpl_nil ?_
          refine nrm ?_
          have e0 := Option.some.inj q5
          subst e0
          rcases q4 with ⟨sn, e, q4'⟩ | e
          · cases e
            exact ⟨outP, _, Nat.lt_succ_self _, ⟨_, m6, _, _, q4', Mem.tr L4 L3, S7, h8, ⟨rfl, rfl, trivial⟩⟩⟩
          · cases e
        replace q5 := ifF hc1 q5
        refine wpc_exit ?_
        refine thE ?_
        refine thE ?_
        refine exB ?_
        refine nrm ?_
        have e0 := Option.some.inj q5
        subst e0
        rcases q4 with ⟨sn, e, _⟩ | e
        · cases e
        · cases e
          exact ⟨outP, m1, _, _, Mem.tr L4 L3, S2, h2, ⟨rfl, trivial⟩⟩
    rintro f6 w8 ho ⟨m8, v3, c3, l4, S8, h4, ha⟩
    obtain ⟨u6, rfl⟩ := fr_of (N := 43) ho ha
    clear ho ha
    replace L1 := Mem.tr L1 l4
    clear S1
    have e0 := Option.some.inj q1
    subst e0
    exact ⟨outP, m8, _, _, L1, S8, h4, ⟨rfl, trivial⟩⟩
  rintro f7 w9 ho ⟨m9, v1, c1, l5, S9, h1, ha⟩
  obtain ⟨u7, rfl⟩ := fr_of (N := 43) ho ha
  replace L0 := Mem.tr L0 l5
  clear S
  refine wpc_seq ?_
  refine wpc_region ?_
  refine s_mvv (v := v1) rfl ?_
  refine s_asv (v := v1) rfl ?_
  refine wpl_nil ?_
  refine nrm ?_
  refine wpc_ret ?_
  refine outRw ?_
  intro we hpd
  replace S9 := St.pd S9 hpd
  have e0 := Option.some.inj hm
  subst e0
  exact outR [_] rfl ⟨rfl, trivial⟩ ⟨_, L0, _, _, S9, rfl, h1⟩

def m_ref01_Add (a0 : UInt64) (a1 : UInt64) : Option UInt64 :=
  bnd ((((a0 % 2305843009213693951) + (a1 % 2305843009213693951)) % 2305843009213693951)) fun x1 =>
  some x1

theorem w_ref01_Add {m : Mem} {As : List Ow} {w : World} {a0 : UInt64} {a1 : UInt64} {r : UInt64} (S : St m (As) w) (hm : m_ref01_Add a0 a1 = some r) :
    CallsR Tryd.prog 74 #[vU a0, vU a1] w fun v w' => ∃ (M : Mem), m ≤ M ∧ St M (As) w' ∧ v = vU r := by
  unfold m_ref01_Add at hm
  have L0 := Mem.rfl' m
  refine callsR (args := [vU a0, vU a1]) Tryd.func74 rfl Tryd.ntmps74 (Nat.le_of_ble_eq_true rfl) ?_
  refine wpc_seq ?_
  refine wpc_region ?_
  refine s_asv (v := vU 0) rfl ?_
  refine wpl_nil ?_
  refine nrm ?_
  refine wpc_seq ?_
  refine wpc_region ?_
  refine s_mvv (v := vU a0) rfl ?_
  refine s_remU (m := a0) (n := 2305843009213693951) rfl rfl (by decide) ?_
  refine s_mvv (v := vU a1) rfl ?_
  refine s_remU (m := a1) (n := 2305843009213693951) rfl rfl (by decide) ?_
  refine s_addU (m := (a0 % 2305843009213693951)) (n := (a1 % 2305843009213693951)) rfl rfl ?_
  refine s_remU (m := ((a0 % 2305843009213693951) + (a1 % 2305843009213693951))) (n := 2305843009213693951) rfl rfl (by decide) ?_
  obtain ⟨x1, q1, hm⟩ := bnd_eq hm
  refine s_asv (v := vU x1) (congrArg (fun z => vU z) q1.symm) ?_
  refine wpl_nil ?_
  refine nrm ?_
  refine wpc_ret ?_
  refine outRw ?_
  intro we hpd
  replace S := St.pd S hpd
  have e0 := Option.some.inj hm
  subst e0
  exact outR [_] rfl ⟨rfl, trivial⟩ ⟨_, L0, S, rfl⟩

def m_ref01_Mul_b1  (s1 : UInt64 × UInt64 × UInt64) : Option ((UInt64 × UInt64 × UInt64) ⊕ (UInt64)) :=
  if (decide ((s1.2.1.toNat : Int) > 0)) = true then
    obind (
      if (((s1.2.1 % 2).toNat : Int) == 1) = true then
        obind (m_ref01_Add s1.2.2 s1.1) fun x5 =>
        some x5
      else
      some s1.2.2
    ) fun x4 =>
    obind (m_ref01_Add s1.1 s1.1) fun x6 =>
    some (.inl (x6, (s1.2.1 / 2), x4))
  else
  some (.inr s1.2.2)

def m_ref01_Mul (a0 : UInt64) (a1 : UInt64) : Option UInt64 :=
  obind (
    obind (iter m_ref01_Mul_b1 FUEL ((a0 % 2305843009213693951), (a1 % 2305843009213693951), 0)) fun x2 =>
    some x2
  ) fun x1 =>
  some x1

theorem w_ref01_Mul {m : Mem} {As : List Ow} {w : World} {a0 : UInt64} {a1 : UInt64} {r : UInt64} (S : St m (As) w) (hm : m_ref01_Mul a0 a1 = some r) :
    CallsR Tryd.prog 91 #[vU a0, vU a1] w fun v w' => ∃ (M : Mem), m ≤ M ∧ St M (As) w' ∧ v = vU r := by
  unfold m_ref01_Mul at hm
  have L0 := Mem.rfl' m
  refine callsR (args := [vU a0, vU a1]) Tryd.func91 rfl Tryd.ntmps91 (Nat.le_of_ble_eq_true rfl) ?_
  refine wpc_seq ?_
  refine wpc_region ?_
  refine s_asv (v := vU 0) rfl ?_
  refine wpl_nil ?_
  refine nrm ?_
  refine wpc_seq ?_
  refine wpc_region ?_
  refine s_mvv (v := vU a0) rfl ?_
  refine s_remU (m := a0) (n := 2305843009213693951) rfl rfl (by decide) ?_
  refine s_asv (v := vU (a0 % 2305843009213693951)) rfl ?_
  refine wpl_nil ?_
  refine nrm ?_
  refine wpc_seq ?_
  refine wpc_region ?_
  refine s_mvv (v := vU a1) rfl ?_
  refine s_remU (m := a1) (n := 2305843009213693951) rfl rfl (by decide) ?_
  refine s_asv (v := vU (a1 % 2305843009213693951)) rfl ?_
  refine wpl_nil ?_
  refine nrm ?_
  refine wpc_seq ?_
  refine wpc_region ?_
  refine s_asv (v := vU 0) rfl ?_
  refine wpl_nil ?_
  refine nrm ?_
  obtain ⟨x1, q1, hm⟩ := obind_some hm
  have L1 := Mem.rfl' m
  refine wpc_seq ?_
  refine wpc_join [0, 1, 5, 10, 11, 12, 13, 14, 15, 16, 17, 18, 19, 20, 21, 22] (fun f' w' => ∃ (M1 : Mem), m ≤ M1 ∧ St M1 (As) w' ∧ AllAt f' [(5, vU x1)]) ?_ ?_
  · obtain ⟨x2, q2, q1⟩ := obind_some q1
    have L2 := Mem.rfl' m
    refine wpc_join [0, 1, 5, 10, 11, 12, 13, 14, 15, 16, 17, 18, 19, 20, 21, 22] (fun f' w' => ∃ (M2 : Mem), m ≤ M2 ∧ St M2 (As) w' ∧ AllAt f' [(5, vU x2)]) ?_ ?_
    · refine wpc_block ?_
      refine wpc_rounds [0, 1, 5, 10, 11, 12, 13, 14, 15, 16, 17, 18, 19, 20, 21, 22] (fun n1 f' w' => ∃ (s1 : UInt64 × UInt64 × UInt64) (m5 : Mem), iter m_ref01_Mul_b1 n1 s1 = some x2 ∧ m ≤ m5 ∧ St m5 (As) w' ∧ AllAt f' [(0, vU s1.1), (1, vU s1.2.1), (5, vU s1.2.2)]) FUEL ⟨((a0 % 2305843009213693951), (a1 % 2305843009213693951), 0), m, q2, L2, S, ⟨rfl, rfl, rfl, trivial⟩⟩ ?_
      rintro n1 f1 w1 ho ⟨s1, m1, q3, L4, S1, ha⟩
      obtain ⟨u1, rfl⟩ := fr_of (N := 24) ho ha
      clear ho ha
      have L3 := Mem.rfl' m1
      clear S
      cases n1 with
      | zero => exact (iter_zero q3).elim
      | succ n1 =>
        obtain ⟨y1, q5, q4⟩ := iter_succ q3
        unfold m_ref01_Mul_b1 at q5
        refine wpc_seq ?_
        refine wpc_seq ?_
        refine wpc_region ?_
        refine s_mvv (v := vU s1.2.1) rfl ?_
        refine s_gtr (m := (s1.2.1.toNat : Int)) (n := 0) rfl rfl ?_
        refine wpl_nil ?_
        refine nrm ?_
        refine wpc_if (t := (decide ((s1.2.1.toNat : Int) > 0))) rfl (fun hc1 => ?_) (fun hc1 => ?_)
        · replace q5 := ifT hc1 q5
          refine wpc_skip ?_
          refine nrm ?_
          refine wpc_block ?_
          obtain ⟨x4, q7, q5⟩ := obind_some q5
          have L5 := Mem.rfl' m1
          refine wpc_seq ?_
          refine wpc_join [5, 12, 13, 14, 15, 16, 17] (fun f' w' => ∃ (M3 : Mem), m1 ≤ M3 ∧ St M3 (As) w' ∧ AllAt f' [(5, vU x4)]) ?_ ?_
          · refine wpc_seq ?_
            refine wpc_region ?_
            refine s_mvv (v := vU s1.2.1) rfl ?_
            refine s_remU (m := s1.2.1) (n := 2) rfl rfl (by decide) ?_
            refine s_eql (m := ((s1.2.1 % 2).toNat : Int)) (n := 1) rfl rfl ?_
            refine wpl_nil ?_
            refine nrm ?_
            refine wpc_if (t := (((s1.2.1 % 2).toNat : Int) == 1)) rfl (fun hc2 => ?_) (fun hc2 => ?_)
            · replace q7 := ifT hc2 q7
              refine wpc_region ?_
              refine s_mvv (v := vU s1.2.2) rfl ?_
              refine s_mvv (v := vU s1.1) rfl ?_
              obtain ⟨x5, q8, q7⟩ := obind_some q7
              refine s_call Tryd.call74 (w_ref01_Add (a0 := s1.2.2) (a1 := s1.1) S1  q8) rfl ?_
              rintro _ w2 ⟨m2, l1, S2, rfl⟩
              replace L5 := Mem.tr L5 l1
              clear S1
              replace S2 : St _ (As) _ := S2
              refine s_asv (v := vU x5) rfl ?_
              refine wpl_nil ?_
              refine nrm ?_
              have e0 := Option.some.inj q7
              subst e0
              exact ⟨outP, m2, L5, S2, ⟨rfl, trivial⟩⟩
            replace q7 := ifF hc2 q7
            refine wpc_skip ?_
            refine nrm ?_
            have e0 := Option.some.inj q7
            subst e0
            exact ⟨outP, m1, L5, S1, ⟨rfl, trivial⟩⟩
          rintro f2 w3 ho ⟨m3, l2, S3, ha⟩
          obtain ⟨u2, rfl⟩ := fr_of (N := 24) ho ha
          replace L3 := Mem.tr L3 l2
          clear S1
          refine wpc_seq ?_
          refine wpc_region ?_
          refine s_mvv (v := vU s1.1) rfl ?_
          refine s_mvv (v := vU s1.1) rfl ?_
          obtain ⟨x6, q9, q5⟩ := obind_some q5
          refine s_call Tryd.call74 (w_ref01_Add (a0 := s1.1) (a1 := s1.1) S3  q9) rfl ?_
          rintro _ w4 ⟨m4, l3, S4, rfl⟩
          replace L3 := Mem.tr L3 l3
          clear S3
          replace S4 : St _ (As) _ := S4
          refine s_asv (v := vU x6) rfl ?_
          refine wpl_nil ?_
          refine nrm ?_
          refine wpc_region ?_
          refine s_mvv (v := vU s1.2.1) rfl ?_
          refine s_quoU (m := s1.2.1) (n := 2) rfl rfl (by decide) ?_
          refine s_asv (v := vU (s1.2.1 / 2)) rfl ?_
          refine wpl_nil ?_
          refine nrmB ?_
          refine nrm ?_
          have e0 := Option.some.inj q5
          subst e0
          rcases q4 with ⟨sn, e, q4'⟩ | e
          · cases e
            exact ⟨outP, _, Nat.lt_succ_self _, ⟨_, m4, q4', Mem.tr L4 L3, S4, ⟨rfl, rfl, rfl, trivial⟩⟩⟩
          · cases e
        replace q5 := ifF hc1 q5
        refine wpc_exit ?_
        refine thE ?_
        refine thE ?_
        refine exB ?_
        refine nrm ?_
        have e0 := Option.some.inj q5
        subst e0
        rcases q4 with ⟨sn, e, _⟩ | e
        · cases e
        · cases e
          exact ⟨outP, m1, Mem.tr L4 L3, S1, ⟨rfl, trivial⟩⟩
    rintro f3 w5 ho ⟨m6, l4, S5, ha⟩
    obtain ⟨u3, rfl⟩ := fr_of (N := 24) ho ha
    clear ho ha
    replace L1 := Mem.tr L1 l4
    clear S
    have e0 := Option.some.inj q1
    subst e0
    exact ⟨outP, m6, L1, S5, ⟨rfl, trivial⟩⟩
  rintro f4 w6 ho ⟨m7, l5, S6, ha⟩
  obtain ⟨u4, rfl⟩ := fr_of (N := 24) ho ha
  replace L0 := Mem.tr L0 l5
  clear S
  refine wpc_seq ?_
  refine wpc_region ?_
  refine s_mvv (v := vU x1) rfl ?_
  refine s_asv (v := vU x1) rfl ?_
  refine wpl_nil ?_
  refine nrm ?_
  refine wpc_ret ?_
  refine outRw ?_
  intro we hpd
  replace S6 := St.pd S6 hpd
  have e0 := Option.some.inj hm
  subst e0
  exact outR [_] rfl ⟨rfl, trivial⟩ ⟨_, L0, S6, rfl⟩

def m_ref02_raised_b1 (a0 : UInt64) (a1 : Int) (s1 : UInt64 × Int) : Option ((UInt64 × Int) ⊕ (UInt64)) :=
  if (decide (s1.2 < a1)) = true then
    obind (m_ref01_Mul s1.1 a0) fun x4 =>
    some (.inl (x4, (w64 (s1.2 + 1))))
  else
  some (.inr s1.1)

def m_ref02_raised (a0 : UInt64) (a1 : Int) : Option UInt64 :=
  obind (
    obind (iter (m_ref02_raised_b1 a0 a1) FUEL (1, 0)) fun x2 =>
    some x2
  ) fun x1 =>
  some x1

theorem w_ref02_raised {m : Mem} {As : List Ow} {w : World} {a0 : UInt64} {a1 : Int} {r : UInt64} (S : St m (As) w) (hm : m_ref02_raised a0 a1 = some r) :
    CallsR Tryd.prog 89 #[vU a0, vI a1] w fun v w' => ∃ (M : Mem), m ≤ M ∧ St M (As) w' ∧ v = vU r := by
  unfold m_ref02_raised at hm
  have L0 := Mem.rfl' m
  refine callsR (args := [vU a0, vI a1]) Tryd.func89 rfl Tryd.ntmps89 (Nat.le_of_ble_eq_true rfl) ?_
  refine wpc_seq ?_
  refine wpc_region ?_
  refine s_asv (v := vU 0) rfl ?_
  refine wpl_nil ?_
  refine nrm ?_
  refine wpc_seq ?_
  refine wpc_region ?_
  refine s_asv (v := vU 1) rfl ?_
  refine wpl_nil ?_
  refine nrm ?_
  obtain ⟨x1, q1, hm⟩ := obind_some hm
  have L1 := Mem.rfl' m
  refine wpc_seq ?_
  refine wpc_join [5, 6, 7, 8, 9, 10, 11, 12, 13, 14] (fun f' w' => ∃ (M1 : Mem), m ≤ M1 ∧ St M1 (As) w' ∧ AllAt f' [(5, vU x1)]) ?_ ?_
  · refine wpc_seq ?_
    refine wpc_region ?_
    refine s_asv (v := vI 0) rfl ?_
    refine wpl_nil ?_
    refine nrm ?_
    obtain ⟨x2, q2, q1⟩ := obind_some q1
    have L2 := Mem.rfl' m
    refine wpc_join [5, 6, 7, 8, 9, 10, 11, 12, 13, 14] (fun f' w' => ∃ (M2 : Mem), m ≤ M2 ∧ St M2 (As) w' ∧ AllAt f' [(5, vU x2)]) ?_ ?_
    · refine wpc_block ?_
      refine wpc_rounds [5, 6, 7, 8, 9, 10, 11, 12, 13, 14] (fun n1 f' w' => ∃ (s1 : UInt64 × Int) (m3 : Mem), iter (m_ref02_raised_b1 a0 a1) n1 s1 = some x2 ∧ m ≤ m3 ∧ St m3 (As) w' ∧ AllAt f' [(5, vU s1.1), (6, vI s1.2)]) FUEL ⟨(1, 0), m, q2, L2, S, ⟨rfl, rfl, trivial⟩⟩ ?_
      rintro n1 f1 w1 ho ⟨s1, m1, q3, L4, S1, ha⟩
      obtain ⟨u1, rfl⟩ := fr_of (N := 16) ho ha
      clear ho ha
      have L3 := Mem.rfl' m1
      clear S
      cases n1 with
      | zero => exact (iter_zero q3).elim
      | succ n1 =>
        obtain ⟨y1, q5, q4⟩ := iter_succ q3
        unfold m_ref02_raised_b1 at q5
        refine wpc_seq ?_
        refine wpc_seq ?_
        refine wpc_region ?_
        refine s_mvv (v := vI s1.2) rfl ?_
        refine s_mvv (v := vI a1) rfl ?_
        refine s_lss (m := s1.2) (n := a1) rfl rfl ?_
        refine wpl_nil ?_
        refine nrm ?_
        refine wpc_if (t := (decide (s1.2 < a1))) rfl (fun hc1 => ?_) (fun hc1 => ?_)
        · replace q5 := ifT hc1 q5
          refine wpc_skip ?_
          refine nrm ?_
          refine wpc_seq ?_
          refine wpc_block ?_
          refine wpc_region ?_
          refine s_mvv (v := vU s1.1) rfl ?_
          refine s_mvv (v := vU a0) rfl ?_
          obtain ⟨x4, q7, q5⟩ := obind_some q5
          refine s_call Tryd.call91 (w_ref01_Mul (a0 := s1.1) (a1 := a0) S1  q7) rfl ?_
          rintro _ w2 ⟨m2, l1, S2, rfl⟩
          replace L3 := Mem.tr L3 l1
          clear S1
          replace S2 : St _ (As) _ := S2
          refine s_asv (v := vU x4) rfl ?_
          refine wpl_nil ?_
          refine nrmB ?_
          refine nrm ?_
          refine wpc_region ?_
          refine s_mvv (v := vI s1.2) rfl ?_
          refine s_addI (m := s1.2) (n := 1) rfl rfl ?_
          refine s_asv (v := vI (w64 (s1.2 + 1))) rfl ?_
          refine wpl_nil ?_
          refine nrm ?_
          have e0 := Option.some.inj q5
          subst e0
          rcases q4 with ⟨sn, e, q4'⟩ | e
          · cases e
            exact ⟨outP, _, Nat.lt_succ_self _, ⟨_, m2, q4', Mem.tr L4 L3, S2, ⟨rfl, rfl, trivial⟩⟩⟩
          · cases e
        replace q5 := ifF hc1 q5
        refine wpc_exit ?_
        refine thE ?_
        refine thE ?_
        refine exB ?_
        refine nrm ?_
        have e0 := Option.some.inj q5
        subst e0
        rcases q4 with ⟨sn, e, _⟩ | e
        · cases e
        · cases e
          exact ⟨outP, m1, Mem.tr L4 L3, S1, ⟨rfl, trivial⟩⟩
    rintro f2 w3 ho ⟨m4, l2, S3, ha⟩
    obtain ⟨u2, rfl⟩ := fr_of (N := 16) ho ha
    clear ho ha
    replace L1 := Mem.tr L1 l2
    clear S
    have e0 := Option.some.inj q1
    subst e0
    exact ⟨outP, m4, L1, S3, ⟨rfl, trivial⟩⟩
  rintro f3 w4 ho ⟨m5, l3, S4, ha⟩
  obtain ⟨u3, rfl⟩ := fr_of (N := 16) ho ha
  replace L0 := Mem.tr L0 l3
  clear S
  refine wpc_seq ?_
  refine wpc_region ?_
  refine s_mvv (v := vU x1) rfl ?_
  refine s_asv (v := vU x1) rfl ?_
  refine wpl_nil ?_
  refine nrm ?_
  refine wpc_ret ?_
  refine outRw ?_
  intro we hpd
  replace S4 := St.pd S4 hpd
  have e0 := Option.some.inj hm
  subst e0
  exact outR [_] rfl ⟨rfl, trivial⟩ ⟨_, L0, S4, rfl⟩

def m_ref02_round_b4 (a0 : UInt64 × UInt64 × UInt64) (a1 : Int) (s1 : Int × UInt64 × UInt64 × UInt64) : Option ((Int × UInt64 × UInt64 × UInt64) ⊕ (UInt64 × UInt64 × UInt64)) :=
  if (decide (s1.1 < 3)) = true then
    obind (m_ref02_raised (toU (w64 ((w64 ((w64 (3 * a1)) + s1.1)) + 1))) 3) fun x4 =>
    obind (m_ref01_Add x4 7) fun x5 =>
    obind (idx [a0.1, a0.2.1, a0.2.2] s1.1) fun x6 =>
    obind (m_ref01_Add x6 x5) fun x7 =>
    obind (m_ref02_raised x7 17) fun x8 =>
    obind (idx [s1.2.1, s1.2.2.1, s1.2.2.2] s1.1) fun x9 =>
    bnd (if s1.1 = 0 then x8 else s1.2.1) fun x10 =>
    bnd (if s1.1 = 1 then x8 else s1.2.2.1) fun x11 =>
    bnd (if s1.1 = 2 then x8 else s1.2.2.2) fun x12 =>
    some (.inl ((w64 (s1.1 + 1)), x10, x11, x12))
  else
  some (.inr (s1.2.1, s1.2.2.1, s1.2.2.2))

def m_ref02_round_b5 (x14 : UInt64) (s2 : Int × UInt64 × UInt64 × UInt64) : Option ((Int × UInt64 × UInt64 × UInt64) ⊕ (UInt64 × UInt64 × UInt64)) :=
  if (decide (s2.1 < 3)) = true then
    obind (idx [s2.2.1, s2.2.2.1, s2.2.2.2] s2.1) fun x18 =>
    obind (m_ref01_Add x18 x14) fun x19 =>
    obind (idx [s2.2.1, s2.2.2.1, s2.2.2.2] s2.1) fun x20 =>
    bnd (if s2.1 = 0 then x19 else s2.2.1) fun x21 =>
    bnd (if s2.1 = 1 then x19 else s2.2.2.1) fun x22 =>
    bnd (if s2.1 = 2 then x19 else s2.2.2.2) fun x23 =>
    some (.inl ((w64 (s2.1 + 1)), x21, x22, x23))
  else
  some (.inr (s2.2.1, s2.2.2.1, s2.2.2.2))

def m_ref02_round (a0 : UInt64 × UInt64 × UInt64) (a1 : Int) : Option (UInt64 × UInt64 × UInt64) :=
  obind (
    obind (iter (m_ref02_round_b4 a0 a1) FUEL (0, 0, 0, 0)) fun x2 =>
    some (x2.1, x2.2.1, x2.2.2)
  ) fun x1 =>
  obind (m_ref01_Add x1.1 x1.2.1) fun x13 =>
  obind (m_ref01_Add x13 x1.2.2) fun x14 =>
  obind (
    obind (iter (m_ref02_round_b5 x14) FUEL (0, x1.1, x1.2.1, x1.2.2)) fun x16 =>
    some (x16.1, x16.2.1, x16.2.2)
  ) fun x15 =>
  some x15

theorem w_ref02_round {m : Mem} {As : List Ow} {w : World} {a0 : UInt64 × UInt64 × UInt64} {a1 : Int} {r : UInt64 × UInt64 × UInt64} (S : St m (As) w) (hm : m_ref02_round a0 a1 = some r) :
    CallsR Tryd.prog 85 #[.agg #[vU a0.1, vU a0.2.1, vU a0.2.2], vI a1] w fun v w' => ∃ (M : Mem), m ≤ M ∧ St M (As) w' ∧ v = .agg #[vU r.1, vU r.2.1, vU r.2.2] := by
  unfold m_ref02_round at hm
  have L0 := Mem.rfl' m
  refine callsR (args := [.agg #[vU a0.1, vU a0.2.1, vU a0.2.2], vI a1]) Tryd.func85 rfl Tryd.ntmps85 (Nat.le_of_ble_eq_true rfl) ?_
  refine wpc_seq ?_
  refine wpc_region ?_
  refine s_box S rfl ?_
  intro b1 w1 S1
  replace S1 : St _ ((bx b1 [vU a0.1, vU a0.2.1, vU a0.2.2] 84) :: As) _ := S1
  clear S
  refine s_alloc S1 Tryd.zeroValue84 ?_
  intro b2 w2 S2
  replace S2 : St _ ((bx b2 [vU 0, vU 0, vU 0] 84) :: (bx b1 [vU a0.1, vU a0.2.1, vU a0.2.2] 84) :: As) _ := S2
  clear S1
  refine wpl_nil ?_
  refine nrm ?_
  refine wpc_seq ?_
  refine wpc_region ?_
  refine s_alloc S2 Tryd.zeroValue84 ?_
  intro b3 w3 S3
  replace S3 : St _ ((bx b3 [vU 0, vU 0, vU 0] 84) :: (bx b2 [vU 0, vU 0, vU 0] 84) :: (bx b1 [vU a0.1, vU a0.2.1, vU a0.2.2] 84) :: As) _ := S3
  clear S2
  refine wpl_nil ?_
  refine nrm ?_
  obtain ⟨x1, q1, hm⟩ := obind_some hm
  have L1 := Mem.rfl' m
  refine wpc_seq ?_
  refine wpc_join [6, 7, 10, 11, 12, 13, 14, 15, 16, 17, 18, 19, 20, 21, 22, 23, 24, 25, 26, 27, 28, 29] (fun f' w' => ∃ (M1 : Mem), m ≤ M1 ∧ St M1 ((bx b3 [vU x1.1, vU x1.2.1, vU x1.2.2] 84) :: (bx b2 [vU 0, vU 0, vU 0] 84) :: (bx b1 [vU a0.1, vU a0.2.1, vU a0.2.2] 84) :: As) w' ∧ AllAt f' []) ?_ ?_
  · refine wpc_seq ?_
    refine wpc_region ?_
    refine s_asv (v := vI 0) rfl ?_
    refine wpl_nil ?_
    refine nrm ?_
    obtain ⟨x2, q2, q1⟩ := obind_some q1
    have L2 := Mem.rfl' m
    refine wpc_join [6, 7, 10, 11, 12, 13, 14, 15, 16, 17, 18, 19, 20, 21, 22, 23, 24, 25, 26, 27, 28, 29] (fun f' w' => ∃ (M2 : Mem), m ≤ M2 ∧ St M2 ((bx b3 [vU x2.1, vU x2.2.1, vU x2.2.2] 84) :: (bx b2 [vU 0, vU 0, vU 0] 84) :: (bx b1 [vU a0.1, vU a0.2.1, vU a0.2.2] 84) :: As) w' ∧ AllAt f' []) ?_ ?_
    · refine wpc_block ?_
      refine wpc_rounds [6, 7, 10, 11, 12, 13, 14, 15, 16, 17, 18, 19, 20, 21, 22, 23, 24, 25, 26, 27, 28, 29] (fun n1 f' w' => ∃ (s1 : Int × UInt64 × UInt64 × UInt64) (m6 : Mem), iter (m_ref02_round_b4 a0 a1) n1 s1 = some x2 ∧ m ≤ m6 ∧ St m6 ((bx b3 [vU s1.2.1, vU s1.2.2.1, vU s1.2.2.2] 84) :: (bx b2 [vU 0, vU 0, vU 0] 84) :: (bx b1 [vU a0.1, vU a0.2.1, vU a0.2.2] 84) :: As) w' ∧ AllAt f' [(6, vI s1.1)]) FUEL ⟨(0, 0, 0, 0), m, q2, L2, S3, ⟨rfl, trivial⟩⟩ ?_
      rintro n1 f1 w4 ho ⟨s1, m1, q3, L4, S4, ha⟩
      obtain ⟨u1, rfl⟩ := fr_of (N := 50) ho ha
      clear ho ha
      have L3 := Mem.rfl' m1
      clear S3
      cases n1 with
      | zero => exact (iter_zero q3).elim
      | succ n1 =>
        obtain ⟨y1, q5, q4⟩ := iter_succ q3
        unfold m_ref02_round_b4 at q5
        refine wpc_seq ?_
        refine wpc_seq ?_
        refine wpc_region ?_
        refine s_mvv (v := vI s1.1) rfl ?_
        refine s_lss (m := s1.1) (n := 3) rfl rfl ?_
        refine wpl_nil ?_
        refine nrm ?_
        refine wpc_if (t := (decide (s1.1 < 3))) rfl (fun hc1 => ?_) (fun hc1 => ?_)
        · replace q5 := ifT hc1 q5
          refine wpc_skip ?_
          refine nrm ?_
          refine wpc_seq ?_
          refine wpc_block ?_
          refine wpc_seq ?_
          refine wpc_region ?_
          refine s_mvv (v := vI a1) rfl ?_
          refine s_mulI (m := 3) (n := a1) rfl rfl ?_
          refine s_mvv (v := vI s1.1) rfl ?_
          refine s_addI (m := (w64 (3 * a1))) (n := s1.1) rfl rfl ?_
          refine s_addI (m := (w64 ((w64 (3 * a1)) + s1.1))) (n := 1) rfl rfl ?_
          refine s_convU rfl Tryd.underlying3 Tryd.underlying25 ?_
          obtain ⟨x4, q7, q5⟩ := obind_some q5
          refine s_call Tryd.call89 (w_ref02_raised (a0 := (toU (w64 ((w64 ((w64 (3 * a1)) + s1.1)) + 1)))) (a1 := 3) S4  q7) rfl ?_
          rintro _ w5 ⟨m2, l1, S5, rfl⟩
          replace L3 := Mem.tr L3 l1
          clear S4
          replace S5 : St _ ((bx b3 [vU s1.2.1, vU s1.2.2.1, vU s1.2.2.2] 84) :: (bx b2 [vU 0, vU 0, vU 0] 84) :: (bx b1 [vU a0.1, vU a0.2.1, vU a0.2.2] 84) :: As) _ := S5
          obtain ⟨x5, q8, q5⟩ := obind_some q5
          refine s_call Tryd.call74 (w_ref01_Add (a0 := x4) (a1 := 7) S5  q8) rfl ?_
          rintro _ w6 ⟨m3, l2, S6, rfl⟩
          replace L3 := Mem.tr L3 l2
          clear S5
          replace S6 : St _ ((bx b3 [vU s1.2.1, vU s1.2.2.1, vU s1.2.2.2] 84) :: (bx b2 [vU 0, vU 0, vU 0] 84) :: (bx b1 [vU a0.1, vU a0.2.1, vU a0.2.2] 84) :: As) _ := S6
          refine s_asv (v := vU x5) rfl ?_
          refine wpl_nil ?_
          refine nrm ?_
          refine wpc_region ?_
          refine s_mvv (v := vI s1.1) rfl ?_
          refine s_mvv (v := vI s1.1) rfl ?_
          obtain ⟨x6, q9, q5⟩ := obind_some q5
          refine s_idxA (i := s1.1) rfl rfl Tryd.underlying84 Tryd.sizeOf25 (idx_rng q9).1 (idx_rng q9).2 ?_
          refine s_ld (i := 2) (off := 0 + s1.1.toNat * 1) (cs := [vU x6]) S6 rfl rfl Tryd.isAgg25 Tryd.sizeOf25 (by rcases idx3 q9 with ⟨h, h'⟩ | ⟨h, h'⟩ | ⟨h, h'⟩ <;> (rw [h, h']; rfl)) (fun _ => rfl) ?_
          refine s_mvv (v := vU x5) rfl ?_
          obtain ⟨x7, q10, q5⟩ := obind_some q5
          refine s_call Tryd.call74 (w_ref01_Add (a0 := x6) (a1 := x5) S6  q10) rfl ?_
          rintro _ w7 ⟨m4, l3, S7, rfl⟩
          replace L3 := Mem.tr L3 l3
          clear S6
          replace S7 : St _ ((bx b3 [vU s1.2.1, vU s1.2.2.1, vU s1.2.2.2] 84) :: (bx b2 [vU 0, vU 0, vU 0] 84) :: (bx b1 [vU a0.1, vU a0.2.1, vU a0.2.2] 84) :: As) _ := S7
          obtain ⟨x8, q11, q5⟩ := obind_some q5
          refine s_call Tryd.call89 (w_ref02_raised (a0 := x7) (a1 := 17) S7  q11) rfl ?_
          rintro _ w8 ⟨m5, l4, S8, rfl⟩
          replace L3 := Mem.tr L3 l4
          clear S7
          replace S8 : St _ ((bx b3 [vU s1.2.1, vU s1.2.2.1, vU s1.2.2.2] 84) :: (bx b2 [vU 0, vU 0, vU 0] 84) :: (bx b1 [vU a0.1, vU a0.2.1, vU a0.2.2] 84) :: As) _ := S8
          obtain ⟨x9, q12, q5⟩ := obind_some q5
          refine s_idxA (i := s1.1) rfl rfl Tryd.underlying84 Tryd.sizeOf25 (idx_rng q12).1 (idx_rng q12).2 ?_
          obtain ⟨x10, q13, q5⟩ := bnd_eq q5
          obtain ⟨x11, q14, q5⟩ := bnd_eq q5
          obtain ⟨x12, q15, q5⟩ := bnd_eq q5
          refine s_st (i := 0) (off := 0 + s1.1.toNat * 1) S8 rfl rfl rfl Tryd.sizeOf25 (OneL.all (oneC rfl oneN)) (by rcases idx3 q12 with ⟨h, h'⟩ | ⟨h, h'⟩ | ⟨h, h'⟩ <;> (rw [h]; exact Nat.le_of_ble_eq_true rfl)) ?_
          intro w9 S9
          replace S9 := St.cellsTo (i := 0) (l' := [vU x10, vU x11, vU x12]) S9 (by rcases idx3 q12 with ⟨h, h'⟩ | ⟨h, h'⟩ | ⟨h, h'⟩ <;> (simp only [q13, q14, q15, h]; rfl)) rfl
          replace S9 : St _ ((bx b3 [vU x10, vU x11, vU x12] 84) :: (bx b2 [vU 0, vU 0, vU 0] 84) :: (bx b1 [vU a0.1, vU a0.2.1, vU a0.2.2] 84) :: As) _ := S9
          clear S8
          refine wpl_nil ?_
          refine nrmB ?_
          refine nrm ?_
          refine wpc_region ?_
          refine s_mvv (v := vI s1.1) rfl ?_
          refine s_addI (m := s1.1) (n := 1) rfl rfl ?_
          refine s_asv (v := vI (w64 (s1.1 + 1))) rfl ?_
          refine wpl_nil ?_
          refine nrm ?_
          have e0 := Option.some.inj q5
          subst e0
          rcases q4 with ⟨sn, e, q4'⟩ | e
          · cases e
            exact ⟨outP, _, Nat.lt_succ_self _, ⟨_, m5, q4', Mem.tr L4 L3, S9, ⟨rfl, trivial⟩⟩⟩
          · cases e
        replace q5 := ifF hc1 q5
        refine wpc_exit ?_
        refine thE ?_
        refine thE ?_
        refine exB ?_
        refine nrm ?_
        have e0 := Option.some.inj q5
        subst e0
        rcases q4 with ⟨sn, e, _⟩ | e
        · cases e
        · cases e
          exact ⟨outP, m1, Mem.tr L4 L3, S4, trivial⟩
    rintro f2 w10 ho ⟨m7, l5, S10, ha⟩
    obtain ⟨u2, rfl⟩ := fr_of (N := 50) ho ha
    clear ho ha
    replace L1 := Mem.tr L1 l5
    clear S3
    have e0 := Option.some.inj q1
    subst e0
    exact ⟨outP, m7, L1, S10, trivial⟩
  rintro f3 w11 ho ⟨m8, l6, S11, ha⟩
  obtain ⟨u3, rfl⟩ := fr_of (N := 50) ho ha
  replace L0 := Mem.tr L0 l6
  clear S3
  refine wpc_seq ?_
  obtain ⟨x13, q16, hm⟩ := obind_some hm
  have HM : MonoAll [(30, fun (M : Mem) (v : Value) => v = pt b3 0), (31, fun (M : Mem) (v : Value) => v = vU x1.1), (32, fun (M : Mem) (v : Value) => v = pt b3 1), (33, fun (M : Mem) (v : Value) => v = vU x1.2.1), (34, fun (M : Mem) (v : Value) => v = vU x13), (35, fun (M : Mem) (v : Value) => v = pt b3 2), (36, fun (M : Mem) (v : Value) => v = vU x1.2.2)] := ⟨(fun _ _ _ _ h => h), (fun _ _ _ _ h => h), (fun _ _ _ _ h => h), (fun _ _ _ _ h => h), (fun _ _ _ _ h => h), (fun _ _ _ _ h => h), (fun _ _ _ _ h => h), trivial⟩
  refine wpc_flowG HM 7 mixed rfl rfl rfl [30, 31, 32, 33, 34, 35, 36] (fun L f M w => St M ((bx b3 [vU x1.1, vU x1.2.1, vU x1.2.2] 84) :: (bx b2 [vU 0, vU 0, vU 0] 84) :: (bx b1 [vU a0.1, vU a0.2.1, vU a0.2.2] 84) :: As) w) (St.drew S11 _) ?_ ?_
  · refine ⟨?_, ?_, ?_, ?_, ?_, ?_, ?_, trivial⟩
    · intro L f4 w12 hL hd hc ⟨m9, L5, S12, K, hO⟩
      obtain ⟨u4, rfl⟩ := fr_of (N := 50) (L := []) hO trivial
      replace S12 : St _ ((bx b3 [vU x1.1, vU x1.2.1, vU x1.2.2] 84) :: (bx b2 [vU 0, vU 0, vU 0] 84) :: (bx b1 [vU a0.1, vU a0.2.1, vU a0.2.2] 84) :: As) _ := S12
      have L6 := Mem.rfl' m9
      refine s_idxA (i := 0) rfl rfl Tryd.underlying84 Tryd.sizeOf25 (by decide) (by decide) ?_
      refine wpn ?_
      refine ⟨m9, Mem.tr L5 L6, ?_, facts_step HM rfl K L6 rfl rfl rfl, outP⟩
      exact S12
    · intro L f5 w13 hL hd hc ⟨m10, L7, S13, K, hO⟩
      have d0 : L 0 = true := dep hd rfl
      have e1 := K 0 d0
      obtain ⟨u5, rfl⟩ := fr_of (N := 50) (L := [(30, pt b3 0)]) hO ⟨e1, trivial⟩
      replace S13 : St _ ((bx b3 [vU x1.1, vU x1.2.1, vU x1.2.2] 84) :: (bx b2 [vU 0, vU 0, vU 0] 84) :: (bx b1 [vU a0.1, vU a0.2.1, vU a0.2.2] 84) :: As) _ := S13
      have L8 := Mem.rfl' m10
      refine s_ld (i := 0) (cs := [vU x1.1]) S13 rfl rfl Tryd.isAgg25 Tryd.sizeOf25 rfl (fun _ => rfl) ?_
      refine wpn ?_
      refine ⟨m10, Mem.tr L7 L8, ?_, facts_step HM rfl K L8 rfl rfl rfl, outP⟩
      exact S13
    · intro L f6 w14 hL hd hc ⟨m11, L9, S14, K, hO⟩
      obtain ⟨u6, rfl⟩ := fr_of (N := 50) (L := []) hO trivial
      replace S14 : St _ ((bx b3 [vU x1.1, vU x1.2.1, vU x1.2.2] 84) :: (bx b2 [vU 0, vU 0, vU 0] 84) :: (bx b1 [vU a0.1, vU a0.2.1, vU a0.2.2] 84) :: As) _ := S14
      have L10 := Mem.rfl' m11
      refine s_idxA (i := 1) rfl rfl Tryd.underlying84 Tryd.sizeOf25 (by decide) (by decide) ?_
      refine wpn ?_
      refine ⟨m11, Mem.tr L9 L10, ?_, facts_step HM rfl K L10 rfl rfl rfl, outP⟩
      exact S14
    · intro L f7 w15 hL hd hc ⟨m12, L11, S15, K, hO⟩
      have d2 : L 2 = true := dep hd rfl
      have e2 := K 2 d2
      obtain ⟨u7, rfl⟩ := fr_of (N := 50) (L := [(32, pt b3 1)]) hO ⟨e2, trivial⟩
      replace S15 : St _ ((bx b3 [vU x1.1, vU x1.2.1, vU x1.2.2] 84) :: (bx b2 [vU 0, vU 0, vU 0] 84) :: (bx b1 [vU a0.1, vU a0.2.1, vU a0.2.2] 84) :: As) _ := S15
      have L12 := Mem.rfl' m12
      refine s_ld (i := 0) (cs := [vU x1.2.1]) S15 rfl rfl Tryd.isAgg25 Tryd.sizeOf25 rfl (fun _ => rfl) ?_
      refine wpn ?_
      refine ⟨m12, Mem.tr L11 L12, ?_, facts_step HM rfl K L12 rfl rfl rfl, outP⟩
      exact S15
    · intro L f8 w16 hL hd hc ⟨m13, L13, S16, K, hO⟩
      have d1 : L 1 = true := dep hd rfl
      have e3 := K 1 d1
      have d3 : L 3 = true := dep hd rfl
      have e4 := K 3 d3
      obtain ⟨u8, rfl⟩ := fr_of (N := 50) (L := [(31, vU x1.1), (33, vU x1.2.1)]) hO ⟨e3, e4, trivial⟩
      replace S16 : St _ ((bx b3 [vU x1.1, vU x1.2.1, vU x1.2.2] 84) :: (bx b2 [vU 0, vU 0, vU 0] 84) :: (bx b1 [vU a0.1, vU a0.2.1, vU a0.2.2] 84) :: As) _ := S16
      have L14 := Mem.rfl' m13
      refine s_call Tryd.call74 (w_ref01_Add (a0 := x1.1) (a1 := x1.2.1) S16  q16) rfl ?_
      rintro _ w17 ⟨m14, l7, S17, rfl⟩
      replace L14 := Mem.tr L14 l7
      clear S16
      replace S17 : St _ ((bx b3 [vU x1.1, vU x1.2.1, vU x1.2.2] 84) :: (bx b2 [vU 0, vU 0, vU 0] 84) :: (bx b1 [vU a0.1, vU a0.2.1, vU a0.2.2] 84) :: As) _ := S17
      refine wpn ?_
      refine ⟨m14, Mem.tr L13 L14, ?_, facts_step HM rfl K L14 rfl rfl rfl, outP⟩
      exact S17
    · intro L f9 w18 hL hd hc ⟨m15, L15, S18, K, hO⟩
      obtain ⟨u9, rfl⟩ := fr_of (N := 50) (L := []) hO trivial
      replace S18 : St _ ((bx b3 [vU x1.1, vU x1.2.1, vU x1.2.2] 84) :: (bx b2 [vU 0, vU 0, vU 0] 84) :: (bx b1 [vU a0.1, vU a0.2.1, vU a0.2.2] 84) :: As) _ := S18
      have L16 := Mem.rfl' m15
      refine s_idxA (i := 2) rfl rfl Tryd.underlying84 Tryd.sizeOf25 (by decide) (by decide) ?_
      refine wpn ?_
      refine ⟨m15, Mem.tr L15 L16, ?_, facts_step HM rfl K L16 rfl rfl rfl, outP⟩
      exact S18
    · intro L f10 w19 hL hd hc ⟨m16, L17, S19, K, hO⟩
      have d5 : L 5 = true := dep hd rfl
      have e5 := K 5 d5
      obtain ⟨u10, rfl⟩ := fr_of (N := 50) (L := [(35, pt b3 2)]) hO ⟨e5, trivial⟩
      replace S19 : St _ ((bx b3 [vU x1.1, vU x1.2.1, vU x1.2.2] 84) :: (bx b2 [vU 0, vU 0, vU 0] 84) :: (bx b1 [vU a0.1, vU a0.2.1, vU a0.2.2] 84) :: As) _ := S19
      have L18 := Mem.rfl' m16
      refine s_ld (i := 0) (cs := [vU x1.2.2]) S19 rfl rfl Tryd.isAgg25 Tryd.sizeOf25 rfl (fun _ => rfl) ?_
      refine wpn ?_
      refine ⟨m16, Mem.tr L17 L18, ?_, facts_step HM rfl K L18 rfl rfl rfl, outP⟩
      exact S19
  intro L f11 w20 hall ⟨m17, L19, S20, K, hO⟩
  have d4 : L 4 = true := hall 4 (by decide)
  have e6 := K 4 d4
  have d6 : L 6 = true := hall 6 (by decide)
  have e7 := K 6 d6
  obtain ⟨u11, rfl⟩ := fr_of (N := 50) (L := [(34, vU x13), (36, vU x1.2.2)]) hO ⟨e6, e7, trivial⟩
  replace S20 : St _ ((bx b3 [vU x1.1, vU x1.2.1, vU x1.2.2] 84) :: (bx b2 [vU 0, vU 0, vU 0] 84) :: (bx b1 [vU a0.1, vU a0.2.1, vU a0.2.2] 84) :: As) _ := S20
  replace L0 := Mem.tr L0 L19
  clear S11
  obtain ⟨x14, q17, hm⟩ := obind_some hm
  refine s_call Tryd.call74 (w_ref01_Add (a0 := x13) (a1 := x1.2.2) S20  q17) rfl ?_
  rintro _ w21 ⟨m18, l8, S21, rfl⟩
  replace L0 := Mem.tr L0 l8
  clear S20
  replace S21 : St _ ((bx b3 [vU x1.1, vU x1.2.1, vU x1.2.2] 84) :: (bx b2 [vU 0, vU 0, vU 0] 84) :: (bx b1 [vU a0.1, vU a0.2.1, vU a0.2.2] 84) :: As) _ := S21
  refine s_asv (v := vU x14) rfl ?_
  refine wpl_nil ?_
  refine nrm ?_
  obtain ⟨x15, q18, hm⟩ := obind_some hm
  have L20 := Mem.rfl' m18
  refine wpc_seq ?_
  refine wpc_join [9, 38, 39, 40, 41, 42, 43, 44, 45, 46, 47, 48] (fun f' w' => ∃ (M3 : Mem), m18 ≤ M3 ∧ St M3 ((bx b3 [vU x15.1, vU x15.2.1, vU x15.2.2] 84) :: (bx b2 [vU 0, vU 0, vU 0] 84) :: (bx b1 [vU a0.1, vU a0.2.1, vU a0.2.2] 84) :: As) w' ∧ AllAt f' []) ?_ ?_
  · refine wpc_seq ?_
    refine wpc_region ?_
    refine s_asv (v := vI 0) rfl ?_
    refine wpl_nil ?_
    refine nrm ?_
    obtain ⟨x16, q19, q18⟩ := obind_some q18
    have L21 := Mem.rfl' m18
    refine wpc_join [9, 38, 39, 40, 41, 42, 43, 44, 45, 46, 47, 48] (fun f' w' => ∃ (M4 : Mem), m18 ≤ M4 ∧ St M4 ((bx b3 [vU x16.1, vU x16.2.1, vU x16.2.2] 84) :: (bx b2 [vU 0, vU 0, vU 0] 84) :: (bx b1 [vU a0.1, vU a0.2.1, vU a0.2.2] 84) :: As) w' ∧ AllAt f' []) ?_ ?_
    · refine wpc_block ?_
      refine wpc_rounds [9, 38, 39, 40, 41, 42, 43, 44, 45, 46, 47, 48] (fun n2 f' w' => ∃ (s2 : Int × UInt64 × UInt64 × UInt64) (m21 : Mem), iter (m_ref02_round_b5 x14) n2 s2 = some x16 ∧ m18 ≤ m21 ∧ St m21 ((bx b3 [vU s2.2.1, vU s2.2.2.1, vU s2.2.2.2] 84) :: (bx b2 [vU 0, vU 0, vU 0] 84) :: (bx b1 [vU a0.1, vU a0.2.1, vU a0.2.2] 84) :: As) w' ∧ AllAt f' [(9, vI s2.1)]) FUEL ⟨(0, x1.1, x1.2.1, x1.2.2), m18, q19, L21, S21, ⟨rfl, trivial⟩⟩ ?_
      rintro n2 f12 w22 ho ⟨s2, m19, q20, L23, S22, ha⟩
      obtain ⟨u12, rfl⟩ := fr_of (N := 50) ho ha
      clear ho ha
      have L22 := Mem.rfl' m19
      clear S21
      cases n2 with
      | zero => exact (iter_zero q20).elim
      | succ n2 =>
        obtain ⟨y2, q22, q21⟩ := iter_succ q20
        unfold m_ref02_round_b5 at q22
        refine wpc_seq ?_
        refine wpc_seq ?_
        refine wpc_region ?_
        refine s_mvv (v := vI s2.1) rfl ?_
        refine s_lss (m := s2.1) (n := 3) rfl rfl ?_
        refine wpl_nil ?_
        refine nrm ?_
        refine wpc_if (t := (decide (s2.1 < 3))) rfl (fun hc2 => ?_) (fun hc2 => ?_)
        · replace q22 := ifT hc2 q22
          refine wpc_skip ?_
          refine nrm ?_
          refine wpc_seq ?_
          refine wpc_block ?_
          refine wpc_region ?_
          refine s_mvv (v := vI s2.1) rfl ?_
          refine s_mvv (v := vI s2.1) rfl ?_
          obtain ⟨x18, q24, q22⟩ := obind_some q22
          refine s_idxA (i := s2.1) rfl rfl Tryd.underlying84 Tryd.sizeOf25 (idx_rng q24).1 (idx_rng q24).2 ?_
          refine s_ld (i := 0) (off := 0 + s2.1.toNat * 1) (cs := [vU x18]) S22 rfl rfl Tryd.isAgg25 Tryd.sizeOf25 (by rcases idx3 q24 with ⟨h, h'⟩ | ⟨h, h'⟩ | ⟨h, h'⟩ <;> (rw [h, h']; rfl)) (fun _ => rfl) ?_
          refine s_mvv (v := vU x14) rfl ?_
          obtain ⟨x19, q25, q22⟩ := obind_some q22
          refine s_call Tryd.call74 (w_ref01_Add (a0 := x18) (a1 := x14) S22  q25) rfl ?_
          rintro _ w23 ⟨m20, l9, S23, rfl⟩
          replace L22 := Mem.tr L22 l9
          clear S22
          replace S23 : St _ ((bx b3 [vU s2.2.1, vU s2.2.2.1, vU s2.2.2.2] 84) :: (bx b2 [vU 0, vU 0, vU 0] 84) :: (bx b1 [vU a0.1, vU a0.2.1, vU a0.2.2] 84) :: As) _ := S23
          obtain ⟨x20, q26, q22⟩ := obind_some q22
          refine s_idxA (i := s2.1) rfl rfl Tryd.underlying84 Tryd.sizeOf25 (idx_rng q26).1 (idx_rng q26).2 ?_
          obtain ⟨x21, q27, q22⟩ := bnd_eq q22
          obtain ⟨x22, q28, q22⟩ := bnd_eq q22
          obtain ⟨x23, q29, q22⟩ := bnd_eq q22
          refine s_st (i := 0) (off := 0 + s2.1.toNat * 1) S23 rfl rfl rfl Tryd.sizeOf25 (OneL.all (oneC rfl oneN)) (by rcases idx3 q26 with ⟨h, h'⟩ | ⟨h, h'⟩ | ⟨h, h'⟩ <;> (rw [h]; exact Nat.le_of_ble_eq_true rfl)) ?_
          intro w24 S24
          replace S24 := St.cellsTo (i := 0) (l' := [vU x21, vU x22, vU x23]) S24 (by rcases idx3 q26 with ⟨h, h'⟩ | ⟨h, h'⟩ | ⟨h, h'⟩ <;> (simp only [q27, q28, q29, h]; rfl)) rfl
          replace S24 : St _ ((bx b3 [vU x21, vU x22, vU x23] 84) :: (bx b2 [vU 0, vU 0, vU 0] 84) :: (bx b1 [vU a0.1, vU a0.2.1, vU a0.2.2] 84) :: As) _ := S24
          clear S23
          refine wpl_nil ?_
          refine nrmB ?_
          refine nrm ?_
          refine wpc_region ?_
          refine s_mvv (v := vI s2.1) rfl ?_
          refine s_addI (m := s2.1) (n := 1) rfl rfl ?_
          refine s_asv (v := vI (w64 (s2.1 + 1))) rfl ?_
          refine wpl_nil ?_
          refine nrm ?_
          have e0 := Option.some.inj q22
          subst e0
          rcases q21 with ⟨sn, e, q21'⟩ | e
          · cases e
            exact ⟨outP, _, Nat.lt_succ_self _, ⟨_, m20, q21', Mem.tr L23 L22, S24, ⟨rfl, trivial⟩⟩⟩
          · cases e
        replace q22 := ifF hc2 q22
        refine wpc_exit ?_
        refine thE ?_
        refine thE ?_
        refine exB ?_
        refine nrm ?_
        have e0 := Option.some.inj q22
        subst e0
        rcases q21 with ⟨sn, e, _⟩ | e
        · cases e
        · cases e
          exact ⟨outP, m19, Mem.tr L23 L22, S22, trivial⟩
    rintro f13 w25 ho ⟨m22, l10, S25, ha⟩
    obtain ⟨u13, rfl⟩ := fr_of (N := 50) ho ha
    clear ho ha
    replace L20 := Mem.tr L20 l10
    clear S21
    have e0 := Option.some.inj q18
    subst e0
    exact ⟨outP, m22, L20, S25, trivial⟩
  rintro f14 w26 ho ⟨m23, l11, S26, ha⟩
  obtain ⟨u14, rfl⟩ := fr_of (N := 50) ho ha
  replace L0 := Mem.tr L0 l11
  clear S21
  refine wpc_seq ?_
  refine wpc_region ?_
  refine s_ld (i := 0) (cs := [vU x15.1, vU x15.2.1, vU x15.2.2]) S26 rfl rfl Tryd.isAgg84 Tryd.sizeOf84 rfl (fun h => by cases h) ?_
  refine s_stL (i := 1) S26 rfl rfl rfl Tryd.sizeOf84 (oneC rfl (oneC rfl (oneC rfl oneN))) rfl ?_
  intro w27 S27
  replace S27 : St _ ((bx b3 [vU x15.1, vU x15.2.1, vU x15.2.2] 84) :: (bx b2 [vU x15.1, vU x15.2.1, vU x15.2.2] 84) :: (bx b1 [vU a0.1, vU a0.2.1, vU a0.2.2] 84) :: As) _ := S27
  clear S26
  refine wpl_nil ?_
  refine nrm ?_
  refine wpc_ret ?_
  refine outRw ?_
  intro we hpd
  replace S27 := St.pd S27 hpd
  have SR := S27
  obtain ⟨m24, l12, S28⟩ := St.drop S27 0
  replace L0 := Mem.tr L0 l12
  replace S28 : St _ ((bx b2 [vU x15.1, vU x15.2.1, vU x15.2.2] 84) :: (bx b1 [vU a0.1, vU a0.2.1, vU a0.2.2] 84) :: As) _ := S28
  obtain ⟨m25, l13, S29⟩ := St.drop S28 0
  replace L0 := Mem.tr L0 l13
  clear S28
  replace S29 : St _ ((bx b1 [vU a0.1, vU a0.2.1, vU a0.2.2] 84) :: As) _ := S29
  obtain ⟨m26, l14, S30⟩ := St.drop S29 0
  replace L0 := Mem.tr L0 l14
  clear S29
  replace S30 : St _ (As) _ := S30
  have e0 := Option.some.inj hm
  subst e0
  exact outR [_] rfl ⟨res_box (i := 1) (off := 0) (cs := [vU x15.1, vU x15.2.1, vU x15.2.2]) SR rfl rfl Tryd.isAgg84 Tryd.sizeOf84 rfl (fun h => by cases h), trivial⟩ ⟨_, L0, S30, rfl⟩

def m_ref02_Mix_b3  (s1 : Int × UInt64 × UInt64 × UInt64) : Option ((Int × UInt64 × UInt64 × UInt64) ⊕ (UInt64 × UInt64 × UInt64)) :=
  if (decide (s1.1 < 8)) = true then
    obind (m_ref02_round s1.2 s1.1) fun x4 =>
    some (.inl ((w64 (s1.1 + 1)), x4.1, x4.2.1, x4.2.2))
  else
  some (.inr (s1.2.1, s1.2.2.1, s1.2.2.2))

def m_ref02_Mix (a0 : UInt64 × UInt64 × UInt64) : Option (UInt64 × UInt64 × UInt64) :=
  obind (
    obind (iter m_ref02_Mix_b3 FUEL (0, a0.1, a0.2.1, a0.2.2)) fun x2 =>
    some (x2.1, x2.2.1, x2.2.2)
  ) fun x1 =>
  some x1

theorem w_ref02_Mix {m : Mem} {As : List Ow} {w : World} {a0 : UInt64 × UInt64 × UInt64} {r : UInt64 × UInt64 × UInt64} (S : St m (As) w) (hm : m_ref02_Mix a0 = some r) :
    CallsR Tryd.prog 75 #[.agg #[vU a0.1, vU a0.2.1, vU a0.2.2]] w fun v w' => ∃ (M : Mem), m ≤ M ∧ St M (As) w' ∧ v = .agg #[vU r.1, vU r.2.1, vU r.2.2] := by
  unfold m_ref02_Mix at hm
  have L0 := Mem.rfl' m
  refine callsR (args := [.agg #[vU a0.1, vU a0.2.1, vU a0.2.2]]) Tryd.func75 rfl Tryd.ntmps75 (Nat.le_of_ble_eq_true rfl) ?_
  refine wpc_seq ?_
  refine wpc_region ?_
  refine s_box S rfl ?_
  intro b1 w1 S1
  replace S1 : St _ ((bx b1 [vU a0.1, vU a0.2.1, vU a0.2.2] 84) :: As) _ := S1
  clear S
  refine s_alloc S1 Tryd.zeroValue84 ?_
  intro b2 w2 S2
  replace S2 : St _ ((bx b2 [vU 0, vU 0, vU 0] 84) :: (bx b1 [vU a0.1, vU a0.2.1, vU a0.2.2] 84) :: As) _ := S2
  clear S1
  refine wpl_nil ?_
  refine nrm ?_
  obtain ⟨x1, q1, hm⟩ := obind_some hm
  have L1 := Mem.rfl' m
  refine wpc_seq ?_
  refine wpc_join [3, 4, 5, 6, 7, 8, 9, 10] (fun f' w' => ∃ (M1 : Mem), m ≤ M1 ∧ St M1 ((bx b2 [vU 0, vU 0, vU 0] 84) :: (bx b1 [vU x1.1, vU x1.2.1, vU x1.2.2] 84) :: As) w' ∧ AllAt f' []) ?_ ?_
  · refine wpc_seq ?_
    refine wpc_region ?_
    refine s_asv (v := vI 0) rfl ?_
    refine wpl_nil ?_
    refine nrm ?_
    obtain ⟨x2, q2, q1⟩ := obind_some q1
    have L2 := Mem.rfl' m
    refine wpc_join [3, 4, 5, 6, 7, 8, 9, 10] (fun f' w' => ∃ (M2 : Mem), m ≤ M2 ∧ St M2 ((bx b2 [vU 0, vU 0, vU 0] 84) :: (bx b1 [vU x2.1, vU x2.2.1, vU x2.2.2] 84) :: As) w' ∧ AllAt f' []) ?_ ?_
    · refine wpc_block ?_
      refine wpc_rounds [3, 4, 5, 6, 7, 8, 9, 10] (fun n1 f' w' => ∃ (s1 : Int × UInt64 × UInt64 × UInt64) (m3 : Mem), iter m_ref02_Mix_b3 n1 s1 = some x2 ∧ m ≤ m3 ∧ St m3 ((bx b2 [vU 0, vU 0, vU 0] 84) :: (bx b1 [vU s1.2.1, vU s1.2.2.1, vU s1.2.2.2] 84) :: As) w' ∧ AllAt f' [(3, vI s1.1)]) FUEL ⟨(0, a0.1, a0.2.1, a0.2.2), m, q2, L2, S2, ⟨rfl, trivial⟩⟩ ?_
      rintro n1 f1 w3 ho ⟨s1, m1, q3, L4, S3, ha⟩
      obtain ⟨u1, rfl⟩ := fr_of (N := 12) ho ha
      clear ho ha
      have L3 := Mem.rfl' m1
      clear S2
      cases n1 with
      | zero => exact (iter_zero q3).elim
      | succ n1 =>
        obtain ⟨y1, q5, q4⟩ := iter_succ q3
        unfold m_ref02_Mix_b3 at q5
        refine wpc_seq ?_
        refine wpc_seq ?_
        refine wpc_region ?_
        refine s_mvv (v := vI s1.1) rfl ?_
        refine s_lss (m := s1.1) (n := 8) rfl rfl ?_
        refine wpl_nil ?_
        refine nrm ?_
        refine wpc_if (t := (decide (s1.1 < 8))) rfl (fun hc1 => ?_) (fun hc1 => ?_)
        · replace q5 := ifT hc1 q5
          refine wpc_skip ?_
          refine nrm ?_
          refine wpc_seq ?_
          refine wpc_block ?_
          refine wpc_region ?_
          refine s_ld (i := 1) (cs := [vU s1.2.1, vU s1.2.2.1, vU s1.2.2.2]) S3 rfl rfl Tryd.isAgg84 Tryd.sizeOf84 rfl (fun h => by cases h) ?_
          refine s_mvv (v := vI s1.1) rfl ?_
          obtain ⟨x4, q7, q5⟩ := obind_some q5
          refine s_call Tryd.call85 (w_ref02_round (a0 := s1.2) (a1 := s1.1) S3  q7) rfl ?_
          rintro _ w4 ⟨m2, l1, S4, rfl⟩
          replace L3 := Mem.tr L3 l1
          clear S3
          replace S4 : St _ ((bx b2 [vU 0, vU 0, vU 0] 84) :: (bx b1 [vU s1.2.1, vU s1.2.2.1, vU s1.2.2.2] 84) :: As) _ := S4
          refine s_stL (i := 1) S4 rfl rfl rfl Tryd.sizeOf84 (oneC rfl (oneC rfl (oneC rfl oneN))) rfl ?_
          intro w5 S5
          replace S5 : St _ ((bx b2 [vU 0, vU 0, vU 0] 84) :: (bx b1 [vU x4.1, vU x4.2.1, vU x4.2.2] 84) :: As) _ := S5
          clear S4
          refine wpl_nil ?_
          refine nrmB ?_
          refine nrm ?_
          refine wpc_region ?_
          refine s_mvv (v := vI s1.1) rfl ?_
          refine s_addI (m := s1.1) (n := 1) rfl rfl ?_
          refine s_asv (v := vI (w64 (s1.1 + 1))) rfl ?_
          refine wpl_nil ?_
          refine nrm ?_
          have e0 := Option.some.inj q5
          subst e0
          rcases q4 with ⟨sn, e, q4'⟩ | e
          · cases e
            exact ⟨outP, _, Nat.lt_succ_self _, ⟨_, m2, q4', Mem.tr L4 L3, S5, ⟨rfl, trivial⟩⟩⟩
          · cases e
        replace q5 := ifF hc1 q5
        refine wpc_exit ?_
        refine thE ?_
        refine thE ?_
        refine exB ?_
        refine nrm ?_
        have e0 := Option.some.inj q5
        subst e0
        rcases q4 with ⟨sn, e, _⟩ | e
        · cases e
        · cases e
          exact ⟨outP, m1, Mem.tr L4 L3, S3, trivial⟩
    rintro f2 w6 ho ⟨m4, l2, S6, ha⟩
    obtain ⟨u2, rfl⟩ := fr_of (N := 12) ho ha
    clear ho ha
    replace L1 := Mem.tr L1 l2
    clear S2
    have e0 := Option.some.inj q1
    subst e0
    exact ⟨outP, m4, L1, S6, trivial⟩
  rintro f3 w7 ho ⟨m5, l3, S7, ha⟩
  obtain ⟨u3, rfl⟩ := fr_of (N := 12) ho ha
  replace L0 := Mem.tr L0 l3
  clear S2
  refine wpc_seq ?_
  refine wpc_region ?_
  refine s_ld (i := 1) (cs := [vU x1.1, vU x1.2.1, vU x1.2.2]) S7 rfl rfl Tryd.isAgg84 Tryd.sizeOf84 rfl (fun h => by cases h) ?_
  refine s_stL (i := 0) S7 rfl rfl rfl Tryd.sizeOf84 (oneC rfl (oneC rfl (oneC rfl oneN))) rfl ?_
  intro w8 S8
  replace S8 : St _ ((bx b2 [vU x1.1, vU x1.2.1, vU x1.2.2] 84) :: (bx b1 [vU x1.1, vU x1.2.1, vU x1.2.2] 84) :: As) _ := S8
  clear S7
  refine wpl_nil ?_
  refine nrm ?_
  refine wpc_ret ?_
  refine outRw ?_
  intro we hpd
  replace S8 := St.pd S8 hpd
  have SR := S8
  obtain ⟨m6, l4, S9⟩ := St.drop S8 0
  replace L0 := Mem.tr L0 l4
  replace S9 : St _ ((bx b1 [vU x1.1, vU x1.2.1, vU x1.2.2] 84) :: As) _ := S9
  obtain ⟨m7, l5, S10⟩ := St.drop S9 0
  replace L0 := Mem.tr L0 l5
  clear S9
  replace S10 : St _ (As) _ := S10
  have e0 := Option.some.inj hm
  subst e0
  exact outR [_] rfl ⟨res_box (i := 0) (off := 0) (cs := [vU x1.1, vU x1.2.1, vU x1.2.2]) SR rfl rfl Tryd.isAgg84 Tryd.sizeOf84 rfl (fun h => by cases h), trivial⟩ ⟨_, L0, S10, rfl⟩

def m_ref02_Sum_b3 (x1 : List UInt64) (s1 : Int × UInt64 × UInt64 × UInt64) : Option ((Int × UInt64 × UInt64 × UInt64) ⊕ (UInt64 × UInt64 × UInt64)) :=
  if ((decide (s1.1 < (x1.length : Int))) || (s1.1 == 0)) = true then
    obind (
      if (decide (s1.1 < (x1.length : Int))) = true then
        obind (idx x1 s1.1) fun x6 =>
        obind (m_ref01_Add s1.2.1 x6) fun x7 =>
        some x7
      else
      some s1.2.1
    ) fun x5 =>
    obind (
      if (decide ((w64 (s1.1 + 1)) < (x1.length : Int))) = true then
        obind (idx x1 (w64 (s1.1 + 1))) fun x9 =>
        obind (m_ref01_Add s1.2.2.1 x9) fun x10 =>
        some x10
      else
      some s1.2.2.1
    ) fun x8 =>
    obind (m_ref02_Mix (x5, x8, s1.2.2.2)) fun x11 =>
    some (.inl ((w64 (s1.1 + 2)), x11.1, x11.2.1, x11.2.2))
  else
  some (.inr (s1.2.1, s1.2.2.1, s1.2.2.2))

def m_ref02_Sum (a0 : List UInt8) : Option (UInt64 × UInt64) :=
  obind (m_ref01_Of a0) fun x1 =>
  obind (
    obind (iter (m_ref02_Sum_b3 x1) FUEL (0, 0, 0, (toU (a0.length : Int)))) fun x3 =>
    some (x3.1, x3.2.1, x3.2.2)
  ) fun x2 =>
  some (x2.1, x2.2.1)

theorem w_ref02_Sum {m : Mem} {As : List Ow} {w : World} {a0 : List UInt8} {a0v0 : Value} {r : UInt64 × UInt64} (S : St m (As) w) (a0h0 : SlR m a0v0 a0) (hm : m_ref02_Sum a0 = some r) :
    CallsR Tryd.prog 62 #[a0v0] w fun v w' => ∃ (M : Mem), m ≤ M ∧ St M (As) w' ∧ v = .agg #[vU r.1, vU r.2] := by
  unfold m_ref02_Sum at hm
  have L0 := Mem.rfl' m
  refine callsR (args := [a0v0]) Tryd.func62 rfl Tryd.ntmps62 (Nat.le_of_ble_eq_true rfl) ?_
  refine wpc_seq ?_
  refine wpc_region ?_
  refine s_alloc S Tryd.zeroValue27 ?_
  intro b1 w1 S1
  replace S1 : St _ ((bx b1 [vU 0, vU 0] 27) :: As) _ := S1
  clear S
  refine wpl_nil ?_
  refine nrm ?_
  refine wpc_seq ?_
  refine wpc_region ?_
  refine s_mvv (v := a0v0) rfl ?_
  obtain ⟨x1, q1, hm⟩ := obind_some hm
  refine s_call Tryd.call73 (w_ref01_Of (a0 := a0) S1 a0h0 q1) rfl ?_
  rintro v1 w2 ⟨m1, l1, _, c1, S2, rfl, h1⟩
  replace a0h0 := a0h0.up l1
  replace L0 := Mem.tr L0 l1
  clear S1
  replace S2 : St _ ((row 1 v1 c1 x1.length) :: (bx b1 [vU 0, vU 0] 27) :: As) _ := S2
  refine s_asv (v := v1) rfl ?_
  refine wpl_nil ?_
  refine nrm ?_
  refine wpc_seq ?_
  refine wpc_region ?_
  refine s_mvv (v := a0v0) rfl ?_
  refine s_lenR (xs := a0) rfl a0h0 Tryd.underlying23 ?_
  refine s_convU rfl Tryd.underlying3 Tryd.underlying25 ?_
  refine s_build (parts := [(0, .const (.int .u64 0)), (1, .const (.int .u64 0)), (2, .tmp 10)]) (ps := [(0, vU 0, [vU 0]), (1, vU 0, [vU 0]), (2, vU (toU (a0.length : Int)), [vU (toU (a0.length : Int))])]) (cs := [vU 0, vU 0, vU (toU (a0.length : Int))]) Tryd.zeroValue84 (BuildPl.arr Tryd.underlying84 Tryd.sizeOf25) rfl ⟨rfl, rfl, rfl, trivial⟩ rfl ?_
  refine s_alloc S2 Tryd.zeroValue84 ?_
  intro b2 w3 S3
  replace S3 : St _ ((bx b2 [vU 0, vU 0, vU 0] 84) :: (row 1 v1 c1 x1.length) :: (bx b1 [vU 0, vU 0] 27) :: As) _ := S3
  clear S2
  refine s_stL (i := 0) S3 rfl rfl rfl Tryd.sizeOf84 (oneC rfl (oneC rfl (oneC rfl oneN))) rfl ?_
  intro w4 S4
  replace S4 : St _ ((bx b2 [vU 0, vU 0, vU (toU (a0.length : Int))] 84) :: (row 1 v1 c1 x1.length) :: (bx b1 [vU 0, vU 0] 27) :: As) _ := S4
  clear S3
  refine wpl_nil ?_
  refine nrm ?_
  obtain ⟨x2, q2, hm⟩ := obind_some hm
  have L1 := Mem.rfl' m1
  refine wpc_seq ?_
  refine wpc_join [5, 12, 13, 14, 15, 16, 17, 18, 19, 20, 21, 22, 23, 24, 25, 26, 27, 28, 29, 30, 31, 32, 33, 34, 35, 36, 37, 38, 39, 40, 41, 42, 43, 44, 45, 46, 47, 48, 49] (fun f' w' => ∃ (M1 : Mem), m1 ≤ M1 ∧ St M1 ((bx b2 [vU x2.1, vU x2.2.1, vU x2.2.2] 84) :: (bx b1 [vU 0, vU 0] 27) :: As) w' ∧ AllAt f' []) ?_ ?_
  · refine wpc_seq ?_
    refine wpc_region ?_
    refine s_asv (v := vI 0) rfl ?_
    refine wpl_nil ?_
    refine nrm ?_
    obtain ⟨x3, q3, q2⟩ := obind_some q2
    have L2 := Mem.rfl' m1
    refine wpc_join [5, 12, 13, 14, 15, 16, 17, 18, 19, 20, 21, 22, 23, 24, 25, 26, 27, 28, 29, 30, 31, 32, 33, 34, 35, 36, 37, 38, 39, 40, 41, 42, 43, 44, 45, 46, 47, 48, 49] (fun f' w' => ∃ (M2 : Mem), m1 ≤ M2 ∧ St M2 ((bx b2 [vU x3.1, vU x3.2.1, vU x3.2.2] 84) :: (bx b1 [vU 0, vU 0] 27) :: As) w' ∧ AllAt f' []) ?_ ?_
    · refine wpc_block ?_
      refine wpc_rounds [5, 12, 13, 14, 15, 16, 17, 18, 19, 20, 21, 22, 23, 24, 25, 26, 27, 28, 29, 30, 31, 32, 33, 34, 35, 36, 37, 38, 39, 40, 41, 42, 43, 44, 45, 46, 47, 48, 49] (fun n1 f' w' => ∃ (s1 : Int × UInt64 × UInt64 × UInt64) (m24 : Mem), iter (m_ref02_Sum_b3 x1) n1 s1 = some x3 ∧ m1 ≤ m24 ∧ St m24 ((bx b2 [vU s1.2.1, vU s1.2.2.1, vU s1.2.2.2] 84) :: (row 1 v1 c1 x1.length) :: (bx b1 [vU 0, vU 0] 27) :: As) w' ∧ AllAt f' [(5, vI s1.1)]) FUEL ⟨(0, 0, 0, (toU (a0.length : Int))), m1, q3, L2, S4, ⟨rfl, trivial⟩⟩ ?_
      rintro n1 f1 w5 ho ⟨s1, m2, q4, L4, S5, ha⟩
      obtain ⟨u1, rfl⟩ := fr_of (N := 55) ho ha
      clear ho ha
      replace h1 := RepL.up L4 h1
      have L3 := Mem.rfl' m2
      clear S4
      cases n1 with
      | zero => exact (iter_zero q4).elim
      | succ n1 =>
        obtain ⟨y1, q6, q5⟩ := iter_succ q4
        unfold m_ref02_Sum_b3 at q6
        refine wpc_seq ?_
        refine wpc_seq ?_
        refine wpc_region ?_
        refine s_mvv (v := vI s1.1) rfl ?_
        refine s_mvv (v := v1) rfl ?_
        refine s_lenO (i := 1) S5 rfl rfl Tryd.underlying85 ?_
        refine s_lss (m := s1.1) (n := (x1.length : Int)) rfl rfl ?_
        refine s_mvv (v := vb (decide (s1.1 < (x1.length : Int)))) rfl ?_
        refine wpl_cut 3 [17, 18, 19] (fun f' w' => w' = w5 ∧ AllAt f' [(19, vb ((decide (s1.1 < (x1.length : Int))) || (s1.1 == 0)))]) ?_ ?_
        · rcases bool_tf (decide (s1.1 < (x1.length : Int))) with hb1 | hb1
          · refine wpl_no (d := 16) rfl rfl (congrArg Value.bool hb1) ?_
            refine wpl_no (d := 16) rfl rfl (congrArg Value.bool hb1) ?_
            refine s_pickT (congrArg Value.bool hb1) rfl ?_
            exact wpl_nil (nrm ⟨outP, rfl, congrArg Value.bool (or_t hb1), trivial⟩)
          · refine wpl_yes (d := 16) rfl rfl (congrArg Value.bool hb1) ?_
            refine s_mvv (v := vI s1.1) rfl ?_
            refine wpl_yes (d := 16) rfl rfl (congrArg Value.bool hb1) ?_
            refine s_eql (m := s1.1) (n := 0) rfl rfl ?_
            refine s_pickF (congrArg Value.bool hb1) rfl ?_
            exact wpl_nil (nrm ⟨outP, rfl, congrArg Value.bool (or_f hb1), trivial⟩)
        rintro f2 w6 ho ⟨h2, ha⟩
        subst h2
        obtain ⟨u2, rfl⟩ := fr_of (N := 55) ho ha
        refine wpl_nil ?_
        refine nrm ?_
        refine wpc_if (t := ((decide (s1.1 < (x1.length : Int))) || (s1.1 == 0))) rfl (fun hc1 => ?_) (fun hc1 => ?_)
        · replace q6 := ifT hc1 q6
          refine wpc_skip ?_
          refine nrm ?_
          refine wpc_seq ?_
          refine wpc_block ?_
          obtain ⟨x5, q8, q6⟩ := obind_some q6
          have L5 := Mem.rfl' m2
          refine wpc_seq ?_
          refine wpc_join [22, 23, 24, 25, 26, 27, 28, 29, 30, 31, 32, 33] (fun f' w' => ∃ (M3 : Mem), m2 ≤ M3 ∧ St M3 ((bx b2 [vU x5, vU s1.2.2.1, vU s1.2.2.2] 84) :: (row 1 v1 c1 x1.length) :: (bx b1 [vU 0, vU 0] 27) :: As) w' ∧ AllAt f' []) ?_ ?_
          · refine wpc_seq ?_
            refine wpc_region ?_
            refine s_mvv (v := vI s1.1) rfl ?_
            refine s_mvv (v := v1) rfl ?_
            refine s_lenO (i := 1) S5 rfl rfl Tryd.underlying85 ?_
            refine s_lss (m := s1.1) (n := (x1.length : Int)) rfl rfl ?_
            refine wpl_nil ?_
            refine nrm ?_
            refine wpc_if (t := (decide (s1.1 < (x1.length : Int)))) rfl (fun hc2 => ?_) (fun hc2 => ?_)
            · replace q8 := ifT hc2 q8
              obtain ⟨x6, q9, q8⟩ := obind_some q8
              have HM : MonoAll [(26, fun (M : Mem) (v : Value) => v = pt b2 0), (27, fun (M : Mem) (v : Value) => v = vU s1.2.1), (28, fun (M : Mem) (v : Value) => v = v1), (29, fun (M : Mem) (v : Value) => v = vI s1.1), (30, fun (M : Mem) (v : Value) => ∃ (p1 : Value), v = p1 ∧ PtO v1 p1 (s1.1.toNat * 1)), (31, fun (M : Mem) (v : Value) => v = vU x6)] := ⟨(fun _ _ _ _ h => h), (fun _ _ _ _ h => h), (fun _ _ _ _ h => h), (fun _ _ _ _ h => h), (fun _ _ _ l ⟨p1, e, h3⟩ => ⟨p1, e, h3⟩), (fun _ _ _ _ h => h), trivial⟩
              refine wpc_flowG HM 6 mixed rfl rfl rfl [26, 27, 28, 29, 30, 31] (fun L f M w => St M ((bx b2 [vU s1.2.1, vU s1.2.2.1, vU s1.2.2.2] 84) :: (row 1 v1 c1 x1.length) :: (bx b1 [vU 0, vU 0] 27) :: As) w) (St.drew S5 _) ?_ ?_
              · refine ⟨?_, ?_, ?_, ?_, ?_, ?_, trivial⟩
                · intro L f3 w7 hL hd hc ⟨m3, L6, S6, K, hO⟩
                  obtain ⟨u3, rfl⟩ := fr_of (N := 55) (L := []) hO trivial
                  replace S6 : St _ ((bx b2 [vU s1.2.1, vU s1.2.2.1, vU s1.2.2.2] 84) :: (row 1 v1 c1 x1.length) :: (bx b1 [vU 0, vU 0] 27) :: As) _ := S6
                  replace h1 := RepL.up L6 h1
                  have L7 := Mem.rfl' m3
                  refine s_idxA (i := 0) rfl rfl Tryd.underlying84 Tryd.sizeOf25 (by decide) (by decide) ?_
                  refine wpn ?_
                  refine ⟨m3, Mem.tr L6 L7, ?_, facts_step HM rfl K L7 rfl rfl rfl, outP⟩
                  exact S6
                · intro L f4 w8 hL hd hc ⟨m4, L8, S7, K, hO⟩
                  have d0 : L 0 = true := dep hd rfl
                  have e1 := K 0 d0
                  obtain ⟨u4, rfl⟩ := fr_of (N := 55) (L := [(26, pt b2 0)]) hO ⟨e1, trivial⟩
                  replace S7 : St _ ((bx b2 [vU s1.2.1, vU s1.2.2.1, vU s1.2.2.2] 84) :: (row 1 v1 c1 x1.length) :: (bx b1 [vU 0, vU 0] 27) :: As) _ := S7
                  replace h1 := RepL.up L8 h1
                  have L9 := Mem.rfl' m4
                  refine s_ld (i := 0) (cs := [vU s1.2.1]) S7 rfl rfl Tryd.isAgg25 Tryd.sizeOf25 rfl (fun _ => rfl) ?_
                  refine wpn ?_
                  refine ⟨m4, Mem.tr L8 L9, ?_, facts_step HM rfl K L9 rfl rfl rfl, outP⟩
                  exact S7
                · intro L f5 w9 hL hd hc ⟨m5, L10, S8, K, hO⟩
                  obtain ⟨u5, rfl⟩ := fr_of (N := 55) (L := []) hO trivial
                  replace S8 : St _ ((bx b2 [vU s1.2.1, vU s1.2.2.1, vU s1.2.2.2] 84) :: (row 1 v1 c1 x1.length) :: (bx b1 [vU 0, vU 0] 27) :: As) _ := S8
                  have L11 := Mem.rfl' m5
                  refine s_mvv (v := v1) rfl ?_
                  refine wpn ?_
                  refine ⟨m5, Mem.tr L10 L11, ?_, facts_step HM rfl K L11 rfl rfl rfl, outP⟩
                  exact S8
                · intro L f6 w10 hL hd hc ⟨m6, L12, S9, K, hO⟩
                  obtain ⟨u6, rfl⟩ := fr_of (N := 55) (L := []) hO trivial
                  replace S9 : St _ ((bx b2 [vU s1.2.1, vU s1.2.2.1, vU s1.2.2.2] 84) :: (row 1 v1 c1 x1.length) :: (bx b1 [vU 0, vU 0] 27) :: As) _ := S9
                  have L13 := Mem.rfl' m6
                  refine s_mvv (v := vI s1.1) rfl ?_
                  refine wpn ?_
                  refine ⟨m6, Mem.tr L12 L13, ?_, facts_step HM rfl K L13 rfl rfl rfl, outP⟩
                  exact S9
                · intro L f7 w11 hL hd hc ⟨m7, L14, S10, K, hO⟩
                  have d2 : L 2 = true := dep hd rfl
                  have e2 := K 2 d2
                  have d3 : L 3 = true := dep hd rfl
                  have e3 := K 3 d3
                  obtain ⟨u7, rfl⟩ := fr_of (N := 55) (L := [(28, v1), (29, vI s1.1)]) hO ⟨e2, e3, trivial⟩
                  replace S10 : St _ ((bx b2 [vU s1.2.1, vU s1.2.2.1, vU s1.2.2.2] 84) :: (row 1 v1 c1 x1.length) :: (bx b1 [vU 0, vU 0] 27) :: As) _ := S10
                  replace h1 := RepL.up L14 h1
                  have L15 := Mem.rfl' m7
                  refine s_idxO (i := 1) (j := s1.1) S10 rfl rfl rfl (idx_rng q9).1 (idx_rng q9).2 Tryd.underlying85 Tryd.sizeOf25 ?_
                  intro p1 h3
                  refine wpn ?_
                  refine ⟨m7, Mem.tr L14 L15, ?_, facts_step HM rfl K L15 rfl rfl ⟨p1, rfl, h3⟩, outP⟩
                  exact S10
                · intro L f8 w12 hL hd hc ⟨m8, L16, S11, K, hO⟩
                  have d4 : L 4 = true := dep hd rfl
                  obtain ⟨v2, e4, h4⟩ := K 4 d4
                  obtain ⟨u8, rfl⟩ := fr_of (N := 55) (L := [(30, v2)]) hO ⟨e4, trivial⟩
                  replace S11 : St _ ((bx b2 [vU s1.2.1, vU s1.2.2.1, vU s1.2.2.2] 84) :: (row 1 v1 c1 x1.length) :: (bx b1 [vU 0, vU 0] 27) :: As) _ := S11
                  replace h1 := RepL.up L16 h1
                  have L17 := Mem.rfl' m8
                  have e5 : _ = [vU x6] := RepL.getI h1 q9
                  refine s_ldO (i := 1) (off := s1.1.toNat * 1) (d := [vU x6]) S11 rfl h4 rfl e5 Tryd.isAgg25 Tryd.sizeOf25 (fun _ => rfl) ?_
                  refine wpn ?_
                  refine ⟨m8, Mem.tr L16 L17, ?_, facts_step HM rfl K L17 rfl rfl rfl, outP⟩
                  exact S11
              intro L f9 w13 hall ⟨m9, L18, S12, K, hO⟩
              have d1 : L 1 = true := hall 1 (by decide)
              have e6 := K 1 d1
              have d5 : L 5 = true := hall 5 (by decide)
              have e7 := K 5 d5
              obtain ⟨u9, rfl⟩ := fr_of (N := 55) (L := [(27, vU s1.2.1), (31, vU x6)]) hO ⟨e6, e7, trivial⟩
              replace S12 : St _ ((bx b2 [vU s1.2.1, vU s1.2.2.1, vU s1.2.2.2] 84) :: (row 1 v1 c1 x1.length) :: (bx b1 [vU 0, vU 0] 27) :: As) _ := S12
              replace h1 := RepL.up L18 h1
              replace L5 := Mem.tr L5 L18
              clear S5
              obtain ⟨x7, q10, q8⟩ := obind_some q8
              refine s_call Tryd.call74 (w_ref01_Add (a0 := s1.2.1) (a1 := x6) S12  q10) rfl ?_
              rintro _ w14 ⟨m10, l2, S13, rfl⟩
              replace h1 := RepL.up l2 h1
              replace L5 := Mem.tr L5 l2
              clear S12
              replace S13 : St _ ((bx b2 [vU s1.2.1, vU s1.2.2.1, vU s1.2.2.2] 84) :: (row 1 v1 c1 x1.length) :: (bx b1 [vU 0, vU 0] 27) :: As) _ := S13
              refine s_idxA (i := 0) rfl rfl Tryd.underlying84 Tryd.sizeOf25 (by decide) (by decide) ?_
              refine s_stL (i := 0) S13 rfl rfl rfl Tryd.sizeOf25 (oneC rfl oneN) rfl ?_
              intro w15 S14
              replace S14 : St _ ((bx b2 [vU x7, vU s1.2.2.1, vU s1.2.2.2] 84) :: (row 1 v1 c1 x1.length) :: (bx b1 [vU 0, vU 0] 27) :: As) _ := S14
              clear S13
              refine wpl_nil ?_
              refine nrm ?_
              have e0 := Option.some.inj q8
              subst e0
              exact ⟨outP, m10, L5, S14, trivial⟩
            replace q8 := ifF hc2 q8
            refine wpc_skip ?_
            refine nrm ?_
            have e0 := Option.some.inj q8
            subst e0
            exact ⟨outP, m2, L5, S5, trivial⟩
          rintro f10 w16 ho ⟨m11, l3, S15, ha⟩
          obtain ⟨u10, rfl⟩ := fr_of (N := 55) ho ha
          replace h1 := RepL.up l3 h1
          replace L3 := Mem.tr L3 l3
          clear S5
          obtain ⟨x8, q11, q6⟩ := obind_some q6
          have L19 := Mem.rfl' m11
          refine wpc_seq ?_
          refine wpc_join [34, 35, 36, 37, 38, 39, 40, 41, 42, 43, 44, 45, 46, 47] (fun f' w' => ∃ (M4 : Mem), m11 ≤ M4 ∧ St M4 ((bx b2 [vU x5, vU x8, vU s1.2.2.2] 84) :: (row 1 v1 c1 x1.length) :: (bx b1 [vU 0, vU 0] 27) :: As) w' ∧ AllAt f' []) ?_ ?_
          · refine wpc_seq ?_
            refine wpc_region ?_
            refine s_mvv (v := vI s1.1) rfl ?_
            refine s_addI (m := s1.1) (n := 1) rfl rfl ?_
            refine s_mvv (v := v1) rfl ?_
            refine s_lenO (i := 1) S15 rfl rfl Tryd.underlying85 ?_
            refine s_lss (m := (w64 (s1.1 + 1))) (n := (x1.length : Int)) rfl rfl ?_
            refine wpl_nil ?_
            refine nrm ?_
            refine wpc_if (t := (decide ((w64 (s1.1 + 1)) < (x1.length : Int)))) rfl (fun hc3 => ?_) (fun hc3 => ?_)
            · replace q11 := ifT hc3 q11
              obtain ⟨x9, q12, q11⟩ := obind_some q11
              have HM : MonoAll [(39, fun (M : Mem) (v : Value) => v = pt b2 1), (40, fun (M : Mem) (v : Value) => v = vU s1.2.2.1), (41, fun (M : Mem) (v : Value) => v = v1), (42, fun (M : Mem) (v : Value) => v = vI s1.1), (43, fun (M : Mem) (v : Value) => v = vI (w64 (s1.1 + 1))), (44, fun (M : Mem) (v : Value) => ∃ (p2 : Value), v = p2 ∧ PtO v1 p2 ((w64 (s1.1 + 1)).toNat * 1)), (45, fun (M : Mem) (v : Value) => v = vU x9)] := ⟨(fun _ _ _ _ h => h), (fun _ _ _ _ h => h), (fun _ _ _ _ h => h), (fun _ _ _ _ h => h), (fun _ _ _ _ h => h), (fun _ _ _ l ⟨p2, e, h5⟩ => ⟨p2, e, h5⟩), (fun _ _ _ _ h => h), trivial⟩
              refine wpc_flowG HM 7 mixed rfl rfl rfl [39, 40, 41, 42, 43, 44, 45] (fun L f M w => St M ((bx b2 [vU x5, vU s1.2.2.1, vU s1.2.2.2] 84) :: (row 1 v1 c1 x1.length) :: (bx b1 [vU 0, vU 0] 27) :: As) w) (St.drew S15 _) ?_ ?_
              · refine ⟨?_, ?_, ?_, ?_, ?_, ?_, ?_, trivial⟩
                · intro L f11 w17 hL hd hc ⟨m12, L20, S16, K, hO⟩
                  obtain ⟨u11, rfl⟩ := fr_of (N := 55) (L := []) hO trivial
                  replace S16 : St _ ((bx b2 [vU x5, vU s1.2.2.1, vU s1.2.2.2] 84) :: (row 1 v1 c1 x1.length) :: (bx b1 [vU 0, vU 0] 27) :: As) _ := S16
                  replace h1 := RepL.up L20 h1
                  have L21 := Mem.rfl' m12
                  refine s_idxA (i := 1) rfl rfl Tryd.underlying84 Tryd.sizeOf25 (by decide) (by decide) ?_
                  refine wpn ?_
                  refine ⟨m12, Mem.tr L20 L21, ?_, facts_step HM rfl K L21 rfl rfl rfl, outP⟩
                  exact S16
                · intro L f12 w18 hL hd hc ⟨m13, L22, S17, K, hO⟩
                  have d0 : L 0 = true := dep hd rfl
                  have e8 := K 0 d0
                  obtain ⟨u12, rfl⟩ := fr_of (N := 55) (L := [(39, pt b2 1)]) hO ⟨e8, trivial⟩
                  replace S17 : St _ ((bx b2 [vU x5, vU s1.2.2.1, vU s1.2.2.2] 84) :: (row 1 v1 c1 x1.length) :: (bx b1 [vU 0, vU 0] 27) :: As) _ := S17
                  replace h1 := RepL.up L22 h1
                  have L23 := Mem.rfl' m13
                  refine s_ld (i := 0) (cs := [vU s1.2.2.1]) S17 rfl rfl Tryd.isAgg25 Tryd.sizeOf25 rfl (fun _ => rfl) ?_
                  refine wpn ?_
                  refine ⟨m13, Mem.tr L22 L23, ?_, facts_step HM rfl K L23 rfl rfl rfl, outP⟩
                  exact S17
                · intro L f13 w19 hL hd hc ⟨m14, L24, S18, K, hO⟩
                  obtain ⟨u13, rfl⟩ := fr_of (N := 55) (L := []) hO trivial
                  replace S18 : St _ ((bx b2 [vU x5, vU s1.2.2.1, vU s1.2.2.2] 84) :: (row 1 v1 c1 x1.length) :: (bx b1 [vU 0, vU 0] 27) :: As) _ := S18
                  have L25 := Mem.rfl' m14
                  refine s_mvv (v := v1) rfl ?_
                  refine wpn ?_
                  refine ⟨m14, Mem.tr L24 L25, ?_, facts_step HM rfl K L25 rfl rfl rfl, outP⟩
                  exact S18
                · intro L f14 w20 hL hd hc ⟨m15, L26, S19, K, hO⟩
                  obtain ⟨u14, rfl⟩ := fr_of (N := 55) (L := []) hO trivial
                  replace S19 : St _ ((bx b2 [vU x5, vU s1.2.2.1, vU s1.2.2.2] 84) :: (row 1 v1 c1 x1.length) :: (bx b1 [vU 0, vU 0] 27) :: As) _ := S19
                  have L27 := Mem.rfl' m15
                  refine s_mvv (v := vI s1.1) rfl ?_
                  refine wpn ?_
                  refine ⟨m15, Mem.tr L26 L27, ?_, facts_step HM rfl K L27 rfl rfl rfl, outP⟩
                  exact S19
                · intro L f15 w21 hL hd hc ⟨m16, L28, S20, K, hO⟩
                  have d3 : L 3 = true := dep hd rfl
                  have e9 := K 3 d3
                  obtain ⟨u15, rfl⟩ := fr_of (N := 55) (L := [(42, vI s1.1)]) hO ⟨e9, trivial⟩
                  replace S20 : St _ ((bx b2 [vU x5, vU s1.2.2.1, vU s1.2.2.2] 84) :: (row 1 v1 c1 x1.length) :: (bx b1 [vU 0, vU 0] 27) :: As) _ := S20
                  have L29 := Mem.rfl' m16
                  refine s_addI (m := s1.1) (n := 1) rfl rfl ?_
                  refine wpn ?_
                  refine ⟨m16, Mem.tr L28 L29, ?_, facts_step HM rfl K L29 rfl rfl rfl, outP⟩
                  exact S20
                · intro L f16 w22 hL hd hc ⟨m17, L30, S21, K, hO⟩
                  have d2 : L 2 = true := dep hd rfl
                  have e10 := K 2 d2
                  have d4 : L 4 = true := dep hd rfl
                  have e11 := K 4 d4
                  obtain ⟨u16, rfl⟩ := fr_of (N := 55) (L := [(41, v1), (43, vI (w64 (s1.1 + 1)))]) hO ⟨e10, e11, trivial⟩
                  replace S21 : St _ ((bx b2 [vU x5, vU s1.2.2.1, vU s1.2.2.2] 84) :: (row 1 v1 c1 x1.length) :: (bx b1 [vU 0, vU 0] 27) :: As) _ := S21
                  replace h1 := RepL.up L30 h1
                  have L31 := Mem.rfl' m17
                  refine s_idxO (i := 1) (j := (w64 (s1.1 + 1))) S21 rfl rfl rfl (idx_rng q12).1 (idx_rng q12).2 Tryd.underlying85 Tryd.sizeOf25 ?_
                  intro p2 h5
                  refine wpn ?_
                  refine ⟨m17, Mem.tr L30 L31, ?_, facts_step HM rfl K L31 rfl rfl ⟨p2, rfl, h5⟩, outP⟩
                  exact S21
                · intro L f17 w23 hL hd hc ⟨m18, L32, S22, K, hO⟩
                  have d5 : L 5 = true := dep hd rfl
                  obtain ⟨v3, e12, h6⟩ := K 5 d5
                  obtain ⟨u17, rfl⟩ := fr_of (N := 55) (L := [(44, v3)]) hO ⟨e12, trivial⟩
                  replace S22 : St _ ((bx b2 [vU x5, vU s1.2.2.1, vU s1.2.2.2] 84) :: (row 1 v1 c1 x1.length) :: (bx b1 [vU 0, vU 0] 27) :: As) _ := S22
                  replace h1 := RepL.up L32 h1
                  have L33 := Mem.rfl' m18
                  have e13 : _ = [vU x9] := RepL.getI h1 q12
                  refine s_ldO (i := 1) (off := (w64 (s1.1 + 1)).toNat * 1) (d := [vU x9]) S22 rfl h6 rfl e13 Tryd.isAgg25 Tryd.sizeOf25 (fun _ => rfl) ?_
                  refine wpn ?_
                  refine ⟨m18, Mem.tr L32 L33, ?_, facts_step HM rfl K L33 rfl rfl rfl, outP⟩
                  exact S22
              intro L f18 w24 hall ⟨m19, L34, S23, K, hO⟩
              have d1 : L 1 = true := hall 1 (by decide)
              have e14 := K 1 d1
              have d6 : L 6 = true := hall 6 (by decide)
              have e15 := K 6 d6
              obtain ⟨u18, rfl⟩ := fr_of (N := 55) (L := [(40, vU s1.2.2.1), (45, vU x9)]) hO ⟨e14, e15, trivial⟩
              replace S23 : St _ ((bx b2 [vU x5, vU s1.2.2.1, vU s1.2.2.2] 84) :: (row 1 v1 c1 x1.length) :: (bx b1 [vU 0, vU 0] 27) :: As) _ := S23
              replace h1 := RepL.up L34 h1
              replace L19 := Mem.tr L19 L34
              clear S15
              obtain ⟨x10, q13, q11⟩ := obind_some q11
              refine s_call Tryd.call74 (w_ref01_Add (a0 := s1.2.2.1) (a1 := x9) S23  q13) rfl ?_
              rintro _ w25 ⟨m20, l4, S24, rfl⟩
              replace h1 := RepL.up l4 h1
              replace L19 := Mem.tr L19 l4
              clear S23
              replace S24 : St _ ((bx b2 [vU x5, vU s1.2.2.1, vU s1.2.2.2] 84) :: (row 1 v1 c1 x1.length) :: (bx b1 [vU 0, vU 0] 27) :: As) _ := S24
              refine s_idxA (i := 1) rfl rfl Tryd.underlying84 Tryd.sizeOf25 (by decide) (by decide) ?_
              refine s_stL (i := 0) S24 rfl rfl rfl Tryd.sizeOf25 (oneC rfl oneN) rfl ?_
              intro w26 S25
              replace S25 : St _ ((bx b2 [vU x5, vU x10, vU s1.2.2.2] 84) :: (row 1 v1 c1 x1.length) :: (bx b1 [vU 0, vU 0] 27) :: As) _ := S25
              clear S24
              refine wpl_nil ?_
              refine nrm ?_
              have e0 := Option.some.inj q11
              subst e0
              exact ⟨outP, m20, L19, S25, trivial⟩
            replace q11 := ifF hc3 q11
            refine wpc_skip ?_
            refine nrm ?_
            have e0 := Option.some.inj q11
            subst e0
            exact ⟨outP, m11, L19, S15, trivial⟩
          rintro f19 w27 ho ⟨m21, l5, S26, ha⟩
          obtain ⟨u19, rfl⟩ := fr_of (N := 55) ho ha
          replace h1 := RepL.up l5 h1
          replace L3 := Mem.tr L3 l5
          clear S15
          refine wpc_region ?_
          refine s_ld (i := 0) (cs := [vU x5, vU x8, vU s1.2.2.2]) S26 rfl rfl Tryd.isAgg84 Tryd.sizeOf84 rfl (fun h => by cases h) ?_
          obtain ⟨x11, q14, q6⟩ := obind_some q6
          refine s_call Tryd.call75 (w_ref02_Mix (a0 := (x5, x8, s1.2.2.2)) S26  q14) rfl ?_
          rintro _ w28 ⟨m22, l6, S27, rfl⟩
          replace h1 := RepL.up l6 h1
          replace L3 := Mem.tr L3 l6
          clear S26
          replace S27 : St _ ((bx b2 [vU x5, vU x8, vU s1.2.2.2] 84) :: (row 1 v1 c1 x1.length) :: (bx b1 [vU 0, vU 0] 27) :: As) _ := S27
          refine s_stL (i := 0) S27 rfl rfl rfl Tryd.sizeOf84 (oneC rfl (oneC rfl (oneC rfl oneN))) rfl ?_
          intro w29 S28
          replace S28 : St _ ((bx b2 [vU x11.1, vU x11.2.1, vU x11.2.2] 84) :: (row 1 v1 c1 x1.length) :: (bx b1 [vU 0, vU 0] 27) :: As) _ := S28
          clear S27
          refine wpl_nil ?_
          refine nrmB ?_
          refine nrm ?_
          refine wpc_region ?_
          refine s_mvv (v := vI s1.1) rfl ?_
          refine s_addI (m := s1.1) (n := 2) rfl rfl ?_
          refine s_asv (v := vI (w64 (s1.1 + 2))) rfl ?_
          refine wpl_nil ?_
          refine nrm ?_
          have e0 := Option.some.inj q6
          subst e0
          rcases q5 with ⟨sn, e, q5'⟩ | e
          · cases e
            exact ⟨outP, _, Nat.lt_succ_self _, ⟨_, m22, q5', Mem.tr L4 L3, S28, ⟨rfl, trivial⟩⟩⟩
          · cases e
        replace q6 := ifF hc1 q6
        refine wpc_exit ?_
        refine thE ?_
        refine thE ?_
        refine exB ?_
        refine nrm ?_
        obtain ⟨m23, l7, S29⟩ := St.drop S5 1
        replace h1 := RepL.up l7 h1
        replace L3 := Mem.tr L3 l7
        clear S5
        replace S29 : St _ ((bx b2 [vU s1.2.1, vU s1.2.2.1, vU s1.2.2.2] 84) :: (bx b1 [vU 0, vU 0] 27) :: As) _ := S29
        have e0 := Option.some.inj q6
        subst e0
        rcases q5 with ⟨sn, e, _⟩ | e
        · cases e
        · cases e
          exact ⟨outP, m23, Mem.tr L4 L3, S29, trivial⟩
    rintro f20 w30 ho ⟨m25, l8, S30, ha⟩
    obtain ⟨u20, rfl⟩ := fr_of (N := 55) ho ha
    clear ho ha
    replace L1 := Mem.tr L1 l8
    clear S4
    have e0 := Option.some.inj q2
    subst e0
    exact ⟨outP, m25, L1, S30, trivial⟩
  rintro f21 w31 ho ⟨m26, l9, S31, ha⟩
  obtain ⟨u21, rfl⟩ := fr_of (N := 55) ho ha
  replace L0 := Mem.tr L0 l9
  clear S4
  refine wpc_seq ?_
  refine wpc_region ?_
  refine s_idxA (i := 0) rfl rfl Tryd.underlying84 Tryd.sizeOf25 (by decide) (by decide) ?_
  refine s_ld (i := 0) (cs := [vU x2.1]) S31 rfl rfl Tryd.isAgg25 Tryd.sizeOf25 rfl (fun _ => rfl) ?_
  refine s_idxA (i := 1) rfl rfl Tryd.underlying84 Tryd.sizeOf25 (by decide) (by decide) ?_
  refine s_ld (i := 0) (cs := [vU x2.2.1]) S31 rfl rfl Tryd.isAgg25 Tryd.sizeOf25 rfl (fun _ => rfl) ?_
  refine s_build (parts := [(0, .tmp 51), (1, .tmp 53)]) (ps := [(0, vU x2.1, [vU x2.1]), (1, vU x2.2.1, [vU x2.2.1])]) (cs := [vU x2.1, vU x2.2.1]) Tryd.zeroValue27 (BuildPl.arr Tryd.underlying27 Tryd.sizeOf25) rfl ⟨rfl, rfl, trivial⟩ rfl ?_
  refine s_stL (i := 1) S31 rfl rfl rfl Tryd.sizeOf27 (oneC rfl (oneC rfl oneN)) rfl ?_
  intro w32 S32
  replace S32 : St _ ((bx b2 [vU x2.1, vU x2.2.1, vU x2.2.2] 84) :: (bx b1 [vU x2.1, vU x2.2.1] 27) :: As) _ := S32
  clear S31
  refine wpl_nil ?_
  refine nrm ?_
  refine wpc_ret ?_
  refine outRw ?_
  intro we hpd
  replace S32 := St.pd S32 hpd
  have SR := S32
  obtain ⟨m27, l10, S33⟩ := St.drop S32 0
  replace L0 := Mem.tr L0 l10
  replace S33 : St _ ((bx b1 [vU x2.1, vU x2.2.1] 27) :: As) _ := S33
  obtain ⟨m28, l11, S34⟩ := St.drop S33 0
  replace L0 := Mem.tr L0 l11
  clear S33
  replace S34 : St _ (As) _ := S34
  have e0 := Option.some.inj hm
  subst e0
  exact outR [_] rfl ⟨res_box (i := 1) (off := 0) (cs := [vU x2.1, vU x2.2.1]) SR rfl rfl Tryd.isAgg27 Tryd.sizeOf27 rfl (fun h => by cases h), trivial⟩ ⟨_, L0, S34, rfl⟩

def m_ref02_Eight_b1 (a0 : UInt64) (s1 : (List UInt8) × Int) : Option (((List UInt8) × Int) ⊕ ((List UInt8))) :=
  if (decide (s1.2 ≥ 0)) = true then
    obind (app 1 s1.1 ([(toB ((shrU a0 ((toU (w64 (8 * s1.2))).toNat)).toNat : Int))] : List UInt8)) fun x4 =>
    some (.inl (x4, (w64 (s1.2 - 1))))
  else
  some (.inr s1.1)

def m_ref02_Eight (a0 : UInt64) : Option (List UInt8) :=
  obind (
    obind (iter (m_ref02_Eight_b1 a0) FUEL (([] : List UInt8), 7)) fun x2 =>
    some x2
  ) fun x1 =>
  some x1

theorem w_ref02_Eight {m : Mem} {As : List Ow} {w : World} {a0 : UInt64} {r : List UInt8} (S : St m (As) w) (hm : m_ref02_Eight a0 = some r) :
    CallsR Tryd.prog 76 #[vU a0] w fun v w' => ∃ (M : Mem), m ≤ M ∧ ∃ (rv0 : Value) (rc0 : List Value), St M ((row 1 rv0 rc0 r.length) :: As) w' ∧ v = rv0 ∧ RepL M rc0 r := by
  unfold m_ref02_Eight at hm
  have L0 := Mem.rfl' m
  refine callsR (args := [vU a0]) Tryd.func76 rfl Tryd.ntmps76 (Nat.le_of_ble_eq_true rfl) ?_
  refine wpc_seq ?_
  refine wpc_region ?_
  refine s_asv (v := .slice none 0 0) rfl ?_
  refine wpl_nil ?_
  refine nrm ?_
  refine wpc_seq ?_
  refine wpc_region ?_
  refine s_asv (v := .slice none 0 0) rfl ?_
  refine wpl_nil ?_
  refine nrm ?_
  obtain ⟨x1, q1, hm⟩ := obind_some hm
  have L1 := Mem.rfl' m
  refine wpc_seq ?_
  refine wpc_join [3, 4, 5, 6, 7, 8, 9, 10, 11, 12, 13, 14, 15, 16, 17] (fun f' w' => ∃ (M1 : Mem) (v1 : Value) (c1 : List Value), m ≤ M1 ∧ St M1 ((row 1 v1 c1 x1.length) :: As) w' ∧ RepL M1 c1 x1 ∧ AllAt f' [(3, v1)]) ?_ ?_
  · refine wpc_seq ?_
    refine wpc_region ?_
    refine s_asv (v := vI 7) rfl ?_
    refine wpl_nil ?_
    refine nrm ?_
    obtain ⟨x2, q2, q1⟩ := obind_some q1
    have L2 := Mem.rfl' m
    have S1 := St.rowNil S 1
    have h3 : RepL m [] ([] : List UInt8) := RepL.nil
    replace S1 : St _ ((row 1 (.slice none 0 0) [] ([] : List UInt8).length) :: As) _ := S1
    clear S
    refine wpc_join [3, 4, 5, 6, 7, 8, 9, 10, 11, 12, 13, 14, 15, 16, 17] (fun f' w' => ∃ (M2 : Mem) (v3 : Value) (c3 : List Value), m ≤ M2 ∧ St M2 ((row 1 v3 c3 x2.length) :: As) w' ∧ RepL M2 c3 x2 ∧ AllAt f' [(3, v3)]) ?_ ?_
    · refine wpc_block ?_
      refine wpc_rounds [3, 4, 5, 6, 7, 8, 9, 10, 11, 12, 13, 14, 15, 16, 17] (fun n1 f' w' => ∃ (s1 : (List UInt8) × Int) (m3 : Mem) (v2 : Value) (c2 : List Value), iter (m_ref02_Eight_b1 a0) n1 s1 = some x2 ∧ m ≤ m3 ∧ St m3 ((row 1 v2 c2 s1.1.length) :: As) w' ∧ RepL m3 c2 s1.1 ∧ AllAt f' [(3, v2), (4, vI s1.2)]) FUEL ⟨(([] : List UInt8), 7), m, _, _, q2, L2, S1, h3, ⟨rfl, rfl, trivial⟩⟩ ?_
      rintro n1 f1 w1 ho ⟨s1, m1, v2, c2, q3, L4, S2, h2, ha⟩
      obtain ⟨u1, rfl⟩ := fr_of (N := 19) ho ha
      clear ho ha
      have L3 := Mem.rfl' m1
      clear S1
      cases n1 with
      | zero => exact (iter_zero q3).elim
      | succ n1 =>
        obtain ⟨y1, q5, q4⟩ := iter_succ q3
        unfold m_ref02_Eight_b1 at q5
        refine wpc_seq ?_
        refine wpc_seq ?_
        refine wpc_region ?_
        refine s_mvv (v := vI s1.2) rfl ?_
        refine s_geq (m := s1.2) (n := 0) rfl rfl ?_
        refine wpl_nil ?_
        refine nrm ?_
        refine wpc_if (t := (decide (s1.2 ≥ 0))) rfl (fun hc1 => ?_) (fun hc1 => ?_)
        · replace q5 := ifT hc1 q5
          refine wpc_skip ?_
          refine nrm ?_
          refine wpc_seq ?_
          refine wpc_block ?_
          refine wpc_region ?_
          refine s_mvv (v := v2) rfl ?_
          refine s_mvv (v := vU a0) rfl ?_
          refine s_mvv (v := vI s1.2) rfl ?_
          refine s_mulI (m := 8) (n := s1.2) rfl rfl ?_
          refine s_convU rfl Tryd.underlying3 Tryd.underlying45 ?_
          refine s_shrU (m := a0) (n := ((toU (w64 (8 * s1.2))).toNat : Int)) rfl rfl (by omega) ?_
          refine s_convB rfl Tryd.underlying25 Tryd.underlying5 ?_
          refine s_litC (parts := [.tmp 15]) (vs := [vB (toB ((shrU a0 ((toU (w64 (8 * s1.2))).toNat)).toNat : Int))]) (cls := [[vB (toB ((shrU a0 ((toU (w64 (8 * s1.2))).toNat)).toNat : Int))]]) (xs := ([(toB ((shrU a0 ((toU (w64 (8 * s1.2))).toNat)).toNat : Int))] : List UInt8)) (n := 1) S2 Tryd.underlying23 Tryd.sizeOf5 Tryd.zeroValue5 rfl ⟨rfl, trivial⟩ (RepL.cons (c := [vB (toB ((shrU a0 ((toU (w64 (8 * s1.2))).toNat)).toNat : Int))]) (x := (toB ((shrU a0 ((toU (w64 (8 * s1.2))).toNat)).toNat : Int))) rfl RepL.nil) rfl rfl rfl (by decide) (by decide) ?_
          intro v4 m2 w2 l1 S3 h5
          replace h2 := RepL.up l1 h2
          replace L3 := Mem.tr L3 l1
          clear S2
          obtain ⟨x4, q7, q5⟩ := obind_some q5
          refine s_app (i := 0) (zs := x4) (bytes := 1) (ti := Tryd.t5) S3 rfl rfl h2 rfl rfl h5 q7 Tryd.underlying23 Tryd.type5 rfl rfl rfl rfl ?_
          intro v5 c4 w3 S4 h6
          replace S4 : St _ ((row 1 v5 c4 x4.length) :: As) _ := S4
          clear S3
          refine s_asv (v := v5) rfl ?_
          refine wpl_nil ?_
          refine nrmB ?_
          refine nrm ?_
          refine wpc_region ?_
          refine s_mvv (v := vI s1.2) rfl ?_
          refine s_subI (m := s1.2) (n := 1) rfl rfl ?_
          refine s_asv (v := vI (w64 (s1.2 - 1))) rfl ?_
          refine wpl_nil ?_
          refine nrm ?_
          have e0 := Option.some.inj q5
          subst e0
          rcases q4 with ⟨sn, e, q4'⟩ | e
          · cases e
            exact ⟨outP, _, Nat.lt_succ_self _, ⟨_, m2, _, _, q4', Mem.tr L4 L3, S4, h6, ⟨rfl, rfl, trivial⟩⟩⟩
          · cases e
        replace q5 := ifF hc1 q5
        refine wpc_exit ?_
        refine thE ?_
        refine thE ?_
        refine exB ?_
        refine nrm ?_
        have e0 := Option.some.inj q5
        subst e0
        rcases q4 with ⟨sn, e, _⟩ | e
        · cases e
        · cases e
          exact ⟨outP, m1, _, _, Mem.tr L4 L3, S2, h2, ⟨rfl, trivial⟩⟩
    rintro f2 w4 ho ⟨m4, v3, c3, l2, S5, h4, ha⟩
    obtain ⟨u2, rfl⟩ := fr_of (N := 19) ho ha
    clear ho ha
    replace L1 := Mem.tr L1 l2
    clear S1
    have e0 := Option.some.inj q1
    subst e0
    exact ⟨outP, m4, _, _, L1, S5, h4, ⟨rfl, trivial⟩⟩
  rintro f3 w5 ho ⟨m5, v1, c1, l3, S6, h1, ha⟩
  obtain ⟨u3, rfl⟩ := fr_of (N := 19) ho ha
  replace L0 := Mem.tr L0 l3
  clear S
  refine wpc_seq ?_
  refine wpc_region ?_
  refine s_mvv (v := v1) rfl ?_
  refine s_asv (v := v1) rfl ?_
  refine wpl_nil ?_
  refine nrm ?_
  refine wpc_ret ?_
  refine outRw ?_
  intro we hpd
  replace S6 := St.pd S6 hpd
  have e0 := Option.some.inj hm
  subst e0
  exact outR [_] rfl ⟨rfl, trivial⟩ ⟨_, L0, _, _, S6, rfl, h1⟩

def m_ref02_Coded_b1 (a1 : List (List UInt8)) (s1 : (List UInt8) × Int) : Option (((List UInt8) × Int) ⊕ ((List UInt8))) :=
  if (decide (s1.2 < (a1.length : Int))) = true then
    obind (idx a1 s1.2) fun x5 =>
    obind (m_ref02_Eight (toU (x5.length : Int))) fun x6 =>
    obind (cut x6 4 (x6.length : Int)) fun x7 =>
    obind (app 1 s1.1 x7) fun x8 =>
    obind (idx a1 s1.2) fun x9 =>
    obind (app 1 x8 x9) fun x10 =>
    some (.inl (x10, (w64 (s1.2 + 1))))
  else
  some (.inr s1.1)

def m_ref02_Coded (a0 : ByteArray) (a1 : List (List UInt8)) : Option (List UInt8) :=
  obind (app 1 ([(toB (a0.size : Int))] : List UInt8) a0.data.toList) fun x1 =>
  obind (
    obind (iter (m_ref02_Coded_b1 a1) FUEL (x1, 0)) fun x3 =>
    some x3
  ) fun x2 =>
  some x2

theorem w_ref02_Coded {m : Mem} {As : List Ow} {w : World} {a0 : ByteArray} {a1 : List (List UInt8)} {a1v0 : Value} {r : List UInt8} (S : St m (As) w) (a1h0 : SlR m a1v0 a1) (hm : m_ref02_Coded a0 a1 = some r) :
    CallsR Tryd.prog 63 #[vS a0, a1v0] w fun v w' => ∃ (M : Mem), m ≤ M ∧ ∃ (rv0 : Value) (rc0 : List Value), St M ((row 1 rv0 rc0 r.length) :: As) w' ∧ v = rv0 ∧ RepL M rc0 r := by
  unfold m_ref02_Coded at hm
  have L0 := Mem.rfl' m
  refine callsR (args := [vS a0, a1v0]) Tryd.func63 rfl Tryd.ntmps63 (Nat.le_of_ble_eq_true rfl) ?_
  refine wpc_seq ?_
  refine wpc_region ?_
  refine s_asv (v := .slice none 0 0) rfl ?_
  refine wpl_nil ?_
  refine nrm ?_
  refine wpc_seq ?_
  refine wpc_region ?_
  refine s_mvv (v := vS a0) rfl ?_
  refine s_lenS (s := a0) rfl Tryd.underlying9 ?_
  refine s_convB rfl Tryd.underlying3 Tryd.underlying5 ?_
  refine s_litOC (parts := [.tmp 9]) (vs := [vB (toB (a0.size : Int))]) (cls := [[vB (toB (a0.size : Int))]]) (n := 1) (sz := 1) S Tryd.underlying23 Tryd.sizeOf5 Tryd.zeroValue5 rfl ⟨rfl, trivial⟩ rfl rfl (by decide) (by decide) ?_
  intro v1 w1 S1
  have h1 : RepL m [vB (toB (a0.size : Int))] ([(toB (a0.size : Int))] : List UInt8) := (RepL.cons (c := [vB (toB (a0.size : Int))]) (x := (toB (a0.size : Int))) rfl RepL.nil)
  replace S1 : St _ ((row 1 v1 [vB (toB (a0.size : Int))] ([(toB (a0.size : Int))] : List UInt8).length) :: As) _ := S1
  clear S
  refine s_mvv (v := vS a0) rfl ?_
  obtain ⟨x1, q1, hm⟩ := obind_some hm
  refine s_appS (i := 0) (zs := x1) (bytes := 1) (ti := Tryd.t5) S1 rfl rfl h1 rfl rfl q1 Tryd.underlying23 Tryd.underlying9 Tryd.type5 rfl rfl rfl rfl ?_
  intro v2 c1 w2 S2 h2
  replace S2 : St _ ((row 1 v2 c1 x1.length) :: As) _ := S2
  clear S1
  refine s_asv (v := v2) rfl ?_
  refine wpl_nil ?_
  refine nrm ?_
  obtain ⟨x2, q2, hm⟩ := obind_some hm
  have L1 := Mem.rfl' m
  refine wpc_seq ?_
  refine wpc_join [5, 6, 13, 14, 15, 16, 17, 18, 19, 20, 21, 22, 23, 24, 25, 26, 27, 28, 29, 30, 31, 32, 33, 34] (fun f' w' => ∃ (M1 : Mem) (v3 : Value) (c2 : List Value), m ≤ M1 ∧ St M1 ((row 1 v3 c2 x2.length) :: As) w' ∧ RepL M1 c2 x2 ∧ AllAt f' [(5, v3)]) ?_ ?_
  · refine wpc_seq ?_
    refine wpc_region ?_
    refine s_asv (v := vI 0) rfl ?_
    refine wpl_nil ?_
    refine nrm ?_
    obtain ⟨x3, q3, q2⟩ := obind_some q2
    have L2 := Mem.rfl' m
    refine wpc_join [5, 6, 13, 14, 15, 16, 17, 18, 19, 20, 21, 22, 23, 24, 25, 26, 27, 28, 29, 30, 31, 32, 33, 34] (fun f' w' => ∃ (M2 : Mem) (v5 : Value) (c4 : List Value), m ≤ M2 ∧ St M2 ((row 1 v5 c4 x3.length) :: As) w' ∧ RepL M2 c4 x3 ∧ AllAt f' [(5, v5)]) ?_ ?_
    · refine wpc_block ?_
      refine wpc_rounds [5, 6, 13, 14, 15, 16, 17, 18, 19, 20, 21, 22, 23, 24, 25, 26, 27, 28, 29, 30, 31, 32, 33, 34] (fun n1 f' w' => ∃ (s1 : (List UInt8) × Int) (m4 : Mem) (v4 : Value) (c3 : List Value), iter (m_ref02_Coded_b1 a1) n1 s1 = some x3 ∧ m ≤ m4 ∧ St m4 ((row 1 v4 c3 s1.1.length) :: As) w' ∧ RepL m4 c3 s1.1 ∧ AllAt f' [(5, v4), (6, vI s1.2)]) FUEL ⟨(x1, 0), m, _, _, q3, L2, S2, h2, ⟨rfl, rfl, trivial⟩⟩ ?_
      rintro n1 f1 w3 ho ⟨s1, m1, v4, c3, q4, L4, S3, h4, ha⟩
      obtain ⟨u1, rfl⟩ := fr_of (N := 36) ho ha
      clear ho ha
      replace a1h0 := a1h0.up L4
      have L3 := Mem.rfl' m1
      clear S2
      cases n1 with
      | zero => exact (iter_zero q4).elim
      | succ n1 =>
        obtain ⟨y1, q6, q5⟩ := iter_succ q4
        unfold m_ref02_Coded_b1 at q6
        refine wpc_seq ?_
        refine wpc_seq ?_
        refine wpc_region ?_
        refine s_mvv (v := vI s1.2) rfl ?_
        refine s_mvv (v := a1v0) rfl ?_
        refine s_lenR (xs := a1) rfl a1h0 Tryd.underlying75 ?_
        refine s_lss (m := s1.2) (n := (a1.length : Int)) rfl rfl ?_
        refine wpl_nil ?_
        refine nrm ?_
        refine wpc_if (t := (decide (s1.2 < (a1.length : Int)))) rfl (fun hc1 => ?_) (fun hc1 => ?_)
        · replace q6 := ifT hc1 q6
          refine wpc_skip ?_
          refine nrm ?_
          refine wpc_seq ?_
          refine wpc_block ?_
          refine wpc_seq ?_
          refine wpc_region ?_
          refine s_mvv (v := v4) rfl ?_
          refine s_mvv (v := a1v0) rfl ?_
          refine s_mvv (v := vI s1.2) rfl ?_
          obtain ⟨x5, q8, q6⟩ := obind_some q6
          refine s_idx (q := x5) rfl rfl a1h0 q8 Tryd.underlying75 Tryd.sizeOf23 ?_
          intro p1 c5 h6 r5
          obtain ⟨v6, rfl, h7⟩ := r5
          refine s_ldM (cs := [v6]) S3 rfl h6 rfl Tryd.isAgg23 Tryd.sizeOf23 (fun _ => rfl) ?_
          refine s_lenR (xs := x5) rfl h7 Tryd.underlying23 ?_
          refine s_convU rfl Tryd.underlying3 Tryd.underlying25 ?_
          obtain ⟨x6, q9, q6⟩ := obind_some q6
          refine s_call Tryd.call76 (w_ref02_Eight (a0 := (toU (x5.length : Int))) S3  q9) rfl ?_
          rintro v7 w4 ⟨m2, l1, _, c6, S4, rfl, h8⟩
          replace a1h0 := a1h0.up l1
          replace h4 := RepL.up l1 h4
          replace L3 := Mem.tr L3 l1
          clear S3
          replace S4 : St _ ((row 1 v7 c6 x6.length) :: (row 1 v4 c3 s1.1.length) :: As) _ := S4
          obtain ⟨m3, l2, h9, S5⟩ := St.rowKeepT (i := 0) S4 rfl h8 rfl
          replace a1h0 := a1h0.up l2
          replace h4 := RepL.up l2 h4
          replace L3 := Mem.tr L3 l2
          clear S4
          obtain ⟨x7, q10, q6⟩ := obind_some q6
          refine s_cut (ys := x7) (l := 4) (h := (x6.length : Int)) rfl h9 Tryd.underlying23 Tryd.sizeOf5 (.inr ⟨_, rfl⟩) (.inl ⟨rfl, rfl⟩) (.inl rfl) q10 ?_
          intro v8 h10
          obtain ⟨x8, q11, q6⟩ := obind_some q6
          refine s_app (i := 0) (zs := x8) (bytes := 1) (ti := Tryd.t5) S5 rfl rfl h4 rfl rfl h10 q11 Tryd.underlying23 Tryd.type5 rfl rfl rfl rfl ?_
          intro v9 c7 w5 S6 h11
          replace S6 : St _ ((row 1 v9 c7 x8.length) :: As) _ := S6
          clear S5
          refine s_asv (v := v9) rfl ?_
          refine wpl_nil ?_
          refine nrm ?_
          refine wpc_region ?_
          refine s_mvv (v := v9) rfl ?_
          refine s_mvv (v := a1v0) rfl ?_
          refine s_mvv (v := vI s1.2) rfl ?_
          obtain ⟨x9, q12, q6⟩ := obind_some q6
          refine s_idx (q := x9) rfl rfl a1h0 q12 Tryd.underlying75 Tryd.sizeOf23 ?_
          intro p2 c8 h12 r7
          obtain ⟨v10, rfl, h13⟩ := r7
          refine s_ldM (cs := [v10]) S6 rfl h12 rfl Tryd.isAgg23 Tryd.sizeOf23 (fun _ => rfl) ?_
          obtain ⟨x10, q13, q6⟩ := obind_some q6
          refine s_app (i := 0) (zs := x10) (bytes := 1) (ti := Tryd.t5) S6 rfl rfl h11 rfl rfl h13 q13 Tryd.underlying23 Tryd.type5 rfl rfl rfl rfl ?_
          intro v11 c9 w6 S7 h14
          replace S7 : St _ ((row 1 v11 c9 x10.length) :: As) _ := S7
          clear S6
          refine s_asv (v := v11) rfl ?_
          refine wpl_nil ?_
          refine nrmB ?_
          refine nrm ?_
          refine wpc_region ?_
          refine s_mvv (v := vI s1.2) rfl ?_
          refine s_addI (m := s1.2) (n := 1) rfl rfl ?_
          refine s_asv (v := vI (w64 (s1.2 + 1))) rfl ?_
          refine wpl_nil ?_
          refine nrm ?_
          have e0 := Option.some.inj q6
          subst e0
          rcases q5 with ⟨sn, e, q5'⟩ | e
          · cases e
            exact ⟨outP, _, Nat.lt_succ_self _, ⟨_, m3, _, _, q5', Mem.tr L4 L3, S7, h14, ⟨rfl, rfl, trivial⟩⟩⟩
          · cases e
        replace q6 := ifF hc1 q6
        refine wpc_exit ?_
        refine thE ?_
        refine thE ?_
        refine exB ?_
        refine nrm ?_
        have e0 := Option.some.inj q6
        subst e0
        rcases q5 with ⟨sn, e, _⟩ | e
        · cases e
        · cases e
          exact ⟨outP, m1, _, _, Mem.tr L4 L3, S3, h4, ⟨rfl, trivial⟩⟩
    rintro f2 w7 ho ⟨m5, v5, c4, l3, S8, h5, ha⟩
    obtain ⟨u2, rfl⟩ := fr_of (N := 36) ho ha
    clear ho ha
    replace L1 := Mem.tr L1 l3
    clear S2
    have e0 := Option.some.inj q2
    subst e0
    exact ⟨outP, m5, _, _, L1, S8, h5, ⟨rfl, trivial⟩⟩
  rintro f3 w8 ho ⟨m6, v3, c2, l4, S9, h3, ha⟩
  obtain ⟨u3, rfl⟩ := fr_of (N := 36) ho ha
  replace L0 := Mem.tr L0 l4
  clear S2
  refine wpc_seq ?_
  refine wpc_region ?_
  refine s_mvv (v := v3) rfl ?_
  refine s_asv (v := v3) rfl ?_
  refine wpl_nil ?_
  refine nrm ?_
  refine wpc_ret ?_
  refine outRw ?_
  intro we hpd
  replace S9 := St.pd S9 hpd
  have e0 := Option.some.inj hm
  subst e0
  exact outR [_] rfl ⟨rfl, trivial⟩ ⟨_, L0, _, _, S9, rfl, h3⟩

def m_ref02_Tagged (a0 : ByteArray) (a1 : List (List UInt8)) : Option (UInt64 × UInt64) :=
  obind (m_ref02_Coded a0 a1) fun x1 =>
  obind (m_ref02_Sum x1) fun x2 =>
  some x2

theorem w_ref02_Tagged {m : Mem} {As : List Ow} {w : World} {a0 : ByteArray} {a1 : List (List UInt8)} {a1v0 : Value} {r : UInt64 × UInt64} (S : St m (As) w) (a1h0 : SlR m a1v0 a1) (hm : m_ref02_Tagged a0 a1 = some r) :
    CallsR Tryd.prog 34 #[vS a0, a1v0] w fun v w' => ∃ (M : Mem), m ≤ M ∧ St M (As) w' ∧ v = .agg #[vU r.1, vU r.2] := by
  unfold m_ref02_Tagged at hm
  have L0 := Mem.rfl' m
  refine callsR (args := [vS a0, a1v0]) Tryd.func34 rfl Tryd.ntmps34 (Nat.le_of_ble_eq_true rfl) ?_
  refine wpc_seq ?_
  refine wpc_region ?_
  refine s_alloc S Tryd.zeroValue27 ?_
  intro b1 w1 S1
  replace S1 : St _ ((bx b1 [vU 0, vU 0] 27) :: As) _ := S1
  clear S
  refine wpl_nil ?_
  refine nrm ?_
  refine wpc_seq ?_
  refine wpc_region ?_
  refine s_mvv (v := vS a0) rfl ?_
  refine s_mvv (v := a1v0) rfl ?_
  obtain ⟨x1, q1, hm⟩ := obind_some hm
  refine s_call Tryd.call63 (w_ref02_Coded (a0 := a0) (a1 := a1) S1 a1h0 q1) rfl ?_
  rintro v1 w2 ⟨m1, l1, _, c1, S2, rfl, h1⟩
  replace a1h0 := a1h0.up l1
  replace L0 := Mem.tr L0 l1
  clear S1
  replace S2 : St _ ((row 1 v1 c1 x1.length) :: (bx b1 [vU 0, vU 0] 27) :: As) _ := S2
  obtain ⟨m2, l2, h2, S3⟩ := St.rowKeepT (i := 0) S2 rfl h1 rfl
  replace L0 := Mem.tr L0 l2
  clear S2
  obtain ⟨x2, q2, hm⟩ := obind_some hm
  refine s_call Tryd.call62 (w_ref02_Sum (a0 := x1) S3 h2 q2) rfl ?_
  rintro _ w3 ⟨m3, l3, S4, rfl⟩
  replace h2 := h2.up l3
  replace L0 := Mem.tr L0 l3
  clear S3
  replace S4 : St _ ((bx b1 [vU 0, vU 0] 27) :: As) _ := S4
  refine s_stL (i := 0) S4 rfl rfl rfl Tryd.sizeOf27 (oneC rfl (oneC rfl oneN)) rfl ?_
  intro w4 S5
  replace S5 : St _ ((bx b1 [vU x2.1, vU x2.2] 27) :: As) _ := S5
  clear S4
  refine wpl_nil ?_
  refine nrm ?_
  refine wpc_ret ?_
  refine outRw ?_
  intro we hpd
  replace S5 := St.pd S5 hpd
  have SR := S5
  obtain ⟨m4, l4, S6⟩ := St.drop S5 0
  replace L0 := Mem.tr L0 l4
  replace S6 : St _ (As) _ := S6
  have e0 := Option.some.inj hm
  subst e0
  exact outR [_] rfl ⟨res_box (i := 0) (off := 0) (cs := [vU x2.1, vU x2.2]) SR rfl rfl Tryd.isAgg27 Tryd.sizeOf27 rfl (fun h => by cases h), trivial⟩ ⟨_, L0, S6, rfl⟩

def m_ref08_First_b1 (a0 : Int) (s1 : Int) : Option ((Int) ⊕ (Int)) :=
  if (decide ((w64 (2 * s1)) < a0)) = true then
    some (.inl (w64 (2 * s1)))
  else
  some (.inr s1)

def m_ref08_First (a0 : Int) : Option Int :=
  obind (
    obind (iter (m_ref08_First_b1 a0) FUEL 1) fun x2 =>
    some x2
  ) fun x1 =>
  some x1

theorem w_ref08_First {m : Mem} {As : List Ow} {w : World} {a0 : Int} {r : Int} (S : St m (As) w) (hm : m_ref08_First a0 = some r) :
    CallsR Tryd.prog 35 #[vI a0] w fun v w' => ∃ (M : Mem), m ≤ M ∧ St M (As) w' ∧ v = vI r := by
  unfold m_ref08_First at hm
  have L0 := Mem.rfl' m
  refine callsR (args := [vI a0]) Tryd.func35 rfl Tryd.ntmps35 (Nat.le_of_ble_eq_true rfl) ?_
  refine wpc_seq ?_
  refine wpc_region ?_
  refine s_asv (v := vI 0) rfl ?_
  refine wpl_nil ?_
  refine nrm ?_
  refine wpc_seq ?_
  refine wpc_region ?_
  refine s_asv (v := vI 1) rfl ?_
  refine wpl_nil ?_
  refine nrm ?_
  obtain ⟨x1, q1, hm⟩ := obind_some hm
  have L1 := Mem.rfl' m
  refine wpc_seq ?_
  refine wpc_join [3, 4, 5, 6, 7, 8, 9] (fun f' w' => ∃ (M1 : Mem), m ≤ M1 ∧ St M1 (As) w' ∧ AllAt f' [(3, vI x1)]) ?_ ?_
  · obtain ⟨x2, q2, q1⟩ := obind_some q1
    have L2 := Mem.rfl' m
    refine wpc_join [3, 4, 5, 6, 7, 8, 9] (fun f' w' => ∃ (M2 : Mem), m ≤ M2 ∧ St M2 (As) w' ∧ AllAt f' [(3, vI x2)]) ?_ ?_
    · refine wpc_block ?_
      refine wpc_rounds [3, 4, 5, 6, 7, 8, 9] (fun n1 f' w' => ∃ (s1 : Int) (m2 : Mem), iter (m_ref08_First_b1 a0) n1 s1 = some x2 ∧ m ≤ m2 ∧ St m2 (As) w' ∧ AllAt f' [(3, vI s1)]) FUEL ⟨1, m, q2, L2, S, ⟨rfl, trivial⟩⟩ ?_
      rintro n1 f1 w1 ho ⟨s1, m1, q3, L4, S1, ha⟩
      obtain ⟨u1, rfl⟩ := fr_of (N := 11) ho ha
      clear ho ha
      have L3 := Mem.rfl' m1
      clear S
      cases n1 with
      | zero => exact (iter_zero q3).elim
      | succ n1 =>
        obtain ⟨y1, q5, q4⟩ := iter_succ q3
        unfold m_ref08_First_b1 at q5
        refine wpc_seq ?_
        refine wpc_seq ?_
        refine wpc_region ?_
        refine s_mvv (v := vI s1) rfl ?_
        refine s_mulI (m := 2) (n := s1) rfl rfl ?_
        refine s_mvv (v := vI a0) rfl ?_
        refine s_lss (m := (w64 (2 * s1))) (n := a0) rfl rfl ?_
        refine wpl_nil ?_
        refine nrm ?_
        refine wpc_if (t := (decide ((w64 (2 * s1)) < a0))) rfl (fun hc1 => ?_) (fun hc1 => ?_)
        · replace q5 := ifT hc1 q5
          refine wpc_skip ?_
          refine nrm ?_
          refine wpc_block ?_
          refine wpc_region ?_
          refine s_mvv (v := vI s1) rfl ?_
          refine s_mulI (m := 2) (n := s1) rfl rfl ?_
          refine s_asv (v := vI (w64 (2 * s1))) rfl ?_
          refine wpl_nil ?_
          refine nrmB ?_
          refine nrm ?_
          have e0 := Option.some.inj q5
          subst e0
          rcases q4 with ⟨sn, e, q4'⟩ | e
          · cases e
            exact ⟨outP, _, Nat.lt_succ_self _, ⟨_, m1, q4', Mem.tr L4 L3, S1, ⟨rfl, trivial⟩⟩⟩
          · cases e
        replace q5 := ifF hc1 q5
        refine wpc_exit ?_
        refine thE ?_
        refine thE ?_
        refine exB ?_
        refine nrm ?_
        have e0 := Option.some.inj q5
        subst e0
        rcases q4 with ⟨sn, e, _⟩ | e
        · cases e
        · cases e
          exact ⟨outP, m1, Mem.tr L4 L3, S1, ⟨rfl, trivial⟩⟩
    rintro f2 w2 ho ⟨m3, l1, S2, ha⟩
    obtain ⟨u2, rfl⟩ := fr_of (N := 11) ho ha
    clear ho ha
    replace L1 := Mem.tr L1 l1
    clear S
    have e0 := Option.some.inj q1
    subst e0
    exact ⟨outP, m3, L1, S2, ⟨rfl, trivial⟩⟩
  rintro f3 w3 ho ⟨m4, l2, S3, ha⟩
  obtain ⟨u3, rfl⟩ := fr_of (N := 11) ho ha
  replace L0 := Mem.tr L0 l2
  clear S
  refine wpc_seq ?_
  refine wpc_region ?_
  refine s_mvv (v := vI x1) rfl ?_
  refine s_asv (v := vI x1) rfl ?_
  refine wpl_nil ?_
  refine nrm ?_
  refine wpc_ret ?_
  refine outRw ?_
  intro we hpd
  replace S3 := St.pd S3 hpd
  have e0 := Option.some.inj hm
  subst e0
  exact outR [_] rfl ⟨rfl, trivial⟩ ⟨_, L0, S3, rfl⟩

def m_ref02_Bytes (a0 : UInt64 × UInt64) : Option (List UInt8) :=
  obind (m_ref02_Eight a0.1) fun x1 =>
  obind (m_ref02_Eight a0.2) fun x2 =>
  obind (app 1 x1 x2) fun x3 =>
  some x3

theorem w_ref02_Bytes {m : Mem} {As : List Ow} {w : World} {a0 : UInt64 × UInt64} {r : List UInt8} (S : St m (As) w) (hm : m_ref02_Bytes a0 = some r) :
    CallsR Tryd.prog 64 #[.agg #[vU a0.1, vU a0.2]] w fun v w' => ∃ (M : Mem), m ≤ M ∧ ∃ (rv0 : Value) (rc0 : List Value), St M ((row 1 rv0 rc0 r.length) :: As) w' ∧ v = rv0 ∧ RepL M rc0 r := by
  unfold m_ref02_Bytes at hm
  have L0 := Mem.rfl' m
  refine callsR (args := [.agg #[vU a0.1, vU a0.2]]) Tryd.func64 rfl Tryd.ntmps64 (Nat.le_of_ble_eq_true rfl) ?_
  refine wpc_seq ?_
  refine wpc_region ?_
  refine s_box S rfl ?_
  intro b1 w1 S1
  replace S1 : St _ ((bx b1 [vU a0.1, vU a0.2] 27) :: As) _ := S1
  clear S
  refine s_asv (v := .slice none 0 0) rfl ?_
  refine wpl_nil ?_
  refine nrm ?_
  refine wpc_seq ?_
  obtain ⟨x1, q1, hm⟩ := obind_some hm
  have HM : MonoAll [(3, fun (M : Mem) (v : Value) => v = pt b1 0), (4, fun (M : Mem) (v : Value) => v = vU a0.1), (5, fun _ _ => True), (6, fun (M : Mem) (v : Value) => v = pt b1 1), (7, fun (M : Mem) (v : Value) => v = vU a0.2)] := ⟨(fun _ _ _ _ h => h), (fun _ _ _ _ h => h), (fun _ _ _ _ h => h), (fun _ _ _ _ h => h), (fun _ _ _ _ h => h), trivial⟩
  refine wpc_flowG HM 5 mixed rfl rfl rfl [3, 4, 5, 6, 7] (fun L f M w => ∃ (X1 : List Ow), ((L 2 = false → X1 = []) ∧ (L 2 = true → (RowS M X1 1 (f 5) x1))) ∧ St M ((bx b1 [vU a0.1, vU a0.2] 27) :: (X1 ++ As)) w) (⟨[], ⟨fun _ => rfl, fun hx => ff hx⟩, St.drew S1 _⟩) ?_ ?_
  · refine ⟨?_, ?_, ?_, ?_, ?_, trivial⟩
    · intro L f1 w2 hL hd hc ⟨m1, L1, ⟨X1, C1, S2⟩, K, hO⟩
      obtain ⟨u1, rfl⟩ := fr_of (N := 10) (L := []) hO trivial
      replace S2 : St _ ((bx b1 [vU a0.1, vU a0.2] 27) :: (X1 ++ As)) _ := S2
      have L2 := Mem.rfl' m1
      refine s_idxA (i := 0) rfl rfl Tryd.underlying27 Tryd.sizeOf25 (by decide) (by decide) ?_
      refine wpn ?_
      refine ⟨m1, Mem.tr L1 L2, ⟨X1, C1, ?_⟩, facts_step HM rfl K L2 rfl rfl rfl, outP⟩
      exact S2
    · intro L f2 w3 hL hd hc ⟨m2, L3, ⟨X1, C2, S3⟩, K, hO⟩
      have d0 : L 0 = true := dep hd rfl
      have e1 := K 0 d0
      obtain ⟨u2, rfl⟩ := fr_of (N := 10) (L := [(3, pt b1 0)]) hO ⟨e1, trivial⟩
      replace S3 : St _ ((bx b1 [vU a0.1, vU a0.2] 27) :: (X1 ++ As)) _ := S3
      have L4 := Mem.rfl' m2
      refine s_ld (i := 0) (cs := [vU a0.1]) S3 rfl rfl Tryd.isAgg25 Tryd.sizeOf25 rfl (fun _ => rfl) ?_
      refine wpn ?_
      refine ⟨m2, Mem.tr L3 L4, ⟨X1, C2, ?_⟩, facts_step HM rfl K L4 rfl rfl rfl, outP⟩
      exact S3
    · intro L f3 w4 hL hd hc ⟨m3, L5, ⟨X1, C3, S4⟩, K, hO⟩
      have d1 : L 1 = true := dep hd rfl
      have e2 := K 1 d1
      have d2 : L 2 = false := hL
      obtain ⟨u3, rfl⟩ := fr_of (N := 10) (L := [(4, vU a0.1)]) hO ⟨e2, trivial⟩
      replace S4 : St _ ((bx b1 [vU a0.1, vU a0.2] 27) :: (X1 ++ As)) _ := S4
      obtain rfl := C3.1 d2
      replace S4 : St _ ((bx b1 [vU a0.1, vU a0.2] 27) :: As) _ := S4
      have L6 := Mem.rfl' m3
      refine s_call Tryd.call76 (w_ref02_Eight (a0 := a0.1) S4  q1) rfl ?_
      rintro v1 w5 ⟨m4, l1, _, c1, S5, rfl, h1⟩
      replace L6 := Mem.tr L6 l1
      clear S4
      replace S5 : St _ ((row 1 v1 c1 x1.length) :: (bx b1 [vU a0.1, vU a0.2] 27) :: As) _ := S5
      refine wpn ?_
      refine ⟨m4, Mem.tr L5 L6, ⟨[row 1 v1 c1 x1.length], ⟨fun hx => tf rfl hx, fun _ => ⟨_, rfl, h1⟩⟩, ?_⟩, facts_step HM rfl K L6 rfl rfl trivial, outP⟩
      have S13 : St _ ((bx b1 [vU a0.1, vU a0.2] 27) :: (row 1 v1 c1 x1.length) :: As) _ := St.perm S5 (List.Perm.swap _ _ _)
      exact S13
    · intro L f4 w6 hL hd hc ⟨m5, L7, ⟨X1, C4, S6⟩, K, hO⟩
      obtain ⟨u4, rfl⟩ := fr_of (N := 10) (L := []) hO trivial
      replace S6 : St _ ((bx b1 [vU a0.1, vU a0.2] 27) :: (X1 ++ As)) _ := S6
      have L8 := Mem.rfl' m5
      refine s_idxA (i := 1) rfl rfl Tryd.underlying27 Tryd.sizeOf25 (by decide) (by decide) ?_
      refine wpn ?_
      refine ⟨m5, Mem.tr L7 L8, ⟨X1, C4, ?_⟩, facts_step HM rfl K L8 rfl rfl rfl, outP⟩
      exact S6
    · intro L f5 w7 hL hd hc ⟨m6, L9, ⟨X1, C5, S7⟩, K, hO⟩
      have d3 : L 3 = true := dep hd rfl
      have e3 := K 3 d3
      obtain ⟨u5, rfl⟩ := fr_of (N := 10) (L := [(6, pt b1 1)]) hO ⟨e3, trivial⟩
      replace S7 : St _ ((bx b1 [vU a0.1, vU a0.2] 27) :: (X1 ++ As)) _ := S7
      have L10 := Mem.rfl' m6
      refine s_ld (i := 0) (cs := [vU a0.2]) S7 rfl rfl Tryd.isAgg25 Tryd.sizeOf25 rfl (fun _ => rfl) ?_
      refine wpn ?_
      refine ⟨m6, Mem.tr L9 L10, ⟨X1, C5, ?_⟩, facts_step HM rfl K L10 rfl rfl rfl, outP⟩
      exact S7
  intro L f6 w8 hall ⟨m7, L11, ⟨X1, C6, S8⟩, K, hO⟩
  obtain ⟨v2, e4⟩ : ∃ x, f6 5 = x := ⟨_, rfl⟩
  have d4 : L 4 = true := hall 4 (by decide)
  have e5 := K 4 d4
  have d2 : L 2 = true := hall 2 (by decide)
  obtain ⟨u6, rfl⟩ := fr_of (N := 10) (L := [(5, v2), (7, vU a0.2)]) hO ⟨e4, e5, trivial⟩
  replace S8 : St _ ((bx b1 [vU a0.1, vU a0.2] 27) :: (X1 ++ As)) _ := S8
  obtain ⟨c2, rfl, h2⟩ := C6.2 d2
  replace h2 : RepL _ c2 x1 := h2
  replace S8 : St _ ((bx b1 [vU a0.1, vU a0.2] 27) :: (row 1 v2 c2 x1.length) :: As) _ := S8
  replace L0 := Mem.tr L0 L11
  clear S1
  obtain ⟨x2, q2, hm⟩ := obind_some hm
  refine s_call Tryd.call76 (w_ref02_Eight (a0 := a0.2) S8  q2) rfl ?_
  rintro v3 w9 ⟨m8, l2, _, c3, S9, rfl, h3⟩
  replace h2 := RepL.up l2 h2
  replace L0 := Mem.tr L0 l2
  clear S8
  replace S9 : St _ ((row 1 v3 c3 x2.length) :: (bx b1 [vU a0.1, vU a0.2] 27) :: (row 1 v2 c2 x1.length) :: As) _ := S9
  obtain ⟨m9, l3, h4, S10⟩ := St.rowKeepT (i := 0) S9 rfl h3 rfl
  replace h2 := RepL.up l3 h2
  replace L0 := Mem.tr L0 l3
  clear S9
  obtain ⟨x3, q3, hm⟩ := obind_some hm
  refine s_app (i := 1) (zs := x3) (bytes := 1) (ti := Tryd.t5) S10 rfl rfl h2 rfl rfl h4 q3 Tryd.underlying23 Tryd.type5 rfl rfl rfl rfl ?_
  intro v4 c4 w10 S11 h5
  replace S11 : St _ ((bx b1 [vU a0.1, vU a0.2] 27) :: (row 1 v4 c4 x3.length) :: As) _ := S11
  clear S10
  refine s_asv (v := v4) rfl ?_
  refine wpl_nil ?_
  refine nrm ?_
  refine wpc_ret ?_
  refine outRw ?_
  intro we hpd
  replace S11 := St.pd S11 hpd
  obtain ⟨m10, l4, S12⟩ := St.drop S11 0
  replace h5 := RepL.up l4 h5
  replace L0 := Mem.tr L0 l4
  clear S11
  replace S12 : St _ ((row 1 v4 c4 x3.length) :: As) _ := S12
  have e0 := Option.some.inj hm
  subst e0
  exact outR [_] rfl ⟨rfl, trivial⟩ ⟨_, L0, _, _, S12, rfl, h5⟩

def m_ref02_Pair (a0 : UInt64 × UInt64) (a1 : UInt64 × UInt64) : Option (UInt64 × UInt64) :=
  obind (m_ref02_Bytes a0) fun x1 =>
  obind (m_ref02_Bytes a1) fun x2 =>
  obind (m_ref02_Tagged (⟨#[110, 111, 100, 101]⟩ : ByteArray) ([x1, x2] : List (List UInt8))) fun x3 =>
  some x3

theorem w_ref02_Pair {m : Mem} {As : List Ow} {w : World} {a0 : UInt64 × UInt64} {a1 : UInt64 × UInt64} {r : UInt64 × UInt64} (S : St m (As) w) (hm : m_ref02_Pair a0 a1 = some r) :
    CallsR Tryd.prog 36 #[.agg #[vU a0.1, vU a0.2], .agg #[vU a1.1, vU a1.2]] w fun v w' => ∃ (M : Mem), m ≤ M ∧ St M (As) w' ∧ v = .agg #[vU r.1, vU r.2] := by
  unfold m_ref02_Pair at hm
  have L0 := Mem.rfl' m
  refine callsR (args := [.agg #[vU a0.1, vU a0.2], .agg #[vU a1.1, vU a1.2]]) Tryd.func36 rfl Tryd.ntmps36 (Nat.le_of_ble_eq_true rfl) ?_
  refine wpc_seq ?_
  refine wpc_region ?_
  refine s_box S rfl ?_
  intro b1 w1 S1
  replace S1 : St _ ((bx b1 [vU a0.1, vU a0.2] 27) :: As) _ := S1
  clear S
  refine s_box S1 rfl ?_
  intro b2 w2 S2
  replace S2 : St _ ((bx b2 [vU a1.1, vU a1.2] 27) :: (bx b1 [vU a0.1, vU a0.2] 27) :: As) _ := S2
  clear S1
  refine s_alloc S2 Tryd.zeroValue27 ?_
  intro b3 w3 S3
  replace S3 : St _ ((bx b3 [vU 0, vU 0] 27) :: (bx b2 [vU a1.1, vU a1.2] 27) :: (bx b1 [vU a0.1, vU a0.2] 27) :: As) _ := S3
  clear S2
  refine wpl_nil ?_
  refine nrm ?_
  refine wpc_seq ?_
  obtain ⟨x1, q1, hm⟩ := obind_some hm
  have HM : MonoAll [(5, fun (M : Mem) (v : Value) => v = .agg #[vU a0.1, vU a0.2]), (6, fun _ _ => True), (7, fun (M : Mem) (v : Value) => v = .agg #[vU a1.1, vU a1.2])] := ⟨(fun _ _ _ _ h => h), (fun _ _ _ _ h => h), (fun _ _ _ _ h => h), trivial⟩
  refine wpc_flowG HM 3 mixed rfl rfl rfl [5, 6, 7] (fun L f M w => ∃ (X1 : List Ow), ((L 1 = false → X1 = []) ∧ (L 1 = true → (RowS M X1 1 (f 6) x1))) ∧ St M ((bx b3 [vU 0, vU 0] 27) :: (bx b2 [vU a1.1, vU a1.2] 27) :: (bx b1 [vU a0.1, vU a0.2] 27) :: (X1 ++ As)) w) (⟨[], ⟨fun _ => rfl, fun hx => ff hx⟩, St.drew S3 _⟩) ?_ ?_
  · refine ⟨?_, ?_, ?_, trivial⟩
    · intro L f1 w4 hL hd hc ⟨m1, L1, ⟨X1, C1, S4⟩, K, hO⟩
      obtain ⟨u1, rfl⟩ := fr_of (N := 11) (L := []) hO trivial
      replace S4 : St _ ((bx b3 [vU 0, vU 0] 27) :: (bx b2 [vU a1.1, vU a1.2] 27) :: (bx b1 [vU a0.1, vU a0.2] 27) :: (X1 ++ As)) _ := S4
      have L2 := Mem.rfl' m1
      refine s_ld (i := 2) (cs := [vU a0.1, vU a0.2]) S4 rfl rfl Tryd.isAgg27 Tryd.sizeOf27 rfl (fun h => by cases h) ?_
      refine wpn ?_
      refine ⟨m1, Mem.tr L1 L2, ⟨X1, C1, ?_⟩, facts_step HM rfl K L2 rfl rfl rfl, outP⟩
      exact S4
    · intro L f2 w5 hL hd hc ⟨m2, L3, ⟨X1, C2, S5⟩, K, hO⟩
      have d0 : L 0 = true := dep hd rfl
      have e1 := K 0 d0
      have d1 : L 1 = false := hL
      obtain ⟨u2, rfl⟩ := fr_of (N := 11) (L := [(5, .agg #[vU a0.1, vU a0.2])]) hO ⟨e1, trivial⟩
      replace S5 : St _ ((bx b3 [vU 0, vU 0] 27) :: (bx b2 [vU a1.1, vU a1.2] 27) :: (bx b1 [vU a0.1, vU a0.2] 27) :: (X1 ++ As)) _ := S5
      obtain rfl := C2.1 d1
      replace S5 : St _ ((bx b3 [vU 0, vU 0] 27) :: (bx b2 [vU a1.1, vU a1.2] 27) :: (bx b1 [vU a0.1, vU a0.2] 27) :: As) _ := S5
      have L4 := Mem.rfl' m2
      refine s_call Tryd.call64 (w_ref02_Bytes (a0 := a0) S5  q1) rfl ?_
      rintro v1 w6 ⟨m3, l1, _, c1, S6, rfl, h1⟩
      replace L4 := Mem.tr L4 l1
      clear S5
      replace S6 : St _ ((row 1 v1 c1 x1.length) :: (bx b3 [vU 0, vU 0] 27) :: (bx b2 [vU a1.1, vU a1.2] 27) :: (bx b1 [vU a0.1, vU a0.2] 27) :: As) _ := S6
      refine wpn ?_
      refine ⟨m3, Mem.tr L3 L4, ⟨[row 1 v1 c1 x1.length], ⟨fun hx => tf rfl hx, fun _ => ⟨_, rfl, h1⟩⟩, ?_⟩, facts_step HM rfl K L4 rfl rfl trivial, outP⟩
      have S18 : St _ ((bx b3 [vU 0, vU 0] 27) :: (bx b2 [vU a1.1, vU a1.2] 27) :: (bx b1 [vU a0.1, vU a0.2] 27) :: (row 1 v1 c1 x1.length) :: As) _ := St.perm S6 (List.Perm.trans (List.Perm.swap _ _ _) (List.Perm.trans (List.Perm.cons _ (List.Perm.swap _ _ _)) (List.Perm.cons _ (List.Perm.cons _ (List.Perm.swap _ _ _)))))
      exact S18
    · intro L f3 w7 hL hd hc ⟨m4, L5, ⟨X1, C3, S7⟩, K, hO⟩
      obtain ⟨u3, rfl⟩ := fr_of (N := 11) (L := []) hO trivial
      replace S7 : St _ ((bx b3 [vU 0, vU 0] 27) :: (bx b2 [vU a1.1, vU a1.2] 27) :: (bx b1 [vU a0.1, vU a0.2] 27) :: (X1 ++ As)) _ := S7
      have L6 := Mem.rfl' m4
      refine s_ld (i := 1) (cs := [vU a1.1, vU a1.2]) S7 rfl rfl Tryd.isAgg27 Tryd.sizeOf27 rfl (fun h => by cases h) ?_
      refine wpn ?_
      refine ⟨m4, Mem.tr L5 L6, ⟨X1, C3, ?_⟩, facts_step HM rfl K L6 rfl rfl rfl, outP⟩
      exact S7
  intro L f4 w8 hall ⟨m5, L7, ⟨X1, C4, S8⟩, K, hO⟩
  obtain ⟨v2, e2⟩ : ∃ x, f4 6 = x := ⟨_, rfl⟩
  have d2 : L 2 = true := hall 2 (by decide)
  have e3 := K 2 d2
  have d1 : L 1 = true := hall 1 (by decide)
  obtain ⟨u4, rfl⟩ := fr_of (N := 11) (L := [(6, v2), (7, .agg #[vU a1.1, vU a1.2])]) hO ⟨e2, e3, trivial⟩
  replace S8 : St _ ((bx b3 [vU 0, vU 0] 27) :: (bx b2 [vU a1.1, vU a1.2] 27) :: (bx b1 [vU a0.1, vU a0.2] 27) :: (X1 ++ As)) _ := S8
  obtain ⟨c2, rfl, h2⟩ := C4.2 d1
  replace h2 : RepL _ c2 x1 := h2
  replace S8 : St _ ((bx b3 [vU 0, vU 0] 27) :: (bx b2 [vU a1.1, vU a1.2] 27) :: (bx b1 [vU a0.1, vU a0.2] 27) :: (row 1 v2 c2 x1.length) :: As) _ := S8
  replace L0 := Mem.tr L0 L7
  clear S3
  obtain ⟨x2, q2, hm⟩ := obind_some hm
  refine s_call Tryd.call64 (w_ref02_Bytes (a0 := a1) S8  q2) rfl ?_
  rintro v3 w9 ⟨m6, l2, _, c3, S9, rfl, h3⟩
  replace h2 := RepL.up l2 h2
  replace L0 := Mem.tr L0 l2
  clear S8
  replace S9 : St _ ((row 1 v3 c3 x2.length) :: (bx b3 [vU 0, vU 0] 27) :: (bx b2 [vU a1.1, vU a1.2] 27) :: (bx b1 [vU a0.1, vU a0.2] 27) :: (row 1 v2 c2 x1.length) :: As) _ := S9
  obtain ⟨m7, l3, h4, S10⟩ := St.rowKeepT (i := 4) S9 rfl h2 rfl
  replace h3 := RepL.up l3 h3
  replace L0 := Mem.tr L0 l3
  clear S9
  obtain ⟨m8, l4, h5, S11⟩ := St.rowKeepT (i := 0) S10 rfl h3 rfl
  replace h4 := h4.up l4
  replace L0 := Mem.tr L0 l4
  clear S10
  refine s_litC (parts := [.tmp 6, .tmp 8]) (vs := [v2, v3]) (cls := [[v2], [v3]]) (xs := ([x1, x2] : List (List UInt8))) (n := 2) S11 Tryd.underlying75 Tryd.sizeOf23 Tryd.zeroValue23 rfl ⟨SlR.cells h4, SlR.cells h5, trivial⟩ (RepL.cons (c := [v2]) (x := x1) ⟨_, rfl, h4⟩ (RepL.cons (c := [v3]) (x := x2) ⟨_, rfl, h5⟩ RepL.nil)) rfl rfl rfl (by decide) (by decide) ?_
  intro v4 m9 w10 l5 S12 h6
  replace h4 := h4.up l5
  replace h5 := h5.up l5
  replace L0 := Mem.tr L0 l5
  clear S11
  obtain ⟨x3, q3, hm⟩ := obind_some hm
  refine s_call Tryd.call34 (w_ref02_Tagged (a0 := (⟨#[110, 111, 100, 101]⟩ : ByteArray)) (a1 := ([x1, x2] : List (List UInt8))) S12 h6 q3) rfl ?_
  rintro _ w11 ⟨m10, l6, S13, rfl⟩
  replace h6 := h6.up l6
  replace L0 := Mem.tr L0 l6
  clear S12
  replace S13 : St _ ((bx b3 [vU 0, vU 0] 27) :: (bx b2 [vU a1.1, vU a1.2] 27) :: (bx b1 [vU a0.1, vU a0.2] 27) :: As) _ := S13
  refine s_stL (i := 0) S13 rfl rfl rfl Tryd.sizeOf27 (oneC rfl (oneC rfl oneN)) rfl ?_
  intro w12 S14
  replace S14 : St _ ((bx b3 [vU x3.1, vU x3.2] 27) :: (bx b2 [vU a1.1, vU a1.2] 27) :: (bx b1 [vU a0.1, vU a0.2] 27) :: As) _ := S14
  clear S13
  refine wpl_nil ?_
  refine nrm ?_
  refine wpc_ret ?_
  refine outRw ?_
  intro we hpd
  replace S14 := St.pd S14 hpd
  have SR := S14
  obtain ⟨m11, l7, S15⟩ := St.drop S14 0
  replace L0 := Mem.tr L0 l7
  replace S15 : St _ ((bx b2 [vU a1.1, vU a1.2] 27) :: (bx b1 [vU a0.1, vU a0.2] 27) :: As) _ := S15
  obtain ⟨m12, l8, S16⟩ := St.drop S15 0
  replace L0 := Mem.tr L0 l8
  clear S15
  replace S16 : St _ ((bx b1 [vU a0.1, vU a0.2] 27) :: As) _ := S16
  obtain ⟨m13, l9, S17⟩ := St.drop S16 0
  replace L0 := Mem.tr L0 l9
  clear S16
  replace S17 : St _ (As) _ := S17
  have e0 := Option.some.inj hm
  subst e0
  exact outR [_] rfl ⟨res_box (i := 0) (off := 0) (cs := [vU x3.1, vU x3.2]) SR rfl rfl Tryd.isAgg27 Tryd.sizeOf27 rfl (fun h => by cases h), trivial⟩ ⟨_, L0, S17, rfl⟩

end Go.Proofs.YtohipjalgccmnaaDoor
