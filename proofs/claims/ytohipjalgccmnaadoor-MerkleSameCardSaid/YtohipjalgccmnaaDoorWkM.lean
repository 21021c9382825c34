/- The walks of some functions, written by program. Conditions: none. -/
import Derived.Test.YtohipjalgccmnaaDoorWkF
set_option maxHeartbeats 20000000
set_option maxRecDepth 100000
set_option linter.unusedVariables false
set_option linter.unusedSimpArgs false
namespace Go.Proofs.YtohipjalgccmnaaDoor
open Go Go.Gw

def m_law08_first_b1 (a0 : Int) (s1 : Int) : Option ((Int) ⊕ (Int)) :=
  if (decide ((w64 (2 * s1)) < a0)) = true then
    some (.inl (w64 (2 * s1)))
  else
  some (.inr s1)

def m_law08_first (a0 : Int) : Option Int :=
  obind (
    obind (iter (m_law08_first_b1 a0) FUEL 1) fun x2 =>
    some x2
  ) fun x1 =>
  some x1

theorem w_law08_first {m : Mem} {As : List Ow} {w : World} {a0 : Int} {r : Int} (S : St m (As) w) (hm : m_law08_first a0 = some r) :
    CallsR Tryd.prog 53 #[vI a0] w fun v w' => ∃ (M : Mem), m ≤ M ∧ St M (As) w' ∧ v = vI r := by
  unfold m_law08_first at hm
  have L0 := Mem.rfl' m
  refine callsR (args := [vI a0]) Tryd.func53 rfl Tryd.ntmps53 (Nat.le_of_ble_eq_true rfl) ?_
  refine wpc_seq ?_
  refine wpc_region ?_
  refine s_asv (v := vI 0) rfl ?_
  refine wpl_nil ?_
  refine nrm ?_
  refine wpc_seq ?_
  refine wpc_region ?_
  refine s_asv (v := vI 1) rfl ?_
  refine wpl_nil ?_
  refine nrm ?_
  obtain ⟨x1, q1, hm⟩ := obind_some hm
  have L1 := Mem.rfl' m
  refine wpc_seq ?_
  refine wpc_join [3, 4, 5, 6, 7, 8, 9] (fun f' w' => ∃ (M1 : Mem), m ≤ M1 ∧ St M1 (As) w' ∧ AllAt f' [(3, vI x1)]) ?_ ?_
  · obtain ⟨x2, q2, q1⟩ := obind_some q1
    have L2 := Mem.rfl' m
    refine wpc_join [3, 4, 5, 6, 7, 8, 9] (fun f' w' => ∃ (M2 : Mem), m ≤ M2 ∧ St M2 (As) w' ∧ AllAt f' [(3, vI x2)]) ?_ ?_
    · refine wpc_block ?_
      refine wpc_rounds [3, 4, 5, 6, 7, 8, 9] (fun n1 f' w' => ∃ (s1 : Int) (m2 : Mem), iter (m_law08_first_b1 a0) n1 s1 = some x2 ∧ m ≤ m2 ∧ St m2 (As) w' ∧ AllAt f' [(3, vI s1)]) FUEL ⟨1, m, q2, L2, S, ⟨rfl, trivial⟩⟩ ?_
      rintro n1 f1 w1 ho ⟨s1, m1, q3, L4, S1, ha⟩
      obtain ⟨u1, rfl⟩ := fr_of (N := 11) ho ha
      clear ho ha
      have L3 := Mem.rfl' m1
      clear S
      cases n1 with
      | zero => exact (iter_zero q3).elim
      | succ n1 =>
        obtain ⟨y1, q5, q4⟩ := iter_succ q3
        unfold m_law08_first_b1 at q5
        refine wpc_seq ?_
        refine wpc_seq ?_
        refine wpc_region ?_
        refine s_mvv (v := vI s1) rfl ?_
        refine s_mulI (m := 2) (n := s1) rfl rfl ?_
        refine s_mvv (v := vI a0) rfl ?_
        refine s_lss (m := (w64 (2 * s1))) (n := a0) rfl rfl ?_
        refine wpl_nil ?_
        refine nrm ?_
        refine wpc_if (t := (decide ((w64 (2 * s1)) < a0))) rfl (fun hc1 => ?_) (fun hc1 => ?_)
        · replace q5 := ifT hc1 q5
          refine wpc_skip ?_
          refine nrm ?_
          refine wpc_block ?_
          refine wpc_region ?_
          refine s_mvv (v := vI s1) rfl ?_
          refine s_mulI (m := 2) (n := s1) rfl rfl ?_
          refine s_asv (v := vI (w64 (2 * s1))) rfl ?_
          refine wpl_nil ?_
          refine nrmB ?_
          refine nrm ?_
          have e0 := Option.some.inj q5
          subst e0
          rcases q4 with ⟨sn, e, q4'⟩ | e
          · cases e
            exact ⟨outP, _, Nat.lt_succ_self _, ⟨_, m1, q4', Mem.tr L4 L3, S1, ⟨rfl, trivial⟩⟩⟩
          · cases e
        replace q5 := ifF hc1 q5
        refine wpc_exit ?_
        refine thE ?_
        refine thE ?_
        refine exB ?_
        refine nrm ?_
        have e0 := Option.some.inj q5
        subst e0
        rcases q4 with ⟨sn, e, _⟩ | e
        · cases e
        · cases e
          exact ⟨outP, m1, Mem.tr L4 L3, S1, ⟨rfl, trivial⟩⟩
    rintro f2 w2 ho ⟨m3, l1, S2, ha⟩
    obtain ⟨u2, rfl⟩ := fr_of (N := 11) ho ha
    clear ho ha
    replace L1 := Mem.tr L1 l1
    clear S
    have e0 := Option.some.inj q1
    subst e0
    exact ⟨outP, m3, L1, S2, ⟨rfl, trivial⟩⟩
  rintro f3 w3 ho ⟨m4, l2, S3, ha⟩
  obtain ⟨u3, rfl⟩ := fr_of (N := 11) ho ha
  replace L0 := Mem.tr L0 l2
  clear S
  refine wpc_seq ?_
  refine wpc_region ?_
  refine s_mvv (v := vI x1) rfl ?_
  refine s_asv (v := vI x1) rfl ?_
  refine wpl_nil ?_
  refine nrm ?_
  refine wpc_ret ?_
  refine outRw ?_
  intro we hpd
  replace S3 := St.pd S3 hpd
  have e0 := Option.some.inj hm
  subst e0
  exact outR [_] rfl ⟨rfl, trivial⟩ ⟨_, L0, S3, rfl⟩

def m_law08_unlike (a0 : UInt64 × UInt64) (a1 : UInt64 × UInt64) (a2 : UInt64 × UInt64) (a3 : UInt64 × UInt64) : Option Bool :=
  obind (gu ((!eqSum a0 a2) || (!eqSum a1 a3)) (m_hash_Pair a0 a1)) fun x1 =>
  obind (gu ((!eqSum a0 a2) || (!eqSum a1 a3)) (m_hash_Pair a2 a3)) fun x2 =>
  bnd ((((!eqSum a0 a2) || (!eqSum a1 a3)) && (eqSum x1 x2))) fun x3 =>
  some x3

theorem w_law08_unlike {m : Mem} {As : List Ow} {w : World} {a0 : UInt64 × UInt64} {a1 : UInt64 × UInt64} {a2 : UInt64 × UInt64} {a3 : UInt64 × UInt64} {r : Bool} (S : St m (As) w) (hm : m_law08_unlike a0 a1 a2 a3 = some r) :
    CallsR Tryd.prog 54 #[.agg #[vU a0.1, vU a0.2], .agg #[vU a1.1, vU a1.2], .agg #[vU a2.1, vU a2.2], .agg #[vU a3.1, vU a3.2]] w fun v w' => ∃ (M : Mem), m ≤ M ∧ St M (As) w' ∧ v = vb r := by
  unfold m_law08_unlike at hm
  have L0 := Mem.rfl' m
  refine callsR (args := [.agg #[vU a0.1, vU a0.2], .agg #[vU a1.1, vU a1.2], .agg #[vU a2.1, vU a2.2], .agg #[vU a3.1, vU a3.2]]) Tryd.func54 rfl Tryd.ntmps54 (Nat.le_of_ble_eq_true rfl) ?_
  refine wpc_seq ?_
  refine wpc_region ?_
  refine s_box S rfl ?_
  intro b1 w1 S1
  replace S1 : St _ ((bx b1 [vU a0.1, vU a0.2] 27) :: As) _ := S1
  clear S
  refine s_box S1 rfl ?_
  intro b2 w2 S2
  replace S2 : St _ ((bx b2 [vU a1.1, vU a1.2] 27) :: (bx b1 [vU a0.1, vU a0.2] 27) :: As) _ := S2
  clear S1
  refine s_box S2 rfl ?_
  intro b3 w3 S3
  replace S3 : St _ ((bx b3 [vU a2.1, vU a2.2] 27) :: (bx b2 [vU a1.1, vU a1.2] 27) :: (bx b1 [vU a0.1, vU a0.2] 27) :: As) _ := S3
  clear S2
  refine s_box S3 rfl ?_
  intro b4 w4 S4
  replace S4 : St _ ((bx b4 [vU a3.1, vU a3.2] 27) :: (bx b3 [vU a2.1, vU a2.2] 27) :: (bx b2 [vU a1.1, vU a1.2] 27) :: (bx b1 [vU a0.1, vU a0.2] 27) :: As) _ := S4
  clear S3
  refine s_asv (v := vb false) rfl ?_
  refine wpl_nil ?_
  refine nrm ?_
  refine wpc_seq ?_
  obtain ⟨x1, q1, hm⟩ := obind_some hm
  obtain ⟨x2, q2, hm⟩ := obind_some hm
  have HM : MonoAll [(9, fun (M : Mem) (v : Value) => v = .agg #[vU a0.1, vU a0.2]), (10, fun (M : Mem) (v : Value) => v = .agg #[vU a2.1, vU a2.2]), (11, fun (M : Mem) (v : Value) => v = vb (!eqSum a0 a2)), (12, fun (M : Mem) (v : Value) => v = vb (!eqSum a0 a2)), (13, fun (M : Mem) (v : Value) => ((!(!eqSum a0 a2)) = true → v = .agg #[vU a1.1, vU a1.2]) ∧ ((!(!eqSum a0 a2)) = false → v = undef)), (14, fun (M : Mem) (v : Value) => ((!(!eqSum a0 a2)) = true → v = .agg #[vU a3.1, vU a3.2]) ∧ ((!(!eqSum a0 a2)) = false → v = undef)), (15, fun (M : Mem) (v : Value) => ((!(!eqSum a0 a2)) = true → v = vb (!eqSum a1 a3)) ∧ ((!(!eqSum a0 a2)) = false → v = undef)), (16, fun (M : Mem) (v : Value) => v = vb ((!eqSum a0 a2) || (!eqSum a1 a3))), (17, fun (M : Mem) (v : Value) => v = vb ((!eqSum a0 a2) || (!eqSum a1 a3))), (18, fun (M : Mem) (v : Value) => (((!eqSum a0 a2) || (!eqSum a1 a3)) = true → v = .agg #[vU a0.1, vU a0.2]) ∧ (((!eqSum a0 a2) || (!eqSum a1 a3)) = false → v = undef)), (19, fun (M : Mem) (v : Value) => (((!eqSum a0 a2) || (!eqSum a1 a3)) = true → v = .agg #[vU a1.1, vU a1.2]) ∧ (((!eqSum a0 a2) || (!eqSum a1 a3)) = false → v = undef)), (20, fun (M : Mem) (v : Value) => (((!eqSum a0 a2) || (!eqSum a1 a3)) = true → v = .agg #[vU x1.1, vU x1.2]) ∧ (((!eqSum a0 a2) || (!eqSum a1 a3)) = false → v = undef)), (21, fun (M : Mem) (v : Value) => (((!eqSum a0 a2) || (!eqSum a1 a3)) = true → v = .agg #[vU a2.1, vU a2.2]) ∧ (((!eqSum a0 a2) || (!eqSum a1 a3)) = false → v = undef)), (22, fun (M : Mem) (v : Value) => (((!eqSum a0 a2) || (!eqSum a1 a3)) = true → v = .agg #[vU a3.1, vU a3.2]) ∧ (((!eqSum a0 a2) || (!eqSum a1 a3)) = false → v = undef)), (23, fun (M : Mem) (v : Value) => (((!eqSum a0 a2) || (!eqSum a1 a3)) = true → v = .agg #[vU x2.1, vU x2.2]) ∧ (((!eqSum a0 a2) || (!eqSum a1 a3)) = false → v = undef)), (24, fun (M : Mem) (v : Value) => (((!eqSum a0 a2) || (!eqSum a1 a3)) = true → v = vb (eqSum x1 x2)) ∧ (((!eqSum a0 a2) || (!eqSum a1 a3)) = false → v = undef)), (25, fun (M : Mem) (v : Value) => v = vb (((!eqSum a0 a2) || (!eqSum a1 a3)) && (eqSum x1 x2)))] := ⟨(fun _ _ _ _ h => h), (fun _ _ _ _ h => h), (fun _ _ _ _ h => h), (fun _ _ _ _ h => h), (fun _ _ _ _ h => h), (fun _ _ _ _ h => h), (fun _ _ _ _ h => h), (fun _ _ _ _ h => h), (fun _ _ _ _ h => h), (fun _ _ _ _ h => h), (fun _ _ _ _ h => h), (fun _ _ _ _ h => h), (fun _ _ _ _ h => h), (fun _ _ _ _ h => h), (fun _ _ _ _ h => h), (fun _ _ _ _ h => h), (fun _ _ _ _ h => h), trivial⟩
  refine wpc_flowG HM 17 mixed rfl rfl rfl [9, 10, 11, 12, 13, 14, 15, 16, 17, 18, 19, 20, 21, 22, 23, 24, 25] (fun L f M w => St M ((bx b4 [vU a3.1, vU a3.2] 27) :: (bx b3 [vU a2.1, vU a2.2] 27) :: (bx b2 [vU a1.1, vU a1.2] 27) :: (bx b1 [vU a0.1, vU a0.2] 27) :: As) w) (St.drew S4 _) ?_ ?_
  · refine ⟨?_, ?_, ?_, ?_, ?_, ?_, ?_, ?_, ?_, ?_, ?_, ?_, ?_, ?_, ?_, ?_, ?_, trivial⟩
    · intro L f1 w5 hL hd hc ⟨m1, L1, S5, K, hO⟩
      obtain ⟨u1, rfl⟩ := fr_of (N := 26) (L := []) hO trivial
      replace S5 : St _ ((bx b4 [vU a3.1, vU a3.2] 27) :: (bx b3 [vU a2.1, vU a2.2] 27) :: (bx b2 [vU a1.1, vU a1.2] 27) :: (bx b1 [vU a0.1, vU a0.2] 27) :: As) _ := S5
      have L2 := Mem.rfl' m1
      refine s_ld (i := 3) (cs := [vU a0.1, vU a0.2]) S5 rfl rfl Tryd.isAgg27 Tryd.sizeOf27 rfl (fun h => by cases h) ?_
      refine wpn ?_
      refine ⟨m1, Mem.tr L1 L2, ?_, facts_step HM rfl K L2 rfl rfl rfl, outP⟩
      exact S5
    · intro L f2 w6 hL hd hc ⟨m2, L3, S6, K, hO⟩
      obtain ⟨u2, rfl⟩ := fr_of (N := 26) (L := []) hO trivial
      replace S6 : St _ ((bx b4 [vU a3.1, vU a3.2] 27) :: (bx b3 [vU a2.1, vU a2.2] 27) :: (bx b2 [vU a1.1, vU a1.2] 27) :: (bx b1 [vU a0.1, vU a0.2] 27) :: As) _ := S6
      have L4 := Mem.rfl' m2
      refine s_ld (i := 1) (cs := [vU a2.1, vU a2.2]) S6 rfl rfl Tryd.isAgg27 Tryd.sizeOf27 rfl (fun h => by cases h) ?_
      refine wpn ?_
      refine ⟨m2, Mem.tr L3 L4, ?_, facts_step HM rfl K L4 rfl rfl rfl, outP⟩
      exact S6
    · intro L f3 w7 hL hd hc ⟨m3, L5, S7, K, hO⟩
      have d0 : L 0 = true := dep hd rfl
      have e1 := K 0 d0
      have d1 : L 1 = true := dep hd rfl
      have e2 := K 1 d1
      obtain ⟨u3, rfl⟩ := fr_of (N := 26) (L := [(9, .agg #[vU a0.1, vU a0.2]), (10, .agg #[vU a2.1, vU a2.2])]) hO ⟨e1, e2, trivial⟩
      replace S7 : St _ ((bx b4 [vU a3.1, vU a3.2] 27) :: (bx b3 [vU a2.1, vU a2.2] 27) :: (bx b2 [vU a1.1, vU a1.2] 27) :: (bx b1 [vU a0.1, vU a0.2] 27) :: As) _ := S7
      have L6 := Mem.rfl' m3
      refine s_neqSum (p := a0) (q := a2) rfl rfl Tryd.underlying27 Tryd.underlying25 Tryd.sizeOf25 Tryd.isAgg25 Tryd.eqGuardType27 ?_
      refine wpn ?_
      refine ⟨m3, Mem.tr L5 L6, ?_, facts_step HM rfl K L6 rfl rfl rfl, outP⟩
      exact S7
    · intro L f4 w8 hL hd hc ⟨m4, L7, S8, K, hO⟩
      have d2 : L 2 = true := dep hd rfl
      have e3 := K 2 d2
      obtain ⟨u4, rfl⟩ := fr_of (N := 26) (L := [(11, vb (!eqSum a0 a2))]) hO ⟨e3, trivial⟩
      replace S8 : St _ ((bx b4 [vU a3.1, vU a3.2] 27) :: (bx b3 [vU a2.1, vU a2.2] 27) :: (bx b2 [vU a1.1, vU a1.2] 27) :: (bx b1 [vU a0.1, vU a0.2] 27) :: As) _ := S8
      have L8 := Mem.rfl' m4
      refine s_mvv (v := vb (!eqSum a0 a2)) rfl ?_
      refine wpn ?_
      refine ⟨m4, Mem.tr L7 L8, ?_, facts_step HM rfl K L8 rfl rfl rfl, outP⟩
      exact S8
    · intro L f5 w9 hL hd hc ⟨m5, L9, S9, K, hO⟩
      rcases bool_tf (!eqSum a0 a2) with hb1 | hb1
      · have d3 : L 3 = true := dep hd rfl
        have e5 := K 3 d3
        obtain ⟨u6, rfl⟩ := fr_of (N := 26) (L := [(12, vb (!eqSum a0 a2))]) hO ⟨e5, trivial⟩
        replace S9 : St _ ((bx b4 [vU a3.1, vU a3.2] 27) :: (bx b3 [vU a2.1, vU a2.2] 27) :: (bx b2 [vU a1.1, vU a1.2] 27) :: (bx b1 [vU a0.1, vU a0.2] 27) :: As) _ := S9
        have L11 := Mem.rfl' m5
        refine wpl_no (d := 12) rfl rfl (congrArg Value.bool hb1) ?_
        refine wpn ?_
        refine ⟨m5, Mem.tr L9 L11, ?_, facts_step HM rfl K L11 rfl rfl ⟨fun hx => tf hx (not_f hb1), fun _ => rfl⟩, outP⟩
        exact S9
      have d3 : L 3 = true := dep hd rfl
      have e4 := K 3 d3
      obtain ⟨u5, rfl⟩ := fr_of (N := 26) (L := [(12, vb (!eqSum a0 a2))]) hO ⟨e4, trivial⟩
      replace S9 : St _ ((bx b4 [vU a3.1, vU a3.2] 27) :: (bx b3 [vU a2.1, vU a2.2] 27) :: (bx b2 [vU a1.1, vU a1.2] 27) :: (bx b1 [vU a0.1, vU a0.2] 27) :: As) _ := S9
      have L10 := Mem.rfl' m5
      refine wpl_yes (d := 12) rfl rfl (congrArg Value.bool hb1) ?_
      refine s_ld (i := 2) (cs := [vU a1.1, vU a1.2]) S9 rfl rfl Tryd.isAgg27 Tryd.sizeOf27 rfl (fun h => by cases h) ?_
      refine wpn ?_
      refine ⟨m5, Mem.tr L9 L10, ?_, facts_step HM rfl K L10 rfl rfl ⟨fun _ => rfl, fun hx => tf (not_t hb1) hx⟩, outP⟩
      exact S9
    · intro L f6 w10 hL hd hc ⟨m6, L12, S10, K, hO⟩
      rcases bool_tf (!eqSum a0 a2) with hb2 | hb2
      · have d3 : L 3 = true := dep hd rfl
        have e7 := K 3 d3
        obtain ⟨u8, rfl⟩ := fr_of (N := 26) (L := [(12, vb (!eqSum a0 a2))]) hO ⟨e7, trivial⟩
        replace S10 : St _ ((bx b4 [vU a3.1, vU a3.2] 27) :: (bx b3 [vU a2.1, vU a2.2] 27) :: (bx b2 [vU a1.1, vU a1.2] 27) :: (bx b1 [vU a0.1, vU a0.2] 27) :: As) _ := S10
        have L14 := Mem.rfl' m6
        refine wpl_no (d := 12) rfl rfl (congrArg Value.bool hb2) ?_
        refine wpn ?_
        refine ⟨m6, Mem.tr L12 L14, ?_, facts_step HM rfl K L14 rfl rfl ⟨fun hx => tf hx (not_f hb2), fun _ => rfl⟩, outP⟩
        exact S10
      have d3 : L 3 = true := dep hd rfl
      have e6 := K 3 d3
      obtain ⟨u7, rfl⟩ := fr_of (N := 26) (L := [(12, vb (!eqSum a0 a2))]) hO ⟨e6, trivial⟩
      replace S10 : St _ ((bx b4 [vU a3.1, vU a3.2] 27) :: (bx b3 [vU a2.1, vU a2.2] 27) :: (bx b2 [vU a1.1, vU a1.2] 27) :: (bx b1 [vU a0.1, vU a0.2] 27) :: As) _ := S10
      have L13 := Mem.rfl' m6
      refine wpl_yes (d := 12) rfl rfl (congrArg Value.bool hb2) ?_
      refine s_ld (i := 0) (cs := [vU a3.1, vU a3.2]) S10 rfl rfl Tryd.isAgg27 Tryd.sizeOf27 rfl (fun h => by cases h) ?_
      refine wpn ?_
      refine ⟨m6, Mem.tr L12 L13, ?_, facts_step HM rfl K L13 rfl rfl ⟨fun _ => rfl, fun hx => tf (not_t hb2) hx⟩, outP⟩
      exact S10
    · intro L f7 w11 hL hd hc ⟨m7, L15, S11, K, hO⟩
      rcases bool_tf (!eqSum a0 a2) with hb3 | hb3
      · have d3 : L 3 = true := dep hd rfl
        have e11 := K 3 d3
        obtain ⟨u10, rfl⟩ := fr_of (N := 26) (L := [(12, vb (!eqSum a0 a2))]) hO ⟨e11, trivial⟩
        replace S11 : St _ ((bx b4 [vU a3.1, vU a3.2] 27) :: (bx b3 [vU a2.1, vU a2.2] 27) :: (bx b2 [vU a1.1, vU a1.2] 27) :: (bx b1 [vU a0.1, vU a0.2] 27) :: As) _ := S11
        have L17 := Mem.rfl' m7
        refine wpl_no (d := 12) rfl rfl (congrArg Value.bool hb3) ?_
        refine wpn ?_
        refine ⟨m7, Mem.tr L15 L17, ?_, facts_step HM rfl K L17 rfl rfl ⟨fun hx => tf hx (not_f hb3), fun _ => rfl⟩, outP⟩
        exact S11
      have d3 : L 3 = true := dep hd rfl
      have e8 := K 3 d3
      have d4 : L 4 = true := dep hd rfl
      have e9 := (K 4 d4).1 (not_t hb3)
      have d5 : L 5 = true := dep hd rfl
      have e10 := (K 5 d5).1 (not_t hb3)
      obtain ⟨u9, rfl⟩ := fr_of (N := 26) (L := [(12, vb (!eqSum a0 a2)), (13, .agg #[vU a1.1, vU a1.2]), (14, .agg #[vU a3.1, vU a3.2])]) hO ⟨e8, e9, e10, trivial⟩
      replace S11 : St _ ((bx b4 [vU a3.1, vU a3.2] 27) :: (bx b3 [vU a2.1, vU a2.2] 27) :: (bx b2 [vU a1.1, vU a1.2] 27) :: (bx b1 [vU a0.1, vU a0.2] 27) :: As) _ := S11
      have L16 := Mem.rfl' m7
      refine wpl_yes (d := 12) rfl rfl (congrArg Value.bool hb3) ?_
      refine s_neqSum (p := a1) (q := a3) rfl rfl Tryd.underlying27 Tryd.underlying25 Tryd.sizeOf25 Tryd.isAgg25 Tryd.eqGuardType27 ?_
      refine wpn ?_
      refine ⟨m7, Mem.tr L15 L16, ?_, facts_step HM rfl K L16 rfl rfl ⟨fun _ => rfl, fun hx => tf (not_t hb3) hx⟩, outP⟩
      exact S11
    · intro L f8 w12 hL hd hc ⟨m8, L18, S12, K, hO⟩
      rcases bool_tf (!eqSum a0 a2) with hb4 | hb4
      · have d3 : L 3 = true := dep hd rfl
        have e12 := K 3 d3
        obtain ⟨u11, rfl⟩ := fr_of (N := 26) (L := [(12, vb (!eqSum a0 a2))]) hO ⟨e12, trivial⟩
        replace S12 : St _ ((bx b4 [vU a3.1, vU a3.2] 27) :: (bx b3 [vU a2.1, vU a2.2] 27) :: (bx b2 [vU a1.1, vU a1.2] 27) :: (bx b1 [vU a0.1, vU a0.2] 27) :: As) _ := S12
        have L19 := Mem.rfl' m8
        refine s_pickT (congrArg Value.bool hb4) rfl ?_
        refine wpn ?_
        refine ⟨m8, Mem.tr L18 L19, ?_, facts_step HM rfl K L19 rfl rfl (congrArg Value.bool (or_t hb4)), outP⟩
        exact S12
      · have d3 : L 3 = true := dep hd rfl
        have e13 := K 3 d3
        have d6 : L 6 = true := dep hd rfl
        have e14 := (K 6 d6).1 (not_t hb4)
        obtain ⟨u12, rfl⟩ := fr_of (N := 26) (L := [(12, vb (!eqSum a0 a2)), (15, vb (!eqSum a1 a3))]) hO ⟨e13, e14, trivial⟩
        replace S12 : St _ ((bx b4 [vU a3.1, vU a3.2] 27) :: (bx b3 [vU a2.1, vU a2.2] 27) :: (bx b2 [vU a1.1, vU a1.2] 27) :: (bx b1 [vU a0.1, vU a0.2] 27) :: As) _ := S12
        have L20 := Mem.rfl' m8
        refine s_pickF (congrArg Value.bool hb4) rfl ?_
        refine wpn ?_
        refine ⟨m8, Mem.tr L18 L20, ?_, facts_step HM rfl K L20 rfl rfl (congrArg Value.bool (or_f hb4)), outP⟩
        exact S12
    · intro L f9 w13 hL hd hc ⟨m9, L21, S13, K, hO⟩
      have d7 : L 7 = true := dep hd rfl
      have e15 := K 7 d7
      obtain ⟨u13, rfl⟩ := fr_of (N := 26) (L := [(16, vb ((!eqSum a0 a2) || (!eqSum a1 a3)))]) hO ⟨e15, trivial⟩
      replace S13 : St _ ((bx b4 [vU a3.1, vU a3.2] 27) :: (bx b3 [vU a2.1, vU a2.2] 27) :: (bx b2 [vU a1.1, vU a1.2] 27) :: (bx b1 [vU a0.1, vU a0.2] 27) :: As) _ := S13
      have L22 := Mem.rfl' m9
      refine s_mvv (v := vb ((!eqSum a0 a2) || (!eqSum a1 a3))) rfl ?_
      refine wpn ?_
      refine ⟨m9, Mem.tr L21 L22, ?_, facts_step HM rfl K L22 rfl rfl rfl, outP⟩
      exact S13
    · intro L f10 w14 hL hd hc ⟨m10, L23, S14, K, hO⟩
      rcases bool_tf ((!eqSum a0 a2) || (!eqSum a1 a3)) with hb5 | hb5
      · have d8 : L 8 = true := dep hd rfl
        have e16 := K 8 d8
        obtain ⟨u14, rfl⟩ := fr_of (N := 26) (L := [(17, vb ((!eqSum a0 a2) || (!eqSum a1 a3)))]) hO ⟨e16, trivial⟩
        replace S14 : St _ ((bx b4 [vU a3.1, vU a3.2] 27) :: (bx b3 [vU a2.1, vU a2.2] 27) :: (bx b2 [vU a1.1, vU a1.2] 27) :: (bx b1 [vU a0.1, vU a0.2] 27) :: As) _ := S14
        have L24 := Mem.rfl' m10
        refine wpl_yes (d := 17) rfl rfl (congrArg Value.bool hb5) ?_
        refine s_ld (i := 3) (cs := [vU a0.1, vU a0.2]) S14 rfl rfl Tryd.isAgg27 Tryd.sizeOf27 rfl (fun h => by cases h) ?_
        refine wpn ?_
        refine ⟨m10, Mem.tr L23 L24, ?_, facts_step HM rfl K L24 rfl rfl ⟨fun _ => rfl, fun hx => tf hb5 hx⟩, outP⟩
        exact S14
      have d8 : L 8 = true := dep hd rfl
      have e17 := K 8 d8
      obtain ⟨u15, rfl⟩ := fr_of (N := 26) (L := [(17, vb ((!eqSum a0 a2) || (!eqSum a1 a3)))]) hO ⟨e17, trivial⟩
      replace S14 : St _ ((bx b4 [vU a3.1, vU a3.2] 27) :: (bx b3 [vU a2.1, vU a2.2] 27) :: (bx b2 [vU a1.1, vU a1.2] 27) :: (bx b1 [vU a0.1, vU a0.2] 27) :: As) _ := S14
      have L25 := Mem.rfl' m10
      refine wpl_no (d := 17) rfl rfl (congrArg Value.bool hb5) ?_
      refine wpn ?_
      refine ⟨m10, Mem.tr L23 L25, ?_, facts_step HM rfl K L25 rfl rfl ⟨fun hx => tf hx hb5, fun _ => rfl⟩, outP⟩
      exact S14
    · intro L f11 w15 hL hd hc ⟨m11, L26, S15, K, hO⟩
      rcases bool_tf ((!eqSum a0 a2) || (!eqSum a1 a3)) with hb6 | hb6
      · have d8 : L 8 = true := dep hd rfl
        have e18 := K 8 d8
        obtain ⟨u16, rfl⟩ := fr_of (N := 26) (L := [(17, vb ((!eqSum a0 a2) || (!eqSum a1 a3)))]) hO ⟨e18, trivial⟩
        replace S15 : St _ ((bx b4 [vU a3.1, vU a3.2] 27) :: (bx b3 [vU a2.1, vU a2.2] 27) :: (bx b2 [vU a1.1, vU a1.2] 27) :: (bx b1 [vU a0.1, vU a0.2] 27) :: As) _ := S15
        have L27 := Mem.rfl' m11
        refine wpl_yes (d := 17) rfl rfl (congrArg Value.bool hb6) ?_
        refine s_ld (i := 2) (cs := [vU a1.1, vU a1.2]) S15 rfl rfl Tryd.isAgg27 Tryd.sizeOf27 rfl (fun h => by cases h) ?_
        refine wpn ?_
        refine ⟨m11, Mem.tr L26 L27, ?_, facts_step HM rfl K L27 rfl rfl ⟨fun _ => rfl, fun hx => tf hb6 hx⟩, outP⟩
        exact S15
      have d8 : L 8 = true := dep hd rfl
      have e19 := K 8 d8
      obtain ⟨u17, rfl⟩ := fr_of (N := 26) (L := [(17, vb ((!eqSum a0 a2) || (!eqSum a1 a3)))]) hO ⟨e19, trivial⟩
      replace S15 : St _ ((bx b4 [vU a3.1, vU a3.2] 27) :: (bx b3 [vU a2.1, vU a2.2] 27) :: (bx b2 [vU a1.1, vU a1.2] 27) :: (bx b1 [vU a0.1, vU a0.2] 27) :: As) _ := S15
      have L28 := Mem.rfl' m11
      refine wpl_no (d := 17) rfl rfl (congrArg Value.bool hb6) ?_
      refine wpn ?_
      refine ⟨m11, Mem.tr L26 L28, ?_, facts_step HM rfl K L28 rfl rfl ⟨fun hx => tf hx hb6, fun _ => rfl⟩, outP⟩
      exact S15
    · intro L f12 w16 hL hd hc ⟨m12, L29, S16, K, hO⟩
      rcases bool_tf ((!eqSum a0 a2) || (!eqSum a1 a3)) with hb7 | hb7
      · have d8 : L 8 = true := dep hd rfl
        have e20 := K 8 d8
        have d9 : L 9 = true := dep hd rfl
        have e21 := (K 9 d9).1 hb7
        have d10 : L 10 = true := dep hd rfl
        have e22 := (K 10 d10).1 hb7
        obtain ⟨u18, rfl⟩ := fr_of (N := 26) (L := [(17, vb ((!eqSum a0 a2) || (!eqSum a1 a3))), (18, .agg #[vU a0.1, vU a0.2]), (19, .agg #[vU a1.1, vU a1.2])]) hO ⟨e20, e21, e22, trivial⟩
        replace S16 : St _ ((bx b4 [vU a3.1, vU a3.2] 27) :: (bx b3 [vU a2.1, vU a2.2] 27) :: (bx b2 [vU a1.1, vU a1.2] 27) :: (bx b1 [vU a0.1, vU a0.2] 27) :: As) _ := S16
        have L30 := Mem.rfl' m12
        refine wpl_yes (d := 17) rfl rfl (congrArg Value.bool hb7) ?_
        replace q1 := gu_t hb7 q1
        refine s_call Tryd.call29 (w_hash_Pair (a0 := a0) (a1 := a1) S16  q1) rfl ?_
        rintro _ w17 ⟨m13, l1, S17, rfl⟩
        replace L30 := Mem.tr L30 l1
        clear S16
        replace S17 : St _ ((bx b4 [vU a3.1, vU a3.2] 27) :: (bx b3 [vU a2.1, vU a2.2] 27) :: (bx b2 [vU a1.1, vU a1.2] 27) :: (bx b1 [vU a0.1, vU a0.2] 27) :: As) _ := S17
        refine wpn ?_
        refine ⟨m13, Mem.tr L29 L30, ?_, facts_step HM rfl K L30 rfl rfl ⟨fun _ => rfl, fun hx => tf hb7 hx⟩, outP⟩
        exact S17
      have d8 : L 8 = true := dep hd rfl
      have e23 := K 8 d8
      obtain ⟨u19, rfl⟩ := fr_of (N := 26) (L := [(17, vb ((!eqSum a0 a2) || (!eqSum a1 a3)))]) hO ⟨e23, trivial⟩
      replace S16 : St _ ((bx b4 [vU a3.1, vU a3.2] 27) :: (bx b3 [vU a2.1, vU a2.2] 27) :: (bx b2 [vU a1.1, vU a1.2] 27) :: (bx b1 [vU a0.1, vU a0.2] 27) :: As) _ := S16
      have L31 := Mem.rfl' m12
      refine wpl_no (d := 17) rfl rfl (congrArg Value.bool hb7) ?_
      refine wpn ?_
      refine ⟨m12, Mem.tr L29 L31, ?_, facts_step HM rfl K L31 rfl rfl ⟨fun hx => tf hx hb7, fun _ => rfl⟩, outP⟩
      exact S16
    · intro L f13 w18 hL hd hc ⟨m14, L32, S18, K, hO⟩
      rcases bool_tf ((!eqSum a0 a2) || (!eqSum a1 a3)) with hb8 | hb8
      · have d8 : L 8 = true := dep hd rfl
        have e24 := K 8 d8
        obtain ⟨u20, rfl⟩ := fr_of (N := 26) (L := [(17, vb ((!eqSum a0 a2) || (!eqSum a1 a3)))]) hO ⟨e24, trivial⟩
        replace S18 : St _ ((bx b4 [vU a3.1, vU a3.2] 27) :: (bx b3 [vU a2.1, vU a2.2] 27) :: (bx b2 [vU a1.1, vU a1.2] 27) :: (bx b1 [vU a0.1, vU a0.2] 27) :: As) _ := S18
        have L33 := Mem.rfl' m14
        refine wpl_yes (d := 17) rfl rfl (congrArg Value.bool hb8) ?_
        refine s_ld (i := 1) (cs := [vU a2.1, vU a2.2]) S18 rfl rfl Tryd.isAgg27 Tryd.sizeOf27 rfl (fun h => by cases h) ?_
        refine wpn ?_
        refine ⟨m14, Mem.tr L32 L33, ?_, facts_step HM rfl K L33 rfl rfl ⟨fun _ => rfl, fun hx => tf hb8 hx⟩, outP⟩
        exact S18
      have d8 : L 8 = true := dep hd rfl
      have e25 := K 8 d8
      obtain ⟨u21, rfl⟩ := fr_of (N := 26) (L := [(17, vb ((!eqSum a0 a2) || (!eqSum a1 a3)))]) hO ⟨e25, trivial⟩
      replace S18 : St _ ((bx b4 [vU a3.1, vU a3.2] 27) :: (bx b3 [vU a2.1, vU a2.2] 27) :: (bx b2 [vU a1.1, vU a1.2] 27) :: (bx b1 [vU a0.1, vU a0.2] 27) :: As) _ := S18
      have L34 := Mem.rfl' m14
      refine wpl_no (d := 17) rfl rfl (congrArg Value.bool hb8) ?_
      refine wpn ?_
      refine ⟨m14, Mem.tr L32 L34, ?_, facts_step HM rfl K L34 rfl rfl ⟨fun hx => tf hx hb8, fun _ => rfl⟩, outP⟩
      exact S18
    · intro L f14 w19 hL hd hc ⟨m15, L35, S19, K, hO⟩
      rcases bool_tf ((!eqSum a0 a2) || (!eqSum a1 a3)) with hb9 | hb9
      · have d8 : L 8 = true := dep hd rfl
        have e26 := K 8 d8
        obtain ⟨u22, rfl⟩ := fr_of (N := 26) (L := [(17, vb ((!eqSum a0 a2) || (!eqSum a1 a3)))]) hO ⟨e26, trivial⟩
        replace S19 : St _ ((bx b4 [vU a3.1, vU a3.2] 27) :: (bx b3 [vU a2.1, vU a2.2] 27) :: (bx b2 [vU a1.1, vU a1.2] 27) :: (bx b1 [vU a0.1, vU a0.2] 27) :: As) _ := S19
        have L36 := Mem.rfl' m15
        refine wpl_yes (d := 17) rfl rfl (congrArg Value.bool hb9) ?_
        refine s_ld (i := 0) (cs := [vU a3.1, vU a3.2]) S19 rfl rfl Tryd.isAgg27 Tryd.sizeOf27 rfl (fun h => by cases h) ?_
        refine wpn ?_
        refine ⟨m15, Mem.tr L35 L36, ?_, facts_step HM rfl K L36 rfl rfl ⟨fun _ => rfl, fun hx => tf hb9 hx⟩, outP⟩
        exact S19
      have d8 : L 8 = true := dep hd rfl
      have e27 := K 8 d8
      obtain ⟨u23, rfl⟩ := fr_of (N := 26) (L := [(17, vb ((!eqSum a0 a2) || (!eqSum a1 a3)))]) hO ⟨e27, trivial⟩
      replace S19 : St _ ((bx b4 [vU a3.1, vU a3.2] 27) :: (bx b3 [vU a2.1, vU a2.2] 27) :: (bx b2 [vU a1.1, vU a1.2] 27) :: (bx b1 [vU a0.1, vU a0.2] 27) :: As) _ := S19
      have L37 := Mem.rfl' m15
      refine wpl_no (d := 17) rfl rfl (congrArg Value.bool hb9) ?_
      refine wpn ?_
      refine ⟨m15, Mem.tr L35 L37, ?_, facts_step HM rfl K L37 rfl rfl ⟨fun hx => tf hx hb9, fun _ => rfl⟩, outP⟩
      exact S19
    · intro L f15 w20 hL hd hc ⟨m16, L38, S20, K, hO⟩
      rcases bool_tf ((!eqSum a0 a2) || (!eqSum a1 a3)) with hb10 | hb10
      · have d8 : L 8 = true := dep hd rfl
        have e28 := K 8 d8
        have d12 : L 12 = true := dep hd rfl
        have e29 := (K 12 d12).1 hb10
        have d13 : L 13 = true := dep hd rfl
        have e30 := (K 13 d13).1 hb10
        obtain ⟨u24, rfl⟩ := fr_of (N := 26) (L := [(17, vb ((!eqSum a0 a2) || (!eqSum a1 a3))), (21, .agg #[vU a2.1, vU a2.2]), (22, .agg #[vU a3.1, vU a3.2])]) hO ⟨e28, e29, e30, trivial⟩
        replace S20 : St _ ((bx b4 [vU a3.1, vU a3.2] 27) :: (bx b3 [vU a2.1, vU a2.2] 27) :: (bx b2 [vU a1.1, vU a1.2] 27) :: (bx b1 [vU a0.1, vU a0.2] 27) :: As) _ := S20
        have L39 := Mem.rfl' m16
        refine wpl_yes (d := 17) rfl rfl (congrArg Value.bool hb10) ?_
        replace q2 := gu_t hb10 q2
        refine s_call Tryd.call29 (w_hash_Pair (a0 := a2) (a1 := a3) S20  q2) rfl ?_
        rintro _ w21 ⟨m17, l2, S21, rfl⟩
        replace L39 := Mem.tr L39 l2
        clear S20
        replace S21 : St _ ((bx b4 [vU a3.1, vU a3.2] 27) :: (bx b3 [vU a2.1, vU a2.2] 27) :: (bx b2 [vU a1.1, vU a1.2] 27) :: (bx b1 [vU a0.1, vU a0.2] 27) :: As) _ := S21
        refine wpn ?_
        refine ⟨m17, Mem.tr L38 L39, ?_, facts_step HM rfl K L39 rfl rfl ⟨fun _ => rfl, fun hx => tf hb10 hx⟩, outP⟩
        exact S21
      have d8 : L 8 = true := dep hd rfl
      have e31 := K 8 d8
      obtain ⟨u25, rfl⟩ := fr_of (N := 26) (L := [(17, vb ((!eqSum a0 a2) || (!eqSum a1 a3)))]) hO ⟨e31, trivial⟩
      replace S20 : St _ ((bx b4 [vU a3.1, vU a3.2] 27) :: (bx b3 [vU a2.1, vU a2.2] 27) :: (bx b2 [vU a1.1, vU a1.2] 27) :: (bx b1 [vU a0.1, vU a0.2] 27) :: As) _ := S20
      have L40 := Mem.rfl' m16
      refine wpl_no (d := 17) rfl rfl (congrArg Value.bool hb10) ?_
      refine wpn ?_
      refine ⟨m16, Mem.tr L38 L40, ?_, facts_step HM rfl K L40 rfl rfl ⟨fun hx => tf hx hb10, fun _ => rfl⟩, outP⟩
      exact S20
    · intro L f16 w22 hL hd hc ⟨m18, L41, S22, K, hO⟩
      rcases bool_tf ((!eqSum a0 a2) || (!eqSum a1 a3)) with hb11 | hb11
      · have d8 : L 8 = true := dep hd rfl
        have e32 := K 8 d8
        have d11 : L 11 = true := dep hd rfl
        have e33 := (K 11 d11).1 hb11
        have d14 : L 14 = true := dep hd rfl
        have e34 := (K 14 d14).1 hb11
        obtain ⟨u26, rfl⟩ := fr_of (N := 26) (L := [(17, vb ((!eqSum a0 a2) || (!eqSum a1 a3))), (20, .agg #[vU x1.1, vU x1.2]), (23, .agg #[vU x2.1, vU x2.2])]) hO ⟨e32, e33, e34, trivial⟩
        replace S22 : St _ ((bx b4 [vU a3.1, vU a3.2] 27) :: (bx b3 [vU a2.1, vU a2.2] 27) :: (bx b2 [vU a1.1, vU a1.2] 27) :: (bx b1 [vU a0.1, vU a0.2] 27) :: As) _ := S22
        have L42 := Mem.rfl' m18
        refine wpl_yes (d := 17) rfl rfl (congrArg Value.bool hb11) ?_
        refine s_eqlSum (p := x1) (q := x2) rfl rfl Tryd.underlying27 Tryd.underlying25 Tryd.sizeOf25 Tryd.isAgg25 Tryd.eqGuardType27 ?_
        refine wpn ?_
        refine ⟨m18, Mem.tr L41 L42, ?_, facts_step HM rfl K L42 rfl rfl ⟨fun _ => rfl, fun hx => tf hb11 hx⟩, outP⟩
        exact S22
      have d8 : L 8 = true := dep hd rfl
      have e35 := K 8 d8
      obtain ⟨u27, rfl⟩ := fr_of (N := 26) (L := [(17, vb ((!eqSum a0 a2) || (!eqSum a1 a3)))]) hO ⟨e35, trivial⟩
      replace S22 : St _ ((bx b4 [vU a3.1, vU a3.2] 27) :: (bx b3 [vU a2.1, vU a2.2] 27) :: (bx b2 [vU a1.1, vU a1.2] 27) :: (bx b1 [vU a0.1, vU a0.2] 27) :: As) _ := S22
      have L43 := Mem.rfl' m18
      refine wpl_no (d := 17) rfl rfl (congrArg Value.bool hb11) ?_
      refine wpn ?_
      refine ⟨m18, Mem.tr L41 L43, ?_, facts_step HM rfl K L43 rfl rfl ⟨fun hx => tf hx hb11, fun _ => rfl⟩, outP⟩
      exact S22
    · intro L f17 w23 hL hd hc ⟨m19, L44, S23, K, hO⟩
      rcases bool_tf ((!eqSum a0 a2) || (!eqSum a1 a3)) with hb12 | hb12
      · have d8 : L 8 = true := dep hd rfl
        have e36 := K 8 d8
        have d15 : L 15 = true := dep hd rfl
        have e37 := (K 15 d15).1 hb12
        obtain ⟨u28, rfl⟩ := fr_of (N := 26) (L := [(17, vb ((!eqSum a0 a2) || (!eqSum a1 a3))), (24, vb (eqSum x1 x2))]) hO ⟨e36, e37, trivial⟩
        replace S23 : St _ ((bx b4 [vU a3.1, vU a3.2] 27) :: (bx b3 [vU a2.1, vU a2.2] 27) :: (bx b2 [vU a1.1, vU a1.2] 27) :: (bx b1 [vU a0.1, vU a0.2] 27) :: As) _ := S23
        have L45 := Mem.rfl' m19
        refine s_pickT (congrArg Value.bool hb12) rfl ?_
        refine wpn ?_
        refine ⟨m19, Mem.tr L44 L45, ?_, facts_step HM rfl K L45 rfl rfl (congrArg Value.bool (and_t hb12)), outP⟩
        exact S23
      · have d8 : L 8 = true := dep hd rfl
        have e38 := K 8 d8
        obtain ⟨u29, rfl⟩ := fr_of (N := 26) (L := [(17, vb ((!eqSum a0 a2) || (!eqSum a1 a3)))]) hO ⟨e38, trivial⟩
        replace S23 : St _ ((bx b4 [vU a3.1, vU a3.2] 27) :: (bx b3 [vU a2.1, vU a2.2] 27) :: (bx b2 [vU a1.1, vU a1.2] 27) :: (bx b1 [vU a0.1, vU a0.2] 27) :: As) _ := S23
        have L46 := Mem.rfl' m19
        refine s_pickF (congrArg Value.bool hb12) rfl ?_
        refine wpn ?_
        refine ⟨m19, Mem.tr L44 L46, ?_, facts_step HM rfl K L46 rfl rfl (congrArg Value.bool (and_f hb12)), outP⟩
        exact S23
  intro L f18 w24 hall ⟨m20, L47, S24, K, hO⟩
  have d16 : L 16 = true := hall 16 (by decide)
  have e39 := K 16 d16
  obtain ⟨u30, rfl⟩ := fr_of (N := 26) (L := [(25, vb (((!eqSum a0 a2) || (!eqSum a1 a3)) && (eqSum x1 x2)))]) hO ⟨e39, trivial⟩
  replace S24 : St _ ((bx b4 [vU a3.1, vU a3.2] 27) :: (bx b3 [vU a2.1, vU a2.2] 27) :: (bx b2 [vU a1.1, vU a1.2] 27) :: (bx b1 [vU a0.1, vU a0.2] 27) :: As) _ := S24
  replace L0 := Mem.tr L0 L47
  clear S4
  obtain ⟨x3, q3, hm⟩ := bnd_eq hm
  refine s_asv (v := vb x3) (congrArg (fun z => vb z) q3.symm) ?_
  refine wpl_nil ?_
  refine nrm ?_
  refine wpc_ret ?_
  refine outRw ?_
  intro we hpd
  replace S24 := St.pd S24 hpd
  obtain ⟨m21, l3, S25⟩ := St.drop S24 0
  replace L0 := Mem.tr L0 l3
  clear S24
  replace S25 : St _ ((bx b3 [vU a2.1, vU a2.2] 27) :: (bx b2 [vU a1.1, vU a1.2] 27) :: (bx b1 [vU a0.1, vU a0.2] 27) :: As) _ := S25
  obtain ⟨m22, l4, S26⟩ := St.drop S25 0
  replace L0 := Mem.tr L0 l4
  clear S25
  replace S26 : St _ ((bx b2 [vU a1.1, vU a1.2] 27) :: (bx b1 [vU a0.1, vU a0.2] 27) :: As) _ := S26
  obtain ⟨m23, l5, S27⟩ := St.drop S26 0
  replace L0 := Mem.tr L0 l5
  clear S26
  replace S27 : St _ ((bx b1 [vU a0.1, vU a0.2] 27) :: As) _ := S27
  obtain ⟨m24, l6, S28⟩ := St.drop S27 0
  replace L0 := Mem.tr L0 l6
  clear S27
  replace S28 : St _ (As) _ := S28
  have e0 := Option.some.inj hm
  subst e0
  exact outR [_] rfl ⟨rfl, trivial⟩ ⟨_, L0, S28, rfl⟩

end Go.Proofs.YtohipjalgccmnaaDoor
