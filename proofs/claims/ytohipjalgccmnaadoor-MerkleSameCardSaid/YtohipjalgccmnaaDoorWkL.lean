/- The walks of some functions, written by program. Conditions: none. -/
import Derived.Test.YtohipjalgccmnaaDoorWkM
set_option maxHeartbeats 20000000
set_option maxRecDepth 100000
set_option linter.unusedVariables false
set_option linter.unusedSimpArgs false
namespace Go.Proofs.YtohipjalgccmnaaDoor
open Go Go.Gw

def r_law08_grown : Nat → (List (UInt64 × UInt64)) → Int → Bool → (UInt64 × UInt64) → (List (UInt64 × UInt64)) → Option ((UInt64 × UInt64) × Bool)
  | 0, _, _, _, _, _ => none
  | n + 1, a0, a1, a2, a3, a4 =>
    if ((a1 == (a0.length : Int)) && a2) = true then
      some (a3, false)
    else
    obind (
      if ((a4.length : Int) == 0) = true then
        some true
      else
      if (decide ((a0.length : Int) < 2)) = true then
        some (a1 != (a0.length : Int))
      else
      some false
    ) fun x1 =>
    if x1 = true then
      some (a3, false)
    else
    bnd ((w64 ((a4.length : Int) - 1))) fun x2 =>
    if (a1 == (a0.length : Int)) = true then
      obind (idx a4 x2) fun x3 =>
      some (x3, false)
    else
    obind (m_law08_first (a0.length : Int)) fun x4 =>
    obind (cut a0 0 x4) fun x5 =>
    obind (m_merkle_Root x5) fun x6 =>
    obind (cut a0 x4 (a0.length : Int)) fun x7 =>
    obind (m_merkle_Root x7) fun x8 =>
    if (decide (a1 ≤ x4)) = true then
      obind (cut a0 0 x4) fun x9 =>
      obind (cut a4 0 x2) fun x10 =>
      obind (r_law08_grown n x9 a1 a2 a3 x10) fun x11 =>
      obind (idx a4 x2) fun x12 =>
      obind (m_hash_Pair x11.1 x12) fun x13 =>
      obind (gu (!x11.2) (idx a4 x2)) fun x14 =>
      obind (gu (!x11.2) (m_law08_unlike x11.1 x14 x6 x8)) fun x15 =>
      some (x13, (x11.2 || x15))
    else
    obind (cut a0 x4 (a0.length : Int)) fun x16 =>
    obind (cut a4 0 x2) fun x17 =>
    obind (r_law08_grown n x16 (w64 (a1 - x4)) false a3 x17) fun x18 =>
    obind (idx a4 x2) fun x19 =>
    obind (m_hash_Pair x19 x18.1) fun x20 =>
    obind (gu (!x18.2) (idx a4 x2)) fun x21 =>
    obind (gu (!x18.2) (m_law08_unlike x21 x18.1 x6 x8)) fun x22 =>
    some (x20, (x18.2 || x22))

def m_law08_grown (a0 : List (UInt64 × UInt64)) (a1 : Int) (a2 : Bool) (a3 : UInt64 × UInt64) (a4 : List (UInt64 × UInt64)) : Option ((UInt64 × UInt64) × Bool) := r_law08_grown FUEL a0 a1 a2 a3 a4

theorem wr_law08_grown (n : Nat) : ∀ {m : Mem} {As : List Ow} {w : World} {a0 : List (UInt64 × UInt64)} {a0v0 : Value} {a1 : Int} {a2 : Bool} {a3 : UInt64 × UInt64} {a4 : List (UInt64 × UInt64)} {a4v0 : Value} {r : (UInt64 × UInt64) × Bool} (S : St m (As) w) (a0h0 : SlR m a0v0 a0) (a4h0 : SlR m a4v0 a4) (hm : r_law08_grown n a0 a1 a2 a3 a4 = some r),
    CallsR Tryd.prog 28 #[a0v0, vI a1, vb a2, .agg #[vU a3.1, vU a3.2], a4v0] w fun v w' => ∃ (M : Mem), m ≤ M ∧ St M (As) w' ∧ v = .tuple #[.agg #[vU r.1.1, vU r.1.2], vb r.2] := by
  induction n with
  | zero => intro m As w a0 a0v0 a1 a2 a3 a4 a4v0 r S a0h0 a4h0 hm; cases hm
  | succ n ih =>
    intro m As w a0 a0v0 a1 a2 a3 a4 a4v0 r S a0h0 a4h0 hm
    unfold r_law08_grown at hm
    have L0 := Mem.rfl' m
    refine callsR (args := [a0v0, vI a1, vb a2, .agg #[vU a3.1, vU a3.2], a4v0]) Tryd.func28 rfl Tryd.ntmps28 (Nat.le_of_ble_eq_true rfl) ?_
    refine wpc_seq ?_
    refine wpc_region ?_
    refine s_box S rfl ?_
    intro b1 w1 S1
    replace S1 : St _ ((bx b1 [vU a3.1, vU a3.2] 27) :: As) _ := S1
    clear S
    refine s_alloc S1 Tryd.zeroValue27 ?_
    intro b2 w2 S2
    replace S2 : St _ ((bx b2 [vU 0, vU 0] 27) :: (bx b1 [vU a3.1, vU a3.2] 27) :: As) _ := S2
    clear S1
    refine s_asv (v := vb false) rfl ?_
    refine wpl_nil ?_
    refine nrm ?_
    refine wpc_seq ?_
    refine wpc_seq ?_
    refine wpc_region ?_
    refine s_mvv (v := vI a1) rfl ?_
    refine s_mvv (v := a0v0) rfl ?_
    refine s_lenR (xs := a0) rfl a0h0 Tryd.underlying22 ?_
    refine s_eql (m := a1) (n := (a0.length : Int)) rfl rfl ?_
    refine s_mvv (v := vb (a1 == (a0.length : Int))) rfl ?_
    refine wpl_cut 2 [25, 26] (fun f' w' => w' = w2 ∧ AllAt f' [(26, vb ((a1 == (a0.length : Int)) && a2))]) ?_ ?_
    · rcases bool_tf (a1 == (a0.length : Int)) with hb1 | hb1
      · refine wpl_yes (d := 24) rfl rfl (congrArg Value.bool hb1) ?_
        refine s_mvv (v := vb a2) rfl ?_
        refine s_pickT (congrArg Value.bool hb1) rfl ?_
        exact wpl_nil (nrm ⟨outP, rfl, congrArg Value.bool (and_t hb1), trivial⟩)
      · refine wpl_no (d := 24) rfl rfl (congrArg Value.bool hb1) ?_
        refine s_pickF (congrArg Value.bool hb1) rfl ?_
        exact wpl_nil (nrm ⟨outP, rfl, congrArg Value.bool (and_f hb1), trivial⟩)
    rintro f1 w3 ho ⟨h1, ha⟩
    subst h1
    obtain ⟨u1, rfl⟩ := fr_of (N := 129) ho ha
    refine wpl_nil ?_
    refine nrm ?_
    refine wpc_if (t := ((a1 == (a0.length : Int)) && a2)) rfl (fun hc1 => ?_) (fun hc1 => ?_)
    · replace hm := ifT hc1 hm
      refine wpc_seq ?_
      refine wpc_region ?_
      refine s_ld (i := 1) (cs := [vU a3.1, vU a3.2]) S2 rfl rfl Tryd.isAgg27 Tryd.sizeOf27 rfl (fun h => by cases h) ?_
      refine s_stL (i := 0) S2 rfl rfl rfl Tryd.sizeOf27 (oneC rfl (oneC rfl oneN)) rfl ?_
      intro w4 S3
      replace S3 : St _ ((bx b2 [vU a3.1, vU a3.2] 27) :: (bx b1 [vU a3.1, vU a3.2] 27) :: As) _ := S3
      clear S2
      refine s_asv (v := vb false) rfl ?_
      refine wpl_nil ?_
      refine nrm ?_
      refine wpc_ret ?_
      refine thR ?_
      refine outRw ?_
      intro we hpd
      replace S3 := St.pd S3 hpd
      have SR := S3
      obtain ⟨m1, l1, S4⟩ := St.drop S3 0
      replace L0 := Mem.tr L0 l1
      replace S4 : St _ ((bx b1 [vU a3.1, vU a3.2] 27) :: As) _ := S4
      obtain ⟨m2, l2, S5⟩ := St.drop S4 0
      replace L0 := Mem.tr L0 l2
      clear S4
      replace S5 : St _ (As) _ := S5
      have e0 := Option.some.inj hm
      subst e0
      exact outR [_, _] rfl ⟨res_box (i := 0) (off := 0) (cs := [vU a3.1, vU a3.2]) SR rfl rfl Tryd.isAgg27 Tryd.sizeOf27 rfl (fun h => by cases h), rfl, trivial⟩ ⟨_, L0, S5, rfl⟩
    replace hm := ifF hc1 hm
    refine wpc_skip ?_
    refine nrm ?_
    refine wpc_seq ?_
    refine wpc_seq ?_
    refine wpc_region ?_
    refine s_mvv (v := a4v0) rfl ?_
    refine s_lenR (xs := a4) rfl a4h0 Tryd.underlying22 ?_
    refine s_eql (m := (a4.length : Int)) (n := 0) rfl rfl ?_
    refine s_mvv (v := vb ((a4.length : Int) == 0)) rfl ?_
    obtain ⟨x1, q1, hm⟩ := obind_some hm
    have L1 := Mem.rfl' m
    refine wpl_cut 10 [32, 33, 34, 35, 36, 37, 38, 39, 40, 41] (fun f' w' => ∃ (M1 : Mem), m ≤ M1 ∧ St M1 ((bx b2 [vU 0, vU 0] 27) :: (bx b1 [vU a3.1, vU a3.2] 27) :: As) w' ∧ AllAt f' [(41, vb x1)]) ?_ ?_
    · rcases bool_tf ((a4.length : Int) == 0) with hb2 | hb2
      · replace q1 := ifT hb2 q1
        refine wpl_no (d := 31) rfl rfl (congrArg Value.bool hb2) ?_
        refine wpl_no (d := 31) rfl rfl (congrArg Value.bool hb2) ?_
        refine wpl_no (d := 31) rfl rfl (congrArg Value.bool hb2) ?_
        refine wpl_no (d := 31) rfl rfl (congrArg Value.bool hb2) ?_
        refine wpl_no' (d := 35) rfl rfl rfl ?_
        refine wpl_no' (d := 35) rfl rfl rfl ?_
        refine wpl_no' (d := 35) rfl rfl rfl ?_
        refine wpl_no' (d := 35) rfl rfl rfl ?_
        refine wpl_no (d := 31) rfl rfl (congrArg Value.bool hb2) ?_
        refine s_pickT (congrArg Value.bool hb2) rfl ?_
        refine wpl_nil (nrm ?_)
        have e0 := Option.some.inj q1
        subst e0
        exact ⟨outP, m, L1, S2, ⟨rfl, trivial⟩⟩
      replace q1 := ifF hb2 q1
      refine wpl_yes (d := 31) rfl rfl (congrArg Value.bool hb2) ?_
      refine s_mvv (v := a0v0) rfl ?_
      refine wpl_yes (d := 31) rfl rfl (congrArg Value.bool hb2) ?_
      refine s_lenR (xs := a0) rfl a0h0 Tryd.underlying22 ?_
      refine wpl_yes (d := 31) rfl rfl (congrArg Value.bool hb2) ?_
      refine s_lss (m := (a0.length : Int)) (n := 2) rfl rfl ?_
      refine wpl_yes (d := 31) rfl rfl (congrArg Value.bool hb2) ?_
      refine s_mvv (v := vb (decide ((a0.length : Int) < 2))) rfl ?_
      rcases bool_tf (decide ((a0.length : Int) < 2)) with hb3 | hb3
      · replace q1 := ifT hb3 q1
        refine wpl_yes (d := 35) rfl rfl (congrArg Value.bool hb3) ?_
        refine s_mvv (v := vI a1) rfl ?_
        refine wpl_yes (d := 35) rfl rfl (congrArg Value.bool hb3) ?_
        refine s_mvv (v := a0v0) rfl ?_
        refine wpl_yes (d := 35) rfl rfl (congrArg Value.bool hb3) ?_
        refine s_lenR (xs := a0) rfl a0h0 Tryd.underlying22 ?_
        refine wpl_yes (d := 35) rfl rfl (congrArg Value.bool hb3) ?_
        refine s_neq (m := a1) (n := (a0.length : Int)) rfl rfl ?_
        refine wpl_yes (d := 31) rfl rfl (congrArg Value.bool hb2) ?_
        refine s_pickT (congrArg Value.bool hb3) rfl ?_
        refine s_pickF (congrArg Value.bool hb2) rfl ?_
        refine wpl_nil (nrm ?_)
        have e0 := Option.some.inj q1
        subst e0
        exact ⟨outP, m, L1, S2, ⟨rfl, trivial⟩⟩
      replace q1 := ifF hb3 q1
      refine wpl_no (d := 35) rfl rfl (congrArg Value.bool hb3) ?_
      refine wpl_no (d := 35) rfl rfl (congrArg Value.bool hb3) ?_
      refine wpl_no (d := 35) rfl rfl (congrArg Value.bool hb3) ?_
      refine wpl_no (d := 35) rfl rfl (congrArg Value.bool hb3) ?_
      refine wpl_yes (d := 31) rfl rfl (congrArg Value.bool hb2) ?_
      refine s_pickF (congrArg Value.bool hb3) rfl ?_
      refine s_pickF (congrArg Value.bool hb2) rfl ?_
      refine wpl_nil (nrm ?_)
      have e0 := Option.some.inj q1
      subst e0
      exact ⟨outP, m, L1, S2, ⟨rfl, trivial⟩⟩
    rintro f2 w5 ho ⟨m3, l3, S6, ha⟩
    obtain ⟨u2, rfl⟩ := fr_of (N := 129) ho ha
    replace a0h0 := a0h0.up l3
    replace a4h0 := a4h0.up l3
    replace L0 := Mem.tr L0 l3
    clear S2
    refine wpl_nil ?_
    refine nrm ?_
    refine wpc_if (t := x1) rfl (fun hc2 => ?_) (fun hc2 => ?_)
    · replace hm := ifT hc2 hm
      refine wpc_seq ?_
      refine wpc_region ?_
      refine s_ld (i := 1) (cs := [vU a3.1, vU a3.2]) S6 rfl rfl Tryd.isAgg27 Tryd.sizeOf27 rfl (fun h => by cases h) ?_
      refine s_stL (i := 0) S6 rfl rfl rfl Tryd.sizeOf27 (oneC rfl (oneC rfl oneN)) rfl ?_
      intro w6 S7
      replace S7 : St _ ((bx b2 [vU a3.1, vU a3.2] 27) :: (bx b1 [vU a3.1, vU a3.2] 27) :: As) _ := S7
      clear S6
      refine s_asv (v := vb false) rfl ?_
      refine wpl_nil ?_
      refine nrm ?_
      refine wpc_ret ?_
      refine thR ?_
      refine outRw ?_
      intro we hpd
      replace S7 := St.pd S7 hpd
      have SR := S7
      obtain ⟨m4, l4, S8⟩ := St.drop S7 0
      replace L0 := Mem.tr L0 l4
      replace S8 : St _ ((bx b1 [vU a3.1, vU a3.2] 27) :: As) _ := S8
      obtain ⟨m5, l5, S9⟩ := St.drop S8 0
      replace L0 := Mem.tr L0 l5
      clear S8
      replace S9 : St _ (As) _ := S9
      have e0 := Option.some.inj hm
      subst e0
      exact outR [_, _] rfl ⟨res_box (i := 0) (off := 0) (cs := [vU a3.1, vU a3.2]) SR rfl rfl Tryd.isAgg27 Tryd.sizeOf27 rfl (fun h => by cases h), rfl, trivial⟩ ⟨_, L0, S9, rfl⟩
    replace hm := ifF hc2 hm
    refine wpc_skip ?_
    refine nrm ?_
    refine wpc_seq ?_
    refine wpc_region ?_
    refine s_mvv (v := a4v0) rfl ?_
    refine s_lenR (xs := a4) rfl a4h0 Tryd.underlying22 ?_
    refine s_subI (m := (a4.length : Int)) (n := 1) rfl rfl ?_
    obtain ⟨x2, q2, hm⟩ := bnd_eq hm
    refine s_asv (v := vI x2) (congrArg (fun z => vI z) q2.symm) ?_
    refine wpl_nil ?_
    refine nrm ?_
    refine wpc_seq ?_
    refine wpc_seq ?_
    refine wpc_region ?_
    refine s_mvv (v := vI a1) rfl ?_
    refine s_mvv (v := a0v0) rfl ?_
    refine s_lenR (xs := a0) rfl a0h0 Tryd.underlying22 ?_
    refine s_eql (m := a1) (n := (a0.length : Int)) rfl rfl ?_
    refine wpl_nil ?_
    refine nrm ?_
    refine wpc_if (t := (a1 == (a0.length : Int))) rfl (fun hc3 => ?_) (fun hc3 => ?_)
    · replace hm := ifT hc3 hm
      refine wpc_seq ?_
      refine wpc_region ?_
      refine s_mvv (v := a4v0) rfl ?_
      refine s_mvv (v := vI x2) rfl ?_
      obtain ⟨x3, q3, hm⟩ := obind_some hm
      refine s_idx (q := x3) rfl rfl a4h0 q3 Tryd.underlying22 Tryd.sizeOf27 ?_
      intro p1 c1 h2 r1
      obtain rfl := rep_arr2_UInt64 r1
      refine s_ldM (cs := [vU x3.1, vU x3.2]) S6 rfl h2 rfl Tryd.isAgg27 Tryd.sizeOf27 (fun h => by cases h) ?_
      refine s_stL (i := 0) S6 rfl rfl rfl Tryd.sizeOf27 (oneC rfl (oneC rfl oneN)) rfl ?_
      intro w7 S10
      replace S10 : St _ ((bx b2 [vU x3.1, vU x3.2] 27) :: (bx b1 [vU a3.1, vU a3.2] 27) :: As) _ := S10
      clear S6
      refine s_asv (v := vb false) rfl ?_
      refine wpl_nil ?_
      refine nrm ?_
      refine wpc_ret ?_
      refine thR ?_
      refine outRw ?_
      intro we hpd
      replace S10 := St.pd S10 hpd
      have SR := S10
      obtain ⟨m6, l6, S11⟩ := St.drop S10 0
      replace L0 := Mem.tr L0 l6
      replace S11 : St _ ((bx b1 [vU a3.1, vU a3.2] 27) :: As) _ := S11
      obtain ⟨m7, l7, S12⟩ := St.drop S11 0
      replace L0 := Mem.tr L0 l7
      clear S11
      replace S12 : St _ (As) _ := S12
      have e0 := Option.some.inj hm
      subst e0
      exact outR [_, _] rfl ⟨res_box (i := 0) (off := 0) (cs := [vU x3.1, vU x3.2]) SR rfl rfl Tryd.isAgg27 Tryd.sizeOf27 rfl (fun h => by cases h), rfl, trivial⟩ ⟨_, L0, S12, rfl⟩
    replace hm := ifF hc3 hm
    refine wpc_skip ?_
    refine nrm ?_
    refine wpc_seq ?_
    refine wpc_region ?_
    refine s_mvv (v := a0v0) rfl ?_
    refine s_lenR (xs := a0) rfl a0h0 Tryd.underlying22 ?_
    obtain ⟨x4, q4, hm⟩ := obind_some hm
    refine s_call Tryd.call53 (w_law08_first (a0 := (a0.length : Int)) S6  q4) rfl ?_
    rintro _ w8 ⟨m8, l8, S13, rfl⟩
    replace a0h0 := a0h0.up l8
    replace a4h0 := a4h0.up l8
    replace L0 := Mem.tr L0 l8
    clear S6
    replace S13 : St _ ((bx b2 [vU 0, vU 0] 27) :: (bx b1 [vU a3.1, vU a3.2] 27) :: As) _ := S13
    refine s_asv (v := vI x4) rfl ?_
    refine wpl_nil ?_
    refine nrm ?_
    refine wpc_seq ?_
    obtain ⟨x5, q5, hm⟩ := obind_some hm
    obtain ⟨x6, q6, hm⟩ := obind_some hm
    obtain ⟨x7, q7, hm⟩ := obind_some hm
    obtain ⟨x8, q8, hm⟩ := obind_some hm
    have HM : MonoAll [(57, fun (M : Mem) (v : Value) => v = a0v0), (58, fun (M : Mem) (v : Value) => v = vI x4), (59, fun (M : Mem) (v : Value) => ∃ (v1 : Value), v = v1 ∧ SlR M v1 x5), (60, fun (M : Mem) (v : Value) => v = .agg #[vU x6.1, vU x6.2]), (61, fun (M : Mem) (v : Value) => v = a0v0), (62, fun (M : Mem) (v : Value) => v = vI x4), (63, fun (M : Mem) (v : Value) => ∃ (v3 : Value), v = v3 ∧ SlR M v3 x7), (64, fun (M : Mem) (v : Value) => v = .agg #[vU x8.1, vU x8.2]), (14, fun (M : Mem) (v : Value) => ∃ (b3 : Nat), v = pt b3 0), (15, fun (M : Mem) (v : Value) => ∃ (b4 : Nat), v = pt b4 0)] := ⟨(fun _ _ _ _ h => h), (fun _ _ _ _ h => h), (fun _ _ _ l ⟨v1, e, h3⟩ => ⟨v1, e, h3.up l⟩), (fun _ _ _ _ h => h), (fun _ _ _ _ h => h), (fun _ _ _ _ h => h), (fun _ _ _ l ⟨v3, e, h5⟩ => ⟨v3, e, h5.up l⟩), (fun _ _ _ _ h => h), (fun _ _ _ _ h => h), (fun _ _ _ _ h => h), trivial⟩
    refine wpc_flowG HM 10 mixed rfl rfl rfl [14, 15, 57, 58, 59, 60, 61, 62, 63, 64] (fun L f M w => St M ((bx b2 [vU 0, vU 0] 27) :: (bx b1 [vU a3.1, vU a3.2] 27) :: ((bif L 8 then [bxv (f 14) [vU 0, vU 0] 27] else []) ++ ((bif L 9 then [bxv (f 15) [vU 0, vU 0] 27] else []) ++ As))) w) (St.drew S13 _) ?_ ?_
    · refine ⟨?_, ?_, ?_, ?_, ?_, ?_, ?_, ?_, ?_, ?_, trivial⟩
      · intro L f3 w9 hL hd hc ⟨m9, L2, S14, K, hO⟩
        obtain ⟨u3, rfl⟩ := fr_of (N := 129) (L := []) hO trivial
        replace S14 : St _ ((bx b2 [vU 0, vU 0] 27) :: (bx b1 [vU a3.1, vU a3.2] 27) :: ((bif L 8 then [bxv _ [vU 0, vU 0] 27] else []) ++ ((bif L 9 then [bxv _ [vU 0, vU 0] 27] else []) ++ As))) _ := S14
        have L3 := Mem.rfl' m9
        refine s_mvv (v := a0v0) rfl ?_
        refine wpn ?_
        refine ⟨m9, Mem.tr L2 L3, ?_, facts_step HM rfl K L3 rfl rfl rfl, outP⟩
        exact S14
      · intro L f4 w10 hL hd hc ⟨m10, L4, S15, K, hO⟩
        obtain ⟨u4, rfl⟩ := fr_of (N := 129) (L := []) hO trivial
        replace S15 : St _ ((bx b2 [vU 0, vU 0] 27) :: (bx b1 [vU a3.1, vU a3.2] 27) :: ((bif L 8 then [bxv _ [vU 0, vU 0] 27] else []) ++ ((bif L 9 then [bxv _ [vU 0, vU 0] 27] else []) ++ As))) _ := S15
        have L5 := Mem.rfl' m10
        refine s_mvv (v := vI x4) rfl ?_
        refine wpn ?_
        refine ⟨m10, Mem.tr L4 L5, ?_, facts_step HM rfl K L5 rfl rfl rfl, outP⟩
        exact S15
      · intro L f5 w11 hL hd hc ⟨m11, L6, S16, K, hO⟩
        have d0 : L 0 = true := dep hd rfl
        have e1 := K 0 d0
        have d1 : L 1 = true := dep hd rfl
        have e2 := K 1 d1
        obtain ⟨u5, rfl⟩ := fr_of (N := 129) (L := [(57, a0v0), (58, vI x4)]) hO ⟨e1, e2, trivial⟩
        replace S16 : St _ ((bx b2 [vU 0, vU 0] 27) :: (bx b1 [vU a3.1, vU a3.2] 27) :: ((bif L 8 then [bxv _ [vU 0, vU 0] 27] else []) ++ ((bif L 9 then [bxv _ [vU 0, vU 0] 27] else []) ++ As))) _ := S16
        replace a0h0 := a0h0.up L6
        replace a4h0 := a4h0.up L6
        have L7 := Mem.rfl' m11
        refine s_cut (ys := x5) (l := 0) (h := x4) rfl a0h0 Tryd.underlying22 Tryd.sizeOf27 (.inl ⟨rfl, rfl⟩) (.inr ⟨_, rfl⟩) (.inl rfl) q5 ?_
        intro v1 h3
        refine wpn ?_
        refine ⟨m11, Mem.tr L6 L7, ?_, facts_step HM rfl K L7 rfl rfl ⟨v1, rfl, h3⟩, outP⟩
        exact S16
      · intro L f6 w12 hL hd hc ⟨m12, L8, S17, K, hO⟩
        have d2 : L 2 = true := dep hd rfl
        obtain ⟨v2, e3, h4⟩ := K 2 d2
        obtain ⟨u6, rfl⟩ := fr_of (N := 129) (L := [(59, v2)]) hO ⟨e3, trivial⟩
        replace S17 : St _ ((bx b2 [vU 0, vU 0] 27) :: (bx b1 [vU a3.1, vU a3.2] 27) :: ((bif L 8 then [bxv _ [vU 0, vU 0] 27] else []) ++ ((bif L 9 then [bxv _ [vU 0, vU 0] 27] else []) ++ As))) _ := S17
        replace a0h0 := a0h0.up L8
        replace a4h0 := a4h0.up L8
        have L9 := Mem.rfl' m12
        refine s_call Tryd.call13 (w_merkle_Root (a0 := x5) S17 h4 q6) rfl ?_
        rintro _ w13 ⟨m13, l9, S18, rfl⟩
        replace a0h0 := a0h0.up l9
        replace a4h0 := a4h0.up l9
        replace h4 := h4.up l9
        replace L9 := Mem.tr L9 l9
        clear S17
        replace S18 : St _ ((bx b2 [vU 0, vU 0] 27) :: (bx b1 [vU a3.1, vU a3.2] 27) :: ((bif L 8 then [bxv _ [vU 0, vU 0] 27] else []) ++ ((bif L 9 then [bxv _ [vU 0, vU 0] 27] else []) ++ As))) _ := S18
        refine wpn ?_
        refine ⟨m13, Mem.tr L8 L9, ?_, facts_step HM rfl K L9 rfl rfl rfl, outP⟩
        exact S18
      · intro L f7 w14 hL hd hc ⟨m14, L10, S19, K, hO⟩
        obtain ⟨u7, rfl⟩ := fr_of (N := 129) (L := []) hO trivial
        replace S19 : St _ ((bx b2 [vU 0, vU 0] 27) :: (bx b1 [vU a3.1, vU a3.2] 27) :: ((bif L 8 then [bxv _ [vU 0, vU 0] 27] else []) ++ ((bif L 9 then [bxv _ [vU 0, vU 0] 27] else []) ++ As))) _ := S19
        have L11 := Mem.rfl' m14
        refine s_mvv (v := a0v0) rfl ?_
        refine wpn ?_
        refine ⟨m14, Mem.tr L10 L11, ?_, facts_step HM rfl K L11 rfl rfl rfl, outP⟩
        exact S19
      · intro L f8 w15 hL hd hc ⟨m15, L12, S20, K, hO⟩
        obtain ⟨u8, rfl⟩ := fr_of (N := 129) (L := []) hO trivial
        replace S20 : St _ ((bx b2 [vU 0, vU 0] 27) :: (bx b1 [vU a3.1, vU a3.2] 27) :: ((bif L 8 then [bxv _ [vU 0, vU 0] 27] else []) ++ ((bif L 9 then [bxv _ [vU 0, vU 0] 27] else []) ++ As))) _ := S20
        have L13 := Mem.rfl' m15
        refine s_mvv (v := vI x4) rfl ?_
        refine wpn ?_
        refine ⟨m15, Mem.tr L12 L13, ?_, facts_step HM rfl K L13 rfl rfl rfl, outP⟩
        exact S20
      · intro L f9 w16 hL hd hc ⟨m16, L14, S21, K, hO⟩
        have d4 : L 4 = true := dep hd rfl
        have e4 := K 4 d4
        have d5 : L 5 = true := dep hd rfl
        have e5 := K 5 d5
        obtain ⟨u9, rfl⟩ := fr_of (N := 129) (L := [(61, a0v0), (62, vI x4)]) hO ⟨e4, e5, trivial⟩
        replace S21 : St _ ((bx b2 [vU 0, vU 0] 27) :: (bx b1 [vU a3.1, vU a3.2] 27) :: ((bif L 8 then [bxv _ [vU 0, vU 0] 27] else []) ++ ((bif L 9 then [bxv _ [vU 0, vU 0] 27] else []) ++ As))) _ := S21
        replace a0h0 := a0h0.up L14
        replace a4h0 := a4h0.up L14
        have L15 := Mem.rfl' m16
        refine s_cut (ys := x7) (l := x4) (h := (a0.length : Int)) rfl a0h0 Tryd.underlying22 Tryd.sizeOf27 (.inr ⟨_, rfl⟩) (.inl ⟨rfl, rfl⟩) (.inl rfl) q7 ?_
        intro v3 h5
        refine wpn ?_
        refine ⟨m16, Mem.tr L14 L15, ?_, facts_step HM rfl K L15 rfl rfl ⟨v3, rfl, h5⟩, outP⟩
        exact S21
      · intro L f10 w17 hL hd hc ⟨m17, L16, S22, K, hO⟩
        have d6 : L 6 = true := dep hd rfl
        obtain ⟨v4, e6, h6⟩ := K 6 d6
        obtain ⟨u10, rfl⟩ := fr_of (N := 129) (L := [(63, v4)]) hO ⟨e6, trivial⟩
        replace S22 : St _ ((bx b2 [vU 0, vU 0] 27) :: (bx b1 [vU a3.1, vU a3.2] 27) :: ((bif L 8 then [bxv _ [vU 0, vU 0] 27] else []) ++ ((bif L 9 then [bxv _ [vU 0, vU 0] 27] else []) ++ As))) _ := S22
        replace a0h0 := a0h0.up L16
        replace a4h0 := a4h0.up L16
        have L17 := Mem.rfl' m17
        refine s_call Tryd.call13 (w_merkle_Root (a0 := x7) S22 h6 q8) rfl ?_
        rintro _ w18 ⟨m18, l10, S23, rfl⟩
        replace a0h0 := a0h0.up l10
        replace a4h0 := a4h0.up l10
        replace h6 := h6.up l10
        replace L17 := Mem.tr L17 l10
        clear S22
        replace S23 : St _ ((bx b2 [vU 0, vU 0] 27) :: (bx b1 [vU a3.1, vU a3.2] 27) :: ((bif L 8 then [bxv _ [vU 0, vU 0] 27] else []) ++ ((bif L 9 then [bxv _ [vU 0, vU 0] 27] else []) ++ As))) _ := S23
        refine wpn ?_
        refine ⟨m18, Mem.tr L16 L17, ?_, facts_step HM rfl K L17 rfl rfl rfl, outP⟩
        exact S23
      · intro L f11 w19 hL hd hc ⟨m19, L18, S24, K, hO⟩
        have d8 : L 8 = false := hL
        replace S24 : St _ ((bx b2 [vU 0, vU 0] 27) :: (bx b1 [vU a3.1, vU a3.2] 27) :: ((bif L 8 then [bxv (f11 14) [vU 0, vU 0] 27] else []) ++ ((bif L 9 then [bxv (f11 15) [vU 0, vU 0] 27] else []) ++ As))) _ := S24
        rw [d8] at S24
        obtain ⟨u11, rfl⟩ := fr_of (N := 129) (L := []) hO trivial
        replace S24 : St _ ((bx b2 [vU 0, vU 0] 27) :: (bx b1 [vU a3.1, vU a3.2] 27) :: ((bif L 9 then [bxv _ [vU 0, vU 0] 27] else []) ++ As)) _ := S24
        replace a0h0 := a0h0.up L18
        replace a4h0 := a4h0.up L18
        have L19 := Mem.rfl' m19
        refine s_alloc S24 Tryd.zeroValue27 ?_
        intro b3 w20 S25
        replace S25 : St _ ((bx b3 [vU 0, vU 0] 27) :: (bx b2 [vU 0, vU 0] 27) :: (bx b1 [vU a3.1, vU a3.2] 27) :: ((bif L 9 then [bxv _ [vU 0, vU 0] 27] else []) ++ As)) _ := S25
        clear S24
        refine wpn ?_
        refine ⟨m19, Mem.tr L18 L19, ?_, facts_step HM rfl K L19 rfl rfl ⟨b3, rfl⟩, outP⟩
        have S126 : St _ ((bx b2 [vU 0, vU 0] 27) :: (bx b1 [vU a3.1, vU a3.2] 27) :: (bx b3 [vU 0, vU 0] 27) :: ((bif L 9 then [bxv _ [vU 0, vU 0] 27] else []) ++ As)) _ := St.perm S25 (List.Perm.trans (List.Perm.swap _ _ _) (List.Perm.cons _ (List.Perm.swap _ _ _)))
        exact S126
      · intro L f12 w21 hL hd hc ⟨m20, L20, S26, K, hO⟩
        have d9 : L 9 = false := hL
        replace S26 : St _ ((bx b2 [vU 0, vU 0] 27) :: (bx b1 [vU a3.1, vU a3.2] 27) :: ((bif L 8 then [bxv (f12 14) [vU 0, vU 0] 27] else []) ++ ((bif L 9 then [bxv (f12 15) [vU 0, vU 0] 27] else []) ++ As))) _ := S26
        rw [d9] at S26
        obtain ⟨u12, rfl⟩ := fr_of (N := 129) (L := []) hO trivial
        replace S26 : St _ ((bx b2 [vU 0, vU 0] 27) :: (bx b1 [vU a3.1, vU a3.2] 27) :: ((bif L 8 then [bxv _ [vU 0, vU 0] 27] else []) ++ As)) _ := S26
        replace a0h0 := a0h0.up L20
        replace a4h0 := a4h0.up L20
        have L21 := Mem.rfl' m20
        refine s_alloc S26 Tryd.zeroValue27 ?_
        intro b4 w22 S27
        replace S27 : St _ ((bx b4 [vU 0, vU 0] 27) :: (bx b2 [vU 0, vU 0] 27) :: (bx b1 [vU a3.1, vU a3.2] 27) :: ((bif L 8 then [bxv _ [vU 0, vU 0] 27] else []) ++ As)) _ := S27
        clear S26
        refine wpn ?_
        refine ⟨m20, Mem.tr L20 L21, ?_, facts_step HM rfl K L21 rfl rfl ⟨b4, rfl⟩, outP⟩
        have S127 : St _ ((bx b2 [vU 0, vU 0] 27) :: (bx b1 [vU a3.1, vU a3.2] 27) :: (bx b4 [vU 0, vU 0] 27) :: ((bif L 8 then [bxv _ [vU 0, vU 0] 27] else []) ++ As)) _ := St.perm S27 (List.Perm.trans (List.Perm.swap _ _ _) (List.Perm.cons _ (List.Perm.swap _ _ _)))
        have S127s := St.sw (L := [bx b2 [vU 0, vU 0] 27, bx b1 [vU a3.1, vU a3.2] 27]) (X := [bx b4 [vU 0, vU 0] 27]) (Y := (bif L 8 then [bxv _ [vU 0, vU 0] 27] else [])) (As := As) S127
        exact S127s
    intro L f13 w23 hall ⟨m21, L22, S28, K, hO⟩
    have d8 : L 8 = true := hall 8 (by decide)
    have d9 : L 9 = true := hall 9 (by decide)
    obtain ⟨b5, e7⟩ := K 8 d8
    obtain ⟨b6, e8⟩ := K 9 d9
    have d3 : L 3 = true := hall 3 (by decide)
    have e9 := K 3 d3
    have d7 : L 7 = true := hall 7 (by decide)
    have e10 := K 7 d7
    replace S28 : St _ ((bx b2 [vU 0, vU 0] 27) :: (bx b1 [vU a3.1, vU a3.2] 27) :: ((bif L 8 then [bxv (f13 14) [vU 0, vU 0] 27] else []) ++ ((bif L 9 then [bxv (f13 15) [vU 0, vU 0] 27] else []) ++ As))) _ := S28
    rw [d8, d9] at S28
    obtain ⟨u13, rfl⟩ := fr_of (N := 129) (L := [(14, pt b5 0), (15, pt b6 0), (60, .agg #[vU x6.1, vU x6.2]), (64, .agg #[vU x8.1, vU x8.2])]) hO ⟨e7, e8, e9, e10, trivial⟩
    replace S28 : St _ ((bx b2 [vU 0, vU 0] 27) :: (bx b1 [vU a3.1, vU a3.2] 27) :: (bx b5 [vU 0, vU 0] 27) :: (bx b6 [vU 0, vU 0] 27) :: As) _ := S28
    replace a0h0 := a0h0.up L22
    replace a4h0 := a4h0.up L22
    replace L0 := Mem.tr L0 L22
    clear S13
    refine s_stL (i := 2) S28 rfl rfl rfl Tryd.sizeOf27 (oneC rfl (oneC rfl oneN)) rfl ?_
    intro w24 S29
    replace S29 : St _ ((bx b2 [vU 0, vU 0] 27) :: (bx b1 [vU a3.1, vU a3.2] 27) :: (bx b5 [vU x6.1, vU x6.2] 27) :: (bx b6 [vU 0, vU 0] 27) :: As) _ := S29
    clear S28
    refine s_stL (i := 3) S29 rfl rfl rfl Tryd.sizeOf27 (oneC rfl (oneC rfl oneN)) rfl ?_
    intro w25 S30
    replace S30 : St _ ((bx b2 [vU 0, vU 0] 27) :: (bx b1 [vU a3.1, vU a3.2] 27) :: (bx b5 [vU x6.1, vU x6.2] 27) :: (bx b6 [vU x8.1, vU x8.2] 27) :: As) _ := S30
    clear S29
    refine wpl_nil ?_
    refine nrm ?_
    refine wpc_seq ?_
    refine wpc_seq ?_
    refine wpc_region ?_
    refine s_mvv (v := vI a1) rfl ?_
    refine s_mvv (v := vI x4) rfl ?_
    refine s_leq (m := a1) (n := x4) rfl rfl ?_
    refine wpl_nil ?_
    refine nrm ?_
    refine wpc_if (t := (decide (a1 ≤ x4))) rfl (fun hc4 => ?_) (fun hc4 => ?_)
    · replace hm := ifT hc4 hm
      refine wpc_seq ?_
      obtain ⟨x9, q9, hm⟩ := obind_some hm
      obtain ⟨x10, q10, hm⟩ := obind_some hm
      obtain ⟨x11, q11, hm⟩ := obind_some hm
      have HM : MonoAll [(69, fun (M : Mem) (v : Value) => v = a0v0), (70, fun (M : Mem) (v : Value) => v = vI x4), (71, fun (M : Mem) (v : Value) => ∃ (v5 : Value), v = v5 ∧ SlR M v5 x9), (72, fun (M : Mem) (v : Value) => v = vI a1), (73, fun (M : Mem) (v : Value) => v = vb a2), (74, fun (M : Mem) (v : Value) => v = .agg #[vU a3.1, vU a3.2]), (75, fun (M : Mem) (v : Value) => v = a4v0), (76, fun (M : Mem) (v : Value) => v = vI x2), (77, fun (M : Mem) (v : Value) => ∃ (v6 : Value), v = v6 ∧ SlR M v6 x10), (78, fun (M : Mem) (v : Value) => v = .tuple #[.agg #[vU x11.1.1, vU x11.1.2], vb x11.2]), (68, fun (M : Mem) (v : Value) => v = .tuple #[.agg #[vU x11.1.1, vU x11.1.2], vb x11.2]), (79, fun (M : Mem) (v : Value) => v = .agg #[vU x11.1.1, vU x11.1.2]), (80, fun (M : Mem) (v : Value) => v = vb x11.2), (16, fun (M : Mem) (v : Value) => ∃ (b7 : Nat), v = pt b7 0), (100014, fun _ _ => True)] := ⟨(fun _ _ _ _ h => h), (fun _ _ _ _ h => h), (fun _ _ _ l ⟨v5, e, h7⟩ => ⟨v5, e, h7.up l⟩), (fun _ _ _ _ h => h), (fun _ _ _ _ h => h), (fun _ _ _ _ h => h), (fun _ _ _ _ h => h), (fun _ _ _ _ h => h), (fun _ _ _ l ⟨v6, e, h8⟩ => ⟨v6, e, h8.up l⟩), (fun _ _ _ _ h => h), (fun _ _ _ _ h => h), (fun _ _ _ _ h => h), (fun _ _ _ _ h => h), (fun _ _ _ _ h => h), (fun _ _ _ _ h => h), trivial⟩
      refine wpc_flowG HM 15 mixed rfl rfl rfl [16, 68, 69, 70, 71, 72, 73, 74, 75, 76, 77, 78, 79, 80] (fun L f M w => St M ((bx b2 [vU 0, vU 0] 27) :: (bx b1 [vU a3.1, vU a3.2] 27) :: (bx b5 [vU x6.1, vU x6.2] 27) :: (bx b6 [vU x8.1, vU x8.2] 27) :: ((bif L 13 then [bxv (f 16) (bif L 14 then [vU x11.1.1, vU x11.1.2] else [vU 0, vU 0]) 27] else []) ++ As)) w) (St.drew S30 _) ?_ ?_
      · refine ⟨?_, ?_, ?_, ?_, ?_, ?_, ?_, ?_, ?_, ?_, ?_, ?_, ?_, ?_, ?_, trivial⟩
        · intro L f14 w26 hL hd hc ⟨m22, L23, S31, K, hO⟩
          have d14 : L 14 = false := undep hc hL rfl
          replace S31 : St _ ((bx b2 [vU 0, vU 0] 27) :: (bx b1 [vU a3.1, vU a3.2] 27) :: (bx b5 [vU x6.1, vU x6.2] 27) :: (bx b6 [vU x8.1, vU x8.2] 27) :: ((bif L 13 then [bxv (f14 16) (bif L 14 then [vU x11.1.1, vU x11.1.2] else [vU 0, vU 0]) 27] else []) ++ As)) _ := S31
          rw [d14] at S31
          obtain ⟨u14, rfl⟩ := fr_of (N := 129) (L := []) hO trivial
          replace S31 : St _ ((bx b2 [vU 0, vU 0] 27) :: (bx b1 [vU a3.1, vU a3.2] 27) :: (bx b5 [vU x6.1, vU x6.2] 27) :: (bx b6 [vU x8.1, vU x8.2] 27) :: ((bif L 13 then [bxv _ (bif false then [vU x11.1.1, vU x11.1.2] else [vU 0, vU 0]) 27] else []) ++ As)) _ := S31
          have L24 := Mem.rfl' m22
          refine s_mvv (v := a0v0) rfl ?_
          refine wpn ?_
          refine ⟨m22, Mem.tr L23 L24, ?_, facts_step HM rfl K L24 rfl rfl rfl, outP⟩
          show St _ ((bx b2 [vU 0, vU 0] 27) :: (bx b1 [vU a3.1, vU a3.2] 27) :: (bx b5 [vU x6.1, vU x6.2] 27) :: (bx b6 [vU x8.1, vU x8.2] 27) :: ((bif L 13 then [bxv _ (bif L 14 then [vU x11.1.1, vU x11.1.2] else [vU 0, vU 0]) 27] else []) ++ As)) _
          rw [d14]
          exact S31
        · intro L f15 w27 hL hd hc ⟨m23, L25, S32, K, hO⟩
          have d14 : L 14 = false := undep hc hL rfl
          replace S32 : St _ ((bx b2 [vU 0, vU 0] 27) :: (bx b1 [vU a3.1, vU a3.2] 27) :: (bx b5 [vU x6.1, vU x6.2] 27) :: (bx b6 [vU x8.1, vU x8.2] 27) :: ((bif L 13 then [bxv (f15 16) (bif L 14 then [vU x11.1.1, vU x11.1.2] else [vU 0, vU 0]) 27] else []) ++ As)) _ := S32
          rw [d14] at S32
          obtain ⟨u15, rfl⟩ := fr_of (N := 129) (L := []) hO trivial
          replace S32 : St _ ((bx b2 [vU 0, vU 0] 27) :: (bx b1 [vU a3.1, vU a3.2] 27) :: (bx b5 [vU x6.1, vU x6.2] 27) :: (bx b6 [vU x8.1, vU x8.2] 27) :: ((bif L 13 then [bxv _ (bif false then [vU x11.1.1, vU x11.1.2] else [vU 0, vU 0]) 27] else []) ++ As)) _ := S32
          have L26 := Mem.rfl' m23
          refine s_mvv (v := vI x4) rfl ?_
          refine wpn ?_
          refine ⟨m23, Mem.tr L25 L26, ?_, facts_step HM rfl K L26 rfl rfl rfl, outP⟩
          show St _ ((bx b2 [vU 0, vU 0] 27) :: (bx b1 [vU a3.1, vU a3.2] 27) :: (bx b5 [vU x6.1, vU x6.2] 27) :: (bx b6 [vU x8.1, vU x8.2] 27) :: ((bif L 13 then [bxv _ (bif L 14 then [vU x11.1.1, vU x11.1.2] else [vU 0, vU 0]) 27] else []) ++ As)) _
          rw [d14]
          exact S32
        · intro L f16 w28 hL hd hc ⟨m24, L27, S33, K, hO⟩
          have d14 : L 14 = false := undep hc hL rfl
          have d0 : L 0 = true := dep hd rfl
          have e11 := K 0 d0
          have d1 : L 1 = true := dep hd rfl
          have e12 := K 1 d1
          replace S33 : St _ ((bx b2 [vU 0, vU 0] 27) :: (bx b1 [vU a3.1, vU a3.2] 27) :: (bx b5 [vU x6.1, vU x6.2] 27) :: (bx b6 [vU x8.1, vU x8.2] 27) :: ((bif L 13 then [bxv (f16 16) (bif L 14 then [vU x11.1.1, vU x11.1.2] else [vU 0, vU 0]) 27] else []) ++ As)) _ := S33
          rw [d14] at S33
          obtain ⟨u16, rfl⟩ := fr_of (N := 129) (L := [(69, a0v0), (70, vI x4)]) hO ⟨e11, e12, trivial⟩
          replace S33 : St _ ((bx b2 [vU 0, vU 0] 27) :: (bx b1 [vU a3.1, vU a3.2] 27) :: (bx b5 [vU x6.1, vU x6.2] 27) :: (bx b6 [vU x8.1, vU x8.2] 27) :: ((bif L 13 then [bxv _ (bif false then [vU x11.1.1, vU x11.1.2] else [vU 0, vU 0]) 27] else []) ++ As)) _ := S33
          replace a0h0 := a0h0.up L27
          replace a4h0 := a4h0.up L27
          have L28 := Mem.rfl' m24
          refine s_cut (ys := x9) (l := 0) (h := x4) rfl a0h0 Tryd.underlying22 Tryd.sizeOf27 (.inl ⟨rfl, rfl⟩) (.inr ⟨_, rfl⟩) (.inl rfl) q9 ?_
          intro v5 h7
          refine wpn ?_
          refine ⟨m24, Mem.tr L27 L28, ?_, facts_step HM rfl K L28 rfl rfl ⟨v5, rfl, h7⟩, outP⟩
          show St _ ((bx b2 [vU 0, vU 0] 27) :: (bx b1 [vU a3.1, vU a3.2] 27) :: (bx b5 [vU x6.1, vU x6.2] 27) :: (bx b6 [vU x8.1, vU x8.2] 27) :: ((bif L 13 then [bxv _ (bif L 14 then [vU x11.1.1, vU x11.1.2] else [vU 0, vU 0]) 27] else []) ++ As)) _
          rw [d14]
          exact S33
        · intro L f17 w29 hL hd hc ⟨m25, L29, S34, K, hO⟩
          have d14 : L 14 = false := undep hc hL rfl
          replace S34 : St _ ((bx b2 [vU 0, vU 0] 27) :: (bx b1 [vU a3.1, vU a3.2] 27) :: (bx b5 [vU x6.1, vU x6.2] 27) :: (bx b6 [vU x8.1, vU x8.2] 27) :: ((bif L 13 then [bxv (f17 16) (bif L 14 then [vU x11.1.1, vU x11.1.2] else [vU 0, vU 0]) 27] else []) ++ As)) _ := S34
          rw [d14] at S34
          obtain ⟨u17, rfl⟩ := fr_of (N := 129) (L := []) hO trivial
          replace S34 : St _ ((bx b2 [vU 0, vU 0] 27) :: (bx b1 [vU a3.1, vU a3.2] 27) :: (bx b5 [vU x6.1, vU x6.2] 27) :: (bx b6 [vU x8.1, vU x8.2] 27) :: ((bif L 13 then [bxv _ (bif false then [vU x11.1.1, vU x11.1.2] else [vU 0, vU 0]) 27] else []) ++ As)) _ := S34
          have L30 := Mem.rfl' m25
          refine s_mvv (v := vI a1) rfl ?_
          refine wpn ?_
          refine ⟨m25, Mem.tr L29 L30, ?_, facts_step HM rfl K L30 rfl rfl rfl, outP⟩
          show St _ ((bx b2 [vU 0, vU 0] 27) :: (bx b1 [vU a3.1, vU a3.2] 27) :: (bx b5 [vU x6.1, vU x6.2] 27) :: (bx b6 [vU x8.1, vU x8.2] 27) :: ((bif L 13 then [bxv _ (bif L 14 then [vU x11.1.1, vU x11.1.2] else [vU 0, vU 0]) 27] else []) ++ As)) _
          rw [d14]
          exact S34
        · intro L f18 w30 hL hd hc ⟨m26, L31, S35, K, hO⟩
          have d14 : L 14 = false := undep hc hL rfl
          replace S35 : St _ ((bx b2 [vU 0, vU 0] 27) :: (bx b1 [vU a3.1, vU a3.2] 27) :: (bx b5 [vU x6.1, vU x6.2] 27) :: (bx b6 [vU x8.1, vU x8.2] 27) :: ((bif L 13 then [bxv (f18 16) (bif L 14 then [vU x11.1.1, vU x11.1.2] else [vU 0, vU 0]) 27] else []) ++ As)) _ := S35
          rw [d14] at S35
          obtain ⟨u18, rfl⟩ := fr_of (N := 129) (L := []) hO trivial
          replace S35 : St _ ((bx b2 [vU 0, vU 0] 27) :: (bx b1 [vU a3.1, vU a3.2] 27) :: (bx b5 [vU x6.1, vU x6.2] 27) :: (bx b6 [vU x8.1, vU x8.2] 27) :: ((bif L 13 then [bxv _ (bif false then [vU x11.1.1, vU x11.1.2] else [vU 0, vU 0]) 27] else []) ++ As)) _ := S35
          have L32 := Mem.rfl' m26
          refine s_mvv (v := vb a2) rfl ?_
          refine wpn ?_
          refine ⟨m26, Mem.tr L31 L32, ?_, facts_step HM rfl K L32 rfl rfl rfl, outP⟩
          show St _ ((bx b2 [vU 0, vU 0] 27) :: (bx b1 [vU a3.1, vU a3.2] 27) :: (bx b5 [vU x6.1, vU x6.2] 27) :: (bx b6 [vU x8.1, vU x8.2] 27) :: ((bif L 13 then [bxv _ (bif L 14 then [vU x11.1.1, vU x11.1.2] else [vU 0, vU 0]) 27] else []) ++ As)) _
          rw [d14]
          exact S35
        · intro L f19 w31 hL hd hc ⟨m27, L33, S36, K, hO⟩
          have d14 : L 14 = false := undep hc hL rfl
          replace S36 : St _ ((bx b2 [vU 0, vU 0] 27) :: (bx b1 [vU a3.1, vU a3.2] 27) :: (bx b5 [vU x6.1, vU x6.2] 27) :: (bx b6 [vU x8.1, vU x8.2] 27) :: ((bif L 13 then [bxv (f19 16) (bif L 14 then [vU x11.1.1, vU x11.1.2] else [vU 0, vU 0]) 27] else []) ++ As)) _ := S36
          rw [d14] at S36
          obtain ⟨u19, rfl⟩ := fr_of (N := 129) (L := []) hO trivial
          replace S36 : St _ ((bx b2 [vU 0, vU 0] 27) :: (bx b1 [vU a3.1, vU a3.2] 27) :: (bx b5 [vU x6.1, vU x6.2] 27) :: (bx b6 [vU x8.1, vU x8.2] 27) :: ((bif L 13 then [bxv _ (bif false then [vU x11.1.1, vU x11.1.2] else [vU 0, vU 0]) 27] else []) ++ As)) _ := S36
          replace a0h0 := a0h0.up L33
          replace a4h0 := a4h0.up L33
          have L34 := Mem.rfl' m27
          refine s_ld (i := 1) (cs := [vU a3.1, vU a3.2]) S36 rfl rfl Tryd.isAgg27 Tryd.sizeOf27 rfl (fun h => by cases h) ?_
          refine wpn ?_
          refine ⟨m27, Mem.tr L33 L34, ?_, facts_step HM rfl K L34 rfl rfl rfl, outP⟩
          show St _ ((bx b2 [vU 0, vU 0] 27) :: (bx b1 [vU a3.1, vU a3.2] 27) :: (bx b5 [vU x6.1, vU x6.2] 27) :: (bx b6 [vU x8.1, vU x8.2] 27) :: ((bif L 13 then [bxv _ (bif L 14 then [vU x11.1.1, vU x11.1.2] else [vU 0, vU 0]) 27] else []) ++ As)) _
          rw [d14]
          exact S36
        · intro L f20 w32 hL hd hc ⟨m28, L35, S37, K, hO⟩
          have d14 : L 14 = false := undep hc hL rfl
          replace S37 : St _ ((bx b2 [vU 0, vU 0] 27) :: (bx b1 [vU a3.1, vU a3.2] 27) :: (bx b5 [vU x6.1, vU x6.2] 27) :: (bx b6 [vU x8.1, vU x8.2] 27) :: ((bif L 13 then [bxv (f20 16) (bif L 14 then [vU x11.1.1, vU x11.1.2] else [vU 0, vU 0]) 27] else []) ++ As)) _ := S37
          rw [d14] at S37
          obtain ⟨u20, rfl⟩ := fr_of (N := 129) (L := []) hO trivial
          replace S37 : St _ ((bx b2 [vU 0, vU 0] 27) :: (bx b1 [vU a3.1, vU a3.2] 27) :: (bx b5 [vU x6.1, vU x6.2] 27) :: (bx b6 [vU x8.1, vU x8.2] 27) :: ((bif L 13 then [bxv _ (bif false then [vU x11.1.1, vU x11.1.2] else [vU 0, vU 0]) 27] else []) ++ As)) _ := S37
          have L36 := Mem.rfl' m28
          refine s_mvv (v := a4v0) rfl ?_
          refine wpn ?_
          refine ⟨m28, Mem.tr L35 L36, ?_, facts_step HM rfl K L36 rfl rfl rfl, outP⟩
          show St _ ((bx b2 [vU 0, vU 0] 27) :: (bx b1 [vU a3.1, vU a3.2] 27) :: (bx b5 [vU x6.1, vU x6.2] 27) :: (bx b6 [vU x8.1, vU x8.2] 27) :: ((bif L 13 then [bxv _ (bif L 14 then [vU x11.1.1, vU x11.1.2] else [vU 0, vU 0]) 27] else []) ++ As)) _
          rw [d14]
          exact S37
        · intro L f21 w33 hL hd hc ⟨m29, L37, S38, K, hO⟩
          have d14 : L 14 = false := undep hc hL rfl
          replace S38 : St _ ((bx b2 [vU 0, vU 0] 27) :: (bx b1 [vU a3.1, vU a3.2] 27) :: (bx b5 [vU x6.1, vU x6.2] 27) :: (bx b6 [vU x8.1, vU x8.2] 27) :: ((bif L 13 then [bxv (f21 16) (bif L 14 then [vU x11.1.1, vU x11.1.2] else [vU 0, vU 0]) 27] else []) ++ As)) _ := S38
          rw [d14] at S38
          obtain ⟨u21, rfl⟩ := fr_of (N := 129) (L := []) hO trivial
          replace S38 : St _ ((bx b2 [vU 0, vU 0] 27) :: (bx b1 [vU a3.1, vU a3.2] 27) :: (bx b5 [vU x6.1, vU x6.2] 27) :: (bx b6 [vU x8.1, vU x8.2] 27) :: ((bif L 13 then [bxv _ (bif false then [vU x11.1.1, vU x11.1.2] else [vU 0, vU 0]) 27] else []) ++ As)) _ := S38
          have L38 := Mem.rfl' m29
          refine s_mvv (v := vI x2) rfl ?_
          refine wpn ?_
          refine ⟨m29, Mem.tr L37 L38, ?_, facts_step HM rfl K L38 rfl rfl rfl, outP⟩
          show St _ ((bx b2 [vU 0, vU 0] 27) :: (bx b1 [vU a3.1, vU a3.2] 27) :: (bx b5 [vU x6.1, vU x6.2] 27) :: (bx b6 [vU x8.1, vU x8.2] 27) :: ((bif L 13 then [bxv _ (bif L 14 then [vU x11.1.1, vU x11.1.2] else [vU 0, vU 0]) 27] else []) ++ As)) _
          rw [d14]
          exact S38
        · intro L f22 w34 hL hd hc ⟨m30, L39, S39, K, hO⟩
          have d14 : L 14 = false := undep hc hL rfl
          have d6 : L 6 = true := dep hd rfl
          have e13 := K 6 d6
          have d7 : L 7 = true := dep hd rfl
          have e14 := K 7 d7
          replace S39 : St _ ((bx b2 [vU 0, vU 0] 27) :: (bx b1 [vU a3.1, vU a3.2] 27) :: (bx b5 [vU x6.1, vU x6.2] 27) :: (bx b6 [vU x8.1, vU x8.2] 27) :: ((bif L 13 then [bxv (f22 16) (bif L 14 then [vU x11.1.1, vU x11.1.2] else [vU 0, vU 0]) 27] else []) ++ As)) _ := S39
          rw [d14] at S39
          obtain ⟨u22, rfl⟩ := fr_of (N := 129) (L := [(75, a4v0), (76, vI x2)]) hO ⟨e13, e14, trivial⟩
          replace S39 : St _ ((bx b2 [vU 0, vU 0] 27) :: (bx b1 [vU a3.1, vU a3.2] 27) :: (bx b5 [vU x6.1, vU x6.2] 27) :: (bx b6 [vU x8.1, vU x8.2] 27) :: ((bif L 13 then [bxv _ (bif false then [vU x11.1.1, vU x11.1.2] else [vU 0, vU 0]) 27] else []) ++ As)) _ := S39
          replace a0h0 := a0h0.up L39
          replace a4h0 := a4h0.up L39
          have L40 := Mem.rfl' m30
          refine s_cut (ys := x10) (l := 0) (h := x2) rfl a4h0 Tryd.underlying22 Tryd.sizeOf27 (.inl ⟨rfl, rfl⟩) (.inr ⟨_, rfl⟩) (.inl rfl) q10 ?_
          intro v6 h8
          refine wpn ?_
          refine ⟨m30, Mem.tr L39 L40, ?_, facts_step HM rfl K L40 rfl rfl ⟨v6, rfl, h8⟩, outP⟩
          show St _ ((bx b2 [vU 0, vU 0] 27) :: (bx b1 [vU a3.1, vU a3.2] 27) :: (bx b5 [vU x6.1, vU x6.2] 27) :: (bx b6 [vU x8.1, vU x8.2] 27) :: ((bif L 13 then [bxv _ (bif L 14 then [vU x11.1.1, vU x11.1.2] else [vU 0, vU 0]) 27] else []) ++ As)) _
          rw [d14]
          exact S39
        · intro L f23 w35 hL hd hc ⟨m31, L41, S40, K, hO⟩
          have d14 : L 14 = false := undep hc hL rfl
          have d2 : L 2 = true := dep hd rfl
          obtain ⟨v7, e15, h9⟩ := K 2 d2
          have d3 : L 3 = true := dep hd rfl
          have e16 := K 3 d3
          have d4 : L 4 = true := dep hd rfl
          have e17 := K 4 d4
          have d5 : L 5 = true := dep hd rfl
          have e18 := K 5 d5
          have d8 : L 8 = true := dep hd rfl
          obtain ⟨v8, e19, h10⟩ := K 8 d8
          replace S40 : St _ ((bx b2 [vU 0, vU 0] 27) :: (bx b1 [vU a3.1, vU a3.2] 27) :: (bx b5 [vU x6.1, vU x6.2] 27) :: (bx b6 [vU x8.1, vU x8.2] 27) :: ((bif L 13 then [bxv (f23 16) (bif L 14 then [vU x11.1.1, vU x11.1.2] else [vU 0, vU 0]) 27] else []) ++ As)) _ := S40
          rw [d14] at S40
          obtain ⟨u23, rfl⟩ := fr_of (N := 129) (L := [(71, v7), (72, vI a1), (73, vb a2), (74, .agg #[vU a3.1, vU a3.2]), (77, v8)]) hO ⟨e15, e16, e17, e18, e19, trivial⟩
          replace S40 : St _ ((bx b2 [vU 0, vU 0] 27) :: (bx b1 [vU a3.1, vU a3.2] 27) :: (bx b5 [vU x6.1, vU x6.2] 27) :: (bx b6 [vU x8.1, vU x8.2] 27) :: ((bif L 13 then [bxv _ (bif false then [vU x11.1.1, vU x11.1.2] else [vU 0, vU 0]) 27] else []) ++ As)) _ := S40
          replace a0h0 := a0h0.up L41
          replace a4h0 := a4h0.up L41
          have L42 := Mem.rfl' m31
          refine s_call Tryd.call28 (ih (a0 := x9) (a1 := a1) (a2 := a2) (a3 := a3) (a4 := x10) S40 h9 h10 q11) rfl ?_
          rintro _ w36 ⟨m32, l11, S41, rfl⟩
          replace a0h0 := a0h0.up l11
          replace a4h0 := a4h0.up l11
          replace h9 := h9.up l11
          replace h10 := h10.up l11
          replace L42 := Mem.tr L42 l11
          clear S40
          replace S41 : St _ ((bx b2 [vU 0, vU 0] 27) :: (bx b1 [vU a3.1, vU a3.2] 27) :: (bx b5 [vU x6.1, vU x6.2] 27) :: (bx b6 [vU x8.1, vU x8.2] 27) :: ((bif L 13 then [bxv _ (bif false then [vU x11.1.1, vU x11.1.2] else [vU 0, vU 0]) 27] else []) ++ As)) _ := S41
          refine wpn ?_
          refine ⟨m32, Mem.tr L41 L42, ?_, facts_step HM rfl K L42 rfl rfl rfl, outP⟩
          show St _ ((bx b2 [vU 0, vU 0] 27) :: (bx b1 [vU a3.1, vU a3.2] 27) :: (bx b5 [vU x6.1, vU x6.2] 27) :: (bx b6 [vU x8.1, vU x8.2] 27) :: ((bif L 13 then [bxv _ (bif L 14 then [vU x11.1.1, vU x11.1.2] else [vU 0, vU 0]) 27] else []) ++ As)) _
          rw [d14]
          exact S41
        · intro L f24 w37 hL hd hc ⟨m33, L43, S42, K, hO⟩
          have d14 : L 14 = false := undep hc hL rfl
          have d9 : L 9 = true := dep hd rfl
          have e20 := K 9 d9
          replace S42 : St _ ((bx b2 [vU 0, vU 0] 27) :: (bx b1 [vU a3.1, vU a3.2] 27) :: (bx b5 [vU x6.1, vU x6.2] 27) :: (bx b6 [vU x8.1, vU x8.2] 27) :: ((bif L 13 then [bxv (f24 16) (bif L 14 then [vU x11.1.1, vU x11.1.2] else [vU 0, vU 0]) 27] else []) ++ As)) _ := S42
          rw [d14] at S42
          obtain ⟨u24, rfl⟩ := fr_of (N := 129) (L := [(78, .tuple #[.agg #[vU x11.1.1, vU x11.1.2], vb x11.2])]) hO ⟨e20, trivial⟩
          replace S42 : St _ ((bx b2 [vU 0, vU 0] 27) :: (bx b1 [vU a3.1, vU a3.2] 27) :: (bx b5 [vU x6.1, vU x6.2] 27) :: (bx b6 [vU x8.1, vU x8.2] 27) :: ((bif L 13 then [bxv _ (bif false then [vU x11.1.1, vU x11.1.2] else [vU 0, vU 0]) 27] else []) ++ As)) _ := S42
          have L44 := Mem.rfl' m33
          refine s_mvv (v := .tuple #[.agg #[vU x11.1.1, vU x11.1.2], vb x11.2]) rfl ?_
          refine wpn ?_
          refine ⟨m33, Mem.tr L43 L44, ?_, facts_step HM rfl K L44 rfl rfl rfl, outP⟩
          show St _ ((bx b2 [vU 0, vU 0] 27) :: (bx b1 [vU a3.1, vU a3.2] 27) :: (bx b5 [vU x6.1, vU x6.2] 27) :: (bx b6 [vU x8.1, vU x8.2] 27) :: ((bif L 13 then [bxv _ (bif L 14 then [vU x11.1.1, vU x11.1.2] else [vU 0, vU 0]) 27] else []) ++ As)) _
          rw [d14]
          exact S42
        · intro L f25 w38 hL hd hc ⟨m34, L45, S43, K, hO⟩
          have d14 : L 14 = false := undep hc hL rfl
          have d10 : L 10 = true := dep hd rfl
          have e21 := K 10 d10
          replace S43 : St _ ((bx b2 [vU 0, vU 0] 27) :: (bx b1 [vU a3.1, vU a3.2] 27) :: (bx b5 [vU x6.1, vU x6.2] 27) :: (bx b6 [vU x8.1, vU x8.2] 27) :: ((bif L 13 then [bxv (f25 16) (bif L 14 then [vU x11.1.1, vU x11.1.2] else [vU 0, vU 0]) 27] else []) ++ As)) _ := S43
          rw [d14] at S43
          obtain ⟨u25, rfl⟩ := fr_of (N := 129) (L := [(68, .tuple #[.agg #[vU x11.1.1, vU x11.1.2], vb x11.2])]) hO ⟨e21, trivial⟩
          replace S43 : St _ ((bx b2 [vU 0, vU 0] 27) :: (bx b1 [vU a3.1, vU a3.2] 27) :: (bx b5 [vU x6.1, vU x6.2] 27) :: (bx b6 [vU x8.1, vU x8.2] 27) :: ((bif L 13 then [bxv _ (bif false then [vU x11.1.1, vU x11.1.2] else [vU 0, vU 0]) 27] else []) ++ As)) _ := S43
          have L46 := Mem.rfl' m34
          refine s_ext (i := 0) rfl rfl ?_
          refine wpn ?_
          refine ⟨m34, Mem.tr L45 L46, ?_, facts_step HM rfl K L46 rfl rfl rfl, outP⟩
          show St _ ((bx b2 [vU 0, vU 0] 27) :: (bx b1 [vU a3.1, vU a3.2] 27) :: (bx b5 [vU x6.1, vU x6.2] 27) :: (bx b6 [vU x8.1, vU x8.2] 27) :: ((bif L 13 then [bxv _ (bif L 14 then [vU x11.1.1, vU x11.1.2] else [vU 0, vU 0]) 27] else []) ++ As)) _
          rw [d14]
          exact S43
        · intro L f26 w39 hL hd hc ⟨m35, L47, S44, K, hO⟩
          have d10 : L 10 = true := dep hd rfl
          have e22 := K 10 d10
          obtain ⟨u26, rfl⟩ := fr_of (N := 129) (L := [(68, .tuple #[.agg #[vU x11.1.1, vU x11.1.2], vb x11.2])]) hO ⟨e22, trivial⟩
          replace S44 : St _ ((bx b2 [vU 0, vU 0] 27) :: (bx b1 [vU a3.1, vU a3.2] 27) :: (bx b5 [vU x6.1, vU x6.2] 27) :: (bx b6 [vU x8.1, vU x8.2] 27) :: ((bif L 13 then [bxv _ (bif L 14 then [vU x11.1.1, vU x11.1.2] else [vU 0, vU 0]) 27] else []) ++ As)) _ := S44
          have L48 := Mem.rfl' m35
          refine s_ext (i := 1) rfl rfl ?_
          refine wpn ?_
          refine ⟨m35, Mem.tr L47 L48, ?_, facts_step HM rfl K L48 rfl rfl rfl, outP⟩
          exact S44
        · intro L f27 w40 hL hd hc ⟨m36, L49, S45, K, hO⟩
          have d13 : L 13 = false := hL
          have d14 : L 14 = false := undep hc hL rfl
          replace S45 : St _ ((bx b2 [vU 0, vU 0] 27) :: (bx b1 [vU a3.1, vU a3.2] 27) :: (bx b5 [vU x6.1, vU x6.2] 27) :: (bx b6 [vU x8.1, vU x8.2] 27) :: ((bif L 13 then [bxv (f27 16) (bif L 14 then [vU x11.1.1, vU x11.1.2] else [vU 0, vU 0]) 27] else []) ++ As)) _ := S45
          rw [d13, d14] at S45
          obtain ⟨u27, rfl⟩ := fr_of (N := 129) (L := []) hO trivial
          replace S45 : St _ ((bx b2 [vU 0, vU 0] 27) :: (bx b1 [vU a3.1, vU a3.2] 27) :: (bx b5 [vU x6.1, vU x6.2] 27) :: (bx b6 [vU x8.1, vU x8.2] 27) :: As) _ := S45
          replace a0h0 := a0h0.up L49
          replace a4h0 := a4h0.up L49
          have L50 := Mem.rfl' m36
          refine s_alloc S45 Tryd.zeroValue27 ?_
          intro b7 w41 S46
          replace S46 : St _ ((bx b7 [vU 0, vU 0] 27) :: (bx b2 [vU 0, vU 0] 27) :: (bx b1 [vU a3.1, vU a3.2] 27) :: (bx b5 [vU x6.1, vU x6.2] 27) :: (bx b6 [vU x8.1, vU x8.2] 27) :: As) _ := S46
          clear S45
          refine wpn ?_
          refine ⟨m36, Mem.tr L49 L50, ?_, facts_step HM rfl K L50 rfl rfl ⟨b7, rfl⟩, outP⟩
          show St _ ((bx b2 [vU 0, vU 0] 27) :: (bx b1 [vU a3.1, vU a3.2] 27) :: (bx b5 [vU x6.1, vU x6.2] 27) :: (bx b6 [vU x8.1, vU x8.2] 27) :: ((bif true then [bxv _ (bif L 14 then [vU x11.1.1, vU x11.1.2] else [vU 0, vU 0]) 27] else []) ++ As)) _
          rw [d14]
          have S77 : St _ ((bx b2 [vU 0, vU 0] 27) :: (bx b1 [vU a3.1, vU a3.2] 27) :: (bx b5 [vU x6.1, vU x6.2] 27) :: (bx b6 [vU x8.1, vU x8.2] 27) :: (bx b7 [vU 0, vU 0] 27) :: As) _ := St.perm S46 (List.Perm.trans (List.Perm.swap _ _ _) (List.Perm.trans (List.Perm.cons _ (List.Perm.swap _ _ _)) (List.Perm.trans (List.Perm.cons _ (List.Perm.cons _ (List.Perm.swap _ _ _))) (List.Perm.cons _ (List.Perm.cons _ (List.Perm.cons _ (List.Perm.swap _ _ _)))))))
          exact S77
        · intro L f28 w42 hL hd hc ⟨m37, L51, S47, K, hO⟩
          have d13 : L 13 = true := dep hd rfl
          have d14 : L 14 = false := hL
          obtain ⟨b8, e23⟩ := K 13 d13
          have d11 : L 11 = true := dep hd rfl
          have e24 := K 11 d11
          replace S47 : St _ ((bx b2 [vU 0, vU 0] 27) :: (bx b1 [vU a3.1, vU a3.2] 27) :: (bx b5 [vU x6.1, vU x6.2] 27) :: (bx b6 [vU x8.1, vU x8.2] 27) :: ((bif L 13 then [bxv (f28 16) (bif L 14 then [vU x11.1.1, vU x11.1.2] else [vU 0, vU 0]) 27] else []) ++ As)) _ := S47
          rw [d13, d14] at S47
          obtain ⟨u28, rfl⟩ := fr_of (N := 129) (L := [(16, pt b8 0), (79, .agg #[vU x11.1.1, vU x11.1.2])]) hO ⟨e23, e24, trivial⟩
          replace S47 : St _ ((bx b2 [vU 0, vU 0] 27) :: (bx b1 [vU a3.1, vU a3.2] 27) :: (bx b5 [vU x6.1, vU x6.2] 27) :: (bx b6 [vU x8.1, vU x8.2] 27) :: (bx b8 [vU 0, vU 0] 27) :: As) _ := S47
          replace a0h0 := a0h0.up L51
          replace a4h0 := a4h0.up L51
          have L52 := Mem.rfl' m37
          refine s_stL (i := 4) S47 rfl rfl rfl Tryd.sizeOf27 (oneC rfl (oneC rfl oneN)) rfl ?_
          intro w43 S48
          replace S48 : St _ ((bx b2 [vU 0, vU 0] 27) :: (bx b1 [vU a3.1, vU a3.2] 27) :: (bx b5 [vU x6.1, vU x6.2] 27) :: (bx b6 [vU x8.1, vU x8.2] 27) :: (bx b8 [vU x11.1.1, vU x11.1.2] 27) :: As) _ := S48
          clear S47
          refine wpn ?_
          refine ⟨m37, Mem.tr L51 L52, ?_, facts_none HM K L52 rfl (fun _ => trivial), outP⟩
          show St _ ((bx b2 [vU 0, vU 0] 27) :: (bx b1 [vU a3.1, vU a3.2] 27) :: (bx b5 [vU x6.1, vU x6.2] 27) :: (bx b6 [vU x8.1, vU x8.2] 27) :: ((bif L 13 then [bxv _ (bif true then [vU x11.1.1, vU x11.1.2] else [vU 0, vU 0]) 27] else []) ++ As)) _
          rw [d13]
          exact S48
      intro L f29 w44 hall ⟨m38, L53, S49, K, hO⟩
      have d13 : L 13 = true := hall 13 (by decide)
      have d14 : L 14 = true := hall 14 (by decide)
      obtain ⟨b9, e25⟩ := K 13 d13
      have d12 : L 12 = true := hall 12 (by decide)
      have e26 := K 12 d12
      replace S49 : St _ ((bx b2 [vU 0, vU 0] 27) :: (bx b1 [vU a3.1, vU a3.2] 27) :: (bx b5 [vU x6.1, vU x6.2] 27) :: (bx b6 [vU x8.1, vU x8.2] 27) :: ((bif L 13 then [bxv (f29 16) (bif L 14 then [vU x11.1.1, vU x11.1.2] else [vU 0, vU 0]) 27] else []) ++ As)) _ := S49
      rw [d13, d14] at S49
      obtain ⟨u29, rfl⟩ := fr_of (N := 129) (L := [(16, pt b9 0), (80, vb x11.2)]) hO ⟨e25, e26, trivial⟩
      replace S49 : St _ ((bx b2 [vU 0, vU 0] 27) :: (bx b1 [vU a3.1, vU a3.2] 27) :: (bx b5 [vU x6.1, vU x6.2] 27) :: (bx b6 [vU x8.1, vU x8.2] 27) :: (bx b9 [vU x11.1.1, vU x11.1.2] 27) :: As) _ := S49
      replace a0h0 := a0h0.up L53
      replace a4h0 := a4h0.up L53
      replace L0 := Mem.tr L0 L53
      clear S30
      refine s_asv (v := vb x11.2) rfl ?_
      refine wpl_nil ?_
      refine nrm ?_
      refine wpc_seq ?_
      obtain ⟨x12, q12, hm⟩ := obind_some hm
      obtain ⟨x13, q13, hm⟩ := obind_some hm
      obtain ⟨x14, q14, hm⟩ := obind_some hm
      obtain ⟨x15, q15, hm⟩ := obind_some hm
      have HM : MonoAll [(81, fun (M : Mem) (v : Value) => v = .agg #[vU x11.1.1, vU x11.1.2]), (82, fun (M : Mem) (v : Value) => v = a4v0), (83, fun (M : Mem) (v : Value) => v = vI x2), (84, fun (M : Mem) (v : Value) => ∃ (p2 : Value), v = p2 ∧ PtC M p2 [vU x12.1, vU x12.2]), (85, fun (M : Mem) (v : Value) => v = .agg #[vU x12.1, vU x12.2]), (86, fun (M : Mem) (v : Value) => v = .agg #[vU x13.1, vU x13.2]), (87, fun (M : Mem) (v : Value) => v = vb x11.2), (88, fun (M : Mem) (v : Value) => v = vb x11.2), (89, fun (M : Mem) (v : Value) => ((!x11.2) = true → v = .agg #[vU x11.1.1, vU x11.1.2]) ∧ ((!x11.2) = false → v = undef)), (90, fun (M : Mem) (v : Value) => ((!x11.2) = true → v = a4v0) ∧ ((!x11.2) = false → v = undef)), (91, fun (M : Mem) (v : Value) => ((!x11.2) = true → v = vI x2) ∧ ((!x11.2) = false → v = undef)), (92, fun (M : Mem) (v : Value) => ((!x11.2) = true → ∃ (p3 : Value), v = p3 ∧ PtC M p3 [vU x14.1, vU x14.2]) ∧ ((!x11.2) = false → v = undef)), (93, fun (M : Mem) (v : Value) => ((!x11.2) = true → v = .agg #[vU x14.1, vU x14.2]) ∧ ((!x11.2) = false → v = undef)), (94, fun (M : Mem) (v : Value) => ((!x11.2) = true → v = .agg #[vU x6.1, vU x6.2]) ∧ ((!x11.2) = false → v = undef)), (95, fun (M : Mem) (v : Value) => ((!x11.2) = true → v = .agg #[vU x8.1, vU x8.2]) ∧ ((!x11.2) = false → v = undef)), (96, fun (M : Mem) (v : Value) => ((!x11.2) = true → v = vb x15) ∧ ((!x11.2) = false → v = undef)), (97, fun (M : Mem) (v : Value) => v = vb (x11.2 || x15)), (100017, fun _ _ => True)] := ⟨(fun _ _ _ _ h => h), (fun _ _ _ _ h => h), (fun _ _ _ _ h => h), (fun _ _ _ l ⟨p2, e, h11⟩ => ⟨p2, e, h11.up l⟩), (fun _ _ _ _ h => h), (fun _ _ _ _ h => h), (fun _ _ _ _ h => h), (fun _ _ _ _ h => h), (fun _ _ _ _ h => h), (fun _ _ _ _ h => h), (fun _ _ _ _ h => h), (fun _ _ _ l h => ⟨fun c => let ⟨p3, e, h13⟩ := h.1 c; ⟨p3, e, h13.up l⟩, h.2⟩), (fun _ _ _ _ h => h), (fun _ _ _ _ h => h), (fun _ _ _ _ h => h), (fun _ _ _ _ h => h), (fun _ _ _ _ h => h), (fun _ _ _ _ h => h), trivial⟩
      refine wpc_flowG HM 18 mixed rfl rfl rfl [81, 82, 83, 84, 85, 86, 87, 88, 89, 90, 91, 92, 93, 94, 95, 96, 97] (fun L f M w => St M ((bx b2 (bif L 17 then [vU x13.1, vU x13.2] else [vU 0, vU 0]) 27) :: (bx b1 [vU a3.1, vU a3.2] 27) :: (bx b5 [vU x6.1, vU x6.2] 27) :: (bx b6 [vU x8.1, vU x8.2] 27) :: (bx b9 [vU x11.1.1, vU x11.1.2] 27) :: As) w) (St.drew S49 _) ?_ ?_
      · refine ⟨?_, ?_, ?_, ?_, ?_, ?_, ?_, ?_, ?_, ?_, ?_, ?_, ?_, ?_, ?_, ?_, ?_, ?_, trivial⟩
        · intro L f30 w45 hL hd hc ⟨m39, L54, S50, K, hO⟩
          have d17 : L 17 = false := undep hc hL rfl
          replace S50 : St _ ((bx b2 (bif L 17 then [vU x13.1, vU x13.2] else [vU 0, vU 0]) 27) :: (bx b1 [vU a3.1, vU a3.2] 27) :: (bx b5 [vU x6.1, vU x6.2] 27) :: (bx b6 [vU x8.1, vU x8.2] 27) :: (bx b9 [vU x11.1.1, vU x11.1.2] 27) :: As) _ := S50
          rw [d17] at S50
          obtain ⟨u30, rfl⟩ := fr_of (N := 129) (L := []) hO trivial
          replace S50 : St _ ((bx b2 [vU 0, vU 0] 27) :: (bx b1 [vU a3.1, vU a3.2] 27) :: (bx b5 [vU x6.1, vU x6.2] 27) :: (bx b6 [vU x8.1, vU x8.2] 27) :: (bx b9 [vU x11.1.1, vU x11.1.2] 27) :: As) _ := S50
          replace a4h0 := a4h0.up L54
          have L55 := Mem.rfl' m39
          refine s_ld (i := 4) (cs := [vU x11.1.1, vU x11.1.2]) S50 rfl rfl Tryd.isAgg27 Tryd.sizeOf27 rfl (fun h => by cases h) ?_
          refine wpn ?_
          refine ⟨m39, Mem.tr L54 L55, ?_, facts_step HM rfl K L55 rfl rfl rfl, outP⟩
          show St _ ((bx b2 (bif L 17 then [vU x13.1, vU x13.2] else [vU 0, vU 0]) 27) :: (bx b1 [vU a3.1, vU a3.2] 27) :: (bx b5 [vU x6.1, vU x6.2] 27) :: (bx b6 [vU x8.1, vU x8.2] 27) :: (bx b9 [vU x11.1.1, vU x11.1.2] 27) :: As) _
          rw [d17]
          exact S50
        · intro L f31 w46 hL hd hc ⟨m40, L56, S51, K, hO⟩
          have d17 : L 17 = false := undep hc hL rfl
          replace S51 : St _ ((bx b2 (bif L 17 then [vU x13.1, vU x13.2] else [vU 0, vU 0]) 27) :: (bx b1 [vU a3.1, vU a3.2] 27) :: (bx b5 [vU x6.1, vU x6.2] 27) :: (bx b6 [vU x8.1, vU x8.2] 27) :: (bx b9 [vU x11.1.1, vU x11.1.2] 27) :: As) _ := S51
          rw [d17] at S51
          obtain ⟨u31, rfl⟩ := fr_of (N := 129) (L := []) hO trivial
          replace S51 : St _ ((bx b2 [vU 0, vU 0] 27) :: (bx b1 [vU a3.1, vU a3.2] 27) :: (bx b5 [vU x6.1, vU x6.2] 27) :: (bx b6 [vU x8.1, vU x8.2] 27) :: (bx b9 [vU x11.1.1, vU x11.1.2] 27) :: As) _ := S51
          have L57 := Mem.rfl' m40
          refine s_mvv (v := a4v0) rfl ?_
          refine wpn ?_
          refine ⟨m40, Mem.tr L56 L57, ?_, facts_step HM rfl K L57 rfl rfl rfl, outP⟩
          show St _ ((bx b2 (bif L 17 then [vU x13.1, vU x13.2] else [vU 0, vU 0]) 27) :: (bx b1 [vU a3.1, vU a3.2] 27) :: (bx b5 [vU x6.1, vU x6.2] 27) :: (bx b6 [vU x8.1, vU x8.2] 27) :: (bx b9 [vU x11.1.1, vU x11.1.2] 27) :: As) _
          rw [d17]
          exact S51
        · intro L f32 w47 hL hd hc ⟨m41, L58, S52, K, hO⟩
          have d17 : L 17 = false := undep hc hL rfl
          replace S52 : St _ ((bx b2 (bif L 17 then [vU x13.1, vU x13.2] else [vU 0, vU 0]) 27) :: (bx b1 [vU a3.1, vU a3.2] 27) :: (bx b5 [vU x6.1, vU x6.2] 27) :: (bx b6 [vU x8.1, vU x8.2] 27) :: (bx b9 [vU x11.1.1, vU x11.1.2] 27) :: As) _ := S52
          rw [d17] at S52
          obtain ⟨u32, rfl⟩ := fr_of (N := 129) (L := []) hO trivial
          replace S52 : St _ ((bx b2 [vU 0, vU 0] 27) :: (bx b1 [vU a3.1, vU a3.2] 27) :: (bx b5 [vU x6.1, vU x6.2] 27) :: (bx b6 [vU x8.1, vU x8.2] 27) :: (bx b9 [vU x11.1.1, vU x11.1.2] 27) :: As) _ := S52
          have L59 := Mem.rfl' m41
          refine s_mvv (v := vI x2) rfl ?_
          refine wpn ?_
          refine ⟨m41, Mem.tr L58 L59, ?_, facts_step HM rfl K L59 rfl rfl rfl, outP⟩
          show St _ ((bx b2 (bif L 17 then [vU x13.1, vU x13.2] else [vU 0, vU 0]) 27) :: (bx b1 [vU a3.1, vU a3.2] 27) :: (bx b5 [vU x6.1, vU x6.2] 27) :: (bx b6 [vU x8.1, vU x8.2] 27) :: (bx b9 [vU x11.1.1, vU x11.1.2] 27) :: As) _
          rw [d17]
          exact S52
        · intro L f33 w48 hL hd hc ⟨m42, L60, S53, K, hO⟩
          have d17 : L 17 = false := undep hc hL rfl
          have d1 : L 1 = true := dep hd rfl
          have e27 := K 1 d1
          have d2 : L 2 = true := dep hd rfl
          have e28 := K 2 d2
          replace S53 : St _ ((bx b2 (bif L 17 then [vU x13.1, vU x13.2] else [vU 0, vU 0]) 27) :: (bx b1 [vU a3.1, vU a3.2] 27) :: (bx b5 [vU x6.1, vU x6.2] 27) :: (bx b6 [vU x8.1, vU x8.2] 27) :: (bx b9 [vU x11.1.1, vU x11.1.2] 27) :: As) _ := S53
          rw [d17] at S53
          obtain ⟨u33, rfl⟩ := fr_of (N := 129) (L := [(82, a4v0), (83, vI x2)]) hO ⟨e27, e28, trivial⟩
          replace S53 : St _ ((bx b2 [vU 0, vU 0] 27) :: (bx b1 [vU a3.1, vU a3.2] 27) :: (bx b5 [vU x6.1, vU x6.2] 27) :: (bx b6 [vU x8.1, vU x8.2] 27) :: (bx b9 [vU x11.1.1, vU x11.1.2] 27) :: As) _ := S53
          replace a4h0 := a4h0.up L60
          have L61 := Mem.rfl' m42
          refine s_idx (q := x12) rfl rfl a4h0 q12 Tryd.underlying22 Tryd.sizeOf27 ?_
          intro p2 c2 h11 r2
          obtain rfl := rep_arr2_UInt64 r2
          refine wpn ?_
          refine ⟨m42, Mem.tr L60 L61, ?_, facts_step HM rfl K L61 rfl rfl ⟨p2, rfl, h11⟩, outP⟩
          show St _ ((bx b2 (bif L 17 then [vU x13.1, vU x13.2] else [vU 0, vU 0]) 27) :: (bx b1 [vU a3.1, vU a3.2] 27) :: (bx b5 [vU x6.1, vU x6.2] 27) :: (bx b6 [vU x8.1, vU x8.2] 27) :: (bx b9 [vU x11.1.1, vU x11.1.2] 27) :: As) _
          rw [d17]
          exact S53
        · intro L f34 w49 hL hd hc ⟨m43, L62, S54, K, hO⟩
          have d17 : L 17 = false := undep hc hL rfl
          have d3 : L 3 = true := dep hd rfl
          obtain ⟨v9, e29, h12⟩ := K 3 d3
          replace S54 : St _ ((bx b2 (bif L 17 then [vU x13.1, vU x13.2] else [vU 0, vU 0]) 27) :: (bx b1 [vU a3.1, vU a3.2] 27) :: (bx b5 [vU x6.1, vU x6.2] 27) :: (bx b6 [vU x8.1, vU x8.2] 27) :: (bx b9 [vU x11.1.1, vU x11.1.2] 27) :: As) _ := S54
          rw [d17] at S54
          obtain ⟨u34, rfl⟩ := fr_of (N := 129) (L := [(84, v9)]) hO ⟨e29, trivial⟩
          replace S54 : St _ ((bx b2 [vU 0, vU 0] 27) :: (bx b1 [vU a3.1, vU a3.2] 27) :: (bx b5 [vU x6.1, vU x6.2] 27) :: (bx b6 [vU x8.1, vU x8.2] 27) :: (bx b9 [vU x11.1.1, vU x11.1.2] 27) :: As) _ := S54
          replace a4h0 := a4h0.up L62
          have L63 := Mem.rfl' m43
          refine s_ldM (cs := [vU x12.1, vU x12.2]) S54 rfl h12 rfl Tryd.isAgg27 Tryd.sizeOf27 (fun h => by cases h) ?_
          refine wpn ?_
          refine ⟨m43, Mem.tr L62 L63, ?_, facts_step HM rfl K L63 rfl rfl rfl, outP⟩
          show St _ ((bx b2 (bif L 17 then [vU x13.1, vU x13.2] else [vU 0, vU 0]) 27) :: (bx b1 [vU a3.1, vU a3.2] 27) :: (bx b5 [vU x6.1, vU x6.2] 27) :: (bx b6 [vU x8.1, vU x8.2] 27) :: (bx b9 [vU x11.1.1, vU x11.1.2] 27) :: As) _
          rw [d17]
          exact S54
        · intro L f35 w50 hL hd hc ⟨m44, L64, S55, K, hO⟩
          have d17 : L 17 = false := undep hc hL rfl
          have d0 : L 0 = true := dep hd rfl
          have e30 := K 0 d0
          have d4 : L 4 = true := dep hd rfl
          have e31 := K 4 d4
          replace S55 : St _ ((bx b2 (bif L 17 then [vU x13.1, vU x13.2] else [vU 0, vU 0]) 27) :: (bx b1 [vU a3.1, vU a3.2] 27) :: (bx b5 [vU x6.1, vU x6.2] 27) :: (bx b6 [vU x8.1, vU x8.2] 27) :: (bx b9 [vU x11.1.1, vU x11.1.2] 27) :: As) _ := S55
          rw [d17] at S55
          obtain ⟨u35, rfl⟩ := fr_of (N := 129) (L := [(81, .agg #[vU x11.1.1, vU x11.1.2]), (85, .agg #[vU x12.1, vU x12.2])]) hO ⟨e30, e31, trivial⟩
          replace S55 : St _ ((bx b2 [vU 0, vU 0] 27) :: (bx b1 [vU a3.1, vU a3.2] 27) :: (bx b5 [vU x6.1, vU x6.2] 27) :: (bx b6 [vU x8.1, vU x8.2] 27) :: (bx b9 [vU x11.1.1, vU x11.1.2] 27) :: As) _ := S55
          replace a4h0 := a4h0.up L64
          have L65 := Mem.rfl' m44
          refine s_call Tryd.call29 (w_hash_Pair (a0 := x11.1) (a1 := x12) S55  q13) rfl ?_
          rintro _ w51 ⟨m45, l12, S56, rfl⟩
          replace a4h0 := a4h0.up l12
          replace L65 := Mem.tr L65 l12
          clear S55
          replace S56 : St _ ((bx b2 [vU 0, vU 0] 27) :: (bx b1 [vU a3.1, vU a3.2] 27) :: (bx b5 [vU x6.1, vU x6.2] 27) :: (bx b6 [vU x8.1, vU x8.2] 27) :: (bx b9 [vU x11.1.1, vU x11.1.2] 27) :: As) _ := S56
          refine wpn ?_
          refine ⟨m45, Mem.tr L64 L65, ?_, facts_step HM rfl K L65 rfl rfl rfl, outP⟩
          show St _ ((bx b2 (bif L 17 then [vU x13.1, vU x13.2] else [vU 0, vU 0]) 27) :: (bx b1 [vU a3.1, vU a3.2] 27) :: (bx b5 [vU x6.1, vU x6.2] 27) :: (bx b6 [vU x8.1, vU x8.2] 27) :: (bx b9 [vU x11.1.1, vU x11.1.2] 27) :: As) _
          rw [d17]
          exact S56
        · intro L f36 w52 hL hd hc ⟨m46, L66, S57, K, hO⟩
          have d7 : L 7 = false := undep hc hL rfl
          have d15 : L 15 = false := undep hc d7 rfl
          have d17 : L 17 = false := undep hc d15 rfl
          replace S57 : St _ ((bx b2 (bif L 17 then [vU x13.1, vU x13.2] else [vU 0, vU 0]) 27) :: (bx b1 [vU a3.1, vU a3.2] 27) :: (bx b5 [vU x6.1, vU x6.2] 27) :: (bx b6 [vU x8.1, vU x8.2] 27) :: (bx b9 [vU x11.1.1, vU x11.1.2] 27) :: As) _ := S57
          rw [d17] at S57
          obtain ⟨u36, rfl⟩ := fr_of (N := 129) (L := []) hO trivial
          replace S57 : St _ ((bx b2 [vU 0, vU 0] 27) :: (bx b1 [vU a3.1, vU a3.2] 27) :: (bx b5 [vU x6.1, vU x6.2] 27) :: (bx b6 [vU x8.1, vU x8.2] 27) :: (bx b9 [vU x11.1.1, vU x11.1.2] 27) :: As) _ := S57
          have L67 := Mem.rfl' m46
          refine s_mvv (v := vb x11.2) rfl ?_
          refine wpn ?_
          refine ⟨m46, Mem.tr L66 L67, ?_, facts_step HM rfl K L67 rfl rfl rfl, outP⟩
          show St _ ((bx b2 (bif L 17 then [vU x13.1, vU x13.2] else [vU 0, vU 0]) 27) :: (bx b1 [vU a3.1, vU a3.2] 27) :: (bx b5 [vU x6.1, vU x6.2] 27) :: (bx b6 [vU x8.1, vU x8.2] 27) :: (bx b9 [vU x11.1.1, vU x11.1.2] 27) :: As) _
          rw [d17]
          exact S57
        · intro L f37 w53 hL hd hc ⟨m47, L68, S58, K, hO⟩
          have d15 : L 15 = false := undep hc hL rfl
          have d17 : L 17 = false := undep hc d15 rfl
          have d6 : L 6 = true := dep hd rfl
          have e32 := K 6 d6
          replace S58 : St _ ((bx b2 (bif L 17 then [vU x13.1, vU x13.2] else [vU 0, vU 0]) 27) :: (bx b1 [vU a3.1, vU a3.2] 27) :: (bx b5 [vU x6.1, vU x6.2] 27) :: (bx b6 [vU x8.1, vU x8.2] 27) :: (bx b9 [vU x11.1.1, vU x11.1.2] 27) :: As) _ := S58
          rw [d17] at S58
          obtain ⟨u37, rfl⟩ := fr_of (N := 129) (L := [(87, vb x11.2)]) hO ⟨e32, trivial⟩
          replace S58 : St _ ((bx b2 [vU 0, vU 0] 27) :: (bx b1 [vU a3.1, vU a3.2] 27) :: (bx b5 [vU x6.1, vU x6.2] 27) :: (bx b6 [vU x8.1, vU x8.2] 27) :: (bx b9 [vU x11.1.1, vU x11.1.2] 27) :: As) _ := S58
          have L69 := Mem.rfl' m47
          refine s_mvv (v := vb x11.2) rfl ?_
          refine wpn ?_
          refine ⟨m47, Mem.tr L68 L69, ?_, facts_step HM rfl K L69 rfl rfl rfl, outP⟩
          show St _ ((bx b2 (bif L 17 then [vU x13.1, vU x13.2] else [vU 0, vU 0]) 27) :: (bx b1 [vU a3.1, vU a3.2] 27) :: (bx b5 [vU x6.1, vU x6.2] 27) :: (bx b6 [vU x8.1, vU x8.2] 27) :: (bx b9 [vU x11.1.1, vU x11.1.2] 27) :: As) _
          rw [d17]
          exact S58
        · intro L f38 w54 hL hd hc ⟨m48, L70, S59, K, hO⟩
          rcases bool_tf x11.2 with hb4 | hb4
          · have d15 : L 15 = false := undep hc hL rfl
            have d17 : L 17 = false := undep hc d15 rfl
            have d7 : L 7 = true := dep hd rfl
            have e34 := K 7 d7
            replace S59 : St _ ((bx b2 (bif L 17 then [vU x13.1, vU x13.2] else [vU 0, vU 0]) 27) :: (bx b1 [vU a3.1, vU a3.2] 27) :: (bx b5 [vU x6.1, vU x6.2] 27) :: (bx b6 [vU x8.1, vU x8.2] 27) :: (bx b9 [vU x11.1.1, vU x11.1.2] 27) :: As) _ := S59
            rw [d17] at S59
            obtain ⟨u39, rfl⟩ := fr_of (N := 129) (L := [(88, vb x11.2)]) hO ⟨e34, trivial⟩
            replace S59 : St _ ((bx b2 [vU 0, vU 0] 27) :: (bx b1 [vU a3.1, vU a3.2] 27) :: (bx b5 [vU x6.1, vU x6.2] 27) :: (bx b6 [vU x8.1, vU x8.2] 27) :: (bx b9 [vU x11.1.1, vU x11.1.2] 27) :: As) _ := S59
            have L72 := Mem.rfl' m48
            refine wpl_no (d := 88) rfl rfl (congrArg Value.bool hb4) ?_
            refine wpn ?_
            refine ⟨m48, Mem.tr L70 L72, ?_, facts_step HM rfl K L72 rfl rfl ⟨fun hx => tf hx (not_f hb4), fun _ => rfl⟩, outP⟩
            show St _ ((bx b2 (bif L 17 then [vU x13.1, vU x13.2] else [vU 0, vU 0]) 27) :: (bx b1 [vU a3.1, vU a3.2] 27) :: (bx b5 [vU x6.1, vU x6.2] 27) :: (bx b6 [vU x8.1, vU x8.2] 27) :: (bx b9 [vU x11.1.1, vU x11.1.2] 27) :: As) _
            rw [d17]
            exact S59
          have d15 : L 15 = false := undep hc hL rfl
          have d17 : L 17 = false := undep hc d15 rfl
          have d7 : L 7 = true := dep hd rfl
          have e33 := K 7 d7
          replace S59 : St _ ((bx b2 (bif L 17 then [vU x13.1, vU x13.2] else [vU 0, vU 0]) 27) :: (bx b1 [vU a3.1, vU a3.2] 27) :: (bx b5 [vU x6.1, vU x6.2] 27) :: (bx b6 [vU x8.1, vU x8.2] 27) :: (bx b9 [vU x11.1.1, vU x11.1.2] 27) :: As) _ := S59
          rw [d17] at S59
          obtain ⟨u38, rfl⟩ := fr_of (N := 129) (L := [(88, vb x11.2)]) hO ⟨e33, trivial⟩
          replace S59 : St _ ((bx b2 [vU 0, vU 0] 27) :: (bx b1 [vU a3.1, vU a3.2] 27) :: (bx b5 [vU x6.1, vU x6.2] 27) :: (bx b6 [vU x8.1, vU x8.2] 27) :: (bx b9 [vU x11.1.1, vU x11.1.2] 27) :: As) _ := S59
          replace a4h0 := a4h0.up L70
          have L71 := Mem.rfl' m48
          refine wpl_yes (d := 88) rfl rfl (congrArg Value.bool hb4) ?_
          refine s_ld (i := 4) (cs := [vU x11.1.1, vU x11.1.2]) S59 rfl rfl Tryd.isAgg27 Tryd.sizeOf27 rfl (fun h => by cases h) ?_
          refine wpn ?_
          refine ⟨m48, Mem.tr L70 L71, ?_, facts_step HM rfl K L71 rfl rfl ⟨fun _ => rfl, fun hx => tf (not_t hb4) hx⟩, outP⟩
          show St _ ((bx b2 (bif L 17 then [vU x13.1, vU x13.2] else [vU 0, vU 0]) 27) :: (bx b1 [vU a3.1, vU a3.2] 27) :: (bx b5 [vU x6.1, vU x6.2] 27) :: (bx b6 [vU x8.1, vU x8.2] 27) :: (bx b9 [vU x11.1.1, vU x11.1.2] 27) :: As) _
          rw [d17]
          exact S59
        · intro L f39 w55 hL hd hc ⟨m49, L73, S60, K, hO⟩
          rcases bool_tf x11.2 with hb5 | hb5
          · have d11 : L 11 = false := undep hc hL rfl
            have d12 : L 12 = false := undep hc d11 rfl
            have d15 : L 15 = false := undep hc d12 rfl
            have d17 : L 17 = false := undep hc d15 rfl
            have d7 : L 7 = true := dep hd rfl
            have e36 := K 7 d7
            replace S60 : St _ ((bx b2 (bif L 17 then [vU x13.1, vU x13.2] else [vU 0, vU 0]) 27) :: (bx b1 [vU a3.1, vU a3.2] 27) :: (bx b5 [vU x6.1, vU x6.2] 27) :: (bx b6 [vU x8.1, vU x8.2] 27) :: (bx b9 [vU x11.1.1, vU x11.1.2] 27) :: As) _ := S60
            rw [d17] at S60
            obtain ⟨u41, rfl⟩ := fr_of (N := 129) (L := [(88, vb x11.2)]) hO ⟨e36, trivial⟩
            replace S60 : St _ ((bx b2 [vU 0, vU 0] 27) :: (bx b1 [vU a3.1, vU a3.2] 27) :: (bx b5 [vU x6.1, vU x6.2] 27) :: (bx b6 [vU x8.1, vU x8.2] 27) :: (bx b9 [vU x11.1.1, vU x11.1.2] 27) :: As) _ := S60
            have L75 := Mem.rfl' m49
            refine wpl_no (d := 88) rfl rfl (congrArg Value.bool hb5) ?_
            refine wpn ?_
            refine ⟨m49, Mem.tr L73 L75, ?_, facts_step HM rfl K L75 rfl rfl ⟨fun hx => tf hx (not_f hb5), fun _ => rfl⟩, outP⟩
            show St _ ((bx b2 (bif L 17 then [vU x13.1, vU x13.2] else [vU 0, vU 0]) 27) :: (bx b1 [vU a3.1, vU a3.2] 27) :: (bx b5 [vU x6.1, vU x6.2] 27) :: (bx b6 [vU x8.1, vU x8.2] 27) :: (bx b9 [vU x11.1.1, vU x11.1.2] 27) :: As) _
            rw [d17]
            exact S60
          have d11 : L 11 = false := undep hc hL rfl
          have d12 : L 12 = false := undep hc d11 rfl
          have d15 : L 15 = false := undep hc d12 rfl
          have d17 : L 17 = false := undep hc d15 rfl
          have d7 : L 7 = true := dep hd rfl
          have e35 := K 7 d7
          replace S60 : St _ ((bx b2 (bif L 17 then [vU x13.1, vU x13.2] else [vU 0, vU 0]) 27) :: (bx b1 [vU a3.1, vU a3.2] 27) :: (bx b5 [vU x6.1, vU x6.2] 27) :: (bx b6 [vU x8.1, vU x8.2] 27) :: (bx b9 [vU x11.1.1, vU x11.1.2] 27) :: As) _ := S60
          rw [d17] at S60
          obtain ⟨u40, rfl⟩ := fr_of (N := 129) (L := [(88, vb x11.2)]) hO ⟨e35, trivial⟩
          replace S60 : St _ ((bx b2 [vU 0, vU 0] 27) :: (bx b1 [vU a3.1, vU a3.2] 27) :: (bx b5 [vU x6.1, vU x6.2] 27) :: (bx b6 [vU x8.1, vU x8.2] 27) :: (bx b9 [vU x11.1.1, vU x11.1.2] 27) :: As) _ := S60
          have L74 := Mem.rfl' m49
          refine wpl_yes (d := 88) rfl rfl (congrArg Value.bool hb5) ?_
          refine s_mvv (v := a4v0) rfl ?_
          refine wpn ?_
          refine ⟨m49, Mem.tr L73 L74, ?_, facts_step HM rfl K L74 rfl rfl ⟨fun _ => rfl, fun hx => tf (not_t hb5) hx⟩, outP⟩
          show St _ ((bx b2 (bif L 17 then [vU x13.1, vU x13.2] else [vU 0, vU 0]) 27) :: (bx b1 [vU a3.1, vU a3.2] 27) :: (bx b5 [vU x6.1, vU x6.2] 27) :: (bx b6 [vU x8.1, vU x8.2] 27) :: (bx b9 [vU x11.1.1, vU x11.1.2] 27) :: As) _
          rw [d17]
          exact S60
        · intro L f40 w56 hL hd hc ⟨m50, L76, S61, K, hO⟩
          rcases bool_tf x11.2 with hb6 | hb6
          · have d11 : L 11 = false := undep hc hL rfl
            have d12 : L 12 = false := undep hc d11 rfl
            have d15 : L 15 = false := undep hc d12 rfl
            have d17 : L 17 = false := undep hc d15 rfl
            have d7 : L 7 = true := dep hd rfl
            have e38 := K 7 d7
            replace S61 : St _ ((bx b2 (bif L 17 then [vU x13.1, vU x13.2] else [vU 0, vU 0]) 27) :: (bx b1 [vU a3.1, vU a3.2] 27) :: (bx b5 [vU x6.1, vU x6.2] 27) :: (bx b6 [vU x8.1, vU x8.2] 27) :: (bx b9 [vU x11.1.1, vU x11.1.2] 27) :: As) _ := S61
            rw [d17] at S61
            obtain ⟨u43, rfl⟩ := fr_of (N := 129) (L := [(88, vb x11.2)]) hO ⟨e38, trivial⟩
            replace S61 : St _ ((bx b2 [vU 0, vU 0] 27) :: (bx b1 [vU a3.1, vU a3.2] 27) :: (bx b5 [vU x6.1, vU x6.2] 27) :: (bx b6 [vU x8.1, vU x8.2] 27) :: (bx b9 [vU x11.1.1, vU x11.1.2] 27) :: As) _ := S61
            have L78 := Mem.rfl' m50
            refine wpl_no (d := 88) rfl rfl (congrArg Value.bool hb6) ?_
            refine wpn ?_
            refine ⟨m50, Mem.tr L76 L78, ?_, facts_step HM rfl K L78 rfl rfl ⟨fun hx => tf hx (not_f hb6), fun _ => rfl⟩, outP⟩
            show St _ ((bx b2 (bif L 17 then [vU x13.1, vU x13.2] else [vU 0, vU 0]) 27) :: (bx b1 [vU a3.1, vU a3.2] 27) :: (bx b5 [vU x6.1, vU x6.2] 27) :: (bx b6 [vU x8.1, vU x8.2] 27) :: (bx b9 [vU x11.1.1, vU x11.1.2] 27) :: As) _
            rw [d17]
            exact S61
          have d11 : L 11 = false := undep hc hL rfl
          have d12 : L 12 = false := undep hc d11 rfl
          have d15 : L 15 = false := undep hc d12 rfl
          have d17 : L 17 = false := undep hc d15 rfl
          have d7 : L 7 = true := dep hd rfl
          have e37 := K 7 d7
          replace S61 : St _ ((bx b2 (bif L 17 then [vU x13.1, vU x13.2] else [vU 0, vU 0]) 27) :: (bx b1 [vU a3.1, vU a3.2] 27) :: (bx b5 [vU x6.1, vU x6.2] 27) :: (bx b6 [vU x8.1, vU x8.2] 27) :: (bx b9 [vU x11.1.1, vU x11.1.2] 27) :: As) _ := S61
          rw [d17] at S61
          obtain ⟨u42, rfl⟩ := fr_of (N := 129) (L := [(88, vb x11.2)]) hO ⟨e37, trivial⟩
          replace S61 : St _ ((bx b2 [vU 0, vU 0] 27) :: (bx b1 [vU a3.1, vU a3.2] 27) :: (bx b5 [vU x6.1, vU x6.2] 27) :: (bx b6 [vU x8.1, vU x8.2] 27) :: (bx b9 [vU x11.1.1, vU x11.1.2] 27) :: As) _ := S61
          have L77 := Mem.rfl' m50
          refine wpl_yes (d := 88) rfl rfl (congrArg Value.bool hb6) ?_
          refine s_mvv (v := vI x2) rfl ?_
          refine wpn ?_
          refine ⟨m50, Mem.tr L76 L77, ?_, facts_step HM rfl K L77 rfl rfl ⟨fun _ => rfl, fun hx => tf (not_t hb6) hx⟩, outP⟩
          show St _ ((bx b2 (bif L 17 then [vU x13.1, vU x13.2] else [vU 0, vU 0]) 27) :: (bx b1 [vU a3.1, vU a3.2] 27) :: (bx b5 [vU x6.1, vU x6.2] 27) :: (bx b6 [vU x8.1, vU x8.2] 27) :: (bx b9 [vU x11.1.1, vU x11.1.2] 27) :: As) _
          rw [d17]
          exact S61
        · intro L f41 w57 hL hd hc ⟨m51, L79, S62, K, hO⟩
          rcases bool_tf x11.2 with hb7 | hb7
          · have d12 : L 12 = false := undep hc hL rfl
            have d15 : L 15 = false := undep hc d12 rfl
            have d17 : L 17 = false := undep hc d15 rfl
            have d7 : L 7 = true := dep hd rfl
            have e42 := K 7 d7
            replace S62 : St _ ((bx b2 (bif L 17 then [vU x13.1, vU x13.2] else [vU 0, vU 0]) 27) :: (bx b1 [vU a3.1, vU a3.2] 27) :: (bx b5 [vU x6.1, vU x6.2] 27) :: (bx b6 [vU x8.1, vU x8.2] 27) :: (bx b9 [vU x11.1.1, vU x11.1.2] 27) :: As) _ := S62
            rw [d17] at S62
            obtain ⟨u45, rfl⟩ := fr_of (N := 129) (L := [(88, vb x11.2)]) hO ⟨e42, trivial⟩
            replace S62 : St _ ((bx b2 [vU 0, vU 0] 27) :: (bx b1 [vU a3.1, vU a3.2] 27) :: (bx b5 [vU x6.1, vU x6.2] 27) :: (bx b6 [vU x8.1, vU x8.2] 27) :: (bx b9 [vU x11.1.1, vU x11.1.2] 27) :: As) _ := S62
            have L81 := Mem.rfl' m51
            refine wpl_no (d := 88) rfl rfl (congrArg Value.bool hb7) ?_
            refine wpn ?_
            refine ⟨m51, Mem.tr L79 L81, ?_, facts_step HM rfl K L81 rfl rfl ⟨fun hx => tf hx (not_f hb7), fun _ => rfl⟩, outP⟩
            show St _ ((bx b2 (bif L 17 then [vU x13.1, vU x13.2] else [vU 0, vU 0]) 27) :: (bx b1 [vU a3.1, vU a3.2] 27) :: (bx b5 [vU x6.1, vU x6.2] 27) :: (bx b6 [vU x8.1, vU x8.2] 27) :: (bx b9 [vU x11.1.1, vU x11.1.2] 27) :: As) _
            rw [d17]
            exact S62
          have d12 : L 12 = false := undep hc hL rfl
          have d15 : L 15 = false := undep hc d12 rfl
          have d17 : L 17 = false := undep hc d15 rfl
          have d7 : L 7 = true := dep hd rfl
          have e39 := K 7 d7
          have d9 : L 9 = true := dep hd rfl
          have e40 := (K 9 d9).1 (not_t hb7)
          have d10 : L 10 = true := dep hd rfl
          have e41 := (K 10 d10).1 (not_t hb7)
          replace S62 : St _ ((bx b2 (bif L 17 then [vU x13.1, vU x13.2] else [vU 0, vU 0]) 27) :: (bx b1 [vU a3.1, vU a3.2] 27) :: (bx b5 [vU x6.1, vU x6.2] 27) :: (bx b6 [vU x8.1, vU x8.2] 27) :: (bx b9 [vU x11.1.1, vU x11.1.2] 27) :: As) _ := S62
          rw [d17] at S62
          obtain ⟨u44, rfl⟩ := fr_of (N := 129) (L := [(88, vb x11.2), (90, a4v0), (91, vI x2)]) hO ⟨e39, e40, e41, trivial⟩
          replace S62 : St _ ((bx b2 [vU 0, vU 0] 27) :: (bx b1 [vU a3.1, vU a3.2] 27) :: (bx b5 [vU x6.1, vU x6.2] 27) :: (bx b6 [vU x8.1, vU x8.2] 27) :: (bx b9 [vU x11.1.1, vU x11.1.2] 27) :: As) _ := S62
          replace a4h0 := a4h0.up L79
          have L80 := Mem.rfl' m51
          refine wpl_yes (d := 88) rfl rfl (congrArg Value.bool hb7) ?_
          replace q14 := gu_t (not_t hb7) q14
          refine s_idx (q := x14) rfl rfl a4h0 q14 Tryd.underlying22 Tryd.sizeOf27 ?_
          intro p3 c3 h13 r3
          obtain rfl := rep_arr2_UInt64 r3
          refine wpn ?_
          refine ⟨m51, Mem.tr L79 L80, ?_, facts_step HM rfl K L80 rfl rfl ⟨fun _ => ⟨p3, rfl, h13⟩, fun hx => tf (not_t hb7) hx⟩, outP⟩
          show St _ ((bx b2 (bif L 17 then [vU x13.1, vU x13.2] else [vU 0, vU 0]) 27) :: (bx b1 [vU a3.1, vU a3.2] 27) :: (bx b5 [vU x6.1, vU x6.2] 27) :: (bx b6 [vU x8.1, vU x8.2] 27) :: (bx b9 [vU x11.1.1, vU x11.1.2] 27) :: As) _
          rw [d17]
          exact S62
        · intro L f42 w58 hL hd hc ⟨m52, L82, S63, K, hO⟩
          rcases bool_tf x11.2 with hb8 | hb8
          · have d15 : L 15 = false := undep hc hL rfl
            have d17 : L 17 = false := undep hc d15 rfl
            have d7 : L 7 = true := dep hd rfl
            have e45 := K 7 d7
            replace S63 : St _ ((bx b2 (bif L 17 then [vU x13.1, vU x13.2] else [vU 0, vU 0]) 27) :: (bx b1 [vU a3.1, vU a3.2] 27) :: (bx b5 [vU x6.1, vU x6.2] 27) :: (bx b6 [vU x8.1, vU x8.2] 27) :: (bx b9 [vU x11.1.1, vU x11.1.2] 27) :: As) _ := S63
            rw [d17] at S63
            obtain ⟨u47, rfl⟩ := fr_of (N := 129) (L := [(88, vb x11.2)]) hO ⟨e45, trivial⟩
            replace S63 : St _ ((bx b2 [vU 0, vU 0] 27) :: (bx b1 [vU a3.1, vU a3.2] 27) :: (bx b5 [vU x6.1, vU x6.2] 27) :: (bx b6 [vU x8.1, vU x8.2] 27) :: (bx b9 [vU x11.1.1, vU x11.1.2] 27) :: As) _ := S63
            have L84 := Mem.rfl' m52
            refine wpl_no (d := 88) rfl rfl (congrArg Value.bool hb8) ?_
            refine wpn ?_
            refine ⟨m52, Mem.tr L82 L84, ?_, facts_step HM rfl K L84 rfl rfl ⟨fun hx => tf hx (not_f hb8), fun _ => rfl⟩, outP⟩
            show St _ ((bx b2 (bif L 17 then [vU x13.1, vU x13.2] else [vU 0, vU 0]) 27) :: (bx b1 [vU a3.1, vU a3.2] 27) :: (bx b5 [vU x6.1, vU x6.2] 27) :: (bx b6 [vU x8.1, vU x8.2] 27) :: (bx b9 [vU x11.1.1, vU x11.1.2] 27) :: As) _
            rw [d17]
            exact S63
          have d15 : L 15 = false := undep hc hL rfl
          have d17 : L 17 = false := undep hc d15 rfl
          have d7 : L 7 = true := dep hd rfl
          have e43 := K 7 d7
          have d11 : L 11 = true := dep hd rfl
          obtain ⟨v10, e44, h14⟩ := (K 11 d11).1 (not_t hb8)
          replace S63 : St _ ((bx b2 (bif L 17 then [vU x13.1, vU x13.2] else [vU 0, vU 0]) 27) :: (bx b1 [vU a3.1, vU a3.2] 27) :: (bx b5 [vU x6.1, vU x6.2] 27) :: (bx b6 [vU x8.1, vU x8.2] 27) :: (bx b9 [vU x11.1.1, vU x11.1.2] 27) :: As) _ := S63
          rw [d17] at S63
          obtain ⟨u46, rfl⟩ := fr_of (N := 129) (L := [(88, vb x11.2), (92, v10)]) hO ⟨e43, e44, trivial⟩
          replace S63 : St _ ((bx b2 [vU 0, vU 0] 27) :: (bx b1 [vU a3.1, vU a3.2] 27) :: (bx b5 [vU x6.1, vU x6.2] 27) :: (bx b6 [vU x8.1, vU x8.2] 27) :: (bx b9 [vU x11.1.1, vU x11.1.2] 27) :: As) _ := S63
          replace a4h0 := a4h0.up L82
          have L83 := Mem.rfl' m52
          refine wpl_yes (d := 88) rfl rfl (congrArg Value.bool hb8) ?_
          refine s_ldM (cs := [vU x14.1, vU x14.2]) S63 rfl h14 rfl Tryd.isAgg27 Tryd.sizeOf27 (fun h => by cases h) ?_
          refine wpn ?_
          refine ⟨m52, Mem.tr L82 L83, ?_, facts_step HM rfl K L83 rfl rfl ⟨fun _ => rfl, fun hx => tf (not_t hb8) hx⟩, outP⟩
          show St _ ((bx b2 (bif L 17 then [vU x13.1, vU x13.2] else [vU 0, vU 0]) 27) :: (bx b1 [vU a3.1, vU a3.2] 27) :: (bx b5 [vU x6.1, vU x6.2] 27) :: (bx b6 [vU x8.1, vU x8.2] 27) :: (bx b9 [vU x11.1.1, vU x11.1.2] 27) :: As) _
          rw [d17]
          exact S63
        · intro L f43 w59 hL hd hc ⟨m53, L85, S64, K, hO⟩
          rcases bool_tf x11.2 with hb9 | hb9
          · have d15 : L 15 = false := undep hc hL rfl
            have d17 : L 17 = false := undep hc d15 rfl
            have d7 : L 7 = true := dep hd rfl
            have e47 := K 7 d7
            replace S64 : St _ ((bx b2 (bif L 17 then [vU x13.1, vU x13.2] else [vU 0, vU 0]) 27) :: (bx b1 [vU a3.1, vU a3.2] 27) :: (bx b5 [vU x6.1, vU x6.2] 27) :: (bx b6 [vU x8.1, vU x8.2] 27) :: (bx b9 [vU x11.1.1, vU x11.1.2] 27) :: As) _ := S64
            rw [d17] at S64
            obtain ⟨u49, rfl⟩ := fr_of (N := 129) (L := [(88, vb x11.2)]) hO ⟨e47, trivial⟩
            replace S64 : St _ ((bx b2 [vU 0, vU 0] 27) :: (bx b1 [vU a3.1, vU a3.2] 27) :: (bx b5 [vU x6.1, vU x6.2] 27) :: (bx b6 [vU x8.1, vU x8.2] 27) :: (bx b9 [vU x11.1.1, vU x11.1.2] 27) :: As) _ := S64
            have L87 := Mem.rfl' m53
            refine wpl_no (d := 88) rfl rfl (congrArg Value.bool hb9) ?_
            refine wpn ?_
            refine ⟨m53, Mem.tr L85 L87, ?_, facts_step HM rfl K L87 rfl rfl ⟨fun hx => tf hx (not_f hb9), fun _ => rfl⟩, outP⟩
            show St _ ((bx b2 (bif L 17 then [vU x13.1, vU x13.2] else [vU 0, vU 0]) 27) :: (bx b1 [vU a3.1, vU a3.2] 27) :: (bx b5 [vU x6.1, vU x6.2] 27) :: (bx b6 [vU x8.1, vU x8.2] 27) :: (bx b9 [vU x11.1.1, vU x11.1.2] 27) :: As) _
            rw [d17]
            exact S64
          have d15 : L 15 = false := undep hc hL rfl
          have d17 : L 17 = false := undep hc d15 rfl
          have d7 : L 7 = true := dep hd rfl
          have e46 := K 7 d7
          replace S64 : St _ ((bx b2 (bif L 17 then [vU x13.1, vU x13.2] else [vU 0, vU 0]) 27) :: (bx b1 [vU a3.1, vU a3.2] 27) :: (bx b5 [vU x6.1, vU x6.2] 27) :: (bx b6 [vU x8.1, vU x8.2] 27) :: (bx b9 [vU x11.1.1, vU x11.1.2] 27) :: As) _ := S64
          rw [d17] at S64
          obtain ⟨u48, rfl⟩ := fr_of (N := 129) (L := [(88, vb x11.2)]) hO ⟨e46, trivial⟩
          replace S64 : St _ ((bx b2 [vU 0, vU 0] 27) :: (bx b1 [vU a3.1, vU a3.2] 27) :: (bx b5 [vU x6.1, vU x6.2] 27) :: (bx b6 [vU x8.1, vU x8.2] 27) :: (bx b9 [vU x11.1.1, vU x11.1.2] 27) :: As) _ := S64
          replace a4h0 := a4h0.up L85
          have L86 := Mem.rfl' m53
          refine wpl_yes (d := 88) rfl rfl (congrArg Value.bool hb9) ?_
          refine s_ld (i := 2) (cs := [vU x6.1, vU x6.2]) S64 rfl rfl Tryd.isAgg27 Tryd.sizeOf27 rfl (fun h => by cases h) ?_
          refine wpn ?_
          refine ⟨m53, Mem.tr L85 L86, ?_, facts_step HM rfl K L86 rfl rfl ⟨fun _ => rfl, fun hx => tf (not_t hb9) hx⟩, outP⟩
          show St _ ((bx b2 (bif L 17 then [vU x13.1, vU x13.2] else [vU 0, vU 0]) 27) :: (bx b1 [vU a3.1, vU a3.2] 27) :: (bx b5 [vU x6.1, vU x6.2] 27) :: (bx b6 [vU x8.1, vU x8.2] 27) :: (bx b9 [vU x11.1.1, vU x11.1.2] 27) :: As) _
          rw [d17]
          exact S64
        · intro L f44 w60 hL hd hc ⟨m54, L88, S65, K, hO⟩
          rcases bool_tf x11.2 with hb10 | hb10
          · have d15 : L 15 = false := undep hc hL rfl
            have d17 : L 17 = false := undep hc d15 rfl
            have d7 : L 7 = true := dep hd rfl
            have e49 := K 7 d7
            replace S65 : St _ ((bx b2 (bif L 17 then [vU x13.1, vU x13.2] else [vU 0, vU 0]) 27) :: (bx b1 [vU a3.1, vU a3.2] 27) :: (bx b5 [vU x6.1, vU x6.2] 27) :: (bx b6 [vU x8.1, vU x8.2] 27) :: (bx b9 [vU x11.1.1, vU x11.1.2] 27) :: As) _ := S65
            rw [d17] at S65
            obtain ⟨u51, rfl⟩ := fr_of (N := 129) (L := [(88, vb x11.2)]) hO ⟨e49, trivial⟩
            replace S65 : St _ ((bx b2 [vU 0, vU 0] 27) :: (bx b1 [vU a3.1, vU a3.2] 27) :: (bx b5 [vU x6.1, vU x6.2] 27) :: (bx b6 [vU x8.1, vU x8.2] 27) :: (bx b9 [vU x11.1.1, vU x11.1.2] 27) :: As) _ := S65
            have L90 := Mem.rfl' m54
            refine wpl_no (d := 88) rfl rfl (congrArg Value.bool hb10) ?_
            refine wpn ?_
            refine ⟨m54, Mem.tr L88 L90, ?_, facts_step HM rfl K L90 rfl rfl ⟨fun hx => tf hx (not_f hb10), fun _ => rfl⟩, outP⟩
            show St _ ((bx b2 (bif L 17 then [vU x13.1, vU x13.2] else [vU 0, vU 0]) 27) :: (bx b1 [vU a3.1, vU a3.2] 27) :: (bx b5 [vU x6.1, vU x6.2] 27) :: (bx b6 [vU x8.1, vU x8.2] 27) :: (bx b9 [vU x11.1.1, vU x11.1.2] 27) :: As) _
            rw [d17]
            exact S65
          have d15 : L 15 = false := undep hc hL rfl
          have d17 : L 17 = false := undep hc d15 rfl
          have d7 : L 7 = true := dep hd rfl
          have e48 := K 7 d7
          replace S65 : St _ ((bx b2 (bif L 17 then [vU x13.1, vU x13.2] else [vU 0, vU 0]) 27) :: (bx b1 [vU a3.1, vU a3.2] 27) :: (bx b5 [vU x6.1, vU x6.2] 27) :: (bx b6 [vU x8.1, vU x8.2] 27) :: (bx b9 [vU x11.1.1, vU x11.1.2] 27) :: As) _ := S65
          rw [d17] at S65
          obtain ⟨u50, rfl⟩ := fr_of (N := 129) (L := [(88, vb x11.2)]) hO ⟨e48, trivial⟩
          replace S65 : St _ ((bx b2 [vU 0, vU 0] 27) :: (bx b1 [vU a3.1, vU a3.2] 27) :: (bx b5 [vU x6.1, vU x6.2] 27) :: (bx b6 [vU x8.1, vU x8.2] 27) :: (bx b9 [vU x11.1.1, vU x11.1.2] 27) :: As) _ := S65
          replace a4h0 := a4h0.up L88
          have L89 := Mem.rfl' m54
          refine wpl_yes (d := 88) rfl rfl (congrArg Value.bool hb10) ?_
          refine s_ld (i := 3) (cs := [vU x8.1, vU x8.2]) S65 rfl rfl Tryd.isAgg27 Tryd.sizeOf27 rfl (fun h => by cases h) ?_
          refine wpn ?_
          refine ⟨m54, Mem.tr L88 L89, ?_, facts_step HM rfl K L89 rfl rfl ⟨fun _ => rfl, fun hx => tf (not_t hb10) hx⟩, outP⟩
          show St _ ((bx b2 (bif L 17 then [vU x13.1, vU x13.2] else [vU 0, vU 0]) 27) :: (bx b1 [vU a3.1, vU a3.2] 27) :: (bx b5 [vU x6.1, vU x6.2] 27) :: (bx b6 [vU x8.1, vU x8.2] 27) :: (bx b9 [vU x11.1.1, vU x11.1.2] 27) :: As) _
          rw [d17]
          exact S65
        · intro L f45 w61 hL hd hc ⟨m55, L91, S66, K, hO⟩
          rcases bool_tf x11.2 with hb11 | hb11
          · have d17 : L 17 = false := undep hc hL rfl
            have d7 : L 7 = true := dep hd rfl
            have e55 := K 7 d7
            replace S66 : St _ ((bx b2 (bif L 17 then [vU x13.1, vU x13.2] else [vU 0, vU 0]) 27) :: (bx b1 [vU a3.1, vU a3.2] 27) :: (bx b5 [vU x6.1, vU x6.2] 27) :: (bx b6 [vU x8.1, vU x8.2] 27) :: (bx b9 [vU x11.1.1, vU x11.1.2] 27) :: As) _ := S66
            rw [d17] at S66
            obtain ⟨u53, rfl⟩ := fr_of (N := 129) (L := [(88, vb x11.2)]) hO ⟨e55, trivial⟩
            replace S66 : St _ ((bx b2 [vU 0, vU 0] 27) :: (bx b1 [vU a3.1, vU a3.2] 27) :: (bx b5 [vU x6.1, vU x6.2] 27) :: (bx b6 [vU x8.1, vU x8.2] 27) :: (bx b9 [vU x11.1.1, vU x11.1.2] 27) :: As) _ := S66
            have L93 := Mem.rfl' m55
            refine wpl_no (d := 88) rfl rfl (congrArg Value.bool hb11) ?_
            refine wpn ?_
            refine ⟨m55, Mem.tr L91 L93, ?_, facts_step HM rfl K L93 rfl rfl ⟨fun hx => tf hx (not_f hb11), fun _ => rfl⟩, outP⟩
            show St _ ((bx b2 (bif L 17 then [vU x13.1, vU x13.2] else [vU 0, vU 0]) 27) :: (bx b1 [vU a3.1, vU a3.2] 27) :: (bx b5 [vU x6.1, vU x6.2] 27) :: (bx b6 [vU x8.1, vU x8.2] 27) :: (bx b9 [vU x11.1.1, vU x11.1.2] 27) :: As) _
            rw [d17]
            exact S66
          have d17 : L 17 = false := undep hc hL rfl
          have d7 : L 7 = true := dep hd rfl
          have e50 := K 7 d7
          have d8 : L 8 = true := dep hd rfl
          have e51 := (K 8 d8).1 (not_t hb11)
          have d12 : L 12 = true := dep hd rfl
          have e52 := (K 12 d12).1 (not_t hb11)
          have d13 : L 13 = true := dep hd rfl
          have e53 := (K 13 d13).1 (not_t hb11)
          have d14 : L 14 = true := dep hd rfl
          have e54 := (K 14 d14).1 (not_t hb11)
          replace S66 : St _ ((bx b2 (bif L 17 then [vU x13.1, vU x13.2] else [vU 0, vU 0]) 27) :: (bx b1 [vU a3.1, vU a3.2] 27) :: (bx b5 [vU x6.1, vU x6.2] 27) :: (bx b6 [vU x8.1, vU x8.2] 27) :: (bx b9 [vU x11.1.1, vU x11.1.2] 27) :: As) _ := S66
          rw [d17] at S66
          obtain ⟨u52, rfl⟩ := fr_of (N := 129) (L := [(88, vb x11.2), (89, .agg #[vU x11.1.1, vU x11.1.2]), (93, .agg #[vU x14.1, vU x14.2]), (94, .agg #[vU x6.1, vU x6.2]), (95, .agg #[vU x8.1, vU x8.2])]) hO ⟨e50, e51, e52, e53, e54, trivial⟩
          replace S66 : St _ ((bx b2 [vU 0, vU 0] 27) :: (bx b1 [vU a3.1, vU a3.2] 27) :: (bx b5 [vU x6.1, vU x6.2] 27) :: (bx b6 [vU x8.1, vU x8.2] 27) :: (bx b9 [vU x11.1.1, vU x11.1.2] 27) :: As) _ := S66
          replace a4h0 := a4h0.up L91
          have L92 := Mem.rfl' m55
          refine wpl_yes (d := 88) rfl rfl (congrArg Value.bool hb11) ?_
          replace q15 := gu_t (not_t hb11) q15
          refine s_call Tryd.call54 (w_law08_unlike (a0 := x11.1) (a1 := x14) (a2 := x6) (a3 := x8) S66  q15) rfl ?_
          rintro _ w62 ⟨m56, l13, S67, rfl⟩
          replace a4h0 := a4h0.up l13
          replace L92 := Mem.tr L92 l13
          clear S66
          replace S67 : St _ ((bx b2 [vU 0, vU 0] 27) :: (bx b1 [vU a3.1, vU a3.2] 27) :: (bx b5 [vU x6.1, vU x6.2] 27) :: (bx b6 [vU x8.1, vU x8.2] 27) :: (bx b9 [vU x11.1.1, vU x11.1.2] 27) :: As) _ := S67
          refine wpn ?_
          refine ⟨m56, Mem.tr L91 L92, ?_, facts_step HM rfl K L92 rfl rfl ⟨fun _ => rfl, fun hx => tf (not_t hb11) hx⟩, outP⟩
          show St _ ((bx b2 (bif L 17 then [vU x13.1, vU x13.2] else [vU 0, vU 0]) 27) :: (bx b1 [vU a3.1, vU a3.2] 27) :: (bx b5 [vU x6.1, vU x6.2] 27) :: (bx b6 [vU x8.1, vU x8.2] 27) :: (bx b9 [vU x11.1.1, vU x11.1.2] 27) :: As) _
          rw [d17]
          exact S67
        · intro L f46 w63 hL hd hc ⟨m57, L94, S68, K, hO⟩
          rcases bool_tf x11.2 with hb12 | hb12
          · have d7 : L 7 = true := dep hd rfl
            have e56 := K 7 d7
            obtain ⟨u54, rfl⟩ := fr_of (N := 129) (L := [(88, vb x11.2)]) hO ⟨e56, trivial⟩
            replace S68 : St _ ((bx b2 (bif L 17 then [vU x13.1, vU x13.2] else [vU 0, vU 0]) 27) :: (bx b1 [vU a3.1, vU a3.2] 27) :: (bx b5 [vU x6.1, vU x6.2] 27) :: (bx b6 [vU x8.1, vU x8.2] 27) :: (bx b9 [vU x11.1.1, vU x11.1.2] 27) :: As) _ := S68
            have L95 := Mem.rfl' m57
            refine s_pickT (congrArg Value.bool hb12) rfl ?_
            refine wpn ?_
            refine ⟨m57, Mem.tr L94 L95, ?_, facts_step HM rfl K L95 rfl rfl (congrArg Value.bool (or_t hb12)), outP⟩
            exact S68
          · have d7 : L 7 = true := dep hd rfl
            have e57 := K 7 d7
            have d15 : L 15 = true := dep hd rfl
            have e58 := (K 15 d15).1 (not_t hb12)
            obtain ⟨u55, rfl⟩ := fr_of (N := 129) (L := [(88, vb x11.2), (96, vb x15)]) hO ⟨e57, e58, trivial⟩
            replace S68 : St _ ((bx b2 (bif L 17 then [vU x13.1, vU x13.2] else [vU 0, vU 0]) 27) :: (bx b1 [vU a3.1, vU a3.2] 27) :: (bx b5 [vU x6.1, vU x6.2] 27) :: (bx b6 [vU x8.1, vU x8.2] 27) :: (bx b9 [vU x11.1.1, vU x11.1.2] 27) :: As) _ := S68
            have L96 := Mem.rfl' m57
            refine s_pickF (congrArg Value.bool hb12) rfl ?_
            refine wpn ?_
            refine ⟨m57, Mem.tr L94 L96, ?_, facts_step HM rfl K L96 rfl rfl (congrArg Value.bool (or_f hb12)), outP⟩
            exact S68
        · intro L f47 w64 hL hd hc ⟨m58, L97, S69, K, hO⟩
          have d17 : L 17 = false := hL
          have d5 : L 5 = true := dep hd rfl
          have e59 := K 5 d5
          replace S69 : St _ ((bx b2 (bif L 17 then [vU x13.1, vU x13.2] else [vU 0, vU 0]) 27) :: (bx b1 [vU a3.1, vU a3.2] 27) :: (bx b5 [vU x6.1, vU x6.2] 27) :: (bx b6 [vU x8.1, vU x8.2] 27) :: (bx b9 [vU x11.1.1, vU x11.1.2] 27) :: As) _ := S69
          rw [d17] at S69
          obtain ⟨u56, rfl⟩ := fr_of (N := 129) (L := [(86, .agg #[vU x13.1, vU x13.2])]) hO ⟨e59, trivial⟩
          replace S69 : St _ ((bx b2 [vU 0, vU 0] 27) :: (bx b1 [vU a3.1, vU a3.2] 27) :: (bx b5 [vU x6.1, vU x6.2] 27) :: (bx b6 [vU x8.1, vU x8.2] 27) :: (bx b9 [vU x11.1.1, vU x11.1.2] 27) :: As) _ := S69
          replace a4h0 := a4h0.up L97
          have L98 := Mem.rfl' m58
          refine s_stL (i := 0) S69 rfl rfl rfl Tryd.sizeOf27 (oneC rfl (oneC rfl oneN)) rfl ?_
          intro w65 S70
          replace S70 : St _ ((bx b2 [vU x13.1, vU x13.2] 27) :: (bx b1 [vU a3.1, vU a3.2] 27) :: (bx b5 [vU x6.1, vU x6.2] 27) :: (bx b6 [vU x8.1, vU x8.2] 27) :: (bx b9 [vU x11.1.1, vU x11.1.2] 27) :: As) _ := S70
          clear S69
          refine wpn ?_
          refine ⟨m58, Mem.tr L97 L98, ?_, facts_none HM K L98 rfl (fun _ => trivial), outP⟩
          exact S70
      intro L f48 w66 hall ⟨m59, L99, S71, K, hO⟩
      have d17 : L 17 = true := hall 17 (by decide)
      have d16 : L 16 = true := hall 16 (by decide)
      have e60 := K 16 d16
      replace S71 : St _ ((bx b2 (bif L 17 then [vU x13.1, vU x13.2] else [vU 0, vU 0]) 27) :: (bx b1 [vU a3.1, vU a3.2] 27) :: (bx b5 [vU x6.1, vU x6.2] 27) :: (bx b6 [vU x8.1, vU x8.2] 27) :: (bx b9 [vU x11.1.1, vU x11.1.2] 27) :: As) _ := S71
      rw [d17] at S71
      obtain ⟨u57, rfl⟩ := fr_of (N := 129) (L := [(97, vb (x11.2 || x15))]) hO ⟨e60, trivial⟩
      replace S71 : St _ ((bx b2 [vU x13.1, vU x13.2] 27) :: (bx b1 [vU a3.1, vU a3.2] 27) :: (bx b5 [vU x6.1, vU x6.2] 27) :: (bx b6 [vU x8.1, vU x8.2] 27) :: (bx b9 [vU x11.1.1, vU x11.1.2] 27) :: As) _ := S71
      replace a4h0 := a4h0.up L99
      replace L0 := Mem.tr L0 L99
      clear S49
      refine s_asv (v := vb (x11.2 || x15)) rfl ?_
      refine wpl_nil ?_
      refine nrm ?_
      refine wpc_ret ?_
      refine thR ?_
      refine outRw ?_
      intro we hpd
      replace S71 := St.pd S71 hpd
      have SR := S71
      obtain ⟨m60, l14, S72⟩ := St.drop S71 0
      replace L0 := Mem.tr L0 l14
      replace S72 : St _ ((bx b1 [vU a3.1, vU a3.2] 27) :: (bx b5 [vU x6.1, vU x6.2] 27) :: (bx b6 [vU x8.1, vU x8.2] 27) :: (bx b9 [vU x11.1.1, vU x11.1.2] 27) :: As) _ := S72
      obtain ⟨m61, l15, S73⟩ := St.drop S72 0
      replace L0 := Mem.tr L0 l15
      clear S72
      replace S73 : St _ ((bx b5 [vU x6.1, vU x6.2] 27) :: (bx b6 [vU x8.1, vU x8.2] 27) :: (bx b9 [vU x11.1.1, vU x11.1.2] 27) :: As) _ := S73
      obtain ⟨m62, l16, S74⟩ := St.drop S73 0
      replace L0 := Mem.tr L0 l16
      clear S73
      replace S74 : St _ ((bx b6 [vU x8.1, vU x8.2] 27) :: (bx b9 [vU x11.1.1, vU x11.1.2] 27) :: As) _ := S74
      obtain ⟨m63, l17, S75⟩ := St.drop S74 0
      replace L0 := Mem.tr L0 l17
      clear S74
      replace S75 : St _ ((bx b9 [vU x11.1.1, vU x11.1.2] 27) :: As) _ := S75
      obtain ⟨m64, l18, S76⟩ := St.drop S75 0
      replace L0 := Mem.tr L0 l18
      clear S75
      replace S76 : St _ (As) _ := S76
      have e0 := Option.some.inj hm
      subst e0
      exact outR [_, _] rfl ⟨res_box (i := 0) (off := 0) (cs := [vU x13.1, vU x13.2]) SR rfl rfl Tryd.isAgg27 Tryd.sizeOf27 rfl (fun h => by cases h), rfl, trivial⟩ ⟨_, L0, S76, rfl⟩
    replace hm := ifF hc4 hm
    refine wpc_skip ?_
    refine nrm ?_
    refine wpc_seq ?_
    obtain ⟨x16, q16, hm⟩ := obind_some hm
    obtain ⟨x17, q17, hm⟩ := obind_some hm
    obtain ⟨x18, q18, hm⟩ := obind_some hm
    have HM : MonoAll [(99, fun (M : Mem) (v : Value) => v = a0v0), (100, fun (M : Mem) (v : Value) => v = vI x4), (101, fun (M : Mem) (v : Value) => ∃ (v11 : Value), v = v11 ∧ SlR M v11 x16), (102, fun (M : Mem) (v : Value) => v = vI a1), (103, fun (M : Mem) (v : Value) => v = vI x4), (104, fun (M : Mem) (v : Value) => v = vI (w64 (a1 - x4))), (105, fun (M : Mem) (v : Value) => v = .agg #[vU a3.1, vU a3.2]), (106, fun (M : Mem) (v : Value) => v = a4v0), (107, fun (M : Mem) (v : Value) => v = vI x2), (108, fun (M : Mem) (v : Value) => ∃ (v12 : Value), v = v12 ∧ SlR M v12 x17), (109, fun (M : Mem) (v : Value) => v = .tuple #[.agg #[vU x18.1.1, vU x18.1.2], vb x18.2]), (98, fun (M : Mem) (v : Value) => v = .tuple #[.agg #[vU x18.1.1, vU x18.1.2], vb x18.2]), (110, fun (M : Mem) (v : Value) => v = .agg #[vU x18.1.1, vU x18.1.2]), (111, fun (M : Mem) (v : Value) => v = vb x18.2), (18, fun (M : Mem) (v : Value) => ∃ (b10 : Nat), v = pt b10 0), (100015, fun _ _ => True)] := ⟨(fun _ _ _ _ h => h), (fun _ _ _ _ h => h), (fun _ _ _ l ⟨v11, e, h15⟩ => ⟨v11, e, h15.up l⟩), (fun _ _ _ _ h => h), (fun _ _ _ _ h => h), (fun _ _ _ _ h => h), (fun _ _ _ _ h => h), (fun _ _ _ _ h => h), (fun _ _ _ _ h => h), (fun _ _ _ l ⟨v12, e, h16⟩ => ⟨v12, e, h16.up l⟩), (fun _ _ _ _ h => h), (fun _ _ _ _ h => h), (fun _ _ _ _ h => h), (fun _ _ _ _ h => h), (fun _ _ _ _ h => h), (fun _ _ _ _ h => h), trivial⟩
    refine wpc_flowG HM 16 mixed rfl rfl rfl [18, 98, 99, 100, 101, 102, 103, 104, 105, 106, 107, 108, 109, 110, 111] (fun L f M w => St M ((bx b2 [vU 0, vU 0] 27) :: (bx b1 [vU a3.1, vU a3.2] 27) :: (bx b5 [vU x6.1, vU x6.2] 27) :: (bx b6 [vU x8.1, vU x8.2] 27) :: ((bif L 14 then [bxv (f 18) (bif L 15 then [vU x18.1.1, vU x18.1.2] else [vU 0, vU 0]) 27] else []) ++ As)) w) (St.drew S30 _) ?_ ?_
    · refine ⟨?_, ?_, ?_, ?_, ?_, ?_, ?_, ?_, ?_, ?_, ?_, ?_, ?_, ?_, ?_, ?_, trivial⟩
      · intro L f49 w67 hL hd hc ⟨m65, L100, S78, K, hO⟩
        have d15 : L 15 = false := undep hc hL rfl
        replace S78 : St _ ((bx b2 [vU 0, vU 0] 27) :: (bx b1 [vU a3.1, vU a3.2] 27) :: (bx b5 [vU x6.1, vU x6.2] 27) :: (bx b6 [vU x8.1, vU x8.2] 27) :: ((bif L 14 then [bxv (f49 18) (bif L 15 then [vU x18.1.1, vU x18.1.2] else [vU 0, vU 0]) 27] else []) ++ As)) _ := S78
        rw [d15] at S78
        obtain ⟨u58, rfl⟩ := fr_of (N := 129) (L := []) hO trivial
        replace S78 : St _ ((bx b2 [vU 0, vU 0] 27) :: (bx b1 [vU a3.1, vU a3.2] 27) :: (bx b5 [vU x6.1, vU x6.2] 27) :: (bx b6 [vU x8.1, vU x8.2] 27) :: ((bif L 14 then [bxv _ (bif false then [vU x18.1.1, vU x18.1.2] else [vU 0, vU 0]) 27] else []) ++ As)) _ := S78
        have L101 := Mem.rfl' m65
        refine s_mvv (v := a0v0) rfl ?_
        refine wpn ?_
        refine ⟨m65, Mem.tr L100 L101, ?_, facts_step HM rfl K L101 rfl rfl rfl, outP⟩
        show St _ ((bx b2 [vU 0, vU 0] 27) :: (bx b1 [vU a3.1, vU a3.2] 27) :: (bx b5 [vU x6.1, vU x6.2] 27) :: (bx b6 [vU x8.1, vU x8.2] 27) :: ((bif L 14 then [bxv _ (bif L 15 then [vU x18.1.1, vU x18.1.2] else [vU 0, vU 0]) 27] else []) ++ As)) _
        rw [d15]
        exact S78
      · intro L f50 w68 hL hd hc ⟨m66, L102, S79, K, hO⟩
        have d15 : L 15 = false := undep hc hL rfl
        replace S79 : St _ ((bx b2 [vU 0, vU 0] 27) :: (bx b1 [vU a3.1, vU a3.2] 27) :: (bx b5 [vU x6.1, vU x6.2] 27) :: (bx b6 [vU x8.1, vU x8.2] 27) :: ((bif L 14 then [bxv (f50 18) (bif L 15 then [vU x18.1.1, vU x18.1.2] else [vU 0, vU 0]) 27] else []) ++ As)) _ := S79
        rw [d15] at S79
        obtain ⟨u59, rfl⟩ := fr_of (N := 129) (L := []) hO trivial
        replace S79 : St _ ((bx b2 [vU 0, vU 0] 27) :: (bx b1 [vU a3.1, vU a3.2] 27) :: (bx b5 [vU x6.1, vU x6.2] 27) :: (bx b6 [vU x8.1, vU x8.2] 27) :: ((bif L 14 then [bxv _ (bif false then [vU x18.1.1, vU x18.1.2] else [vU 0, vU 0]) 27] else []) ++ As)) _ := S79
        have L103 := Mem.rfl' m66
        refine s_mvv (v := vI x4) rfl ?_
        refine wpn ?_
        refine ⟨m66, Mem.tr L102 L103, ?_, facts_step HM rfl K L103 rfl rfl rfl, outP⟩
        show St _ ((bx b2 [vU 0, vU 0] 27) :: (bx b1 [vU a3.1, vU a3.2] 27) :: (bx b5 [vU x6.1, vU x6.2] 27) :: (bx b6 [vU x8.1, vU x8.2] 27) :: ((bif L 14 then [bxv _ (bif L 15 then [vU x18.1.1, vU x18.1.2] else [vU 0, vU 0]) 27] else []) ++ As)) _
        rw [d15]
        exact S79
      · intro L f51 w69 hL hd hc ⟨m67, L104, S80, K, hO⟩
        have d15 : L 15 = false := undep hc hL rfl
        have d0 : L 0 = true := dep hd rfl
        have e61 := K 0 d0
        have d1 : L 1 = true := dep hd rfl
        have e62 := K 1 d1
        replace S80 : St _ ((bx b2 [vU 0, vU 0] 27) :: (bx b1 [vU a3.1, vU a3.2] 27) :: (bx b5 [vU x6.1, vU x6.2] 27) :: (bx b6 [vU x8.1, vU x8.2] 27) :: ((bif L 14 then [bxv (f51 18) (bif L 15 then [vU x18.1.1, vU x18.1.2] else [vU 0, vU 0]) 27] else []) ++ As)) _ := S80
        rw [d15] at S80
        obtain ⟨u60, rfl⟩ := fr_of (N := 129) (L := [(99, a0v0), (100, vI x4)]) hO ⟨e61, e62, trivial⟩
        replace S80 : St _ ((bx b2 [vU 0, vU 0] 27) :: (bx b1 [vU a3.1, vU a3.2] 27) :: (bx b5 [vU x6.1, vU x6.2] 27) :: (bx b6 [vU x8.1, vU x8.2] 27) :: ((bif L 14 then [bxv _ (bif false then [vU x18.1.1, vU x18.1.2] else [vU 0, vU 0]) 27] else []) ++ As)) _ := S80
        replace a0h0 := a0h0.up L104
        replace a4h0 := a4h0.up L104
        have L105 := Mem.rfl' m67
        refine s_cut (ys := x16) (l := x4) (h := (a0.length : Int)) rfl a0h0 Tryd.underlying22 Tryd.sizeOf27 (.inr ⟨_, rfl⟩) (.inl ⟨rfl, rfl⟩) (.inl rfl) q16 ?_
        intro v11 h15
        refine wpn ?_
        refine ⟨m67, Mem.tr L104 L105, ?_, facts_step HM rfl K L105 rfl rfl ⟨v11, rfl, h15⟩, outP⟩
        show St _ ((bx b2 [vU 0, vU 0] 27) :: (bx b1 [vU a3.1, vU a3.2] 27) :: (bx b5 [vU x6.1, vU x6.2] 27) :: (bx b6 [vU x8.1, vU x8.2] 27) :: ((bif L 14 then [bxv _ (bif L 15 then [vU x18.1.1, vU x18.1.2] else [vU 0, vU 0]) 27] else []) ++ As)) _
        rw [d15]
        exact S80
      · intro L f52 w70 hL hd hc ⟨m68, L106, S81, K, hO⟩
        have d15 : L 15 = false := undep hc hL rfl
        replace S81 : St _ ((bx b2 [vU 0, vU 0] 27) :: (bx b1 [vU a3.1, vU a3.2] 27) :: (bx b5 [vU x6.1, vU x6.2] 27) :: (bx b6 [vU x8.1, vU x8.2] 27) :: ((bif L 14 then [bxv (f52 18) (bif L 15 then [vU x18.1.1, vU x18.1.2] else [vU 0, vU 0]) 27] else []) ++ As)) _ := S81
        rw [d15] at S81
        obtain ⟨u61, rfl⟩ := fr_of (N := 129) (L := []) hO trivial
        replace S81 : St _ ((bx b2 [vU 0, vU 0] 27) :: (bx b1 [vU a3.1, vU a3.2] 27) :: (bx b5 [vU x6.1, vU x6.2] 27) :: (bx b6 [vU x8.1, vU x8.2] 27) :: ((bif L 14 then [bxv _ (bif false then [vU x18.1.1, vU x18.1.2] else [vU 0, vU 0]) 27] else []) ++ As)) _ := S81
        have L107 := Mem.rfl' m68
        refine s_mvv (v := vI a1) rfl ?_
        refine wpn ?_
        refine ⟨m68, Mem.tr L106 L107, ?_, facts_step HM rfl K L107 rfl rfl rfl, outP⟩
        show St _ ((bx b2 [vU 0, vU 0] 27) :: (bx b1 [vU a3.1, vU a3.2] 27) :: (bx b5 [vU x6.1, vU x6.2] 27) :: (bx b6 [vU x8.1, vU x8.2] 27) :: ((bif L 14 then [bxv _ (bif L 15 then [vU x18.1.1, vU x18.1.2] else [vU 0, vU 0]) 27] else []) ++ As)) _
        rw [d15]
        exact S81
      · intro L f53 w71 hL hd hc ⟨m69, L108, S82, K, hO⟩
        have d15 : L 15 = false := undep hc hL rfl
        replace S82 : St _ ((bx b2 [vU 0, vU 0] 27) :: (bx b1 [vU a3.1, vU a3.2] 27) :: (bx b5 [vU x6.1, vU x6.2] 27) :: (bx b6 [vU x8.1, vU x8.2] 27) :: ((bif L 14 then [bxv (f53 18) (bif L 15 then [vU x18.1.1, vU x18.1.2] else [vU 0, vU 0]) 27] else []) ++ As)) _ := S82
        rw [d15] at S82
        obtain ⟨u62, rfl⟩ := fr_of (N := 129) (L := []) hO trivial
        replace S82 : St _ ((bx b2 [vU 0, vU 0] 27) :: (bx b1 [vU a3.1, vU a3.2] 27) :: (bx b5 [vU x6.1, vU x6.2] 27) :: (bx b6 [vU x8.1, vU x8.2] 27) :: ((bif L 14 then [bxv _ (bif false then [vU x18.1.1, vU x18.1.2] else [vU 0, vU 0]) 27] else []) ++ As)) _ := S82
        have L109 := Mem.rfl' m69
        refine s_mvv (v := vI x4) rfl ?_
        refine wpn ?_
        refine ⟨m69, Mem.tr L108 L109, ?_, facts_step HM rfl K L109 rfl rfl rfl, outP⟩
        show St _ ((bx b2 [vU 0, vU 0] 27) :: (bx b1 [vU a3.1, vU a3.2] 27) :: (bx b5 [vU x6.1, vU x6.2] 27) :: (bx b6 [vU x8.1, vU x8.2] 27) :: ((bif L 14 then [bxv _ (bif L 15 then [vU x18.1.1, vU x18.1.2] else [vU 0, vU 0]) 27] else []) ++ As)) _
        rw [d15]
        exact S82
      · intro L f54 w72 hL hd hc ⟨m70, L110, S83, K, hO⟩
        have d15 : L 15 = false := undep hc hL rfl
        have d3 : L 3 = true := dep hd rfl
        have e63 := K 3 d3
        have d4 : L 4 = true := dep hd rfl
        have e64 := K 4 d4
        replace S83 : St _ ((bx b2 [vU 0, vU 0] 27) :: (bx b1 [vU a3.1, vU a3.2] 27) :: (bx b5 [vU x6.1, vU x6.2] 27) :: (bx b6 [vU x8.1, vU x8.2] 27) :: ((bif L 14 then [bxv (f54 18) (bif L 15 then [vU x18.1.1, vU x18.1.2] else [vU 0, vU 0]) 27] else []) ++ As)) _ := S83
        rw [d15] at S83
        obtain ⟨u63, rfl⟩ := fr_of (N := 129) (L := [(102, vI a1), (103, vI x4)]) hO ⟨e63, e64, trivial⟩
        replace S83 : St _ ((bx b2 [vU 0, vU 0] 27) :: (bx b1 [vU a3.1, vU a3.2] 27) :: (bx b5 [vU x6.1, vU x6.2] 27) :: (bx b6 [vU x8.1, vU x8.2] 27) :: ((bif L 14 then [bxv _ (bif false then [vU x18.1.1, vU x18.1.2] else [vU 0, vU 0]) 27] else []) ++ As)) _ := S83
        have L111 := Mem.rfl' m70
        refine s_subI (m := a1) (n := x4) rfl rfl ?_
        refine wpn ?_
        refine ⟨m70, Mem.tr L110 L111, ?_, facts_step HM rfl K L111 rfl rfl rfl, outP⟩
        show St _ ((bx b2 [vU 0, vU 0] 27) :: (bx b1 [vU a3.1, vU a3.2] 27) :: (bx b5 [vU x6.1, vU x6.2] 27) :: (bx b6 [vU x8.1, vU x8.2] 27) :: ((bif L 14 then [bxv _ (bif L 15 then [vU x18.1.1, vU x18.1.2] else [vU 0, vU 0]) 27] else []) ++ As)) _
        rw [d15]
        exact S83
      · intro L f55 w73 hL hd hc ⟨m71, L112, S84, K, hO⟩
        have d15 : L 15 = false := undep hc hL rfl
        replace S84 : St _ ((bx b2 [vU 0, vU 0] 27) :: (bx b1 [vU a3.1, vU a3.2] 27) :: (bx b5 [vU x6.1, vU x6.2] 27) :: (bx b6 [vU x8.1, vU x8.2] 27) :: ((bif L 14 then [bxv (f55 18) (bif L 15 then [vU x18.1.1, vU x18.1.2] else [vU 0, vU 0]) 27] else []) ++ As)) _ := S84
        rw [d15] at S84
        obtain ⟨u64, rfl⟩ := fr_of (N := 129) (L := []) hO trivial
        replace S84 : St _ ((bx b2 [vU 0, vU 0] 27) :: (bx b1 [vU a3.1, vU a3.2] 27) :: (bx b5 [vU x6.1, vU x6.2] 27) :: (bx b6 [vU x8.1, vU x8.2] 27) :: ((bif L 14 then [bxv _ (bif false then [vU x18.1.1, vU x18.1.2] else [vU 0, vU 0]) 27] else []) ++ As)) _ := S84
        replace a0h0 := a0h0.up L112
        replace a4h0 := a4h0.up L112
        have L113 := Mem.rfl' m71
        refine s_ld (i := 1) (cs := [vU a3.1, vU a3.2]) S84 rfl rfl Tryd.isAgg27 Tryd.sizeOf27 rfl (fun h => by cases h) ?_
        refine wpn ?_
        refine ⟨m71, Mem.tr L112 L113, ?_, facts_step HM rfl K L113 rfl rfl rfl, outP⟩
        show St _ ((bx b2 [vU 0, vU 0] 27) :: (bx b1 [vU a3.1, vU a3.2] 27) :: (bx b5 [vU x6.1, vU x6.2] 27) :: (bx b6 [vU x8.1, vU x8.2] 27) :: ((bif L 14 then [bxv _ (bif L 15 then [vU x18.1.1, vU x18.1.2] else [vU 0, vU 0]) 27] else []) ++ As)) _
        rw [d15]
        exact S84
      · intro L f56 w74 hL hd hc ⟨m72, L114, S85, K, hO⟩
        have d15 : L 15 = false := undep hc hL rfl
        replace S85 : St _ ((bx b2 [vU 0, vU 0] 27) :: (bx b1 [vU a3.1, vU a3.2] 27) :: (bx b5 [vU x6.1, vU x6.2] 27) :: (bx b6 [vU x8.1, vU x8.2] 27) :: ((bif L 14 then [bxv (f56 18) (bif L 15 then [vU x18.1.1, vU x18.1.2] else [vU 0, vU 0]) 27] else []) ++ As)) _ := S85
        rw [d15] at S85
        obtain ⟨u65, rfl⟩ := fr_of (N := 129) (L := []) hO trivial
        replace S85 : St _ ((bx b2 [vU 0, vU 0] 27) :: (bx b1 [vU a3.1, vU a3.2] 27) :: (bx b5 [vU x6.1, vU x6.2] 27) :: (bx b6 [vU x8.1, vU x8.2] 27) :: ((bif L 14 then [bxv _ (bif false then [vU x18.1.1, vU x18.1.2] else [vU 0, vU 0]) 27] else []) ++ As)) _ := S85
        have L115 := Mem.rfl' m72
        refine s_mvv (v := a4v0) rfl ?_
        refine wpn ?_
        refine ⟨m72, Mem.tr L114 L115, ?_, facts_step HM rfl K L115 rfl rfl rfl, outP⟩
        show St _ ((bx b2 [vU 0, vU 0] 27) :: (bx b1 [vU a3.1, vU a3.2] 27) :: (bx b5 [vU x6.1, vU x6.2] 27) :: (bx b6 [vU x8.1, vU x8.2] 27) :: ((bif L 14 then [bxv _ (bif L 15 then [vU x18.1.1, vU x18.1.2] else [vU 0, vU 0]) 27] else []) ++ As)) _
        rw [d15]
        exact S85
      · intro L f57 w75 hL hd hc ⟨m73, L116, S86, K, hO⟩
        have d15 : L 15 = false := undep hc hL rfl
        replace S86 : St _ ((bx b2 [vU 0, vU 0] 27) :: (bx b1 [vU a3.1, vU a3.2] 27) :: (bx b5 [vU x6.1, vU x6.2] 27) :: (bx b6 [vU x8.1, vU x8.2] 27) :: ((bif L 14 then [bxv (f57 18) (bif L 15 then [vU x18.1.1, vU x18.1.2] else [vU 0, vU 0]) 27] else []) ++ As)) _ := S86
        rw [d15] at S86
        obtain ⟨u66, rfl⟩ := fr_of (N := 129) (L := []) hO trivial
        replace S86 : St _ ((bx b2 [vU 0, vU 0] 27) :: (bx b1 [vU a3.1, vU a3.2] 27) :: (bx b5 [vU x6.1, vU x6.2] 27) :: (bx b6 [vU x8.1, vU x8.2] 27) :: ((bif L 14 then [bxv _ (bif false then [vU x18.1.1, vU x18.1.2] else [vU 0, vU 0]) 27] else []) ++ As)) _ := S86
        have L117 := Mem.rfl' m73
        refine s_mvv (v := vI x2) rfl ?_
        refine wpn ?_
        refine ⟨m73, Mem.tr L116 L117, ?_, facts_step HM rfl K L117 rfl rfl rfl, outP⟩
        show St _ ((bx b2 [vU 0, vU 0] 27) :: (bx b1 [vU a3.1, vU a3.2] 27) :: (bx b5 [vU x6.1, vU x6.2] 27) :: (bx b6 [vU x8.1, vU x8.2] 27) :: ((bif L 14 then [bxv _ (bif L 15 then [vU x18.1.1, vU x18.1.2] else [vU 0, vU 0]) 27] else []) ++ As)) _
        rw [d15]
        exact S86
      · intro L f58 w76 hL hd hc ⟨m74, L118, S87, K, hO⟩
        have d15 : L 15 = false := undep hc hL rfl
        have d7 : L 7 = true := dep hd rfl
        have e65 := K 7 d7
        have d8 : L 8 = true := dep hd rfl
        have e66 := K 8 d8
        replace S87 : St _ ((bx b2 [vU 0, vU 0] 27) :: (bx b1 [vU a3.1, vU a3.2] 27) :: (bx b5 [vU x6.1, vU x6.2] 27) :: (bx b6 [vU x8.1, vU x8.2] 27) :: ((bif L 14 then [bxv (f58 18) (bif L 15 then [vU x18.1.1, vU x18.1.2] else [vU 0, vU 0]) 27] else []) ++ As)) _ := S87
        rw [d15] at S87
        obtain ⟨u67, rfl⟩ := fr_of (N := 129) (L := [(106, a4v0), (107, vI x2)]) hO ⟨e65, e66, trivial⟩
        replace S87 : St _ ((bx b2 [vU 0, vU 0] 27) :: (bx b1 [vU a3.1, vU a3.2] 27) :: (bx b5 [vU x6.1, vU x6.2] 27) :: (bx b6 [vU x8.1, vU x8.2] 27) :: ((bif L 14 then [bxv _ (bif false then [vU x18.1.1, vU x18.1.2] else [vU 0, vU 0]) 27] else []) ++ As)) _ := S87
        replace a0h0 := a0h0.up L118
        replace a4h0 := a4h0.up L118
        have L119 := Mem.rfl' m74
        refine s_cut (ys := x17) (l := 0) (h := x2) rfl a4h0 Tryd.underlying22 Tryd.sizeOf27 (.inl ⟨rfl, rfl⟩) (.inr ⟨_, rfl⟩) (.inl rfl) q17 ?_
        intro v12 h16
        refine wpn ?_
        refine ⟨m74, Mem.tr L118 L119, ?_, facts_step HM rfl K L119 rfl rfl ⟨v12, rfl, h16⟩, outP⟩
        show St _ ((bx b2 [vU 0, vU 0] 27) :: (bx b1 [vU a3.1, vU a3.2] 27) :: (bx b5 [vU x6.1, vU x6.2] 27) :: (bx b6 [vU x8.1, vU x8.2] 27) :: ((bif L 14 then [bxv _ (bif L 15 then [vU x18.1.1, vU x18.1.2] else [vU 0, vU 0]) 27] else []) ++ As)) _
        rw [d15]
        exact S87
      · intro L f59 w77 hL hd hc ⟨m75, L120, S88, K, hO⟩
        have d15 : L 15 = false := undep hc hL rfl
        have d2 : L 2 = true := dep hd rfl
        obtain ⟨v13, e67, h17⟩ := K 2 d2
        have d5 : L 5 = true := dep hd rfl
        have e68 := K 5 d5
        have d6 : L 6 = true := dep hd rfl
        have e69 := K 6 d6
        have d9 : L 9 = true := dep hd rfl
        obtain ⟨v14, e70, h18⟩ := K 9 d9
        replace S88 : St _ ((bx b2 [vU 0, vU 0] 27) :: (bx b1 [vU a3.1, vU a3.2] 27) :: (bx b5 [vU x6.1, vU x6.2] 27) :: (bx b6 [vU x8.1, vU x8.2] 27) :: ((bif L 14 then [bxv (f59 18) (bif L 15 then [vU x18.1.1, vU x18.1.2] else [vU 0, vU 0]) 27] else []) ++ As)) _ := S88
        rw [d15] at S88
        obtain ⟨u68, rfl⟩ := fr_of (N := 129) (L := [(101, v13), (104, vI (w64 (a1 - x4))), (105, .agg #[vU a3.1, vU a3.2]), (108, v14)]) hO ⟨e67, e68, e69, e70, trivial⟩
        replace S88 : St _ ((bx b2 [vU 0, vU 0] 27) :: (bx b1 [vU a3.1, vU a3.2] 27) :: (bx b5 [vU x6.1, vU x6.2] 27) :: (bx b6 [vU x8.1, vU x8.2] 27) :: ((bif L 14 then [bxv _ (bif false then [vU x18.1.1, vU x18.1.2] else [vU 0, vU 0]) 27] else []) ++ As)) _ := S88
        replace a0h0 := a0h0.up L120
        replace a4h0 := a4h0.up L120
        have L121 := Mem.rfl' m75
        refine s_call Tryd.call28 (ih (a0 := x16) (a1 := (w64 (a1 - x4))) (a2 := false) (a3 := a3) (a4 := x17) S88 h17 h18 q18) rfl ?_
        rintro _ w78 ⟨m76, l19, S89, rfl⟩
        replace a0h0 := a0h0.up l19
        replace a4h0 := a4h0.up l19
        replace h17 := h17.up l19
        replace h18 := h18.up l19
        replace L121 := Mem.tr L121 l19
        clear S88
        replace S89 : St _ ((bx b2 [vU 0, vU 0] 27) :: (bx b1 [vU a3.1, vU a3.2] 27) :: (bx b5 [vU x6.1, vU x6.2] 27) :: (bx b6 [vU x8.1, vU x8.2] 27) :: ((bif L 14 then [bxv _ (bif false then [vU x18.1.1, vU x18.1.2] else [vU 0, vU 0]) 27] else []) ++ As)) _ := S89
        refine wpn ?_
        refine ⟨m76, Mem.tr L120 L121, ?_, facts_step HM rfl K L121 rfl rfl rfl, outP⟩
        show St _ ((bx b2 [vU 0, vU 0] 27) :: (bx b1 [vU a3.1, vU a3.2] 27) :: (bx b5 [vU x6.1, vU x6.2] 27) :: (bx b6 [vU x8.1, vU x8.2] 27) :: ((bif L 14 then [bxv _ (bif L 15 then [vU x18.1.1, vU x18.1.2] else [vU 0, vU 0]) 27] else []) ++ As)) _
        rw [d15]
        exact S89
      · intro L f60 w79 hL hd hc ⟨m77, L122, S90, K, hO⟩
        have d15 : L 15 = false := undep hc hL rfl
        have d10 : L 10 = true := dep hd rfl
        have e71 := K 10 d10
        replace S90 : St _ ((bx b2 [vU 0, vU 0] 27) :: (bx b1 [vU a3.1, vU a3.2] 27) :: (bx b5 [vU x6.1, vU x6.2] 27) :: (bx b6 [vU x8.1, vU x8.2] 27) :: ((bif L 14 then [bxv (f60 18) (bif L 15 then [vU x18.1.1, vU x18.1.2] else [vU 0, vU 0]) 27] else []) ++ As)) _ := S90
        rw [d15] at S90
        obtain ⟨u69, rfl⟩ := fr_of (N := 129) (L := [(109, .tuple #[.agg #[vU x18.1.1, vU x18.1.2], vb x18.2])]) hO ⟨e71, trivial⟩
        replace S90 : St _ ((bx b2 [vU 0, vU 0] 27) :: (bx b1 [vU a3.1, vU a3.2] 27) :: (bx b5 [vU x6.1, vU x6.2] 27) :: (bx b6 [vU x8.1, vU x8.2] 27) :: ((bif L 14 then [bxv _ (bif false then [vU x18.1.1, vU x18.1.2] else [vU 0, vU 0]) 27] else []) ++ As)) _ := S90
        have L123 := Mem.rfl' m77
        refine s_mvv (v := .tuple #[.agg #[vU x18.1.1, vU x18.1.2], vb x18.2]) rfl ?_
        refine wpn ?_
        refine ⟨m77, Mem.tr L122 L123, ?_, facts_step HM rfl K L123 rfl rfl rfl, outP⟩
        show St _ ((bx b2 [vU 0, vU 0] 27) :: (bx b1 [vU a3.1, vU a3.2] 27) :: (bx b5 [vU x6.1, vU x6.2] 27) :: (bx b6 [vU x8.1, vU x8.2] 27) :: ((bif L 14 then [bxv _ (bif L 15 then [vU x18.1.1, vU x18.1.2] else [vU 0, vU 0]) 27] else []) ++ As)) _
        rw [d15]
        exact S90
      · intro L f61 w80 hL hd hc ⟨m78, L124, S91, K, hO⟩
        have d15 : L 15 = false := undep hc hL rfl
        have d11 : L 11 = true := dep hd rfl
        have e72 := K 11 d11
        replace S91 : St _ ((bx b2 [vU 0, vU 0] 27) :: (bx b1 [vU a3.1, vU a3.2] 27) :: (bx b5 [vU x6.1, vU x6.2] 27) :: (bx b6 [vU x8.1, vU x8.2] 27) :: ((bif L 14 then [bxv (f61 18) (bif L 15 then [vU x18.1.1, vU x18.1.2] else [vU 0, vU 0]) 27] else []) ++ As)) _ := S91
        rw [d15] at S91
        obtain ⟨u70, rfl⟩ := fr_of (N := 129) (L := [(98, .tuple #[.agg #[vU x18.1.1, vU x18.1.2], vb x18.2])]) hO ⟨e72, trivial⟩
        replace S91 : St _ ((bx b2 [vU 0, vU 0] 27) :: (bx b1 [vU a3.1, vU a3.2] 27) :: (bx b5 [vU x6.1, vU x6.2] 27) :: (bx b6 [vU x8.1, vU x8.2] 27) :: ((bif L 14 then [bxv _ (bif false then [vU x18.1.1, vU x18.1.2] else [vU 0, vU 0]) 27] else []) ++ As)) _ := S91
        have L125 := Mem.rfl' m78
        refine s_ext (i := 0) rfl rfl ?_
        refine wpn ?_
        refine ⟨m78, Mem.tr L124 L125, ?_, facts_step HM rfl K L125 rfl rfl rfl, outP⟩
        show St _ ((bx b2 [vU 0, vU 0] 27) :: (bx b1 [vU a3.1, vU a3.2] 27) :: (bx b5 [vU x6.1, vU x6.2] 27) :: (bx b6 [vU x8.1, vU x8.2] 27) :: ((bif L 14 then [bxv _ (bif L 15 then [vU x18.1.1, vU x18.1.2] else [vU 0, vU 0]) 27] else []) ++ As)) _
        rw [d15]
        exact S91
      · intro L f62 w81 hL hd hc ⟨m79, L126, S92, K, hO⟩
        have d11 : L 11 = true := dep hd rfl
        have e73 := K 11 d11
        obtain ⟨u71, rfl⟩ := fr_of (N := 129) (L := [(98, .tuple #[.agg #[vU x18.1.1, vU x18.1.2], vb x18.2])]) hO ⟨e73, trivial⟩
        replace S92 : St _ ((bx b2 [vU 0, vU 0] 27) :: (bx b1 [vU a3.1, vU a3.2] 27) :: (bx b5 [vU x6.1, vU x6.2] 27) :: (bx b6 [vU x8.1, vU x8.2] 27) :: ((bif L 14 then [bxv _ (bif L 15 then [vU x18.1.1, vU x18.1.2] else [vU 0, vU 0]) 27] else []) ++ As)) _ := S92
        have L127 := Mem.rfl' m79
        refine s_ext (i := 1) rfl rfl ?_
        refine wpn ?_
        refine ⟨m79, Mem.tr L126 L127, ?_, facts_step HM rfl K L127 rfl rfl rfl, outP⟩
        exact S92
      · intro L f63 w82 hL hd hc ⟨m80, L128, S93, K, hO⟩
        have d14 : L 14 = false := hL
        have d15 : L 15 = false := undep hc hL rfl
        replace S93 : St _ ((bx b2 [vU 0, vU 0] 27) :: (bx b1 [vU a3.1, vU a3.2] 27) :: (bx b5 [vU x6.1, vU x6.2] 27) :: (bx b6 [vU x8.1, vU x8.2] 27) :: ((bif L 14 then [bxv (f63 18) (bif L 15 then [vU x18.1.1, vU x18.1.2] else [vU 0, vU 0]) 27] else []) ++ As)) _ := S93
        rw [d14, d15] at S93
        obtain ⟨u72, rfl⟩ := fr_of (N := 129) (L := []) hO trivial
        replace S93 : St _ ((bx b2 [vU 0, vU 0] 27) :: (bx b1 [vU a3.1, vU a3.2] 27) :: (bx b5 [vU x6.1, vU x6.2] 27) :: (bx b6 [vU x8.1, vU x8.2] 27) :: As) _ := S93
        replace a0h0 := a0h0.up L128
        replace a4h0 := a4h0.up L128
        have L129 := Mem.rfl' m80
        refine s_alloc S93 Tryd.zeroValue27 ?_
        intro b10 w83 S94
        replace S94 : St _ ((bx b10 [vU 0, vU 0] 27) :: (bx b2 [vU 0, vU 0] 27) :: (bx b1 [vU a3.1, vU a3.2] 27) :: (bx b5 [vU x6.1, vU x6.2] 27) :: (bx b6 [vU x8.1, vU x8.2] 27) :: As) _ := S94
        clear S93
        refine wpn ?_
        refine ⟨m80, Mem.tr L128 L129, ?_, facts_step HM rfl K L129 rfl rfl ⟨b10, rfl⟩, outP⟩
        show St _ ((bx b2 [vU 0, vU 0] 27) :: (bx b1 [vU a3.1, vU a3.2] 27) :: (bx b5 [vU x6.1, vU x6.2] 27) :: (bx b6 [vU x8.1, vU x8.2] 27) :: ((bif true then [bxv _ (bif L 15 then [vU x18.1.1, vU x18.1.2] else [vU 0, vU 0]) 27] else []) ++ As)) _
        rw [d15]
        have S125 : St _ ((bx b2 [vU 0, vU 0] 27) :: (bx b1 [vU a3.1, vU a3.2] 27) :: (bx b5 [vU x6.1, vU x6.2] 27) :: (bx b6 [vU x8.1, vU x8.2] 27) :: (bx b10 [vU 0, vU 0] 27) :: As) _ := St.perm S94 (List.Perm.trans (List.Perm.swap _ _ _) (List.Perm.trans (List.Perm.cons _ (List.Perm.swap _ _ _)) (List.Perm.trans (List.Perm.cons _ (List.Perm.cons _ (List.Perm.swap _ _ _))) (List.Perm.cons _ (List.Perm.cons _ (List.Perm.cons _ (List.Perm.swap _ _ _)))))))
        exact S125
      · intro L f64 w84 hL hd hc ⟨m81, L130, S95, K, hO⟩
        have d14 : L 14 = true := dep hd rfl
        have d15 : L 15 = false := hL
        obtain ⟨b11, e74⟩ := K 14 d14
        have d12 : L 12 = true := dep hd rfl
        have e75 := K 12 d12
        replace S95 : St _ ((bx b2 [vU 0, vU 0] 27) :: (bx b1 [vU a3.1, vU a3.2] 27) :: (bx b5 [vU x6.1, vU x6.2] 27) :: (bx b6 [vU x8.1, vU x8.2] 27) :: ((bif L 14 then [bxv (f64 18) (bif L 15 then [vU x18.1.1, vU x18.1.2] else [vU 0, vU 0]) 27] else []) ++ As)) _ := S95
        rw [d14, d15] at S95
        obtain ⟨u73, rfl⟩ := fr_of (N := 129) (L := [(18, pt b11 0), (110, .agg #[vU x18.1.1, vU x18.1.2])]) hO ⟨e74, e75, trivial⟩
        replace S95 : St _ ((bx b2 [vU 0, vU 0] 27) :: (bx b1 [vU a3.1, vU a3.2] 27) :: (bx b5 [vU x6.1, vU x6.2] 27) :: (bx b6 [vU x8.1, vU x8.2] 27) :: (bx b11 [vU 0, vU 0] 27) :: As) _ := S95
        replace a0h0 := a0h0.up L130
        replace a4h0 := a4h0.up L130
        have L131 := Mem.rfl' m81
        refine s_stL (i := 4) S95 rfl rfl rfl Tryd.sizeOf27 (oneC rfl (oneC rfl oneN)) rfl ?_
        intro w85 S96
        replace S96 : St _ ((bx b2 [vU 0, vU 0] 27) :: (bx b1 [vU a3.1, vU a3.2] 27) :: (bx b5 [vU x6.1, vU x6.2] 27) :: (bx b6 [vU x8.1, vU x8.2] 27) :: (bx b11 [vU x18.1.1, vU x18.1.2] 27) :: As) _ := S96
        clear S95
        refine wpn ?_
        refine ⟨m81, Mem.tr L130 L131, ?_, facts_none HM K L131 rfl (fun _ => trivial), outP⟩
        show St _ ((bx b2 [vU 0, vU 0] 27) :: (bx b1 [vU a3.1, vU a3.2] 27) :: (bx b5 [vU x6.1, vU x6.2] 27) :: (bx b6 [vU x8.1, vU x8.2] 27) :: ((bif L 14 then [bxv _ (bif true then [vU x18.1.1, vU x18.1.2] else [vU 0, vU 0]) 27] else []) ++ As)) _
        rw [d14]
        exact S96
    intro L f65 w86 hall ⟨m82, L132, S97, K, hO⟩
    have d14 : L 14 = true := hall 14 (by decide)
    have d15 : L 15 = true := hall 15 (by decide)
    obtain ⟨b12, e76⟩ := K 14 d14
    have d13 : L 13 = true := hall 13 (by decide)
    have e77 := K 13 d13
    replace S97 : St _ ((bx b2 [vU 0, vU 0] 27) :: (bx b1 [vU a3.1, vU a3.2] 27) :: (bx b5 [vU x6.1, vU x6.2] 27) :: (bx b6 [vU x8.1, vU x8.2] 27) :: ((bif L 14 then [bxv (f65 18) (bif L 15 then [vU x18.1.1, vU x18.1.2] else [vU 0, vU 0]) 27] else []) ++ As)) _ := S97
    rw [d14, d15] at S97
    obtain ⟨u74, rfl⟩ := fr_of (N := 129) (L := [(18, pt b12 0), (111, vb x18.2)]) hO ⟨e76, e77, trivial⟩
    replace S97 : St _ ((bx b2 [vU 0, vU 0] 27) :: (bx b1 [vU a3.1, vU a3.2] 27) :: (bx b5 [vU x6.1, vU x6.2] 27) :: (bx b6 [vU x8.1, vU x8.2] 27) :: (bx b12 [vU x18.1.1, vU x18.1.2] 27) :: As) _ := S97
    replace a0h0 := a0h0.up L132
    replace a4h0 := a4h0.up L132
    replace L0 := Mem.tr L0 L132
    clear S30
    refine s_asv (v := vb x18.2) rfl ?_
    refine wpl_nil ?_
    refine nrm ?_
    refine wpc_seq ?_
    obtain ⟨x19, q19, hm⟩ := obind_some hm
    obtain ⟨x20, q20, hm⟩ := obind_some hm
    obtain ⟨x21, q21, hm⟩ := obind_some hm
    obtain ⟨x22, q22, hm⟩ := obind_some hm
    have HM : MonoAll [(112, fun (M : Mem) (v : Value) => v = a4v0), (113, fun (M : Mem) (v : Value) => v = vI x2), (114, fun (M : Mem) (v : Value) => ∃ (p4 : Value), v = p4 ∧ PtC M p4 [vU x19.1, vU x19.2]), (115, fun (M : Mem) (v : Value) => v = .agg #[vU x19.1, vU x19.2]), (116, fun (M : Mem) (v : Value) => v = .agg #[vU x18.1.1, vU x18.1.2]), (117, fun (M : Mem) (v : Value) => v = .agg #[vU x20.1, vU x20.2]), (118, fun (M : Mem) (v : Value) => v = vb x18.2), (119, fun (M : Mem) (v : Value) => v = vb x18.2), (120, fun (M : Mem) (v : Value) => ((!x18.2) = true → v = a4v0) ∧ ((!x18.2) = false → v = undef)), (121, fun (M : Mem) (v : Value) => ((!x18.2) = true → v = vI x2) ∧ ((!x18.2) = false → v = undef)), (122, fun (M : Mem) (v : Value) => ((!x18.2) = true → ∃ (p5 : Value), v = p5 ∧ PtC M p5 [vU x21.1, vU x21.2]) ∧ ((!x18.2) = false → v = undef)), (123, fun (M : Mem) (v : Value) => ((!x18.2) = true → v = .agg #[vU x21.1, vU x21.2]) ∧ ((!x18.2) = false → v = undef)), (124, fun (M : Mem) (v : Value) => ((!x18.2) = true → v = .agg #[vU x18.1.1, vU x18.1.2]) ∧ ((!x18.2) = false → v = undef)), (125, fun (M : Mem) (v : Value) => ((!x18.2) = true → v = .agg #[vU x6.1, vU x6.2]) ∧ ((!x18.2) = false → v = undef)), (126, fun (M : Mem) (v : Value) => ((!x18.2) = true → v = .agg #[vU x8.1, vU x8.2]) ∧ ((!x18.2) = false → v = undef)), (127, fun (M : Mem) (v : Value) => ((!x18.2) = true → v = vb x22) ∧ ((!x18.2) = false → v = undef)), (128, fun (M : Mem) (v : Value) => v = vb (x18.2 || x22)), (100017, fun _ _ => True)] := ⟨(fun _ _ _ _ h => h), (fun _ _ _ _ h => h), (fun _ _ _ l ⟨p4, e, h19⟩ => ⟨p4, e, h19.up l⟩), (fun _ _ _ _ h => h), (fun _ _ _ _ h => h), (fun _ _ _ _ h => h), (fun _ _ _ _ h => h), (fun _ _ _ _ h => h), (fun _ _ _ _ h => h), (fun _ _ _ _ h => h), (fun _ _ _ l h => ⟨fun c => let ⟨p5, e, h21⟩ := h.1 c; ⟨p5, e, h21.up l⟩, h.2⟩), (fun _ _ _ _ h => h), (fun _ _ _ _ h => h), (fun _ _ _ _ h => h), (fun _ _ _ _ h => h), (fun _ _ _ _ h => h), (fun _ _ _ _ h => h), (fun _ _ _ _ h => h), trivial⟩
    refine wpc_flowG HM 18 mixed rfl rfl rfl [112, 113, 114, 115, 116, 117, 118, 119, 120, 121, 122, 123, 124, 125, 126, 127, 128] (fun L f M w => St M ((bx b2 (bif L 17 then [vU x20.1, vU x20.2] else [vU 0, vU 0]) 27) :: (bx b1 [vU a3.1, vU a3.2] 27) :: (bx b5 [vU x6.1, vU x6.2] 27) :: (bx b6 [vU x8.1, vU x8.2] 27) :: (bx b12 [vU x18.1.1, vU x18.1.2] 27) :: As) w) (St.drew S97 _) ?_ ?_
    · refine ⟨?_, ?_, ?_, ?_, ?_, ?_, ?_, ?_, ?_, ?_, ?_, ?_, ?_, ?_, ?_, ?_, ?_, ?_, trivial⟩
      · intro L f66 w87 hL hd hc ⟨m83, L133, S98, K, hO⟩
        have d17 : L 17 = false := undep hc hL rfl
        replace S98 : St _ ((bx b2 (bif L 17 then [vU x20.1, vU x20.2] else [vU 0, vU 0]) 27) :: (bx b1 [vU a3.1, vU a3.2] 27) :: (bx b5 [vU x6.1, vU x6.2] 27) :: (bx b6 [vU x8.1, vU x8.2] 27) :: (bx b12 [vU x18.1.1, vU x18.1.2] 27) :: As) _ := S98
        rw [d17] at S98
        obtain ⟨u75, rfl⟩ := fr_of (N := 129) (L := []) hO trivial
        replace S98 : St _ ((bx b2 [vU 0, vU 0] 27) :: (bx b1 [vU a3.1, vU a3.2] 27) :: (bx b5 [vU x6.1, vU x6.2] 27) :: (bx b6 [vU x8.1, vU x8.2] 27) :: (bx b12 [vU x18.1.1, vU x18.1.2] 27) :: As) _ := S98
        have L134 := Mem.rfl' m83
        refine s_mvv (v := a4v0) rfl ?_
        refine wpn ?_
        refine ⟨m83, Mem.tr L133 L134, ?_, facts_step HM rfl K L134 rfl rfl rfl, outP⟩
        show St _ ((bx b2 (bif L 17 then [vU x20.1, vU x20.2] else [vU 0, vU 0]) 27) :: (bx b1 [vU a3.1, vU a3.2] 27) :: (bx b5 [vU x6.1, vU x6.2] 27) :: (bx b6 [vU x8.1, vU x8.2] 27) :: (bx b12 [vU x18.1.1, vU x18.1.2] 27) :: As) _
        rw [d17]
        exact S98
      · intro L f67 w88 hL hd hc ⟨m84, L135, S99, K, hO⟩
        have d17 : L 17 = false := undep hc hL rfl
        replace S99 : St _ ((bx b2 (bif L 17 then [vU x20.1, vU x20.2] else [vU 0, vU 0]) 27) :: (bx b1 [vU a3.1, vU a3.2] 27) :: (bx b5 [vU x6.1, vU x6.2] 27) :: (bx b6 [vU x8.1, vU x8.2] 27) :: (bx b12 [vU x18.1.1, vU x18.1.2] 27) :: As) _ := S99
        rw [d17] at S99
        obtain ⟨u76, rfl⟩ := fr_of (N := 129) (L := []) hO trivial
        replace S99 : St _ ((bx b2 [vU 0, vU 0] 27) :: (bx b1 [vU a3.1, vU a3.2] 27) :: (bx b5 [vU x6.1, vU x6.2] 27) :: (bx b6 [vU x8.1, vU x8.2] 27) :: (bx b12 [vU x18.1.1, vU x18.1.2] 27) :: As) _ := S99
        have L136 := Mem.rfl' m84
        refine s_mvv (v := vI x2) rfl ?_
        refine wpn ?_
        refine ⟨m84, Mem.tr L135 L136, ?_, facts_step HM rfl K L136 rfl rfl rfl, outP⟩
        show St _ ((bx b2 (bif L 17 then [vU x20.1, vU x20.2] else [vU 0, vU 0]) 27) :: (bx b1 [vU a3.1, vU a3.2] 27) :: (bx b5 [vU x6.1, vU x6.2] 27) :: (bx b6 [vU x8.1, vU x8.2] 27) :: (bx b12 [vU x18.1.1, vU x18.1.2] 27) :: As) _
        rw [d17]
        exact S99
      · intro L f68 w89 hL hd hc ⟨m85, L137, S100, K, hO⟩
        have d17 : L 17 = false := undep hc hL rfl
        have d0 : L 0 = true := dep hd rfl
        have e78 := K 0 d0
        have d1 : L 1 = true := dep hd rfl
        have e79 := K 1 d1
        replace S100 : St _ ((bx b2 (bif L 17 then [vU x20.1, vU x20.2] else [vU 0, vU 0]) 27) :: (bx b1 [vU a3.1, vU a3.2] 27) :: (bx b5 [vU x6.1, vU x6.2] 27) :: (bx b6 [vU x8.1, vU x8.2] 27) :: (bx b12 [vU x18.1.1, vU x18.1.2] 27) :: As) _ := S100
        rw [d17] at S100
        obtain ⟨u77, rfl⟩ := fr_of (N := 129) (L := [(112, a4v0), (113, vI x2)]) hO ⟨e78, e79, trivial⟩
        replace S100 : St _ ((bx b2 [vU 0, vU 0] 27) :: (bx b1 [vU a3.1, vU a3.2] 27) :: (bx b5 [vU x6.1, vU x6.2] 27) :: (bx b6 [vU x8.1, vU x8.2] 27) :: (bx b12 [vU x18.1.1, vU x18.1.2] 27) :: As) _ := S100
        replace a4h0 := a4h0.up L137
        have L138 := Mem.rfl' m85
        refine s_idx (q := x19) rfl rfl a4h0 q19 Tryd.underlying22 Tryd.sizeOf27 ?_
        intro p4 c4 h19 r4
        obtain rfl := rep_arr2_UInt64 r4
        refine wpn ?_
        refine ⟨m85, Mem.tr L137 L138, ?_, facts_step HM rfl K L138 rfl rfl ⟨p4, rfl, h19⟩, outP⟩
        show St _ ((bx b2 (bif L 17 then [vU x20.1, vU x20.2] else [vU 0, vU 0]) 27) :: (bx b1 [vU a3.1, vU a3.2] 27) :: (bx b5 [vU x6.1, vU x6.2] 27) :: (bx b6 [vU x8.1, vU x8.2] 27) :: (bx b12 [vU x18.1.1, vU x18.1.2] 27) :: As) _
        rw [d17]
        exact S100
      · intro L f69 w90 hL hd hc ⟨m86, L139, S101, K, hO⟩
        have d17 : L 17 = false := undep hc hL rfl
        have d2 : L 2 = true := dep hd rfl
        obtain ⟨v15, e80, h20⟩ := K 2 d2
        replace S101 : St _ ((bx b2 (bif L 17 then [vU x20.1, vU x20.2] else [vU 0, vU 0]) 27) :: (bx b1 [vU a3.1, vU a3.2] 27) :: (bx b5 [vU x6.1, vU x6.2] 27) :: (bx b6 [vU x8.1, vU x8.2] 27) :: (bx b12 [vU x18.1.1, vU x18.1.2] 27) :: As) _ := S101
        rw [d17] at S101
        obtain ⟨u78, rfl⟩ := fr_of (N := 129) (L := [(114, v15)]) hO ⟨e80, trivial⟩
        replace S101 : St _ ((bx b2 [vU 0, vU 0] 27) :: (bx b1 [vU a3.1, vU a3.2] 27) :: (bx b5 [vU x6.1, vU x6.2] 27) :: (bx b6 [vU x8.1, vU x8.2] 27) :: (bx b12 [vU x18.1.1, vU x18.1.2] 27) :: As) _ := S101
        replace a4h0 := a4h0.up L139
        have L140 := Mem.rfl' m86
        refine s_ldM (cs := [vU x19.1, vU x19.2]) S101 rfl h20 rfl Tryd.isAgg27 Tryd.sizeOf27 (fun h => by cases h) ?_
        refine wpn ?_
        refine ⟨m86, Mem.tr L139 L140, ?_, facts_step HM rfl K L140 rfl rfl rfl, outP⟩
        show St _ ((bx b2 (bif L 17 then [vU x20.1, vU x20.2] else [vU 0, vU 0]) 27) :: (bx b1 [vU a3.1, vU a3.2] 27) :: (bx b5 [vU x6.1, vU x6.2] 27) :: (bx b6 [vU x8.1, vU x8.2] 27) :: (bx b12 [vU x18.1.1, vU x18.1.2] 27) :: As) _
        rw [d17]
        exact S101
      · intro L f70 w91 hL hd hc ⟨m87, L141, S102, K, hO⟩
        have d17 : L 17 = false := undep hc hL rfl
        replace S102 : St _ ((bx b2 (bif L 17 then [vU x20.1, vU x20.2] else [vU 0, vU 0]) 27) :: (bx b1 [vU a3.1, vU a3.2] 27) :: (bx b5 [vU x6.1, vU x6.2] 27) :: (bx b6 [vU x8.1, vU x8.2] 27) :: (bx b12 [vU x18.1.1, vU x18.1.2] 27) :: As) _ := S102
        rw [d17] at S102
        obtain ⟨u79, rfl⟩ := fr_of (N := 129) (L := []) hO trivial
        replace S102 : St _ ((bx b2 [vU 0, vU 0] 27) :: (bx b1 [vU a3.1, vU a3.2] 27) :: (bx b5 [vU x6.1, vU x6.2] 27) :: (bx b6 [vU x8.1, vU x8.2] 27) :: (bx b12 [vU x18.1.1, vU x18.1.2] 27) :: As) _ := S102
        replace a4h0 := a4h0.up L141
        have L142 := Mem.rfl' m87
        refine s_ld (i := 4) (cs := [vU x18.1.1, vU x18.1.2]) S102 rfl rfl Tryd.isAgg27 Tryd.sizeOf27 rfl (fun h => by cases h) ?_
        refine wpn ?_
        refine ⟨m87, Mem.tr L141 L142, ?_, facts_step HM rfl K L142 rfl rfl rfl, outP⟩
        show St _ ((bx b2 (bif L 17 then [vU x20.1, vU x20.2] else [vU 0, vU 0]) 27) :: (bx b1 [vU a3.1, vU a3.2] 27) :: (bx b5 [vU x6.1, vU x6.2] 27) :: (bx b6 [vU x8.1, vU x8.2] 27) :: (bx b12 [vU x18.1.1, vU x18.1.2] 27) :: As) _
        rw [d17]
        exact S102
      · intro L f71 w92 hL hd hc ⟨m88, L143, S103, K, hO⟩
        have d17 : L 17 = false := undep hc hL rfl
        have d3 : L 3 = true := dep hd rfl
        have e81 := K 3 d3
        have d4 : L 4 = true := dep hd rfl
        have e82 := K 4 d4
        replace S103 : St _ ((bx b2 (bif L 17 then [vU x20.1, vU x20.2] else [vU 0, vU 0]) 27) :: (bx b1 [vU a3.1, vU a3.2] 27) :: (bx b5 [vU x6.1, vU x6.2] 27) :: (bx b6 [vU x8.1, vU x8.2] 27) :: (bx b12 [vU x18.1.1, vU x18.1.2] 27) :: As) _ := S103
        rw [d17] at S103
        obtain ⟨u80, rfl⟩ := fr_of (N := 129) (L := [(115, .agg #[vU x19.1, vU x19.2]), (116, .agg #[vU x18.1.1, vU x18.1.2])]) hO ⟨e81, e82, trivial⟩
        replace S103 : St _ ((bx b2 [vU 0, vU 0] 27) :: (bx b1 [vU a3.1, vU a3.2] 27) :: (bx b5 [vU x6.1, vU x6.2] 27) :: (bx b6 [vU x8.1, vU x8.2] 27) :: (bx b12 [vU x18.1.1, vU x18.1.2] 27) :: As) _ := S103
        replace a4h0 := a4h0.up L143
        have L144 := Mem.rfl' m88
        refine s_call Tryd.call29 (w_hash_Pair (a0 := x19) (a1 := x18.1) S103  q20) rfl ?_
        rintro _ w93 ⟨m89, l20, S104, rfl⟩
        replace a4h0 := a4h0.up l20
        replace L144 := Mem.tr L144 l20
        clear S103
        replace S104 : St _ ((bx b2 [vU 0, vU 0] 27) :: (bx b1 [vU a3.1, vU a3.2] 27) :: (bx b5 [vU x6.1, vU x6.2] 27) :: (bx b6 [vU x8.1, vU x8.2] 27) :: (bx b12 [vU x18.1.1, vU x18.1.2] 27) :: As) _ := S104
        refine wpn ?_
        refine ⟨m89, Mem.tr L143 L144, ?_, facts_step HM rfl K L144 rfl rfl rfl, outP⟩
        show St _ ((bx b2 (bif L 17 then [vU x20.1, vU x20.2] else [vU 0, vU 0]) 27) :: (bx b1 [vU a3.1, vU a3.2] 27) :: (bx b5 [vU x6.1, vU x6.2] 27) :: (bx b6 [vU x8.1, vU x8.2] 27) :: (bx b12 [vU x18.1.1, vU x18.1.2] 27) :: As) _
        rw [d17]
        exact S104
      · intro L f72 w94 hL hd hc ⟨m90, L145, S105, K, hO⟩
        have d7 : L 7 = false := undep hc hL rfl
        have d15 : L 15 = false := undep hc d7 rfl
        have d17 : L 17 = false := undep hc d15 rfl
        replace S105 : St _ ((bx b2 (bif L 17 then [vU x20.1, vU x20.2] else [vU 0, vU 0]) 27) :: (bx b1 [vU a3.1, vU a3.2] 27) :: (bx b5 [vU x6.1, vU x6.2] 27) :: (bx b6 [vU x8.1, vU x8.2] 27) :: (bx b12 [vU x18.1.1, vU x18.1.2] 27) :: As) _ := S105
        rw [d17] at S105
        obtain ⟨u81, rfl⟩ := fr_of (N := 129) (L := []) hO trivial
        replace S105 : St _ ((bx b2 [vU 0, vU 0] 27) :: (bx b1 [vU a3.1, vU a3.2] 27) :: (bx b5 [vU x6.1, vU x6.2] 27) :: (bx b6 [vU x8.1, vU x8.2] 27) :: (bx b12 [vU x18.1.1, vU x18.1.2] 27) :: As) _ := S105
        have L146 := Mem.rfl' m90
        refine s_mvv (v := vb x18.2) rfl ?_
        refine wpn ?_
        refine ⟨m90, Mem.tr L145 L146, ?_, facts_step HM rfl K L146 rfl rfl rfl, outP⟩
        show St _ ((bx b2 (bif L 17 then [vU x20.1, vU x20.2] else [vU 0, vU 0]) 27) :: (bx b1 [vU a3.1, vU a3.2] 27) :: (bx b5 [vU x6.1, vU x6.2] 27) :: (bx b6 [vU x8.1, vU x8.2] 27) :: (bx b12 [vU x18.1.1, vU x18.1.2] 27) :: As) _
        rw [d17]
        exact S105
      · intro L f73 w95 hL hd hc ⟨m91, L147, S106, K, hO⟩
        have d15 : L 15 = false := undep hc hL rfl
        have d17 : L 17 = false := undep hc d15 rfl
        have d6 : L 6 = true := dep hd rfl
        have e83 := K 6 d6
        replace S106 : St _ ((bx b2 (bif L 17 then [vU x20.1, vU x20.2] else [vU 0, vU 0]) 27) :: (bx b1 [vU a3.1, vU a3.2] 27) :: (bx b5 [vU x6.1, vU x6.2] 27) :: (bx b6 [vU x8.1, vU x8.2] 27) :: (bx b12 [vU x18.1.1, vU x18.1.2] 27) :: As) _ := S106
        rw [d17] at S106
        obtain ⟨u82, rfl⟩ := fr_of (N := 129) (L := [(118, vb x18.2)]) hO ⟨e83, trivial⟩
        replace S106 : St _ ((bx b2 [vU 0, vU 0] 27) :: (bx b1 [vU a3.1, vU a3.2] 27) :: (bx b5 [vU x6.1, vU x6.2] 27) :: (bx b6 [vU x8.1, vU x8.2] 27) :: (bx b12 [vU x18.1.1, vU x18.1.2] 27) :: As) _ := S106
        have L148 := Mem.rfl' m91
        refine s_mvv (v := vb x18.2) rfl ?_
        refine wpn ?_
        refine ⟨m91, Mem.tr L147 L148, ?_, facts_step HM rfl K L148 rfl rfl rfl, outP⟩
        show St _ ((bx b2 (bif L 17 then [vU x20.1, vU x20.2] else [vU 0, vU 0]) 27) :: (bx b1 [vU a3.1, vU a3.2] 27) :: (bx b5 [vU x6.1, vU x6.2] 27) :: (bx b6 [vU x8.1, vU x8.2] 27) :: (bx b12 [vU x18.1.1, vU x18.1.2] 27) :: As) _
        rw [d17]
        exact S106
      · intro L f74 w96 hL hd hc ⟨m92, L149, S107, K, hO⟩
        rcases bool_tf x18.2 with hb13 | hb13
        · have d10 : L 10 = false := undep hc hL rfl
          have d11 : L 11 = false := undep hc d10 rfl
          have d15 : L 15 = false := undep hc d11 rfl
          have d17 : L 17 = false := undep hc d15 rfl
          have d7 : L 7 = true := dep hd rfl
          have e85 := K 7 d7
          replace S107 : St _ ((bx b2 (bif L 17 then [vU x20.1, vU x20.2] else [vU 0, vU 0]) 27) :: (bx b1 [vU a3.1, vU a3.2] 27) :: (bx b5 [vU x6.1, vU x6.2] 27) :: (bx b6 [vU x8.1, vU x8.2] 27) :: (bx b12 [vU x18.1.1, vU x18.1.2] 27) :: As) _ := S107
          rw [d17] at S107
          obtain ⟨u84, rfl⟩ := fr_of (N := 129) (L := [(119, vb x18.2)]) hO ⟨e85, trivial⟩
          replace S107 : St _ ((bx b2 [vU 0, vU 0] 27) :: (bx b1 [vU a3.1, vU a3.2] 27) :: (bx b5 [vU x6.1, vU x6.2] 27) :: (bx b6 [vU x8.1, vU x8.2] 27) :: (bx b12 [vU x18.1.1, vU x18.1.2] 27) :: As) _ := S107
          have L151 := Mem.rfl' m92
          refine wpl_no (d := 119) rfl rfl (congrArg Value.bool hb13) ?_
          refine wpn ?_
          refine ⟨m92, Mem.tr L149 L151, ?_, facts_step HM rfl K L151 rfl rfl ⟨fun hx => tf hx (not_f hb13), fun _ => rfl⟩, outP⟩
          show St _ ((bx b2 (bif L 17 then [vU x20.1, vU x20.2] else [vU 0, vU 0]) 27) :: (bx b1 [vU a3.1, vU a3.2] 27) :: (bx b5 [vU x6.1, vU x6.2] 27) :: (bx b6 [vU x8.1, vU x8.2] 27) :: (bx b12 [vU x18.1.1, vU x18.1.2] 27) :: As) _
          rw [d17]
          exact S107
        have d10 : L 10 = false := undep hc hL rfl
        have d11 : L 11 = false := undep hc d10 rfl
        have d15 : L 15 = false := undep hc d11 rfl
        have d17 : L 17 = false := undep hc d15 rfl
        have d7 : L 7 = true := dep hd rfl
        have e84 := K 7 d7
        replace S107 : St _ ((bx b2 (bif L 17 then [vU x20.1, vU x20.2] else [vU 0, vU 0]) 27) :: (bx b1 [vU a3.1, vU a3.2] 27) :: (bx b5 [vU x6.1, vU x6.2] 27) :: (bx b6 [vU x8.1, vU x8.2] 27) :: (bx b12 [vU x18.1.1, vU x18.1.2] 27) :: As) _ := S107
        rw [d17] at S107
        obtain ⟨u83, rfl⟩ := fr_of (N := 129) (L := [(119, vb x18.2)]) hO ⟨e84, trivial⟩
        replace S107 : St _ ((bx b2 [vU 0, vU 0] 27) :: (bx b1 [vU a3.1, vU a3.2] 27) :: (bx b5 [vU x6.1, vU x6.2] 27) :: (bx b6 [vU x8.1, vU x8.2] 27) :: (bx b12 [vU x18.1.1, vU x18.1.2] 27) :: As) _ := S107
        have L150 := Mem.rfl' m92
        refine wpl_yes (d := 119) rfl rfl (congrArg Value.bool hb13) ?_
        refine s_mvv (v := a4v0) rfl ?_
        refine wpn ?_
        refine ⟨m92, Mem.tr L149 L150, ?_, facts_step HM rfl K L150 rfl rfl ⟨fun _ => rfl, fun hx => tf (not_t hb13) hx⟩, outP⟩
        show St _ ((bx b2 (bif L 17 then [vU x20.1, vU x20.2] else [vU 0, vU 0]) 27) :: (bx b1 [vU a3.1, vU a3.2] 27) :: (bx b5 [vU x6.1, vU x6.2] 27) :: (bx b6 [vU x8.1, vU x8.2] 27) :: (bx b12 [vU x18.1.1, vU x18.1.2] 27) :: As) _
        rw [d17]
        exact S107
      · intro L f75 w97 hL hd hc ⟨m93, L152, S108, K, hO⟩
        rcases bool_tf x18.2 with hb14 | hb14
        · have d10 : L 10 = false := undep hc hL rfl
          have d11 : L 11 = false := undep hc d10 rfl
          have d15 : L 15 = false := undep hc d11 rfl
          have d17 : L 17 = false := undep hc d15 rfl
          have d7 : L 7 = true := dep hd rfl
          have e87 := K 7 d7
          replace S108 : St _ ((bx b2 (bif L 17 then [vU x20.1, vU x20.2] else [vU 0, vU 0]) 27) :: (bx b1 [vU a3.1, vU a3.2] 27) :: (bx b5 [vU x6.1, vU x6.2] 27) :: (bx b6 [vU x8.1, vU x8.2] 27) :: (bx b12 [vU x18.1.1, vU x18.1.2] 27) :: As) _ := S108
          rw [d17] at S108
          obtain ⟨u86, rfl⟩ := fr_of (N := 129) (L := [(119, vb x18.2)]) hO ⟨e87, trivial⟩
          replace S108 : St _ ((bx b2 [vU 0, vU 0] 27) :: (bx b1 [vU a3.1, vU a3.2] 27) :: (bx b5 [vU x6.1, vU x6.2] 27) :: (bx b6 [vU x8.1, vU x8.2] 27) :: (bx b12 [vU x18.1.1, vU x18.1.2] 27) :: As) _ := S108
          have L154 := Mem.rfl' m93
          refine wpl_no (d := 119) rfl rfl (congrArg Value.bool hb14) ?_
          refine wpn ?_
          refine ⟨m93, Mem.tr L152 L154, ?_, facts_step HM rfl K L154 rfl rfl ⟨fun hx => tf hx (not_f hb14), fun _ => rfl⟩, outP⟩
          show St _ ((bx b2 (bif L 17 then [vU x20.1, vU x20.2] else [vU 0, vU 0]) 27) :: (bx b1 [vU a3.1, vU a3.2] 27) :: (bx b5 [vU x6.1, vU x6.2] 27) :: (bx b6 [vU x8.1, vU x8.2] 27) :: (bx b12 [vU x18.1.1, vU x18.1.2] 27) :: As) _
          rw [d17]
          exact S108
        have d10 : L 10 = false := undep hc hL rfl
        have d11 : L 11 = false := undep hc d10 rfl
        have d15 : L 15 = false := undep hc d11 rfl
        have d17 : L 17 = false := undep hc d15 rfl
        have d7 : L 7 = true := dep hd rfl
        have e86 := K 7 d7
        replace S108 : St _ ((bx b2 (bif L 17 then [vU x20.1, vU x20.2] else [vU 0, vU 0]) 27) :: (bx b1 [vU a3.1, vU a3.2] 27) :: (bx b5 [vU x6.1, vU x6.2] 27) :: (bx b6 [vU x8.1, vU x8.2] 27) :: (bx b12 [vU x18.1.1, vU x18.1.2] 27) :: As) _ := S108
        rw [d17] at S108
        obtain ⟨u85, rfl⟩ := fr_of (N := 129) (L := [(119, vb x18.2)]) hO ⟨e86, trivial⟩
        replace S108 : St _ ((bx b2 [vU 0, vU 0] 27) :: (bx b1 [vU a3.1, vU a3.2] 27) :: (bx b5 [vU x6.1, vU x6.2] 27) :: (bx b6 [vU x8.1, vU x8.2] 27) :: (bx b12 [vU x18.1.1, vU x18.1.2] 27) :: As) _ := S108
        have L153 := Mem.rfl' m93
        refine wpl_yes (d := 119) rfl rfl (congrArg Value.bool hb14) ?_
        refine s_mvv (v := vI x2) rfl ?_
        refine wpn ?_
        refine ⟨m93, Mem.tr L152 L153, ?_, facts_step HM rfl K L153 rfl rfl ⟨fun _ => rfl, fun hx => tf (not_t hb14) hx⟩, outP⟩
        show St _ ((bx b2 (bif L 17 then [vU x20.1, vU x20.2] else [vU 0, vU 0]) 27) :: (bx b1 [vU a3.1, vU a3.2] 27) :: (bx b5 [vU x6.1, vU x6.2] 27) :: (bx b6 [vU x8.1, vU x8.2] 27) :: (bx b12 [vU x18.1.1, vU x18.1.2] 27) :: As) _
        rw [d17]
        exact S108
      · intro L f76 w98 hL hd hc ⟨m94, L155, S109, K, hO⟩
        rcases bool_tf x18.2 with hb15 | hb15
        · have d11 : L 11 = false := undep hc hL rfl
          have d15 : L 15 = false := undep hc d11 rfl
          have d17 : L 17 = false := undep hc d15 rfl
          have d7 : L 7 = true := dep hd rfl
          have e91 := K 7 d7
          replace S109 : St _ ((bx b2 (bif L 17 then [vU x20.1, vU x20.2] else [vU 0, vU 0]) 27) :: (bx b1 [vU a3.1, vU a3.2] 27) :: (bx b5 [vU x6.1, vU x6.2] 27) :: (bx b6 [vU x8.1, vU x8.2] 27) :: (bx b12 [vU x18.1.1, vU x18.1.2] 27) :: As) _ := S109
          rw [d17] at S109
          obtain ⟨u88, rfl⟩ := fr_of (N := 129) (L := [(119, vb x18.2)]) hO ⟨e91, trivial⟩
          replace S109 : St _ ((bx b2 [vU 0, vU 0] 27) :: (bx b1 [vU a3.1, vU a3.2] 27) :: (bx b5 [vU x6.1, vU x6.2] 27) :: (bx b6 [vU x8.1, vU x8.2] 27) :: (bx b12 [vU x18.1.1, vU x18.1.2] 27) :: As) _ := S109
          have L157 := Mem.rfl' m94
          refine wpl_no (d := 119) rfl rfl (congrArg Value.bool hb15) ?_
          refine wpn ?_
          refine ⟨m94, Mem.tr L155 L157, ?_, facts_step HM rfl K L157 rfl rfl ⟨fun hx => tf hx (not_f hb15), fun _ => rfl⟩, outP⟩
          show St _ ((bx b2 (bif L 17 then [vU x20.1, vU x20.2] else [vU 0, vU 0]) 27) :: (bx b1 [vU a3.1, vU a3.2] 27) :: (bx b5 [vU x6.1, vU x6.2] 27) :: (bx b6 [vU x8.1, vU x8.2] 27) :: (bx b12 [vU x18.1.1, vU x18.1.2] 27) :: As) _
          rw [d17]
          exact S109
        have d11 : L 11 = false := undep hc hL rfl
        have d15 : L 15 = false := undep hc d11 rfl
        have d17 : L 17 = false := undep hc d15 rfl
        have d7 : L 7 = true := dep hd rfl
        have e88 := K 7 d7
        have d8 : L 8 = true := dep hd rfl
        have e89 := (K 8 d8).1 (not_t hb15)
        have d9 : L 9 = true := dep hd rfl
        have e90 := (K 9 d9).1 (not_t hb15)
        replace S109 : St _ ((bx b2 (bif L 17 then [vU x20.1, vU x20.2] else [vU 0, vU 0]) 27) :: (bx b1 [vU a3.1, vU a3.2] 27) :: (bx b5 [vU x6.1, vU x6.2] 27) :: (bx b6 [vU x8.1, vU x8.2] 27) :: (bx b12 [vU x18.1.1, vU x18.1.2] 27) :: As) _ := S109
        rw [d17] at S109
        obtain ⟨u87, rfl⟩ := fr_of (N := 129) (L := [(119, vb x18.2), (120, a4v0), (121, vI x2)]) hO ⟨e88, e89, e90, trivial⟩
        replace S109 : St _ ((bx b2 [vU 0, vU 0] 27) :: (bx b1 [vU a3.1, vU a3.2] 27) :: (bx b5 [vU x6.1, vU x6.2] 27) :: (bx b6 [vU x8.1, vU x8.2] 27) :: (bx b12 [vU x18.1.1, vU x18.1.2] 27) :: As) _ := S109
        replace a4h0 := a4h0.up L155
        have L156 := Mem.rfl' m94
        refine wpl_yes (d := 119) rfl rfl (congrArg Value.bool hb15) ?_
        replace q21 := gu_t (not_t hb15) q21
        refine s_idx (q := x21) rfl rfl a4h0 q21 Tryd.underlying22 Tryd.sizeOf27 ?_
        intro p5 c5 h21 r5
        obtain rfl := rep_arr2_UInt64 r5
        refine wpn ?_
        refine ⟨m94, Mem.tr L155 L156, ?_, facts_step HM rfl K L156 rfl rfl ⟨fun _ => ⟨p5, rfl, h21⟩, fun hx => tf (not_t hb15) hx⟩, outP⟩
        show St _ ((bx b2 (bif L 17 then [vU x20.1, vU x20.2] else [vU 0, vU 0]) 27) :: (bx b1 [vU a3.1, vU a3.2] 27) :: (bx b5 [vU x6.1, vU x6.2] 27) :: (bx b6 [vU x8.1, vU x8.2] 27) :: (bx b12 [vU x18.1.1, vU x18.1.2] 27) :: As) _
        rw [d17]
        exact S109
      · intro L f77 w99 hL hd hc ⟨m95, L158, S110, K, hO⟩
        rcases bool_tf x18.2 with hb16 | hb16
        · have d15 : L 15 = false := undep hc hL rfl
          have d17 : L 17 = false := undep hc d15 rfl
          have d7 : L 7 = true := dep hd rfl
          have e94 := K 7 d7
          replace S110 : St _ ((bx b2 (bif L 17 then [vU x20.1, vU x20.2] else [vU 0, vU 0]) 27) :: (bx b1 [vU a3.1, vU a3.2] 27) :: (bx b5 [vU x6.1, vU x6.2] 27) :: (bx b6 [vU x8.1, vU x8.2] 27) :: (bx b12 [vU x18.1.1, vU x18.1.2] 27) :: As) _ := S110
          rw [d17] at S110
          obtain ⟨u90, rfl⟩ := fr_of (N := 129) (L := [(119, vb x18.2)]) hO ⟨e94, trivial⟩
          replace S110 : St _ ((bx b2 [vU 0, vU 0] 27) :: (bx b1 [vU a3.1, vU a3.2] 27) :: (bx b5 [vU x6.1, vU x6.2] 27) :: (bx b6 [vU x8.1, vU x8.2] 27) :: (bx b12 [vU x18.1.1, vU x18.1.2] 27) :: As) _ := S110
          have L160 := Mem.rfl' m95
          refine wpl_no (d := 119) rfl rfl (congrArg Value.bool hb16) ?_
          refine wpn ?_
          refine ⟨m95, Mem.tr L158 L160, ?_, facts_step HM rfl K L160 rfl rfl ⟨fun hx => tf hx (not_f hb16), fun _ => rfl⟩, outP⟩
          show St _ ((bx b2 (bif L 17 then [vU x20.1, vU x20.2] else [vU 0, vU 0]) 27) :: (bx b1 [vU a3.1, vU a3.2] 27) :: (bx b5 [vU x6.1, vU x6.2] 27) :: (bx b6 [vU x8.1, vU x8.2] 27) :: (bx b12 [vU x18.1.1, vU x18.1.2] 27) :: As) _
          rw [d17]
          exact S110
        have d15 : L 15 = false := undep hc hL rfl
        have d17 : L 17 = false := undep hc d15 rfl
        have d7 : L 7 = true := dep hd rfl
        have e92 := K 7 d7
        have d10 : L 10 = true := dep hd rfl
        obtain ⟨v16, e93, h22⟩ := (K 10 d10).1 (not_t hb16)
        replace S110 : St _ ((bx b2 (bif L 17 then [vU x20.1, vU x20.2] else [vU 0, vU 0]) 27) :: (bx b1 [vU a3.1, vU a3.2] 27) :: (bx b5 [vU x6.1, vU x6.2] 27) :: (bx b6 [vU x8.1, vU x8.2] 27) :: (bx b12 [vU x18.1.1, vU x18.1.2] 27) :: As) _ := S110
        rw [d17] at S110
        obtain ⟨u89, rfl⟩ := fr_of (N := 129) (L := [(119, vb x18.2), (122, v16)]) hO ⟨e92, e93, trivial⟩
        replace S110 : St _ ((bx b2 [vU 0, vU 0] 27) :: (bx b1 [vU a3.1, vU a3.2] 27) :: (bx b5 [vU x6.1, vU x6.2] 27) :: (bx b6 [vU x8.1, vU x8.2] 27) :: (bx b12 [vU x18.1.1, vU x18.1.2] 27) :: As) _ := S110
        replace a4h0 := a4h0.up L158
        have L159 := Mem.rfl' m95
        refine wpl_yes (d := 119) rfl rfl (congrArg Value.bool hb16) ?_
        refine s_ldM (cs := [vU x21.1, vU x21.2]) S110 rfl h22 rfl Tryd.isAgg27 Tryd.sizeOf27 (fun h => by cases h) ?_
        refine wpn ?_
        refine ⟨m95, Mem.tr L158 L159, ?_, facts_step HM rfl K L159 rfl rfl ⟨fun _ => rfl, fun hx => tf (not_t hb16) hx⟩, outP⟩
        show St _ ((bx b2 (bif L 17 then [vU x20.1, vU x20.2] else [vU 0, vU 0]) 27) :: (bx b1 [vU a3.1, vU a3.2] 27) :: (bx b5 [vU x6.1, vU x6.2] 27) :: (bx b6 [vU x8.1, vU x8.2] 27) :: (bx b12 [vU x18.1.1, vU x18.1.2] 27) :: As) _
        rw [d17]
        exact S110
      · intro L f78 w100 hL hd hc ⟨m96, L161, S111, K, hO⟩
        rcases bool_tf x18.2 with hb17 | hb17
        · have d15 : L 15 = false := undep hc hL rfl
          have d17 : L 17 = false := undep hc d15 rfl
          have d7 : L 7 = true := dep hd rfl
          have e96 := K 7 d7
          replace S111 : St _ ((bx b2 (bif L 17 then [vU x20.1, vU x20.2] else [vU 0, vU 0]) 27) :: (bx b1 [vU a3.1, vU a3.2] 27) :: (bx b5 [vU x6.1, vU x6.2] 27) :: (bx b6 [vU x8.1, vU x8.2] 27) :: (bx b12 [vU x18.1.1, vU x18.1.2] 27) :: As) _ := S111
          rw [d17] at S111
          obtain ⟨u92, rfl⟩ := fr_of (N := 129) (L := [(119, vb x18.2)]) hO ⟨e96, trivial⟩
          replace S111 : St _ ((bx b2 [vU 0, vU 0] 27) :: (bx b1 [vU a3.1, vU a3.2] 27) :: (bx b5 [vU x6.1, vU x6.2] 27) :: (bx b6 [vU x8.1, vU x8.2] 27) :: (bx b12 [vU x18.1.1, vU x18.1.2] 27) :: As) _ := S111
          have L163 := Mem.rfl' m96
          refine wpl_no (d := 119) rfl rfl (congrArg Value.bool hb17) ?_
          refine wpn ?_
          refine ⟨m96, Mem.tr L161 L163, ?_, facts_step HM rfl K L163 rfl rfl ⟨fun hx => tf hx (not_f hb17), fun _ => rfl⟩, outP⟩
          show St _ ((bx b2 (bif L 17 then [vU x20.1, vU x20.2] else [vU 0, vU 0]) 27) :: (bx b1 [vU a3.1, vU a3.2] 27) :: (bx b5 [vU x6.1, vU x6.2] 27) :: (bx b6 [vU x8.1, vU x8.2] 27) :: (bx b12 [vU x18.1.1, vU x18.1.2] 27) :: As) _
          rw [d17]
          exact S111
        have d15 : L 15 = false := undep hc hL rfl
        have d17 : L 17 = false := undep hc d15 rfl
        have d7 : L 7 = true := dep hd rfl
        have e95 := K 7 d7
        replace S111 : St _ ((bx b2 (bif L 17 then [vU x20.1, vU x20.2] else [vU 0, vU 0]) 27) :: (bx b1 [vU a3.1, vU a3.2] 27) :: (bx b5 [vU x6.1, vU x6.2] 27) :: (bx b6 [vU x8.1, vU x8.2] 27) :: (bx b12 [vU x18.1.1, vU x18.1.2] 27) :: As) _ := S111
        rw [d17] at S111
        obtain ⟨u91, rfl⟩ := fr_of (N := 129) (L := [(119, vb x18.2)]) hO ⟨e95, trivial⟩
        replace S111 : St _ ((bx b2 [vU 0, vU 0] 27) :: (bx b1 [vU a3.1, vU a3.2] 27) :: (bx b5 [vU x6.1, vU x6.2] 27) :: (bx b6 [vU x8.1, vU x8.2] 27) :: (bx b12 [vU x18.1.1, vU x18.1.2] 27) :: As) _ := S111
        replace a4h0 := a4h0.up L161
        have L162 := Mem.rfl' m96
        refine wpl_yes (d := 119) rfl rfl (congrArg Value.bool hb17) ?_
        refine s_ld (i := 4) (cs := [vU x18.1.1, vU x18.1.2]) S111 rfl rfl Tryd.isAgg27 Tryd.sizeOf27 rfl (fun h => by cases h) ?_
        refine wpn ?_
        refine ⟨m96, Mem.tr L161 L162, ?_, facts_step HM rfl K L162 rfl rfl ⟨fun _ => rfl, fun hx => tf (not_t hb17) hx⟩, outP⟩
        show St _ ((bx b2 (bif L 17 then [vU x20.1, vU x20.2] else [vU 0, vU 0]) 27) :: (bx b1 [vU a3.1, vU a3.2] 27) :: (bx b5 [vU x6.1, vU x6.2] 27) :: (bx b6 [vU x8.1, vU x8.2] 27) :: (bx b12 [vU x18.1.1, vU x18.1.2] 27) :: As) _
        rw [d17]
        exact S111
      · intro L f79 w101 hL hd hc ⟨m97, L164, S112, K, hO⟩
        rcases bool_tf x18.2 with hb18 | hb18
        · have d15 : L 15 = false := undep hc hL rfl
          have d17 : L 17 = false := undep hc d15 rfl
          have d7 : L 7 = true := dep hd rfl
          have e98 := K 7 d7
          replace S112 : St _ ((bx b2 (bif L 17 then [vU x20.1, vU x20.2] else [vU 0, vU 0]) 27) :: (bx b1 [vU a3.1, vU a3.2] 27) :: (bx b5 [vU x6.1, vU x6.2] 27) :: (bx b6 [vU x8.1, vU x8.2] 27) :: (bx b12 [vU x18.1.1, vU x18.1.2] 27) :: As) _ := S112
          rw [d17] at S112
          obtain ⟨u94, rfl⟩ := fr_of (N := 129) (L := [(119, vb x18.2)]) hO ⟨e98, trivial⟩
          replace S112 : St _ ((bx b2 [vU 0, vU 0] 27) :: (bx b1 [vU a3.1, vU a3.2] 27) :: (bx b5 [vU x6.1, vU x6.2] 27) :: (bx b6 [vU x8.1, vU x8.2] 27) :: (bx b12 [vU x18.1.1, vU x18.1.2] 27) :: As) _ := S112
          have L166 := Mem.rfl' m97
          refine wpl_no (d := 119) rfl rfl (congrArg Value.bool hb18) ?_
          refine wpn ?_
          refine ⟨m97, Mem.tr L164 L166, ?_, facts_step HM rfl K L166 rfl rfl ⟨fun hx => tf hx (not_f hb18), fun _ => rfl⟩, outP⟩
          show St _ ((bx b2 (bif L 17 then [vU x20.1, vU x20.2] else [vU 0, vU 0]) 27) :: (bx b1 [vU a3.1, vU a3.2] 27) :: (bx b5 [vU x6.1, vU x6.2] 27) :: (bx b6 [vU x8.1, vU x8.2] 27) :: (bx b12 [vU x18.1.1, vU x18.1.2] 27) :: As) _
          rw [d17]
          exact S112
        have d15 : L 15 = false := undep hc hL rfl
        have d17 : L 17 = false := undep hc d15 rfl
        have d7 : L 7 = true := dep hd rfl
        have e97 := K 7 d7
        replace S112 : St _ ((bx b2 (bif L 17 then [vU x20.1, vU x20.2] else [vU 0, vU 0]) 27) :: (bx b1 [vU a3.1, vU a3.2] 27) :: (bx b5 [vU x6.1, vU x6.2] 27) :: (bx b6 [vU x8.1, vU x8.2] 27) :: (bx b12 [vU x18.1.1, vU x18.1.2] 27) :: As) _ := S112
        rw [d17] at S112
        obtain ⟨u93, rfl⟩ := fr_of (N := 129) (L := [(119, vb x18.2)]) hO ⟨e97, trivial⟩
        replace S112 : St _ ((bx b2 [vU 0, vU 0] 27) :: (bx b1 [vU a3.1, vU a3.2] 27) :: (bx b5 [vU x6.1, vU x6.2] 27) :: (bx b6 [vU x8.1, vU x8.2] 27) :: (bx b12 [vU x18.1.1, vU x18.1.2] 27) :: As) _ := S112
        replace a4h0 := a4h0.up L164
        have L165 := Mem.rfl' m97
        refine wpl_yes (d := 119) rfl rfl (congrArg Value.bool hb18) ?_
        refine s_ld (i := 2) (cs := [vU x6.1, vU x6.2]) S112 rfl rfl Tryd.isAgg27 Tryd.sizeOf27 rfl (fun h => by cases h) ?_
        refine wpn ?_
        refine ⟨m97, Mem.tr L164 L165, ?_, facts_step HM rfl K L165 rfl rfl ⟨fun _ => rfl, fun hx => tf (not_t hb18) hx⟩, outP⟩
        show St _ ((bx b2 (bif L 17 then [vU x20.1, vU x20.2] else [vU 0, vU 0]) 27) :: (bx b1 [vU a3.1, vU a3.2] 27) :: (bx b5 [vU x6.1, vU x6.2] 27) :: (bx b6 [vU x8.1, vU x8.2] 27) :: (bx b12 [vU x18.1.1, vU x18.1.2] 27) :: As) _
        rw [d17]
        exact S112
      · intro L f80 w102 hL hd hc ⟨m98, L167, S113, K, hO⟩
        rcases bool_tf x18.2 with hb19 | hb19
        · have d15 : L 15 = false := undep hc hL rfl
          have d17 : L 17 = false := undep hc d15 rfl
          have d7 : L 7 = true := dep hd rfl
          have e100 := K 7 d7
          replace S113 : St _ ((bx b2 (bif L 17 then [vU x20.1, vU x20.2] else [vU 0, vU 0]) 27) :: (bx b1 [vU a3.1, vU a3.2] 27) :: (bx b5 [vU x6.1, vU x6.2] 27) :: (bx b6 [vU x8.1, vU x8.2] 27) :: (bx b12 [vU x18.1.1, vU x18.1.2] 27) :: As) _ := S113
          rw [d17] at S113
          obtain ⟨u96, rfl⟩ := fr_of (N := 129) (L := [(119, vb x18.2)]) hO ⟨e100, trivial⟩
          replace S113 : St _ ((bx b2 [vU 0, vU 0] 27) :: (bx b1 [vU a3.1, vU a3.2] 27) :: (bx b5 [vU x6.1, vU x6.2] 27) :: (bx b6 [vU x8.1, vU x8.2] 27) :: (bx b12 [vU x18.1.1, vU x18.1.2] 27) :: As) _ := S113
          have L169 := Mem.rfl' m98
          refine wpl_no (d := 119) rfl rfl (congrArg Value.bool hb19) ?_
          refine wpn ?_
          refine ⟨m98, Mem.tr L167 L169, ?_, facts_step HM rfl K L169 rfl rfl ⟨fun hx => tf hx (not_f hb19), fun _ => rfl⟩, outP⟩
          show St _ ((bx b2 (bif L 17 then [vU x20.1, vU x20.2] else [vU 0, vU 0]) 27) :: (bx b1 [vU a3.1, vU a3.2] 27) :: (bx b5 [vU x6.1, vU x6.2] 27) :: (bx b6 [vU x8.1, vU x8.2] 27) :: (bx b12 [vU x18.1.1, vU x18.1.2] 27) :: As) _
          rw [d17]
          exact S113
        have d15 : L 15 = false := undep hc hL rfl
        have d17 : L 17 = false := undep hc d15 rfl
        have d7 : L 7 = true := dep hd rfl
        have e99 := K 7 d7
        replace S113 : St _ ((bx b2 (bif L 17 then [vU x20.1, vU x20.2] else [vU 0, vU 0]) 27) :: (bx b1 [vU a3.1, vU a3.2] 27) :: (bx b5 [vU x6.1, vU x6.2] 27) :: (bx b6 [vU x8.1, vU x8.2] 27) :: (bx b12 [vU x18.1.1, vU x18.1.2] 27) :: As) _ := S113
        rw [d17] at S113
        obtain ⟨u95, rfl⟩ := fr_of (N := 129) (L := [(119, vb x18.2)]) hO ⟨e99, trivial⟩
        replace S113 : St _ ((bx b2 [vU 0, vU 0] 27) :: (bx b1 [vU a3.1, vU a3.2] 27) :: (bx b5 [vU x6.1, vU x6.2] 27) :: (bx b6 [vU x8.1, vU x8.2] 27) :: (bx b12 [vU x18.1.1, vU x18.1.2] 27) :: As) _ := S113
        replace a4h0 := a4h0.up L167
        have L168 := Mem.rfl' m98
        refine wpl_yes (d := 119) rfl rfl (congrArg Value.bool hb19) ?_
        refine s_ld (i := 3) (cs := [vU x8.1, vU x8.2]) S113 rfl rfl Tryd.isAgg27 Tryd.sizeOf27 rfl (fun h => by cases h) ?_
        refine wpn ?_
        refine ⟨m98, Mem.tr L167 L168, ?_, facts_step HM rfl K L168 rfl rfl ⟨fun _ => rfl, fun hx => tf (not_t hb19) hx⟩, outP⟩
        show St _ ((bx b2 (bif L 17 then [vU x20.1, vU x20.2] else [vU 0, vU 0]) 27) :: (bx b1 [vU a3.1, vU a3.2] 27) :: (bx b5 [vU x6.1, vU x6.2] 27) :: (bx b6 [vU x8.1, vU x8.2] 27) :: (bx b12 [vU x18.1.1, vU x18.1.2] 27) :: As) _
        rw [d17]
        exact S113
      · intro L f81 w103 hL hd hc ⟨m99, L170, S114, K, hO⟩
        rcases bool_tf x18.2 with hb20 | hb20
        · have d17 : L 17 = false := undep hc hL rfl
          have d7 : L 7 = true := dep hd rfl
          have e106 := K 7 d7
          replace S114 : St _ ((bx b2 (bif L 17 then [vU x20.1, vU x20.2] else [vU 0, vU 0]) 27) :: (bx b1 [vU a3.1, vU a3.2] 27) :: (bx b5 [vU x6.1, vU x6.2] 27) :: (bx b6 [vU x8.1, vU x8.2] 27) :: (bx b12 [vU x18.1.1, vU x18.1.2] 27) :: As) _ := S114
          rw [d17] at S114
          obtain ⟨u98, rfl⟩ := fr_of (N := 129) (L := [(119, vb x18.2)]) hO ⟨e106, trivial⟩
          replace S114 : St _ ((bx b2 [vU 0, vU 0] 27) :: (bx b1 [vU a3.1, vU a3.2] 27) :: (bx b5 [vU x6.1, vU x6.2] 27) :: (bx b6 [vU x8.1, vU x8.2] 27) :: (bx b12 [vU x18.1.1, vU x18.1.2] 27) :: As) _ := S114
          have L172 := Mem.rfl' m99
          refine wpl_no (d := 119) rfl rfl (congrArg Value.bool hb20) ?_
          refine wpn ?_
          refine ⟨m99, Mem.tr L170 L172, ?_, facts_step HM rfl K L172 rfl rfl ⟨fun hx => tf hx (not_f hb20), fun _ => rfl⟩, outP⟩
          show St _ ((bx b2 (bif L 17 then [vU x20.1, vU x20.2] else [vU 0, vU 0]) 27) :: (bx b1 [vU a3.1, vU a3.2] 27) :: (bx b5 [vU x6.1, vU x6.2] 27) :: (bx b6 [vU x8.1, vU x8.2] 27) :: (bx b12 [vU x18.1.1, vU x18.1.2] 27) :: As) _
          rw [d17]
          exact S114
        have d17 : L 17 = false := undep hc hL rfl
        have d7 : L 7 = true := dep hd rfl
        have e101 := K 7 d7
        have d11 : L 11 = true := dep hd rfl
        have e102 := (K 11 d11).1 (not_t hb20)
        have d12 : L 12 = true := dep hd rfl
        have e103 := (K 12 d12).1 (not_t hb20)
        have d13 : L 13 = true := dep hd rfl
        have e104 := (K 13 d13).1 (not_t hb20)
        have d14 : L 14 = true := dep hd rfl
        have e105 := (K 14 d14).1 (not_t hb20)
        replace S114 : St _ ((bx b2 (bif L 17 then [vU x20.1, vU x20.2] else [vU 0, vU 0]) 27) :: (bx b1 [vU a3.1, vU a3.2] 27) :: (bx b5 [vU x6.1, vU x6.2] 27) :: (bx b6 [vU x8.1, vU x8.2] 27) :: (bx b12 [vU x18.1.1, vU x18.1.2] 27) :: As) _ := S114
        rw [d17] at S114
        obtain ⟨u97, rfl⟩ := fr_of (N := 129) (L := [(119, vb x18.2), (123, .agg #[vU x21.1, vU x21.2]), (124, .agg #[vU x18.1.1, vU x18.1.2]), (125, .agg #[vU x6.1, vU x6.2]), (126, .agg #[vU x8.1, vU x8.2])]) hO ⟨e101, e102, e103, e104, e105, trivial⟩
        replace S114 : St _ ((bx b2 [vU 0, vU 0] 27) :: (bx b1 [vU a3.1, vU a3.2] 27) :: (bx b5 [vU x6.1, vU x6.2] 27) :: (bx b6 [vU x8.1, vU x8.2] 27) :: (bx b12 [vU x18.1.1, vU x18.1.2] 27) :: As) _ := S114
        replace a4h0 := a4h0.up L170
        have L171 := Mem.rfl' m99
        refine wpl_yes (d := 119) rfl rfl (congrArg Value.bool hb20) ?_
        replace q22 := gu_t (not_t hb20) q22
        refine s_call Tryd.call54 (w_law08_unlike (a0 := x21) (a1 := x18.1) (a2 := x6) (a3 := x8) S114  q22) rfl ?_
        rintro _ w104 ⟨m100, l21, S115, rfl⟩
        replace a4h0 := a4h0.up l21
        replace L171 := Mem.tr L171 l21
        clear S114
        replace S115 : St _ ((bx b2 [vU 0, vU 0] 27) :: (bx b1 [vU a3.1, vU a3.2] 27) :: (bx b5 [vU x6.1, vU x6.2] 27) :: (bx b6 [vU x8.1, vU x8.2] 27) :: (bx b12 [vU x18.1.1, vU x18.1.2] 27) :: As) _ := S115
        refine wpn ?_
        refine ⟨m100, Mem.tr L170 L171, ?_, facts_step HM rfl K L171 rfl rfl ⟨fun _ => rfl, fun hx => tf (not_t hb20) hx⟩, outP⟩
        show St _ ((bx b2 (bif L 17 then [vU x20.1, vU x20.2] else [vU 0, vU 0]) 27) :: (bx b1 [vU a3.1, vU a3.2] 27) :: (bx b5 [vU x6.1, vU x6.2] 27) :: (bx b6 [vU x8.1, vU x8.2] 27) :: (bx b12 [vU x18.1.1, vU x18.1.2] 27) :: As) _
        rw [d17]
        exact S115
      · intro L f82 w105 hL hd hc ⟨m101, L173, S116, K, hO⟩
        rcases bool_tf x18.2 with hb21 | hb21
        · have d7 : L 7 = true := dep hd rfl
          have e107 := K 7 d7
          obtain ⟨u99, rfl⟩ := fr_of (N := 129) (L := [(119, vb x18.2)]) hO ⟨e107, trivial⟩
          replace S116 : St _ ((bx b2 (bif L 17 then [vU x20.1, vU x20.2] else [vU 0, vU 0]) 27) :: (bx b1 [vU a3.1, vU a3.2] 27) :: (bx b5 [vU x6.1, vU x6.2] 27) :: (bx b6 [vU x8.1, vU x8.2] 27) :: (bx b12 [vU x18.1.1, vU x18.1.2] 27) :: As) _ := S116
          have L174 := Mem.rfl' m101
          refine s_pickT (congrArg Value.bool hb21) rfl ?_
          refine wpn ?_
          refine ⟨m101, Mem.tr L173 L174, ?_, facts_step HM rfl K L174 rfl rfl (congrArg Value.bool (or_t hb21)), outP⟩
          exact S116
        · have d7 : L 7 = true := dep hd rfl
          have e108 := K 7 d7
          have d15 : L 15 = true := dep hd rfl
          have e109 := (K 15 d15).1 (not_t hb21)
          obtain ⟨u100, rfl⟩ := fr_of (N := 129) (L := [(119, vb x18.2), (127, vb x22)]) hO ⟨e108, e109, trivial⟩
          replace S116 : St _ ((bx b2 (bif L 17 then [vU x20.1, vU x20.2] else [vU 0, vU 0]) 27) :: (bx b1 [vU a3.1, vU a3.2] 27) :: (bx b5 [vU x6.1, vU x6.2] 27) :: (bx b6 [vU x8.1, vU x8.2] 27) :: (bx b12 [vU x18.1.1, vU x18.1.2] 27) :: As) _ := S116
          have L175 := Mem.rfl' m101
          refine s_pickF (congrArg Value.bool hb21) rfl ?_
          refine wpn ?_
          refine ⟨m101, Mem.tr L173 L175, ?_, facts_step HM rfl K L175 rfl rfl (congrArg Value.bool (or_f hb21)), outP⟩
          exact S116
      · intro L f83 w106 hL hd hc ⟨m102, L176, S117, K, hO⟩
        have d17 : L 17 = false := hL
        have d5 : L 5 = true := dep hd rfl
        have e110 := K 5 d5
        replace S117 : St _ ((bx b2 (bif L 17 then [vU x20.1, vU x20.2] else [vU 0, vU 0]) 27) :: (bx b1 [vU a3.1, vU a3.2] 27) :: (bx b5 [vU x6.1, vU x6.2] 27) :: (bx b6 [vU x8.1, vU x8.2] 27) :: (bx b12 [vU x18.1.1, vU x18.1.2] 27) :: As) _ := S117
        rw [d17] at S117
        obtain ⟨u101, rfl⟩ := fr_of (N := 129) (L := [(117, .agg #[vU x20.1, vU x20.2])]) hO ⟨e110, trivial⟩
        replace S117 : St _ ((bx b2 [vU 0, vU 0] 27) :: (bx b1 [vU a3.1, vU a3.2] 27) :: (bx b5 [vU x6.1, vU x6.2] 27) :: (bx b6 [vU x8.1, vU x8.2] 27) :: (bx b12 [vU x18.1.1, vU x18.1.2] 27) :: As) _ := S117
        replace a4h0 := a4h0.up L176
        have L177 := Mem.rfl' m102
        refine s_stL (i := 0) S117 rfl rfl rfl Tryd.sizeOf27 (oneC rfl (oneC rfl oneN)) rfl ?_
        intro w107 S118
        replace S118 : St _ ((bx b2 [vU x20.1, vU x20.2] 27) :: (bx b1 [vU a3.1, vU a3.2] 27) :: (bx b5 [vU x6.1, vU x6.2] 27) :: (bx b6 [vU x8.1, vU x8.2] 27) :: (bx b12 [vU x18.1.1, vU x18.1.2] 27) :: As) _ := S118
        clear S117
        refine wpn ?_
        refine ⟨m102, Mem.tr L176 L177, ?_, facts_none HM K L177 rfl (fun _ => trivial), outP⟩
        exact S118
    intro L f84 w108 hall ⟨m103, L178, S119, K, hO⟩
    have d17 : L 17 = true := hall 17 (by decide)
    have d16 : L 16 = true := hall 16 (by decide)
    have e111 := K 16 d16
    replace S119 : St _ ((bx b2 (bif L 17 then [vU x20.1, vU x20.2] else [vU 0, vU 0]) 27) :: (bx b1 [vU a3.1, vU a3.2] 27) :: (bx b5 [vU x6.1, vU x6.2] 27) :: (bx b6 [vU x8.1, vU x8.2] 27) :: (bx b12 [vU x18.1.1, vU x18.1.2] 27) :: As) _ := S119
    rw [d17] at S119
    obtain ⟨u102, rfl⟩ := fr_of (N := 129) (L := [(128, vb (x18.2 || x22))]) hO ⟨e111, trivial⟩
    replace S119 : St _ ((bx b2 [vU x20.1, vU x20.2] 27) :: (bx b1 [vU a3.1, vU a3.2] 27) :: (bx b5 [vU x6.1, vU x6.2] 27) :: (bx b6 [vU x8.1, vU x8.2] 27) :: (bx b12 [vU x18.1.1, vU x18.1.2] 27) :: As) _ := S119
    replace a4h0 := a4h0.up L178
    replace L0 := Mem.tr L0 L178
    clear S97
    refine s_asv (v := vb (x18.2 || x22)) rfl ?_
    refine wpl_nil ?_
    refine nrm ?_
    refine wpc_ret ?_
    refine outRw ?_
    intro we hpd
    replace S119 := St.pd S119 hpd
    have SR := S119
    obtain ⟨m104, l22, S120⟩ := St.drop S119 0
    replace L0 := Mem.tr L0 l22
    replace S120 : St _ ((bx b1 [vU a3.1, vU a3.2] 27) :: (bx b5 [vU x6.1, vU x6.2] 27) :: (bx b6 [vU x8.1, vU x8.2] 27) :: (bx b12 [vU x18.1.1, vU x18.1.2] 27) :: As) _ := S120
    obtain ⟨m105, l23, S121⟩ := St.drop S120 0
    replace L0 := Mem.tr L0 l23
    clear S120
    replace S121 : St _ ((bx b5 [vU x6.1, vU x6.2] 27) :: (bx b6 [vU x8.1, vU x8.2] 27) :: (bx b12 [vU x18.1.1, vU x18.1.2] 27) :: As) _ := S121
    obtain ⟨m106, l24, S122⟩ := St.drop S121 0
    replace L0 := Mem.tr L0 l24
    clear S121
    replace S122 : St _ ((bx b6 [vU x8.1, vU x8.2] 27) :: (bx b12 [vU x18.1.1, vU x18.1.2] 27) :: As) _ := S122
    obtain ⟨m107, l25, S123⟩ := St.drop S122 0
    replace L0 := Mem.tr L0 l25
    clear S122
    replace S123 : St _ ((bx b12 [vU x18.1.1, vU x18.1.2] 27) :: As) _ := S123
    obtain ⟨m108, l26, S124⟩ := St.drop S123 0
    replace L0 := Mem.tr L0 l26
    clear S123
    replace S124 : St _ (As) _ := S124
    have e0 := Option.some.inj hm
    subst e0
    exact outR [_, _] rfl ⟨res_box (i := 0) (off := 0) (cs := [vU x20.1, vU x20.2]) SR rfl rfl Tryd.isAgg27 Tryd.sizeOf27 rfl (fun h => by cases h), rfl, trivial⟩ ⟨_, L0, S124, rfl⟩

theorem w_law08_grown {m : Mem} {As : List Ow} {w : World} {a0 : List (UInt64 × UInt64)} {a0v0 : Value} {a1 : Int} {a2 : Bool} {a3 : UInt64 × UInt64} {a4 : List (UInt64 × UInt64)} {a4v0 : Value} {r : (UInt64 × UInt64) × Bool} (S : St m (As) w) (a0h0 : SlR m a0v0 a0) (a4h0 : SlR m a4v0 a4) (hm : m_law08_grown a0 a1 a2 a3 a4 = some r) :
    CallsR Tryd.prog 28 #[a0v0, vI a1, vb a2, .agg #[vU a3.1, vU a3.2], a4v0] w fun v w' => ∃ (M : Mem), m ≤ M ∧ St M (As) w' ∧ v = .tuple #[.agg #[vU r.1.1, vU r.1.2], vb r.2] := wr_law08_grown FUEL S a0h0 a4h0 hm

def m_law08_MerkleSame (a0 : List (UInt64 × UInt64)) (a1 : Int) (a2 : UInt64 × UInt64) (a3 : List (UInt64 × UInt64)) : Option Bool :=
  obind (m_law08_live ) fun x1 =>
  if (!x1) = true then
    some false
  else
  if ((((decide ((a0.length : Int) > 40)) || (decide ((a3.length : Int) > 40))) || (decide (a1 < 0))) || (decide (a1 > (a0.length : Int)))) = true then
    some x1
  else
  obind (m_merkle_Root a0) fun x2 =>
  obind (m_merkle_CheckGrow a1 (a0.length : Int) a2 x2 a3) fun x3 =>
  obind (gu (!(x3 != 0)) (cut a0 0 a1)) fun x4 =>
  obind (gu (!(x3 != 0)) (m_merkle_Root x4)) fun x5 =>
  if ((x3 != 0) || (eqSum a2 x5)) = true then
    some x1
  else
  obind (m_law08_grown a0 a1 true a2 a3) fun x6 =>
  some (x1 && x6.2)

theorem w_law08_MerkleSame {m : Mem} {As : List Ow} {w : World} {a0 : List (UInt64 × UInt64)} {a0v0 : Value} {a1 : Int} {a2 : UInt64 × UInt64} {a3 : List (UInt64 × UInt64)} {a3v0 : Value} {r : Bool} (S : St m (As) w) (T1 : PtC m (pt 1 0) (tab_1.map vB)) (a0h0 : SlR m a0v0 a0) (a3h0 : SlR m a3v0 a3) (hm : m_law08_MerkleSame a0 a1 a2 a3 = some r) :
    CallsR Tryd.prog 9 #[a0v0, vI a1, .agg #[vU a2.1, vU a2.2], a3v0] w fun v w' => ∃ (M : Mem), m ≤ M ∧ St M (As) w' ∧ v = vb r := by
  unfold m_law08_MerkleSame at hm
  have L0 := Mem.rfl' m
  refine callsR (args := [a0v0, vI a1, .agg #[vU a2.1, vU a2.2], a3v0]) Tryd.func9 rfl Tryd.ntmps9 (Nat.le_of_ble_eq_true rfl) ?_
  refine wpc_seq ?_
  refine wpc_region ?_
  refine s_box S rfl ?_
  intro b1 w1 S1
  replace S1 : St _ ((bx b1 [vU a2.1, vU a2.2] 27) :: As) _ := S1
  clear S
  refine s_asv (v := vb false) rfl ?_
  refine wpl_nil ?_
  refine nrm ?_
  refine wpc_seq ?_
  refine wpc_region ?_
  obtain ⟨x1, q1, hm⟩ := obind_some hm
  refine s_call Tryd.call12 (w_law08_live  S1 T1 q1) rfl ?_
  rintro _ w2 ⟨m1, l1, S2, rfl⟩
  replace a0h0 := a0h0.up l1
  replace a3h0 := a3h0.up l1
  replace T1 := T1.up l1
  replace L0 := Mem.tr L0 l1
  clear S1
  replace S2 : St _ ((bx b1 [vU a2.1, vU a2.2] 27) :: As) _ := S2
  refine s_asv (v := vb x1) rfl ?_
  refine wpl_nil ?_
  refine nrm ?_
  refine wpc_seq ?_
  refine wpc_seq ?_
  refine wpc_region ?_
  refine s_mvv (v := vb x1) rfl ?_
  refine s_not rfl ?_
  refine wpl_nil ?_
  refine nrm ?_
  refine wpc_if (t := (!x1)) rfl (fun hc1 => ?_) (fun hc1 => ?_)
  · replace hm := ifT hc1 hm
    refine wpc_seq ?_
    refine wpc_region ?_
    refine s_asv (v := vb false) rfl ?_
    refine wpl_nil ?_
    refine nrm ?_
    refine wpc_ret ?_
    refine thR ?_
    refine outRw ?_
    intro we hpd
    replace S2 := St.pd S2 hpd
    obtain ⟨m2, l2, S3⟩ := St.drop S2 0
    replace T1 := T1.up l2
    replace L0 := Mem.tr L0 l2
    clear S2
    replace S3 : St _ (As) _ := S3
    have e0 := Option.some.inj hm
    subst e0
    exact outR [_] rfl ⟨rfl, trivial⟩ ⟨_, L0, S3, rfl⟩
  replace hm := ifF hc1 hm
  refine wpc_skip ?_
  refine nrm ?_
  refine wpc_seq ?_
  refine wpc_seq ?_
  refine wpc_region ?_
  refine s_mvv (v := a0v0) rfl ?_
  refine s_lenR (xs := a0) rfl a0h0 Tryd.underlying22 ?_
  refine s_gtr (m := (a0.length : Int)) (n := 40) rfl rfl ?_
  refine s_mvv (v := vb (decide ((a0.length : Int) > 40))) rfl ?_
  refine wpl_cut 4 [19, 20, 21, 22] (fun f' w' => w' = w2 ∧ AllAt f' [(22, vb ((decide ((a0.length : Int) > 40)) || (decide ((a3.length : Int) > 40))))]) ?_ ?_
  · rcases bool_tf (decide ((a0.length : Int) > 40)) with hb1 | hb1
    · refine wpl_no (d := 18) rfl rfl (congrArg Value.bool hb1) ?_
      refine wpl_no (d := 18) rfl rfl (congrArg Value.bool hb1) ?_
      refine wpl_no (d := 18) rfl rfl (congrArg Value.bool hb1) ?_
      refine s_pickT (congrArg Value.bool hb1) rfl ?_
      exact wpl_nil (nrm ⟨outP, rfl, congrArg Value.bool (or_t hb1), trivial⟩)
    · refine wpl_yes (d := 18) rfl rfl (congrArg Value.bool hb1) ?_
      refine s_mvv (v := a3v0) rfl ?_
      refine wpl_yes (d := 18) rfl rfl (congrArg Value.bool hb1) ?_
      refine s_lenR (xs := a3) rfl a3h0 Tryd.underlying22 ?_
      refine wpl_yes (d := 18) rfl rfl (congrArg Value.bool hb1) ?_
      refine s_gtr (m := (a3.length : Int)) (n := 40) rfl rfl ?_
      refine s_pickF (congrArg Value.bool hb1) rfl ?_
      exact wpl_nil (nrm ⟨outP, rfl, congrArg Value.bool (or_f hb1), trivial⟩)
  rintro f1 w3 ho ⟨h1, ha⟩
  subst h1
  obtain ⟨u1, rfl⟩ := fr_of (N := 64) ho ha
  refine s_mvv (v := vb ((decide ((a0.length : Int) > 40)) || (decide ((a3.length : Int) > 40)))) rfl ?_
  refine wpl_cut 3 [24, 25, 26] (fun f' w' => w' = w3 ∧ AllAt f' [(26, vb (((decide ((a0.length : Int) > 40)) || (decide ((a3.length : Int) > 40))) || (decide (a1 < 0))))]) ?_ ?_
  · rcases bool_tf ((decide ((a0.length : Int) > 40)) || (decide ((a3.length : Int) > 40))) with hb2 | hb2
    · refine wpl_no (d := 23) rfl rfl (congrArg Value.bool hb2) ?_
      refine wpl_no (d := 23) rfl rfl (congrArg Value.bool hb2) ?_
      refine s_pickT (congrArg Value.bool hb2) rfl ?_
      exact wpl_nil (nrm ⟨outP, rfl, congrArg Value.bool (or_t hb2), trivial⟩)
    · refine wpl_yes (d := 23) rfl rfl (congrArg Value.bool hb2) ?_
      refine s_mvv (v := vI a1) rfl ?_
      refine wpl_yes (d := 23) rfl rfl (congrArg Value.bool hb2) ?_
      refine s_lss (m := a1) (n := 0) rfl rfl ?_
      refine s_pickF (congrArg Value.bool hb2) rfl ?_
      exact wpl_nil (nrm ⟨outP, rfl, congrArg Value.bool (or_f hb2), trivial⟩)
  rintro f2 w4 ho ⟨h2, ha⟩
  subst h2
  obtain ⟨u2, rfl⟩ := fr_of (N := 64) ho ha
  refine s_mvv (v := vb (((decide ((a0.length : Int) > 40)) || (decide ((a3.length : Int) > 40))) || (decide (a1 < 0)))) rfl ?_
  refine wpl_cut 5 [28, 29, 30, 31, 32] (fun f' w' => w' = w4 ∧ AllAt f' [(32, vb ((((decide ((a0.length : Int) > 40)) || (decide ((a3.length : Int) > 40))) || (decide (a1 < 0))) || (decide (a1 > (a0.length : Int)))))]) ?_ ?_
  · rcases bool_tf (((decide ((a0.length : Int) > 40)) || (decide ((a3.length : Int) > 40))) || (decide (a1 < 0))) with hb3 | hb3
    · refine wpl_no (d := 27) rfl rfl (congrArg Value.bool hb3) ?_
      refine wpl_no (d := 27) rfl rfl (congrArg Value.bool hb3) ?_
      refine wpl_no (d := 27) rfl rfl (congrArg Value.bool hb3) ?_
      refine wpl_no (d := 27) rfl rfl (congrArg Value.bool hb3) ?_
      refine s_pickT (congrArg Value.bool hb3) rfl ?_
      exact wpl_nil (nrm ⟨outP, rfl, congrArg Value.bool (or_t hb3), trivial⟩)
    · refine wpl_yes (d := 27) rfl rfl (congrArg Value.bool hb3) ?_
      refine s_mvv (v := vI a1) rfl ?_
      refine wpl_yes (d := 27) rfl rfl (congrArg Value.bool hb3) ?_
      refine s_mvv (v := a0v0) rfl ?_
      refine wpl_yes (d := 27) rfl rfl (congrArg Value.bool hb3) ?_
      refine s_lenR (xs := a0) rfl a0h0 Tryd.underlying22 ?_
      refine wpl_yes (d := 27) rfl rfl (congrArg Value.bool hb3) ?_
      refine s_gtr (m := a1) (n := (a0.length : Int)) rfl rfl ?_
      refine s_pickF (congrArg Value.bool hb3) rfl ?_
      exact wpl_nil (nrm ⟨outP, rfl, congrArg Value.bool (or_f hb3), trivial⟩)
  rintro f3 w5 ho ⟨h3, ha⟩
  subst h3
  obtain ⟨u3, rfl⟩ := fr_of (N := 64) ho ha
  refine wpl_nil ?_
  refine nrm ?_
  refine wpc_if (t := ((((decide ((a0.length : Int) > 40)) || (decide ((a3.length : Int) > 40))) || (decide (a1 < 0))) || (decide (a1 > (a0.length : Int))))) rfl (fun hc2 => ?_) (fun hc2 => ?_)
  · replace hm := ifT hc2 hm
    refine wpc_seq ?_
    refine wpc_region ?_
    refine s_mvv (v := vb x1) rfl ?_
    refine s_asv (v := vb x1) rfl ?_
    refine wpl_nil ?_
    refine nrm ?_
    refine wpc_ret ?_
    refine thR ?_
    refine outRw ?_
    intro we hpd
    replace S2 := St.pd S2 hpd
    obtain ⟨m3, l3, S4⟩ := St.drop S2 0
    replace T1 := T1.up l3
    replace L0 := Mem.tr L0 l3
    clear S2
    replace S4 : St _ (As) _ := S4
    have e0 := Option.some.inj hm
    subst e0
    exact outR [_] rfl ⟨rfl, trivial⟩ ⟨_, L0, S4, rfl⟩
  replace hm := ifF hc2 hm
  refine wpc_skip ?_
  refine nrm ?_
  refine wpc_seq ?_
  refine wpc_seq ?_
  obtain ⟨x2, q2, hm⟩ := obind_some hm
  obtain ⟨x3, q3, hm⟩ := obind_some hm
  obtain ⟨x4, q4, hm⟩ := obind_some hm
  obtain ⟨x5, q5, hm⟩ := obind_some hm
  have HM : MonoAll [(34, fun (M : Mem) (v : Value) => v = vI a1), (35, fun (M : Mem) (v : Value) => v = a0v0), (36, fun (M : Mem) (v : Value) => v = vI (a0.length : Int)), (37, fun (M : Mem) (v : Value) => v = .agg #[vU a2.1, vU a2.2]), (38, fun (M : Mem) (v : Value) => v = a0v0), (39, fun (M : Mem) (v : Value) => v = .agg #[vU x2.1, vU x2.2]), (40, fun (M : Mem) (v : Value) => v = a3v0), (41, fun (M : Mem) (v : Value) => v = vI x3), (42, fun (M : Mem) (v : Value) => v = vb (x3 != 0)), (43, fun (M : Mem) (v : Value) => v = vb (x3 != 0)), (44, fun (M : Mem) (v : Value) => ((!(x3 != 0)) = true → v = .agg #[vU a2.1, vU a2.2]) ∧ ((!(x3 != 0)) = false → v = undef)), (45, fun (M : Mem) (v : Value) => ((!(x3 != 0)) = true → v = a0v0) ∧ ((!(x3 != 0)) = false → v = undef)), (46, fun (M : Mem) (v : Value) => ((!(x3 != 0)) = true → v = vI a1) ∧ ((!(x3 != 0)) = false → v = undef)), (47, fun (M : Mem) (v : Value) => ((!(x3 != 0)) = true → ∃ (v1 : Value), v = v1 ∧ SlR M v1 x4) ∧ ((!(x3 != 0)) = false → v = undef)), (48, fun (M : Mem) (v : Value) => ((!(x3 != 0)) = true → v = .agg #[vU x5.1, vU x5.2]) ∧ ((!(x3 != 0)) = false → v = undef)), (49, fun (M : Mem) (v : Value) => ((!(x3 != 0)) = true → v = vb (eqSum a2 x5)) ∧ ((!(x3 != 0)) = false → v = undef)), (50, fun (M : Mem) (v : Value) => v = vb ((x3 != 0) || (eqSum a2 x5)))] := ⟨(fun _ _ _ _ h => h), (fun _ _ _ _ h => h), (fun _ _ _ _ h => h), (fun _ _ _ _ h => h), (fun _ _ _ _ h => h), (fun _ _ _ _ h => h), (fun _ _ _ _ h => h), (fun _ _ _ _ h => h), (fun _ _ _ _ h => h), (fun _ _ _ _ h => h), (fun _ _ _ _ h => h), (fun _ _ _ _ h => h), (fun _ _ _ _ h => h), (fun _ _ _ l h => ⟨fun c => let ⟨v1, e, h4⟩ := h.1 c; ⟨v1, e, h4.up l⟩, h.2⟩), (fun _ _ _ _ h => h), (fun _ _ _ _ h => h), (fun _ _ _ _ h => h), trivial⟩
  refine wpc_flowG HM 17 mixed rfl rfl rfl [34, 35, 36, 37, 38, 39, 40, 41, 42, 43, 44, 45, 46, 47, 48, 49, 50] (fun L f M w => St M ((bx b1 [vU a2.1, vU a2.2] 27) :: As) w) (St.drew S2 _) ?_ ?_
  · refine ⟨?_, ?_, ?_, ?_, ?_, ?_, ?_, ?_, ?_, ?_, ?_, ?_, ?_, ?_, ?_, ?_, ?_, trivial⟩
    · intro L f4 w6 hL hd hc ⟨m4, L1, S5, K, hO⟩
      obtain ⟨u4, rfl⟩ := fr_of (N := 64) (L := []) hO trivial
      replace S5 : St _ ((bx b1 [vU a2.1, vU a2.2] 27) :: As) _ := S5
      have L2 := Mem.rfl' m4
      refine s_mvv (v := vI a1) rfl ?_
      refine wpn ?_
      refine ⟨m4, Mem.tr L1 L2, ?_, facts_step HM rfl K L2 rfl rfl rfl, outP⟩
      exact S5
    · intro L f5 w7 hL hd hc ⟨m5, L3, S6, K, hO⟩
      obtain ⟨u5, rfl⟩ := fr_of (N := 64) (L := []) hO trivial
      replace S6 : St _ ((bx b1 [vU a2.1, vU a2.2] 27) :: As) _ := S6
      have L4 := Mem.rfl' m5
      refine s_mvv (v := a0v0) rfl ?_
      refine wpn ?_
      refine ⟨m5, Mem.tr L3 L4, ?_, facts_step HM rfl K L4 rfl rfl rfl, outP⟩
      exact S6
    · intro L f6 w8 hL hd hc ⟨m6, L5, S7, K, hO⟩
      have d1 : L 1 = true := dep hd rfl
      have e1 := K 1 d1
      obtain ⟨u6, rfl⟩ := fr_of (N := 64) (L := [(35, a0v0)]) hO ⟨e1, trivial⟩
      replace S7 : St _ ((bx b1 [vU a2.1, vU a2.2] 27) :: As) _ := S7
      replace a0h0 := a0h0.up L5
      replace a3h0 := a3h0.up L5
      replace T1 := T1.up L5
      have L6 := Mem.rfl' m6
      refine s_lenR (xs := a0) rfl a0h0 Tryd.underlying22 ?_
      refine wpn ?_
      refine ⟨m6, Mem.tr L5 L6, ?_, facts_step HM rfl K L6 rfl rfl rfl, outP⟩
      exact S7
    · intro L f7 w9 hL hd hc ⟨m7, L7, S8, K, hO⟩
      obtain ⟨u7, rfl⟩ := fr_of (N := 64) (L := []) hO trivial
      replace S8 : St _ ((bx b1 [vU a2.1, vU a2.2] 27) :: As) _ := S8
      replace a0h0 := a0h0.up L7
      replace a3h0 := a3h0.up L7
      replace T1 := T1.up L7
      have L8 := Mem.rfl' m7
      refine s_ld (i := 0) (cs := [vU a2.1, vU a2.2]) S8 rfl rfl Tryd.isAgg27 Tryd.sizeOf27 rfl (fun h => by cases h) ?_
      refine wpn ?_
      refine ⟨m7, Mem.tr L7 L8, ?_, facts_step HM rfl K L8 rfl rfl rfl, outP⟩
      exact S8
    · intro L f8 w10 hL hd hc ⟨m8, L9, S9, K, hO⟩
      obtain ⟨u8, rfl⟩ := fr_of (N := 64) (L := []) hO trivial
      replace S9 : St _ ((bx b1 [vU a2.1, vU a2.2] 27) :: As) _ := S9
      have L10 := Mem.rfl' m8
      refine s_mvv (v := a0v0) rfl ?_
      refine wpn ?_
      refine ⟨m8, Mem.tr L9 L10, ?_, facts_step HM rfl K L10 rfl rfl rfl, outP⟩
      exact S9
    · intro L f9 w11 hL hd hc ⟨m9, L11, S10, K, hO⟩
      have d4 : L 4 = true := dep hd rfl
      have e2 := K 4 d4
      obtain ⟨u9, rfl⟩ := fr_of (N := 64) (L := [(38, a0v0)]) hO ⟨e2, trivial⟩
      replace S10 : St _ ((bx b1 [vU a2.1, vU a2.2] 27) :: As) _ := S10
      replace a0h0 := a0h0.up L11
      replace a3h0 := a3h0.up L11
      replace T1 := T1.up L11
      have L12 := Mem.rfl' m9
      refine s_call Tryd.call13 (w_merkle_Root (a0 := a0) S10 a0h0 q2) rfl ?_
      rintro _ w12 ⟨m10, l4, S11, rfl⟩
      replace a0h0 := a0h0.up l4
      replace a3h0 := a3h0.up l4
      replace T1 := T1.up l4
      replace L12 := Mem.tr L12 l4
      clear S10
      replace S11 : St _ ((bx b1 [vU a2.1, vU a2.2] 27) :: As) _ := S11
      refine wpn ?_
      refine ⟨m10, Mem.tr L11 L12, ?_, facts_step HM rfl K L12 rfl rfl rfl, outP⟩
      exact S11
    · intro L f10 w13 hL hd hc ⟨m11, L13, S12, K, hO⟩
      obtain ⟨u10, rfl⟩ := fr_of (N := 64) (L := []) hO trivial
      replace S12 : St _ ((bx b1 [vU a2.1, vU a2.2] 27) :: As) _ := S12
      have L14 := Mem.rfl' m11
      refine s_mvv (v := a3v0) rfl ?_
      refine wpn ?_
      refine ⟨m11, Mem.tr L13 L14, ?_, facts_step HM rfl K L14 rfl rfl rfl, outP⟩
      exact S12
    · intro L f11 w14 hL hd hc ⟨m12, L15, S13, K, hO⟩
      have d0 : L 0 = true := dep hd rfl
      have e3 := K 0 d0
      have d2 : L 2 = true := dep hd rfl
      have e4 := K 2 d2
      have d3 : L 3 = true := dep hd rfl
      have e5 := K 3 d3
      have d5 : L 5 = true := dep hd rfl
      have e6 := K 5 d5
      have d6 : L 6 = true := dep hd rfl
      have e7 := K 6 d6
      obtain ⟨u11, rfl⟩ := fr_of (N := 64) (L := [(34, vI a1), (36, vI (a0.length : Int)), (37, .agg #[vU a2.1, vU a2.2]), (39, .agg #[vU x2.1, vU x2.2]), (40, a3v0)]) hO ⟨e3, e4, e5, e6, e7, trivial⟩
      replace S13 : St _ ((bx b1 [vU a2.1, vU a2.2] 27) :: As) _ := S13
      replace a0h0 := a0h0.up L15
      replace a3h0 := a3h0.up L15
      replace T1 := T1.up L15
      have L16 := Mem.rfl' m12
      refine s_call Tryd.call25 (w_merkle_CheckGrow (a0 := a1) (a1 := (a0.length : Int)) (a2 := a2) (a3 := x2) (a4 := a3) S13 T1 a3h0 q3) rfl ?_
      rintro _ w15 ⟨m13, l5, S14, rfl⟩
      replace a0h0 := a0h0.up l5
      replace a3h0 := a3h0.up l5
      replace T1 := T1.up l5
      replace L16 := Mem.tr L16 l5
      clear S13
      replace S14 : St _ ((bx b1 [vU a2.1, vU a2.2] 27) :: As) _ := S14
      refine wpn ?_
      refine ⟨m13, Mem.tr L15 L16, ?_, facts_step HM rfl K L16 rfl rfl rfl, outP⟩
      exact S14
    · intro L f12 w16 hL hd hc ⟨m14, L17, S15, K, hO⟩
      have d7 : L 7 = true := dep hd rfl
      have e8 := K 7 d7
      obtain ⟨u12, rfl⟩ := fr_of (N := 64) (L := [(41, vI x3)]) hO ⟨e8, trivial⟩
      replace S15 : St _ ((bx b1 [vU a2.1, vU a2.2] 27) :: As) _ := S15
      have L18 := Mem.rfl' m14
      refine s_neq (m := x3) (n := 0) rfl rfl ?_
      refine wpn ?_
      refine ⟨m14, Mem.tr L17 L18, ?_, facts_step HM rfl K L18 rfl rfl rfl, outP⟩
      exact S15
    · intro L f13 w17 hL hd hc ⟨m15, L19, S16, K, hO⟩
      have d8 : L 8 = true := dep hd rfl
      have e9 := K 8 d8
      obtain ⟨u13, rfl⟩ := fr_of (N := 64) (L := [(42, vb (x3 != 0))]) hO ⟨e9, trivial⟩
      replace S16 : St _ ((bx b1 [vU a2.1, vU a2.2] 27) :: As) _ := S16
      have L20 := Mem.rfl' m15
      refine s_mvv (v := vb (x3 != 0)) rfl ?_
      refine wpn ?_
      refine ⟨m15, Mem.tr L19 L20, ?_, facts_step HM rfl K L20 rfl rfl rfl, outP⟩
      exact S16
    · intro L f14 w18 hL hd hc ⟨m16, L21, S17, K, hO⟩
      rcases bool_tf (x3 != 0) with hb4 | hb4
      · have d9 : L 9 = true := dep hd rfl
        have e11 := K 9 d9
        obtain ⟨u15, rfl⟩ := fr_of (N := 64) (L := [(43, vb (x3 != 0))]) hO ⟨e11, trivial⟩
        replace S17 : St _ ((bx b1 [vU a2.1, vU a2.2] 27) :: As) _ := S17
        have L23 := Mem.rfl' m16
        refine wpl_no (d := 43) rfl rfl (congrArg Value.bool hb4) ?_
        refine wpn ?_
        refine ⟨m16, Mem.tr L21 L23, ?_, facts_step HM rfl K L23 rfl rfl ⟨fun hx => tf hx (not_f hb4), fun _ => rfl⟩, outP⟩
        exact S17
      have d9 : L 9 = true := dep hd rfl
      have e10 := K 9 d9
      obtain ⟨u14, rfl⟩ := fr_of (N := 64) (L := [(43, vb (x3 != 0))]) hO ⟨e10, trivial⟩
      replace S17 : St _ ((bx b1 [vU a2.1, vU a2.2] 27) :: As) _ := S17
      replace a0h0 := a0h0.up L21
      replace a3h0 := a3h0.up L21
      replace T1 := T1.up L21
      have L22 := Mem.rfl' m16
      refine wpl_yes (d := 43) rfl rfl (congrArg Value.bool hb4) ?_
      refine s_ld (i := 0) (cs := [vU a2.1, vU a2.2]) S17 rfl rfl Tryd.isAgg27 Tryd.sizeOf27 rfl (fun h => by cases h) ?_
      refine wpn ?_
      refine ⟨m16, Mem.tr L21 L22, ?_, facts_step HM rfl K L22 rfl rfl ⟨fun _ => rfl, fun hx => tf (not_t hb4) hx⟩, outP⟩
      exact S17
    · intro L f15 w19 hL hd hc ⟨m17, L24, S18, K, hO⟩
      rcases bool_tf (x3 != 0) with hb5 | hb5
      · have d9 : L 9 = true := dep hd rfl
        have e13 := K 9 d9
        obtain ⟨u17, rfl⟩ := fr_of (N := 64) (L := [(43, vb (x3 != 0))]) hO ⟨e13, trivial⟩
        replace S18 : St _ ((bx b1 [vU a2.1, vU a2.2] 27) :: As) _ := S18
        have L26 := Mem.rfl' m17
        refine wpl_no (d := 43) rfl rfl (congrArg Value.bool hb5) ?_
        refine wpn ?_
        refine ⟨m17, Mem.tr L24 L26, ?_, facts_step HM rfl K L26 rfl rfl ⟨fun hx => tf hx (not_f hb5), fun _ => rfl⟩, outP⟩
        exact S18
      have d9 : L 9 = true := dep hd rfl
      have e12 := K 9 d9
      obtain ⟨u16, rfl⟩ := fr_of (N := 64) (L := [(43, vb (x3 != 0))]) hO ⟨e12, trivial⟩
      replace S18 : St _ ((bx b1 [vU a2.1, vU a2.2] 27) :: As) _ := S18
      have L25 := Mem.rfl' m17
      refine wpl_yes (d := 43) rfl rfl (congrArg Value.bool hb5) ?_
      refine s_mvv (v := a0v0) rfl ?_
      refine wpn ?_
      refine ⟨m17, Mem.tr L24 L25, ?_, facts_step HM rfl K L25 rfl rfl ⟨fun _ => rfl, fun hx => tf (not_t hb5) hx⟩, outP⟩
      exact S18
    · intro L f16 w20 hL hd hc ⟨m18, L27, S19, K, hO⟩
      rcases bool_tf (x3 != 0) with hb6 | hb6
      · have d9 : L 9 = true := dep hd rfl
        have e15 := K 9 d9
        obtain ⟨u19, rfl⟩ := fr_of (N := 64) (L := [(43, vb (x3 != 0))]) hO ⟨e15, trivial⟩
        replace S19 : St _ ((bx b1 [vU a2.1, vU a2.2] 27) :: As) _ := S19
        have L29 := Mem.rfl' m18
        refine wpl_no (d := 43) rfl rfl (congrArg Value.bool hb6) ?_
        refine wpn ?_
        refine ⟨m18, Mem.tr L27 L29, ?_, facts_step HM rfl K L29 rfl rfl ⟨fun hx => tf hx (not_f hb6), fun _ => rfl⟩, outP⟩
        exact S19
      have d9 : L 9 = true := dep hd rfl
      have e14 := K 9 d9
      obtain ⟨u18, rfl⟩ := fr_of (N := 64) (L := [(43, vb (x3 != 0))]) hO ⟨e14, trivial⟩
      replace S19 : St _ ((bx b1 [vU a2.1, vU a2.2] 27) :: As) _ := S19
      have L28 := Mem.rfl' m18
      refine wpl_yes (d := 43) rfl rfl (congrArg Value.bool hb6) ?_
      refine s_mvv (v := vI a1) rfl ?_
      refine wpn ?_
      refine ⟨m18, Mem.tr L27 L28, ?_, facts_step HM rfl K L28 rfl rfl ⟨fun _ => rfl, fun hx => tf (not_t hb6) hx⟩, outP⟩
      exact S19
    · intro L f17 w21 hL hd hc ⟨m19, L30, S20, K, hO⟩
      rcases bool_tf (x3 != 0) with hb7 | hb7
      · have d9 : L 9 = true := dep hd rfl
        have e19 := K 9 d9
        obtain ⟨u21, rfl⟩ := fr_of (N := 64) (L := [(43, vb (x3 != 0))]) hO ⟨e19, trivial⟩
        replace S20 : St _ ((bx b1 [vU a2.1, vU a2.2] 27) :: As) _ := S20
        have L32 := Mem.rfl' m19
        refine wpl_no (d := 43) rfl rfl (congrArg Value.bool hb7) ?_
        refine wpn ?_
        refine ⟨m19, Mem.tr L30 L32, ?_, facts_step HM rfl K L32 rfl rfl ⟨fun hx => tf hx (not_f hb7), fun _ => rfl⟩, outP⟩
        exact S20
      have d9 : L 9 = true := dep hd rfl
      have e16 := K 9 d9
      have d11 : L 11 = true := dep hd rfl
      have e17 := (K 11 d11).1 (not_t hb7)
      have d12 : L 12 = true := dep hd rfl
      have e18 := (K 12 d12).1 (not_t hb7)
      obtain ⟨u20, rfl⟩ := fr_of (N := 64) (L := [(43, vb (x3 != 0)), (45, a0v0), (46, vI a1)]) hO ⟨e16, e17, e18, trivial⟩
      replace S20 : St _ ((bx b1 [vU a2.1, vU a2.2] 27) :: As) _ := S20
      replace a0h0 := a0h0.up L30
      replace a3h0 := a3h0.up L30
      replace T1 := T1.up L30
      have L31 := Mem.rfl' m19
      refine wpl_yes (d := 43) rfl rfl (congrArg Value.bool hb7) ?_
      replace q4 := gu_t (not_t hb7) q4
      refine s_cut (ys := x4) (l := 0) (h := a1) rfl a0h0 Tryd.underlying22 Tryd.sizeOf27 (.inl ⟨rfl, rfl⟩) (.inr ⟨_, rfl⟩) (.inl rfl) q4 ?_
      intro v1 h4
      refine wpn ?_
      refine ⟨m19, Mem.tr L30 L31, ?_, facts_step HM rfl K L31 rfl rfl ⟨fun _ => ⟨v1, rfl, h4⟩, fun hx => tf (not_t hb7) hx⟩, outP⟩
      exact S20
    · intro L f18 w22 hL hd hc ⟨m20, L33, S21, K, hO⟩
      rcases bool_tf (x3 != 0) with hb8 | hb8
      · have d9 : L 9 = true := dep hd rfl
        have e22 := K 9 d9
        obtain ⟨u23, rfl⟩ := fr_of (N := 64) (L := [(43, vb (x3 != 0))]) hO ⟨e22, trivial⟩
        replace S21 : St _ ((bx b1 [vU a2.1, vU a2.2] 27) :: As) _ := S21
        have L35 := Mem.rfl' m20
        refine wpl_no (d := 43) rfl rfl (congrArg Value.bool hb8) ?_
        refine wpn ?_
        refine ⟨m20, Mem.tr L33 L35, ?_, facts_step HM rfl K L35 rfl rfl ⟨fun hx => tf hx (not_f hb8), fun _ => rfl⟩, outP⟩
        exact S21
      have d9 : L 9 = true := dep hd rfl
      have e20 := K 9 d9
      have d13 : L 13 = true := dep hd rfl
      obtain ⟨v2, e21, h5⟩ := (K 13 d13).1 (not_t hb8)
      obtain ⟨u22, rfl⟩ := fr_of (N := 64) (L := [(43, vb (x3 != 0)), (47, v2)]) hO ⟨e20, e21, trivial⟩
      replace S21 : St _ ((bx b1 [vU a2.1, vU a2.2] 27) :: As) _ := S21
      replace a0h0 := a0h0.up L33
      replace a3h0 := a3h0.up L33
      replace T1 := T1.up L33
      have L34 := Mem.rfl' m20
      refine wpl_yes (d := 43) rfl rfl (congrArg Value.bool hb8) ?_
      replace q5 := gu_t (not_t hb8) q5
      refine s_call Tryd.call13 (w_merkle_Root (a0 := x4) S21 h5 q5) rfl ?_
      rintro _ w23 ⟨m21, l6, S22, rfl⟩
      replace a0h0 := a0h0.up l6
      replace a3h0 := a3h0.up l6
      replace h5 := h5.up l6
      replace T1 := T1.up l6
      replace L34 := Mem.tr L34 l6
      clear S21
      replace S22 : St _ ((bx b1 [vU a2.1, vU a2.2] 27) :: As) _ := S22
      refine wpn ?_
      refine ⟨m21, Mem.tr L33 L34, ?_, facts_step HM rfl K L34 rfl rfl ⟨fun _ => rfl, fun hx => tf (not_t hb8) hx⟩, outP⟩
      exact S22
    · intro L f19 w24 hL hd hc ⟨m22, L36, S23, K, hO⟩
      rcases bool_tf (x3 != 0) with hb9 | hb9
      · have d9 : L 9 = true := dep hd rfl
        have e26 := K 9 d9
        obtain ⟨u25, rfl⟩ := fr_of (N := 64) (L := [(43, vb (x3 != 0))]) hO ⟨e26, trivial⟩
        replace S23 : St _ ((bx b1 [vU a2.1, vU a2.2] 27) :: As) _ := S23
        have L38 := Mem.rfl' m22
        refine wpl_no (d := 43) rfl rfl (congrArg Value.bool hb9) ?_
        refine wpn ?_
        refine ⟨m22, Mem.tr L36 L38, ?_, facts_step HM rfl K L38 rfl rfl ⟨fun hx => tf hx (not_f hb9), fun _ => rfl⟩, outP⟩
        exact S23
      have d9 : L 9 = true := dep hd rfl
      have e23 := K 9 d9
      have d10 : L 10 = true := dep hd rfl
      have e24 := (K 10 d10).1 (not_t hb9)
      have d14 : L 14 = true := dep hd rfl
      have e25 := (K 14 d14).1 (not_t hb9)
      obtain ⟨u24, rfl⟩ := fr_of (N := 64) (L := [(43, vb (x3 != 0)), (44, .agg #[vU a2.1, vU a2.2]), (48, .agg #[vU x5.1, vU x5.2])]) hO ⟨e23, e24, e25, trivial⟩
      replace S23 : St _ ((bx b1 [vU a2.1, vU a2.2] 27) :: As) _ := S23
      replace a0h0 := a0h0.up L36
      replace a3h0 := a3h0.up L36
      replace T1 := T1.up L36
      have L37 := Mem.rfl' m22
      refine wpl_yes (d := 43) rfl rfl (congrArg Value.bool hb9) ?_
      refine s_eqlSum (p := a2) (q := x5) rfl rfl Tryd.underlying27 Tryd.underlying25 Tryd.sizeOf25 Tryd.isAgg25 Tryd.eqGuardType27 ?_
      refine wpn ?_
      refine ⟨m22, Mem.tr L36 L37, ?_, facts_step HM rfl K L37 rfl rfl ⟨fun _ => rfl, fun hx => tf (not_t hb9) hx⟩, outP⟩
      exact S23
    · intro L f20 w25 hL hd hc ⟨m23, L39, S24, K, hO⟩
      rcases bool_tf (x3 != 0) with hb10 | hb10
      · have d9 : L 9 = true := dep hd rfl
        have e27 := K 9 d9
        obtain ⟨u26, rfl⟩ := fr_of (N := 64) (L := [(43, vb (x3 != 0))]) hO ⟨e27, trivial⟩
        replace S24 : St _ ((bx b1 [vU a2.1, vU a2.2] 27) :: As) _ := S24
        have L40 := Mem.rfl' m23
        refine s_pickT (congrArg Value.bool hb10) rfl ?_
        refine wpn ?_
        refine ⟨m23, Mem.tr L39 L40, ?_, facts_step HM rfl K L40 rfl rfl (congrArg Value.bool (or_t hb10)), outP⟩
        exact S24
      · have d9 : L 9 = true := dep hd rfl
        have e28 := K 9 d9
        have d15 : L 15 = true := dep hd rfl
        have e29 := (K 15 d15).1 (not_t hb10)
        obtain ⟨u27, rfl⟩ := fr_of (N := 64) (L := [(43, vb (x3 != 0)), (49, vb (eqSum a2 x5))]) hO ⟨e28, e29, trivial⟩
        replace S24 : St _ ((bx b1 [vU a2.1, vU a2.2] 27) :: As) _ := S24
        have L41 := Mem.rfl' m23
        refine s_pickF (congrArg Value.bool hb10) rfl ?_
        refine wpn ?_
        refine ⟨m23, Mem.tr L39 L41, ?_, facts_step HM rfl K L41 rfl rfl (congrArg Value.bool (or_f hb10)), outP⟩
        exact S24
  intro L f21 w26 hall ⟨m24, L42, S25, K, hO⟩
  have d16 : L 16 = true := hall 16 (by decide)
  have e30 := K 16 d16
  obtain ⟨u28, rfl⟩ := fr_of (N := 64) (L := [(50, vb ((x3 != 0) || (eqSum a2 x5)))]) hO ⟨e30, trivial⟩
  replace S25 : St _ ((bx b1 [vU a2.1, vU a2.2] 27) :: As) _ := S25
  replace a0h0 := a0h0.up L42
  replace a3h0 := a3h0.up L42
  replace T1 := T1.up L42
  replace L0 := Mem.tr L0 L42
  clear S2
  refine wpl_nil ?_
  refine nrm ?_
  refine wpc_if (t := ((x3 != 0) || (eqSum a2 x5))) rfl (fun hc3 => ?_) (fun hc3 => ?_)
  · replace hm := ifT hc3 hm
    refine wpc_seq ?_
    refine wpc_region ?_
    refine s_mvv (v := vb x1) rfl ?_
    refine s_asv (v := vb x1) rfl ?_
    refine wpl_nil ?_
    refine nrm ?_
    refine wpc_ret ?_
    refine thR ?_
    refine outRw ?_
    intro we hpd
    replace S25 := St.pd S25 hpd
    obtain ⟨m25, l7, S26⟩ := St.drop S25 0
    replace T1 := T1.up l7
    replace L0 := Mem.tr L0 l7
    clear S25
    replace S26 : St _ (As) _ := S26
    have e0 := Option.some.inj hm
    subst e0
    exact outR [_] rfl ⟨rfl, trivial⟩ ⟨_, L0, S26, rfl⟩
  replace hm := ifF hc3 hm
  refine wpc_skip ?_
  refine nrm ?_
  refine wpc_seq ?_
  refine wpc_region ?_
  refine s_mvv (v := a0v0) rfl ?_
  refine s_mvv (v := vI a1) rfl ?_
  refine s_ld (i := 0) (cs := [vU a2.1, vU a2.2]) S25 rfl rfl Tryd.isAgg27 Tryd.sizeOf27 rfl (fun h => by cases h) ?_
  refine s_mvv (v := a3v0) rfl ?_
  obtain ⟨x6, q6, hm⟩ := obind_some hm
  refine s_call Tryd.call28 (w_law08_grown (a0 := a0) (a1 := a1) (a2 := true) (a3 := a2) (a4 := a3) S25 a0h0 a3h0 q6) rfl ?_
  rintro _ w27 ⟨m26, l8, S27, rfl⟩
  replace a0h0 := a0h0.up l8
  replace a3h0 := a3h0.up l8
  replace T1 := T1.up l8
  replace L0 := Mem.tr L0 l8
  clear S25
  replace S27 : St _ ((bx b1 [vU a2.1, vU a2.2] 27) :: As) _ := S27
  refine s_mvv (v := .tuple #[.agg #[vU x6.1.1, vU x6.1.2], vb x6.2]) rfl ?_
  refine s_ext (i := 0) rfl rfl ?_
  refine s_ext (i := 1) rfl rfl ?_
  refine s_alloc S27 Tryd.zeroValue27 ?_
  intro b2 w28 S28
  replace S28 : St _ ((bx b2 [vU 0, vU 0] 27) :: (bx b1 [vU a2.1, vU a2.2] 27) :: As) _ := S28
  clear S27
  refine s_stL (i := 0) S28 rfl rfl rfl Tryd.sizeOf27 (oneC rfl (oneC rfl oneN)) rfl ?_
  intro w29 S29
  replace S29 : St _ ((bx b2 [vU x6.1.1, vU x6.1.2] 27) :: (bx b1 [vU a2.1, vU a2.2] 27) :: As) _ := S29
  clear S28
  refine s_asv (v := vb x6.2) rfl ?_
  refine wpl_nil ?_
  refine nrm ?_
  refine wpc_seq ?_
  refine wpc_region ?_
  refine s_mvv (v := vb x1) rfl ?_
  refine s_mvv (v := vb x1) rfl ?_
  refine wpl_cut 2 [62, 63] (fun f' w' => w' = w29 ∧ AllAt f' [(63, vb (x1 && x6.2))]) ?_ ?_
  · rcases bool_tf x1 with hb11 | hb11
    · refine wpl_yes (d := 61) rfl rfl (congrArg Value.bool hb11) ?_
      refine s_mvv (v := vb x6.2) rfl ?_
      refine s_pickT (congrArg Value.bool hb11) rfl ?_
      exact wpl_nil (nrm ⟨outP, rfl, congrArg Value.bool (and_t hb11), trivial⟩)
    · refine wpl_no (d := 61) rfl rfl (congrArg Value.bool hb11) ?_
      refine s_pickF (congrArg Value.bool hb11) rfl ?_
      exact wpl_nil (nrm ⟨outP, rfl, congrArg Value.bool (and_f hb11), trivial⟩)
  rintro f22 w30 ho ⟨h6, ha⟩
  subst h6
  obtain ⟨u29, rfl⟩ := fr_of (N := 64) ho ha
  refine s_asv (v := vb (x1 && x6.2)) rfl ?_
  refine wpl_nil ?_
  refine nrm ?_
  refine wpc_ret ?_
  refine outRw ?_
  intro we hpd
  replace S29 := St.pd S29 hpd
  obtain ⟨m27, l9, S30⟩ := St.drop S29 0
  replace T1 := T1.up l9
  replace L0 := Mem.tr L0 l9
  clear S29
  replace S30 : St _ ((bx b1 [vU a2.1, vU a2.2] 27) :: As) _ := S30
  obtain ⟨m28, l10, S31⟩ := St.drop S30 0
  replace T1 := T1.up l10
  replace L0 := Mem.tr L0 l10
  clear S30
  replace S31 : St _ (As) _ := S31
  have e0 := Option.some.inj hm
  subst e0
  exact outR [_] rfl ⟨rfl, trivial⟩ ⟨_, L0, S31, rfl⟩

end Go.Proofs.YtohipjalgccmnaaDoor
