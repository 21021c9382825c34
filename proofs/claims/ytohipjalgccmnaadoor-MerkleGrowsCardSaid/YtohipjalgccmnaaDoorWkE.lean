/- The walks of some functions, written by program. Conditions: none. -/
import Derived.Test.YtohipjalgccmnaaDoorWkD
set_option maxHeartbeats 20000000
set_option maxRecDepth 100000
set_option linter.unusedVariables false
set_option linter.unusedSimpArgs false
namespace Go.Proofs.YtohipjalgccmnaaDoor
open Go Go.Gw

def r_ref08_Root : Nat → (List (UInt64 × UInt64)) → Option (UInt64 × UInt64)
  | 0, _ => none
  | n + 1, a0 =>
    if ((a0.length : Int) == 0) = true then
      obind (m_ref02_Tagged (⟨#[101, 109, 112, 116, 121]⟩ : ByteArray) ([] : List (List UInt8))) fun x1 =>
      some x1
    else
    if ((a0.length : Int) == 1) = true then
      obind (idx a0 0) fun x2 =>
      some x2
    else
    obind (m_ref08_First (a0.length : Int)) fun x3 =>
    obind (cut a0 0 x3) fun x4 =>
    obind (r_ref08_Root n x4) fun x5 =>
    obind (cut a0 x3 (a0.length : Int)) fun x6 =>
    obind (r_ref08_Root n x6) fun x7 =>
    obind (m_ref02_Pair x5 x7) fun x8 =>
    some x8

def m_ref08_Root (a0 : List (UInt64 × UInt64)) : Option (UInt64 × UInt64) := r_ref08_Root FUEL a0

theorem wr_ref08_Root (n : Nat) : ∀ {m : Mem} {As : List Ow} {w : World} {a0 : List (UInt64 × UInt64)} {a0v0 : Value} {r : UInt64 × UInt64} (S : St m (As) w) (a0h0 : SlR m a0v0 a0) (hm : r_ref08_Root n a0 = some r),
    CallsR Tryd.prog 14 #[a0v0] w fun v w' => ∃ (M : Mem), m ≤ M ∧ St M (As) w' ∧ v = .agg #[vU r.1, vU r.2] := by
  induction n with
  | zero => intro m As w a0 a0v0 r S a0h0 hm; cases hm
  | succ n ih =>
    intro m As w a0 a0v0 r S a0h0 hm
    unfold r_ref08_Root at hm
    have L0 := Mem.rfl' m
    refine callsR (args := [a0v0]) Tryd.func14 rfl Tryd.ntmps14 (Nat.le_of_ble_eq_true rfl) ?_
    refine wpc_seq ?_
    refine wpc_region ?_
    refine s_alloc S Tryd.zeroValue27 ?_
    intro b1 w1 S1
    replace S1 : St _ ((bx b1 [vU 0, vU 0] 27) :: As) _ := S1
    clear S
    refine wpl_nil ?_
    refine nrm ?_
    refine wpc_seq ?_
    refine wpc_seq ?_
    refine wpc_region ?_
    refine s_mvv (v := a0v0) rfl ?_
    refine s_lenR (xs := a0) rfl a0h0 Tryd.underlying22 ?_
    refine s_eql (m := (a0.length : Int)) (n := 0) rfl rfl ?_
    refine wpl_nil ?_
    refine nrm ?_
    refine wpc_if (t := ((a0.length : Int) == 0)) rfl (fun hc1 => ?_) (fun hc1 => ?_)
    · replace hm := ifT hc1 hm
      refine wpc_seq ?_
      refine wpc_region ?_
      obtain ⟨x1, q1, hm⟩ := obind_some hm
      refine s_call Tryd.call34 (w_ref02_Tagged (a0 := (⟨#[101, 109, 112, 116, 121]⟩ : ByteArray)) (a1 := ([] : List (List UInt8))) S1 (SlR.nil (a := none) (c := 0)) q1) rfl ?_
      rintro _ w2 ⟨m1, l1, S2, rfl⟩
      replace a0h0 := a0h0.up l1
      replace L0 := Mem.tr L0 l1
      clear S1
      replace S2 : St _ ((bx b1 [vU 0, vU 0] 27) :: As) _ := S2
      refine s_stL (i := 0) S2 rfl rfl rfl Tryd.sizeOf27 (oneC rfl (oneC rfl oneN)) rfl ?_
      intro w3 S3
      replace S3 : St _ ((bx b1 [vU x1.1, vU x1.2] 27) :: As) _ := S3
      clear S2
      refine wpl_nil ?_
      refine nrm ?_
      refine wpc_ret ?_
      refine thR ?_
      refine outRw ?_
      intro we hpd
      replace S3 := St.pd S3 hpd
      have SR := S3
      obtain ⟨m2, l2, S4⟩ := St.drop S3 0
      replace L0 := Mem.tr L0 l2
      replace S4 : St _ (As) _ := S4
      have e0 := Option.some.inj hm
      subst e0
      exact outR [_] rfl ⟨res_box (i := 0) (off := 0) (cs := [vU x1.1, vU x1.2]) SR rfl rfl Tryd.isAgg27 Tryd.sizeOf27 rfl (fun h => by cases h), trivial⟩ ⟨_, L0, S4, rfl⟩
    replace hm := ifF hc1 hm
    refine wpc_skip ?_
    refine nrm ?_
    refine wpc_seq ?_
    refine wpc_seq ?_
    refine wpc_region ?_
    refine s_mvv (v := a0v0) rfl ?_
    refine s_lenR (xs := a0) rfl a0h0 Tryd.underlying22 ?_
    refine s_eql (m := (a0.length : Int)) (n := 1) rfl rfl ?_
    refine wpl_nil ?_
    refine nrm ?_
    refine wpc_if (t := ((a0.length : Int) == 1)) rfl (fun hc2 => ?_) (fun hc2 => ?_)
    · replace hm := ifT hc2 hm
      refine wpc_seq ?_
      refine wpc_region ?_
      refine s_mvv (v := a0v0) rfl ?_
      obtain ⟨x2, q2, hm⟩ := obind_some hm
      refine s_idx (q := x2) (i := 0) rfl rfl a0h0 q2 Tryd.underlying22 Tryd.sizeOf27 ?_
      intro p1 c1 h1 r1
      obtain rfl := rep_arr2_UInt64 r1
      refine s_ldM (cs := [vU x2.1, vU x2.2]) S1 rfl h1 rfl Tryd.isAgg27 Tryd.sizeOf27 (fun h => by cases h) ?_
      refine s_stL (i := 0) S1 rfl rfl rfl Tryd.sizeOf27 (oneC rfl (oneC rfl oneN)) rfl ?_
      intro w4 S5
      replace S5 : St _ ((bx b1 [vU x2.1, vU x2.2] 27) :: As) _ := S5
      clear S1
      refine wpl_nil ?_
      refine nrm ?_
      refine wpc_ret ?_
      refine thR ?_
      refine outRw ?_
      intro we hpd
      replace S5 := St.pd S5 hpd
      have SR := S5
      obtain ⟨m3, l3, S6⟩ := St.drop S5 0
      replace L0 := Mem.tr L0 l3
      replace S6 : St _ (As) _ := S6
      have e0 := Option.some.inj hm
      subst e0
      exact outR [_] rfl ⟨res_box (i := 0) (off := 0) (cs := [vU x2.1, vU x2.2]) SR rfl rfl Tryd.isAgg27 Tryd.sizeOf27 rfl (fun h => by cases h), trivial⟩ ⟨_, L0, S6, rfl⟩
    replace hm := ifF hc2 hm
    refine wpc_skip ?_
    refine nrm ?_
    refine wpc_seq ?_
    refine wpc_region ?_
    refine s_mvv (v := a0v0) rfl ?_
    refine s_lenR (xs := a0) rfl a0h0 Tryd.underlying22 ?_
    obtain ⟨x3, q3, hm⟩ := obind_some hm
    refine s_call Tryd.call35 (w_ref08_First (a0 := (a0.length : Int)) S1  q3) rfl ?_
    rintro _ w5 ⟨m4, l4, S7, rfl⟩
    replace a0h0 := a0h0.up l4
    replace L0 := Mem.tr L0 l4
    clear S1
    replace S7 : St _ ((bx b1 [vU 0, vU 0] 27) :: As) _ := S7
    refine s_asv (v := vI x3) rfl ?_
    refine wpl_nil ?_
    refine nrm ?_
    refine wpc_seq ?_
    obtain ⟨x4, q4, hm⟩ := obind_some hm
    obtain ⟨x5, q5, hm⟩ := obind_some hm
    obtain ⟨x6, q6, hm⟩ := obind_some hm
    have HM : MonoAll [(17, fun (M : Mem) (v : Value) => v = a0v0), (18, fun (M : Mem) (v : Value) => v = vI x3), (19, fun (M : Mem) (v : Value) => ∃ (v1 : Value), v = v1 ∧ SlR M v1 x4), (20, fun (M : Mem) (v : Value) => v = .agg #[vU x5.1, vU x5.2]), (21, fun (M : Mem) (v : Value) => v = a0v0), (22, fun (M : Mem) (v : Value) => v = vI x3), (23, fun (M : Mem) (v : Value) => ∃ (v3 : Value), v = v3 ∧ SlR M v3 x6)] := ⟨(fun _ _ _ _ h => h), (fun _ _ _ _ h => h), (fun _ _ _ l ⟨v1, e, h2⟩ => ⟨v1, e, h2.up l⟩), (fun _ _ _ _ h => h), (fun _ _ _ _ h => h), (fun _ _ _ _ h => h), (fun _ _ _ l ⟨v3, e, h4⟩ => ⟨v3, e, h4.up l⟩), trivial⟩
    refine wpc_flowG HM 7 mixed rfl rfl rfl [17, 18, 19, 20, 21, 22, 23] (fun L f M w => St M ((bx b1 [vU 0, vU 0] 27) :: As) w) (St.drew S7 _) ?_ ?_
    · refine ⟨?_, ?_, ?_, ?_, ?_, ?_, ?_, trivial⟩
      · intro L f1 w6 hL hd hc ⟨m5, L1, S8, K, hO⟩
        obtain ⟨u1, rfl⟩ := fr_of (N := 26) (L := []) hO trivial
        replace S8 : St _ ((bx b1 [vU 0, vU 0] 27) :: As) _ := S8
        have L2 := Mem.rfl' m5
        refine s_mvv (v := a0v0) rfl ?_
        refine wpn ?_
        refine ⟨m5, Mem.tr L1 L2, ?_, facts_step HM rfl K L2 rfl rfl rfl, outP⟩
        exact S8
      · intro L f2 w7 hL hd hc ⟨m6, L3, S9, K, hO⟩
        obtain ⟨u2, rfl⟩ := fr_of (N := 26) (L := []) hO trivial
        replace S9 : St _ ((bx b1 [vU 0, vU 0] 27) :: As) _ := S9
        have L4 := Mem.rfl' m6
        refine s_mvv (v := vI x3) rfl ?_
        refine wpn ?_
        refine ⟨m6, Mem.tr L3 L4, ?_, facts_step HM rfl K L4 rfl rfl rfl, outP⟩
        exact S9
      · intro L f3 w8 hL hd hc ⟨m7, L5, S10, K, hO⟩
        have d0 : L 0 = true := dep hd rfl
        have e1 := K 0 d0
        have d1 : L 1 = true := dep hd rfl
        have e2 := K 1 d1
        obtain ⟨u3, rfl⟩ := fr_of (N := 26) (L := [(17, a0v0), (18, vI x3)]) hO ⟨e1, e2, trivial⟩
        replace S10 : St _ ((bx b1 [vU 0, vU 0] 27) :: As) _ := S10
        replace a0h0 := a0h0.up L5
        have L6 := Mem.rfl' m7
        refine s_cut (ys := x4) (l := 0) (h := x3) rfl a0h0 Tryd.underlying22 Tryd.sizeOf27 (.inl ⟨rfl, rfl⟩) (.inr ⟨_, rfl⟩) (.inl rfl) q4 ?_
        intro v1 h2
        refine wpn ?_
        refine ⟨m7, Mem.tr L5 L6, ?_, facts_step HM rfl K L6 rfl rfl ⟨v1, rfl, h2⟩, outP⟩
        exact S10
      · intro L f4 w9 hL hd hc ⟨m8, L7, S11, K, hO⟩
        have d2 : L 2 = true := dep hd rfl
        obtain ⟨v2, e3, h3⟩ := K 2 d2
        obtain ⟨u4, rfl⟩ := fr_of (N := 26) (L := [(19, v2)]) hO ⟨e3, trivial⟩
        replace S11 : St _ ((bx b1 [vU 0, vU 0] 27) :: As) _ := S11
        replace a0h0 := a0h0.up L7
        have L8 := Mem.rfl' m8
        refine s_call Tryd.call14 (ih (a0 := x4) S11 h3 q5) rfl ?_
        rintro _ w10 ⟨m9, l5, S12, rfl⟩
        replace a0h0 := a0h0.up l5
        replace h3 := h3.up l5
        replace L8 := Mem.tr L8 l5
        clear S11
        replace S12 : St _ ((bx b1 [vU 0, vU 0] 27) :: As) _ := S12
        refine wpn ?_
        refine ⟨m9, Mem.tr L7 L8, ?_, facts_step HM rfl K L8 rfl rfl rfl, outP⟩
        exact S12
      · intro L f5 w11 hL hd hc ⟨m10, L9, S13, K, hO⟩
        obtain ⟨u5, rfl⟩ := fr_of (N := 26) (L := []) hO trivial
        replace S13 : St _ ((bx b1 [vU 0, vU 0] 27) :: As) _ := S13
        have L10 := Mem.rfl' m10
        refine s_mvv (v := a0v0) rfl ?_
        refine wpn ?_
        refine ⟨m10, Mem.tr L9 L10, ?_, facts_step HM rfl K L10 rfl rfl rfl, outP⟩
        exact S13
      · intro L f6 w12 hL hd hc ⟨m11, L11, S14, K, hO⟩
        obtain ⟨u6, rfl⟩ := fr_of (N := 26) (L := []) hO trivial
        replace S14 : St _ ((bx b1 [vU 0, vU 0] 27) :: As) _ := S14
        have L12 := Mem.rfl' m11
        refine s_mvv (v := vI x3) rfl ?_
        refine wpn ?_
        refine ⟨m11, Mem.tr L11 L12, ?_, facts_step HM rfl K L12 rfl rfl rfl, outP⟩
        exact S14
      · intro L f7 w13 hL hd hc ⟨m12, L13, S15, K, hO⟩
        have d4 : L 4 = true := dep hd rfl
        have e4 := K 4 d4
        have d5 : L 5 = true := dep hd rfl
        have e5 := K 5 d5
        obtain ⟨u7, rfl⟩ := fr_of (N := 26) (L := [(21, a0v0), (22, vI x3)]) hO ⟨e4, e5, trivial⟩
        replace S15 : St _ ((bx b1 [vU 0, vU 0] 27) :: As) _ := S15
        replace a0h0 := a0h0.up L13
        have L14 := Mem.rfl' m12
        refine s_cut (ys := x6) (l := x3) (h := (a0.length : Int)) rfl a0h0 Tryd.underlying22 Tryd.sizeOf27 (.inr ⟨_, rfl⟩) (.inl ⟨rfl, rfl⟩) (.inl rfl) q6 ?_
        intro v3 h4
        refine wpn ?_
        refine ⟨m12, Mem.tr L13 L14, ?_, facts_step HM rfl K L14 rfl rfl ⟨v3, rfl, h4⟩, outP⟩
        exact S15
    intro L f8 w14 hall ⟨m13, L15, S16, K, hO⟩
    have d3 : L 3 = true := hall 3 (by decide)
    have e6 := K 3 d3
    have d6 : L 6 = true := hall 6 (by decide)
    obtain ⟨v4, e7, h5⟩ := K 6 d6
    obtain ⟨u8, rfl⟩ := fr_of (N := 26) (L := [(20, .agg #[vU x5.1, vU x5.2]), (23, v4)]) hO ⟨e6, e7, trivial⟩
    replace S16 : St _ ((bx b1 [vU 0, vU 0] 27) :: As) _ := S16
    replace a0h0 := a0h0.up L15
    replace L0 := Mem.tr L0 L15
    clear S7
    obtain ⟨x7, q7, hm⟩ := obind_some hm
    refine s_call Tryd.call14 (ih (a0 := x6) S16 h5 q7) rfl ?_
    rintro _ w15 ⟨m14, l6, S17, rfl⟩
    replace h5 := h5.up l6
    replace L0 := Mem.tr L0 l6
    clear S16
    replace S17 : St _ ((bx b1 [vU 0, vU 0] 27) :: As) _ := S17
    obtain ⟨x8, q8, hm⟩ := obind_some hm
    refine s_call Tryd.call36 (w_ref02_Pair (a0 := x5) (a1 := x7) S17  q8) rfl ?_
    rintro _ w16 ⟨m15, l7, S18, rfl⟩
    replace L0 := Mem.tr L0 l7
    clear S17
    replace S18 : St _ ((bx b1 [vU 0, vU 0] 27) :: As) _ := S18
    refine s_stL (i := 0) S18 rfl rfl rfl Tryd.sizeOf27 (oneC rfl (oneC rfl oneN)) rfl ?_
    intro w17 S19
    replace S19 : St _ ((bx b1 [vU x8.1, vU x8.2] 27) :: As) _ := S19
    clear S18
    refine wpl_nil ?_
    refine nrm ?_
    refine wpc_ret ?_
    refine outRw ?_
    intro we hpd
    replace S19 := St.pd S19 hpd
    have SR := S19
    obtain ⟨m16, l8, S20⟩ := St.drop S19 0
    replace L0 := Mem.tr L0 l8
    replace S20 : St _ (As) _ := S20
    have e0 := Option.some.inj hm
    subst e0
    exact outR [_] rfl ⟨res_box (i := 0) (off := 0) (cs := [vU x8.1, vU x8.2]) SR rfl rfl Tryd.isAgg27 Tryd.sizeOf27 rfl (fun h => by cases h), trivial⟩ ⟨_, L0, S20, rfl⟩

theorem w_ref08_Root {m : Mem} {As : List Ow} {w : World} {a0 : List (UInt64 × UInt64)} {a0v0 : Value} {r : UInt64 × UInt64} (S : St m (As) w) (a0h0 : SlR m a0v0 a0) (hm : m_ref08_Root a0 = some r) :
    CallsR Tryd.prog 14 #[a0v0] w fun v w' => ∃ (M : Mem), m ≤ M ∧ St M (As) w' ∧ v = .agg #[vU r.1, vU r.2] := wr_ref08_Root FUEL S a0h0 hm

def m_ref08_Leaf (a0 : List UInt8) : Option (UInt64 × UInt64) :=
  obind (m_ref02_Tagged (⟨#[108, 101, 97, 102]⟩ : ByteArray) ([a0] : List (List UInt8))) fun x1 =>
  some x1

theorem w_ref08_Leaf {m : Mem} {As : List Ow} {w : World} {a0 : List UInt8} {a0v0 : Value} {r : UInt64 × UInt64} (S : St m (As) w) (a0h0 : SlR m a0v0 a0) (hm : m_ref08_Leaf a0 = some r) :
    CallsR Tryd.prog 16 #[a0v0] w fun v w' => ∃ (M : Mem), m ≤ M ∧ St M (As) w' ∧ v = .agg #[vU r.1, vU r.2] := by
  unfold m_ref08_Leaf at hm
  have L0 := Mem.rfl' m
  refine callsR (args := [a0v0]) Tryd.func16 rfl Tryd.ntmps16 (Nat.le_of_ble_eq_true rfl) ?_
  refine wpc_seq ?_
  refine wpc_region ?_
  refine s_alloc S Tryd.zeroValue27 ?_
  intro b1 w1 S1
  replace S1 : St _ ((bx b1 [vU 0, vU 0] 27) :: As) _ := S1
  clear S
  refine wpl_nil ?_
  refine nrm ?_
  refine wpc_seq ?_
  refine wpc_region ?_
  refine s_mvv (v := a0v0) rfl ?_
  refine s_litC (parts := [.tmp 3]) (vs := [a0v0]) (cls := [[a0v0]]) (xs := ([a0] : List (List UInt8))) (n := 1) S1 Tryd.underlying75 Tryd.sizeOf23 Tryd.zeroValue23 rfl ⟨SlR.cells a0h0, trivial⟩ (RepL.cons (c := [a0v0]) (x := a0) ⟨_, rfl, a0h0⟩ RepL.nil) rfl rfl rfl (by decide) (by decide) ?_
  intro v1 m1 w2 l1 S2 h1
  replace a0h0 := a0h0.up l1
  replace L0 := Mem.tr L0 l1
  clear S1
  obtain ⟨x1, q1, hm⟩ := obind_some hm
  refine s_call Tryd.call34 (w_ref02_Tagged (a0 := (⟨#[108, 101, 97, 102]⟩ : ByteArray)) (a1 := ([a0] : List (List UInt8))) S2 h1 q1) rfl ?_
  rintro _ w3 ⟨m2, l2, S3, rfl⟩
  replace h1 := h1.up l2
  replace L0 := Mem.tr L0 l2
  clear S2
  replace S3 : St _ ((bx b1 [vU 0, vU 0] 27) :: As) _ := S3
  refine s_stL (i := 0) S3 rfl rfl rfl Tryd.sizeOf27 (oneC rfl (oneC rfl oneN)) rfl ?_
  intro w4 S4
  replace S4 : St _ ((bx b1 [vU x1.1, vU x1.2] 27) :: As) _ := S4
  clear S3
  refine wpl_nil ?_
  refine nrm ?_
  refine wpc_ret ?_
  refine outRw ?_
  intro we hpd
  replace S4 := St.pd S4 hpd
  have SR := S4
  obtain ⟨m3, l3, S5⟩ := St.drop S4 0
  replace L0 := Mem.tr L0 l3
  replace S5 : St _ (As) _ := S5
  have e0 := Option.some.inj hm
  subst e0
  exact outR [_] rfl ⟨res_box (i := 0) (off := 0) (cs := [vU x1.1, vU x1.2]) SR rfl rfl Tryd.isAgg27 Tryd.sizeOf27 rfl (fun h => by cases h), trivial⟩ ⟨_, L0, S5, rfl⟩

end Go.Proofs.YtohipjalgccmnaaDoor
