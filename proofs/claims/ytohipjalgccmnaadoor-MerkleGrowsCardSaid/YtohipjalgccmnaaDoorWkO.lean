/- The walks of some functions, written by program. Conditions: none. -/
import Derived.Test.YtohipjalgccmnaaDoorWkE
set_option maxHeartbeats 20000000
set_option maxRecDepth 100000
set_option linter.unusedVariables false
set_option linter.unusedSimpArgs false
namespace Go.Proofs.YtohipjalgccmnaaDoor
open Go Go.Gw

def r_ref08_shows : Nat → (List (UInt64 × UInt64)) → Int → Bool → Option (List (UInt64 × UInt64))
  | 0, _, _, _ => none
  | n + 1, a0, a1, a2 =>
    if (a1 == (a0.length : Int)) = true then
      if a2 = true then
        some ([] : List (UInt64 × UInt64))
      else
      obind (m_ref08_Root a0) fun x1 =>
      some ([x1] : List (UInt64 × UInt64))
    else
    obind (m_ref08_First (a0.length : Int)) fun x2 =>
    if (decide (a1 ≤ x2)) = true then
      obind (cut a0 0 x2) fun x3 =>
      obind (r_ref08_shows n x3 a1 a2) fun x4 =>
      obind (cut a0 x2 (a0.length : Int)) fun x5 =>
      obind (m_ref08_Root x5) fun x6 =>
      obind (app 16 x4 ([x6] : List (UInt64 × UInt64))) fun x7 =>
      some x7
    else
    obind (cut a0 x2 (a0.length : Int)) fun x8 =>
    obind (r_ref08_shows n x8 (w64 (a1 - x2)) false) fun x9 =>
    obind (cut a0 0 x2) fun x10 =>
    obind (m_ref08_Root x10) fun x11 =>
    obind (app 16 x9 ([x11] : List (UInt64 × UInt64))) fun x12 =>
    some x12

def m_ref08_shows (a0 : List (UInt64 × UInt64)) (a1 : Int) (a2 : Bool) : Option (List (UInt64 × UInt64)) := r_ref08_shows FUEL a0 a1 a2

theorem wr_ref08_shows (n : Nat) : ∀ {m : Mem} {As : List Ow} {w : World} {a0 : List (UInt64 × UInt64)} {a0v0 : Value} {a1 : Int} {a2 : Bool} {r : List (UInt64 × UInt64)} (S : St m (As) w) (a0h0 : SlR m a0v0 a0) (hm : r_ref08_shows n a0 a1 a2 = some r),
    CallsR Tryd.prog 47 #[a0v0, vI a1, vb a2] w fun v w' => ∃ (M : Mem), m ≤ M ∧ ∃ (rv0 : Value) (rc0 : List Value), St M ((row 2 rv0 rc0 r.length) :: As) w' ∧ v = rv0 ∧ RepL M rc0 r := by
  induction n with
  | zero => intro m As w a0 a0v0 a1 a2 r S a0h0 hm; cases hm
  | succ n ih =>
    intro m As w a0 a0v0 a1 a2 r S a0h0 hm
    unfold r_ref08_shows at hm
    have L0 := Mem.rfl' m
    refine callsR (args := [a0v0, vI a1, vb a2]) Tryd.func47 rfl Tryd.ntmps47 (Nat.le_of_ble_eq_true rfl) ?_
    refine wpc_seq ?_
    refine wpc_region ?_
    refine s_asv (v := .slice none 0 0) rfl ?_
    refine wpl_nil ?_
    refine nrm ?_
    refine wpc_seq ?_
    refine wpc_seq ?_
    refine wpc_region ?_
    refine s_mvv (v := vI a1) rfl ?_
    refine s_mvv (v := a0v0) rfl ?_
    refine s_lenR (xs := a0) rfl a0h0 Tryd.underlying22 ?_
    refine s_eql (m := a1) (n := (a0.length : Int)) rfl rfl ?_
    refine wpl_nil ?_
    refine nrm ?_
    refine wpc_if (t := (a1 == (a0.length : Int))) rfl (fun hc1 => ?_) (fun hc1 => ?_)
    · replace hm := ifT hc1 hm
      refine wpc_seq ?_
      refine wpc_seq ?_
      refine wpc_region ?_
      refine s_mvv (v := vb a2) rfl ?_
      refine wpl_nil ?_
      refine nrm ?_
      refine wpc_if (t := a2) rfl (fun hc2 => ?_) (fun hc2 => ?_)
      · replace hm := ifT hc2 hm
        refine wpc_seq ?_
        refine wpc_region ?_
        refine s_asv (v := .slice none 0 0) rfl ?_
        refine wpl_nil ?_
        refine nrm ?_
        refine wpc_ret ?_
        refine thR ?_
        refine thR ?_
        refine outRw ?_
        intro we hpd
        replace S := St.pd S hpd
        have S1 := St.rowNil S 2
        have h1 : RepL m [] ([] : List (UInt64 × UInt64)) := RepL.nil
        replace S1 : St _ ((row 2 (.slice none 0 0) [] ([] : List (UInt64 × UInt64)).length) :: As) _ := S1
        clear S
        have e0 := Option.some.inj hm
        subst e0
        exact outR [_] rfl ⟨rfl, trivial⟩ ⟨_, L0, _, _, S1, rfl, h1⟩
      replace hm := ifF hc2 hm
      refine wpc_skip ?_
      refine nrm ?_
      refine wpc_seq ?_
      refine wpc_region ?_
      refine s_mvv (v := a0v0) rfl ?_
      obtain ⟨x1, q1, hm⟩ := obind_some hm
      refine s_call Tryd.call14 (w_ref08_Root (a0 := a0) S a0h0 q1) rfl ?_
      rintro _ w1 ⟨m1, l1, S2, rfl⟩
      replace a0h0 := a0h0.up l1
      replace L0 := Mem.tr L0 l1
      clear S
      replace S2 : St _ (As) _ := S2
      refine s_litOC (parts := [.tmp 14]) (vs := [.agg #[vU x1.1, vU x1.2]]) (cls := [[vU x1.1, vU x1.2]]) (n := 1) (sz := 2) S2 Tryd.underlying22 Tryd.sizeOf27 Tryd.zeroValue27 rfl ⟨rfl, trivial⟩ rfl rfl (by decide) (by decide) ?_
      intro v1 w2 S3
      have h2 : RepL m1 [vU x1.1, vU x1.2] ([x1] : List (UInt64 × UInt64)) := (RepL.cons (c := [vU x1.1, vU x1.2]) (x := x1) mk_arr2_UInt64 RepL.nil)
      replace S3 : St _ ((row 2 v1 [vU x1.1, vU x1.2] ([x1] : List (UInt64 × UInt64)).length) :: As) _ := S3
      clear S2
      refine s_asv (v := v1) rfl ?_
      refine wpl_nil ?_
      refine nrm ?_
      refine wpc_ret ?_
      refine thR ?_
      refine outRw ?_
      intro we hpd
      replace S3 := St.pd S3 hpd
      have e0 := Option.some.inj hm
      subst e0
      exact outR [_] rfl ⟨rfl, trivial⟩ ⟨_, L0, _, _, S3, rfl, h2⟩
    replace hm := ifF hc1 hm
    refine wpc_skip ?_
    refine nrm ?_
    refine wpc_seq ?_
    refine wpc_region ?_
    refine s_mvv (v := a0v0) rfl ?_
    refine s_lenR (xs := a0) rfl a0h0 Tryd.underlying22 ?_
    obtain ⟨x2, q2, hm⟩ := obind_some hm
    refine s_call Tryd.call35 (w_ref08_First (a0 := (a0.length : Int)) S  q2) rfl ?_
    rintro _ w3 ⟨m2, l2, S4, rfl⟩
    replace a0h0 := a0h0.up l2
    replace L0 := Mem.tr L0 l2
    clear S
    replace S4 : St _ (As) _ := S4
    refine s_asv (v := vI x2) rfl ?_
    refine wpl_nil ?_
    refine nrm ?_
    refine wpc_seq ?_
    refine wpc_seq ?_
    refine wpc_region ?_
    refine s_mvv (v := vI a1) rfl ?_
    refine s_mvv (v := vI x2) rfl ?_
    refine s_leq (m := a1) (n := x2) rfl rfl ?_
    refine wpl_nil ?_
    refine nrm ?_
    refine wpc_if (t := (decide (a1 ≤ x2))) rfl (fun hc3 => ?_) (fun hc3 => ?_)
    · replace hm := ifT hc3 hm
      refine wpc_seq ?_
      obtain ⟨x3, q3, hm⟩ := obind_some hm
      obtain ⟨x4, q4, hm⟩ := obind_some hm
      obtain ⟨x5, q5, hm⟩ := obind_some hm
      have HM : MonoAll [(22, fun (M : Mem) (v : Value) => v = a0v0), (23, fun (M : Mem) (v : Value) => v = vI x2), (24, fun (M : Mem) (v : Value) => ∃ (v2 : Value), v = v2 ∧ SlR M v2 x3), (25, fun (M : Mem) (v : Value) => v = vI a1), (26, fun (M : Mem) (v : Value) => v = vb a2), (27, fun _ _ => True), (28, fun (M : Mem) (v : Value) => v = a0v0), (29, fun (M : Mem) (v : Value) => v = vI x2), (30, fun (M : Mem) (v : Value) => ∃ (v5 : Value), v = v5 ∧ SlR M v5 x5)] := ⟨(fun _ _ _ _ h => h), (fun _ _ _ _ h => h), (fun _ _ _ l ⟨v2, e, h3⟩ => ⟨v2, e, h3.up l⟩), (fun _ _ _ _ h => h), (fun _ _ _ _ h => h), (fun _ _ _ _ h => h), (fun _ _ _ _ h => h), (fun _ _ _ _ h => h), (fun _ _ _ l ⟨v5, e, h6⟩ => ⟨v5, e, h6.up l⟩), trivial⟩
      refine wpc_flowG HM 9 mixed rfl rfl rfl [22, 23, 24, 25, 26, 27, 28, 29, 30] (fun L f M w => ∃ (X1 : List Ow), ((L 5 = false → X1 = []) ∧ (L 5 = true → (RowS M X1 2 (f 27) x4))) ∧ St M ((X1 ++ As)) w) (⟨[], ⟨fun _ => rfl, fun hx => ff hx⟩, St.drew S4 _⟩) ?_ ?_
      · refine ⟨?_, ?_, ?_, ?_, ?_, ?_, ?_, ?_, ?_, trivial⟩
        · intro L f1 w4 hL hd hc ⟨m3, L1, ⟨X1, C1, S5⟩, K, hO⟩
          obtain ⟨u1, rfl⟩ := fr_of (N := 47) (L := []) hO trivial
          replace S5 : St _ ((X1 ++ As)) _ := S5
          have L2 := Mem.rfl' m3
          refine s_mvv (v := a0v0) rfl ?_
          refine wpn ?_
          refine ⟨m3, Mem.tr L1 L2, ⟨X1, C1, ?_⟩, facts_step HM rfl K L2 rfl rfl rfl, outP⟩
          exact S5
        · intro L f2 w5 hL hd hc ⟨m4, L3, ⟨X1, C2, S6⟩, K, hO⟩
          obtain ⟨u2, rfl⟩ := fr_of (N := 47) (L := []) hO trivial
          replace S6 : St _ ((X1 ++ As)) _ := S6
          have L4 := Mem.rfl' m4
          refine s_mvv (v := vI x2) rfl ?_
          refine wpn ?_
          refine ⟨m4, Mem.tr L3 L4, ⟨X1, C2, ?_⟩, facts_step HM rfl K L4 rfl rfl rfl, outP⟩
          exact S6
        · intro L f3 w6 hL hd hc ⟨m5, L5, ⟨X1, C3, S7⟩, K, hO⟩
          have d0 : L 0 = true := dep hd rfl
          have e1 := K 0 d0
          have d1 : L 1 = true := dep hd rfl
          have e2 := K 1 d1
          obtain ⟨u3, rfl⟩ := fr_of (N := 47) (L := [(22, a0v0), (23, vI x2)]) hO ⟨e1, e2, trivial⟩
          replace S7 : St _ ((X1 ++ As)) _ := S7
          replace a0h0 := a0h0.up L5
          have L6 := Mem.rfl' m5
          refine s_cut (ys := x3) (l := 0) (h := x2) rfl a0h0 Tryd.underlying22 Tryd.sizeOf27 (.inl ⟨rfl, rfl⟩) (.inr ⟨_, rfl⟩) (.inl rfl) q3 ?_
          intro v2 h3
          refine wpn ?_
          refine ⟨m5, Mem.tr L5 L6, ⟨X1, C3, ?_⟩, facts_step HM rfl K L6 rfl rfl ⟨v2, rfl, h3⟩, outP⟩
          exact S7
        · intro L f4 w7 hL hd hc ⟨m6, L7, ⟨X1, C4, S8⟩, K, hO⟩
          obtain ⟨u4, rfl⟩ := fr_of (N := 47) (L := []) hO trivial
          replace S8 : St _ ((X1 ++ As)) _ := S8
          have L8 := Mem.rfl' m6
          refine s_mvv (v := vI a1) rfl ?_
          refine wpn ?_
          refine ⟨m6, Mem.tr L7 L8, ⟨X1, C4, ?_⟩, facts_step HM rfl K L8 rfl rfl rfl, outP⟩
          exact S8
        · intro L f5 w8 hL hd hc ⟨m7, L9, ⟨X1, C5, S9⟩, K, hO⟩
          obtain ⟨u5, rfl⟩ := fr_of (N := 47) (L := []) hO trivial
          replace S9 : St _ ((X1 ++ As)) _ := S9
          have L10 := Mem.rfl' m7
          refine s_mvv (v := vb a2) rfl ?_
          refine wpn ?_
          refine ⟨m7, Mem.tr L9 L10, ⟨X1, C5, ?_⟩, facts_step HM rfl K L10 rfl rfl rfl, outP⟩
          exact S9
        · intro L f6 w9 hL hd hc ⟨m8, L11, ⟨X1, C6, S10⟩, K, hO⟩
          have d2 : L 2 = true := dep hd rfl
          obtain ⟨v3, e3, h4⟩ := K 2 d2
          have d3 : L 3 = true := dep hd rfl
          have e4 := K 3 d3
          have d4 : L 4 = true := dep hd rfl
          have e5 := K 4 d4
          have d5 : L 5 = false := hL
          obtain ⟨u6, rfl⟩ := fr_of (N := 47) (L := [(24, v3), (25, vI a1), (26, vb a2)]) hO ⟨e3, e4, e5, trivial⟩
          replace S10 : St _ ((X1 ++ As)) _ := S10
          obtain rfl := C6.1 d5
          replace S10 : St _ (As) _ := S10
          replace a0h0 := a0h0.up L11
          have L12 := Mem.rfl' m8
          refine s_call Tryd.call47 (ih (a0 := x3) (a1 := a1) (a2 := a2) S10 h4 q4) rfl ?_
          rintro v4 w10 ⟨m9, l3, _, c1, S11, rfl, h5⟩
          replace a0h0 := a0h0.up l3
          replace h4 := h4.up l3
          replace L12 := Mem.tr L12 l3
          clear S10
          replace S11 : St _ ((row 2 v4 c1 x4.length) :: As) _ := S11
          refine wpn ?_
          refine ⟨m9, Mem.tr L11 L12, ⟨[row 2 v4 c1 x4.length], ⟨fun hx => tf rfl hx, fun _ => ⟨_, rfl, h5⟩⟩, ?_⟩, facts_step HM rfl K L12 rfl rfl trivial, outP⟩
          exact S11
        · intro L f7 w11 hL hd hc ⟨m10, L13, ⟨X1, C7, S12⟩, K, hO⟩
          obtain ⟨u7, rfl⟩ := fr_of (N := 47) (L := []) hO trivial
          replace S12 : St _ ((X1 ++ As)) _ := S12
          have L14 := Mem.rfl' m10
          refine s_mvv (v := a0v0) rfl ?_
          refine wpn ?_
          refine ⟨m10, Mem.tr L13 L14, ⟨X1, C7, ?_⟩, facts_step HM rfl K L14 rfl rfl rfl, outP⟩
          exact S12
        · intro L f8 w12 hL hd hc ⟨m11, L15, ⟨X1, C8, S13⟩, K, hO⟩
          obtain ⟨u8, rfl⟩ := fr_of (N := 47) (L := []) hO trivial
          replace S13 : St _ ((X1 ++ As)) _ := S13
          have L16 := Mem.rfl' m11
          refine s_mvv (v := vI x2) rfl ?_
          refine wpn ?_
          refine ⟨m11, Mem.tr L15 L16, ⟨X1, C8, ?_⟩, facts_step HM rfl K L16 rfl rfl rfl, outP⟩
          exact S13
        · intro L f9 w13 hL hd hc ⟨m12, L17, ⟨X1, C9, S14⟩, K, hO⟩
          have d6 : L 6 = true := dep hd rfl
          have e6 := K 6 d6
          have d7 : L 7 = true := dep hd rfl
          have e7 := K 7 d7
          obtain ⟨u9, rfl⟩ := fr_of (N := 47) (L := [(28, a0v0), (29, vI x2)]) hO ⟨e6, e7, trivial⟩
          replace S14 : St _ ((X1 ++ As)) _ := S14
          replace a0h0 := a0h0.up L17
          have L18 := Mem.rfl' m12
          refine s_cut (ys := x5) (l := x2) (h := (a0.length : Int)) rfl a0h0 Tryd.underlying22 Tryd.sizeOf27 (.inr ⟨_, rfl⟩) (.inl ⟨rfl, rfl⟩) (.inl rfl) q5 ?_
          intro v5 h6
          refine wpn ?_
          refine ⟨m12, Mem.tr L17 L18, ⟨X1, C9, ?_⟩, facts_step HM rfl K L18 rfl rfl ⟨v5, rfl, h6⟩, outP⟩
          exact S14
      intro L f10 w14 hall ⟨m13, L19, ⟨X1, C10, S15⟩, K, hO⟩
      obtain ⟨v6, e8⟩ : ∃ x, f10 27 = x := ⟨_, rfl⟩
      have d8 : L 8 = true := hall 8 (by decide)
      obtain ⟨v7, e9, h7⟩ := K 8 d8
      have d5 : L 5 = true := hall 5 (by decide)
      obtain ⟨u10, rfl⟩ := fr_of (N := 47) (L := [(27, v6), (30, v7)]) hO ⟨e8, e9, trivial⟩
      replace S15 : St _ ((X1 ++ As)) _ := S15
      obtain ⟨c2, rfl, h8⟩ := C10.2 d5
      replace h8 : RepL _ c2 x4 := h8
      replace S15 : St _ ((row 2 v6 c2 x4.length) :: As) _ := S15
      replace a0h0 := a0h0.up L19
      replace L0 := Mem.tr L0 L19
      clear S4
      obtain ⟨x6, q6, hm⟩ := obind_some hm
      refine s_call Tryd.call14 (w_ref08_Root (a0 := x5) S15 h7 q6) rfl ?_
      rintro _ w15 ⟨m14, l4, S16, rfl⟩
      replace h8 := RepL.up l4 h8
      replace h7 := h7.up l4
      replace L0 := Mem.tr L0 l4
      clear S15
      replace S16 : St _ ((row 2 v6 c2 x4.length) :: As) _ := S16
      refine s_litC (parts := [.tmp 31]) (vs := [.agg #[vU x6.1, vU x6.2]]) (cls := [[vU x6.1, vU x6.2]]) (xs := ([x6] : List (UInt64 × UInt64))) (n := 1) S16 Tryd.underlying22 Tryd.sizeOf27 Tryd.zeroValue27 rfl ⟨rfl, trivial⟩ (RepL.cons (c := [vU x6.1, vU x6.2]) (x := x6) mk_arr2_UInt64 RepL.nil) rfl rfl rfl (by decide) (by decide) ?_
      intro v8 m15 w16 l5 S17 h9
      replace h8 := RepL.up l5 h8
      replace L0 := Mem.tr L0 l5
      clear S16
      obtain ⟨x7, q7, hm⟩ := obind_some hm
      refine s_app (i := 0) (zs := x7) (bytes := 16) (ti := Tryd.t27) S17 rfl rfl h8 rfl rfl h9 q7 Tryd.underlying22 Tryd.type27 rfl rfl rfl rfl ?_
      intro v9 c3 w17 S18 h10
      replace S18 : St _ ((row 2 v9 c3 x7.length) :: As) _ := S18
      clear S17
      refine s_asv (v := v9) rfl ?_
      refine wpl_nil ?_
      refine nrm ?_
      refine wpc_ret ?_
      refine thR ?_
      refine outRw ?_
      intro we hpd
      replace S18 := St.pd S18 hpd
      have e0 := Option.some.inj hm
      subst e0
      exact outR [_] rfl ⟨rfl, trivial⟩ ⟨_, L0, _, _, S18, rfl, h10⟩
    replace hm := ifF hc3 hm
    refine wpc_skip ?_
    refine nrm ?_
    refine wpc_seq ?_
    obtain ⟨x8, q8, hm⟩ := obind_some hm
    obtain ⟨x9, q9, hm⟩ := obind_some hm
    obtain ⟨x10, q10, hm⟩ := obind_some hm
    have HM : MonoAll [(34, fun (M : Mem) (v : Value) => v = a0v0), (35, fun (M : Mem) (v : Value) => v = vI x2), (36, fun (M : Mem) (v : Value) => ∃ (v10 : Value), v = v10 ∧ SlR M v10 x8), (37, fun (M : Mem) (v : Value) => v = vI a1), (38, fun (M : Mem) (v : Value) => v = vI x2), (39, fun (M : Mem) (v : Value) => v = vI (w64 (a1 - x2))), (40, fun _ _ => True), (41, fun (M : Mem) (v : Value) => v = a0v0), (42, fun (M : Mem) (v : Value) => v = vI x2), (43, fun (M : Mem) (v : Value) => ∃ (v13 : Value), v = v13 ∧ SlR M v13 x10)] := ⟨(fun _ _ _ _ h => h), (fun _ _ _ _ h => h), (fun _ _ _ l ⟨v10, e, h11⟩ => ⟨v10, e, h11.up l⟩), (fun _ _ _ _ h => h), (fun _ _ _ _ h => h), (fun _ _ _ _ h => h), (fun _ _ _ _ h => h), (fun _ _ _ _ h => h), (fun _ _ _ _ h => h), (fun _ _ _ l ⟨v13, e, h14⟩ => ⟨v13, e, h14.up l⟩), trivial⟩
    refine wpc_flowG HM 10 mixed rfl rfl rfl [34, 35, 36, 37, 38, 39, 40, 41, 42, 43] (fun L f M w => ∃ (X2 : List Ow), ((L 6 = false → X2 = []) ∧ (L 6 = true → (RowS M X2 2 (f 40) x9))) ∧ St M ((X2 ++ As)) w) (⟨[], ⟨fun _ => rfl, fun hx => ff hx⟩, St.drew S4 _⟩) ?_ ?_
    · refine ⟨?_, ?_, ?_, ?_, ?_, ?_, ?_, ?_, ?_, ?_, trivial⟩
      · intro L f11 w18 hL hd hc ⟨m16, L20, ⟨X2, C11, S19⟩, K, hO⟩
        obtain ⟨u11, rfl⟩ := fr_of (N := 47) (L := []) hO trivial
        replace S19 : St _ ((X2 ++ As)) _ := S19
        have L21 := Mem.rfl' m16
        refine s_mvv (v := a0v0) rfl ?_
        refine wpn ?_
        refine ⟨m16, Mem.tr L20 L21, ⟨X2, C11, ?_⟩, facts_step HM rfl K L21 rfl rfl rfl, outP⟩
        exact S19
      · intro L f12 w19 hL hd hc ⟨m17, L22, ⟨X2, C12, S20⟩, K, hO⟩
        obtain ⟨u12, rfl⟩ := fr_of (N := 47) (L := []) hO trivial
        replace S20 : St _ ((X2 ++ As)) _ := S20
        have L23 := Mem.rfl' m17
        refine s_mvv (v := vI x2) rfl ?_
        refine wpn ?_
        refine ⟨m17, Mem.tr L22 L23, ⟨X2, C12, ?_⟩, facts_step HM rfl K L23 rfl rfl rfl, outP⟩
        exact S20
      · intro L f13 w20 hL hd hc ⟨m18, L24, ⟨X2, C13, S21⟩, K, hO⟩
        have d0 : L 0 = true := dep hd rfl
        have e10 := K 0 d0
        have d1 : L 1 = true := dep hd rfl
        have e11 := K 1 d1
        obtain ⟨u13, rfl⟩ := fr_of (N := 47) (L := [(34, a0v0), (35, vI x2)]) hO ⟨e10, e11, trivial⟩
        replace S21 : St _ ((X2 ++ As)) _ := S21
        replace a0h0 := a0h0.up L24
        have L25 := Mem.rfl' m18
        refine s_cut (ys := x8) (l := x2) (h := (a0.length : Int)) rfl a0h0 Tryd.underlying22 Tryd.sizeOf27 (.inr ⟨_, rfl⟩) (.inl ⟨rfl, rfl⟩) (.inl rfl) q8 ?_
        intro v10 h11
        refine wpn ?_
        refine ⟨m18, Mem.tr L24 L25, ⟨X2, C13, ?_⟩, facts_step HM rfl K L25 rfl rfl ⟨v10, rfl, h11⟩, outP⟩
        exact S21
      · intro L f14 w21 hL hd hc ⟨m19, L26, ⟨X2, C14, S22⟩, K, hO⟩
        obtain ⟨u14, rfl⟩ := fr_of (N := 47) (L := []) hO trivial
        replace S22 : St _ ((X2 ++ As)) _ := S22
        have L27 := Mem.rfl' m19
        refine s_mvv (v := vI a1) rfl ?_
        refine wpn ?_
        refine ⟨m19, Mem.tr L26 L27, ⟨X2, C14, ?_⟩, facts_step HM rfl K L27 rfl rfl rfl, outP⟩
        exact S22
      · intro L f15 w22 hL hd hc ⟨m20, L28, ⟨X2, C15, S23⟩, K, hO⟩
        obtain ⟨u15, rfl⟩ := fr_of (N := 47) (L := []) hO trivial
        replace S23 : St _ ((X2 ++ As)) _ := S23
        have L29 := Mem.rfl' m20
        refine s_mvv (v := vI x2) rfl ?_
        refine wpn ?_
        refine ⟨m20, Mem.tr L28 L29, ⟨X2, C15, ?_⟩, facts_step HM rfl K L29 rfl rfl rfl, outP⟩
        exact S23
      · intro L f16 w23 hL hd hc ⟨m21, L30, ⟨X2, C16, S24⟩, K, hO⟩
        have d3 : L 3 = true := dep hd rfl
        have e12 := K 3 d3
        have d4 : L 4 = true := dep hd rfl
        have e13 := K 4 d4
        obtain ⟨u16, rfl⟩ := fr_of (N := 47) (L := [(37, vI a1), (38, vI x2)]) hO ⟨e12, e13, trivial⟩
        replace S24 : St _ ((X2 ++ As)) _ := S24
        have L31 := Mem.rfl' m21
        refine s_subI (m := a1) (n := x2) rfl rfl ?_
        refine wpn ?_
        refine ⟨m21, Mem.tr L30 L31, ⟨X2, C16, ?_⟩, facts_step HM rfl K L31 rfl rfl rfl, outP⟩
        exact S24
      · intro L f17 w24 hL hd hc ⟨m22, L32, ⟨X2, C17, S25⟩, K, hO⟩
        have d2 : L 2 = true := dep hd rfl
        obtain ⟨v11, e14, h12⟩ := K 2 d2
        have d5 : L 5 = true := dep hd rfl
        have e15 := K 5 d5
        have d6 : L 6 = false := hL
        obtain ⟨u17, rfl⟩ := fr_of (N := 47) (L := [(36, v11), (39, vI (w64 (a1 - x2)))]) hO ⟨e14, e15, trivial⟩
        replace S25 : St _ ((X2 ++ As)) _ := S25
        obtain rfl := C17.1 d6
        replace S25 : St _ (As) _ := S25
        replace a0h0 := a0h0.up L32
        have L33 := Mem.rfl' m22
        refine s_call Tryd.call47 (ih (a0 := x8) (a1 := (w64 (a1 - x2))) (a2 := false) S25 h12 q9) rfl ?_
        rintro v12 w25 ⟨m23, l6, _, c4, S26, rfl, h13⟩
        replace a0h0 := a0h0.up l6
        replace h12 := h12.up l6
        replace L33 := Mem.tr L33 l6
        clear S25
        replace S26 : St _ ((row 2 v12 c4 x9.length) :: As) _ := S26
        refine wpn ?_
        refine ⟨m23, Mem.tr L32 L33, ⟨[row 2 v12 c4 x9.length], ⟨fun hx => tf rfl hx, fun _ => ⟨_, rfl, h13⟩⟩, ?_⟩, facts_step HM rfl K L33 rfl rfl trivial, outP⟩
        exact S26
      · intro L f18 w26 hL hd hc ⟨m24, L34, ⟨X2, C18, S27⟩, K, hO⟩
        obtain ⟨u18, rfl⟩ := fr_of (N := 47) (L := []) hO trivial
        replace S27 : St _ ((X2 ++ As)) _ := S27
        have L35 := Mem.rfl' m24
        refine s_mvv (v := a0v0) rfl ?_
        refine wpn ?_
        refine ⟨m24, Mem.tr L34 L35, ⟨X2, C18, ?_⟩, facts_step HM rfl K L35 rfl rfl rfl, outP⟩
        exact S27
      · intro L f19 w27 hL hd hc ⟨m25, L36, ⟨X2, C19, S28⟩, K, hO⟩
        obtain ⟨u19, rfl⟩ := fr_of (N := 47) (L := []) hO trivial
        replace S28 : St _ ((X2 ++ As)) _ := S28
        have L37 := Mem.rfl' m25
        refine s_mvv (v := vI x2) rfl ?_
        refine wpn ?_
        refine ⟨m25, Mem.tr L36 L37, ⟨X2, C19, ?_⟩, facts_step HM rfl K L37 rfl rfl rfl, outP⟩
        exact S28
      · intro L f20 w28 hL hd hc ⟨m26, L38, ⟨X2, C20, S29⟩, K, hO⟩
        have d7 : L 7 = true := dep hd rfl
        have e16 := K 7 d7
        have d8 : L 8 = true := dep hd rfl
        have e17 := K 8 d8
        obtain ⟨u20, rfl⟩ := fr_of (N := 47) (L := [(41, a0v0), (42, vI x2)]) hO ⟨e16, e17, trivial⟩
        replace S29 : St _ ((X2 ++ As)) _ := S29
        replace a0h0 := a0h0.up L38
        have L39 := Mem.rfl' m26
        refine s_cut (ys := x10) (l := 0) (h := x2) rfl a0h0 Tryd.underlying22 Tryd.sizeOf27 (.inl ⟨rfl, rfl⟩) (.inr ⟨_, rfl⟩) (.inl rfl) q10 ?_
        intro v13 h14
        refine wpn ?_
        refine ⟨m26, Mem.tr L38 L39, ⟨X2, C20, ?_⟩, facts_step HM rfl K L39 rfl rfl ⟨v13, rfl, h14⟩, outP⟩
        exact S29
    intro L f21 w29 hall ⟨m27, L40, ⟨X2, C21, S30⟩, K, hO⟩
    obtain ⟨v14, e18⟩ : ∃ x, f21 40 = x := ⟨_, rfl⟩
    have d9 : L 9 = true := hall 9 (by decide)
    obtain ⟨v15, e19, h15⟩ := K 9 d9
    have d6 : L 6 = true := hall 6 (by decide)
    obtain ⟨u21, rfl⟩ := fr_of (N := 47) (L := [(40, v14), (43, v15)]) hO ⟨e18, e19, trivial⟩
    replace S30 : St _ ((X2 ++ As)) _ := S30
    obtain ⟨c5, rfl, h16⟩ := C21.2 d6
    replace h16 : RepL _ c5 x9 := h16
    replace S30 : St _ ((row 2 v14 c5 x9.length) :: As) _ := S30
    replace a0h0 := a0h0.up L40
    replace L0 := Mem.tr L0 L40
    clear S4
    obtain ⟨x11, q11, hm⟩ := obind_some hm
    refine s_call Tryd.call14 (w_ref08_Root (a0 := x10) S30 h15 q11) rfl ?_
    rintro _ w30 ⟨m28, l7, S31, rfl⟩
    replace h16 := RepL.up l7 h16
    replace h15 := h15.up l7
    replace L0 := Mem.tr L0 l7
    clear S30
    replace S31 : St _ ((row 2 v14 c5 x9.length) :: As) _ := S31
    refine s_litC (parts := [.tmp 44]) (vs := [.agg #[vU x11.1, vU x11.2]]) (cls := [[vU x11.1, vU x11.2]]) (xs := ([x11] : List (UInt64 × UInt64))) (n := 1) S31 Tryd.underlying22 Tryd.sizeOf27 Tryd.zeroValue27 rfl ⟨rfl, trivial⟩ (RepL.cons (c := [vU x11.1, vU x11.2]) (x := x11) mk_arr2_UInt64 RepL.nil) rfl rfl rfl (by decide) (by decide) ?_
    intro v16 m29 w31 l8 S32 h17
    replace h16 := RepL.up l8 h16
    replace L0 := Mem.tr L0 l8
    clear S31
    obtain ⟨x12, q12, hm⟩ := obind_some hm
    refine s_app (i := 0) (zs := x12) (bytes := 16) (ti := Tryd.t27) S32 rfl rfl h16 rfl rfl h17 q12 Tryd.underlying22 Tryd.type27 rfl rfl rfl rfl ?_
    intro v17 c6 w32 S33 h18
    replace S33 : St _ ((row 2 v17 c6 x12.length) :: As) _ := S33
    clear S32
    refine s_asv (v := v17) rfl ?_
    refine wpl_nil ?_
    refine nrm ?_
    refine wpc_ret ?_
    refine outRw ?_
    intro we hpd
    replace S33 := St.pd S33 hpd
    have e0 := Option.some.inj hm
    subst e0
    exact outR [_] rfl ⟨rfl, trivial⟩ ⟨_, L0, _, _, S33, rfl, h18⟩

theorem w_ref08_shows {m : Mem} {As : List Ow} {w : World} {a0 : List (UInt64 × UInt64)} {a0v0 : Value} {a1 : Int} {a2 : Bool} {r : List (UInt64 × UInt64)} (S : St m (As) w) (a0h0 : SlR m a0v0 a0) (hm : m_ref08_shows a0 a1 a2 = some r) :
    CallsR Tryd.prog 47 #[a0v0, vI a1, vb a2] w fun v w' => ∃ (M : Mem), m ≤ M ∧ ∃ (rv0 : Value) (rc0 : List Value), St M ((row 2 rv0 rc0 r.length) :: As) w' ∧ v = rv0 ∧ RepL M rc0 r := wr_ref08_shows FUEL S a0h0 hm

def m_ref08_Grow (a0 : List (UInt64 × UInt64)) (a1 : Int) : Option ((List (UInt64 × UInt64)) × Int) :=
  if (((decide ((a0.length : Int) > 256)) || (decide (a1 < 0))) || (decide (a1 > (a0.length : Int)))) = true then
    some (([] : List (UInt64 × UInt64)), 80)
  else
  if (a1 == 0) = true then
    some (([] : List (UInt64 × UInt64)), 0)
  else
  obind (m_ref08_shows a0 a1 true) fun x1 =>
  some (x1, 0)

theorem w_ref08_Grow {m : Mem} {As : List Ow} {w : World} {a0 : List (UInt64 × UInt64)} {a0v0 : Value} {a1 : Int} {r : (List (UInt64 × UInt64)) × Int} (S : St m (As) w) (a0h0 : SlR m a0v0 a0) (hm : m_ref08_Grow a0 a1 = some r) :
    CallsR Tryd.prog 24 #[a0v0, vI a1] w fun v w' => ∃ (M : Mem), m ≤ M ∧ ∃ (rv0 : Value) (rc0 : List Value), St M ((row 2 rv0 rc0 r.1.length) :: As) w' ∧ v = .tuple #[rv0, vI r.2] ∧ RepL M rc0 r.1 := by
  unfold m_ref08_Grow at hm
  have L0 := Mem.rfl' m
  refine callsR (args := [a0v0, vI a1]) Tryd.func24 rfl Tryd.ntmps24 (Nat.le_of_ble_eq_true rfl) ?_
  refine wpc_seq ?_
  refine wpc_region ?_
  refine s_asv (v := .slice none 0 0) rfl ?_
  refine s_asv (v := vI 0) rfl ?_
  refine wpl_nil ?_
  refine nrm ?_
  refine wpc_seq ?_
  refine wpc_seq ?_
  refine wpc_region ?_
  refine s_mvv (v := a0v0) rfl ?_
  refine s_lenR (xs := a0) rfl a0h0 Tryd.underlying22 ?_
  refine s_gtr (m := (a0.length : Int)) (n := 256) rfl rfl ?_
  refine s_mvv (v := vb (decide ((a0.length : Int) > 256))) rfl ?_
  refine wpl_cut 3 [10, 11, 12] (fun f' w' => w' = w ∧ AllAt f' [(12, vb ((decide ((a0.length : Int) > 256)) || (decide (a1 < 0))))]) ?_ ?_
  · rcases bool_tf (decide ((a0.length : Int) > 256)) with hb1 | hb1
    · refine wpl_no (d := 9) rfl rfl (congrArg Value.bool hb1) ?_
      refine wpl_no (d := 9) rfl rfl (congrArg Value.bool hb1) ?_
      refine s_pickT (congrArg Value.bool hb1) rfl ?_
      exact wpl_nil (nrm ⟨outP, rfl, congrArg Value.bool (or_t hb1), trivial⟩)
    · refine wpl_yes (d := 9) rfl rfl (congrArg Value.bool hb1) ?_
      refine s_mvv (v := vI a1) rfl ?_
      refine wpl_yes (d := 9) rfl rfl (congrArg Value.bool hb1) ?_
      refine s_lss (m := a1) (n := 0) rfl rfl ?_
      refine s_pickF (congrArg Value.bool hb1) rfl ?_
      exact wpl_nil (nrm ⟨outP, rfl, congrArg Value.bool (or_f hb1), trivial⟩)
  rintro f1 w1 ho ⟨h1, ha⟩
  subst h1
  obtain ⟨u1, rfl⟩ := fr_of (N := 24) ho ha
  refine s_mvv (v := vb ((decide ((a0.length : Int) > 256)) || (decide (a1 < 0)))) rfl ?_
  refine wpl_cut 5 [14, 15, 16, 17, 18] (fun f' w' => w' = w1 ∧ AllAt f' [(18, vb (((decide ((a0.length : Int) > 256)) || (decide (a1 < 0))) || (decide (a1 > (a0.length : Int)))))]) ?_ ?_
  · rcases bool_tf ((decide ((a0.length : Int) > 256)) || (decide (a1 < 0))) with hb2 | hb2
    · refine wpl_no (d := 13) rfl rfl (congrArg Value.bool hb2) ?_
      refine wpl_no (d := 13) rfl rfl (congrArg Value.bool hb2) ?_
      refine wpl_no (d := 13) rfl rfl (congrArg Value.bool hb2) ?_
      refine wpl_no (d := 13) rfl rfl (congrArg Value.bool hb2) ?_
      refine s_pickT (congrArg Value.bool hb2) rfl ?_
      exact wpl_nil (nrm ⟨outP, rfl, congrArg Value.bool (or_t hb2), trivial⟩)
    · refine wpl_yes (d := 13) rfl rfl (congrArg Value.bool hb2) ?_
      refine s_mvv (v := vI a1) rfl ?_
      refine wpl_yes (d := 13) rfl rfl (congrArg Value.bool hb2) ?_
      refine s_mvv (v := a0v0) rfl ?_
      refine wpl_yes (d := 13) rfl rfl (congrArg Value.bool hb2) ?_
      refine s_lenR (xs := a0) rfl a0h0 Tryd.underlying22 ?_
      refine wpl_yes (d := 13) rfl rfl (congrArg Value.bool hb2) ?_
      refine s_gtr (m := a1) (n := (a0.length : Int)) rfl rfl ?_
      refine s_pickF (congrArg Value.bool hb2) rfl ?_
      exact wpl_nil (nrm ⟨outP, rfl, congrArg Value.bool (or_f hb2), trivial⟩)
  rintro f2 w2 ho ⟨h2, ha⟩
  subst h2
  obtain ⟨u2, rfl⟩ := fr_of (N := 24) ho ha
  refine wpl_nil ?_
  refine nrm ?_
  refine wpc_if (t := (((decide ((a0.length : Int) > 256)) || (decide (a1 < 0))) || (decide (a1 > (a0.length : Int))))) rfl (fun hc1 => ?_) (fun hc1 => ?_)
  · replace hm := ifT hc1 hm
    refine wpc_seq ?_
    refine wpc_region ?_
    refine s_asv (v := .slice none 0 0) rfl ?_
    refine s_asv (v := vI 80) rfl ?_
    refine wpl_nil ?_
    refine nrm ?_
    refine wpc_ret ?_
    refine thR ?_
    refine outRw ?_
    intro we hpd
    replace S := St.pd S hpd
    have S1 := St.rowNil S 2
    have h3 : RepL m [] ([] : List (UInt64 × UInt64)) := RepL.nil
    replace S1 : St _ ((row 2 (.slice none 0 0) [] ([] : List (UInt64 × UInt64)).length) :: As) _ := S1
    clear S
    have e0 := Option.some.inj hm
    subst e0
    exact outR [_, _] rfl ⟨rfl, rfl, trivial⟩ ⟨_, L0, _, _, S1, rfl, h3⟩
  replace hm := ifF hc1 hm
  refine wpc_skip ?_
  refine nrm ?_
  refine wpc_seq ?_
  refine wpc_seq ?_
  refine wpc_region ?_
  refine s_mvv (v := vI a1) rfl ?_
  refine s_eql (m := a1) (n := 0) rfl rfl ?_
  refine wpl_nil ?_
  refine nrm ?_
  refine wpc_if (t := (a1 == 0)) rfl (fun hc2 => ?_) (fun hc2 => ?_)
  · replace hm := ifT hc2 hm
    refine wpc_seq ?_
    refine wpc_region ?_
    refine s_asv (v := .slice none 0 0) rfl ?_
    refine s_asv (v := vI 0) rfl ?_
    refine wpl_nil ?_
    refine nrm ?_
    refine wpc_ret ?_
    refine thR ?_
    refine outRw ?_
    intro we hpd
    replace S := St.pd S hpd
    have S2 := St.rowNil S 2
    have h4 : RepL m [] ([] : List (UInt64 × UInt64)) := RepL.nil
    replace S2 : St _ ((row 2 (.slice none 0 0) [] ([] : List (UInt64 × UInt64)).length) :: As) _ := S2
    clear S
    have e0 := Option.some.inj hm
    subst e0
    exact outR [_, _] rfl ⟨rfl, rfl, trivial⟩ ⟨_, L0, _, _, S2, rfl, h4⟩
  replace hm := ifF hc2 hm
  refine wpc_skip ?_
  refine nrm ?_
  refine wpc_seq ?_
  refine wpc_region ?_
  refine s_mvv (v := a0v0) rfl ?_
  refine s_mvv (v := vI a1) rfl ?_
  obtain ⟨x1, q1, hm⟩ := obind_some hm
  refine s_call Tryd.call47 (w_ref08_shows (a0 := a0) (a1 := a1) (a2 := true) S a0h0 q1) rfl ?_
  rintro v1 w3 ⟨m1, l1, _, c1, S3, rfl, h5⟩
  replace a0h0 := a0h0.up l1
  replace L0 := Mem.tr L0 l1
  clear S
  replace S3 : St _ ((row 2 v1 c1 x1.length) :: As) _ := S3
  refine s_asv (v := v1) rfl ?_
  refine s_asv (v := vI 0) rfl ?_
  refine wpl_nil ?_
  refine nrm ?_
  refine wpc_ret ?_
  refine outRw ?_
  intro we hpd
  replace S3 := St.pd S3 hpd
  have e0 := Option.some.inj hm
  subst e0
  exact outR [_, _] rfl ⟨rfl, rfl, trivial⟩ ⟨_, L0, _, _, S3, rfl, h5⟩

def r_ref08_grown : Nat → Int → Int → Bool → Option Int
  | 0, _, _, _ => none
  | n + 1, a0, a1, a2 =>
    obind (
      if (a0 == 0) = true then
        some true
      else
      if (a0 == a1) = true then
        some a2
      else
      some false
    ) fun x1 =>
    if x1 = true then
      some 0
    else
    if (a0 == a1) = true then
      some 1
    else
    obind (m_ref08_First a1) fun x2 =>
    if (decide (a0 ≤ x2)) = true then
      obind (r_ref08_grown n a0 x2 a2) fun x3 =>
      some (w64 (x3 + 1))
    else
    obind (r_ref08_grown n (w64 (a0 - x2)) (w64 (a1 - x2)) false) fun x4 =>
    some (w64 (x4 + 1))

def m_ref08_grown (a0 : Int) (a1 : Int) (a2 : Bool) : Option Int := r_ref08_grown FUEL a0 a1 a2

theorem wr_ref08_grown (n : Nat) : ∀ {m : Mem} {As : List Ow} {w : World} {a0 : Int} {a1 : Int} {a2 : Bool} {r : Int} (S : St m (As) w) (hm : r_ref08_grown n a0 a1 a2 = some r),
    CallsR Tryd.prog 51 #[vI a0, vI a1, vb a2] w fun v w' => ∃ (M : Mem), m ≤ M ∧ St M (As) w' ∧ v = vI r := by
  induction n with
  | zero => intro m As w a0 a1 a2 r S  hm; cases hm
  | succ n ih =>
    intro m As w a0 a1 a2 r S  hm
    unfold r_ref08_grown at hm
    have L0 := Mem.rfl' m
    refine callsR (args := [vI a0, vI a1, vb a2]) Tryd.func51 rfl Tryd.ntmps51 (Nat.le_of_ble_eq_true rfl) ?_
    refine wpc_seq ?_
    refine wpc_region ?_
    refine s_asv (v := vI 0) rfl ?_
    refine wpl_nil ?_
    refine nrm ?_
    refine wpc_seq ?_
    refine wpc_seq ?_
    refine wpc_region ?_
    refine s_mvv (v := vI a0) rfl ?_
    refine s_eql (m := a0) (n := 0) rfl rfl ?_
    refine s_mvv (v := vb (a0 == 0)) rfl ?_
    obtain ⟨x1, q1, hm⟩ := obind_some hm
    have L1 := Mem.rfl' m
    refine wpl_cut 7 [11, 12, 13, 14, 15, 16, 17] (fun f' w' => ∃ (M1 : Mem), m ≤ M1 ∧ St M1 (As) w' ∧ AllAt f' [(17, vb x1)]) ?_ ?_
    · rcases bool_tf (a0 == 0) with hb1 | hb1
      · replace q1 := ifT hb1 q1
        refine wpl_no (d := 10) rfl rfl (congrArg Value.bool hb1) ?_
        refine wpl_no (d := 10) rfl rfl (congrArg Value.bool hb1) ?_
        refine wpl_no (d := 10) rfl rfl (congrArg Value.bool hb1) ?_
        refine wpl_no (d := 10) rfl rfl (congrArg Value.bool hb1) ?_
        refine wpl_no' (d := 14) rfl rfl rfl ?_
        refine wpl_no (d := 10) rfl rfl (congrArg Value.bool hb1) ?_
        refine s_pickT (congrArg Value.bool hb1) rfl ?_
        refine wpl_nil (nrm ?_)
        have e0 := Option.some.inj q1
        subst e0
        exact ⟨outP, m, L1, S, ⟨rfl, trivial⟩⟩
      replace q1 := ifF hb1 q1
      refine wpl_yes (d := 10) rfl rfl (congrArg Value.bool hb1) ?_
      refine s_mvv (v := vI a0) rfl ?_
      refine wpl_yes (d := 10) rfl rfl (congrArg Value.bool hb1) ?_
      refine s_mvv (v := vI a1) rfl ?_
      refine wpl_yes (d := 10) rfl rfl (congrArg Value.bool hb1) ?_
      refine s_eql (m := a0) (n := a1) rfl rfl ?_
      refine wpl_yes (d := 10) rfl rfl (congrArg Value.bool hb1) ?_
      refine s_mvv (v := vb (a0 == a1)) rfl ?_
      rcases bool_tf (a0 == a1) with hb2 | hb2
      · replace q1 := ifT hb2 q1
        refine wpl_yes (d := 14) rfl rfl (congrArg Value.bool hb2) ?_
        refine s_mvv (v := vb a2) rfl ?_
        refine wpl_yes (d := 10) rfl rfl (congrArg Value.bool hb1) ?_
        refine s_pickT (congrArg Value.bool hb2) rfl ?_
        refine s_pickF (congrArg Value.bool hb1) rfl ?_
        refine wpl_nil (nrm ?_)
        have e0 := Option.some.inj q1
        subst e0
        exact ⟨outP, m, L1, S, ⟨rfl, trivial⟩⟩
      replace q1 := ifF hb2 q1
      refine wpl_no (d := 14) rfl rfl (congrArg Value.bool hb2) ?_
      refine wpl_yes (d := 10) rfl rfl (congrArg Value.bool hb1) ?_
      refine s_pickF (congrArg Value.bool hb2) rfl ?_
      refine s_pickF (congrArg Value.bool hb1) rfl ?_
      refine wpl_nil (nrm ?_)
      have e0 := Option.some.inj q1
      subst e0
      exact ⟨outP, m, L1, S, ⟨rfl, trivial⟩⟩
    rintro f1 w1 ho ⟨m1, l1, S1, ha⟩
    obtain ⟨u1, rfl⟩ := fr_of (N := 39) ho ha
    replace L0 := Mem.tr L0 l1
    clear S
    refine wpl_nil ?_
    refine nrm ?_
    refine wpc_if (t := x1) rfl (fun hc1 => ?_) (fun hc1 => ?_)
    · replace hm := ifT hc1 hm
      refine wpc_seq ?_
      refine wpc_region ?_
      refine s_asv (v := vI 0) rfl ?_
      refine wpl_nil ?_
      refine nrm ?_
      refine wpc_ret ?_
      refine thR ?_
      refine outRw ?_
      intro we hpd
      replace S1 := St.pd S1 hpd
      have e0 := Option.some.inj hm
      subst e0
      exact outR [_] rfl ⟨rfl, trivial⟩ ⟨_, L0, S1, rfl⟩
    replace hm := ifF hc1 hm
    refine wpc_skip ?_
    refine nrm ?_
    refine wpc_seq ?_
    refine wpc_seq ?_
    refine wpc_region ?_
    refine s_mvv (v := vI a0) rfl ?_
    refine s_mvv (v := vI a1) rfl ?_
    refine s_eql (m := a0) (n := a1) rfl rfl ?_
    refine wpl_nil ?_
    refine nrm ?_
    refine wpc_if (t := (a0 == a1)) rfl (fun hc2 => ?_) (fun hc2 => ?_)
    · replace hm := ifT hc2 hm
      refine wpc_seq ?_
      refine wpc_region ?_
      refine s_asv (v := vI 1) rfl ?_
      refine wpl_nil ?_
      refine nrm ?_
      refine wpc_ret ?_
      refine thR ?_
      refine outRw ?_
      intro we hpd
      replace S1 := St.pd S1 hpd
      have e0 := Option.some.inj hm
      subst e0
      exact outR [_] rfl ⟨rfl, trivial⟩ ⟨_, L0, S1, rfl⟩
    replace hm := ifF hc2 hm
    refine wpc_skip ?_
    refine nrm ?_
    refine wpc_seq ?_
    refine wpc_region ?_
    refine s_mvv (v := vI a1) rfl ?_
    obtain ⟨x2, q2, hm⟩ := obind_some hm
    refine s_call Tryd.call35 (w_ref08_First (a0 := a1) S1  q2) rfl ?_
    rintro _ w2 ⟨m2, l2, S2, rfl⟩
    replace L0 := Mem.tr L0 l2
    clear S1
    replace S2 : St _ (As) _ := S2
    refine s_asv (v := vI x2) rfl ?_
    refine wpl_nil ?_
    refine nrm ?_
    refine wpc_seq ?_
    refine wpc_seq ?_
    refine wpc_region ?_
    refine s_mvv (v := vI a0) rfl ?_
    refine s_mvv (v := vI x2) rfl ?_
    refine s_leq (m := a0) (n := x2) rfl rfl ?_
    refine wpl_nil ?_
    refine nrm ?_
    refine wpc_if (t := (decide (a0 ≤ x2))) rfl (fun hc3 => ?_) (fun hc3 => ?_)
    · replace hm := ifT hc3 hm
      refine wpc_seq ?_
      refine wpc_region ?_
      refine s_mvv (v := vI a0) rfl ?_
      refine s_mvv (v := vI x2) rfl ?_
      refine s_mvv (v := vb a2) rfl ?_
      obtain ⟨x3, q3, hm⟩ := obind_some hm
      refine s_call Tryd.call51 (ih (a0 := a0) (a1 := x2) (a2 := a2) S2  q3) rfl ?_
      rintro _ w3 ⟨m3, l3, S3, rfl⟩
      replace L0 := Mem.tr L0 l3
      clear S2
      replace S3 : St _ (As) _ := S3
      refine s_addI (m := x3) (n := 1) rfl rfl ?_
      refine s_asv (v := vI (w64 (x3 + 1))) rfl ?_
      refine wpl_nil ?_
      refine nrm ?_
      refine wpc_ret ?_
      refine thR ?_
      refine outRw ?_
      intro we hpd
      replace S3 := St.pd S3 hpd
      have e0 := Option.some.inj hm
      subst e0
      exact outR [_] rfl ⟨rfl, trivial⟩ ⟨_, L0, S3, rfl⟩
    replace hm := ifF hc3 hm
    refine wpc_skip ?_
    refine nrm ?_
    refine wpc_seq ?_
    refine wpc_region ?_
    refine s_mvv (v := vI a0) rfl ?_
    refine s_mvv (v := vI x2) rfl ?_
    refine s_subI (m := a0) (n := x2) rfl rfl ?_
    refine s_mvv (v := vI a1) rfl ?_
    refine s_mvv (v := vI x2) rfl ?_
    refine s_subI (m := a1) (n := x2) rfl rfl ?_
    obtain ⟨x4, q4, hm⟩ := obind_some hm
    refine s_call Tryd.call51 (ih (a0 := (w64 (a0 - x2))) (a1 := (w64 (a1 - x2))) (a2 := false) S2  q4) rfl ?_
    rintro _ w4 ⟨m4, l4, S4, rfl⟩
    replace L0 := Mem.tr L0 l4
    clear S2
    replace S4 : St _ (As) _ := S4
    refine s_addI (m := x4) (n := 1) rfl rfl ?_
    refine s_asv (v := vI (w64 (x4 + 1))) rfl ?_
    refine wpl_nil ?_
    refine nrm ?_
    refine wpc_ret ?_
    refine outRw ?_
    intro we hpd
    replace S4 := St.pd S4 hpd
    have e0 := Option.some.inj hm
    subst e0
    exact outR [_] rfl ⟨rfl, trivial⟩ ⟨_, L0, S4, rfl⟩

theorem w_ref08_grown {m : Mem} {As : List Ow} {w : World} {a0 : Int} {a1 : Int} {a2 : Bool} {r : Int} (S : St m (As) w) (hm : m_ref08_grown a0 a1 a2 = some r) :
    CallsR Tryd.prog 51 #[vI a0, vI a1, vb a2] w fun v w' => ∃ (M : Mem), m ≤ M ∧ St M (As) w' ∧ v = vI r := wr_ref08_grown FUEL S  hm

def r_ref08_both : Nat → Int → Int → Bool → (UInt64 × UInt64) → (List (UInt64 × UInt64)) → Option ((UInt64 × UInt64) × (UInt64 × UInt64))
  | 0, _, _, _, _, _ => none
  | n + 1, a0, a1, a2, a3, a4 =>
    if ((a0 == a1) && a2) = true then
      some (a3, a3)
    else
    bnd ((w64 ((a4.length : Int) - 1))) fun x1 =>
    if (a0 == a1) = true then
      obind (idx a4 x1) fun x2 =>
      obind (idx a4 x1) fun x3 =>
      some (x2, x3)
    else
    obind (m_ref08_First a1) fun x4 =>
    if (decide (a0 ≤ x4)) = true then
      obind (cut a4 0 x1) fun x5 =>
      obind (r_ref08_both n a0 x4 a2 a3 x5) fun x6 =>
      obind (idx a4 x1) fun x7 =>
      obind (m_ref02_Pair x6.2 x7) fun x8 =>
      some (x6.1, x8)
    else
    obind (cut a4 0 x1) fun x9 =>
    obind (r_ref08_both n (w64 (a0 - x4)) (w64 (a1 - x4)) false a3 x9) fun x10 =>
    obind (idx a4 x1) fun x11 =>
    obind (m_ref02_Pair x11 x10.1) fun x12 =>
    obind (idx a4 x1) fun x13 =>
    obind (m_ref02_Pair x13 x10.2) fun x14 =>
    some (x12, x14)

def m_ref08_both (a0 : Int) (a1 : Int) (a2 : Bool) (a3 : UInt64 × UInt64) (a4 : List (UInt64 × UInt64)) : Option ((UInt64 × UInt64) × (UInt64 × UInt64)) := r_ref08_both FUEL a0 a1 a2 a3 a4

theorem wr_ref08_both (n : Nat) : ∀ {m : Mem} {As : List Ow} {w : World} {a0 : Int} {a1 : Int} {a2 : Bool} {a3 : UInt64 × UInt64} {a4 : List (UInt64 × UInt64)} {a4v0 : Value} {r : (UInt64 × UInt64) × (UInt64 × UInt64)} (S : St m (As) w) (a4h0 : SlR m a4v0 a4) (hm : r_ref08_both n a0 a1 a2 a3 a4 = some r),
    CallsR Tryd.prog 52 #[vI a0, vI a1, vb a2, .agg #[vU a3.1, vU a3.2], a4v0] w fun v w' => ∃ (M : Mem), m ≤ M ∧ St M (As) w' ∧ v = .tuple #[.agg #[vU r.1.1, vU r.1.2], .agg #[vU r.2.1, vU r.2.2]] := by
  induction n with
  | zero => intro m As w a0 a1 a2 a3 a4 a4v0 r S a4h0 hm; cases hm
  | succ n ih =>
    intro m As w a0 a1 a2 a3 a4 a4v0 r S a4h0 hm
    unfold r_ref08_both at hm
    have L0 := Mem.rfl' m
    refine callsR (args := [vI a0, vI a1, vb a2, .agg #[vU a3.1, vU a3.2], a4v0]) Tryd.func52 rfl Tryd.ntmps52 (Nat.le_of_ble_eq_true rfl) ?_
    refine wpc_seq ?_
    refine wpc_region ?_
    refine s_box S rfl ?_
    intro b1 w1 S1
    replace S1 : St _ ((bx b1 [vU a3.1, vU a3.2] 27) :: As) _ := S1
    clear S
    refine s_alloc S1 Tryd.zeroValue27 ?_
    intro b2 w2 S2
    replace S2 : St _ ((bx b2 [vU 0, vU 0] 27) :: (bx b1 [vU a3.1, vU a3.2] 27) :: As) _ := S2
    clear S1
    refine s_alloc S2 Tryd.zeroValue27 ?_
    intro b3 w3 S3
    replace S3 : St _ ((bx b3 [vU 0, vU 0] 27) :: (bx b2 [vU 0, vU 0] 27) :: (bx b1 [vU a3.1, vU a3.2] 27) :: As) _ := S3
    clear S2
    refine wpl_nil ?_
    refine nrm ?_
    refine wpc_seq ?_
    refine wpc_seq ?_
    refine wpc_region ?_
    refine s_mvv (v := vI a0) rfl ?_
    refine s_mvv (v := vI a1) rfl ?_
    refine s_eql (m := a0) (n := a1) rfl rfl ?_
    refine s_mvv (v := vb (a0 == a1)) rfl ?_
    refine wpl_cut 2 [22, 23] (fun f' w' => w' = w3 ∧ AllAt f' [(23, vb ((a0 == a1) && a2))]) ?_ ?_
    · rcases bool_tf (a0 == a1) with hb1 | hb1
      · refine wpl_yes (d := 21) rfl rfl (congrArg Value.bool hb1) ?_
        refine s_mvv (v := vb a2) rfl ?_
        refine s_pickT (congrArg Value.bool hb1) rfl ?_
        exact wpl_nil (nrm ⟨outP, rfl, congrArg Value.bool (and_t hb1), trivial⟩)
      · refine wpl_no (d := 21) rfl rfl (congrArg Value.bool hb1) ?_
        refine s_pickF (congrArg Value.bool hb1) rfl ?_
        exact wpl_nil (nrm ⟨outP, rfl, congrArg Value.bool (and_f hb1), trivial⟩)
    rintro f1 w4 ho ⟨h1, ha⟩
    subst h1
    obtain ⟨u1, rfl⟩ := fr_of (N := 89) ho ha
    refine wpl_nil ?_
    refine nrm ?_
    refine wpc_if (t := ((a0 == a1) && a2)) rfl (fun hc1 => ?_) (fun hc1 => ?_)
    · replace hm := ifT hc1 hm
      refine wpc_seq ?_
      have HM : MonoAll [(24, fun (M : Mem) (v : Value) => v = .agg #[vU a3.1, vU a3.2]), (25, fun (M : Mem) (v : Value) => v = .agg #[vU a3.1, vU a3.2]), (100002, fun _ _ => True)] := ⟨(fun _ _ _ _ h => h), (fun _ _ _ _ h => h), (fun _ _ _ _ h => h), trivial⟩
      refine wpc_flowG HM 3 mixed rfl rfl rfl [24, 25] (fun L f M w => St M ((bx b3 [vU 0, vU 0] 27) :: (bx b2 (bif L 2 then [vU a3.1, vU a3.2] else [vU 0, vU 0]) 27) :: (bx b1 [vU a3.1, vU a3.2] 27) :: As) w) (St.drew S3 _) ?_ ?_
      · refine ⟨?_, ?_, ?_, trivial⟩
        · intro L f2 w5 hL hd hc ⟨m1, L1, S4, K, hO⟩
          have d2 : L 2 = false := undep hc hL rfl
          replace S4 : St _ ((bx b3 [vU 0, vU 0] 27) :: (bx b2 (bif L 2 then [vU a3.1, vU a3.2] else [vU 0, vU 0]) 27) :: (bx b1 [vU a3.1, vU a3.2] 27) :: As) _ := S4
          rw [d2] at S4
          obtain ⟨u2, rfl⟩ := fr_of (N := 89) (L := []) hO trivial
          replace S4 : St _ ((bx b3 [vU 0, vU 0] 27) :: (bx b2 [vU 0, vU 0] 27) :: (bx b1 [vU a3.1, vU a3.2] 27) :: As) _ := S4
          replace a4h0 := a4h0.up L1
          have L2 := Mem.rfl' m1
          refine s_ld (i := 2) (cs := [vU a3.1, vU a3.2]) S4 rfl rfl Tryd.isAgg27 Tryd.sizeOf27 rfl (fun h => by cases h) ?_
          refine wpn ?_
          refine ⟨m1, Mem.tr L1 L2, ?_, facts_step HM rfl K L2 rfl rfl rfl, outP⟩
          show St _ ((bx b3 [vU 0, vU 0] 27) :: (bx b2 (bif L 2 then [vU a3.1, vU a3.2] else [vU 0, vU 0]) 27) :: (bx b1 [vU a3.1, vU a3.2] 27) :: As) _
          rw [d2]
          exact S4
        · intro L f3 w6 hL hd hc ⟨m2, L3, S5, K, hO⟩
          obtain ⟨u3, rfl⟩ := fr_of (N := 89) (L := []) hO trivial
          replace S5 : St _ ((bx b3 [vU 0, vU 0] 27) :: (bx b2 (bif L 2 then [vU a3.1, vU a3.2] else [vU 0, vU 0]) 27) :: (bx b1 [vU a3.1, vU a3.2] 27) :: As) _ := S5
          replace a4h0 := a4h0.up L3
          have L4 := Mem.rfl' m2
          refine s_ld (i := 2) (cs := [vU a3.1, vU a3.2]) S5 rfl rfl Tryd.isAgg27 Tryd.sizeOf27 rfl (fun h => by cases h) ?_
          refine wpn ?_
          refine ⟨m2, Mem.tr L3 L4, ?_, facts_step HM rfl K L4 rfl rfl rfl, outP⟩
          exact S5
        · intro L f4 w7 hL hd hc ⟨m3, L5, S6, K, hO⟩
          have d2 : L 2 = false := hL
          have d0 : L 0 = true := dep hd rfl
          have e1 := K 0 d0
          replace S6 : St _ ((bx b3 [vU 0, vU 0] 27) :: (bx b2 (bif L 2 then [vU a3.1, vU a3.2] else [vU 0, vU 0]) 27) :: (bx b1 [vU a3.1, vU a3.2] 27) :: As) _ := S6
          rw [d2] at S6
          obtain ⟨u4, rfl⟩ := fr_of (N := 89) (L := [(24, .agg #[vU a3.1, vU a3.2])]) hO ⟨e1, trivial⟩
          replace S6 : St _ ((bx b3 [vU 0, vU 0] 27) :: (bx b2 [vU 0, vU 0] 27) :: (bx b1 [vU a3.1, vU a3.2] 27) :: As) _ := S6
          replace a4h0 := a4h0.up L5
          have L6 := Mem.rfl' m3
          refine s_stL (i := 1) S6 rfl rfl rfl Tryd.sizeOf27 (oneC rfl (oneC rfl oneN)) rfl ?_
          intro w8 S7
          replace S7 : St _ ((bx b3 [vU 0, vU 0] 27) :: (bx b2 [vU a3.1, vU a3.2] 27) :: (bx b1 [vU a3.1, vU a3.2] 27) :: As) _ := S7
          clear S6
          refine wpn ?_
          refine ⟨m3, Mem.tr L5 L6, ?_, facts_none HM K L6 rfl (fun _ => trivial), outP⟩
          exact S7
      intro L f5 w9 hall ⟨m4, L7, S8, K, hO⟩
      have d2 : L 2 = true := hall 2 (by decide)
      have d1 : L 1 = true := hall 1 (by decide)
      have e2 := K 1 d1
      replace S8 : St _ ((bx b3 [vU 0, vU 0] 27) :: (bx b2 (bif L 2 then [vU a3.1, vU a3.2] else [vU 0, vU 0]) 27) :: (bx b1 [vU a3.1, vU a3.2] 27) :: As) _ := S8
      rw [d2] at S8
      obtain ⟨u5, rfl⟩ := fr_of (N := 89) (L := [(25, .agg #[vU a3.1, vU a3.2])]) hO ⟨e2, trivial⟩
      replace S8 : St _ ((bx b3 [vU 0, vU 0] 27) :: (bx b2 [vU a3.1, vU a3.2] 27) :: (bx b1 [vU a3.1, vU a3.2] 27) :: As) _ := S8
      replace a4h0 := a4h0.up L7
      replace L0 := Mem.tr L0 L7
      clear S3
      refine s_stL (i := 0) S8 rfl rfl rfl Tryd.sizeOf27 (oneC rfl (oneC rfl oneN)) rfl ?_
      intro w10 S9
      replace S9 : St _ ((bx b3 [vU a3.1, vU a3.2] 27) :: (bx b2 [vU a3.1, vU a3.2] 27) :: (bx b1 [vU a3.1, vU a3.2] 27) :: As) _ := S9
      clear S8
      refine wpl_nil ?_
      refine nrm ?_
      refine wpc_ret ?_
      refine thR ?_
      refine outRw ?_
      intro we hpd
      replace S9 := St.pd S9 hpd
      have SR := S9
      obtain ⟨m5, l1, S10⟩ := St.drop S9 0
      replace L0 := Mem.tr L0 l1
      replace S10 : St _ ((bx b2 [vU a3.1, vU a3.2] 27) :: (bx b1 [vU a3.1, vU a3.2] 27) :: As) _ := S10
      obtain ⟨m6, l2, S11⟩ := St.drop S10 0
      replace L0 := Mem.tr L0 l2
      clear S10
      replace S11 : St _ ((bx b1 [vU a3.1, vU a3.2] 27) :: As) _ := S11
      obtain ⟨m7, l3, S12⟩ := St.drop S11 0
      replace L0 := Mem.tr L0 l3
      clear S11
      replace S12 : St _ (As) _ := S12
      have e0 := Option.some.inj hm
      subst e0
      exact outR [_, _] rfl ⟨res_box (i := 1) (off := 0) (cs := [vU a3.1, vU a3.2]) SR rfl rfl Tryd.isAgg27 Tryd.sizeOf27 rfl (fun h => by cases h), res_box (i := 0) (off := 0) (cs := [vU a3.1, vU a3.2]) SR rfl rfl Tryd.isAgg27 Tryd.sizeOf27 rfl (fun h => by cases h), trivial⟩ ⟨_, L0, S12, rfl⟩
    replace hm := ifF hc1 hm
    refine wpc_skip ?_
    refine nrm ?_
    refine wpc_seq ?_
    refine wpc_region ?_
    refine s_mvv (v := a4v0) rfl ?_
    refine s_lenR (xs := a4) rfl a4h0 Tryd.underlying22 ?_
    refine s_subI (m := (a4.length : Int)) (n := 1) rfl rfl ?_
    obtain ⟨x1, q1, hm⟩ := bnd_eq hm
    refine s_asv (v := vI x1) (congrArg (fun z => vI z) q1.symm) ?_
    refine wpl_nil ?_
    refine nrm ?_
    refine wpc_seq ?_
    refine wpc_seq ?_
    refine wpc_region ?_
    refine s_mvv (v := vI a0) rfl ?_
    refine s_mvv (v := vI a1) rfl ?_
    refine s_eql (m := a0) (n := a1) rfl rfl ?_
    refine wpl_nil ?_
    refine nrm ?_
    refine wpc_if (t := (a0 == a1)) rfl (fun hc2 => ?_) (fun hc2 => ?_)
    · replace hm := ifT hc2 hm
      refine wpc_seq ?_
      obtain ⟨x2, q2, hm⟩ := obind_some hm
      obtain ⟨x3, q3, hm⟩ := obind_some hm
      have HM : MonoAll [(32, fun (M : Mem) (v : Value) => v = a4v0), (33, fun (M : Mem) (v : Value) => v = vI x1), (34, fun (M : Mem) (v : Value) => ∃ (p1 : Value), v = p1 ∧ PtC M p1 [vU x2.1, vU x2.2]), (35, fun (M : Mem) (v : Value) => v = .agg #[vU x2.1, vU x2.2]), (36, fun (M : Mem) (v : Value) => v = a4v0), (37, fun (M : Mem) (v : Value) => v = vI x1), (38, fun (M : Mem) (v : Value) => ∃ (p2 : Value), v = p2 ∧ PtC M p2 [vU x3.1, vU x3.2]), (39, fun (M : Mem) (v : Value) => v = .agg #[vU x3.1, vU x3.2]), (100008, fun _ _ => True)] := ⟨(fun _ _ _ _ h => h), (fun _ _ _ _ h => h), (fun _ _ _ l ⟨p1, e, h2⟩ => ⟨p1, e, h2.up l⟩), (fun _ _ _ _ h => h), (fun _ _ _ _ h => h), (fun _ _ _ _ h => h), (fun _ _ _ l ⟨p2, e, h4⟩ => ⟨p2, e, h4.up l⟩), (fun _ _ _ _ h => h), (fun _ _ _ _ h => h), trivial⟩
      refine wpc_flowG HM 9 mixed rfl rfl rfl [32, 33, 34, 35, 36, 37, 38, 39] (fun L f M w => St M ((bx b3 [vU 0, vU 0] 27) :: (bx b2 (bif L 8 then [vU x2.1, vU x2.2] else [vU 0, vU 0]) 27) :: (bx b1 [vU a3.1, vU a3.2] 27) :: As) w) (St.drew S3 _) ?_ ?_
      · refine ⟨?_, ?_, ?_, ?_, ?_, ?_, ?_, ?_, ?_, trivial⟩
        · intro L f6 w11 hL hd hc ⟨m8, L8, S13, K, hO⟩
          have d8 : L 8 = false := undep hc hL rfl
          replace S13 : St _ ((bx b3 [vU 0, vU 0] 27) :: (bx b2 (bif L 8 then [vU x2.1, vU x2.2] else [vU 0, vU 0]) 27) :: (bx b1 [vU a3.1, vU a3.2] 27) :: As) _ := S13
          rw [d8] at S13
          obtain ⟨u6, rfl⟩ := fr_of (N := 89) (L := []) hO trivial
          replace S13 : St _ ((bx b3 [vU 0, vU 0] 27) :: (bx b2 [vU 0, vU 0] 27) :: (bx b1 [vU a3.1, vU a3.2] 27) :: As) _ := S13
          have L9 := Mem.rfl' m8
          refine s_mvv (v := a4v0) rfl ?_
          refine wpn ?_
          refine ⟨m8, Mem.tr L8 L9, ?_, facts_step HM rfl K L9 rfl rfl rfl, outP⟩
          show St _ ((bx b3 [vU 0, vU 0] 27) :: (bx b2 (bif L 8 then [vU x2.1, vU x2.2] else [vU 0, vU 0]) 27) :: (bx b1 [vU a3.1, vU a3.2] 27) :: As) _
          rw [d8]
          exact S13
        · intro L f7 w12 hL hd hc ⟨m9, L10, S14, K, hO⟩
          have d8 : L 8 = false := undep hc hL rfl
          replace S14 : St _ ((bx b3 [vU 0, vU 0] 27) :: (bx b2 (bif L 8 then [vU x2.1, vU x2.2] else [vU 0, vU 0]) 27) :: (bx b1 [vU a3.1, vU a3.2] 27) :: As) _ := S14
          rw [d8] at S14
          obtain ⟨u7, rfl⟩ := fr_of (N := 89) (L := []) hO trivial
          replace S14 : St _ ((bx b3 [vU 0, vU 0] 27) :: (bx b2 [vU 0, vU 0] 27) :: (bx b1 [vU a3.1, vU a3.2] 27) :: As) _ := S14
          have L11 := Mem.rfl' m9
          refine s_mvv (v := vI x1) rfl ?_
          refine wpn ?_
          refine ⟨m9, Mem.tr L10 L11, ?_, facts_step HM rfl K L11 rfl rfl rfl, outP⟩
          show St _ ((bx b3 [vU 0, vU 0] 27) :: (bx b2 (bif L 8 then [vU x2.1, vU x2.2] else [vU 0, vU 0]) 27) :: (bx b1 [vU a3.1, vU a3.2] 27) :: As) _
          rw [d8]
          exact S14
        · intro L f8 w13 hL hd hc ⟨m10, L12, S15, K, hO⟩
          have d8 : L 8 = false := undep hc hL rfl
          have d0 : L 0 = true := dep hd rfl
          have e3 := K 0 d0
          have d1 : L 1 = true := dep hd rfl
          have e4 := K 1 d1
          replace S15 : St _ ((bx b3 [vU 0, vU 0] 27) :: (bx b2 (bif L 8 then [vU x2.1, vU x2.2] else [vU 0, vU 0]) 27) :: (bx b1 [vU a3.1, vU a3.2] 27) :: As) _ := S15
          rw [d8] at S15
          obtain ⟨u8, rfl⟩ := fr_of (N := 89) (L := [(32, a4v0), (33, vI x1)]) hO ⟨e3, e4, trivial⟩
          replace S15 : St _ ((bx b3 [vU 0, vU 0] 27) :: (bx b2 [vU 0, vU 0] 27) :: (bx b1 [vU a3.1, vU a3.2] 27) :: As) _ := S15
          replace a4h0 := a4h0.up L12
          have L13 := Mem.rfl' m10
          refine s_idx (q := x2) rfl rfl a4h0 q2 Tryd.underlying22 Tryd.sizeOf27 ?_
          intro p1 c1 h2 r1
          obtain rfl := rep_arr2_UInt64 r1
          refine wpn ?_
          refine ⟨m10, Mem.tr L12 L13, ?_, facts_step HM rfl K L13 rfl rfl ⟨p1, rfl, h2⟩, outP⟩
          show St _ ((bx b3 [vU 0, vU 0] 27) :: (bx b2 (bif L 8 then [vU x2.1, vU x2.2] else [vU 0, vU 0]) 27) :: (bx b1 [vU a3.1, vU a3.2] 27) :: As) _
          rw [d8]
          exact S15
        · intro L f9 w14 hL hd hc ⟨m11, L14, S16, K, hO⟩
          have d8 : L 8 = false := undep hc hL rfl
          have d2 : L 2 = true := dep hd rfl
          obtain ⟨v1, e5, h3⟩ := K 2 d2
          replace S16 : St _ ((bx b3 [vU 0, vU 0] 27) :: (bx b2 (bif L 8 then [vU x2.1, vU x2.2] else [vU 0, vU 0]) 27) :: (bx b1 [vU a3.1, vU a3.2] 27) :: As) _ := S16
          rw [d8] at S16
          obtain ⟨u9, rfl⟩ := fr_of (N := 89) (L := [(34, v1)]) hO ⟨e5, trivial⟩
          replace S16 : St _ ((bx b3 [vU 0, vU 0] 27) :: (bx b2 [vU 0, vU 0] 27) :: (bx b1 [vU a3.1, vU a3.2] 27) :: As) _ := S16
          replace a4h0 := a4h0.up L14
          have L15 := Mem.rfl' m11
          refine s_ldM (cs := [vU x2.1, vU x2.2]) S16 rfl h3 rfl Tryd.isAgg27 Tryd.sizeOf27 (fun h => by cases h) ?_
          refine wpn ?_
          refine ⟨m11, Mem.tr L14 L15, ?_, facts_step HM rfl K L15 rfl rfl rfl, outP⟩
          show St _ ((bx b3 [vU 0, vU 0] 27) :: (bx b2 (bif L 8 then [vU x2.1, vU x2.2] else [vU 0, vU 0]) 27) :: (bx b1 [vU a3.1, vU a3.2] 27) :: As) _
          rw [d8]
          exact S16
        · intro L f10 w15 hL hd hc ⟨m12, L16, S17, K, hO⟩
          obtain ⟨u10, rfl⟩ := fr_of (N := 89) (L := []) hO trivial
          replace S17 : St _ ((bx b3 [vU 0, vU 0] 27) :: (bx b2 (bif L 8 then [vU x2.1, vU x2.2] else [vU 0, vU 0]) 27) :: (bx b1 [vU a3.1, vU a3.2] 27) :: As) _ := S17
          have L17 := Mem.rfl' m12
          refine s_mvv (v := a4v0) rfl ?_
          refine wpn ?_
          refine ⟨m12, Mem.tr L16 L17, ?_, facts_step HM rfl K L17 rfl rfl rfl, outP⟩
          exact S17
        · intro L f11 w16 hL hd hc ⟨m13, L18, S18, K, hO⟩
          obtain ⟨u11, rfl⟩ := fr_of (N := 89) (L := []) hO trivial
          replace S18 : St _ ((bx b3 [vU 0, vU 0] 27) :: (bx b2 (bif L 8 then [vU x2.1, vU x2.2] else [vU 0, vU 0]) 27) :: (bx b1 [vU a3.1, vU a3.2] 27) :: As) _ := S18
          have L19 := Mem.rfl' m13
          refine s_mvv (v := vI x1) rfl ?_
          refine wpn ?_
          refine ⟨m13, Mem.tr L18 L19, ?_, facts_step HM rfl K L19 rfl rfl rfl, outP⟩
          exact S18
        · intro L f12 w17 hL hd hc ⟨m14, L20, S19, K, hO⟩
          have d4 : L 4 = true := dep hd rfl
          have e6 := K 4 d4
          have d5 : L 5 = true := dep hd rfl
          have e7 := K 5 d5
          obtain ⟨u12, rfl⟩ := fr_of (N := 89) (L := [(36, a4v0), (37, vI x1)]) hO ⟨e6, e7, trivial⟩
          replace S19 : St _ ((bx b3 [vU 0, vU 0] 27) :: (bx b2 (bif L 8 then [vU x2.1, vU x2.2] else [vU 0, vU 0]) 27) :: (bx b1 [vU a3.1, vU a3.2] 27) :: As) _ := S19
          replace a4h0 := a4h0.up L20
          have L21 := Mem.rfl' m14
          refine s_idx (q := x3) rfl rfl a4h0 q3 Tryd.underlying22 Tryd.sizeOf27 ?_
          intro p2 c2 h4 r2
          obtain rfl := rep_arr2_UInt64 r2
          refine wpn ?_
          refine ⟨m14, Mem.tr L20 L21, ?_, facts_step HM rfl K L21 rfl rfl ⟨p2, rfl, h4⟩, outP⟩
          exact S19
        · intro L f13 w18 hL hd hc ⟨m15, L22, S20, K, hO⟩
          have d6 : L 6 = true := dep hd rfl
          obtain ⟨v2, e8, h5⟩ := K 6 d6
          obtain ⟨u13, rfl⟩ := fr_of (N := 89) (L := [(38, v2)]) hO ⟨e8, trivial⟩
          replace S20 : St _ ((bx b3 [vU 0, vU 0] 27) :: (bx b2 (bif L 8 then [vU x2.1, vU x2.2] else [vU 0, vU 0]) 27) :: (bx b1 [vU a3.1, vU a3.2] 27) :: As) _ := S20
          replace a4h0 := a4h0.up L22
          have L23 := Mem.rfl' m15
          refine s_ldM (cs := [vU x3.1, vU x3.2]) S20 rfl h5 rfl Tryd.isAgg27 Tryd.sizeOf27 (fun h => by cases h) ?_
          refine wpn ?_
          refine ⟨m15, Mem.tr L22 L23, ?_, facts_step HM rfl K L23 rfl rfl rfl, outP⟩
          exact S20
        · intro L f14 w19 hL hd hc ⟨m16, L24, S21, K, hO⟩
          have d8 : L 8 = false := hL
          have d3 : L 3 = true := dep hd rfl
          have e9 := K 3 d3
          replace S21 : St _ ((bx b3 [vU 0, vU 0] 27) :: (bx b2 (bif L 8 then [vU x2.1, vU x2.2] else [vU 0, vU 0]) 27) :: (bx b1 [vU a3.1, vU a3.2] 27) :: As) _ := S21
          rw [d8] at S21
          obtain ⟨u14, rfl⟩ := fr_of (N := 89) (L := [(35, .agg #[vU x2.1, vU x2.2])]) hO ⟨e9, trivial⟩
          replace S21 : St _ ((bx b3 [vU 0, vU 0] 27) :: (bx b2 [vU 0, vU 0] 27) :: (bx b1 [vU a3.1, vU a3.2] 27) :: As) _ := S21
          replace a4h0 := a4h0.up L24
          have L25 := Mem.rfl' m16
          refine s_stL (i := 1) S21 rfl rfl rfl Tryd.sizeOf27 (oneC rfl (oneC rfl oneN)) rfl ?_
          intro w20 S22
          replace S22 : St _ ((bx b3 [vU 0, vU 0] 27) :: (bx b2 [vU x2.1, vU x2.2] 27) :: (bx b1 [vU a3.1, vU a3.2] 27) :: As) _ := S22
          clear S21
          refine wpn ?_
          refine ⟨m16, Mem.tr L24 L25, ?_, facts_none HM K L25 rfl (fun _ => trivial), outP⟩
          exact S22
      intro L f15 w21 hall ⟨m17, L26, S23, K, hO⟩
      have d8 : L 8 = true := hall 8 (by decide)
      have d7 : L 7 = true := hall 7 (by decide)
      have e10 := K 7 d7
      replace S23 : St _ ((bx b3 [vU 0, vU 0] 27) :: (bx b2 (bif L 8 then [vU x2.1, vU x2.2] else [vU 0, vU 0]) 27) :: (bx b1 [vU a3.1, vU a3.2] 27) :: As) _ := S23
      rw [d8] at S23
      obtain ⟨u15, rfl⟩ := fr_of (N := 89) (L := [(39, .agg #[vU x3.1, vU x3.2])]) hO ⟨e10, trivial⟩
      replace S23 : St _ ((bx b3 [vU 0, vU 0] 27) :: (bx b2 [vU x2.1, vU x2.2] 27) :: (bx b1 [vU a3.1, vU a3.2] 27) :: As) _ := S23
      replace a4h0 := a4h0.up L26
      replace L0 := Mem.tr L0 L26
      clear S3
      refine s_stL (i := 0) S23 rfl rfl rfl Tryd.sizeOf27 (oneC rfl (oneC rfl oneN)) rfl ?_
      intro w22 S24
      replace S24 : St _ ((bx b3 [vU x3.1, vU x3.2] 27) :: (bx b2 [vU x2.1, vU x2.2] 27) :: (bx b1 [vU a3.1, vU a3.2] 27) :: As) _ := S24
      clear S23
      refine wpl_nil ?_
      refine nrm ?_
      refine wpc_ret ?_
      refine thR ?_
      refine outRw ?_
      intro we hpd
      replace S24 := St.pd S24 hpd
      have SR := S24
      obtain ⟨m18, l4, S25⟩ := St.drop S24 0
      replace L0 := Mem.tr L0 l4
      replace S25 : St _ ((bx b2 [vU x2.1, vU x2.2] 27) :: (bx b1 [vU a3.1, vU a3.2] 27) :: As) _ := S25
      obtain ⟨m19, l5, S26⟩ := St.drop S25 0
      replace L0 := Mem.tr L0 l5
      clear S25
      replace S26 : St _ ((bx b1 [vU a3.1, vU a3.2] 27) :: As) _ := S26
      obtain ⟨m20, l6, S27⟩ := St.drop S26 0
      replace L0 := Mem.tr L0 l6
      clear S26
      replace S27 : St _ (As) _ := S27
      have e0 := Option.some.inj hm
      subst e0
      exact outR [_, _] rfl ⟨res_box (i := 1) (off := 0) (cs := [vU x2.1, vU x2.2]) SR rfl rfl Tryd.isAgg27 Tryd.sizeOf27 rfl (fun h => by cases h), res_box (i := 0) (off := 0) (cs := [vU x3.1, vU x3.2]) SR rfl rfl Tryd.isAgg27 Tryd.sizeOf27 rfl (fun h => by cases h), trivial⟩ ⟨_, L0, S27, rfl⟩
    replace hm := ifF hc2 hm
    refine wpc_skip ?_
    refine nrm ?_
    refine wpc_seq ?_
    refine wpc_region ?_
    refine s_mvv (v := vI a1) rfl ?_
    obtain ⟨x4, q4, hm⟩ := obind_some hm
    refine s_call Tryd.call35 (w_ref08_First (a0 := a1) S3  q4) rfl ?_
    rintro _ w23 ⟨m21, l7, S28, rfl⟩
    replace a4h0 := a4h0.up l7
    replace L0 := Mem.tr L0 l7
    clear S3
    replace S28 : St _ ((bx b3 [vU 0, vU 0] 27) :: (bx b2 [vU 0, vU 0] 27) :: (bx b1 [vU a3.1, vU a3.2] 27) :: As) _ := S28
    refine s_asv (v := vI x4) rfl ?_
    refine wpl_nil ?_
    refine nrm ?_
    refine wpc_seq ?_
    refine wpc_seq ?_
    refine wpc_region ?_
    refine s_mvv (v := vI a0) rfl ?_
    refine s_mvv (v := vI x4) rfl ?_
    refine s_leq (m := a0) (n := x4) rfl rfl ?_
    refine wpl_nil ?_
    refine nrm ?_
    refine wpc_if (t := (decide (a0 ≤ x4))) rfl (fun hc3 => ?_) (fun hc3 => ?_)
    · replace hm := ifT hc3 hm
      refine wpc_seq ?_
      obtain ⟨x5, q5, hm⟩ := obind_some hm
      obtain ⟨x6, q6, hm⟩ := obind_some hm
      have HM : MonoAll [(46, fun (M : Mem) (v : Value) => v = vI a0), (47, fun (M : Mem) (v : Value) => v = vI x4), (48, fun (M : Mem) (v : Value) => v = vb a2), (49, fun (M : Mem) (v : Value) => v = .agg #[vU a3.1, vU a3.2]), (50, fun (M : Mem) (v : Value) => v = a4v0), (51, fun (M : Mem) (v : Value) => v = vI x1), (52, fun (M : Mem) (v : Value) => ∃ (v3 : Value), v = v3 ∧ SlR M v3 x5), (53, fun (M : Mem) (v : Value) => v = .tuple #[.agg #[vU x6.1.1, vU x6.1.2], .agg #[vU x6.2.1, vU x6.2.2]]), (45, fun (M : Mem) (v : Value) => v = .tuple #[.agg #[vU x6.1.1, vU x6.1.2], .agg #[vU x6.2.1, vU x6.2.2]]), (54, fun (M : Mem) (v : Value) => v = .agg #[vU x6.1.1, vU x6.1.2]), (55, fun (M : Mem) (v : Value) => v = .agg #[vU x6.2.1, vU x6.2.2]), (14, fun (M : Mem) (v : Value) => ∃ (b4 : Nat), v = pt b4 0), (15, fun (M : Mem) (v : Value) => ∃ (b5 : Nat), v = pt b5 0), (100013, fun _ _ => True)] := ⟨(fun _ _ _ _ h => h), (fun _ _ _ _ h => h), (fun _ _ _ _ h => h), (fun _ _ _ _ h => h), (fun _ _ _ _ h => h), (fun _ _ _ _ h => h), (fun _ _ _ l ⟨v3, e, h6⟩ => ⟨v3, e, h6.up l⟩), (fun _ _ _ _ h => h), (fun _ _ _ _ h => h), (fun _ _ _ _ h => h), (fun _ _ _ _ h => h), (fun _ _ _ _ h => h), (fun _ _ _ _ h => h), (fun _ _ _ _ h => h), trivial⟩
      refine wpc_flowG HM 14 mixed rfl rfl rfl [14, 15, 45, 46, 47, 48, 49, 50, 51, 52, 53, 54, 55] (fun L f M w => St M ((bx b3 [vU 0, vU 0] 27) :: (bx b2 [vU 0, vU 0] 27) :: (bx b1 [vU a3.1, vU a3.2] 27) :: ((bif L 11 then [bxv (f 14) (bif L 13 then [vU x6.1.1, vU x6.1.2] else [vU 0, vU 0]) 27] else []) ++ ((bif L 12 then [bxv (f 15) [vU 0, vU 0] 27] else []) ++ As))) w) (St.drew S28 _) ?_ ?_
      · refine ⟨?_, ?_, ?_, ?_, ?_, ?_, ?_, ?_, ?_, ?_, ?_, ?_, ?_, ?_, trivial⟩
        · intro L f16 w24 hL hd hc ⟨m22, L27, S29, K, hO⟩
          have d13 : L 13 = false := undep hc hL rfl
          replace S29 : St _ ((bx b3 [vU 0, vU 0] 27) :: (bx b2 [vU 0, vU 0] 27) :: (bx b1 [vU a3.1, vU a3.2] 27) :: ((bif L 11 then [bxv (f16 14) (bif L 13 then [vU x6.1.1, vU x6.1.2] else [vU 0, vU 0]) 27] else []) ++ ((bif L 12 then [bxv (f16 15) [vU 0, vU 0] 27] else []) ++ As))) _ := S29
          rw [d13] at S29
          obtain ⟨u16, rfl⟩ := fr_of (N := 89) (L := []) hO trivial
          replace S29 : St _ ((bx b3 [vU 0, vU 0] 27) :: (bx b2 [vU 0, vU 0] 27) :: (bx b1 [vU a3.1, vU a3.2] 27) :: ((bif L 11 then [bxv _ (bif false then [vU x6.1.1, vU x6.1.2] else [vU 0, vU 0]) 27] else []) ++ ((bif L 12 then [bxv _ [vU 0, vU 0] 27] else []) ++ As))) _ := S29
          have L28 := Mem.rfl' m22
          refine s_mvv (v := vI a0) rfl ?_
          refine wpn ?_
          refine ⟨m22, Mem.tr L27 L28, ?_, facts_step HM rfl K L28 rfl rfl rfl, outP⟩
          show St _ ((bx b3 [vU 0, vU 0] 27) :: (bx b2 [vU 0, vU 0] 27) :: (bx b1 [vU a3.1, vU a3.2] 27) :: ((bif L 11 then [bxv _ (bif L 13 then [vU x6.1.1, vU x6.1.2] else [vU 0, vU 0]) 27] else []) ++ ((bif L 12 then [bxv _ [vU 0, vU 0] 27] else []) ++ As))) _
          rw [d13]
          exact S29
        · intro L f17 w25 hL hd hc ⟨m23, L29, S30, K, hO⟩
          have d13 : L 13 = false := undep hc hL rfl
          replace S30 : St _ ((bx b3 [vU 0, vU 0] 27) :: (bx b2 [vU 0, vU 0] 27) :: (bx b1 [vU a3.1, vU a3.2] 27) :: ((bif L 11 then [bxv (f17 14) (bif L 13 then [vU x6.1.1, vU x6.1.2] else [vU 0, vU 0]) 27] else []) ++ ((bif L 12 then [bxv (f17 15) [vU 0, vU 0] 27] else []) ++ As))) _ := S30
          rw [d13] at S30
          obtain ⟨u17, rfl⟩ := fr_of (N := 89) (L := []) hO trivial
          replace S30 : St _ ((bx b3 [vU 0, vU 0] 27) :: (bx b2 [vU 0, vU 0] 27) :: (bx b1 [vU a3.1, vU a3.2] 27) :: ((bif L 11 then [bxv _ (bif false then [vU x6.1.1, vU x6.1.2] else [vU 0, vU 0]) 27] else []) ++ ((bif L 12 then [bxv _ [vU 0, vU 0] 27] else []) ++ As))) _ := S30
          have L30 := Mem.rfl' m23
          refine s_mvv (v := vI x4) rfl ?_
          refine wpn ?_
          refine ⟨m23, Mem.tr L29 L30, ?_, facts_step HM rfl K L30 rfl rfl rfl, outP⟩
          show St _ ((bx b3 [vU 0, vU 0] 27) :: (bx b2 [vU 0, vU 0] 27) :: (bx b1 [vU a3.1, vU a3.2] 27) :: ((bif L 11 then [bxv _ (bif L 13 then [vU x6.1.1, vU x6.1.2] else [vU 0, vU 0]) 27] else []) ++ ((bif L 12 then [bxv _ [vU 0, vU 0] 27] else []) ++ As))) _
          rw [d13]
          exact S30
        · intro L f18 w26 hL hd hc ⟨m24, L31, S31, K, hO⟩
          have d13 : L 13 = false := undep hc hL rfl
          replace S31 : St _ ((bx b3 [vU 0, vU 0] 27) :: (bx b2 [vU 0, vU 0] 27) :: (bx b1 [vU a3.1, vU a3.2] 27) :: ((bif L 11 then [bxv (f18 14) (bif L 13 then [vU x6.1.1, vU x6.1.2] else [vU 0, vU 0]) 27] else []) ++ ((bif L 12 then [bxv (f18 15) [vU 0, vU 0] 27] else []) ++ As))) _ := S31
          rw [d13] at S31
          obtain ⟨u18, rfl⟩ := fr_of (N := 89) (L := []) hO trivial
          replace S31 : St _ ((bx b3 [vU 0, vU 0] 27) :: (bx b2 [vU 0, vU 0] 27) :: (bx b1 [vU a3.1, vU a3.2] 27) :: ((bif L 11 then [bxv _ (bif false then [vU x6.1.1, vU x6.1.2] else [vU 0, vU 0]) 27] else []) ++ ((bif L 12 then [bxv _ [vU 0, vU 0] 27] else []) ++ As))) _ := S31
          have L32 := Mem.rfl' m24
          refine s_mvv (v := vb a2) rfl ?_
          refine wpn ?_
          refine ⟨m24, Mem.tr L31 L32, ?_, facts_step HM rfl K L32 rfl rfl rfl, outP⟩
          show St _ ((bx b3 [vU 0, vU 0] 27) :: (bx b2 [vU 0, vU 0] 27) :: (bx b1 [vU a3.1, vU a3.2] 27) :: ((bif L 11 then [bxv _ (bif L 13 then [vU x6.1.1, vU x6.1.2] else [vU 0, vU 0]) 27] else []) ++ ((bif L 12 then [bxv _ [vU 0, vU 0] 27] else []) ++ As))) _
          rw [d13]
          exact S31
        · intro L f19 w27 hL hd hc ⟨m25, L33, S32, K, hO⟩
          have d13 : L 13 = false := undep hc hL rfl
          replace S32 : St _ ((bx b3 [vU 0, vU 0] 27) :: (bx b2 [vU 0, vU 0] 27) :: (bx b1 [vU a3.1, vU a3.2] 27) :: ((bif L 11 then [bxv (f19 14) (bif L 13 then [vU x6.1.1, vU x6.1.2] else [vU 0, vU 0]) 27] else []) ++ ((bif L 12 then [bxv (f19 15) [vU 0, vU 0] 27] else []) ++ As))) _ := S32
          rw [d13] at S32
          obtain ⟨u19, rfl⟩ := fr_of (N := 89) (L := []) hO trivial
          replace S32 : St _ ((bx b3 [vU 0, vU 0] 27) :: (bx b2 [vU 0, vU 0] 27) :: (bx b1 [vU a3.1, vU a3.2] 27) :: ((bif L 11 then [bxv _ (bif false then [vU x6.1.1, vU x6.1.2] else [vU 0, vU 0]) 27] else []) ++ ((bif L 12 then [bxv _ [vU 0, vU 0] 27] else []) ++ As))) _ := S32
          replace a4h0 := a4h0.up L33
          have L34 := Mem.rfl' m25
          refine s_ld (i := 2) (cs := [vU a3.1, vU a3.2]) S32 rfl rfl Tryd.isAgg27 Tryd.sizeOf27 rfl (fun h => by cases h) ?_
          refine wpn ?_
          refine ⟨m25, Mem.tr L33 L34, ?_, facts_step HM rfl K L34 rfl rfl rfl, outP⟩
          show St _ ((bx b3 [vU 0, vU 0] 27) :: (bx b2 [vU 0, vU 0] 27) :: (bx b1 [vU a3.1, vU a3.2] 27) :: ((bif L 11 then [bxv _ (bif L 13 then [vU x6.1.1, vU x6.1.2] else [vU 0, vU 0]) 27] else []) ++ ((bif L 12 then [bxv _ [vU 0, vU 0] 27] else []) ++ As))) _
          rw [d13]
          exact S32
        · intro L f20 w28 hL hd hc ⟨m26, L35, S33, K, hO⟩
          have d13 : L 13 = false := undep hc hL rfl
          replace S33 : St _ ((bx b3 [vU 0, vU 0] 27) :: (bx b2 [vU 0, vU 0] 27) :: (bx b1 [vU a3.1, vU a3.2] 27) :: ((bif L 11 then [bxv (f20 14) (bif L 13 then [vU x6.1.1, vU x6.1.2] else [vU 0, vU 0]) 27] else []) ++ ((bif L 12 then [bxv (f20 15) [vU 0, vU 0] 27] else []) ++ As))) _ := S33
          rw [d13] at S33
          obtain ⟨u20, rfl⟩ := fr_of (N := 89) (L := []) hO trivial
          replace S33 : St _ ((bx b3 [vU 0, vU 0] 27) :: (bx b2 [vU 0, vU 0] 27) :: (bx b1 [vU a3.1, vU a3.2] 27) :: ((bif L 11 then [bxv _ (bif false then [vU x6.1.1, vU x6.1.2] else [vU 0, vU 0]) 27] else []) ++ ((bif L 12 then [bxv _ [vU 0, vU 0] 27] else []) ++ As))) _ := S33
          have L36 := Mem.rfl' m26
          refine s_mvv (v := a4v0) rfl ?_
          refine wpn ?_
          refine ⟨m26, Mem.tr L35 L36, ?_, facts_step HM rfl K L36 rfl rfl rfl, outP⟩
          show St _ ((bx b3 [vU 0, vU 0] 27) :: (bx b2 [vU 0, vU 0] 27) :: (bx b1 [vU a3.1, vU a3.2] 27) :: ((bif L 11 then [bxv _ (bif L 13 then [vU x6.1.1, vU x6.1.2] else [vU 0, vU 0]) 27] else []) ++ ((bif L 12 then [bxv _ [vU 0, vU 0] 27] else []) ++ As))) _
          rw [d13]
          exact S33
        · intro L f21 w29 hL hd hc ⟨m27, L37, S34, K, hO⟩
          have d13 : L 13 = false := undep hc hL rfl
          replace S34 : St _ ((bx b3 [vU 0, vU 0] 27) :: (bx b2 [vU 0, vU 0] 27) :: (bx b1 [vU a3.1, vU a3.2] 27) :: ((bif L 11 then [bxv (f21 14) (bif L 13 then [vU x6.1.1, vU x6.1.2] else [vU 0, vU 0]) 27] else []) ++ ((bif L 12 then [bxv (f21 15) [vU 0, vU 0] 27] else []) ++ As))) _ := S34
          rw [d13] at S34
          obtain ⟨u21, rfl⟩ := fr_of (N := 89) (L := []) hO trivial
          replace S34 : St _ ((bx b3 [vU 0, vU 0] 27) :: (bx b2 [vU 0, vU 0] 27) :: (bx b1 [vU a3.1, vU a3.2] 27) :: ((bif L 11 then [bxv _ (bif false then [vU x6.1.1, vU x6.1.2] else [vU 0, vU 0]) 27] else []) ++ ((bif L 12 then [bxv _ [vU 0, vU 0] 27] else []) ++ As))) _ := S34
          have L38 := Mem.rfl' m27
          refine s_mvv (v := vI x1) rfl ?_
          refine wpn ?_
          refine ⟨m27, Mem.tr L37 L38, ?_, facts_step HM rfl K L38 rfl rfl rfl, outP⟩
          show St _ ((bx b3 [vU 0, vU 0] 27) :: (bx b2 [vU 0, vU 0] 27) :: (bx b1 [vU a3.1, vU a3.2] 27) :: ((bif L 11 then [bxv _ (bif L 13 then [vU x6.1.1, vU x6.1.2] else [vU 0, vU 0]) 27] else []) ++ ((bif L 12 then [bxv _ [vU 0, vU 0] 27] else []) ++ As))) _
          rw [d13]
          exact S34
        · intro L f22 w30 hL hd hc ⟨m28, L39, S35, K, hO⟩
          have d13 : L 13 = false := undep hc hL rfl
          have d4 : L 4 = true := dep hd rfl
          have e11 := K 4 d4
          have d5 : L 5 = true := dep hd rfl
          have e12 := K 5 d5
          replace S35 : St _ ((bx b3 [vU 0, vU 0] 27) :: (bx b2 [vU 0, vU 0] 27) :: (bx b1 [vU a3.1, vU a3.2] 27) :: ((bif L 11 then [bxv (f22 14) (bif L 13 then [vU x6.1.1, vU x6.1.2] else [vU 0, vU 0]) 27] else []) ++ ((bif L 12 then [bxv (f22 15) [vU 0, vU 0] 27] else []) ++ As))) _ := S35
          rw [d13] at S35
          obtain ⟨u22, rfl⟩ := fr_of (N := 89) (L := [(50, a4v0), (51, vI x1)]) hO ⟨e11, e12, trivial⟩
          replace S35 : St _ ((bx b3 [vU 0, vU 0] 27) :: (bx b2 [vU 0, vU 0] 27) :: (bx b1 [vU a3.1, vU a3.2] 27) :: ((bif L 11 then [bxv _ (bif false then [vU x6.1.1, vU x6.1.2] else [vU 0, vU 0]) 27] else []) ++ ((bif L 12 then [bxv _ [vU 0, vU 0] 27] else []) ++ As))) _ := S35
          replace a4h0 := a4h0.up L39
          have L40 := Mem.rfl' m28
          refine s_cut (ys := x5) (l := 0) (h := x1) rfl a4h0 Tryd.underlying22 Tryd.sizeOf27 (.inl ⟨rfl, rfl⟩) (.inr ⟨_, rfl⟩) (.inl rfl) q5 ?_
          intro v3 h6
          refine wpn ?_
          refine ⟨m28, Mem.tr L39 L40, ?_, facts_step HM rfl K L40 rfl rfl ⟨v3, rfl, h6⟩, outP⟩
          show St _ ((bx b3 [vU 0, vU 0] 27) :: (bx b2 [vU 0, vU 0] 27) :: (bx b1 [vU a3.1, vU a3.2] 27) :: ((bif L 11 then [bxv _ (bif L 13 then [vU x6.1.1, vU x6.1.2] else [vU 0, vU 0]) 27] else []) ++ ((bif L 12 then [bxv _ [vU 0, vU 0] 27] else []) ++ As))) _
          rw [d13]
          exact S35
        · intro L f23 w31 hL hd hc ⟨m29, L41, S36, K, hO⟩
          have d13 : L 13 = false := undep hc hL rfl
          have d0 : L 0 = true := dep hd rfl
          have e13 := K 0 d0
          have d1 : L 1 = true := dep hd rfl
          have e14 := K 1 d1
          have d2 : L 2 = true := dep hd rfl
          have e15 := K 2 d2
          have d3 : L 3 = true := dep hd rfl
          have e16 := K 3 d3
          have d6 : L 6 = true := dep hd rfl
          obtain ⟨v4, e17, h7⟩ := K 6 d6
          replace S36 : St _ ((bx b3 [vU 0, vU 0] 27) :: (bx b2 [vU 0, vU 0] 27) :: (bx b1 [vU a3.1, vU a3.2] 27) :: ((bif L 11 then [bxv (f23 14) (bif L 13 then [vU x6.1.1, vU x6.1.2] else [vU 0, vU 0]) 27] else []) ++ ((bif L 12 then [bxv (f23 15) [vU 0, vU 0] 27] else []) ++ As))) _ := S36
          rw [d13] at S36
          obtain ⟨u23, rfl⟩ := fr_of (N := 89) (L := [(46, vI a0), (47, vI x4), (48, vb a2), (49, .agg #[vU a3.1, vU a3.2]), (52, v4)]) hO ⟨e13, e14, e15, e16, e17, trivial⟩
          replace S36 : St _ ((bx b3 [vU 0, vU 0] 27) :: (bx b2 [vU 0, vU 0] 27) :: (bx b1 [vU a3.1, vU a3.2] 27) :: ((bif L 11 then [bxv _ (bif false then [vU x6.1.1, vU x6.1.2] else [vU 0, vU 0]) 27] else []) ++ ((bif L 12 then [bxv _ [vU 0, vU 0] 27] else []) ++ As))) _ := S36
          replace a4h0 := a4h0.up L41
          have L42 := Mem.rfl' m29
          refine s_call Tryd.call52 (ih (a0 := a0) (a1 := x4) (a2 := a2) (a3 := a3) (a4 := x5) S36 h7 q6) rfl ?_
          rintro _ w32 ⟨m30, l8, S37, rfl⟩
          replace a4h0 := a4h0.up l8
          replace h7 := h7.up l8
          replace L42 := Mem.tr L42 l8
          clear S36
          replace S37 : St _ ((bx b3 [vU 0, vU 0] 27) :: (bx b2 [vU 0, vU 0] 27) :: (bx b1 [vU a3.1, vU a3.2] 27) :: ((bif L 11 then [bxv _ (bif false then [vU x6.1.1, vU x6.1.2] else [vU 0, vU 0]) 27] else []) ++ ((bif L 12 then [bxv _ [vU 0, vU 0] 27] else []) ++ As))) _ := S37
          refine wpn ?_
          refine ⟨m30, Mem.tr L41 L42, ?_, facts_step HM rfl K L42 rfl rfl rfl, outP⟩
          show St _ ((bx b3 [vU 0, vU 0] 27) :: (bx b2 [vU 0, vU 0] 27) :: (bx b1 [vU a3.1, vU a3.2] 27) :: ((bif L 11 then [bxv _ (bif L 13 then [vU x6.1.1, vU x6.1.2] else [vU 0, vU 0]) 27] else []) ++ ((bif L 12 then [bxv _ [vU 0, vU 0] 27] else []) ++ As))) _
          rw [d13]
          exact S37
        · intro L f24 w33 hL hd hc ⟨m31, L43, S38, K, hO⟩
          have d13 : L 13 = false := undep hc hL rfl
          have d7 : L 7 = true := dep hd rfl
          have e18 := K 7 d7
          replace S38 : St _ ((bx b3 [vU 0, vU 0] 27) :: (bx b2 [vU 0, vU 0] 27) :: (bx b1 [vU a3.1, vU a3.2] 27) :: ((bif L 11 then [bxv (f24 14) (bif L 13 then [vU x6.1.1, vU x6.1.2] else [vU 0, vU 0]) 27] else []) ++ ((bif L 12 then [bxv (f24 15) [vU 0, vU 0] 27] else []) ++ As))) _ := S38
          rw [d13] at S38
          obtain ⟨u24, rfl⟩ := fr_of (N := 89) (L := [(53, .tuple #[.agg #[vU x6.1.1, vU x6.1.2], .agg #[vU x6.2.1, vU x6.2.2]])]) hO ⟨e18, trivial⟩
          replace S38 : St _ ((bx b3 [vU 0, vU 0] 27) :: (bx b2 [vU 0, vU 0] 27) :: (bx b1 [vU a3.1, vU a3.2] 27) :: ((bif L 11 then [bxv _ (bif false then [vU x6.1.1, vU x6.1.2] else [vU 0, vU 0]) 27] else []) ++ ((bif L 12 then [bxv _ [vU 0, vU 0] 27] else []) ++ As))) _ := S38
          have L44 := Mem.rfl' m31
          refine s_mvv (v := .tuple #[.agg #[vU x6.1.1, vU x6.1.2], .agg #[vU x6.2.1, vU x6.2.2]]) rfl ?_
          refine wpn ?_
          refine ⟨m31, Mem.tr L43 L44, ?_, facts_step HM rfl K L44 rfl rfl rfl, outP⟩
          show St _ ((bx b3 [vU 0, vU 0] 27) :: (bx b2 [vU 0, vU 0] 27) :: (bx b1 [vU a3.1, vU a3.2] 27) :: ((bif L 11 then [bxv _ (bif L 13 then [vU x6.1.1, vU x6.1.2] else [vU 0, vU 0]) 27] else []) ++ ((bif L 12 then [bxv _ [vU 0, vU 0] 27] else []) ++ As))) _
          rw [d13]
          exact S38
        · intro L f25 w34 hL hd hc ⟨m32, L45, S39, K, hO⟩
          have d13 : L 13 = false := undep hc hL rfl
          have d8 : L 8 = true := dep hd rfl
          have e19 := K 8 d8
          replace S39 : St _ ((bx b3 [vU 0, vU 0] 27) :: (bx b2 [vU 0, vU 0] 27) :: (bx b1 [vU a3.1, vU a3.2] 27) :: ((bif L 11 then [bxv (f25 14) (bif L 13 then [vU x6.1.1, vU x6.1.2] else [vU 0, vU 0]) 27] else []) ++ ((bif L 12 then [bxv (f25 15) [vU 0, vU 0] 27] else []) ++ As))) _ := S39
          rw [d13] at S39
          obtain ⟨u25, rfl⟩ := fr_of (N := 89) (L := [(45, .tuple #[.agg #[vU x6.1.1, vU x6.1.2], .agg #[vU x6.2.1, vU x6.2.2]])]) hO ⟨e19, trivial⟩
          replace S39 : St _ ((bx b3 [vU 0, vU 0] 27) :: (bx b2 [vU 0, vU 0] 27) :: (bx b1 [vU a3.1, vU a3.2] 27) :: ((bif L 11 then [bxv _ (bif false then [vU x6.1.1, vU x6.1.2] else [vU 0, vU 0]) 27] else []) ++ ((bif L 12 then [bxv _ [vU 0, vU 0] 27] else []) ++ As))) _ := S39
          have L46 := Mem.rfl' m32
          refine s_ext (i := 0) rfl rfl ?_
          refine wpn ?_
          refine ⟨m32, Mem.tr L45 L46, ?_, facts_step HM rfl K L46 rfl rfl rfl, outP⟩
          show St _ ((bx b3 [vU 0, vU 0] 27) :: (bx b2 [vU 0, vU 0] 27) :: (bx b1 [vU a3.1, vU a3.2] 27) :: ((bif L 11 then [bxv _ (bif L 13 then [vU x6.1.1, vU x6.1.2] else [vU 0, vU 0]) 27] else []) ++ ((bif L 12 then [bxv _ [vU 0, vU 0] 27] else []) ++ As))) _
          rw [d13]
          exact S39
        · intro L f26 w35 hL hd hc ⟨m33, L47, S40, K, hO⟩
          have d8 : L 8 = true := dep hd rfl
          have e20 := K 8 d8
          obtain ⟨u26, rfl⟩ := fr_of (N := 89) (L := [(45, .tuple #[.agg #[vU x6.1.1, vU x6.1.2], .agg #[vU x6.2.1, vU x6.2.2]])]) hO ⟨e20, trivial⟩
          replace S40 : St _ ((bx b3 [vU 0, vU 0] 27) :: (bx b2 [vU 0, vU 0] 27) :: (bx b1 [vU a3.1, vU a3.2] 27) :: ((bif L 11 then [bxv _ (bif L 13 then [vU x6.1.1, vU x6.1.2] else [vU 0, vU 0]) 27] else []) ++ ((bif L 12 then [bxv _ [vU 0, vU 0] 27] else []) ++ As))) _ := S40
          have L48 := Mem.rfl' m33
          refine s_ext (i := 1) rfl rfl ?_
          refine wpn ?_
          refine ⟨m33, Mem.tr L47 L48, ?_, facts_step HM rfl K L48 rfl rfl rfl, outP⟩
          exact S40
        · intro L f27 w36 hL hd hc ⟨m34, L49, S41, K, hO⟩
          have d11 : L 11 = false := hL
          have d13 : L 13 = false := undep hc hL rfl
          replace S41 : St _ ((bx b3 [vU 0, vU 0] 27) :: (bx b2 [vU 0, vU 0] 27) :: (bx b1 [vU a3.1, vU a3.2] 27) :: ((bif L 11 then [bxv (f27 14) (bif L 13 then [vU x6.1.1, vU x6.1.2] else [vU 0, vU 0]) 27] else []) ++ ((bif L 12 then [bxv (f27 15) [vU 0, vU 0] 27] else []) ++ As))) _ := S41
          rw [d11, d13] at S41
          obtain ⟨u27, rfl⟩ := fr_of (N := 89) (L := []) hO trivial
          replace S41 : St _ ((bx b3 [vU 0, vU 0] 27) :: (bx b2 [vU 0, vU 0] 27) :: (bx b1 [vU a3.1, vU a3.2] 27) :: ((bif L 12 then [bxv _ [vU 0, vU 0] 27] else []) ++ As)) _ := S41
          replace a4h0 := a4h0.up L49
          have L50 := Mem.rfl' m34
          refine s_alloc S41 Tryd.zeroValue27 ?_
          intro b4 w37 S42
          replace S42 : St _ ((bx b4 [vU 0, vU 0] 27) :: (bx b3 [vU 0, vU 0] 27) :: (bx b2 [vU 0, vU 0] 27) :: (bx b1 [vU a3.1, vU a3.2] 27) :: ((bif L 12 then [bxv _ [vU 0, vU 0] 27] else []) ++ As)) _ := S42
          clear S41
          refine wpn ?_
          refine ⟨m34, Mem.tr L49 L50, ?_, facts_step HM rfl K L50 rfl rfl ⟨b4, rfl⟩, outP⟩
          show St _ ((bx b3 [vU 0, vU 0] 27) :: (bx b2 [vU 0, vU 0] 27) :: (bx b1 [vU a3.1, vU a3.2] 27) :: ((bif true then [bxv _ (bif L 13 then [vU x6.1.1, vU x6.1.2] else [vU 0, vU 0]) 27] else []) ++ ((bif L 12 then [bxv _ [vU 0, vU 0] 27] else []) ++ As))) _
          rw [d13]
          have S65 : St _ ((bx b3 [vU 0, vU 0] 27) :: (bx b2 [vU 0, vU 0] 27) :: (bx b1 [vU a3.1, vU a3.2] 27) :: (bx b4 [vU 0, vU 0] 27) :: ((bif L 12 then [bxv _ [vU 0, vU 0] 27] else []) ++ As)) _ := St.perm S42 (List.Perm.trans (List.Perm.swap _ _ _) (List.Perm.trans (List.Perm.cons _ (List.Perm.swap _ _ _)) (List.Perm.cons _ (List.Perm.cons _ (List.Perm.swap _ _ _)))))
          exact S65
        · intro L f28 w38 hL hd hc ⟨m35, L51, S43, K, hO⟩
          have d12 : L 12 = false := hL
          have d13 : L 13 = false := undep hc hL rfl
          replace S43 : St _ ((bx b3 [vU 0, vU 0] 27) :: (bx b2 [vU 0, vU 0] 27) :: (bx b1 [vU a3.1, vU a3.2] 27) :: ((bif L 11 then [bxv (f28 14) (bif L 13 then [vU x6.1.1, vU x6.1.2] else [vU 0, vU 0]) 27] else []) ++ ((bif L 12 then [bxv (f28 15) [vU 0, vU 0] 27] else []) ++ As))) _ := S43
          rw [d12, d13] at S43
          obtain ⟨u28, rfl⟩ := fr_of (N := 89) (L := []) hO trivial
          replace S43 : St _ ((bx b3 [vU 0, vU 0] 27) :: (bx b2 [vU 0, vU 0] 27) :: (bx b1 [vU a3.1, vU a3.2] 27) :: ((bif L 11 then [bxv _ (bif false then [vU x6.1.1, vU x6.1.2] else [vU 0, vU 0]) 27] else []) ++ As)) _ := S43
          replace a4h0 := a4h0.up L51
          have L52 := Mem.rfl' m35
          refine s_alloc S43 Tryd.zeroValue27 ?_
          intro b5 w39 S44
          replace S44 : St _ ((bx b5 [vU 0, vU 0] 27) :: (bx b3 [vU 0, vU 0] 27) :: (bx b2 [vU 0, vU 0] 27) :: (bx b1 [vU a3.1, vU a3.2] 27) :: ((bif L 11 then [bxv _ (bif false then [vU x6.1.1, vU x6.1.2] else [vU 0, vU 0]) 27] else []) ++ As)) _ := S44
          clear S43
          refine wpn ?_
          refine ⟨m35, Mem.tr L51 L52, ?_, facts_step HM rfl K L52 rfl rfl ⟨b5, rfl⟩, outP⟩
          show St _ ((bx b3 [vU 0, vU 0] 27) :: (bx b2 [vU 0, vU 0] 27) :: (bx b1 [vU a3.1, vU a3.2] 27) :: ((bif L 11 then [bxv _ (bif L 13 then [vU x6.1.1, vU x6.1.2] else [vU 0, vU 0]) 27] else []) ++ ((bif true then [bxv _ [vU 0, vU 0] 27] else []) ++ As))) _
          rw [d13]
          have S66 : St _ ((bx b3 [vU 0, vU 0] 27) :: (bx b2 [vU 0, vU 0] 27) :: (bx b1 [vU a3.1, vU a3.2] 27) :: (bx b5 [vU 0, vU 0] 27) :: ((bif L 11 then [bxv _ (bif false then [vU x6.1.1, vU x6.1.2] else [vU 0, vU 0]) 27] else []) ++ As)) _ := St.perm S44 (List.Perm.trans (List.Perm.swap _ _ _) (List.Perm.trans (List.Perm.cons _ (List.Perm.swap _ _ _)) (List.Perm.cons _ (List.Perm.cons _ (List.Perm.swap _ _ _)))))
          have S66s := St.sw (L := [bx b3 [vU 0, vU 0] 27, bx b2 [vU 0, vU 0] 27, bx b1 [vU a3.1, vU a3.2] 27]) (X := [bx b5 [vU 0, vU 0] 27]) (Y := (bif L 11 then [bxv _ (bif false then [vU x6.1.1, vU x6.1.2] else [vU 0, vU 0]) 27] else [])) (As := As) S66
          exact S66s
        · intro L f29 w40 hL hd hc ⟨m36, L53, S45, K, hO⟩
          have d11 : L 11 = true := dep hd rfl
          have d12 : L 12 = true := dep hd rfl
          have d13 : L 13 = false := hL
          obtain ⟨b6, e21⟩ := K 11 d11
          obtain ⟨b7, e22⟩ := K 12 d12
          have d9 : L 9 = true := dep hd rfl
          have e23 := K 9 d9
          replace S45 : St _ ((bx b3 [vU 0, vU 0] 27) :: (bx b2 [vU 0, vU 0] 27) :: (bx b1 [vU a3.1, vU a3.2] 27) :: ((bif L 11 then [bxv (f29 14) (bif L 13 then [vU x6.1.1, vU x6.1.2] else [vU 0, vU 0]) 27] else []) ++ ((bif L 12 then [bxv (f29 15) [vU 0, vU 0] 27] else []) ++ As))) _ := S45
          rw [d11, d12, d13] at S45
          obtain ⟨u29, rfl⟩ := fr_of (N := 89) (L := [(14, pt b6 0), (15, pt b7 0), (54, .agg #[vU x6.1.1, vU x6.1.2])]) hO ⟨e21, e22, e23, trivial⟩
          replace S45 : St _ ((bx b3 [vU 0, vU 0] 27) :: (bx b2 [vU 0, vU 0] 27) :: (bx b1 [vU a3.1, vU a3.2] 27) :: (bx b6 [vU 0, vU 0] 27) :: (bx b7 [vU 0, vU 0] 27) :: As) _ := S45
          replace a4h0 := a4h0.up L53
          have L54 := Mem.rfl' m36
          refine s_stL (i := 3) S45 rfl rfl rfl Tryd.sizeOf27 (oneC rfl (oneC rfl oneN)) rfl ?_
          intro w41 S46
          replace S46 : St _ ((bx b3 [vU 0, vU 0] 27) :: (bx b2 [vU 0, vU 0] 27) :: (bx b1 [vU a3.1, vU a3.2] 27) :: (bx b6 [vU x6.1.1, vU x6.1.2] 27) :: (bx b7 [vU 0, vU 0] 27) :: As) _ := S46
          clear S45
          refine wpn ?_
          refine ⟨m36, Mem.tr L53 L54, ?_, facts_none HM K L54 rfl (fun _ => trivial), outP⟩
          show St _ ((bx b3 [vU 0, vU 0] 27) :: (bx b2 [vU 0, vU 0] 27) :: (bx b1 [vU a3.1, vU a3.2] 27) :: ((bif L 11 then [bxv _ (bif true then [vU x6.1.1, vU x6.1.2] else [vU 0, vU 0]) 27] else []) ++ ((bif L 12 then [bxv _ [vU 0, vU 0] 27] else []) ++ As))) _
          rw [d11, d12]
          exact S46
      intro L f30 w42 hall ⟨m37, L55, S47, K, hO⟩
      have d11 : L 11 = true := hall 11 (by decide)
      have d12 : L 12 = true := hall 12 (by decide)
      have d13 : L 13 = true := hall 13 (by decide)
      obtain ⟨b8, e24⟩ := K 11 d11
      obtain ⟨b9, e25⟩ := K 12 d12
      have d10 : L 10 = true := hall 10 (by decide)
      have e26 := K 10 d10
      replace S47 : St _ ((bx b3 [vU 0, vU 0] 27) :: (bx b2 [vU 0, vU 0] 27) :: (bx b1 [vU a3.1, vU a3.2] 27) :: ((bif L 11 then [bxv (f30 14) (bif L 13 then [vU x6.1.1, vU x6.1.2] else [vU 0, vU 0]) 27] else []) ++ ((bif L 12 then [bxv (f30 15) [vU 0, vU 0] 27] else []) ++ As))) _ := S47
      rw [d11, d12, d13] at S47
      obtain ⟨u30, rfl⟩ := fr_of (N := 89) (L := [(14, pt b8 0), (15, pt b9 0), (55, .agg #[vU x6.2.1, vU x6.2.2])]) hO ⟨e24, e25, e26, trivial⟩
      replace S47 : St _ ((bx b3 [vU 0, vU 0] 27) :: (bx b2 [vU 0, vU 0] 27) :: (bx b1 [vU a3.1, vU a3.2] 27) :: (bx b8 [vU x6.1.1, vU x6.1.2] 27) :: (bx b9 [vU 0, vU 0] 27) :: As) _ := S47
      replace a4h0 := a4h0.up L55
      replace L0 := Mem.tr L0 L55
      clear S28
      refine s_stL (i := 4) S47 rfl rfl rfl Tryd.sizeOf27 (oneC rfl (oneC rfl oneN)) rfl ?_
      intro w43 S48
      replace S48 : St _ ((bx b3 [vU 0, vU 0] 27) :: (bx b2 [vU 0, vU 0] 27) :: (bx b1 [vU a3.1, vU a3.2] 27) :: (bx b8 [vU x6.1.1, vU x6.1.2] 27) :: (bx b9 [vU x6.2.1, vU x6.2.2] 27) :: As) _ := S48
      clear S47
      refine wpl_nil ?_
      refine nrm ?_
      refine wpc_seq ?_
      obtain ⟨x7, q7, hm⟩ := obind_some hm
      obtain ⟨x8, q8, hm⟩ := obind_some hm
      have HM : MonoAll [(56, fun (M : Mem) (v : Value) => v = .agg #[vU x6.1.1, vU x6.1.2]), (57, fun (M : Mem) (v : Value) => v = .agg #[vU x6.2.1, vU x6.2.2]), (58, fun (M : Mem) (v : Value) => v = a4v0), (59, fun (M : Mem) (v : Value) => v = vI x1), (60, fun (M : Mem) (v : Value) => ∃ (p3 : Value), v = p3 ∧ PtC M p3 [vU x7.1, vU x7.2]), (61, fun (M : Mem) (v : Value) => v = .agg #[vU x7.1, vU x7.2]), (62, fun (M : Mem) (v : Value) => v = .agg #[vU x8.1, vU x8.2])] := ⟨(fun _ _ _ _ h => h), (fun _ _ _ _ h => h), (fun _ _ _ _ h => h), (fun _ _ _ _ h => h), (fun _ _ _ l ⟨p3, e, h8⟩ => ⟨p3, e, h8.up l⟩), (fun _ _ _ _ h => h), (fun _ _ _ _ h => h), trivial⟩
      refine wpc_flowG HM 7 mixed rfl rfl rfl [56, 57, 58, 59, 60, 61, 62] (fun L f M w => St M ((bx b3 [vU 0, vU 0] 27) :: (bx b2 [vU 0, vU 0] 27) :: (bx b1 [vU a3.1, vU a3.2] 27) :: (bx b8 [vU x6.1.1, vU x6.1.2] 27) :: (bx b9 [vU x6.2.1, vU x6.2.2] 27) :: As) w) (St.drew S48 _) ?_ ?_
      · refine ⟨?_, ?_, ?_, ?_, ?_, ?_, ?_, trivial⟩
        · intro L f31 w44 hL hd hc ⟨m38, L56, S49, K, hO⟩
          obtain ⟨u31, rfl⟩ := fr_of (N := 89) (L := []) hO trivial
          replace S49 : St _ ((bx b3 [vU 0, vU 0] 27) :: (bx b2 [vU 0, vU 0] 27) :: (bx b1 [vU a3.1, vU a3.2] 27) :: (bx b8 [vU x6.1.1, vU x6.1.2] 27) :: (bx b9 [vU x6.2.1, vU x6.2.2] 27) :: As) _ := S49
          replace a4h0 := a4h0.up L56
          have L57 := Mem.rfl' m38
          refine s_ld (i := 3) (cs := [vU x6.1.1, vU x6.1.2]) S49 rfl rfl Tryd.isAgg27 Tryd.sizeOf27 rfl (fun h => by cases h) ?_
          refine wpn ?_
          refine ⟨m38, Mem.tr L56 L57, ?_, facts_step HM rfl K L57 rfl rfl rfl, outP⟩
          exact S49
        · intro L f32 w45 hL hd hc ⟨m39, L58, S50, K, hO⟩
          obtain ⟨u32, rfl⟩ := fr_of (N := 89) (L := []) hO trivial
          replace S50 : St _ ((bx b3 [vU 0, vU 0] 27) :: (bx b2 [vU 0, vU 0] 27) :: (bx b1 [vU a3.1, vU a3.2] 27) :: (bx b8 [vU x6.1.1, vU x6.1.2] 27) :: (bx b9 [vU x6.2.1, vU x6.2.2] 27) :: As) _ := S50
          replace a4h0 := a4h0.up L58
          have L59 := Mem.rfl' m39
          refine s_ld (i := 4) (cs := [vU x6.2.1, vU x6.2.2]) S50 rfl rfl Tryd.isAgg27 Tryd.sizeOf27 rfl (fun h => by cases h) ?_
          refine wpn ?_
          refine ⟨m39, Mem.tr L58 L59, ?_, facts_step HM rfl K L59 rfl rfl rfl, outP⟩
          exact S50
        · intro L f33 w46 hL hd hc ⟨m40, L60, S51, K, hO⟩
          obtain ⟨u33, rfl⟩ := fr_of (N := 89) (L := []) hO trivial
          replace S51 : St _ ((bx b3 [vU 0, vU 0] 27) :: (bx b2 [vU 0, vU 0] 27) :: (bx b1 [vU a3.1, vU a3.2] 27) :: (bx b8 [vU x6.1.1, vU x6.1.2] 27) :: (bx b9 [vU x6.2.1, vU x6.2.2] 27) :: As) _ := S51
          have L61 := Mem.rfl' m40
          refine s_mvv (v := a4v0) rfl ?_
          refine wpn ?_
          refine ⟨m40, Mem.tr L60 L61, ?_, facts_step HM rfl K L61 rfl rfl rfl, outP⟩
          exact S51
        · intro L f34 w47 hL hd hc ⟨m41, L62, S52, K, hO⟩
          obtain ⟨u34, rfl⟩ := fr_of (N := 89) (L := []) hO trivial
          replace S52 : St _ ((bx b3 [vU 0, vU 0] 27) :: (bx b2 [vU 0, vU 0] 27) :: (bx b1 [vU a3.1, vU a3.2] 27) :: (bx b8 [vU x6.1.1, vU x6.1.2] 27) :: (bx b9 [vU x6.2.1, vU x6.2.2] 27) :: As) _ := S52
          have L63 := Mem.rfl' m41
          refine s_mvv (v := vI x1) rfl ?_
          refine wpn ?_
          refine ⟨m41, Mem.tr L62 L63, ?_, facts_step HM rfl K L63 rfl rfl rfl, outP⟩
          exact S52
        · intro L f35 w48 hL hd hc ⟨m42, L64, S53, K, hO⟩
          have d2 : L 2 = true := dep hd rfl
          have e27 := K 2 d2
          have d3 : L 3 = true := dep hd rfl
          have e28 := K 3 d3
          obtain ⟨u35, rfl⟩ := fr_of (N := 89) (L := [(58, a4v0), (59, vI x1)]) hO ⟨e27, e28, trivial⟩
          replace S53 : St _ ((bx b3 [vU 0, vU 0] 27) :: (bx b2 [vU 0, vU 0] 27) :: (bx b1 [vU a3.1, vU a3.2] 27) :: (bx b8 [vU x6.1.1, vU x6.1.2] 27) :: (bx b9 [vU x6.2.1, vU x6.2.2] 27) :: As) _ := S53
          replace a4h0 := a4h0.up L64
          have L65 := Mem.rfl' m42
          refine s_idx (q := x7) rfl rfl a4h0 q7 Tryd.underlying22 Tryd.sizeOf27 ?_
          intro p3 c3 h8 r3
          obtain rfl := rep_arr2_UInt64 r3
          refine wpn ?_
          refine ⟨m42, Mem.tr L64 L65, ?_, facts_step HM rfl K L65 rfl rfl ⟨p3, rfl, h8⟩, outP⟩
          exact S53
        · intro L f36 w49 hL hd hc ⟨m43, L66, S54, K, hO⟩
          have d4 : L 4 = true := dep hd rfl
          obtain ⟨v5, e29, h9⟩ := K 4 d4
          obtain ⟨u36, rfl⟩ := fr_of (N := 89) (L := [(60, v5)]) hO ⟨e29, trivial⟩
          replace S54 : St _ ((bx b3 [vU 0, vU 0] 27) :: (bx b2 [vU 0, vU 0] 27) :: (bx b1 [vU a3.1, vU a3.2] 27) :: (bx b8 [vU x6.1.1, vU x6.1.2] 27) :: (bx b9 [vU x6.2.1, vU x6.2.2] 27) :: As) _ := S54
          replace a4h0 := a4h0.up L66
          have L67 := Mem.rfl' m43
          refine s_ldM (cs := [vU x7.1, vU x7.2]) S54 rfl h9 rfl Tryd.isAgg27 Tryd.sizeOf27 (fun h => by cases h) ?_
          refine wpn ?_
          refine ⟨m43, Mem.tr L66 L67, ?_, facts_step HM rfl K L67 rfl rfl rfl, outP⟩
          exact S54
        · intro L f37 w50 hL hd hc ⟨m44, L68, S55, K, hO⟩
          have d1 : L 1 = true := dep hd rfl
          have e30 := K 1 d1
          have d5 : L 5 = true := dep hd rfl
          have e31 := K 5 d5
          obtain ⟨u37, rfl⟩ := fr_of (N := 89) (L := [(57, .agg #[vU x6.2.1, vU x6.2.2]), (61, .agg #[vU x7.1, vU x7.2])]) hO ⟨e30, e31, trivial⟩
          replace S55 : St _ ((bx b3 [vU 0, vU 0] 27) :: (bx b2 [vU 0, vU 0] 27) :: (bx b1 [vU a3.1, vU a3.2] 27) :: (bx b8 [vU x6.1.1, vU x6.1.2] 27) :: (bx b9 [vU x6.2.1, vU x6.2.2] 27) :: As) _ := S55
          replace a4h0 := a4h0.up L68
          have L69 := Mem.rfl' m44
          refine s_call Tryd.call36 (w_ref02_Pair (a0 := x6.2) (a1 := x7) S55  q8) rfl ?_
          rintro _ w51 ⟨m45, l9, S56, rfl⟩
          replace a4h0 := a4h0.up l9
          replace L69 := Mem.tr L69 l9
          clear S55
          replace S56 : St _ ((bx b3 [vU 0, vU 0] 27) :: (bx b2 [vU 0, vU 0] 27) :: (bx b1 [vU a3.1, vU a3.2] 27) :: (bx b8 [vU x6.1.1, vU x6.1.2] 27) :: (bx b9 [vU x6.2.1, vU x6.2.2] 27) :: As) _ := S56
          refine wpn ?_
          refine ⟨m45, Mem.tr L68 L69, ?_, facts_step HM rfl K L69 rfl rfl rfl, outP⟩
          exact S56
      intro L f38 w52 hall ⟨m46, L70, S57, K, hO⟩
      have d0 : L 0 = true := hall 0 (by decide)
      have e32 := K 0 d0
      have d6 : L 6 = true := hall 6 (by decide)
      have e33 := K 6 d6
      obtain ⟨u38, rfl⟩ := fr_of (N := 89) (L := [(56, .agg #[vU x6.1.1, vU x6.1.2]), (62, .agg #[vU x8.1, vU x8.2])]) hO ⟨e32, e33, trivial⟩
      replace S57 : St _ ((bx b3 [vU 0, vU 0] 27) :: (bx b2 [vU 0, vU 0] 27) :: (bx b1 [vU a3.1, vU a3.2] 27) :: (bx b8 [vU x6.1.1, vU x6.1.2] 27) :: (bx b9 [vU x6.2.1, vU x6.2.2] 27) :: As) _ := S57
      replace a4h0 := a4h0.up L70
      replace L0 := Mem.tr L0 L70
      clear S48
      refine s_stL (i := 1) S57 rfl rfl rfl Tryd.sizeOf27 (oneC rfl (oneC rfl oneN)) rfl ?_
      intro w53 S58
      replace S58 : St _ ((bx b3 [vU 0, vU 0] 27) :: (bx b2 [vU x6.1.1, vU x6.1.2] 27) :: (bx b1 [vU a3.1, vU a3.2] 27) :: (bx b8 [vU x6.1.1, vU x6.1.2] 27) :: (bx b9 [vU x6.2.1, vU x6.2.2] 27) :: As) _ := S58
      clear S57
      refine s_stL (i := 0) S58 rfl rfl rfl Tryd.sizeOf27 (oneC rfl (oneC rfl oneN)) rfl ?_
      intro w54 S59
      replace S59 : St _ ((bx b3 [vU x8.1, vU x8.2] 27) :: (bx b2 [vU x6.1.1, vU x6.1.2] 27) :: (bx b1 [vU a3.1, vU a3.2] 27) :: (bx b8 [vU x6.1.1, vU x6.1.2] 27) :: (bx b9 [vU x6.2.1, vU x6.2.2] 27) :: As) _ := S59
      clear S58
      refine wpl_nil ?_
      refine nrm ?_
      refine wpc_ret ?_
      refine thR ?_
      refine outRw ?_
      intro we hpd
      replace S59 := St.pd S59 hpd
      have SR := S59
      obtain ⟨m47, l10, S60⟩ := St.drop S59 0
      replace L0 := Mem.tr L0 l10
      replace S60 : St _ ((bx b2 [vU x6.1.1, vU x6.1.2] 27) :: (bx b1 [vU a3.1, vU a3.2] 27) :: (bx b8 [vU x6.1.1, vU x6.1.2] 27) :: (bx b9 [vU x6.2.1, vU x6.2.2] 27) :: As) _ := S60
      obtain ⟨m48, l11, S61⟩ := St.drop S60 0
      replace L0 := Mem.tr L0 l11
      clear S60
      replace S61 : St _ ((bx b1 [vU a3.1, vU a3.2] 27) :: (bx b8 [vU x6.1.1, vU x6.1.2] 27) :: (bx b9 [vU x6.2.1, vU x6.2.2] 27) :: As) _ := S61
      obtain ⟨m49, l12, S62⟩ := St.drop S61 0
      replace L0 := Mem.tr L0 l12
      clear S61
      replace S62 : St _ ((bx b8 [vU x6.1.1, vU x6.1.2] 27) :: (bx b9 [vU x6.2.1, vU x6.2.2] 27) :: As) _ := S62
      obtain ⟨m50, l13, S63⟩ := St.drop S62 0
      replace L0 := Mem.tr L0 l13
      clear S62
      replace S63 : St _ ((bx b9 [vU x6.2.1, vU x6.2.2] 27) :: As) _ := S63
      obtain ⟨m51, l14, S64⟩ := St.drop S63 0
      replace L0 := Mem.tr L0 l14
      clear S63
      replace S64 : St _ (As) _ := S64
      have e0 := Option.some.inj hm
      subst e0
      exact outR [_, _] rfl ⟨res_box (i := 1) (off := 0) (cs := [vU x6.1.1, vU x6.1.2]) SR rfl rfl Tryd.isAgg27 Tryd.sizeOf27 rfl (fun h => by cases h), res_box (i := 0) (off := 0) (cs := [vU x8.1, vU x8.2]) SR rfl rfl Tryd.isAgg27 Tryd.sizeOf27 rfl (fun h => by cases h), trivial⟩ ⟨_, L0, S64, rfl⟩
    replace hm := ifF hc3 hm
    refine wpc_skip ?_
    refine nrm ?_
    refine wpc_seq ?_
    obtain ⟨x9, q9, hm⟩ := obind_some hm
    obtain ⟨x10, q10, hm⟩ := obind_some hm
    have HM : MonoAll [(64, fun (M : Mem) (v : Value) => v = vI a0), (65, fun (M : Mem) (v : Value) => v = vI x4), (66, fun (M : Mem) (v : Value) => v = vI (w64 (a0 - x4))), (67, fun (M : Mem) (v : Value) => v = vI a1), (68, fun (M : Mem) (v : Value) => v = vI x4), (69, fun (M : Mem) (v : Value) => v = vI (w64 (a1 - x4))), (70, fun (M : Mem) (v : Value) => v = .agg #[vU a3.1, vU a3.2]), (71, fun (M : Mem) (v : Value) => v = a4v0), (72, fun (M : Mem) (v : Value) => v = vI x1), (73, fun (M : Mem) (v : Value) => ∃ (v6 : Value), v = v6 ∧ SlR M v6 x9), (74, fun (M : Mem) (v : Value) => v = .tuple #[.agg #[vU x10.1.1, vU x10.1.2], .agg #[vU x10.2.1, vU x10.2.2]]), (63, fun (M : Mem) (v : Value) => v = .tuple #[.agg #[vU x10.1.1, vU x10.1.2], .agg #[vU x10.2.1, vU x10.2.2]]), (75, fun (M : Mem) (v : Value) => v = .agg #[vU x10.1.1, vU x10.1.2]), (76, fun (M : Mem) (v : Value) => v = .agg #[vU x10.2.1, vU x10.2.2]), (16, fun (M : Mem) (v : Value) => ∃ (b10 : Nat), v = pt b10 0), (17, fun (M : Mem) (v : Value) => ∃ (b11 : Nat), v = pt b11 0), (100016, fun _ _ => True)] := ⟨(fun _ _ _ _ h => h), (fun _ _ _ _ h => h), (fun _ _ _ _ h => h), (fun _ _ _ _ h => h), (fun _ _ _ _ h => h), (fun _ _ _ _ h => h), (fun _ _ _ _ h => h), (fun _ _ _ _ h => h), (fun _ _ _ _ h => h), (fun _ _ _ l ⟨v6, e, h10⟩ => ⟨v6, e, h10.up l⟩), (fun _ _ _ _ h => h), (fun _ _ _ _ h => h), (fun _ _ _ _ h => h), (fun _ _ _ _ h => h), (fun _ _ _ _ h => h), (fun _ _ _ _ h => h), (fun _ _ _ _ h => h), trivial⟩
    refine wpc_flowG HM 17 mixed rfl rfl rfl [16, 17, 63, 64, 65, 66, 67, 68, 69, 70, 71, 72, 73, 74, 75, 76] (fun L f M w => St M ((bx b3 [vU 0, vU 0] 27) :: (bx b2 [vU 0, vU 0] 27) :: (bx b1 [vU a3.1, vU a3.2] 27) :: ((bif L 14 then [bxv (f 16) (bif L 16 then [vU x10.1.1, vU x10.1.2] else [vU 0, vU 0]) 27] else []) ++ ((bif L 15 then [bxv (f 17) [vU 0, vU 0] 27] else []) ++ As))) w) (St.drew S28 _) ?_ ?_
    · refine ⟨?_, ?_, ?_, ?_, ?_, ?_, ?_, ?_, ?_, ?_, ?_, ?_, ?_, ?_, ?_, ?_, ?_, trivial⟩
      · intro L f39 w55 hL hd hc ⟨m52, L71, S67, K, hO⟩
        have d16 : L 16 = false := undep hc hL rfl
        replace S67 : St _ ((bx b3 [vU 0, vU 0] 27) :: (bx b2 [vU 0, vU 0] 27) :: (bx b1 [vU a3.1, vU a3.2] 27) :: ((bif L 14 then [bxv (f39 16) (bif L 16 then [vU x10.1.1, vU x10.1.2] else [vU 0, vU 0]) 27] else []) ++ ((bif L 15 then [bxv (f39 17) [vU 0, vU 0] 27] else []) ++ As))) _ := S67
        rw [d16] at S67
        obtain ⟨u39, rfl⟩ := fr_of (N := 89) (L := []) hO trivial
        replace S67 : St _ ((bx b3 [vU 0, vU 0] 27) :: (bx b2 [vU 0, vU 0] 27) :: (bx b1 [vU a3.1, vU a3.2] 27) :: ((bif L 14 then [bxv _ (bif false then [vU x10.1.1, vU x10.1.2] else [vU 0, vU 0]) 27] else []) ++ ((bif L 15 then [bxv _ [vU 0, vU 0] 27] else []) ++ As))) _ := S67
        have L72 := Mem.rfl' m52
        refine s_mvv (v := vI a0) rfl ?_
        refine wpn ?_
        refine ⟨m52, Mem.tr L71 L72, ?_, facts_step HM rfl K L72 rfl rfl rfl, outP⟩
        show St _ ((bx b3 [vU 0, vU 0] 27) :: (bx b2 [vU 0, vU 0] 27) :: (bx b1 [vU a3.1, vU a3.2] 27) :: ((bif L 14 then [bxv _ (bif L 16 then [vU x10.1.1, vU x10.1.2] else [vU 0, vU 0]) 27] else []) ++ ((bif L 15 then [bxv _ [vU 0, vU 0] 27] else []) ++ As))) _
        rw [d16]
        exact S67
      · intro L f40 w56 hL hd hc ⟨m53, L73, S68, K, hO⟩
        have d16 : L 16 = false := undep hc hL rfl
        replace S68 : St _ ((bx b3 [vU 0, vU 0] 27) :: (bx b2 [vU 0, vU 0] 27) :: (bx b1 [vU a3.1, vU a3.2] 27) :: ((bif L 14 then [bxv (f40 16) (bif L 16 then [vU x10.1.1, vU x10.1.2] else [vU 0, vU 0]) 27] else []) ++ ((bif L 15 then [bxv (f40 17) [vU 0, vU 0] 27] else []) ++ As))) _ := S68
        rw [d16] at S68
        obtain ⟨u40, rfl⟩ := fr_of (N := 89) (L := []) hO trivial
        replace S68 : St _ ((bx b3 [vU 0, vU 0] 27) :: (bx b2 [vU 0, vU 0] 27) :: (bx b1 [vU a3.1, vU a3.2] 27) :: ((bif L 14 then [bxv _ (bif false then [vU x10.1.1, vU x10.1.2] else [vU 0, vU 0]) 27] else []) ++ ((bif L 15 then [bxv _ [vU 0, vU 0] 27] else []) ++ As))) _ := S68
        have L74 := Mem.rfl' m53
        refine s_mvv (v := vI x4) rfl ?_
        refine wpn ?_
        refine ⟨m53, Mem.tr L73 L74, ?_, facts_step HM rfl K L74 rfl rfl rfl, outP⟩
        show St _ ((bx b3 [vU 0, vU 0] 27) :: (bx b2 [vU 0, vU 0] 27) :: (bx b1 [vU a3.1, vU a3.2] 27) :: ((bif L 14 then [bxv _ (bif L 16 then [vU x10.1.1, vU x10.1.2] else [vU 0, vU 0]) 27] else []) ++ ((bif L 15 then [bxv _ [vU 0, vU 0] 27] else []) ++ As))) _
        rw [d16]
        exact S68
      · intro L f41 w57 hL hd hc ⟨m54, L75, S69, K, hO⟩
        have d16 : L 16 = false := undep hc hL rfl
        have d0 : L 0 = true := dep hd rfl
        have e34 := K 0 d0
        have d1 : L 1 = true := dep hd rfl
        have e35 := K 1 d1
        replace S69 : St _ ((bx b3 [vU 0, vU 0] 27) :: (bx b2 [vU 0, vU 0] 27) :: (bx b1 [vU a3.1, vU a3.2] 27) :: ((bif L 14 then [bxv (f41 16) (bif L 16 then [vU x10.1.1, vU x10.1.2] else [vU 0, vU 0]) 27] else []) ++ ((bif L 15 then [bxv (f41 17) [vU 0, vU 0] 27] else []) ++ As))) _ := S69
        rw [d16] at S69
        obtain ⟨u41, rfl⟩ := fr_of (N := 89) (L := [(64, vI a0), (65, vI x4)]) hO ⟨e34, e35, trivial⟩
        replace S69 : St _ ((bx b3 [vU 0, vU 0] 27) :: (bx b2 [vU 0, vU 0] 27) :: (bx b1 [vU a3.1, vU a3.2] 27) :: ((bif L 14 then [bxv _ (bif false then [vU x10.1.1, vU x10.1.2] else [vU 0, vU 0]) 27] else []) ++ ((bif L 15 then [bxv _ [vU 0, vU 0] 27] else []) ++ As))) _ := S69
        have L76 := Mem.rfl' m54
        refine s_subI (m := a0) (n := x4) rfl rfl ?_
        refine wpn ?_
        refine ⟨m54, Mem.tr L75 L76, ?_, facts_step HM rfl K L76 rfl rfl rfl, outP⟩
        show St _ ((bx b3 [vU 0, vU 0] 27) :: (bx b2 [vU 0, vU 0] 27) :: (bx b1 [vU a3.1, vU a3.2] 27) :: ((bif L 14 then [bxv _ (bif L 16 then [vU x10.1.1, vU x10.1.2] else [vU 0, vU 0]) 27] else []) ++ ((bif L 15 then [bxv _ [vU 0, vU 0] 27] else []) ++ As))) _
        rw [d16]
        exact S69
      · intro L f42 w58 hL hd hc ⟨m55, L77, S70, K, hO⟩
        have d16 : L 16 = false := undep hc hL rfl
        replace S70 : St _ ((bx b3 [vU 0, vU 0] 27) :: (bx b2 [vU 0, vU 0] 27) :: (bx b1 [vU a3.1, vU a3.2] 27) :: ((bif L 14 then [bxv (f42 16) (bif L 16 then [vU x10.1.1, vU x10.1.2] else [vU 0, vU 0]) 27] else []) ++ ((bif L 15 then [bxv (f42 17) [vU 0, vU 0] 27] else []) ++ As))) _ := S70
        rw [d16] at S70
        obtain ⟨u42, rfl⟩ := fr_of (N := 89) (L := []) hO trivial
        replace S70 : St _ ((bx b3 [vU 0, vU 0] 27) :: (bx b2 [vU 0, vU 0] 27) :: (bx b1 [vU a3.1, vU a3.2] 27) :: ((bif L 14 then [bxv _ (bif false then [vU x10.1.1, vU x10.1.2] else [vU 0, vU 0]) 27] else []) ++ ((bif L 15 then [bxv _ [vU 0, vU 0] 27] else []) ++ As))) _ := S70
        have L78 := Mem.rfl' m55
        refine s_mvv (v := vI a1) rfl ?_
        refine wpn ?_
        refine ⟨m55, Mem.tr L77 L78, ?_, facts_step HM rfl K L78 rfl rfl rfl, outP⟩
        show St _ ((bx b3 [vU 0, vU 0] 27) :: (bx b2 [vU 0, vU 0] 27) :: (bx b1 [vU a3.1, vU a3.2] 27) :: ((bif L 14 then [bxv _ (bif L 16 then [vU x10.1.1, vU x10.1.2] else [vU 0, vU 0]) 27] else []) ++ ((bif L 15 then [bxv _ [vU 0, vU 0] 27] else []) ++ As))) _
        rw [d16]
        exact S70
      · intro L f43 w59 hL hd hc ⟨m56, L79, S71, K, hO⟩
        have d16 : L 16 = false := undep hc hL rfl
        replace S71 : St _ ((bx b3 [vU 0, vU 0] 27) :: (bx b2 [vU 0, vU 0] 27) :: (bx b1 [vU a3.1, vU a3.2] 27) :: ((bif L 14 then [bxv (f43 16) (bif L 16 then [vU x10.1.1, vU x10.1.2] else [vU 0, vU 0]) 27] else []) ++ ((bif L 15 then [bxv (f43 17) [vU 0, vU 0] 27] else []) ++ As))) _ := S71
        rw [d16] at S71
        obtain ⟨u43, rfl⟩ := fr_of (N := 89) (L := []) hO trivial
        replace S71 : St _ ((bx b3 [vU 0, vU 0] 27) :: (bx b2 [vU 0, vU 0] 27) :: (bx b1 [vU a3.1, vU a3.2] 27) :: ((bif L 14 then [bxv _ (bif false then [vU x10.1.1, vU x10.1.2] else [vU 0, vU 0]) 27] else []) ++ ((bif L 15 then [bxv _ [vU 0, vU 0] 27] else []) ++ As))) _ := S71
        have L80 := Mem.rfl' m56
        refine s_mvv (v := vI x4) rfl ?_
        refine wpn ?_
        refine ⟨m56, Mem.tr L79 L80, ?_, facts_step HM rfl K L80 rfl rfl rfl, outP⟩
        show St _ ((bx b3 [vU 0, vU 0] 27) :: (bx b2 [vU 0, vU 0] 27) :: (bx b1 [vU a3.1, vU a3.2] 27) :: ((bif L 14 then [bxv _ (bif L 16 then [vU x10.1.1, vU x10.1.2] else [vU 0, vU 0]) 27] else []) ++ ((bif L 15 then [bxv _ [vU 0, vU 0] 27] else []) ++ As))) _
        rw [d16]
        exact S71
      · intro L f44 w60 hL hd hc ⟨m57, L81, S72, K, hO⟩
        have d16 : L 16 = false := undep hc hL rfl
        have d3 : L 3 = true := dep hd rfl
        have e36 := K 3 d3
        have d4 : L 4 = true := dep hd rfl
        have e37 := K 4 d4
        replace S72 : St _ ((bx b3 [vU 0, vU 0] 27) :: (bx b2 [vU 0, vU 0] 27) :: (bx b1 [vU a3.1, vU a3.2] 27) :: ((bif L 14 then [bxv (f44 16) (bif L 16 then [vU x10.1.1, vU x10.1.2] else [vU 0, vU 0]) 27] else []) ++ ((bif L 15 then [bxv (f44 17) [vU 0, vU 0] 27] else []) ++ As))) _ := S72
        rw [d16] at S72
        obtain ⟨u44, rfl⟩ := fr_of (N := 89) (L := [(67, vI a1), (68, vI x4)]) hO ⟨e36, e37, trivial⟩
        replace S72 : St _ ((bx b3 [vU 0, vU 0] 27) :: (bx b2 [vU 0, vU 0] 27) :: (bx b1 [vU a3.1, vU a3.2] 27) :: ((bif L 14 then [bxv _ (bif false then [vU x10.1.1, vU x10.1.2] else [vU 0, vU 0]) 27] else []) ++ ((bif L 15 then [bxv _ [vU 0, vU 0] 27] else []) ++ As))) _ := S72
        have L82 := Mem.rfl' m57
        refine s_subI (m := a1) (n := x4) rfl rfl ?_
        refine wpn ?_
        refine ⟨m57, Mem.tr L81 L82, ?_, facts_step HM rfl K L82 rfl rfl rfl, outP⟩
        show St _ ((bx b3 [vU 0, vU 0] 27) :: (bx b2 [vU 0, vU 0] 27) :: (bx b1 [vU a3.1, vU a3.2] 27) :: ((bif L 14 then [bxv _ (bif L 16 then [vU x10.1.1, vU x10.1.2] else [vU 0, vU 0]) 27] else []) ++ ((bif L 15 then [bxv _ [vU 0, vU 0] 27] else []) ++ As))) _
        rw [d16]
        exact S72
      · intro L f45 w61 hL hd hc ⟨m58, L83, S73, K, hO⟩
        have d16 : L 16 = false := undep hc hL rfl
        replace S73 : St _ ((bx b3 [vU 0, vU 0] 27) :: (bx b2 [vU 0, vU 0] 27) :: (bx b1 [vU a3.1, vU a3.2] 27) :: ((bif L 14 then [bxv (f45 16) (bif L 16 then [vU x10.1.1, vU x10.1.2] else [vU 0, vU 0]) 27] else []) ++ ((bif L 15 then [bxv (f45 17) [vU 0, vU 0] 27] else []) ++ As))) _ := S73
        rw [d16] at S73
        obtain ⟨u45, rfl⟩ := fr_of (N := 89) (L := []) hO trivial
        replace S73 : St _ ((bx b3 [vU 0, vU 0] 27) :: (bx b2 [vU 0, vU 0] 27) :: (bx b1 [vU a3.1, vU a3.2] 27) :: ((bif L 14 then [bxv _ (bif false then [vU x10.1.1, vU x10.1.2] else [vU 0, vU 0]) 27] else []) ++ ((bif L 15 then [bxv _ [vU 0, vU 0] 27] else []) ++ As))) _ := S73
        replace a4h0 := a4h0.up L83
        have L84 := Mem.rfl' m58
        refine s_ld (i := 2) (cs := [vU a3.1, vU a3.2]) S73 rfl rfl Tryd.isAgg27 Tryd.sizeOf27 rfl (fun h => by cases h) ?_
        refine wpn ?_
        refine ⟨m58, Mem.tr L83 L84, ?_, facts_step HM rfl K L84 rfl rfl rfl, outP⟩
        show St _ ((bx b3 [vU 0, vU 0] 27) :: (bx b2 [vU 0, vU 0] 27) :: (bx b1 [vU a3.1, vU a3.2] 27) :: ((bif L 14 then [bxv _ (bif L 16 then [vU x10.1.1, vU x10.1.2] else [vU 0, vU 0]) 27] else []) ++ ((bif L 15 then [bxv _ [vU 0, vU 0] 27] else []) ++ As))) _
        rw [d16]
        exact S73
      · intro L f46 w62 hL hd hc ⟨m59, L85, S74, K, hO⟩
        have d16 : L 16 = false := undep hc hL rfl
        replace S74 : St _ ((bx b3 [vU 0, vU 0] 27) :: (bx b2 [vU 0, vU 0] 27) :: (bx b1 [vU a3.1, vU a3.2] 27) :: ((bif L 14 then [bxv (f46 16) (bif L 16 then [vU x10.1.1, vU x10.1.2] else [vU 0, vU 0]) 27] else []) ++ ((bif L 15 then [bxv (f46 17) [vU 0, vU 0] 27] else []) ++ As))) _ := S74
        rw [d16] at S74
        obtain ⟨u46, rfl⟩ := fr_of (N := 89) (L := []) hO trivial
        replace S74 : St _ ((bx b3 [vU 0, vU 0] 27) :: (bx b2 [vU 0, vU 0] 27) :: (bx b1 [vU a3.1, vU a3.2] 27) :: ((bif L 14 then [bxv _ (bif false then [vU x10.1.1, vU x10.1.2] else [vU 0, vU 0]) 27] else []) ++ ((bif L 15 then [bxv _ [vU 0, vU 0] 27] else []) ++ As))) _ := S74
        have L86 := Mem.rfl' m59
        refine s_mvv (v := a4v0) rfl ?_
        refine wpn ?_
        refine ⟨m59, Mem.tr L85 L86, ?_, facts_step HM rfl K L86 rfl rfl rfl, outP⟩
        show St _ ((bx b3 [vU 0, vU 0] 27) :: (bx b2 [vU 0, vU 0] 27) :: (bx b1 [vU a3.1, vU a3.2] 27) :: ((bif L 14 then [bxv _ (bif L 16 then [vU x10.1.1, vU x10.1.2] else [vU 0, vU 0]) 27] else []) ++ ((bif L 15 then [bxv _ [vU 0, vU 0] 27] else []) ++ As))) _
        rw [d16]
        exact S74
      · intro L f47 w63 hL hd hc ⟨m60, L87, S75, K, hO⟩
        have d16 : L 16 = false := undep hc hL rfl
        replace S75 : St _ ((bx b3 [vU 0, vU 0] 27) :: (bx b2 [vU 0, vU 0] 27) :: (bx b1 [vU a3.1, vU a3.2] 27) :: ((bif L 14 then [bxv (f47 16) (bif L 16 then [vU x10.1.1, vU x10.1.2] else [vU 0, vU 0]) 27] else []) ++ ((bif L 15 then [bxv (f47 17) [vU 0, vU 0] 27] else []) ++ As))) _ := S75
        rw [d16] at S75
        obtain ⟨u47, rfl⟩ := fr_of (N := 89) (L := []) hO trivial
        replace S75 : St _ ((bx b3 [vU 0, vU 0] 27) :: (bx b2 [vU 0, vU 0] 27) :: (bx b1 [vU a3.1, vU a3.2] 27) :: ((bif L 14 then [bxv _ (bif false then [vU x10.1.1, vU x10.1.2] else [vU 0, vU 0]) 27] else []) ++ ((bif L 15 then [bxv _ [vU 0, vU 0] 27] else []) ++ As))) _ := S75
        have L88 := Mem.rfl' m60
        refine s_mvv (v := vI x1) rfl ?_
        refine wpn ?_
        refine ⟨m60, Mem.tr L87 L88, ?_, facts_step HM rfl K L88 rfl rfl rfl, outP⟩
        show St _ ((bx b3 [vU 0, vU 0] 27) :: (bx b2 [vU 0, vU 0] 27) :: (bx b1 [vU a3.1, vU a3.2] 27) :: ((bif L 14 then [bxv _ (bif L 16 then [vU x10.1.1, vU x10.1.2] else [vU 0, vU 0]) 27] else []) ++ ((bif L 15 then [bxv _ [vU 0, vU 0] 27] else []) ++ As))) _
        rw [d16]
        exact S75
      · intro L f48 w64 hL hd hc ⟨m61, L89, S76, K, hO⟩
        have d16 : L 16 = false := undep hc hL rfl
        have d7 : L 7 = true := dep hd rfl
        have e38 := K 7 d7
        have d8 : L 8 = true := dep hd rfl
        have e39 := K 8 d8
        replace S76 : St _ ((bx b3 [vU 0, vU 0] 27) :: (bx b2 [vU 0, vU 0] 27) :: (bx b1 [vU a3.1, vU a3.2] 27) :: ((bif L 14 then [bxv (f48 16) (bif L 16 then [vU x10.1.1, vU x10.1.2] else [vU 0, vU 0]) 27] else []) ++ ((bif L 15 then [bxv (f48 17) [vU 0, vU 0] 27] else []) ++ As))) _ := S76
        rw [d16] at S76
        obtain ⟨u48, rfl⟩ := fr_of (N := 89) (L := [(71, a4v0), (72, vI x1)]) hO ⟨e38, e39, trivial⟩
        replace S76 : St _ ((bx b3 [vU 0, vU 0] 27) :: (bx b2 [vU 0, vU 0] 27) :: (bx b1 [vU a3.1, vU a3.2] 27) :: ((bif L 14 then [bxv _ (bif false then [vU x10.1.1, vU x10.1.2] else [vU 0, vU 0]) 27] else []) ++ ((bif L 15 then [bxv _ [vU 0, vU 0] 27] else []) ++ As))) _ := S76
        replace a4h0 := a4h0.up L89
        have L90 := Mem.rfl' m61
        refine s_cut (ys := x9) (l := 0) (h := x1) rfl a4h0 Tryd.underlying22 Tryd.sizeOf27 (.inl ⟨rfl, rfl⟩) (.inr ⟨_, rfl⟩) (.inl rfl) q9 ?_
        intro v6 h10
        refine wpn ?_
        refine ⟨m61, Mem.tr L89 L90, ?_, facts_step HM rfl K L90 rfl rfl ⟨v6, rfl, h10⟩, outP⟩
        show St _ ((bx b3 [vU 0, vU 0] 27) :: (bx b2 [vU 0, vU 0] 27) :: (bx b1 [vU a3.1, vU a3.2] 27) :: ((bif L 14 then [bxv _ (bif L 16 then [vU x10.1.1, vU x10.1.2] else [vU 0, vU 0]) 27] else []) ++ ((bif L 15 then [bxv _ [vU 0, vU 0] 27] else []) ++ As))) _
        rw [d16]
        exact S76
      · intro L f49 w65 hL hd hc ⟨m62, L91, S77, K, hO⟩
        have d16 : L 16 = false := undep hc hL rfl
        have d2 : L 2 = true := dep hd rfl
        have e40 := K 2 d2
        have d5 : L 5 = true := dep hd rfl
        have e41 := K 5 d5
        have d6 : L 6 = true := dep hd rfl
        have e42 := K 6 d6
        have d9 : L 9 = true := dep hd rfl
        obtain ⟨v7, e43, h11⟩ := K 9 d9
        replace S77 : St _ ((bx b3 [vU 0, vU 0] 27) :: (bx b2 [vU 0, vU 0] 27) :: (bx b1 [vU a3.1, vU a3.2] 27) :: ((bif L 14 then [bxv (f49 16) (bif L 16 then [vU x10.1.1, vU x10.1.2] else [vU 0, vU 0]) 27] else []) ++ ((bif L 15 then [bxv (f49 17) [vU 0, vU 0] 27] else []) ++ As))) _ := S77
        rw [d16] at S77
        obtain ⟨u49, rfl⟩ := fr_of (N := 89) (L := [(66, vI (w64 (a0 - x4))), (69, vI (w64 (a1 - x4))), (70, .agg #[vU a3.1, vU a3.2]), (73, v7)]) hO ⟨e40, e41, e42, e43, trivial⟩
        replace S77 : St _ ((bx b3 [vU 0, vU 0] 27) :: (bx b2 [vU 0, vU 0] 27) :: (bx b1 [vU a3.1, vU a3.2] 27) :: ((bif L 14 then [bxv _ (bif false then [vU x10.1.1, vU x10.1.2] else [vU 0, vU 0]) 27] else []) ++ ((bif L 15 then [bxv _ [vU 0, vU 0] 27] else []) ++ As))) _ := S77
        replace a4h0 := a4h0.up L91
        have L92 := Mem.rfl' m62
        refine s_call Tryd.call52 (ih (a0 := (w64 (a0 - x4))) (a1 := (w64 (a1 - x4))) (a2 := false) (a3 := a3) (a4 := x9) S77 h11 q10) rfl ?_
        rintro _ w66 ⟨m63, l15, S78, rfl⟩
        replace a4h0 := a4h0.up l15
        replace h11 := h11.up l15
        replace L92 := Mem.tr L92 l15
        clear S77
        replace S78 : St _ ((bx b3 [vU 0, vU 0] 27) :: (bx b2 [vU 0, vU 0] 27) :: (bx b1 [vU a3.1, vU a3.2] 27) :: ((bif L 14 then [bxv _ (bif false then [vU x10.1.1, vU x10.1.2] else [vU 0, vU 0]) 27] else []) ++ ((bif L 15 then [bxv _ [vU 0, vU 0] 27] else []) ++ As))) _ := S78
        refine wpn ?_
        refine ⟨m63, Mem.tr L91 L92, ?_, facts_step HM rfl K L92 rfl rfl rfl, outP⟩
        show St _ ((bx b3 [vU 0, vU 0] 27) :: (bx b2 [vU 0, vU 0] 27) :: (bx b1 [vU a3.1, vU a3.2] 27) :: ((bif L 14 then [bxv _ (bif L 16 then [vU x10.1.1, vU x10.1.2] else [vU 0, vU 0]) 27] else []) ++ ((bif L 15 then [bxv _ [vU 0, vU 0] 27] else []) ++ As))) _
        rw [d16]
        exact S78
      · intro L f50 w67 hL hd hc ⟨m64, L93, S79, K, hO⟩
        have d16 : L 16 = false := undep hc hL rfl
        have d10 : L 10 = true := dep hd rfl
        have e44 := K 10 d10
        replace S79 : St _ ((bx b3 [vU 0, vU 0] 27) :: (bx b2 [vU 0, vU 0] 27) :: (bx b1 [vU a3.1, vU a3.2] 27) :: ((bif L 14 then [bxv (f50 16) (bif L 16 then [vU x10.1.1, vU x10.1.2] else [vU 0, vU 0]) 27] else []) ++ ((bif L 15 then [bxv (f50 17) [vU 0, vU 0] 27] else []) ++ As))) _ := S79
        rw [d16] at S79
        obtain ⟨u50, rfl⟩ := fr_of (N := 89) (L := [(74, .tuple #[.agg #[vU x10.1.1, vU x10.1.2], .agg #[vU x10.2.1, vU x10.2.2]])]) hO ⟨e44, trivial⟩
        replace S79 : St _ ((bx b3 [vU 0, vU 0] 27) :: (bx b2 [vU 0, vU 0] 27) :: (bx b1 [vU a3.1, vU a3.2] 27) :: ((bif L 14 then [bxv _ (bif false then [vU x10.1.1, vU x10.1.2] else [vU 0, vU 0]) 27] else []) ++ ((bif L 15 then [bxv _ [vU 0, vU 0] 27] else []) ++ As))) _ := S79
        have L94 := Mem.rfl' m64
        refine s_mvv (v := .tuple #[.agg #[vU x10.1.1, vU x10.1.2], .agg #[vU x10.2.1, vU x10.2.2]]) rfl ?_
        refine wpn ?_
        refine ⟨m64, Mem.tr L93 L94, ?_, facts_step HM rfl K L94 rfl rfl rfl, outP⟩
        show St _ ((bx b3 [vU 0, vU 0] 27) :: (bx b2 [vU 0, vU 0] 27) :: (bx b1 [vU a3.1, vU a3.2] 27) :: ((bif L 14 then [bxv _ (bif L 16 then [vU x10.1.1, vU x10.1.2] else [vU 0, vU 0]) 27] else []) ++ ((bif L 15 then [bxv _ [vU 0, vU 0] 27] else []) ++ As))) _
        rw [d16]
        exact S79
      · intro L f51 w68 hL hd hc ⟨m65, L95, S80, K, hO⟩
        have d16 : L 16 = false := undep hc hL rfl
        have d11 : L 11 = true := dep hd rfl
        have e45 := K 11 d11
        replace S80 : St _ ((bx b3 [vU 0, vU 0] 27) :: (bx b2 [vU 0, vU 0] 27) :: (bx b1 [vU a3.1, vU a3.2] 27) :: ((bif L 14 then [bxv (f51 16) (bif L 16 then [vU x10.1.1, vU x10.1.2] else [vU 0, vU 0]) 27] else []) ++ ((bif L 15 then [bxv (f51 17) [vU 0, vU 0] 27] else []) ++ As))) _ := S80
        rw [d16] at S80
        obtain ⟨u51, rfl⟩ := fr_of (N := 89) (L := [(63, .tuple #[.agg #[vU x10.1.1, vU x10.1.2], .agg #[vU x10.2.1, vU x10.2.2]])]) hO ⟨e45, trivial⟩
        replace S80 : St _ ((bx b3 [vU 0, vU 0] 27) :: (bx b2 [vU 0, vU 0] 27) :: (bx b1 [vU a3.1, vU a3.2] 27) :: ((bif L 14 then [bxv _ (bif false then [vU x10.1.1, vU x10.1.2] else [vU 0, vU 0]) 27] else []) ++ ((bif L 15 then [bxv _ [vU 0, vU 0] 27] else []) ++ As))) _ := S80
        have L96 := Mem.rfl' m65
        refine s_ext (i := 0) rfl rfl ?_
        refine wpn ?_
        refine ⟨m65, Mem.tr L95 L96, ?_, facts_step HM rfl K L96 rfl rfl rfl, outP⟩
        show St _ ((bx b3 [vU 0, vU 0] 27) :: (bx b2 [vU 0, vU 0] 27) :: (bx b1 [vU a3.1, vU a3.2] 27) :: ((bif L 14 then [bxv _ (bif L 16 then [vU x10.1.1, vU x10.1.2] else [vU 0, vU 0]) 27] else []) ++ ((bif L 15 then [bxv _ [vU 0, vU 0] 27] else []) ++ As))) _
        rw [d16]
        exact S80
      · intro L f52 w69 hL hd hc ⟨m66, L97, S81, K, hO⟩
        have d11 : L 11 = true := dep hd rfl
        have e46 := K 11 d11
        obtain ⟨u52, rfl⟩ := fr_of (N := 89) (L := [(63, .tuple #[.agg #[vU x10.1.1, vU x10.1.2], .agg #[vU x10.2.1, vU x10.2.2]])]) hO ⟨e46, trivial⟩
        replace S81 : St _ ((bx b3 [vU 0, vU 0] 27) :: (bx b2 [vU 0, vU 0] 27) :: (bx b1 [vU a3.1, vU a3.2] 27) :: ((bif L 14 then [bxv _ (bif L 16 then [vU x10.1.1, vU x10.1.2] else [vU 0, vU 0]) 27] else []) ++ ((bif L 15 then [bxv _ [vU 0, vU 0] 27] else []) ++ As))) _ := S81
        have L98 := Mem.rfl' m66
        refine s_ext (i := 1) rfl rfl ?_
        refine wpn ?_
        refine ⟨m66, Mem.tr L97 L98, ?_, facts_step HM rfl K L98 rfl rfl rfl, outP⟩
        exact S81
      · intro L f53 w70 hL hd hc ⟨m67, L99, S82, K, hO⟩
        have d14 : L 14 = false := hL
        have d16 : L 16 = false := undep hc hL rfl
        replace S82 : St _ ((bx b3 [vU 0, vU 0] 27) :: (bx b2 [vU 0, vU 0] 27) :: (bx b1 [vU a3.1, vU a3.2] 27) :: ((bif L 14 then [bxv (f53 16) (bif L 16 then [vU x10.1.1, vU x10.1.2] else [vU 0, vU 0]) 27] else []) ++ ((bif L 15 then [bxv (f53 17) [vU 0, vU 0] 27] else []) ++ As))) _ := S82
        rw [d14, d16] at S82
        obtain ⟨u53, rfl⟩ := fr_of (N := 89) (L := []) hO trivial
        replace S82 : St _ ((bx b3 [vU 0, vU 0] 27) :: (bx b2 [vU 0, vU 0] 27) :: (bx b1 [vU a3.1, vU a3.2] 27) :: ((bif L 15 then [bxv _ [vU 0, vU 0] 27] else []) ++ As)) _ := S82
        replace a4h0 := a4h0.up L99
        have L100 := Mem.rfl' m67
        refine s_alloc S82 Tryd.zeroValue27 ?_
        intro b10 w71 S83
        replace S83 : St _ ((bx b10 [vU 0, vU 0] 27) :: (bx b3 [vU 0, vU 0] 27) :: (bx b2 [vU 0, vU 0] 27) :: (bx b1 [vU a3.1, vU a3.2] 27) :: ((bif L 15 then [bxv _ [vU 0, vU 0] 27] else []) ++ As)) _ := S83
        clear S82
        refine wpn ?_
        refine ⟨m67, Mem.tr L99 L100, ?_, facts_step HM rfl K L100 rfl rfl ⟨b10, rfl⟩, outP⟩
        show St _ ((bx b3 [vU 0, vU 0] 27) :: (bx b2 [vU 0, vU 0] 27) :: (bx b1 [vU a3.1, vU a3.2] 27) :: ((bif true then [bxv _ (bif L 16 then [vU x10.1.1, vU x10.1.2] else [vU 0, vU 0]) 27] else []) ++ ((bif L 15 then [bxv _ [vU 0, vU 0] 27] else []) ++ As))) _
        rw [d16]
        have S111 : St _ ((bx b3 [vU 0, vU 0] 27) :: (bx b2 [vU 0, vU 0] 27) :: (bx b1 [vU a3.1, vU a3.2] 27) :: (bx b10 [vU 0, vU 0] 27) :: ((bif L 15 then [bxv _ [vU 0, vU 0] 27] else []) ++ As)) _ := St.perm S83 (List.Perm.trans (List.Perm.swap _ _ _) (List.Perm.trans (List.Perm.cons _ (List.Perm.swap _ _ _)) (List.Perm.cons _ (List.Perm.cons _ (List.Perm.swap _ _ _)))))
        exact S111
      · intro L f54 w72 hL hd hc ⟨m68, L101, S84, K, hO⟩
        have d15 : L 15 = false := hL
        have d16 : L 16 = false := undep hc hL rfl
        replace S84 : St _ ((bx b3 [vU 0, vU 0] 27) :: (bx b2 [vU 0, vU 0] 27) :: (bx b1 [vU a3.1, vU a3.2] 27) :: ((bif L 14 then [bxv (f54 16) (bif L 16 then [vU x10.1.1, vU x10.1.2] else [vU 0, vU 0]) 27] else []) ++ ((bif L 15 then [bxv (f54 17) [vU 0, vU 0] 27] else []) ++ As))) _ := S84
        rw [d15, d16] at S84
        obtain ⟨u54, rfl⟩ := fr_of (N := 89) (L := []) hO trivial
        replace S84 : St _ ((bx b3 [vU 0, vU 0] 27) :: (bx b2 [vU 0, vU 0] 27) :: (bx b1 [vU a3.1, vU a3.2] 27) :: ((bif L 14 then [bxv _ (bif false then [vU x10.1.1, vU x10.1.2] else [vU 0, vU 0]) 27] else []) ++ As)) _ := S84
        replace a4h0 := a4h0.up L101
        have L102 := Mem.rfl' m68
        refine s_alloc S84 Tryd.zeroValue27 ?_
        intro b11 w73 S85
        replace S85 : St _ ((bx b11 [vU 0, vU 0] 27) :: (bx b3 [vU 0, vU 0] 27) :: (bx b2 [vU 0, vU 0] 27) :: (bx b1 [vU a3.1, vU a3.2] 27) :: ((bif L 14 then [bxv _ (bif false then [vU x10.1.1, vU x10.1.2] else [vU 0, vU 0]) 27] else []) ++ As)) _ := S85
        clear S84
        refine wpn ?_
        refine ⟨m68, Mem.tr L101 L102, ?_, facts_step HM rfl K L102 rfl rfl ⟨b11, rfl⟩, outP⟩
        show St _ ((bx b3 [vU 0, vU 0] 27) :: (bx b2 [vU 0, vU 0] 27) :: (bx b1 [vU a3.1, vU a3.2] 27) :: ((bif L 14 then [bxv _ (bif L 16 then [vU x10.1.1, vU x10.1.2] else [vU 0, vU 0]) 27] else []) ++ ((bif true then [bxv _ [vU 0, vU 0] 27] else []) ++ As))) _
        rw [d16]
        have S112 : St _ ((bx b3 [vU 0, vU 0] 27) :: (bx b2 [vU 0, vU 0] 27) :: (bx b1 [vU a3.1, vU a3.2] 27) :: (bx b11 [vU 0, vU 0] 27) :: ((bif L 14 then [bxv _ (bif false then [vU x10.1.1, vU x10.1.2] else [vU 0, vU 0]) 27] else []) ++ As)) _ := St.perm S85 (List.Perm.trans (List.Perm.swap _ _ _) (List.Perm.trans (List.Perm.cons _ (List.Perm.swap _ _ _)) (List.Perm.cons _ (List.Perm.cons _ (List.Perm.swap _ _ _)))))
        have S112s := St.sw (L := [bx b3 [vU 0, vU 0] 27, bx b2 [vU 0, vU 0] 27, bx b1 [vU a3.1, vU a3.2] 27]) (X := [bx b11 [vU 0, vU 0] 27]) (Y := (bif L 14 then [bxv _ (bif false then [vU x10.1.1, vU x10.1.2] else [vU 0, vU 0]) 27] else [])) (As := As) S112
        exact S112s
      · intro L f55 w74 hL hd hc ⟨m69, L103, S86, K, hO⟩
        have d14 : L 14 = true := dep hd rfl
        have d15 : L 15 = true := dep hd rfl
        have d16 : L 16 = false := hL
        obtain ⟨b12, e47⟩ := K 14 d14
        obtain ⟨b13, e48⟩ := K 15 d15
        have d12 : L 12 = true := dep hd rfl
        have e49 := K 12 d12
        replace S86 : St _ ((bx b3 [vU 0, vU 0] 27) :: (bx b2 [vU 0, vU 0] 27) :: (bx b1 [vU a3.1, vU a3.2] 27) :: ((bif L 14 then [bxv (f55 16) (bif L 16 then [vU x10.1.1, vU x10.1.2] else [vU 0, vU 0]) 27] else []) ++ ((bif L 15 then [bxv (f55 17) [vU 0, vU 0] 27] else []) ++ As))) _ := S86
        rw [d14, d15, d16] at S86
        obtain ⟨u55, rfl⟩ := fr_of (N := 89) (L := [(16, pt b12 0), (17, pt b13 0), (75, .agg #[vU x10.1.1, vU x10.1.2])]) hO ⟨e47, e48, e49, trivial⟩
        replace S86 : St _ ((bx b3 [vU 0, vU 0] 27) :: (bx b2 [vU 0, vU 0] 27) :: (bx b1 [vU a3.1, vU a3.2] 27) :: (bx b12 [vU 0, vU 0] 27) :: (bx b13 [vU 0, vU 0] 27) :: As) _ := S86
        replace a4h0 := a4h0.up L103
        have L104 := Mem.rfl' m69
        refine s_stL (i := 3) S86 rfl rfl rfl Tryd.sizeOf27 (oneC rfl (oneC rfl oneN)) rfl ?_
        intro w75 S87
        replace S87 : St _ ((bx b3 [vU 0, vU 0] 27) :: (bx b2 [vU 0, vU 0] 27) :: (bx b1 [vU a3.1, vU a3.2] 27) :: (bx b12 [vU x10.1.1, vU x10.1.2] 27) :: (bx b13 [vU 0, vU 0] 27) :: As) _ := S87
        clear S86
        refine wpn ?_
        refine ⟨m69, Mem.tr L103 L104, ?_, facts_none HM K L104 rfl (fun _ => trivial), outP⟩
        show St _ ((bx b3 [vU 0, vU 0] 27) :: (bx b2 [vU 0, vU 0] 27) :: (bx b1 [vU a3.1, vU a3.2] 27) :: ((bif L 14 then [bxv _ (bif true then [vU x10.1.1, vU x10.1.2] else [vU 0, vU 0]) 27] else []) ++ ((bif L 15 then [bxv _ [vU 0, vU 0] 27] else []) ++ As))) _
        rw [d14, d15]
        exact S87
    intro L f56 w76 hall ⟨m70, L105, S88, K, hO⟩
    have d14 : L 14 = true := hall 14 (by decide)
    have d15 : L 15 = true := hall 15 (by decide)
    have d16 : L 16 = true := hall 16 (by decide)
    obtain ⟨b14, e50⟩ := K 14 d14
    obtain ⟨b15, e51⟩ := K 15 d15
    have d13 : L 13 = true := hall 13 (by decide)
    have e52 := K 13 d13
    replace S88 : St _ ((bx b3 [vU 0, vU 0] 27) :: (bx b2 [vU 0, vU 0] 27) :: (bx b1 [vU a3.1, vU a3.2] 27) :: ((bif L 14 then [bxv (f56 16) (bif L 16 then [vU x10.1.1, vU x10.1.2] else [vU 0, vU 0]) 27] else []) ++ ((bif L 15 then [bxv (f56 17) [vU 0, vU 0] 27] else []) ++ As))) _ := S88
    rw [d14, d15, d16] at S88
    obtain ⟨u56, rfl⟩ := fr_of (N := 89) (L := [(16, pt b14 0), (17, pt b15 0), (76, .agg #[vU x10.2.1, vU x10.2.2])]) hO ⟨e50, e51, e52, trivial⟩
    replace S88 : St _ ((bx b3 [vU 0, vU 0] 27) :: (bx b2 [vU 0, vU 0] 27) :: (bx b1 [vU a3.1, vU a3.2] 27) :: (bx b14 [vU x10.1.1, vU x10.1.2] 27) :: (bx b15 [vU 0, vU 0] 27) :: As) _ := S88
    replace a4h0 := a4h0.up L105
    replace L0 := Mem.tr L0 L105
    clear S28
    refine s_stL (i := 4) S88 rfl rfl rfl Tryd.sizeOf27 (oneC rfl (oneC rfl oneN)) rfl ?_
    intro w77 S89
    replace S89 : St _ ((bx b3 [vU 0, vU 0] 27) :: (bx b2 [vU 0, vU 0] 27) :: (bx b1 [vU a3.1, vU a3.2] 27) :: (bx b14 [vU x10.1.1, vU x10.1.2] 27) :: (bx b15 [vU x10.2.1, vU x10.2.2] 27) :: As) _ := S89
    clear S88
    refine wpl_nil ?_
    refine nrm ?_
    refine wpc_seq ?_
    obtain ⟨x11, q11, hm⟩ := obind_some hm
    obtain ⟨x12, q12, hm⟩ := obind_some hm
    obtain ⟨x13, q13, hm⟩ := obind_some hm
    have HM : MonoAll [(77, fun (M : Mem) (v : Value) => v = a4v0), (78, fun (M : Mem) (v : Value) => v = vI x1), (79, fun (M : Mem) (v : Value) => ∃ (p4 : Value), v = p4 ∧ PtC M p4 [vU x11.1, vU x11.2]), (80, fun (M : Mem) (v : Value) => v = .agg #[vU x11.1, vU x11.2]), (81, fun (M : Mem) (v : Value) => v = .agg #[vU x10.1.1, vU x10.1.2]), (82, fun (M : Mem) (v : Value) => v = .agg #[vU x12.1, vU x12.2]), (83, fun (M : Mem) (v : Value) => v = a4v0), (84, fun (M : Mem) (v : Value) => v = vI x1), (85, fun (M : Mem) (v : Value) => ∃ (p5 : Value), v = p5 ∧ PtC M p5 [vU x13.1, vU x13.2]), (86, fun (M : Mem) (v : Value) => v = .agg #[vU x13.1, vU x13.2]), (87, fun (M : Mem) (v : Value) => v = .agg #[vU x10.2.1, vU x10.2.2])] := ⟨(fun _ _ _ _ h => h), (fun _ _ _ _ h => h), (fun _ _ _ l ⟨p4, e, h12⟩ => ⟨p4, e, h12.up l⟩), (fun _ _ _ _ h => h), (fun _ _ _ _ h => h), (fun _ _ _ _ h => h), (fun _ _ _ _ h => h), (fun _ _ _ _ h => h), (fun _ _ _ l ⟨p5, e, h14⟩ => ⟨p5, e, h14.up l⟩), (fun _ _ _ _ h => h), (fun _ _ _ _ h => h), trivial⟩
    refine wpc_flowG HM 11 mixed rfl rfl rfl [77, 78, 79, 80, 81, 82, 83, 84, 85, 86, 87] (fun L f M w => St M ((bx b3 [vU 0, vU 0] 27) :: (bx b2 [vU 0, vU 0] 27) :: (bx b1 [vU a3.1, vU a3.2] 27) :: (bx b14 [vU x10.1.1, vU x10.1.2] 27) :: (bx b15 [vU x10.2.1, vU x10.2.2] 27) :: As) w) (St.drew S89 _) ?_ ?_
    · refine ⟨?_, ?_, ?_, ?_, ?_, ?_, ?_, ?_, ?_, ?_, ?_, trivial⟩
      · intro L f57 w78 hL hd hc ⟨m71, L106, S90, K, hO⟩
        obtain ⟨u57, rfl⟩ := fr_of (N := 89) (L := []) hO trivial
        replace S90 : St _ ((bx b3 [vU 0, vU 0] 27) :: (bx b2 [vU 0, vU 0] 27) :: (bx b1 [vU a3.1, vU a3.2] 27) :: (bx b14 [vU x10.1.1, vU x10.1.2] 27) :: (bx b15 [vU x10.2.1, vU x10.2.2] 27) :: As) _ := S90
        have L107 := Mem.rfl' m71
        refine s_mvv (v := a4v0) rfl ?_
        refine wpn ?_
        refine ⟨m71, Mem.tr L106 L107, ?_, facts_step HM rfl K L107 rfl rfl rfl, outP⟩
        exact S90
      · intro L f58 w79 hL hd hc ⟨m72, L108, S91, K, hO⟩
        obtain ⟨u58, rfl⟩ := fr_of (N := 89) (L := []) hO trivial
        replace S91 : St _ ((bx b3 [vU 0, vU 0] 27) :: (bx b2 [vU 0, vU 0] 27) :: (bx b1 [vU a3.1, vU a3.2] 27) :: (bx b14 [vU x10.1.1, vU x10.1.2] 27) :: (bx b15 [vU x10.2.1, vU x10.2.2] 27) :: As) _ := S91
        have L109 := Mem.rfl' m72
        refine s_mvv (v := vI x1) rfl ?_
        refine wpn ?_
        refine ⟨m72, Mem.tr L108 L109, ?_, facts_step HM rfl K L109 rfl rfl rfl, outP⟩
        exact S91
      · intro L f59 w80 hL hd hc ⟨m73, L110, S92, K, hO⟩
        have d0 : L 0 = true := dep hd rfl
        have e53 := K 0 d0
        have d1 : L 1 = true := dep hd rfl
        have e54 := K 1 d1
        obtain ⟨u59, rfl⟩ := fr_of (N := 89) (L := [(77, a4v0), (78, vI x1)]) hO ⟨e53, e54, trivial⟩
        replace S92 : St _ ((bx b3 [vU 0, vU 0] 27) :: (bx b2 [vU 0, vU 0] 27) :: (bx b1 [vU a3.1, vU a3.2] 27) :: (bx b14 [vU x10.1.1, vU x10.1.2] 27) :: (bx b15 [vU x10.2.1, vU x10.2.2] 27) :: As) _ := S92
        replace a4h0 := a4h0.up L110
        have L111 := Mem.rfl' m73
        refine s_idx (q := x11) rfl rfl a4h0 q11 Tryd.underlying22 Tryd.sizeOf27 ?_
        intro p4 c4 h12 r4
        obtain rfl := rep_arr2_UInt64 r4
        refine wpn ?_
        refine ⟨m73, Mem.tr L110 L111, ?_, facts_step HM rfl K L111 rfl rfl ⟨p4, rfl, h12⟩, outP⟩
        exact S92
      · intro L f60 w81 hL hd hc ⟨m74, L112, S93, K, hO⟩
        have d2 : L 2 = true := dep hd rfl
        obtain ⟨v8, e55, h13⟩ := K 2 d2
        obtain ⟨u60, rfl⟩ := fr_of (N := 89) (L := [(79, v8)]) hO ⟨e55, trivial⟩
        replace S93 : St _ ((bx b3 [vU 0, vU 0] 27) :: (bx b2 [vU 0, vU 0] 27) :: (bx b1 [vU a3.1, vU a3.2] 27) :: (bx b14 [vU x10.1.1, vU x10.1.2] 27) :: (bx b15 [vU x10.2.1, vU x10.2.2] 27) :: As) _ := S93
        replace a4h0 := a4h0.up L112
        have L113 := Mem.rfl' m74
        refine s_ldM (cs := [vU x11.1, vU x11.2]) S93 rfl h13 rfl Tryd.isAgg27 Tryd.sizeOf27 (fun h => by cases h) ?_
        refine wpn ?_
        refine ⟨m74, Mem.tr L112 L113, ?_, facts_step HM rfl K L113 rfl rfl rfl, outP⟩
        exact S93
      · intro L f61 w82 hL hd hc ⟨m75, L114, S94, K, hO⟩
        obtain ⟨u61, rfl⟩ := fr_of (N := 89) (L := []) hO trivial
        replace S94 : St _ ((bx b3 [vU 0, vU 0] 27) :: (bx b2 [vU 0, vU 0] 27) :: (bx b1 [vU a3.1, vU a3.2] 27) :: (bx b14 [vU x10.1.1, vU x10.1.2] 27) :: (bx b15 [vU x10.2.1, vU x10.2.2] 27) :: As) _ := S94
        replace a4h0 := a4h0.up L114
        have L115 := Mem.rfl' m75
        refine s_ld (i := 3) (cs := [vU x10.1.1, vU x10.1.2]) S94 rfl rfl Tryd.isAgg27 Tryd.sizeOf27 rfl (fun h => by cases h) ?_
        refine wpn ?_
        refine ⟨m75, Mem.tr L114 L115, ?_, facts_step HM rfl K L115 rfl rfl rfl, outP⟩
        exact S94
      · intro L f62 w83 hL hd hc ⟨m76, L116, S95, K, hO⟩
        have d3 : L 3 = true := dep hd rfl
        have e56 := K 3 d3
        have d4 : L 4 = true := dep hd rfl
        have e57 := K 4 d4
        obtain ⟨u62, rfl⟩ := fr_of (N := 89) (L := [(80, .agg #[vU x11.1, vU x11.2]), (81, .agg #[vU x10.1.1, vU x10.1.2])]) hO ⟨e56, e57, trivial⟩
        replace S95 : St _ ((bx b3 [vU 0, vU 0] 27) :: (bx b2 [vU 0, vU 0] 27) :: (bx b1 [vU a3.1, vU a3.2] 27) :: (bx b14 [vU x10.1.1, vU x10.1.2] 27) :: (bx b15 [vU x10.2.1, vU x10.2.2] 27) :: As) _ := S95
        replace a4h0 := a4h0.up L116
        have L117 := Mem.rfl' m76
        refine s_call Tryd.call36 (w_ref02_Pair (a0 := x11) (a1 := x10.1) S95  q12) rfl ?_
        rintro _ w84 ⟨m77, l16, S96, rfl⟩
        replace a4h0 := a4h0.up l16
        replace L117 := Mem.tr L117 l16
        clear S95
        replace S96 : St _ ((bx b3 [vU 0, vU 0] 27) :: (bx b2 [vU 0, vU 0] 27) :: (bx b1 [vU a3.1, vU a3.2] 27) :: (bx b14 [vU x10.1.1, vU x10.1.2] 27) :: (bx b15 [vU x10.2.1, vU x10.2.2] 27) :: As) _ := S96
        refine wpn ?_
        refine ⟨m77, Mem.tr L116 L117, ?_, facts_step HM rfl K L117 rfl rfl rfl, outP⟩
        exact S96
      · intro L f63 w85 hL hd hc ⟨m78, L118, S97, K, hO⟩
        obtain ⟨u63, rfl⟩ := fr_of (N := 89) (L := []) hO trivial
        replace S97 : St _ ((bx b3 [vU 0, vU 0] 27) :: (bx b2 [vU 0, vU 0] 27) :: (bx b1 [vU a3.1, vU a3.2] 27) :: (bx b14 [vU x10.1.1, vU x10.1.2] 27) :: (bx b15 [vU x10.2.1, vU x10.2.2] 27) :: As) _ := S97
        have L119 := Mem.rfl' m78
        refine s_mvv (v := a4v0) rfl ?_
        refine wpn ?_
        refine ⟨m78, Mem.tr L118 L119, ?_, facts_step HM rfl K L119 rfl rfl rfl, outP⟩
        exact S97
      · intro L f64 w86 hL hd hc ⟨m79, L120, S98, K, hO⟩
        obtain ⟨u64, rfl⟩ := fr_of (N := 89) (L := []) hO trivial
        replace S98 : St _ ((bx b3 [vU 0, vU 0] 27) :: (bx b2 [vU 0, vU 0] 27) :: (bx b1 [vU a3.1, vU a3.2] 27) :: (bx b14 [vU x10.1.1, vU x10.1.2] 27) :: (bx b15 [vU x10.2.1, vU x10.2.2] 27) :: As) _ := S98
        have L121 := Mem.rfl' m79
        refine s_mvv (v := vI x1) rfl ?_
        refine wpn ?_
        refine ⟨m79, Mem.tr L120 L121, ?_, facts_step HM rfl K L121 rfl rfl rfl, outP⟩
        exact S98
      · intro L f65 w87 hL hd hc ⟨m80, L122, S99, K, hO⟩
        have d6 : L 6 = true := dep hd rfl
        have e58 := K 6 d6
        have d7 : L 7 = true := dep hd rfl
        have e59 := K 7 d7
        obtain ⟨u65, rfl⟩ := fr_of (N := 89) (L := [(83, a4v0), (84, vI x1)]) hO ⟨e58, e59, trivial⟩
        replace S99 : St _ ((bx b3 [vU 0, vU 0] 27) :: (bx b2 [vU 0, vU 0] 27) :: (bx b1 [vU a3.1, vU a3.2] 27) :: (bx b14 [vU x10.1.1, vU x10.1.2] 27) :: (bx b15 [vU x10.2.1, vU x10.2.2] 27) :: As) _ := S99
        replace a4h0 := a4h0.up L122
        have L123 := Mem.rfl' m80
        refine s_idx (q := x13) rfl rfl a4h0 q13 Tryd.underlying22 Tryd.sizeOf27 ?_
        intro p5 c5 h14 r5
        obtain rfl := rep_arr2_UInt64 r5
        refine wpn ?_
        refine ⟨m80, Mem.tr L122 L123, ?_, facts_step HM rfl K L123 rfl rfl ⟨p5, rfl, h14⟩, outP⟩
        exact S99
      · intro L f66 w88 hL hd hc ⟨m81, L124, S100, K, hO⟩
        have d8 : L 8 = true := dep hd rfl
        obtain ⟨v9, e60, h15⟩ := K 8 d8
        obtain ⟨u66, rfl⟩ := fr_of (N := 89) (L := [(85, v9)]) hO ⟨e60, trivial⟩
        replace S100 : St _ ((bx b3 [vU 0, vU 0] 27) :: (bx b2 [vU 0, vU 0] 27) :: (bx b1 [vU a3.1, vU a3.2] 27) :: (bx b14 [vU x10.1.1, vU x10.1.2] 27) :: (bx b15 [vU x10.2.1, vU x10.2.2] 27) :: As) _ := S100
        replace a4h0 := a4h0.up L124
        have L125 := Mem.rfl' m81
        refine s_ldM (cs := [vU x13.1, vU x13.2]) S100 rfl h15 rfl Tryd.isAgg27 Tryd.sizeOf27 (fun h => by cases h) ?_
        refine wpn ?_
        refine ⟨m81, Mem.tr L124 L125, ?_, facts_step HM rfl K L125 rfl rfl rfl, outP⟩
        exact S100
      · intro L f67 w89 hL hd hc ⟨m82, L126, S101, K, hO⟩
        obtain ⟨u67, rfl⟩ := fr_of (N := 89) (L := []) hO trivial
        replace S101 : St _ ((bx b3 [vU 0, vU 0] 27) :: (bx b2 [vU 0, vU 0] 27) :: (bx b1 [vU a3.1, vU a3.2] 27) :: (bx b14 [vU x10.1.1, vU x10.1.2] 27) :: (bx b15 [vU x10.2.1, vU x10.2.2] 27) :: As) _ := S101
        replace a4h0 := a4h0.up L126
        have L127 := Mem.rfl' m82
        refine s_ld (i := 4) (cs := [vU x10.2.1, vU x10.2.2]) S101 rfl rfl Tryd.isAgg27 Tryd.sizeOf27 rfl (fun h => by cases h) ?_
        refine wpn ?_
        refine ⟨m82, Mem.tr L126 L127, ?_, facts_step HM rfl K L127 rfl rfl rfl, outP⟩
        exact S101
    intro L f68 w90 hall ⟨m83, L128, S102, K, hO⟩
    have d5 : L 5 = true := hall 5 (by decide)
    have e61 := K 5 d5
    have d9 : L 9 = true := hall 9 (by decide)
    have e62 := K 9 d9
    have d10 : L 10 = true := hall 10 (by decide)
    have e63 := K 10 d10
    obtain ⟨u68, rfl⟩ := fr_of (N := 89) (L := [(82, .agg #[vU x12.1, vU x12.2]), (86, .agg #[vU x13.1, vU x13.2]), (87, .agg #[vU x10.2.1, vU x10.2.2])]) hO ⟨e61, e62, e63, trivial⟩
    replace S102 : St _ ((bx b3 [vU 0, vU 0] 27) :: (bx b2 [vU 0, vU 0] 27) :: (bx b1 [vU a3.1, vU a3.2] 27) :: (bx b14 [vU x10.1.1, vU x10.1.2] 27) :: (bx b15 [vU x10.2.1, vU x10.2.2] 27) :: As) _ := S102
    replace a4h0 := a4h0.up L128
    replace L0 := Mem.tr L0 L128
    clear S89
    obtain ⟨x14, q14, hm⟩ := obind_some hm
    refine s_call Tryd.call36 (w_ref02_Pair (a0 := x13) (a1 := x10.2) S102  q14) rfl ?_
    rintro _ w91 ⟨m84, l17, S103, rfl⟩
    replace L0 := Mem.tr L0 l17
    clear S102
    replace S103 : St _ ((bx b3 [vU 0, vU 0] 27) :: (bx b2 [vU 0, vU 0] 27) :: (bx b1 [vU a3.1, vU a3.2] 27) :: (bx b14 [vU x10.1.1, vU x10.1.2] 27) :: (bx b15 [vU x10.2.1, vU x10.2.2] 27) :: As) _ := S103
    refine s_stL (i := 1) S103 rfl rfl rfl Tryd.sizeOf27 (oneC rfl (oneC rfl oneN)) rfl ?_
    intro w92 S104
    replace S104 : St _ ((bx b3 [vU 0, vU 0] 27) :: (bx b2 [vU x12.1, vU x12.2] 27) :: (bx b1 [vU a3.1, vU a3.2] 27) :: (bx b14 [vU x10.1.1, vU x10.1.2] 27) :: (bx b15 [vU x10.2.1, vU x10.2.2] 27) :: As) _ := S104
    clear S103
    refine s_stL (i := 0) S104 rfl rfl rfl Tryd.sizeOf27 (oneC rfl (oneC rfl oneN)) rfl ?_
    intro w93 S105
    replace S105 : St _ ((bx b3 [vU x14.1, vU x14.2] 27) :: (bx b2 [vU x12.1, vU x12.2] 27) :: (bx b1 [vU a3.1, vU a3.2] 27) :: (bx b14 [vU x10.1.1, vU x10.1.2] 27) :: (bx b15 [vU x10.2.1, vU x10.2.2] 27) :: As) _ := S105
    clear S104
    refine wpl_nil ?_
    refine nrm ?_
    refine wpc_ret ?_
    refine outRw ?_
    intro we hpd
    replace S105 := St.pd S105 hpd
    have SR := S105
    obtain ⟨m85, l18, S106⟩ := St.drop S105 0
    replace L0 := Mem.tr L0 l18
    replace S106 : St _ ((bx b2 [vU x12.1, vU x12.2] 27) :: (bx b1 [vU a3.1, vU a3.2] 27) :: (bx b14 [vU x10.1.1, vU x10.1.2] 27) :: (bx b15 [vU x10.2.1, vU x10.2.2] 27) :: As) _ := S106
    obtain ⟨m86, l19, S107⟩ := St.drop S106 0
    replace L0 := Mem.tr L0 l19
    clear S106
    replace S107 : St _ ((bx b1 [vU a3.1, vU a3.2] 27) :: (bx b14 [vU x10.1.1, vU x10.1.2] 27) :: (bx b15 [vU x10.2.1, vU x10.2.2] 27) :: As) _ := S107
    obtain ⟨m87, l20, S108⟩ := St.drop S107 0
    replace L0 := Mem.tr L0 l20
    clear S107
    replace S108 : St _ ((bx b14 [vU x10.1.1, vU x10.1.2] 27) :: (bx b15 [vU x10.2.1, vU x10.2.2] 27) :: As) _ := S108
    obtain ⟨m88, l21, S109⟩ := St.drop S108 0
    replace L0 := Mem.tr L0 l21
    clear S108
    replace S109 : St _ ((bx b15 [vU x10.2.1, vU x10.2.2] 27) :: As) _ := S109
    obtain ⟨m89, l22, S110⟩ := St.drop S109 0
    replace L0 := Mem.tr L0 l22
    clear S109
    replace S110 : St _ (As) _ := S110
    have e0 := Option.some.inj hm
    subst e0
    exact outR [_, _] rfl ⟨res_box (i := 1) (off := 0) (cs := [vU x12.1, vU x12.2]) SR rfl rfl Tryd.isAgg27 Tryd.sizeOf27 rfl (fun h => by cases h), res_box (i := 0) (off := 0) (cs := [vU x14.1, vU x14.2]) SR rfl rfl Tryd.isAgg27 Tryd.sizeOf27 rfl (fun h => by cases h), trivial⟩ ⟨_, L0, S110, rfl⟩

theorem w_ref08_both {m : Mem} {As : List Ow} {w : World} {a0 : Int} {a1 : Int} {a2 : Bool} {a3 : UInt64 × UInt64} {a4 : List (UInt64 × UInt64)} {a4v0 : Value} {r : (UInt64 × UInt64) × (UInt64 × UInt64)} (S : St m (As) w) (a4h0 : SlR m a4v0 a4) (hm : m_ref08_both a0 a1 a2 a3 a4 = some r) :
    CallsR Tryd.prog 52 #[vI a0, vI a1, vb a2, .agg #[vU a3.1, vU a3.2], a4v0] w fun v w' => ∃ (M : Mem), m ≤ M ∧ St M (As) w' ∧ v = .tuple #[.agg #[vU r.1.1, vU r.1.2], .agg #[vU r.2.1, vU r.2.2]] := wr_ref08_both FUEL S a4h0 hm

def m_ref08_CheckGrow (a0 : Int) (a1 : Int) (a2 : UInt64 × UInt64) (a3 : UInt64 × UInt64) (a4 : List (UInt64 × UInt64)) : Option Int :=
  if (((decide (a0 < 0)) || (decide (a0 > a1))) || (decide (a1 > 256))) = true then
    some 1
  else
  obind (m_ref08_grown a0 a1 true) fun x1 =>
  if ((a4.length : Int) != x1) = true then
    some 80
  else
  if (a0 == 0) = true then
    obind (m_ref08_Root ([] : List (UInt64 × UInt64))) fun x2 =>
    if (!eqSum a2 x2) = true then
      some 71
    else
    some 0
  else
  obind (m_ref08_both a0 a1 true a2 a4) fun x3 =>
  if ((!eqSum x3.1 a2) || (!eqSum x3.2 a3)) = true then
    some 71
  else
  some 0

theorem w_ref08_CheckGrow {m : Mem} {As : List Ow} {w : World} {a0 : Int} {a1 : Int} {a2 : UInt64 × UInt64} {a3 : UInt64 × UInt64} {a4 : List (UInt64 × UInt64)} {a4v0 : Value} {r : Int} (S : St m (As) w) (a4h0 : SlR m a4v0 a4) (hm : m_ref08_CheckGrow a0 a1 a2 a3 a4 = some r) :
    CallsR Tryd.prog 26 #[vI a0, vI a1, .agg #[vU a2.1, vU a2.2], .agg #[vU a3.1, vU a3.2], a4v0] w fun v w' => ∃ (M : Mem), m ≤ M ∧ St M (As) w' ∧ v = vI r := by
  unfold m_ref08_CheckGrow at hm
  have L0 := Mem.rfl' m
  refine callsR (args := [vI a0, vI a1, .agg #[vU a2.1, vU a2.2], .agg #[vU a3.1, vU a3.2], a4v0]) Tryd.func26 rfl Tryd.ntmps26 (Nat.le_of_ble_eq_true rfl) ?_
  refine wpc_seq ?_
  refine wpc_region ?_
  refine s_box S rfl ?_
  intro b1 w1 S1
  replace S1 : St _ ((bx b1 [vU a2.1, vU a2.2] 27) :: As) _ := S1
  clear S
  refine s_box S1 rfl ?_
  intro b2 w2 S2
  replace S2 : St _ ((bx b2 [vU a3.1, vU a3.2] 27) :: (bx b1 [vU a2.1, vU a2.2] 27) :: As) _ := S2
  clear S1
  refine s_asv (v := vI 0) rfl ?_
  refine wpl_nil ?_
  refine nrm ?_
  refine wpc_seq ?_
  refine wpc_seq ?_
  refine wpc_region ?_
  refine s_mvv (v := vI a0) rfl ?_
  refine s_lss (m := a0) (n := 0) rfl rfl ?_
  refine s_mvv (v := vb (decide (a0 < 0))) rfl ?_
  refine wpl_cut 4 [16, 17, 18, 19] (fun f' w' => w' = w2 ∧ AllAt f' [(19, vb ((decide (a0 < 0)) || (decide (a0 > a1))))]) ?_ ?_
  · rcases bool_tf (decide (a0 < 0)) with hb1 | hb1
    · refine wpl_no (d := 15) rfl rfl (congrArg Value.bool hb1) ?_
      refine wpl_no (d := 15) rfl rfl (congrArg Value.bool hb1) ?_
      refine wpl_no (d := 15) rfl rfl (congrArg Value.bool hb1) ?_
      refine s_pickT (congrArg Value.bool hb1) rfl ?_
      exact wpl_nil (nrm ⟨outP, rfl, congrArg Value.bool (or_t hb1), trivial⟩)
    · refine wpl_yes (d := 15) rfl rfl (congrArg Value.bool hb1) ?_
      refine s_mvv (v := vI a0) rfl ?_
      refine wpl_yes (d := 15) rfl rfl (congrArg Value.bool hb1) ?_
      refine s_mvv (v := vI a1) rfl ?_
      refine wpl_yes (d := 15) rfl rfl (congrArg Value.bool hb1) ?_
      refine s_gtr (m := a0) (n := a1) rfl rfl ?_
      refine s_pickF (congrArg Value.bool hb1) rfl ?_
      exact wpl_nil (nrm ⟨outP, rfl, congrArg Value.bool (or_f hb1), trivial⟩)
  rintro f1 w3 ho ⟨h1, ha⟩
  subst h1
  obtain ⟨u1, rfl⟩ := fr_of (N := 51) ho ha
  refine s_mvv (v := vb ((decide (a0 < 0)) || (decide (a0 > a1)))) rfl ?_
  refine wpl_cut 3 [21, 22, 23] (fun f' w' => w' = w3 ∧ AllAt f' [(23, vb (((decide (a0 < 0)) || (decide (a0 > a1))) || (decide (a1 > 256))))]) ?_ ?_
  · rcases bool_tf ((decide (a0 < 0)) || (decide (a0 > a1))) with hb2 | hb2
    · refine wpl_no (d := 20) rfl rfl (congrArg Value.bool hb2) ?_
      refine wpl_no (d := 20) rfl rfl (congrArg Value.bool hb2) ?_
      refine s_pickT (congrArg Value.bool hb2) rfl ?_
      exact wpl_nil (nrm ⟨outP, rfl, congrArg Value.bool (or_t hb2), trivial⟩)
    · refine wpl_yes (d := 20) rfl rfl (congrArg Value.bool hb2) ?_
      refine s_mvv (v := vI a1) rfl ?_
      refine wpl_yes (d := 20) rfl rfl (congrArg Value.bool hb2) ?_
      refine s_gtr (m := a1) (n := 256) rfl rfl ?_
      refine s_pickF (congrArg Value.bool hb2) rfl ?_
      exact wpl_nil (nrm ⟨outP, rfl, congrArg Value.bool (or_f hb2), trivial⟩)
  rintro f2 w4 ho ⟨h2, ha⟩
  subst h2
  obtain ⟨u2, rfl⟩ := fr_of (N := 51) ho ha
  refine wpl_nil ?_
  refine nrm ?_
  refine wpc_if (t := (((decide (a0 < 0)) || (decide (a0 > a1))) || (decide (a1 > 256)))) rfl (fun hc1 => ?_) (fun hc1 => ?_)
  · replace hm := ifT hc1 hm
    refine wpc_seq ?_
    refine wpc_region ?_
    refine s_asv (v := vI 1) rfl ?_
    refine wpl_nil ?_
    refine nrm ?_
    refine wpc_ret ?_
    refine thR ?_
    refine outRw ?_
    intro we hpd
    replace S2 := St.pd S2 hpd
    obtain ⟨m1, l1, S3⟩ := St.drop S2 0
    replace L0 := Mem.tr L0 l1
    clear S2
    replace S3 : St _ ((bx b1 [vU a2.1, vU a2.2] 27) :: As) _ := S3
    obtain ⟨m2, l2, S4⟩ := St.drop S3 0
    replace L0 := Mem.tr L0 l2
    clear S3
    replace S4 : St _ (As) _ := S4
    have e0 := Option.some.inj hm
    subst e0
    exact outR [_] rfl ⟨rfl, trivial⟩ ⟨_, L0, S4, rfl⟩
  replace hm := ifF hc1 hm
  refine wpc_skip ?_
  refine nrm ?_
  refine wpc_seq ?_
  refine wpc_seq ?_
  refine wpc_region ?_
  refine s_mvv (v := a4v0) rfl ?_
  refine s_lenR (xs := a4) rfl a4h0 Tryd.underlying22 ?_
  refine s_mvv (v := vI a0) rfl ?_
  refine s_mvv (v := vI a1) rfl ?_
  obtain ⟨x1, q1, hm⟩ := obind_some hm
  refine s_call Tryd.call51 (w_ref08_grown (a0 := a0) (a1 := a1) (a2 := true) S2  q1) rfl ?_
  rintro _ w5 ⟨m3, l3, S5, rfl⟩
  replace a4h0 := a4h0.up l3
  replace L0 := Mem.tr L0 l3
  clear S2
  replace S5 : St _ ((bx b2 [vU a3.1, vU a3.2] 27) :: (bx b1 [vU a2.1, vU a2.2] 27) :: As) _ := S5
  refine s_neq (m := (a4.length : Int)) (n := x1) rfl rfl ?_
  refine wpl_nil ?_
  refine nrm ?_
  refine wpc_if (t := ((a4.length : Int) != x1)) rfl (fun hc2 => ?_) (fun hc2 => ?_)
  · replace hm := ifT hc2 hm
    refine wpc_seq ?_
    refine wpc_region ?_
    refine s_asv (v := vI 80) rfl ?_
    refine wpl_nil ?_
    refine nrm ?_
    refine wpc_ret ?_
    refine thR ?_
    refine outRw ?_
    intro we hpd
    replace S5 := St.pd S5 hpd
    obtain ⟨m4, l4, S6⟩ := St.drop S5 0
    replace L0 := Mem.tr L0 l4
    clear S5
    replace S6 : St _ ((bx b1 [vU a2.1, vU a2.2] 27) :: As) _ := S6
    obtain ⟨m5, l5, S7⟩ := St.drop S6 0
    replace L0 := Mem.tr L0 l5
    clear S6
    replace S7 : St _ (As) _ := S7
    have e0 := Option.some.inj hm
    subst e0
    exact outR [_] rfl ⟨rfl, trivial⟩ ⟨_, L0, S7, rfl⟩
  replace hm := ifF hc2 hm
  refine wpc_skip ?_
  refine nrm ?_
  refine wpc_seq ?_
  refine wpc_seq ?_
  refine wpc_region ?_
  refine s_mvv (v := vI a0) rfl ?_
  refine s_eql (m := a0) (n := 0) rfl rfl ?_
  refine wpl_nil ?_
  refine nrm ?_
  refine wpc_if (t := (a0 == 0)) rfl (fun hc3 => ?_) (fun hc3 => ?_)
  · replace hm := ifT hc3 hm
    refine wpc_seq ?_
    refine wpc_seq ?_
    obtain ⟨x2, q2, hm⟩ := obind_some hm
    have HM : MonoAll [(32, fun (M : Mem) (v : Value) => v = .agg #[vU a2.1, vU a2.2]), (33, fun (M : Mem) (v : Value) => v = .agg #[vU x2.1, vU x2.2])] := ⟨(fun _ _ _ _ h => h), (fun _ _ _ _ h => h), trivial⟩
    refine wpc_flowG HM 2 mixed rfl rfl rfl [32, 33] (fun L f M w => St M ((bx b2 [vU a3.1, vU a3.2] 27) :: (bx b1 [vU a2.1, vU a2.2] 27) :: As) w) (St.drew S5 _) ?_ ?_
    · refine ⟨?_, ?_, trivial⟩
      · intro L f3 w6 hL hd hc ⟨m6, L1, S8, K, hO⟩
        obtain ⟨u3, rfl⟩ := fr_of (N := 51) (L := []) hO trivial
        replace S8 : St _ ((bx b2 [vU a3.1, vU a3.2] 27) :: (bx b1 [vU a2.1, vU a2.2] 27) :: As) _ := S8
        replace a4h0 := a4h0.up L1
        have L2 := Mem.rfl' m6
        refine s_ld (i := 1) (cs := [vU a2.1, vU a2.2]) S8 rfl rfl Tryd.isAgg27 Tryd.sizeOf27 rfl (fun h => by cases h) ?_
        refine wpn ?_
        refine ⟨m6, Mem.tr L1 L2, ?_, facts_step HM rfl K L2 rfl rfl rfl, outP⟩
        exact S8
      · intro L f4 w7 hL hd hc ⟨m7, L3, S9, K, hO⟩
        obtain ⟨u4, rfl⟩ := fr_of (N := 51) (L := []) hO trivial
        replace S9 : St _ ((bx b2 [vU a3.1, vU a3.2] 27) :: (bx b1 [vU a2.1, vU a2.2] 27) :: As) _ := S9
        replace a4h0 := a4h0.up L3
        have L4 := Mem.rfl' m7
        refine s_call Tryd.call14 (w_ref08_Root (a0 := ([] : List (UInt64 × UInt64))) S9 (SlR.nil (a := none) (c := 0)) q2) rfl ?_
        rintro _ w8 ⟨m8, l6, S10, rfl⟩
        replace a4h0 := a4h0.up l6
        replace L4 := Mem.tr L4 l6
        clear S9
        replace S10 : St _ ((bx b2 [vU a3.1, vU a3.2] 27) :: (bx b1 [vU a2.1, vU a2.2] 27) :: As) _ := S10
        refine wpn ?_
        refine ⟨m8, Mem.tr L3 L4, ?_, facts_step HM rfl K L4 rfl rfl rfl, outP⟩
        exact S10
    intro L f5 w9 hall ⟨m9, L5, S11, K, hO⟩
    have d0 : L 0 = true := hall 0 (by decide)
    have e1 := K 0 d0
    have d1 : L 1 = true := hall 1 (by decide)
    have e2 := K 1 d1
    obtain ⟨u5, rfl⟩ := fr_of (N := 51) (L := [(32, .agg #[vU a2.1, vU a2.2]), (33, .agg #[vU x2.1, vU x2.2])]) hO ⟨e1, e2, trivial⟩
    replace S11 : St _ ((bx b2 [vU a3.1, vU a3.2] 27) :: (bx b1 [vU a2.1, vU a2.2] 27) :: As) _ := S11
    replace a4h0 := a4h0.up L5
    replace L0 := Mem.tr L0 L5
    clear S5
    refine s_neqSum (p := a2) (q := x2) rfl rfl Tryd.underlying27 Tryd.underlying25 Tryd.sizeOf25 Tryd.isAgg25 Tryd.eqGuardType27 ?_
    refine wpl_nil ?_
    refine nrm ?_
    refine wpc_if (t := (!eqSum a2 x2)) rfl (fun hc4 => ?_) (fun hc4 => ?_)
    · replace hm := ifT hc4 hm
      refine wpc_seq ?_
      refine wpc_region ?_
      refine s_asv (v := vI 71) rfl ?_
      refine wpl_nil ?_
      refine nrm ?_
      refine wpc_ret ?_
      refine thR ?_
      refine thR ?_
      refine outRw ?_
      intro we hpd
      replace S11 := St.pd S11 hpd
      obtain ⟨m10, l7, S12⟩ := St.drop S11 0
      replace L0 := Mem.tr L0 l7
      clear S11
      replace S12 : St _ ((bx b1 [vU a2.1, vU a2.2] 27) :: As) _ := S12
      obtain ⟨m11, l8, S13⟩ := St.drop S12 0
      replace L0 := Mem.tr L0 l8
      clear S12
      replace S13 : St _ (As) _ := S13
      have e0 := Option.some.inj hm
      subst e0
      exact outR [_] rfl ⟨rfl, trivial⟩ ⟨_, L0, S13, rfl⟩
    replace hm := ifF hc4 hm
    refine wpc_skip ?_
    refine nrm ?_
    refine wpc_seq ?_
    refine wpc_region ?_
    refine s_asv (v := vI 0) rfl ?_
    refine wpl_nil ?_
    refine nrm ?_
    refine wpc_ret ?_
    refine thR ?_
    refine outRw ?_
    intro we hpd
    replace S11 := St.pd S11 hpd
    obtain ⟨m12, l9, S14⟩ := St.drop S11 0
    replace L0 := Mem.tr L0 l9
    clear S11
    replace S14 : St _ ((bx b1 [vU a2.1, vU a2.2] 27) :: As) _ := S14
    obtain ⟨m13, l10, S15⟩ := St.drop S14 0
    replace L0 := Mem.tr L0 l10
    clear S14
    replace S15 : St _ (As) _ := S15
    have e0 := Option.some.inj hm
    subst e0
    exact outR [_] rfl ⟨rfl, trivial⟩ ⟨_, L0, S15, rfl⟩
  replace hm := ifF hc3 hm
  refine wpc_skip ?_
  refine nrm ?_
  refine wpc_seq ?_
  refine wpc_region ?_
  refine s_mvv (v := vI a0) rfl ?_
  refine s_mvv (v := vI a1) rfl ?_
  refine s_ld (i := 1) (cs := [vU a2.1, vU a2.2]) S5 rfl rfl Tryd.isAgg27 Tryd.sizeOf27 rfl (fun h => by cases h) ?_
  refine s_mvv (v := a4v0) rfl ?_
  obtain ⟨x3, q3, hm⟩ := obind_some hm
  refine s_call Tryd.call52 (w_ref08_both (a0 := a0) (a1 := a1) (a2 := true) (a3 := a2) (a4 := a4) S5 a4h0 q3) rfl ?_
  rintro _ w10 ⟨m14, l11, S16, rfl⟩
  replace a4h0 := a4h0.up l11
  replace L0 := Mem.tr L0 l11
  clear S5
  replace S16 : St _ ((bx b2 [vU a3.1, vU a3.2] 27) :: (bx b1 [vU a2.1, vU a2.2] 27) :: As) _ := S16
  refine s_mvv (v := .tuple #[.agg #[vU x3.1.1, vU x3.1.2], .agg #[vU x3.2.1, vU x3.2.2]]) rfl ?_
  refine s_ext (i := 0) rfl rfl ?_
  refine s_ext (i := 1) rfl rfl ?_
  refine s_alloc S16 Tryd.zeroValue27 ?_
  intro b3 w11 S17
  replace S17 : St _ ((bx b3 [vU 0, vU 0] 27) :: (bx b2 [vU a3.1, vU a3.2] 27) :: (bx b1 [vU a2.1, vU a2.2] 27) :: As) _ := S17
  clear S16
  refine s_alloc S17 Tryd.zeroValue27 ?_
  intro b4 w12 S18
  replace S18 : St _ ((bx b4 [vU 0, vU 0] 27) :: (bx b3 [vU 0, vU 0] 27) :: (bx b2 [vU a3.1, vU a3.2] 27) :: (bx b1 [vU a2.1, vU a2.2] 27) :: As) _ := S18
  clear S17
  refine s_stL (i := 1) S18 rfl rfl rfl Tryd.sizeOf27 (oneC rfl (oneC rfl oneN)) rfl ?_
  intro w13 S19
  replace S19 : St _ ((bx b4 [vU 0, vU 0] 27) :: (bx b3 [vU x3.1.1, vU x3.1.2] 27) :: (bx b2 [vU a3.1, vU a3.2] 27) :: (bx b1 [vU a2.1, vU a2.2] 27) :: As) _ := S19
  clear S18
  refine s_stL (i := 0) S19 rfl rfl rfl Tryd.sizeOf27 (oneC rfl (oneC rfl oneN)) rfl ?_
  intro w14 S20
  replace S20 : St _ ((bx b4 [vU x3.2.1, vU x3.2.2] 27) :: (bx b3 [vU x3.1.1, vU x3.1.2] 27) :: (bx b2 [vU a3.1, vU a3.2] 27) :: (bx b1 [vU a2.1, vU a2.2] 27) :: As) _ := S20
  clear S19
  refine wpl_nil ?_
  refine nrm ?_
  refine wpc_seq ?_
  refine wpc_seq ?_
  refine wpc_region ?_
  refine s_ld (i := 1) (cs := [vU x3.1.1, vU x3.1.2]) S20 rfl rfl Tryd.isAgg27 Tryd.sizeOf27 rfl (fun h => by cases h) ?_
  refine s_ld (i := 3) (cs := [vU a2.1, vU a2.2]) S20 rfl rfl Tryd.isAgg27 Tryd.sizeOf27 rfl (fun h => by cases h) ?_
  refine s_neqSum (p := x3.1) (q := a2) rfl rfl Tryd.underlying27 Tryd.underlying25 Tryd.sizeOf25 Tryd.isAgg25 Tryd.eqGuardType27 ?_
  refine s_mvv (v := vb (!eqSum x3.1 a2)) rfl ?_
  refine wpl_cut 4 [47, 48, 49, 50] (fun f' w' => w' = w14 ∧ AllAt f' [(50, vb ((!eqSum x3.1 a2) || (!eqSum x3.2 a3)))]) ?_ ?_
  · rcases bool_tf (!eqSum x3.1 a2) with hb3 | hb3
    · refine wpl_no (d := 46) rfl rfl (congrArg Value.bool hb3) ?_
      refine wpl_no (d := 46) rfl rfl (congrArg Value.bool hb3) ?_
      refine wpl_no (d := 46) rfl rfl (congrArg Value.bool hb3) ?_
      refine s_pickT (congrArg Value.bool hb3) rfl ?_
      exact wpl_nil (nrm ⟨outP, rfl, congrArg Value.bool (or_t hb3), trivial⟩)
    · refine wpl_yes (d := 46) rfl rfl (congrArg Value.bool hb3) ?_
      refine s_ld (i := 0) (cs := [vU x3.2.1, vU x3.2.2]) S20 rfl rfl Tryd.isAgg27 Tryd.sizeOf27 rfl (fun h => by cases h) ?_
      refine wpl_yes (d := 46) rfl rfl (congrArg Value.bool hb3) ?_
      refine s_ld (i := 2) (cs := [vU a3.1, vU a3.2]) S20 rfl rfl Tryd.isAgg27 Tryd.sizeOf27 rfl (fun h => by cases h) ?_
      refine wpl_yes (d := 46) rfl rfl (congrArg Value.bool hb3) ?_
      refine s_neqSum (p := x3.2) (q := a3) rfl rfl Tryd.underlying27 Tryd.underlying25 Tryd.sizeOf25 Tryd.isAgg25 Tryd.eqGuardType27 ?_
      refine s_pickF (congrArg Value.bool hb3) rfl ?_
      exact wpl_nil (nrm ⟨outP, rfl, congrArg Value.bool (or_f hb3), trivial⟩)
  rintro f6 w15 ho ⟨h3, ha⟩
  subst h3
  obtain ⟨u6, rfl⟩ := fr_of (N := 51) ho ha
  refine wpl_nil ?_
  refine nrm ?_
  refine wpc_if (t := ((!eqSum x3.1 a2) || (!eqSum x3.2 a3))) rfl (fun hc5 => ?_) (fun hc5 => ?_)
  · replace hm := ifT hc5 hm
    refine wpc_seq ?_
    refine wpc_region ?_
    refine s_asv (v := vI 71) rfl ?_
    refine wpl_nil ?_
    refine nrm ?_
    refine wpc_ret ?_
    refine thR ?_
    refine outRw ?_
    intro we hpd
    replace S20 := St.pd S20 hpd
    obtain ⟨m15, l12, S21⟩ := St.drop S20 0
    replace L0 := Mem.tr L0 l12
    clear S20
    replace S21 : St _ ((bx b3 [vU x3.1.1, vU x3.1.2] 27) :: (bx b2 [vU a3.1, vU a3.2] 27) :: (bx b1 [vU a2.1, vU a2.2] 27) :: As) _ := S21
    obtain ⟨m16, l13, S22⟩ := St.drop S21 0
    replace L0 := Mem.tr L0 l13
    clear S21
    replace S22 : St _ ((bx b2 [vU a3.1, vU a3.2] 27) :: (bx b1 [vU a2.1, vU a2.2] 27) :: As) _ := S22
    obtain ⟨m17, l14, S23⟩ := St.drop S22 0
    replace L0 := Mem.tr L0 l14
    clear S22
    replace S23 : St _ ((bx b1 [vU a2.1, vU a2.2] 27) :: As) _ := S23
    obtain ⟨m18, l15, S24⟩ := St.drop S23 0
    replace L0 := Mem.tr L0 l15
    clear S23
    replace S24 : St _ (As) _ := S24
    have e0 := Option.some.inj hm
    subst e0
    exact outR [_] rfl ⟨rfl, trivial⟩ ⟨_, L0, S24, rfl⟩
  replace hm := ifF hc5 hm
  refine wpc_skip ?_
  refine nrm ?_
  refine wpc_seq ?_
  refine wpc_region ?_
  refine s_asv (v := vI 0) rfl ?_
  refine wpl_nil ?_
  refine nrm ?_
  refine wpc_ret ?_
  refine outRw ?_
  intro we hpd
  replace S20 := St.pd S20 hpd
  obtain ⟨m19, l16, S25⟩ := St.drop S20 0
  replace L0 := Mem.tr L0 l16
  clear S20
  replace S25 : St _ ((bx b3 [vU x3.1.1, vU x3.1.2] 27) :: (bx b2 [vU a3.1, vU a3.2] 27) :: (bx b1 [vU a2.1, vU a2.2] 27) :: As) _ := S25
  obtain ⟨m20, l17, S26⟩ := St.drop S25 0
  replace L0 := Mem.tr L0 l17
  clear S25
  replace S26 : St _ ((bx b2 [vU a3.1, vU a3.2] 27) :: (bx b1 [vU a2.1, vU a2.2] 27) :: As) _ := S26
  obtain ⟨m21, l18, S27⟩ := St.drop S26 0
  replace L0 := Mem.tr L0 l18
  clear S26
  replace S27 : St _ ((bx b1 [vU a2.1, vU a2.2] 27) :: As) _ := S27
  obtain ⟨m22, l19, S28⟩ := St.drop S27 0
  replace L0 := Mem.tr L0 l19
  clear S27
  replace S28 : St _ (As) _ := S28
  have e0 := Option.some.inj hm
  subst e0
  exact outR [_] rfl ⟨rfl, trivial⟩ ⟨_, L0, S28, rfl⟩

end Go.Proofs.YtohipjalgccmnaaDoor
