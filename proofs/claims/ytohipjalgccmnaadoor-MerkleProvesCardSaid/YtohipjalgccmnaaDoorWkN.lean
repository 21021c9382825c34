/- The walks of some functions, written by program. Conditions: none. -/
import Derived.Test.YtohipjalgccmnaaDoorWkE
set_option maxHeartbeats 20000000
set_option maxRecDepth 100000
set_option linter.unusedVariables false
set_option linter.unusedSimpArgs false
namespace Go.Proofs.YtohipjalgccmnaaDoor
open Go Go.Gw

def r_ref08_way : Nat → (List (UInt64 × UInt64)) → Int → Option (List (UInt64 × UInt64))
  | 0, _, _ => none
  | n + 1, a0, a1 =>
    if ((a0.length : Int) == 1) = true then
      some ([] : List (UInt64 × UInt64))
    else
    obind (m_ref08_First (a0.length : Int)) fun x1 =>
    if (decide (a1 < x1)) = true then
      obind (cut a0 0 x1) fun x2 =>
      obind (r_ref08_way n x2 a1) fun x3 =>
      obind (cut a0 x1 (a0.length : Int)) fun x4 =>
      obind (m_ref08_Root x4) fun x5 =>
      obind (app 16 x3 ([x5] : List (UInt64 × UInt64))) fun x6 =>
      some x6
    else
    obind (cut a0 x1 (a0.length : Int)) fun x7 =>
    obind (r_ref08_way n x7 (w64 (a1 - x1))) fun x8 =>
    obind (cut a0 0 x1) fun x9 =>
    obind (m_ref08_Root x9) fun x10 =>
    obind (app 16 x8 ([x10] : List (UInt64 × UInt64))) fun x11 =>
    some x11

def m_ref08_way (a0 : List (UInt64 × UInt64)) (a1 : Int) : Option (List (UInt64 × UInt64)) := r_ref08_way FUEL a0 a1

theorem wr_ref08_way (n : Nat) : ∀ {m : Mem} {As : List Ow} {w : World} {a0 : List (UInt64 × UInt64)} {a0v0 : Value} {a1 : Int} {r : List (UInt64 × UInt64)} (S : St m (As) w) (a0h0 : SlR m a0v0 a0) (hm : r_ref08_way n a0 a1 = some r),
    CallsR Tryd.prog 39 #[a0v0, vI a1] w fun v w' => ∃ (M : Mem), m ≤ M ∧ ∃ (rv0 : Value) (rc0 : List Value), St M ((row 2 rv0 rc0 r.length) :: As) w' ∧ v = rv0 ∧ RepL M rc0 r := by
  induction n with
  | zero => intro m As w a0 a0v0 a1 r S a0h0 hm; cases hm
  | succ n ih =>
    intro m As w a0 a0v0 a1 r S a0h0 hm
    unfold r_ref08_way at hm
    have L0 := Mem.rfl' m
    refine callsR (args := [a0v0, vI a1]) Tryd.func39 rfl Tryd.ntmps39 (Nat.le_of_ble_eq_true rfl) ?_
    refine wpc_seq ?_
    refine wpc_region ?_
    refine s_asv (v := .slice none 0 0) rfl ?_
    refine wpl_nil ?_
    refine nrm ?_
    refine wpc_seq ?_
    refine wpc_seq ?_
    refine wpc_region ?_
    refine s_mvv (v := a0v0) rfl ?_
    refine s_lenR (xs := a0) rfl a0h0 Tryd.underlying22 ?_
    refine s_eql (m := (a0.length : Int)) (n := 1) rfl rfl ?_
    refine wpl_nil ?_
    refine nrm ?_
    refine wpc_if (t := ((a0.length : Int) == 1)) rfl (fun hc1 => ?_) (fun hc1 => ?_)
    · replace hm := ifT hc1 hm
      refine wpc_seq ?_
      refine wpc_region ?_
      refine s_asv (v := .slice none 0 0) rfl ?_
      refine wpl_nil ?_
      refine nrm ?_
      refine wpc_ret ?_
      refine thR ?_
      refine outRw ?_
      intro we hpd
      replace S := St.pd S hpd
      have S1 := St.rowNil S 2
      have h1 : RepL m [] ([] : List (UInt64 × UInt64)) := RepL.nil
      replace S1 : St _ ((row 2 (.slice none 0 0) [] ([] : List (UInt64 × UInt64)).length) :: As) _ := S1
      clear S
      have e0 := Option.some.inj hm
      subst e0
      exact outR [_] rfl ⟨rfl, trivial⟩ ⟨_, L0, _, _, S1, rfl, h1⟩
    replace hm := ifF hc1 hm
    refine wpc_skip ?_
    refine nrm ?_
    refine wpc_seq ?_
    refine wpc_region ?_
    refine s_mvv (v := a0v0) rfl ?_
    refine s_lenR (xs := a0) rfl a0h0 Tryd.underlying22 ?_
    obtain ⟨x1, q1, hm⟩ := obind_some hm
    refine s_call Tryd.call35 (w_ref08_First (a0 := (a0.length : Int)) S  q1) rfl ?_
    rintro _ w1 ⟨m1, l1, S2, rfl⟩
    replace a0h0 := a0h0.up l1
    replace L0 := Mem.tr L0 l1
    clear S
    replace S2 : St _ (As) _ := S2
    refine s_asv (v := vI x1) rfl ?_
    refine wpl_nil ?_
    refine nrm ?_
    refine wpc_seq ?_
    refine wpc_seq ?_
    refine wpc_region ?_
    refine s_mvv (v := vI a1) rfl ?_
    refine s_mvv (v := vI x1) rfl ?_
    refine s_lss (m := a1) (n := x1) rfl rfl ?_
    refine wpl_nil ?_
    refine nrm ?_
    refine wpc_if (t := (decide (a1 < x1))) rfl (fun hc2 => ?_) (fun hc2 => ?_)
    · replace hm := ifT hc2 hm
      refine wpc_seq ?_
      obtain ⟨x2, q2, hm⟩ := obind_some hm
      obtain ⟨x3, q3, hm⟩ := obind_some hm
      obtain ⟨x4, q4, hm⟩ := obind_some hm
      have HM : MonoAll [(15, fun (M : Mem) (v : Value) => v = a0v0), (16, fun (M : Mem) (v : Value) => v = vI x1), (17, fun (M : Mem) (v : Value) => ∃ (v1 : Value), v = v1 ∧ SlR M v1 x2), (18, fun (M : Mem) (v : Value) => v = vI a1), (19, fun _ _ => True), (20, fun (M : Mem) (v : Value) => v = a0v0), (21, fun (M : Mem) (v : Value) => v = vI x1), (22, fun (M : Mem) (v : Value) => ∃ (v4 : Value), v = v4 ∧ SlR M v4 x4)] := ⟨(fun _ _ _ _ h => h), (fun _ _ _ _ h => h), (fun _ _ _ l ⟨v1, e, h2⟩ => ⟨v1, e, h2.up l⟩), (fun _ _ _ _ h => h), (fun _ _ _ _ h => h), (fun _ _ _ _ h => h), (fun _ _ _ _ h => h), (fun _ _ _ l ⟨v4, e, h5⟩ => ⟨v4, e, h5.up l⟩), trivial⟩
      refine wpc_flowG HM 8 mixed rfl rfl rfl [15, 16, 17, 18, 19, 20, 21, 22] (fun L f M w => ∃ (X1 : List Ow), ((L 4 = false → X1 = []) ∧ (L 4 = true → (RowS M X1 2 (f 19) x3))) ∧ St M ((X1 ++ As)) w) (⟨[], ⟨fun _ => rfl, fun hx => ff hx⟩, St.drew S2 _⟩) ?_ ?_
      · refine ⟨?_, ?_, ?_, ?_, ?_, ?_, ?_, ?_, trivial⟩
        · intro L f1 w2 hL hd hc ⟨m2, L1, ⟨X1, C1, S3⟩, K, hO⟩
          obtain ⟨u1, rfl⟩ := fr_of (N := 39) (L := []) hO trivial
          replace S3 : St _ ((X1 ++ As)) _ := S3
          have L2 := Mem.rfl' m2
          refine s_mvv (v := a0v0) rfl ?_
          refine wpn ?_
          refine ⟨m2, Mem.tr L1 L2, ⟨X1, C1, ?_⟩, facts_step HM rfl K L2 rfl rfl rfl, outP⟩
          exact S3
        · intro L f2 w3 hL hd hc ⟨m3, L3, ⟨X1, C2, S4⟩, K, hO⟩
          obtain ⟨u2, rfl⟩ := fr_of (N := 39) (L := []) hO trivial
          replace S4 : St _ ((X1 ++ As)) _ := S4
          have L4 := Mem.rfl' m3
          refine s_mvv (v := vI x1) rfl ?_
          refine wpn ?_
          refine ⟨m3, Mem.tr L3 L4, ⟨X1, C2, ?_⟩, facts_step HM rfl K L4 rfl rfl rfl, outP⟩
          exact S4
        · intro L f3 w4 hL hd hc ⟨m4, L5, ⟨X1, C3, S5⟩, K, hO⟩
          have d0 : L 0 = true := dep hd rfl
          have e1 := K 0 d0
          have d1 : L 1 = true := dep hd rfl
          have e2 := K 1 d1
          obtain ⟨u3, rfl⟩ := fr_of (N := 39) (L := [(15, a0v0), (16, vI x1)]) hO ⟨e1, e2, trivial⟩
          replace S5 : St _ ((X1 ++ As)) _ := S5
          replace a0h0 := a0h0.up L5
          have L6 := Mem.rfl' m4
          refine s_cut (ys := x2) (l := 0) (h := x1) rfl a0h0 Tryd.underlying22 Tryd.sizeOf27 (.inl ⟨rfl, rfl⟩) (.inr ⟨_, rfl⟩) (.inl rfl) q2 ?_
          intro v1 h2
          refine wpn ?_
          refine ⟨m4, Mem.tr L5 L6, ⟨X1, C3, ?_⟩, facts_step HM rfl K L6 rfl rfl ⟨v1, rfl, h2⟩, outP⟩
          exact S5
        · intro L f4 w5 hL hd hc ⟨m5, L7, ⟨X1, C4, S6⟩, K, hO⟩
          obtain ⟨u4, rfl⟩ := fr_of (N := 39) (L := []) hO trivial
          replace S6 : St _ ((X1 ++ As)) _ := S6
          have L8 := Mem.rfl' m5
          refine s_mvv (v := vI a1) rfl ?_
          refine wpn ?_
          refine ⟨m5, Mem.tr L7 L8, ⟨X1, C4, ?_⟩, facts_step HM rfl K L8 rfl rfl rfl, outP⟩
          exact S6
        · intro L f5 w6 hL hd hc ⟨m6, L9, ⟨X1, C5, S7⟩, K, hO⟩
          have d2 : L 2 = true := dep hd rfl
          obtain ⟨v2, e3, h3⟩ := K 2 d2
          have d3 : L 3 = true := dep hd rfl
          have e4 := K 3 d3
          have d4 : L 4 = false := hL
          obtain ⟨u5, rfl⟩ := fr_of (N := 39) (L := [(17, v2), (18, vI a1)]) hO ⟨e3, e4, trivial⟩
          replace S7 : St _ ((X1 ++ As)) _ := S7
          obtain rfl := C5.1 d4
          replace S7 : St _ (As) _ := S7
          replace a0h0 := a0h0.up L9
          have L10 := Mem.rfl' m6
          refine s_call Tryd.call39 (ih (a0 := x2) (a1 := a1) S7 h3 q3) rfl ?_
          rintro v3 w7 ⟨m7, l2, _, c1, S8, rfl, h4⟩
          replace a0h0 := a0h0.up l2
          replace h3 := h3.up l2
          replace L10 := Mem.tr L10 l2
          clear S7
          replace S8 : St _ ((row 2 v3 c1 x3.length) :: As) _ := S8
          refine wpn ?_
          refine ⟨m7, Mem.tr L9 L10, ⟨[row 2 v3 c1 x3.length], ⟨fun hx => tf rfl hx, fun _ => ⟨_, rfl, h4⟩⟩, ?_⟩, facts_step HM rfl K L10 rfl rfl trivial, outP⟩
          exact S8
        · intro L f6 w8 hL hd hc ⟨m8, L11, ⟨X1, C6, S9⟩, K, hO⟩
          obtain ⟨u6, rfl⟩ := fr_of (N := 39) (L := []) hO trivial
          replace S9 : St _ ((X1 ++ As)) _ := S9
          have L12 := Mem.rfl' m8
          refine s_mvv (v := a0v0) rfl ?_
          refine wpn ?_
          refine ⟨m8, Mem.tr L11 L12, ⟨X1, C6, ?_⟩, facts_step HM rfl K L12 rfl rfl rfl, outP⟩
          exact S9
        · intro L f7 w9 hL hd hc ⟨m9, L13, ⟨X1, C7, S10⟩, K, hO⟩
          obtain ⟨u7, rfl⟩ := fr_of (N := 39) (L := []) hO trivial
          replace S10 : St _ ((X1 ++ As)) _ := S10
          have L14 := Mem.rfl' m9
          refine s_mvv (v := vI x1) rfl ?_
          refine wpn ?_
          refine ⟨m9, Mem.tr L13 L14, ⟨X1, C7, ?_⟩, facts_step HM rfl K L14 rfl rfl rfl, outP⟩
          exact S10
        · intro L f8 w10 hL hd hc ⟨m10, L15, ⟨X1, C8, S11⟩, K, hO⟩
          have d5 : L 5 = true := dep hd rfl
          have e5 := K 5 d5
          have d6 : L 6 = true := dep hd rfl
          have e6 := K 6 d6
          obtain ⟨u8, rfl⟩ := fr_of (N := 39) (L := [(20, a0v0), (21, vI x1)]) hO ⟨e5, e6, trivial⟩
          replace S11 : St _ ((X1 ++ As)) _ := S11
          replace a0h0 := a0h0.up L15
          have L16 := Mem.rfl' m10
          refine s_cut (ys := x4) (l := x1) (h := (a0.length : Int)) rfl a0h0 Tryd.underlying22 Tryd.sizeOf27 (.inr ⟨_, rfl⟩) (.inl ⟨rfl, rfl⟩) (.inl rfl) q4 ?_
          intro v4 h5
          refine wpn ?_
          refine ⟨m10, Mem.tr L15 L16, ⟨X1, C8, ?_⟩, facts_step HM rfl K L16 rfl rfl ⟨v4, rfl, h5⟩, outP⟩
          exact S11
      intro L f9 w11 hall ⟨m11, L17, ⟨X1, C9, S12⟩, K, hO⟩
      obtain ⟨v5, e7⟩ : ∃ x, f9 19 = x := ⟨_, rfl⟩
      have d7 : L 7 = true := hall 7 (by decide)
      obtain ⟨v6, e8, h6⟩ := K 7 d7
      have d4 : L 4 = true := hall 4 (by decide)
      obtain ⟨u9, rfl⟩ := fr_of (N := 39) (L := [(19, v5), (22, v6)]) hO ⟨e7, e8, trivial⟩
      replace S12 : St _ ((X1 ++ As)) _ := S12
      obtain ⟨c2, rfl, h7⟩ := C9.2 d4
      replace h7 : RepL _ c2 x3 := h7
      replace S12 : St _ ((row 2 v5 c2 x3.length) :: As) _ := S12
      replace a0h0 := a0h0.up L17
      replace L0 := Mem.tr L0 L17
      clear S2
      obtain ⟨x5, q5, hm⟩ := obind_some hm
      refine s_call Tryd.call14 (w_ref08_Root (a0 := x4) S12 h6 q5) rfl ?_
      rintro _ w12 ⟨m12, l3, S13, rfl⟩
      replace h7 := RepL.up l3 h7
      replace h6 := h6.up l3
      replace L0 := Mem.tr L0 l3
      clear S12
      replace S13 : St _ ((row 2 v5 c2 x3.length) :: As) _ := S13
      refine s_litC (parts := [.tmp 23]) (vs := [.agg #[vU x5.1, vU x5.2]]) (cls := [[vU x5.1, vU x5.2]]) (xs := ([x5] : List (UInt64 × UInt64))) (n := 1) S13 Tryd.underlying22 Tryd.sizeOf27 Tryd.zeroValue27 rfl ⟨rfl, trivial⟩ (RepL.cons (c := [vU x5.1, vU x5.2]) (x := x5) mk_arr2_UInt64 RepL.nil) rfl rfl rfl (by decide) (by decide) ?_
      intro v7 m13 w13 l4 S14 h8
      replace h7 := RepL.up l4 h7
      replace L0 := Mem.tr L0 l4
      clear S13
      obtain ⟨x6, q6, hm⟩ := obind_some hm
      refine s_app (i := 0) (zs := x6) (bytes := 16) (ti := Tryd.t27) S14 rfl rfl h7 rfl rfl h8 q6 Tryd.underlying22 Tryd.type27 rfl rfl rfl rfl ?_
      intro v8 c3 w14 S15 h9
      replace S15 : St _ ((row 2 v8 c3 x6.length) :: As) _ := S15
      clear S14
      refine s_asv (v := v8) rfl ?_
      refine wpl_nil ?_
      refine nrm ?_
      refine wpc_ret ?_
      refine thR ?_
      refine outRw ?_
      intro we hpd
      replace S15 := St.pd S15 hpd
      have e0 := Option.some.inj hm
      subst e0
      exact outR [_] rfl ⟨rfl, trivial⟩ ⟨_, L0, _, _, S15, rfl, h9⟩
    replace hm := ifF hc2 hm
    refine wpc_skip ?_
    refine nrm ?_
    refine wpc_seq ?_
    obtain ⟨x7, q7, hm⟩ := obind_some hm
    obtain ⟨x8, q8, hm⟩ := obind_some hm
    obtain ⟨x9, q9, hm⟩ := obind_some hm
    have HM : MonoAll [(26, fun (M : Mem) (v : Value) => v = a0v0), (27, fun (M : Mem) (v : Value) => v = vI x1), (28, fun (M : Mem) (v : Value) => ∃ (v9 : Value), v = v9 ∧ SlR M v9 x7), (29, fun (M : Mem) (v : Value) => v = vI a1), (30, fun (M : Mem) (v : Value) => v = vI x1), (31, fun (M : Mem) (v : Value) => v = vI (w64 (a1 - x1))), (32, fun _ _ => True), (33, fun (M : Mem) (v : Value) => v = a0v0), (34, fun (M : Mem) (v : Value) => v = vI x1), (35, fun (M : Mem) (v : Value) => ∃ (v12 : Value), v = v12 ∧ SlR M v12 x9)] := ⟨(fun _ _ _ _ h => h), (fun _ _ _ _ h => h), (fun _ _ _ l ⟨v9, e, h10⟩ => ⟨v9, e, h10.up l⟩), (fun _ _ _ _ h => h), (fun _ _ _ _ h => h), (fun _ _ _ _ h => h), (fun _ _ _ _ h => h), (fun _ _ _ _ h => h), (fun _ _ _ _ h => h), (fun _ _ _ l ⟨v12, e, h13⟩ => ⟨v12, e, h13.up l⟩), trivial⟩
    refine wpc_flowG HM 10 mixed rfl rfl rfl [26, 27, 28, 29, 30, 31, 32, 33, 34, 35] (fun L f M w => ∃ (X2 : List Ow), ((L 6 = false → X2 = []) ∧ (L 6 = true → (RowS M X2 2 (f 32) x8))) ∧ St M ((X2 ++ As)) w) (⟨[], ⟨fun _ => rfl, fun hx => ff hx⟩, St.drew S2 _⟩) ?_ ?_
    · refine ⟨?_, ?_, ?_, ?_, ?_, ?_, ?_, ?_, ?_, ?_, trivial⟩
      · intro L f10 w15 hL hd hc ⟨m14, L18, ⟨X2, C10, S16⟩, K, hO⟩
        obtain ⟨u10, rfl⟩ := fr_of (N := 39) (L := []) hO trivial
        replace S16 : St _ ((X2 ++ As)) _ := S16
        have L19 := Mem.rfl' m14
        refine s_mvv (v := a0v0) rfl ?_
        refine wpn ?_
        refine ⟨m14, Mem.tr L18 L19, ⟨X2, C10, ?_⟩, facts_step HM rfl K L19 rfl rfl rfl, outP⟩
        exact S16
      · intro L f11 w16 hL hd hc ⟨m15, L20, ⟨X2, C11, S17⟩, K, hO⟩
        obtain ⟨u11, rfl⟩ := fr_of (N := 39) (L := []) hO trivial
        replace S17 : St _ ((X2 ++ As)) _ := S17
        have L21 := Mem.rfl' m15
        refine s_mvv (v := vI x1) rfl ?_
        refine wpn ?_
        refine ⟨m15, Mem.tr L20 L21, ⟨X2, C11, ?_⟩, facts_step HM rfl K L21 rfl rfl rfl, outP⟩
        exact S17
      · intro L f12 w17 hL hd hc ⟨m16, L22, ⟨X2, C12, S18⟩, K, hO⟩
        have d0 : L 0 = true := dep hd rfl
        have e9 := K 0 d0
        have d1 : L 1 = true := dep hd rfl
        have e10 := K 1 d1
        obtain ⟨u12, rfl⟩ := fr_of (N := 39) (L := [(26, a0v0), (27, vI x1)]) hO ⟨e9, e10, trivial⟩
        replace S18 : St _ ((X2 ++ As)) _ := S18
        replace a0h0 := a0h0.up L22
        have L23 := Mem.rfl' m16
        refine s_cut (ys := x7) (l := x1) (h := (a0.length : Int)) rfl a0h0 Tryd.underlying22 Tryd.sizeOf27 (.inr ⟨_, rfl⟩) (.inl ⟨rfl, rfl⟩) (.inl rfl) q7 ?_
        intro v9 h10
        refine wpn ?_
        refine ⟨m16, Mem.tr L22 L23, ⟨X2, C12, ?_⟩, facts_step HM rfl K L23 rfl rfl ⟨v9, rfl, h10⟩, outP⟩
        exact S18
      · intro L f13 w18 hL hd hc ⟨m17, L24, ⟨X2, C13, S19⟩, K, hO⟩
        obtain ⟨u13, rfl⟩ := fr_of (N := 39) (L := []) hO trivial
        replace S19 : St _ ((X2 ++ As)) _ := S19
        have L25 := Mem.rfl' m17
        refine s_mvv (v := vI a1) rfl ?_
        refine wpn ?_
        refine ⟨m17, Mem.tr L24 L25, ⟨X2, C13, ?_⟩, facts_step HM rfl K L25 rfl rfl rfl, outP⟩
        exact S19
      · intro L f14 w19 hL hd hc ⟨m18, L26, ⟨X2, C14, S20⟩, K, hO⟩
        obtain ⟨u14, rfl⟩ := fr_of (N := 39) (L := []) hO trivial
        replace S20 : St _ ((X2 ++ As)) _ := S20
        have L27 := Mem.rfl' m18
        refine s_mvv (v := vI x1) rfl ?_
        refine wpn ?_
        refine ⟨m18, Mem.tr L26 L27, ⟨X2, C14, ?_⟩, facts_step HM rfl K L27 rfl rfl rfl, outP⟩
        exact S20
      · intro L f15 w20 hL hd hc ⟨m19, L28, ⟨X2, C15, S21⟩, K, hO⟩
        have d3 : L 3 = true := dep hd rfl
        have e11 := K 3 d3
        have d4 : L 4 = true := dep hd rfl
        have e12 := K 4 d4
        obtain ⟨u15, rfl⟩ := fr_of (N := 39) (L := [(29, vI a1), (30, vI x1)]) hO ⟨e11, e12, trivial⟩
        replace S21 : St _ ((X2 ++ As)) _ := S21
        have L29 := Mem.rfl' m19
        refine s_subI (m := a1) (n := x1) rfl rfl ?_
        refine wpn ?_
        refine ⟨m19, Mem.tr L28 L29, ⟨X2, C15, ?_⟩, facts_step HM rfl K L29 rfl rfl rfl, outP⟩
        exact S21
      · intro L f16 w21 hL hd hc ⟨m20, L30, ⟨X2, C16, S22⟩, K, hO⟩
        have d2 : L 2 = true := dep hd rfl
        obtain ⟨v10, e13, h11⟩ := K 2 d2
        have d5 : L 5 = true := dep hd rfl
        have e14 := K 5 d5
        have d6 : L 6 = false := hL
        obtain ⟨u16, rfl⟩ := fr_of (N := 39) (L := [(28, v10), (31, vI (w64 (a1 - x1)))]) hO ⟨e13, e14, trivial⟩
        replace S22 : St _ ((X2 ++ As)) _ := S22
        obtain rfl := C16.1 d6
        replace S22 : St _ (As) _ := S22
        replace a0h0 := a0h0.up L30
        have L31 := Mem.rfl' m20
        refine s_call Tryd.call39 (ih (a0 := x7) (a1 := (w64 (a1 - x1))) S22 h11 q8) rfl ?_
        rintro v11 w22 ⟨m21, l5, _, c4, S23, rfl, h12⟩
        replace a0h0 := a0h0.up l5
        replace h11 := h11.up l5
        replace L31 := Mem.tr L31 l5
        clear S22
        replace S23 : St _ ((row 2 v11 c4 x8.length) :: As) _ := S23
        refine wpn ?_
        refine ⟨m21, Mem.tr L30 L31, ⟨[row 2 v11 c4 x8.length], ⟨fun hx => tf rfl hx, fun _ => ⟨_, rfl, h12⟩⟩, ?_⟩, facts_step HM rfl K L31 rfl rfl trivial, outP⟩
        exact S23
      · intro L f17 w23 hL hd hc ⟨m22, L32, ⟨X2, C17, S24⟩, K, hO⟩
        obtain ⟨u17, rfl⟩ := fr_of (N := 39) (L := []) hO trivial
        replace S24 : St _ ((X2 ++ As)) _ := S24
        have L33 := Mem.rfl' m22
        refine s_mvv (v := a0v0) rfl ?_
        refine wpn ?_
        refine ⟨m22, Mem.tr L32 L33, ⟨X2, C17, ?_⟩, facts_step HM rfl K L33 rfl rfl rfl, outP⟩
        exact S24
      · intro L f18 w24 hL hd hc ⟨m23, L34, ⟨X2, C18, S25⟩, K, hO⟩
        obtain ⟨u18, rfl⟩ := fr_of (N := 39) (L := []) hO trivial
        replace S25 : St _ ((X2 ++ As)) _ := S25
        have L35 := Mem.rfl' m23
        refine s_mvv (v := vI x1) rfl ?_
        refine wpn ?_
        refine ⟨m23, Mem.tr L34 L35, ⟨X2, C18, ?_⟩, facts_step HM rfl K L35 rfl rfl rfl, outP⟩
        exact S25
      · intro L f19 w25 hL hd hc ⟨m24, L36, ⟨X2, C19, S26⟩, K, hO⟩
        have d7 : L 7 = true := dep hd rfl
        have e15 := K 7 d7
        have d8 : L 8 = true := dep hd rfl
        have e16 := K 8 d8
        obtain ⟨u19, rfl⟩ := fr_of (N := 39) (L := [(33, a0v0), (34, vI x1)]) hO ⟨e15, e16, trivial⟩
        replace S26 : St _ ((X2 ++ As)) _ := S26
        replace a0h0 := a0h0.up L36
        have L37 := Mem.rfl' m24
        refine s_cut (ys := x9) (l := 0) (h := x1) rfl a0h0 Tryd.underlying22 Tryd.sizeOf27 (.inl ⟨rfl, rfl⟩) (.inr ⟨_, rfl⟩) (.inl rfl) q9 ?_
        intro v12 h13
        refine wpn ?_
        refine ⟨m24, Mem.tr L36 L37, ⟨X2, C19, ?_⟩, facts_step HM rfl K L37 rfl rfl ⟨v12, rfl, h13⟩, outP⟩
        exact S26
    intro L f20 w26 hall ⟨m25, L38, ⟨X2, C20, S27⟩, K, hO⟩
    obtain ⟨v13, e17⟩ : ∃ x, f20 32 = x := ⟨_, rfl⟩
    have d9 : L 9 = true := hall 9 (by decide)
    obtain ⟨v14, e18, h14⟩ := K 9 d9
    have d6 : L 6 = true := hall 6 (by decide)
    obtain ⟨u20, rfl⟩ := fr_of (N := 39) (L := [(32, v13), (35, v14)]) hO ⟨e17, e18, trivial⟩
    replace S27 : St _ ((X2 ++ As)) _ := S27
    obtain ⟨c5, rfl, h15⟩ := C20.2 d6
    replace h15 : RepL _ c5 x8 := h15
    replace S27 : St _ ((row 2 v13 c5 x8.length) :: As) _ := S27
    replace a0h0 := a0h0.up L38
    replace L0 := Mem.tr L0 L38
    clear S2
    obtain ⟨x10, q10, hm⟩ := obind_some hm
    refine s_call Tryd.call14 (w_ref08_Root (a0 := x9) S27 h14 q10) rfl ?_
    rintro _ w27 ⟨m26, l6, S28, rfl⟩
    replace h15 := RepL.up l6 h15
    replace h14 := h14.up l6
    replace L0 := Mem.tr L0 l6
    clear S27
    replace S28 : St _ ((row 2 v13 c5 x8.length) :: As) _ := S28
    refine s_litC (parts := [.tmp 36]) (vs := [.agg #[vU x10.1, vU x10.2]]) (cls := [[vU x10.1, vU x10.2]]) (xs := ([x10] : List (UInt64 × UInt64))) (n := 1) S28 Tryd.underlying22 Tryd.sizeOf27 Tryd.zeroValue27 rfl ⟨rfl, trivial⟩ (RepL.cons (c := [vU x10.1, vU x10.2]) (x := x10) mk_arr2_UInt64 RepL.nil) rfl rfl rfl (by decide) (by decide) ?_
    intro v15 m27 w28 l7 S29 h16
    replace h15 := RepL.up l7 h15
    replace L0 := Mem.tr L0 l7
    clear S28
    obtain ⟨x11, q11, hm⟩ := obind_some hm
    refine s_app (i := 0) (zs := x11) (bytes := 16) (ti := Tryd.t27) S29 rfl rfl h15 rfl rfl h16 q11 Tryd.underlying22 Tryd.type27 rfl rfl rfl rfl ?_
    intro v16 c6 w29 S30 h17
    replace S30 : St _ ((row 2 v16 c6 x11.length) :: As) _ := S30
    clear S29
    refine s_asv (v := v16) rfl ?_
    refine wpl_nil ?_
    refine nrm ?_
    refine wpc_ret ?_
    refine outRw ?_
    intro we hpd
    replace S30 := St.pd S30 hpd
    have e0 := Option.some.inj hm
    subst e0
    exact outR [_] rfl ⟨rfl, trivial⟩ ⟨_, L0, _, _, S30, rfl, h17⟩

theorem w_ref08_way {m : Mem} {As : List Ow} {w : World} {a0 : List (UInt64 × UInt64)} {a0v0 : Value} {a1 : Int} {r : List (UInt64 × UInt64)} (S : St m (As) w) (a0h0 : SlR m a0v0 a0) (hm : m_ref08_way a0 a1 = some r) :
    CallsR Tryd.prog 39 #[a0v0, vI a1] w fun v w' => ∃ (M : Mem), m ≤ M ∧ ∃ (rv0 : Value) (rc0 : List Value), St M ((row 2 rv0 rc0 r.length) :: As) w' ∧ v = rv0 ∧ RepL M rc0 r := wr_ref08_way FUEL S a0h0 hm

def m_ref08_Prove (a0 : List (UInt64 × UInt64)) (a1 : Int) : Option ((List (UInt64 × UInt64)) × Int) :=
  if (((decide ((a0.length : Int) > 256)) || (decide (a1 < 0))) || (decide (a1 ≥ (a0.length : Int)))) = true then
    some (([] : List (UInt64 × UInt64)), 80)
  else
  obind (m_ref08_way a0 a1) fun x1 =>
  some (x1, 0)

theorem w_ref08_Prove {m : Mem} {As : List Ow} {w : World} {a0 : List (UInt64 × UInt64)} {a0v0 : Value} {a1 : Int} {r : (List (UInt64 × UInt64)) × Int} (S : St m (As) w) (a0h0 : SlR m a0v0 a0) (hm : m_ref08_Prove a0 a1 = some r) :
    CallsR Tryd.prog 19 #[a0v0, vI a1] w fun v w' => ∃ (M : Mem), m ≤ M ∧ ∃ (rv0 : Value) (rc0 : List Value), St M ((row 2 rv0 rc0 r.1.length) :: As) w' ∧ v = .tuple #[rv0, vI r.2] ∧ RepL M rc0 r.1 := by
  unfold m_ref08_Prove at hm
  have L0 := Mem.rfl' m
  refine callsR (args := [a0v0, vI a1]) Tryd.func19 rfl Tryd.ntmps19 (Nat.le_of_ble_eq_true rfl) ?_
  refine wpc_seq ?_
  refine wpc_region ?_
  refine s_asv (v := .slice none 0 0) rfl ?_
  refine s_asv (v := vI 0) rfl ?_
  refine wpl_nil ?_
  refine nrm ?_
  refine wpc_seq ?_
  refine wpc_seq ?_
  refine wpc_region ?_
  refine s_mvv (v := a0v0) rfl ?_
  refine s_lenR (xs := a0) rfl a0h0 Tryd.underlying22 ?_
  refine s_gtr (m := (a0.length : Int)) (n := 256) rfl rfl ?_
  refine s_mvv (v := vb (decide ((a0.length : Int) > 256))) rfl ?_
  refine wpl_cut 3 [10, 11, 12] (fun f' w' => w' = w ∧ AllAt f' [(12, vb ((decide ((a0.length : Int) > 256)) || (decide (a1 < 0))))]) ?_ ?_
  · rcases bool_tf (decide ((a0.length : Int) > 256)) with hb1 | hb1
    · refine wpl_no (d := 9) rfl rfl (congrArg Value.bool hb1) ?_
      refine wpl_no (d := 9) rfl rfl (congrArg Value.bool hb1) ?_
      refine s_pickT (congrArg Value.bool hb1) rfl ?_
      exact wpl_nil (nrm ⟨outP, rfl, congrArg Value.bool (or_t hb1), trivial⟩)
    · refine wpl_yes (d := 9) rfl rfl (congrArg Value.bool hb1) ?_
      refine s_mvv (v := vI a1) rfl ?_
      refine wpl_yes (d := 9) rfl rfl (congrArg Value.bool hb1) ?_
      refine s_lss (m := a1) (n := 0) rfl rfl ?_
      refine s_pickF (congrArg Value.bool hb1) rfl ?_
      exact wpl_nil (nrm ⟨outP, rfl, congrArg Value.bool (or_f hb1), trivial⟩)
  rintro f1 w1 ho ⟨h1, ha⟩
  subst h1
  obtain ⟨u1, rfl⟩ := fr_of (N := 22) ho ha
  refine s_mvv (v := vb ((decide ((a0.length : Int) > 256)) || (decide (a1 < 0)))) rfl ?_
  refine wpl_cut 5 [14, 15, 16, 17, 18] (fun f' w' => w' = w1 ∧ AllAt f' [(18, vb (((decide ((a0.length : Int) > 256)) || (decide (a1 < 0))) || (decide (a1 ≥ (a0.length : Int)))))]) ?_ ?_
  · rcases bool_tf ((decide ((a0.length : Int) > 256)) || (decide (a1 < 0))) with hb2 | hb2
    · refine wpl_no (d := 13) rfl rfl (congrArg Value.bool hb2) ?_
      refine wpl_no (d := 13) rfl rfl (congrArg Value.bool hb2) ?_
      refine wpl_no (d := 13) rfl rfl (congrArg Value.bool hb2) ?_
      refine wpl_no (d := 13) rfl rfl (congrArg Value.bool hb2) ?_
      refine s_pickT (congrArg Value.bool hb2) rfl ?_
      exact wpl_nil (nrm ⟨outP, rfl, congrArg Value.bool (or_t hb2), trivial⟩)
    · refine wpl_yes (d := 13) rfl rfl (congrArg Value.bool hb2) ?_
      refine s_mvv (v := vI a1) rfl ?_
      refine wpl_yes (d := 13) rfl rfl (congrArg Value.bool hb2) ?_
      refine s_mvv (v := a0v0) rfl ?_
      refine wpl_yes (d := 13) rfl rfl (congrArg Value.bool hb2) ?_
      refine s_lenR (xs := a0) rfl a0h0 Tryd.underlying22 ?_
      refine wpl_yes (d := 13) rfl rfl (congrArg Value.bool hb2) ?_
      refine s_geq (m := a1) (n := (a0.length : Int)) rfl rfl ?_
      refine s_pickF (congrArg Value.bool hb2) rfl ?_
      exact wpl_nil (nrm ⟨outP, rfl, congrArg Value.bool (or_f hb2), trivial⟩)
  rintro f2 w2 ho ⟨h2, ha⟩
  subst h2
  obtain ⟨u2, rfl⟩ := fr_of (N := 22) ho ha
  refine wpl_nil ?_
  refine nrm ?_
  refine wpc_if (t := (((decide ((a0.length : Int) > 256)) || (decide (a1 < 0))) || (decide (a1 ≥ (a0.length : Int))))) rfl (fun hc1 => ?_) (fun hc1 => ?_)
  · replace hm := ifT hc1 hm
    refine wpc_seq ?_
    refine wpc_region ?_
    refine s_asv (v := .slice none 0 0) rfl ?_
    refine s_asv (v := vI 80) rfl ?_
    refine wpl_nil ?_
    refine nrm ?_
    refine wpc_ret ?_
    refine thR ?_
    refine outRw ?_
    intro we hpd
    replace S := St.pd S hpd
    have S1 := St.rowNil S 2
    have h3 : RepL m [] ([] : List (UInt64 × UInt64)) := RepL.nil
    replace S1 : St _ ((row 2 (.slice none 0 0) [] ([] : List (UInt64 × UInt64)).length) :: As) _ := S1
    clear S
    have e0 := Option.some.inj hm
    subst e0
    exact outR [_, _] rfl ⟨rfl, rfl, trivial⟩ ⟨_, L0, _, _, S1, rfl, h3⟩
  replace hm := ifF hc1 hm
  refine wpc_skip ?_
  refine nrm ?_
  refine wpc_seq ?_
  refine wpc_region ?_
  refine s_mvv (v := a0v0) rfl ?_
  refine s_mvv (v := vI a1) rfl ?_
  obtain ⟨x1, q1, hm⟩ := obind_some hm
  refine s_call Tryd.call39 (w_ref08_way (a0 := a0) (a1 := a1) S a0h0 q1) rfl ?_
  rintro v1 w3 ⟨m1, l1, _, c1, S2, rfl, h4⟩
  replace a0h0 := a0h0.up l1
  replace L0 := Mem.tr L0 l1
  clear S
  replace S2 : St _ ((row 2 v1 c1 x1.length) :: As) _ := S2
  refine s_asv (v := v1) rfl ?_
  refine s_asv (v := vI 0) rfl ?_
  refine wpl_nil ?_
  refine nrm ?_
  refine wpc_ret ?_
  refine outRw ?_
  intro we hpd
  replace S2 := St.pd S2 hpd
  have e0 := Option.some.inj hm
  subst e0
  exact outR [_, _] rfl ⟨rfl, rfl, trivial⟩ ⟨_, L0, _, _, S2, rfl, h4⟩

def r_ref08_long : Nat → Int → Int → Option Int
  | 0, _, _ => none
  | n + 1, a0, a1 =>
    if (a1 == 1) = true then
      some 0
    else
    obind (m_ref08_First a1) fun x1 =>
    if (decide (a0 < x1)) = true then
      obind (r_ref08_long n a0 x1) fun x2 =>
      some (w64 (x2 + 1))
    else
    obind (r_ref08_long n (w64 (a0 - x1)) (w64 (a1 - x1))) fun x3 =>
    some (w64 (x3 + 1))

def m_ref08_long (a0 : Int) (a1 : Int) : Option Int := r_ref08_long FUEL a0 a1

theorem wr_ref08_long (n : Nat) : ∀ {m : Mem} {As : List Ow} {w : World} {a0 : Int} {a1 : Int} {r : Int} (S : St m (As) w) (hm : r_ref08_long n a0 a1 = some r),
    CallsR Tryd.prog 44 #[vI a0, vI a1] w fun v w' => ∃ (M : Mem), m ≤ M ∧ St M (As) w' ∧ v = vI r := by
  induction n with
  | zero => intro m As w a0 a1 r S  hm; cases hm
  | succ n ih =>
    intro m As w a0 a1 r S  hm
    unfold r_ref08_long at hm
    have L0 := Mem.rfl' m
    refine callsR (args := [vI a0, vI a1]) Tryd.func44 rfl Tryd.ntmps44 (Nat.le_of_ble_eq_true rfl) ?_
    refine wpc_seq ?_
    refine wpc_region ?_
    refine s_asv (v := vI 0) rfl ?_
    refine wpl_nil ?_
    refine nrm ?_
    refine wpc_seq ?_
    refine wpc_seq ?_
    refine wpc_region ?_
    refine s_mvv (v := vI a1) rfl ?_
    refine s_eql (m := a1) (n := 1) rfl rfl ?_
    refine wpl_nil ?_
    refine nrm ?_
    refine wpc_if (t := (a1 == 1)) rfl (fun hc1 => ?_) (fun hc1 => ?_)
    · replace hm := ifT hc1 hm
      refine wpc_seq ?_
      refine wpc_region ?_
      refine s_asv (v := vI 0) rfl ?_
      refine wpl_nil ?_
      refine nrm ?_
      refine wpc_ret ?_
      refine thR ?_
      refine outRw ?_
      intro we hpd
      replace S := St.pd S hpd
      have e0 := Option.some.inj hm
      subst e0
      exact outR [_] rfl ⟨rfl, trivial⟩ ⟨_, L0, S, rfl⟩
    replace hm := ifF hc1 hm
    refine wpc_skip ?_
    refine nrm ?_
    refine wpc_seq ?_
    refine wpc_region ?_
    refine s_mvv (v := vI a1) rfl ?_
    obtain ⟨x1, q1, hm⟩ := obind_some hm
    refine s_call Tryd.call35 (w_ref08_First (a0 := a1) S  q1) rfl ?_
    rintro _ w1 ⟨m1, l1, S1, rfl⟩
    replace L0 := Mem.tr L0 l1
    clear S
    replace S1 : St _ (As) _ := S1
    refine s_asv (v := vI x1) rfl ?_
    refine wpl_nil ?_
    refine nrm ?_
    refine wpc_seq ?_
    refine wpc_seq ?_
    refine wpc_region ?_
    refine s_mvv (v := vI a0) rfl ?_
    refine s_mvv (v := vI x1) rfl ?_
    refine s_lss (m := a0) (n := x1) rfl rfl ?_
    refine wpl_nil ?_
    refine nrm ?_
    refine wpc_if (t := (decide (a0 < x1))) rfl (fun hc2 => ?_) (fun hc2 => ?_)
    · replace hm := ifT hc2 hm
      refine wpc_seq ?_
      refine wpc_region ?_
      refine s_mvv (v := vI a0) rfl ?_
      refine s_mvv (v := vI x1) rfl ?_
      obtain ⟨x2, q2, hm⟩ := obind_some hm
      refine s_call Tryd.call44 (ih (a0 := a0) (a1 := x1) S1  q2) rfl ?_
      rintro _ w2 ⟨m2, l2, S2, rfl⟩
      replace L0 := Mem.tr L0 l2
      clear S1
      replace S2 : St _ (As) _ := S2
      refine s_addI (m := x2) (n := 1) rfl rfl ?_
      refine s_asv (v := vI (w64 (x2 + 1))) rfl ?_
      refine wpl_nil ?_
      refine nrm ?_
      refine wpc_ret ?_
      refine thR ?_
      refine outRw ?_
      intro we hpd
      replace S2 := St.pd S2 hpd
      have e0 := Option.some.inj hm
      subst e0
      exact outR [_] rfl ⟨rfl, trivial⟩ ⟨_, L0, S2, rfl⟩
    replace hm := ifF hc2 hm
    refine wpc_skip ?_
    refine nrm ?_
    refine wpc_seq ?_
    refine wpc_region ?_
    refine s_mvv (v := vI a0) rfl ?_
    refine s_mvv (v := vI x1) rfl ?_
    refine s_subI (m := a0) (n := x1) rfl rfl ?_
    refine s_mvv (v := vI a1) rfl ?_
    refine s_mvv (v := vI x1) rfl ?_
    refine s_subI (m := a1) (n := x1) rfl rfl ?_
    obtain ⟨x3, q3, hm⟩ := obind_some hm
    refine s_call Tryd.call44 (ih (a0 := (w64 (a0 - x1))) (a1 := (w64 (a1 - x1))) S1  q3) rfl ?_
    rintro _ w3 ⟨m3, l3, S3, rfl⟩
    replace L0 := Mem.tr L0 l3
    clear S1
    replace S3 : St _ (As) _ := S3
    refine s_addI (m := x3) (n := 1) rfl rfl ?_
    refine s_asv (v := vI (w64 (x3 + 1))) rfl ?_
    refine wpl_nil ?_
    refine nrm ?_
    refine wpc_ret ?_
    refine outRw ?_
    intro we hpd
    replace S3 := St.pd S3 hpd
    have e0 := Option.some.inj hm
    subst e0
    exact outR [_] rfl ⟨rfl, trivial⟩ ⟨_, L0, S3, rfl⟩

theorem w_ref08_long {m : Mem} {As : List Ow} {w : World} {a0 : Int} {a1 : Int} {r : Int} (S : St m (As) w) (hm : m_ref08_long a0 a1 = some r) :
    CallsR Tryd.prog 44 #[vI a0, vI a1] w fun v w' => ∃ (M : Mem), m ≤ M ∧ St M (As) w' ∧ v = vI r := wr_ref08_long FUEL S  hm

def r_ref08_leads : Nat → (UInt64 × UInt64) → Int → Int → (List (UInt64 × UInt64)) → Option (UInt64 × UInt64)
  | 0, _, _, _, _ => none
  | n + 1, a0, a1, a2, a3 =>
    if (a2 == 1) = true then
      some a0
    else
    obind (m_ref08_First a2) fun x1 =>
    bnd ((w64 ((a3.length : Int) - 1))) fun x2 =>
    if (decide (a1 < x1)) = true then
      obind (cut a3 0 x2) fun x3 =>
      obind (r_ref08_leads n a0 a1 x1 x3) fun x4 =>
      obind (idx a3 x2) fun x5 =>
      obind (m_ref02_Pair x4 x5) fun x6 =>
      some x6
    else
    obind (idx a3 x2) fun x7 =>
    obind (cut a3 0 x2) fun x8 =>
    obind (r_ref08_leads n a0 (w64 (a1 - x1)) (w64 (a2 - x1)) x8) fun x9 =>
    obind (m_ref02_Pair x7 x9) fun x10 =>
    some x10

def m_ref08_leads (a0 : UInt64 × UInt64) (a1 : Int) (a2 : Int) (a3 : List (UInt64 × UInt64)) : Option (UInt64 × UInt64) := r_ref08_leads FUEL a0 a1 a2 a3

theorem wr_ref08_leads (n : Nat) : ∀ {m : Mem} {As : List Ow} {w : World} {a0 : UInt64 × UInt64} {a1 : Int} {a2 : Int} {a3 : List (UInt64 × UInt64)} {a3v0 : Value} {r : UInt64 × UInt64} (S : St m (As) w) (a3h0 : SlR m a3v0 a3) (hm : r_ref08_leads n a0 a1 a2 a3 = some r),
    CallsR Tryd.prog 45 #[.agg #[vU a0.1, vU a0.2], vI a1, vI a2, a3v0] w fun v w' => ∃ (M : Mem), m ≤ M ∧ St M (As) w' ∧ v = .agg #[vU r.1, vU r.2] := by
  induction n with
  | zero => intro m As w a0 a1 a2 a3 a3v0 r S a3h0 hm; cases hm
  | succ n ih =>
    intro m As w a0 a1 a2 a3 a3v0 r S a3h0 hm
    unfold r_ref08_leads at hm
    have L0 := Mem.rfl' m
    refine callsR (args := [.agg #[vU a0.1, vU a0.2], vI a1, vI a2, a3v0]) Tryd.func45 rfl Tryd.ntmps45 (Nat.le_of_ble_eq_true rfl) ?_
    refine wpc_seq ?_
    refine wpc_region ?_
    refine s_box S rfl ?_
    intro b1 w1 S1
    replace S1 : St _ ((bx b1 [vU a0.1, vU a0.2] 27) :: As) _ := S1
    clear S
    refine s_alloc S1 Tryd.zeroValue27 ?_
    intro b2 w2 S2
    replace S2 : St _ ((bx b2 [vU 0, vU 0] 27) :: (bx b1 [vU a0.1, vU a0.2] 27) :: As) _ := S2
    clear S1
    refine wpl_nil ?_
    refine nrm ?_
    refine wpc_seq ?_
    refine wpc_seq ?_
    refine wpc_region ?_
    refine s_mvv (v := vI a2) rfl ?_
    refine s_eql (m := a2) (n := 1) rfl rfl ?_
    refine wpl_nil ?_
    refine nrm ?_
    refine wpc_if (t := (a2 == 1)) rfl (fun hc1 => ?_) (fun hc1 => ?_)
    · replace hm := ifT hc1 hm
      refine wpc_seq ?_
      refine wpc_region ?_
      refine s_ld (i := 1) (cs := [vU a0.1, vU a0.2]) S2 rfl rfl Tryd.isAgg27 Tryd.sizeOf27 rfl (fun h => by cases h) ?_
      refine s_stL (i := 0) S2 rfl rfl rfl Tryd.sizeOf27 (oneC rfl (oneC rfl oneN)) rfl ?_
      intro w3 S3
      replace S3 : St _ ((bx b2 [vU a0.1, vU a0.2] 27) :: (bx b1 [vU a0.1, vU a0.2] 27) :: As) _ := S3
      clear S2
      refine wpl_nil ?_
      refine nrm ?_
      refine wpc_ret ?_
      refine thR ?_
      refine outRw ?_
      intro we hpd
      replace S3 := St.pd S3 hpd
      have SR := S3
      obtain ⟨m1, l1, S4⟩ := St.drop S3 0
      replace L0 := Mem.tr L0 l1
      replace S4 : St _ ((bx b1 [vU a0.1, vU a0.2] 27) :: As) _ := S4
      obtain ⟨m2, l2, S5⟩ := St.drop S4 0
      replace L0 := Mem.tr L0 l2
      clear S4
      replace S5 : St _ (As) _ := S5
      have e0 := Option.some.inj hm
      subst e0
      exact outR [_] rfl ⟨res_box (i := 0) (off := 0) (cs := [vU a0.1, vU a0.2]) SR rfl rfl Tryd.isAgg27 Tryd.sizeOf27 rfl (fun h => by cases h), trivial⟩ ⟨_, L0, S5, rfl⟩
    replace hm := ifF hc1 hm
    refine wpc_skip ?_
    refine nrm ?_
    refine wpc_seq ?_
    refine wpc_region ?_
    refine s_mvv (v := vI a2) rfl ?_
    obtain ⟨x1, q1, hm⟩ := obind_some hm
    refine s_call Tryd.call35 (w_ref08_First (a0 := a2) S2  q1) rfl ?_
    rintro _ w4 ⟨m3, l3, S6, rfl⟩
    replace a3h0 := a3h0.up l3
    replace L0 := Mem.tr L0 l3
    clear S2
    replace S6 : St _ ((bx b2 [vU 0, vU 0] 27) :: (bx b1 [vU a0.1, vU a0.2] 27) :: As) _ := S6
    refine s_asv (v := vI x1) rfl ?_
    refine wpl_nil ?_
    refine nrm ?_
    refine wpc_seq ?_
    refine wpc_region ?_
    refine s_mvv (v := a3v0) rfl ?_
    refine s_lenR (xs := a3) rfl a3h0 Tryd.underlying22 ?_
    refine s_subI (m := (a3.length : Int)) (n := 1) rfl rfl ?_
    obtain ⟨x2, q2, hm⟩ := bnd_eq hm
    refine s_asv (v := vI x2) (congrArg (fun z => vI z) q2.symm) ?_
    refine wpl_nil ?_
    refine nrm ?_
    refine wpc_seq ?_
    refine wpc_seq ?_
    refine wpc_region ?_
    refine s_mvv (v := vI a1) rfl ?_
    refine s_mvv (v := vI x1) rfl ?_
    refine s_lss (m := a1) (n := x1) rfl rfl ?_
    refine wpl_nil ?_
    refine nrm ?_
    refine wpc_if (t := (decide (a1 < x1))) rfl (fun hc2 => ?_) (fun hc2 => ?_)
    · replace hm := ifT hc2 hm
      refine wpc_seq ?_
      obtain ⟨x3, q3, hm⟩ := obind_some hm
      obtain ⟨x4, q4, hm⟩ := obind_some hm
      obtain ⟨x5, q5, hm⟩ := obind_some hm
      have HM : MonoAll [(22, fun (M : Mem) (v : Value) => v = .agg #[vU a0.1, vU a0.2]), (23, fun (M : Mem) (v : Value) => v = vI a1), (24, fun (M : Mem) (v : Value) => v = vI x1), (25, fun (M : Mem) (v : Value) => v = a3v0), (26, fun (M : Mem) (v : Value) => v = vI x2), (27, fun (M : Mem) (v : Value) => ∃ (v1 : Value), v = v1 ∧ SlR M v1 x3), (28, fun (M : Mem) (v : Value) => v = .agg #[vU x4.1, vU x4.2]), (29, fun (M : Mem) (v : Value) => v = a3v0), (30, fun (M : Mem) (v : Value) => v = vI x2), (31, fun (M : Mem) (v : Value) => ∃ (p1 : Value), v = p1 ∧ PtC M p1 [vU x5.1, vU x5.2]), (32, fun (M : Mem) (v : Value) => v = .agg #[vU x5.1, vU x5.2])] := ⟨(fun _ _ _ _ h => h), (fun _ _ _ _ h => h), (fun _ _ _ _ h => h), (fun _ _ _ _ h => h), (fun _ _ _ _ h => h), (fun _ _ _ l ⟨v1, e, h1⟩ => ⟨v1, e, h1.up l⟩), (fun _ _ _ _ h => h), (fun _ _ _ _ h => h), (fun _ _ _ _ h => h), (fun _ _ _ l ⟨p1, e, h3⟩ => ⟨p1, e, h3.up l⟩), (fun _ _ _ _ h => h), trivial⟩
      refine wpc_flowG HM 11 mixed rfl rfl rfl [22, 23, 24, 25, 26, 27, 28, 29, 30, 31, 32] (fun L f M w => St M ((bx b2 [vU 0, vU 0] 27) :: (bx b1 [vU a0.1, vU a0.2] 27) :: As) w) (St.drew S6 _) ?_ ?_
      · refine ⟨?_, ?_, ?_, ?_, ?_, ?_, ?_, ?_, ?_, ?_, ?_, trivial⟩
        · intro L f1 w5 hL hd hc ⟨m4, L1, S7, K, hO⟩
          obtain ⟨u1, rfl⟩ := fr_of (N := 50) (L := []) hO trivial
          replace S7 : St _ ((bx b2 [vU 0, vU 0] 27) :: (bx b1 [vU a0.1, vU a0.2] 27) :: As) _ := S7
          replace a3h0 := a3h0.up L1
          have L2 := Mem.rfl' m4
          refine s_ld (i := 1) (cs := [vU a0.1, vU a0.2]) S7 rfl rfl Tryd.isAgg27 Tryd.sizeOf27 rfl (fun h => by cases h) ?_
          refine wpn ?_
          refine ⟨m4, Mem.tr L1 L2, ?_, facts_step HM rfl K L2 rfl rfl rfl, outP⟩
          exact S7
        · intro L f2 w6 hL hd hc ⟨m5, L3, S8, K, hO⟩
          obtain ⟨u2, rfl⟩ := fr_of (N := 50) (L := []) hO trivial
          replace S8 : St _ ((bx b2 [vU 0, vU 0] 27) :: (bx b1 [vU a0.1, vU a0.2] 27) :: As) _ := S8
          have L4 := Mem.rfl' m5
          refine s_mvv (v := vI a1) rfl ?_
          refine wpn ?_
          refine ⟨m5, Mem.tr L3 L4, ?_, facts_step HM rfl K L4 rfl rfl rfl, outP⟩
          exact S8
        · intro L f3 w7 hL hd hc ⟨m6, L5, S9, K, hO⟩
          obtain ⟨u3, rfl⟩ := fr_of (N := 50) (L := []) hO trivial
          replace S9 : St _ ((bx b2 [vU 0, vU 0] 27) :: (bx b1 [vU a0.1, vU a0.2] 27) :: As) _ := S9
          have L6 := Mem.rfl' m6
          refine s_mvv (v := vI x1) rfl ?_
          refine wpn ?_
          refine ⟨m6, Mem.tr L5 L6, ?_, facts_step HM rfl K L6 rfl rfl rfl, outP⟩
          exact S9
        · intro L f4 w8 hL hd hc ⟨m7, L7, S10, K, hO⟩
          obtain ⟨u4, rfl⟩ := fr_of (N := 50) (L := []) hO trivial
          replace S10 : St _ ((bx b2 [vU 0, vU 0] 27) :: (bx b1 [vU a0.1, vU a0.2] 27) :: As) _ := S10
          have L8 := Mem.rfl' m7
          refine s_mvv (v := a3v0) rfl ?_
          refine wpn ?_
          refine ⟨m7, Mem.tr L7 L8, ?_, facts_step HM rfl K L8 rfl rfl rfl, outP⟩
          exact S10
        · intro L f5 w9 hL hd hc ⟨m8, L9, S11, K, hO⟩
          obtain ⟨u5, rfl⟩ := fr_of (N := 50) (L := []) hO trivial
          replace S11 : St _ ((bx b2 [vU 0, vU 0] 27) :: (bx b1 [vU a0.1, vU a0.2] 27) :: As) _ := S11
          have L10 := Mem.rfl' m8
          refine s_mvv (v := vI x2) rfl ?_
          refine wpn ?_
          refine ⟨m8, Mem.tr L9 L10, ?_, facts_step HM rfl K L10 rfl rfl rfl, outP⟩
          exact S11
        · intro L f6 w10 hL hd hc ⟨m9, L11, S12, K, hO⟩
          have d3 : L 3 = true := dep hd rfl
          have e1 := K 3 d3
          have d4 : L 4 = true := dep hd rfl
          have e2 := K 4 d4
          obtain ⟨u6, rfl⟩ := fr_of (N := 50) (L := [(25, a3v0), (26, vI x2)]) hO ⟨e1, e2, trivial⟩
          replace S12 : St _ ((bx b2 [vU 0, vU 0] 27) :: (bx b1 [vU a0.1, vU a0.2] 27) :: As) _ := S12
          replace a3h0 := a3h0.up L11
          have L12 := Mem.rfl' m9
          refine s_cut (ys := x3) (l := 0) (h := x2) rfl a3h0 Tryd.underlying22 Tryd.sizeOf27 (.inl ⟨rfl, rfl⟩) (.inr ⟨_, rfl⟩) (.inl rfl) q3 ?_
          intro v1 h1
          refine wpn ?_
          refine ⟨m9, Mem.tr L11 L12, ?_, facts_step HM rfl K L12 rfl rfl ⟨v1, rfl, h1⟩, outP⟩
          exact S12
        · intro L f7 w11 hL hd hc ⟨m10, L13, S13, K, hO⟩
          have d0 : L 0 = true := dep hd rfl
          have e3 := K 0 d0
          have d1 : L 1 = true := dep hd rfl
          have e4 := K 1 d1
          have d2 : L 2 = true := dep hd rfl
          have e5 := K 2 d2
          have d5 : L 5 = true := dep hd rfl
          obtain ⟨v2, e6, h2⟩ := K 5 d5
          obtain ⟨u7, rfl⟩ := fr_of (N := 50) (L := [(22, .agg #[vU a0.1, vU a0.2]), (23, vI a1), (24, vI x1), (27, v2)]) hO ⟨e3, e4, e5, e6, trivial⟩
          replace S13 : St _ ((bx b2 [vU 0, vU 0] 27) :: (bx b1 [vU a0.1, vU a0.2] 27) :: As) _ := S13
          replace a3h0 := a3h0.up L13
          have L14 := Mem.rfl' m10
          refine s_call Tryd.call45 (ih (a0 := a0) (a1 := a1) (a2 := x1) (a3 := x3) S13 h2 q4) rfl ?_
          rintro _ w12 ⟨m11, l4, S14, rfl⟩
          replace a3h0 := a3h0.up l4
          replace h2 := h2.up l4
          replace L14 := Mem.tr L14 l4
          clear S13
          replace S14 : St _ ((bx b2 [vU 0, vU 0] 27) :: (bx b1 [vU a0.1, vU a0.2] 27) :: As) _ := S14
          refine wpn ?_
          refine ⟨m11, Mem.tr L13 L14, ?_, facts_step HM rfl K L14 rfl rfl rfl, outP⟩
          exact S14
        · intro L f8 w13 hL hd hc ⟨m12, L15, S15, K, hO⟩
          obtain ⟨u8, rfl⟩ := fr_of (N := 50) (L := []) hO trivial
          replace S15 : St _ ((bx b2 [vU 0, vU 0] 27) :: (bx b1 [vU a0.1, vU a0.2] 27) :: As) _ := S15
          have L16 := Mem.rfl' m12
          refine s_mvv (v := a3v0) rfl ?_
          refine wpn ?_
          refine ⟨m12, Mem.tr L15 L16, ?_, facts_step HM rfl K L16 rfl rfl rfl, outP⟩
          exact S15
        · intro L f9 w14 hL hd hc ⟨m13, L17, S16, K, hO⟩
          obtain ⟨u9, rfl⟩ := fr_of (N := 50) (L := []) hO trivial
          replace S16 : St _ ((bx b2 [vU 0, vU 0] 27) :: (bx b1 [vU a0.1, vU a0.2] 27) :: As) _ := S16
          have L18 := Mem.rfl' m13
          refine s_mvv (v := vI x2) rfl ?_
          refine wpn ?_
          refine ⟨m13, Mem.tr L17 L18, ?_, facts_step HM rfl K L18 rfl rfl rfl, outP⟩
          exact S16
        · intro L f10 w15 hL hd hc ⟨m14, L19, S17, K, hO⟩
          have d7 : L 7 = true := dep hd rfl
          have e7 := K 7 d7
          have d8 : L 8 = true := dep hd rfl
          have e8 := K 8 d8
          obtain ⟨u10, rfl⟩ := fr_of (N := 50) (L := [(29, a3v0), (30, vI x2)]) hO ⟨e7, e8, trivial⟩
          replace S17 : St _ ((bx b2 [vU 0, vU 0] 27) :: (bx b1 [vU a0.1, vU a0.2] 27) :: As) _ := S17
          replace a3h0 := a3h0.up L19
          have L20 := Mem.rfl' m14
          refine s_idx (q := x5) rfl rfl a3h0 q5 Tryd.underlying22 Tryd.sizeOf27 ?_
          intro p1 c1 h3 r1
          obtain rfl := rep_arr2_UInt64 r1
          refine wpn ?_
          refine ⟨m14, Mem.tr L19 L20, ?_, facts_step HM rfl K L20 rfl rfl ⟨p1, rfl, h3⟩, outP⟩
          exact S17
        · intro L f11 w16 hL hd hc ⟨m15, L21, S18, K, hO⟩
          have d9 : L 9 = true := dep hd rfl
          obtain ⟨v3, e9, h4⟩ := K 9 d9
          obtain ⟨u11, rfl⟩ := fr_of (N := 50) (L := [(31, v3)]) hO ⟨e9, trivial⟩
          replace S18 : St _ ((bx b2 [vU 0, vU 0] 27) :: (bx b1 [vU a0.1, vU a0.2] 27) :: As) _ := S18
          replace a3h0 := a3h0.up L21
          have L22 := Mem.rfl' m15
          refine s_ldM (cs := [vU x5.1, vU x5.2]) S18 rfl h4 rfl Tryd.isAgg27 Tryd.sizeOf27 (fun h => by cases h) ?_
          refine wpn ?_
          refine ⟨m15, Mem.tr L21 L22, ?_, facts_step HM rfl K L22 rfl rfl rfl, outP⟩
          exact S18
      intro L f12 w17 hall ⟨m16, L23, S19, K, hO⟩
      have d6 : L 6 = true := hall 6 (by decide)
      have e10 := K 6 d6
      have d10 : L 10 = true := hall 10 (by decide)
      have e11 := K 10 d10
      obtain ⟨u12, rfl⟩ := fr_of (N := 50) (L := [(28, .agg #[vU x4.1, vU x4.2]), (32, .agg #[vU x5.1, vU x5.2])]) hO ⟨e10, e11, trivial⟩
      replace S19 : St _ ((bx b2 [vU 0, vU 0] 27) :: (bx b1 [vU a0.1, vU a0.2] 27) :: As) _ := S19
      replace a3h0 := a3h0.up L23
      replace L0 := Mem.tr L0 L23
      clear S6
      obtain ⟨x6, q6, hm⟩ := obind_some hm
      refine s_call Tryd.call36 (w_ref02_Pair (a0 := x4) (a1 := x5) S19  q6) rfl ?_
      rintro _ w18 ⟨m17, l5, S20, rfl⟩
      replace L0 := Mem.tr L0 l5
      clear S19
      replace S20 : St _ ((bx b2 [vU 0, vU 0] 27) :: (bx b1 [vU a0.1, vU a0.2] 27) :: As) _ := S20
      refine s_stL (i := 0) S20 rfl rfl rfl Tryd.sizeOf27 (oneC rfl (oneC rfl oneN)) rfl ?_
      intro w19 S21
      replace S21 : St _ ((bx b2 [vU x6.1, vU x6.2] 27) :: (bx b1 [vU a0.1, vU a0.2] 27) :: As) _ := S21
      clear S20
      refine wpl_nil ?_
      refine nrm ?_
      refine wpc_ret ?_
      refine thR ?_
      refine outRw ?_
      intro we hpd
      replace S21 := St.pd S21 hpd
      have SR := S21
      obtain ⟨m18, l6, S22⟩ := St.drop S21 0
      replace L0 := Mem.tr L0 l6
      replace S22 : St _ ((bx b1 [vU a0.1, vU a0.2] 27) :: As) _ := S22
      obtain ⟨m19, l7, S23⟩ := St.drop S22 0
      replace L0 := Mem.tr L0 l7
      clear S22
      replace S23 : St _ (As) _ := S23
      have e0 := Option.some.inj hm
      subst e0
      exact outR [_] rfl ⟨res_box (i := 0) (off := 0) (cs := [vU x6.1, vU x6.2]) SR rfl rfl Tryd.isAgg27 Tryd.sizeOf27 rfl (fun h => by cases h), trivial⟩ ⟨_, L0, S23, rfl⟩
    replace hm := ifF hc2 hm
    refine wpc_skip ?_
    refine nrm ?_
    refine wpc_seq ?_
    obtain ⟨x7, q7, hm⟩ := obind_some hm
    obtain ⟨x8, q8, hm⟩ := obind_some hm
    obtain ⟨x9, q9, hm⟩ := obind_some hm
    have HM : MonoAll [(34, fun (M : Mem) (v : Value) => v = a3v0), (35, fun (M : Mem) (v : Value) => v = vI x2), (36, fun (M : Mem) (v : Value) => ∃ (p2 : Value), v = p2 ∧ PtC M p2 [vU x7.1, vU x7.2]), (37, fun (M : Mem) (v : Value) => v = .agg #[vU x7.1, vU x7.2]), (38, fun (M : Mem) (v : Value) => v = .agg #[vU a0.1, vU a0.2]), (39, fun (M : Mem) (v : Value) => v = vI a1), (40, fun (M : Mem) (v : Value) => v = vI x1), (41, fun (M : Mem) (v : Value) => v = vI (w64 (a1 - x1))), (42, fun (M : Mem) (v : Value) => v = vI a2), (43, fun (M : Mem) (v : Value) => v = vI x1), (44, fun (M : Mem) (v : Value) => v = vI (w64 (a2 - x1))), (45, fun (M : Mem) (v : Value) => v = a3v0), (46, fun (M : Mem) (v : Value) => v = vI x2), (47, fun (M : Mem) (v : Value) => ∃ (v5 : Value), v = v5 ∧ SlR M v5 x8), (48, fun (M : Mem) (v : Value) => v = .agg #[vU x9.1, vU x9.2])] := ⟨(fun _ _ _ _ h => h), (fun _ _ _ _ h => h), (fun _ _ _ l ⟨p2, e, h5⟩ => ⟨p2, e, h5.up l⟩), (fun _ _ _ _ h => h), (fun _ _ _ _ h => h), (fun _ _ _ _ h => h), (fun _ _ _ _ h => h), (fun _ _ _ _ h => h), (fun _ _ _ _ h => h), (fun _ _ _ _ h => h), (fun _ _ _ _ h => h), (fun _ _ _ _ h => h), (fun _ _ _ _ h => h), (fun _ _ _ l ⟨v5, e, h7⟩ => ⟨v5, e, h7.up l⟩), (fun _ _ _ _ h => h), trivial⟩
    refine wpc_flowG HM 15 mixed rfl rfl rfl [34, 35, 36, 37, 38, 39, 40, 41, 42, 43, 44, 45, 46, 47, 48] (fun L f M w => St M ((bx b2 [vU 0, vU 0] 27) :: (bx b1 [vU a0.1, vU a0.2] 27) :: As) w) (St.drew S6 _) ?_ ?_
    · refine ⟨?_, ?_, ?_, ?_, ?_, ?_, ?_, ?_, ?_, ?_, ?_, ?_, ?_, ?_, ?_, trivial⟩
      · intro L f13 w20 hL hd hc ⟨m20, L24, S24, K, hO⟩
        obtain ⟨u13, rfl⟩ := fr_of (N := 50) (L := []) hO trivial
        replace S24 : St _ ((bx b2 [vU 0, vU 0] 27) :: (bx b1 [vU a0.1, vU a0.2] 27) :: As) _ := S24
        have L25 := Mem.rfl' m20
        refine s_mvv (v := a3v0) rfl ?_
        refine wpn ?_
        refine ⟨m20, Mem.tr L24 L25, ?_, facts_step HM rfl K L25 rfl rfl rfl, outP⟩
        exact S24
      · intro L f14 w21 hL hd hc ⟨m21, L26, S25, K, hO⟩
        obtain ⟨u14, rfl⟩ := fr_of (N := 50) (L := []) hO trivial
        replace S25 : St _ ((bx b2 [vU 0, vU 0] 27) :: (bx b1 [vU a0.1, vU a0.2] 27) :: As) _ := S25
        have L27 := Mem.rfl' m21
        refine s_mvv (v := vI x2) rfl ?_
        refine wpn ?_
        refine ⟨m21, Mem.tr L26 L27, ?_, facts_step HM rfl K L27 rfl rfl rfl, outP⟩
        exact S25
      · intro L f15 w22 hL hd hc ⟨m22, L28, S26, K, hO⟩
        have d0 : L 0 = true := dep hd rfl
        have e12 := K 0 d0
        have d1 : L 1 = true := dep hd rfl
        have e13 := K 1 d1
        obtain ⟨u15, rfl⟩ := fr_of (N := 50) (L := [(34, a3v0), (35, vI x2)]) hO ⟨e12, e13, trivial⟩
        replace S26 : St _ ((bx b2 [vU 0, vU 0] 27) :: (bx b1 [vU a0.1, vU a0.2] 27) :: As) _ := S26
        replace a3h0 := a3h0.up L28
        have L29 := Mem.rfl' m22
        refine s_idx (q := x7) rfl rfl a3h0 q7 Tryd.underlying22 Tryd.sizeOf27 ?_
        intro p2 c2 h5 r2
        obtain rfl := rep_arr2_UInt64 r2
        refine wpn ?_
        refine ⟨m22, Mem.tr L28 L29, ?_, facts_step HM rfl K L29 rfl rfl ⟨p2, rfl, h5⟩, outP⟩
        exact S26
      · intro L f16 w23 hL hd hc ⟨m23, L30, S27, K, hO⟩
        have d2 : L 2 = true := dep hd rfl
        obtain ⟨v4, e14, h6⟩ := K 2 d2
        obtain ⟨u16, rfl⟩ := fr_of (N := 50) (L := [(36, v4)]) hO ⟨e14, trivial⟩
        replace S27 : St _ ((bx b2 [vU 0, vU 0] 27) :: (bx b1 [vU a0.1, vU a0.2] 27) :: As) _ := S27
        replace a3h0 := a3h0.up L30
        have L31 := Mem.rfl' m23
        refine s_ldM (cs := [vU x7.1, vU x7.2]) S27 rfl h6 rfl Tryd.isAgg27 Tryd.sizeOf27 (fun h => by cases h) ?_
        refine wpn ?_
        refine ⟨m23, Mem.tr L30 L31, ?_, facts_step HM rfl K L31 rfl rfl rfl, outP⟩
        exact S27
      · intro L f17 w24 hL hd hc ⟨m24, L32, S28, K, hO⟩
        obtain ⟨u17, rfl⟩ := fr_of (N := 50) (L := []) hO trivial
        replace S28 : St _ ((bx b2 [vU 0, vU 0] 27) :: (bx b1 [vU a0.1, vU a0.2] 27) :: As) _ := S28
        replace a3h0 := a3h0.up L32
        have L33 := Mem.rfl' m24
        refine s_ld (i := 1) (cs := [vU a0.1, vU a0.2]) S28 rfl rfl Tryd.isAgg27 Tryd.sizeOf27 rfl (fun h => by cases h) ?_
        refine wpn ?_
        refine ⟨m24, Mem.tr L32 L33, ?_, facts_step HM rfl K L33 rfl rfl rfl, outP⟩
        exact S28
      · intro L f18 w25 hL hd hc ⟨m25, L34, S29, K, hO⟩
        obtain ⟨u18, rfl⟩ := fr_of (N := 50) (L := []) hO trivial
        replace S29 : St _ ((bx b2 [vU 0, vU 0] 27) :: (bx b1 [vU a0.1, vU a0.2] 27) :: As) _ := S29
        have L35 := Mem.rfl' m25
        refine s_mvv (v := vI a1) rfl ?_
        refine wpn ?_
        refine ⟨m25, Mem.tr L34 L35, ?_, facts_step HM rfl K L35 rfl rfl rfl, outP⟩
        exact S29
      · intro L f19 w26 hL hd hc ⟨m26, L36, S30, K, hO⟩
        obtain ⟨u19, rfl⟩ := fr_of (N := 50) (L := []) hO trivial
        replace S30 : St _ ((bx b2 [vU 0, vU 0] 27) :: (bx b1 [vU a0.1, vU a0.2] 27) :: As) _ := S30
        have L37 := Mem.rfl' m26
        refine s_mvv (v := vI x1) rfl ?_
        refine wpn ?_
        refine ⟨m26, Mem.tr L36 L37, ?_, facts_step HM rfl K L37 rfl rfl rfl, outP⟩
        exact S30
      · intro L f20 w27 hL hd hc ⟨m27, L38, S31, K, hO⟩
        have d5 : L 5 = true := dep hd rfl
        have e15 := K 5 d5
        have d6 : L 6 = true := dep hd rfl
        have e16 := K 6 d6
        obtain ⟨u20, rfl⟩ := fr_of (N := 50) (L := [(39, vI a1), (40, vI x1)]) hO ⟨e15, e16, trivial⟩
        replace S31 : St _ ((bx b2 [vU 0, vU 0] 27) :: (bx b1 [vU a0.1, vU a0.2] 27) :: As) _ := S31
        have L39 := Mem.rfl' m27
        refine s_subI (m := a1) (n := x1) rfl rfl ?_
        refine wpn ?_
        refine ⟨m27, Mem.tr L38 L39, ?_, facts_step HM rfl K L39 rfl rfl rfl, outP⟩
        exact S31
      · intro L f21 w28 hL hd hc ⟨m28, L40, S32, K, hO⟩
        obtain ⟨u21, rfl⟩ := fr_of (N := 50) (L := []) hO trivial
        replace S32 : St _ ((bx b2 [vU 0, vU 0] 27) :: (bx b1 [vU a0.1, vU a0.2] 27) :: As) _ := S32
        have L41 := Mem.rfl' m28
        refine s_mvv (v := vI a2) rfl ?_
        refine wpn ?_
        refine ⟨m28, Mem.tr L40 L41, ?_, facts_step HM rfl K L41 rfl rfl rfl, outP⟩
        exact S32
      · intro L f22 w29 hL hd hc ⟨m29, L42, S33, K, hO⟩
        obtain ⟨u22, rfl⟩ := fr_of (N := 50) (L := []) hO trivial
        replace S33 : St _ ((bx b2 [vU 0, vU 0] 27) :: (bx b1 [vU a0.1, vU a0.2] 27) :: As) _ := S33
        have L43 := Mem.rfl' m29
        refine s_mvv (v := vI x1) rfl ?_
        refine wpn ?_
        refine ⟨m29, Mem.tr L42 L43, ?_, facts_step HM rfl K L43 rfl rfl rfl, outP⟩
        exact S33
      · intro L f23 w30 hL hd hc ⟨m30, L44, S34, K, hO⟩
        have d8 : L 8 = true := dep hd rfl
        have e17 := K 8 d8
        have d9 : L 9 = true := dep hd rfl
        have e18 := K 9 d9
        obtain ⟨u23, rfl⟩ := fr_of (N := 50) (L := [(42, vI a2), (43, vI x1)]) hO ⟨e17, e18, trivial⟩
        replace S34 : St _ ((bx b2 [vU 0, vU 0] 27) :: (bx b1 [vU a0.1, vU a0.2] 27) :: As) _ := S34
        have L45 := Mem.rfl' m30
        refine s_subI (m := a2) (n := x1) rfl rfl ?_
        refine wpn ?_
        refine ⟨m30, Mem.tr L44 L45, ?_, facts_step HM rfl K L45 rfl rfl rfl, outP⟩
        exact S34
      · intro L f24 w31 hL hd hc ⟨m31, L46, S35, K, hO⟩
        obtain ⟨u24, rfl⟩ := fr_of (N := 50) (L := []) hO trivial
        replace S35 : St _ ((bx b2 [vU 0, vU 0] 27) :: (bx b1 [vU a0.1, vU a0.2] 27) :: As) _ := S35
        have L47 := Mem.rfl' m31
        refine s_mvv (v := a3v0) rfl ?_
        refine wpn ?_
        refine ⟨m31, Mem.tr L46 L47, ?_, facts_step HM rfl K L47 rfl rfl rfl, outP⟩
        exact S35
      · intro L f25 w32 hL hd hc ⟨m32, L48, S36, K, hO⟩
        obtain ⟨u25, rfl⟩ := fr_of (N := 50) (L := []) hO trivial
        replace S36 : St _ ((bx b2 [vU 0, vU 0] 27) :: (bx b1 [vU a0.1, vU a0.2] 27) :: As) _ := S36
        have L49 := Mem.rfl' m32
        refine s_mvv (v := vI x2) rfl ?_
        refine wpn ?_
        refine ⟨m32, Mem.tr L48 L49, ?_, facts_step HM rfl K L49 rfl rfl rfl, outP⟩
        exact S36
      · intro L f26 w33 hL hd hc ⟨m33, L50, S37, K, hO⟩
        have d11 : L 11 = true := dep hd rfl
        have e19 := K 11 d11
        have d12 : L 12 = true := dep hd rfl
        have e20 := K 12 d12
        obtain ⟨u26, rfl⟩ := fr_of (N := 50) (L := [(45, a3v0), (46, vI x2)]) hO ⟨e19, e20, trivial⟩
        replace S37 : St _ ((bx b2 [vU 0, vU 0] 27) :: (bx b1 [vU a0.1, vU a0.2] 27) :: As) _ := S37
        replace a3h0 := a3h0.up L50
        have L51 := Mem.rfl' m33
        refine s_cut (ys := x8) (l := 0) (h := x2) rfl a3h0 Tryd.underlying22 Tryd.sizeOf27 (.inl ⟨rfl, rfl⟩) (.inr ⟨_, rfl⟩) (.inl rfl) q8 ?_
        intro v5 h7
        refine wpn ?_
        refine ⟨m33, Mem.tr L50 L51, ?_, facts_step HM rfl K L51 rfl rfl ⟨v5, rfl, h7⟩, outP⟩
        exact S37
      · intro L f27 w34 hL hd hc ⟨m34, L52, S38, K, hO⟩
        have d4 : L 4 = true := dep hd rfl
        have e21 := K 4 d4
        have d7 : L 7 = true := dep hd rfl
        have e22 := K 7 d7
        have d10 : L 10 = true := dep hd rfl
        have e23 := K 10 d10
        have d13 : L 13 = true := dep hd rfl
        obtain ⟨v6, e24, h8⟩ := K 13 d13
        obtain ⟨u27, rfl⟩ := fr_of (N := 50) (L := [(38, .agg #[vU a0.1, vU a0.2]), (41, vI (w64 (a1 - x1))), (44, vI (w64 (a2 - x1))), (47, v6)]) hO ⟨e21, e22, e23, e24, trivial⟩
        replace S38 : St _ ((bx b2 [vU 0, vU 0] 27) :: (bx b1 [vU a0.1, vU a0.2] 27) :: As) _ := S38
        replace a3h0 := a3h0.up L52
        have L53 := Mem.rfl' m34
        refine s_call Tryd.call45 (ih (a0 := a0) (a1 := (w64 (a1 - x1))) (a2 := (w64 (a2 - x1))) (a3 := x8) S38 h8 q9) rfl ?_
        rintro _ w35 ⟨m35, l8, S39, rfl⟩
        replace a3h0 := a3h0.up l8
        replace h8 := h8.up l8
        replace L53 := Mem.tr L53 l8
        clear S38
        replace S39 : St _ ((bx b2 [vU 0, vU 0] 27) :: (bx b1 [vU a0.1, vU a0.2] 27) :: As) _ := S39
        refine wpn ?_
        refine ⟨m35, Mem.tr L52 L53, ?_, facts_step HM rfl K L53 rfl rfl rfl, outP⟩
        exact S39
    intro L f28 w36 hall ⟨m36, L54, S40, K, hO⟩
    have d3 : L 3 = true := hall 3 (by decide)
    have e25 := K 3 d3
    have d14 : L 14 = true := hall 14 (by decide)
    have e26 := K 14 d14
    obtain ⟨u28, rfl⟩ := fr_of (N := 50) (L := [(37, .agg #[vU x7.1, vU x7.2]), (48, .agg #[vU x9.1, vU x9.2])]) hO ⟨e25, e26, trivial⟩
    replace S40 : St _ ((bx b2 [vU 0, vU 0] 27) :: (bx b1 [vU a0.1, vU a0.2] 27) :: As) _ := S40
    replace a3h0 := a3h0.up L54
    replace L0 := Mem.tr L0 L54
    clear S6
    obtain ⟨x10, q10, hm⟩ := obind_some hm
    refine s_call Tryd.call36 (w_ref02_Pair (a0 := x7) (a1 := x9) S40  q10) rfl ?_
    rintro _ w37 ⟨m37, l9, S41, rfl⟩
    replace L0 := Mem.tr L0 l9
    clear S40
    replace S41 : St _ ((bx b2 [vU 0, vU 0] 27) :: (bx b1 [vU a0.1, vU a0.2] 27) :: As) _ := S41
    refine s_stL (i := 0) S41 rfl rfl rfl Tryd.sizeOf27 (oneC rfl (oneC rfl oneN)) rfl ?_
    intro w38 S42
    replace S42 : St _ ((bx b2 [vU x10.1, vU x10.2] 27) :: (bx b1 [vU a0.1, vU a0.2] 27) :: As) _ := S42
    clear S41
    refine wpl_nil ?_
    refine nrm ?_
    refine wpc_ret ?_
    refine outRw ?_
    intro we hpd
    replace S42 := St.pd S42 hpd
    have SR := S42
    obtain ⟨m38, l10, S43⟩ := St.drop S42 0
    replace L0 := Mem.tr L0 l10
    replace S43 : St _ ((bx b1 [vU a0.1, vU a0.2] 27) :: As) _ := S43
    obtain ⟨m39, l11, S44⟩ := St.drop S43 0
    replace L0 := Mem.tr L0 l11
    clear S43
    replace S44 : St _ (As) _ := S44
    have e0 := Option.some.inj hm
    subst e0
    exact outR [_] rfl ⟨res_box (i := 0) (off := 0) (cs := [vU x10.1, vU x10.2]) SR rfl rfl Tryd.isAgg27 Tryd.sizeOf27 rfl (fun h => by cases h), trivial⟩ ⟨_, L0, S44, rfl⟩

theorem w_ref08_leads {m : Mem} {As : List Ow} {w : World} {a0 : UInt64 × UInt64} {a1 : Int} {a2 : Int} {a3 : List (UInt64 × UInt64)} {a3v0 : Value} {r : UInt64 × UInt64} (S : St m (As) w) (a3h0 : SlR m a3v0 a3) (hm : m_ref08_leads a0 a1 a2 a3 = some r) :
    CallsR Tryd.prog 45 #[.agg #[vU a0.1, vU a0.2], vI a1, vI a2, a3v0] w fun v w' => ∃ (M : Mem), m ≤ M ∧ St M (As) w' ∧ v = .agg #[vU r.1, vU r.2] := wr_ref08_leads FUEL S a3h0 hm

def m_ref08_Check (a0 : UInt64 × UInt64) (a1 : Int) (a2 : Int) (a3 : List (UInt64 × UInt64)) (a4 : UInt64 × UInt64) : Option Int :=
  if (((decide (a1 < 0)) || (decide (a1 ≥ a2))) || (decide (a2 > 256))) = true then
    some 1
  else
  obind (m_ref08_long a1 a2) fun x1 =>
  if ((a3.length : Int) != x1) = true then
    some 80
  else
  obind (m_ref08_leads a0 a1 a2 a3) fun x2 =>
  if (!eqSum x2 a4) = true then
    some 71
  else
  some 0

theorem w_ref08_Check {m : Mem} {As : List Ow} {w : World} {a0 : UInt64 × UInt64} {a1 : Int} {a2 : Int} {a3 : List (UInt64 × UInt64)} {a3v0 : Value} {a4 : UInt64 × UInt64} {r : Int} (S : St m (As) w) (a3h0 : SlR m a3v0 a3) (hm : m_ref08_Check a0 a1 a2 a3 a4 = some r) :
    CallsR Tryd.prog 22 #[.agg #[vU a0.1, vU a0.2], vI a1, vI a2, a3v0, .agg #[vU a4.1, vU a4.2]] w fun v w' => ∃ (M : Mem), m ≤ M ∧ St M (As) w' ∧ v = vI r := by
  unfold m_ref08_Check at hm
  have L0 := Mem.rfl' m
  refine callsR (args := [.agg #[vU a0.1, vU a0.2], vI a1, vI a2, a3v0, .agg #[vU a4.1, vU a4.2]]) Tryd.func22 rfl Tryd.ntmps22 (Nat.le_of_ble_eq_true rfl) ?_
  refine wpc_seq ?_
  refine wpc_region ?_
  refine s_box S rfl ?_
  intro b1 w1 S1
  replace S1 : St _ ((bx b1 [vU a0.1, vU a0.2] 27) :: As) _ := S1
  clear S
  refine s_box S1 rfl ?_
  intro b2 w2 S2
  replace S2 : St _ ((bx b2 [vU a4.1, vU a4.2] 27) :: (bx b1 [vU a0.1, vU a0.2] 27) :: As) _ := S2
  clear S1
  refine s_asv (v := vI 0) rfl ?_
  refine wpl_nil ?_
  refine nrm ?_
  refine wpc_seq ?_
  refine wpc_seq ?_
  refine wpc_region ?_
  refine s_mvv (v := vI a1) rfl ?_
  refine s_lss (m := a1) (n := 0) rfl rfl ?_
  refine s_mvv (v := vb (decide (a1 < 0))) rfl ?_
  refine wpl_cut 4 [14, 15, 16, 17] (fun f' w' => w' = w2 ∧ AllAt f' [(17, vb ((decide (a1 < 0)) || (decide (a1 ≥ a2))))]) ?_ ?_
  · rcases bool_tf (decide (a1 < 0)) with hb1 | hb1
    · refine wpl_no (d := 13) rfl rfl (congrArg Value.bool hb1) ?_
      refine wpl_no (d := 13) rfl rfl (congrArg Value.bool hb1) ?_
      refine wpl_no (d := 13) rfl rfl (congrArg Value.bool hb1) ?_
      refine s_pickT (congrArg Value.bool hb1) rfl ?_
      exact wpl_nil (nrm ⟨outP, rfl, congrArg Value.bool (or_t hb1), trivial⟩)
    · refine wpl_yes (d := 13) rfl rfl (congrArg Value.bool hb1) ?_
      refine s_mvv (v := vI a1) rfl ?_
      refine wpl_yes (d := 13) rfl rfl (congrArg Value.bool hb1) ?_
      refine s_mvv (v := vI a2) rfl ?_
      refine wpl_yes (d := 13) rfl rfl (congrArg Value.bool hb1) ?_
      refine s_geq (m := a1) (n := a2) rfl rfl ?_
      refine s_pickF (congrArg Value.bool hb1) rfl ?_
      exact wpl_nil (nrm ⟨outP, rfl, congrArg Value.bool (or_f hb1), trivial⟩)
  rintro f1 w3 ho ⟨h1, ha⟩
  subst h1
  obtain ⟨u1, rfl⟩ := fr_of (N := 35) ho ha
  refine s_mvv (v := vb ((decide (a1 < 0)) || (decide (a1 ≥ a2)))) rfl ?_
  refine wpl_cut 3 [19, 20, 21] (fun f' w' => w' = w3 ∧ AllAt f' [(21, vb (((decide (a1 < 0)) || (decide (a1 ≥ a2))) || (decide (a2 > 256))))]) ?_ ?_
  · rcases bool_tf ((decide (a1 < 0)) || (decide (a1 ≥ a2))) with hb2 | hb2
    · refine wpl_no (d := 18) rfl rfl (congrArg Value.bool hb2) ?_
      refine wpl_no (d := 18) rfl rfl (congrArg Value.bool hb2) ?_
      refine s_pickT (congrArg Value.bool hb2) rfl ?_
      exact wpl_nil (nrm ⟨outP, rfl, congrArg Value.bool (or_t hb2), trivial⟩)
    · refine wpl_yes (d := 18) rfl rfl (congrArg Value.bool hb2) ?_
      refine s_mvv (v := vI a2) rfl ?_
      refine wpl_yes (d := 18) rfl rfl (congrArg Value.bool hb2) ?_
      refine s_gtr (m := a2) (n := 256) rfl rfl ?_
      refine s_pickF (congrArg Value.bool hb2) rfl ?_
      exact wpl_nil (nrm ⟨outP, rfl, congrArg Value.bool (or_f hb2), trivial⟩)
  rintro f2 w4 ho ⟨h2, ha⟩
  subst h2
  obtain ⟨u2, rfl⟩ := fr_of (N := 35) ho ha
  refine wpl_nil ?_
  refine nrm ?_
  refine wpc_if (t := (((decide (a1 < 0)) || (decide (a1 ≥ a2))) || (decide (a2 > 256)))) rfl (fun hc1 => ?_) (fun hc1 => ?_)
  · replace hm := ifT hc1 hm
    refine wpc_seq ?_
    refine wpc_region ?_
    refine s_asv (v := vI 1) rfl ?_
    refine wpl_nil ?_
    refine nrm ?_
    refine wpc_ret ?_
    refine thR ?_
    refine outRw ?_
    intro we hpd
    replace S2 := St.pd S2 hpd
    obtain ⟨m1, l1, S3⟩ := St.drop S2 0
    replace L0 := Mem.tr L0 l1
    clear S2
    replace S3 : St _ ((bx b1 [vU a0.1, vU a0.2] 27) :: As) _ := S3
    obtain ⟨m2, l2, S4⟩ := St.drop S3 0
    replace L0 := Mem.tr L0 l2
    clear S3
    replace S4 : St _ (As) _ := S4
    have e0 := Option.some.inj hm
    subst e0
    exact outR [_] rfl ⟨rfl, trivial⟩ ⟨_, L0, S4, rfl⟩
  replace hm := ifF hc1 hm
  refine wpc_skip ?_
  refine nrm ?_
  refine wpc_seq ?_
  refine wpc_seq ?_
  refine wpc_region ?_
  refine s_mvv (v := a3v0) rfl ?_
  refine s_lenR (xs := a3) rfl a3h0 Tryd.underlying22 ?_
  refine s_mvv (v := vI a1) rfl ?_
  refine s_mvv (v := vI a2) rfl ?_
  obtain ⟨x1, q1, hm⟩ := obind_some hm
  refine s_call Tryd.call44 (w_ref08_long (a0 := a1) (a1 := a2) S2  q1) rfl ?_
  rintro _ w5 ⟨m3, l3, S5, rfl⟩
  replace a3h0 := a3h0.up l3
  replace L0 := Mem.tr L0 l3
  clear S2
  replace S5 : St _ ((bx b2 [vU a4.1, vU a4.2] 27) :: (bx b1 [vU a0.1, vU a0.2] 27) :: As) _ := S5
  refine s_neq (m := (a3.length : Int)) (n := x1) rfl rfl ?_
  refine wpl_nil ?_
  refine nrm ?_
  refine wpc_if (t := ((a3.length : Int) != x1)) rfl (fun hc2 => ?_) (fun hc2 => ?_)
  · replace hm := ifT hc2 hm
    refine wpc_seq ?_
    refine wpc_region ?_
    refine s_asv (v := vI 80) rfl ?_
    refine wpl_nil ?_
    refine nrm ?_
    refine wpc_ret ?_
    refine thR ?_
    refine outRw ?_
    intro we hpd
    replace S5 := St.pd S5 hpd
    obtain ⟨m4, l4, S6⟩ := St.drop S5 0
    replace L0 := Mem.tr L0 l4
    clear S5
    replace S6 : St _ ((bx b1 [vU a0.1, vU a0.2] 27) :: As) _ := S6
    obtain ⟨m5, l5, S7⟩ := St.drop S6 0
    replace L0 := Mem.tr L0 l5
    clear S6
    replace S7 : St _ (As) _ := S7
    have e0 := Option.some.inj hm
    subst e0
    exact outR [_] rfl ⟨rfl, trivial⟩ ⟨_, L0, S7, rfl⟩
  replace hm := ifF hc2 hm
  refine wpc_skip ?_
  refine nrm ?_
  refine wpc_seq ?_
  refine wpc_seq ?_
  obtain ⟨x2, q2, hm⟩ := obind_some hm
  have HM : MonoAll [(28, fun (M : Mem) (v : Value) => v = .agg #[vU a0.1, vU a0.2]), (29, fun (M : Mem) (v : Value) => v = vI a1), (30, fun (M : Mem) (v : Value) => v = vI a2), (31, fun (M : Mem) (v : Value) => v = a3v0), (32, fun (M : Mem) (v : Value) => v = .agg #[vU x2.1, vU x2.2]), (33, fun (M : Mem) (v : Value) => v = .agg #[vU a4.1, vU a4.2])] := ⟨(fun _ _ _ _ h => h), (fun _ _ _ _ h => h), (fun _ _ _ _ h => h), (fun _ _ _ _ h => h), (fun _ _ _ _ h => h), (fun _ _ _ _ h => h), trivial⟩
  refine wpc_flowG HM 6 mixed rfl rfl rfl [28, 29, 30, 31, 32, 33] (fun L f M w => St M ((bx b2 [vU a4.1, vU a4.2] 27) :: (bx b1 [vU a0.1, vU a0.2] 27) :: As) w) (St.drew S5 _) ?_ ?_
  · refine ⟨?_, ?_, ?_, ?_, ?_, ?_, trivial⟩
    · intro L f3 w6 hL hd hc ⟨m6, L1, S8, K, hO⟩
      obtain ⟨u3, rfl⟩ := fr_of (N := 35) (L := []) hO trivial
      replace S8 : St _ ((bx b2 [vU a4.1, vU a4.2] 27) :: (bx b1 [vU a0.1, vU a0.2] 27) :: As) _ := S8
      replace a3h0 := a3h0.up L1
      have L2 := Mem.rfl' m6
      refine s_ld (i := 1) (cs := [vU a0.1, vU a0.2]) S8 rfl rfl Tryd.isAgg27 Tryd.sizeOf27 rfl (fun h => by cases h) ?_
      refine wpn ?_
      refine ⟨m6, Mem.tr L1 L2, ?_, facts_step HM rfl K L2 rfl rfl rfl, outP⟩
      exact S8
    · intro L f4 w7 hL hd hc ⟨m7, L3, S9, K, hO⟩
      obtain ⟨u4, rfl⟩ := fr_of (N := 35) (L := []) hO trivial
      replace S9 : St _ ((bx b2 [vU a4.1, vU a4.2] 27) :: (bx b1 [vU a0.1, vU a0.2] 27) :: As) _ := S9
      have L4 := Mem.rfl' m7
      refine s_mvv (v := vI a1) rfl ?_
      refine wpn ?_
      refine ⟨m7, Mem.tr L3 L4, ?_, facts_step HM rfl K L4 rfl rfl rfl, outP⟩
      exact S9
    · intro L f5 w8 hL hd hc ⟨m8, L5, S10, K, hO⟩
      obtain ⟨u5, rfl⟩ := fr_of (N := 35) (L := []) hO trivial
      replace S10 : St _ ((bx b2 [vU a4.1, vU a4.2] 27) :: (bx b1 [vU a0.1, vU a0.2] 27) :: As) _ := S10
      have L6 := Mem.rfl' m8
      refine s_mvv (v := vI a2) rfl ?_
      refine wpn ?_
      refine ⟨m8, Mem.tr L5 L6, ?_, facts_step HM rfl K L6 rfl rfl rfl, outP⟩
      exact S10
    · intro L f6 w9 hL hd hc ⟨m9, L7, S11, K, hO⟩
      obtain ⟨u6, rfl⟩ := fr_of (N := 35) (L := []) hO trivial
      replace S11 : St _ ((bx b2 [vU a4.1, vU a4.2] 27) :: (bx b1 [vU a0.1, vU a0.2] 27) :: As) _ := S11
      have L8 := Mem.rfl' m9
      refine s_mvv (v := a3v0) rfl ?_
      refine wpn ?_
      refine ⟨m9, Mem.tr L7 L8, ?_, facts_step HM rfl K L8 rfl rfl rfl, outP⟩
      exact S11
    · intro L f7 w10 hL hd hc ⟨m10, L9, S12, K, hO⟩
      have d0 : L 0 = true := dep hd rfl
      have e1 := K 0 d0
      have d1 : L 1 = true := dep hd rfl
      have e2 := K 1 d1
      have d2 : L 2 = true := dep hd rfl
      have e3 := K 2 d2
      have d3 : L 3 = true := dep hd rfl
      have e4 := K 3 d3
      obtain ⟨u7, rfl⟩ := fr_of (N := 35) (L := [(28, .agg #[vU a0.1, vU a0.2]), (29, vI a1), (30, vI a2), (31, a3v0)]) hO ⟨e1, e2, e3, e4, trivial⟩
      replace S12 : St _ ((bx b2 [vU a4.1, vU a4.2] 27) :: (bx b1 [vU a0.1, vU a0.2] 27) :: As) _ := S12
      replace a3h0 := a3h0.up L9
      have L10 := Mem.rfl' m10
      refine s_call Tryd.call45 (w_ref08_leads (a0 := a0) (a1 := a1) (a2 := a2) (a3 := a3) S12 a3h0 q2) rfl ?_
      rintro _ w11 ⟨m11, l6, S13, rfl⟩
      replace a3h0 := a3h0.up l6
      replace L10 := Mem.tr L10 l6
      clear S12
      replace S13 : St _ ((bx b2 [vU a4.1, vU a4.2] 27) :: (bx b1 [vU a0.1, vU a0.2] 27) :: As) _ := S13
      refine wpn ?_
      refine ⟨m11, Mem.tr L9 L10, ?_, facts_step HM rfl K L10 rfl rfl rfl, outP⟩
      exact S13
    · intro L f8 w12 hL hd hc ⟨m12, L11, S14, K, hO⟩
      obtain ⟨u8, rfl⟩ := fr_of (N := 35) (L := []) hO trivial
      replace S14 : St _ ((bx b2 [vU a4.1, vU a4.2] 27) :: (bx b1 [vU a0.1, vU a0.2] 27) :: As) _ := S14
      replace a3h0 := a3h0.up L11
      have L12 := Mem.rfl' m12
      refine s_ld (i := 0) (cs := [vU a4.1, vU a4.2]) S14 rfl rfl Tryd.isAgg27 Tryd.sizeOf27 rfl (fun h => by cases h) ?_
      refine wpn ?_
      refine ⟨m12, Mem.tr L11 L12, ?_, facts_step HM rfl K L12 rfl rfl rfl, outP⟩
      exact S14
  intro L f9 w13 hall ⟨m13, L13, S15, K, hO⟩
  have d4 : L 4 = true := hall 4 (by decide)
  have e5 := K 4 d4
  have d5 : L 5 = true := hall 5 (by decide)
  have e6 := K 5 d5
  obtain ⟨u9, rfl⟩ := fr_of (N := 35) (L := [(32, .agg #[vU x2.1, vU x2.2]), (33, .agg #[vU a4.1, vU a4.2])]) hO ⟨e5, e6, trivial⟩
  replace S15 : St _ ((bx b2 [vU a4.1, vU a4.2] 27) :: (bx b1 [vU a0.1, vU a0.2] 27) :: As) _ := S15
  replace a3h0 := a3h0.up L13
  replace L0 := Mem.tr L0 L13
  clear S5
  refine s_neqSum (p := x2) (q := a4) rfl rfl Tryd.underlying27 Tryd.underlying25 Tryd.sizeOf25 Tryd.isAgg25 Tryd.eqGuardType27 ?_
  refine wpl_nil ?_
  refine nrm ?_
  refine wpc_if (t := (!eqSum x2 a4)) rfl (fun hc3 => ?_) (fun hc3 => ?_)
  · replace hm := ifT hc3 hm
    refine wpc_seq ?_
    refine wpc_region ?_
    refine s_asv (v := vI 71) rfl ?_
    refine wpl_nil ?_
    refine nrm ?_
    refine wpc_ret ?_
    refine thR ?_
    refine outRw ?_
    intro we hpd
    replace S15 := St.pd S15 hpd
    obtain ⟨m14, l7, S16⟩ := St.drop S15 0
    replace L0 := Mem.tr L0 l7
    clear S15
    replace S16 : St _ ((bx b1 [vU a0.1, vU a0.2] 27) :: As) _ := S16
    obtain ⟨m15, l8, S17⟩ := St.drop S16 0
    replace L0 := Mem.tr L0 l8
    clear S16
    replace S17 : St _ (As) _ := S17
    have e0 := Option.some.inj hm
    subst e0
    exact outR [_] rfl ⟨rfl, trivial⟩ ⟨_, L0, S17, rfl⟩
  replace hm := ifF hc3 hm
  refine wpc_skip ?_
  refine nrm ?_
  refine wpc_seq ?_
  refine wpc_region ?_
  refine s_asv (v := vI 0) rfl ?_
  refine wpl_nil ?_
  refine nrm ?_
  refine wpc_ret ?_
  refine outRw ?_
  intro we hpd
  replace S15 := St.pd S15 hpd
  obtain ⟨m16, l9, S18⟩ := St.drop S15 0
  replace L0 := Mem.tr L0 l9
  clear S15
  replace S18 : St _ ((bx b1 [vU a0.1, vU a0.2] 27) :: As) _ := S18
  obtain ⟨m17, l10, S19⟩ := St.drop S18 0
  replace L0 := Mem.tr L0 l10
  clear S18
  replace S19 : St _ (As) _ := S19
  have e0 := Option.some.inj hm
  subst e0
  exact outR [_] rfl ⟨rfl, trivial⟩ ⟨_, L0, S19, rfl⟩

end Go.Proofs.YtohipjalgccmnaaDoor
