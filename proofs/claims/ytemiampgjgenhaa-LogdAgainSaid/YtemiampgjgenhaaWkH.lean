/- The walks of some functions, written by program. Conditions: none. -/
import Derived.Test.YtemiampgjgenhaaWkF
set_option maxHeartbeats 20000000
set_option maxRecDepth 100000
set_option linter.unusedVariables false
set_option linter.unusedSimpArgs false
namespace Go.Proofs.Ytemiampgjgenhaa
open Go Go.Gw

def m_ref24_SameLeaves_b1 (a0 : List g_api_Leaf) (a1 : List g_api_Leaf) (s1 : Int) : Option ((Int) ⊕ ((Unit) ⊕ Bool)) :=
  if (decide (s1 < (a0.length : Int))) = true then
    obind (idx a0 s1) fun x3 =>
    obind (idx a1 s1) fun x4 =>
    obind (gu (!(x3.At != x4.At)) (idx a0 s1)) fun x5 =>
    obind (gu (!(x3.At != x4.At)) (idx a1 s1)) fun x6 =>
    if ((x3.At != x4.At) || (!eqS (bs x5.Body) (bs x6.Body))) = true then
      some (.inr (.inr false))
    else
    some (.inl (w64 (s1 + 1)))
  else
  some (.inr (.inl ()))

def m_ref24_SameLeaves (a0 : List g_api_Leaf) (a1 : List g_api_Leaf) : Option Bool :=
  if ((a0.length : Int) != (a1.length : Int)) = true then
    some false
  else
  obind (iter (m_ref24_SameLeaves_b1 a0 a1) FUEL 0) fun x1 => match x1 with
  | .inr r => some r
  | .inl y1 =>
  some true

theorem w_ref24_SameLeaves {m : Mem} {As : List Ow} {w : World} {a0 : List g_api_Leaf} {a0v0 : Value} {a1 : List g_api_Leaf} {a1v0 : Value} {r : Bool} (S : St m (As) w) (a0h0 : SlR m a0v0 a0) (a1h0 : SlR m a1v0 a1) (hm : m_ref24_SameLeaves a0 a1 = some r) :
    CallsR Try.prog 37 #[a0v0, a1v0] w fun v w' => ∃ (M : Mem), m ≤ M ∧ St M (As) w' ∧ v = vb r := by
 unfold m_ref24_SameLeaves at hm
 have L0 := Mem.rfl' m
 refine callsR (args := [a0v0, a1v0]) Try.func37 rfl Try.ntmps37 (Nat.le_of_ble_eq_true rfl) <| wpc_seq <| wpc_region <| s_asv (v := vb false) rfl <| wpl_nil <| nrm <| wpc_seq <| wpc_seq <| wpc_region <| s_mvv (v := a0v0) rfl <| s_lenR (xs := a0) rfl a0h0 Try.underlying23 <| s_mvv (v := a1v0) rfl <| s_lenR (xs := a1) rfl a1h0 Try.underlying23 <| s_neq (m := (a0.length : Int)) (n := (a1.length : Int)) rfl rfl <| wpl_nil <| nrm <| wpc_if (t := ((a0.length : Int) != (a1.length : Int))) rfl (fun hc1 => ?_) (fun hc1 => ?_)
 · replace hm := ifT hc1 hm
   refine wpc_seq <| wpc_region <| s_asv (v := vb false) rfl <| wpl_nil <| nrm <| wpc_ret <| thR <| outRw fun we hpd => ?_
   replace S := St.pd S hpd
   have e0 := Option.some.inj hm
   subst e0
   exact outR [_] rfl ⟨rfl, trivial⟩ ⟨_, L0, S, rfl⟩
 replace hm := ifF hc1 hm
 refine wpc_skip <| nrm <| wpc_seq <| wpc_seq <| wpc_region <| s_asv (v := vI 0) rfl <| wpl_nil <| nrm ?_
 obtain ⟨x1, q1, hm⟩ := obind_some hm
 have L1 := Mem.rfl' m
 refine wpc_join [4, 5, 11, 12, 13, 14, 15, 16, 17, 18, 19, 20, 21, 22, 23, 24, 25, 26, 27, 28, 29, 30, 31, 32, 33, 34, 35, 36, 37, 38, 39, 40, 41, 42] (fun f' w' => ∃ (M1 : Mem) (y1 : Unit), x1 = .inl y1 ∧ m ≤ M1 ∧ St M1 (As) w' ∧ AllAt f' []) ?_ ?_
 · refine wpc_block <| wpc_rounds [4, 5, 11, 12, 13, 14, 15, 16, 17, 18, 19, 20, 21, 22, 23, 24, 25, 26, 27, 28, 29, 30, 31, 32, 33, 34, 35, 36, 37, 38, 39, 40, 41, 42] (fun n1 f' w' => ∃ (s1 : Int) (m29 : Mem), iter (m_ref24_SameLeaves_b1 a0 a1) n1 s1 = some x1 ∧ m ≤ m29 ∧ St m29 (As) w' ∧ AllAt f' [(5, vI s1)]) FUEL ⟨0, m, q1, L1, S, ⟨rfl, trivial⟩⟩ ?_
   rintro n1 f1 w1 ho ⟨s1, m1, q2, L3, S1, ha⟩
   obtain ⟨u1, rfl⟩ := fr_of (N := 43) ho ha
   clear ho ha
   replace a0h0 := a0h0.up L3
   replace a1h0 := a1h0.up L3
   have L2 := Mem.rfl' m1
   clear S
   cases n1 with
   | zero => exact (iter_zero q2).elim
   | succ n1 =>
    obtain ⟨y2, q4, q3⟩ := iter_succ q2
    unfold m_ref24_SameLeaves_b1 at q4
    refine wpc_seq <| wpc_seq <| wpc_region <| s_mvv (v := vI s1) rfl <| s_mvv (v := a0v0) rfl <| s_lenR (xs := a0) rfl a0h0 Try.underlying23 <| s_lss (m := s1) (n := (a0.length : Int)) rfl rfl <| wpl_nil <| nrm <| wpc_if (t := (decide (s1 < (a0.length : Int)))) rfl (fun hc2 => ?_) (fun hc2 => ?_)
    · replace q4 := ifT hc2 q4
      refine wpc_skip <| nrm <| wpc_seq <| wpc_block <| wpc_seq ?_
      obtain ⟨x3, q6, q4⟩ := obind_some q4
      obtain ⟨x4, q7, q4⟩ := obind_some q4
      obtain ⟨x5, q8, q4⟩ := obind_some q4
      obtain ⟨x6, q9, q4⟩ := obind_some q4
      have HM : MonoAll [(17, fun (M : Mem) (v : Value) => v = a0v0), (18, fun (M : Mem) (v : Value) => v = vI s1), (19, fun (M : Mem) (v : Value) => ∃ (v1 : Value), ∃ (p1 : Value), v = p1 ∧ SlR M v1 x3.Body ∧ PtC M p1 [v1, vI x3.At]), (20, fun (M : Mem) (v : Value) => ∃ (p2 : Value), v = p2 ∧ PtC M p2 [vI x3.At]), (21, fun (M : Mem) (v : Value) => v = vI x3.At), (22, fun (M : Mem) (v : Value) => v = a1v0), (23, fun (M : Mem) (v : Value) => v = vI s1), (24, fun (M : Mem) (v : Value) => ∃ (v5 : Value), ∃ (p3 : Value), v = p3 ∧ SlR M v5 x4.Body ∧ PtC M p3 [v5, vI x4.At]), (25, fun (M : Mem) (v : Value) => ∃ (p4 : Value), v = p4 ∧ PtC M p4 [vI x4.At]), (26, fun (M : Mem) (v : Value) => v = vI x4.At), (27, fun (M : Mem) (v : Value) => v = vb (x3.At != x4.At)), (28, fun (M : Mem) (v : Value) => v = vb (x3.At != x4.At)), (29, fun (M : Mem) (v : Value) => ((!(x3.At != x4.At)) = true → v = a0v0) ∧ ((!(x3.At != x4.At)) = false → v = undef)), (30, fun (M : Mem) (v : Value) => ((!(x3.At != x4.At)) = true → v = vI s1) ∧ ((!(x3.At != x4.At)) = false → v = undef)), (31, fun (M : Mem) (v : Value) => ((!(x3.At != x4.At)) = true → ∃ (v9 : Value), ∃ (p5 : Value), v = p5 ∧ SlR M v9 x5.Body ∧ PtC M p5 [v9, vI x5.At]) ∧ ((!(x3.At != x4.At)) = false → v = undef)), (32, fun (M : Mem) (v : Value) => ((!(x3.At != x4.At)) = true → ∃ (v10 : Value), ∃ (p6 : Value), v = p6 ∧ SlR M v10 x5.Body ∧ PtC M p6 [v10, vI x5.At]) ∧ ((!(x3.At != x4.At)) = false → v = undef)), (33, fun (M : Mem) (v : Value) => ((!(x3.At != x4.At)) = true → ∃ (v12 : Value), v = v12 ∧ SlR M v12 x5.Body) ∧ ((!(x3.At != x4.At)) = false → v = undef)), (34, fun (M : Mem) (v : Value) => ((!(x3.At != x4.At)) = true → v = vS (bs x5.Body)) ∧ ((!(x3.At != x4.At)) = false → v = undef)), (35, fun (M : Mem) (v : Value) => ((!(x3.At != x4.At)) = true → v = a1v0) ∧ ((!(x3.At != x4.At)) = false → v = undef)), (36, fun (M : Mem) (v : Value) => ((!(x3.At != x4.At)) = true → v = vI s1) ∧ ((!(x3.At != x4.At)) = false → v = undef)), (37, fun (M : Mem) (v : Value) => ((!(x3.At != x4.At)) = true → ∃ (v15 : Value), ∃ (p7 : Value), v = p7 ∧ SlR M v15 x6.Body ∧ PtC M p7 [v15, vI x6.At]) ∧ ((!(x3.At != x4.At)) = false → v = undef)), (38, fun (M : Mem) (v : Value) => ((!(x3.At != x4.At)) = true → ∃ (v16 : Value), ∃ (p8 : Value), v = p8 ∧ SlR M v16 x6.Body ∧ PtC M p8 [v16, vI x6.At]) ∧ ((!(x3.At != x4.At)) = false → v = undef)), (39, fun (M : Mem) (v : Value) => ((!(x3.At != x4.At)) = true → ∃ (v18 : Value), v = v18 ∧ SlR M v18 x6.Body) ∧ ((!(x3.At != x4.At)) = false → v = undef)), (40, fun (M : Mem) (v : Value) => ((!(x3.At != x4.At)) = true → v = vS (bs x6.Body)) ∧ ((!(x3.At != x4.At)) = false → v = undef)), (41, fun (M : Mem) (v : Value) => ((!(x3.At != x4.At)) = true → v = vb (!eqS (bs x5.Body) (bs x6.Body))) ∧ ((!(x3.At != x4.At)) = false → v = undef)), (42, fun (M : Mem) (v : Value) => v = vb ((x3.At != x4.At) || (!eqS (bs x5.Body) (bs x6.Body))))] := ⟨(fun _ _ _ _ h => h), (fun _ _ _ _ h => h), (fun _ _ _ l ⟨v1, p1, e, h2, h1⟩ => ⟨v1, p1, e, h2.up l, h1.up l⟩), (fun _ _ _ l ⟨p2, e, h5⟩ => ⟨p2, e, h5.up l⟩), (fun _ _ _ _ h => h), (fun _ _ _ _ h => h), (fun _ _ _ _ h => h), (fun _ _ _ l ⟨v5, p3, e, h8, h7⟩ => ⟨v5, p3, e, h8.up l, h7.up l⟩), (fun _ _ _ l ⟨p4, e, h11⟩ => ⟨p4, e, h11.up l⟩), (fun _ _ _ _ h => h), (fun _ _ _ _ h => h), (fun _ _ _ _ h => h), (fun _ _ _ _ h => h), (fun _ _ _ _ h => h), (fun _ _ _ l h => ⟨fun c => let ⟨v9, p5, e, h14, h13⟩ := h.1 c; ⟨v9, p5, e, h14.up l, h13.up l⟩, h.2⟩), (fun _ _ _ l h => ⟨fun c => let ⟨v10, p6, e, h15, h17⟩ := h.1 c; ⟨v10, p6, e, h15.up l, h17.up l⟩, h.2⟩), (fun _ _ _ l h => ⟨fun c => let ⟨v12, e, h18⟩ := h.1 c; ⟨v12, e, h18.up l⟩, h.2⟩), (fun _ _ _ _ h => h), (fun _ _ _ _ h => h), (fun _ _ _ _ h => h), (fun _ _ _ l h => ⟨fun c => let ⟨v15, p7, e, h22, h21⟩ := h.1 c; ⟨v15, p7, e, h22.up l, h21.up l⟩, h.2⟩), (fun _ _ _ l h => ⟨fun c => let ⟨v16, p8, e, h23, h25⟩ := h.1 c; ⟨v16, p8, e, h23.up l, h25.up l⟩, h.2⟩), (fun _ _ _ l h => ⟨fun c => let ⟨v18, e, h26⟩ := h.1 c; ⟨v18, e, h26.up l⟩, h.2⟩), (fun _ _ _ _ h => h), (fun _ _ _ _ h => h), (fun _ _ _ _ h => h), trivial⟩
      refine wpc_flowG HM 26 mixed rfl rfl rfl [17, 18, 19, 20, 21, 22, 23, 24, 25, 26, 27, 28, 29, 30, 31, 32, 33, 34, 35, 36, 37, 38, 39, 40, 41, 42] (fun L f M w => St M (As) w) (St.drew S1 _) ?_ ?_
      · refine ⟨?_, ?_, ?_, ?_, ?_, ?_, ?_, ?_, ?_, ?_, ?_, ?_, ?_, ?_, ?_, ?_, ?_, ?_, ?_, ?_, ?_, ?_, ?_, ?_, ?_, ?_, trivial⟩
        · intro L f2 w2 hL hd hc ⟨m2, L4, S2, K, hO⟩
          obtain ⟨u2, rfl⟩ := fr_of (N := 43) (L := []) hO trivial
          exact s_mvv (v := a0v0) rfl <| oS HM L4 S2 rfl K rfl rfl rfl outP
        · intro L f3 w3 hL hd hc ⟨m3, L6, S3, K, hO⟩
          obtain ⟨u3, rfl⟩ := fr_of (N := 43) (L := []) hO trivial
          exact s_mvv (v := vI s1) rfl <| oS HM L6 S3 rfl K rfl rfl rfl outP
        · intro L f4 w4 hL hd hc ⟨m4, L8, S4, K, hO⟩
          obtain ⟨u4, rfl⟩ := fr_of (N := 43) (L := [(17, _), (18, _)]) hO ⟨K 0 (dep hd rfl), K 1 (dep hd rfl), trivial⟩
          replace a0h0 := a0h0.up L8
          refine s_idx (q := x3) rfl rfl a0h0 q6 Try.underlying23 Try.sizeOf55 fun p1 c1 h1 r1 => ?_
          obtain ⟨v1, rfl, h2⟩ := rep_g_api_Leaf r1
          exact oS HM L8 S4 rfl K rfl rfl ⟨v1, p1, rfl, h2, h1⟩ outP
        · intro L f5 w5 hL hd hc ⟨m5, L10, S5, K, hO⟩
          obtain ⟨v2, v3, e3, h3, h4⟩ := K 2 (dep hd rfl)
          obtain ⟨u5, rfl⟩ := fr_of (N := 43) (L := [(19, _)]) hO ⟨e3, trivial⟩
          refine s_fldM (n := 0) rfl h4 Try.underlying55 rfl rfl Try.sizeOf3 fun p2 h5 => ?_
          replace h5 : PtC _ _ [vI x3.At] := h5
          exact oS HM L10 S5 rfl K rfl rfl ⟨p2, rfl, h5⟩ outP
        · intro L f6 w6 hL hd hc ⟨m6, L12, S6, K, hO⟩
          obtain ⟨v4, e4, h6⟩ := K 3 (dep hd rfl)
          obtain ⟨u6, rfl⟩ := fr_of (N := 43) (L := [(20, _)]) hO ⟨e4, trivial⟩
          exact s_ldM (cs := [vI x3.At]) S6 rfl h6 rfl Try.isAgg3 Try.sizeOf3 (fun _ => rfl) <| oS HM L12 S6 rfl K rfl rfl rfl outP
        · intro L f7 w7 hL hd hc ⟨m7, L14, S7, K, hO⟩
          obtain ⟨u7, rfl⟩ := fr_of (N := 43) (L := []) hO trivial
          exact s_mvv (v := a1v0) rfl <| oS HM L14 S7 rfl K rfl rfl rfl outP
        · intro L f8 w8 hL hd hc ⟨m8, L16, S8, K, hO⟩
          obtain ⟨u8, rfl⟩ := fr_of (N := 43) (L := []) hO trivial
          exact s_mvv (v := vI s1) rfl <| oS HM L16 S8 rfl K rfl rfl rfl outP
        · intro L f9 w9 hL hd hc ⟨m9, L18, S9, K, hO⟩
          obtain ⟨u9, rfl⟩ := fr_of (N := 43) (L := [(22, _), (23, _)]) hO ⟨K 5 (dep hd rfl), K 6 (dep hd rfl), trivial⟩
          replace a1h0 := a1h0.up L18
          refine s_idx (q := x4) rfl rfl a1h0 q7 Try.underlying23 Try.sizeOf55 fun p3 c2 h7 r2 => ?_
          obtain ⟨v5, rfl, h8⟩ := rep_g_api_Leaf r2
          exact oS HM L18 S9 rfl K rfl rfl ⟨v5, p3, rfl, h8, h7⟩ outP
        · intro L f10 w10 hL hd hc ⟨m10, L20, S10, K, hO⟩
          obtain ⟨v6, v7, e7, h9, h10⟩ := K 7 (dep hd rfl)
          obtain ⟨u10, rfl⟩ := fr_of (N := 43) (L := [(24, _)]) hO ⟨e7, trivial⟩
          refine s_fldM (n := 0) rfl h10 Try.underlying55 rfl rfl Try.sizeOf3 fun p4 h11 => ?_
          replace h11 : PtC _ _ [vI x4.At] := h11
          exact oS HM L20 S10 rfl K rfl rfl ⟨p4, rfl, h11⟩ outP
        · intro L f11 w11 hL hd hc ⟨m11, L22, S11, K, hO⟩
          obtain ⟨v8, e8, h12⟩ := K 8 (dep hd rfl)
          obtain ⟨u11, rfl⟩ := fr_of (N := 43) (L := [(25, _)]) hO ⟨e8, trivial⟩
          exact s_ldM (cs := [vI x4.At]) S11 rfl h12 rfl Try.isAgg3 Try.sizeOf3 (fun _ => rfl) <| oS HM L22 S11 rfl K rfl rfl rfl outP
        · intro L f12 w12 hL hd hc ⟨m12, L24, S12, K, hO⟩
          obtain ⟨u12, rfl⟩ := fr_of (N := 43) (L := [(21, _), (26, _)]) hO ⟨K 4 (dep hd rfl), K 9 (dep hd rfl), trivial⟩
          exact s_neq (m := x3.At) (n := x4.At) rfl rfl <| oS HM L24 S12 rfl K rfl rfl rfl outP
        · intro L f13 w13 hL hd hc ⟨m13, L26, S13, K, hO⟩
          obtain ⟨u13, rfl⟩ := fr_of (N := 43) (L := [(27, _)]) hO ⟨K 10 (dep hd rfl), trivial⟩
          exact s_mvv (v := vb (x3.At != x4.At)) rfl <| oS HM L26 S13 rfl K rfl rfl rfl outP
        · intro L f14 w14 hL hd hc ⟨m14, L28, S14, K, hO⟩
          rcases bool_tf (x3.At != x4.At) with hb1 | hb1
          · obtain ⟨u15, rfl⟩ := fr_of (N := 43) (L := [(28, _)]) hO ⟨K 11 (dep hd rfl), trivial⟩
            exact wpl_no (d := 28) rfl rfl (congrArg Value.bool hb1) <| oS HM L28 S14 rfl K rfl rfl ⟨fun hx => tf hx (not_f hb1), fun _ => rfl⟩ outP
          obtain ⟨u14, rfl⟩ := fr_of (N := 43) (L := [(28, _)]) hO ⟨K 11 (dep hd rfl), trivial⟩
          exact wpl_yes (d := 28) rfl rfl (congrArg Value.bool hb1) <| s_mvv (v := a0v0) rfl <| oS HM L28 S14 rfl K rfl rfl ⟨fun _ => rfl, fun hx => tf (not_t hb1) hx⟩ outP
        · intro L f15 w15 hL hd hc ⟨m15, L31, S15, K, hO⟩
          rcases bool_tf (x3.At != x4.At) with hb2 | hb2
          · obtain ⟨u17, rfl⟩ := fr_of (N := 43) (L := [(28, _)]) hO ⟨K 11 (dep hd rfl), trivial⟩
            exact wpl_no (d := 28) rfl rfl (congrArg Value.bool hb2) <| oS HM L31 S15 rfl K rfl rfl ⟨fun hx => tf hx (not_f hb2), fun _ => rfl⟩ outP
          obtain ⟨u16, rfl⟩ := fr_of (N := 43) (L := [(28, _)]) hO ⟨K 11 (dep hd rfl), trivial⟩
          exact wpl_yes (d := 28) rfl rfl (congrArg Value.bool hb2) <| s_mvv (v := vI s1) rfl <| oS HM L31 S15 rfl K rfl rfl ⟨fun _ => rfl, fun hx => tf (not_t hb2) hx⟩ outP
        · intro L f16 w16 hL hd hc ⟨m16, L34, S16, K, hO⟩
          rcases bool_tf (x3.At != x4.At) with hb3 | hb3
          · obtain ⟨u19, rfl⟩ := fr_of (N := 43) (L := [(28, _)]) hO ⟨K 11 (dep hd rfl), trivial⟩
            exact wpl_no (d := 28) rfl rfl (congrArg Value.bool hb3) <| oS HM L34 S16 rfl K rfl rfl ⟨fun hx => tf hx (not_f hb3), fun _ => rfl⟩ outP
          obtain ⟨u18, rfl⟩ := fr_of (N := 43) (L := [(28, _), (29, _), (30, _)]) hO ⟨K 11 (dep hd rfl), (K 12 (dep hd rfl)).1 (not_t hb3), (K 13 (dep hd rfl)).1 (not_t hb3), trivial⟩
          replace a0h0 := a0h0.up L34
          refine wpl_yes (d := 28) rfl rfl (congrArg Value.bool hb3) ?_
          replace q8 := gu_t (not_t hb3) q8
          refine s_idx (q := x5) rfl rfl a0h0 q8 Try.underlying23 Try.sizeOf55 fun p5 c3 h13 r3 => ?_
          obtain ⟨v9, rfl, h14⟩ := rep_g_api_Leaf r3
          exact oS HM L34 S16 rfl K rfl rfl ⟨fun _ => ⟨v9, p5, rfl, h14, h13⟩, fun hx => tf (not_t hb3) hx⟩ outP
        · intro L f17 w17 hL hd hc ⟨m17, L37, S17, K, hO⟩
          rcases bool_tf (x3.At != x4.At) with hb4 | hb4
          · obtain ⟨u21, rfl⟩ := fr_of (N := 43) (L := [(28, _)]) hO ⟨K 11 (dep hd rfl), trivial⟩
            exact wpl_no (d := 28) rfl rfl (congrArg Value.bool hb4) <| oS HM L37 S17 rfl K rfl rfl ⟨fun hx => tf hx (not_f hb4), fun _ => rfl⟩ outP
          obtain ⟨v10, v11, e21, h15, h16⟩ := (K 14 (dep hd rfl)).1 (not_t hb4)
          obtain ⟨u20, rfl⟩ := fr_of (N := 43) (L := [(28, _), (31, _)]) hO ⟨K 11 (dep hd rfl), e21, trivial⟩
          refine wpl_yes (d := 28) rfl rfl (congrArg Value.bool hb4) <| s_fldM (n := 0) rfl h16 Try.underlying55 rfl rfl Try.sizeOf27 fun p6 h17 => ?_
          replace h17 : PtC _ _ [v10, vI x5.At] := h17
          exact oS HM L37 S17 rfl K rfl rfl ⟨fun _ => ⟨v10, p6, rfl, h15, h17⟩, fun hx => tf (not_t hb4) hx⟩ outP
        · intro L f18 w18 hL hd hc ⟨m18, L40, S18, K, hO⟩
          rcases bool_tf (x3.At != x4.At) with hb5 | hb5
          · obtain ⟨u23, rfl⟩ := fr_of (N := 43) (L := [(28, _)]) hO ⟨K 11 (dep hd rfl), trivial⟩
            exact wpl_no (d := 28) rfl rfl (congrArg Value.bool hb5) <| oS HM L40 S18 rfl K rfl rfl ⟨fun hx => tf hx (not_f hb5), fun _ => rfl⟩ outP
          obtain ⟨v12, v13, e24, h18, h19⟩ := (K 15 (dep hd rfl)).1 (not_t hb5)
          obtain ⟨u22, rfl⟩ := fr_of (N := 43) (L := [(28, _), (32, _)]) hO ⟨K 11 (dep hd rfl), e24, trivial⟩
          exact wpl_yes (d := 28) rfl rfl (congrArg Value.bool hb5) <| s_ldM (cs := [v12]) S18 rfl h19 rfl Try.isAgg27 Try.sizeOf27 (fun _ => rfl) <| oS HM L40 S18 rfl K rfl rfl ⟨fun _ => ⟨v12, rfl, h18⟩, fun hx => tf (not_t hb5) hx⟩ outP
        · intro L f19 w19 hL hd hc ⟨m19, L43, S19, K, hO⟩
          rcases bool_tf (x3.At != x4.At) with hb6 | hb6
          · obtain ⟨u25, rfl⟩ := fr_of (N := 43) (L := [(28, _)]) hO ⟨K 11 (dep hd rfl), trivial⟩
            exact wpl_no (d := 28) rfl rfl (congrArg Value.bool hb6) <| oS HM L43 S19 rfl K rfl rfl ⟨fun hx => tf hx (not_f hb6), fun _ => rfl⟩ outP
          obtain ⟨v14, e27, h20⟩ := (K 16 (dep hd rfl)).1 (not_t hb6)
          obtain ⟨u24, rfl⟩ := fr_of (N := 43) (L := [(28, _), (33, _)]) hO ⟨K 11 (dep hd rfl), e27, trivial⟩
          exact wpl_yes (d := 28) rfl rfl (congrArg Value.bool hb6) <| s_bytesS (xs := x5.Body) (t2' := 5) S19 rfl h20 Try.underlying27 Try.underlying5 Try.underlying9 <| oS HM L43 S19 rfl K rfl rfl ⟨fun _ => rfl, fun hx => tf (not_t hb6) hx⟩ outP
        · intro L f20 w20 hL hd hc ⟨m20, L46, S20, K, hO⟩
          rcases bool_tf (x3.At != x4.At) with hb7 | hb7
          · obtain ⟨u27, rfl⟩ := fr_of (N := 43) (L := [(28, _)]) hO ⟨K 11 (dep hd rfl), trivial⟩
            exact wpl_no (d := 28) rfl rfl (congrArg Value.bool hb7) <| oS HM L46 S20 rfl K rfl rfl ⟨fun hx => tf hx (not_f hb7), fun _ => rfl⟩ outP
          obtain ⟨u26, rfl⟩ := fr_of (N := 43) (L := [(28, _)]) hO ⟨K 11 (dep hd rfl), trivial⟩
          exact wpl_yes (d := 28) rfl rfl (congrArg Value.bool hb7) <| s_mvv (v := a1v0) rfl <| oS HM L46 S20 rfl K rfl rfl ⟨fun _ => rfl, fun hx => tf (not_t hb7) hx⟩ outP
        · intro L f21 w21 hL hd hc ⟨m21, L49, S21, K, hO⟩
          rcases bool_tf (x3.At != x4.At) with hb8 | hb8
          · obtain ⟨u29, rfl⟩ := fr_of (N := 43) (L := [(28, _)]) hO ⟨K 11 (dep hd rfl), trivial⟩
            exact wpl_no (d := 28) rfl rfl (congrArg Value.bool hb8) <| oS HM L49 S21 rfl K rfl rfl ⟨fun hx => tf hx (not_f hb8), fun _ => rfl⟩ outP
          obtain ⟨u28, rfl⟩ := fr_of (N := 43) (L := [(28, _)]) hO ⟨K 11 (dep hd rfl), trivial⟩
          exact wpl_yes (d := 28) rfl rfl (congrArg Value.bool hb8) <| s_mvv (v := vI s1) rfl <| oS HM L49 S21 rfl K rfl rfl ⟨fun _ => rfl, fun hx => tf (not_t hb8) hx⟩ outP
        · intro L f22 w22 hL hd hc ⟨m22, L52, S22, K, hO⟩
          rcases bool_tf (x3.At != x4.At) with hb9 | hb9
          · obtain ⟨u31, rfl⟩ := fr_of (N := 43) (L := [(28, _)]) hO ⟨K 11 (dep hd rfl), trivial⟩
            exact wpl_no (d := 28) rfl rfl (congrArg Value.bool hb9) <| oS HM L52 S22 rfl K rfl rfl ⟨fun hx => tf hx (not_f hb9), fun _ => rfl⟩ outP
          obtain ⟨u30, rfl⟩ := fr_of (N := 43) (L := [(28, _), (35, _), (36, _)]) hO ⟨K 11 (dep hd rfl), (K 18 (dep hd rfl)).1 (not_t hb9), (K 19 (dep hd rfl)).1 (not_t hb9), trivial⟩
          replace a1h0 := a1h0.up L52
          refine wpl_yes (d := 28) rfl rfl (congrArg Value.bool hb9) ?_
          replace q9 := gu_t (not_t hb9) q9
          refine s_idx (q := x6) rfl rfl a1h0 q9 Try.underlying23 Try.sizeOf55 fun p7 c4 h21 r4 => ?_
          obtain ⟨v15, rfl, h22⟩ := rep_g_api_Leaf r4
          exact oS HM L52 S22 rfl K rfl rfl ⟨fun _ => ⟨v15, p7, rfl, h22, h21⟩, fun hx => tf (not_t hb9) hx⟩ outP
        · intro L f23 w23 hL hd hc ⟨m23, L55, S23, K, hO⟩
          rcases bool_tf (x3.At != x4.At) with hb10 | hb10
          · obtain ⟨u33, rfl⟩ := fr_of (N := 43) (L := [(28, _)]) hO ⟨K 11 (dep hd rfl), trivial⟩
            exact wpl_no (d := 28) rfl rfl (congrArg Value.bool hb10) <| oS HM L55 S23 rfl K rfl rfl ⟨fun hx => tf hx (not_f hb10), fun _ => rfl⟩ outP
          obtain ⟨v16, v17, e38, h23, h24⟩ := (K 20 (dep hd rfl)).1 (not_t hb10)
          obtain ⟨u32, rfl⟩ := fr_of (N := 43) (L := [(28, _), (37, _)]) hO ⟨K 11 (dep hd rfl), e38, trivial⟩
          refine wpl_yes (d := 28) rfl rfl (congrArg Value.bool hb10) <| s_fldM (n := 0) rfl h24 Try.underlying55 rfl rfl Try.sizeOf27 fun p8 h25 => ?_
          replace h25 : PtC _ _ [v16, vI x6.At] := h25
          exact oS HM L55 S23 rfl K rfl rfl ⟨fun _ => ⟨v16, p8, rfl, h23, h25⟩, fun hx => tf (not_t hb10) hx⟩ outP
        · intro L f24 w24 hL hd hc ⟨m24, L58, S24, K, hO⟩
          rcases bool_tf (x3.At != x4.At) with hb11 | hb11
          · obtain ⟨u35, rfl⟩ := fr_of (N := 43) (L := [(28, _)]) hO ⟨K 11 (dep hd rfl), trivial⟩
            exact wpl_no (d := 28) rfl rfl (congrArg Value.bool hb11) <| oS HM L58 S24 rfl K rfl rfl ⟨fun hx => tf hx (not_f hb11), fun _ => rfl⟩ outP
          obtain ⟨v18, v19, e41, h26, h27⟩ := (K 21 (dep hd rfl)).1 (not_t hb11)
          obtain ⟨u34, rfl⟩ := fr_of (N := 43) (L := [(28, _), (38, _)]) hO ⟨K 11 (dep hd rfl), e41, trivial⟩
          exact wpl_yes (d := 28) rfl rfl (congrArg Value.bool hb11) <| s_ldM (cs := [v18]) S24 rfl h27 rfl Try.isAgg27 Try.sizeOf27 (fun _ => rfl) <| oS HM L58 S24 rfl K rfl rfl ⟨fun _ => ⟨v18, rfl, h26⟩, fun hx => tf (not_t hb11) hx⟩ outP
        · intro L f25 w25 hL hd hc ⟨m25, L61, S25, K, hO⟩
          rcases bool_tf (x3.At != x4.At) with hb12 | hb12
          · obtain ⟨u37, rfl⟩ := fr_of (N := 43) (L := [(28, _)]) hO ⟨K 11 (dep hd rfl), trivial⟩
            exact wpl_no (d := 28) rfl rfl (congrArg Value.bool hb12) <| oS HM L61 S25 rfl K rfl rfl ⟨fun hx => tf hx (not_f hb12), fun _ => rfl⟩ outP
          obtain ⟨v20, e44, h28⟩ := (K 22 (dep hd rfl)).1 (not_t hb12)
          obtain ⟨u36, rfl⟩ := fr_of (N := 43) (L := [(28, _), (39, _)]) hO ⟨K 11 (dep hd rfl), e44, trivial⟩
          exact wpl_yes (d := 28) rfl rfl (congrArg Value.bool hb12) <| s_bytesS (xs := x6.Body) (t2' := 5) S25 rfl h28 Try.underlying27 Try.underlying5 Try.underlying9 <| oS HM L61 S25 rfl K rfl rfl ⟨fun _ => rfl, fun hx => tf (not_t hb12) hx⟩ outP
        · intro L f26 w26 hL hd hc ⟨m26, L64, S26, K, hO⟩
          rcases bool_tf (x3.At != x4.At) with hb13 | hb13
          · obtain ⟨u39, rfl⟩ := fr_of (N := 43) (L := [(28, _)]) hO ⟨K 11 (dep hd rfl), trivial⟩
            exact wpl_no (d := 28) rfl rfl (congrArg Value.bool hb13) <| oS HM L64 S26 rfl K rfl rfl ⟨fun hx => tf hx (not_f hb13), fun _ => rfl⟩ outP
          obtain ⟨u38, rfl⟩ := fr_of (N := 43) (L := [(28, _), (34, _), (40, _)]) hO ⟨K 11 (dep hd rfl), (K 17 (dep hd rfl)).1 (not_t hb13), (K 23 (dep hd rfl)).1 (not_t hb13), trivial⟩
          exact wpl_yes (d := 28) rfl rfl (congrArg Value.bool hb13) <| s_neqT (p := (bs x5.Body)) (q := (bs x6.Body)) rfl rfl <| oS HM L64 S26 rfl K rfl rfl ⟨fun _ => rfl, fun hx => tf (not_t hb13) hx⟩ outP
        · intro L f27 w27 hL hd hc ⟨m27, L67, S27, K, hO⟩
          rcases bool_tf (x3.At != x4.At) with hb14 | hb14
          · obtain ⟨u40, rfl⟩ := fr_of (N := 43) (L := [(28, _)]) hO ⟨K 11 (dep hd rfl), trivial⟩
            exact s_pickT (congrArg Value.bool hb14) rfl <| oS HM L67 S27 rfl K rfl rfl (congrArg Value.bool (or_t hb14)) outP
          · obtain ⟨u41, rfl⟩ := fr_of (N := 43) (L := [(28, _), (41, _)]) hO ⟨K 11 (dep hd rfl), (K 24 (dep hd rfl)).1 (not_t hb14), trivial⟩
            exact s_pickF (congrArg Value.bool hb14) rfl <| oS HM L67 S27 rfl K rfl rfl (congrArg Value.bool (or_f hb14)) outP
      intro L f28 w28 hall ⟨m28, L70, S28, K, hO⟩
      have d25 : L 25 = true := hall 25 (by decide)
      obtain ⟨u42, rfl⟩ := fr_of (N := 43) (L := [(42, _)]) hO ⟨K 25 d25, trivial⟩
      replace S28 : St _ (As) _ := S28
      replace L2 := Mem.tr L2 L70
      clear S1
      refine wpl_nil <| nrm <| wpc_if (t := ((x3.At != x4.At) || (!eqS (bs x5.Body) (bs x6.Body)))) rfl (fun hc3 => ?_) (fun hc3 => ?_)
      · replace q4 := ifT hc3 q4
        refine wpc_seq <| wpc_region <| s_asv (v := vb false) rfl <| wpl_nil <| nrm <| wpc_ret <| blR <| thR <| thR <| blR <| thR <| outRw fun we hpd => ?_
        replace S28 := St.pd S28 hpd
        cases q4
        rcases q3 with ⟨sn, e, _⟩ | e
        · cases e
        cases e
        dsimp only at hm
        have e0 := Option.some.inj hm
        subst e0
        exact outR [_] rfl ⟨rfl, trivial⟩ ⟨_, (Mem.tr L0 (Mem.tr L3 L2)), S28, rfl⟩
      replace q4 := ifF hc3 q4
      refine wpc_skip <| nrmB <| nrm <| wpc_region <| s_mvv (v := vI s1) rfl <| s_addI (m := s1) (n := 1) rfl rfl <| s_asv (v := vI (w64 (s1 + 1))) rfl <| wpl_nil <| nrm ?_
      have e0 := Option.some.inj q4
      subst e0
      rcases q3 with ⟨sn, e, q3'⟩ | e
      · cases e
        exact ⟨outP, _, Nat.lt_succ_self _, ⟨_, m28, q3', Mem.tr L3 L2, S28, ⟨rfl, trivial⟩⟩⟩
      · cases e
    replace q4 := ifF hc2 q4
    refine wpc_exit <| thE <| thE <| exB <| nrm ?_
    have e0 := Option.some.inj q4
    subst e0
    rcases q3 with ⟨sn, e, _⟩ | e
    · cases e
    · cases e
      exact ⟨outP, m1, _, rfl, Mem.tr L3 L2, S1, trivial⟩
 rintro f29 w29 ho ⟨m30, y1, rfl, l1, S29, ha⟩
 obtain ⟨u43, rfl⟩ := fr_of (N := 43) ho ha
 clear ho ha
 dsimp only at hm
 replace L0 := Mem.tr L0 l1
 clear S
 refine wpc_seq <| wpc_region <| s_asv (v := vb true) rfl <| wpl_nil <| nrm <| wpc_ret <| outRw fun we hpd => ?_
 replace S29 := St.pd S29 hpd
 have e0 := Option.some.inj hm
 subst e0
 exact outR [_] rfl ⟨rfl, trivial⟩ ⟨_, L0, S29, rfl⟩

def m_ref24_Same_b3 (a0 : g_api_Log) (a1 : g_api_Log) (s1 : Int) : Option ((Int) ⊕ ((Unit) ⊕ Bool)) :=
  if (decide (s1 < (a0.Hide.length : Int))) = true then
    obind (idx a0.Hide s1) fun x3 =>
    obind (idx a1.Hide s1) fun x4 =>
    if (x3 != x4) = true then
      some (.inr (.inr false))
    else
    some (.inl (w64 (s1 + 1)))
  else
  some (.inr (.inl ()))

def m_ref24_Same (a0 : g_api_Log) (a1 : g_api_Log) : Option Bool :=
  if ((((a0.Id != a1.Id) || ((a0.Key.toNat : Int) != (a1.Key.toNat : Int))) || (a0.Delay != a1.Delay)) || ((a0.Hide.length : Int) != (a1.Hide.length : Int))) = true then
    some false
  else
  obind (iter (m_ref24_Same_b3 a0 a1) FUEL 0) fun x1 => match x1 with
  | .inr r => some r
  | .inl y1 =>
  obind (m_ref24_SameLeaves a0.L a1.L) fun x5 =>
  obind (
    if x5 = true then
      obind (m_ref24_SameLeaves a0.Wait a1.Wait) fun x8 =>
      some x8
    else
    some false
  ) fun x7 =>
  some x7

theorem w_ref24_Same {m : Mem} {As : List Ow} {w : World} {a0 : g_api_Log} {a0v3 : Value} {a0v4 : Value} {a0v5 : Value} {a1 : g_api_Log} {a1v3 : Value} {a1v4 : Value} {a1v5 : Value} {r : Bool} (S : St m (As) w) (a0h3 : SlR m a0v3 a0.L) (a0h4 : SlR m a0v4 a0.Hide) (a0h5 : SlR m a0v5 a0.Wait) (a1h3 : SlR m a1v3 a1.L) (a1h4 : SlR m a1v4 a1.Hide) (a1h5 : SlR m a1v5 a1.Wait) (hm : m_ref24_Same a0 a1 = some r) :
    CallsR Try.prog 15 #[.agg #[vI a0.Id, vU a0.Key, vI a0.Delay, a0v3, a0v4, a0v5], .agg #[vI a1.Id, vU a1.Key, vI a1.Delay, a1v3, a1v4, a1v5]] w fun v w' => ∃ (M : Mem), m ≤ M ∧ St M (As) w' ∧ v = vb r := by
 unfold m_ref24_Same at hm
 have L0 := Mem.rfl' m
 refine callsR (args := [.agg #[vI a0.Id, vU a0.Key, vI a0.Delay, a0v3, a0v4, a0v5], .agg #[vI a1.Id, vU a1.Key, vI a1.Delay, a1v3, a1v4, a1v5]]) Try.func15 rfl Try.ntmps15 (Nat.le_of_ble_eq_true rfl) <| wpc_seq <| wpc_region <| s_box S rfl fun b1 w1 S1 => ?_
 replace S1 : St _ ((bx b1 [vI a0.Id, vU a0.Key, vI a0.Delay, a0v3, a0v4, a0v5] 26) :: As) _ := S1
 clear S
 refine s_box S1 rfl fun b2 w2 S2 => ?_
 replace S2 : St _ ((bx b2 [vI a1.Id, vU a1.Key, vI a1.Delay, a1v3, a1v4, a1v5] 26) :: (bx b1 [vI a0.Id, vU a0.Key, vI a0.Delay, a0v3, a0v4, a0v5] 26) :: As) _ := S2
 clear S1
 refine s_asv (v := vb false) rfl <| wpl_nil <| nrm <| wpc_seq <| wpc_seq <| wpc_region <| s_fld (n := 0) rfl Try.underlying26 rfl rfl Try.sizeOf3 <| s_ld (i := 1) (cs := [vI a0.Id]) S2 rfl rfl Try.isAgg3 Try.sizeOf3 rfl (fun _ => rfl) <| s_fld (n := 0) rfl Try.underlying26 rfl rfl Try.sizeOf3 <| s_ld (i := 0) (cs := [vI a1.Id]) S2 rfl rfl Try.isAgg3 Try.sizeOf3 rfl (fun _ => rfl) <| s_neq (m := a0.Id) (n := a1.Id) rfl rfl <| s_mvv (v := vb (a0.Id != a1.Id)) rfl <| wpl_cut 6 [12, 13, 14, 15, 16, 17] (fun f' w' => w' = w2 ∧ AllAt f' [(17, vb ((a0.Id != a1.Id) || ((a0.Key.toNat : Int) != (a1.Key.toNat : Int))))]) ?_ ?_
 · rcases bool_tf (a0.Id != a1.Id) with hb1 | hb1
   · exact wpl_no (d := 11) rfl rfl (congrArg Value.bool hb1) <| wpl_no (d := 11) rfl rfl (congrArg Value.bool hb1) <| wpl_no (d := 11) rfl rfl (congrArg Value.bool hb1) <| wpl_no (d := 11) rfl rfl (congrArg Value.bool hb1) <| wpl_no (d := 11) rfl rfl (congrArg Value.bool hb1) <| s_pickT (congrArg Value.bool hb1) rfl <| wpl_nil (nrm ⟨outP, rfl, congrArg Value.bool (or_t hb1), trivial⟩)
   · exact wpl_yes (d := 11) rfl rfl (congrArg Value.bool hb1) <| s_fld (n := 0) rfl Try.underlying26 rfl rfl Try.sizeOf22 <| wpl_yes (d := 11) rfl rfl (congrArg Value.bool hb1) <| s_ld (i := 1) (cs := [vU a0.Key]) S2 rfl rfl Try.isAgg22 Try.sizeOf22 rfl (fun _ => rfl) <| wpl_yes (d := 11) rfl rfl (congrArg Value.bool hb1) <| s_fld (n := 0) rfl Try.underlying26 rfl rfl Try.sizeOf22 <| wpl_yes (d := 11) rfl rfl (congrArg Value.bool hb1) <| s_ld (i := 0) (cs := [vU a1.Key]) S2 rfl rfl Try.isAgg22 Try.sizeOf22 rfl (fun _ => rfl) <| wpl_yes (d := 11) rfl rfl (congrArg Value.bool hb1) <| s_neq (m := (a0.Key.toNat : Int)) (n := (a1.Key.toNat : Int)) rfl rfl <| s_pickF (congrArg Value.bool hb1) rfl <| wpl_nil (nrm ⟨outP, rfl, congrArg Value.bool (or_f hb1), trivial⟩)
 rintro f1 w3 ho ⟨h1, ha⟩
 subst h1
 obtain ⟨u1, rfl⟩ := fr_of (N := 64) ho ha
 refine s_mvv (v := vb ((a0.Id != a1.Id) || ((a0.Key.toNat : Int) != (a1.Key.toNat : Int)))) rfl <| wpl_cut 6 [19, 20, 21, 22, 23, 24] (fun f' w' => w' = w3 ∧ AllAt f' [(24, vb (((a0.Id != a1.Id) || ((a0.Key.toNat : Int) != (a1.Key.toNat : Int))) || (a0.Delay != a1.Delay)))]) ?_ ?_
 · rcases bool_tf ((a0.Id != a1.Id) || ((a0.Key.toNat : Int) != (a1.Key.toNat : Int))) with hb2 | hb2
   · exact wpl_no (d := 18) rfl rfl (congrArg Value.bool hb2) <| wpl_no (d := 18) rfl rfl (congrArg Value.bool hb2) <| wpl_no (d := 18) rfl rfl (congrArg Value.bool hb2) <| wpl_no (d := 18) rfl rfl (congrArg Value.bool hb2) <| wpl_no (d := 18) rfl rfl (congrArg Value.bool hb2) <| s_pickT (congrArg Value.bool hb2) rfl <| wpl_nil (nrm ⟨outP, rfl, congrArg Value.bool (or_t hb2), trivial⟩)
   · exact wpl_yes (d := 18) rfl rfl (congrArg Value.bool hb2) <| s_fld (n := 0) rfl Try.underlying26 rfl rfl Try.sizeOf3 <| wpl_yes (d := 18) rfl rfl (congrArg Value.bool hb2) <| s_ld (i := 1) (cs := [vI a0.Delay]) S2 rfl rfl Try.isAgg3 Try.sizeOf3 rfl (fun _ => rfl) <| wpl_yes (d := 18) rfl rfl (congrArg Value.bool hb2) <| s_fld (n := 0) rfl Try.underlying26 rfl rfl Try.sizeOf3 <| wpl_yes (d := 18) rfl rfl (congrArg Value.bool hb2) <| s_ld (i := 0) (cs := [vI a1.Delay]) S2 rfl rfl Try.isAgg3 Try.sizeOf3 rfl (fun _ => rfl) <| wpl_yes (d := 18) rfl rfl (congrArg Value.bool hb2) <| s_neq (m := a0.Delay) (n := a1.Delay) rfl rfl <| s_pickF (congrArg Value.bool hb2) rfl <| wpl_nil (nrm ⟨outP, rfl, congrArg Value.bool (or_f hb2), trivial⟩)
 rintro f2 w4 ho ⟨h2, ha⟩
 subst h2
 obtain ⟨u2, rfl⟩ := fr_of (N := 64) ho ha
 refine s_mvv (v := vb (((a0.Id != a1.Id) || ((a0.Key.toNat : Int) != (a1.Key.toNat : Int))) || (a0.Delay != a1.Delay))) rfl <| wpl_cut 8 [26, 27, 28, 29, 30, 31, 32, 33] (fun f' w' => w' = w4 ∧ AllAt f' [(33, vb ((((a0.Id != a1.Id) || ((a0.Key.toNat : Int) != (a1.Key.toNat : Int))) || (a0.Delay != a1.Delay)) || ((a0.Hide.length : Int) != (a1.Hide.length : Int))))]) ?_ ?_
 · rcases bool_tf (((a0.Id != a1.Id) || ((a0.Key.toNat : Int) != (a1.Key.toNat : Int))) || (a0.Delay != a1.Delay)) with hb3 | hb3
   · exact wpl_no (d := 25) rfl rfl (congrArg Value.bool hb3) <| wpl_no (d := 25) rfl rfl (congrArg Value.bool hb3) <| wpl_no (d := 25) rfl rfl (congrArg Value.bool hb3) <| wpl_no (d := 25) rfl rfl (congrArg Value.bool hb3) <| wpl_no (d := 25) rfl rfl (congrArg Value.bool hb3) <| wpl_no (d := 25) rfl rfl (congrArg Value.bool hb3) <| wpl_no (d := 25) rfl rfl (congrArg Value.bool hb3) <| s_pickT (congrArg Value.bool hb3) rfl <| wpl_nil (nrm ⟨outP, rfl, congrArg Value.bool (or_t hb3), trivial⟩)
   · exact wpl_yes (d := 25) rfl rfl (congrArg Value.bool hb3) <| s_fld (n := 0) rfl Try.underlying26 rfl rfl Try.sizeOf24 <| wpl_yes (d := 25) rfl rfl (congrArg Value.bool hb3) <| s_ld (i := 1) (cs := [a0v4]) S2 rfl rfl Try.isAgg24 Try.sizeOf24 rfl (fun _ => rfl) <| wpl_yes (d := 25) rfl rfl (congrArg Value.bool hb3) <| s_lenR (xs := a0.Hide) rfl a0h4 Try.underlying24 <| wpl_yes (d := 25) rfl rfl (congrArg Value.bool hb3) <| s_fld (n := 0) rfl Try.underlying26 rfl rfl Try.sizeOf24 <| wpl_yes (d := 25) rfl rfl (congrArg Value.bool hb3) <| s_ld (i := 0) (cs := [a1v4]) S2 rfl rfl Try.isAgg24 Try.sizeOf24 rfl (fun _ => rfl) <| wpl_yes (d := 25) rfl rfl (congrArg Value.bool hb3) <| s_lenR (xs := a1.Hide) rfl a1h4 Try.underlying24 <| wpl_yes (d := 25) rfl rfl (congrArg Value.bool hb3) <| s_neq (m := (a0.Hide.length : Int)) (n := (a1.Hide.length : Int)) rfl rfl <| s_pickF (congrArg Value.bool hb3) rfl <| wpl_nil (nrm ⟨outP, rfl, congrArg Value.bool (or_f hb3), trivial⟩)
 rintro f3 w5 ho ⟨h3, ha⟩
 subst h3
 obtain ⟨u3, rfl⟩ := fr_of (N := 64) ho ha
 refine wpl_nil <| nrm <| wpc_if (t := ((((a0.Id != a1.Id) || ((a0.Key.toNat : Int) != (a1.Key.toNat : Int))) || (a0.Delay != a1.Delay)) || ((a0.Hide.length : Int) != (a1.Hide.length : Int)))) rfl (fun hc1 => ?_) (fun hc1 => ?_)
 · replace hm := ifT hc1 hm
   refine wpc_seq <| wpc_region <| s_asv (v := vb false) rfl <| wpl_nil <| nrm <| wpc_ret <| thR <| outRw fun we hpd => ?_
   replace S2 := St.pd S2 hpd
   obtain ⟨m1, l1, S3⟩ := St.drop S2 0
   replace L0 := Mem.tr L0 l1
   clear S2
   replace S3 : St _ ((bx b1 [vI a0.Id, vU a0.Key, vI a0.Delay, a0v3, a0v4, a0v5] 26) :: As) _ := S3
   obtain ⟨m2, l2, S4⟩ := St.drop S3 0
   replace L0 := Mem.tr L0 l2
   clear S3
   replace S4 : St _ (As) _ := S4
   have e0 := Option.some.inj hm
   subst e0
   exact outR [_] rfl ⟨rfl, trivial⟩ ⟨_, L0, S4, rfl⟩
 replace hm := ifF hc1 hm
 refine wpc_skip <| nrm <| wpc_seq <| wpc_seq <| wpc_region <| s_asv (v := vI 0) rfl <| wpl_nil <| nrm ?_
 obtain ⟨x1, q1, hm⟩ := obind_some hm
 have L1 := Mem.rfl' m
 refine wpc_join [4, 5, 34, 35, 36, 37, 38, 39, 40, 41, 42, 43, 44, 45, 46, 47, 48, 49, 50, 51] (fun f' w' => ∃ (M1 : Mem) (y1 : Unit), x1 = .inl y1 ∧ m ≤ M1 ∧ St M1 ((bx b2 [vI a1.Id, vU a1.Key, vI a1.Delay, a1v3, a1v4, a1v5] 26) :: (bx b1 [vI a0.Id, vU a0.Key, vI a0.Delay, a0v3, a0v4, a0v5] 26) :: As) w' ∧ AllAt f' []) ?_ ?_
 · refine wpc_block <| wpc_rounds [4, 5, 34, 35, 36, 37, 38, 39, 40, 41, 42, 43, 44, 45, 46, 47, 48, 49, 50, 51] (fun n1 f' w' => ∃ (s1 : Int) (m17 : Mem), iter (m_ref24_Same_b3 a0 a1) n1 s1 = some x1 ∧ m ≤ m17 ∧ St m17 ((bx b2 [vI a1.Id, vU a1.Key, vI a1.Delay, a1v3, a1v4, a1v5] 26) :: (bx b1 [vI a0.Id, vU a0.Key, vI a0.Delay, a0v3, a0v4, a0v5] 26) :: As) w' ∧ AllAt f' [(5, vI s1)]) FUEL ⟨0, m, q1, L1, S2, ⟨rfl, trivial⟩⟩ ?_
   rintro n1 f4 w6 ho ⟨s1, m3, q2, L3, S5, ha⟩
   obtain ⟨u4, rfl⟩ := fr_of (N := 64) ho ha
   clear ho ha
   replace a1h3 := a1h3.up L3
   replace a1h4 := a1h4.up L3
   replace a1h5 := a1h5.up L3
   replace a0h3 := a0h3.up L3
   replace a0h4 := a0h4.up L3
   replace a0h5 := a0h5.up L3
   have L2 := Mem.rfl' m3
   clear S2
   cases n1 with
   | zero => exact (iter_zero q2).elim
   | succ n1 =>
    obtain ⟨y2, q4, q3⟩ := iter_succ q2
    unfold m_ref24_Same_b3 at q4
    refine wpc_seq <| wpc_seq <| wpc_region <| s_mvv (v := vI s1) rfl <| s_fld (n := 0) rfl Try.underlying26 rfl rfl Try.sizeOf24 <| s_ld (i := 1) (cs := [a0v4]) S5 rfl rfl Try.isAgg24 Try.sizeOf24 rfl (fun _ => rfl) <| s_lenR (xs := a0.Hide) rfl a0h4 Try.underlying24 <| s_lss (m := s1) (n := (a0.Hide.length : Int)) rfl rfl <| wpl_nil <| nrm <| wpc_if (t := (decide (s1 < (a0.Hide.length : Int)))) rfl (fun hc2 => ?_) (fun hc2 => ?_)
    · replace q4 := ifT hc2 q4
      refine wpc_skip <| nrm <| wpc_seq <| wpc_block <| wpc_seq ?_
      obtain ⟨x3, q6, q4⟩ := obind_some q4
      obtain ⟨x4, q7, q4⟩ := obind_some q4
      have HM : MonoAll [(41, fun (M : Mem) (v : Value) => v = pt b1 4), (42, fun (M : Mem) (v : Value) => v = a0v4), (43, fun (M : Mem) (v : Value) => v = vI s1), (44, fun (M : Mem) (v : Value) => ∃ (p1 : Value), v = p1 ∧ PtC M p1 [vI x3]), (45, fun (M : Mem) (v : Value) => v = vI x3), (46, fun (M : Mem) (v : Value) => v = pt b2 4), (47, fun (M : Mem) (v : Value) => v = a1v4), (48, fun (M : Mem) (v : Value) => v = vI s1), (49, fun (M : Mem) (v : Value) => ∃ (p2 : Value), v = p2 ∧ PtC M p2 [vI x4]), (50, fun (M : Mem) (v : Value) => v = vI x4)] := ⟨(fun _ _ _ _ h => h), (fun _ _ _ _ h => h), (fun _ _ _ _ h => h), (fun _ _ _ l ⟨p1, e, h4⟩ => ⟨p1, e, h4.up l⟩), (fun _ _ _ _ h => h), (fun _ _ _ _ h => h), (fun _ _ _ _ h => h), (fun _ _ _ _ h => h), (fun _ _ _ l ⟨p2, e, h6⟩ => ⟨p2, e, h6.up l⟩), (fun _ _ _ _ h => h), trivial⟩
      refine wpc_flowG HM 10 mixed rfl rfl rfl [41, 42, 43, 44, 45, 46, 47, 48, 49, 50] (fun L f M w => St M ((bx b2 [vI a1.Id, vU a1.Key, vI a1.Delay, a1v3, a1v4, a1v5] 26) :: (bx b1 [vI a0.Id, vU a0.Key, vI a0.Delay, a0v3, a0v4, a0v5] 26) :: As) w) (St.drew S5 _) ?_ ?_
      · refine ⟨?_, ?_, ?_, ?_, ?_, ?_, ?_, ?_, ?_, ?_, trivial⟩
        · intro L f5 w7 hL hd hc ⟨m4, L4, S6, K, hO⟩
          obtain ⟨u5, rfl⟩ := fr_of (N := 64) (L := []) hO trivial
          exact s_fld (n := 0) rfl Try.underlying26 rfl rfl Try.sizeOf24 <| oS HM L4 S6 rfl K rfl rfl rfl outP
        · intro L f6 w8 hL hd hc ⟨m5, L6, S7, K, hO⟩
          obtain ⟨u6, rfl⟩ := fr_of (N := 64) (L := [(41, _)]) hO ⟨K 0 (dep hd rfl), trivial⟩
          exact s_ld (i := 1) (cs := [a0v4]) S7 rfl rfl Try.isAgg24 Try.sizeOf24 rfl (fun _ => rfl) <| oS HM L6 S7 rfl K rfl rfl rfl outP
        · intro L f7 w9 hL hd hc ⟨m6, L8, S8, K, hO⟩
          obtain ⟨u7, rfl⟩ := fr_of (N := 64) (L := []) hO trivial
          exact s_mvv (v := vI s1) rfl <| oS HM L8 S8 rfl K rfl rfl rfl outP
        · intro L f8 w10 hL hd hc ⟨m7, L10, S9, K, hO⟩
          obtain ⟨u8, rfl⟩ := fr_of (N := 64) (L := [(42, _), (43, _)]) hO ⟨K 1 (dep hd rfl), K 2 (dep hd rfl), trivial⟩
          replace a0h4 := a0h4.up L10
          refine s_idx (q := x3) rfl rfl a0h4 q6 Try.underlying24 Try.sizeOf3 fun p1 c1 h4 r1 => ?_
          obtain rfl : c1 = [vI x3] := r1
          exact oS HM L10 S9 rfl K rfl rfl ⟨p1, rfl, h4⟩ outP
        · intro L f9 w11 hL hd hc ⟨m8, L12, S10, K, hO⟩
          obtain ⟨v1, e4, h5⟩ := K 3 (dep hd rfl)
          obtain ⟨u9, rfl⟩ := fr_of (N := 64) (L := [(44, _)]) hO ⟨e4, trivial⟩
          exact s_ldM (cs := [vI x3]) S10 rfl h5 rfl Try.isAgg3 Try.sizeOf3 (fun _ => rfl) <| oS HM L12 S10 rfl K rfl rfl rfl outP
        · intro L f10 w12 hL hd hc ⟨m9, L14, S11, K, hO⟩
          obtain ⟨u10, rfl⟩ := fr_of (N := 64) (L := []) hO trivial
          exact s_fld (n := 0) rfl Try.underlying26 rfl rfl Try.sizeOf24 <| oS HM L14 S11 rfl K rfl rfl rfl outP
        · intro L f11 w13 hL hd hc ⟨m10, L16, S12, K, hO⟩
          obtain ⟨u11, rfl⟩ := fr_of (N := 64) (L := [(46, _)]) hO ⟨K 5 (dep hd rfl), trivial⟩
          exact s_ld (i := 0) (cs := [a1v4]) S12 rfl rfl Try.isAgg24 Try.sizeOf24 rfl (fun _ => rfl) <| oS HM L16 S12 rfl K rfl rfl rfl outP
        · intro L f12 w14 hL hd hc ⟨m11, L18, S13, K, hO⟩
          obtain ⟨u12, rfl⟩ := fr_of (N := 64) (L := []) hO trivial
          exact s_mvv (v := vI s1) rfl <| oS HM L18 S13 rfl K rfl rfl rfl outP
        · intro L f13 w15 hL hd hc ⟨m12, L20, S14, K, hO⟩
          obtain ⟨u13, rfl⟩ := fr_of (N := 64) (L := [(47, _), (48, _)]) hO ⟨K 6 (dep hd rfl), K 7 (dep hd rfl), trivial⟩
          replace a1h4 := a1h4.up L20
          refine s_idx (q := x4) rfl rfl a1h4 q7 Try.underlying24 Try.sizeOf3 fun p2 c2 h6 r2 => ?_
          obtain rfl : c2 = [vI x4] := r2
          exact oS HM L20 S14 rfl K rfl rfl ⟨p2, rfl, h6⟩ outP
        · intro L f14 w16 hL hd hc ⟨m13, L22, S15, K, hO⟩
          obtain ⟨v2, e8, h7⟩ := K 8 (dep hd rfl)
          obtain ⟨u14, rfl⟩ := fr_of (N := 64) (L := [(49, _)]) hO ⟨e8, trivial⟩
          exact s_ldM (cs := [vI x4]) S15 rfl h7 rfl Try.isAgg3 Try.sizeOf3 (fun _ => rfl) <| oS HM L22 S15 rfl K rfl rfl rfl outP
      intro L f15 w17 hall ⟨m14, L24, S16, K, hO⟩
      have d4 : L 4 = true := hall 4 (by decide)
      have d9 : L 9 = true := hall 9 (by decide)
      obtain ⟨u15, rfl⟩ := fr_of (N := 64) (L := [(45, _), (50, _)]) hO ⟨K 4 d4, K 9 d9, trivial⟩
      replace S16 : St _ ((bx b2 [vI a1.Id, vU a1.Key, vI a1.Delay, a1v3, a1v4, a1v5] 26) :: (bx b1 [vI a0.Id, vU a0.Key, vI a0.Delay, a0v3, a0v4, a0v5] 26) :: As) _ := S16
      replace a0h3 := a0h3.up L24
      replace a0h4 := a0h4.up L24
      replace a0h5 := a0h5.up L24
      replace L2 := Mem.tr L2 L24
      clear S5
      refine s_neq (m := x3) (n := x4) rfl rfl <| wpl_nil <| nrm <| wpc_if (t := (x3 != x4)) rfl (fun hc3 => ?_) (fun hc3 => ?_)
      · replace q4 := ifT hc3 q4
        refine wpc_seq <| wpc_region <| s_asv (v := vb false) rfl <| wpl_nil <| nrm <| wpc_ret <| blR <| thR <| thR <| blR <| thR <| outRw fun we hpd => ?_
        replace S16 := St.pd S16 hpd
        obtain ⟨m15, l3, S17⟩ := St.drop S16 0
        replace L2 := Mem.tr L2 l3
        clear S16
        replace S17 : St _ ((bx b1 [vI a0.Id, vU a0.Key, vI a0.Delay, a0v3, a0v4, a0v5] 26) :: As) _ := S17
        obtain ⟨m16, l4, S18⟩ := St.drop S17 0
        replace L2 := Mem.tr L2 l4
        clear S17
        replace S18 : St _ (As) _ := S18
        cases q4
        rcases q3 with ⟨sn, e, _⟩ | e
        · cases e
        cases e
        dsimp only at hm
        have e0 := Option.some.inj hm
        subst e0
        exact outR [_] rfl ⟨rfl, trivial⟩ ⟨_, (Mem.tr L0 (Mem.tr L3 L2)), S18, rfl⟩
      replace q4 := ifF hc3 q4
      refine wpc_skip <| nrmB <| nrm <| wpc_region <| s_mvv (v := vI s1) rfl <| s_addI (m := s1) (n := 1) rfl rfl <| s_asv (v := vI (w64 (s1 + 1))) rfl <| wpl_nil <| nrm ?_
      have e0 := Option.some.inj q4
      subst e0
      rcases q3 with ⟨sn, e, q3'⟩ | e
      · cases e
        exact ⟨outP, _, Nat.lt_succ_self _, ⟨_, m14, q3', Mem.tr L3 L2, S16, ⟨rfl, trivial⟩⟩⟩
      · cases e
    replace q4 := ifF hc2 q4
    refine wpc_exit <| thE <| thE <| exB <| nrm ?_
    have e0 := Option.some.inj q4
    subst e0
    rcases q3 with ⟨sn, e, _⟩ | e
    · cases e
    · cases e
      exact ⟨outP, m3, _, rfl, Mem.tr L3 L2, S5, trivial⟩
 rintro f16 w18 ho ⟨m18, y1, rfl, l5, S19, ha⟩
 obtain ⟨u16, rfl⟩ := fr_of (N := 64) ho ha
 clear ho ha
 dsimp only at hm
 replace a1h3 := a1h3.up l5
 replace a1h4 := a1h4.up l5
 replace a1h5 := a1h5.up l5
 replace a0h3 := a0h3.up l5
 replace a0h4 := a0h4.up l5
 replace a0h5 := a0h5.up l5
 replace L0 := Mem.tr L0 l5
 clear S2
 refine wpc_seq <| wpc_region <| s_fld (n := 0) rfl Try.underlying26 rfl rfl Try.sizeOf23 <| s_ld (i := 1) (cs := [a0v3]) S19 rfl rfl Try.isAgg23 Try.sizeOf23 rfl (fun _ => rfl) <| s_fld (n := 0) rfl Try.underlying26 rfl rfl Try.sizeOf23 <| s_ld (i := 0) (cs := [a1v3]) S19 rfl rfl Try.isAgg23 Try.sizeOf23 rfl (fun _ => rfl) ?_
 obtain ⟨x5, q8, hm⟩ := obind_some hm
 refine s_call Try.call37 (w_ref24_SameLeaves (a0 := a0.L) (a1 := a1.L) S19 a0h3 a1h3 q8) rfl ?_
 rintro _ w19 ⟨m19, l6, S20, rfl⟩
 replace a0h3 := a0h3.up l6
 replace a1h3 := a1h3.up l6
 replace a1h4 := a1h4.up l6
 replace a1h5 := a1h5.up l6
 replace a0h4 := a0h4.up l6
 replace a0h5 := a0h5.up l6
 replace L0 := Mem.tr L0 l6
 clear S19
 refine s_mvv (v := vb x5) rfl ?_
 obtain ⟨x7, q10, hm⟩ := obind_some hm
 have L25 := Mem.rfl' m19
 refine wpl_cut 6 [58, 59, 60, 61, 62, 63] (fun f' w' => ∃ (M2 : Mem), m19 ≤ M2 ∧ St M2 ((bx b2 [vI a1.Id, vU a1.Key, vI a1.Delay, a1v3, a1v4, a1v5] 26) :: (bx b1 [vI a0.Id, vU a0.Key, vI a0.Delay, a0v3, a0v4, a0v5] 26) :: As) w' ∧ AllAt f' [(63, vb x7)]) ?_ ?_
 · rcases bool_tf x5 with hb4 | hb4
   · replace q10 := ifT hb4 q10
     refine wpl_yes (d := 57) rfl rfl (congrArg Value.bool hb4) <| s_fld (n := 0) rfl Try.underlying26 rfl rfl Try.sizeOf23 <| wpl_yes (d := 57) rfl rfl (congrArg Value.bool hb4) <| s_ld (i := 1) (cs := [a0v5]) S20 rfl rfl Try.isAgg23 Try.sizeOf23 rfl (fun _ => rfl) <| wpl_yes (d := 57) rfl rfl (congrArg Value.bool hb4) <| s_fld (n := 0) rfl Try.underlying26 rfl rfl Try.sizeOf23 <| wpl_yes (d := 57) rfl rfl (congrArg Value.bool hb4) <| s_ld (i := 0) (cs := [a1v5]) S20 rfl rfl Try.isAgg23 Try.sizeOf23 rfl (fun _ => rfl) <| wpl_yes (d := 57) rfl rfl (congrArg Value.bool hb4) ?_
     obtain ⟨x8, q11, q10⟩ := obind_some q10
     refine s_call Try.call37 (w_ref24_SameLeaves (a0 := a0.Wait) (a1 := a1.Wait) S20 a0h5 a1h5 q11) rfl ?_
     rintro _ w21 ⟨m21, l8, S22, rfl⟩
     replace L25 := Mem.tr L25 l8
     clear S20
     refine s_pickT (congrArg Value.bool hb4) rfl <| wpl_nil (nrm ?_)
     have e0 := Option.some.inj q10
     subst e0
     exact ⟨outP, m21, L25, S22, ⟨rfl, trivial⟩⟩
   replace q10 := ifF hb4 q10
   refine wpl_no (d := 57) rfl rfl (congrArg Value.bool hb4) <| wpl_no (d := 57) rfl rfl (congrArg Value.bool hb4) <| wpl_no (d := 57) rfl rfl (congrArg Value.bool hb4) <| wpl_no (d := 57) rfl rfl (congrArg Value.bool hb4) <| wpl_no (d := 57) rfl rfl (congrArg Value.bool hb4) <| s_pickF (congrArg Value.bool hb4) rfl <| wpl_nil (nrm ?_)
   have e0 := Option.some.inj q10
   subst e0
   exact ⟨outP, m19, L25, S20, ⟨rfl, trivial⟩⟩
 rintro f17 w22 ho ⟨m22, l9, S23, ha⟩
 obtain ⟨u17, rfl⟩ := fr_of (N := 64) ho ha
 replace a0h3 := a0h3.up l9
 replace a0h4 := a0h4.up l9
 replace a0h5 := a0h5.up l9
 replace L0 := Mem.tr L0 l9
 clear S20
 refine s_asv (v := vb x7) rfl <| wpl_nil <| nrm <| wpc_ret <| outRw fun we hpd => ?_
 replace S23 := St.pd S23 hpd
 obtain ⟨m23, l10, S24⟩ := St.drop S23 0
 replace L0 := Mem.tr L0 l10
 clear S23
 replace S24 : St _ ((bx b1 [vI a0.Id, vU a0.Key, vI a0.Delay, a0v3, a0v4, a0v5] 26) :: As) _ := S24
 obtain ⟨m24, l11, S25⟩ := St.drop S24 0
 replace L0 := Mem.tr L0 l11
 clear S24
 replace S25 : St _ (As) _ := S25
 have e0 := Option.some.inj hm
 subst e0
 exact outR [_] rfl ⟨rfl, trivial⟩ ⟨_, L0, S25, rfl⟩

def m_law24_LogdAgain (a0 : g_api_Log) (a1 : List UInt8) (a2 : Int) (a3 : Int) : Option Bool :=
  obind (m_law24_live ) fun x1 =>
  if (!x1) = true then
    some false
  else
  obind (m_law24_few a0 a1) fun x2 =>
  if (((!x2) || (decide (a3 < 0))) || (decide (a3 > 1099511627776))) = true then
    some true
  else
  obind (m_logd_Add a0 a1 a2) fun x3 =>
  if (x3.2.2 != 0) = true then
    some true
  else
  obind (m_logd_Add x3.1 a1 a3) fun x4 =>
  obind (m_logd_Merge x3.1) fun x5 =>
  obind (m_logd_Add x5.1 a1 a3) fun x6 =>
  obind (
    if (((((x4.2.2 == 0) && (x5.2 == 0)) && (x6.2.2 == 0)) && (eq_api_Promise x3.2.1 x4.2.1)) && (eq_api_Promise x3.2.1 x6.2.1)) = true then
      obind (m_ref24_Same x3.1 x4.1) fun x9 =>
      some x9
    else
    some false
  ) fun x8 =>
  obind (
    if x8 = true then
      obind (m_ref24_Same x5.1 x6.1) fun x12 =>
      some x12
    else
    some false
  ) fun x11 =>
  some x11

theorem w_law24_LogdAgain {m : Mem} {As : List Ow} {w : World} {a0 : g_api_Log} {a0v3 : Value} {a0v4 : Value} {a0v5 : Value} {a1 : List UInt8} {a1v0 : Value} {a2 : Int} {a3 : Int} {r : Bool} (S : St m (As) w) (a0h3 : SlR m a0v3 a0.L) (a0h4 : SlR m a0v4 a0.Hide) (a0h5 : SlR m a0v5 a0.Wait) (a1h0 : SlR m a1v0 a1) (hm : m_law24_LogdAgain a0 a1 a2 a3 = some r) :
    CallsR Try.prog 4 #[.agg #[vI a0.Id, vU a0.Key, vI a0.Delay, a0v3, a0v4, a0v5], a1v0, vI a2, vI a3] w fun v w' => ∃ (M : Mem), m ≤ M ∧ St M (As) w' ∧ v = vb r := by
 unfold m_law24_LogdAgain at hm
 have L0 := Mem.rfl' m
 refine callsR (args := [.agg #[vI a0.Id, vU a0.Key, vI a0.Delay, a0v3, a0v4, a0v5], a1v0, vI a2, vI a3]) Try.func4 rfl Try.ntmps4 (Nat.le_of_ble_eq_true rfl) <| wpc_seq <| wpc_region <| s_box S rfl fun b1 w1 S1 => ?_
 replace S1 : St _ ((bx b1 [vI a0.Id, vU a0.Key, vI a0.Delay, a0v3, a0v4, a0v5] 26) :: As) _ := S1
 clear S
 refine s_asv (v := vb false) rfl <| wpl_nil <| nrm <| wpc_seq <| wpc_seq <| wpc_region ?_
 obtain ⟨x1, q1, hm⟩ := obind_some hm
 refine s_call Try.call7 (w_law24_live  S1  q1) rfl ?_
 rintro _ w2 ⟨m1, l1, S2, rfl⟩
 replace a1h0 := a1h0.up l1
 replace a0h3 := a0h3.up l1
 replace a0h4 := a0h4.up l1
 replace a0h5 := a0h5.up l1
 replace L0 := Mem.tr L0 l1
 clear S1
 refine s_not rfl <| wpl_nil <| nrm <| wpc_if (t := (!x1)) rfl (fun hc1 => ?_) (fun hc1 => ?_)
 · replace hm := ifT hc1 hm
   refine wpc_seq <| wpc_region <| s_asv (v := vb false) rfl <| wpl_nil <| nrm <| wpc_ret <| thR <| outRw fun we hpd => ?_
   replace S2 := St.pd S2 hpd
   obtain ⟨m2, l2, S3⟩ := St.drop S2 0
   replace L0 := Mem.tr L0 l2
   clear S2
   replace S3 : St _ (As) _ := S3
   have e0 := Option.some.inj hm
   subst e0
   exact outR [_] rfl ⟨rfl, trivial⟩ ⟨_, L0, S3, rfl⟩
 replace hm := ifF hc1 hm
 refine wpc_skip <| nrm <| wpc_seq <| wpc_seq <| wpc_region <| s_ld (i := 0) (cs := [vI a0.Id, vU a0.Key, vI a0.Delay, a0v3, a0v4, a0v5]) S2 rfl rfl Try.isAgg26 Try.sizeOf26 rfl (fun h => by cases h) <| s_mvv (v := a1v0) rfl ?_
 obtain ⟨x2, q2, hm⟩ := obind_some hm
 refine s_call Try.call8 (w_law24_few (a0 := a0) (a1 := a1) S2 a0h3 a0h4 a0h5 a1h0 q2) rfl ?_
 rintro _ w3 ⟨m3, l3, S4, rfl⟩
 replace a1h0 := a1h0.up l3
 replace a0h3 := a0h3.up l3
 replace a0h4 := a0h4.up l3
 replace a0h5 := a0h5.up l3
 replace L0 := Mem.tr L0 l3
 clear S2
 refine s_not rfl <| s_mvv (v := vb (!x2)) rfl <| wpl_cut 3 [27, 28, 29] (fun f' w' => w' = w3 ∧ AllAt f' [(29, vb ((!x2) || (decide (a3 < 0))))]) ?_ ?_
 · rcases bool_tf (!x2) with hb1 | hb1
   · exact wpl_no (d := 26) rfl rfl (congrArg Value.bool hb1) <| wpl_no (d := 26) rfl rfl (congrArg Value.bool hb1) <| s_pickT (congrArg Value.bool hb1) rfl <| wpl_nil (nrm ⟨outP, rfl, congrArg Value.bool (or_t hb1), trivial⟩)
   · exact wpl_yes (d := 26) rfl rfl (congrArg Value.bool hb1) <| s_mvv (v := vI a3) rfl <| wpl_yes (d := 26) rfl rfl (congrArg Value.bool hb1) <| s_lss (m := a3) (n := 0) rfl rfl <| s_pickF (congrArg Value.bool hb1) rfl <| wpl_nil (nrm ⟨outP, rfl, congrArg Value.bool (or_f hb1), trivial⟩)
 rintro f1 w4 ho ⟨h1, ha⟩
 subst h1
 obtain ⟨u1, rfl⟩ := fr_of (N := 95) ho ha
 refine s_mvv (v := vb ((!x2) || (decide (a3 < 0)))) rfl <| wpl_cut 3 [31, 32, 33] (fun f' w' => w' = w4 ∧ AllAt f' [(33, vb (((!x2) || (decide (a3 < 0))) || (decide (a3 > 1099511627776))))]) ?_ ?_
 · rcases bool_tf ((!x2) || (decide (a3 < 0))) with hb2 | hb2
   · exact wpl_no (d := 30) rfl rfl (congrArg Value.bool hb2) <| wpl_no (d := 30) rfl rfl (congrArg Value.bool hb2) <| s_pickT (congrArg Value.bool hb2) rfl <| wpl_nil (nrm ⟨outP, rfl, congrArg Value.bool (or_t hb2), trivial⟩)
   · exact wpl_yes (d := 30) rfl rfl (congrArg Value.bool hb2) <| s_mvv (v := vI a3) rfl <| wpl_yes (d := 30) rfl rfl (congrArg Value.bool hb2) <| s_gtr (m := a3) (n := 1099511627776) rfl rfl <| s_pickF (congrArg Value.bool hb2) rfl <| wpl_nil (nrm ⟨outP, rfl, congrArg Value.bool (or_f hb2), trivial⟩)
 rintro f2 w5 ho ⟨h2, ha⟩
 subst h2
 obtain ⟨u2, rfl⟩ := fr_of (N := 95) ho ha
 refine wpl_nil <| nrm <| wpc_if (t := (((!x2) || (decide (a3 < 0))) || (decide (a3 > 1099511627776)))) rfl (fun hc2 => ?_) (fun hc2 => ?_)
 · replace hm := ifT hc2 hm
   refine wpc_seq <| wpc_region <| s_asv (v := vb true) rfl <| wpl_nil <| nrm <| wpc_ret <| thR <| outRw fun we hpd => ?_
   replace S4 := St.pd S4 hpd
   obtain ⟨m4, l4, S5⟩ := St.drop S4 0
   replace L0 := Mem.tr L0 l4
   clear S4
   replace S5 : St _ (As) _ := S5
   have e0 := Option.some.inj hm
   subst e0
   exact outR [_] rfl ⟨rfl, trivial⟩ ⟨_, L0, S5, rfl⟩
 replace hm := ifF hc2 hm
 refine wpc_skip <| nrm <| wpc_seq <| wpc_region <| s_ld (i := 0) (cs := [vI a0.Id, vU a0.Key, vI a0.Delay, a0v3, a0v4, a0v5]) S4 rfl rfl Try.isAgg26 Try.sizeOf26 rfl (fun h => by cases h) <| s_mvv (v := a1v0) rfl <| s_mvv (v := vI a2) rfl ?_
 obtain ⟨x3, q3, hm⟩ := obind_some hm
 refine s_call Try.call9 (w_logd_Add (a0 := a0) (a1 := a1) (a2 := a2) S4 a0h3 a0h4 a0h5 a1h0 q3) rfl ?_
 rintro _ w6 ⟨m5, l5, v1, v2, v3, S6, rfl, h3, h4, h5⟩
 replace a1h0 := a1h0.up l5
 replace a0h3 := a0h3.up l5
 replace a0h4 := a0h4.up l5
 replace a0h5 := a0h5.up l5
 replace L0 := Mem.tr L0 l5
 clear S4
 refine s_mvv (v := .tuple #[.agg #[vI x3.1.Id, vU x3.1.Key, vI x3.1.Delay, v1, v2, v3], .agg #[vI x3.2.1.Log, vI x3.2.1.At, vU x3.2.1.Leaf.1, vU x3.2.1.Leaf.2, vU x3.2.1.Sig.E, vU x3.2.1.Sig.S], vI x3.2.2]) rfl <| s_ext (i := 0) rfl rfl <| s_ext (i := 1) rfl rfl <| s_ext (i := 2) rfl rfl <| s_alloc S6 Try.zeroValue26 fun b2 w7 S7 => ?_
 replace S7 : St _ ((bx b2 [vI 0, vU 0, vI 0, .slice none 0 0, .slice none 0 0, .slice none 0 0] 26) :: (bx b1 [vI a0.Id, vU a0.Key, vI a0.Delay, a0v3, a0v4, a0v5] 26) :: As) _ := S7
 clear S6
 refine s_alloc S7 Try.zeroValue35 fun b3 w8 S8 => ?_
 replace S8 : St _ ((bx b3 [vI 0, vI 0, vU 0, vU 0, vU 0, vU 0] 35) :: (bx b2 [vI 0, vU 0, vI 0, .slice none 0 0, .slice none 0 0, .slice none 0 0] 26) :: (bx b1 [vI a0.Id, vU a0.Key, vI a0.Delay, a0v3, a0v4, a0v5] 26) :: As) _ := S8
 clear S7
 refine s_stL (i := 1) S8 rfl rfl rfl Try.sizeOf26 (oneC rfl (oneC rfl (oneC rfl (oneC (SlR.one h3) (oneC (SlR.one h4) (oneC (SlR.one h5) oneN)))))) rfl fun w9 S9 => ?_
 replace S9 : St _ ((bx b3 [vI 0, vI 0, vU 0, vU 0, vU 0, vU 0] 35) :: (bx b2 [vI x3.1.Id, vU x3.1.Key, vI x3.1.Delay, v1, v2, v3] 26) :: (bx b1 [vI a0.Id, vU a0.Key, vI a0.Delay, a0v3, a0v4, a0v5] 26) :: As) _ := S9
 clear S8
 refine s_stL (i := 0) S9 rfl rfl rfl Try.sizeOf35 (oneC rfl (oneC rfl (oneC rfl (oneC rfl (oneC rfl (oneC rfl oneN)))))) rfl fun w10 S10 => ?_
 replace S10 : St _ ((bx b3 [vI x3.2.1.Log, vI x3.2.1.At, vU x3.2.1.Leaf.1, vU x3.2.1.Leaf.2, vU x3.2.1.Sig.E, vU x3.2.1.Sig.S] 35) :: (bx b2 [vI x3.1.Id, vU x3.1.Key, vI x3.1.Delay, v1, v2, v3] 26) :: (bx b1 [vI a0.Id, vU a0.Key, vI a0.Delay, a0v3, a0v4, a0v5] 26) :: As) _ := S10
 clear S9
 refine s_asv (v := vI x3.2.2) rfl <| wpl_nil <| nrm <| wpc_seq <| wpc_seq <| wpc_region <| s_mvv (v := vI x3.2.2) rfl <| s_neq (m := x3.2.2) (n := 0) rfl rfl <| wpl_nil <| nrm <| wpc_if (t := (x3.2.2 != 0)) rfl (fun hc3 => ?_) (fun hc3 => ?_)
 · replace hm := ifT hc3 hm
   refine wpc_seq <| wpc_region <| s_asv (v := vb true) rfl <| wpl_nil <| nrm <| wpc_ret <| thR <| outRw fun we hpd => ?_
   replace S10 := St.pd S10 hpd
   obtain ⟨m6, l6, S11⟩ := St.drop S10 0
   replace a0h3 := a0h3.up l6
   replace a0h4 := a0h4.up l6
   replace a0h5 := a0h5.up l6
   replace L0 := Mem.tr L0 l6
   clear S10
   replace S11 : St _ ((bx b2 [vI x3.1.Id, vU x3.1.Key, vI x3.1.Delay, v1, v2, v3] 26) :: (bx b1 [vI a0.Id, vU a0.Key, vI a0.Delay, a0v3, a0v4, a0v5] 26) :: As) _ := S11
   obtain ⟨m7, l7, S12⟩ := St.drop S11 0
   replace L0 := Mem.tr L0 l7
   clear S11
   replace S12 : St _ ((bx b1 [vI a0.Id, vU a0.Key, vI a0.Delay, a0v3, a0v4, a0v5] 26) :: As) _ := S12
   obtain ⟨m8, l8, S13⟩ := St.drop S12 0
   replace L0 := Mem.tr L0 l8
   clear S12
   replace S13 : St _ (As) _ := S13
   have e0 := Option.some.inj hm
   subst e0
   exact outR [_] rfl ⟨rfl, trivial⟩ ⟨_, L0, S13, rfl⟩
 replace hm := ifF hc3 hm
 refine wpc_skip <| nrm <| wpc_seq <| wpc_region <| s_ld (i := 1) (cs := [vI x3.1.Id, vU x3.1.Key, vI x3.1.Delay, v1, v2, v3]) S10 rfl rfl Try.isAgg26 Try.sizeOf26 rfl (fun h => by cases h) <| s_mvv (v := a1v0) rfl <| s_mvv (v := vI a3) rfl ?_
 obtain ⟨x4, q4, hm⟩ := obind_some hm
 refine s_call Try.call9 (w_logd_Add (a0 := x3.1) (a1 := a1) (a2 := a3) S10 h3 h4 h5 a1h0 q4) rfl ?_
 rintro _ w11 ⟨m9, l9, v4, v5, v6, S14, rfl, h6, h7, h8⟩
 replace a1h0 := a1h0.up l9
 replace h3 := h3.up l9
 replace h4 := h4.up l9
 replace h5 := h5.up l9
 replace a0h3 := a0h3.up l9
 replace a0h4 := a0h4.up l9
 replace a0h5 := a0h5.up l9
 replace L0 := Mem.tr L0 l9
 clear S10
 refine s_mvv (v := .tuple #[.agg #[vI x4.1.Id, vU x4.1.Key, vI x4.1.Delay, v4, v5, v6], .agg #[vI x4.2.1.Log, vI x4.2.1.At, vU x4.2.1.Leaf.1, vU x4.2.1.Leaf.2, vU x4.2.1.Sig.E, vU x4.2.1.Sig.S], vI x4.2.2]) rfl <| s_ext (i := 0) rfl rfl <| s_ext (i := 1) rfl rfl <| s_ext (i := 2) rfl rfl <| s_alloc S14 Try.zeroValue26 fun b4 w12 S15 => ?_
 replace S15 : St _ ((bx b4 [vI 0, vU 0, vI 0, .slice none 0 0, .slice none 0 0, .slice none 0 0] 26) :: (bx b3 [vI x3.2.1.Log, vI x3.2.1.At, vU x3.2.1.Leaf.1, vU x3.2.1.Leaf.2, vU x3.2.1.Sig.E, vU x3.2.1.Sig.S] 35) :: (bx b2 [vI x3.1.Id, vU x3.1.Key, vI x3.1.Delay, v1, v2, v3] 26) :: (bx b1 [vI a0.Id, vU a0.Key, vI a0.Delay, a0v3, a0v4, a0v5] 26) :: As) _ := S15
 clear S14
 refine s_alloc S15 Try.zeroValue35 fun b5 w13 S16 => ?_
 replace S16 : St _ ((bx b5 [vI 0, vI 0, vU 0, vU 0, vU 0, vU 0] 35) :: (bx b4 [vI 0, vU 0, vI 0, .slice none 0 0, .slice none 0 0, .slice none 0 0] 26) :: (bx b3 [vI x3.2.1.Log, vI x3.2.1.At, vU x3.2.1.Leaf.1, vU x3.2.1.Leaf.2, vU x3.2.1.Sig.E, vU x3.2.1.Sig.S] 35) :: (bx b2 [vI x3.1.Id, vU x3.1.Key, vI x3.1.Delay, v1, v2, v3] 26) :: (bx b1 [vI a0.Id, vU a0.Key, vI a0.Delay, a0v3, a0v4, a0v5] 26) :: As) _ := S16
 clear S15
 refine s_stL (i := 1) S16 rfl rfl rfl Try.sizeOf26 (oneC rfl (oneC rfl (oneC rfl (oneC (SlR.one h6) (oneC (SlR.one h7) (oneC (SlR.one h8) oneN)))))) rfl fun w14 S17 => ?_
 replace S17 : St _ ((bx b5 [vI 0, vI 0, vU 0, vU 0, vU 0, vU 0] 35) :: (bx b4 [vI x4.1.Id, vU x4.1.Key, vI x4.1.Delay, v4, v5, v6] 26) :: (bx b3 [vI x3.2.1.Log, vI x3.2.1.At, vU x3.2.1.Leaf.1, vU x3.2.1.Leaf.2, vU x3.2.1.Sig.E, vU x3.2.1.Sig.S] 35) :: (bx b2 [vI x3.1.Id, vU x3.1.Key, vI x3.1.Delay, v1, v2, v3] 26) :: (bx b1 [vI a0.Id, vU a0.Key, vI a0.Delay, a0v3, a0v4, a0v5] 26) :: As) _ := S17
 clear S16
 refine s_stL (i := 0) S17 rfl rfl rfl Try.sizeOf35 (oneC rfl (oneC rfl (oneC rfl (oneC rfl (oneC rfl (oneC rfl oneN)))))) rfl fun w15 S18 => ?_
 replace S18 : St _ ((bx b5 [vI x4.2.1.Log, vI x4.2.1.At, vU x4.2.1.Leaf.1, vU x4.2.1.Leaf.2, vU x4.2.1.Sig.E, vU x4.2.1.Sig.S] 35) :: (bx b4 [vI x4.1.Id, vU x4.1.Key, vI x4.1.Delay, v4, v5, v6] 26) :: (bx b3 [vI x3.2.1.Log, vI x3.2.1.At, vU x3.2.1.Leaf.1, vU x3.2.1.Leaf.2, vU x3.2.1.Sig.E, vU x3.2.1.Sig.S] 35) :: (bx b2 [vI x3.1.Id, vU x3.1.Key, vI x3.1.Delay, v1, v2, v3] 26) :: (bx b1 [vI a0.Id, vU a0.Key, vI a0.Delay, a0v3, a0v4, a0v5] 26) :: As) _ := S18
 clear S17
 refine s_asv (v := vI x4.2.2) rfl <| wpl_nil <| nrm <| wpc_seq <| wpc_region <| s_ld (i := 3) (cs := [vI x3.1.Id, vU x3.1.Key, vI x3.1.Delay, v1, v2, v3]) S18 rfl rfl Try.isAgg26 Try.sizeOf26 rfl (fun h => by cases h) ?_
 obtain ⟨x5, q5, hm⟩ := obind_some hm
 refine s_call Try.call11 (w_logd_Merge (a0 := x3.1) S18 h3 h4 h5 q5) rfl ?_
 rintro _ w16 ⟨m10, l10, v7, v8, v9, S19, rfl, h9, h10, h11⟩
 replace a1h0 := a1h0.up l10
 replace h3 := h3.up l10
 replace h4 := h4.up l10
 replace h5 := h5.up l10
 replace h6 := h6.up l10
 replace h7 := h7.up l10
 replace h8 := h8.up l10
 replace a0h3 := a0h3.up l10
 replace a0h4 := a0h4.up l10
 replace a0h5 := a0h5.up l10
 replace L0 := Mem.tr L0 l10
 clear S18
 refine s_mvv (v := .tuple #[.agg #[vI x5.1.Id, vU x5.1.Key, vI x5.1.Delay, v7, v8, v9], vI x5.2]) rfl <| s_ext (i := 0) rfl rfl <| s_ext (i := 1) rfl rfl <| s_alloc S19 Try.zeroValue26 fun b6 w17 S20 => ?_
 replace S20 : St _ ((bx b6 [vI 0, vU 0, vI 0, .slice none 0 0, .slice none 0 0, .slice none 0 0] 26) :: (bx b5 [vI x4.2.1.Log, vI x4.2.1.At, vU x4.2.1.Leaf.1, vU x4.2.1.Leaf.2, vU x4.2.1.Sig.E, vU x4.2.1.Sig.S] 35) :: (bx b4 [vI x4.1.Id, vU x4.1.Key, vI x4.1.Delay, v4, v5, v6] 26) :: (bx b3 [vI x3.2.1.Log, vI x3.2.1.At, vU x3.2.1.Leaf.1, vU x3.2.1.Leaf.2, vU x3.2.1.Sig.E, vU x3.2.1.Sig.S] 35) :: (bx b2 [vI x3.1.Id, vU x3.1.Key, vI x3.1.Delay, v1, v2, v3] 26) :: (bx b1 [vI a0.Id, vU a0.Key, vI a0.Delay, a0v3, a0v4, a0v5] 26) :: As) _ := S20
 clear S19
 refine s_stL (i := 0) S20 rfl rfl rfl Try.sizeOf26 (oneC rfl (oneC rfl (oneC rfl (oneC (SlR.one h9) (oneC (SlR.one h10) (oneC (SlR.one h11) oneN)))))) rfl fun w18 S21 => ?_
 replace S21 : St _ ((bx b6 [vI x5.1.Id, vU x5.1.Key, vI x5.1.Delay, v7, v8, v9] 26) :: (bx b5 [vI x4.2.1.Log, vI x4.2.1.At, vU x4.2.1.Leaf.1, vU x4.2.1.Leaf.2, vU x4.2.1.Sig.E, vU x4.2.1.Sig.S] 35) :: (bx b4 [vI x4.1.Id, vU x4.1.Key, vI x4.1.Delay, v4, v5, v6] 26) :: (bx b3 [vI x3.2.1.Log, vI x3.2.1.At, vU x3.2.1.Leaf.1, vU x3.2.1.Leaf.2, vU x3.2.1.Sig.E, vU x3.2.1.Sig.S] 35) :: (bx b2 [vI x3.1.Id, vU x3.1.Key, vI x3.1.Delay, v1, v2, v3] 26) :: (bx b1 [vI a0.Id, vU a0.Key, vI a0.Delay, a0v3, a0v4, a0v5] 26) :: As) _ := S21
 clear S20
 refine s_asv (v := vI x5.2) rfl <| wpl_nil <| nrm <| wpc_seq <| wpc_region <| s_ld (i := 0) (cs := [vI x5.1.Id, vU x5.1.Key, vI x5.1.Delay, v7, v8, v9]) S21 rfl rfl Try.isAgg26 Try.sizeOf26 rfl (fun h => by cases h) <| s_mvv (v := a1v0) rfl <| s_mvv (v := vI a3) rfl ?_
 obtain ⟨x6, q6, hm⟩ := obind_some hm
 refine s_call Try.call9 (w_logd_Add (a0 := x5.1) (a1 := a1) (a2 := a3) S21 h9 h10 h11 a1h0 q6) rfl ?_
 rintro _ w19 ⟨m11, l11, v10, v11, v12, S22, rfl, h12, h13, h14⟩
 replace h9 := h9.up l11
 replace h10 := h10.up l11
 replace h11 := h11.up l11
 replace h6 := h6.up l11
 replace h7 := h7.up l11
 replace h8 := h8.up l11
 replace h3 := h3.up l11
 replace h4 := h4.up l11
 replace h5 := h5.up l11
 replace a0h3 := a0h3.up l11
 replace a0h4 := a0h4.up l11
 replace a0h5 := a0h5.up l11
 replace L0 := Mem.tr L0 l11
 clear S21
 refine s_mvv (v := .tuple #[.agg #[vI x6.1.Id, vU x6.1.Key, vI x6.1.Delay, v10, v11, v12], .agg #[vI x6.2.1.Log, vI x6.2.1.At, vU x6.2.1.Leaf.1, vU x6.2.1.Leaf.2, vU x6.2.1.Sig.E, vU x6.2.1.Sig.S], vI x6.2.2]) rfl <| s_ext (i := 0) rfl rfl <| s_ext (i := 1) rfl rfl <| s_ext (i := 2) rfl rfl <| s_alloc S22 Try.zeroValue26 fun b7 w20 S23 => ?_
 replace S23 : St _ ((bx b7 [vI 0, vU 0, vI 0, .slice none 0 0, .slice none 0 0, .slice none 0 0] 26) :: (bx b6 [vI x5.1.Id, vU x5.1.Key, vI x5.1.Delay, v7, v8, v9] 26) :: (bx b5 [vI x4.2.1.Log, vI x4.2.1.At, vU x4.2.1.Leaf.1, vU x4.2.1.Leaf.2, vU x4.2.1.Sig.E, vU x4.2.1.Sig.S] 35) :: (bx b4 [vI x4.1.Id, vU x4.1.Key, vI x4.1.Delay, v4, v5, v6] 26) :: (bx b3 [vI x3.2.1.Log, vI x3.2.1.At, vU x3.2.1.Leaf.1, vU x3.2.1.Leaf.2, vU x3.2.1.Sig.E, vU x3.2.1.Sig.S] 35) :: (bx b2 [vI x3.1.Id, vU x3.1.Key, vI x3.1.Delay, v1, v2, v3] 26) :: (bx b1 [vI a0.Id, vU a0.Key, vI a0.Delay, a0v3, a0v4, a0v5] 26) :: As) _ := S23
 clear S22
 refine s_alloc S23 Try.zeroValue35 fun b8 w21 S24 => ?_
 replace S24 : St _ ((bx b8 [vI 0, vI 0, vU 0, vU 0, vU 0, vU 0] 35) :: (bx b7 [vI 0, vU 0, vI 0, .slice none 0 0, .slice none 0 0, .slice none 0 0] 26) :: (bx b6 [vI x5.1.Id, vU x5.1.Key, vI x5.1.Delay, v7, v8, v9] 26) :: (bx b5 [vI x4.2.1.Log, vI x4.2.1.At, vU x4.2.1.Leaf.1, vU x4.2.1.Leaf.2, vU x4.2.1.Sig.E, vU x4.2.1.Sig.S] 35) :: (bx b4 [vI x4.1.Id, vU x4.1.Key, vI x4.1.Delay, v4, v5, v6] 26) :: (bx b3 [vI x3.2.1.Log, vI x3.2.1.At, vU x3.2.1.Leaf.1, vU x3.2.1.Leaf.2, vU x3.2.1.Sig.E, vU x3.2.1.Sig.S] 35) :: (bx b2 [vI x3.1.Id, vU x3.1.Key, vI x3.1.Delay, v1, v2, v3] 26) :: (bx b1 [vI a0.Id, vU a0.Key, vI a0.Delay, a0v3, a0v4, a0v5] 26) :: As) _ := S24
 clear S23
 refine s_stL (i := 1) S24 rfl rfl rfl Try.sizeOf26 (oneC rfl (oneC rfl (oneC rfl (oneC (SlR.one h12) (oneC (SlR.one h13) (oneC (SlR.one h14) oneN)))))) rfl fun w22 S25 => ?_
 replace S25 : St _ ((bx b8 [vI 0, vI 0, vU 0, vU 0, vU 0, vU 0] 35) :: (bx b7 [vI x6.1.Id, vU x6.1.Key, vI x6.1.Delay, v10, v11, v12] 26) :: (bx b6 [vI x5.1.Id, vU x5.1.Key, vI x5.1.Delay, v7, v8, v9] 26) :: (bx b5 [vI x4.2.1.Log, vI x4.2.1.At, vU x4.2.1.Leaf.1, vU x4.2.1.Leaf.2, vU x4.2.1.Sig.E, vU x4.2.1.Sig.S] 35) :: (bx b4 [vI x4.1.Id, vU x4.1.Key, vI x4.1.Delay, v4, v5, v6] 26) :: (bx b3 [vI x3.2.1.Log, vI x3.2.1.At, vU x3.2.1.Leaf.1, vU x3.2.1.Leaf.2, vU x3.2.1.Sig.E, vU x3.2.1.Sig.S] 35) :: (bx b2 [vI x3.1.Id, vU x3.1.Key, vI x3.1.Delay, v1, v2, v3] 26) :: (bx b1 [vI a0.Id, vU a0.Key, vI a0.Delay, a0v3, a0v4, a0v5] 26) :: As) _ := S25
 clear S24
 refine s_stL (i := 0) S25 rfl rfl rfl Try.sizeOf35 (oneC rfl (oneC rfl (oneC rfl (oneC rfl (oneC rfl (oneC rfl oneN)))))) rfl fun w23 S26 => ?_
 replace S26 : St _ ((bx b8 [vI x6.2.1.Log, vI x6.2.1.At, vU x6.2.1.Leaf.1, vU x6.2.1.Leaf.2, vU x6.2.1.Sig.E, vU x6.2.1.Sig.S] 35) :: (bx b7 [vI x6.1.Id, vU x6.1.Key, vI x6.1.Delay, v10, v11, v12] 26) :: (bx b6 [vI x5.1.Id, vU x5.1.Key, vI x5.1.Delay, v7, v8, v9] 26) :: (bx b5 [vI x4.2.1.Log, vI x4.2.1.At, vU x4.2.1.Leaf.1, vU x4.2.1.Leaf.2, vU x4.2.1.Sig.E, vU x4.2.1.Sig.S] 35) :: (bx b4 [vI x4.1.Id, vU x4.1.Key, vI x4.1.Delay, v4, v5, v6] 26) :: (bx b3 [vI x3.2.1.Log, vI x3.2.1.At, vU x3.2.1.Leaf.1, vU x3.2.1.Leaf.2, vU x3.2.1.Sig.E, vU x3.2.1.Sig.S] 35) :: (bx b2 [vI x3.1.Id, vU x3.1.Key, vI x3.1.Delay, v1, v2, v3] 26) :: (bx b1 [vI a0.Id, vU a0.Key, vI a0.Delay, a0v3, a0v4, a0v5] 26) :: As) _ := S26
 clear S25
 refine s_asv (v := vI x6.2.2) rfl <| wpl_nil <| nrm <| wpc_seq <| wpc_region <| s_mvv (v := vI x4.2.2) rfl <| s_eql (m := x4.2.2) (n := 0) rfl rfl <| s_mvv (v := vb (x4.2.2 == 0)) rfl <| wpl_cut 3 [68, 69, 70] (fun f' w' => w' = w23 ∧ AllAt f' [(70, vb ((x4.2.2 == 0) && (x5.2 == 0)))]) ?_ ?_
 · rcases bool_tf (x4.2.2 == 0) with hb3 | hb3
   · exact wpl_yes (d := 67) rfl rfl (congrArg Value.bool hb3) <| s_mvv (v := vI x5.2) rfl <| wpl_yes (d := 67) rfl rfl (congrArg Value.bool hb3) <| s_eql (m := x5.2) (n := 0) rfl rfl <| s_pickT (congrArg Value.bool hb3) rfl <| wpl_nil (nrm ⟨outP, rfl, congrArg Value.bool (and_t hb3), trivial⟩)
   · exact wpl_no (d := 67) rfl rfl (congrArg Value.bool hb3) <| wpl_no (d := 67) rfl rfl (congrArg Value.bool hb3) <| s_pickF (congrArg Value.bool hb3) rfl <| wpl_nil (nrm ⟨outP, rfl, congrArg Value.bool (and_f hb3), trivial⟩)
 rintro f3 w24 ho ⟨h15, ha⟩
 subst h15
 obtain ⟨u3, rfl⟩ := fr_of (N := 95) ho ha
 refine s_mvv (v := vb ((x4.2.2 == 0) && (x5.2 == 0))) rfl <| wpl_cut 3 [72, 73, 74] (fun f' w' => w' = w24 ∧ AllAt f' [(74, vb (((x4.2.2 == 0) && (x5.2 == 0)) && (x6.2.2 == 0)))]) ?_ ?_
 · rcases bool_tf ((x4.2.2 == 0) && (x5.2 == 0)) with hb4 | hb4
   · exact wpl_yes (d := 71) rfl rfl (congrArg Value.bool hb4) <| s_mvv (v := vI x6.2.2) rfl <| wpl_yes (d := 71) rfl rfl (congrArg Value.bool hb4) <| s_eql (m := x6.2.2) (n := 0) rfl rfl <| s_pickT (congrArg Value.bool hb4) rfl <| wpl_nil (nrm ⟨outP, rfl, congrArg Value.bool (and_t hb4), trivial⟩)
   · exact wpl_no (d := 71) rfl rfl (congrArg Value.bool hb4) <| wpl_no (d := 71) rfl rfl (congrArg Value.bool hb4) <| s_pickF (congrArg Value.bool hb4) rfl <| wpl_nil (nrm ⟨outP, rfl, congrArg Value.bool (and_f hb4), trivial⟩)
 rintro f4 w25 ho ⟨h16, ha⟩
 subst h16
 obtain ⟨u4, rfl⟩ := fr_of (N := 95) ho ha
 refine s_mvv (v := vb (((x4.2.2 == 0) && (x5.2 == 0)) && (x6.2.2 == 0))) rfl <| wpl_cut 4 [76, 77, 78, 79] (fun f' w' => w' = w25 ∧ AllAt f' [(79, vb ((((x4.2.2 == 0) && (x5.2 == 0)) && (x6.2.2 == 0)) && (eq_api_Promise x3.2.1 x4.2.1)))]) ?_ ?_
 · rcases bool_tf (((x4.2.2 == 0) && (x5.2 == 0)) && (x6.2.2 == 0)) with hb5 | hb5
   · exact wpl_yes (d := 75) rfl rfl (congrArg Value.bool hb5) <| s_ld (i := 5) (cs := [vI x3.2.1.Log, vI x3.2.1.At, vU x3.2.1.Leaf.1, vU x3.2.1.Leaf.2, vU x3.2.1.Sig.E, vU x3.2.1.Sig.S]) S26 rfl rfl Try.isAgg35 Try.sizeOf35 rfl (fun h => by cases h) <| wpl_yes (d := 75) rfl rfl (congrArg Value.bool hb5) <| s_ld (i := 3) (cs := [vI x4.2.1.Log, vI x4.2.1.At, vU x4.2.1.Leaf.1, vU x4.2.1.Leaf.2, vU x4.2.1.Sig.E, vU x4.2.1.Sig.S]) S26 rfl rfl Try.isAgg35 Try.sizeOf35 rfl (fun h => by cases h) <| wpl_yes (d := 75) rfl rfl (congrArg Value.bool hb5) <| s_eqlA (cs := [vI x3.2.1.Log, vI x3.2.1.At, vU x3.2.1.Leaf.1, vU x3.2.1.Leaf.2, vU x3.2.1.Sig.E, vU x3.2.1.Sig.S]) (ds := [vI x4.2.1.Log, vI x4.2.1.At, vU x4.2.1.Leaf.1, vU x4.2.1.Leaf.2, vU x4.2.1.Sig.E, vU x4.2.1.Sig.S]) rfl rfl (eqv_api_Promise (p := x3.2.1) (q := x4.2.1)) rfl Try.eqGuardType35 <| s_pickT (congrArg Value.bool hb5) rfl <| wpl_nil (nrm ⟨outP, rfl, congrArg Value.bool (and_t hb5), trivial⟩)
   · exact wpl_no (d := 75) rfl rfl (congrArg Value.bool hb5) <| wpl_no (d := 75) rfl rfl (congrArg Value.bool hb5) <| wpl_no (d := 75) rfl rfl (congrArg Value.bool hb5) <| s_pickF (congrArg Value.bool hb5) rfl <| wpl_nil (nrm ⟨outP, rfl, congrArg Value.bool (and_f hb5), trivial⟩)
 rintro f5 w26 ho ⟨h17, ha⟩
 subst h17
 obtain ⟨u5, rfl⟩ := fr_of (N := 95) ho ha
 refine s_mvv (v := vb ((((x4.2.2 == 0) && (x5.2 == 0)) && (x6.2.2 == 0)) && (eq_api_Promise x3.2.1 x4.2.1))) rfl <| wpl_cut 4 [81, 82, 83, 84] (fun f' w' => w' = w26 ∧ AllAt f' [(84, vb (((((x4.2.2 == 0) && (x5.2 == 0)) && (x6.2.2 == 0)) && (eq_api_Promise x3.2.1 x4.2.1)) && (eq_api_Promise x3.2.1 x6.2.1)))]) ?_ ?_
 · rcases bool_tf ((((x4.2.2 == 0) && (x5.2 == 0)) && (x6.2.2 == 0)) && (eq_api_Promise x3.2.1 x4.2.1)) with hb6 | hb6
   · exact wpl_yes (d := 80) rfl rfl (congrArg Value.bool hb6) <| s_ld (i := 5) (cs := [vI x3.2.1.Log, vI x3.2.1.At, vU x3.2.1.Leaf.1, vU x3.2.1.Leaf.2, vU x3.2.1.Sig.E, vU x3.2.1.Sig.S]) S26 rfl rfl Try.isAgg35 Try.sizeOf35 rfl (fun h => by cases h) <| wpl_yes (d := 80) rfl rfl (congrArg Value.bool hb6) <| s_ld (i := 0) (cs := [vI x6.2.1.Log, vI x6.2.1.At, vU x6.2.1.Leaf.1, vU x6.2.1.Leaf.2, vU x6.2.1.Sig.E, vU x6.2.1.Sig.S]) S26 rfl rfl Try.isAgg35 Try.sizeOf35 rfl (fun h => by cases h) <| wpl_yes (d := 80) rfl rfl (congrArg Value.bool hb6) <| s_eqlA (cs := [vI x3.2.1.Log, vI x3.2.1.At, vU x3.2.1.Leaf.1, vU x3.2.1.Leaf.2, vU x3.2.1.Sig.E, vU x3.2.1.Sig.S]) (ds := [vI x6.2.1.Log, vI x6.2.1.At, vU x6.2.1.Leaf.1, vU x6.2.1.Leaf.2, vU x6.2.1.Sig.E, vU x6.2.1.Sig.S]) rfl rfl (eqv_api_Promise (p := x3.2.1) (q := x6.2.1)) rfl Try.eqGuardType35 <| s_pickT (congrArg Value.bool hb6) rfl <| wpl_nil (nrm ⟨outP, rfl, congrArg Value.bool (and_t hb6), trivial⟩)
   · exact wpl_no (d := 80) rfl rfl (congrArg Value.bool hb6) <| wpl_no (d := 80) rfl rfl (congrArg Value.bool hb6) <| wpl_no (d := 80) rfl rfl (congrArg Value.bool hb6) <| s_pickF (congrArg Value.bool hb6) rfl <| wpl_nil (nrm ⟨outP, rfl, congrArg Value.bool (and_f hb6), trivial⟩)
 rintro f6 w27 ho ⟨h18, ha⟩
 subst h18
 obtain ⟨u6, rfl⟩ := fr_of (N := 95) ho ha
 refine s_mvv (v := vb (((((x4.2.2 == 0) && (x5.2 == 0)) && (x6.2.2 == 0)) && (eq_api_Promise x3.2.1 x4.2.1)) && (eq_api_Promise x3.2.1 x6.2.1))) rfl ?_
 obtain ⟨x8, q8, hm⟩ := obind_some hm
 have L1 := Mem.rfl' m11
 refine wpl_cut 4 [86, 87, 88, 89] (fun f' w' => ∃ (M1 : Mem), m11 ≤ M1 ∧ St M1 ((bx b8 [vI x6.2.1.Log, vI x6.2.1.At, vU x6.2.1.Leaf.1, vU x6.2.1.Leaf.2, vU x6.2.1.Sig.E, vU x6.2.1.Sig.S] 35) :: (bx b7 [vI x6.1.Id, vU x6.1.Key, vI x6.1.Delay, v10, v11, v12] 26) :: (bx b6 [vI x5.1.Id, vU x5.1.Key, vI x5.1.Delay, v7, v8, v9] 26) :: (bx b5 [vI x4.2.1.Log, vI x4.2.1.At, vU x4.2.1.Leaf.1, vU x4.2.1.Leaf.2, vU x4.2.1.Sig.E, vU x4.2.1.Sig.S] 35) :: (bx b4 [vI x4.1.Id, vU x4.1.Key, vI x4.1.Delay, v4, v5, v6] 26) :: (bx b3 [vI x3.2.1.Log, vI x3.2.1.At, vU x3.2.1.Leaf.1, vU x3.2.1.Leaf.2, vU x3.2.1.Sig.E, vU x3.2.1.Sig.S] 35) :: (bx b2 [vI x3.1.Id, vU x3.1.Key, vI x3.1.Delay, v1, v2, v3] 26) :: (bx b1 [vI a0.Id, vU a0.Key, vI a0.Delay, a0v3, a0v4, a0v5] 26) :: As) w' ∧ AllAt f' [(89, vb x8)]) ?_ ?_
 · rcases bool_tf (((((x4.2.2 == 0) && (x5.2 == 0)) && (x6.2.2 == 0)) && (eq_api_Promise x3.2.1 x4.2.1)) && (eq_api_Promise x3.2.1 x6.2.1)) with hb7 | hb7
   · replace q8 := ifT hb7 q8
     refine wpl_yes (d := 85) rfl rfl (congrArg Value.bool hb7) <| s_ld (i := 6) (cs := [vI x3.1.Id, vU x3.1.Key, vI x3.1.Delay, v1, v2, v3]) S26 rfl rfl Try.isAgg26 Try.sizeOf26 rfl (fun h => by cases h) <| wpl_yes (d := 85) rfl rfl (congrArg Value.bool hb7) <| s_ld (i := 4) (cs := [vI x4.1.Id, vU x4.1.Key, vI x4.1.Delay, v4, v5, v6]) S26 rfl rfl Try.isAgg26 Try.sizeOf26 rfl (fun h => by cases h) <| wpl_yes (d := 85) rfl rfl (congrArg Value.bool hb7) ?_
     obtain ⟨x9, q9, q8⟩ := obind_some q8
     refine s_call Try.call15 (w_ref24_Same (a0 := x3.1) (a1 := x4.1) S26 h3 h4 h5 h6 h7 h8 q9) rfl ?_
     rintro _ w29 ⟨m13, l13, S28, rfl⟩
     replace L1 := Mem.tr L1 l13
     clear S26
     refine s_pickT (congrArg Value.bool hb7) rfl <| wpl_nil (nrm ?_)
     have e0 := Option.some.inj q8
     subst e0
     exact ⟨outP, m13, L1, S28, ⟨rfl, trivial⟩⟩
   replace q8 := ifF hb7 q8
   refine wpl_no (d := 85) rfl rfl (congrArg Value.bool hb7) <| wpl_no (d := 85) rfl rfl (congrArg Value.bool hb7) <| wpl_no (d := 85) rfl rfl (congrArg Value.bool hb7) <| s_pickF (congrArg Value.bool hb7) rfl <| wpl_nil (nrm ?_)
   have e0 := Option.some.inj q8
   subst e0
   exact ⟨outP, m11, L1, S26, ⟨rfl, trivial⟩⟩
 rintro f7 w30 ho ⟨m14, l14, S29, ha⟩
 obtain ⟨u7, rfl⟩ := fr_of (N := 95) ho ha
 replace h12 := h12.up l14
 replace h13 := h13.up l14
 replace h14 := h14.up l14
 replace h9 := h9.up l14
 replace h10 := h10.up l14
 replace h11 := h11.up l14
 replace h6 := h6.up l14
 replace h7 := h7.up l14
 replace h8 := h8.up l14
 replace h3 := h3.up l14
 replace h4 := h4.up l14
 replace h5 := h5.up l14
 replace a0h3 := a0h3.up l14
 replace a0h4 := a0h4.up l14
 replace a0h5 := a0h5.up l14
 replace L0 := Mem.tr L0 l14
 clear S26
 refine s_mvv (v := vb x8) rfl ?_
 obtain ⟨x11, q11, hm⟩ := obind_some hm
 have L2 := Mem.rfl' m14
 refine wpl_cut 4 [91, 92, 93, 94] (fun f' w' => ∃ (M2 : Mem), m14 ≤ M2 ∧ St M2 ((bx b8 [vI x6.2.1.Log, vI x6.2.1.At, vU x6.2.1.Leaf.1, vU x6.2.1.Leaf.2, vU x6.2.1.Sig.E, vU x6.2.1.Sig.S] 35) :: (bx b7 [vI x6.1.Id, vU x6.1.Key, vI x6.1.Delay, v10, v11, v12] 26) :: (bx b6 [vI x5.1.Id, vU x5.1.Key, vI x5.1.Delay, v7, v8, v9] 26) :: (bx b5 [vI x4.2.1.Log, vI x4.2.1.At, vU x4.2.1.Leaf.1, vU x4.2.1.Leaf.2, vU x4.2.1.Sig.E, vU x4.2.1.Sig.S] 35) :: (bx b4 [vI x4.1.Id, vU x4.1.Key, vI x4.1.Delay, v4, v5, v6] 26) :: (bx b3 [vI x3.2.1.Log, vI x3.2.1.At, vU x3.2.1.Leaf.1, vU x3.2.1.Leaf.2, vU x3.2.1.Sig.E, vU x3.2.1.Sig.S] 35) :: (bx b2 [vI x3.1.Id, vU x3.1.Key, vI x3.1.Delay, v1, v2, v3] 26) :: (bx b1 [vI a0.Id, vU a0.Key, vI a0.Delay, a0v3, a0v4, a0v5] 26) :: As) w' ∧ AllAt f' [(94, vb x11)]) ?_ ?_
 · rcases bool_tf x8 with hb8 | hb8
   · replace q11 := ifT hb8 q11
     refine wpl_yes (d := 90) rfl rfl (congrArg Value.bool hb8) <| s_ld (i := 2) (cs := [vI x5.1.Id, vU x5.1.Key, vI x5.1.Delay, v7, v8, v9]) S29 rfl rfl Try.isAgg26 Try.sizeOf26 rfl (fun h => by cases h) <| wpl_yes (d := 90) rfl rfl (congrArg Value.bool hb8) <| s_ld (i := 1) (cs := [vI x6.1.Id, vU x6.1.Key, vI x6.1.Delay, v10, v11, v12]) S29 rfl rfl Try.isAgg26 Try.sizeOf26 rfl (fun h => by cases h) <| wpl_yes (d := 90) rfl rfl (congrArg Value.bool hb8) ?_
     obtain ⟨x12, q12, q11⟩ := obind_some q11
     refine s_call Try.call15 (w_ref24_Same (a0 := x5.1) (a1 := x6.1) S29 h9 h10 h11 h12 h13 h14 q12) rfl ?_
     rintro _ w32 ⟨m16, l16, S31, rfl⟩
     replace L2 := Mem.tr L2 l16
     clear S29
     refine s_pickT (congrArg Value.bool hb8) rfl <| wpl_nil (nrm ?_)
     have e0 := Option.some.inj q11
     subst e0
     exact ⟨outP, m16, L2, S31, ⟨rfl, trivial⟩⟩
   replace q11 := ifF hb8 q11
   refine wpl_no (d := 90) rfl rfl (congrArg Value.bool hb8) <| wpl_no (d := 90) rfl rfl (congrArg Value.bool hb8) <| wpl_no (d := 90) rfl rfl (congrArg Value.bool hb8) <| s_pickF (congrArg Value.bool hb8) rfl <| wpl_nil (nrm ?_)
   have e0 := Option.some.inj q11
   subst e0
   exact ⟨outP, m14, L2, S29, ⟨rfl, trivial⟩⟩
 rintro f8 w33 ho ⟨m17, l17, S32, ha⟩
 obtain ⟨u8, rfl⟩ := fr_of (N := 95) ho ha
 replace h12 := h12.up l17
 replace h13 := h13.up l17
 replace h14 := h14.up l17
 replace h9 := h9.up l17
 replace h10 := h10.up l17
 replace h11 := h11.up l17
 replace h6 := h6.up l17
 replace h7 := h7.up l17
 replace h8 := h8.up l17
 replace h3 := h3.up l17
 replace h4 := h4.up l17
 replace h5 := h5.up l17
 replace a0h3 := a0h3.up l17
 replace a0h4 := a0h4.up l17
 replace a0h5 := a0h5.up l17
 replace L0 := Mem.tr L0 l17
 clear S29
 refine s_asv (v := vb x11) rfl <| wpl_nil <| nrm <| wpc_ret <| outRw fun we hpd => ?_
 replace S32 := St.pd S32 hpd
 obtain ⟨m18, l18, S33⟩ := St.drop S32 0
 replace h9 := h9.up l18
 replace h10 := h10.up l18
 replace h11 := h11.up l18
 replace h6 := h6.up l18
 replace h7 := h7.up l18
 replace h8 := h8.up l18
 replace h3 := h3.up l18
 replace h4 := h4.up l18
 replace h5 := h5.up l18
 replace a0h3 := a0h3.up l18
 replace a0h4 := a0h4.up l18
 replace a0h5 := a0h5.up l18
 replace L0 := Mem.tr L0 l18
 clear S32
 replace S33 : St _ ((bx b7 [vI x6.1.Id, vU x6.1.Key, vI x6.1.Delay, v10, v11, v12] 26) :: (bx b6 [vI x5.1.Id, vU x5.1.Key, vI x5.1.Delay, v7, v8, v9] 26) :: (bx b5 [vI x4.2.1.Log, vI x4.2.1.At, vU x4.2.1.Leaf.1, vU x4.2.1.Leaf.2, vU x4.2.1.Sig.E, vU x4.2.1.Sig.S] 35) :: (bx b4 [vI x4.1.Id, vU x4.1.Key, vI x4.1.Delay, v4, v5, v6] 26) :: (bx b3 [vI x3.2.1.Log, vI x3.2.1.At, vU x3.2.1.Leaf.1, vU x3.2.1.Leaf.2, vU x3.2.1.Sig.E, vU x3.2.1.Sig.S] 35) :: (bx b2 [vI x3.1.Id, vU x3.1.Key, vI x3.1.Delay, v1, v2, v3] 26) :: (bx b1 [vI a0.Id, vU a0.Key, vI a0.Delay, a0v3, a0v4, a0v5] 26) :: As) _ := S33
 obtain ⟨m19, l19, S34⟩ := St.drop S33 0
 replace h6 := h6.up l19
 replace h7 := h7.up l19
 replace h8 := h8.up l19
 replace h3 := h3.up l19
 replace h4 := h4.up l19
 replace h5 := h5.up l19
 replace a0h3 := a0h3.up l19
 replace a0h4 := a0h4.up l19
 replace a0h5 := a0h5.up l19
 replace L0 := Mem.tr L0 l19
 clear S33
 replace S34 : St _ ((bx b6 [vI x5.1.Id, vU x5.1.Key, vI x5.1.Delay, v7, v8, v9] 26) :: (bx b5 [vI x4.2.1.Log, vI x4.2.1.At, vU x4.2.1.Leaf.1, vU x4.2.1.Leaf.2, vU x4.2.1.Sig.E, vU x4.2.1.Sig.S] 35) :: (bx b4 [vI x4.1.Id, vU x4.1.Key, vI x4.1.Delay, v4, v5, v6] 26) :: (bx b3 [vI x3.2.1.Log, vI x3.2.1.At, vU x3.2.1.Leaf.1, vU x3.2.1.Leaf.2, vU x3.2.1.Sig.E, vU x3.2.1.Sig.S] 35) :: (bx b2 [vI x3.1.Id, vU x3.1.Key, vI x3.1.Delay, v1, v2, v3] 26) :: (bx b1 [vI a0.Id, vU a0.Key, vI a0.Delay, a0v3, a0v4, a0v5] 26) :: As) _ := S34
 obtain ⟨m20, l20, S35⟩ := St.drop S34 0
 replace h6 := h6.up l20
 replace h7 := h7.up l20
 replace h8 := h8.up l20
 replace h3 := h3.up l20
 replace h4 := h4.up l20
 replace h5 := h5.up l20
 replace a0h3 := a0h3.up l20
 replace a0h4 := a0h4.up l20
 replace a0h5 := a0h5.up l20
 replace L0 := Mem.tr L0 l20
 clear S34
 replace S35 : St _ ((bx b5 [vI x4.2.1.Log, vI x4.2.1.At, vU x4.2.1.Leaf.1, vU x4.2.1.Leaf.2, vU x4.2.1.Sig.E, vU x4.2.1.Sig.S] 35) :: (bx b4 [vI x4.1.Id, vU x4.1.Key, vI x4.1.Delay, v4, v5, v6] 26) :: (bx b3 [vI x3.2.1.Log, vI x3.2.1.At, vU x3.2.1.Leaf.1, vU x3.2.1.Leaf.2, vU x3.2.1.Sig.E, vU x3.2.1.Sig.S] 35) :: (bx b2 [vI x3.1.Id, vU x3.1.Key, vI x3.1.Delay, v1, v2, v3] 26) :: (bx b1 [vI a0.Id, vU a0.Key, vI a0.Delay, a0v3, a0v4, a0v5] 26) :: As) _ := S35
 obtain ⟨m21, l21, S36⟩ := St.drop S35 0
 replace h3 := h3.up l21
 replace h4 := h4.up l21
 replace h5 := h5.up l21
 replace a0h3 := a0h3.up l21
 replace a0h4 := a0h4.up l21
 replace a0h5 := a0h5.up l21
 replace L0 := Mem.tr L0 l21
 clear S35
 replace S36 : St _ ((bx b4 [vI x4.1.Id, vU x4.1.Key, vI x4.1.Delay, v4, v5, v6] 26) :: (bx b3 [vI x3.2.1.Log, vI x3.2.1.At, vU x3.2.1.Leaf.1, vU x3.2.1.Leaf.2, vU x3.2.1.Sig.E, vU x3.2.1.Sig.S] 35) :: (bx b2 [vI x3.1.Id, vU x3.1.Key, vI x3.1.Delay, v1, v2, v3] 26) :: (bx b1 [vI a0.Id, vU a0.Key, vI a0.Delay, a0v3, a0v4, a0v5] 26) :: As) _ := S36
 obtain ⟨m22, l22, S37⟩ := St.drop S36 0
 replace h3 := h3.up l22
 replace h4 := h4.up l22
 replace h5 := h5.up l22
 replace a0h3 := a0h3.up l22
 replace a0h4 := a0h4.up l22
 replace a0h5 := a0h5.up l22
 replace L0 := Mem.tr L0 l22
 clear S36
 replace S37 : St _ ((bx b3 [vI x3.2.1.Log, vI x3.2.1.At, vU x3.2.1.Leaf.1, vU x3.2.1.Leaf.2, vU x3.2.1.Sig.E, vU x3.2.1.Sig.S] 35) :: (bx b2 [vI x3.1.Id, vU x3.1.Key, vI x3.1.Delay, v1, v2, v3] 26) :: (bx b1 [vI a0.Id, vU a0.Key, vI a0.Delay, a0v3, a0v4, a0v5] 26) :: As) _ := S37
 obtain ⟨m23, l23, S38⟩ := St.drop S37 0
 replace a0h3 := a0h3.up l23
 replace a0h4 := a0h4.up l23
 replace a0h5 := a0h5.up l23
 replace L0 := Mem.tr L0 l23
 clear S37
 replace S38 : St _ ((bx b2 [vI x3.1.Id, vU x3.1.Key, vI x3.1.Delay, v1, v2, v3] 26) :: (bx b1 [vI a0.Id, vU a0.Key, vI a0.Delay, a0v3, a0v4, a0v5] 26) :: As) _ := S38
 obtain ⟨m24, l24, S39⟩ := St.drop S38 0
 replace L0 := Mem.tr L0 l24
 clear S38
 replace S39 : St _ ((bx b1 [vI a0.Id, vU a0.Key, vI a0.Delay, a0v3, a0v4, a0v5] 26) :: As) _ := S39
 obtain ⟨m25, l25, S40⟩ := St.drop S39 0
 replace L0 := Mem.tr L0 l25
 clear S39
 replace S40 : St _ (As) _ := S40
 have e0 := Option.some.inj hm
 subst e0
 exact outR [_] rfl ⟨rfl, trivial⟩ ⟨_, L0, S40, rfl⟩

end Go.Proofs.Ytemiampgjgenhaa
