/- The walks of some functions, written by program. Conditions: none. -/
import Derived.Test.YtemiampgjgenhaaGreatWkF
set_option maxHeartbeats 20000000
set_option maxRecDepth 100000
set_option linter.unusedVariables false
set_option linter.unusedSimpArgs false
namespace Go.Proofs.YtemiampgjgenhaaGreat
open Go Go.Gw Tryz

def m_ref24_SameLeaves_b1 (a0 : List g_api_Leaf) (a1 : List g_api_Leaf) (s1 : Int) : Option ((Int) ⊕ ((Unit) ⊕ Bool)) :=
  if (decide (s1 < (a0.length : Int))) = true then
    obind (idx a0 s1) fun x3 =>
    obind (idx a1 s1) fun x4 =>
    obind (gu (!(x3.At != x4.At)) (idx a0 s1)) fun x5 =>
    obind (gu (!(x3.At != x4.At)) (idx a1 s1)) fun x6 =>
    if ((x3.At != x4.At) || (!eqS (bs x5.Body) (bs x6.Body))) = true then
      some (.inr (.inr false))
    else
    some (.inl (w64 (s1 + 1)))
  else
  some (.inr (.inl ()))

def m_ref24_SameLeaves (a0 : List g_api_Leaf) (a1 : List g_api_Leaf) : Option Bool :=
  if ((a0.length : Int) != (a1.length : Int)) = true then
    some false
  else
  obind (iter (m_ref24_SameLeaves_b1 a0 a1) FUEL 0) fun x1 => match x1 with
  | .inr r => some r
  | .inl y1 =>
  some true

theorem w_ref24_SameLeaves {m : Mem} {As : List Ow} {w : World} {a0 : List g_api_Leaf} {a0v0 : Value} {a1 : List g_api_Leaf} {a1v0 : Value} {r : Bool} (S : St m (As) w) (a0h0 : SlR m a0v0 a0) (a1h0 : SlR m a1v0 a1) (hm : m_ref24_SameLeaves a0 a1 = some r) :
    CallsR Tryz.prog 49 #[a0v0, a1v0] w fun v w' => ∃ (M : Mem), m ≤ M ∧ St M (As) w' ∧ v = vb r := by
 unfold m_ref24_SameLeaves at hm
 have L0 := Mem.rfl' m
 refine callsR (args := [a0v0, a1v0]) func49 rfl ntmps49 (nb rfl) <| ws <| s_asv (v := vb false) rfl <| wpl_nil <| nrm <| wpc_seq <| ws <| s_mvv (v := a0v0) rfl <| s_lenR (xs := a0) rfl a0h0 underlying23 <| s_mvv (v := a1v0) rfl <| s_lenR (xs := a1) rfl a1h0 underlying23 <| s_neq (m := (a0.length : Int)) (n := (a1.length : Int)) rfl rfl <| wpl_nil <| nrm <| wpc_if (t := ((a0.length : Int) != (a1.length : Int))) rfl (fun hc1 => ?_) (fun hc1 => ?_)
 · replace hm := ifT hc1 hm
   refine ws <| s_asv (v := vb false) rfl <| wpl_nil <| nrm <| wpc_ret <| thR <| outRw fun we hpd => ?_
   replace S := St.pd S hpd
   have e0 := Option.some.inj hm
   subst e0
   exact outR [_] rfl ⟨rfl, trivial⟩ ⟨_, L0, S, rfl⟩
 replace hm := ifF hc1 hm
 refine wpc_skip <| nrm <| wpc_seq <| ws <| s_asv (v := vI 0) rfl <| wpl_nil <| nrm ?_
 obtain ⟨x1, q1, hm⟩ := obind_some hm
 have L1 := Mem.rfl' m
 refine wpc_join [4, 5, 11, 12, 13, 14, 15, 16, 17, 18, 19, 20, 21, 22, 23, 24, 25, 26, 27, 28, 29, 30, 31, 32, 33, 34, 35, 36, 37, 38, 39, 40, 41, 42] (fun f' w' => ∃ (M1 : Mem) (y1 : Unit), x1 = .inl y1 ∧ m ≤ M1 ∧ St M1 (As) w' ∧ AllAt f' []) ?_ ?_
 · refine wpc_block <| wpc_rounds [4, 5, 11, 12, 13, 14, 15, 16, 17, 18, 19, 20, 21, 22, 23, 24, 25, 26, 27, 28, 29, 30, 31, 32, 33, 34, 35, 36, 37, 38, 39, 40, 41, 42] (fun n1 f' w' => ∃ (s1 : Int) (m29 : Mem), iter (m_ref24_SameLeaves_b1 a0 a1) n1 s1 = some x1 ∧ m ≤ m29 ∧ St m29 (As) w' ∧ AllAt f' [(5, vI s1)]) FUEL ⟨0, m, q1, L1, S, ⟨rfl, trivial⟩⟩ ?_
   rintro n1 f1 w1 ho ⟨s1, m1, q2, L3, S1, ha⟩
   obtain ⟨u1, rfl⟩ := fr_of (N := 43) ho ha
   clear ho ha
   have L2 := Mem.rfl' m1
   clear S
   cases n1 with
   | zero => exact (iter_zero q2).elim
   | succ n1 =>
    obtain ⟨y2, q4, q3⟩ := iter_succ q2
    unfold m_ref24_SameLeaves_b1 at q4
    refine wpc_seq <| ws <| s_mvv (v := vI s1) rfl <| s_mvv (v := a0v0) rfl <| s_lenR (xs := a0) rfl (a0h0.up L3) underlying23 <| s_lss (m := s1) (n := (a0.length : Int)) rfl rfl <| wpl_nil <| nrm <| wpc_if (t := (decide (s1 < (a0.length : Int)))) rfl (fun hc2 => ?_) (fun hc2 => ?_)
    · replace q4 := ifT hc2 q4
      refine wpc_skip <| nrm <| wpc_seq <| wpc_block <| wpc_seq ?_
      obtain ⟨x3, q6, q4⟩ := obind_some q4
      obtain ⟨x4, q7, q4⟩ := obind_some q4
      obtain ⟨x5, q8, q4⟩ := obind_some q4
      obtain ⟨x6, q9, q4⟩ := obind_some q4
      have HM : MonoAll [(17, fv a0v0), (18, fv (vI s1)), (19, fun (M : Mem) (v : Value) => ∃ (v1 : Value), ∃ (p1 : Value), v = p1 ∧ SlR M v1 x3.Body ∧ PtC M p1 (c_api_Leaf x3 v1)), (20, fun (M : Mem) (v : Value) => ∃ (p2 : Value), v = p2 ∧ PtC M p2 [vI x3.At]), (21, fv (vI x3.At)), (22, fv a1v0), (23, fv (vI s1)), (24, fun (M : Mem) (v : Value) => ∃ (v5 : Value), ∃ (p3 : Value), v = p3 ∧ SlR M v5 x4.Body ∧ PtC M p3 (c_api_Leaf x4 v5)), (25, fun (M : Mem) (v : Value) => ∃ (p4 : Value), v = p4 ∧ PtC M p4 [vI x4.At]), (26, fv (vI x4.At)), (27, fv (vb (x3.At != x4.At))), (28, fv (vb (x3.At != x4.At))), (29, fc (!(x3.At != x4.At)) (fv a0v0)), (30, fc (!(x3.At != x4.At)) (fv (vI s1))), (31, fc (!(x3.At != x4.At)) (fun (M : Mem) (v : Value) => ∃ (v9 : Value), ∃ (p5 : Value), v = p5 ∧ SlR M v9 x5.Body ∧ PtC M p5 (c_api_Leaf x5 v9))), (32, fc (!(x3.At != x4.At)) (fun (M : Mem) (v : Value) => ∃ (v10 : Value), ∃ (p6 : Value), v = p6 ∧ SlR M v10 x5.Body ∧ PtC M p6 (c_api_Leaf x5 v10))), (33, fc (!(x3.At != x4.At)) (fun (M : Mem) (v : Value) => ∃ (v12 : Value), v = v12 ∧ SlR M v12 x5.Body)), (34, fc (!(x3.At != x4.At)) (fv (vS (bs x5.Body)))), (35, fc (!(x3.At != x4.At)) (fv a1v0)), (36, fc (!(x3.At != x4.At)) (fv (vI s1))), (37, fc (!(x3.At != x4.At)) (fun (M : Mem) (v : Value) => ∃ (v15 : Value), ∃ (p7 : Value), v = p7 ∧ SlR M v15 x6.Body ∧ PtC M p7 (c_api_Leaf x6 v15))), (38, fc (!(x3.At != x4.At)) (fun (M : Mem) (v : Value) => ∃ (v16 : Value), ∃ (p8 : Value), v = p8 ∧ SlR M v16 x6.Body ∧ PtC M p8 (c_api_Leaf x6 v16))), (39, fc (!(x3.At != x4.At)) (fun (M : Mem) (v : Value) => ∃ (v18 : Value), v = v18 ∧ SlR M v18 x6.Body)), (40, fc (!(x3.At != x4.At)) (fv (vS (bs x6.Body)))), (41, fc (!(x3.At != x4.At)) (fv (vb (!eqS (bs x5.Body) (bs x6.Body))))), (42, fv (vb ((x3.At != x4.At) || (!eqS (bs x5.Body) (bs x6.Body)))))] := ⟨mv, mv, (fun _ _ _ l ⟨v1, p1, e, h2, h1⟩ => ⟨v1, p1, e, h2.up l, h1.up l⟩), (fun _ _ _ l ⟨p2, e, h5⟩ => ⟨p2, e, h5.up l⟩), mv, mv, mv, (fun _ _ _ l ⟨v5, p3, e, h8, h7⟩ => ⟨v5, p3, e, h8.up l, h7.up l⟩), (fun _ _ _ l ⟨p4, e, h11⟩ => ⟨p4, e, h11.up l⟩), mv, mv, mv, (mc mv), (mc mv), (mc (fun _ _ _ l ⟨v9, p5, e, h14, h13⟩ => ⟨v9, p5, e, h14.up l, h13.up l⟩)), (mc (fun _ _ _ l ⟨v10, p6, e, h15, h17⟩ => ⟨v10, p6, e, h15.up l, h17.up l⟩)), (mc (fun _ _ _ l ⟨v12, e, h18⟩ => ⟨v12, e, h18.up l⟩)), (mc mv), (mc mv), (mc mv), (mc (fun _ _ _ l ⟨v15, p7, e, h22, h21⟩ => ⟨v15, p7, e, h22.up l, h21.up l⟩)), (mc (fun _ _ _ l ⟨v16, p8, e, h23, h25⟩ => ⟨v16, p8, e, h23.up l, h25.up l⟩)), (mc (fun _ _ _ l ⟨v18, e, h26⟩ => ⟨v18, e, h26.up l⟩)), (mc mv), (mc mv), mv, trivial⟩
      refine wpc_flowG HM 26 mixed rfl rfl rfl (rg 17 26) (fun L f M w => St M (As) w) (St.drew S1 _) ?_ ?_
      · refine ⟨?_, ?_, ?_, ?_, ?_, ?_, ?_, ?_, ?_, ?_, ?_, ?_, ?_, ?_, ?_, ?_, ?_, ?_, ?_, ?_, ?_, ?_, ?_, ?_, ?_, ?_, trivial⟩
        · exact flp HM rfl [] (fun _ _ => trivial) (fun _ _ q => s_mvv (v := a0v0) rfl q) rfl
        · exact flp HM rfl [] (fun _ _ => trivial) (fun _ _ q => s_mvv (v := vI s1) rfl q) rfl
        · intro L f4 w4 hL hd hc ⟨m4, L8, S4, K, hO⟩
          obtain ⟨u4, rfl⟩ := fr_of (N := 43) (L := [(17, _), (18, _)]) hO ⟨K 0 (dep hd rfl), K 1 (dep hd rfl), trivial⟩
          replace a0h0 := a0h0.up (mt L3 L8)
          refine s_idx (q := x3) rfl rfl a0h0 q6 underlying23 sizeOf77 fun p1 c1 h1 r1 => ?_
          obtain ⟨v1, rfl, h2⟩ := rep_g_api_Leaf r1
          exact oS HM L8 S4 rfl K rfl rfl ⟨v1, p1, rfl, h2, h1⟩ outP
        · intro L f5 w5 hL hd hc ⟨m5, L10, S5, K, hO⟩
          obtain ⟨v2, v3, e3, h3, h4⟩ := K 2 (dep hd rfl)
          obtain ⟨u5, rfl⟩ := fr_of (N := 43) (L := [(19, _)]) hO ⟨e3, trivial⟩
          refine s_fldM (n := 0) rfl h4 underlying77 rfl rfl sizeOf3 fun p2 h5 => ?_
          replace h5 : PtC _ _ [vI x3.At] := h5
          exact oS HM L10 S5 rfl K rfl rfl ⟨p2, rfl, h5⟩ outP
        · intro L f6 w6 hL hd hc ⟨m6, L12, S6, K, hO⟩
          obtain ⟨v4, e4, h6⟩ := K 3 (dep hd rfl)
          obtain ⟨u6, rfl⟩ := fr_of (N := 43) (L := [(20, _)]) hO ⟨e4, trivial⟩
          exact s_ldM (cs := [vI x3.At]) S6 rfl h6 rfl isAgg3 sizeOf3 (fun _ => rfl) <| oS HM L12 S6 rfl K rfl rfl rfl outP
        · exact flp HM rfl [] (fun _ _ => trivial) (fun _ _ q => s_mvv (v := a1v0) rfl q) rfl
        · exact flp HM rfl [] (fun _ _ => trivial) (fun _ _ q => s_mvv (v := vI s1) rfl q) rfl
        · intro L f9 w9 hL hd hc ⟨m9, L18, S9, K, hO⟩
          obtain ⟨u9, rfl⟩ := fr_of (N := 43) (L := [(22, _), (23, _)]) hO ⟨K 5 (dep hd rfl), K 6 (dep hd rfl), trivial⟩
          replace a1h0 := a1h0.up (mt L3 L18)
          refine s_idx (q := x4) rfl rfl a1h0 q7 underlying23 sizeOf77 fun p3 c2 h7 r2 => ?_
          obtain ⟨v5, rfl, h8⟩ := rep_g_api_Leaf r2
          exact oS HM L18 S9 rfl K rfl rfl ⟨v5, p3, rfl, h8, h7⟩ outP
        · intro L f10 w10 hL hd hc ⟨m10, L20, S10, K, hO⟩
          obtain ⟨v6, v7, e7, h9, h10⟩ := K 7 (dep hd rfl)
          obtain ⟨u10, rfl⟩ := fr_of (N := 43) (L := [(24, _)]) hO ⟨e7, trivial⟩
          refine s_fldM (n := 0) rfl h10 underlying77 rfl rfl sizeOf3 fun p4 h11 => ?_
          replace h11 : PtC _ _ [vI x4.At] := h11
          exact oS HM L20 S10 rfl K rfl rfl ⟨p4, rfl, h11⟩ outP
        · intro L f11 w11 hL hd hc ⟨m11, L22, S11, K, hO⟩
          obtain ⟨v8, e8, h12⟩ := K 8 (dep hd rfl)
          obtain ⟨u11, rfl⟩ := fr_of (N := 43) (L := [(25, _)]) hO ⟨e8, trivial⟩
          exact s_ldM (cs := [vI x4.At]) S11 rfl h12 rfl isAgg3 sizeOf3 (fun _ => rfl) <| oS HM L22 S11 rfl K rfl rfl rfl outP
        · exact flp HM rfl [(21, _), (26, _)] (fun K _ => ⟨K 4 rfl, K 9 rfl, trivial⟩) (fun _ _ q => s_neq (m := x3.At) (n := x4.At) rfl rfl q) rfl
        · exact flp HM rfl [(27, _)] (fun K _ => ⟨K 10 rfl, trivial⟩) (fun _ _ q => s_mvv (v := vb (x3.At != x4.At)) rfl q) rfl
        · exact flgn HM rfl rfl (fun K _ => K 11 rfl) [] (fun _ _ _ => trivial) (fun _ => fun _ _ q => s_mvv (v := a0v0) rfl q) (fun _ => rfl)
        · exact flgn HM rfl rfl (fun K _ => K 11 rfl) [] (fun _ _ _ => trivial) (fun _ => fun _ _ q => s_mvv (v := vI s1) rfl q) (fun _ => rfl)
        · refine flbn HM rfl rfl (fun K _ => K 11 rfl) fun hb3 => ?_
          intro L f16 w16 hL hd hc ⟨m16, L32, S16, K, hO⟩
          obtain ⟨u16, rfl⟩ := fr_of (N := 43) (L := [(29, _), (30, _)]) hO ⟨(K 12 (dep hd rfl)).1 (not_t hb3), (K 13 (dep hd rfl)).1 (not_t hb3), trivial⟩
          replace S16 : St _ (As) _ := S16
          replace q8 := gu_t (not_t hb3) q8
          replace a0h0 := a0h0.up (mt L3 L32)
          refine s_idx (q := x5) rfl rfl a0h0 q8 underlying23 sizeOf77 fun p5 c3 h13 r3 => ?_
          obtain ⟨v9, rfl, h14⟩ := rep_g_api_Leaf r3
          exact oS HM L32 S16 rfl K rfl rfl ⟨fun _ => ⟨v9, p5, rfl, h14, h13⟩, fun hx => tf (not_t hb3) hx⟩ outP
        · refine flbn HM rfl rfl (fun K _ => K 11 rfl) fun hb4 => ?_
          intro L f17 w17 hL hd hc ⟨m17, L34, S17, K, hO⟩
          obtain ⟨v10, v11, e14, h15, h16⟩ := (K 14 (dep hd rfl)).1 (not_t hb4)
          obtain ⟨u17, rfl⟩ := fr_of (N := 43) (L := [(31, _)]) hO ⟨e14, trivial⟩
          replace S17 : St _ (As) _ := S17
          refine s_fldM (n := 0) rfl h16 underlying77 rfl rfl sizeOf27 fun p6 h17 => ?_
          replace h17 : PtC _ _ (c_api_Leaf x5 v10) := h17
          exact oS HM L34 S17 rfl K rfl rfl ⟨fun _ => ⟨v10, p6, rfl, h15, h17⟩, fun hx => tf (not_t hb4) hx⟩ outP
        · refine flbn HM rfl rfl (fun K _ => K 11 rfl) fun hb5 => ?_
          intro L f18 w18 hL hd hc ⟨m18, L36, S18, K, hO⟩
          obtain ⟨v12, v13, e15, h18, h19⟩ := (K 15 (dep hd rfl)).1 (not_t hb5)
          obtain ⟨u18, rfl⟩ := fr_of (N := 43) (L := [(32, _)]) hO ⟨e15, trivial⟩
          replace S18 : St _ (As) _ := S18
          exact s_ldM (cs := [v12]) S18 rfl h19 rfl isAgg27 sizeOf27 (fun _ => rfl) <| oS HM L36 S18 rfl K rfl rfl ⟨fun _ => ⟨v12, rfl, h18⟩, fun hx => tf (not_t hb5) hx⟩ outP
        · refine flbn HM rfl rfl (fun K _ => K 11 rfl) fun hb6 => ?_
          intro L f19 w19 hL hd hc ⟨m19, L38, S19, K, hO⟩
          obtain ⟨v14, e16, h20⟩ := (K 16 (dep hd rfl)).1 (not_t hb6)
          obtain ⟨u19, rfl⟩ := fr_of (N := 43) (L := [(33, _)]) hO ⟨e16, trivial⟩
          replace S19 : St _ (As) _ := S19
          exact s_bytesS (xs := x5.Body) (t2' := 5) S19 rfl h20 underlying27 underlying5 underlying9 <| oS HM L38 S19 rfl K rfl rfl ⟨fun _ => rfl, fun hx => tf (not_t hb6) hx⟩ outP
        · exact flgn HM rfl rfl (fun K _ => K 11 rfl) [] (fun _ _ _ => trivial) (fun _ => fun _ _ q => s_mvv (v := a1v0) rfl q) (fun _ => rfl)
        · exact flgn HM rfl rfl (fun K _ => K 11 rfl) [] (fun _ _ _ => trivial) (fun _ => fun _ _ q => s_mvv (v := vI s1) rfl q) (fun _ => rfl)
        · refine flbn HM rfl rfl (fun K _ => K 11 rfl) fun hb9 => ?_
          intro L f22 w22 hL hd hc ⟨m22, L44, S22, K, hO⟩
          obtain ⟨u22, rfl⟩ := fr_of (N := 43) (L := [(35, _), (36, _)]) hO ⟨(K 18 (dep hd rfl)).1 (not_t hb9), (K 19 (dep hd rfl)).1 (not_t hb9), trivial⟩
          replace S22 : St _ (As) _ := S22
          replace q9 := gu_t (not_t hb9) q9
          replace a1h0 := a1h0.up (mt L3 L44)
          refine s_idx (q := x6) rfl rfl a1h0 q9 underlying23 sizeOf77 fun p7 c4 h21 r4 => ?_
          obtain ⟨v15, rfl, h22⟩ := rep_g_api_Leaf r4
          exact oS HM L44 S22 rfl K rfl rfl ⟨fun _ => ⟨v15, p7, rfl, h22, h21⟩, fun hx => tf (not_t hb9) hx⟩ outP
        · refine flbn HM rfl rfl (fun K _ => K 11 rfl) fun hb10 => ?_
          intro L f23 w23 hL hd hc ⟨m23, L46, S23, K, hO⟩
          obtain ⟨v16, v17, e19, h23, h24⟩ := (K 20 (dep hd rfl)).1 (not_t hb10)
          obtain ⟨u23, rfl⟩ := fr_of (N := 43) (L := [(37, _)]) hO ⟨e19, trivial⟩
          replace S23 : St _ (As) _ := S23
          refine s_fldM (n := 0) rfl h24 underlying77 rfl rfl sizeOf27 fun p8 h25 => ?_
          replace h25 : PtC _ _ (c_api_Leaf x6 v16) := h25
          exact oS HM L46 S23 rfl K rfl rfl ⟨fun _ => ⟨v16, p8, rfl, h23, h25⟩, fun hx => tf (not_t hb10) hx⟩ outP
        · refine flbn HM rfl rfl (fun K _ => K 11 rfl) fun hb11 => ?_
          intro L f24 w24 hL hd hc ⟨m24, L48, S24, K, hO⟩
          obtain ⟨v18, v19, e20, h26, h27⟩ := (K 21 (dep hd rfl)).1 (not_t hb11)
          obtain ⟨u24, rfl⟩ := fr_of (N := 43) (L := [(38, _)]) hO ⟨e20, trivial⟩
          replace S24 : St _ (As) _ := S24
          exact s_ldM (cs := [v18]) S24 rfl h27 rfl isAgg27 sizeOf27 (fun _ => rfl) <| oS HM L48 S24 rfl K rfl rfl ⟨fun _ => ⟨v18, rfl, h26⟩, fun hx => tf (not_t hb11) hx⟩ outP
        · refine flbn HM rfl rfl (fun K _ => K 11 rfl) fun hb12 => ?_
          intro L f25 w25 hL hd hc ⟨m25, L50, S25, K, hO⟩
          obtain ⟨v20, e21, h28⟩ := (K 22 (dep hd rfl)).1 (not_t hb12)
          obtain ⟨u25, rfl⟩ := fr_of (N := 43) (L := [(39, _)]) hO ⟨e21, trivial⟩
          replace S25 : St _ (As) _ := S25
          exact s_bytesS (xs := x6.Body) (t2' := 5) S25 rfl h28 underlying27 underlying5 underlying9 <| oS HM L50 S25 rfl K rfl rfl ⟨fun _ => rfl, fun hx => tf (not_t hb12) hx⟩ outP
        · exact flgn HM rfl rfl (fun K _ => K 11 rfl) [(34, _), (40, _)] (fun K _ hb => ⟨(K 17 rfl).1 (not_t hb), (K 23 rfl).1 (not_t hb), trivial⟩) (fun _ => fun _ _ q => s_neqT (p := (bs x5.Body)) (q := (bs x6.Body)) rfl rfl q) (fun _ => rfl)
        · exact flc HM rfl (x3.At != x4.At) [(28, _)] [(28, _), (41, _)] (fun K _ _ => ⟨K 11 rfl, trivial⟩) (fun K _ hb => ⟨K 11 rfl, (K 24 rfl).1 (not_t hb), trivial⟩) (fun hb => fun _ _ q => s_pickT (cb hb) rfl q) (fun hb => fun _ _ q => s_pickF (cb hb) rfl q) (fun hb => cb (or_t hb)) (fun hb => cb (or_f hb))
      intro L f28 w28 hall ⟨m28, L57, S28, K, hO⟩
      have d25 : L 25 = true := hall 25 (by decide)
      obtain ⟨u29, rfl⟩ := fr_of (N := 43) (L := [(42, _)]) hO ⟨K 25 d25, trivial⟩
      replace S28 : St _ (As) _ := S28
      clear S1
      refine wpl_nil <| nrm <| wpc_if (t := ((x3.At != x4.At) || (!eqS (bs x5.Body) (bs x6.Body)))) rfl (fun hc3 => ?_) (fun hc3 => ?_)
      · replace q4 := ifT hc3 q4
        refine ws <| s_asv (v := vb false) rfl <| wpl_nil <| nrm <| wpc_ret <| blR <| thR <| thR <| blR <| thR <| outRw fun we hpd => ?_
        replace S28 := St.pd S28 hpd
        cases q4
        rcases q3 with ⟨sn, e, _⟩ | e
        · cases e
        cases e
        dsimp only at hm
        have e0 := Option.some.inj hm
        subst e0
        replace L2 := Mem.tr L2 L57
        exact outR [_] rfl ⟨rfl, trivial⟩ ⟨_, (Mem.tr L0 (Mem.tr L3 L2)), S28, rfl⟩
      replace q4 := ifF hc3 q4
      refine wpc_skip <| nrmB <| nrm <| wpc_region <| s_mvv (v := vI s1) rfl <| s_addI (m := s1) (n := 1) rfl rfl <| s_asv (v := vI (w64 (s1 + 1))) rfl <| wpl_nil <| nrm ?_
      have e0 := Option.some.inj q4
      subst e0
      rcases q3 with ⟨sn, e, q3'⟩ | e
      · cases e
        replace L2 := Mem.tr L2 L57
        exact ⟨outP, _, Nat.lt_succ_self _, ⟨_, m28, q3', Mem.tr L3 L2, S28, ⟨rfl, trivial⟩⟩⟩
      · cases e
    replace q4 := ifF hc2 q4
    refine wpc_exit <| thE <| thE <| exB <| nrm ?_
    have e0 := Option.some.inj q4
    subst e0
    rcases q3 with ⟨sn, e, _⟩ | e
    · cases e
    · cases e
      exact ⟨outP, m1, _, rfl, Mem.tr L3 L2, S1, trivial⟩
 rintro f29 w29 ho ⟨m30, y1, rfl, l1, S29, ha⟩
 obtain ⟨u30, rfl⟩ := fr_of (N := 43) ho ha
 clear ho ha
 dsimp only at hm
 clear S
 refine ws <| s_asv (v := vb true) rfl <| wpl_nil <| nrm <| wpc_ret <| outRw fun we hpd => ?_
 replace S29 := St.pd S29 hpd
 have e0 := Option.some.inj hm
 subst e0
 replace L0 := Mem.tr L0 l1
 exact outR [_] rfl ⟨rfl, trivial⟩ ⟨_, L0, S29, rfl⟩

def m_ref24_Same_b3 (a0 : g_api_Log) (a1 : g_api_Log) (s1 : Int) : Option ((Int) ⊕ ((Unit) ⊕ Bool)) :=
  if (decide (s1 < (a0.Hide.length : Int))) = true then
    obind (idx a0.Hide s1) fun x3 =>
    obind (idx a1.Hide s1) fun x4 =>
    if (x3 != x4) = true then
      some (.inr (.inr false))
    else
    some (.inl (w64 (s1 + 1)))
  else
  some (.inr (.inl ()))

def m_ref24_Same (a0 : g_api_Log) (a1 : g_api_Log) : Option Bool :=
  if ((((a0.Id != a1.Id) || ((a0.Key.toNat : Int) != (a1.Key.toNat : Int))) || (a0.Delay != a1.Delay)) || ((a0.Hide.length : Int) != (a1.Hide.length : Int))) = true then
    some false
  else
  obind (iter (m_ref24_Same_b3 a0 a1) FUEL 0) fun x1 => match x1 with
  | .inr r => some r
  | .inl y1 =>
  obind (m_ref24_SameLeaves a0.L a1.L) fun x5 =>
  obind (
    if x5 = true then
      obind (m_ref24_SameLeaves a0.Wait a1.Wait) fun x8 =>
      some x8
    else
    some false
  ) fun x7 =>
  some x7

theorem w_ref24_Same {m : Mem} {As : List Ow} {w : World} {a0 : g_api_Log} {a0v3 : Value} {a0v4 : Value} {a0v5 : Value} {a1 : g_api_Log} {a1v3 : Value} {a1v4 : Value} {a1v5 : Value} {r : Bool} (S : St m (As) w) (a0h3 : SlR m a0v3 a0.L) (a0h4 : SlR m a0v4 a0.Hide) (a0h5 : SlR m a0v5 a0.Wait) (a1h3 : SlR m a1v3 a1.L) (a1h4 : SlR m a1v4 a1.Hide) (a1h5 : SlR m a1v5 a1.Wait) (hm : m_ref24_Same a0 a1 = some r) :
    CallsR Tryz.prog 15 #[.agg (c_api_Log a0 a0v3 a0v4 a0v5).toArray, .agg (c_api_Log a1 a1v3 a1v4 a1v5).toArray] w fun v w' => ∃ (M : Mem), m ≤ M ∧ St M (As) w' ∧ v = vb r := by
 unfold m_ref24_Same at hm
 have L0 := Mem.rfl' m
 refine callsR (args := [.agg (c_api_Log a0 a0v3 a0v4 a0v5).toArray, .agg (c_api_Log a1 a1v3 a1v4 a1v5).toArray]) func15 rfl ntmps15 (nb rfl) <| ws <| s_box S rfl fun b1 w1 S1 => ?_
 replace S1 : St _ ((bx b1 (c_api_Log a0 a0v3 a0v4 a0v5) 26) :: As) _ := S1
 clear S
 refine s_box S1 rfl fun b2 w2 S2 => ?_
 replace S2 : St _ ((bx b2 (c_api_Log a1 a1v3 a1v4 a1v5) 26) :: (bx b1 (c_api_Log a0 a0v3 a0v4 a0v5) 26) :: As) _ := S2
 clear S1
 refine s_asv (v := vb false) rfl <| wpl_nil <| nrm <| wpc_seq <| ws <| s_fld (n := 0) rfl underlying26 rfl rfl sizeOf3 <| s_ld (i := 1) (cs := [vI a0.Id]) S2 rfl rfl isAgg3 sizeOf3 rfl (fun _ => rfl) <| s_fld (n := 0) rfl underlying26 rfl rfl sizeOf3 <| s_ld (i := 0) (cs := [vI a1.Id]) S2 rfl rfl isAgg3 sizeOf3 rfl (fun _ => rfl) <| s_neq (m := a0.Id) (n := a1.Id) rfl rfl <| s_mvv (v := vb (a0.Id != a1.Id)) rfl <| wpl_cut 6 [12, 13, 14, 15, 16, 17] (fun f' w' => w' = w2 ∧ AllAt f' [(17, vb ((a0.Id != a1.Id) || ((a0.Key.toNat : Int) != (a1.Key.toNat : Int))))]) ?_ ?_
 · rcases bool_tf (a0.Id != a1.Id) with hb1 | hb1
   · exact wpl_no (d := 11) rfl rfl (cb hb1) <| wpl_no (d := 11) rfl rfl (cb hb1) <| wpl_no (d := 11) rfl rfl (cb hb1) <| wpl_no (d := 11) rfl rfl (cb hb1) <| wpl_no (d := 11) rfl rfl (cb hb1) <| s_pickT (cb hb1) rfl <| wpl_nil (nrm ⟨outP, rfl, congrArg Value.bool (or_t hb1), trivial⟩)
   · exact wpl_yes (d := 11) rfl rfl (cb hb1) <| s_fld (n := 0) rfl underlying26 rfl rfl sizeOf22 <| wpl_yes (d := 11) rfl rfl (cb hb1) <| s_ld (i := 1) (cs := [vU a0.Key]) S2 rfl rfl isAgg22 sizeOf22 rfl (fun _ => rfl) <| wpl_yes (d := 11) rfl rfl (cb hb1) <| s_fld (n := 0) rfl underlying26 rfl rfl sizeOf22 <| wpl_yes (d := 11) rfl rfl (cb hb1) <| s_ld (i := 0) (cs := [vU a1.Key]) S2 rfl rfl isAgg22 sizeOf22 rfl (fun _ => rfl) <| wpl_yes (d := 11) rfl rfl (cb hb1) <| s_neq (m := (a0.Key.toNat : Int)) (n := (a1.Key.toNat : Int)) rfl rfl <| s_pickF (cb hb1) rfl <| wpl_nil (nrm ⟨outP, rfl, congrArg Value.bool (or_f hb1), trivial⟩)
 rintro f1 w3 ho ⟨h1, ha⟩
 subst h1
 obtain ⟨u1, rfl⟩ := fr_of (N := 64) ho ha
 refine s_mvv (v := vb ((a0.Id != a1.Id) || ((a0.Key.toNat : Int) != (a1.Key.toNat : Int)))) rfl <| wpl_cut 6 [19, 20, 21, 22, 23, 24] (fun f' w' => w' = w3 ∧ AllAt f' [(24, vb (((a0.Id != a1.Id) || ((a0.Key.toNat : Int) != (a1.Key.toNat : Int))) || (a0.Delay != a1.Delay)))]) ?_ ?_
 · rcases bool_tf ((a0.Id != a1.Id) || ((a0.Key.toNat : Int) != (a1.Key.toNat : Int))) with hb2 | hb2
   · exact wpl_no (d := 18) rfl rfl (cb hb2) <| wpl_no (d := 18) rfl rfl (cb hb2) <| wpl_no (d := 18) rfl rfl (cb hb2) <| wpl_no (d := 18) rfl rfl (cb hb2) <| wpl_no (d := 18) rfl rfl (cb hb2) <| s_pickT (cb hb2) rfl <| wpl_nil (nrm ⟨outP, rfl, congrArg Value.bool (or_t hb2), trivial⟩)
   · exact wpl_yes (d := 18) rfl rfl (cb hb2) <| s_fld (n := 0) rfl underlying26 rfl rfl sizeOf3 <| wpl_yes (d := 18) rfl rfl (cb hb2) <| s_ld (i := 1) (cs := [vI a0.Delay]) S2 rfl rfl isAgg3 sizeOf3 rfl (fun _ => rfl) <| wpl_yes (d := 18) rfl rfl (cb hb2) <| s_fld (n := 0) rfl underlying26 rfl rfl sizeOf3 <| wpl_yes (d := 18) rfl rfl (cb hb2) <| s_ld (i := 0) (cs := [vI a1.Delay]) S2 rfl rfl isAgg3 sizeOf3 rfl (fun _ => rfl) <| wpl_yes (d := 18) rfl rfl (cb hb2) <| s_neq (m := a0.Delay) (n := a1.Delay) rfl rfl <| s_pickF (cb hb2) rfl <| wpl_nil (nrm ⟨outP, rfl, congrArg Value.bool (or_f hb2), trivial⟩)
 rintro f2 w4 ho ⟨h2, ha⟩
 subst h2
 obtain ⟨u2, rfl⟩ := fr_of (N := 64) ho ha
 refine s_mvv (v := vb (((a0.Id != a1.Id) || ((a0.Key.toNat : Int) != (a1.Key.toNat : Int))) || (a0.Delay != a1.Delay))) rfl <| wpl_cut 8 [26, 27, 28, 29, 30, 31, 32, 33] (fun f' w' => w' = w4 ∧ AllAt f' [(33, vb ((((a0.Id != a1.Id) || ((a0.Key.toNat : Int) != (a1.Key.toNat : Int))) || (a0.Delay != a1.Delay)) || ((a0.Hide.length : Int) != (a1.Hide.length : Int))))]) ?_ ?_
 · rcases bool_tf (((a0.Id != a1.Id) || ((a0.Key.toNat : Int) != (a1.Key.toNat : Int))) || (a0.Delay != a1.Delay)) with hb3 | hb3
   · exact wpl_no (d := 25) rfl rfl (cb hb3) <| wpl_no (d := 25) rfl rfl (cb hb3) <| wpl_no (d := 25) rfl rfl (cb hb3) <| wpl_no (d := 25) rfl rfl (cb hb3) <| wpl_no (d := 25) rfl rfl (cb hb3) <| wpl_no (d := 25) rfl rfl (cb hb3) <| wpl_no (d := 25) rfl rfl (cb hb3) <| s_pickT (cb hb3) rfl <| wpl_nil (nrm ⟨outP, rfl, congrArg Value.bool (or_t hb3), trivial⟩)
   · exact wpl_yes (d := 25) rfl rfl (cb hb3) <| s_fld (n := 0) rfl underlying26 rfl rfl sizeOf24 <| wpl_yes (d := 25) rfl rfl (cb hb3) <| s_ld (i := 1) (cs := [a0v4]) S2 rfl rfl isAgg24 sizeOf24 rfl (fun _ => rfl) <| wpl_yes (d := 25) rfl rfl (cb hb3) <| s_lenR (xs := a0.Hide) rfl a0h4 underlying24 <| wpl_yes (d := 25) rfl rfl (cb hb3) <| s_fld (n := 0) rfl underlying26 rfl rfl sizeOf24 <| wpl_yes (d := 25) rfl rfl (cb hb3) <| s_ld (i := 0) (cs := [a1v4]) S2 rfl rfl isAgg24 sizeOf24 rfl (fun _ => rfl) <| wpl_yes (d := 25) rfl rfl (cb hb3) <| s_lenR (xs := a1.Hide) rfl a1h4 underlying24 <| wpl_yes (d := 25) rfl rfl (cb hb3) <| s_neq (m := (a0.Hide.length : Int)) (n := (a1.Hide.length : Int)) rfl rfl <| s_pickF (cb hb3) rfl <| wpl_nil (nrm ⟨outP, rfl, congrArg Value.bool (or_f hb3), trivial⟩)
 rintro f3 w5 ho ⟨h3, ha⟩
 subst h3
 obtain ⟨u3, rfl⟩ := fr_of (N := 64) ho ha
 refine wpl_nil <| nrm <| wpc_if (t := ((((a0.Id != a1.Id) || ((a0.Key.toNat : Int) != (a1.Key.toNat : Int))) || (a0.Delay != a1.Delay)) || ((a0.Hide.length : Int) != (a1.Hide.length : Int)))) rfl (fun hc1 => ?_) (fun hc1 => ?_)
 · replace hm := ifT hc1 hm
   refine ws <| s_asv (v := vb false) rfl <| wpl_nil <| nrm <| wpc_ret <| thR <| outRw fun we hpd => ?_
   replace S2 := St.pd S2 hpd
   obtain ⟨m1, l1, S3⟩ := St.drop S2 0
   clear S2
   replace S3 : St _ ((bx b1 (c_api_Log a0 a0v3 a0v4 a0v5) 26) :: As) _ := S3
   obtain ⟨m2, l2, S4⟩ := St.drop S3 0
   clear S3
   replace S4 : St _ (As) _ := S4
   have e0 := Option.some.inj hm
   subst e0
   replace L0 := Mem.tr L0 (mt l1 l2)
   exact outR [_] rfl ⟨rfl, trivial⟩ ⟨_, L0, S4, rfl⟩
 replace hm := ifF hc1 hm
 refine wpc_skip <| nrm <| wpc_seq <| ws <| s_asv (v := vI 0) rfl <| wpl_nil <| nrm ?_
 obtain ⟨x1, q1, hm⟩ := obind_some hm
 have L1 := Mem.rfl' m
 refine wpc_join [4, 5, 34, 35, 36, 37, 38, 39, 40, 41, 42, 43, 44, 45, 46, 47, 48, 49, 50, 51] (fun f' w' => ∃ (M1 : Mem) (y1 : Unit), x1 = .inl y1 ∧ m ≤ M1 ∧ St M1 ((bx b2 (c_api_Log a1 a1v3 a1v4 a1v5) 26) :: (bx b1 (c_api_Log a0 a0v3 a0v4 a0v5) 26) :: As) w' ∧ AllAt f' []) ?_ ?_
 · refine wpc_block <| wpc_rounds [4, 5, 34, 35, 36, 37, 38, 39, 40, 41, 42, 43, 44, 45, 46, 47, 48, 49, 50, 51] (fun n1 f' w' => ∃ (s1 : Int) (m17 : Mem), iter (m_ref24_Same_b3 a0 a1) n1 s1 = some x1 ∧ m ≤ m17 ∧ St m17 ((bx b2 (c_api_Log a1 a1v3 a1v4 a1v5) 26) :: (bx b1 (c_api_Log a0 a0v3 a0v4 a0v5) 26) :: As) w' ∧ AllAt f' [(5, vI s1)]) FUEL ⟨0, m, q1, L1, S2, ⟨rfl, trivial⟩⟩ ?_
   rintro n1 f4 w6 ho ⟨s1, m3, q2, L3, S5, ha⟩
   obtain ⟨u4, rfl⟩ := fr_of (N := 64) ho ha
   clear ho ha
   have L2 := Mem.rfl' m3
   clear S2
   cases n1 with
   | zero => exact (iter_zero q2).elim
   | succ n1 =>
    obtain ⟨y2, q4, q3⟩ := iter_succ q2
    unfold m_ref24_Same_b3 at q4
    refine wpc_seq <| ws <| s_mvv (v := vI s1) rfl <| s_fld (n := 0) rfl underlying26 rfl rfl sizeOf24 <| s_ld (i := 1) (cs := [a0v4]) S5 rfl rfl isAgg24 sizeOf24 rfl (fun _ => rfl) <| s_lenR (xs := a0.Hide) rfl (a0h4.up L3) underlying24 <| s_lss (m := s1) (n := (a0.Hide.length : Int)) rfl rfl <| wpl_nil <| nrm <| wpc_if (t := (decide (s1 < (a0.Hide.length : Int)))) rfl (fun hc2 => ?_) (fun hc2 => ?_)
    · replace q4 := ifT hc2 q4
      refine wpc_skip <| nrm <| wpc_seq <| wpc_block <| wpc_seq ?_
      obtain ⟨x3, q6, q4⟩ := obind_some q4
      obtain ⟨x4, q7, q4⟩ := obind_some q4
      have HM : MonoAll [(41, fv (pt b1 4)), (42, fv a0v4), (43, fv (vI s1)), (44, fun (M : Mem) (v : Value) => ∃ (p1 : Value), v = p1 ∧ PtC M p1 [vI x3]), (45, fv (vI x3)), (46, fv (pt b2 4)), (47, fv a1v4), (48, fv (vI s1)), (49, fun (M : Mem) (v : Value) => ∃ (p2 : Value), v = p2 ∧ PtC M p2 [vI x4]), (50, fv (vI x4))] := ⟨mv, mv, mv, (fun _ _ _ l ⟨p1, e, h4⟩ => ⟨p1, e, h4.up l⟩), mv, mv, mv, mv, (fun _ _ _ l ⟨p2, e, h6⟩ => ⟨p2, e, h6.up l⟩), mv, trivial⟩
      refine wpc_flowG HM 10 mixed rfl rfl rfl (rg 41 10) (fun L f M w => St M ((bx b2 (c_api_Log a1 a1v3 a1v4 a1v5) 26) :: (bx b1 (c_api_Log a0 a0v3 a0v4 a0v5) 26) :: As) w) (St.drew S5 _) ?_ ?_
      · refine ⟨?_, ?_, ?_, ?_, ?_, ?_, ?_, ?_, ?_, ?_, trivial⟩
        · exact flp HM rfl [] (fun _ _ => trivial) (fun _ _ q => s_fld (n := 0) rfl underlying26 rfl rfl sizeOf24 q) rfl
        · exact flp HM rfl [(41, _)] (fun K _ => ⟨K 0 rfl, trivial⟩) (fun _ S7 q => s_ld (i := 1) (cs := [a0v4]) S7 rfl rfl isAgg24 sizeOf24 rfl (fun _ => rfl) q) rfl
        · exact flp HM rfl [] (fun _ _ => trivial) (fun _ _ q => s_mvv (v := vI s1) rfl q) rfl
        · intro L f8 w10 hL hd hc ⟨m7, L10, S9, K, hO⟩
          obtain ⟨u8, rfl⟩ := fr_of (N := 64) (L := [(42, _), (43, _)]) hO ⟨K 1 (dep hd rfl), K 2 (dep hd rfl), trivial⟩
          replace a0h4 := a0h4.up (mt L3 L10)
          refine s_idx (q := x3) rfl rfl a0h4 q6 underlying24 sizeOf3 fun p1 c1 h4 r1 => ?_
          obtain rfl : c1 = [vI x3] := r1
          exact oS HM L10 S9 rfl K rfl rfl ⟨p1, rfl, h4⟩ outP
        · intro L f9 w11 hL hd hc ⟨m8, L12, S10, K, hO⟩
          obtain ⟨v1, e4, h5⟩ := K 3 (dep hd rfl)
          obtain ⟨u9, rfl⟩ := fr_of (N := 64) (L := [(44, _)]) hO ⟨e4, trivial⟩
          exact s_ldM (cs := [vI x3]) S10 rfl h5 rfl isAgg3 sizeOf3 (fun _ => rfl) <| oS HM L12 S10 rfl K rfl rfl rfl outP
        · exact flp HM rfl [] (fun _ _ => trivial) (fun _ _ q => s_fld (n := 0) rfl underlying26 rfl rfl sizeOf24 q) rfl
        · exact flp HM rfl [(46, _)] (fun K _ => ⟨K 5 rfl, trivial⟩) (fun _ S12 q => s_ld (i := 0) (cs := [a1v4]) S12 rfl rfl isAgg24 sizeOf24 rfl (fun _ => rfl) q) rfl
        · exact flp HM rfl [] (fun _ _ => trivial) (fun _ _ q => s_mvv (v := vI s1) rfl q) rfl
        · intro L f13 w15 hL hd hc ⟨m12, L20, S14, K, hO⟩
          obtain ⟨u13, rfl⟩ := fr_of (N := 64) (L := [(47, _), (48, _)]) hO ⟨K 6 (dep hd rfl), K 7 (dep hd rfl), trivial⟩
          replace a1h4 := a1h4.up (mt L3 L20)
          refine s_idx (q := x4) rfl rfl a1h4 q7 underlying24 sizeOf3 fun p2 c2 h6 r2 => ?_
          obtain rfl : c2 = [vI x4] := r2
          exact oS HM L20 S14 rfl K rfl rfl ⟨p2, rfl, h6⟩ outP
        · intro L f14 w16 hL hd hc ⟨m13, L22, S15, K, hO⟩
          obtain ⟨v2, e8, h7⟩ := K 8 (dep hd rfl)
          obtain ⟨u14, rfl⟩ := fr_of (N := 64) (L := [(49, _)]) hO ⟨e8, trivial⟩
          exact s_ldM (cs := [vI x4]) S15 rfl h7 rfl isAgg3 sizeOf3 (fun _ => rfl) <| oS HM L22 S15 rfl K rfl rfl rfl outP
      intro L f15 w17 hall ⟨m14, L24, S16, K, hO⟩
      have d4 : L 4 = true := hall 4 (by decide)
      have d9 : L 9 = true := hall 9 (by decide)
      obtain ⟨u15, rfl⟩ := fr_of (N := 64) (L := [(45, _), (50, _)]) hO ⟨K 4 d4, K 9 d9, trivial⟩
      replace S16 : St _ ((bx b2 (c_api_Log a1 a1v3 a1v4 a1v5) 26) :: (bx b1 (c_api_Log a0 a0v3 a0v4 a0v5) 26) :: As) _ := S16
      clear S5
      refine s_neq (m := x3) (n := x4) rfl rfl <| wpl_nil <| nrm <| wpc_if (t := (x3 != x4)) rfl (fun hc3 => ?_) (fun hc3 => ?_)
      · replace q4 := ifT hc3 q4
        refine ws <| s_asv (v := vb false) rfl <| wpl_nil <| nrm <| wpc_ret <| blR <| thR <| thR <| blR <| thR <| outRw fun we hpd => ?_
        replace S16 := St.pd S16 hpd
        obtain ⟨m15, l3, S17⟩ := St.drop S16 0
        clear S16
        replace S17 : St _ ((bx b1 (c_api_Log a0 a0v3 a0v4 a0v5) 26) :: As) _ := S17
        obtain ⟨m16, l4, S18⟩ := St.drop S17 0
        clear S17
        replace S18 : St _ (As) _ := S18
        cases q4
        rcases q3 with ⟨sn, e, _⟩ | e
        · cases e
        cases e
        dsimp only at hm
        have e0 := Option.some.inj hm
        subst e0
        replace L2 := Mem.tr L2 (mt L24 (mt l3 l4))
        exact outR [_] rfl ⟨rfl, trivial⟩ ⟨_, (Mem.tr L0 (Mem.tr L3 L2)), S18, rfl⟩
      replace q4 := ifF hc3 q4
      refine wpc_skip <| nrmB <| nrm <| wpc_region <| s_mvv (v := vI s1) rfl <| s_addI (m := s1) (n := 1) rfl rfl <| s_asv (v := vI (w64 (s1 + 1))) rfl <| wpl_nil <| nrm ?_
      have e0 := Option.some.inj q4
      subst e0
      rcases q3 with ⟨sn, e, q3'⟩ | e
      · cases e
        replace L2 := Mem.tr L2 L24
        exact ⟨outP, _, Nat.lt_succ_self _, ⟨_, m14, q3', Mem.tr L3 L2, S16, ⟨rfl, trivial⟩⟩⟩
      · cases e
    replace q4 := ifF hc2 q4
    refine wpc_exit <| thE <| thE <| exB <| nrm ?_
    have e0 := Option.some.inj q4
    subst e0
    rcases q3 with ⟨sn, e, _⟩ | e
    · cases e
    · cases e
      exact ⟨outP, m3, _, rfl, Mem.tr L3 L2, S5, trivial⟩
 rintro f16 w18 ho ⟨m18, y1, rfl, l5, S19, ha⟩
 obtain ⟨u16, rfl⟩ := fr_of (N := 64) ho ha
 clear ho ha
 dsimp only at hm
 clear S2
 refine ws <| s_fld (n := 0) rfl underlying26 rfl rfl sizeOf23 <| s_ld (i := 1) (cs := [a0v3]) S19 rfl rfl isAgg23 sizeOf23 rfl (fun _ => rfl) <| s_fld (n := 0) rfl underlying26 rfl rfl sizeOf23 <| s_ld (i := 0) (cs := [a1v3]) S19 rfl rfl isAgg23 sizeOf23 rfl (fun _ => rfl) ?_
 obtain ⟨x5, q8, hm⟩ := obind_some hm
 refine s_call call49 (w_ref24_SameLeaves (a0 := a0.L) (a1 := a1.L) S19 (a0h3.up l5) (a1h3.up l5) q8) rfl ?_
 rintro _ w19 ⟨m19, l6, S20, rfl⟩
 clear S19
 refine s_mvv (v := vb x5) rfl ?_
 obtain ⟨x7, q10, hm⟩ := obind_some hm
 have L25 := Mem.rfl' m19
 refine wpl_cut 6 [58, 59, 60, 61, 62, 63] (fun f' w' => ∃ (M2 : Mem), m19 ≤ M2 ∧ St M2 ((bx b2 (c_api_Log a1 a1v3 a1v4 a1v5) 26) :: (bx b1 (c_api_Log a0 a0v3 a0v4 a0v5) 26) :: As) w' ∧ AllAt f' [(63, vb x7)]) ?_ ?_
 · rcases bool_tf x5 with hb4 | hb4
   · replace q10 := ifT hb4 q10
     refine wpl_yes (d := 57) rfl rfl (cb hb4) <| s_fld (n := 0) rfl underlying26 rfl rfl sizeOf23 <| wpl_yes (d := 57) rfl rfl (cb hb4) <| s_ld (i := 1) (cs := [a0v5]) S20 rfl rfl isAgg23 sizeOf23 rfl (fun _ => rfl) <| wpl_yes (d := 57) rfl rfl (cb hb4) <| s_fld (n := 0) rfl underlying26 rfl rfl sizeOf23 <| wpl_yes (d := 57) rfl rfl (cb hb4) <| s_ld (i := 0) (cs := [a1v5]) S20 rfl rfl isAgg23 sizeOf23 rfl (fun _ => rfl) <| wpl_yes (d := 57) rfl rfl (cb hb4) ?_
     obtain ⟨x8, q11, q10⟩ := obind_some q10
     replace a1h5 := a1h5.up (mt l5 l6)
     replace a0h5 := a0h5.up (mt l5 l6)
     refine s_call call49 (w_ref24_SameLeaves (a0 := a0.Wait) (a1 := a1.Wait) S20 a0h5 a1h5 q11) rfl ?_
     rintro _ w21 ⟨m21, l8, S22, rfl⟩
     clear S20
     refine s_pickT (cb hb4) rfl <| wpl_nil (nrm ?_)
     have e0 := Option.some.inj q10
     subst e0
     replace L25 := Mem.tr L25 l8
     exact ⟨outP, m21, L25, S22, ⟨rfl, trivial⟩⟩
   replace q10 := ifF hb4 q10
   refine wpl_no (d := 57) rfl rfl (cb hb4) <| wpl_no (d := 57) rfl rfl (cb hb4) <| wpl_no (d := 57) rfl rfl (cb hb4) <| wpl_no (d := 57) rfl rfl (cb hb4) <| wpl_no (d := 57) rfl rfl (cb hb4) <| s_pickF (cb hb4) rfl <| wpl_nil (nrm ?_)
   have e0 := Option.some.inj q10
   subst e0
   exact ⟨outP, m19, L25, S20, ⟨rfl, trivial⟩⟩
 rintro f17 w22 ho ⟨m22, l9, S23, ha⟩
 obtain ⟨u17, rfl⟩ := fr_of (N := 64) ho ha
 clear S20
 refine s_asv (v := vb x7) rfl <| wpl_nil <| nrm <| wpc_ret <| outRw fun we hpd => ?_
 replace S23 := St.pd S23 hpd
 obtain ⟨m23, l10, S24⟩ := St.drop S23 0
 clear S23
 replace S24 : St _ ((bx b1 (c_api_Log a0 a0v3 a0v4 a0v5) 26) :: As) _ := S24
 obtain ⟨m24, l11, S25⟩ := St.drop S24 0
 clear S24
 replace S25 : St _ (As) _ := S25
 have e0 := Option.some.inj hm
 subst e0
 replace L0 := Mem.tr L0 (mt l5 (mt l6 (mt l9 (mt l10 l11))))
 exact outR [_] rfl ⟨rfl, trivial⟩ ⟨_, L0, S25, rfl⟩

end Go.Proofs.YtemiampgjgenhaaGreat
