/- The walks of some functions, written by program. Conditions: none. -/
import Derived.Test.YtemiampgjgenhaaWkF
set_option maxHeartbeats 20000000
set_option maxRecDepth 100000
set_option linter.unusedVariables false
set_option linter.unusedSimpArgs false
namespace Go.Proofs.Ytemiampgjgenhaa
open Go Go.Gw

def m_ref08_Sums_b1 (a0 : List (UInt64 × UInt64)) (a1 : List (UInt64 × UInt64)) (s1 : Int) : Option ((Int) ⊕ ((Unit) ⊕ Bool)) :=
  if (decide (s1 < (a0.length : Int))) = true then
    obind (idx a0 s1) fun x3 =>
    obind (idx a1 s1) fun x4 =>
    if (!eqSum x3 x4) = true then
      some (.inr (.inr false))
    else
    some (.inl (w64 (s1 + 1)))
  else
  some (.inr (.inl ()))

def m_ref08_Sums (a0 : List (UInt64 × UInt64)) (a1 : List (UInt64 × UInt64)) : Option Bool :=
  if ((a0.length : Int) != (a1.length : Int)) = true then
    some false
  else
  obind (iter (m_ref08_Sums_b1 a0 a1) FUEL 0) fun x1 => match x1 with
  | .inr r => some r
  | .inl y1 =>
  some true

theorem w_ref08_Sums {m : Mem} {As : List Ow} {w : World} {a0 : List (UInt64 × UInt64)} {a0v0 : Value} {a1 : List (UInt64 × UInt64)} {a1v0 : Value} {r : Bool} (S : St m (As) w) (a0h0 : SlR m a0v0 a0) (a1h0 : SlR m a1v0 a1) (hm : m_ref08_Sums a0 a1 = some r) :
    CallsR Try.prog 19 #[a0v0, a1v0] w fun v w' => ∃ (M : Mem), m ≤ M ∧ St M (As) w' ∧ v = vb r := by
 unfold m_ref08_Sums at hm
 have L0 := Mem.rfl' m
 refine callsR (args := [a0v0, a1v0]) Try.func19 rfl Try.ntmps19 (Nat.le_of_ble_eq_true rfl) <| wpc_seq <| wpc_region <| s_asv (v := vb false) rfl <| wpl_nil <| nrm <| wpc_seq <| wpc_seq <| wpc_region <| s_mvv (v := a0v0) rfl <| s_lenR (xs := a0) rfl a0h0 Try.underlying45 <| s_mvv (v := a1v0) rfl <| s_lenR (xs := a1) rfl a1h0 Try.underlying45 <| s_neq (m := (a0.length : Int)) (n := (a1.length : Int)) rfl rfl <| wpl_nil <| nrm <| wpc_if (t := ((a0.length : Int) != (a1.length : Int))) rfl (fun hc1 => ?_) (fun hc1 => ?_)
 · replace hm := ifT hc1 hm
   refine wpc_seq <| wpc_region <| s_asv (v := vb false) rfl <| wpl_nil <| nrm <| wpc_ret <| thR <| outRw fun we hpd => ?_
   replace S := St.pd S hpd
   have e0 := Option.some.inj hm
   subst e0
   exact outR [_] rfl ⟨rfl, trivial⟩ ⟨_, L0, S, rfl⟩
 replace hm := ifF hc1 hm
 refine wpc_skip <| nrm <| wpc_seq <| wpc_seq <| wpc_region <| s_asv (v := vI 0) rfl <| wpl_nil <| nrm ?_
 obtain ⟨x1, q1, hm⟩ := obind_some hm
 have L1 := Mem.rfl' m
 refine wpc_join [4, 5, 11, 12, 13, 14, 15, 16, 17, 18, 19, 20, 21, 22, 23, 24, 25] (fun f' w' => ∃ (M1 : Mem) (y1 : Unit), x1 = .inl y1 ∧ m ≤ M1 ∧ St M1 (As) w' ∧ AllAt f' []) ?_ ?_
 · refine wpc_block <| wpc_rounds [4, 5, 11, 12, 13, 14, 15, 16, 17, 18, 19, 20, 21, 22, 23, 24, 25] (fun n1 f' w' => ∃ (s1 : Int) (m11 : Mem), iter (m_ref08_Sums_b1 a0 a1) n1 s1 = some x1 ∧ m ≤ m11 ∧ St m11 (As) w' ∧ AllAt f' [(5, vI s1)]) FUEL ⟨0, m, q1, L1, S, ⟨rfl, trivial⟩⟩ ?_
   rintro n1 f1 w1 ho ⟨s1, m1, q2, L3, S1, ha⟩
   obtain ⟨u1, rfl⟩ := fr_of (N := 26) ho ha
   clear ho ha
   replace a0h0 := a0h0.up L3
   replace a1h0 := a1h0.up L3
   have L2 := Mem.rfl' m1
   clear S
   cases n1 with
   | zero => exact (iter_zero q2).elim
   | succ n1 =>
    obtain ⟨y2, q4, q3⟩ := iter_succ q2
    unfold m_ref08_Sums_b1 at q4
    refine wpc_seq <| wpc_seq <| wpc_region <| s_mvv (v := vI s1) rfl <| s_mvv (v := a0v0) rfl <| s_lenR (xs := a0) rfl a0h0 Try.underlying45 <| s_lss (m := s1) (n := (a0.length : Int)) rfl rfl <| wpl_nil <| nrm <| wpc_if (t := (decide (s1 < (a0.length : Int)))) rfl (fun hc2 => ?_) (fun hc2 => ?_)
    · replace q4 := ifT hc2 q4
      refine wpc_skip <| nrm <| wpc_seq <| wpc_block <| wpc_seq ?_
      obtain ⟨x3, q6, q4⟩ := obind_some q4
      obtain ⟨x4, q7, q4⟩ := obind_some q4
      have HM : MonoAll [(17, fun (M : Mem) (v : Value) => v = a0v0), (18, fun (M : Mem) (v : Value) => v = vI s1), (19, fun (M : Mem) (v : Value) => ∃ (p1 : Value), v = p1 ∧ PtC M p1 [vU x3.1, vU x3.2]), (20, fun (M : Mem) (v : Value) => v = .agg #[vU x3.1, vU x3.2]), (21, fun (M : Mem) (v : Value) => v = a1v0), (22, fun (M : Mem) (v : Value) => v = vI s1), (23, fun (M : Mem) (v : Value) => ∃ (p2 : Value), v = p2 ∧ PtC M p2 [vU x4.1, vU x4.2]), (24, fun (M : Mem) (v : Value) => v = .agg #[vU x4.1, vU x4.2])] := ⟨(fun _ _ _ _ h => h), (fun _ _ _ _ h => h), (fun _ _ _ l ⟨p1, e, h1⟩ => ⟨p1, e, h1.up l⟩), (fun _ _ _ _ h => h), (fun _ _ _ _ h => h), (fun _ _ _ _ h => h), (fun _ _ _ l ⟨p2, e, h3⟩ => ⟨p2, e, h3.up l⟩), (fun _ _ _ _ h => h), trivial⟩
      refine wpc_flowG HM 8 mixed rfl rfl rfl [17, 18, 19, 20, 21, 22, 23, 24] (fun L f M w => St M (As) w) (St.drew S1 _) ?_ ?_
      · refine ⟨?_, ?_, ?_, ?_, ?_, ?_, ?_, ?_, trivial⟩
        · intro L f2 w2 hL hd hc ⟨m2, L4, S2, K, hO⟩
          obtain ⟨u2, rfl⟩ := fr_of (N := 26) (L := []) hO trivial
          exact s_mvv (v := a0v0) rfl <| oS HM L4 S2 rfl K rfl rfl rfl outP
        · intro L f3 w3 hL hd hc ⟨m3, L6, S3, K, hO⟩
          obtain ⟨u3, rfl⟩ := fr_of (N := 26) (L := []) hO trivial
          exact s_mvv (v := vI s1) rfl <| oS HM L6 S3 rfl K rfl rfl rfl outP
        · intro L f4 w4 hL hd hc ⟨m4, L8, S4, K, hO⟩
          obtain ⟨u4, rfl⟩ := fr_of (N := 26) (L := [(17, _), (18, _)]) hO ⟨K 0 (dep hd rfl), K 1 (dep hd rfl), trivial⟩
          replace a0h0 := a0h0.up L8
          refine s_idx (q := x3) rfl rfl a0h0 q6 Try.underlying45 Try.sizeOf31 fun p1 c1 h1 r1 => ?_
          obtain rfl := rep_arr2_UInt64 r1
          exact oS HM L8 S4 rfl K rfl rfl ⟨p1, rfl, h1⟩ outP
        · intro L f5 w5 hL hd hc ⟨m5, L10, S5, K, hO⟩
          obtain ⟨v1, e3, h2⟩ := K 2 (dep hd rfl)
          obtain ⟨u5, rfl⟩ := fr_of (N := 26) (L := [(19, _)]) hO ⟨e3, trivial⟩
          exact s_ldM (cs := [vU x3.1, vU x3.2]) S5 rfl h2 rfl Try.isAgg31 Try.sizeOf31 (fun h => by cases h) <| oS HM L10 S5 rfl K rfl rfl rfl outP
        · intro L f6 w6 hL hd hc ⟨m6, L12, S6, K, hO⟩
          obtain ⟨u6, rfl⟩ := fr_of (N := 26) (L := []) hO trivial
          exact s_mvv (v := a1v0) rfl <| oS HM L12 S6 rfl K rfl rfl rfl outP
        · intro L f7 w7 hL hd hc ⟨m7, L14, S7, K, hO⟩
          obtain ⟨u7, rfl⟩ := fr_of (N := 26) (L := []) hO trivial
          exact s_mvv (v := vI s1) rfl <| oS HM L14 S7 rfl K rfl rfl rfl outP
        · intro L f8 w8 hL hd hc ⟨m8, L16, S8, K, hO⟩
          obtain ⟨u8, rfl⟩ := fr_of (N := 26) (L := [(21, _), (22, _)]) hO ⟨K 4 (dep hd rfl), K 5 (dep hd rfl), trivial⟩
          replace a1h0 := a1h0.up L16
          refine s_idx (q := x4) rfl rfl a1h0 q7 Try.underlying45 Try.sizeOf31 fun p2 c2 h3 r2 => ?_
          obtain rfl := rep_arr2_UInt64 r2
          exact oS HM L16 S8 rfl K rfl rfl ⟨p2, rfl, h3⟩ outP
        · intro L f9 w9 hL hd hc ⟨m9, L18, S9, K, hO⟩
          obtain ⟨v2, e6, h4⟩ := K 6 (dep hd rfl)
          obtain ⟨u9, rfl⟩ := fr_of (N := 26) (L := [(23, _)]) hO ⟨e6, trivial⟩
          exact s_ldM (cs := [vU x4.1, vU x4.2]) S9 rfl h4 rfl Try.isAgg31 Try.sizeOf31 (fun h => by cases h) <| oS HM L18 S9 rfl K rfl rfl rfl outP
      intro L f10 w10 hall ⟨m10, L20, S10, K, hO⟩
      have d3 : L 3 = true := hall 3 (by decide)
      have d7 : L 7 = true := hall 7 (by decide)
      obtain ⟨u10, rfl⟩ := fr_of (N := 26) (L := [(20, _), (24, _)]) hO ⟨K 3 d3, K 7 d7, trivial⟩
      replace S10 : St _ (As) _ := S10
      replace L2 := Mem.tr L2 L20
      clear S1
      refine s_neqSum (p := x3) (q := x4) rfl rfl Try.underlying31 Try.underlying22 Try.sizeOf22 Try.isAgg22 Try.eqGuardType31 <| wpl_nil <| nrm <| wpc_if (t := (!eqSum x3 x4)) rfl (fun hc3 => ?_) (fun hc3 => ?_)
      · replace q4 := ifT hc3 q4
        refine wpc_seq <| wpc_region <| s_asv (v := vb false) rfl <| wpl_nil <| nrm <| wpc_ret <| blR <| thR <| thR <| blR <| thR <| outRw fun we hpd => ?_
        replace S10 := St.pd S10 hpd
        cases q4
        rcases q3 with ⟨sn, e, _⟩ | e
        · cases e
        cases e
        dsimp only at hm
        have e0 := Option.some.inj hm
        subst e0
        exact outR [_] rfl ⟨rfl, trivial⟩ ⟨_, (Mem.tr L0 (Mem.tr L3 L2)), S10, rfl⟩
      replace q4 := ifF hc3 q4
      refine wpc_skip <| nrmB <| nrm <| wpc_region <| s_mvv (v := vI s1) rfl <| s_addI (m := s1) (n := 1) rfl rfl <| s_asv (v := vI (w64 (s1 + 1))) rfl <| wpl_nil <| nrm ?_
      have e0 := Option.some.inj q4
      subst e0
      rcases q3 with ⟨sn, e, q3'⟩ | e
      · cases e
        exact ⟨outP, _, Nat.lt_succ_self _, ⟨_, m10, q3', Mem.tr L3 L2, S10, ⟨rfl, trivial⟩⟩⟩
      · cases e
    replace q4 := ifF hc2 q4
    refine wpc_exit <| thE <| thE <| exB <| nrm ?_
    have e0 := Option.some.inj q4
    subst e0
    rcases q3 with ⟨sn, e, _⟩ | e
    · cases e
    · cases e
      exact ⟨outP, m1, _, rfl, Mem.tr L3 L2, S1, trivial⟩
 rintro f11 w11 ho ⟨m12, y1, rfl, l1, S11, ha⟩
 obtain ⟨u11, rfl⟩ := fr_of (N := 26) ho ha
 clear ho ha
 dsimp only at hm
 replace L0 := Mem.tr L0 l1
 clear S
 refine wpc_seq <| wpc_region <| s_asv (v := vb true) rfl <| wpl_nil <| nrm <| wpc_ret <| outRw fun we hpd => ?_
 replace S11 := St.pd S11 hpd
 have e0 := Option.some.inj hm
 subst e0
 exact outR [_] rfl ⟨rfl, trivial⟩ ⟨_, L0, S11, rfl⟩

def m_law24_LogdFaces_b2 (a0 : g_api_Log) (x6 : (List (UInt64 × UInt64)) × Int) (x7 : (List (UInt64 × UInt64)) × Int) (s1 : Int × Int × Int) : Option ((Int × Int × Int) ⊕ ((Int × Int) ⊕ Bool)) :=
  if (decide (s1.2.2 < (x6.1.length : Int))) = true then
    obind (
      if (decide (s1.2.1 < (a0.Hide.length : Int))) = true then
        obind (idx a0.Hide s1.2.1) fun x12 =>
        some (x12 == s1.2.2)
      else
      some false
    ) fun x11 =>
    if x11 = true then
      obind (idx a0.L s1.2.2) fun x13 =>
      obind (app 1 ([0] : List UInt8) x13.Body) fun x14 =>
      obind (idx x7.1 s1.2.2) fun x15 =>
      obind (m_merkle_Leaf x14) fun x16 =>
      if (!eqSum x15 x16) = true then
        some (.inr (.inr false))
      else
      some (.inl ((minI s1.1 s1.2.2), (w64 (s1.2.1 + 1)), (w64 (s1.2.2 + 1))))
    else
    obind (idx x6.1 s1.2.2) fun x17 =>
    obind (idx x7.1 s1.2.2) fun x18 =>
    if (!eqSum x17 x18) = true then
      some (.inr (.inr false))
    else
    some (.inl (s1.1, s1.2.1, (w64 (s1.2.2 + 1))))
  else
  some (.inr (.inl (s1.1, s1.2.1)))

def m_law24_LogdFaces (a0 : g_api_Log) (a1 : Int) (a2 : Int) : Option Bool :=
  obind (m_law24_live ) fun x1 =>
  if (!x1) = true then
    some false
  else
  obind (m_law24_few a0 ([] : List UInt8)) fun x2 =>
  obind (
    if (!x2) = true then
      some true
    else
    obind (m_logd_Check a0) fun x5 =>
    some (x5 != 0)
  ) fun x4 =>
  if ((x4 || (decide (a2 < 0))) || (decide (a2 > 1099511627776))) = true then
    some true
  else
  obind (m_logd_Leaves a0 0) fun x6 =>
  obind (m_logd_Leaves a0 1) fun x7 =>
  if (((x6.2 != 0) || (x7.2 != 0)) || ((x6.1.length : Int) != (x7.1.length : Int))) = true then
    some false
  else
  obind (iter (m_law24_LogdFaces_b2 a0 x6 x7) FUEL ((x6.1.length : Int), 0, 0)) fun x8 => match x8 with
  | .inr r => some r
  | .inl y1 =>
  if (w64 (y1.1 + 1)) ≠ 0 then
    bnd ((Int.tmod (and64 a1 65535) (w64 (y1.1 + 1)))) fun x19 =>
    obind (m_logd_Head a0 0 x19 a2) fun x20 =>
    obind (m_logd_Head a0 1 x19 a2) fun x21 =>
    obind (m_logd_Hide a0) fun x22 =>
    if (((((x20.2 != 0) || (x21.2 != 0)) || (!eq_api_Head x20.1 x21.1)) || (y1.2 != (a0.Hide.length : Int))) || ((x22.2 == 0) != (decide ((a0.L.length : Int) > 0)))) = true then
      some false
    else
    obind (m_logd_Leaves x22.1 0) fun x23 =>
    obind (
      if (x22.2 != 0) = true then
        some true
      else
      if (x23.2 == 0) = true then
        obind (m_ref08_Sums x6.1 x23.1) fun x25 =>
        if x25 = true then
          obind (m_logd_Check x22.1) fun x26 =>
          some (x26 == 0)
        else
        some false
      else
      if false = true then
        obind (m_logd_Check x22.1) fun x27 =>
        some (x27 == 0)
      else
      some false
    ) fun x24 =>
    some x24
  else none

theorem w_law24_LogdFaces {m : Mem} {As : List Ow} {w : World} {a0 : g_api_Log} {a0v3 : Value} {a0v4 : Value} {a0v5 : Value} {a1 : Int} {a2 : Int} {r : Bool} (S : St m (As) w) (a0h3 : SlR m a0v3 a0.L) (a0h4 : SlR m a0v4 a0.Hide) (a0h5 : SlR m a0v5 a0.Wait) (hm : m_law24_LogdFaces a0 a1 a2 = some r) :
    CallsR Try.prog 5 #[.agg #[vI a0.Id, vU a0.Key, vI a0.Delay, a0v3, a0v4, a0v5], vI a1, vI a2] w fun v w' => ∃ (M : Mem), m ≤ M ∧ St M (As) w' ∧ v = vb r := by
 unfold m_law24_LogdFaces at hm
 have L0 := Mem.rfl' m
 refine callsR (args := [.agg #[vI a0.Id, vU a0.Key, vI a0.Delay, a0v3, a0v4, a0v5], vI a1, vI a2]) Try.func5 rfl Try.ntmps5 (Nat.le_of_ble_eq_true rfl) <| wpc_seq <| wpc_region <| s_box S rfl fun b1 w1 S1 => ?_
 replace S1 : St _ ((bx b1 [vI a0.Id, vU a0.Key, vI a0.Delay, a0v3, a0v4, a0v5] 26) :: As) _ := S1
 clear S
 refine s_asv (v := vb false) rfl <| wpl_nil <| nrm <| wpc_seq <| wpc_seq <| wpc_region ?_
 obtain ⟨x1, q1, hm⟩ := obind_some hm
 refine s_call Try.call7 (w_law24_live  S1  q1) rfl ?_
 rintro _ w2 ⟨m1, l1, S2, rfl⟩
 replace a0h3 := a0h3.up l1
 replace a0h4 := a0h4.up l1
 replace a0h5 := a0h5.up l1
 replace L0 := Mem.tr L0 l1
 clear S1
 refine s_not rfl <| wpl_nil <| nrm <| wpc_if (t := (!x1)) rfl (fun hc1 => ?_) (fun hc1 => ?_)
 · replace hm := ifT hc1 hm
   refine wpc_seq <| wpc_region <| s_asv (v := vb false) rfl <| wpl_nil <| nrm <| wpc_ret <| thR <| outRw fun we hpd => ?_
   replace S2 := St.pd S2 hpd
   obtain ⟨m2, l2, S3⟩ := St.drop S2 0
   replace L0 := Mem.tr L0 l2
   clear S2
   replace S3 : St _ (As) _ := S3
   have e0 := Option.some.inj hm
   subst e0
   exact outR [_] rfl ⟨rfl, trivial⟩ ⟨_, L0, S3, rfl⟩
 replace hm := ifF hc1 hm
 refine wpc_skip <| nrm <| wpc_seq <| wpc_seq <| wpc_region <| s_ld (i := 0) (cs := [vI a0.Id, vU a0.Key, vI a0.Delay, a0v3, a0v4, a0v5]) S2 rfl rfl Try.isAgg26 Try.sizeOf26 rfl (fun h => by cases h) ?_
 obtain ⟨x2, q2, hm⟩ := obind_some hm
 refine s_call Try.call8 (w_law24_few (a0 := a0) (a1 := ([] : List UInt8)) S2 a0h3 a0h4 a0h5 (SlR.nil (a := none) (c := 0)) q2) rfl ?_
 rintro _ w3 ⟨m3, l3, S4, rfl⟩
 replace a0h3 := a0h3.up l3
 replace a0h4 := a0h4.up l3
 replace a0h5 := a0h5.up l3
 replace L0 := Mem.tr L0 l3
 clear S2
 refine s_not rfl <| s_mvv (v := vb (!x2)) rfl ?_
 obtain ⟨x4, q4, hm⟩ := obind_some hm
 have L1 := Mem.rfl' m3
 refine wpl_cut 4 [30, 31, 32, 33] (fun f' w' => ∃ (M1 : Mem), m3 ≤ M1 ∧ St M1 ((bx b1 [vI a0.Id, vU a0.Key, vI a0.Delay, a0v3, a0v4, a0v5] 26) :: As) w' ∧ AllAt f' [(33, vb x4)]) ?_ ?_
 · rcases bool_tf (!x2) with hb1 | hb1
   · replace q4 := ifT hb1 q4
     refine wpl_no (d := 29) rfl rfl (congrArg Value.bool hb1) <| wpl_no (d := 29) rfl rfl (congrArg Value.bool hb1) <| wpl_no (d := 29) rfl rfl (congrArg Value.bool hb1) <| s_pickT (congrArg Value.bool hb1) rfl <| wpl_nil (nrm ?_)
     have e0 := Option.some.inj q4
     subst e0
     exact ⟨outP, m3, L1, S4, ⟨rfl, trivial⟩⟩
   replace q4 := ifF hb1 q4
   refine wpl_yes (d := 29) rfl rfl (congrArg Value.bool hb1) <| s_ld (i := 0) (cs := [vI a0.Id, vU a0.Key, vI a0.Delay, a0v3, a0v4, a0v5]) S4 rfl rfl Try.isAgg26 Try.sizeOf26 rfl (fun h => by cases h) <| wpl_yes (d := 29) rfl rfl (congrArg Value.bool hb1) ?_
   obtain ⟨x5, q5, q4⟩ := obind_some q4
   refine s_call Try.call16 (w_logd_Check (a0 := a0) S4 a0h3 a0h4 a0h5 q5) rfl ?_
   rintro _ w5 ⟨m5, l5, S6, rfl⟩
   replace L1 := Mem.tr L1 l5
   clear S4
   refine wpl_yes (d := 29) rfl rfl (congrArg Value.bool hb1) <| s_neq (m := x5) (n := 0) rfl rfl <| s_pickF (congrArg Value.bool hb1) rfl <| wpl_nil (nrm ?_)
   have e0 := Option.some.inj q4
   subst e0
   exact ⟨outP, m5, L1, S6, ⟨rfl, trivial⟩⟩
 rintro f1 w6 ho ⟨m6, l6, S7, ha⟩
 obtain ⟨u1, rfl⟩ := fr_of (N := 188) ho ha
 replace a0h3 := a0h3.up l6
 replace a0h4 := a0h4.up l6
 replace a0h5 := a0h5.up l6
 replace L0 := Mem.tr L0 l6
 clear S4
 refine s_mvv (v := vb x4) rfl <| wpl_cut 3 [35, 36, 37] (fun f' w' => w' = w6 ∧ AllAt f' [(37, vb (x4 || (decide (a2 < 0))))]) ?_ ?_
 · rcases bool_tf x4 with hb2 | hb2
   · exact wpl_no (d := 34) rfl rfl (congrArg Value.bool hb2) <| wpl_no (d := 34) rfl rfl (congrArg Value.bool hb2) <| s_pickT (congrArg Value.bool hb2) rfl <| wpl_nil (nrm ⟨outP, rfl, congrArg Value.bool (or_t hb2), trivial⟩)
   · exact wpl_yes (d := 34) rfl rfl (congrArg Value.bool hb2) <| s_mvv (v := vI a2) rfl <| wpl_yes (d := 34) rfl rfl (congrArg Value.bool hb2) <| s_lss (m := a2) (n := 0) rfl rfl <| s_pickF (congrArg Value.bool hb2) rfl <| wpl_nil (nrm ⟨outP, rfl, congrArg Value.bool (or_f hb2), trivial⟩)
 rintro f2 w7 ho ⟨h1, ha⟩
 subst h1
 obtain ⟨u2, rfl⟩ := fr_of (N := 188) ho ha
 refine s_mvv (v := vb (x4 || (decide (a2 < 0)))) rfl <| wpl_cut 3 [39, 40, 41] (fun f' w' => w' = w7 ∧ AllAt f' [(41, vb ((x4 || (decide (a2 < 0))) || (decide (a2 > 1099511627776))))]) ?_ ?_
 · rcases bool_tf (x4 || (decide (a2 < 0))) with hb3 | hb3
   · exact wpl_no (d := 38) rfl rfl (congrArg Value.bool hb3) <| wpl_no (d := 38) rfl rfl (congrArg Value.bool hb3) <| s_pickT (congrArg Value.bool hb3) rfl <| wpl_nil (nrm ⟨outP, rfl, congrArg Value.bool (or_t hb3), trivial⟩)
   · exact wpl_yes (d := 38) rfl rfl (congrArg Value.bool hb3) <| s_mvv (v := vI a2) rfl <| wpl_yes (d := 38) rfl rfl (congrArg Value.bool hb3) <| s_gtr (m := a2) (n := 1099511627776) rfl rfl <| s_pickF (congrArg Value.bool hb3) rfl <| wpl_nil (nrm ⟨outP, rfl, congrArg Value.bool (or_f hb3), trivial⟩)
 rintro f3 w8 ho ⟨h2, ha⟩
 subst h2
 obtain ⟨u3, rfl⟩ := fr_of (N := 188) ho ha
 refine wpl_nil <| nrm <| wpc_if (t := ((x4 || (decide (a2 < 0))) || (decide (a2 > 1099511627776)))) rfl (fun hc2 => ?_) (fun hc2 => ?_)
 · replace hm := ifT hc2 hm
   refine wpc_seq <| wpc_region <| s_asv (v := vb true) rfl <| wpl_nil <| nrm <| wpc_ret <| thR <| outRw fun we hpd => ?_
   replace S7 := St.pd S7 hpd
   obtain ⟨m7, l7, S8⟩ := St.drop S7 0
   replace L0 := Mem.tr L0 l7
   clear S7
   replace S8 : St _ (As) _ := S8
   have e0 := Option.some.inj hm
   subst e0
   exact outR [_] rfl ⟨rfl, trivial⟩ ⟨_, L0, S8, rfl⟩
 replace hm := ifF hc2 hm
 refine wpc_skip <| nrm <| wpc_seq <| wpc_region <| s_ld (i := 0) (cs := [vI a0.Id, vU a0.Key, vI a0.Delay, a0v3, a0v4, a0v5]) S7 rfl rfl Try.isAgg26 Try.sizeOf26 rfl (fun h => by cases h) ?_
 obtain ⟨x6, q6, hm⟩ := obind_some hm
 refine s_call Try.call12 (w_logd_Leaves (a0 := a0) (a1 := 0) S7 a0h3 a0h4 a0h5 q6) rfl ?_
 rintro _ w9 ⟨m8, l8, v1, c1, S9, rfl, h3⟩
 replace a0h3 := a0h3.up l8
 replace a0h4 := a0h4.up l8
 replace a0h5 := a0h5.up l8
 replace L0 := Mem.tr L0 l8
 clear S7
 refine s_mvv (v := .tuple #[v1, vI x6.2]) rfl <| s_ext (i := 0) rfl rfl <| s_ext (i := 1) rfl rfl <| s_asv (v := v1) rfl <| s_asv (v := vI x6.2) rfl <| wpl_nil <| nrm <| wpc_seq <| wpc_region <| s_ld (i := 1) (cs := [vI a0.Id, vU a0.Key, vI a0.Delay, a0v3, a0v4, a0v5]) S9 rfl rfl Try.isAgg26 Try.sizeOf26 rfl (fun h => by cases h) ?_
 obtain ⟨x7, q7, hm⟩ := obind_some hm
 refine s_call Try.call12 (w_logd_Leaves (a0 := a0) (a1 := 1) S9 a0h3 a0h4 a0h5 q7) rfl ?_
 rintro _ w10 ⟨m9, l9, v2, c2, S10, rfl, h4⟩
 replace h3 := RepL.up l9 h3
 replace a0h3 := a0h3.up l9
 replace a0h4 := a0h4.up l9
 replace a0h5 := a0h5.up l9
 replace L0 := Mem.tr L0 l9
 clear S9
 refine s_mvv (v := .tuple #[v2, vI x7.2]) rfl <| s_ext (i := 0) rfl rfl <| s_ext (i := 1) rfl rfl <| s_asv (v := v2) rfl <| s_asv (v := vI x7.2) rfl <| wpl_nil <| nrm <| wpc_seq <| wpc_seq <| wpc_region <| s_mvv (v := vI x6.2) rfl <| s_neq (m := x6.2) (n := 0) rfl rfl <| s_mvv (v := vb (x6.2 != 0)) rfl <| wpl_cut 3 [55, 56, 57] (fun f' w' => w' = w10 ∧ AllAt f' [(57, vb ((x6.2 != 0) || (x7.2 != 0)))]) ?_ ?_
 · rcases bool_tf (x6.2 != 0) with hb4 | hb4
   · exact wpl_no (d := 54) rfl rfl (congrArg Value.bool hb4) <| wpl_no (d := 54) rfl rfl (congrArg Value.bool hb4) <| s_pickT (congrArg Value.bool hb4) rfl <| wpl_nil (nrm ⟨outP, rfl, congrArg Value.bool (or_t hb4), trivial⟩)
   · exact wpl_yes (d := 54) rfl rfl (congrArg Value.bool hb4) <| s_mvv (v := vI x7.2) rfl <| wpl_yes (d := 54) rfl rfl (congrArg Value.bool hb4) <| s_neq (m := x7.2) (n := 0) rfl rfl <| s_pickF (congrArg Value.bool hb4) rfl <| wpl_nil (nrm ⟨outP, rfl, congrArg Value.bool (or_f hb4), trivial⟩)
 rintro f4 w11 ho ⟨h5, ha⟩
 subst h5
 obtain ⟨u4, rfl⟩ := fr_of (N := 188) ho ha
 refine s_mvv (v := vb ((x6.2 != 0) || (x7.2 != 0))) rfl <| wpl_cut 6 [59, 60, 61, 62, 63, 64] (fun f' w' => w' = w11 ∧ AllAt f' [(64, vb (((x6.2 != 0) || (x7.2 != 0)) || ((x6.1.length : Int) != (x7.1.length : Int))))]) ?_ ?_
 · rcases bool_tf ((x6.2 != 0) || (x7.2 != 0)) with hb5 | hb5
   · exact wpl_no (d := 58) rfl rfl (congrArg Value.bool hb5) <| wpl_no (d := 58) rfl rfl (congrArg Value.bool hb5) <| wpl_no (d := 58) rfl rfl (congrArg Value.bool hb5) <| wpl_no (d := 58) rfl rfl (congrArg Value.bool hb5) <| wpl_no (d := 58) rfl rfl (congrArg Value.bool hb5) <| s_pickT (congrArg Value.bool hb5) rfl <| wpl_nil (nrm ⟨outP, rfl, congrArg Value.bool (or_t hb5), trivial⟩)
   · exact wpl_yes (d := 58) rfl rfl (congrArg Value.bool hb5) <| s_mvv (v := v1) rfl <| wpl_yes (d := 58) rfl rfl (congrArg Value.bool hb5) <| s_lenO (i := 1) S10 rfl rfl Try.underlying45 <| wpl_yes (d := 58) rfl rfl (congrArg Value.bool hb5) <| s_mvv (v := v2) rfl <| wpl_yes (d := 58) rfl rfl (congrArg Value.bool hb5) <| s_lenO (i := 0) S10 rfl rfl Try.underlying45 <| wpl_yes (d := 58) rfl rfl (congrArg Value.bool hb5) <| s_neq (m := (x6.1.length : Int)) (n := (x7.1.length : Int)) rfl rfl <| s_pickF (congrArg Value.bool hb5) rfl <| wpl_nil (nrm ⟨outP, rfl, congrArg Value.bool (or_f hb5), trivial⟩)
 rintro f5 w12 ho ⟨h6, ha⟩
 subst h6
 obtain ⟨u5, rfl⟩ := fr_of (N := 188) ho ha
 refine wpl_nil <| nrm <| wpc_if (t := (((x6.2 != 0) || (x7.2 != 0)) || ((x6.1.length : Int) != (x7.1.length : Int)))) rfl (fun hc3 => ?_) (fun hc3 => ?_)
 · replace hm := ifT hc3 hm
   refine wpc_seq <| wpc_region <| s_asv (v := vb false) rfl <| wpl_nil <| nrm <| wpc_ret <| thR <| outRw fun we hpd => ?_
   replace S10 := St.pd S10 hpd
   obtain ⟨m10, l10, S11⟩ := St.drop S10 0
   replace a0h3 := a0h3.up l10
   replace a0h4 := a0h4.up l10
   replace a0h5 := a0h5.up l10
   replace L0 := Mem.tr L0 l10
   clear S10
   replace S11 : St _ ((row 2 v1 c1 x6.1.length) :: (bx b1 [vI a0.Id, vU a0.Key, vI a0.Delay, a0v3, a0v4, a0v5] 26) :: As) _ := S11
   obtain ⟨m11, l11, S12⟩ := St.drop S11 0
   replace L0 := Mem.tr L0 l11
   clear S11
   replace S12 : St _ ((bx b1 [vI a0.Id, vU a0.Key, vI a0.Delay, a0v3, a0v4, a0v5] 26) :: As) _ := S12
   obtain ⟨m12, l12, S13⟩ := St.drop S12 0
   replace L0 := Mem.tr L0 l12
   clear S12
   replace S13 : St _ (As) _ := S13
   have e0 := Option.some.inj hm
   subst e0
   exact outR [_] rfl ⟨rfl, trivial⟩ ⟨_, L0, S13, rfl⟩
 replace hm := ifF hc3 hm
 refine wpc_skip <| nrm <| wpc_seq <| wpc_region <| s_mvv (v := v1) rfl <| s_lenO (i := 1) S10 rfl rfl Try.underlying45 <| s_asv (v := vI (x6.1.length : Int)) rfl <| wpl_nil <| nrm <| wpc_seq <| wpc_region <| s_asv (v := vI 0) rfl <| wpl_nil <| nrm <| wpc_seq <| wpc_seq <| wpc_region <| s_asv (v := vI 0) rfl <| wpl_nil <| nrm ?_
 obtain ⟨x8, q8, hm⟩ := obind_some hm
 have L2 := Mem.rfl' m9
 refine wpc_join [6, 11, 12, 13, 14, 67, 68, 69, 70, 71, 72, 73, 74, 75, 76, 77, 78, 79, 80, 81, 82, 83, 84, 85, 86, 87, 88, 89, 90, 91, 92, 93, 94, 95, 96, 97, 98, 99, 100, 101, 102, 103, 104, 105, 106, 107, 108, 109, 110, 111, 112, 113, 114, 115] (fun f' w' => ∃ (M2 : Mem) (y1 : Int × Int), x8 = .inl y1 ∧ m9 ≤ M2 ∧ St M2 ((row 2 v1 c1 x6.1.length) :: (bx b1 [vI a0.Id, vU a0.Key, vI a0.Delay, a0v3, a0v4, a0v5] 26) :: As) w' ∧ AllAt f' [(11, vI y1.1), (12, vI y1.2)]) ?_ ?_
 · refine wpc_block <| wpc_rounds [6, 11, 12, 13, 14, 67, 68, 69, 70, 71, 72, 73, 74, 75, 76, 77, 78, 79, 80, 81, 82, 83, 84, 85, 86, 87, 88, 89, 90, 91, 92, 93, 94, 95, 96, 97, 98, 99, 100, 101, 102, 103, 104, 105, 106, 107, 108, 109, 110, 111, 112, 113, 114, 115] (fun n1 f' w' => ∃ (s1 : Int × Int × Int) (m40 : Mem), iter (m_law24_LogdFaces_b2 a0 x6 x7) n1 s1 = some x8 ∧ m9 ≤ m40 ∧ St m40 ((row 2 v2 c2 x7.1.length) :: (row 2 v1 c1 x6.1.length) :: (bx b1 [vI a0.Id, vU a0.Key, vI a0.Delay, a0v3, a0v4, a0v5] 26) :: As) w' ∧ AllAt f' [(11, vI s1.1), (12, vI s1.2.1), (13, vI s1.2.2)]) FUEL ⟨((x6.1.length : Int), 0, 0), m9, q8, L2, S10, ⟨rfl, rfl, rfl, trivial⟩⟩ ?_
   rintro n1 f6 w13 ho ⟨s1, m13, q9, L4, S14, ha⟩
   obtain ⟨u6, rfl⟩ := fr_of (N := 188) ho ha
   clear ho ha
   replace h3 := RepL.up L4 h3
   replace h4 := RepL.up L4 h4
   replace a0h3 := a0h3.up L4
   replace a0h4 := a0h4.up L4
   replace a0h5 := a0h5.up L4
   have L3 := Mem.rfl' m13
   clear S10
   cases n1 with
   | zero => exact (iter_zero q9).elim
   | succ n1 =>
    obtain ⟨y2, q11, q10⟩ := iter_succ q9
    unfold m_law24_LogdFaces_b2 at q11
    refine wpc_seq <| wpc_seq <| wpc_region <| s_mvv (v := vI s1.2.2) rfl <| s_mvv (v := v1) rfl <| s_lenO (i := 1) S14 rfl rfl Try.underlying45 <| s_lss (m := s1.2.2) (n := (x6.1.length : Int)) rfl rfl <| wpl_nil <| nrm <| wpc_if (t := (decide (s1.2.2 < (x6.1.length : Int)))) rfl (fun hc4 => ?_) (fun hc4 => ?_)
    · replace q11 := ifT hc4 q11
      refine wpc_skip <| nrm <| wpc_seq <| wpc_block <| wpc_seq <| wpc_seq <| wpc_region <| s_mvv (v := vI s1.2.1) rfl <| s_fld (n := 0) rfl Try.underlying26 rfl rfl Try.sizeOf24 <| s_ld (i := 2) (cs := [a0v4]) S14 rfl rfl Try.isAgg24 Try.sizeOf24 rfl (fun _ => rfl) <| s_lenR (xs := a0.Hide) rfl a0h4 Try.underlying24 <| s_lss (m := s1.2.1) (n := (a0.Hide.length : Int)) rfl rfl <| s_mvv (v := vb (decide (s1.2.1 < (a0.Hide.length : Int)))) rfl ?_
      obtain ⟨x11, q14, q11⟩ := obind_some q11
      have L5 := Mem.rfl' m13
      refine wpl_cut 8 [79, 80, 81, 82, 83, 84, 85, 86] (fun f' w' => ∃ (M3 : Mem), m13 ≤ M3 ∧ St M3 ((row 2 v2 c2 x7.1.length) :: (row 2 v1 c1 x6.1.length) :: (bx b1 [vI a0.Id, vU a0.Key, vI a0.Delay, a0v3, a0v4, a0v5] 26) :: As) w' ∧ AllAt f' [(86, vb x11)]) ?_ ?_
      · rcases bool_tf (decide (s1.2.1 < (a0.Hide.length : Int))) with hb6 | hb6
        · replace q14 := ifT hb6 q14
          refine wpl_yes (d := 78) rfl rfl (congrArg Value.bool hb6) <| s_fld (n := 0) rfl Try.underlying26 rfl rfl Try.sizeOf24 <| wpl_yes (d := 78) rfl rfl (congrArg Value.bool hb6) <| s_ld (i := 2) (cs := [a0v4]) S14 rfl rfl Try.isAgg24 Try.sizeOf24 rfl (fun _ => rfl) <| wpl_yes (d := 78) rfl rfl (congrArg Value.bool hb6) <| s_mvv (v := vI s1.2.1) rfl <| wpl_yes (d := 78) rfl rfl (congrArg Value.bool hb6) ?_
          obtain ⟨x12, q15, q14⟩ := obind_some q14
          refine s_idx (q := x12) rfl rfl a0h4 q15 Try.underlying24 Try.sizeOf3 fun p2 c4 h8 r4 => ?_
          obtain rfl : c4 = [vI x12] := r4
          refine wpl_yes (d := 78) rfl rfl (congrArg Value.bool hb6) <| s_ldM (cs := [vI x12]) S14 rfl h8 rfl Try.isAgg3 Try.sizeOf3 (fun _ => rfl) <| wpl_yes (d := 78) rfl rfl (congrArg Value.bool hb6) <| s_mvv (v := vI s1.2.2) rfl <| wpl_yes (d := 78) rfl rfl (congrArg Value.bool hb6) <| s_eql (m := x12) (n := s1.2.2) rfl rfl <| s_pickT (congrArg Value.bool hb6) rfl <| wpl_nil (nrm ?_)
          have e0 := Option.some.inj q14
          subst e0
          exact ⟨outP, m13, L5, S14, ⟨rfl, trivial⟩⟩
        replace q14 := ifF hb6 q14
        refine wpl_no (d := 78) rfl rfl (congrArg Value.bool hb6) <| wpl_no (d := 78) rfl rfl (congrArg Value.bool hb6) <| wpl_no (d := 78) rfl rfl (congrArg Value.bool hb6) <| wpl_no (d := 78) rfl rfl (congrArg Value.bool hb6) <| wpl_no (d := 78) rfl rfl (congrArg Value.bool hb6) <| wpl_no (d := 78) rfl rfl (congrArg Value.bool hb6) <| wpl_no (d := 78) rfl rfl (congrArg Value.bool hb6) <| s_pickF (congrArg Value.bool hb6) rfl <| wpl_nil (nrm ?_)
        have e0 := Option.some.inj q14
        subst e0
        exact ⟨outP, m13, L5, S14, ⟨rfl, trivial⟩⟩
      rintro f7 w14 ho ⟨m14, l13, S15, ha⟩
      obtain ⟨u7, rfl⟩ := fr_of (N := 188) ho ha
      replace h3 := RepL.up l13 h3
      replace h4 := RepL.up l13 h4
      replace a0h3 := a0h3.up l13
      replace a0h4 := a0h4.up l13
      replace a0h5 := a0h5.up l13
      replace L3 := Mem.tr L3 l13
      clear S14
      refine wpl_nil <| nrm <| wpc_if (t := x11) rfl (fun hc5 => ?_) (fun hc5 => ?_)
      · replace q11 := ifT hc5 q11
        refine wpc_seq <| wpc_region <| s_litOC (parts := [.const (.int .u8 0)]) (vs := [vB 0]) (cls := [[vB 0]]) (n := 1) (sz := 1) S15 Try.underlying27 Try.sizeOf5 Try.zeroValue5 rfl ⟨rfl, trivial⟩ rfl rfl (by decide) (by decide) fun v3 w15 S16 => ?_
        have h9 : RepL m14 [vB 0] ([0] : List UInt8) := (RepL.cons (c := [vB 0]) (x := 0) rfl RepL.nil)
        replace S16 : St _ ((row 1 v3 [vB 0] ([0] : List UInt8).length) :: (row 2 v2 c2 x7.1.length) :: (row 2 v1 c1 x6.1.length) :: (bx b1 [vI a0.Id, vU a0.Key, vI a0.Delay, a0v3, a0v4, a0v5] 26) :: As) _ := S16
        clear S15
        refine s_fld (n := 0) rfl Try.underlying26 rfl rfl Try.sizeOf23 <| s_ld (i := 3) (cs := [a0v3]) S16 rfl rfl Try.isAgg23 Try.sizeOf23 rfl (fun _ => rfl) <| s_mvv (v := vI s1.2.2) rfl ?_
        obtain ⟨x13, q16, q11⟩ := obind_some q11
        refine s_idx (q := x13) rfl rfl a0h3 q16 Try.underlying23 Try.sizeOf55 fun p3 c5 h10 r6 => ?_
        obtain ⟨v4, rfl, h11⟩ := rep_g_api_Leaf r6
        refine s_fldM (n := 0) rfl h10 Try.underlying55 rfl rfl Try.sizeOf27 fun p4 h12 => ?_
        replace h12 : PtC _ _ [v4, vI x13.At] := h12
        refine s_ldM (cs := [v4]) S16 rfl h12 rfl Try.isAgg27 Try.sizeOf27 (fun _ => rfl) ?_
        obtain ⟨x14, q17, q11⟩ := obind_some q11
        refine s_app (i := 0) (zs := x14) (bytes := 1) (ti := Try.t5) S16 rfl rfl h9 rfl rfl h11 q17 Try.underlying27 Try.type5 rfl rfl rfl rfl fun v5 c6 w16 S17 h13 => ?_
        replace S17 : St _ ((row 1 v5 c6 x14.length) :: (row 2 v2 c2 x7.1.length) :: (row 2 v1 c1 x6.1.length) :: (bx b1 [vI a0.Id, vU a0.Key, vI a0.Delay, a0v3, a0v4, a0v5] 26) :: As) _ := S17
        clear S16
        refine s_asv (v := v5) rfl <| wpl_nil <| nrm <| wpc_seq <| wpc_seq ?_
        obtain ⟨m15, l14, h14, S18⟩ := St.rowKeepT (i := 0) S17 rfl h13 rfl
        replace h3 := RepL.up l14 h3
        replace h4 := RepL.up l14 h4
        replace a0h3 := a0h3.up l14
        replace a0h4 := a0h4.up l14
        replace a0h5 := a0h5.up l14
        replace L3 := Mem.tr L3 l14
        clear S17
        obtain ⟨x15, q18, q11⟩ := obind_some q11
        obtain ⟨x16, q19, q11⟩ := obind_some q11
        have HM : MonoAll [(95, fun (M : Mem) (v : Value) => v = v2), (96, fun (M : Mem) (v : Value) => v = vI s1.2.2), (97, fun (M : Mem) (v : Value) => ∃ (p5 : Value), v = p5 ∧ PtO v2 p5 (s1.2.2.toNat * 2)), (98, fun (M : Mem) (v : Value) => v = .agg #[vU x15.1, vU x15.2]), (99, fun (M : Mem) (v : Value) => v = v5), (100, fun (M : Mem) (v : Value) => v = .agg #[vU x16.1, vU x16.2])] := ⟨(fun _ _ _ _ h => h), (fun _ _ _ _ h => h), (fun _ _ _ l ⟨p5, e, h15⟩ => ⟨p5, e, h15⟩), (fun _ _ _ _ h => h), (fun _ _ _ _ h => h), (fun _ _ _ _ h => h), trivial⟩
        refine wpc_flowG HM 6 mixed rfl rfl rfl [95, 96, 97, 98, 99, 100] (fun L f M w => St M ((row 2 v2 c2 x7.1.length) :: (row 2 v1 c1 x6.1.length) :: (bx b1 [vI a0.Id, vU a0.Key, vI a0.Delay, a0v3, a0v4, a0v5] 26) :: As) w) (St.drew S18 _) ?_ ?_
        · refine ⟨?_, ?_, ?_, ?_, ?_, ?_, trivial⟩
          · intro L f8 w17 hL hd hc ⟨m16, L6, S19, K, hO⟩
            obtain ⟨u8, rfl⟩ := fr_of (N := 188) (L := []) hO trivial
            exact s_mvv (v := v2) rfl <| oS HM L6 S19 rfl K rfl rfl rfl outP
          · intro L f9 w18 hL hd hc ⟨m17, L8, S20, K, hO⟩
            obtain ⟨u9, rfl⟩ := fr_of (N := 188) (L := []) hO trivial
            exact s_mvv (v := vI s1.2.2) rfl <| oS HM L8 S20 rfl K rfl rfl rfl outP
          · intro L f10 w19 hL hd hc ⟨m18, L10, S21, K, hO⟩
            obtain ⟨u10, rfl⟩ := fr_of (N := 188) (L := [(95, _), (96, _)]) hO ⟨K 0 (dep hd rfl), K 1 (dep hd rfl), trivial⟩
            exact s_idxO (i := 0) (j := s1.2.2) S21 rfl rfl rfl (idx_rng q18).1 (idx_rng q18).2 Try.underlying45 Try.sizeOf31 fun p5 h15 => oS HM L10 S21 rfl K rfl rfl ⟨p5, rfl, h15⟩ outP
          · intro L f11 w20 hL hd hc ⟨m19, L12, S22, K, hO⟩
            obtain ⟨v6, e3, h16⟩ := K 2 (dep hd rfl)
            obtain ⟨u11, rfl⟩ := fr_of (N := 188) (L := [(97, _)]) hO ⟨e3, trivial⟩
            replace h4 := RepL.up L12 h4
            have e4 := rep_arr2_UInt64 (RepL.getI h4 q18)
            exact s_ldO (i := 0) (off := s1.2.2.toNat * 2) (d := [vU x15.1, vU x15.2]) S22 rfl h16 rfl e4 Try.isAgg31 Try.sizeOf31 (fun h => by cases h) <| oS HM L12 S22 rfl K rfl rfl rfl outP
          · intro L f12 w21 hL hd hc ⟨m20, L14, S23, K, hO⟩
            obtain ⟨u12, rfl⟩ := fr_of (N := 188) (L := []) hO trivial
            exact s_mvv (v := v5) rfl <| oS HM L14 S23 rfl K rfl rfl rfl outP
          · intro L f13 w22 hL hd hc ⟨m21, L16, S24, K, hO⟩
            obtain ⟨u13, rfl⟩ := fr_of (N := 188) (L := [(99, _)]) hO ⟨K 4 (dep hd rfl), trivial⟩
            replace h3 := RepL.up L16 h3
            replace h4 := RepL.up L16 h4
            replace h14 := h14.up L16
            replace a0h3 := a0h3.up L16
            replace a0h4 := a0h4.up L16
            replace a0h5 := a0h5.up L16
            have L17 := Mem.rfl' m21
            refine s_call Try.call13 (w_merkle_Leaf (a0 := x14) S24 h14 q19) rfl ?_
            rintro _ w23 ⟨m22, l15, S25, rfl⟩
            replace L17 := Mem.tr L17 l15
            clear S24
            exact wpn <| ⟨m22, Mem.tr L16 L17, S25, facts_step HM rfl K L17 rfl rfl rfl, outP⟩
        intro L f14 w24 hall ⟨m23, L18, S26, K, hO⟩
        have d3 : L 3 = true := hall 3 (by decide)
        have d5 : L 5 = true := hall 5 (by decide)
        obtain ⟨u14, rfl⟩ := fr_of (N := 188) (L := [(98, _), (100, _)]) hO ⟨K 3 d3, K 5 d5, trivial⟩
        replace S26 : St _ ((row 2 v2 c2 x7.1.length) :: (row 2 v1 c1 x6.1.length) :: (bx b1 [vI a0.Id, vU a0.Key, vI a0.Delay, a0v3, a0v4, a0v5] 26) :: As) _ := S26
        replace h3 := RepL.up L18 h3
        replace a0h3 := a0h3.up L18
        replace a0h4 := a0h4.up L18
        replace a0h5 := a0h5.up L18
        replace L3 := Mem.tr L3 L18
        clear S18
        refine s_neqSum (p := x15) (q := x16) rfl rfl Try.underlying31 Try.underlying22 Try.sizeOf22 Try.isAgg22 Try.eqGuardType31 <| wpl_nil <| nrm <| wpc_if (t := (!eqSum x15 x16)) rfl (fun hc6 => ?_) (fun hc6 => ?_)
        · replace q11 := ifT hc6 q11
          refine wpc_seq <| wpc_region <| s_asv (v := vb false) rfl <| wpl_nil <| nrm <| wpc_ret <| thR <| thR <| blR <| thR <| thR <| blR <| thR <| outRw fun we hpd => ?_
          replace S26 := St.pd S26 hpd
          obtain ⟨m24, l16, S27⟩ := St.drop S26 0
          replace a0h3 := a0h3.up l16
          replace a0h4 := a0h4.up l16
          replace a0h5 := a0h5.up l16
          replace L3 := Mem.tr L3 l16
          clear S26
          replace S27 : St _ ((row 2 v1 c1 x6.1.length) :: (bx b1 [vI a0.Id, vU a0.Key, vI a0.Delay, a0v3, a0v4, a0v5] 26) :: As) _ := S27
          obtain ⟨m25, l17, S28⟩ := St.drop S27 0
          replace L3 := Mem.tr L3 l17
          clear S27
          replace S28 : St _ ((bx b1 [vI a0.Id, vU a0.Key, vI a0.Delay, a0v3, a0v4, a0v5] 26) :: As) _ := S28
          obtain ⟨m26, l18, S29⟩ := St.drop S28 0
          replace L3 := Mem.tr L3 l18
          clear S28
          replace S29 : St _ (As) _ := S29
          cases q11
          rcases q10 with ⟨sn, e, _⟩ | e
          · cases e
          cases e
          dsimp only at hm
          have e0 := Option.some.inj hm
          subst e0
          exact outR [_] rfl ⟨rfl, trivial⟩ ⟨_, (Mem.tr L0 (Mem.tr L4 L3)), S29, rfl⟩
        replace q11 := ifF hc6 q11
        refine wpc_skip <| nrm <| wpc_seq <| wpc_region <| s_mvv (v := vI s1.1) rfl <| s_mvv (v := vI s1.2.2) rfl <| s_minI rfl rfl <| s_asv (v := vI (minI s1.1 s1.2.2)) rfl <| wpl_nil <| nrm <| wpc_seq <| wpc_region <| s_mvv (v := vI s1.2.1) rfl <| s_addI (m := s1.2.1) (n := 1) rfl rfl <| s_asv (v := vI (w64 (s1.2.1 + 1))) rfl <| wpl_nil <| nrm <| wpc_exit <| thE <| exB <| nrm <| wpc_region <| s_mvv (v := vI s1.2.2) rfl <| s_addI (m := s1.2.2) (n := 1) rfl rfl <| s_asv (v := vI (w64 (s1.2.2 + 1))) rfl <| wpl_nil <| nrm ?_
        have e0 := Option.some.inj q11
        subst e0
        rcases q10 with ⟨sn, e, q10'⟩ | e
        · cases e
          exact ⟨outP, _, Nat.lt_succ_self _, ⟨_, m23, q10', Mem.tr L4 L3, S26, ⟨rfl, rfl, rfl, trivial⟩⟩⟩
        · cases e
      replace q11 := ifF hc5 q11
      refine wpc_skip <| nrm <| wpc_seq ?_
      obtain ⟨x17, q20, q11⟩ := obind_some q11
      obtain ⟨x18, q21, q11⟩ := obind_some q11
      have HM : MonoAll [(107, fun (M : Mem) (v : Value) => v = v1), (108, fun (M : Mem) (v : Value) => v = vI s1.2.2), (109, fun (M : Mem) (v : Value) => ∃ (p6 : Value), v = p6 ∧ PtO v1 p6 (s1.2.2.toNat * 2)), (110, fun (M : Mem) (v : Value) => v = .agg #[vU x17.1, vU x17.2]), (111, fun (M : Mem) (v : Value) => v = v2), (112, fun (M : Mem) (v : Value) => v = vI s1.2.2), (113, fun (M : Mem) (v : Value) => ∃ (p7 : Value), v = p7 ∧ PtO v2 p7 (s1.2.2.toNat * 2)), (114, fun (M : Mem) (v : Value) => v = .agg #[vU x18.1, vU x18.2])] := ⟨(fun _ _ _ _ h => h), (fun _ _ _ _ h => h), (fun _ _ _ l ⟨p6, e, h17⟩ => ⟨p6, e, h17⟩), (fun _ _ _ _ h => h), (fun _ _ _ _ h => h), (fun _ _ _ _ h => h), (fun _ _ _ l ⟨p7, e, h19⟩ => ⟨p7, e, h19⟩), (fun _ _ _ _ h => h), trivial⟩
      refine wpc_flowG HM 8 mixed rfl rfl rfl [107, 108, 109, 110, 111, 112, 113, 114] (fun L f M w => St M ((row 2 v2 c2 x7.1.length) :: (row 2 v1 c1 x6.1.length) :: (bx b1 [vI a0.Id, vU a0.Key, vI a0.Delay, a0v3, a0v4, a0v5] 26) :: As) w) (St.drew S15 _) ?_ ?_
      · refine ⟨?_, ?_, ?_, ?_, ?_, ?_, ?_, ?_, trivial⟩
        · intro L f15 w25 hL hd hc ⟨m27, L19, S30, K, hO⟩
          obtain ⟨u15, rfl⟩ := fr_of (N := 188) (L := []) hO trivial
          exact s_mvv (v := v1) rfl <| oS HM L19 S30 rfl K rfl rfl rfl outP
        · intro L f16 w26 hL hd hc ⟨m28, L21, S31, K, hO⟩
          obtain ⟨u16, rfl⟩ := fr_of (N := 188) (L := []) hO trivial
          exact s_mvv (v := vI s1.2.2) rfl <| oS HM L21 S31 rfl K rfl rfl rfl outP
        · intro L f17 w27 hL hd hc ⟨m29, L23, S32, K, hO⟩
          obtain ⟨u17, rfl⟩ := fr_of (N := 188) (L := [(107, _), (108, _)]) hO ⟨K 0 (dep hd rfl), K 1 (dep hd rfl), trivial⟩
          exact s_idxO (i := 1) (j := s1.2.2) S32 rfl rfl rfl (idx_rng q20).1 (idx_rng q20).2 Try.underlying45 Try.sizeOf31 fun p6 h17 => oS HM L23 S32 rfl K rfl rfl ⟨p6, rfl, h17⟩ outP
        · intro L f18 w28 hL hd hc ⟨m30, L25, S33, K, hO⟩
          obtain ⟨v7, e10, h18⟩ := K 2 (dep hd rfl)
          obtain ⟨u18, rfl⟩ := fr_of (N := 188) (L := [(109, _)]) hO ⟨e10, trivial⟩
          replace h3 := RepL.up L25 h3
          have e11 := rep_arr2_UInt64 (RepL.getI h3 q20)
          exact s_ldO (i := 1) (off := s1.2.2.toNat * 2) (d := [vU x17.1, vU x17.2]) S33 rfl h18 rfl e11 Try.isAgg31 Try.sizeOf31 (fun h => by cases h) <| oS HM L25 S33 rfl K rfl rfl rfl outP
        · intro L f19 w29 hL hd hc ⟨m31, L27, S34, K, hO⟩
          obtain ⟨u19, rfl⟩ := fr_of (N := 188) (L := []) hO trivial
          exact s_mvv (v := v2) rfl <| oS HM L27 S34 rfl K rfl rfl rfl outP
        · intro L f20 w30 hL hd hc ⟨m32, L29, S35, K, hO⟩
          obtain ⟨u20, rfl⟩ := fr_of (N := 188) (L := []) hO trivial
          exact s_mvv (v := vI s1.2.2) rfl <| oS HM L29 S35 rfl K rfl rfl rfl outP
        · intro L f21 w31 hL hd hc ⟨m33, L31, S36, K, hO⟩
          obtain ⟨u21, rfl⟩ := fr_of (N := 188) (L := [(111, _), (112, _)]) hO ⟨K 4 (dep hd rfl), K 5 (dep hd rfl), trivial⟩
          exact s_idxO (i := 0) (j := s1.2.2) S36 rfl rfl rfl (idx_rng q21).1 (idx_rng q21).2 Try.underlying45 Try.sizeOf31 fun p7 h19 => oS HM L31 S36 rfl K rfl rfl ⟨p7, rfl, h19⟩ outP
        · intro L f22 w32 hL hd hc ⟨m34, L33, S37, K, hO⟩
          obtain ⟨v8, e14, h20⟩ := K 6 (dep hd rfl)
          obtain ⟨u22, rfl⟩ := fr_of (N := 188) (L := [(113, _)]) hO ⟨e14, trivial⟩
          replace h4 := RepL.up L33 h4
          have e15 := rep_arr2_UInt64 (RepL.getI h4 q21)
          exact s_ldO (i := 0) (off := s1.2.2.toNat * 2) (d := [vU x18.1, vU x18.2]) S37 rfl h20 rfl e15 Try.isAgg31 Try.sizeOf31 (fun h => by cases h) <| oS HM L33 S37 rfl K rfl rfl rfl outP
      intro L f23 w33 hall ⟨m35, L35, S38, K, hO⟩
      have d3 : L 3 = true := hall 3 (by decide)
      have d7 : L 7 = true := hall 7 (by decide)
      obtain ⟨u23, rfl⟩ := fr_of (N := 188) (L := [(110, _), (114, _)]) hO ⟨K 3 d3, K 7 d7, trivial⟩
      replace S38 : St _ ((row 2 v2 c2 x7.1.length) :: (row 2 v1 c1 x6.1.length) :: (bx b1 [vI a0.Id, vU a0.Key, vI a0.Delay, a0v3, a0v4, a0v5] 26) :: As) _ := S38
      replace h3 := RepL.up L35 h3
      replace a0h3 := a0h3.up L35
      replace a0h4 := a0h4.up L35
      replace a0h5 := a0h5.up L35
      replace L3 := Mem.tr L3 L35
      clear S15
      refine s_neqSum (p := x17) (q := x18) rfl rfl Try.underlying31 Try.underlying22 Try.sizeOf22 Try.isAgg22 Try.eqGuardType31 <| wpl_nil <| nrm <| wpc_if (t := (!eqSum x17 x18)) rfl (fun hc7 => ?_) (fun hc7 => ?_)
      · replace q11 := ifT hc7 q11
        refine wpc_seq <| wpc_region <| s_asv (v := vb false) rfl <| wpl_nil <| nrm <| wpc_ret <| blR <| thR <| thR <| blR <| thR <| outRw fun we hpd => ?_
        replace S38 := St.pd S38 hpd
        obtain ⟨m36, l19, S39⟩ := St.drop S38 0
        replace a0h3 := a0h3.up l19
        replace a0h4 := a0h4.up l19
        replace a0h5 := a0h5.up l19
        replace L3 := Mem.tr L3 l19
        clear S38
        replace S39 : St _ ((row 2 v1 c1 x6.1.length) :: (bx b1 [vI a0.Id, vU a0.Key, vI a0.Delay, a0v3, a0v4, a0v5] 26) :: As) _ := S39
        obtain ⟨m37, l20, S40⟩ := St.drop S39 0
        replace L3 := Mem.tr L3 l20
        clear S39
        replace S40 : St _ ((bx b1 [vI a0.Id, vU a0.Key, vI a0.Delay, a0v3, a0v4, a0v5] 26) :: As) _ := S40
        obtain ⟨m38, l21, S41⟩ := St.drop S40 0
        replace L3 := Mem.tr L3 l21
        clear S40
        replace S41 : St _ (As) _ := S41
        cases q11
        rcases q10 with ⟨sn, e, _⟩ | e
        · cases e
        cases e
        dsimp only at hm
        have e0 := Option.some.inj hm
        subst e0
        exact outR [_] rfl ⟨rfl, trivial⟩ ⟨_, (Mem.tr L0 (Mem.tr L4 L3)), S41, rfl⟩
      replace q11 := ifF hc7 q11
      refine wpc_skip <| nrmB <| nrm <| wpc_region <| s_mvv (v := vI s1.2.2) rfl <| s_addI (m := s1.2.2) (n := 1) rfl rfl <| s_asv (v := vI (w64 (s1.2.2 + 1))) rfl <| wpl_nil <| nrm ?_
      have e0 := Option.some.inj q11
      subst e0
      rcases q10 with ⟨sn, e, q10'⟩ | e
      · cases e
        exact ⟨outP, _, Nat.lt_succ_self _, ⟨_, m35, q10', Mem.tr L4 L3, S38, ⟨rfl, rfl, rfl, trivial⟩⟩⟩
      · cases e
    replace q11 := ifF hc4 q11
    refine wpc_exit <| thE <| thE <| exB <| nrm ?_
    obtain ⟨m39, l22, S42⟩ := St.drop S14 0
    replace L3 := Mem.tr L3 l22
    clear S14
    replace S42 : St _ ((row 2 v1 c1 x6.1.length) :: (bx b1 [vI a0.Id, vU a0.Key, vI a0.Delay, a0v3, a0v4, a0v5] 26) :: As) _ := S42
    have e0 := Option.some.inj q11
    subst e0
    rcases q10 with ⟨sn, e, _⟩ | e
    · cases e
    · cases e
      exact ⟨outP, m39, _, rfl, Mem.tr L4 L3, S42, ⟨rfl, rfl, trivial⟩⟩
 rintro f24 w34 ho ⟨m41, y1, rfl, l23, S43, ha⟩
 obtain ⟨u24, rfl⟩ := fr_of (N := 188) ho ha
 clear ho ha
 dsimp only at hm
 replace h3 := RepL.up l23 h3
 replace a0h3 := a0h3.up l23
 replace a0h4 := a0h4.up l23
 replace a0h5 := a0h5.up l23
 replace L0 := Mem.tr L0 l23
 clear S10
 refine wpc_seq <| wpc_region <| s_mvv (v := vI a1) rfl <| s_andI (m := a1) (n := 65535) rfl rfl <| s_mvv (v := vI y1.1) rfl <| s_addI (m := y1.1) (n := 1) rfl rfl ?_
 obtain ⟨q22, hm⟩ := if_some hm
 refine s_remI (m := (and64 a1 65535)) (n := (w64 (y1.1 + 1))) rfl rfl q22 ?_
 obtain ⟨x19, q23, hm⟩ := bnd_eq hm
 refine s_asv (v := vI x19) (congrArg (fun z => vI z) q23.symm) <| wpl_nil <| nrm <| wpc_seq <| wpc_region <| s_ld (i := 1) (cs := [vI a0.Id, vU a0.Key, vI a0.Delay, a0v3, a0v4, a0v5]) S43 rfl rfl Try.isAgg26 Try.sizeOf26 rfl (fun h => by cases h) <| s_mvv (v := vI x19) rfl <| s_mvv (v := vI a2) rfl ?_
 obtain ⟨x20, q24, hm⟩ := obind_some hm
 refine s_call Try.call17 (w_logd_Head (a0 := a0) (a1 := 0) (a2 := x19) (a3 := a2) S43 a0h3 a0h4 a0h5 q24) rfl ?_
 rintro _ w35 ⟨m42, l24, S44, rfl⟩
 replace h3 := RepL.up l24 h3
 replace a0h3 := a0h3.up l24
 replace a0h4 := a0h4.up l24
 replace a0h5 := a0h5.up l24
 replace L0 := Mem.tr L0 l24
 clear S43
 refine s_mvv (v := .tuple #[.agg #[vI x20.1.Log, vI x20.1.Size, vU x20.1.Root.1, vU x20.1.Root.2, vI x20.1.At, vU x20.1.Sig.E, vU x20.1.Sig.S], vI x20.2]) rfl <| s_ext (i := 0) rfl rfl <| s_ext (i := 1) rfl rfl <| s_alloc S44 Try.zeroValue57 fun b3 w36 S45 => ?_
 replace S45 : St _ ((bx b3 [vI 0, vI 0, vU 0, vU 0, vI 0, vU 0, vU 0] 57) :: (row 2 v1 c1 x6.1.length) :: (bx b1 [vI a0.Id, vU a0.Key, vI a0.Delay, a0v3, a0v4, a0v5] 26) :: As) _ := S45
 clear S44
 refine s_stL (i := 0) S45 rfl rfl rfl Try.sizeOf57 (oneC rfl (oneC rfl (oneC rfl (oneC rfl (oneC rfl (oneC rfl (oneC rfl oneN))))))) rfl fun w37 S46 => ?_
 replace S46 : St _ ((bx b3 [vI x20.1.Log, vI x20.1.Size, vU x20.1.Root.1, vU x20.1.Root.2, vI x20.1.At, vU x20.1.Sig.E, vU x20.1.Sig.S] 57) :: (row 2 v1 c1 x6.1.length) :: (bx b1 [vI a0.Id, vU a0.Key, vI a0.Delay, a0v3, a0v4, a0v5] 26) :: As) _ := S46
 clear S45
 refine s_asv (v := vI x20.2) rfl <| wpl_nil <| nrm <| wpc_seq <| wpc_region <| s_ld (i := 2) (cs := [vI a0.Id, vU a0.Key, vI a0.Delay, a0v3, a0v4, a0v5]) S46 rfl rfl Try.isAgg26 Try.sizeOf26 rfl (fun h => by cases h) <| s_mvv (v := vI x19) rfl <| s_mvv (v := vI a2) rfl ?_
 obtain ⟨x21, q25, hm⟩ := obind_some hm
 refine s_call Try.call17 (w_logd_Head (a0 := a0) (a1 := 1) (a2 := x19) (a3 := a2) S46 a0h3 a0h4 a0h5 q25) rfl ?_
 rintro _ w38 ⟨m43, l25, S47, rfl⟩
 replace h3 := RepL.up l25 h3
 replace a0h3 := a0h3.up l25
 replace a0h4 := a0h4.up l25
 replace a0h5 := a0h5.up l25
 replace L0 := Mem.tr L0 l25
 clear S46
 refine s_mvv (v := .tuple #[.agg #[vI x21.1.Log, vI x21.1.Size, vU x21.1.Root.1, vU x21.1.Root.2, vI x21.1.At, vU x21.1.Sig.E, vU x21.1.Sig.S], vI x21.2]) rfl <| s_ext (i := 0) rfl rfl <| s_ext (i := 1) rfl rfl <| s_alloc S47 Try.zeroValue57 fun b4 w39 S48 => ?_
 replace S48 : St _ ((bx b4 [vI 0, vI 0, vU 0, vU 0, vI 0, vU 0, vU 0] 57) :: (bx b3 [vI x20.1.Log, vI x20.1.Size, vU x20.1.Root.1, vU x20.1.Root.2, vI x20.1.At, vU x20.1.Sig.E, vU x20.1.Sig.S] 57) :: (row 2 v1 c1 x6.1.length) :: (bx b1 [vI a0.Id, vU a0.Key, vI a0.Delay, a0v3, a0v4, a0v5] 26) :: As) _ := S48
 clear S47
 refine s_stL (i := 0) S48 rfl rfl rfl Try.sizeOf57 (oneC rfl (oneC rfl (oneC rfl (oneC rfl (oneC rfl (oneC rfl (oneC rfl oneN))))))) rfl fun w40 S49 => ?_
 replace S49 : St _ ((bx b4 [vI x21.1.Log, vI x21.1.Size, vU x21.1.Root.1, vU x21.1.Root.2, vI x21.1.At, vU x21.1.Sig.E, vU x21.1.Sig.S] 57) :: (bx b3 [vI x20.1.Log, vI x20.1.Size, vU x20.1.Root.1, vU x20.1.Root.2, vI x20.1.At, vU x20.1.Sig.E, vU x20.1.Sig.S] 57) :: (row 2 v1 c1 x6.1.length) :: (bx b1 [vI a0.Id, vU a0.Key, vI a0.Delay, a0v3, a0v4, a0v5] 26) :: As) _ := S49
 clear S48
 refine s_asv (v := vI x21.2) rfl <| wpl_nil <| nrm <| wpc_seq <| wpc_region <| s_ld (i := 3) (cs := [vI a0.Id, vU a0.Key, vI a0.Delay, a0v3, a0v4, a0v5]) S49 rfl rfl Try.isAgg26 Try.sizeOf26 rfl (fun h => by cases h) ?_
 obtain ⟨x22, q26, hm⟩ := obind_some hm
 refine s_call Try.call18 (w_logd_Hide (a0 := a0) S49 a0h3 a0h4 a0h5 q26) rfl ?_
 rintro _ w41 ⟨m44, l26, v9, v10, v11, S50, rfl, h21, h22, h23⟩
 replace h3 := RepL.up l26 h3
 replace a0h3 := a0h3.up l26
 replace a0h4 := a0h4.up l26
 replace a0h5 := a0h5.up l26
 replace L0 := Mem.tr L0 l26
 clear S49
 refine s_mvv (v := .tuple #[.agg #[vI x22.1.Id, vU x22.1.Key, vI x22.1.Delay, v9, v10, v11], vI x22.2]) rfl <| s_ext (i := 0) rfl rfl <| s_ext (i := 1) rfl rfl <| s_alloc S50 Try.zeroValue26 fun b5 w42 S51 => ?_
 replace S51 : St _ ((bx b5 [vI 0, vU 0, vI 0, .slice none 0 0, .slice none 0 0, .slice none 0 0] 26) :: (bx b4 [vI x21.1.Log, vI x21.1.Size, vU x21.1.Root.1, vU x21.1.Root.2, vI x21.1.At, vU x21.1.Sig.E, vU x21.1.Sig.S] 57) :: (bx b3 [vI x20.1.Log, vI x20.1.Size, vU x20.1.Root.1, vU x20.1.Root.2, vI x20.1.At, vU x20.1.Sig.E, vU x20.1.Sig.S] 57) :: (row 2 v1 c1 x6.1.length) :: (bx b1 [vI a0.Id, vU a0.Key, vI a0.Delay, a0v3, a0v4, a0v5] 26) :: As) _ := S51
 clear S50
 refine s_stL (i := 0) S51 rfl rfl rfl Try.sizeOf26 (oneC rfl (oneC rfl (oneC rfl (oneC (SlR.one h21) (oneC (SlR.one h22) (oneC (SlR.one h23) oneN)))))) rfl fun w43 S52 => ?_
 replace S52 : St _ ((bx b5 [vI x22.1.Id, vU x22.1.Key, vI x22.1.Delay, v9, v10, v11] 26) :: (bx b4 [vI x21.1.Log, vI x21.1.Size, vU x21.1.Root.1, vU x21.1.Root.2, vI x21.1.At, vU x21.1.Sig.E, vU x21.1.Sig.S] 57) :: (bx b3 [vI x20.1.Log, vI x20.1.Size, vU x20.1.Root.1, vU x20.1.Root.2, vI x20.1.At, vU x20.1.Sig.E, vU x20.1.Sig.S] 57) :: (row 2 v1 c1 x6.1.length) :: (bx b1 [vI a0.Id, vU a0.Key, vI a0.Delay, a0v3, a0v4, a0v5] 26) :: As) _ := S52
 clear S51
 refine s_asv (v := vI x22.2) rfl <| wpl_nil <| nrm <| wpc_seq <| wpc_seq <| wpc_region <| s_mvv (v := vI x20.2) rfl <| s_neq (m := x20.2) (n := 0) rfl rfl <| s_mvv (v := vb (x20.2 != 0)) rfl <| wpl_cut 3 [143, 144, 145] (fun f' w' => w' = w43 ∧ AllAt f' [(145, vb ((x20.2 != 0) || (x21.2 != 0)))]) ?_ ?_
 · rcases bool_tf (x20.2 != 0) with hb7 | hb7
   · exact wpl_no (d := 142) rfl rfl (congrArg Value.bool hb7) <| wpl_no (d := 142) rfl rfl (congrArg Value.bool hb7) <| s_pickT (congrArg Value.bool hb7) rfl <| wpl_nil (nrm ⟨outP, rfl, congrArg Value.bool (or_t hb7), trivial⟩)
   · exact wpl_yes (d := 142) rfl rfl (congrArg Value.bool hb7) <| s_mvv (v := vI x21.2) rfl <| wpl_yes (d := 142) rfl rfl (congrArg Value.bool hb7) <| s_neq (m := x21.2) (n := 0) rfl rfl <| s_pickF (congrArg Value.bool hb7) rfl <| wpl_nil (nrm ⟨outP, rfl, congrArg Value.bool (or_f hb7), trivial⟩)
 rintro f25 w44 ho ⟨h24, ha⟩
 subst h24
 obtain ⟨u25, rfl⟩ := fr_of (N := 188) ho ha
 refine s_mvv (v := vb ((x20.2 != 0) || (x21.2 != 0))) rfl <| wpl_cut 4 [147, 148, 149, 150] (fun f' w' => w' = w44 ∧ AllAt f' [(150, vb (((x20.2 != 0) || (x21.2 != 0)) || (!eq_api_Head x20.1 x21.1)))]) ?_ ?_
 · rcases bool_tf ((x20.2 != 0) || (x21.2 != 0)) with hb8 | hb8
   · exact wpl_no (d := 146) rfl rfl (congrArg Value.bool hb8) <| wpl_no (d := 146) rfl rfl (congrArg Value.bool hb8) <| wpl_no (d := 146) rfl rfl (congrArg Value.bool hb8) <| s_pickT (congrArg Value.bool hb8) rfl <| wpl_nil (nrm ⟨outP, rfl, congrArg Value.bool (or_t hb8), trivial⟩)
   · exact wpl_yes (d := 146) rfl rfl (congrArg Value.bool hb8) <| s_ld (i := 2) (cs := [vI x20.1.Log, vI x20.1.Size, vU x20.1.Root.1, vU x20.1.Root.2, vI x20.1.At, vU x20.1.Sig.E, vU x20.1.Sig.S]) S52 rfl rfl Try.isAgg57 Try.sizeOf57 rfl (fun h => by cases h) <| wpl_yes (d := 146) rfl rfl (congrArg Value.bool hb8) <| s_ld (i := 1) (cs := [vI x21.1.Log, vI x21.1.Size, vU x21.1.Root.1, vU x21.1.Root.2, vI x21.1.At, vU x21.1.Sig.E, vU x21.1.Sig.S]) S52 rfl rfl Try.isAgg57 Try.sizeOf57 rfl (fun h => by cases h) <| wpl_yes (d := 146) rfl rfl (congrArg Value.bool hb8) <| s_neqA (cs := [vI x20.1.Log, vI x20.1.Size, vU x20.1.Root.1, vU x20.1.Root.2, vI x20.1.At, vU x20.1.Sig.E, vU x20.1.Sig.S]) (ds := [vI x21.1.Log, vI x21.1.Size, vU x21.1.Root.1, vU x21.1.Root.2, vI x21.1.At, vU x21.1.Sig.E, vU x21.1.Sig.S]) rfl rfl (eqv_api_Head (p := x20.1) (q := x21.1)) rfl Try.eqGuardType57 <| s_pickF (congrArg Value.bool hb8) rfl <| wpl_nil (nrm ⟨outP, rfl, congrArg Value.bool (or_f hb8), trivial⟩)
 rintro f26 w45 ho ⟨h25, ha⟩
 subst h25
 obtain ⟨u26, rfl⟩ := fr_of (N := 188) ho ha
 refine s_mvv (v := vb (((x20.2 != 0) || (x21.2 != 0)) || (!eq_api_Head x20.1 x21.1))) rfl <| wpl_cut 6 [152, 153, 154, 155, 156, 157] (fun f' w' => w' = w45 ∧ AllAt f' [(157, vb ((((x20.2 != 0) || (x21.2 != 0)) || (!eq_api_Head x20.1 x21.1)) || (y1.2 != (a0.Hide.length : Int))))]) ?_ ?_
 · rcases bool_tf (((x20.2 != 0) || (x21.2 != 0)) || (!eq_api_Head x20.1 x21.1)) with hb9 | hb9
   · exact wpl_no (d := 151) rfl rfl (congrArg Value.bool hb9) <| wpl_no (d := 151) rfl rfl (congrArg Value.bool hb9) <| wpl_no (d := 151) rfl rfl (congrArg Value.bool hb9) <| wpl_no (d := 151) rfl rfl (congrArg Value.bool hb9) <| wpl_no (d := 151) rfl rfl (congrArg Value.bool hb9) <| s_pickT (congrArg Value.bool hb9) rfl <| wpl_nil (nrm ⟨outP, rfl, congrArg Value.bool (or_t hb9), trivial⟩)
   · exact wpl_yes (d := 151) rfl rfl (congrArg Value.bool hb9) <| s_mvv (v := vI y1.2) rfl <| wpl_yes (d := 151) rfl rfl (congrArg Value.bool hb9) <| s_fld (n := 0) rfl Try.underlying26 rfl rfl Try.sizeOf24 <| wpl_yes (d := 151) rfl rfl (congrArg Value.bool hb9) <| s_ld (i := 4) (cs := [a0v4]) S52 rfl rfl Try.isAgg24 Try.sizeOf24 rfl (fun _ => rfl) <| wpl_yes (d := 151) rfl rfl (congrArg Value.bool hb9) <| s_lenR (xs := a0.Hide) rfl a0h4 Try.underlying24 <| wpl_yes (d := 151) rfl rfl (congrArg Value.bool hb9) <| s_neq (m := y1.2) (n := (a0.Hide.length : Int)) rfl rfl <| s_pickF (congrArg Value.bool hb9) rfl <| wpl_nil (nrm ⟨outP, rfl, congrArg Value.bool (or_f hb9), trivial⟩)
 rintro f27 w46 ho ⟨h26, ha⟩
 subst h26
 obtain ⟨u27, rfl⟩ := fr_of (N := 188) ho ha
 refine s_mvv (v := vb ((((x20.2 != 0) || (x21.2 != 0)) || (!eq_api_Head x20.1 x21.1)) || (y1.2 != (a0.Hide.length : Int)))) rfl <| wpl_cut 8 [159, 160, 161, 162, 163, 164, 165, 166] (fun f' w' => w' = w46 ∧ AllAt f' [(166, vb (((((x20.2 != 0) || (x21.2 != 0)) || (!eq_api_Head x20.1 x21.1)) || (y1.2 != (a0.Hide.length : Int))) || ((x22.2 == 0) != (decide ((a0.L.length : Int) > 0)))))]) ?_ ?_
 · rcases bool_tf ((((x20.2 != 0) || (x21.2 != 0)) || (!eq_api_Head x20.1 x21.1)) || (y1.2 != (a0.Hide.length : Int))) with hb10 | hb10
   · exact wpl_no (d := 158) rfl rfl (congrArg Value.bool hb10) <| wpl_no (d := 158) rfl rfl (congrArg Value.bool hb10) <| wpl_no (d := 158) rfl rfl (congrArg Value.bool hb10) <| wpl_no (d := 158) rfl rfl (congrArg Value.bool hb10) <| wpl_no (d := 158) rfl rfl (congrArg Value.bool hb10) <| wpl_no (d := 158) rfl rfl (congrArg Value.bool hb10) <| wpl_no (d := 158) rfl rfl (congrArg Value.bool hb10) <| s_pickT (congrArg Value.bool hb10) rfl <| wpl_nil (nrm ⟨outP, rfl, congrArg Value.bool (or_t hb10), trivial⟩)
   · exact wpl_yes (d := 158) rfl rfl (congrArg Value.bool hb10) <| s_mvv (v := vI x22.2) rfl <| wpl_yes (d := 158) rfl rfl (congrArg Value.bool hb10) <| s_eql (m := x22.2) (n := 0) rfl rfl <| wpl_yes (d := 158) rfl rfl (congrArg Value.bool hb10) <| s_fld (n := 0) rfl Try.underlying26 rfl rfl Try.sizeOf23 <| wpl_yes (d := 158) rfl rfl (congrArg Value.bool hb10) <| s_ld (i := 4) (cs := [a0v3]) S52 rfl rfl Try.isAgg23 Try.sizeOf23 rfl (fun _ => rfl) <| wpl_yes (d := 158) rfl rfl (congrArg Value.bool hb10) <| s_lenR (xs := a0.L) rfl a0h3 Try.underlying23 <| wpl_yes (d := 158) rfl rfl (congrArg Value.bool hb10) <| s_gtr (m := (a0.L.length : Int)) (n := 0) rfl rfl <| wpl_yes (d := 158) rfl rfl (congrArg Value.bool hb10) <| s_neqb (p := (x22.2 == (0 : Int))) (q := (decide ((a0.L.length : Int) > 0))) Try.underlying4 rfl rfl <| s_pickF (congrArg Value.bool hb10) rfl <| wpl_nil (nrm ⟨outP, rfl, congrArg Value.bool (or_f hb10), trivial⟩)
 rintro f28 w47 ho ⟨h27, ha⟩
 subst h27
 obtain ⟨u28, rfl⟩ := fr_of (N := 188) ho ha
 refine wpl_nil <| nrm <| wpc_if (t := (((((x20.2 != 0) || (x21.2 != 0)) || (!eq_api_Head x20.1 x21.1)) || (y1.2 != (a0.Hide.length : Int))) || ((x22.2 == 0) != (decide ((a0.L.length : Int) > 0))))) rfl (fun hc8 => ?_) (fun hc8 => ?_)
 · replace hm := ifT hc8 hm
   refine wpc_seq <| wpc_region <| s_asv (v := vb false) rfl <| wpl_nil <| nrm <| wpc_ret <| thR <| outRw fun we hpd => ?_
   replace S52 := St.pd S52 hpd
   obtain ⟨m45, l27, S53⟩ := St.drop S52 0
   replace h3 := RepL.up l27 h3
   replace a0h3 := a0h3.up l27
   replace a0h4 := a0h4.up l27
   replace a0h5 := a0h5.up l27
   replace L0 := Mem.tr L0 l27
   clear S52
   replace S53 : St _ ((bx b4 [vI x21.1.Log, vI x21.1.Size, vU x21.1.Root.1, vU x21.1.Root.2, vI x21.1.At, vU x21.1.Sig.E, vU x21.1.Sig.S] 57) :: (bx b3 [vI x20.1.Log, vI x20.1.Size, vU x20.1.Root.1, vU x20.1.Root.2, vI x20.1.At, vU x20.1.Sig.E, vU x20.1.Sig.S] 57) :: (row 2 v1 c1 x6.1.length) :: (bx b1 [vI a0.Id, vU a0.Key, vI a0.Delay, a0v3, a0v4, a0v5] 26) :: As) _ := S53
   obtain ⟨m46, l28, S54⟩ := St.drop S53 0
   replace h3 := RepL.up l28 h3
   replace a0h3 := a0h3.up l28
   replace a0h4 := a0h4.up l28
   replace a0h5 := a0h5.up l28
   replace L0 := Mem.tr L0 l28
   clear S53
   replace S54 : St _ ((bx b3 [vI x20.1.Log, vI x20.1.Size, vU x20.1.Root.1, vU x20.1.Root.2, vI x20.1.At, vU x20.1.Sig.E, vU x20.1.Sig.S] 57) :: (row 2 v1 c1 x6.1.length) :: (bx b1 [vI a0.Id, vU a0.Key, vI a0.Delay, a0v3, a0v4, a0v5] 26) :: As) _ := S54
   obtain ⟨m47, l29, S55⟩ := St.drop S54 0
   replace a0h3 := a0h3.up l29
   replace a0h4 := a0h4.up l29
   replace a0h5 := a0h5.up l29
   replace L0 := Mem.tr L0 l29
   clear S54
   replace S55 : St _ ((row 2 v1 c1 x6.1.length) :: (bx b1 [vI a0.Id, vU a0.Key, vI a0.Delay, a0v3, a0v4, a0v5] 26) :: As) _ := S55
   obtain ⟨m48, l30, S56⟩ := St.drop S55 0
   replace L0 := Mem.tr L0 l30
   clear S55
   replace S56 : St _ ((bx b1 [vI a0.Id, vU a0.Key, vI a0.Delay, a0v3, a0v4, a0v5] 26) :: As) _ := S56
   obtain ⟨m49, l31, S57⟩ := St.drop S56 0
   replace L0 := Mem.tr L0 l31
   clear S56
   replace S57 : St _ (As) _ := S57
   have e0 := Option.some.inj hm
   subst e0
   exact outR [_] rfl ⟨rfl, trivial⟩ ⟨_, L0, S57, rfl⟩
 replace hm := ifF hc8 hm
 refine wpc_skip <| nrm <| wpc_seq <| wpc_region <| s_ld (i := 0) (cs := [vI x22.1.Id, vU x22.1.Key, vI x22.1.Delay, v9, v10, v11]) S52 rfl rfl Try.isAgg26 Try.sizeOf26 rfl (fun h => by cases h) ?_
 obtain ⟨x23, q27, hm⟩ := obind_some hm
 refine s_call Try.call12 (w_logd_Leaves (a0 := x22.1) (a1 := 0) S52 h21 h22 h23 q27) rfl ?_
 rintro _ w48 ⟨m50, l32, v12, c7, S58, rfl, h28⟩
 replace h3 := RepL.up l32 h3
 replace h21 := h21.up l32
 replace h22 := h22.up l32
 replace h23 := h23.up l32
 replace a0h3 := a0h3.up l32
 replace a0h4 := a0h4.up l32
 replace a0h5 := a0h5.up l32
 replace L0 := Mem.tr L0 l32
 clear S52
 refine s_mvv (v := .tuple #[v12, vI x23.2]) rfl <| s_ext (i := 0) rfl rfl <| s_ext (i := 1) rfl rfl <| s_asv (v := v12) rfl <| s_asv (v := vI x23.2) rfl <| wpl_nil <| nrm <| wpc_seq <| wpc_region <| s_mvv (v := vI x22.2) rfl <| s_neq (m := x22.2) (n := 0) rfl rfl <| s_mvv (v := vb (x22.2 != 0)) rfl ?_
 obtain ⟨x24, q28, hm⟩ := obind_some hm
 have L36 := Mem.rfl' m50
 refine wpl_cut 13 [175, 176, 177, 178, 179, 180, 181, 182, 183, 184, 185, 186, 187] (fun f' w' => ∃ (M4 : Mem), m50 ≤ M4 ∧ St M4 ((bx b5 [vI x22.1.Id, vU x22.1.Key, vI x22.1.Delay, v9, v10, v11] 26) :: (bx b4 [vI x21.1.Log, vI x21.1.Size, vU x21.1.Root.1, vU x21.1.Root.2, vI x21.1.At, vU x21.1.Sig.E, vU x21.1.Sig.S] 57) :: (bx b3 [vI x20.1.Log, vI x20.1.Size, vU x20.1.Root.1, vU x20.1.Root.2, vI x20.1.At, vU x20.1.Sig.E, vU x20.1.Sig.S] 57) :: (bx b1 [vI a0.Id, vU a0.Key, vI a0.Delay, a0v3, a0v4, a0v5] 26) :: As) w' ∧ AllAt f' [(187, vb x24)]) ?_ ?_
 · rcases bool_tf (x22.2 != 0) with hb11 | hb11
   · replace q28 := ifT hb11 q28
     refine wpl_no (d := 174) rfl rfl (congrArg Value.bool hb11) <| wpl_no (d := 174) rfl rfl (congrArg Value.bool hb11) <| wpl_no (d := 174) rfl rfl (congrArg Value.bool hb11) <| wpl_no' (d := 177) rfl rfl rfl <| wpl_no' (d := 177) rfl rfl rfl <| wpl_no' (d := 177) rfl rfl rfl <| wpl_no (d := 174) rfl rfl (congrArg Value.bool hb11) <| wpl_no (d := 174) rfl rfl (congrArg Value.bool hb11) <| wpl_no' (d := 182) rfl rfl rfl <| wpl_no' (d := 182) rfl rfl rfl <| wpl_no' (d := 182) rfl rfl rfl <| wpl_no (d := 174) rfl rfl (congrArg Value.bool hb11) <| s_pickT (congrArg Value.bool hb11) rfl <| wpl_nil (nrm ?_)
     obtain ⟨m51, l33, S59⟩ := St.drop S58 0
     replace h3 := RepL.up l33 h3
     replace h28 := RepL.up l33 h28
     replace h21 := h21.up l33
     replace h22 := h22.up l33
     replace h23 := h23.up l33
     replace a0h3 := a0h3.up l33
     replace a0h4 := a0h4.up l33
     replace a0h5 := a0h5.up l33
     replace L36 := Mem.tr L36 l33
     clear S58
     replace S59 : St _ ((bx b5 [vI x22.1.Id, vU x22.1.Key, vI x22.1.Delay, v9, v10, v11] 26) :: (bx b4 [vI x21.1.Log, vI x21.1.Size, vU x21.1.Root.1, vU x21.1.Root.2, vI x21.1.At, vU x21.1.Sig.E, vU x21.1.Sig.S] 57) :: (bx b3 [vI x20.1.Log, vI x20.1.Size, vU x20.1.Root.1, vU x20.1.Root.2, vI x20.1.At, vU x20.1.Sig.E, vU x20.1.Sig.S] 57) :: (row 2 v1 c1 x6.1.length) :: (bx b1 [vI a0.Id, vU a0.Key, vI a0.Delay, a0v3, a0v4, a0v5] 26) :: As) _ := S59
     obtain ⟨m52, l34, S60⟩ := St.drop S59 3
     replace L36 := Mem.tr L36 l34
     clear S59
     replace S60 : St _ ((bx b5 [vI x22.1.Id, vU x22.1.Key, vI x22.1.Delay, v9, v10, v11] 26) :: (bx b4 [vI x21.1.Log, vI x21.1.Size, vU x21.1.Root.1, vU x21.1.Root.2, vI x21.1.At, vU x21.1.Sig.E, vU x21.1.Sig.S] 57) :: (bx b3 [vI x20.1.Log, vI x20.1.Size, vU x20.1.Root.1, vU x20.1.Root.2, vI x20.1.At, vU x20.1.Sig.E, vU x20.1.Sig.S] 57) :: (bx b1 [vI a0.Id, vU a0.Key, vI a0.Delay, a0v3, a0v4, a0v5] 26) :: As) _ := S60
     have e0 := Option.some.inj q28
     subst e0
     exact ⟨outP, m52, L36, S60, ⟨rfl, trivial⟩⟩
   replace q28 := ifF hb11 q28
   refine wpl_yes (d := 174) rfl rfl (congrArg Value.bool hb11) <| s_mvv (v := vI x23.2) rfl <| wpl_yes (d := 174) rfl rfl (congrArg Value.bool hb11) <| s_eql (m := x23.2) (n := 0) rfl rfl <| wpl_yes (d := 174) rfl rfl (congrArg Value.bool hb11) <| s_mvv (v := vb (x23.2 == 0)) rfl ?_
   rcases bool_tf (x23.2 == 0) with hb12 | hb12
   · replace q28 := ifT hb12 q28
     refine wpl_yes (d := 177) rfl rfl (congrArg Value.bool hb12) <| s_mvv (v := v1) rfl <| wpl_yes (d := 177) rfl rfl (congrArg Value.bool hb12) <| s_mvv (v := v12) rfl <| wpl_yes (d := 177) rfl rfl (congrArg Value.bool hb12) ?_
     obtain ⟨m53, l35, h29, S61⟩ := St.rowKeepT (i := 4) S58 rfl h3 rfl
     replace h28 := RepL.up l35 h28
     replace h21 := h21.up l35
     replace h22 := h22.up l35
     replace h23 := h23.up l35
     replace a0h3 := a0h3.up l35
     replace a0h4 := a0h4.up l35
     replace a0h5 := a0h5.up l35
     replace L36 := Mem.tr L36 l35
     clear S58
     obtain ⟨m54, l36, h30, S62⟩ := St.rowKeepT (i := 0) S61 rfl h28 rfl
     replace h29 := h29.up l36
     replace h21 := h21.up l36
     replace h22 := h22.up l36
     replace h23 := h23.up l36
     replace a0h3 := a0h3.up l36
     replace a0h4 := a0h4.up l36
     replace a0h5 := a0h5.up l36
     replace L36 := Mem.tr L36 l36
     clear S61
     obtain ⟨x25, q29, q28⟩ := obind_some q28
     refine s_call Try.call19 (w_ref08_Sums (a0 := x6.1) (a1 := x23.1) S62 h29 h30 q29) rfl ?_
     rintro _ w49 ⟨m55, l37, S63, rfl⟩
     replace h29 := h29.up l37
     replace h30 := h30.up l37
     replace h21 := h21.up l37
     replace h22 := h22.up l37
     replace h23 := h23.up l37
     replace a0h3 := a0h3.up l37
     replace a0h4 := a0h4.up l37
     replace a0h5 := a0h5.up l37
     replace L36 := Mem.tr L36 l37
     clear S62
     refine wpl_yes (d := 174) rfl rfl (congrArg Value.bool hb11) <| s_pickT (congrArg Value.bool hb12) rfl <| wpl_yes (d := 174) rfl rfl (congrArg Value.bool hb11) <| s_mvv (v := vb x25) rfl ?_
     rcases bool_tf x25 with hb13 | hb13
     · replace q28 := ifT hb13 q28
       refine wpl_yes (d := 182) rfl rfl (congrArg Value.bool hb13) <| s_ld (i := 0) (cs := [vI x22.1.Id, vU x22.1.Key, vI x22.1.Delay, v9, v10, v11]) S63 rfl rfl Try.isAgg26 Try.sizeOf26 rfl (fun h => by cases h) <| wpl_yes (d := 182) rfl rfl (congrArg Value.bool hb13) ?_
       obtain ⟨x26, q30, q28⟩ := obind_some q28
       refine s_call Try.call16 (w_logd_Check (a0 := x22.1) S63 h21 h22 h23 q30) rfl ?_
       rintro _ w50 ⟨m56, l38, S64, rfl⟩
       replace L36 := Mem.tr L36 l38
       clear S63
       refine wpl_yes (d := 182) rfl rfl (congrArg Value.bool hb13) <| s_eql (m := x26) (n := 0) rfl rfl <| wpl_yes (d := 174) rfl rfl (congrArg Value.bool hb11) <| s_pickT (congrArg Value.bool hb13) rfl <| s_pickF (congrArg Value.bool hb11) rfl <| wpl_nil (nrm ?_)
       have e0 := Option.some.inj q28
       subst e0
       exact ⟨outP, m56, L36, S64, ⟨rfl, trivial⟩⟩
     replace q28 := ifF hb13 q28
     refine wpl_no (d := 182) rfl rfl (congrArg Value.bool hb13) <| wpl_no (d := 182) rfl rfl (congrArg Value.bool hb13) <| wpl_no (d := 182) rfl rfl (congrArg Value.bool hb13) <| wpl_yes (d := 174) rfl rfl (congrArg Value.bool hb11) <| s_pickF (congrArg Value.bool hb13) rfl <| s_pickF (congrArg Value.bool hb11) rfl <| wpl_nil (nrm ?_)
     have e0 := Option.some.inj q28
     subst e0
     exact ⟨outP, m55, L36, S63, ⟨rfl, trivial⟩⟩
   replace q28 := ifF hb12 q28
   refine wpl_no (d := 177) rfl rfl (congrArg Value.bool hb12) <| wpl_no (d := 177) rfl rfl (congrArg Value.bool hb12) <| wpl_no (d := 177) rfl rfl (congrArg Value.bool hb12) <| wpl_yes (d := 174) rfl rfl (congrArg Value.bool hb11) <| s_pickF (congrArg Value.bool hb12) rfl <| wpl_yes (d := 174) rfl rfl (congrArg Value.bool hb11) <| s_mvv (v := vb false) rfl ?_
   rcases bool_tf false with hb14 | hb14
   · replace q28 := ifT hb14 q28
     refine wpl_yes (d := 182) rfl rfl (congrArg Value.bool hb14) <| s_ld (i := 1) (cs := [vI x22.1.Id, vU x22.1.Key, vI x22.1.Delay, v9, v10, v11]) S58 rfl rfl Try.isAgg26 Try.sizeOf26 rfl (fun h => by cases h) <| wpl_yes (d := 182) rfl rfl (congrArg Value.bool hb14) ?_
     obtain ⟨x27, q31, q28⟩ := obind_some q28
     refine s_call Try.call16 (w_logd_Check (a0 := x22.1) S58 h21 h22 h23 q31) rfl ?_
     rintro _ w51 ⟨m57, l39, S65, rfl⟩
     replace h3 := RepL.up l39 h3
     replace h28 := RepL.up l39 h28
     replace h21 := h21.up l39
     replace h22 := h22.up l39
     replace h23 := h23.up l39
     replace a0h3 := a0h3.up l39
     replace a0h4 := a0h4.up l39
     replace a0h5 := a0h5.up l39
     replace L36 := Mem.tr L36 l39
     clear S58
     refine wpl_yes (d := 182) rfl rfl (congrArg Value.bool hb14) <| s_eql (m := x27) (n := 0) rfl rfl <| wpl_yes (d := 174) rfl rfl (congrArg Value.bool hb11) <| s_pickT (congrArg Value.bool hb14) rfl <| s_pickF (congrArg Value.bool hb11) rfl <| wpl_nil (nrm ?_)
     obtain ⟨m58, l40, S66⟩ := St.drop S65 0
     replace h3 := RepL.up l40 h3
     replace h28 := RepL.up l40 h28
     replace h21 := h21.up l40
     replace h22 := h22.up l40
     replace h23 := h23.up l40
     replace a0h3 := a0h3.up l40
     replace a0h4 := a0h4.up l40
     replace a0h5 := a0h5.up l40
     replace L36 := Mem.tr L36 l40
     clear S65
     replace S66 : St _ ((bx b5 [vI x22.1.Id, vU x22.1.Key, vI x22.1.Delay, v9, v10, v11] 26) :: (bx b4 [vI x21.1.Log, vI x21.1.Size, vU x21.1.Root.1, vU x21.1.Root.2, vI x21.1.At, vU x21.1.Sig.E, vU x21.1.Sig.S] 57) :: (bx b3 [vI x20.1.Log, vI x20.1.Size, vU x20.1.Root.1, vU x20.1.Root.2, vI x20.1.At, vU x20.1.Sig.E, vU x20.1.Sig.S] 57) :: (row 2 v1 c1 x6.1.length) :: (bx b1 [vI a0.Id, vU a0.Key, vI a0.Delay, a0v3, a0v4, a0v5] 26) :: As) _ := S66
     obtain ⟨m59, l41, S67⟩ := St.drop S66 3
     replace L36 := Mem.tr L36 l41
     clear S66
     replace S67 : St _ ((bx b5 [vI x22.1.Id, vU x22.1.Key, vI x22.1.Delay, v9, v10, v11] 26) :: (bx b4 [vI x21.1.Log, vI x21.1.Size, vU x21.1.Root.1, vU x21.1.Root.2, vI x21.1.At, vU x21.1.Sig.E, vU x21.1.Sig.S] 57) :: (bx b3 [vI x20.1.Log, vI x20.1.Size, vU x20.1.Root.1, vU x20.1.Root.2, vI x20.1.At, vU x20.1.Sig.E, vU x20.1.Sig.S] 57) :: (bx b1 [vI a0.Id, vU a0.Key, vI a0.Delay, a0v3, a0v4, a0v5] 26) :: As) _ := S67
     have e0 := Option.some.inj q28
     subst e0
     exact ⟨outP, m59, L36, S67, ⟨rfl, trivial⟩⟩
   replace q28 := ifF hb14 q28
   refine wpl_no (d := 182) rfl rfl (congrArg Value.bool hb14) <| wpl_no (d := 182) rfl rfl (congrArg Value.bool hb14) <| wpl_no (d := 182) rfl rfl (congrArg Value.bool hb14) <| wpl_yes (d := 174) rfl rfl (congrArg Value.bool hb11) <| s_pickF (congrArg Value.bool hb14) rfl <| s_pickF (congrArg Value.bool hb11) rfl <| wpl_nil (nrm ?_)
   obtain ⟨m60, l42, S68⟩ := St.drop S58 0
   replace h3 := RepL.up l42 h3
   replace h28 := RepL.up l42 h28
   replace h21 := h21.up l42
   replace h22 := h22.up l42
   replace h23 := h23.up l42
   replace a0h3 := a0h3.up l42
   replace a0h4 := a0h4.up l42
   replace a0h5 := a0h5.up l42
   replace L36 := Mem.tr L36 l42
   clear S58
   replace S68 : St _ ((bx b5 [vI x22.1.Id, vU x22.1.Key, vI x22.1.Delay, v9, v10, v11] 26) :: (bx b4 [vI x21.1.Log, vI x21.1.Size, vU x21.1.Root.1, vU x21.1.Root.2, vI x21.1.At, vU x21.1.Sig.E, vU x21.1.Sig.S] 57) :: (bx b3 [vI x20.1.Log, vI x20.1.Size, vU x20.1.Root.1, vU x20.1.Root.2, vI x20.1.At, vU x20.1.Sig.E, vU x20.1.Sig.S] 57) :: (row 2 v1 c1 x6.1.length) :: (bx b1 [vI a0.Id, vU a0.Key, vI a0.Delay, a0v3, a0v4, a0v5] 26) :: As) _ := S68
   obtain ⟨m61, l43, S69⟩ := St.drop S68 3
   replace L36 := Mem.tr L36 l43
   clear S68
   replace S69 : St _ ((bx b5 [vI x22.1.Id, vU x22.1.Key, vI x22.1.Delay, v9, v10, v11] 26) :: (bx b4 [vI x21.1.Log, vI x21.1.Size, vU x21.1.Root.1, vU x21.1.Root.2, vI x21.1.At, vU x21.1.Sig.E, vU x21.1.Sig.S] 57) :: (bx b3 [vI x20.1.Log, vI x20.1.Size, vU x20.1.Root.1, vU x20.1.Root.2, vI x20.1.At, vU x20.1.Sig.E, vU x20.1.Sig.S] 57) :: (bx b1 [vI a0.Id, vU a0.Key, vI a0.Delay, a0v3, a0v4, a0v5] 26) :: As) _ := S69
   have e0 := Option.some.inj q28
   subst e0
   exact ⟨outP, m61, L36, S69, ⟨rfl, trivial⟩⟩
 rintro f29 w52 ho ⟨m62, l44, S70, ha⟩
 obtain ⟨u29, rfl⟩ := fr_of (N := 188) ho ha
 replace a0h3 := a0h3.up l44
 replace a0h4 := a0h4.up l44
 replace a0h5 := a0h5.up l44
 replace L0 := Mem.tr L0 l44
 clear S58
 refine s_asv (v := vb x24) rfl <| wpl_nil <| nrm <| wpc_ret <| outRw fun we hpd => ?_
 replace S70 := St.pd S70 hpd
 obtain ⟨m63, l45, S71⟩ := St.drop S70 0
 replace a0h3 := a0h3.up l45
 replace a0h4 := a0h4.up l45
 replace a0h5 := a0h5.up l45
 replace L0 := Mem.tr L0 l45
 clear S70
 replace S71 : St _ ((bx b4 [vI x21.1.Log, vI x21.1.Size, vU x21.1.Root.1, vU x21.1.Root.2, vI x21.1.At, vU x21.1.Sig.E, vU x21.1.Sig.S] 57) :: (bx b3 [vI x20.1.Log, vI x20.1.Size, vU x20.1.Root.1, vU x20.1.Root.2, vI x20.1.At, vU x20.1.Sig.E, vU x20.1.Sig.S] 57) :: (bx b1 [vI a0.Id, vU a0.Key, vI a0.Delay, a0v3, a0v4, a0v5] 26) :: As) _ := S71
 obtain ⟨m64, l46, S72⟩ := St.drop S71 0
 replace a0h3 := a0h3.up l46
 replace a0h4 := a0h4.up l46
 replace a0h5 := a0h5.up l46
 replace L0 := Mem.tr L0 l46
 clear S71
 replace S72 : St _ ((bx b3 [vI x20.1.Log, vI x20.1.Size, vU x20.1.Root.1, vU x20.1.Root.2, vI x20.1.At, vU x20.1.Sig.E, vU x20.1.Sig.S] 57) :: (bx b1 [vI a0.Id, vU a0.Key, vI a0.Delay, a0v3, a0v4, a0v5] 26) :: As) _ := S72
 obtain ⟨m65, l47, S73⟩ := St.drop S72 0
 replace L0 := Mem.tr L0 l47
 clear S72
 replace S73 : St _ ((bx b1 [vI a0.Id, vU a0.Key, vI a0.Delay, a0v3, a0v4, a0v5] 26) :: As) _ := S73
 obtain ⟨m66, l48, S74⟩ := St.drop S73 0
 replace L0 := Mem.tr L0 l48
 clear S73
 replace S74 : St _ (As) _ := S74
 have e0 := Option.some.inj hm
 subst e0
 exact outR [_] rfl ⟨rfl, trivial⟩ ⟨_, L0, S74, rfl⟩

end Go.Proofs.Ytemiampgjgenhaa
