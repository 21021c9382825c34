/- The walks of some functions, written by program. Conditions: none. -/
import Derived.Test.YtemiampgjgenhaaWkB
set_option maxHeartbeats 20000000
set_option maxRecDepth 100000
set_option linter.unusedVariables false
set_option linter.unusedSimpArgs false
namespace Go.Proofs.Ytemiampgjgenhaa
open Go Go.Gw

def m_bits_Len64 (a0 : UInt64) : Option Int :=
  obind (
    if (decide ((a0.toNat : Int) ≥ 4294967296)) = true then
      some ((shrU a0 32), 32)
    else
    some (a0, 0)
  ) fun x1 =>
  obind (
    if (decide ((x1.1.toNat : Int) ≥ 65536)) = true then
      some ((shrU x1.1 16), (w64 (x1.2 + 16)))
    else
    some (x1.1, x1.2)
  ) fun x2 =>
  obind (
    if (decide ((x2.1.toNat : Int) ≥ 256)) = true then
      some ((shrU x2.1 8), (w64 (x2.2 + 8)))
    else
    some (x2.1, x2.2)
  ) fun x3 =>
  obind (idx str_0.data.toList ((toB (x3.1.toNat : Int)).toNat : Int)) fun x4 =>
  bnd ((w64 (x3.2 + (w64 (x4.toNat : Int))))) fun x5 =>
  some x5

theorem w_bits_Len64 {m : Mem} {As : List Ow} {w : World} {a0 : UInt64} {r : Int} (S : St m (As) w) (hm : m_bits_Len64 a0 = some r) :
    CallsR Try.prog 98 #[vU a0] w fun v w' => ∃ (M : Mem), m ≤ M ∧ St M (As) w' ∧ v = vI r := by
 unfold m_bits_Len64 at hm
 have L0 := Mem.rfl' m
 refine callsR (args := [vU a0]) Try.func98 rfl Try.ntmps98 (Nat.le_of_ble_eq_true rfl) <| wpc_seq <| wpc_region <| s_asv (v := vI 0) rfl <| wpl_nil <| nrm ?_
 obtain ⟨x1, q1, hm⟩ := obind_some hm
 have L1 := Mem.rfl' m
 refine wpc_seq <| wpc_join [0, 2, 3, 4, 5, 6] (fun f' w' => ∃ (M1 : Mem), m ≤ M1 ∧ St M1 (As) w' ∧ AllAt f' [(0, vU x1.1), (2, vI x1.2)]) ?_ ?_
 · refine wpc_seq <| wpc_region <| s_mvv (v := vU a0) rfl <| s_geq (m := (a0.toNat : Int)) (n := 4294967296) rfl rfl <| wpl_nil <| nrm <| wpc_if (t := (decide ((a0.toNat : Int) ≥ 4294967296))) rfl (fun hc1 => ?_) (fun hc1 => ?_)
   · replace q1 := ifT hc1 q1
     refine wpc_seq <| wpc_region <| s_mvv (v := vU a0) rfl <| s_shrU (m := a0) (n := 32) rfl rfl (by decide) <| s_asv (v := vU (shrU a0 32)) rfl <| wpl_nil <| nrm <| wpc_region <| s_asv (v := vI 32) rfl <| wpl_nil <| nrm ?_
     have e0 := Option.some.inj q1
     subst e0
     exact ⟨outP, m, L1, S, ⟨rfl, rfl, trivial⟩⟩
   replace q1 := ifF hc1 q1
   refine wpc_skip <| nrm ?_
   have e0 := Option.some.inj q1
   subst e0
   exact ⟨outP, m, L1, S, ⟨rfl, rfl, trivial⟩⟩
 rintro f1 w1 ho ⟨m1, l1, S1, ha⟩
 obtain ⟨u1, rfl⟩ := fr_of (N := 25) ho ha
 replace L0 := Mem.tr L0 l1
 clear S
 obtain ⟨x2, q2, hm⟩ := obind_some hm
 have L2 := Mem.rfl' m1
 refine wpc_seq <| wpc_join [0, 2, 7, 8, 9, 10, 11, 12] (fun f' w' => ∃ (M2 : Mem), m1 ≤ M2 ∧ St M2 (As) w' ∧ AllAt f' [(0, vU x2.1), (2, vI x2.2)]) ?_ ?_
 · refine wpc_seq <| wpc_region <| s_mvv (v := vU x1.1) rfl <| s_geq (m := (x1.1.toNat : Int)) (n := 65536) rfl rfl <| wpl_nil <| nrm <| wpc_if (t := (decide ((x1.1.toNat : Int) ≥ 65536))) rfl (fun hc2 => ?_) (fun hc2 => ?_)
   · replace q2 := ifT hc2 q2
     refine wpc_seq <| wpc_region <| s_mvv (v := vU x1.1) rfl <| s_shrU (m := x1.1) (n := 16) rfl rfl (by decide) <| s_asv (v := vU (shrU x1.1 16)) rfl <| wpl_nil <| nrm <| wpc_region <| s_mvv (v := vI x1.2) rfl <| s_addI (m := x1.2) (n := 16) rfl rfl <| s_asv (v := vI (w64 (x1.2 + 16))) rfl <| wpl_nil <| nrm ?_
     have e0 := Option.some.inj q2
     subst e0
     exact ⟨outP, m1, L2, S1, ⟨rfl, rfl, trivial⟩⟩
   replace q2 := ifF hc2 q2
   refine wpc_skip <| nrm ?_
   have e0 := Option.some.inj q2
   subst e0
   exact ⟨outP, m1, L2, S1, ⟨rfl, rfl, trivial⟩⟩
 rintro f2 w2 ho ⟨m2, l2, S2, ha⟩
 obtain ⟨u2, rfl⟩ := fr_of (N := 25) ho ha
 replace L0 := Mem.tr L0 l2
 clear S1
 obtain ⟨x3, q3, hm⟩ := obind_some hm
 have L3 := Mem.rfl' m2
 refine wpc_seq <| wpc_join [0, 2, 13, 14, 15, 16, 17, 18] (fun f' w' => ∃ (M3 : Mem), m2 ≤ M3 ∧ St M3 (As) w' ∧ AllAt f' [(0, vU x3.1), (2, vI x3.2)]) ?_ ?_
 · refine wpc_seq <| wpc_region <| s_mvv (v := vU x2.1) rfl <| s_geq (m := (x2.1.toNat : Int)) (n := 256) rfl rfl <| wpl_nil <| nrm <| wpc_if (t := (decide ((x2.1.toNat : Int) ≥ 256))) rfl (fun hc3 => ?_) (fun hc3 => ?_)
   · replace q3 := ifT hc3 q3
     refine wpc_seq <| wpc_region <| s_mvv (v := vU x2.1) rfl <| s_shrU (m := x2.1) (n := 8) rfl rfl (by decide) <| s_asv (v := vU (shrU x2.1 8)) rfl <| wpl_nil <| nrm <| wpc_region <| s_mvv (v := vI x2.2) rfl <| s_addI (m := x2.2) (n := 8) rfl rfl <| s_asv (v := vI (w64 (x2.2 + 8))) rfl <| wpl_nil <| nrm ?_
     have e0 := Option.some.inj q3
     subst e0
     exact ⟨outP, m2, L3, S2, ⟨rfl, rfl, trivial⟩⟩
   replace q3 := ifF hc3 q3
   refine wpc_skip <| nrm ?_
   have e0 := Option.some.inj q3
   subst e0
   exact ⟨outP, m2, L3, S2, ⟨rfl, rfl, trivial⟩⟩
 rintro f3 w3 ho ⟨m3, l3, S3, ha⟩
 obtain ⟨u3, rfl⟩ := fr_of (N := 25) ho ha
 replace L0 := Mem.tr L0 l3
 clear S2
 refine wpc_seq <| wpc_region <| s_mvv (v := vI x3.2) rfl <| s_mvv (v := vU x3.1) rfl <| s_convB rfl Try.underlying22 Try.underlying5 ?_
 obtain ⟨x4, q4, hm⟩ := obind_some hm
 refine s_indexS (s := str_0) (i := ((toB (x3.1.toNat : Int)).toNat : Int)) rfl rfl Try.underlying9 q4 <| s_convI rfl Try.underlying5 Try.underlying3 <| s_addI (m := x3.2) (n := (w64 (x4.toNat : Int))) rfl rfl ?_
 obtain ⟨x5, q5, hm⟩ := bnd_eq hm
 refine s_asv (v := vI x5) (congrArg (fun z => vI z) q5.symm) <| wpl_nil <| nrm <| wpc_ret <| outRw fun we hpd => ?_
 replace S3 := St.pd S3 hpd
 have e0 := Option.some.inj hm
 subst e0
 exact outR [_] rfl ⟨rfl, trivial⟩ ⟨_, L0, S3, rfl⟩

def m_bits_LeadingZeros64 (a0 : UInt64) : Option Int :=
  obind (m_bits_Len64 a0) fun x1 =>
  some (w64 (64 - x1))

theorem w_bits_LeadingZeros64 {m : Mem} {As : List Ow} {w : World} {a0 : UInt64} {r : Int} (S : St m (As) w) (hm : m_bits_LeadingZeros64 a0 = some r) :
    CallsR Try.prog 100 #[vU a0] w fun v w' => ∃ (M : Mem), m ≤ M ∧ St M (As) w' ∧ v = vI r := by
 unfold m_bits_LeadingZeros64 at hm
 have L0 := Mem.rfl' m
 refine callsR (args := [vU a0]) Try.func100 rfl Try.ntmps100 (Nat.le_of_ble_eq_true rfl) <| wpc_seq <| wpc_region <| s_asv (v := vI 0) rfl <| wpl_nil <| nrm <| wpc_seq <| wpc_region <| s_mvv (v := vU a0) rfl ?_
 obtain ⟨x1, q1, hm⟩ := obind_some hm
 refine s_call Try.call98 (w_bits_Len64 (a0 := a0) S  q1) rfl ?_
 rintro _ w1 ⟨m1, l1, S1, rfl⟩
 replace L0 := Mem.tr L0 l1
 clear S
 refine s_subI (m := 64) (n := x1) rfl rfl <| s_asv (v := vI (w64 (64 - x1))) rfl <| wpl_nil <| nrm <| wpc_ret <| outRw fun we hpd => ?_
 replace S1 := St.pd S1 hpd
 have e0 := Option.some.inj hm
 subst e0
 exact outR [_] rfl ⟨rfl, trivial⟩ ⟨_, L0, S1, rfl⟩

def m_bits_Div64_b1 (x4 : UInt64) (x5 : UInt64) (x7 : UInt64) (s1 : UInt64 × UInt64) : Option ((UInt64 × UInt64) ⊕ (UInt64)) :=
  if ((decide ((s1.1.toNat : Int) ≥ 4294967296)) || (decide (((s1.1 * x5).toNat : Int) > (((4294967296 * s1.2) + x7).toNat : Int)))) = true then
    if (decide (((s1.2 + x4).toNat : Int) ≥ 4294967296)) = true then
      some (.inr (s1.1 - 1))
    else
    some (.inl ((s1.1 - 1), (s1.2 + x4)))
  else
  some (.inr s1.1)

def m_bits_Div64_b2 (x4 : UInt64) (x5 : UInt64) (x8 : UInt64) (s2 : UInt64 × UInt64) : Option ((UInt64 × UInt64) ⊕ (UInt64)) :=
  if ((decide ((s2.2.toNat : Int) ≥ 4294967296)) || (decide (((s2.2 * x5).toNat : Int) > (((4294967296 * s2.1) + x8).toNat : Int)))) = true then
    if (decide (((s2.1 + x4).toNat : Int) ≥ 4294967296)) = true then
      some (.inr (s2.2 - 1))
    else
    some (.inl ((s2.1 + x4), (s2.2 - 1)))
  else
  some (.inr s2.2)

def m_bits_Div64 (a0 : UInt64) (a1 : UInt64) (a2 : UInt64) : Option (UInt64 × UInt64) :=
  obind (
    if ((a2.toNat : Int) == 0) = true then
      none
    else
    some ()
  ) fun x1 =>
  obind (
    if (decide ((a2.toNat : Int) ≤ (a0.toNat : Int))) = true then
      none
    else
    some ()
  ) fun x2 =>
  if ((a0.toNat : Int) == 0) = true then
    if a2 ≠ 0 then
      if a2 ≠ 0 then
        some ((a1 / a2), (a1 % a2))
      else none
    else none
  else
  obind (m_bits_LeadingZeros64 a2) fun x3 =>
  bnd ((shrU (shlU a2 ((toU x3).toNat)) 32)) fun x4 =>
  bnd (((shlU a2 ((toU x3).toNat)) &&& 4294967295)) fun x5 =>
  bnd (((shlU a0 ((toU x3).toNat)) ||| (shrU a1 ((64 - (toU x3)).toNat)))) fun x6 =>
  bnd ((shrU (shlU a1 ((toU x3).toNat)) 32)) fun x7 =>
  bnd (((shlU a1 ((toU x3).toNat)) &&& 4294967295)) fun x8 =>
  if x4 ≠ 0 then
    obind (
      obind (iter (m_bits_Div64_b1 x4 x5 x7) FUEL ((x6 / x4), (x6 - ((x6 / x4) * x4)))) fun x10 =>
      some x10
    ) fun x9 =>
    bnd ((((x6 * 4294967296) + x7) - (x9 * (shlU a2 ((toU x3).toNat))))) fun x12 =>
    if x4 ≠ 0 then
      obind (
        obind (iter (m_bits_Div64_b2 x4 x5 x8) FUEL ((x12 - ((x12 / x4) * x4)), (x12 / x4))) fun x14 =>
        some x14
      ) fun x13 =>
      bnd ((shrU (((x12 * 4294967296) + x8) - (x13 * (shlU a2 ((toU x3).toNat)))) ((toU x3).toNat))) fun x16 =>
      some (((x9 * 4294967296) + x13), x16)
    else none
  else none

theorem w_bits_Div64 {m : Mem} {As : List Ow} {w : World} {a0 : UInt64} {a1 : UInt64} {a2 : UInt64} {r : UInt64 × UInt64} (S : St m (As) w) (hm : m_bits_Div64 a0 a1 a2 = some r) :
    CallsR Try.prog 87 #[vU a0, vU a1, vU a2] w fun v w' => ∃ (M : Mem), m ≤ M ∧ St M (As) w' ∧ v = .tuple #[vU r.1, vU r.2] := by
 unfold m_bits_Div64 at hm
 have L0 := Mem.rfl' m
 refine callsR (args := [vU a0, vU a1, vU a2]) Try.func87 rfl Try.ntmps87 (Nat.le_of_ble_eq_true rfl) <| wpc_seq <| wpc_region <| s_asv (v := vU 0) rfl <| s_asv (v := vU 0) rfl <| wpl_nil <| nrm ?_
 obtain ⟨x1, q1, hm⟩ := obind_some hm
 have L1 := Mem.rfl' m
 refine wpc_seq <| wpc_join [19, 20, 21] (fun f' w' => ∃ (M1 : Mem), m ≤ M1 ∧ St M1 (As) w' ∧ AllAt f' []) ?_ ?_
 · refine wpc_seq <| wpc_region <| s_mvv (v := vU a2) rfl <| s_eql (m := (a2.toNat : Int)) (n := 0) rfl rfl <| wpl_nil <| nrm <| wpc_if (t := ((a2.toNat : Int) == 0)) rfl (fun hc1 => ?_) (fun hc1 => ?_)
   · replace q1 := ifT hc1 q1
     cases q1
   replace q1 := ifF hc1 q1
   refine wpc_skip <| nrm ?_
   have e0 := Option.some.inj q1
   subst e0
   exact ⟨outP, m, L1, S, trivial⟩
 rintro f1 w1 ho ⟨m1, l1, S1, ha⟩
 obtain ⟨u1, rfl⟩ := fr_of (N := 135) ho ha
 replace L0 := Mem.tr L0 l1
 clear S
 obtain ⟨x2, q2, hm⟩ := obind_some hm
 have L2 := Mem.rfl' m1
 refine wpc_seq <| wpc_join [22, 23, 24, 25] (fun f' w' => ∃ (M2 : Mem), m1 ≤ M2 ∧ St M2 (As) w' ∧ AllAt f' []) ?_ ?_
 · refine wpc_seq <| wpc_region <| s_mvv (v := vU a2) rfl <| s_mvv (v := vU a0) rfl <| s_leq (m := (a2.toNat : Int)) (n := (a0.toNat : Int)) rfl rfl <| wpl_nil <| nrm <| wpc_if (t := (decide ((a2.toNat : Int) ≤ (a0.toNat : Int)))) rfl (fun hc2 => ?_) (fun hc2 => ?_)
   · replace q2 := ifT hc2 q2
     cases q2
   replace q2 := ifF hc2 q2
   refine wpc_skip <| nrm ?_
   have e0 := Option.some.inj q2
   subst e0
   exact ⟨outP, m1, L2, S1, trivial⟩
 rintro f2 w2 ho ⟨m2, l2, S2, ha⟩
 obtain ⟨u2, rfl⟩ := fr_of (N := 135) ho ha
 replace L0 := Mem.tr L0 l2
 clear S1
 refine wpc_seq <| wpc_seq <| wpc_region <| s_mvv (v := vU a0) rfl <| s_eql (m := (a0.toNat : Int)) (n := 0) rfl rfl <| wpl_nil <| nrm <| wpc_if (t := ((a0.toNat : Int) == 0)) rfl (fun hc3 => ?_) (fun hc3 => ?_)
 · replace hm := ifT hc3 hm
   refine wpc_seq ?_
   obtain ⟨q3, hm⟩ := if_some hm
   obtain ⟨q4, hm⟩ := if_some hm
   have HM : MonoAll [(28, fun (M : Mem) (v : Value) => v = vU a1), (29, fun (M : Mem) (v : Value) => v = vU a2), (30, fun (M : Mem) (v : Value) => v = vU (a1 / a2)), (31, fun (M : Mem) (v : Value) => v = vU a1), (32, fun (M : Mem) (v : Value) => v = vU a2), (33, fun (M : Mem) (v : Value) => v = vU (a1 % a2)), (6, fun (M : Mem) (v : Value) => v = vU (a1 / a2))] := ⟨(fun _ _ _ _ h => h), (fun _ _ _ _ h => h), (fun _ _ _ _ h => h), (fun _ _ _ _ h => h), (fun _ _ _ _ h => h), (fun _ _ _ _ h => h), (fun _ _ _ _ h => h), trivial⟩
   refine wpc_flowG HM 7 mixed rfl rfl rfl [6, 28, 29, 30, 31, 32, 33] (fun L f M w => St M (As) w) (St.drew S2 _) ?_ ?_
   · refine ⟨?_, ?_, ?_, ?_, ?_, ?_, ?_, trivial⟩
     · intro L f3 w3 hL hd hc ⟨m3, L3, S3, K, hO⟩
       obtain ⟨u3, rfl⟩ := fr_of (N := 135) (L := []) hO trivial
       exact s_mvv (v := vU a1) rfl <| oS HM L3 S3 rfl K rfl rfl rfl outP
     · intro L f4 w4 hL hd hc ⟨m4, L5, S4, K, hO⟩
       obtain ⟨u4, rfl⟩ := fr_of (N := 135) (L := []) hO trivial
       exact s_mvv (v := vU a2) rfl <| oS HM L5 S4 rfl K rfl rfl rfl outP
     · intro L f5 w5 hL hd hc ⟨m5, L7, S5, K, hO⟩
       obtain ⟨u5, rfl⟩ := fr_of (N := 135) (L := [(28, _), (29, _)]) hO ⟨K 0 (dep hd rfl), K 1 (dep hd rfl), trivial⟩
       exact s_quoU (m := a1) (n := a2) rfl rfl q3 <| oS HM L7 S5 rfl K rfl rfl rfl outP
     · intro L f6 w6 hL hd hc ⟨m6, L9, S6, K, hO⟩
       obtain ⟨u6, rfl⟩ := fr_of (N := 135) (L := []) hO trivial
       exact s_mvv (v := vU a1) rfl <| oS HM L9 S6 rfl K rfl rfl rfl outP
     · intro L f7 w7 hL hd hc ⟨m7, L11, S7, K, hO⟩
       obtain ⟨u7, rfl⟩ := fr_of (N := 135) (L := []) hO trivial
       exact s_mvv (v := vU a2) rfl <| oS HM L11 S7 rfl K rfl rfl rfl outP
     · intro L f8 w8 hL hd hc ⟨m8, L13, S8, K, hO⟩
       obtain ⟨u8, rfl⟩ := fr_of (N := 135) (L := [(31, _), (32, _)]) hO ⟨K 3 (dep hd rfl), K 4 (dep hd rfl), trivial⟩
       exact s_remU (m := a1) (n := a2) rfl rfl q4 <| oS HM L13 S8 rfl K rfl rfl rfl outP
     · intro L f9 w9 hL hd hc ⟨m9, L15, S9, K, hO⟩
       obtain ⟨u9, rfl⟩ := fr_of (N := 135) (L := [(30, _)]) hO ⟨K 2 (dep hd rfl), trivial⟩
       exact s_asv (v := vU (a1 / a2)) rfl <| oS HM L15 S9 rfl K rfl rfl rfl outP
   intro L f10 w10 hall ⟨m10, L17, S10, K, hO⟩
   have d6 : L 6 = true := hall 6 (by decide)
   have d5 : L 5 = true := hall 5 (by decide)
   obtain ⟨u10, rfl⟩ := fr_of (N := 135) (L := [(6, _), (33, _)]) hO ⟨K 6 d6, K 5 d5, trivial⟩
   replace S10 : St _ (As) _ := S10
   replace L0 := Mem.tr L0 L17
   clear S2
   refine s_asv (v := vU (a1 % a2)) rfl <| wpl_nil <| nrm <| wpc_ret <| thR <| outRw fun we hpd => ?_
   replace S10 := St.pd S10 hpd
   have e0 := Option.some.inj hm
   subst e0
   exact outR [_, _] rfl ⟨rfl, rfl, trivial⟩ ⟨_, L0, S10, rfl⟩
 replace hm := ifF hc3 hm
 refine wpc_skip <| nrm <| wpc_seq <| wpc_region <| s_mvv (v := vU a2) rfl ?_
 obtain ⟨x3, q5, hm⟩ := obind_some hm
 refine s_call Try.call100 (w_bits_LeadingZeros64 (a0 := a2) S2  q5) rfl ?_
 rintro _ w11 ⟨m11, l3, S11, rfl⟩
 replace L0 := Mem.tr L0 l3
 clear S2
 refine s_convU rfl Try.underlying3 Try.underlying114 <| s_asv (v := vU (toU x3)) rfl <| wpl_nil <| nrm <| wpc_seq <| wpc_region <| s_mvv (v := vU a2) rfl <| s_mvv (v := vU (toU x3)) rfl <| s_shlU (m := a2) (n := ((toU x3).toNat : Int)) rfl rfl (by omega) <| s_asv (v := vU (shlU a2 ((toU x3).toNat))) rfl <| wpl_nil <| nrm <| wpc_seq <| wpc_region <| s_mvv (v := vU (shlU a2 ((toU x3).toNat))) rfl <| s_shrU (m := (shlU a2 ((toU x3).toNat))) (n := 32) rfl rfl (by decide) ?_
 obtain ⟨x4, q6, hm⟩ := bnd_eq hm
 refine s_asv (v := vU x4) (congrArg (fun z => vU z) q6.symm) <| wpl_nil <| nrm <| wpc_seq <| wpc_region <| s_mvv (v := vU (shlU a2 ((toU x3).toNat))) rfl <| s_andU (m := (shlU a2 ((toU x3).toNat))) (n := 4294967295) rfl rfl ?_
 obtain ⟨x5, q7, hm⟩ := bnd_eq hm
 refine s_asv (v := vU x5) (congrArg (fun z => vU z) q7.symm) <| wpl_nil <| nrm <| wpc_seq <| wpc_region <| s_mvv (v := vU a0) rfl <| s_mvv (v := vU (toU x3)) rfl <| s_shlU (m := a0) (n := ((toU x3).toNat : Int)) rfl rfl (by omega) <| s_mvv (v := vU a1) rfl <| s_mvv (v := vU (toU x3)) rfl <| s_subU (m := 64) (n := (toU x3)) rfl rfl <| s_shrU (m := a1) (n := ((64 - (toU x3)).toNat : Int)) rfl rfl (by omega) <| s_orU (m := (shlU a0 ((toU x3).toNat))) (n := (shrU a1 ((64 - (toU x3)).toNat))) rfl rfl ?_
 obtain ⟨x6, q8, hm⟩ := bnd_eq hm
 refine s_asv (v := vU x6) (congrArg (fun z => vU z) q8.symm) <| wpl_nil <| nrm <| wpc_seq <| wpc_region <| s_mvv (v := vU a1) rfl <| s_mvv (v := vU (toU x3)) rfl <| s_shlU (m := a1) (n := ((toU x3).toNat : Int)) rfl rfl (by omega) <| s_asv (v := vU (shlU a1 ((toU x3).toNat))) rfl <| wpl_nil <| nrm <| wpc_seq <| wpc_region <| s_mvv (v := vU (shlU a1 ((toU x3).toNat))) rfl <| s_shrU (m := (shlU a1 ((toU x3).toNat))) (n := 32) rfl rfl (by decide) ?_
 obtain ⟨x7, q9, hm⟩ := bnd_eq hm
 refine s_asv (v := vU x7) (congrArg (fun z => vU z) q9.symm) <| wpl_nil <| nrm <| wpc_seq <| wpc_region <| s_mvv (v := vU (shlU a1 ((toU x3).toNat))) rfl <| s_andU (m := (shlU a1 ((toU x3).toNat))) (n := 4294967295) rfl rfl ?_
 obtain ⟨x8, q10, hm⟩ := bnd_eq hm
 refine s_asv (v := vU x8) (congrArg (fun z => vU z) q10.symm) <| wpl_nil <| nrm <| wpc_seq <| wpc_region <| s_mvv (v := vU x6) rfl <| s_mvv (v := vU x4) rfl ?_
 obtain ⟨q11, hm⟩ := if_some hm
 refine s_quoU (m := x6) (n := x4) rfl rfl q11 <| s_asv (v := vU (x6 / x4)) rfl <| wpl_nil <| nrm <| wpc_seq <| wpc_region <| s_mvv (v := vU x6) rfl <| s_mvv (v := vU (x6 / x4)) rfl <| s_mvv (v := vU x4) rfl <| s_mulU (m := (x6 / x4)) (n := x4) rfl rfl <| s_subU (m := x6) (n := ((x6 / x4) * x4)) rfl rfl <| s_asv (v := vU (x6 - ((x6 / x4) * x4))) rfl <| wpl_nil <| nrm ?_
 obtain ⟨x9, q12, hm⟩ := obind_some hm
 have L18 := Mem.rfl' m11
 refine wpc_seq <| wpc_join [15, 16, 67, 68, 69, 70, 71, 72, 73, 74, 75, 76, 77, 78, 79, 80, 81, 82, 83, 84, 85] (fun f' w' => ∃ (M3 : Mem), m11 ≤ M3 ∧ St M3 (As) w' ∧ AllAt f' [(15, vU x9)]) ?_ ?_
 · obtain ⟨x10, q13, q12⟩ := obind_some q12
   have L19 := Mem.rfl' m11
   refine wpc_join [15, 16, 67, 68, 69, 70, 71, 72, 73, 74, 75, 76, 77, 78, 79, 80, 81, 82, 83, 84, 85] (fun f' w' => ∃ (M4 : Mem), m11 ≤ M4 ∧ St M4 (As) w' ∧ AllAt f' [(15, vU x10)]) ?_ ?_
   · refine wpc_block <| wpc_rounds [15, 16, 67, 68, 69, 70, 71, 72, 73, 74, 75, 76, 77, 78, 79, 80, 81, 82, 83, 84, 85] (fun n1 f' w' => ∃ (s1 : UInt64 × UInt64) (m13 : Mem), iter (m_bits_Div64_b1 x4 x5 x7) n1 s1 = some x10 ∧ m11 ≤ m13 ∧ St m13 (As) w' ∧ AllAt f' [(15, vU s1.1), (16, vU s1.2)]) FUEL ⟨((x6 / x4), (x6 - ((x6 / x4) * x4))), m11, q13, L19, S11, ⟨rfl, rfl, trivial⟩⟩ ?_
     rintro n1 f11 w12 ho ⟨s1, m12, q14, L21, S12, ha⟩
     obtain ⟨u11, rfl⟩ := fr_of (N := 135) ho ha
     clear ho ha
     have L20 := Mem.rfl' m12
     clear S11
     cases n1 with
     | zero => exact (iter_zero q14).elim
     | succ n1 =>
      obtain ⟨y1, q16, q15⟩ := iter_succ q14
      unfold m_bits_Div64_b1 at q16
      refine wpc_seq <| wpc_seq <| wpc_region <| s_mvv (v := vU s1.1) rfl <| s_geq (m := (s1.1.toNat : Int)) (n := 4294967296) rfl rfl <| s_mvv (v := vb (decide ((s1.1.toNat : Int) ≥ 4294967296))) rfl <| wpl_cut 9 [70, 71, 72, 73, 74, 75, 76, 77, 78] (fun f' w' => w' = w12 ∧ AllAt f' [(78, vb ((decide ((s1.1.toNat : Int) ≥ 4294967296)) || (decide (((s1.1 * x5).toNat : Int) > (((4294967296 * s1.2) + x7).toNat : Int)))))]) ?_ ?_
      · rcases bool_tf (decide ((s1.1.toNat : Int) ≥ 4294967296)) with hb1 | hb1
        · exact wpl_no (d := 69) rfl rfl (congrArg Value.bool hb1) <| wpl_no (d := 69) rfl rfl (congrArg Value.bool hb1) <| wpl_no (d := 69) rfl rfl (congrArg Value.bool hb1) <| wpl_no (d := 69) rfl rfl (congrArg Value.bool hb1) <| wpl_no (d := 69) rfl rfl (congrArg Value.bool hb1) <| wpl_no (d := 69) rfl rfl (congrArg Value.bool hb1) <| wpl_no (d := 69) rfl rfl (congrArg Value.bool hb1) <| wpl_no (d := 69) rfl rfl (congrArg Value.bool hb1) <| s_pickT (congrArg Value.bool hb1) rfl <| wpl_nil (nrm ⟨outP, rfl, congrArg Value.bool (or_t hb1), trivial⟩)
        · exact wpl_yes (d := 69) rfl rfl (congrArg Value.bool hb1) <| s_mvv (v := vU s1.1) rfl <| wpl_yes (d := 69) rfl rfl (congrArg Value.bool hb1) <| s_mvv (v := vU x5) rfl <| wpl_yes (d := 69) rfl rfl (congrArg Value.bool hb1) <| s_mulU (m := s1.1) (n := x5) rfl rfl <| wpl_yes (d := 69) rfl rfl (congrArg Value.bool hb1) <| s_mvv (v := vU s1.2) rfl <| wpl_yes (d := 69) rfl rfl (congrArg Value.bool hb1) <| s_mulU (m := 4294967296) (n := s1.2) rfl rfl <| wpl_yes (d := 69) rfl rfl (congrArg Value.bool hb1) <| s_mvv (v := vU x7) rfl <| wpl_yes (d := 69) rfl rfl (congrArg Value.bool hb1) <| s_addU (m := (4294967296 * s1.2)) (n := x7) rfl rfl <| wpl_yes (d := 69) rfl rfl (congrArg Value.bool hb1) <| s_gtr (m := ((s1.1 * x5).toNat : Int)) (n := (((4294967296 * s1.2) + x7).toNat : Int)) rfl rfl <| s_pickF (congrArg Value.bool hb1) rfl <| wpl_nil (nrm ⟨outP, rfl, congrArg Value.bool (or_f hb1), trivial⟩)
      rintro f12 w13 ho ⟨h1, ha⟩
      subst h1
      obtain ⟨u12, rfl⟩ := fr_of (N := 135) ho ha
      refine wpl_nil <| nrm <| wpc_if (t := ((decide ((s1.1.toNat : Int) ≥ 4294967296)) || (decide (((s1.1 * x5).toNat : Int) > (((4294967296 * s1.2) + x7).toNat : Int))))) rfl (fun hc4 => ?_) (fun hc4 => ?_)
      · replace q16 := ifT hc4 q16
        refine wpc_skip <| nrm <| wpc_block <| wpc_seq <| wpc_region <| s_mvv (v := vU s1.1) rfl <| s_subU (m := s1.1) (n := 1) rfl rfl <| s_asv (v := vU (s1.1 - 1)) rfl <| wpl_nil <| nrm <| wpc_seq <| wpc_region <| s_mvv (v := vU s1.2) rfl <| s_mvv (v := vU x4) rfl <| s_addU (m := s1.2) (n := x4) rfl rfl <| s_asv (v := vU (s1.2 + x4)) rfl <| wpl_nil <| nrm <| wpc_seq <| wpc_region <| s_mvv (v := vU (s1.2 + x4)) rfl <| s_geq (m := ((s1.2 + x4).toNat : Int)) (n := 4294967296) rfl rfl <| wpl_nil <| nrm <| wpc_if (t := (decide (((s1.2 + x4).toNat : Int) ≥ 4294967296))) rfl (fun hc5 => ?_) (fun hc5 => ?_)
        · replace q16 := ifT hc5 q16
          refine wpc_exit <| exN rfl <| thE <| exB <| nrm ?_
          have e0 := Option.some.inj q16
          subst e0
          rcases q15 with ⟨sn, e, _⟩ | e
          · cases e
          · cases e
            exact ⟨outP, m12, Mem.tr L21 L20, S12, ⟨rfl, trivial⟩⟩
        replace q16 := ifF hc5 q16
        refine wpc_skip <| nrmB <| nrm ?_
        have e0 := Option.some.inj q16
        subst e0
        rcases q15 with ⟨sn, e, q15'⟩ | e
        · cases e
          exact ⟨outP, _, Nat.lt_succ_self _, ⟨_, m12, q15', Mem.tr L21 L20, S12, ⟨rfl, rfl, trivial⟩⟩⟩
        · cases e
      replace q16 := ifF hc4 q16
      refine wpc_exit <| thE <| thE <| exB <| nrm ?_
      have e0 := Option.some.inj q16
      subst e0
      rcases q15 with ⟨sn, e, _⟩ | e
      · cases e
      · cases e
        exact ⟨outP, m12, Mem.tr L21 L20, S12, ⟨rfl, trivial⟩⟩
   rintro f13 w14 ho ⟨m14, l4, S13, ha⟩
   obtain ⟨u13, rfl⟩ := fr_of (N := 135) ho ha
   clear ho ha
   replace L18 := Mem.tr L18 l4
   clear S11
   have e0 := Option.some.inj q12
   subst e0
   exact ⟨outP, m14, L18, S13, ⟨rfl, trivial⟩⟩
 rintro f14 w15 ho ⟨m15, l5, S14, ha⟩
 obtain ⟨u14, rfl⟩ := fr_of (N := 135) ho ha
 replace L0 := Mem.tr L0 l5
 clear S11
 refine wpc_seq <| wpc_region <| s_mvv (v := vU x6) rfl <| s_mulU (m := x6) (n := 4294967296) rfl rfl <| s_mvv (v := vU x7) rfl <| s_addU (m := (x6 * 4294967296)) (n := x7) rfl rfl <| s_mvv (v := vU x9) rfl <| s_mvv (v := vU (shlU a2 ((toU x3).toNat))) rfl <| s_mulU (m := x9) (n := (shlU a2 ((toU x3).toNat))) rfl rfl <| s_subU (m := ((x6 * 4294967296) + x7)) (n := (x9 * (shlU a2 ((toU x3).toNat)))) rfl rfl ?_
 obtain ⟨x12, q18, hm⟩ := bnd_eq hm
 refine s_asv (v := vU x12) (congrArg (fun z => vU z) q18.symm) <| wpl_nil <| nrm <| wpc_seq <| wpc_region <| s_mvv (v := vU x12) rfl <| s_mvv (v := vU x4) rfl ?_
 obtain ⟨q19, hm⟩ := if_some hm
 refine s_quoU (m := x12) (n := x4) rfl rfl q19 <| s_asv (v := vU (x12 / x4)) rfl <| wpl_nil <| nrm <| wpc_seq <| wpc_region <| s_mvv (v := vU x12) rfl <| s_mvv (v := vU (x12 / x4)) rfl <| s_mvv (v := vU x4) rfl <| s_mulU (m := (x12 / x4)) (n := x4) rfl rfl <| s_subU (m := x12) (n := ((x12 / x4) * x4)) rfl rfl <| s_asv (v := vU (x12 - ((x12 / x4) * x4))) rfl <| wpl_nil <| nrm ?_
 obtain ⟨x13, q20, hm⟩ := obind_some hm
 have L22 := Mem.rfl' m15
 refine wpc_seq <| wpc_join [16, 18, 102, 103, 104, 105, 106, 107, 108, 109, 110, 111, 112, 113, 114, 115, 116, 117, 118, 119, 120] (fun f' w' => ∃ (M5 : Mem), m15 ≤ M5 ∧ St M5 (As) w' ∧ AllAt f' [(18, vU x13)]) ?_ ?_
 · obtain ⟨x14, q21, q20⟩ := obind_some q20
   have L23 := Mem.rfl' m15
   refine wpc_join [16, 18, 102, 103, 104, 105, 106, 107, 108, 109, 110, 111, 112, 113, 114, 115, 116, 117, 118, 119, 120] (fun f' w' => ∃ (M6 : Mem), m15 ≤ M6 ∧ St M6 (As) w' ∧ AllAt f' [(18, vU x14)]) ?_ ?_
   · refine wpc_block <| wpc_rounds [16, 18, 102, 103, 104, 105, 106, 107, 108, 109, 110, 111, 112, 113, 114, 115, 116, 117, 118, 119, 120] (fun n2 f' w' => ∃ (s2 : UInt64 × UInt64) (m17 : Mem), iter (m_bits_Div64_b2 x4 x5 x8) n2 s2 = some x14 ∧ m15 ≤ m17 ∧ St m17 (As) w' ∧ AllAt f' [(16, vU s2.1), (18, vU s2.2)]) FUEL ⟨((x12 - ((x12 / x4) * x4)), (x12 / x4)), m15, q21, L23, S14, ⟨rfl, rfl, trivial⟩⟩ ?_
     rintro n2 f15 w16 ho ⟨s2, m16, q22, L25, S15, ha⟩
     obtain ⟨u15, rfl⟩ := fr_of (N := 135) ho ha
     clear ho ha
     have L24 := Mem.rfl' m16
     clear S14
     cases n2 with
     | zero => exact (iter_zero q22).elim
     | succ n2 =>
      obtain ⟨y2, q24, q23⟩ := iter_succ q22
      unfold m_bits_Div64_b2 at q24
      refine wpc_seq <| wpc_seq <| wpc_region <| s_mvv (v := vU s2.2) rfl <| s_geq (m := (s2.2.toNat : Int)) (n := 4294967296) rfl rfl <| s_mvv (v := vb (decide ((s2.2.toNat : Int) ≥ 4294967296))) rfl <| wpl_cut 9 [105, 106, 107, 108, 109, 110, 111, 112, 113] (fun f' w' => w' = w16 ∧ AllAt f' [(113, vb ((decide ((s2.2.toNat : Int) ≥ 4294967296)) || (decide (((s2.2 * x5).toNat : Int) > (((4294967296 * s2.1) + x8).toNat : Int)))))]) ?_ ?_
      · rcases bool_tf (decide ((s2.2.toNat : Int) ≥ 4294967296)) with hb2 | hb2
        · exact wpl_no (d := 104) rfl rfl (congrArg Value.bool hb2) <| wpl_no (d := 104) rfl rfl (congrArg Value.bool hb2) <| wpl_no (d := 104) rfl rfl (congrArg Value.bool hb2) <| wpl_no (d := 104) rfl rfl (congrArg Value.bool hb2) <| wpl_no (d := 104) rfl rfl (congrArg Value.bool hb2) <| wpl_no (d := 104) rfl rfl (congrArg Value.bool hb2) <| wpl_no (d := 104) rfl rfl (congrArg Value.bool hb2) <| wpl_no (d := 104) rfl rfl (congrArg Value.bool hb2) <| s_pickT (congrArg Value.bool hb2) rfl <| wpl_nil (nrm ⟨outP, rfl, congrArg Value.bool (or_t hb2), trivial⟩)
        · exact wpl_yes (d := 104) rfl rfl (congrArg Value.bool hb2) <| s_mvv (v := vU s2.2) rfl <| wpl_yes (d := 104) rfl rfl (congrArg Value.bool hb2) <| s_mvv (v := vU x5) rfl <| wpl_yes (d := 104) rfl rfl (congrArg Value.bool hb2) <| s_mulU (m := s2.2) (n := x5) rfl rfl <| wpl_yes (d := 104) rfl rfl (congrArg Value.bool hb2) <| s_mvv (v := vU s2.1) rfl <| wpl_yes (d := 104) rfl rfl (congrArg Value.bool hb2) <| s_mulU (m := 4294967296) (n := s2.1) rfl rfl <| wpl_yes (d := 104) rfl rfl (congrArg Value.bool hb2) <| s_mvv (v := vU x8) rfl <| wpl_yes (d := 104) rfl rfl (congrArg Value.bool hb2) <| s_addU (m := (4294967296 * s2.1)) (n := x8) rfl rfl <| wpl_yes (d := 104) rfl rfl (congrArg Value.bool hb2) <| s_gtr (m := ((s2.2 * x5).toNat : Int)) (n := (((4294967296 * s2.1) + x8).toNat : Int)) rfl rfl <| s_pickF (congrArg Value.bool hb2) rfl <| wpl_nil (nrm ⟨outP, rfl, congrArg Value.bool (or_f hb2), trivial⟩)
      rintro f16 w17 ho ⟨h2, ha⟩
      subst h2
      obtain ⟨u16, rfl⟩ := fr_of (N := 135) ho ha
      refine wpl_nil <| nrm <| wpc_if (t := ((decide ((s2.2.toNat : Int) ≥ 4294967296)) || (decide (((s2.2 * x5).toNat : Int) > (((4294967296 * s2.1) + x8).toNat : Int))))) rfl (fun hc6 => ?_) (fun hc6 => ?_)
      · replace q24 := ifT hc6 q24
        refine wpc_skip <| nrm <| wpc_block <| wpc_seq <| wpc_region <| s_mvv (v := vU s2.2) rfl <| s_subU (m := s2.2) (n := 1) rfl rfl <| s_asv (v := vU (s2.2 - 1)) rfl <| wpl_nil <| nrm <| wpc_seq <| wpc_region <| s_mvv (v := vU s2.1) rfl <| s_mvv (v := vU x4) rfl <| s_addU (m := s2.1) (n := x4) rfl rfl <| s_asv (v := vU (s2.1 + x4)) rfl <| wpl_nil <| nrm <| wpc_seq <| wpc_region <| s_mvv (v := vU (s2.1 + x4)) rfl <| s_geq (m := ((s2.1 + x4).toNat : Int)) (n := 4294967296) rfl rfl <| wpl_nil <| nrm <| wpc_if (t := (decide (((s2.1 + x4).toNat : Int) ≥ 4294967296))) rfl (fun hc7 => ?_) (fun hc7 => ?_)
        · replace q24 := ifT hc7 q24
          refine wpc_exit <| exN rfl <| thE <| exB <| nrm ?_
          have e0 := Option.some.inj q24
          subst e0
          rcases q23 with ⟨sn, e, _⟩ | e
          · cases e
          · cases e
            exact ⟨outP, m16, Mem.tr L25 L24, S15, ⟨rfl, trivial⟩⟩
        replace q24 := ifF hc7 q24
        refine wpc_skip <| nrmB <| nrm ?_
        have e0 := Option.some.inj q24
        subst e0
        rcases q23 with ⟨sn, e, q23'⟩ | e
        · cases e
          exact ⟨outP, _, Nat.lt_succ_self _, ⟨_, m16, q23', Mem.tr L25 L24, S15, ⟨rfl, rfl, trivial⟩⟩⟩
        · cases e
      replace q24 := ifF hc6 q24
      refine wpc_exit <| thE <| thE <| exB <| nrm ?_
      have e0 := Option.some.inj q24
      subst e0
      rcases q23 with ⟨sn, e, _⟩ | e
      · cases e
      · cases e
        exact ⟨outP, m16, Mem.tr L25 L24, S15, ⟨rfl, trivial⟩⟩
   rintro f17 w18 ho ⟨m18, l6, S16, ha⟩
   obtain ⟨u17, rfl⟩ := fr_of (N := 135) ho ha
   clear ho ha
   replace L22 := Mem.tr L22 l6
   clear S14
   have e0 := Option.some.inj q20
   subst e0
   exact ⟨outP, m18, L22, S16, ⟨rfl, trivial⟩⟩
 rintro f18 w19 ho ⟨m19, l7, S17, ha⟩
 obtain ⟨u18, rfl⟩ := fr_of (N := 135) ho ha
 replace L0 := Mem.tr L0 l7
 clear S14
 refine wpc_seq <| wpc_region <| s_mvv (v := vU x9) rfl <| s_mulU (m := x9) (n := 4294967296) rfl rfl <| s_mvv (v := vU x13) rfl <| s_addU (m := (x9 * 4294967296)) (n := x13) rfl rfl <| s_mvv (v := vU x12) rfl <| s_mulU (m := x12) (n := 4294967296) rfl rfl <| s_mvv (v := vU x8) rfl <| s_addU (m := (x12 * 4294967296)) (n := x8) rfl rfl <| s_mvv (v := vU x13) rfl <| s_mvv (v := vU (shlU a2 ((toU x3).toNat))) rfl <| s_mulU (m := x13) (n := (shlU a2 ((toU x3).toNat))) rfl rfl <| s_subU (m := ((x12 * 4294967296) + x8)) (n := (x13 * (shlU a2 ((toU x3).toNat)))) rfl rfl <| s_mvv (v := vU (toU x3)) rfl <| s_shrU (m := (((x12 * 4294967296) + x8) - (x13 * (shlU a2 ((toU x3).toNat))))) (n := ((toU x3).toNat : Int)) rfl rfl (by omega) <| s_asv (v := vU ((x9 * 4294967296) + x13)) rfl ?_
 obtain ⟨x16, q26, hm⟩ := bnd_eq hm
 refine s_asv (v := vU x16) (congrArg (fun z => vU z) q26.symm) <| wpl_nil <| nrm <| wpc_ret <| outRw fun we hpd => ?_
 replace S17 := St.pd S17 hpd
 have e0 := Option.some.inj hm
 subst e0
 exact outR [_, _] rfl ⟨rfl, rfl, trivial⟩ ⟨_, L0, S17, rfl⟩

def m_bits_Rem64 (a0 : UInt64) (a1 : UInt64) (a2 : UInt64) : Option UInt64 :=
  if a2 ≠ 0 then
    obind (m_bits_Div64 (a0 % a2) a1 a2) fun x1 =>
    some x1.2
  else none

theorem w_bits_Rem64 {m : Mem} {As : List Ow} {w : World} {a0 : UInt64} {a1 : UInt64} {a2 : UInt64} {r : UInt64} (S : St m (As) w) (hm : m_bits_Rem64 a0 a1 a2 = some r) :
    CallsR Try.prog 89 #[vU a0, vU a1, vU a2] w fun v w' => ∃ (M : Mem), m ≤ M ∧ St M (As) w' ∧ v = vU r := by
 unfold m_bits_Rem64 at hm
 have L0 := Mem.rfl' m
 refine callsR (args := [vU a0, vU a1, vU a2]) Try.func89 rfl Try.ntmps89 (Nat.le_of_ble_eq_true rfl) <| wpc_seq <| wpc_region <| s_asv (v := vU 0) rfl <| wpl_nil <| nrm <| wpc_seq <| wpc_region <| s_mvv (v := vU a0) rfl <| s_mvv (v := vU a2) rfl ?_
 obtain ⟨q1, hm⟩ := if_some hm
 refine s_remU (m := a0) (n := a2) rfl rfl q1 <| s_mvv (v := vU a1) rfl <| s_mvv (v := vU a2) rfl ?_
 obtain ⟨x1, q2, hm⟩ := obind_some hm
 refine s_call Try.call87 (w_bits_Div64 (a0 := (a0 % a2)) (a1 := a1) (a2 := a2) S  q2) rfl ?_
 rintro _ w1 ⟨m1, l1, S1, rfl⟩
 replace L0 := Mem.tr L0 l1
 clear S
 refine s_mvv (v := .tuple #[vU x1.1, vU x1.2]) rfl <| s_ext (i := 0) rfl rfl <| s_ext (i := 1) rfl rfl <| s_asv (v := vU x1.1) rfl <| s_asv (v := vU x1.2) rfl <| wpl_nil <| nrm <| wpc_seq <| wpc_region <| s_mvv (v := vU x1.2) rfl <| s_asv (v := vU x1.2) rfl <| wpl_nil <| nrm <| wpc_ret <| outRw fun we hpd => ?_
 replace S1 := St.pd S1 hpd
 have e0 := Option.some.inj hm
 subst e0
 exact outR [_] rfl ⟨rfl, trivial⟩ ⟨_, L0, S1, rfl⟩

def m_cyclic_ring_mul (a0 : UInt64) (a1 : UInt64) (a2 : UInt64) : Option UInt64 :=
  obind (m_bits_Mul64 a1 a2) fun x1 =>
  obind (m_bits_Rem64 x1.1 x1.2 a0) fun x2 =>
  some x2

theorem w_cyclic_ring_mul {m : Mem} {As : List Ow} {w : World} {a0 : UInt64} {a1 : UInt64} {a2 : UInt64} {r : UInt64} (S : St m (As) w) (hm : m_cyclic_ring_mul a0 a1 a2 = some r) :
    CallsR Try.prog 72 #[vU a0, vU a1, vU a2] w fun v w' => ∃ (M : Mem), m ≤ M ∧ St M (As) w' ∧ v = vU r := by
 unfold m_cyclic_ring_mul at hm
 have L0 := Mem.rfl' m
 refine callsR (args := [vU a0, vU a1, vU a2]) Try.func72 rfl Try.ntmps72 (Nat.le_of_ble_eq_true rfl) <| wpc_seq <| wpc_region <| s_asv (v := vU 0) rfl <| wpl_nil <| nrm <| wpc_seq <| wpc_region <| s_mvv (v := vU a1) rfl <| s_mvv (v := vU a2) rfl ?_
 obtain ⟨x1, q1, hm⟩ := obind_some hm
 refine s_call Try.call85 (w_bits_Mul64 (a0 := a1) (a1 := a2) S  q1) rfl ?_
 rintro _ w1 ⟨m1, l1, S1, rfl⟩
 replace L0 := Mem.tr L0 l1
 clear S
 refine s_mvv (v := .tuple #[vU x1.1, vU x1.2]) rfl <| s_ext (i := 0) rfl rfl <| s_ext (i := 1) rfl rfl <| s_asv (v := vU x1.1) rfl <| s_asv (v := vU x1.2) rfl <| wpl_nil <| nrm <| wpc_seq <| wpc_region <| s_mvv (v := vU x1.1) rfl <| s_mvv (v := vU x1.2) rfl <| s_mvv (v := vU a0) rfl ?_
 obtain ⟨x2, q2, hm⟩ := obind_some hm
 refine s_call Try.call89 (w_bits_Rem64 (a0 := x1.1) (a1 := x1.2) (a2 := a0) S1  q2) rfl ?_
 rintro _ w2 ⟨m2, l2, S2, rfl⟩
 replace L0 := Mem.tr L0 l2
 clear S1
 refine s_asv (v := vU x2) rfl <| wpl_nil <| nrm <| wpc_ret <| outRw fun we hpd => ?_
 replace S2 := St.pd S2 hpd
 have e0 := Option.some.inj hm
 subst e0
 exact outR [_] rfl ⟨rfl, trivial⟩ ⟨_, L0, S2, rfl⟩

def m_cyclic_places_1_b1 {σ : Type} (p0 : σ → Bool → Option (Bool × σ)) (k0 : UInt64) (s1 : Int × σ) : Option ((Int × σ) ⊕ ((σ) ⊕ (UInt64 × σ))) :=
  if (decide (s1.1 ≥ 0)) = true then
    if (0 : Int) ≤ s1.1 then
      obind (p0 s1.2 (((k0 &&& (shlU 1 s1.1.toNat)).toNat : Int) != 0)) fun x4 =>
      if (!x4.1) = true then
        some (.inr (.inr (k0, x4.2)))
      else
      some (.inl ((w64 (s1.1 - 1)), x4.2))
    else none
  else
  some (.inr (.inl s1.2))

def m_cyclic_places_1 {σ : Type} (p0 : σ → Bool → Option (Bool × σ)) (k0 : UInt64) (s0 : σ) : Option (UInt64 × σ) :=
  obind (m_bits_Len64 k0) fun x1 =>
  obind (iter (m_cyclic_places_1_b1 p0 k0) FUEL ((w64 (x1 - 1)), s0)) fun x2 => match x2 with
  | .inr r => some r
  | .inl y1 =>
  some (k0, y1)

theorem w_cyclic_places_1 {m : Mem} {As : List Ow} {w : World} {σ : Type} {R : σ → Mem → List Ow → Prop} {p0 : σ → Bool → Option (Bool × σ)} {f0 : Value} {kb0 : Nat} {k0 : UInt64} {s0 : σ} {X0 : List Ow} {r : UInt64 × σ} (S : St m ((bx kb0 [vU k0] 22) :: (X0 ++ As)) w) (hup : ∀ {s M M' X}, M ≤ M' → R s M X → R s M' X) (hX0 : R s0 m X0) (cb0 : ∀ {m' : Mem} {As' : List Ow} {w' : World} {s : σ} {X : List Ow} {b0 : Bool} {r : Bool × σ}, St m' (X ++ As') w' → R s m' X → p0 s b0 = some r → CallV Try.prog f0 [vb b0] w' fun v w'' => ∃ (M : Mem) (X' : List Ow), m' ≤ M ∧ St M (X' ++ As') w'' ∧ R r.2 M X' ∧ v = vb r.1) (fc0 : f0.cells = #[f0]) (hm : m_cyclic_places_1 p0 k0 s0 = some r) :
    CallsR Try.prog 105 #[f0, pt kb0 0] w fun v w' => ∃ (M : Mem), m ≤ M ∧ ∃ (X : List Ow), St M ((bx kb0 [vU r.1] 22) :: (X ++ As)) w' ∧ v = .tuple #[] ∧ R r.2 M X := by
 unfold m_cyclic_places_1 at hm
 have L0 := Mem.rfl' m
 refine callsR (args := [f0, pt kb0 0]) Try.func105 rfl Try.ntmps105 (Nat.le_of_ble_eq_true rfl) <| wpc_seq <| wpc_region <| s_ld (i := 0) (cs := [vU k0]) S rfl rfl Try.isAgg22 Try.sizeOf22 rfl (fun _ => rfl) ?_
 obtain ⟨x1, q1, hm⟩ := obind_some hm
 refine s_call Try.call98 (w_bits_Len64 (a0 := k0) S  q1) rfl ?_
 rintro _ w1 ⟨m1, l1, S1, rfl⟩
 replace hX0 := hup l1 hX0
 replace L0 := Mem.tr L0 l1
 clear S
 refine s_subI (m := x1) (n := 1) rfl rfl <| s_asv (v := vI (w64 (x1 - 1))) rfl <| wpl_nil <| nrm ?_
 obtain ⟨x2, q2, hm⟩ := obind_some hm
 have L1 := Mem.rfl' m1
 refine wpc_wrap <| wpc_join [3, 7, 8, 9, 10, 11, 12, 13, 14, 15, 16, 17, 18] (fun f' w' => ∃ (M1 : Mem) (y1 : σ) (X2 : List Ow), x2 = .inl y1 ∧ m1 ≤ M1 ∧ St M1 ((bx kb0 [vU k0] 22) :: (X2 ++ As)) w' ∧ R y1 M1 X2 ∧ AllAt f' []) ?_ ?_
 · refine wpc_block <| wpc_rounds [3, 7, 8, 9, 10, 11, 12, 13, 14, 15, 16, 17, 18] (fun n1 f' w' => ∃ (s1 : Int × σ) (m11 : Mem) (X1 : List Ow), iter (m_cyclic_places_1_b1 p0 k0) n1 s1 = some x2 ∧ m1 ≤ m11 ∧ St m11 ((bx kb0 [vU k0] 22) :: (X1 ++ As)) w' ∧ R s1.2 m11 X1 ∧ AllAt f' [(3, vI s1.1)]) FUEL ⟨((w64 (x1 - 1)), s0), m1, _, q2, L1, S1, hX0, ⟨rfl, trivial⟩⟩ ?_
   rintro n1 f1 w2 ho ⟨s1, m2, X1, q3, L3, S2, h1, ha⟩
   obtain ⟨u1, rfl⟩ := fr_of (N := 19) ho ha
   clear ho ha
   have L2 := Mem.rfl' m2
   clear S1
   cases n1 with
   | zero => exact (iter_zero q3).elim
   | succ n1 =>
    obtain ⟨y2, q5, q4⟩ := iter_succ q3
    unfold m_cyclic_places_1_b1 at q5
    refine wpc_seq <| wpc_seq <| wpc_region <| s_mvv (v := vI s1.1) rfl <| s_geq (m := s1.1) (n := 0) rfl rfl <| wpl_nil <| nrm <| wpc_if (t := (decide (s1.1 ≥ 0))) rfl (fun hc1 => ?_) (fun hc1 => ?_)
    · replace q5 := ifT hc1 q5
      refine wpc_skip <| nrm <| wpc_seq <| wpc_block <| wpc_seq ?_
      obtain ⟨q7, q5⟩ := if_some q5
      have HM : MonoAll [(11, fun (M : Mem) (v : Value) => v = f0), (12, fun (M : Mem) (v : Value) => v = vU k0), (13, fun (M : Mem) (v : Value) => v = vI s1.1), (14, fun (M : Mem) (v : Value) => v = vU (shlU 1 s1.1.toNat)), (15, fun (M : Mem) (v : Value) => v = vU (k0 &&& (shlU 1 s1.1.toNat))), (16, fun (M : Mem) (v : Value) => v = vb (((k0 &&& (shlU 1 s1.1.toNat)).toNat : Int) != 0))] := ⟨(fun _ _ _ _ h => h), (fun _ _ _ _ h => h), (fun _ _ _ _ h => h), (fun _ _ _ _ h => h), (fun _ _ _ _ h => h), (fun _ _ _ _ h => h), trivial⟩
      refine wpc_flowG HM 6 mixed rfl rfl rfl [11, 12, 13, 14, 15, 16] (fun L f M w => St M ((bx kb0 [vU k0] 22) :: (X1 ++ As)) w) (St.drew S2 _) ?_ ?_
      · refine ⟨?_, ?_, ?_, ?_, ?_, ?_, trivial⟩
        · intro L f2 w3 hL hd hc ⟨m3, L4, S3, K, hO⟩
          obtain ⟨u2, rfl⟩ := fr_of (N := 19) (L := []) hO trivial
          exact s_mvv (v := f0) rfl <| oS HM L4 S3 rfl K rfl rfl rfl outP
        · intro L f3 w4 hL hd hc ⟨m4, L6, S4, K, hO⟩
          obtain ⟨u3, rfl⟩ := fr_of (N := 19) (L := []) hO trivial
          replace h1 := hup L6 h1
          exact s_ld (i := 0) (cs := [vU k0]) S4 rfl rfl Try.isAgg22 Try.sizeOf22 rfl (fun _ => rfl) <| oS HM L6 S4 rfl K rfl rfl rfl outP
        · intro L f4 w5 hL hd hc ⟨m5, L8, S5, K, hO⟩
          obtain ⟨u4, rfl⟩ := fr_of (N := 19) (L := []) hO trivial
          exact s_mvv (v := vI s1.1) rfl <| oS HM L8 S5 rfl K rfl rfl rfl outP
        · intro L f5 w6 hL hd hc ⟨m6, L10, S6, K, hO⟩
          obtain ⟨u5, rfl⟩ := fr_of (N := 19) (L := [(13, _)]) hO ⟨K 2 (dep hd rfl), trivial⟩
          exact s_shlU (m := 1) (n := s1.1) rfl rfl q7 <| oS HM L10 S6 rfl K rfl rfl rfl outP
        · intro L f6 w7 hL hd hc ⟨m7, L12, S7, K, hO⟩
          obtain ⟨u6, rfl⟩ := fr_of (N := 19) (L := [(12, _), (14, _)]) hO ⟨K 1 (dep hd rfl), K 3 (dep hd rfl), trivial⟩
          exact s_andU (m := k0) (n := (shlU 1 s1.1.toNat)) rfl rfl <| oS HM L12 S7 rfl K rfl rfl rfl outP
        · intro L f7 w8 hL hd hc ⟨m8, L14, S8, K, hO⟩
          obtain ⟨u7, rfl⟩ := fr_of (N := 19) (L := [(15, _)]) hO ⟨K 4 (dep hd rfl), trivial⟩
          exact s_neq (m := ((k0 &&& (shlU 1 s1.1.toNat)).toNat : Int)) (n := 0) rfl rfl <| oS HM L14 S8 rfl K rfl rfl rfl outP
      intro L f8 w9 hall ⟨m9, L16, S9, K, hO⟩
      have d0 : L 0 = true := hall 0 (by decide)
      have d5 : L 5 = true := hall 5 (by decide)
      obtain ⟨u8, rfl⟩ := fr_of (N := 19) (L := [(11, _), (16, _)]) hO ⟨K 0 d0, K 5 d5, trivial⟩
      replace S9 : St _ ((bx kb0 [vU k0] 22) :: (X1 ++ As)) _ := S9
      replace h1 := hup L16 h1
      replace L2 := Mem.tr L2 L16
      clear S2
      obtain ⟨x4, q8, q5⟩ := obind_some q5
      have S10 := St.absF (L := [bx kb0 [vU k0] 22]) (X := X1) (As := As) S9
      refine s_callV rfl (cb0 S10 h1 q8) rfl ?_
      rintro _ w10 ⟨m10, X3, l2, S11, h3, rfl⟩
      replace S11 := St.absF (L := X3) (X := [bx kb0 [vU k0] 22]) (As := As) S11
      clear S10
      replace L2 := Mem.tr L2 l2
      replace S11 : St _ ((bx kb0 [vU k0] 22) :: (X3 ++ As)) _ := S11
      clear S9
      refine s_not rfl <| wpl_nil <| nrm <| wpc_if (t := (!x4.1)) rfl (fun hc2 => ?_) (fun hc2 => ?_)
      · replace q5 := ifT hc2 q5
        refine wpc_ret <| blR <| thR <| thR <| blR <| thR <| outRw fun we hpd => ?_
        replace S11 := St.pd S11 hpd
        cases q5
        rcases q4 with ⟨sn, e, _⟩ | e
        · cases e
        cases e
        dsimp only at hm
        have e0 := Option.some.inj hm
        subst e0
        exact outR [] rfl trivial ⟨_, (Mem.tr L0 (Mem.tr L3 L2)), _, S11, rfl, h3⟩
      replace q5 := ifF hc2 q5
      refine wpc_skip <| nrmB <| nrm <| wpc_region <| s_mvv (v := vI s1.1) rfl <| s_subI (m := s1.1) (n := 1) rfl rfl <| s_asv (v := vI (w64 (s1.1 - 1))) rfl <| wpl_nil <| nrm ?_
      have e0 := Option.some.inj q5
      subst e0
      rcases q4 with ⟨sn, e, q4'⟩ | e
      · cases e
        exact ⟨outP, _, Nat.lt_succ_self _, ⟨_, m10, _, q4', Mem.tr L3 L2, S11, h3, ⟨rfl, trivial⟩⟩⟩
      · cases e
    replace q5 := ifF hc1 q5
    refine wpc_exit <| thE <| thE <| exB <| nrm ?_
    have e0 := Option.some.inj q5
    subst e0
    rcases q4 with ⟨sn, e, _⟩ | e
    · cases e
    · cases e
      exact ⟨outP, m2, _, _, rfl, Mem.tr L3 L2, S2, h1, trivial⟩
 rintro f9 w11 ho ⟨m12, y1, X2, rfl, l3, S12, h2, ha⟩
 obtain ⟨u9, rfl⟩ := fr_of (N := 19) ho ha
 clear ho ha
 dsimp only at hm
 replace L0 := Mem.tr L0 l3
 clear S1
 refine outNw fun we hpd => ?_
 replace S12 := St.pd S12 hpd
 have e0 := Option.some.inj hm
 subst e0
 exact outR [] rfl trivial ⟨_, L0, _, S12, rfl, h2⟩

def m_cyclic_places (a0 : UInt64) : Option UInt64 :=
  some a0

theorem w_cyclic_places {m : Mem} {As : List Ow} {w : World} {a0 : UInt64} {r : UInt64} (S : St m (As) w) (hm : m_cyclic_places a0 = some r) :
    CallsR Try.prog 101 #[vU a0] w fun v w' => ∃ (M : Mem), m ≤ M ∧ ∃ (rk0_0 : Nat), St M ((bx rk0_0 [vU r] 22) :: As) w' ∧ v = .func (.func 105) #[] #[pt rk0_0 0] := by
 unfold m_cyclic_places at hm
 have L0 := Mem.rfl' m
 refine callsR (args := [vU a0]) Try.func101 rfl Try.ntmps101 (Nat.le_of_ble_eq_true rfl) <| wpc_seq <| wpc_region <| s_box S rfl fun b1 w1 S1 => ?_
 replace S1 : St _ ((bx b1 [vU a0] 22) :: As) _ := S1
 clear S
 refine s_asv (v := .nilFunc) rfl <| wpl_nil <| nrm <| wpc_seq <| wpc_region <| s_funcC (caps := [pt b1 0]) rfl <| s_asv (v := .func (.func 105) #[] #[pt b1 0]) rfl <| wpl_nil <| nrm <| wpc_ret <| outRw fun we hpd => ?_
 replace S1 := St.pd S1 hpd
 have e0 := Option.some.inj hm
 subst e0
 exact outR [_] rfl ⟨rfl, trivial⟩ ⟨_, L0, _, S1, rfl⟩

def m_cyclic_power_b5 {σ : Type} (p0 : σ → UInt64 → UInt64 → Option (UInt64 × σ)) (a1 : UInt64) (b6 : Bool) (s1 : UInt64 × σ) : Option (UInt64 × σ) :=
  obind (p0 ((s1).2) ((s1).1) ((s1).1)) fun x3 =>
  if b6 = true then
    obind (p0 x3.2 x3.1 a1) fun x4 =>
    some (x4.1, x4.2)
  else
  some (x3.1, x3.2)

def m_cyclic_power {σ : Type} (p0 : σ → UInt64 → UInt64 → Option (UInt64 × σ)) (a1 : UInt64) (a2 : UInt64) (s0 : σ) : Option (UInt64 × σ) :=
  obind (m_cyclic_places a2) fun x1 =>
  obind (m_cyclic_places_1 (fun (s : UInt64 × σ) (b0 : Bool) => obind (m_cyclic_power_b5 p0 a1 b0 s) fun y => some (true, y)) x1 (1, s0)) fun x2 =>
  some (x2.2.1, x2.2.2)

theorem w_cyclic_power {m : Mem} {As : List Ow} {w : World} {σ : Type} {R : σ → Mem → List Ow → Prop} {p0 : σ → UInt64 → UInt64 → Option (UInt64 × σ)} {f0 : Value} {a1 : UInt64} {a2 : UInt64} {s0 : σ} {X0 : List Ow} {r : UInt64 × σ} (S : St m ((X0 ++ As)) w) (hup : ∀ {s M M' X}, M ≤ M' → R s M X → R s M' X) (hX0 : R s0 m X0) (cb0 : ∀ {m' : Mem} {As' : List Ow} {w' : World} {s : σ} {X : List Ow} {b0 : UInt64} {b1 : UInt64} {r : UInt64 × σ}, St m' (X ++ As') w' → R s m' X → p0 s b0 b1 = some r → CallV Try.prog f0 [vU b0, vU b1] w' fun v w'' => ∃ (M : Mem) (X' : List Ow), m' ≤ M ∧ St M (X' ++ As') w'' ∧ R r.2 M X' ∧ v = vU r.1) (fc0 : f0.cells = #[f0]) (hm : m_cyclic_power p0 a1 a2 s0 = some r) :
    CallsR Try.prog 88 #[f0, vU a1, vU a2] w fun v w' => ∃ (M : Mem), m ≤ M ∧ ∃ (X : List Ow), St M ((X ++ As)) w' ∧ v = vU r.1 ∧ R r.2 M X := by
 unfold m_cyclic_power at hm
 have L0 := Mem.rfl' m
 refine callsR (args := [f0, vU a1, vU a2]) Try.func88 rfl Try.ntmps88 (Nat.le_of_ble_eq_true rfl) <| wpc_seq <| wpc_region <| s_boxS S rfl fc0 fun b1 w1 S1 => ?_
 replace S1 : St _ ((bx b1 [f0] 96) :: (X0 ++ As)) _ := S1
 clear S
 refine s_box S1 rfl fun b2 w2 S2 => ?_
 replace S2 : St _ ((bx b2 [vU a1] 22) :: (bx b1 [f0] 96) :: (X0 ++ As)) _ := S2
 clear S1
 refine s_asv (v := vU 0) rfl <| wpl_nil <| nrm <| wpc_seq <| wpc_region <| s_alloc S2 Try.zeroValue22 fun b3 w3 S3 => ?_
 replace S3 : St _ ((bx b3 [vU 0] 22) :: (bx b2 [vU a1] 22) :: (bx b1 [f0] 96) :: (X0 ++ As)) _ := S3
 clear S2
 refine s_stL (i := 0) S3 rfl rfl rfl Try.sizeOf22 (oneC rfl oneN) rfl fun w4 S4 => ?_
 replace S4 : St _ ((bx b3 [vU 1] 22) :: (bx b2 [vU a1] 22) :: (bx b1 [f0] 96) :: (X0 ++ As)) _ := S4
 clear S3
 refine wpl_nil <| nrm <| wpc_seq <| wpc_seq <| wpc_region <| s_mvv (v := vU a2) rfl ?_
 obtain ⟨x1, q1, hm⟩ := obind_some hm
 refine s_call Try.call101 (w_cyclic_places (a0 := a2) S4  q1) rfl ?_
 rintro _ w5 ⟨m1, l1, b4, S5, rfl⟩
 replace hX0 := hup l1 hX0
 replace L0 := Mem.tr L0 l1
 clear S4
 refine wpl_nil <| nrm <| wpc_block ?_
 obtain ⟨x2, q2, hm⟩ := obind_some hm
 refine wpc_rangeFunc S5 rfl Try.call105 fun lp1 rip2 w6 h1 S6 => ?_
 replace S6 : St _ ((Lp lp1 rip2 .ready none) :: (bx b4 [vU x1] 22) :: (bx b3 [vU 1] 22) :: (bx b2 [vU a1] 22) :: (bx b1 [f0] 96) :: (X0 ++ As)) _ := S6
 clear S5
 have S7 : St _ ((bx b4 [vU x1] 22) :: (Lp lp1 rip2 .ready none) :: (bx b3 [vU 1] 22) :: (bx b2 [vU a1] 22) :: (bx b1 [f0] 96) :: (X0 ++ As)) _ := St.perm S6 (List.Perm.swap _ _ _)
 clear S6
 have hcb1 : ∀ {m' : Mem} {As' : List Ow} {w' : World} {s : UInt64 × σ} {X : List Ow} {b0 : Bool} {r : Bool × (UInt64 × σ)}, St m' (X ++ As') w' → (∃ (X2 : List Ow), m1 ≤ m' ∧ X = Lp lp1 rip2 .ready none :: (bx b3 [vU ((s).1)] 22) :: (bx b2 [vU a1] 22) :: (bx b1 [f0] 96) :: X2 ∧ R ((s).2) m' X2) → (fun (s : UInt64 × σ) (b0 : Bool) => obind (m_cyclic_power_b5 p0 a1 b0 s) fun y => some (true, y)) s b0 = some r → CallV Try.prog (.func (.yield lp1) #[] #[]) [vb b0] w' fun v w'' => ∃ (M : Mem) (X' : List Ow), m' ≤ M ∧ St M (X' ++ As') w'' ∧ (∃ (X2 : List Ow), m1 ≤ M ∧ X' = Lp lp1 rip2 .ready none :: (bx b3 [vU ((r.2).1)] 22) :: (bx b2 [vU a1] 22) :: (bx b1 [f0] 96) :: X2 ∧ R ((r.2).2) M X2) ∧ v = vb r.1 := by
   intro m2 As1 w7 s1 X3 b6 r1 S8 h4 hm1
   obtain ⟨X4, L2, rfl, h5⟩ := h4
   obtain ⟨y1, q3, hm1⟩ := obind_some hm1
   cases hm1
   unfold m_cyclic_power_b5 at q3
   replace S8 : St _ ((Lp lp1 rip2 .ready none) :: (bx b3 [vU ((s1).1)] 22) :: (bx b2 [vU a1] 22) :: (bx b1 [f0] 96) :: (X4 ++ As1)) _ := S8
   have L1 := Mem.rfl' m2
   refine CallV.round h1 rfl S8 ?_
   refine wpc_region ?_
   refine s_asv (v := vb b6) rfl ?_
   refine wpl_nil ?_
   refine nrm ?_
   refine ⟨_, _, S8, ?_⟩
   intro w8 S9
   clear S8
   replace S9 : St _ ((Lp lp1 rip2 .busy none) :: (bx b3 [vU ((s1).1)] 22) :: (bx b2 [vU a1] 22) :: (bx b1 [f0] 96) :: (X4 ++ As1)) _ := S9
   refine wpc_block ?_
   refine wpc_seq ?_
   refine wpc_region ?_
   refine s_ld (i := 3) (cs := [f0]) S9 rfl rfl Try.isAgg96 Try.sizeOf96 rfl (fun _ => rfl) ?_
   refine s_ld (i := 1) (cs := [vU ((s1).1)]) S9 rfl rfl Try.isAgg22 Try.sizeOf22 rfl (fun _ => rfl) ?_
   refine s_ld (i := 1) (cs := [vU ((s1).1)]) S9 rfl rfl Try.isAgg22 Try.sizeOf22 rfl (fun _ => rfl) ?_
   obtain ⟨x3, q4, q3⟩ := obind_some q3
   have S10 := St.absF (L := [Lp lp1 rip2 .busy none, bx b3 [vU ((s1).1)] 22, bx b2 [vU a1] 22, bx b1 [f0] 96]) (X := X4) (As := As1) S9
   refine s_callV rfl (cb0 S10 h5 q4) rfl ?_
   rintro _ w9 ⟨m3, X5, l2, S11, h6, rfl⟩
   replace S11 := St.absF (L := X5) (X := [Lp lp1 rip2 .busy none, bx b3 [vU ((s1).1)] 22, bx b2 [vU a1] 22, bx b1 [f0] 96]) (As := As1) S11
   clear S10
   replace L1 := Mem.tr L1 l2
   replace S11 : St _ ((Lp lp1 rip2 .busy none) :: (bx b3 [vU ((s1).1)] 22) :: (bx b2 [vU a1] 22) :: (bx b1 [f0] 96) :: (X5 ++ As1)) _ := S11
   clear S9
   refine s_stL (i := 1) S11 rfl rfl rfl Try.sizeOf22 (oneC rfl oneN) rfl ?_
   intro w10 S12
   replace S12 : St _ ((Lp lp1 rip2 .busy none) :: (bx b3 [vU x3.1] 22) :: (bx b2 [vU a1] 22) :: (bx b1 [f0] 96) :: (X5 ++ As1)) _ := S12
   clear S11
   refine wpl_nil ?_
   refine nrm ?_
   refine wpc_seq ?_
   refine wpc_region ?_
   refine s_mvv (v := vb b6) rfl ?_
   refine wpl_nil ?_
   refine nrm ?_
   refine wpc_if (t := b6) rfl (fun hc1 => ?_) (fun hc1 => ?_)
   · replace q3 := ifT hc1 q3
     refine wpc_region ?_
     refine s_ld (i := 3) (cs := [f0]) S12 rfl rfl Try.isAgg96 Try.sizeOf96 rfl (fun _ => rfl) ?_
     refine s_ld (i := 1) (cs := [vU x3.1]) S12 rfl rfl Try.isAgg22 Try.sizeOf22 rfl (fun _ => rfl) ?_
     refine s_ld (i := 2) (cs := [vU a1]) S12 rfl rfl Try.isAgg22 Try.sizeOf22 rfl (fun _ => rfl) ?_
     obtain ⟨x4, q5, q3⟩ := obind_some q3
     have S13 := St.absF (L := [Lp lp1 rip2 .busy none, bx b3 [vU x3.1] 22, bx b2 [vU a1] 22, bx b1 [f0] 96]) (X := X5) (As := As1) S12
     refine s_callV rfl (cb0 S13 h6 q5) rfl ?_
     rintro _ w11 ⟨m4, X6, l3, S14, h7, rfl⟩
     replace S14 := St.absF (L := X6) (X := [Lp lp1 rip2 .busy none, bx b3 [vU x3.1] 22, bx b2 [vU a1] 22, bx b1 [f0] 96]) (As := As1) S14
     clear S13
     replace L1 := Mem.tr L1 l3
     replace S14 : St _ ((Lp lp1 rip2 .busy none) :: (bx b3 [vU x3.1] 22) :: (bx b2 [vU a1] 22) :: (bx b1 [f0] 96) :: (X6 ++ As1)) _ := S14
     clear S12
     refine s_stL (i := 1) S14 rfl rfl rfl Try.sizeOf22 (oneC rfl oneN) rfl ?_
     intro w12 S15
     replace S15 : St _ ((Lp lp1 rip2 .busy none) :: (bx b3 [vU x4.1] 22) :: (bx b2 [vU a1] 22) :: (bx b1 [f0] 96) :: (X6 ++ As1)) _ := S15
     clear S14
     refine wpl_nil ?_
     refine nrmB ?_
     refine ⟨_, _, S15, ?_⟩
     intro w13 S16
     have e0 := Option.some.inj q3
     subst e0
     exact ⟨_, Lp lp1 rip2 .ready none :: (bx b3 [vU x4.1] 22) :: (bx b2 [vU a1] 22) :: (bx b1 [f0] 96) :: X6, L1, S16, ⟨_, Mem.tr L2 L1, rfl, h7⟩, rfl⟩
   replace q3 := ifF hc1 q3
   refine wpc_skip ?_
   refine nrmB ?_
   refine ⟨_, _, S12, ?_⟩
   intro w14 S17
   have e0 := Option.some.inj q3
   subst e0
   exact ⟨_, Lp lp1 rip2 .ready none :: (bx b3 [vU x3.1] 22) :: (bx b2 [vU a1] 22) :: (bx b1 [f0] 96) :: X5, L1, S17, ⟨_, Mem.tr L2 L1, rfl, h6⟩, rfl⟩
 refine CallsR.mono (w_cyclic_places_1 (p0 := (fun (s : UInt64 × σ) (b0 : Bool) => obind (m_cyclic_power_b5 p0 a1 b0 s) fun y => some (true, y))) (k0 := x1) (s0 := (1, s0)) (R := (fun (s : UInt64 × σ) (M : Mem) (X : List Ow) => (∃ (X2 : List Ow), m1 ≤ M ∧ X = Lp lp1 rip2 .ready none :: (bx b3 [vU ((s).1)] 22) :: (bx b2 [vU a1] 22) :: (bx b1 [f0] 96) :: X2 ∧ R ((s).2) M X2))) (X0 := ((Lp lp1 rip2 .ready none) :: (bx b3 [vU 1] 22) :: (bx b2 [vU a1] 22) :: (bx b1 [f0] 96) :: X0)) (As := As) S7 (fun l h => by obtain ⟨X2, Lm, e, h3⟩ := h; exact ⟨_, Mem.tr Lm l, e, hup l h3⟩) ⟨_, Mem.rfl' _, rfl, hX0⟩ @hcb1 rfl q2) ?_
 rintro _ w15 ⟨m5, l4, X7, S18, rfl, ⟨X8, L3, rfl, h8⟩⟩
 have S19 : St _ ((Lp lp1 rip2 .ready none) :: (bx b4 [vU x2.1] 22) :: (bx b3 [vU x2.2.1] 22) :: (bx b2 [vU a1] 22) :: (bx b1 [f0] 96) :: (X8 ++ As)) _ := St.perm S18 (List.Perm.swap _ _ _)
 clear S18
 refine ⟨_, .ready, none, _, l4, (fun h => by cases h), S19, ?_⟩
 intro m6 w16 l5 S20
 have l6 := Mem.tr l4 l5
 replace h8 := hup l5 h8
 replace L0 := Mem.tr L0 l6
 replace S20 : St _ ((bx b4 [vU x2.1] 22) :: (bx b3 [vU x2.2.1] 22) :: (bx b2 [vU a1] 22) :: (bx b1 [f0] 96) :: (X8 ++ As)) _ := S20
 refine nrmB <| nrm <| wpc_seq <| wpc_region <| s_ld (i := 1) (cs := [vU x2.2.1]) S20 rfl rfl Try.isAgg22 Try.sizeOf22 rfl (fun _ => rfl) <| s_asv (v := vU x2.2.1) rfl <| wpl_nil <| nrm <| wpc_ret <| outRw fun we hpd => ?_
 replace S20 := St.pd S20 hpd
 obtain ⟨m7, l7, S21⟩ := St.drop S20 0
 replace h8 := hup l7 h8
 replace L0 := Mem.tr L0 l7
 clear S20
 replace S21 : St _ ((bx b3 [vU x2.2.1] 22) :: (bx b2 [vU a1] 22) :: (bx b1 [f0] 96) :: (X8 ++ As)) _ := S21
 obtain ⟨m8, l8, S22⟩ := St.drop S21 0
 replace h8 := hup l8 h8
 replace L0 := Mem.tr L0 l8
 clear S21
 replace S22 : St _ ((bx b2 [vU a1] 22) :: (bx b1 [f0] 96) :: (X8 ++ As)) _ := S22
 obtain ⟨m9, l9, S23⟩ := St.drop S22 0
 replace h8 := hup l9 h8
 replace L0 := Mem.tr L0 l9
 clear S22
 replace S23 : St _ ((bx b1 [f0] 96) :: (X8 ++ As)) _ := S23
 obtain ⟨m10, l10, S24⟩ := St.drop S23 0
 replace h8 := hup l10 h8
 replace L0 := Mem.tr L0 l10
 clear S23
 replace S24 : St _ ((X8 ++ As)) _ := S24
 have e0 := Option.some.inj hm
 subst e0
 exact outR [_] rfl ⟨rfl, trivial⟩ ⟨_, L0, _, S24, rfl, h8⟩

def m_cyclic_Pow (a0 : UInt64) (a1 : UInt64) : Option UInt64 :=
  obind (m_cyclic_power (fun (s1 : Unit) (b1 : UInt64) (b2 : UInt64) => obind (m_cyclic_ring_mul 2305843009213691579 b1 b2) fun x1 => some (x1, ())) a0 a1 ()) fun x2 =>
  some x2.1

theorem w_cyclic_Pow {m : Mem} {As : List Ow} {w : World} {a0 : UInt64} {a1 : UInt64} {r : UInt64} (S : St m (As) w) (hm : m_cyclic_Pow a0 a1 = some r) :
    CallsR Try.prog 70 #[vU a0, vU a1] w fun v w' => ∃ (M : Mem), m ≤ M ∧ St M (As) w' ∧ v = vU r := by
 unfold m_cyclic_Pow at hm
 have L0 := Mem.rfl' m
 refine callsR (args := [vU a0, vU a1]) Try.func70 rfl Try.ntmps70 (Nat.le_of_ble_eq_true rfl) <| wpc_seq <| wpc_region <| s_asv (v := vU 0) rfl <| wpl_nil <| nrm <| wpc_seq <| wpc_region <| s_funcP (pre := [vU 2305843009213691579]) (caps := []) rfl rfl <| s_mvv (v := vU a0) rfl <| s_mvv (v := vU a1) rfl ?_
 have hcb1 : ∀ {m' : Mem} {As' : List Ow} {w' : World} {s : Unit} {X : List Ow} {b0 : UInt64} {b1 : UInt64} {r : UInt64 × Unit}, St m' (X ++ As') w' → (X = []) → (fun (s1 : Unit) (b1 : UInt64) (b2 : UInt64) => obind (m_cyclic_ring_mul 2305843009213691579 b1 b2) fun x1 => some (x1, ())) s b0 b1 = some r → CallV Try.prog (.func (.func 72) #[vU 2305843009213691579] #[]) [vU b0, vU b1] w' fun v w'' => ∃ (M : Mem) (X' : List Ow), m' ≤ M ∧ St M (X' ++ As') w'' ∧ (X' = []) ∧ v = vU r.1 := by
   intro m1 As1 w1 s1 X1 b1 b2 r1 S1 h1 hm1
   subst h1
   replace S1 : St _ (As1) _ := S1
   have L1 := Mem.rfl' m1
   obtain ⟨x1, q1, hm1⟩ := obind_some hm1
   refine CallV.mono (CallV.clo (pre := [vU 2305843009213691579]) Try.call72 rfl (w_cyclic_ring_mul (a0 := 2305843009213691579) (a1 := b1) (a2 := b2) S1  q1)) ?_
   rintro _ w2 ⟨m2, l1, S2, rfl⟩
   replace L1 := Mem.tr L1 l1
   clear S1
   replace S2 : St _ (As1) _ := S2
   have e0 := Option.some.inj hm1
   subst e0
   exact ⟨_, [], L1, S2, rfl, rfl⟩
 obtain ⟨x2, q2, hm⟩ := obind_some hm
 refine s_call Try.call88 (w_cyclic_power (p0 := (fun (s1 : Unit) (b1 : UInt64) (b2 : UInt64) => obind (m_cyclic_ring_mul 2305843009213691579 b1 b2) fun x1 => some (x1, ()))) (a1 := a0) (a2 := a1) (s0 := ()) (R := (fun (s : Unit) (M : Mem) (X : List Ow) => (X = []))) (X0 := []) (As := As) S (fun {_ _ _ _} _ h => h) rfl @hcb1 rfl q2) rfl ?_
 rintro _ w3 ⟨m3, l2, X2, S3, rfl, rfl⟩
 replace L0 := Mem.tr L0 l2
 clear S
 refine s_asv (v := vU x2.1) rfl <| wpl_nil <| nrm <| wpc_ret <| outRw fun we hpd => ?_
 replace S3 := St.pd S3 hpd
 have e0 := Option.some.inj hm
 subst e0
 exact outR [_] rfl ⟨rfl, trivial⟩ ⟨_, L0, S3, rfl⟩

def m_cyclic_Base (a0 : UInt64) : Option UInt64 :=
  obind (m_cyclic_Pow 4 a0) fun x1 =>
  some x1

theorem w_cyclic_Base {m : Mem} {As : List Ow} {w : World} {a0 : UInt64} {r : UInt64} (S : St m (As) w) (hm : m_cyclic_Base a0 = some r) :
    CallsR Try.prog 49 #[vU a0] w fun v w' => ∃ (M : Mem), m ≤ M ∧ St M (As) w' ∧ v = vU r := by
 unfold m_cyclic_Base at hm
 have L0 := Mem.rfl' m
 refine callsR (args := [vU a0]) Try.func49 rfl Try.ntmps49 (Nat.le_of_ble_eq_true rfl) <| wpc_seq <| wpc_region <| s_asv (v := vU 0) rfl <| wpl_nil <| nrm <| wpc_seq <| wpc_region <| s_mvv (v := vU a0) rfl ?_
 obtain ⟨x1, q1, hm⟩ := obind_some hm
 refine s_call Try.call70 (w_cyclic_Pow (a0 := 4) (a1 := a0) S  q1) rfl ?_
 rintro _ w1 ⟨m1, l1, S1, rfl⟩
 replace L0 := Mem.tr L0 l1
 clear S
 refine s_asv (v := vU x1) rfl <| wpl_nil <| nrm <| wpc_ret <| outRw fun we hpd => ?_
 replace S1 := St.pd S1 hpd
 have e0 := Option.some.inj hm
 subst e0
 exact outR [_] rfl ⟨rfl, trivial⟩ ⟨_, L0, S1, rfl⟩

def m_sign_odd (a0 : UInt64) : Option Bool :=
  bnd ((((a0.toNat : Int) == 0) || (decide ((a0.toNat : Int) ≥ 1152921504606845789)))) fun x1 =>
  some x1

theorem w_sign_odd {m : Mem} {As : List Ow} {w : World} {a0 : UInt64} {r : Bool} (S : St m (As) w) (hm : m_sign_odd a0 = some r) :
    CallsR Try.prog 55 #[vU a0] w fun v w' => ∃ (M : Mem), m ≤ M ∧ St M (As) w' ∧ v = vb r := by
 unfold m_sign_odd at hm
 have L0 := Mem.rfl' m
 refine callsR (args := [vU a0]) Try.func55 rfl Try.ntmps55 (Nat.le_of_ble_eq_true rfl) <| wpc_seq <| wpc_region <| s_asv (v := vb false) rfl <| wpl_nil <| nrm <| wpc_seq <| wpc_region <| s_mvv (v := vU a0) rfl <| s_eql (m := (a0.toNat : Int)) (n := 0) rfl rfl <| s_mvv (v := vb ((a0.toNat : Int) == 0)) rfl <| wpl_cut 3 [6, 7, 8] (fun f' w' => w' = w ∧ AllAt f' [(8, vb (((a0.toNat : Int) == 0) || (decide ((a0.toNat : Int) ≥ 1152921504606845789))))]) ?_ ?_
 · rcases bool_tf ((a0.toNat : Int) == 0) with hb1 | hb1
   · exact wpl_no (d := 5) rfl rfl (congrArg Value.bool hb1) <| wpl_no (d := 5) rfl rfl (congrArg Value.bool hb1) <| s_pickT (congrArg Value.bool hb1) rfl <| wpl_nil (nrm ⟨outP, rfl, congrArg Value.bool (or_t hb1), trivial⟩)
   · exact wpl_yes (d := 5) rfl rfl (congrArg Value.bool hb1) <| s_mvv (v := vU a0) rfl <| wpl_yes (d := 5) rfl rfl (congrArg Value.bool hb1) <| s_geq (m := (a0.toNat : Int)) (n := 1152921504606845789) rfl rfl <| s_pickF (congrArg Value.bool hb1) rfl <| wpl_nil (nrm ⟨outP, rfl, congrArg Value.bool (or_f hb1), trivial⟩)
 rintro f1 w1 ho ⟨h1, ha⟩
 subst h1
 obtain ⟨u1, rfl⟩ := fr_of (N := 9) ho ha
 obtain ⟨x1, q1, hm⟩ := bnd_eq hm
 refine s_asv (v := vb x1) (congrArg (fun z => vb z) q1.symm) <| wpl_nil <| nrm <| wpc_ret <| outRw fun we hpd => ?_
 replace S := St.pd S hpd
 have e0 := Option.some.inj hm
 subst e0
 exact outR [_] rfl ⟨rfl, trivial⟩ ⟨_, L0, S, rfl⟩

def m_sign_Public (a0 : UInt64) : Option (UInt64 × Int) :=
  obind (m_sign_odd a0) fun x1 =>
  if x1 = true then
    some (0, 1)
  else
  obind (m_cyclic_Base a0) fun x2 =>
  some (x2, 0)

theorem w_sign_Public {m : Mem} {As : List Ow} {w : World} {a0 : UInt64} {r : UInt64 × Int} (S : St m (As) w) (hm : m_sign_Public a0 = some r) :
    CallsR Try.prog 33 #[vU a0] w fun v w' => ∃ (M : Mem), m ≤ M ∧ St M (As) w' ∧ v = .tuple #[vU r.1, vI r.2] := by
 unfold m_sign_Public at hm
 have L0 := Mem.rfl' m
 refine callsR (args := [vU a0]) Try.func33 rfl Try.ntmps33 (Nat.le_of_ble_eq_true rfl) <| wpc_seq <| wpc_region <| s_asv (v := vU 0) rfl <| s_asv (v := vI 0) rfl <| wpl_nil <| nrm <| wpc_seq <| wpc_seq <| wpc_region <| s_mvv (v := vU a0) rfl ?_
 obtain ⟨x1, q1, hm⟩ := obind_some hm
 refine s_call Try.call55 (w_sign_odd (a0 := a0) S  q1) rfl ?_
 rintro _ w1 ⟨m1, l1, S1, rfl⟩
 replace L0 := Mem.tr L0 l1
 clear S
 refine wpl_nil <| nrm <| wpc_if (t := x1) rfl (fun hc1 => ?_) (fun hc1 => ?_)
 · replace hm := ifT hc1 hm
   refine wpc_seq <| wpc_region <| s_asv (v := vU 0) rfl <| s_asv (v := vI 1) rfl <| wpl_nil <| nrm <| wpc_ret <| thR <| outRw fun we hpd => ?_
   replace S1 := St.pd S1 hpd
   have e0 := Option.some.inj hm
   subst e0
   exact outR [_, _] rfl ⟨rfl, rfl, trivial⟩ ⟨_, L0, S1, rfl⟩
 replace hm := ifF hc1 hm
 refine wpc_skip <| nrm <| wpc_seq <| wpc_region <| s_mvv (v := vU a0) rfl ?_
 obtain ⟨x2, q2, hm⟩ := obind_some hm
 refine s_call Try.call49 (w_cyclic_Base (a0 := a0) S1  q2) rfl ?_
 rintro _ w2 ⟨m2, l2, S2, rfl⟩
 replace L0 := Mem.tr L0 l2
 clear S1
 refine s_asv (v := vU x2) rfl <| s_asv (v := vI 0) rfl <| wpl_nil <| nrm <| wpc_ret <| outRw fun we hpd => ?_
 replace S2 := St.pd S2 hpd
 have e0 := Option.some.inj hm
 subst e0
 exact outR [_, _] rfl ⟨rfl, rfl, trivial⟩ ⟨_, L0, S2, rfl⟩

def m_hash_Num (a0 : UInt64 × UInt64) (a1 : UInt64) : Option UInt64 :=
  if ((a1.toNat : Int) == 0) = true then
    some 0
  else
  obind (m_bits_Mul64 a0.1 2305843009213693952) fun x1 =>
  if a1 ≠ 0 then
    obind (m_bits_Div64 ((x1.1 + (carryU x1.2 a0.2)) % a1) (x1.2 + a0.2) a1) fun x2 =>
    some x2.2
  else none

theorem w_hash_Num {m : Mem} {As : List Ow} {w : World} {a0 : UInt64 × UInt64} {a1 : UInt64} {r : UInt64} (S : St m (As) w) (hm : m_hash_Num a0 a1 = some r) :
    CallsR Try.prog 69 #[.agg #[vU a0.1, vU a0.2], vU a1] w fun v w' => ∃ (M : Mem), m ≤ M ∧ St M (As) w' ∧ v = vU r := by
 unfold m_hash_Num at hm
 have L0 := Mem.rfl' m
 refine callsR (args := [.agg #[vU a0.1, vU a0.2], vU a1]) Try.func69 rfl Try.ntmps69 (Nat.le_of_ble_eq_true rfl) <| wpc_seq <| wpc_region <| s_box S rfl fun b1 w1 S1 => ?_
 replace S1 : St _ ((bx b1 [vU a0.1, vU a0.2] 31) :: As) _ := S1
 clear S
 refine s_asv (v := vU 0) rfl <| wpl_nil <| nrm <| wpc_seq <| wpc_seq <| wpc_region <| s_mvv (v := vU a1) rfl <| s_eql (m := (a1.toNat : Int)) (n := 0) rfl rfl <| wpl_nil <| nrm <| wpc_if (t := ((a1.toNat : Int) == 0)) rfl (fun hc1 => ?_) (fun hc1 => ?_)
 · replace hm := ifT hc1 hm
   refine wpc_seq <| wpc_region <| s_asv (v := vU 0) rfl <| wpl_nil <| nrm <| wpc_ret <| thR <| outRw fun we hpd => ?_
   replace S1 := St.pd S1 hpd
   obtain ⟨m1, l1, S2⟩ := St.drop S1 0
   replace L0 := Mem.tr L0 l1
   clear S1
   replace S2 : St _ (As) _ := S2
   have e0 := Option.some.inj hm
   subst e0
   exact outR [_] rfl ⟨rfl, trivial⟩ ⟨_, L0, S2, rfl⟩
 replace hm := ifF hc1 hm
 refine wpc_skip <| nrm <| wpc_seq <| wpc_region <| s_idxA (i := 0) rfl rfl Try.underlying31 Try.sizeOf22 (by decide) (by decide) <| s_ld (i := 0) (cs := [vU a0.1]) S1 rfl rfl Try.isAgg22 Try.sizeOf22 rfl (fun _ => rfl) ?_
 obtain ⟨x1, q1, hm⟩ := obind_some hm
 refine s_call Try.call85 (w_bits_Mul64 (a0 := a0.1) (a1 := 2305843009213693952) S1  q1) rfl ?_
 rintro _ w2 ⟨m2, l2, S3, rfl⟩
 replace L0 := Mem.tr L0 l2
 clear S1
 refine s_mvv (v := .tuple #[vU x1.1, vU x1.2]) rfl <| s_ext (i := 0) rfl rfl <| s_ext (i := 1) rfl rfl <| s_asv (v := vU x1.1) rfl <| s_asv (v := vU x1.2) rfl <| wpl_nil <| nrm <| wpc_seq <| wpc_region <| s_mvv (v := vU x1.2) rfl <| s_idxA (i := 1) rfl rfl Try.underlying31 Try.sizeOf22 (by decide) (by decide) <| s_ld (i := 0) (cs := [vU a0.2]) S3 rfl rfl Try.isAgg22 Try.sizeOf22 rfl (fun _ => rfl) <| s_add64 (p := x1.2) (q := a0.2) Try.func86 (by kernel_rfl) (by kernel_rfl) (by kernel_rfl) (by kernel_rfl) rfl rfl rfl <| s_mvv (v := .tuple #[vU (x1.2 + a0.2), vU (carryU x1.2 a0.2)]) rfl <| s_ext (i := 0) rfl rfl <| s_ext (i := 1) rfl rfl <| s_asv (v := vU (x1.2 + a0.2)) rfl <| s_asv (v := vU (carryU x1.2 a0.2)) rfl <| wpl_nil <| nrm <| wpc_seq <| wpc_region <| s_mvv (v := vU x1.1) rfl <| s_mvv (v := vU (carryU x1.2 a0.2)) rfl <| s_addU (m := x1.1) (n := (carryU x1.2 a0.2)) rfl rfl <| s_mvv (v := vU a1) rfl ?_
 obtain ⟨q2, hm⟩ := if_some hm
 refine s_remU (m := (x1.1 + (carryU x1.2 a0.2))) (n := a1) rfl rfl q2 <| s_mvv (v := vU (x1.2 + a0.2)) rfl <| s_mvv (v := vU a1) rfl ?_
 obtain ⟨x2, q3, hm⟩ := obind_some hm
 refine s_call Try.call87 (w_bits_Div64 (a0 := ((x1.1 + (carryU x1.2 a0.2)) % a1)) (a1 := (x1.2 + a0.2)) (a2 := a1) S3  q3) rfl ?_
 rintro _ w3 ⟨m3, l3, S4, rfl⟩
 replace L0 := Mem.tr L0 l3
 clear S3
 refine s_mvv (v := .tuple #[vU x2.1, vU x2.2]) rfl <| s_ext (i := 0) rfl rfl <| s_ext (i := 1) rfl rfl <| s_asv (v := vU x2.1) rfl <| s_asv (v := vU x2.2) rfl <| wpl_nil <| nrm <| wpc_seq <| wpc_region <| s_mvv (v := vU x2.2) rfl <| s_asv (v := vU x2.2) rfl <| wpl_nil <| nrm <| wpc_ret <| outRw fun we hpd => ?_
 replace S4 := St.pd S4 hpd
 obtain ⟨m4, l4, S5⟩ := St.drop S4 0
 replace L0 := Mem.tr L0 l4
 clear S4
 replace S5 : St _ (As) _ := S5
 have e0 := Option.some.inj hm
 subst e0
 exact outR [_] rfl ⟨rfl, trivial⟩ ⟨_, L0, S5, rfl⟩

def m_sign_some (a0 : ByteArray) (a1 : List (List UInt8)) : Option UInt64 :=
  obind (m_hash_Tagged a0 a1) fun x1 =>
  obind (m_hash_Num x1 1152921504606845788) fun x2 =>
  some (x2 + 1)

theorem w_sign_some {m : Mem} {As : List Ow} {w : World} {a0 : ByteArray} {a1 : List (List UInt8)} {a1v0 : Value} {r : UInt64} (S : St m (As) w) (a1h0 : SlR m a1v0 a1) (hm : m_sign_some a0 a1 = some r) :
    CallsR Try.prog 46 #[vS a0, a1v0] w fun v w' => ∃ (M : Mem), m ≤ M ∧ St M (As) w' ∧ v = vU r := by
 unfold m_sign_some at hm
 have L0 := Mem.rfl' m
 refine callsR (args := [vS a0, a1v0]) Try.func46 rfl Try.ntmps46 (Nat.le_of_ble_eq_true rfl) <| wpc_seq <| wpc_region <| s_asv (v := vU 0) rfl <| wpl_nil <| nrm <| wpc_seq <| wpc_region <| s_mvv (v := vS a0) rfl <| s_mvv (v := a1v0) rfl ?_
 obtain ⟨x1, q1, hm⟩ := obind_some hm
 refine s_call Try.call35 (w_hash_Tagged (a0 := a0) (a1 := a1) S a1h0 q1) rfl ?_
 rintro _ w1 ⟨m1, l1, S1, rfl⟩
 replace L0 := Mem.tr L0 l1
 clear S
 obtain ⟨x2, q2, hm⟩ := obind_some hm
 refine s_call Try.call69 (w_hash_Num (a0 := x1) (a1 := 1152921504606845788) S1  q2) rfl ?_
 rintro _ w2 ⟨m2, l2, S2, rfl⟩
 replace L0 := Mem.tr L0 l2
 clear S1
 refine s_addU (m := x2) (n := 1) rfl rfl <| s_asv (v := vU (x2 + 1)) rfl <| wpl_nil <| nrm <| wpc_ret <| outRw fun we hpd => ?_
 replace S2 := St.pd S2 hpd
 have e0 := Option.some.inj hm
 subst e0
 exact outR [_] rfl ⟨rfl, trivial⟩ ⟨_, L0, S2, rfl⟩

def m_sign_bytes_b2 (a0 : UInt64) (i1 : Int) (s1 : UInt8 × UInt8 × UInt8 × UInt8 × UInt8 × UInt8 × UInt8 × UInt8) : Option (UInt8 × UInt8 × UInt8 × UInt8 × UInt8 × UInt8 × UInt8 × UInt8) :=
  if (0 : Int) ≤ (w64 (8 * (i1 : Int))) then
    obind (idx [s1.1, s1.2.1, s1.2.2.1, s1.2.2.2.1, s1.2.2.2.2.1, s1.2.2.2.2.2.1, s1.2.2.2.2.2.2.1, s1.2.2.2.2.2.2.2] (w64 (7 - (i1 : Int)))) fun x4 =>
    bnd (if (w64 (7 - (i1 : Int))) = 0 then (toB ((shrU a0 ((w64 (8 * (i1 : Int))).toNat)).toNat : Int)) else s1.1) fun x5 =>
    bnd (if (w64 (7 - (i1 : Int))) = 1 then (toB ((shrU a0 ((w64 (8 * (i1 : Int))).toNat)).toNat : Int)) else s1.2.1) fun x6 =>
    bnd (if (w64 (7 - (i1 : Int))) = 2 then (toB ((shrU a0 ((w64 (8 * (i1 : Int))).toNat)).toNat : Int)) else s1.2.2.1) fun x7 =>
    bnd (if (w64 (7 - (i1 : Int))) = 3 then (toB ((shrU a0 ((w64 (8 * (i1 : Int))).toNat)).toNat : Int)) else s1.2.2.2.1) fun x8 =>
    bnd (if (w64 (7 - (i1 : Int))) = 4 then (toB ((shrU a0 ((w64 (8 * (i1 : Int))).toNat)).toNat : Int)) else s1.2.2.2.2.1) fun x9 =>
    bnd (if (w64 (7 - (i1 : Int))) = 5 then (toB ((shrU a0 ((w64 (8 * (i1 : Int))).toNat)).toNat : Int)) else s1.2.2.2.2.2.1) fun x10 =>
    bnd (if (w64 (7 - (i1 : Int))) = 6 then (toB ((shrU a0 ((w64 (8 * (i1 : Int))).toNat)).toNat : Int)) else s1.2.2.2.2.2.2.1) fun x11 =>
    bnd (if (w64 (7 - (i1 : Int))) = 7 then (toB ((shrU a0 ((w64 (8 * (i1 : Int))).toNat)).toNat : Int)) else s1.2.2.2.2.2.2.2) fun x12 =>
    some (x5, x6, x7, x8, x9, x10, x11, x12)
  else none

def m_sign_bytes (a0 : UInt64) : Option (List UInt8) :=
  obind (
    obind (eachN0 (m_sign_bytes_b2 a0) 8 0 (0, 0, 0, 0, 0, 0, 0, 0)) fun x2 =>
    some (x2.1, x2.2.1, x2.2.2.1, x2.2.2.2.1, x2.2.2.2.2.1, x2.2.2.2.2.2.1, x2.2.2.2.2.2.2.1, x2.2.2.2.2.2.2.2)
  ) fun x1 =>
  some ([x1.1, x1.2.1, x1.2.2.1, x1.2.2.2.1, x1.2.2.2.2.1, x1.2.2.2.2.2.1, x1.2.2.2.2.2.2.1, x1.2.2.2.2.2.2.2] : List UInt8)

theorem w_sign_bytes {m : Mem} {As : List Ow} {w : World} {a0 : UInt64} {r : List UInt8} (S : St m (As) w) (hm : m_sign_bytes a0 = some r) :
    CallsR Try.prog 47 #[vU a0] w fun v w' => ∃ (M : Mem), m ≤ M ∧ ∃ (rv0 : Value) (rc0 : List Value), St M ((row 1 rv0 rc0 r.length) :: As) w' ∧ v = rv0 ∧ RepL M rc0 r := by
 unfold m_sign_bytes at hm
 have L0 := Mem.rfl' m
 refine callsR (args := [vU a0]) Try.func47 rfl Try.ntmps47 (Nat.le_of_ble_eq_true rfl) <| wpc_seq <| wpc_region <| s_asv (v := .slice none 0 0) rfl <| wpl_nil <| nrm <| wpc_seq <| wpc_region <| s_alloc S Try.zeroValue121 fun b1 w1 S1 => ?_
 replace S1 : St _ ((bx b1 [vB 0, vB 0, vB 0, vB 0, vB 0, vB 0, vB 0, vB 0] 121) :: As) _ := S1
 clear S
 refine wpl_nil <| nrm ?_
 obtain ⟨x1, q1, hm⟩ := obind_some hm
 have L1 := Mem.rfl' m
 refine wpc_seq <| wpc_join [4, 5, 6, 7, 8, 9, 10, 11, 12, 13, 14, 15, 16] (fun f' w' => ∃ (M1 : Mem), m ≤ M1 ∧ St M1 ((bx b1 [vB x1.1, vB x1.2.1, vB x1.2.2.1, vB x1.2.2.2.1, vB x1.2.2.2.2.1, vB x1.2.2.2.2.2.1, vB x1.2.2.2.2.2.2.1, vB x1.2.2.2.2.2.2.2] 121) :: As) w' ∧ AllAt f' []) ?_ ?_
 · refine wpc_seq <| wpc_region <| s_mvv (v := vI 0) rfl <| wpl_nil <| nrm ?_
   obtain ⟨x2, q2, q1⟩ := obind_some q1
   have L2 := Mem.rfl' m
   refine wpc_join [4, 5, 6, 7, 8, 9, 10, 11, 12, 13, 14, 15, 16] (fun f' w' => ∃ (M2 : Mem), m ≤ M2 ∧ St M2 ((bx b1 [vB x2.1, vB x2.2.1, vB x2.2.2.1, vB x2.2.2.2.1, vB x2.2.2.2.2.1, vB x2.2.2.2.2.2.1, vB x2.2.2.2.2.2.2.1, vB x2.2.2.2.2.2.2.2] 121) :: As) w' ∧ AllAt f' []) ?_ ?_
   · refine wpc_block <| wpc_rounds [4, 5, 6, 7, 8, 9, 10, 11, 12, 13, 14, 15, 16] (fun n1 f' w' => ∃ (i1 : Nat) (s1 : UInt8 × UInt8 × UInt8 × UInt8 × UInt8 × UInt8 × UInt8 × UInt8) (m2 : Mem), n1 = 8 - i1 ∧ i1 ≤ 8 ∧ eachN0 (m_sign_bytes_b2 a0) (8 - i1) (i1 : Int) s1 = some x2 ∧ m ≤ m2 ∧ St m2 ((bx b1 [vB s1.1, vB s1.2.1, vB s1.2.2.1, vB s1.2.2.2.1, vB s1.2.2.2.2.1, vB s1.2.2.2.2.2.1, vB s1.2.2.2.2.2.2.1, vB s1.2.2.2.2.2.2.2] 121) :: As) w' ∧ AllAt f' [(5, vI (i1 : Int))]) 8 ⟨0, (0, 0, 0, 0, 0, 0, 0, 0), m, rfl, Nat.zero_le _, q2, L2, S1, ⟨rfl, trivial⟩⟩ ?_
     rintro n1 f1 w2 ho ⟨i1, s1, m1, hn, hi, q3, L4, S2, ha⟩
     obtain ⟨u1, rfl⟩ := fr_of (N := 18) ho ha
     clear ho ha
     have L3 := Mem.rfl' m1
     clear S1
     refine wpc_seq <| wpc_region <| s_lss (m := (i1 : Int)) (n := 8) rfl rfl <| wpl_nil <| nrm <| wpc_seq <| wpc_if (t := decide ((i1 : Int) < (8 : Int))) rfl (fun hc1 => ?_) (fun hc1 => ?_)
     · have hlt1 : i1 < 8 := by have := of_decide_eq_true hc1; omega
       obtain ⟨y1, q5, q4⟩ := eachN0_in q3 hlt1
       unfold m_sign_bytes_b2 at q5
       refine wpc_skip <| nrm <| wpc_seq <| wpc_block <| wpc_seq <| wpc_region <| s_mvv (v := vI (i1 : Int)) rfl <| s_asv (v := vI (i1 : Int)) rfl <| wpl_nil <| nrm <| wpc_region <| s_mvv (v := vI (i1 : Int)) rfl <| s_subI (m := 7) (n := (i1 : Int)) rfl rfl <| s_mvv (v := vU a0) rfl <| s_mvv (v := vI (i1 : Int)) rfl <| s_mulI (m := 8) (n := (i1 : Int)) rfl rfl ?_
       obtain ⟨q7, q5⟩ := if_some q5
       refine s_shrU (m := a0) (n := (w64 (8 * (i1 : Int)))) rfl rfl q7 <| s_convB rfl Try.underlying22 Try.underlying5 ?_
       obtain ⟨x4, q8, q5⟩ := obind_some q5
       refine s_idxA (i := (w64 (7 - (i1 : Int)))) rfl rfl Try.underlying121 Try.sizeOf5 (idx_rng q8).1 (idx_rng q8).2 ?_
       obtain ⟨x5, q9, q5⟩ := bnd_eq q5
       obtain ⟨x6, q10, q5⟩ := bnd_eq q5
       obtain ⟨x7, q11, q5⟩ := bnd_eq q5
       obtain ⟨x8, q12, q5⟩ := bnd_eq q5
       obtain ⟨x9, q13, q5⟩ := bnd_eq q5
       obtain ⟨x10, q14, q5⟩ := bnd_eq q5
       obtain ⟨x11, q15, q5⟩ := bnd_eq q5
       obtain ⟨x12, q16, q5⟩ := bnd_eq q5
       refine s_st (i := 0) (off := 0 + (w64 (7 - (i1 : Int))).toNat * 1) S2 rfl rfl rfl Try.sizeOf5 (OneL.all (oneC rfl oneN)) (by rcases idx8 q8 with ⟨h, h'⟩ | ⟨h, h'⟩ | ⟨h, h'⟩ | ⟨h, h'⟩ | ⟨h, h'⟩ | ⟨h, h'⟩ | ⟨h, h'⟩ | ⟨h, h'⟩ <;> (rw [h]; exact Nat.le_of_ble_eq_true rfl)) fun w3 S3 => ?_
       replace S3 := St.cellsTo (i := 0) (l' := [vB x5, vB x6, vB x7, vB x8, vB x9, vB x10, vB x11, vB x12]) S3 (by rcases idx8 q8 with ⟨h, h'⟩ | ⟨h, h'⟩ | ⟨h, h'⟩ | ⟨h, h'⟩ | ⟨h, h'⟩ | ⟨h, h'⟩ | ⟨h, h'⟩ | ⟨h, h'⟩ <;> (simp only [q9, q10, q11, q12, q13, q14, q15, q16, h]; rfl)) rfl
       replace S3 : St _ ((bx b1 [vB x5, vB x6, vB x7, vB x8, vB x9, vB x10, vB x11, vB x12] 121) :: As) _ := S3
       clear S2
       refine wpl_nil <| nrmB <| nrm <| wpc_region <| s_addI (m := (i1 : Int)) (n := 1) rfl rfl <| s_mvv (v := vI (w64 ((i1 : Int) + 1))) rfl <| wpl_nil <| nrm ?_
       have e0 := Option.some.inj q5
       subst e0
       exact ⟨outP, _, (by omega), ⟨i1 + 1, (x5, x6, x7, x8, x9, x10, x11, x12), m1, rfl, hlt1, q4, Mem.tr L4 L3, S3, ⟨congrArg (Value.int .i64) (w64_succ hlt1 (by decide)), trivial⟩⟩⟩
     have hlt1 : ¬ i1 < 8 := by have := of_decide_eq_false hc1; omega
     have e := Eq.symm (eachN0_out q3 hlt1)
     subst e
     exact wpc_exit <| thE <| thE <| exB <| nrm <| ⟨outP, m1, Mem.tr L4 L3, S2, trivial⟩
   rintro f2 w4 ho ⟨m3, l1, S4, ha⟩
   obtain ⟨u2, rfl⟩ := fr_of (N := 18) ho ha
   clear ho ha
   replace L1 := Mem.tr L1 l1
   clear S1
   have e0 := Option.some.inj q1
   subst e0
   exact ⟨outP, m3, L1, S4, trivial⟩
 rintro f3 w5 ho ⟨m4, l2, S5, ha⟩
 obtain ⟨u3, rfl⟩ := fr_of (N := 18) ho ha
 replace L0 := Mem.tr L0 l2
 clear S1
 refine wpc_seq <| wpc_region <| s_sliceA (k := 8) (n := 8) (sz := 1) (off := 0) rfl Try.underlying121 Try.sizeOf5 (.inl ⟨rfl, rfl⟩) (Nat.le_refl _) ?_
 have S6 := St.bxRow (i := 0) (sz := 1) (n := 8) S5 rfl rfl (by decide)
 have h1 : RepL m4 [vB x1.1, vB x1.2.1, vB x1.2.2.1, vB x1.2.2.2.1, vB x1.2.2.2.2.1, vB x1.2.2.2.2.2.1, vB x1.2.2.2.2.2.2.1, vB x1.2.2.2.2.2.2.2] ([x1.1, x1.2.1, x1.2.2.1, x1.2.2.2.1, x1.2.2.2.2.1, x1.2.2.2.2.2.1, x1.2.2.2.2.2.2.1, x1.2.2.2.2.2.2.2] : List UInt8) := (RepL.cons (c := [vB x1.1]) rfl (RepL.cons (c := [vB x1.2.1]) rfl (RepL.cons (c := [vB x1.2.2.1]) rfl (RepL.cons (c := [vB x1.2.2.2.1]) rfl (RepL.cons (c := [vB x1.2.2.2.2.1]) rfl (RepL.cons (c := [vB x1.2.2.2.2.2.1]) rfl (RepL.cons (c := [vB x1.2.2.2.2.2.2.1]) rfl (RepL.cons (c := [vB x1.2.2.2.2.2.2.2]) rfl RepL.nil))))))))
 replace S6 : St _ ((row 1 (.slice (some ⟨b1, 0, none⟩) 8 8) [vB x1.1, vB x1.2.1, vB x1.2.2.1, vB x1.2.2.2.1, vB x1.2.2.2.2.1, vB x1.2.2.2.2.2.1, vB x1.2.2.2.2.2.2.1, vB x1.2.2.2.2.2.2.2] ([x1.1, x1.2.1, x1.2.2.1, x1.2.2.2.1, x1.2.2.2.2.1, x1.2.2.2.2.2.1, x1.2.2.2.2.2.2.1, x1.2.2.2.2.2.2.2] : List UInt8).length) :: As) _ := S6
 clear S5
 refine s_asv (v := (.slice (some ⟨b1, 0, none⟩) 8 8)) rfl <| wpl_nil <| nrm <| wpc_ret <| outRw fun we hpd => ?_
 replace S6 := St.pd S6 hpd
 have e0 := Option.some.inj hm
 subst e0
 exact outR [_] rfl ⟨rfl, trivial⟩ ⟨_, L0, _, _, S6, rfl, h1⟩

def m_sign_Challenge (a0 : UInt64) (a1 : UInt64) (a2 : List UInt8) : Option UInt64 :=
  obind (m_sign_bytes a0) fun x1 =>
  obind (m_sign_bytes a1) fun x2 =>
  obind (m_hash_Tagged (⟨#[115, 105, 103, 110]⟩ : ByteArray) ([x1, x2, a2] : List (List UInt8))) fun x3 =>
  obind (m_hash_Num x3 1152921504606845789) fun x4 =>
  some x4

theorem w_sign_Challenge {m : Mem} {As : List Ow} {w : World} {a0 : UInt64} {a1 : UInt64} {a2 : List UInt8} {a2v0 : Value} {r : UInt64} (S : St m (As) w) (a2h0 : SlR m a2v0 a2) (hm : m_sign_Challenge a0 a1 a2 = some r) :
    CallsR Try.prog 48 #[vU a0, vU a1, a2v0] w fun v w' => ∃ (M : Mem), m ≤ M ∧ St M (As) w' ∧ v = vU r := by
 unfold m_sign_Challenge at hm
 have L0 := Mem.rfl' m
 refine callsR (args := [vU a0, vU a1, a2v0]) Try.func48 rfl Try.ntmps48 (Nat.le_of_ble_eq_true rfl) <| wpc_seq <| wpc_region <| s_asv (v := vU 0) rfl <| wpl_nil <| nrm <| wpc_seq <| wpc_region <| s_mvv (v := vU a0) rfl ?_
 obtain ⟨x1, q1, hm⟩ := obind_some hm
 refine s_call Try.call47 (w_sign_bytes (a0 := a0) S  q1) rfl ?_
 rintro v1 w1 ⟨m1, l1, _, c1, S1, rfl, h1⟩
 replace a2h0 := a2h0.up l1
 replace L0 := Mem.tr L0 l1
 clear S
 refine s_mvv (v := vU a1) rfl ?_
 obtain ⟨x2, q2, hm⟩ := obind_some hm
 refine s_call Try.call47 (w_sign_bytes (a0 := a1) S1  q2) rfl ?_
 rintro v2 w2 ⟨m2, l2, _, c2, S2, rfl, h2⟩
 replace a2h0 := a2h0.up l2
 replace h1 := RepL.up l2 h1
 replace L0 := Mem.tr L0 l2
 clear S1
 refine s_mvv (v := a2v0) rfl ?_
 obtain ⟨m3, l3, h3, S3⟩ := St.rowKeepT (i := 1) S2 rfl h1 rfl
 replace h2 := RepL.up l3 h2
 replace a2h0 := a2h0.up l3
 replace L0 := Mem.tr L0 l3
 clear S2
 obtain ⟨m4, l4, h4, S4⟩ := St.rowKeepT (i := 0) S3 rfl h2 rfl
 replace h3 := h3.up l4
 replace a2h0 := a2h0.up l4
 replace L0 := Mem.tr L0 l4
 clear S3
 refine s_litC (parts := [.tmp 8, .tmp 10, .tmp 11]) (vs := [v1, v2, a2v0]) (cls := [[v1], [v2], [a2v0]]) (xs := ([x1, x2, a2] : List (List UInt8))) (n := 3) S4 Try.underlying101 Try.sizeOf27 Try.zeroValue27 rfl ⟨SlR.cells h3, SlR.cells h4, SlR.cells a2h0, trivial⟩ (RepL.cons (c := [v1]) (x := x1) ⟨_, rfl, h3⟩ (RepL.cons (c := [v2]) (x := x2) ⟨_, rfl, h4⟩ (RepL.cons (c := [a2v0]) (x := a2) ⟨_, rfl, a2h0⟩ RepL.nil))) rfl rfl rfl (by decide) (by decide) fun v3 m5 w3 l5 S5 h5 => ?_
 replace L0 := Mem.tr L0 l5
 clear S4
 obtain ⟨x3, q3, hm⟩ := obind_some hm
 refine s_call Try.call35 (w_hash_Tagged (a0 := (⟨#[115, 105, 103, 110]⟩ : ByteArray)) (a1 := ([x1, x2, a2] : List (List UInt8))) S5 h5 q3) rfl ?_
 rintro _ w4 ⟨m6, l6, S6, rfl⟩
 replace L0 := Mem.tr L0 l6
 clear S5
 obtain ⟨x4, q4, hm⟩ := obind_some hm
 refine s_call Try.call69 (w_hash_Num (a0 := x3) (a1 := 1152921504606845789) S6  q4) rfl ?_
 rintro _ w5 ⟨m7, l7, S7, rfl⟩
 replace L0 := Mem.tr L0 l7
 clear S6
 refine s_asv (v := vU x4) rfl <| wpl_nil <| nrm <| wpc_ret <| outRw fun we hpd => ?_
 replace S7 := St.pd S7 hpd
 have e0 := Option.some.inj hm
 subst e0
 exact outR [_] rfl ⟨rfl, trivial⟩ ⟨_, L0, S7, rfl⟩

def m_cyclic_ring_add (a0 : UInt64) (a1 : UInt64) (a2 : UInt64) : Option UInt64 :=
  if a0 ≠ 0 then
    if a0 ≠ 0 then
      obind (m_bits_Rem64 (carryU (a1 % a0) (a2 % a0)) ((a1 % a0) + (a2 % a0)) a0) fun x1 =>
      some x1
    else none
  else none

theorem w_cyclic_ring_add {m : Mem} {As : List Ow} {w : World} {a0 : UInt64} {a1 : UInt64} {a2 : UInt64} {r : UInt64} (S : St m (As) w) (hm : m_cyclic_ring_add a0 a1 a2 = some r) :
    CallsR Try.prog 71 #[vU a0, vU a1, vU a2] w fun v w' => ∃ (M : Mem), m ≤ M ∧ St M (As) w' ∧ v = vU r := by
 unfold m_cyclic_ring_add at hm
 have L0 := Mem.rfl' m
 refine callsR (args := [vU a0, vU a1, vU a2]) Try.func71 rfl Try.ntmps71 (Nat.le_of_ble_eq_true rfl) <| wpc_seq <| wpc_region <| s_asv (v := vU 0) rfl <| wpl_nil <| nrm <| wpc_seq ?_
 obtain ⟨q1, hm⟩ := if_some hm
 obtain ⟨q2, hm⟩ := if_some hm
 have HM : MonoAll [(10, fun (M : Mem) (v : Value) => v = vU a1), (11, fun (M : Mem) (v : Value) => v = vU a0), (12, fun (M : Mem) (v : Value) => v = vU (a1 % a0)), (13, fun (M : Mem) (v : Value) => v = vU a2), (14, fun (M : Mem) (v : Value) => v = vU a0), (15, fun (M : Mem) (v : Value) => v = vU (a2 % a0)), (16, fun (M : Mem) (v : Value) => v = .tuple #[vU ((a1 % a0) + (a2 % a0)), vU (carryU (a1 % a0) (a2 % a0))]), (9, fun (M : Mem) (v : Value) => v = .tuple #[vU ((a1 % a0) + (a2 % a0)), vU (carryU (a1 % a0) (a2 % a0))]), (17, fun (M : Mem) (v : Value) => v = vU ((a1 % a0) + (a2 % a0))), (18, fun (M : Mem) (v : Value) => v = vU (carryU (a1 % a0) (a2 % a0))), (7, fun (M : Mem) (v : Value) => v = vU ((a1 % a0) + (a2 % a0)))] := ⟨(fun _ _ _ _ h => h), (fun _ _ _ _ h => h), (fun _ _ _ _ h => h), (fun _ _ _ _ h => h), (fun _ _ _ _ h => h), (fun _ _ _ _ h => h), (fun _ _ _ _ h => h), (fun _ _ _ _ h => h), (fun _ _ _ _ h => h), (fun _ _ _ _ h => h), (fun _ _ _ _ h => h), trivial⟩
 refine wpc_flowG HM 11 mixed rfl rfl rfl [7, 9, 10, 11, 12, 13, 14, 15, 16, 17, 18] (fun L f M w => St M (As) w) (St.drew S _) ?_ ?_
 · refine ⟨?_, ?_, ?_, ?_, ?_, ?_, ?_, ?_, ?_, ?_, ?_, trivial⟩
   · intro L f1 w1 hL hd hc ⟨m1, L1, S1, K, hO⟩
     obtain ⟨u1, rfl⟩ := fr_of (N := 23) (L := []) hO trivial
     exact s_mvv (v := vU a1) rfl <| oS HM L1 S1 rfl K rfl rfl rfl outP
   · intro L f2 w2 hL hd hc ⟨m2, L3, S2, K, hO⟩
     obtain ⟨u2, rfl⟩ := fr_of (N := 23) (L := []) hO trivial
     exact s_mvv (v := vU a0) rfl <| oS HM L3 S2 rfl K rfl rfl rfl outP
   · intro L f3 w3 hL hd hc ⟨m3, L5, S3, K, hO⟩
     obtain ⟨u3, rfl⟩ := fr_of (N := 23) (L := [(10, _), (11, _)]) hO ⟨K 0 (dep hd rfl), K 1 (dep hd rfl), trivial⟩
     exact s_remU (m := a1) (n := a0) rfl rfl q1 <| oS HM L5 S3 rfl K rfl rfl rfl outP
   · intro L f4 w4 hL hd hc ⟨m4, L7, S4, K, hO⟩
     obtain ⟨u4, rfl⟩ := fr_of (N := 23) (L := []) hO trivial
     exact s_mvv (v := vU a2) rfl <| oS HM L7 S4 rfl K rfl rfl rfl outP
   · intro L f5 w5 hL hd hc ⟨m5, L9, S5, K, hO⟩
     obtain ⟨u5, rfl⟩ := fr_of (N := 23) (L := []) hO trivial
     exact s_mvv (v := vU a0) rfl <| oS HM L9 S5 rfl K rfl rfl rfl outP
   · intro L f6 w6 hL hd hc ⟨m6, L11, S6, K, hO⟩
     obtain ⟨u6, rfl⟩ := fr_of (N := 23) (L := [(13, _), (14, _)]) hO ⟨K 3 (dep hd rfl), K 4 (dep hd rfl), trivial⟩
     exact s_remU (m := a2) (n := a0) rfl rfl q2 <| oS HM L11 S6 rfl K rfl rfl rfl outP
   · intro L f7 w7 hL hd hc ⟨m7, L13, S7, K, hO⟩
     obtain ⟨u7, rfl⟩ := fr_of (N := 23) (L := [(12, _), (15, _)]) hO ⟨K 2 (dep hd rfl), K 5 (dep hd rfl), trivial⟩
     exact s_add64 (p := (a1 % a0)) (q := (a2 % a0)) Try.func86 (by kernel_rfl) (by kernel_rfl) (by kernel_rfl) (by kernel_rfl) rfl rfl rfl <| oS HM L13 S7 rfl K rfl rfl rfl outP
   · intro L f8 w8 hL hd hc ⟨m8, L15, S8, K, hO⟩
     obtain ⟨u8, rfl⟩ := fr_of (N := 23) (L := [(16, _)]) hO ⟨K 6 (dep hd rfl), trivial⟩
     exact s_mvv (v := .tuple #[vU ((a1 % a0) + (a2 % a0)), vU (carryU (a1 % a0) (a2 % a0))]) rfl <| oS HM L15 S8 rfl K rfl rfl rfl outP
   · intro L f9 w9 hL hd hc ⟨m9, L17, S9, K, hO⟩
     obtain ⟨u9, rfl⟩ := fr_of (N := 23) (L := [(9, _)]) hO ⟨K 7 (dep hd rfl), trivial⟩
     exact s_ext (i := 0) rfl rfl <| oS HM L17 S9 rfl K rfl rfl rfl outP
   · intro L f10 w10 hL hd hc ⟨m10, L19, S10, K, hO⟩
     obtain ⟨u10, rfl⟩ := fr_of (N := 23) (L := [(9, _)]) hO ⟨K 7 (dep hd rfl), trivial⟩
     exact s_ext (i := 1) rfl rfl <| oS HM L19 S10 rfl K rfl rfl rfl outP
   · intro L f11 w11 hL hd hc ⟨m11, L21, S11, K, hO⟩
     obtain ⟨u11, rfl⟩ := fr_of (N := 23) (L := [(17, _)]) hO ⟨K 8 (dep hd rfl), trivial⟩
     exact s_asv (v := vU ((a1 % a0) + (a2 % a0))) rfl <| oS HM L21 S11 rfl K rfl rfl rfl outP
 intro L f12 w12 hall ⟨m12, L23, S12, K, hO⟩
 have d10 : L 10 = true := hall 10 (by decide)
 have d9 : L 9 = true := hall 9 (by decide)
 obtain ⟨u12, rfl⟩ := fr_of (N := 23) (L := [(7, _), (18, _)]) hO ⟨K 10 d10, K 9 d9, trivial⟩
 replace S12 : St _ (As) _ := S12
 replace L0 := Mem.tr L0 L23
 clear S
 refine s_asv (v := vU (carryU (a1 % a0) (a2 % a0))) rfl <| wpl_nil <| nrm <| wpc_seq <| wpc_region <| s_mvv (v := vU (carryU (a1 % a0) (a2 % a0))) rfl <| s_mvv (v := vU ((a1 % a0) + (a2 % a0))) rfl <| s_mvv (v := vU a0) rfl ?_
 obtain ⟨x1, q3, hm⟩ := obind_some hm
 refine s_call Try.call89 (w_bits_Rem64 (a0 := (carryU (a1 % a0) (a2 % a0))) (a1 := ((a1 % a0) + (a2 % a0))) (a2 := a0) S12  q3) rfl ?_
 rintro _ w13 ⟨m13, l1, S13, rfl⟩
 replace L0 := Mem.tr L0 l1
 clear S12
 refine s_asv (v := vU x1) rfl <| wpl_nil <| nrm <| wpc_ret <| outRw fun we hpd => ?_
 replace S13 := St.pd S13 hpd
 have e0 := Option.some.inj hm
 subst e0
 exact outR [_] rfl ⟨rfl, trivial⟩ ⟨_, L0, S13, rfl⟩

def m_cyclic_AddR (a0 : UInt64) (a1 : UInt64) : Option UInt64 :=
  obind (m_cyclic_ring_add 1152921504606845789 a0 a1) fun x1 =>
  some x1

theorem w_cyclic_AddR {m : Mem} {As : List Ow} {w : World} {a0 : UInt64} {a1 : UInt64} {r : UInt64} (S : St m (As) w) (hm : m_cyclic_AddR a0 a1 = some r) :
    CallsR Try.prog 50 #[vU a0, vU a1] w fun v w' => ∃ (M : Mem), m ≤ M ∧ St M (As) w' ∧ v = vU r := by
 unfold m_cyclic_AddR at hm
 have L0 := Mem.rfl' m
 refine callsR (args := [vU a0, vU a1]) Try.func50 rfl Try.ntmps50 (Nat.le_of_ble_eq_true rfl) <| wpc_seq <| wpc_region <| s_asv (v := vU 0) rfl <| wpl_nil <| nrm <| wpc_seq <| wpc_region <| s_mvv (v := vU a0) rfl <| s_mvv (v := vU a1) rfl ?_
 obtain ⟨x1, q1, hm⟩ := obind_some hm
 refine s_call Try.call71 (w_cyclic_ring_add (a0 := 1152921504606845789) (a1 := a0) (a2 := a1) S  q1) rfl ?_
 rintro _ w1 ⟨m1, l1, S1, rfl⟩
 replace L0 := Mem.tr L0 l1
 clear S
 refine s_asv (v := vU x1) rfl <| wpl_nil <| nrm <| wpc_ret <| outRw fun we hpd => ?_
 replace S1 := St.pd S1 hpd
 have e0 := Option.some.inj hm
 subst e0
 exact outR [_] rfl ⟨rfl, trivial⟩ ⟨_, L0, S1, rfl⟩

def m_cyclic_MulR (a0 : UInt64) (a1 : UInt64) : Option UInt64 :=
  obind (m_cyclic_ring_mul 1152921504606845789 a0 a1) fun x1 =>
  some x1

theorem w_cyclic_MulR {m : Mem} {As : List Ow} {w : World} {a0 : UInt64} {a1 : UInt64} {r : UInt64} (S : St m (As) w) (hm : m_cyclic_MulR a0 a1 = some r) :
    CallsR Try.prog 51 #[vU a0, vU a1] w fun v w' => ∃ (M : Mem), m ≤ M ∧ St M (As) w' ∧ v = vU r := by
 unfold m_cyclic_MulR at hm
 have L0 := Mem.rfl' m
 refine callsR (args := [vU a0, vU a1]) Try.func51 rfl Try.ntmps51 (Nat.le_of_ble_eq_true rfl) <| wpc_seq <| wpc_region <| s_asv (v := vU 0) rfl <| wpl_nil <| nrm <| wpc_seq <| wpc_region <| s_mvv (v := vU a0) rfl <| s_mvv (v := vU a1) rfl ?_
 obtain ⟨x1, q1, hm⟩ := obind_some hm
 refine s_call Try.call72 (w_cyclic_ring_mul (a0 := 1152921504606845789) (a1 := a0) (a2 := a1) S  q1) rfl ?_
 rintro _ w1 ⟨m1, l1, S1, rfl⟩
 replace L0 := Mem.tr L0 l1
 clear S
 refine s_asv (v := vU x1) rfl <| wpl_nil <| nrm <| wpc_ret <| outRw fun we hpd => ?_
 replace S1 := St.pd S1 hpd
 have e0 := Option.some.inj hm
 subst e0
 exact outR [_] rfl ⟨rfl, trivial⟩ ⟨_, L0, S1, rfl⟩

def m_sign_Sign (a0 : UInt64) (a1 : List UInt8) : Option (g_api_Sig × Int) :=
  obind (m_sign_Public a0) fun x1 =>
  if (x1.2 != 0) = true then
    some ((⟨0, 0⟩ : g_api_Sig), x1.2)
  else
  obind (m_sign_bytes a0) fun x2 =>
  obind (m_sign_some (⟨#[110, 111, 110, 99, 101]⟩ : ByteArray) ([x2, a1] : List (List UInt8))) fun x3 =>
  obind (m_cyclic_Base x3) fun x4 =>
  obind (m_sign_Challenge x4 x1.1 a1) fun x5 =>
  obind (m_cyclic_MulR x5 a0) fun x6 =>
  obind (m_cyclic_AddR x6 x3) fun x7 =>
  some ((⟨x5, x7⟩ : g_api_Sig), 0)

theorem w_sign_Sign {m : Mem} {As : List Ow} {w : World} {a0 : UInt64} {a1 : List UInt8} {a1v0 : Value} {r : g_api_Sig × Int} (S : St m (As) w) (a1h0 : SlR m a1v0 a1) (hm : m_sign_Sign a0 a1 = some r) :
    CallsR Try.prog 31 #[vU a0, a1v0] w fun v w' => ∃ (M : Mem), m ≤ M ∧ St M (As) w' ∧ v = .tuple #[.agg #[vU r.1.E, vU r.1.S], vI r.2] := by
 unfold m_sign_Sign at hm
 have L0 := Mem.rfl' m
 refine callsR (args := [vU a0, a1v0]) Try.func31 rfl Try.ntmps31 (Nat.le_of_ble_eq_true rfl) <| wpc_seq <| wpc_region <| s_alloc S Try.zeroValue33 fun b1 w1 S1 => ?_
 replace S1 : St _ ((bx b1 [vU 0, vU 0] 33) :: As) _ := S1
 clear S
 refine s_asv (v := vI 0) rfl <| wpl_nil <| nrm <| wpc_seq <| wpc_region <| s_mvv (v := vU a0) rfl ?_
 obtain ⟨x1, q1, hm⟩ := obind_some hm
 refine s_call Try.call33 (w_sign_Public (a0 := a0) S1  q1) rfl ?_
 rintro _ w2 ⟨m1, l1, S2, rfl⟩
 replace a1h0 := a1h0.up l1
 replace L0 := Mem.tr L0 l1
 clear S1
 refine s_mvv (v := .tuple #[vU x1.1, vI x1.2]) rfl <| s_ext (i := 0) rfl rfl <| s_ext (i := 1) rfl rfl <| s_asv (v := vU x1.1) rfl <| s_asv (v := vI x1.2) rfl <| wpl_nil <| nrm <| wpc_seq <| wpc_seq <| wpc_region <| s_mvv (v := vI x1.2) rfl <| s_neq (m := x1.2) (n := 0) rfl rfl <| wpl_nil <| nrm <| wpc_if (t := (x1.2 != 0)) rfl (fun hc1 => ?_) (fun hc1 => ?_)
 · replace hm := ifT hc1 hm
   refine wpc_seq <| wpc_region <| s_build (parts := []) (ps := []) (cs := [vU 0, vU 0]) Try.zeroValue33 (BuildPl.str (ss := [1, 1]) Try.underlying33 ⟨Try.sizeOf22, Try.sizeOf22, trivial⟩) rfl trivial rfl <| s_mvv (v := vI x1.2) rfl <| s_stL (i := 0) S2 rfl rfl rfl Try.sizeOf33 (oneC rfl (oneC rfl oneN)) rfl fun w3 S3 => ?_
   replace S3 : St _ ((bx b1 [vU 0, vU 0] 33) :: As) _ := S3
   clear S2
   refine s_asv (v := vI x1.2) rfl <| wpl_nil <| nrm <| wpc_ret <| thR <| outRw fun we hpd => ?_
   replace S3 := St.pd S3 hpd
   have SR := S3
   obtain ⟨m2, l2, S4⟩ := St.drop S3 0
   replace L0 := Mem.tr L0 l2
   replace S4 : St _ (As) _ := S4
   have e0 := Option.some.inj hm
   subst e0
   exact outR [_, _] rfl ⟨res_box (i := 0) (off := 0) (cs := [vU 0, vU 0]) SR rfl rfl Try.isAgg33 Try.sizeOf33 rfl (fun h => by cases h), rfl, trivial⟩ ⟨_, L0, S4, rfl⟩
 replace hm := ifF hc1 hm
 refine wpc_skip <| nrm <| wpc_seq <| wpc_region <| s_mvv (v := vU a0) rfl ?_
 obtain ⟨x2, q2, hm⟩ := obind_some hm
 refine s_call Try.call47 (w_sign_bytes (a0 := a0) S2  q2) rfl ?_
 rintro v1 w4 ⟨m3, l3, _, c1, S5, rfl, h1⟩
 replace a1h0 := a1h0.up l3
 replace L0 := Mem.tr L0 l3
 clear S2
 refine s_mvv (v := a1v0) rfl ?_
 obtain ⟨m4, l4, h2, S6⟩ := St.rowKeepT (i := 0) S5 rfl h1 rfl
 replace a1h0 := a1h0.up l4
 replace L0 := Mem.tr L0 l4
 clear S5
 refine s_litC (parts := [.tmp 20, .tmp 21]) (vs := [v1, a1v0]) (cls := [[v1], [a1v0]]) (xs := ([x2, a1] : List (List UInt8))) (n := 2) S6 Try.underlying101 Try.sizeOf27 Try.zeroValue27 rfl ⟨SlR.cells h2, SlR.cells a1h0, trivial⟩ (RepL.cons (c := [v1]) (x := x2) ⟨_, rfl, h2⟩ (RepL.cons (c := [a1v0]) (x := a1) ⟨_, rfl, a1h0⟩ RepL.nil)) rfl rfl rfl (by decide) (by decide) fun v2 m5 w5 l5 S7 h3 => ?_
 replace a1h0 := a1h0.up l5
 replace L0 := Mem.tr L0 l5
 clear S6
 obtain ⟨x3, q3, hm⟩ := obind_some hm
 refine s_call Try.call46 (w_sign_some (a0 := (⟨#[110, 111, 110, 99, 101]⟩ : ByteArray)) (a1 := ([x2, a1] : List (List UInt8))) S7 h3 q3) rfl ?_
 rintro _ w6 ⟨m6, l6, S8, rfl⟩
 replace a1h0 := a1h0.up l6
 replace L0 := Mem.tr L0 l6
 clear S7
 refine s_asv (v := vU x3) rfl <| wpl_nil <| nrm <| wpc_seq <| wpc_region <| s_mvv (v := vU x3) rfl ?_
 obtain ⟨x4, q4, hm⟩ := obind_some hm
 refine s_call Try.call49 (w_cyclic_Base (a0 := x3) S8  q4) rfl ?_
 rintro _ w7 ⟨m7, l7, S9, rfl⟩
 replace a1h0 := a1h0.up l7
 replace L0 := Mem.tr L0 l7
 clear S8
 refine s_mvv (v := vU x1.1) rfl <| s_mvv (v := a1v0) rfl ?_
 obtain ⟨x5, q5, hm⟩ := obind_some hm
 refine s_call Try.call48 (w_sign_Challenge (a0 := x4) (a1 := x1.1) (a2 := a1) S9 a1h0 q5) rfl ?_
 rintro _ w8 ⟨m8, l8, S10, rfl⟩
 replace L0 := Mem.tr L0 l8
 clear S9
 refine s_asv (v := vU x5) rfl <| wpl_nil <| nrm <| wpc_seq <| wpc_region <| s_mvv (v := vU x5) rfl <| s_mvv (v := vU x5) rfl <| s_mvv (v := vU a0) rfl ?_
 obtain ⟨x6, q6, hm⟩ := obind_some hm
 refine s_call Try.call51 (w_cyclic_MulR (a0 := x5) (a1 := a0) S10  q6) rfl ?_
 rintro _ w9 ⟨m9, l9, S11, rfl⟩
 replace L0 := Mem.tr L0 l9
 clear S10
 refine s_mvv (v := vU x3) rfl ?_
 obtain ⟨x7, q7, hm⟩ := obind_some hm
 refine s_call Try.call50 (w_cyclic_AddR (a0 := x6) (a1 := x3) S11  q7) rfl ?_
 rintro _ w10 ⟨m10, l10, S12, rfl⟩
 replace L0 := Mem.tr L0 l10
 clear S11
 refine s_build (parts := [(0, .tmp 29), (1, .tmp 34)]) (ps := [(0, vU x5, [vU x5]), (1, vU x7, [vU x7])]) (cs := [vU x5, vU x7]) Try.zeroValue33 (BuildPl.str (ss := [1, 1]) Try.underlying33 ⟨Try.sizeOf22, Try.sizeOf22, trivial⟩) rfl ⟨rfl, rfl, trivial⟩ rfl <| s_stL (i := 0) S12 rfl rfl rfl Try.sizeOf33 (oneC rfl (oneC rfl oneN)) rfl fun w11 S13 => ?_
 replace S13 : St _ ((bx b1 [vU x5, vU x7] 33) :: As) _ := S13
 clear S12
 refine s_asv (v := vI 0) rfl <| wpl_nil <| nrm <| wpc_ret <| outRw fun we hpd => ?_
 replace S13 := St.pd S13 hpd
 have SR := S13
 obtain ⟨m11, l11, S14⟩ := St.drop S13 0
 replace L0 := Mem.tr L0 l11
 replace S14 : St _ (As) _ := S14
 have e0 := Option.some.inj hm
 subst e0
 exact outR [_, _] rfl ⟨res_box (i := 0) (off := 0) (cs := [vU x5, vU x7]) SR rfl rfl Try.isAgg33 Try.sizeOf33 rfl (fun h => by cases h), rfl, trivial⟩ ⟨_, L0, S14, rfl⟩

end Go.Proofs.Ytemiampgjgenhaa
