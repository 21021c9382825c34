/- The walks of some functions, written by program. Conditions: none. -/
import Derived.Test.YtohipjalgccmnaaDoorWkB
set_option maxHeartbeats 20000000
set_option maxRecDepth 100000
set_option linter.unusedVariables false
set_option linter.unusedSimpArgs false
namespace Go.Proofs.YtohipjalgccmnaaDoor
open Go Go.Gw

def m_bits_OnesCount32 (a0 : UInt32) : Option Int :=
  obind (idx str_1.data.toList ((shrW a0 24).toNat : Int)) fun x1 =>
  obind (idx str_1.data.toList (((shrW a0 16) &&& 255).toNat : Int)) fun x2 =>
  obind (idx str_1.data.toList (((shrW a0 8) &&& 255).toNat : Int)) fun x3 =>
  obind (idx str_1.data.toList ((a0 &&& 255).toNat : Int)) fun x4 =>
  bnd ((w64 ((((x1 + x2) + x3) + x4).toNat : Int))) fun x5 =>
  some x5

theorem w_bits_OnesCount32 {m : Mem} {As : List Ow} {w : World} {a0 : UInt32} {r : Int} (S : St m (As) w) (hm : m_bits_OnesCount32 a0 = some r) :
    CallsR Tryd.prog 77 #[vW a0] w fun v w' => ∃ (M : Mem), m ≤ M ∧ St M (As) w' ∧ v = vI r := by
  unfold m_bits_OnesCount32 at hm
  have L0 := Mem.rfl' m
  refine callsR (args := [vW a0]) Tryd.func77 rfl Tryd.ntmps77 (Nat.le_of_ble_eq_true rfl) ?_
  refine wpc_seq ?_
  refine wpc_region ?_
  refine s_asv (v := vI 0) rfl ?_
  refine wpl_nil ?_
  refine nrm ?_
  refine wpc_seq ?_
  obtain ⟨x1, q1, hm⟩ := obind_some hm
  obtain ⟨x2, q2, hm⟩ := obind_some hm
  obtain ⟨x3, q3, hm⟩ := obind_some hm
  obtain ⟨x4, q4, hm⟩ := obind_some hm
  have HM : MonoAll [(3, fun (M : Mem) (v : Value) => v = vW a0), (4, fun (M : Mem) (v : Value) => v = vW (shrW a0 24)), (5, fun (M : Mem) (v : Value) => v = vB x1), (6, fun (M : Mem) (v : Value) => v = vW a0), (7, fun (M : Mem) (v : Value) => v = vW (shrW a0 16)), (8, fun (M : Mem) (v : Value) => v = vW ((shrW a0 16) &&& 255)), (9, fun (M : Mem) (v : Value) => v = vB x2), (10, fun (M : Mem) (v : Value) => v = vB (x1 + x2)), (11, fun (M : Mem) (v : Value) => v = vW a0), (12, fun (M : Mem) (v : Value) => v = vW (shrW a0 8)), (13, fun (M : Mem) (v : Value) => v = vW ((shrW a0 8) &&& 255)), (14, fun (M : Mem) (v : Value) => v = vB x3), (15, fun (M : Mem) (v : Value) => v = vB ((x1 + x2) + x3)), (16, fun (M : Mem) (v : Value) => v = vW a0), (17, fun (M : Mem) (v : Value) => v = vW (a0 &&& 255)), (18, fun (M : Mem) (v : Value) => v = vB x4)] := ⟨(fun _ _ _ _ h => h), (fun _ _ _ _ h => h), (fun _ _ _ _ h => h), (fun _ _ _ _ h => h), (fun _ _ _ _ h => h), (fun _ _ _ _ h => h), (fun _ _ _ _ h => h), (fun _ _ _ _ h => h), (fun _ _ _ _ h => h), (fun _ _ _ _ h => h), (fun _ _ _ _ h => h), (fun _ _ _ _ h => h), (fun _ _ _ _ h => h), (fun _ _ _ _ h => h), (fun _ _ _ _ h => h), (fun _ _ _ _ h => h), trivial⟩
  refine wpc_flowG HM 16 mixed rfl rfl rfl [3, 4, 5, 6, 7, 8, 9, 10, 11, 12, 13, 14, 15, 16, 17, 18] (fun L f M w => St M (As) w) (St.drew S _) ?_ ?_
  · refine ⟨?_, ?_, ?_, ?_, ?_, ?_, ?_, ?_, ?_, ?_, ?_, ?_, ?_, ?_, ?_, ?_, trivial⟩
    · intro L f1 w1 hL hd hc ⟨m1, L1, S1, K, hO⟩
      obtain ⟨u1, rfl⟩ := fr_of (N := 21) (L := []) hO trivial
      replace S1 : St _ (As) _ := S1
      have L2 := Mem.rfl' m1
      refine s_mvv (v := vW a0) rfl ?_
      refine wpn ?_
      refine ⟨m1, Mem.tr L1 L2, ?_, facts_step HM rfl K L2 rfl rfl rfl, outP⟩
      exact S1
    · intro L f2 w2 hL hd hc ⟨m2, L3, S2, K, hO⟩
      have d0 : L 0 = true := dep hd rfl
      have e1 := K 0 d0
      obtain ⟨u2, rfl⟩ := fr_of (N := 21) (L := [(3, vW a0)]) hO ⟨e1, trivial⟩
      replace S2 : St _ (As) _ := S2
      have L4 := Mem.rfl' m2
      refine s_shrW (m := a0) (n := 24) rfl rfl (by decide) ?_
      refine wpn ?_
      refine ⟨m2, Mem.tr L3 L4, ?_, facts_step HM rfl K L4 rfl rfl rfl, outP⟩
      exact S2
    · intro L f3 w3 hL hd hc ⟨m3, L5, S3, K, hO⟩
      have d1 : L 1 = true := dep hd rfl
      have e2 := K 1 d1
      obtain ⟨u3, rfl⟩ := fr_of (N := 21) (L := [(4, vW (shrW a0 24))]) hO ⟨e2, trivial⟩
      replace S3 : St _ (As) _ := S3
      have L6 := Mem.rfl' m3
      refine s_indexS (s := str_1) (i := ((shrW a0 24).toNat : Int)) rfl rfl Tryd.underlying9 q1 ?_
      refine wpn ?_
      refine ⟨m3, Mem.tr L5 L6, ?_, facts_step HM rfl K L6 rfl rfl rfl, outP⟩
      exact S3
    · intro L f4 w4 hL hd hc ⟨m4, L7, S4, K, hO⟩
      obtain ⟨u4, rfl⟩ := fr_of (N := 21) (L := []) hO trivial
      replace S4 : St _ (As) _ := S4
      have L8 := Mem.rfl' m4
      refine s_mvv (v := vW a0) rfl ?_
      refine wpn ?_
      refine ⟨m4, Mem.tr L7 L8, ?_, facts_step HM rfl K L8 rfl rfl rfl, outP⟩
      exact S4
    · intro L f5 w5 hL hd hc ⟨m5, L9, S5, K, hO⟩
      have d3 : L 3 = true := dep hd rfl
      have e3 := K 3 d3
      obtain ⟨u5, rfl⟩ := fr_of (N := 21) (L := [(6, vW a0)]) hO ⟨e3, trivial⟩
      replace S5 : St _ (As) _ := S5
      have L10 := Mem.rfl' m5
      refine s_shrW (m := a0) (n := 16) rfl rfl (by decide) ?_
      refine wpn ?_
      refine ⟨m5, Mem.tr L9 L10, ?_, facts_step HM rfl K L10 rfl rfl rfl, outP⟩
      exact S5
    · intro L f6 w6 hL hd hc ⟨m6, L11, S6, K, hO⟩
      have d4 : L 4 = true := dep hd rfl
      have e4 := K 4 d4
      obtain ⟨u6, rfl⟩ := fr_of (N := 21) (L := [(7, vW (shrW a0 16))]) hO ⟨e4, trivial⟩
      replace S6 : St _ (As) _ := S6
      have L12 := Mem.rfl' m6
      refine s_andW (m := (shrW a0 16)) (n := 255) rfl rfl ?_
      refine wpn ?_
      refine ⟨m6, Mem.tr L11 L12, ?_, facts_step HM rfl K L12 rfl rfl rfl, outP⟩
      exact S6
    · intro L f7 w7 hL hd hc ⟨m7, L13, S7, K, hO⟩
      have d5 : L 5 = true := dep hd rfl
      have e5 := K 5 d5
      obtain ⟨u7, rfl⟩ := fr_of (N := 21) (L := [(8, vW ((shrW a0 16) &&& 255))]) hO ⟨e5, trivial⟩
      replace S7 : St _ (As) _ := S7
      have L14 := Mem.rfl' m7
      refine s_indexS (s := str_1) (i := (((shrW a0 16) &&& 255).toNat : Int)) rfl rfl Tryd.underlying9 q2 ?_
      refine wpn ?_
      refine ⟨m7, Mem.tr L13 L14, ?_, facts_step HM rfl K L14 rfl rfl rfl, outP⟩
      exact S7
    · intro L f8 w8 hL hd hc ⟨m8, L15, S8, K, hO⟩
      have d2 : L 2 = true := dep hd rfl
      have e6 := K 2 d2
      have d6 : L 6 = true := dep hd rfl
      have e7 := K 6 d6
      obtain ⟨u8, rfl⟩ := fr_of (N := 21) (L := [(5, vB x1), (9, vB x2)]) hO ⟨e6, e7, trivial⟩
      replace S8 : St _ (As) _ := S8
      have L16 := Mem.rfl' m8
      refine s_addB (m := x1) (n := x2) rfl rfl ?_
      refine wpn ?_
      refine ⟨m8, Mem.tr L15 L16, ?_, facts_step HM rfl K L16 rfl rfl rfl, outP⟩
      exact S8
    · intro L f9 w9 hL hd hc ⟨m9, L17, S9, K, hO⟩
      obtain ⟨u9, rfl⟩ := fr_of (N := 21) (L := []) hO trivial
      replace S9 : St _ (As) _ := S9
      have L18 := Mem.rfl' m9
      refine s_mvv (v := vW a0) rfl ?_
      refine wpn ?_
      refine ⟨m9, Mem.tr L17 L18, ?_, facts_step HM rfl K L18 rfl rfl rfl, outP⟩
      exact S9
    · intro L f10 w10 hL hd hc ⟨m10, L19, S10, K, hO⟩
      have d8 : L 8 = true := dep hd rfl
      have e8 := K 8 d8
      obtain ⟨u10, rfl⟩ := fr_of (N := 21) (L := [(11, vW a0)]) hO ⟨e8, trivial⟩
      replace S10 : St _ (As) _ := S10
      have L20 := Mem.rfl' m10
      refine s_shrW (m := a0) (n := 8) rfl rfl (by decide) ?_
      refine wpn ?_
      refine ⟨m10, Mem.tr L19 L20, ?_, facts_step HM rfl K L20 rfl rfl rfl, outP⟩
      exact S10
    · intro L f11 w11 hL hd hc ⟨m11, L21, S11, K, hO⟩
      have d9 : L 9 = true := dep hd rfl
      have e9 := K 9 d9
      obtain ⟨u11, rfl⟩ := fr_of (N := 21) (L := [(12, vW (shrW a0 8))]) hO ⟨e9, trivial⟩
      replace S11 : St _ (As) _ := S11
      have L22 := Mem.rfl' m11
      refine s_andW (m := (shrW a0 8)) (n := 255) rfl rfl ?_
      refine wpn ?_
      refine ⟨m11, Mem.tr L21 L22, ?_, facts_step HM rfl K L22 rfl rfl rfl, outP⟩
      exact S11
    · intro L f12 w12 hL hd hc ⟨m12, L23, S12, K, hO⟩
      have d10 : L 10 = true := dep hd rfl
      have e10 := K 10 d10
      obtain ⟨u12, rfl⟩ := fr_of (N := 21) (L := [(13, vW ((shrW a0 8) &&& 255))]) hO ⟨e10, trivial⟩
      replace S12 : St _ (As) _ := S12
      have L24 := Mem.rfl' m12
      refine s_indexS (s := str_1) (i := (((shrW a0 8) &&& 255).toNat : Int)) rfl rfl Tryd.underlying9 q3 ?_
      refine wpn ?_
      refine ⟨m12, Mem.tr L23 L24, ?_, facts_step HM rfl K L24 rfl rfl rfl, outP⟩
      exact S12
    · intro L f13 w13 hL hd hc ⟨m13, L25, S13, K, hO⟩
      have d7 : L 7 = true := dep hd rfl
      have e11 := K 7 d7
      have d11 : L 11 = true := dep hd rfl
      have e12 := K 11 d11
      obtain ⟨u13, rfl⟩ := fr_of (N := 21) (L := [(10, vB (x1 + x2)), (14, vB x3)]) hO ⟨e11, e12, trivial⟩
      replace S13 : St _ (As) _ := S13
      have L26 := Mem.rfl' m13
      refine s_addB (m := (x1 + x2)) (n := x3) rfl rfl ?_
      refine wpn ?_
      refine ⟨m13, Mem.tr L25 L26, ?_, facts_step HM rfl K L26 rfl rfl rfl, outP⟩
      exact S13
    · intro L f14 w14 hL hd hc ⟨m14, L27, S14, K, hO⟩
      obtain ⟨u14, rfl⟩ := fr_of (N := 21) (L := []) hO trivial
      replace S14 : St _ (As) _ := S14
      have L28 := Mem.rfl' m14
      refine s_mvv (v := vW a0) rfl ?_
      refine wpn ?_
      refine ⟨m14, Mem.tr L27 L28, ?_, facts_step HM rfl K L28 rfl rfl rfl, outP⟩
      exact S14
    · intro L f15 w15 hL hd hc ⟨m15, L29, S15, K, hO⟩
      have d13 : L 13 = true := dep hd rfl
      have e13 := K 13 d13
      obtain ⟨u15, rfl⟩ := fr_of (N := 21) (L := [(16, vW a0)]) hO ⟨e13, trivial⟩
      replace S15 : St _ (As) _ := S15
      have L30 := Mem.rfl' m15
      refine s_andW (m := a0) (n := 255) rfl rfl ?_
      refine wpn ?_
      refine ⟨m15, Mem.tr L29 L30, ?_, facts_step HM rfl K L30 rfl rfl rfl, outP⟩
      exact S15
    · intro L f16 w16 hL hd hc ⟨m16, L31, S16, K, hO⟩
      have d14 : L 14 = true := dep hd rfl
      have e14 := K 14 d14
      obtain ⟨u16, rfl⟩ := fr_of (N := 21) (L := [(17, vW (a0 &&& 255))]) hO ⟨e14, trivial⟩
      replace S16 : St _ (As) _ := S16
      have L32 := Mem.rfl' m16
      refine s_indexS (s := str_1) (i := ((a0 &&& 255).toNat : Int)) rfl rfl Tryd.underlying9 q4 ?_
      refine wpn ?_
      refine ⟨m16, Mem.tr L31 L32, ?_, facts_step HM rfl K L32 rfl rfl rfl, outP⟩
      exact S16
  intro L f17 w17 hall ⟨m17, L33, S17, K, hO⟩
  have d12 : L 12 = true := hall 12 (by decide)
  have e15 := K 12 d12
  have d15 : L 15 = true := hall 15 (by decide)
  have e16 := K 15 d15
  obtain ⟨u17, rfl⟩ := fr_of (N := 21) (L := [(15, vB ((x1 + x2) + x3)), (18, vB x4)]) hO ⟨e15, e16, trivial⟩
  replace S17 : St _ (As) _ := S17
  replace L0 := Mem.tr L0 L33
  clear S
  refine s_addB (m := ((x1 + x2) + x3)) (n := x4) rfl rfl ?_
  refine s_convI rfl Tryd.underlying5 Tryd.underlying3 ?_
  obtain ⟨x5, q5, hm⟩ := bnd_eq hm
  refine s_asv (v := vI x5) (congrArg (fun z => vI z) q5.symm) ?_
  refine wpl_nil ?_
  refine nrm ?_
  refine wpc_ret ?_
  refine outRw ?_
  intro we hpd
  replace S17 := St.pd S17 hpd
  have e0 := Option.some.inj hm
  subst e0
  exact outR [_] rfl ⟨rfl, trivial⟩ ⟨_, L0, S17, rfl⟩

def m_bits_OnesCount64 (a0 : UInt64) : Option Int :=
  bnd ((((shrU a0 1) &&& 6148914691236517205) + (a0 &&& 6148914691236517205))) fun x1 =>
  bnd ((((shrU x1 2) &&& 3689348814741910323) + (x1 &&& 3689348814741910323))) fun x2 =>
  bnd ((((shrU x2 4) + x2) &&& 1085102592571150095)) fun x3 =>
  bnd (((x3 + (shrU x3 8)) + (shrU (x3 + (shrU x3 8)) 16))) fun x4 =>
  bnd ((and64 (w64 ((x4 + (shrU x4 32)).toNat : Int)) 127)) fun x5 =>
  some x5

theorem w_bits_OnesCount64 {m : Mem} {As : List Ow} {w : World} {a0 : UInt64} {r : Int} (S : St m (As) w) (hm : m_bits_OnesCount64 a0 = some r) :
    CallsR Tryd.prog 78 #[vU a0] w fun v w' => ∃ (M : Mem), m ≤ M ∧ St M (As) w' ∧ v = vI r := by
  unfold m_bits_OnesCount64 at hm
  have L0 := Mem.rfl' m
  refine callsR (args := [vU a0]) Tryd.func78 rfl Tryd.ntmps78 (Nat.le_of_ble_eq_true rfl) ?_
  refine wpc_seq ?_
  refine wpc_region ?_
  refine s_asv (v := vI 0) rfl ?_
  refine wpl_nil ?_
  refine nrm ?_
  refine wpc_seq ?_
  refine wpc_region ?_
  refine s_mvv (v := vU a0) rfl ?_
  refine s_shrU (m := a0) (n := 1) rfl rfl (by decide) ?_
  refine s_andU (m := (shrU a0 1)) (n := 6148914691236517205) rfl rfl ?_
  refine s_mvv (v := vU a0) rfl ?_
  refine s_andU (m := a0) (n := 6148914691236517205) rfl rfl ?_
  refine s_addU (m := ((shrU a0 1) &&& 6148914691236517205)) (n := (a0 &&& 6148914691236517205)) rfl rfl ?_
  obtain ⟨x1, q1, hm⟩ := bnd_eq hm
  refine s_asv (v := vU x1) (congrArg (fun z => vU z) q1.symm) ?_
  refine wpl_nil ?_
  refine nrm ?_
  refine wpc_seq ?_
  refine wpc_region ?_
  refine s_mvv (v := vU x1) rfl ?_
  refine s_shrU (m := x1) (n := 2) rfl rfl (by decide) ?_
  refine s_andU (m := (shrU x1 2)) (n := 3689348814741910323) rfl rfl ?_
  refine s_mvv (v := vU x1) rfl ?_
  refine s_andU (m := x1) (n := 3689348814741910323) rfl rfl ?_
  refine s_addU (m := ((shrU x1 2) &&& 3689348814741910323)) (n := (x1 &&& 3689348814741910323)) rfl rfl ?_
  obtain ⟨x2, q2, hm⟩ := bnd_eq hm
  refine s_asv (v := vU x2) (congrArg (fun z => vU z) q2.symm) ?_
  refine wpl_nil ?_
  refine nrm ?_
  refine wpc_seq ?_
  refine wpc_region ?_
  refine s_mvv (v := vU x2) rfl ?_
  refine s_shrU (m := x2) (n := 4) rfl rfl (by decide) ?_
  refine s_mvv (v := vU x2) rfl ?_
  refine s_addU (m := (shrU x2 4)) (n := x2) rfl rfl ?_
  refine s_andU (m := ((shrU x2 4) + x2)) (n := 1085102592571150095) rfl rfl ?_
  obtain ⟨x3, q3, hm⟩ := bnd_eq hm
  refine s_asv (v := vU x3) (congrArg (fun z => vU z) q3.symm) ?_
  refine wpl_nil ?_
  refine nrm ?_
  refine wpc_seq ?_
  refine wpc_region ?_
  refine s_mvv (v := vU x3) rfl ?_
  refine s_mvv (v := vU x3) rfl ?_
  refine s_shrU (m := x3) (n := 8) rfl rfl (by decide) ?_
  refine s_addU (m := x3) (n := (shrU x3 8)) rfl rfl ?_
  refine s_asv (v := vU (x3 + (shrU x3 8))) rfl ?_
  refine wpl_nil ?_
  refine nrm ?_
  refine wpc_seq ?_
  refine wpc_region ?_
  refine s_mvv (v := vU (x3 + (shrU x3 8))) rfl ?_
  refine s_mvv (v := vU (x3 + (shrU x3 8))) rfl ?_
  refine s_shrU (m := (x3 + (shrU x3 8))) (n := 16) rfl rfl (by decide) ?_
  refine s_addU (m := (x3 + (shrU x3 8))) (n := (shrU (x3 + (shrU x3 8)) 16)) rfl rfl ?_
  obtain ⟨x4, q4, hm⟩ := bnd_eq hm
  refine s_asv (v := vU x4) (congrArg (fun z => vU z) q4.symm) ?_
  refine wpl_nil ?_
  refine nrm ?_
  refine wpc_seq ?_
  refine wpc_region ?_
  refine s_mvv (v := vU x4) rfl ?_
  refine s_mvv (v := vU x4) rfl ?_
  refine s_shrU (m := x4) (n := 32) rfl rfl (by decide) ?_
  refine s_addU (m := x4) (n := (shrU x4 32)) rfl rfl ?_
  refine s_asv (v := vU (x4 + (shrU x4 32))) rfl ?_
  refine wpl_nil ?_
  refine nrm ?_
  refine wpc_seq ?_
  refine wpc_region ?_
  refine s_mvv (v := vU (x4 + (shrU x4 32))) rfl ?_
  refine s_convI rfl Tryd.underlying25 Tryd.underlying3 ?_
  refine s_andI (m := (w64 ((x4 + (shrU x4 32)).toNat : Int))) (n := 127) rfl rfl ?_
  obtain ⟨x5, q5, hm⟩ := bnd_eq hm
  refine s_asv (v := vI x5) (congrArg (fun z => vI z) q5.symm) ?_
  refine wpl_nil ?_
  refine nrm ?_
  refine wpc_ret ?_
  refine outRw ?_
  intro we hpd
  replace S := St.pd S hpd
  have e0 := Option.some.inj hm
  subst e0
  exact outR [_] rfl ⟨rfl, trivial⟩ ⟨_, L0, S, rfl⟩

def m_bits_OnesCount (a0 : UInt64) : Option Int :=
  obind (m_bits_OnesCount64 a0) fun x1 =>
  some x1

theorem w_bits_OnesCount {m : Mem} {As : List Ow} {w : World} {a0 : UInt64} {r : Int} (S : St m (As) w) (hm : m_bits_OnesCount a0 = some r) :
    CallsR Tryd.prog 65 #[vU a0] w fun v w' => ∃ (M : Mem), m ≤ M ∧ St M (As) w' ∧ v = vI r := by
  unfold m_bits_OnesCount at hm
  have L0 := Mem.rfl' m
  refine callsR (args := [vU a0]) Tryd.func65 rfl Tryd.ntmps65 (Nat.le_of_ble_eq_true rfl) ?_
  refine wpc_seq ?_
  refine wpc_region ?_
  refine s_asv (v := vI 0) rfl ?_
  refine wpl_nil ?_
  refine nrm ?_
  refine wpc_seq ?_
  refine wpc_false rfl ?_
  refine wpc_skip ?_
  refine nrm ?_
  refine wpc_seq ?_
  refine wpc_region ?_
  refine s_mvv (v := vU a0) rfl ?_
  obtain ⟨x1, q1, hm⟩ := obind_some hm
  refine s_call Tryd.call78 (w_bits_OnesCount64 (a0 := a0) S  q1) rfl ?_
  rintro _ w1 ⟨m1, l1, S1, rfl⟩
  replace L0 := Mem.tr L0 l1
  clear S
  replace S1 : St _ (As) _ := S1
  refine s_asv (v := vI x1) rfl ?_
  refine wpl_nil ?_
  refine nrm ?_
  refine wpc_ret ?_
  refine outRw ?_
  intro we hpd
  replace S1 := St.pd S1 hpd
  have e0 := Option.some.inj hm
  subst e0
  exact outR [_] rfl ⟨rfl, trivial⟩ ⟨_, L0, S1, rfl⟩

def m_merkle_steps (a0 : Int) (a1 : Int) : Option (Int × Int) :=
  obind (m_bits_Len (toU (xor64 a0 (w64 (a1 - 1))))) fun x1 =>
  if (0 : Int) ≤ x1 then
    obind (m_bits_OnesCount (toU (shr64 a0 x1.toNat))) fun x2 =>
    some (x1, x2)
  else none

theorem w_merkle_steps {m : Mem} {As : List Ow} {w : World} {a0 : Int} {a1 : Int} {r : Int × Int} (S : St m (As) w) (hm : m_merkle_steps a0 a1 = some r) :
    CallsR Tryd.prog 40 #[vI a0, vI a1] w fun v w' => ∃ (M : Mem), m ≤ M ∧ St M (As) w' ∧ v = .tuple #[vI r.1, vI r.2] := by
  unfold m_merkle_steps at hm
  have L0 := Mem.rfl' m
  refine callsR (args := [vI a0, vI a1]) Tryd.func40 rfl Tryd.ntmps40 (Nat.le_of_ble_eq_true rfl) ?_
  refine wpc_seq ?_
  refine wpc_region ?_
  refine s_asv (v := vI 0) rfl ?_
  refine s_asv (v := vI 0) rfl ?_
  refine wpl_nil ?_
  refine nrm ?_
  refine wpc_seq ?_
  refine wpc_region ?_
  refine s_mvv (v := vI a0) rfl ?_
  refine s_mvv (v := vI a1) rfl ?_
  refine s_subI (m := a1) (n := 1) rfl rfl ?_
  refine s_xorI (m := a0) (n := (w64 (a1 - 1))) rfl rfl ?_
  refine s_convU rfl Tryd.underlying3 Tryd.underlying45 ?_
  obtain ⟨x1, q1, hm⟩ := obind_some hm
  refine s_call Tryd.call60 (w_bits_Len (a0 := (toU (xor64 a0 (w64 (a1 - 1))))) S  q1) rfl ?_
  rintro _ w1 ⟨m1, l1, S1, rfl⟩
  replace L0 := Mem.tr L0 l1
  clear S
  replace S1 : St _ (As) _ := S1
  refine s_asv (v := vI x1) rfl ?_
  refine wpl_nil ?_
  refine nrm ?_
  refine wpc_seq ?_
  refine wpc_region ?_
  refine s_mvv (v := vI x1) rfl ?_
  refine s_mvv (v := vI a0) rfl ?_
  refine s_mvv (v := vI x1) rfl ?_
  obtain ⟨q2, hm⟩ := if_some hm
  refine s_shrI (m := a0) (n := x1) rfl rfl q2 ?_
  refine s_convU rfl Tryd.underlying3 Tryd.underlying45 ?_
  obtain ⟨x2, q3, hm⟩ := obind_some hm
  refine s_call Tryd.call65 (w_bits_OnesCount (a0 := (toU (shr64 a0 x1.toNat))) S1  q3) rfl ?_
  rintro _ w2 ⟨m2, l2, S2, rfl⟩
  replace L0 := Mem.tr L0 l2
  clear S1
  replace S2 : St _ (As) _ := S2
  refine s_asv (v := vI x1) rfl ?_
  refine s_asv (v := vI x2) rfl ?_
  refine wpl_nil ?_
  refine nrm ?_
  refine wpc_ret ?_
  refine outRw ?_
  intro we hpd
  replace S2 := St.pd S2 hpd
  have e0 := Option.some.inj hm
  subst e0
  exact outR [_, _] rfl ⟨rfl, rfl, trivial⟩ ⟨_, L0, S2, rfl⟩

def m_merkle_climb_b3  (s2 : Int × Int) : Option ((Int × Int) ⊕ (Int × Int)) :=
  if (((and64 s2.1 1) == 0) && (s2.1 != 0)) = true then
    some (.inl ((shr64 s2.1 1), (shr64 s2.2 1)))
  else
  some (.inr (s2.1, s2.2))

def m_merkle_climb_b1 {σ : Type} (p3 : σ → (UInt64 × UInt64) → Option (σ)) (p4 : σ → (UInt64 × UInt64) → Option (σ)) (i1 : Int) (x2 : UInt64 × UInt64) (s1 : Int × Int × σ) : Option (Int × Int × σ) :=
  obind (
    if (((and64 s1.1 1) == 0) && (s1.1 != s1.2.1)) = true then
      obind (p4 s1.2.2 x2) fun x4 =>
      some ((shr64 s1.1 1), (shr64 s1.2.1 1), x4)
    else
    obind (p3 s1.2.2 x2) fun x5 =>
    obind (
      obind (iter m_merkle_climb_b3 FUEL (s1.1, s1.2.1)) fun x7 =>
      some (x7.1, x7.2)
    ) fun x6 =>
    some ((shr64 x6.1 1), (shr64 x6.2 1), x5)
  ) fun x3 =>
  some (x3.1, x3.2.1, x3.2.2)

def m_merkle_climb {σ : Type} (a0 : Int) (a1 : Int) (a2 : List (UInt64 × UInt64)) (p3 : σ → (UInt64 × UInt64) → Option (σ)) (p4 : σ → (UInt64 × UInt64) → Option (σ)) (s0 : σ) : Option σ :=
  obind (each0 (m_merkle_climb_b1 p3 p4) a2 0 (a0, (w64 (a1 - 1)), s0)) fun x1 =>
  some x1.2.2

theorem w_merkle_climb {m : Mem} {As : List Ow} {w : World} {σ : Type} {R : σ → Mem → List Ow → Prop} {a0 : Int} {a1 : Int} {a2 : List (UInt64 × UInt64)} {a2v0 : Value} {p3 : σ → (UInt64 × UInt64) → Option (σ)} {f3 : Value} {p4 : σ → (UInt64 × UInt64) → Option (σ)} {f4 : Value} {s0 : σ} {X0 : List Ow} {r : σ} (S : St m ((X0 ++ As)) w) (hup : ∀ {s M M' X}, M ≤ M' → R s M X → R s M' X) (hX0 : R s0 m X0) (cb3 : ∀ {m' : Mem} {As' : List Ow} {w' : World} {s : σ} {X : List Ow} {b0 : UInt64 × UInt64} {r : σ}, St m' (X ++ As') w' → R s m' X → p3 s b0 = some r → CallV Tryd.prog f3 [.agg #[vU b0.1, vU b0.2]] w' fun v w'' => ∃ (M : Mem) (X' : List Ow), m' ≤ M ∧ St M (X' ++ As') w'' ∧ R r M X' ∧ v = .tuple #[]) (cb4 : ∀ {m' : Mem} {As' : List Ow} {w' : World} {s : σ} {X : List Ow} {b0 : UInt64 × UInt64} {r : σ}, St m' (X ++ As') w' → R s m' X → p4 s b0 = some r → CallV Tryd.prog f4 [.agg #[vU b0.1, vU b0.2]] w' fun v w'' => ∃ (M : Mem) (X' : List Ow), m' ≤ M ∧ St M (X' ++ As') w'' ∧ R r M X' ∧ v = .tuple #[]) (a2h0 : SlR m a2v0 a2) (hm : m_merkle_climb a0 a1 a2 p3 p4 s0 = some r) :
    CallsR Tryd.prog 41 #[vI a0, vI a1, a2v0, f3, f4] w fun v w' => ∃ (M : Mem), m ≤ M ∧ ∃ (X : List Ow), St M ((X ++ As)) w' ∧ v = .tuple #[] ∧ R r M X := by
  unfold m_merkle_climb at hm
  have L0 := Mem.rfl' m
  refine callsR (args := [vI a0, vI a1, a2v0, f3, f4]) Tryd.func41 rfl Tryd.ntmps41 (Nat.le_of_ble_eq_true rfl) ?_
  refine wpc_scope ?_
  refine wpc_seq ?_
  refine wpc_region ?_
  refine s_mvv (v := vI a1) rfl ?_
  refine s_subI (m := a1) (n := 1) rfl rfl ?_
  refine s_asv (v := vI (w64 (a1 - 1))) rfl ?_
  refine wpl_nil ?_
  refine nrm ?_
  refine wpc_seq ?_
  refine wpc_label ?_
  refine nrm ?_
  refine wpc_seq ?_
  refine wpc_region ?_
  refine s_mvv (v := a2v0) rfl ?_
  refine s_lenR (xs := a2) rfl a2h0 Tryd.underlying22 ?_
  refine s_mvv (v := vI 0) rfl ?_
  refine wpl_nil ?_
  refine nrm ?_
  obtain ⟨x1, q1, hm⟩ := obind_some hm
  have L1 := Mem.rfl' m
  refine wpc_wrap ?_
  refine wpc_join [0, 10, 12, 17, 18, 19, 20, 21, 22, 23, 24, 25, 26, 27, 28, 29, 30, 31, 32, 33, 34, 35, 36, 37, 38, 39, 40, 41, 42, 43, 44, 45, 46, 47, 48, 49, 50, 51, 52, 53, 54] (fun f' w' => ∃ (M1 : Mem) (X2 : List Ow), m ≤ M1 ∧ St M1 ((X2 ++ As)) w' ∧ R x1.2.2 M1 X2 ∧ AllAt f' [(0, vI x1.1), (10, vI x1.2.1)]) ?_ ?_
  · refine wpc_block ?_
    refine wpc_rounds [0, 10, 12, 17, 18, 19, 20, 21, 22, 23, 24, 25, 26, 27, 28, 29, 30, 31, 32, 33, 34, 35, 36, 37, 38, 39, 40, 41, 42, 43, 44, 45, 46, 47, 48, 49, 50, 51, 52, 53, 54] (fun n1 f' w' => ∃ (i1 : Nat) (s1 : Int × Int × σ) (m11 : Mem) (X1 : List Ow), n1 = a2.length - i1 ∧ i1 ≤ a2.length ∧ each0 (m_merkle_climb_b1 p3 p4) (a2.drop i1) (i1 : Int) s1 = some x1 ∧ m ≤ m11 ∧ St m11 ((X1 ++ As)) w' ∧ R s1.2.2 m11 X1 ∧ AllAt f' [(17, vI (i1 : Int)), (0, vI s1.1), (10, vI s1.2.1)]) a2.length ⟨0, (a0, (w64 (a1 - 1)), s0), m, _, rfl, Nat.zero_le _, q1, L1, S, hX0, ⟨rfl, rfl, rfl, trivial⟩⟩ ?_
    rintro n1 f1 w1 ho ⟨i1, s1, m1, X1, hn, hi, q2, L3, S1, h1, ha⟩
    obtain ⟨u1, rfl⟩ := fr_of (N := 55) ho ha
    clear ho ha
    replace a2h0 := a2h0.up L3
    have L2 := Mem.rfl' m1
    clear S
    refine wpc_seq ?_
    refine wpc_region ?_
    refine s_lss (m := (i1 : Int)) (n := (a2.length : Int)) rfl rfl ?_
    refine wpl_nil ?_
    refine nrm ?_
    refine wpc_seq ?_
    refine wpc_if (t := decide ((i1 : Int) < (a2.length : Int))) rfl (fun hc3 => ?_) (fun hc3 => ?_)
    · have hlt1 : i1 < a2.length := by have := of_decide_eq_true hc3; omega
      obtain ⟨x2, y1, q5, q4, q3⟩ := each0_in q2 hlt1
      unfold m_merkle_climb_b1 at q4
      refine wpc_skip ?_
      refine nrm ?_
      obtain ⟨x3, q6, q4⟩ := obind_some q4
      have L4 := Mem.rfl' m1
      refine wpc_seq ?_
      refine wpc_join [0, 10, 12, 19, 20, 21, 22, 23, 24, 25, 26, 27, 28, 29, 30, 31, 32, 33, 34, 35, 36, 37, 38, 39, 40, 41, 42, 43, 44, 45, 46, 47, 48, 49, 50, 51, 52, 53] (fun f' w' => ∃ (M2 : Mem) (X3 : List Ow), m1 ≤ M2 ∧ St M2 ((X3 ++ As)) w' ∧ R x3.2.2 M2 X3 ∧ AllAt f' [(0, vI x3.1), (10, vI x3.2.1)]) ?_ ?_
      · refine wpc_block ?_
        refine wpc_seq ?_
        refine wpc_region ?_
        refine s_idx (q := x2) rfl rfl a2h0 q5 Tryd.underlying22 Tryd.sizeOf27 ?_
        intro p1 c1 h4 r1
        obtain rfl := rep_arr2_UInt64 r1
        refine s_ldM (cs := [vU x2.1, vU x2.2]) S1 rfl h4 rfl Tryd.isAgg27 Tryd.sizeOf27 (fun h => by cases h) ?_
        refine s_alloc S1 Tryd.zeroValue27 ?_
        intro b2 w2 S2
        replace S2 : St _ ((bx b2 [vU 0, vU 0] 27) :: (X1 ++ As)) _ := S2
        clear S1
        refine s_stL (i := 0) S2 rfl rfl rfl Tryd.sizeOf27 (oneC rfl (oneC rfl oneN)) rfl ?_
        intro w3 S3
        replace S3 : St _ ((bx b2 [vU x2.1, vU x2.2] 27) :: (X1 ++ As)) _ := S3
        clear S2
        refine wpl_nil ?_
        refine nrm ?_
        refine wpc_seq ?_
        refine wpc_seq ?_
        refine wpc_region ?_
        refine s_mvv (v := vI s1.1) rfl ?_
        refine s_andI (m := s1.1) (n := 1) rfl rfl ?_
        refine s_eql (m := (and64 s1.1 1)) (n := 0) rfl rfl ?_
        refine s_mvv (v := vb ((and64 s1.1 1) == 0)) rfl ?_
        refine wpl_cut 4 [25, 26, 27, 28] (fun f' w' => w' = w3 ∧ AllAt f' [(28, vb (((and64 s1.1 1) == 0) && (s1.1 != s1.2.1)))]) ?_ ?_
        · rcases bool_tf ((and64 s1.1 1) == 0) with hb1 | hb1
          · refine wpl_yes (d := 24) rfl rfl (congrArg Value.bool hb1) ?_
            refine s_mvv (v := vI s1.1) rfl ?_
            refine wpl_yes (d := 24) rfl rfl (congrArg Value.bool hb1) ?_
            refine s_mvv (v := vI s1.2.1) rfl ?_
            refine wpl_yes (d := 24) rfl rfl (congrArg Value.bool hb1) ?_
            refine s_neq (m := s1.1) (n := s1.2.1) rfl rfl ?_
            refine s_pickT (congrArg Value.bool hb1) rfl ?_
            exact wpl_nil (nrm ⟨outP, rfl, congrArg Value.bool (and_t hb1), trivial⟩)
          · refine wpl_no (d := 24) rfl rfl (congrArg Value.bool hb1) ?_
            refine wpl_no (d := 24) rfl rfl (congrArg Value.bool hb1) ?_
            refine wpl_no (d := 24) rfl rfl (congrArg Value.bool hb1) ?_
            refine s_pickF (congrArg Value.bool hb1) rfl ?_
            exact wpl_nil (nrm ⟨outP, rfl, congrArg Value.bool (and_f hb1), trivial⟩)
        rintro f2 w4 ho ⟨h5, ha⟩
        subst h5
        obtain ⟨u2, rfl⟩ := fr_of (N := 55) ho ha
        refine wpl_nil ?_
        refine nrm ?_
        refine wpc_if (t := (((and64 s1.1 1) == 0) && (s1.1 != s1.2.1))) rfl (fun hc1 => ?_) (fun hc1 => ?_)
        · replace q6 := ifT hc1 q6
          refine wpc_seq ?_
          refine wpc_region ?_
          refine s_mvv (v := f4) rfl ?_
          refine s_ld (i := 0) (cs := [vU x2.1, vU x2.2]) S3 rfl rfl Tryd.isAgg27 Tryd.sizeOf27 rfl (fun h => by cases h) ?_
          obtain ⟨x4, q7, q6⟩ := obind_some q6
          have S4 := St.absF (L := [bx b2 [vU x2.1, vU x2.2] 27]) (X := X1) (As := As) S3
          refine s_callV rfl (cb4 S4 h1 q7) rfl ?_
          rintro _ w5 ⟨m2, X4, l1, S5, h6, rfl⟩
          replace S5 := St.absF (L := X4) (X := [bx b2 [vU x2.1, vU x2.2] 27]) (As := As) S5
          clear S4
          replace a2h0 := a2h0.up l1
          replace L4 := Mem.tr L4 l1
          replace S5 : St _ ((bx b2 [vU x2.1, vU x2.2] 27) :: (X4 ++ As)) _ := S5
          clear S3
          refine wpl_nil ?_
          refine nrm ?_
          refine wpc_seq ?_
          refine wpc_region ?_
          refine s_mvv (v := vI s1.1) rfl ?_
          refine s_shrI (m := s1.1) (n := 1) rfl rfl (by decide) ?_
          refine s_mvv (v := vI s1.2.1) rfl ?_
          refine s_shrI (m := s1.2.1) (n := 1) rfl rfl (by decide) ?_
          refine s_asv (v := vI (shr64 s1.1 1)) rfl ?_
          refine s_asv (v := vI (shr64 s1.2.1 1)) rfl ?_
          refine wpl_nil ?_
          refine nrm ?_
          refine wpc_exit ?_
          refine thE ?_
          refine exB ?_
          refine nrm ?_
          obtain ⟨m3, l2, S6⟩ := St.drop S5 0
          replace a2h0 := a2h0.up l2
          replace h6 := hup l2 h6
          replace L4 := Mem.tr L4 l2
          clear S5
          replace S6 : St _ ((X4 ++ As)) _ := S6
          have e0 := Option.some.inj q6
          subst e0
          exact ⟨outP, m3, _, L4, S6, h6, ⟨rfl, rfl, trivial⟩⟩
        replace q6 := ifF hc1 q6
        refine wpc_skip ?_
        refine nrm ?_
        refine wpc_seq ?_
        refine wpc_region ?_
        refine s_mvv (v := f3) rfl ?_
        refine s_ld (i := 0) (cs := [vU x2.1, vU x2.2]) S3 rfl rfl Tryd.isAgg27 Tryd.sizeOf27 rfl (fun h => by cases h) ?_
        obtain ⟨x5, q8, q6⟩ := obind_some q6
        have S7 := St.absF (L := [bx b2 [vU x2.1, vU x2.2] 27]) (X := X1) (As := As) S3
        refine s_callV rfl (cb3 S7 h1 q8) rfl ?_
        rintro _ w6 ⟨m4, X5, l3, S8, h7, rfl⟩
        replace S8 := St.absF (L := X5) (X := [bx b2 [vU x2.1, vU x2.2] 27]) (As := As) S8
        clear S7
        replace a2h0 := a2h0.up l3
        replace L4 := Mem.tr L4 l3
        replace S8 : St _ ((bx b2 [vU x2.1, vU x2.2] 27) :: (X5 ++ As)) _ := S8
        clear S3
        refine wpl_nil ?_
        refine nrm ?_
        obtain ⟨x6, q9, q6⟩ := obind_some q6
        have L5 := Mem.rfl' m4
        refine wpc_seq ?_
        refine wpc_join [0, 10, 39, 40, 41, 42, 43, 44, 45, 46, 47, 48, 49] (fun f' w' => ∃ (M3 : Mem), m4 ≤ M3 ∧ St M3 ((bx b2 [vU x2.1, vU x2.2] 27) :: (X5 ++ As)) w' ∧ AllAt f' [(0, vI x6.1), (10, vI x6.2)]) ?_ ?_
        · obtain ⟨x7, q10, q9⟩ := obind_some q9
          have L6 := Mem.rfl' m4
          refine wpc_join [0, 10, 39, 40, 41, 42, 43, 44, 45, 46, 47, 48, 49] (fun f' w' => ∃ (M4 : Mem), m4 ≤ M4 ∧ St M4 ((bx b2 [vU x2.1, vU x2.2] 27) :: (X5 ++ As)) w' ∧ AllAt f' [(0, vI x7.1), (10, vI x7.2)]) ?_ ?_
          · refine wpc_block ?_
            refine wpc_rounds [0, 10, 39, 40, 41, 42, 43, 44, 45, 46, 47, 48, 49] (fun n2 f' w' => ∃ (s2 : Int × Int) (m6 : Mem), iter m_merkle_climb_b3 n2 s2 = some x7 ∧ m4 ≤ m6 ∧ St m6 ((bx b2 [vU x2.1, vU x2.2] 27) :: (X5 ++ As)) w' ∧ AllAt f' [(0, vI s2.1), (10, vI s2.2)]) FUEL ⟨(s1.1, s1.2.1), m4, q10, L6, S8, ⟨rfl, rfl, trivial⟩⟩ ?_
            rintro n2 f3 w7 ho ⟨s2, m5, q11, L8, S9, ha⟩
            obtain ⟨u3, rfl⟩ := fr_of (N := 55) ho ha
            clear ho ha
            replace a2h0 := a2h0.up L8
            replace h7 := hup L8 h7
            have L7 := Mem.rfl' m5
            clear S8
            cases n2 with
            | zero => exact (iter_zero q11).elim
            | succ n2 =>
              obtain ⟨y2, q13, q12⟩ := iter_succ q11
              unfold m_merkle_climb_b3 at q13
              refine wpc_seq ?_
              refine wpc_seq ?_
              refine wpc_region ?_
              refine s_mvv (v := vI s2.1) rfl ?_
              refine s_andI (m := s2.1) (n := 1) rfl rfl ?_
              refine s_eql (m := (and64 s2.1 1)) (n := 0) rfl rfl ?_
              refine s_mvv (v := vb ((and64 s2.1 1) == 0)) rfl ?_
              refine wpl_cut 3 [43, 44, 45] (fun f' w' => w' = w7 ∧ AllAt f' [(45, vb (((and64 s2.1 1) == 0) && (s2.1 != 0)))]) ?_ ?_
              · rcases bool_tf ((and64 s2.1 1) == 0) with hb2 | hb2
                · refine wpl_yes (d := 42) rfl rfl (congrArg Value.bool hb2) ?_
                  refine s_mvv (v := vI s2.1) rfl ?_
                  refine wpl_yes (d := 42) rfl rfl (congrArg Value.bool hb2) ?_
                  refine s_neq (m := s2.1) (n := 0) rfl rfl ?_
                  refine s_pickT (congrArg Value.bool hb2) rfl ?_
                  exact wpl_nil (nrm ⟨outP, rfl, congrArg Value.bool (and_t hb2), trivial⟩)
                · refine wpl_no (d := 42) rfl rfl (congrArg Value.bool hb2) ?_
                  refine wpl_no (d := 42) rfl rfl (congrArg Value.bool hb2) ?_
                  refine s_pickF (congrArg Value.bool hb2) rfl ?_
                  exact wpl_nil (nrm ⟨outP, rfl, congrArg Value.bool (and_f hb2), trivial⟩)
              rintro f4 w8 ho ⟨h8, ha⟩
              subst h8
              obtain ⟨u4, rfl⟩ := fr_of (N := 55) ho ha
              refine wpl_nil ?_
              refine nrm ?_
              refine wpc_if (t := (((and64 s2.1 1) == 0) && (s2.1 != 0))) rfl (fun hc2 => ?_) (fun hc2 => ?_)
              · replace q13 := ifT hc2 q13
                refine wpc_skip ?_
                refine nrm ?_
                refine wpc_block ?_
                refine wpc_region ?_
                refine s_mvv (v := vI s2.1) rfl ?_
                refine s_shrI (m := s2.1) (n := 1) rfl rfl (by decide) ?_
                refine s_mvv (v := vI s2.2) rfl ?_
                refine s_shrI (m := s2.2) (n := 1) rfl rfl (by decide) ?_
                refine s_asv (v := vI (shr64 s2.1 1)) rfl ?_
                refine s_asv (v := vI (shr64 s2.2 1)) rfl ?_
                refine wpl_nil ?_
                refine nrmB ?_
                refine nrm ?_
                have e0 := Option.some.inj q13
                subst e0
                rcases q12 with ⟨sn, e, q12'⟩ | e
                · cases e
                  exact ⟨outP, _, Nat.lt_succ_self _, ⟨_, m5, q12', Mem.tr L8 L7, S9, ⟨rfl, rfl, trivial⟩⟩⟩
                · cases e
              replace q13 := ifF hc2 q13
              refine wpc_exit ?_
              refine thE ?_
              refine thE ?_
              refine exB ?_
              refine nrm ?_
              have e0 := Option.some.inj q13
              subst e0
              rcases q12 with ⟨sn, e, _⟩ | e
              · cases e
              · cases e
                exact ⟨outP, m5, Mem.tr L8 L7, S9, ⟨rfl, rfl, trivial⟩⟩
          rintro f5 w9 ho ⟨m7, l4, S10, ha⟩
          obtain ⟨u5, rfl⟩ := fr_of (N := 55) ho ha
          clear ho ha
          replace a2h0 := a2h0.up l4
          replace h7 := hup l4 h7
          replace L5 := Mem.tr L5 l4
          clear S8
          have e0 := Option.some.inj q9
          subst e0
          exact ⟨outP, m7, L5, S10, ⟨rfl, rfl, trivial⟩⟩
        rintro f6 w10 ho ⟨m8, l5, S11, ha⟩
        obtain ⟨u6, rfl⟩ := fr_of (N := 55) ho ha
        replace a2h0 := a2h0.up l5
        replace h7 := hup l5 h7
        replace L4 := Mem.tr L4 l5
        clear S8
        refine wpc_region ?_
        refine s_mvv (v := vI x6.1) rfl ?_
        refine s_shrI (m := x6.1) (n := 1) rfl rfl (by decide) ?_
        refine s_mvv (v := vI x6.2) rfl ?_
        refine s_shrI (m := x6.2) (n := 1) rfl rfl (by decide) ?_
        refine s_asv (v := vI (shr64 x6.1 1)) rfl ?_
        refine s_asv (v := vI (shr64 x6.2 1)) rfl ?_
        refine wpl_nil ?_
        refine nrmB ?_
        refine nrm ?_
        obtain ⟨m9, l6, S12⟩ := St.drop S11 0
        replace a2h0 := a2h0.up l6
        replace h7 := hup l6 h7
        replace L4 := Mem.tr L4 l6
        clear S11
        replace S12 : St _ ((X5 ++ As)) _ := S12
        have e0 := Option.some.inj q6
        subst e0
        exact ⟨outP, m9, _, L4, S12, h7, ⟨rfl, rfl, trivial⟩⟩
      rintro f7 w11 ho ⟨m10, X3, l7, S13, h3, ha⟩
      obtain ⟨u7, rfl⟩ := fr_of (N := 55) ho ha
      replace a2h0 := a2h0.up l7
      replace L2 := Mem.tr L2 l7
      clear S1
      refine wpc_region ?_
      refine s_addI (m := (i1 : Int)) (n := 1) rfl rfl ?_
      refine s_mvv (v := vI (w64 ((i1 : Int) + 1))) rfl ?_
      refine wpl_nil ?_
      refine nrm ?_
      have e0 := Option.some.inj q4
      subst e0
      exact ⟨outP, _, (by omega), ⟨i1 + 1, (x3.1, x3.2.1, x3.2.2), m10, _, rfl, hlt1, q3, Mem.tr L3 L2, S13, h3, ⟨congrArg (Value.int .i64) (w64_succ hlt1 (SlR.le a2h0)), rfl, rfl, trivial⟩⟩⟩
    have hlt1 : ¬ i1 < a2.length := by have := of_decide_eq_false hc3; omega
    have e := Eq.symm (each0_out q2 hlt1)
    subst e
    refine wpc_exit ?_
    refine thE ?_
    refine thE ?_
    refine exB ?_
    refine nrm ?_
    exact ⟨outP, m1, _, Mem.tr L3 L2, S1, h1, ⟨rfl, rfl, trivial⟩⟩
  rintro f8 w12 ho ⟨m12, X2, l8, S14, h2, ha⟩
  obtain ⟨u8, rfl⟩ := fr_of (N := 55) ho ha
  clear ho ha
  replace L0 := Mem.tr L0 l8
  clear S
  refine scN ?_
  refine outNw ?_
  intro we hpd
  replace S14 := St.pd S14 hpd
  have e0 := Option.some.inj hm
  subst e0
  exact outR [] rfl trivial ⟨_, L0, _, S14, rfl, h2⟩

def m_merkle_Check_1 (a0 : UInt64 × UInt64) (k0 : UInt64 × UInt64) : Option (UInt64 × UInt64) :=
  obind (m_hash_Pair a0 k0) fun x1 =>
  some x1

theorem w_merkle_Check_1 {m : Mem} {As : List Ow} {w : World} {a0 : UInt64 × UInt64} {kb0 : Nat} {k0 : UInt64 × UInt64} {r : UInt64 × UInt64} (S : St m ((bx kb0 [vU k0.1, vU k0.2] 27) :: As) w) (hm : m_merkle_Check_1 a0 k0 = some r) :
    CallsR Tryd.prog 42 #[.agg #[vU a0.1, vU a0.2], pt kb0 0] w fun v w' => ∃ (M : Mem), m ≤ M ∧ St M ((bx kb0 [vU r.1, vU r.2] 27) :: As) w' ∧ v = .tuple #[] := by
  unfold m_merkle_Check_1 at hm
  have L0 := Mem.rfl' m
  refine callsR (args := [.agg #[vU a0.1, vU a0.2], pt kb0 0]) Tryd.func42 rfl Tryd.ntmps42 (Nat.le_of_ble_eq_true rfl) ?_
  refine wpc_seq ?_
  refine wpc_region ?_
  refine s_box S rfl ?_
  intro b1 w1 S1
  replace S1 : St _ ((bx b1 [vU a0.1, vU a0.2] 27) :: (bx kb0 [vU k0.1, vU k0.2] 27) :: As) _ := S1
  clear S
  refine wpl_nil ?_
  refine nrm ?_
  refine wpc_region ?_
  refine s_ld (i := 0) (cs := [vU a0.1, vU a0.2]) S1 rfl rfl Tryd.isAgg27 Tryd.sizeOf27 rfl (fun h => by cases h) ?_
  refine s_ld (i := 1) (cs := [vU k0.1, vU k0.2]) S1 rfl rfl Tryd.isAgg27 Tryd.sizeOf27 rfl (fun h => by cases h) ?_
  obtain ⟨x1, q1, hm⟩ := obind_some hm
  refine s_call Tryd.call29 (w_hash_Pair (a0 := a0) (a1 := k0) S1  q1) rfl ?_
  rintro _ w2 ⟨m1, l1, S2, rfl⟩
  replace L0 := Mem.tr L0 l1
  clear S1
  replace S2 : St _ ((bx b1 [vU a0.1, vU a0.2] 27) :: (bx kb0 [vU k0.1, vU k0.2] 27) :: As) _ := S2
  refine s_stL (i := 1) S2 rfl rfl rfl Tryd.sizeOf27 (oneC rfl (oneC rfl oneN)) rfl ?_
  intro w3 S3
  replace S3 : St _ ((bx b1 [vU a0.1, vU a0.2] 27) :: (bx kb0 [vU x1.1, vU x1.2] 27) :: As) _ := S3
  clear S2
  refine wpl_nil ?_
  refine outNw ?_
  intro we hpd
  replace S3 := St.pd S3 hpd
  obtain ⟨m2, l2, S4⟩ := St.drop S3 0
  replace L0 := Mem.tr L0 l2
  clear S3
  replace S4 : St _ ((bx kb0 [vU x1.1, vU x1.2] 27) :: As) _ := S4
  have e0 := Option.some.inj hm
  subst e0
  exact outR [] rfl trivial ⟨_, L0, S4, rfl⟩

def m_merkle_Check_2 (a0 : UInt64 × UInt64) (k0 : UInt64 × UInt64) : Option (UInt64 × UInt64) :=
  obind (m_hash_Pair k0 a0) fun x1 =>
  some x1

theorem w_merkle_Check_2 {m : Mem} {As : List Ow} {w : World} {a0 : UInt64 × UInt64} {kb0 : Nat} {k0 : UInt64 × UInt64} {r : UInt64 × UInt64} (S : St m ((bx kb0 [vU k0.1, vU k0.2] 27) :: As) w) (hm : m_merkle_Check_2 a0 k0 = some r) :
    CallsR Tryd.prog 43 #[.agg #[vU a0.1, vU a0.2], pt kb0 0] w fun v w' => ∃ (M : Mem), m ≤ M ∧ St M ((bx kb0 [vU r.1, vU r.2] 27) :: As) w' ∧ v = .tuple #[] := by
  unfold m_merkle_Check_2 at hm
  have L0 := Mem.rfl' m
  refine callsR (args := [.agg #[vU a0.1, vU a0.2], pt kb0 0]) Tryd.func43 rfl Tryd.ntmps43 (Nat.le_of_ble_eq_true rfl) ?_
  refine wpc_seq ?_
  refine wpc_region ?_
  refine s_box S rfl ?_
  intro b1 w1 S1
  replace S1 : St _ ((bx b1 [vU a0.1, vU a0.2] 27) :: (bx kb0 [vU k0.1, vU k0.2] 27) :: As) _ := S1
  clear S
  refine wpl_nil ?_
  refine nrm ?_
  refine wpc_region ?_
  refine s_ld (i := 1) (cs := [vU k0.1, vU k0.2]) S1 rfl rfl Tryd.isAgg27 Tryd.sizeOf27 rfl (fun h => by cases h) ?_
  refine s_ld (i := 0) (cs := [vU a0.1, vU a0.2]) S1 rfl rfl Tryd.isAgg27 Tryd.sizeOf27 rfl (fun h => by cases h) ?_
  obtain ⟨x1, q1, hm⟩ := obind_some hm
  refine s_call Tryd.call29 (w_hash_Pair (a0 := k0) (a1 := a0) S1  q1) rfl ?_
  rintro _ w2 ⟨m1, l1, S2, rfl⟩
  replace L0 := Mem.tr L0 l1
  clear S1
  replace S2 : St _ ((bx b1 [vU a0.1, vU a0.2] 27) :: (bx kb0 [vU k0.1, vU k0.2] 27) :: As) _ := S2
  refine s_stL (i := 1) S2 rfl rfl rfl Tryd.sizeOf27 (oneC rfl (oneC rfl oneN)) rfl ?_
  intro w3 S3
  replace S3 : St _ ((bx b1 [vU a0.1, vU a0.2] 27) :: (bx kb0 [vU x1.1, vU x1.2] 27) :: As) _ := S3
  clear S2
  refine wpl_nil ?_
  refine outNw ?_
  intro we hpd
  replace S3 := St.pd S3 hpd
  obtain ⟨m2, l2, S4⟩ := St.drop S3 0
  replace L0 := Mem.tr L0 l2
  clear S3
  replace S4 : St _ ((bx kb0 [vU x1.1, vU x1.2] 27) :: As) _ := S4
  have e0 := Option.some.inj hm
  subst e0
  exact outR [] rfl trivial ⟨_, L0, S4, rfl⟩

def m_merkle_Check (a0 : UInt64 × UInt64) (a1 : Int) (a2 : Int) (a3 : List (UInt64 × UInt64)) (a4 : UInt64 × UInt64) : Option Int :=
  if (((decide (a1 < 0)) || (decide (a1 ≥ a2))) || (decide (a2 > 256))) = true then
    some 1
  else
  obind (m_merkle_steps a1 a2) fun x1 =>
  if ((a3.length : Int) != (w64 (x1.1 + x1.2))) = true then
    some 80
  else
  obind (m_merkle_climb a1 a2 a3 (fun (s1 : (UInt64 × UInt64)) (b4 : UInt64 × UInt64) => obind (m_merkle_Check_1 b4 (s1)) fun x2 => some x2) (fun (s2 : (UInt64 × UInt64)) (b5 : UInt64 × UInt64) => obind (m_merkle_Check_2 b5 (s2)) fun x3 => some x3) a0) fun x4 =>
  if (!eqSum x4 a4) = true then
    some 71
  else
  some 0

theorem w_merkle_Check {m : Mem} {As : List Ow} {w : World} {a0 : UInt64 × UInt64} {a1 : Int} {a2 : Int} {a3 : List (UInt64 × UInt64)} {a3v0 : Value} {a4 : UInt64 × UInt64} {r : Int} (S : St m (As) w) (a3h0 : SlR m a3v0 a3) (hm : m_merkle_Check a0 a1 a2 a3 a4 = some r) :
    CallsR Tryd.prog 21 #[.agg #[vU a0.1, vU a0.2], vI a1, vI a2, a3v0, .agg #[vU a4.1, vU a4.2]] w fun v w' => ∃ (M : Mem), m ≤ M ∧ St M (As) w' ∧ v = vI r := by
  unfold m_merkle_Check at hm
  have L0 := Mem.rfl' m
  refine callsR (args := [.agg #[vU a0.1, vU a0.2], vI a1, vI a2, a3v0, .agg #[vU a4.1, vU a4.2]]) Tryd.func21 rfl Tryd.ntmps21 (Nat.le_of_ble_eq_true rfl) ?_
  refine wpc_seq ?_
  refine wpc_region ?_
  refine s_box S rfl ?_
  intro b1 w1 S1
  replace S1 : St _ ((bx b1 [vU a0.1, vU a0.2] 27) :: As) _ := S1
  clear S
  refine s_box S1 rfl ?_
  intro b2 w2 S2
  replace S2 : St _ ((bx b2 [vU a4.1, vU a4.2] 27) :: (bx b1 [vU a0.1, vU a0.2] 27) :: As) _ := S2
  clear S1
  refine s_asv (v := vI 0) rfl ?_
  refine wpl_nil ?_
  refine nrm ?_
  refine wpc_seq ?_
  refine wpc_seq ?_
  refine wpc_region ?_
  refine s_mvv (v := vI a1) rfl ?_
  refine s_lss (m := a1) (n := 0) rfl rfl ?_
  refine s_mvv (v := vb (decide (a1 < 0))) rfl ?_
  refine wpl_cut 4 [17, 18, 19, 20] (fun f' w' => w' = w2 ∧ AllAt f' [(20, vb ((decide (a1 < 0)) || (decide (a1 ≥ a2))))]) ?_ ?_
  · rcases bool_tf (decide (a1 < 0)) with hb1 | hb1
    · refine wpl_no (d := 16) rfl rfl (congrArg Value.bool hb1) ?_
      refine wpl_no (d := 16) rfl rfl (congrArg Value.bool hb1) ?_
      refine wpl_no (d := 16) rfl rfl (congrArg Value.bool hb1) ?_
      refine s_pickT (congrArg Value.bool hb1) rfl ?_
      exact wpl_nil (nrm ⟨outP, rfl, congrArg Value.bool (or_t hb1), trivial⟩)
    · refine wpl_yes (d := 16) rfl rfl (congrArg Value.bool hb1) ?_
      refine s_mvv (v := vI a1) rfl ?_
      refine wpl_yes (d := 16) rfl rfl (congrArg Value.bool hb1) ?_
      refine s_mvv (v := vI a2) rfl ?_
      refine wpl_yes (d := 16) rfl rfl (congrArg Value.bool hb1) ?_
      refine s_geq (m := a1) (n := a2) rfl rfl ?_
      refine s_pickF (congrArg Value.bool hb1) rfl ?_
      exact wpl_nil (nrm ⟨outP, rfl, congrArg Value.bool (or_f hb1), trivial⟩)
  rintro f1 w3 ho ⟨h1, ha⟩
  subst h1
  obtain ⟨u1, rfl⟩ := fr_of (N := 47) ho ha
  refine s_mvv (v := vb ((decide (a1 < 0)) || (decide (a1 ≥ a2)))) rfl ?_
  refine wpl_cut 3 [22, 23, 24] (fun f' w' => w' = w3 ∧ AllAt f' [(24, vb (((decide (a1 < 0)) || (decide (a1 ≥ a2))) || (decide (a2 > 256))))]) ?_ ?_
  · rcases bool_tf ((decide (a1 < 0)) || (decide (a1 ≥ a2))) with hb2 | hb2
    · refine wpl_no (d := 21) rfl rfl (congrArg Value.bool hb2) ?_
      refine wpl_no (d := 21) rfl rfl (congrArg Value.bool hb2) ?_
      refine s_pickT (congrArg Value.bool hb2) rfl ?_
      exact wpl_nil (nrm ⟨outP, rfl, congrArg Value.bool (or_t hb2), trivial⟩)
    · refine wpl_yes (d := 21) rfl rfl (congrArg Value.bool hb2) ?_
      refine s_mvv (v := vI a2) rfl ?_
      refine wpl_yes (d := 21) rfl rfl (congrArg Value.bool hb2) ?_
      refine s_gtr (m := a2) (n := 256) rfl rfl ?_
      refine s_pickF (congrArg Value.bool hb2) rfl ?_
      exact wpl_nil (nrm ⟨outP, rfl, congrArg Value.bool (or_f hb2), trivial⟩)
  rintro f2 w4 ho ⟨h2, ha⟩
  subst h2
  obtain ⟨u2, rfl⟩ := fr_of (N := 47) ho ha
  refine wpl_nil ?_
  refine nrm ?_
  refine wpc_if (t := (((decide (a1 < 0)) || (decide (a1 ≥ a2))) || (decide (a2 > 256)))) rfl (fun hc1 => ?_) (fun hc1 => ?_)
  · replace hm := ifT hc1 hm
    refine wpc_seq ?_
    refine wpc_region ?_
    refine s_asv (v := vI 1) rfl ?_
    refine wpl_nil ?_
    refine nrm ?_
    refine wpc_ret ?_
    refine thR ?_
    refine outRw ?_
    intro we hpd
    replace S2 := St.pd S2 hpd
    obtain ⟨m1, l1, S3⟩ := St.drop S2 0
    replace L0 := Mem.tr L0 l1
    clear S2
    replace S3 : St _ ((bx b1 [vU a0.1, vU a0.2] 27) :: As) _ := S3
    obtain ⟨m2, l2, S4⟩ := St.drop S3 0
    replace L0 := Mem.tr L0 l2
    clear S3
    replace S4 : St _ (As) _ := S4
    have e0 := Option.some.inj hm
    subst e0
    exact outR [_] rfl ⟨rfl, trivial⟩ ⟨_, L0, S4, rfl⟩
  replace hm := ifF hc1 hm
  refine wpc_skip ?_
  refine nrm ?_
  refine wpc_seq ?_
  refine wpc_seq ?_
  refine wpc_region ?_
  refine s_mvv (v := vI a1) rfl ?_
  refine s_mvv (v := vI a2) rfl ?_
  obtain ⟨x1, q1, hm⟩ := obind_some hm
  refine s_call Tryd.call40 (w_merkle_steps (a0 := a1) (a1 := a2) S2  q1) rfl ?_
  rintro _ w5 ⟨m3, l3, S5, rfl⟩
  replace a3h0 := a3h0.up l3
  replace L0 := Mem.tr L0 l3
  clear S2
  replace S5 : St _ ((bx b2 [vU a4.1, vU a4.2] 27) :: (bx b1 [vU a0.1, vU a0.2] 27) :: As) _ := S5
  refine s_mvv (v := .tuple #[vI x1.1, vI x1.2]) rfl ?_
  refine s_ext (i := 0) rfl rfl ?_
  refine s_ext (i := 1) rfl rfl ?_
  refine s_asv (v := vI x1.1) rfl ?_
  refine s_asv (v := vI x1.2) rfl ?_
  refine wpl_nil ?_
  refine nrm ?_
  refine wpc_seq ?_
  refine wpc_region ?_
  refine s_mvv (v := a3v0) rfl ?_
  refine s_lenR (xs := a3) rfl a3h0 Tryd.underlying22 ?_
  refine s_mvv (v := vI x1.1) rfl ?_
  refine s_mvv (v := vI x1.2) rfl ?_
  refine s_addI (m := x1.1) (n := x1.2) rfl rfl ?_
  refine s_neq (m := (a3.length : Int)) (n := (w64 (x1.1 + x1.2))) rfl rfl ?_
  refine wpl_nil ?_
  refine nrm ?_
  refine wpc_if (t := ((a3.length : Int) != (w64 (x1.1 + x1.2)))) rfl (fun hc2 => ?_) (fun hc2 => ?_)
  · replace hm := ifT hc2 hm
    refine wpc_seq ?_
    refine wpc_region ?_
    refine s_asv (v := vI 80) rfl ?_
    refine wpl_nil ?_
    refine nrm ?_
    refine wpc_ret ?_
    refine thR ?_
    refine outRw ?_
    intro we hpd
    replace S5 := St.pd S5 hpd
    obtain ⟨m4, l4, S6⟩ := St.drop S5 0
    replace L0 := Mem.tr L0 l4
    clear S5
    replace S6 : St _ ((bx b1 [vU a0.1, vU a0.2] 27) :: As) _ := S6
    obtain ⟨m5, l5, S7⟩ := St.drop S6 0
    replace L0 := Mem.tr L0 l5
    clear S6
    replace S7 : St _ (As) _ := S7
    have e0 := Option.some.inj hm
    subst e0
    exact outR [_] rfl ⟨rfl, trivial⟩ ⟨_, L0, S7, rfl⟩
  replace hm := ifF hc2 hm
  refine wpc_skip ?_
  refine nrm ?_
  refine wpc_seq ?_
  refine wpc_region ?_
  refine s_ld (i := 1) (cs := [vU a0.1, vU a0.2]) S5 rfl rfl Tryd.isAgg27 Tryd.sizeOf27 rfl (fun h => by cases h) ?_
  refine s_alloc S5 Tryd.zeroValue27 ?_
  intro b3 w6 S8
  replace S8 : St _ ((bx b3 [vU 0, vU 0] 27) :: (bx b2 [vU a4.1, vU a4.2] 27) :: (bx b1 [vU a0.1, vU a0.2] 27) :: As) _ := S8
  clear S5
  refine s_stL (i := 0) S8 rfl rfl rfl Tryd.sizeOf27 (oneC rfl (oneC rfl oneN)) rfl ?_
  intro w7 S9
  replace S9 : St _ ((bx b3 [vU a0.1, vU a0.2] 27) :: (bx b2 [vU a4.1, vU a4.2] 27) :: (bx b1 [vU a0.1, vU a0.2] 27) :: As) _ := S9
  clear S8
  refine wpl_nil ?_
  refine nrm ?_
  refine wpc_seq ?_
  refine wpc_region ?_
  refine s_mvv (v := vI a1) rfl ?_
  refine s_mvv (v := vI a2) rfl ?_
  refine s_mvv (v := a3v0) rfl ?_
  refine s_funcC (caps := [pt b3 0]) rfl ?_
  refine s_funcC (caps := [pt b3 0]) rfl ?_
  have hcb1 : ∀ {m' : Mem} {As' : List Ow} {w' : World} {s : (UInt64 × UInt64)} {X : List Ow} {b0 : UInt64 × UInt64} {r : (UInt64 × UInt64)}, St m' (X ++ As') w' → (X = [bx b3 [vU ((s).1), vU ((s).2)] 27]) → (fun (s1 : (UInt64 × UInt64)) (b4 : UInt64 × UInt64) => obind (m_merkle_Check_1 b4 (s1)) fun x2 => some x2) s b0 = some r → CallV Tryd.prog (.func (.func 42) #[] #[pt b3 0]) [.agg #[vU b0.1, vU b0.2]] w' fun v w'' => ∃ (M : Mem) (X' : List Ow), m' ≤ M ∧ St M (X' ++ As') w'' ∧ (X' = [bx b3 [vU ((r).1), vU ((r).2)] 27]) ∧ v = .tuple #[] := by
    intro m6 As1 w8 s1 X1 b4 r1 S10 h3 hm1
    subst h3
    replace S10 : St _ ((bx b3 [vU ((s1).1), vU ((s1).2)] 27) :: As1) _ := S10
    have L1 := Mem.rfl' m6
    obtain ⟨x2, q2, hm1⟩ := obind_some hm1
    refine CallV.mono (CallV.clo Tryd.call42 rfl (w_merkle_Check_1 (a0 := b4) (k0 := (s1)) S10  q2)) ?_
    rintro _ w9 ⟨m7, l6, S11, rfl⟩
    replace L1 := Mem.tr L1 l6
    clear S10
    replace S11 : St _ ((bx b3 [vU x2.1, vU x2.2] 27) :: As1) _ := S11
    have e0 := Option.some.inj hm1
    subst e0
    exact ⟨_, [bx b3 [vU x2.1, vU x2.2] 27], L1, S11, rfl, rfl⟩
  have hcb2 : ∀ {m' : Mem} {As' : List Ow} {w' : World} {s : (UInt64 × UInt64)} {X : List Ow} {b0 : UInt64 × UInt64} {r : (UInt64 × UInt64)}, St m' (X ++ As') w' → (X = [bx b3 [vU ((s).1), vU ((s).2)] 27]) → (fun (s2 : (UInt64 × UInt64)) (b5 : UInt64 × UInt64) => obind (m_merkle_Check_2 b5 (s2)) fun x3 => some x3) s b0 = some r → CallV Tryd.prog (.func (.func 43) #[] #[pt b3 0]) [.agg #[vU b0.1, vU b0.2]] w' fun v w'' => ∃ (M : Mem) (X' : List Ow), m' ≤ M ∧ St M (X' ++ As') w'' ∧ (X' = [bx b3 [vU ((r).1), vU ((r).2)] 27]) ∧ v = .tuple #[] := by
    intro m8 As2 w10 s2 X2 b5 r2 S12 h4 hm2
    subst h4
    replace S12 : St _ ((bx b3 [vU ((s2).1), vU ((s2).2)] 27) :: As2) _ := S12
    have L2 := Mem.rfl' m8
    obtain ⟨x3, q3, hm2⟩ := obind_some hm2
    refine CallV.mono (CallV.clo Tryd.call43 rfl (w_merkle_Check_2 (a0 := b5) (k0 := (s2)) S12  q3)) ?_
    rintro _ w11 ⟨m9, l7, S13, rfl⟩
    replace L2 := Mem.tr L2 l7
    clear S12
    replace S13 : St _ ((bx b3 [vU x3.1, vU x3.2] 27) :: As2) _ := S13
    have e0 := Option.some.inj hm2
    subst e0
    exact ⟨_, [bx b3 [vU x3.1, vU x3.2] 27], L2, S13, rfl, rfl⟩
  obtain ⟨x4, q4, hm⟩ := obind_some hm
  refine s_call Tryd.call41 (w_merkle_climb (a0 := a1) (a1 := a2) (a2 := a3) (p3 := (fun (s1 : (UInt64 × UInt64)) (b4 : UInt64 × UInt64) => obind (m_merkle_Check_1 b4 (s1)) fun x2 => some x2)) (p4 := (fun (s2 : (UInt64 × UInt64)) (b5 : UInt64 × UInt64) => obind (m_merkle_Check_2 b5 (s2)) fun x3 => some x3)) (s0 := a0) (R := (fun (s : (UInt64 × UInt64)) (M : Mem) (X : List Ow) => (X = [bx b3 [vU ((s).1), vU ((s).2)] 27]))) (X0 := [bx b3 [vU a0.1, vU a0.2] 27]) (As := (bx b2 [vU a4.1, vU a4.2] 27) :: (bx b1 [vU a0.1, vU a0.2] 27) :: As) S9 (fun _ h => h) rfl hcb1 hcb2 a3h0 q4) rfl ?_
  rintro _ w12 ⟨m10, l8, X3, S14, rfl, rfl⟩
  replace a3h0 := a3h0.up l8
  replace L0 := Mem.tr L0 l8
  clear S9
  replace S14 : St _ ((bx b3 [vU x4.1, vU x4.2] 27) :: (bx b2 [vU a4.1, vU a4.2] 27) :: (bx b1 [vU a0.1, vU a0.2] 27) :: As) _ := S14
  refine wpl_nil ?_
  refine nrm ?_
  refine wpc_seq ?_
  refine wpc_seq ?_
  refine wpc_region ?_
  refine s_ld (i := 0) (cs := [vU x4.1, vU x4.2]) S14 rfl rfl Tryd.isAgg27 Tryd.sizeOf27 rfl (fun h => by cases h) ?_
  refine s_ld (i := 1) (cs := [vU a4.1, vU a4.2]) S14 rfl rfl Tryd.isAgg27 Tryd.sizeOf27 rfl (fun h => by cases h) ?_
  refine s_neqSum (p := x4) (q := a4) rfl rfl Tryd.underlying27 Tryd.underlying25 Tryd.sizeOf25 Tryd.isAgg25 Tryd.eqGuardType27 ?_
  refine wpl_nil ?_
  refine nrm ?_
  refine wpc_if (t := (!eqSum x4 a4)) rfl (fun hc3 => ?_) (fun hc3 => ?_)
  · replace hm := ifT hc3 hm
    refine wpc_seq ?_
    refine wpc_region ?_
    refine s_asv (v := vI 71) rfl ?_
    refine wpl_nil ?_
    refine nrm ?_
    refine wpc_ret ?_
    refine thR ?_
    refine outRw ?_
    intro we hpd
    replace S14 := St.pd S14 hpd
    obtain ⟨m11, l9, S15⟩ := St.drop S14 0
    replace L0 := Mem.tr L0 l9
    clear S14
    replace S15 : St _ ((bx b2 [vU a4.1, vU a4.2] 27) :: (bx b1 [vU a0.1, vU a0.2] 27) :: As) _ := S15
    obtain ⟨m12, l10, S16⟩ := St.drop S15 0
    replace L0 := Mem.tr L0 l10
    clear S15
    replace S16 : St _ ((bx b1 [vU a0.1, vU a0.2] 27) :: As) _ := S16
    obtain ⟨m13, l11, S17⟩ := St.drop S16 0
    replace L0 := Mem.tr L0 l11
    clear S16
    replace S17 : St _ (As) _ := S17
    have e0 := Option.some.inj hm
    subst e0
    exact outR [_] rfl ⟨rfl, trivial⟩ ⟨_, L0, S17, rfl⟩
  replace hm := ifF hc3 hm
  refine wpc_skip ?_
  refine nrm ?_
  refine wpc_seq ?_
  refine wpc_region ?_
  refine s_asv (v := vI 0) rfl ?_
  refine wpl_nil ?_
  refine nrm ?_
  refine wpc_ret ?_
  refine outRw ?_
  intro we hpd
  replace S14 := St.pd S14 hpd
  obtain ⟨m14, l12, S18⟩ := St.drop S14 0
  replace L0 := Mem.tr L0 l12
  clear S14
  replace S18 : St _ ((bx b2 [vU a4.1, vU a4.2] 27) :: (bx b1 [vU a0.1, vU a0.2] 27) :: As) _ := S18
  obtain ⟨m15, l13, S19⟩ := St.drop S18 0
  replace L0 := Mem.tr L0 l13
  clear S18
  replace S19 : St _ ((bx b1 [vU a0.1, vU a0.2] 27) :: As) _ := S19
  obtain ⟨m16, l14, S20⟩ := St.drop S19 0
  replace L0 := Mem.tr L0 l14
  clear S19
  replace S20 : St _ (As) _ := S20
  have e0 := Option.some.inj hm
  subst e0
  exact outR [_] rfl ⟨rfl, trivial⟩ ⟨_, L0, S20, rfl⟩

def m_bits_TrailingZeros32 (a0 : UInt32) : Option Int :=
  if ((a0.toNat : Int) == 0) = true then
    some 32
  else
  obind (idx tab_0 ((shrW ((a0 &&& (toW (-(a0.toNat : Int)))) * 125613361) 27).toNat : Int)) fun x1 =>
  some (w64 (x1.toNat : Int))

theorem w_bits_TrailingZeros32 {m : Mem} {As : List Ow} {w : World} {a0 : UInt32} {r : Int} (S : St m (As) w) (T0 : PtC m (pt 0 0) (tab_0.map vB)) (hm : m_bits_TrailingZeros32 a0 = some r) :
    CallsR Tryd.prog 66 #[vW a0] w fun v w' => ∃ (M : Mem), m ≤ M ∧ St M (As) w' ∧ v = vI r := by
  unfold m_bits_TrailingZeros32 at hm
  have L0 := Mem.rfl' m
  refine callsR (args := [vW a0]) Tryd.func66 rfl Tryd.ntmps66 (Nat.le_of_ble_eq_true rfl) ?_
  refine wpc_seq ?_
  refine wpc_region ?_
  refine s_asv (v := vI 0) rfl ?_
  refine wpl_nil ?_
  refine nrm ?_
  refine wpc_seq ?_
  refine wpc_seq ?_
  refine wpc_region ?_
  refine s_mvv (v := vW a0) rfl ?_
  refine s_eql (m := (a0.toNat : Int)) (n := 0) rfl rfl ?_
  refine wpl_nil ?_
  refine nrm ?_
  refine wpc_if (t := ((a0.toNat : Int) == 0)) rfl (fun hc1 => ?_) (fun hc1 => ?_)
  · replace hm := ifT hc1 hm
    refine wpc_seq ?_
    refine wpc_region ?_
    refine s_asv (v := vI 32) rfl ?_
    refine wpl_nil ?_
    refine nrm ?_
    refine wpc_ret ?_
    refine thR ?_
    refine outRw ?_
    intro we hpd
    replace S := St.pd S hpd
    have e0 := Option.some.inj hm
    subst e0
    exact outR [_] rfl ⟨rfl, trivial⟩ ⟨_, L0, S, rfl⟩
  replace hm := ifF hc1 hm
  refine wpc_skip ?_
  refine nrm ?_
  refine wpc_seq ?_
  refine wpc_region ?_
  refine s_mvv (v := vW a0) rfl ?_
  refine s_mvv (v := vW a0) rfl ?_
  refine s_negW rfl ?_
  refine s_andW (m := a0) (n := (toW (-(a0.toNat : Int)))) rfl rfl ?_
  refine s_mulW (m := (a0 &&& (toW (-(a0.toNat : Int))))) (n := 125613361) rfl rfl ?_
  refine s_shrW (m := ((a0 &&& (toW (-(a0.toNat : Int)))) * 125613361)) (n := 27) rfl rfl (by decide) ?_
  obtain ⟨x1, q1, hm⟩ := obind_some hm
  refine s_idxT (c := vB) (i := ((shrW ((a0 &&& (toW (-(a0.toNat : Int)))) * 125613361) 27).toNat : Int)) rfl rfl T0 q1 Tryd.underlying90 rfl Tryd.sizeOf5 ?_
  intro p1 h1
  refine s_ldM (cs := [vB x1]) S rfl h1 rfl Tryd.isAgg5 Tryd.sizeOf5 (fun _ => rfl) ?_
  refine s_convI rfl Tryd.underlying5 Tryd.underlying3 ?_
  refine s_asv (v := vI (w64 (x1.toNat : Int))) rfl ?_
  refine wpl_nil ?_
  refine nrm ?_
  refine wpc_ret ?_
  refine outRw ?_
  intro we hpd
  replace S := St.pd S hpd
  have e0 := Option.some.inj hm
  subst e0
  exact outR [_] rfl ⟨rfl, trivial⟩ ⟨_, L0, S, rfl⟩

def m_bits_TrailingZeros64 (a0 : UInt64) : Option Int :=
  if ((a0.toNat : Int) == 0) = true then
    some 64
  else
  obind (idx tab_1 ((shrU ((a0 &&& (toU (-(a0.toNat : Int)))) * 285870213051353865) 58).toNat : Int)) fun x1 =>
  some (w64 (x1.toNat : Int))

theorem w_bits_TrailingZeros64 {m : Mem} {As : List Ow} {w : World} {a0 : UInt64} {r : Int} (S : St m (As) w) (T1 : PtC m (pt 1 0) (tab_1.map vB)) (hm : m_bits_TrailingZeros64 a0 = some r) :
    CallsR Tryd.prog 67 #[vU a0] w fun v w' => ∃ (M : Mem), m ≤ M ∧ St M (As) w' ∧ v = vI r := by
  unfold m_bits_TrailingZeros64 at hm
  have L0 := Mem.rfl' m
  refine callsR (args := [vU a0]) Tryd.func67 rfl Tryd.ntmps67 (Nat.le_of_ble_eq_true rfl) ?_
  refine wpc_seq ?_
  refine wpc_region ?_
  refine s_asv (v := vI 0) rfl ?_
  refine wpl_nil ?_
  refine nrm ?_
  refine wpc_seq ?_
  refine wpc_seq ?_
  refine wpc_region ?_
  refine s_mvv (v := vU a0) rfl ?_
  refine s_eql (m := (a0.toNat : Int)) (n := 0) rfl rfl ?_
  refine wpl_nil ?_
  refine nrm ?_
  refine wpc_if (t := ((a0.toNat : Int) == 0)) rfl (fun hc1 => ?_) (fun hc1 => ?_)
  · replace hm := ifT hc1 hm
    refine wpc_seq ?_
    refine wpc_region ?_
    refine s_asv (v := vI 64) rfl ?_
    refine wpl_nil ?_
    refine nrm ?_
    refine wpc_ret ?_
    refine thR ?_
    refine outRw ?_
    intro we hpd
    replace S := St.pd S hpd
    have e0 := Option.some.inj hm
    subst e0
    exact outR [_] rfl ⟨rfl, trivial⟩ ⟨_, L0, S, rfl⟩
  replace hm := ifF hc1 hm
  refine wpc_skip ?_
  refine nrm ?_
  refine wpc_seq ?_
  refine wpc_region ?_
  refine s_mvv (v := vU a0) rfl ?_
  refine s_mvv (v := vU a0) rfl ?_
  refine s_negU rfl ?_
  refine s_andU (m := a0) (n := (toU (-(a0.toNat : Int)))) rfl rfl ?_
  refine s_mulU (m := (a0 &&& (toU (-(a0.toNat : Int))))) (n := 285870213051353865) rfl rfl ?_
  refine s_shrU (m := ((a0 &&& (toU (-(a0.toNat : Int)))) * 285870213051353865)) (n := 58) rfl rfl (by decide) ?_
  obtain ⟨x1, q1, hm⟩ := obind_some hm
  refine s_idxT (c := vB) (i := ((shrU ((a0 &&& (toU (-(a0.toNat : Int)))) * 285870213051353865) 58).toNat : Int)) rfl rfl T1 q1 Tryd.underlying91 rfl Tryd.sizeOf5 ?_
  intro p1 h1
  refine s_ldM (cs := [vB x1]) S rfl h1 rfl Tryd.isAgg5 Tryd.sizeOf5 (fun _ => rfl) ?_
  refine s_convI rfl Tryd.underlying5 Tryd.underlying3 ?_
  refine s_asv (v := vI (w64 (x1.toNat : Int))) rfl ?_
  refine wpl_nil ?_
  refine nrm ?_
  refine wpc_ret ?_
  refine outRw ?_
  intro we hpd
  replace S := St.pd S hpd
  have e0 := Option.some.inj hm
  subst e0
  exact outR [_] rfl ⟨rfl, trivial⟩ ⟨_, L0, S, rfl⟩

def m_bits_TrailingZeros (a0 : UInt64) : Option Int :=
  obind (m_bits_TrailingZeros64 a0) fun x1 =>
  some x1

theorem w_bits_TrailingZeros {m : Mem} {As : List Ow} {w : World} {a0 : UInt64} {r : Int} (S : St m (As) w) (T1 : PtC m (pt 1 0) (tab_1.map vB)) (hm : m_bits_TrailingZeros a0 = some r) :
    CallsR Tryd.prog 48 #[vU a0] w fun v w' => ∃ (M : Mem), m ≤ M ∧ St M (As) w' ∧ v = vI r := by
  unfold m_bits_TrailingZeros at hm
  have L0 := Mem.rfl' m
  refine callsR (args := [vU a0]) Tryd.func48 rfl Tryd.ntmps48 (Nat.le_of_ble_eq_true rfl) ?_
  refine wpc_seq ?_
  refine wpc_region ?_
  refine s_asv (v := vI 0) rfl ?_
  refine wpl_nil ?_
  refine nrm ?_
  refine wpc_seq ?_
  refine wpc_false rfl ?_
  refine wpc_skip ?_
  refine nrm ?_
  refine wpc_seq ?_
  refine wpc_region ?_
  refine s_mvv (v := vU a0) rfl ?_
  obtain ⟨x1, q1, hm⟩ := obind_some hm
  refine s_call Tryd.call67 (w_bits_TrailingZeros64 (a0 := a0) S T1 q1) rfl ?_
  rintro _ w1 ⟨m1, l1, S1, rfl⟩
  replace T1 := T1.up l1
  replace L0 := Mem.tr L0 l1
  clear S
  replace S1 : St _ (As) _ := S1
  refine s_asv (v := vI x1) rfl ?_
  refine wpl_nil ?_
  refine nrm ?_
  refine wpc_ret ?_
  refine outRw ?_
  intro we hpd
  replace S1 := St.pd S1 hpd
  have e0 := Option.some.inj hm
  subst e0
  exact outR [_] rfl ⟨rfl, trivial⟩ ⟨_, L0, S1, rfl⟩

def m_merkle_CheckGrow_1 (a0 : UInt64 × UInt64) (k0 : UInt64 × UInt64) (k1 : UInt64 × UInt64) : Option ((UInt64 × UInt64) × (UInt64 × UInt64)) :=
  obind (m_hash_Pair a0 k0) fun x1 =>
  obind (m_hash_Pair a0 k1) fun x2 =>
  some (x1, x2)

theorem w_merkle_CheckGrow_1 {m : Mem} {As : List Ow} {w : World} {a0 : UInt64 × UInt64} {kb0 : Nat} {k0 : UInt64 × UInt64} {kb1 : Nat} {k1 : UInt64 × UInt64} {r : (UInt64 × UInt64) × (UInt64 × UInt64)} (S : St m ((bx kb0 [vU k0.1, vU k0.2] 27) :: (bx kb1 [vU k1.1, vU k1.2] 27) :: As) w) (hm : m_merkle_CheckGrow_1 a0 k0 k1 = some r) :
    CallsR Tryd.prog 49 #[.agg #[vU a0.1, vU a0.2], pt kb0 0, pt kb1 0] w fun v w' => ∃ (M : Mem), m ≤ M ∧ St M ((bx kb0 [vU r.1.1, vU r.1.2] 27) :: (bx kb1 [vU r.2.1, vU r.2.2] 27) :: As) w' ∧ v = .tuple #[] := by
  unfold m_merkle_CheckGrow_1 at hm
  have L0 := Mem.rfl' m
  refine callsR (args := [.agg #[vU a0.1, vU a0.2], pt kb0 0, pt kb1 0]) Tryd.func49 rfl Tryd.ntmps49 (Nat.le_of_ble_eq_true rfl) ?_
  refine wpc_seq ?_
  refine wpc_region ?_
  refine s_box S rfl ?_
  intro b1 w1 S1
  replace S1 : St _ ((bx b1 [vU a0.1, vU a0.2] 27) :: (bx kb0 [vU k0.1, vU k0.2] 27) :: (bx kb1 [vU k1.1, vU k1.2] 27) :: As) _ := S1
  clear S
  refine wpl_nil ?_
  refine nrm ?_
  obtain ⟨x1, q1, hm⟩ := obind_some hm
  have HM : MonoAll [(4, fun (M : Mem) (v : Value) => v = .agg #[vU a0.1, vU a0.2]), (5, fun (M : Mem) (v : Value) => v = .agg #[vU k0.1, vU k0.2]), (6, fun (M : Mem) (v : Value) => v = .agg #[vU x1.1, vU x1.2]), (7, fun (M : Mem) (v : Value) => v = .agg #[vU a0.1, vU a0.2]), (8, fun (M : Mem) (v : Value) => v = .agg #[vU k1.1, vU k1.2])] := ⟨(fun _ _ _ _ h => h), (fun _ _ _ _ h => h), (fun _ _ _ _ h => h), (fun _ _ _ _ h => h), (fun _ _ _ _ h => h), trivial⟩
  refine wpc_flowG HM 5 mixed rfl rfl rfl [4, 5, 6, 7, 8] (fun L f M w => St M ((bx b1 [vU a0.1, vU a0.2] 27) :: (bx kb0 [vU k0.1, vU k0.2] 27) :: (bx kb1 [vU k1.1, vU k1.2] 27) :: As) w) (St.drew S1 _) ?_ ?_
  · refine ⟨?_, ?_, ?_, ?_, ?_, trivial⟩
    · intro L f1 w2 hL hd hc ⟨m1, L1, S2, K, hO⟩
      obtain ⟨u1, rfl⟩ := fr_of (N := 10) (L := []) hO trivial
      replace S2 : St _ ((bx b1 [vU a0.1, vU a0.2] 27) :: (bx kb0 [vU k0.1, vU k0.2] 27) :: (bx kb1 [vU k1.1, vU k1.2] 27) :: As) _ := S2
      have L2 := Mem.rfl' m1
      refine s_ld (i := 0) (cs := [vU a0.1, vU a0.2]) S2 rfl rfl Tryd.isAgg27 Tryd.sizeOf27 rfl (fun h => by cases h) ?_
      refine wpn ?_
      refine ⟨m1, Mem.tr L1 L2, ?_, facts_step HM rfl K L2 rfl rfl rfl, outP⟩
      exact S2
    · intro L f2 w3 hL hd hc ⟨m2, L3, S3, K, hO⟩
      obtain ⟨u2, rfl⟩ := fr_of (N := 10) (L := []) hO trivial
      replace S3 : St _ ((bx b1 [vU a0.1, vU a0.2] 27) :: (bx kb0 [vU k0.1, vU k0.2] 27) :: (bx kb1 [vU k1.1, vU k1.2] 27) :: As) _ := S3
      have L4 := Mem.rfl' m2
      refine s_ld (i := 1) (cs := [vU k0.1, vU k0.2]) S3 rfl rfl Tryd.isAgg27 Tryd.sizeOf27 rfl (fun h => by cases h) ?_
      refine wpn ?_
      refine ⟨m2, Mem.tr L3 L4, ?_, facts_step HM rfl K L4 rfl rfl rfl, outP⟩
      exact S3
    · intro L f3 w4 hL hd hc ⟨m3, L5, S4, K, hO⟩
      have d0 : L 0 = true := dep hd rfl
      have e1 := K 0 d0
      have d1 : L 1 = true := dep hd rfl
      have e2 := K 1 d1
      obtain ⟨u3, rfl⟩ := fr_of (N := 10) (L := [(4, .agg #[vU a0.1, vU a0.2]), (5, .agg #[vU k0.1, vU k0.2])]) hO ⟨e1, e2, trivial⟩
      replace S4 : St _ ((bx b1 [vU a0.1, vU a0.2] 27) :: (bx kb0 [vU k0.1, vU k0.2] 27) :: (bx kb1 [vU k1.1, vU k1.2] 27) :: As) _ := S4
      have L6 := Mem.rfl' m3
      refine s_call Tryd.call29 (w_hash_Pair (a0 := a0) (a1 := k0) S4  q1) rfl ?_
      rintro _ w5 ⟨m4, l1, S5, rfl⟩
      replace L6 := Mem.tr L6 l1
      clear S4
      replace S5 : St _ ((bx b1 [vU a0.1, vU a0.2] 27) :: (bx kb0 [vU k0.1, vU k0.2] 27) :: (bx kb1 [vU k1.1, vU k1.2] 27) :: As) _ := S5
      refine wpn ?_
      refine ⟨m4, Mem.tr L5 L6, ?_, facts_step HM rfl K L6 rfl rfl rfl, outP⟩
      exact S5
    · intro L f4 w6 hL hd hc ⟨m5, L7, S6, K, hO⟩
      obtain ⟨u4, rfl⟩ := fr_of (N := 10) (L := []) hO trivial
      replace S6 : St _ ((bx b1 [vU a0.1, vU a0.2] 27) :: (bx kb0 [vU k0.1, vU k0.2] 27) :: (bx kb1 [vU k1.1, vU k1.2] 27) :: As) _ := S6
      have L8 := Mem.rfl' m5
      refine s_ld (i := 0) (cs := [vU a0.1, vU a0.2]) S6 rfl rfl Tryd.isAgg27 Tryd.sizeOf27 rfl (fun h => by cases h) ?_
      refine wpn ?_
      refine ⟨m5, Mem.tr L7 L8, ?_, facts_step HM rfl K L8 rfl rfl rfl, outP⟩
      exact S6
    · intro L f5 w7 hL hd hc ⟨m6, L9, S7, K, hO⟩
      obtain ⟨u5, rfl⟩ := fr_of (N := 10) (L := []) hO trivial
      replace S7 : St _ ((bx b1 [vU a0.1, vU a0.2] 27) :: (bx kb0 [vU k0.1, vU k0.2] 27) :: (bx kb1 [vU k1.1, vU k1.2] 27) :: As) _ := S7
      have L10 := Mem.rfl' m6
      refine s_ld (i := 2) (cs := [vU k1.1, vU k1.2]) S7 rfl rfl Tryd.isAgg27 Tryd.sizeOf27 rfl (fun h => by cases h) ?_
      refine wpn ?_
      refine ⟨m6, Mem.tr L9 L10, ?_, facts_step HM rfl K L10 rfl rfl rfl, outP⟩
      exact S7
  intro L f6 w8 hall ⟨m7, L11, S8, K, hO⟩
  have d2 : L 2 = true := hall 2 (by decide)
  have e3 := K 2 d2
  have d3 : L 3 = true := hall 3 (by decide)
  have e4 := K 3 d3
  have d4 : L 4 = true := hall 4 (by decide)
  have e5 := K 4 d4
  obtain ⟨u6, rfl⟩ := fr_of (N := 10) (L := [(6, .agg #[vU x1.1, vU x1.2]), (7, .agg #[vU a0.1, vU a0.2]), (8, .agg #[vU k1.1, vU k1.2])]) hO ⟨e3, e4, e5, trivial⟩
  replace S8 : St _ ((bx b1 [vU a0.1, vU a0.2] 27) :: (bx kb0 [vU k0.1, vU k0.2] 27) :: (bx kb1 [vU k1.1, vU k1.2] 27) :: As) _ := S8
  replace L0 := Mem.tr L0 L11
  clear S1
  obtain ⟨x2, q2, hm⟩ := obind_some hm
  refine s_call Tryd.call29 (w_hash_Pair (a0 := a0) (a1 := k1) S8  q2) rfl ?_
  rintro _ w9 ⟨m8, l2, S9, rfl⟩
  replace L0 := Mem.tr L0 l2
  clear S8
  replace S9 : St _ ((bx b1 [vU a0.1, vU a0.2] 27) :: (bx kb0 [vU k0.1, vU k0.2] 27) :: (bx kb1 [vU k1.1, vU k1.2] 27) :: As) _ := S9
  refine s_stL (i := 1) S9 rfl rfl rfl Tryd.sizeOf27 (oneC rfl (oneC rfl oneN)) rfl ?_
  intro w10 S10
  replace S10 : St _ ((bx b1 [vU a0.1, vU a0.2] 27) :: (bx kb0 [vU x1.1, vU x1.2] 27) :: (bx kb1 [vU k1.1, vU k1.2] 27) :: As) _ := S10
  clear S9
  refine s_stL (i := 2) S10 rfl rfl rfl Tryd.sizeOf27 (oneC rfl (oneC rfl oneN)) rfl ?_
  intro w11 S11
  replace S11 : St _ ((bx b1 [vU a0.1, vU a0.2] 27) :: (bx kb0 [vU x1.1, vU x1.2] 27) :: (bx kb1 [vU x2.1, vU x2.2] 27) :: As) _ := S11
  clear S10
  refine wpl_nil ?_
  refine outNw ?_
  intro we hpd
  replace S11 := St.pd S11 hpd
  obtain ⟨m9, l3, S12⟩ := St.drop S11 0
  replace L0 := Mem.tr L0 l3
  clear S11
  replace S12 : St _ ((bx kb0 [vU x1.1, vU x1.2] 27) :: (bx kb1 [vU x2.1, vU x2.2] 27) :: As) _ := S12
  have e0 := Option.some.inj hm
  subst e0
  exact outR [] rfl trivial ⟨_, L0, S12, rfl⟩

def m_merkle_CheckGrow_2 (a0 : UInt64 × UInt64) (k0 : UInt64 × UInt64) : Option (UInt64 × UInt64) :=
  obind (m_hash_Pair k0 a0) fun x1 =>
  some x1

theorem w_merkle_CheckGrow_2 {m : Mem} {As : List Ow} {w : World} {a0 : UInt64 × UInt64} {kb0 : Nat} {k0 : UInt64 × UInt64} {r : UInt64 × UInt64} (S : St m ((bx kb0 [vU k0.1, vU k0.2] 27) :: As) w) (hm : m_merkle_CheckGrow_2 a0 k0 = some r) :
    CallsR Tryd.prog 50 #[.agg #[vU a0.1, vU a0.2], pt kb0 0] w fun v w' => ∃ (M : Mem), m ≤ M ∧ St M ((bx kb0 [vU r.1, vU r.2] 27) :: As) w' ∧ v = .tuple #[] := by
  unfold m_merkle_CheckGrow_2 at hm
  have L0 := Mem.rfl' m
  refine callsR (args := [.agg #[vU a0.1, vU a0.2], pt kb0 0]) Tryd.func50 rfl Tryd.ntmps50 (Nat.le_of_ble_eq_true rfl) ?_
  refine wpc_seq ?_
  refine wpc_region ?_
  refine s_box S rfl ?_
  intro b1 w1 S1
  replace S1 : St _ ((bx b1 [vU a0.1, vU a0.2] 27) :: (bx kb0 [vU k0.1, vU k0.2] 27) :: As) _ := S1
  clear S
  refine wpl_nil ?_
  refine nrm ?_
  refine wpc_region ?_
  refine s_ld (i := 1) (cs := [vU k0.1, vU k0.2]) S1 rfl rfl Tryd.isAgg27 Tryd.sizeOf27 rfl (fun h => by cases h) ?_
  refine s_ld (i := 0) (cs := [vU a0.1, vU a0.2]) S1 rfl rfl Tryd.isAgg27 Tryd.sizeOf27 rfl (fun h => by cases h) ?_
  obtain ⟨x1, q1, hm⟩ := obind_some hm
  refine s_call Tryd.call29 (w_hash_Pair (a0 := k0) (a1 := a0) S1  q1) rfl ?_
  rintro _ w2 ⟨m1, l1, S2, rfl⟩
  replace L0 := Mem.tr L0 l1
  clear S1
  replace S2 : St _ ((bx b1 [vU a0.1, vU a0.2] 27) :: (bx kb0 [vU k0.1, vU k0.2] 27) :: As) _ := S2
  refine s_stL (i := 1) S2 rfl rfl rfl Tryd.sizeOf27 (oneC rfl (oneC rfl oneN)) rfl ?_
  intro w3 S3
  replace S3 : St _ ((bx b1 [vU a0.1, vU a0.2] 27) :: (bx kb0 [vU x1.1, vU x1.2] 27) :: As) _ := S3
  clear S2
  refine wpl_nil ?_
  refine outNw ?_
  intro we hpd
  replace S3 := St.pd S3 hpd
  obtain ⟨m2, l2, S4⟩ := St.drop S3 0
  replace L0 := Mem.tr L0 l2
  clear S3
  replace S4 : St _ ((bx kb0 [vU x1.1, vU x1.2] 27) :: As) _ := S4
  have e0 := Option.some.inj hm
  subst e0
  exact outR [] rfl trivial ⟨_, L0, S4, rfl⟩

def m_merkle_CheckGrow (a0 : Int) (a1 : Int) (a2 : UInt64 × UInt64) (a3 : UInt64 × UInt64) (a4 : List (UInt64 × UInt64)) : Option Int :=
  if (((decide (a0 < 0)) || (decide (a0 > a1))) || (decide (a1 > 256))) = true then
    some 1
  else
  if ((a0 == 0) || (a0 == a1)) = true then
    bnd ((decide ((a4.length : Int) > 0))) fun x1 =>
    if x1 = true then
      some 80
    else
    obind (
      obind (gu (a0 == 0) (m_merkle_Root ([] : List (UInt64 × UInt64)))) fun x3 =>
      bnd (((a0 == 0) && (!eqSum a2 x3))) fun x4 =>
      if x4 = true then
        some x4
      else
      bnd (((decide (a0 > 0)) && (!eqSum a2 a3))) fun x5 =>
      some x5
    ) fun x2 =>
    if x2 = true then
      some 71
    else
    some 0
  else
  obind (m_merkle_steps (w64 (a0 - 1)) a1) fun x6 =>
  obind (m_bits_TrailingZeros (toU a0)) fun x7 =>
  bnd ((w64 ((w64 (x6.1 - x7)) + x6.2))) fun x8 =>
  obind (
    if (0 : Int) ≤ x7 then
      if (a0 != (shl64 1 x7.toNat)) = true then
        some (w64 (x8 + 1))
      else
      some x8
    else none
  ) fun x9 =>
  if ((a4.length : Int) != x9) = true then
    some 80
  else
  obind (
    if (0 : Int) ≤ x7 then
      if (a0 != (shl64 1 x7.toNat)) = true then
        obind (idx a4 0) fun x11 =>
        obind (cut a4 1 (a4.length : Int)) fun x12 =>
        some (x12, x11.1, x11.2)
      else
      some (a4, a2.1, a2.2)
    else none
  ) fun x10 =>
  if (0 : Int) ≤ x7 then
    if (0 : Int) ≤ x7 then
      obind (m_merkle_climb (shr64 (w64 (a0 - 1)) x7.toNat) (w64 ((shr64 (w64 (a1 - 1)) x7.toNat) + 1)) x10.1 (fun (s1 : (UInt64 × UInt64) × (UInt64 × UInt64)) (b10 : UInt64 × UInt64) => obind (m_merkle_CheckGrow_1 b10 ((s1).1) ((s1).2)) fun x13 => some (x13.1, x13.2)) (fun (s2 : (UInt64 × UInt64) × (UInt64 × UInt64)) (b11 : UInt64 × UInt64) => obind (m_merkle_CheckGrow_2 b11 ((s2).2)) fun x14 => some (((s2).1), x14)) (x10.2, x10.2)) fun x15 =>
      if ((!eqSum x15.1 a2) || (!eqSum x15.2 a3)) = true then
        some 71
      else
      some 0
    else none
  else none

theorem w_merkle_CheckGrow {m : Mem} {As : List Ow} {w : World} {a0 : Int} {a1 : Int} {a2 : UInt64 × UInt64} {a3 : UInt64 × UInt64} {a4 : List (UInt64 × UInt64)} {a4v0 : Value} {r : Int} (S : St m (As) w) (T1 : PtC m (pt 1 0) (tab_1.map vB)) (a4h0 : SlR m a4v0 a4) (hm : m_merkle_CheckGrow a0 a1 a2 a3 a4 = some r) :
    CallsR Tryd.prog 25 #[vI a0, vI a1, .agg #[vU a2.1, vU a2.2], .agg #[vU a3.1, vU a3.2], a4v0] w fun v w' => ∃ (M : Mem), m ≤ M ∧ St M (As) w' ∧ v = vI r := by
  unfold m_merkle_CheckGrow at hm
  have L0 := Mem.rfl' m
  refine callsR (args := [vI a0, vI a1, .agg #[vU a2.1, vU a2.2], .agg #[vU a3.1, vU a3.2], a4v0]) Tryd.func25 rfl Tryd.ntmps25 (Nat.le_of_ble_eq_true rfl) ?_
  refine wpc_seq ?_
  refine wpc_region ?_
  refine s_box S rfl ?_
  intro b1 w1 S1
  replace S1 : St _ ((bx b1 [vU a2.1, vU a2.2] 27) :: As) _ := S1
  clear S
  refine s_box S1 rfl ?_
  intro b2 w2 S2
  replace S2 : St _ ((bx b2 [vU a3.1, vU a3.2] 27) :: (bx b1 [vU a2.1, vU a2.2] 27) :: As) _ := S2
  clear S1
  refine s_asv (v := vI 0) rfl ?_
  refine wpl_nil ?_
  refine nrm ?_
  refine wpc_seq ?_
  refine wpc_seq ?_
  refine wpc_region ?_
  refine s_mvv (v := vI a0) rfl ?_
  refine s_lss (m := a0) (n := 0) rfl rfl ?_
  refine s_mvv (v := vb (decide (a0 < 0))) rfl ?_
  refine wpl_cut 4 [21, 22, 23, 24] (fun f' w' => w' = w2 ∧ AllAt f' [(24, vb ((decide (a0 < 0)) || (decide (a0 > a1))))]) ?_ ?_
  · rcases bool_tf (decide (a0 < 0)) with hb1 | hb1
    · refine wpl_no (d := 20) rfl rfl (congrArg Value.bool hb1) ?_
      refine wpl_no (d := 20) rfl rfl (congrArg Value.bool hb1) ?_
      refine wpl_no (d := 20) rfl rfl (congrArg Value.bool hb1) ?_
      refine s_pickT (congrArg Value.bool hb1) rfl ?_
      exact wpl_nil (nrm ⟨outP, rfl, congrArg Value.bool (or_t hb1), trivial⟩)
    · refine wpl_yes (d := 20) rfl rfl (congrArg Value.bool hb1) ?_
      refine s_mvv (v := vI a0) rfl ?_
      refine wpl_yes (d := 20) rfl rfl (congrArg Value.bool hb1) ?_
      refine s_mvv (v := vI a1) rfl ?_
      refine wpl_yes (d := 20) rfl rfl (congrArg Value.bool hb1) ?_
      refine s_gtr (m := a0) (n := a1) rfl rfl ?_
      refine s_pickF (congrArg Value.bool hb1) rfl ?_
      exact wpl_nil (nrm ⟨outP, rfl, congrArg Value.bool (or_f hb1), trivial⟩)
  rintro f1 w3 ho ⟨h1, ha⟩
  subst h1
  obtain ⟨u1, rfl⟩ := fr_of (N := 113) ho ha
  refine s_mvv (v := vb ((decide (a0 < 0)) || (decide (a0 > a1)))) rfl ?_
  refine wpl_cut 3 [26, 27, 28] (fun f' w' => w' = w3 ∧ AllAt f' [(28, vb (((decide (a0 < 0)) || (decide (a0 > a1))) || (decide (a1 > 256))))]) ?_ ?_
  · rcases bool_tf ((decide (a0 < 0)) || (decide (a0 > a1))) with hb2 | hb2
    · refine wpl_no (d := 25) rfl rfl (congrArg Value.bool hb2) ?_
      refine wpl_no (d := 25) rfl rfl (congrArg Value.bool hb2) ?_
      refine s_pickT (congrArg Value.bool hb2) rfl ?_
      exact wpl_nil (nrm ⟨outP, rfl, congrArg Value.bool (or_t hb2), trivial⟩)
    · refine wpl_yes (d := 25) rfl rfl (congrArg Value.bool hb2) ?_
      refine s_mvv (v := vI a1) rfl ?_
      refine wpl_yes (d := 25) rfl rfl (congrArg Value.bool hb2) ?_
      refine s_gtr (m := a1) (n := 256) rfl rfl ?_
      refine s_pickF (congrArg Value.bool hb2) rfl ?_
      exact wpl_nil (nrm ⟨outP, rfl, congrArg Value.bool (or_f hb2), trivial⟩)
  rintro f2 w4 ho ⟨h2, ha⟩
  subst h2
  obtain ⟨u2, rfl⟩ := fr_of (N := 113) ho ha
  refine wpl_nil ?_
  refine nrm ?_
  refine wpc_if (t := (((decide (a0 < 0)) || (decide (a0 > a1))) || (decide (a1 > 256)))) rfl (fun hc1 => ?_) (fun hc1 => ?_)
  · replace hm := ifT hc1 hm
    refine wpc_seq ?_
    refine wpc_region ?_
    refine s_asv (v := vI 1) rfl ?_
    refine wpl_nil ?_
    refine nrm ?_
    refine wpc_ret ?_
    refine thR ?_
    refine outRw ?_
    intro we hpd
    replace S2 := St.pd S2 hpd
    obtain ⟨m1, l1, S3⟩ := St.drop S2 0
    replace T1 := T1.up l1
    replace L0 := Mem.tr L0 l1
    clear S2
    replace S3 : St _ ((bx b1 [vU a2.1, vU a2.2] 27) :: As) _ := S3
    obtain ⟨m2, l2, S4⟩ := St.drop S3 0
    replace T1 := T1.up l2
    replace L0 := Mem.tr L0 l2
    clear S3
    replace S4 : St _ (As) _ := S4
    have e0 := Option.some.inj hm
    subst e0
    exact outR [_] rfl ⟨rfl, trivial⟩ ⟨_, L0, S4, rfl⟩
  replace hm := ifF hc1 hm
  refine wpc_skip ?_
  refine nrm ?_
  refine wpc_seq ?_
  refine wpc_seq ?_
  refine wpc_region ?_
  refine s_mvv (v := vI a0) rfl ?_
  refine s_eql (m := a0) (n := 0) rfl rfl ?_
  refine s_mvv (v := vb (a0 == 0)) rfl ?_
  refine wpl_cut 4 [32, 33, 34, 35] (fun f' w' => w' = w4 ∧ AllAt f' [(35, vb ((a0 == 0) || (a0 == a1)))]) ?_ ?_
  · rcases bool_tf (a0 == 0) with hb3 | hb3
    · refine wpl_no (d := 31) rfl rfl (congrArg Value.bool hb3) ?_
      refine wpl_no (d := 31) rfl rfl (congrArg Value.bool hb3) ?_
      refine wpl_no (d := 31) rfl rfl (congrArg Value.bool hb3) ?_
      refine s_pickT (congrArg Value.bool hb3) rfl ?_
      exact wpl_nil (nrm ⟨outP, rfl, congrArg Value.bool (or_t hb3), trivial⟩)
    · refine wpl_yes (d := 31) rfl rfl (congrArg Value.bool hb3) ?_
      refine s_mvv (v := vI a0) rfl ?_
      refine wpl_yes (d := 31) rfl rfl (congrArg Value.bool hb3) ?_
      refine s_mvv (v := vI a1) rfl ?_
      refine wpl_yes (d := 31) rfl rfl (congrArg Value.bool hb3) ?_
      refine s_eql (m := a0) (n := a1) rfl rfl ?_
      refine s_pickF (congrArg Value.bool hb3) rfl ?_
      exact wpl_nil (nrm ⟨outP, rfl, congrArg Value.bool (or_f hb3), trivial⟩)
  rintro f3 w5 ho ⟨h3, ha⟩
  subst h3
  obtain ⟨u3, rfl⟩ := fr_of (N := 113) ho ha
  refine wpl_nil ?_
  refine nrm ?_
  refine wpc_if (t := ((a0 == 0) || (a0 == a1))) rfl (fun hc2 => ?_) (fun hc2 => ?_)
  · replace hm := ifT hc2 hm
    refine wpc_seq ?_
    refine wpc_block ?_
    refine wpc_seq ?_
    refine wpc_region ?_
    refine s_mvv (v := a4v0) rfl ?_
    refine s_lenR (xs := a4) rfl a4h0 Tryd.underlying22 ?_
    refine s_gtr (m := (a4.length : Int)) (n := 0) rfl rfl ?_
    obtain ⟨x1, q1, hm⟩ := bnd_eq hm
    refine s_asv (v := vb x1) (congrArg (fun z => vb z) q1.symm) ?_
    refine wpl_nil ?_
    refine nrm ?_
    refine wpc_if (t := x1) rfl (fun hc3 => ?_) (fun hc3 => ?_)
    · replace hm := ifT hc3 hm
      refine wpc_seq ?_
      refine wpc_region ?_
      refine s_asv (v := vI 80) rfl ?_
      refine wpl_nil ?_
      refine nrm ?_
      refine wpc_ret ?_
      refine blR ?_
      refine thR ?_
      refine thR ?_
      refine outRw ?_
      intro we hpd
      replace S2 := St.pd S2 hpd
      obtain ⟨m3, l3, S5⟩ := St.drop S2 0
      replace T1 := T1.up l3
      replace L0 := Mem.tr L0 l3
      clear S2
      replace S5 : St _ ((bx b1 [vU a2.1, vU a2.2] 27) :: As) _ := S5
      obtain ⟨m4, l4, S6⟩ := St.drop S5 0
      replace T1 := T1.up l4
      replace L0 := Mem.tr L0 l4
      clear S5
      replace S6 : St _ (As) _ := S6
      have e0 := Option.some.inj hm
      subst e0
      exact outR [_] rfl ⟨rfl, trivial⟩ ⟨_, L0, S6, rfl⟩
    replace hm := ifF hc3 hm
    obtain ⟨x2, q2, hm⟩ := obind_some hm
    have L1 := Mem.rfl' m
    refine wpc_seq ?_
    refine wpc_join [40, 41, 42, 43, 44, 45, 46, 47, 48, 49, 50, 51, 52, 53, 54] (fun f' w' => ∃ (M1 : Mem), m ≤ M1 ∧ St M1 ((bx b2 [vU a3.1, vU a3.2] 27) :: (bx b1 [vU a2.1, vU a2.2] 27) :: As) w' ∧ AllAt f' [(40, vb x2)]) ?_ ?_
    · refine wpc_seq ?_
      obtain ⟨x3, q3, q2⟩ := obind_some q2
      have HM : MonoAll [(41, fun (M : Mem) (v : Value) => v = vI a0), (42, fun (M : Mem) (v : Value) => v = vb (a0 == 0)), (43, fun (M : Mem) (v : Value) => v = vb (a0 == 0)), (44, fun (M : Mem) (v : Value) => ((a0 == 0) = true → v = .agg #[vU a2.1, vU a2.2]) ∧ ((a0 == 0) = false → v = undef)), (45, fun (M : Mem) (v : Value) => ((a0 == 0) = true → v = .agg #[vU x3.1, vU x3.2]) ∧ ((a0 == 0) = false → v = undef)), (46, fun (M : Mem) (v : Value) => ((a0 == 0) = true → v = vb (!eqSum a2 x3)) ∧ ((a0 == 0) = false → v = undef)), (47, fun (M : Mem) (v : Value) => v = vb ((a0 == 0) && (!eqSum a2 x3)))] := ⟨(fun _ _ _ _ h => h), (fun _ _ _ _ h => h), (fun _ _ _ _ h => h), (fun _ _ _ _ h => h), (fun _ _ _ _ h => h), (fun _ _ _ _ h => h), (fun _ _ _ _ h => h), trivial⟩
      refine wpc_flowG HM 7 mixed rfl rfl rfl [41, 42, 43, 44, 45, 46, 47] (fun L f M w => St M ((bx b2 [vU a3.1, vU a3.2] 27) :: (bx b1 [vU a2.1, vU a2.2] 27) :: As) w) (St.drew S2 _) ?_ ?_
      · refine ⟨?_, ?_, ?_, ?_, ?_, ?_, ?_, trivial⟩
        · intro L f4 w6 hL hd hc ⟨m5, L2, S7, K, hO⟩
          obtain ⟨u4, rfl⟩ := fr_of (N := 113) (L := []) hO trivial
          replace S7 : St _ ((bx b2 [vU a3.1, vU a3.2] 27) :: (bx b1 [vU a2.1, vU a2.2] 27) :: As) _ := S7
          have L3 := Mem.rfl' m5
          refine s_mvv (v := vI a0) rfl ?_
          refine wpn ?_
          refine ⟨m5, Mem.tr L2 L3, ?_, facts_step HM rfl K L3 rfl rfl rfl, outP⟩
          exact S7
        · intro L f5 w7 hL hd hc ⟨m6, L4, S8, K, hO⟩
          have d0 : L 0 = true := dep hd rfl
          have e1 := K 0 d0
          obtain ⟨u5, rfl⟩ := fr_of (N := 113) (L := [(41, vI a0)]) hO ⟨e1, trivial⟩
          replace S8 : St _ ((bx b2 [vU a3.1, vU a3.2] 27) :: (bx b1 [vU a2.1, vU a2.2] 27) :: As) _ := S8
          have L5 := Mem.rfl' m6
          refine s_eql (m := a0) (n := 0) rfl rfl ?_
          refine wpn ?_
          refine ⟨m6, Mem.tr L4 L5, ?_, facts_step HM rfl K L5 rfl rfl rfl, outP⟩
          exact S8
        · intro L f6 w8 hL hd hc ⟨m7, L6, S9, K, hO⟩
          have d1 : L 1 = true := dep hd rfl
          have e2 := K 1 d1
          obtain ⟨u6, rfl⟩ := fr_of (N := 113) (L := [(42, vb (a0 == 0))]) hO ⟨e2, trivial⟩
          replace S9 : St _ ((bx b2 [vU a3.1, vU a3.2] 27) :: (bx b1 [vU a2.1, vU a2.2] 27) :: As) _ := S9
          have L7 := Mem.rfl' m7
          refine s_mvv (v := vb (a0 == 0)) rfl ?_
          refine wpn ?_
          refine ⟨m7, Mem.tr L6 L7, ?_, facts_step HM rfl K L7 rfl rfl rfl, outP⟩
          exact S9
        · intro L f7 w9 hL hd hc ⟨m8, L8, S10, K, hO⟩
          rcases bool_tf (a0 == 0) with hb4 | hb4
          · have d2 : L 2 = true := dep hd rfl
            have e3 := K 2 d2
            obtain ⟨u7, rfl⟩ := fr_of (N := 113) (L := [(43, vb (a0 == 0))]) hO ⟨e3, trivial⟩
            replace S10 : St _ ((bx b2 [vU a3.1, vU a3.2] 27) :: (bx b1 [vU a2.1, vU a2.2] 27) :: As) _ := S10
            replace T1 := T1.up L8
            have L9 := Mem.rfl' m8
            refine wpl_yes (d := 43) rfl rfl (congrArg Value.bool hb4) ?_
            refine s_ld (i := 1) (cs := [vU a2.1, vU a2.2]) S10 rfl rfl Tryd.isAgg27 Tryd.sizeOf27 rfl (fun h => by cases h) ?_
            refine wpn ?_
            refine ⟨m8, Mem.tr L8 L9, ?_, facts_step HM rfl K L9 rfl rfl ⟨fun _ => rfl, fun hx => tf hb4 hx⟩, outP⟩
            exact S10
          have d2 : L 2 = true := dep hd rfl
          have e4 := K 2 d2
          obtain ⟨u8, rfl⟩ := fr_of (N := 113) (L := [(43, vb (a0 == 0))]) hO ⟨e4, trivial⟩
          replace S10 : St _ ((bx b2 [vU a3.1, vU a3.2] 27) :: (bx b1 [vU a2.1, vU a2.2] 27) :: As) _ := S10
          have L10 := Mem.rfl' m8
          refine wpl_no (d := 43) rfl rfl (congrArg Value.bool hb4) ?_
          refine wpn ?_
          refine ⟨m8, Mem.tr L8 L10, ?_, facts_step HM rfl K L10 rfl rfl ⟨fun hx => tf hx hb4, fun _ => rfl⟩, outP⟩
          exact S10
        · intro L f8 w10 hL hd hc ⟨m9, L11, S11, K, hO⟩
          rcases bool_tf (a0 == 0) with hb5 | hb5
          · have d2 : L 2 = true := dep hd rfl
            have e5 := K 2 d2
            obtain ⟨u9, rfl⟩ := fr_of (N := 113) (L := [(43, vb (a0 == 0))]) hO ⟨e5, trivial⟩
            replace S11 : St _ ((bx b2 [vU a3.1, vU a3.2] 27) :: (bx b1 [vU a2.1, vU a2.2] 27) :: As) _ := S11
            replace T1 := T1.up L11
            have L12 := Mem.rfl' m9
            refine wpl_yes (d := 43) rfl rfl (congrArg Value.bool hb5) ?_
            replace q3 := gu_t hb5 q3
            refine s_call Tryd.call13 (w_merkle_Root (a0 := ([] : List (UInt64 × UInt64))) S11 (SlR.nil (a := none) (c := 0)) q3) rfl ?_
            rintro _ w11 ⟨m10, l5, S12, rfl⟩
            replace T1 := T1.up l5
            replace L12 := Mem.tr L12 l5
            clear S11
            replace S12 : St _ ((bx b2 [vU a3.1, vU a3.2] 27) :: (bx b1 [vU a2.1, vU a2.2] 27) :: As) _ := S12
            refine wpn ?_
            refine ⟨m10, Mem.tr L11 L12, ?_, facts_step HM rfl K L12 rfl rfl ⟨fun _ => rfl, fun hx => tf hb5 hx⟩, outP⟩
            exact S12
          have d2 : L 2 = true := dep hd rfl
          have e6 := K 2 d2
          obtain ⟨u10, rfl⟩ := fr_of (N := 113) (L := [(43, vb (a0 == 0))]) hO ⟨e6, trivial⟩
          replace S11 : St _ ((bx b2 [vU a3.1, vU a3.2] 27) :: (bx b1 [vU a2.1, vU a2.2] 27) :: As) _ := S11
          have L13 := Mem.rfl' m9
          refine wpl_no (d := 43) rfl rfl (congrArg Value.bool hb5) ?_
          refine wpn ?_
          refine ⟨m9, Mem.tr L11 L13, ?_, facts_step HM rfl K L13 rfl rfl ⟨fun hx => tf hx hb5, fun _ => rfl⟩, outP⟩
          exact S11
        · intro L f9 w12 hL hd hc ⟨m11, L14, S13, K, hO⟩
          rcases bool_tf (a0 == 0) with hb6 | hb6
          · have d2 : L 2 = true := dep hd rfl
            have e7 := K 2 d2
            have d3 : L 3 = true := dep hd rfl
            have e8 := (K 3 d3).1 hb6
            have d4 : L 4 = true := dep hd rfl
            have e9 := (K 4 d4).1 hb6
            obtain ⟨u11, rfl⟩ := fr_of (N := 113) (L := [(43, vb (a0 == 0)), (44, .agg #[vU a2.1, vU a2.2]), (45, .agg #[vU x3.1, vU x3.2])]) hO ⟨e7, e8, e9, trivial⟩
            replace S13 : St _ ((bx b2 [vU a3.1, vU a3.2] 27) :: (bx b1 [vU a2.1, vU a2.2] 27) :: As) _ := S13
            replace T1 := T1.up L14
            have L15 := Mem.rfl' m11
            refine wpl_yes (d := 43) rfl rfl (congrArg Value.bool hb6) ?_
            refine s_neqSum (p := a2) (q := x3) rfl rfl Tryd.underlying27 Tryd.underlying25 Tryd.sizeOf25 Tryd.isAgg25 Tryd.eqGuardType27 ?_
            refine wpn ?_
            refine ⟨m11, Mem.tr L14 L15, ?_, facts_step HM rfl K L15 rfl rfl ⟨fun _ => rfl, fun hx => tf hb6 hx⟩, outP⟩
            exact S13
          have d2 : L 2 = true := dep hd rfl
          have e10 := K 2 d2
          obtain ⟨u12, rfl⟩ := fr_of (N := 113) (L := [(43, vb (a0 == 0))]) hO ⟨e10, trivial⟩
          replace S13 : St _ ((bx b2 [vU a3.1, vU a3.2] 27) :: (bx b1 [vU a2.1, vU a2.2] 27) :: As) _ := S13
          have L16 := Mem.rfl' m11
          refine wpl_no (d := 43) rfl rfl (congrArg Value.bool hb6) ?_
          refine wpn ?_
          refine ⟨m11, Mem.tr L14 L16, ?_, facts_step HM rfl K L16 rfl rfl ⟨fun hx => tf hx hb6, fun _ => rfl⟩, outP⟩
          exact S13
        · intro L f10 w13 hL hd hc ⟨m12, L17, S14, K, hO⟩
          rcases bool_tf (a0 == 0) with hb7 | hb7
          · have d2 : L 2 = true := dep hd rfl
            have e11 := K 2 d2
            have d5 : L 5 = true := dep hd rfl
            have e12 := (K 5 d5).1 hb7
            obtain ⟨u13, rfl⟩ := fr_of (N := 113) (L := [(43, vb (a0 == 0)), (46, vb (!eqSum a2 x3))]) hO ⟨e11, e12, trivial⟩
            replace S14 : St _ ((bx b2 [vU a3.1, vU a3.2] 27) :: (bx b1 [vU a2.1, vU a2.2] 27) :: As) _ := S14
            have L18 := Mem.rfl' m12
            refine s_pickT (congrArg Value.bool hb7) rfl ?_
            refine wpn ?_
            refine ⟨m12, Mem.tr L17 L18, ?_, facts_step HM rfl K L18 rfl rfl (congrArg Value.bool (and_t hb7)), outP⟩
            exact S14
          · have d2 : L 2 = true := dep hd rfl
            have e13 := K 2 d2
            obtain ⟨u14, rfl⟩ := fr_of (N := 113) (L := [(43, vb (a0 == 0))]) hO ⟨e13, trivial⟩
            replace S14 : St _ ((bx b2 [vU a3.1, vU a3.2] 27) :: (bx b1 [vU a2.1, vU a2.2] 27) :: As) _ := S14
            have L19 := Mem.rfl' m12
            refine s_pickF (congrArg Value.bool hb7) rfl ?_
            refine wpn ?_
            refine ⟨m12, Mem.tr L17 L19, ?_, facts_step HM rfl K L19 rfl rfl (congrArg Value.bool (and_f hb7)), outP⟩
            exact S14
      intro L f11 w14 hall ⟨m13, L20, S15, K, hO⟩
      have d6 : L 6 = true := hall 6 (by decide)
      have e14 := K 6 d6
      obtain ⟨u15, rfl⟩ := fr_of (N := 113) (L := [(47, vb ((a0 == 0) && (!eqSum a2 x3)))]) hO ⟨e14, trivial⟩
      replace S15 : St _ ((bx b2 [vU a3.1, vU a3.2] 27) :: (bx b1 [vU a2.1, vU a2.2] 27) :: As) _ := S15
      replace T1 := T1.up L20
      replace L1 := Mem.tr L1 L20
      clear S2
      obtain ⟨x4, q4, q2⟩ := bnd_eq q2
      refine s_asv (v := vb x4) (congrArg (fun z => vb z) q4.symm) ?_
      refine wpl_nil ?_
      refine nrm ?_
      refine wpc_if (t := x4) rfl (fun hc4 => ?_) (fun hc4 => ?_)
      · replace q2 := ifT hc4 q2
        refine wpc_skip ?_
        refine nrm ?_
        have e0 := Option.some.inj q2
        subst e0
        exact ⟨outP, m13, L1, S15, ⟨rfl, trivial⟩⟩
      replace q2 := ifF hc4 q2
      refine wpc_region ?_
      refine s_mvv (v := vI a0) rfl ?_
      refine s_gtr (m := a0) (n := 0) rfl rfl ?_
      refine s_mvv (v := vb (decide (a0 > 0))) rfl ?_
      refine wpl_cut 4 [51, 52, 53, 54] (fun f' w' => w' = w14 ∧ AllAt f' [(54, vb ((decide (a0 > 0)) && (!eqSum a2 a3)))]) ?_ ?_
      · rcases bool_tf (decide (a0 > 0)) with hb8 | hb8
        · refine wpl_yes (d := 50) rfl rfl (congrArg Value.bool hb8) ?_
          refine s_ld (i := 1) (cs := [vU a2.1, vU a2.2]) S15 rfl rfl Tryd.isAgg27 Tryd.sizeOf27 rfl (fun h => by cases h) ?_
          refine wpl_yes (d := 50) rfl rfl (congrArg Value.bool hb8) ?_
          refine s_ld (i := 0) (cs := [vU a3.1, vU a3.2]) S15 rfl rfl Tryd.isAgg27 Tryd.sizeOf27 rfl (fun h => by cases h) ?_
          refine wpl_yes (d := 50) rfl rfl (congrArg Value.bool hb8) ?_
          refine s_neqSum (p := a2) (q := a3) rfl rfl Tryd.underlying27 Tryd.underlying25 Tryd.sizeOf25 Tryd.isAgg25 Tryd.eqGuardType27 ?_
          refine s_pickT (congrArg Value.bool hb8) rfl ?_
          exact wpl_nil (nrm ⟨outP, rfl, congrArg Value.bool (and_t hb8), trivial⟩)
        · refine wpl_no (d := 50) rfl rfl (congrArg Value.bool hb8) ?_
          refine wpl_no (d := 50) rfl rfl (congrArg Value.bool hb8) ?_
          refine wpl_no (d := 50) rfl rfl (congrArg Value.bool hb8) ?_
          refine s_pickF (congrArg Value.bool hb8) rfl ?_
          exact wpl_nil (nrm ⟨outP, rfl, congrArg Value.bool (and_f hb8), trivial⟩)
      rintro f12 w15 ho ⟨h4, ha⟩
      subst h4
      obtain ⟨u16, rfl⟩ := fr_of (N := 113) ho ha
      obtain ⟨x5, q5, q2⟩ := bnd_eq q2
      refine s_asv (v := vb x5) (congrArg (fun z => vb z) q5.symm) ?_
      refine wpl_nil ?_
      refine nrm ?_
      have e0 := Option.some.inj q2
      subst e0
      exact ⟨outP, m13, L1, S15, ⟨rfl, trivial⟩⟩
    rintro f13 w16 ho ⟨m14, l6, S16, ha⟩
    obtain ⟨u17, rfl⟩ := fr_of (N := 113) ho ha
    replace T1 := T1.up l6
    replace L0 := Mem.tr L0 l6
    clear S2
    refine wpc_if (t := x2) rfl (fun hc5 => ?_) (fun hc5 => ?_)
    · replace hm := ifT hc5 hm
      refine wpc_seq ?_
      refine wpc_region ?_
      refine s_asv (v := vI 71) rfl ?_
      refine wpl_nil ?_
      refine nrm ?_
      refine wpc_ret ?_
      refine blR ?_
      refine thR ?_
      refine thR ?_
      refine outRw ?_
      intro we hpd
      replace S16 := St.pd S16 hpd
      obtain ⟨m15, l7, S17⟩ := St.drop S16 0
      replace T1 := T1.up l7
      replace L0 := Mem.tr L0 l7
      clear S16
      replace S17 : St _ ((bx b1 [vU a2.1, vU a2.2] 27) :: As) _ := S17
      obtain ⟨m16, l8, S18⟩ := St.drop S17 0
      replace T1 := T1.up l8
      replace L0 := Mem.tr L0 l8
      clear S17
      replace S18 : St _ (As) _ := S18
      have e0 := Option.some.inj hm
      subst e0
      exact outR [_] rfl ⟨rfl, trivial⟩ ⟨_, L0, S18, rfl⟩
    replace hm := ifF hc5 hm
    refine wpc_skip ?_
    refine nrmB ?_
    refine nrm ?_
    refine wpc_seq ?_
    refine wpc_region ?_
    refine s_asv (v := vI 0) rfl ?_
    refine wpl_nil ?_
    refine nrm ?_
    refine wpc_ret ?_
    refine thR ?_
    refine outRw ?_
    intro we hpd
    replace S16 := St.pd S16 hpd
    obtain ⟨m17, l9, S19⟩ := St.drop S16 0
    replace T1 := T1.up l9
    replace L0 := Mem.tr L0 l9
    clear S16
    replace S19 : St _ ((bx b1 [vU a2.1, vU a2.2] 27) :: As) _ := S19
    obtain ⟨m18, l10, S20⟩ := St.drop S19 0
    replace T1 := T1.up l10
    replace L0 := Mem.tr L0 l10
    clear S19
    replace S20 : St _ (As) _ := S20
    have e0 := Option.some.inj hm
    subst e0
    exact outR [_] rfl ⟨rfl, trivial⟩ ⟨_, L0, S20, rfl⟩
  replace hm := ifF hc2 hm
  refine wpc_skip ?_
  refine nrm ?_
  refine wpc_seq ?_
  refine wpc_region ?_
  refine s_mvv (v := vI a0) rfl ?_
  refine s_subI (m := a0) (n := 1) rfl rfl ?_
  refine s_mvv (v := vI a1) rfl ?_
  obtain ⟨x6, q6, hm⟩ := obind_some hm
  refine s_call Tryd.call40 (w_merkle_steps (a0 := (w64 (a0 - 1))) (a1 := a1) S2  q6) rfl ?_
  rintro _ w17 ⟨m19, l11, S21, rfl⟩
  replace a4h0 := a4h0.up l11
  replace T1 := T1.up l11
  replace L0 := Mem.tr L0 l11
  clear S2
  replace S21 : St _ ((bx b2 [vU a3.1, vU a3.2] 27) :: (bx b1 [vU a2.1, vU a2.2] 27) :: As) _ := S21
  refine s_mvv (v := .tuple #[vI x6.1, vI x6.2]) rfl ?_
  refine s_ext (i := 0) rfl rfl ?_
  refine s_ext (i := 1) rfl rfl ?_
  refine s_asv (v := vI x6.1) rfl ?_
  refine s_asv (v := vI x6.2) rfl ?_
  refine wpl_nil ?_
  refine nrm ?_
  refine wpc_seq ?_
  refine wpc_region ?_
  refine s_mvv (v := vI a0) rfl ?_
  refine s_convU rfl Tryd.underlying3 Tryd.underlying45 ?_
  obtain ⟨x7, q7, hm⟩ := obind_some hm
  refine s_call Tryd.call48 (w_bits_TrailingZeros (a0 := (toU a0)) S21 T1 q7) rfl ?_
  rintro _ w18 ⟨m20, l12, S22, rfl⟩
  replace a4h0 := a4h0.up l12
  replace T1 := T1.up l12
  replace L0 := Mem.tr L0 l12
  clear S21
  replace S22 : St _ ((bx b2 [vU a3.1, vU a3.2] 27) :: (bx b1 [vU a2.1, vU a2.2] 27) :: As) _ := S22
  refine s_asv (v := vI x7) rfl ?_
  refine wpl_nil ?_
  refine nrm ?_
  refine wpc_seq ?_
  refine wpc_region ?_
  refine s_mvv (v := vI x6.1) rfl ?_
  refine s_mvv (v := vI x7) rfl ?_
  refine s_subI (m := x6.1) (n := x7) rfl rfl ?_
  refine s_mvv (v := vI x6.2) rfl ?_
  refine s_addI (m := (w64 (x6.1 - x7))) (n := x6.2) rfl rfl ?_
  obtain ⟨x8, q8, hm⟩ := bnd_eq hm
  refine s_asv (v := vI x8) (congrArg (fun z => vI z) q8.symm) ?_
  refine wpl_nil ?_
  refine nrm ?_
  refine wpc_seq ?_
  refine wpc_region ?_
  refine s_ld (i := 1) (cs := [vU a2.1, vU a2.2]) S22 rfl rfl Tryd.isAgg27 Tryd.sizeOf27 rfl (fun h => by cases h) ?_
  refine s_alloc S22 Tryd.zeroValue27 ?_
  intro b3 w19 S23
  replace S23 : St _ ((bx b3 [vU 0, vU 0] 27) :: (bx b2 [vU a3.1, vU a3.2] 27) :: (bx b1 [vU a2.1, vU a2.2] 27) :: As) _ := S23
  clear S22
  refine s_stL (i := 0) S23 rfl rfl rfl Tryd.sizeOf27 (oneC rfl (oneC rfl oneN)) rfl ?_
  intro w20 S24
  replace S24 : St _ ((bx b3 [vU a2.1, vU a2.2] 27) :: (bx b2 [vU a3.1, vU a3.2] 27) :: (bx b1 [vU a2.1, vU a2.2] 27) :: As) _ := S24
  clear S23
  refine wpl_nil ?_
  refine nrm ?_
  obtain ⟨x9, q9, hm⟩ := obind_some hm
  have L21 := Mem.rfl' m20
  refine wpc_seq ?_
  refine wpc_join [14, 71, 72, 73, 74, 75, 76] (fun f' w' => ∃ (M2 : Mem), m20 ≤ M2 ∧ St M2 ((bx b3 [vU a2.1, vU a2.2] 27) :: (bx b2 [vU a3.1, vU a3.2] 27) :: (bx b1 [vU a2.1, vU a2.2] 27) :: As) w' ∧ AllAt f' [(14, vI x9)]) ?_ ?_
  · refine wpc_seq ?_
    refine wpc_region ?_
    refine s_mvv (v := vI a0) rfl ?_
    refine s_mvv (v := vI x7) rfl ?_
    obtain ⟨q10, q9⟩ := if_some q9
    refine s_shlI (m := 1) (n := x7) rfl rfl q10 ?_
    refine s_neq (m := a0) (n := (shl64 1 x7.toNat)) rfl rfl ?_
    refine wpl_nil ?_
    refine nrm ?_
    refine wpc_if (t := (a0 != (shl64 1 x7.toNat))) rfl (fun hc6 => ?_) (fun hc6 => ?_)
    · replace q9 := ifT hc6 q9
      refine wpc_region ?_
      refine s_mvv (v := vI x8) rfl ?_
      refine s_addI (m := x8) (n := 1) rfl rfl ?_
      refine s_asv (v := vI (w64 (x8 + 1))) rfl ?_
      refine wpl_nil ?_
      refine nrm ?_
      have e0 := Option.some.inj q9
      subst e0
      exact ⟨outP, m20, L21, S24, ⟨rfl, trivial⟩⟩
    replace q9 := ifF hc6 q9
    refine wpc_skip ?_
    refine nrm ?_
    have e0 := Option.some.inj q9
    subst e0
    exact ⟨outP, m20, L21, S24, ⟨rfl, trivial⟩⟩
  rintro f14 w21 ho ⟨m21, l13, S25, ha⟩
  obtain ⟨u18, rfl⟩ := fr_of (N := 113) ho ha
  replace a4h0 := a4h0.up l13
  replace T1 := T1.up l13
  replace L0 := Mem.tr L0 l13
  clear S24
  refine wpc_seq ?_
  refine wpc_seq ?_
  refine wpc_region ?_
  refine s_mvv (v := a4v0) rfl ?_
  refine s_lenR (xs := a4) rfl a4h0 Tryd.underlying22 ?_
  refine s_mvv (v := vI x9) rfl ?_
  refine s_neq (m := (a4.length : Int)) (n := x9) rfl rfl ?_
  refine wpl_nil ?_
  refine nrm ?_
  refine wpc_if (t := ((a4.length : Int) != x9)) rfl (fun hc7 => ?_) (fun hc7 => ?_)
  · replace hm := ifT hc7 hm
    refine wpc_seq ?_
    refine wpc_region ?_
    refine s_asv (v := vI 80) rfl ?_
    refine wpl_nil ?_
    refine nrm ?_
    refine wpc_ret ?_
    refine thR ?_
    refine outRw ?_
    intro we hpd
    replace S25 := St.pd S25 hpd
    obtain ⟨m22, l14, S26⟩ := St.drop S25 0
    replace T1 := T1.up l14
    replace L0 := Mem.tr L0 l14
    clear S25
    replace S26 : St _ ((bx b2 [vU a3.1, vU a3.2] 27) :: (bx b1 [vU a2.1, vU a2.2] 27) :: As) _ := S26
    obtain ⟨m23, l15, S27⟩ := St.drop S26 0
    replace T1 := T1.up l15
    replace L0 := Mem.tr L0 l15
    clear S26
    replace S27 : St _ ((bx b1 [vU a2.1, vU a2.2] 27) :: As) _ := S27
    obtain ⟨m24, l16, S28⟩ := St.drop S27 0
    replace T1 := T1.up l16
    replace L0 := Mem.tr L0 l16
    clear S27
    replace S28 : St _ (As) _ := S28
    have e0 := Option.some.inj hm
    subst e0
    exact outR [_] rfl ⟨rfl, trivial⟩ ⟨_, L0, S28, rfl⟩
  replace hm := ifF hc7 hm
  refine wpc_skip ?_
  refine nrm ?_
  obtain ⟨x10, q11, hm⟩ := obind_some hm
  have L22 := Mem.rfl' m21
  refine wpc_seq ?_
  refine wpc_join [4, 81, 82, 83, 84, 85, 86, 87, 88, 89] (fun f' w' => ∃ (M3 : Mem) (v1 : Value), m21 ≤ M3 ∧ St M3 ((bx b3 [vU x10.2.1, vU x10.2.2] 27) :: (bx b2 [vU a3.1, vU a3.2] 27) :: (bx b1 [vU a2.1, vU a2.2] 27) :: As) w' ∧ SlR M3 v1 x10.1 ∧ AllAt f' [(4, v1)]) ?_ ?_
  · refine wpc_seq ?_
    refine wpc_region ?_
    refine s_mvv (v := vI a0) rfl ?_
    refine s_mvv (v := vI x7) rfl ?_
    obtain ⟨q12, q11⟩ := if_some q11
    refine s_shlI (m := 1) (n := x7) rfl rfl q12 ?_
    refine s_neq (m := a0) (n := (shl64 1 x7.toNat)) rfl rfl ?_
    refine wpl_nil ?_
    refine nrm ?_
    refine wpc_if (t := (a0 != (shl64 1 x7.toNat))) rfl (fun hc8 => ?_) (fun hc8 => ?_)
    · replace q11 := ifT hc8 q11
      obtain ⟨x11, q13, q11⟩ := obind_some q11
      obtain ⟨x12, q14, q11⟩ := obind_some q11
      have HM : MonoAll [(85, fun (M : Mem) (v : Value) => v = a4v0), (86, fun (M : Mem) (v : Value) => ∃ (p1 : Value), v = p1 ∧ PtC M p1 [vU x11.1, vU x11.2]), (87, fun (M : Mem) (v : Value) => v = .agg #[vU x11.1, vU x11.2]), (88, fun (M : Mem) (v : Value) => v = a4v0), (89, fun (M : Mem) (v : Value) => ∃ (v3 : Value), v = v3 ∧ SlR M v3 x12), (100005, fun _ _ => True)] := ⟨(fun _ _ _ _ h => h), (fun _ _ _ l ⟨p1, e, h6⟩ => ⟨p1, e, h6.up l⟩), (fun _ _ _ _ h => h), (fun _ _ _ _ h => h), (fun _ _ _ l ⟨v3, e, h8⟩ => ⟨v3, e, h8.up l⟩), (fun _ _ _ _ h => h), trivial⟩
      refine wpc_flowG HM 6 mixed rfl rfl rfl [85, 86, 87, 88, 89] (fun L f M w => St M ((bx b3 (bif L 5 then [vU x11.1, vU x11.2] else [vU a2.1, vU a2.2]) 27) :: (bx b2 [vU a3.1, vU a3.2] 27) :: (bx b1 [vU a2.1, vU a2.2] 27) :: As) w) (St.drew S25 _) ?_ ?_
      · refine ⟨?_, ?_, ?_, ?_, ?_, ?_, trivial⟩
        · intro L f15 w22 hL hd hc ⟨m25, L23, S29, K, hO⟩
          have d5 : L 5 = false := undep hc hL rfl
          replace S29 : St _ ((bx b3 (bif L 5 then [vU x11.1, vU x11.2] else [vU a2.1, vU a2.2]) 27) :: (bx b2 [vU a3.1, vU a3.2] 27) :: (bx b1 [vU a2.1, vU a2.2] 27) :: As) _ := S29
          rw [d5] at S29
          obtain ⟨u19, rfl⟩ := fr_of (N := 113) (L := []) hO trivial
          replace S29 : St _ ((bx b3 [vU a2.1, vU a2.2] 27) :: (bx b2 [vU a3.1, vU a3.2] 27) :: (bx b1 [vU a2.1, vU a2.2] 27) :: As) _ := S29
          have L24 := Mem.rfl' m25
          refine s_mvv (v := a4v0) rfl ?_
          refine wpn ?_
          refine ⟨m25, Mem.tr L23 L24, ?_, facts_step HM rfl K L24 rfl rfl rfl, outP⟩
          show St _ ((bx b3 (bif L 5 then [vU x11.1, vU x11.2] else [vU a2.1, vU a2.2]) 27) :: (bx b2 [vU a3.1, vU a3.2] 27) :: (bx b1 [vU a2.1, vU a2.2] 27) :: As) _
          rw [d5]
          exact S29
        · intro L f16 w23 hL hd hc ⟨m26, L25, S30, K, hO⟩
          have d5 : L 5 = false := undep hc hL rfl
          have d0 : L 0 = true := dep hd rfl
          have e15 := K 0 d0
          replace S30 : St _ ((bx b3 (bif L 5 then [vU x11.1, vU x11.2] else [vU a2.1, vU a2.2]) 27) :: (bx b2 [vU a3.1, vU a3.2] 27) :: (bx b1 [vU a2.1, vU a2.2] 27) :: As) _ := S30
          rw [d5] at S30
          obtain ⟨u20, rfl⟩ := fr_of (N := 113) (L := [(85, a4v0)]) hO ⟨e15, trivial⟩
          replace S30 : St _ ((bx b3 [vU a2.1, vU a2.2] 27) :: (bx b2 [vU a3.1, vU a3.2] 27) :: (bx b1 [vU a2.1, vU a2.2] 27) :: As) _ := S30
          replace a4h0 := a4h0.up L25
          replace T1 := T1.up L25
          have L26 := Mem.rfl' m26
          refine s_idx (q := x11) (i := 0) rfl rfl a4h0 q13 Tryd.underlying22 Tryd.sizeOf27 ?_
          intro p1 c1 h6 r1
          obtain rfl := rep_arr2_UInt64 r1
          refine wpn ?_
          refine ⟨m26, Mem.tr L25 L26, ?_, facts_step HM rfl K L26 rfl rfl ⟨p1, rfl, h6⟩, outP⟩
          show St _ ((bx b3 (bif L 5 then [vU x11.1, vU x11.2] else [vU a2.1, vU a2.2]) 27) :: (bx b2 [vU a3.1, vU a3.2] 27) :: (bx b1 [vU a2.1, vU a2.2] 27) :: As) _
          rw [d5]
          exact S30
        · intro L f17 w24 hL hd hc ⟨m27, L27, S31, K, hO⟩
          have d5 : L 5 = false := undep hc hL rfl
          have d1 : L 1 = true := dep hd rfl
          obtain ⟨v2, e16, h7⟩ := K 1 d1
          replace S31 : St _ ((bx b3 (bif L 5 then [vU x11.1, vU x11.2] else [vU a2.1, vU a2.2]) 27) :: (bx b2 [vU a3.1, vU a3.2] 27) :: (bx b1 [vU a2.1, vU a2.2] 27) :: As) _ := S31
          rw [d5] at S31
          obtain ⟨u21, rfl⟩ := fr_of (N := 113) (L := [(86, v2)]) hO ⟨e16, trivial⟩
          replace S31 : St _ ((bx b3 [vU a2.1, vU a2.2] 27) :: (bx b2 [vU a3.1, vU a3.2] 27) :: (bx b1 [vU a2.1, vU a2.2] 27) :: As) _ := S31
          replace a4h0 := a4h0.up L27
          replace T1 := T1.up L27
          have L28 := Mem.rfl' m27
          refine s_ldM (cs := [vU x11.1, vU x11.2]) S31 rfl h7 rfl Tryd.isAgg27 Tryd.sizeOf27 (fun h => by cases h) ?_
          refine wpn ?_
          refine ⟨m27, Mem.tr L27 L28, ?_, facts_step HM rfl K L28 rfl rfl rfl, outP⟩
          show St _ ((bx b3 (bif L 5 then [vU x11.1, vU x11.2] else [vU a2.1, vU a2.2]) 27) :: (bx b2 [vU a3.1, vU a3.2] 27) :: (bx b1 [vU a2.1, vU a2.2] 27) :: As) _
          rw [d5]
          exact S31
        · intro L f18 w25 hL hd hc ⟨m28, L29, S32, K, hO⟩
          obtain ⟨u22, rfl⟩ := fr_of (N := 113) (L := []) hO trivial
          replace S32 : St _ ((bx b3 (bif L 5 then [vU x11.1, vU x11.2] else [vU a2.1, vU a2.2]) 27) :: (bx b2 [vU a3.1, vU a3.2] 27) :: (bx b1 [vU a2.1, vU a2.2] 27) :: As) _ := S32
          have L30 := Mem.rfl' m28
          refine s_mvv (v := a4v0) rfl ?_
          refine wpn ?_
          refine ⟨m28, Mem.tr L29 L30, ?_, facts_step HM rfl K L30 rfl rfl rfl, outP⟩
          exact S32
        · intro L f19 w26 hL hd hc ⟨m29, L31, S33, K, hO⟩
          have d3 : L 3 = true := dep hd rfl
          have e17 := K 3 d3
          obtain ⟨u23, rfl⟩ := fr_of (N := 113) (L := [(88, a4v0)]) hO ⟨e17, trivial⟩
          replace S33 : St _ ((bx b3 (bif L 5 then [vU x11.1, vU x11.2] else [vU a2.1, vU a2.2]) 27) :: (bx b2 [vU a3.1, vU a3.2] 27) :: (bx b1 [vU a2.1, vU a2.2] 27) :: As) _ := S33
          replace a4h0 := a4h0.up L31
          replace T1 := T1.up L31
          have L32 := Mem.rfl' m29
          refine s_cut (ys := x12) (l := 1) (h := (a4.length : Int)) rfl a4h0 Tryd.underlying22 Tryd.sizeOf27 (.inr ⟨_, rfl⟩) (.inl ⟨rfl, rfl⟩) (.inl rfl) q14 ?_
          intro v3 h8
          refine wpn ?_
          refine ⟨m29, Mem.tr L31 L32, ?_, facts_step HM rfl K L32 rfl rfl ⟨v3, rfl, h8⟩, outP⟩
          exact S33
        · intro L f20 w27 hL hd hc ⟨m30, L33, S34, K, hO⟩
          have d5 : L 5 = false := hL
          have d2 : L 2 = true := dep hd rfl
          have e18 := K 2 d2
          replace S34 : St _ ((bx b3 (bif L 5 then [vU x11.1, vU x11.2] else [vU a2.1, vU a2.2]) 27) :: (bx b2 [vU a3.1, vU a3.2] 27) :: (bx b1 [vU a2.1, vU a2.2] 27) :: As) _ := S34
          rw [d5] at S34
          obtain ⟨u24, rfl⟩ := fr_of (N := 113) (L := [(87, .agg #[vU x11.1, vU x11.2])]) hO ⟨e18, trivial⟩
          replace S34 : St _ ((bx b3 [vU a2.1, vU a2.2] 27) :: (bx b2 [vU a3.1, vU a3.2] 27) :: (bx b1 [vU a2.1, vU a2.2] 27) :: As) _ := S34
          replace a4h0 := a4h0.up L33
          replace T1 := T1.up L33
          have L34 := Mem.rfl' m30
          refine s_stL (i := 0) S34 rfl rfl rfl Tryd.sizeOf27 (oneC rfl (oneC rfl oneN)) rfl ?_
          intro w28 S35
          replace S35 : St _ ((bx b3 [vU x11.1, vU x11.2] 27) :: (bx b2 [vU a3.1, vU a3.2] 27) :: (bx b1 [vU a2.1, vU a2.2] 27) :: As) _ := S35
          clear S34
          refine wpn ?_
          refine ⟨m30, Mem.tr L33 L34, ?_, facts_none HM K L34 rfl (fun _ => trivial), outP⟩
          exact S35
      intro L f21 w29 hall ⟨m31, L35, S36, K, hO⟩
      have d5 : L 5 = true := hall 5 (by decide)
      have d4 : L 4 = true := hall 4 (by decide)
      obtain ⟨v4, e19, h9⟩ := K 4 d4
      replace S36 : St _ ((bx b3 (bif L 5 then [vU x11.1, vU x11.2] else [vU a2.1, vU a2.2]) 27) :: (bx b2 [vU a3.1, vU a3.2] 27) :: (bx b1 [vU a2.1, vU a2.2] 27) :: As) _ := S36
      rw [d5] at S36
      obtain ⟨u25, rfl⟩ := fr_of (N := 113) (L := [(89, v4)]) hO ⟨e19, trivial⟩
      replace S36 : St _ ((bx b3 [vU x11.1, vU x11.2] 27) :: (bx b2 [vU a3.1, vU a3.2] 27) :: (bx b1 [vU a2.1, vU a2.2] 27) :: As) _ := S36
      replace a4h0 := a4h0.up L35
      replace T1 := T1.up L35
      replace L22 := Mem.tr L22 L35
      clear S25
      refine s_asv (v := v4) rfl ?_
      refine wpl_nil ?_
      refine nrm ?_
      have e0 := Option.some.inj q11
      subst e0
      exact ⟨outP, m31, _, L22, S36, h9, ⟨rfl, trivial⟩⟩
    replace q11 := ifF hc8 q11
    refine wpc_skip ?_
    refine nrm ?_
    have e0 := Option.some.inj q11
    subst e0
    exact ⟨outP, m21, _, L22, S25, a4h0, ⟨rfl, trivial⟩⟩
  rintro f22 w30 ho ⟨m32, v1, l17, S37, h5, ha⟩
  obtain ⟨u26, rfl⟩ := fr_of (N := 113) ho ha
  replace T1 := T1.up l17
  replace L0 := Mem.tr L0 l17
  clear S25
  refine wpc_seq ?_
  have HM : MonoAll [(90, fun (M : Mem) (v : Value) => v = .agg #[vU x10.2.1, vU x10.2.2]), (91, fun (M : Mem) (v : Value) => v = .agg #[vU x10.2.1, vU x10.2.2]), (16, fun (M : Mem) (v : Value) => ∃ (b4 : Nat), v = pt b4 0), (17, fun (M : Mem) (v : Value) => ∃ (b5 : Nat), v = pt b5 0), (100004, fun _ _ => True)] := ⟨(fun _ _ _ _ h => h), (fun _ _ _ _ h => h), (fun _ _ _ _ h => h), (fun _ _ _ _ h => h), (fun _ _ _ _ h => h), trivial⟩
  refine wpc_flowG HM 5 mixed rfl rfl rfl [16, 17, 90, 91] (fun L f M w => St M ((bx b3 [vU x10.2.1, vU x10.2.2] 27) :: (bx b2 [vU a3.1, vU a3.2] 27) :: (bx b1 [vU a2.1, vU a2.2] 27) :: ((bif L 2 then [bxv (f 16) (bif L 4 then [vU x10.2.1, vU x10.2.2] else [vU 0, vU 0]) 27] else []) ++ ((bif L 3 then [bxv (f 17) [vU 0, vU 0] 27] else []) ++ As))) w) (St.drew S37 _) ?_ ?_
  · refine ⟨?_, ?_, ?_, ?_, ?_, trivial⟩
    · intro L f23 w31 hL hd hc ⟨m33, L36, S38, K, hO⟩
      have d4 : L 4 = false := undep hc hL rfl
      replace S38 : St _ ((bx b3 [vU x10.2.1, vU x10.2.2] 27) :: (bx b2 [vU a3.1, vU a3.2] 27) :: (bx b1 [vU a2.1, vU a2.2] 27) :: ((bif L 2 then [bxv (f23 16) (bif L 4 then [vU x10.2.1, vU x10.2.2] else [vU 0, vU 0]) 27] else []) ++ ((bif L 3 then [bxv (f23 17) [vU 0, vU 0] 27] else []) ++ As))) _ := S38
      rw [d4] at S38
      obtain ⟨u27, rfl⟩ := fr_of (N := 113) (L := []) hO trivial
      replace S38 : St _ ((bx b3 [vU x10.2.1, vU x10.2.2] 27) :: (bx b2 [vU a3.1, vU a3.2] 27) :: (bx b1 [vU a2.1, vU a2.2] 27) :: ((bif L 2 then [bxv _ (bif false then [vU x10.2.1, vU x10.2.2] else [vU 0, vU 0]) 27] else []) ++ ((bif L 3 then [bxv _ [vU 0, vU 0] 27] else []) ++ As))) _ := S38
      replace h5 := h5.up L36
      replace T1 := T1.up L36
      have L37 := Mem.rfl' m33
      refine s_ld (i := 0) (cs := [vU x10.2.1, vU x10.2.2]) S38 rfl rfl Tryd.isAgg27 Tryd.sizeOf27 rfl (fun h => by cases h) ?_
      refine wpn ?_
      refine ⟨m33, Mem.tr L36 L37, ?_, facts_step HM rfl K L37 rfl rfl rfl, outP⟩
      show St _ ((bx b3 [vU x10.2.1, vU x10.2.2] 27) :: (bx b2 [vU a3.1, vU a3.2] 27) :: (bx b1 [vU a2.1, vU a2.2] 27) :: ((bif L 2 then [bxv _ (bif L 4 then [vU x10.2.1, vU x10.2.2] else [vU 0, vU 0]) 27] else []) ++ ((bif L 3 then [bxv _ [vU 0, vU 0] 27] else []) ++ As))) _
      rw [d4]
      exact S38
    · intro L f24 w32 hL hd hc ⟨m34, L38, S39, K, hO⟩
      obtain ⟨u28, rfl⟩ := fr_of (N := 113) (L := []) hO trivial
      replace S39 : St _ ((bx b3 [vU x10.2.1, vU x10.2.2] 27) :: (bx b2 [vU a3.1, vU a3.2] 27) :: (bx b1 [vU a2.1, vU a2.2] 27) :: ((bif L 2 then [bxv _ (bif L 4 then [vU x10.2.1, vU x10.2.2] else [vU 0, vU 0]) 27] else []) ++ ((bif L 3 then [bxv _ [vU 0, vU 0] 27] else []) ++ As))) _ := S39
      replace h5 := h5.up L38
      replace T1 := T1.up L38
      have L39 := Mem.rfl' m34
      refine s_ld (i := 0) (cs := [vU x10.2.1, vU x10.2.2]) S39 rfl rfl Tryd.isAgg27 Tryd.sizeOf27 rfl (fun h => by cases h) ?_
      refine wpn ?_
      refine ⟨m34, Mem.tr L38 L39, ?_, facts_step HM rfl K L39 rfl rfl rfl, outP⟩
      exact S39
    · intro L f25 w33 hL hd hc ⟨m35, L40, S40, K, hO⟩
      have d2 : L 2 = false := hL
      have d4 : L 4 = false := undep hc hL rfl
      replace S40 : St _ ((bx b3 [vU x10.2.1, vU x10.2.2] 27) :: (bx b2 [vU a3.1, vU a3.2] 27) :: (bx b1 [vU a2.1, vU a2.2] 27) :: ((bif L 2 then [bxv (f25 16) (bif L 4 then [vU x10.2.1, vU x10.2.2] else [vU 0, vU 0]) 27] else []) ++ ((bif L 3 then [bxv (f25 17) [vU 0, vU 0] 27] else []) ++ As))) _ := S40
      rw [d2, d4] at S40
      obtain ⟨u29, rfl⟩ := fr_of (N := 113) (L := []) hO trivial
      replace S40 : St _ ((bx b3 [vU x10.2.1, vU x10.2.2] 27) :: (bx b2 [vU a3.1, vU a3.2] 27) :: (bx b1 [vU a2.1, vU a2.2] 27) :: ((bif L 3 then [bxv _ [vU 0, vU 0] 27] else []) ++ As)) _ := S40
      replace h5 := h5.up L40
      replace T1 := T1.up L40
      have L41 := Mem.rfl' m35
      refine s_alloc S40 Tryd.zeroValue27 ?_
      intro b4 w34 S41
      replace S41 : St _ ((bx b4 [vU 0, vU 0] 27) :: (bx b3 [vU x10.2.1, vU x10.2.2] 27) :: (bx b2 [vU a3.1, vU a3.2] 27) :: (bx b1 [vU a2.1, vU a2.2] 27) :: ((bif L 3 then [bxv _ [vU 0, vU 0] 27] else []) ++ As)) _ := S41
      clear S40
      refine wpn ?_
      refine ⟨m35, Mem.tr L40 L41, ?_, facts_step HM rfl K L41 rfl rfl ⟨b4, rfl⟩, outP⟩
      show St _ ((bx b3 [vU x10.2.1, vU x10.2.2] 27) :: (bx b2 [vU a3.1, vU a3.2] 27) :: (bx b1 [vU a2.1, vU a2.2] 27) :: ((bif true then [bxv _ (bif L 4 then [vU x10.2.1, vU x10.2.2] else [vU 0, vU 0]) 27] else []) ++ ((bif L 3 then [bxv _ [vU 0, vU 0] 27] else []) ++ As))) _
      rw [d4]
      have S79 : St _ ((bx b3 [vU x10.2.1, vU x10.2.2] 27) :: (bx b2 [vU a3.1, vU a3.2] 27) :: (bx b1 [vU a2.1, vU a2.2] 27) :: (bx b4 [vU 0, vU 0] 27) :: ((bif L 3 then [bxv _ [vU 0, vU 0] 27] else []) ++ As)) _ := St.perm S41 (List.Perm.trans (List.Perm.swap _ _ _) (List.Perm.trans (List.Perm.cons _ (List.Perm.swap _ _ _)) (List.Perm.cons _ (List.Perm.cons _ (List.Perm.swap _ _ _)))))
      exact S79
    · intro L f26 w35 hL hd hc ⟨m36, L42, S42, K, hO⟩
      have d3 : L 3 = false := hL
      have d4 : L 4 = false := undep hc hL rfl
      replace S42 : St _ ((bx b3 [vU x10.2.1, vU x10.2.2] 27) :: (bx b2 [vU a3.1, vU a3.2] 27) :: (bx b1 [vU a2.1, vU a2.2] 27) :: ((bif L 2 then [bxv (f26 16) (bif L 4 then [vU x10.2.1, vU x10.2.2] else [vU 0, vU 0]) 27] else []) ++ ((bif L 3 then [bxv (f26 17) [vU 0, vU 0] 27] else []) ++ As))) _ := S42
      rw [d3, d4] at S42
      obtain ⟨u30, rfl⟩ := fr_of (N := 113) (L := []) hO trivial
      replace S42 : St _ ((bx b3 [vU x10.2.1, vU x10.2.2] 27) :: (bx b2 [vU a3.1, vU a3.2] 27) :: (bx b1 [vU a2.1, vU a2.2] 27) :: ((bif L 2 then [bxv _ (bif false then [vU x10.2.1, vU x10.2.2] else [vU 0, vU 0]) 27] else []) ++ As)) _ := S42
      replace h5 := h5.up L42
      replace T1 := T1.up L42
      have L43 := Mem.rfl' m36
      refine s_alloc S42 Tryd.zeroValue27 ?_
      intro b5 w36 S43
      replace S43 : St _ ((bx b5 [vU 0, vU 0] 27) :: (bx b3 [vU x10.2.1, vU x10.2.2] 27) :: (bx b2 [vU a3.1, vU a3.2] 27) :: (bx b1 [vU a2.1, vU a2.2] 27) :: ((bif L 2 then [bxv _ (bif false then [vU x10.2.1, vU x10.2.2] else [vU 0, vU 0]) 27] else []) ++ As)) _ := S43
      clear S42
      refine wpn ?_
      refine ⟨m36, Mem.tr L42 L43, ?_, facts_step HM rfl K L43 rfl rfl ⟨b5, rfl⟩, outP⟩
      show St _ ((bx b3 [vU x10.2.1, vU x10.2.2] 27) :: (bx b2 [vU a3.1, vU a3.2] 27) :: (bx b1 [vU a2.1, vU a2.2] 27) :: ((bif L 2 then [bxv _ (bif L 4 then [vU x10.2.1, vU x10.2.2] else [vU 0, vU 0]) 27] else []) ++ ((bif true then [bxv _ [vU 0, vU 0] 27] else []) ++ As))) _
      rw [d4]
      have S80 : St _ ((bx b3 [vU x10.2.1, vU x10.2.2] 27) :: (bx b2 [vU a3.1, vU a3.2] 27) :: (bx b1 [vU a2.1, vU a2.2] 27) :: (bx b5 [vU 0, vU 0] 27) :: ((bif L 2 then [bxv _ (bif false then [vU x10.2.1, vU x10.2.2] else [vU 0, vU 0]) 27] else []) ++ As)) _ := St.perm S43 (List.Perm.trans (List.Perm.swap _ _ _) (List.Perm.trans (List.Perm.cons _ (List.Perm.swap _ _ _)) (List.Perm.cons _ (List.Perm.cons _ (List.Perm.swap _ _ _)))))
      have S80s := St.sw (L := [bx b3 [vU x10.2.1, vU x10.2.2] 27, bx b2 [vU a3.1, vU a3.2] 27, bx b1 [vU a2.1, vU a2.2] 27]) (X := [bx b5 [vU 0, vU 0] 27]) (Y := (bif L 2 then [bxv _ (bif false then [vU x10.2.1, vU x10.2.2] else [vU 0, vU 0]) 27] else [])) (As := As) S80
      exact S80s
    · intro L f27 w37 hL hd hc ⟨m37, L44, S44, K, hO⟩
      have d2 : L 2 = true := dep hd rfl
      have d3 : L 3 = true := dep hd rfl
      have d4 : L 4 = false := hL
      obtain ⟨b6, e20⟩ := K 2 d2
      obtain ⟨b7, e21⟩ := K 3 d3
      have d0 : L 0 = true := dep hd rfl
      have e22 := K 0 d0
      replace S44 : St _ ((bx b3 [vU x10.2.1, vU x10.2.2] 27) :: (bx b2 [vU a3.1, vU a3.2] 27) :: (bx b1 [vU a2.1, vU a2.2] 27) :: ((bif L 2 then [bxv (f27 16) (bif L 4 then [vU x10.2.1, vU x10.2.2] else [vU 0, vU 0]) 27] else []) ++ ((bif L 3 then [bxv (f27 17) [vU 0, vU 0] 27] else []) ++ As))) _ := S44
      rw [d2, d3, d4] at S44
      obtain ⟨u31, rfl⟩ := fr_of (N := 113) (L := [(16, pt b6 0), (17, pt b7 0), (90, .agg #[vU x10.2.1, vU x10.2.2])]) hO ⟨e20, e21, e22, trivial⟩
      replace S44 : St _ ((bx b3 [vU x10.2.1, vU x10.2.2] 27) :: (bx b2 [vU a3.1, vU a3.2] 27) :: (bx b1 [vU a2.1, vU a2.2] 27) :: (bx b6 [vU 0, vU 0] 27) :: (bx b7 [vU 0, vU 0] 27) :: As) _ := S44
      replace h5 := h5.up L44
      replace T1 := T1.up L44
      have L45 := Mem.rfl' m37
      refine s_stL (i := 3) S44 rfl rfl rfl Tryd.sizeOf27 (oneC rfl (oneC rfl oneN)) rfl ?_
      intro w38 S45
      replace S45 : St _ ((bx b3 [vU x10.2.1, vU x10.2.2] 27) :: (bx b2 [vU a3.1, vU a3.2] 27) :: (bx b1 [vU a2.1, vU a2.2] 27) :: (bx b6 [vU x10.2.1, vU x10.2.2] 27) :: (bx b7 [vU 0, vU 0] 27) :: As) _ := S45
      clear S44
      refine wpn ?_
      refine ⟨m37, Mem.tr L44 L45, ?_, facts_none HM K L45 rfl (fun _ => trivial), outP⟩
      show St _ ((bx b3 [vU x10.2.1, vU x10.2.2] 27) :: (bx b2 [vU a3.1, vU a3.2] 27) :: (bx b1 [vU a2.1, vU a2.2] 27) :: ((bif L 2 then [bxv _ (bif true then [vU x10.2.1, vU x10.2.2] else [vU 0, vU 0]) 27] else []) ++ ((bif L 3 then [bxv _ [vU 0, vU 0] 27] else []) ++ As))) _
      rw [d2, d3]
      exact S45
  intro L f28 w39 hall ⟨m38, L46, S46, K, hO⟩
  have d2 : L 2 = true := hall 2 (by decide)
  have d3 : L 3 = true := hall 3 (by decide)
  have d4 : L 4 = true := hall 4 (by decide)
  obtain ⟨b8, e23⟩ := K 2 d2
  obtain ⟨b9, e24⟩ := K 3 d3
  have d1 : L 1 = true := hall 1 (by decide)
  have e25 := K 1 d1
  replace S46 : St _ ((bx b3 [vU x10.2.1, vU x10.2.2] 27) :: (bx b2 [vU a3.1, vU a3.2] 27) :: (bx b1 [vU a2.1, vU a2.2] 27) :: ((bif L 2 then [bxv (f28 16) (bif L 4 then [vU x10.2.1, vU x10.2.2] else [vU 0, vU 0]) 27] else []) ++ ((bif L 3 then [bxv (f28 17) [vU 0, vU 0] 27] else []) ++ As))) _ := S46
  rw [d2, d3, d4] at S46
  obtain ⟨u32, rfl⟩ := fr_of (N := 113) (L := [(16, pt b8 0), (17, pt b9 0), (91, .agg #[vU x10.2.1, vU x10.2.2])]) hO ⟨e23, e24, e25, trivial⟩
  replace S46 : St _ ((bx b3 [vU x10.2.1, vU x10.2.2] 27) :: (bx b2 [vU a3.1, vU a3.2] 27) :: (bx b1 [vU a2.1, vU a2.2] 27) :: (bx b8 [vU x10.2.1, vU x10.2.2] 27) :: (bx b9 [vU 0, vU 0] 27) :: As) _ := S46
  replace h5 := h5.up L46
  replace T1 := T1.up L46
  replace L0 := Mem.tr L0 L46
  clear S37
  refine s_stL (i := 4) S46 rfl rfl rfl Tryd.sizeOf27 (oneC rfl (oneC rfl oneN)) rfl ?_
  intro w40 S47
  replace S47 : St _ ((bx b3 [vU x10.2.1, vU x10.2.2] 27) :: (bx b2 [vU a3.1, vU a3.2] 27) :: (bx b1 [vU a2.1, vU a2.2] 27) :: (bx b8 [vU x10.2.1, vU x10.2.2] 27) :: (bx b9 [vU x10.2.1, vU x10.2.2] 27) :: As) _ := S47
  clear S46
  refine wpl_nil ?_
  refine nrm ?_
  refine wpc_seq ?_
  obtain ⟨q15, hm⟩ := if_some hm
  obtain ⟨q16, hm⟩ := if_some hm
  have HM : MonoAll [(92, fun (M : Mem) (v : Value) => v = vI a0), (93, fun (M : Mem) (v : Value) => v = vI (w64 (a0 - 1))), (94, fun (M : Mem) (v : Value) => v = vI x7), (95, fun (M : Mem) (v : Value) => v = vI (shr64 (w64 (a0 - 1)) x7.toNat)), (96, fun (M : Mem) (v : Value) => v = vI a1), (97, fun (M : Mem) (v : Value) => v = vI (w64 (a1 - 1))), (98, fun (M : Mem) (v : Value) => v = vI x7), (99, fun (M : Mem) (v : Value) => v = vI (shr64 (w64 (a1 - 1)) x7.toNat)), (100, fun (M : Mem) (v : Value) => v = vI (w64 ((shr64 (w64 (a1 - 1)) x7.toNat) + 1))), (101, fun (M : Mem) (v : Value) => v = v1), (102, fun (M : Mem) (v : Value) => v = .func (.func 49) #[] #[pt b8 0, pt b9 0]), (103, fun (M : Mem) (v : Value) => v = .func (.func 50) #[] #[pt b9 0])] := ⟨(fun _ _ _ _ h => h), (fun _ _ _ _ h => h), (fun _ _ _ _ h => h), (fun _ _ _ _ h => h), (fun _ _ _ _ h => h), (fun _ _ _ _ h => h), (fun _ _ _ _ h => h), (fun _ _ _ _ h => h), (fun _ _ _ _ h => h), (fun _ _ _ _ h => h), (fun _ _ _ _ h => h), (fun _ _ _ _ h => h), trivial⟩
  refine wpc_flowG HM 12 mixed rfl rfl rfl [92, 93, 94, 95, 96, 97, 98, 99, 100, 101, 102, 103] (fun L f M w => St M ((bx b3 [vU x10.2.1, vU x10.2.2] 27) :: (bx b2 [vU a3.1, vU a3.2] 27) :: (bx b1 [vU a2.1, vU a2.2] 27) :: (bx b8 [vU x10.2.1, vU x10.2.2] 27) :: (bx b9 [vU x10.2.1, vU x10.2.2] 27) :: As) w) (St.drew S47 _) ?_ ?_
  · refine ⟨?_, ?_, ?_, ?_, ?_, ?_, ?_, ?_, ?_, ?_, ?_, ?_, trivial⟩
    · intro L f29 w41 hL hd hc ⟨m39, L47, S48, K, hO⟩
      obtain ⟨u33, rfl⟩ := fr_of (N := 113) (L := []) hO trivial
      replace S48 : St _ ((bx b3 [vU x10.2.1, vU x10.2.2] 27) :: (bx b2 [vU a3.1, vU a3.2] 27) :: (bx b1 [vU a2.1, vU a2.2] 27) :: (bx b8 [vU x10.2.1, vU x10.2.2] 27) :: (bx b9 [vU x10.2.1, vU x10.2.2] 27) :: As) _ := S48
      have L48 := Mem.rfl' m39
      refine s_mvv (v := vI a0) rfl ?_
      refine wpn ?_
      refine ⟨m39, Mem.tr L47 L48, ?_, facts_step HM rfl K L48 rfl rfl rfl, outP⟩
      exact S48
    · intro L f30 w42 hL hd hc ⟨m40, L49, S49, K, hO⟩
      have d0 : L 0 = true := dep hd rfl
      have e26 := K 0 d0
      obtain ⟨u34, rfl⟩ := fr_of (N := 113) (L := [(92, vI a0)]) hO ⟨e26, trivial⟩
      replace S49 : St _ ((bx b3 [vU x10.2.1, vU x10.2.2] 27) :: (bx b2 [vU a3.1, vU a3.2] 27) :: (bx b1 [vU a2.1, vU a2.2] 27) :: (bx b8 [vU x10.2.1, vU x10.2.2] 27) :: (bx b9 [vU x10.2.1, vU x10.2.2] 27) :: As) _ := S49
      have L50 := Mem.rfl' m40
      refine s_subI (m := a0) (n := 1) rfl rfl ?_
      refine wpn ?_
      refine ⟨m40, Mem.tr L49 L50, ?_, facts_step HM rfl K L50 rfl rfl rfl, outP⟩
      exact S49
    · intro L f31 w43 hL hd hc ⟨m41, L51, S50, K, hO⟩
      obtain ⟨u35, rfl⟩ := fr_of (N := 113) (L := []) hO trivial
      replace S50 : St _ ((bx b3 [vU x10.2.1, vU x10.2.2] 27) :: (bx b2 [vU a3.1, vU a3.2] 27) :: (bx b1 [vU a2.1, vU a2.2] 27) :: (bx b8 [vU x10.2.1, vU x10.2.2] 27) :: (bx b9 [vU x10.2.1, vU x10.2.2] 27) :: As) _ := S50
      have L52 := Mem.rfl' m41
      refine s_mvv (v := vI x7) rfl ?_
      refine wpn ?_
      refine ⟨m41, Mem.tr L51 L52, ?_, facts_step HM rfl K L52 rfl rfl rfl, outP⟩
      exact S50
    · intro L f32 w44 hL hd hc ⟨m42, L53, S51, K, hO⟩
      have d1 : L 1 = true := dep hd rfl
      have e27 := K 1 d1
      have d2 : L 2 = true := dep hd rfl
      have e28 := K 2 d2
      obtain ⟨u36, rfl⟩ := fr_of (N := 113) (L := [(93, vI (w64 (a0 - 1))), (94, vI x7)]) hO ⟨e27, e28, trivial⟩
      replace S51 : St _ ((bx b3 [vU x10.2.1, vU x10.2.2] 27) :: (bx b2 [vU a3.1, vU a3.2] 27) :: (bx b1 [vU a2.1, vU a2.2] 27) :: (bx b8 [vU x10.2.1, vU x10.2.2] 27) :: (bx b9 [vU x10.2.1, vU x10.2.2] 27) :: As) _ := S51
      have L54 := Mem.rfl' m42
      refine s_shrI (m := (w64 (a0 - 1))) (n := x7) rfl rfl q15 ?_
      refine wpn ?_
      refine ⟨m42, Mem.tr L53 L54, ?_, facts_step HM rfl K L54 rfl rfl rfl, outP⟩
      exact S51
    · intro L f33 w45 hL hd hc ⟨m43, L55, S52, K, hO⟩
      obtain ⟨u37, rfl⟩ := fr_of (N := 113) (L := []) hO trivial
      replace S52 : St _ ((bx b3 [vU x10.2.1, vU x10.2.2] 27) :: (bx b2 [vU a3.1, vU a3.2] 27) :: (bx b1 [vU a2.1, vU a2.2] 27) :: (bx b8 [vU x10.2.1, vU x10.2.2] 27) :: (bx b9 [vU x10.2.1, vU x10.2.2] 27) :: As) _ := S52
      have L56 := Mem.rfl' m43
      refine s_mvv (v := vI a1) rfl ?_
      refine wpn ?_
      refine ⟨m43, Mem.tr L55 L56, ?_, facts_step HM rfl K L56 rfl rfl rfl, outP⟩
      exact S52
    · intro L f34 w46 hL hd hc ⟨m44, L57, S53, K, hO⟩
      have d4 : L 4 = true := dep hd rfl
      have e29 := K 4 d4
      obtain ⟨u38, rfl⟩ := fr_of (N := 113) (L := [(96, vI a1)]) hO ⟨e29, trivial⟩
      replace S53 : St _ ((bx b3 [vU x10.2.1, vU x10.2.2] 27) :: (bx b2 [vU a3.1, vU a3.2] 27) :: (bx b1 [vU a2.1, vU a2.2] 27) :: (bx b8 [vU x10.2.1, vU x10.2.2] 27) :: (bx b9 [vU x10.2.1, vU x10.2.2] 27) :: As) _ := S53
      have L58 := Mem.rfl' m44
      refine s_subI (m := a1) (n := 1) rfl rfl ?_
      refine wpn ?_
      refine ⟨m44, Mem.tr L57 L58, ?_, facts_step HM rfl K L58 rfl rfl rfl, outP⟩
      exact S53
    · intro L f35 w47 hL hd hc ⟨m45, L59, S54, K, hO⟩
      obtain ⟨u39, rfl⟩ := fr_of (N := 113) (L := []) hO trivial
      replace S54 : St _ ((bx b3 [vU x10.2.1, vU x10.2.2] 27) :: (bx b2 [vU a3.1, vU a3.2] 27) :: (bx b1 [vU a2.1, vU a2.2] 27) :: (bx b8 [vU x10.2.1, vU x10.2.2] 27) :: (bx b9 [vU x10.2.1, vU x10.2.2] 27) :: As) _ := S54
      have L60 := Mem.rfl' m45
      refine s_mvv (v := vI x7) rfl ?_
      refine wpn ?_
      refine ⟨m45, Mem.tr L59 L60, ?_, facts_step HM rfl K L60 rfl rfl rfl, outP⟩
      exact S54
    · intro L f36 w48 hL hd hc ⟨m46, L61, S55, K, hO⟩
      have d5 : L 5 = true := dep hd rfl
      have e30 := K 5 d5
      have d6 : L 6 = true := dep hd rfl
      have e31 := K 6 d6
      obtain ⟨u40, rfl⟩ := fr_of (N := 113) (L := [(97, vI (w64 (a1 - 1))), (98, vI x7)]) hO ⟨e30, e31, trivial⟩
      replace S55 : St _ ((bx b3 [vU x10.2.1, vU x10.2.2] 27) :: (bx b2 [vU a3.1, vU a3.2] 27) :: (bx b1 [vU a2.1, vU a2.2] 27) :: (bx b8 [vU x10.2.1, vU x10.2.2] 27) :: (bx b9 [vU x10.2.1, vU x10.2.2] 27) :: As) _ := S55
      have L62 := Mem.rfl' m46
      refine s_shrI (m := (w64 (a1 - 1))) (n := x7) rfl rfl q16 ?_
      refine wpn ?_
      refine ⟨m46, Mem.tr L61 L62, ?_, facts_step HM rfl K L62 rfl rfl rfl, outP⟩
      exact S55
    · intro L f37 w49 hL hd hc ⟨m47, L63, S56, K, hO⟩
      have d7 : L 7 = true := dep hd rfl
      have e32 := K 7 d7
      obtain ⟨u41, rfl⟩ := fr_of (N := 113) (L := [(99, vI (shr64 (w64 (a1 - 1)) x7.toNat))]) hO ⟨e32, trivial⟩
      replace S56 : St _ ((bx b3 [vU x10.2.1, vU x10.2.2] 27) :: (bx b2 [vU a3.1, vU a3.2] 27) :: (bx b1 [vU a2.1, vU a2.2] 27) :: (bx b8 [vU x10.2.1, vU x10.2.2] 27) :: (bx b9 [vU x10.2.1, vU x10.2.2] 27) :: As) _ := S56
      have L64 := Mem.rfl' m47
      refine s_addI (m := (shr64 (w64 (a1 - 1)) x7.toNat)) (n := 1) rfl rfl ?_
      refine wpn ?_
      refine ⟨m47, Mem.tr L63 L64, ?_, facts_step HM rfl K L64 rfl rfl rfl, outP⟩
      exact S56
    · intro L f38 w50 hL hd hc ⟨m48, L65, S57, K, hO⟩
      obtain ⟨u42, rfl⟩ := fr_of (N := 113) (L := []) hO trivial
      replace S57 : St _ ((bx b3 [vU x10.2.1, vU x10.2.2] 27) :: (bx b2 [vU a3.1, vU a3.2] 27) :: (bx b1 [vU a2.1, vU a2.2] 27) :: (bx b8 [vU x10.2.1, vU x10.2.2] 27) :: (bx b9 [vU x10.2.1, vU x10.2.2] 27) :: As) _ := S57
      have L66 := Mem.rfl' m48
      refine s_mvv (v := v1) rfl ?_
      refine wpn ?_
      refine ⟨m48, Mem.tr L65 L66, ?_, facts_step HM rfl K L66 rfl rfl rfl, outP⟩
      exact S57
    · intro L f39 w51 hL hd hc ⟨m49, L67, S58, K, hO⟩
      obtain ⟨u43, rfl⟩ := fr_of (N := 113) (L := []) hO trivial
      replace S58 : St _ ((bx b3 [vU x10.2.1, vU x10.2.2] 27) :: (bx b2 [vU a3.1, vU a3.2] 27) :: (bx b1 [vU a2.1, vU a2.2] 27) :: (bx b8 [vU x10.2.1, vU x10.2.2] 27) :: (bx b9 [vU x10.2.1, vU x10.2.2] 27) :: As) _ := S58
      replace h5 := h5.up L67
      replace T1 := T1.up L67
      have L68 := Mem.rfl' m49
      refine s_funcC (caps := [pt b8 0, pt b9 0]) rfl ?_
      refine wpn ?_
      refine ⟨m49, Mem.tr L67 L68, ?_, facts_step HM rfl K L68 rfl rfl rfl, outP⟩
      exact S58
    · intro L f40 w52 hL hd hc ⟨m50, L69, S59, K, hO⟩
      obtain ⟨u44, rfl⟩ := fr_of (N := 113) (L := []) hO trivial
      replace S59 : St _ ((bx b3 [vU x10.2.1, vU x10.2.2] 27) :: (bx b2 [vU a3.1, vU a3.2] 27) :: (bx b1 [vU a2.1, vU a2.2] 27) :: (bx b8 [vU x10.2.1, vU x10.2.2] 27) :: (bx b9 [vU x10.2.1, vU x10.2.2] 27) :: As) _ := S59
      replace h5 := h5.up L69
      replace T1 := T1.up L69
      have L70 := Mem.rfl' m50
      refine s_funcC (caps := [pt b9 0]) rfl ?_
      refine wpn ?_
      refine ⟨m50, Mem.tr L69 L70, ?_, facts_step HM rfl K L70 rfl rfl rfl, outP⟩
      exact S59
  intro L f41 w53 hall ⟨m51, L71, S60, K, hO⟩
  have d3 : L 3 = true := hall 3 (by decide)
  have e33 := K 3 d3
  have d8 : L 8 = true := hall 8 (by decide)
  have e34 := K 8 d8
  have d9 : L 9 = true := hall 9 (by decide)
  have e35 := K 9 d9
  have d10 : L 10 = true := hall 10 (by decide)
  have e36 := K 10 d10
  have d11 : L 11 = true := hall 11 (by decide)
  have e37 := K 11 d11
  obtain ⟨u45, rfl⟩ := fr_of (N := 113) (L := [(95, vI (shr64 (w64 (a0 - 1)) x7.toNat)), (100, vI (w64 ((shr64 (w64 (a1 - 1)) x7.toNat) + 1))), (101, v1), (102, .func (.func 49) #[] #[pt b8 0, pt b9 0]), (103, .func (.func 50) #[] #[pt b9 0])]) hO ⟨e33, e34, e35, e36, e37, trivial⟩
  replace S60 : St _ ((bx b3 [vU x10.2.1, vU x10.2.2] 27) :: (bx b2 [vU a3.1, vU a3.2] 27) :: (bx b1 [vU a2.1, vU a2.2] 27) :: (bx b8 [vU x10.2.1, vU x10.2.2] 27) :: (bx b9 [vU x10.2.1, vU x10.2.2] 27) :: As) _ := S60
  replace h5 := h5.up L71
  replace T1 := T1.up L71
  replace L0 := Mem.tr L0 L71
  clear S47
  have hcb1 : ∀ {m' : Mem} {As' : List Ow} {w' : World} {s : (UInt64 × UInt64) × (UInt64 × UInt64)} {X : List Ow} {b0 : UInt64 × UInt64} {r : ((UInt64 × UInt64) × (UInt64 × UInt64))}, St m' (X ++ As') w' → (X = [bx b8 [vU (((s).1).1), vU (((s).1).2)] 27, bx b9 [vU (((s).2).1), vU (((s).2).2)] 27]) → (fun (s1 : (UInt64 × UInt64) × (UInt64 × UInt64)) (b10 : UInt64 × UInt64) => obind (m_merkle_CheckGrow_1 b10 ((s1).1) ((s1).2)) fun x13 => some (x13.1, x13.2)) s b0 = some r → CallV Tryd.prog (.func (.func 49) #[] #[pt b8 0, pt b9 0]) [.agg #[vU b0.1, vU b0.2]] w' fun v w'' => ∃ (M : Mem) (X' : List Ow), m' ≤ M ∧ St M (X' ++ As') w'' ∧ (X' = [bx b8 [vU (((r).1).1), vU (((r).1).2)] 27, bx b9 [vU (((r).2).1), vU (((r).2).2)] 27]) ∧ v = .tuple #[] := by
    intro m52 As1 w54 s1 X1 b10 r2 S61 h10 hm1
    subst h10
    replace S61 : St _ ((bx b8 [vU (((s1).1).1), vU (((s1).1).2)] 27) :: (bx b9 [vU (((s1).2).1), vU (((s1).2).2)] 27) :: As1) _ := S61
    have L72 := Mem.rfl' m52
    obtain ⟨x13, q17, hm1⟩ := obind_some hm1
    refine CallV.mono (CallV.clo Tryd.call49 rfl (w_merkle_CheckGrow_1 (a0 := b10) (k0 := ((s1).1)) (k1 := ((s1).2)) S61  q17)) ?_
    rintro _ w55 ⟨m53, l18, S62, rfl⟩
    replace L72 := Mem.tr L72 l18
    clear S61
    replace S62 : St _ ((bx b8 [vU x13.1.1, vU x13.1.2] 27) :: (bx b9 [vU x13.2.1, vU x13.2.2] 27) :: As1) _ := S62
    have e0 := Option.some.inj hm1
    subst e0
    exact ⟨_, [bx b8 [vU x13.1.1, vU x13.1.2] 27, bx b9 [vU x13.2.1, vU x13.2.2] 27], L72, S62, rfl, rfl⟩
  have hcb2 : ∀ {m' : Mem} {As' : List Ow} {w' : World} {s : (UInt64 × UInt64) × (UInt64 × UInt64)} {X : List Ow} {b0 : UInt64 × UInt64} {r : ((UInt64 × UInt64) × (UInt64 × UInt64))}, St m' (X ++ As') w' → (X = [bx b8 [vU (((s).1).1), vU (((s).1).2)] 27, bx b9 [vU (((s).2).1), vU (((s).2).2)] 27]) → (fun (s2 : (UInt64 × UInt64) × (UInt64 × UInt64)) (b11 : UInt64 × UInt64) => obind (m_merkle_CheckGrow_2 b11 ((s2).2)) fun x14 => some (((s2).1), x14)) s b0 = some r → CallV Tryd.prog (.func (.func 50) #[] #[pt b9 0]) [.agg #[vU b0.1, vU b0.2]] w' fun v w'' => ∃ (M : Mem) (X' : List Ow), m' ≤ M ∧ St M (X' ++ As') w'' ∧ (X' = [bx b8 [vU (((r).1).1), vU (((r).1).2)] 27, bx b9 [vU (((r).2).1), vU (((r).2).2)] 27]) ∧ v = .tuple #[] := by
    intro m54 As2 w56 s2 X2 b11 r3 S63 h11 hm2
    subst h11
    replace S63 : St _ ((bx b8 [vU (((s2).1).1), vU (((s2).1).2)] 27) :: (bx b9 [vU (((s2).2).1), vU (((s2).2).2)] 27) :: As2) _ := S63
    have L73 := Mem.rfl' m54
    have S64 : St _ ((bx b9 [vU (((s2).2).1), vU (((s2).2).2)] 27) :: (bx b8 [vU (((s2).1).1), vU (((s2).1).2)] 27) :: As2) _ := St.perm S63 (List.Perm.swap _ _ _)
    clear S63
    obtain ⟨x14, q18, hm2⟩ := obind_some hm2
    refine CallV.mono (CallV.clo Tryd.call50 rfl (w_merkle_CheckGrow_2 (a0 := b11) (k0 := ((s2).2)) S64  q18)) ?_
    rintro _ w57 ⟨m55, l19, S65, rfl⟩
    replace L73 := Mem.tr L73 l19
    clear S64
    replace S65 : St _ ((bx b9 [vU x14.1, vU x14.2] 27) :: (bx b8 [vU (((s2).1).1), vU (((s2).1).2)] 27) :: As2) _ := S65
    have S66 : St _ ((bx b8 [vU (((s2).1).1), vU (((s2).1).2)] 27) :: (bx b9 [vU x14.1, vU x14.2] 27) :: As2) _ := St.perm S65 (List.Perm.swap _ _ _)
    clear S65
    have e0 := Option.some.inj hm2
    subst e0
    exact ⟨_, [bx b8 [vU (((s2).1).1), vU (((s2).1).2)] 27, bx b9 [vU x14.1, vU x14.2] 27], L73, S66, rfl, rfl⟩
  have S67 : St _ ((bx b8 [vU x10.2.1, vU x10.2.2] 27) :: (bx b9 [vU x10.2.1, vU x10.2.2] 27) :: (bx b3 [vU x10.2.1, vU x10.2.2] 27) :: (bx b2 [vU a3.1, vU a3.2] 27) :: (bx b1 [vU a2.1, vU a2.2] 27) :: As) _ := St.perm S60 (List.Perm.trans (List.Perm.cons _ (List.Perm.cons _ (List.Perm.swap _ _ _))) (List.Perm.trans (List.Perm.cons _ (List.Perm.swap _ _ _)) (List.Perm.trans (List.Perm.swap _ _ _) (List.Perm.trans (List.Perm.cons _ (List.Perm.cons _ (List.Perm.cons _ (List.Perm.swap _ _ _)))) (List.Perm.trans (List.Perm.cons _ (List.Perm.cons _ (List.Perm.swap _ _ _))) (List.Perm.cons _ (List.Perm.swap _ _ _)))))))
  clear S60
  obtain ⟨x15, q19, hm⟩ := obind_some hm
  refine s_call Tryd.call41 (w_merkle_climb (a0 := (shr64 (w64 (a0 - 1)) x7.toNat)) (a1 := (w64 ((shr64 (w64 (a1 - 1)) x7.toNat) + 1))) (a2 := x10.1) (p3 := (fun (s1 : (UInt64 × UInt64) × (UInt64 × UInt64)) (b10 : UInt64 × UInt64) => obind (m_merkle_CheckGrow_1 b10 ((s1).1) ((s1).2)) fun x13 => some (x13.1, x13.2))) (p4 := (fun (s2 : (UInt64 × UInt64) × (UInt64 × UInt64)) (b11 : UInt64 × UInt64) => obind (m_merkle_CheckGrow_2 b11 ((s2).2)) fun x14 => some (((s2).1), x14))) (s0 := (x10.2, x10.2)) (R := (fun (s : (UInt64 × UInt64) × (UInt64 × UInt64)) (M : Mem) (X : List Ow) => (X = [bx b8 [vU (((s).1).1), vU (((s).1).2)] 27, bx b9 [vU (((s).2).1), vU (((s).2).2)] 27]))) (X0 := [bx b8 [vU x10.2.1, vU x10.2.2] 27, bx b9 [vU x10.2.1, vU x10.2.2] 27]) (As := (bx b3 [vU x10.2.1, vU x10.2.2] 27) :: (bx b2 [vU a3.1, vU a3.2] 27) :: (bx b1 [vU a2.1, vU a2.2] 27) :: As) S67 (fun _ h => h) rfl hcb1 hcb2 h5 q19) rfl ?_
  rintro _ w58 ⟨m56, l20, X3, S68, rfl, rfl⟩
  replace h5 := h5.up l20
  replace T1 := T1.up l20
  replace L0 := Mem.tr L0 l20
  clear S67
  replace S68 : St _ ((bx b8 [vU x15.1.1, vU x15.1.2] 27) :: (bx b9 [vU x15.2.1, vU x15.2.2] 27) :: (bx b3 [vU x10.2.1, vU x10.2.2] 27) :: (bx b2 [vU a3.1, vU a3.2] 27) :: (bx b1 [vU a2.1, vU a2.2] 27) :: As) _ := S68
  refine wpl_nil ?_
  refine nrm ?_
  refine wpc_seq ?_
  refine wpc_seq ?_
  refine wpc_region ?_
  refine s_ld (i := 0) (cs := [vU x15.1.1, vU x15.1.2]) S68 rfl rfl Tryd.isAgg27 Tryd.sizeOf27 rfl (fun h => by cases h) ?_
  refine s_ld (i := 4) (cs := [vU a2.1, vU a2.2]) S68 rfl rfl Tryd.isAgg27 Tryd.sizeOf27 rfl (fun h => by cases h) ?_
  refine s_neqSum (p := x15.1) (q := a2) rfl rfl Tryd.underlying27 Tryd.underlying25 Tryd.sizeOf25 Tryd.isAgg25 Tryd.eqGuardType27 ?_
  refine s_mvv (v := vb (!eqSum x15.1 a2)) rfl ?_
  refine wpl_cut 4 [109, 110, 111, 112] (fun f' w' => w' = w58 ∧ AllAt f' [(112, vb ((!eqSum x15.1 a2) || (!eqSum x15.2 a3)))]) ?_ ?_
  · rcases bool_tf (!eqSum x15.1 a2) with hb9 | hb9
    · refine wpl_no (d := 108) rfl rfl (congrArg Value.bool hb9) ?_
      refine wpl_no (d := 108) rfl rfl (congrArg Value.bool hb9) ?_
      refine wpl_no (d := 108) rfl rfl (congrArg Value.bool hb9) ?_
      refine s_pickT (congrArg Value.bool hb9) rfl ?_
      exact wpl_nil (nrm ⟨outP, rfl, congrArg Value.bool (or_t hb9), trivial⟩)
    · refine wpl_yes (d := 108) rfl rfl (congrArg Value.bool hb9) ?_
      refine s_ld (i := 1) (cs := [vU x15.2.1, vU x15.2.2]) S68 rfl rfl Tryd.isAgg27 Tryd.sizeOf27 rfl (fun h => by cases h) ?_
      refine wpl_yes (d := 108) rfl rfl (congrArg Value.bool hb9) ?_
      refine s_ld (i := 3) (cs := [vU a3.1, vU a3.2]) S68 rfl rfl Tryd.isAgg27 Tryd.sizeOf27 rfl (fun h => by cases h) ?_
      refine wpl_yes (d := 108) rfl rfl (congrArg Value.bool hb9) ?_
      refine s_neqSum (p := x15.2) (q := a3) rfl rfl Tryd.underlying27 Tryd.underlying25 Tryd.sizeOf25 Tryd.isAgg25 Tryd.eqGuardType27 ?_
      refine s_pickF (congrArg Value.bool hb9) rfl ?_
      exact wpl_nil (nrm ⟨outP, rfl, congrArg Value.bool (or_f hb9), trivial⟩)
  rintro f42 w59 ho ⟨h12, ha⟩
  subst h12
  obtain ⟨u46, rfl⟩ := fr_of (N := 113) ho ha
  refine wpl_nil ?_
  refine nrm ?_
  refine wpc_if (t := ((!eqSum x15.1 a2) || (!eqSum x15.2 a3))) rfl (fun hc9 => ?_) (fun hc9 => ?_)
  · replace hm := ifT hc9 hm
    refine wpc_seq ?_
    refine wpc_region ?_
    refine s_asv (v := vI 71) rfl ?_
    refine wpl_nil ?_
    refine nrm ?_
    refine wpc_ret ?_
    refine thR ?_
    refine outRw ?_
    intro we hpd
    replace S68 := St.pd S68 hpd
    obtain ⟨m57, l21, S69⟩ := St.drop S68 0
    replace T1 := T1.up l21
    replace L0 := Mem.tr L0 l21
    clear S68
    replace S69 : St _ ((bx b9 [vU x15.2.1, vU x15.2.2] 27) :: (bx b3 [vU x10.2.1, vU x10.2.2] 27) :: (bx b2 [vU a3.1, vU a3.2] 27) :: (bx b1 [vU a2.1, vU a2.2] 27) :: As) _ := S69
    obtain ⟨m58, l22, S70⟩ := St.drop S69 0
    replace T1 := T1.up l22
    replace L0 := Mem.tr L0 l22
    clear S69
    replace S70 : St _ ((bx b3 [vU x10.2.1, vU x10.2.2] 27) :: (bx b2 [vU a3.1, vU a3.2] 27) :: (bx b1 [vU a2.1, vU a2.2] 27) :: As) _ := S70
    obtain ⟨m59, l23, S71⟩ := St.drop S70 0
    replace T1 := T1.up l23
    replace L0 := Mem.tr L0 l23
    clear S70
    replace S71 : St _ ((bx b2 [vU a3.1, vU a3.2] 27) :: (bx b1 [vU a2.1, vU a2.2] 27) :: As) _ := S71
    obtain ⟨m60, l24, S72⟩ := St.drop S71 0
    replace T1 := T1.up l24
    replace L0 := Mem.tr L0 l24
    clear S71
    replace S72 : St _ ((bx b1 [vU a2.1, vU a2.2] 27) :: As) _ := S72
    obtain ⟨m61, l25, S73⟩ := St.drop S72 0
    replace T1 := T1.up l25
    replace L0 := Mem.tr L0 l25
    clear S72
    replace S73 : St _ (As) _ := S73
    have e0 := Option.some.inj hm
    subst e0
    exact outR [_] rfl ⟨rfl, trivial⟩ ⟨_, L0, S73, rfl⟩
  replace hm := ifF hc9 hm
  refine wpc_skip ?_
  refine nrm ?_
  refine wpc_seq ?_
  refine wpc_region ?_
  refine s_asv (v := vI 0) rfl ?_
  refine wpl_nil ?_
  refine nrm ?_
  refine wpc_ret ?_
  refine outRw ?_
  intro we hpd
  replace S68 := St.pd S68 hpd
  obtain ⟨m62, l26, S74⟩ := St.drop S68 0
  replace T1 := T1.up l26
  replace L0 := Mem.tr L0 l26
  clear S68
  replace S74 : St _ ((bx b9 [vU x15.2.1, vU x15.2.2] 27) :: (bx b3 [vU x10.2.1, vU x10.2.2] 27) :: (bx b2 [vU a3.1, vU a3.2] 27) :: (bx b1 [vU a2.1, vU a2.2] 27) :: As) _ := S74
  obtain ⟨m63, l27, S75⟩ := St.drop S74 0
  replace T1 := T1.up l27
  replace L0 := Mem.tr L0 l27
  clear S74
  replace S75 : St _ ((bx b3 [vU x10.2.1, vU x10.2.2] 27) :: (bx b2 [vU a3.1, vU a3.2] 27) :: (bx b1 [vU a2.1, vU a2.2] 27) :: As) _ := S75
  obtain ⟨m64, l28, S76⟩ := St.drop S75 0
  replace T1 := T1.up l28
  replace L0 := Mem.tr L0 l28
  clear S75
  replace S76 : St _ ((bx b2 [vU a3.1, vU a3.2] 27) :: (bx b1 [vU a2.1, vU a2.2] 27) :: As) _ := S76
  obtain ⟨m65, l29, S77⟩ := St.drop S76 0
  replace T1 := T1.up l29
  replace L0 := Mem.tr L0 l29
  clear S76
  replace S77 : St _ ((bx b1 [vU a2.1, vU a2.2] 27) :: As) _ := S77
  obtain ⟨m66, l30, S78⟩ := St.drop S77 0
  replace T1 := T1.up l30
  replace L0 := Mem.tr L0 l30
  clear S77
  replace S78 : St _ (As) _ := S78
  have e0 := Option.some.inj hm
  subst e0
  exact outR [_] rfl ⟨rfl, trivial⟩ ⟨_, L0, S78, rfl⟩

end Go.Proofs.YtohipjalgccmnaaDoor
