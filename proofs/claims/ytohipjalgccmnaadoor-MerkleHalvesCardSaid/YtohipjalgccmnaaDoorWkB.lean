/- The walks of some functions, written by program. Conditions: none. -/
import Derived.Test.YtohipjalgccmnaaDoorWkA
set_option maxHeartbeats 20000000
set_option maxRecDepth 100000
set_option linter.unusedVariables false
set_option linter.unusedSimpArgs false
namespace Go.Proofs.YtohipjalgccmnaaDoor
open Go Go.Gw

def m_bits_Len32 (a0 : UInt32) : Option Int :=
  obind (
    if (decide ((a0.toNat : Int) ≥ 65536)) = true then
      some ((shrW a0 16), 16)
    else
    some (a0, 0)
  ) fun x1 =>
  obind (
    if (decide ((x1.1.toNat : Int) ≥ 256)) = true then
      some ((shrW x1.1 8), (w64 (x1.2 + 8)))
    else
    some (x1.1, x1.2)
  ) fun x2 =>
  obind (idx str_0.data.toList ((toB (x2.1.toNat : Int)).toNat : Int)) fun x3 =>
  bnd ((w64 (x2.2 + (w64 (x3.toNat : Int))))) fun x4 =>
  some x4

theorem w_bits_Len32 {m : Mem} {As : List Ow} {w : World} {a0 : UInt32} {r : Int} (S : St m (As) w) (hm : m_bits_Len32 a0 = some r) :
    CallsR Tryd.prog 71 #[vW a0] w fun v w' => ∃ (M : Mem), m ≤ M ∧ St M (As) w' ∧ v = vI r := by
  unfold m_bits_Len32 at hm
  have L0 := Mem.rfl' m
  refine callsR (args := [vW a0]) Tryd.func71 rfl Tryd.ntmps71 (Nat.le_of_ble_eq_true rfl) ?_
  refine wpc_seq ?_
  refine wpc_region ?_
  refine s_asv (v := vI 0) rfl ?_
  refine wpl_nil ?_
  refine nrm ?_
  obtain ⟨x1, q1, hm⟩ := obind_some hm
  have L1 := Mem.rfl' m
  refine wpc_seq ?_
  refine wpc_join [0, 2, 3, 4, 5, 6] (fun f' w' => ∃ (M1 : Mem), m ≤ M1 ∧ St M1 (As) w' ∧ AllAt f' [(0, vW x1.1), (2, vI x1.2)]) ?_ ?_
  · refine wpc_seq ?_
    refine wpc_region ?_
    refine s_mvv (v := vW a0) rfl ?_
    refine s_geq (m := (a0.toNat : Int)) (n := 65536) rfl rfl ?_
    refine wpl_nil ?_
    refine nrm ?_
    refine wpc_if (t := (decide ((a0.toNat : Int) ≥ 65536))) rfl (fun hc1 => ?_) (fun hc1 => ?_)
    · replace q1 := ifT hc1 q1
      refine wpc_seq ?_
      refine wpc_region ?_
      refine s_mvv (v := vW a0) rfl ?_
      refine s_shrW (m := a0) (n := 16) rfl rfl (by decide) ?_
      refine s_asv (v := vW (shrW a0 16)) rfl ?_
      refine wpl_nil ?_
      refine nrm ?_
      refine wpc_region ?_
      refine s_asv (v := vI 16) rfl ?_
      refine wpl_nil ?_
      refine nrm ?_
      have e0 := Option.some.inj q1
      subst e0
      exact ⟨outP, m, L1, S, ⟨rfl, rfl, trivial⟩⟩
    replace q1 := ifF hc1 q1
    refine wpc_skip ?_
    refine nrm ?_
    have e0 := Option.some.inj q1
    subst e0
    exact ⟨outP, m, L1, S, ⟨rfl, rfl, trivial⟩⟩
  rintro f1 w1 ho ⟨m1, l1, S1, ha⟩
  obtain ⟨u1, rfl⟩ := fr_of (N := 19) ho ha
  replace L0 := Mem.tr L0 l1
  clear S
  obtain ⟨x2, q2, hm⟩ := obind_some hm
  have L2 := Mem.rfl' m1
  refine wpc_seq ?_
  refine wpc_join [0, 2, 7, 8, 9, 10, 11, 12] (fun f' w' => ∃ (M2 : Mem), m1 ≤ M2 ∧ St M2 (As) w' ∧ AllAt f' [(0, vW x2.1), (2, vI x2.2)]) ?_ ?_
  · refine wpc_seq ?_
    refine wpc_region ?_
    refine s_mvv (v := vW x1.1) rfl ?_
    refine s_geq (m := (x1.1.toNat : Int)) (n := 256) rfl rfl ?_
    refine wpl_nil ?_
    refine nrm ?_
    refine wpc_if (t := (decide ((x1.1.toNat : Int) ≥ 256))) rfl (fun hc2 => ?_) (fun hc2 => ?_)
    · replace q2 := ifT hc2 q2
      refine wpc_seq ?_
      refine wpc_region ?_
      refine s_mvv (v := vW x1.1) rfl ?_
      refine s_shrW (m := x1.1) (n := 8) rfl rfl (by decide) ?_
      refine s_asv (v := vW (shrW x1.1 8)) rfl ?_
      refine wpl_nil ?_
      refine nrm ?_
      refine wpc_region ?_
      refine s_mvv (v := vI x1.2) rfl ?_
      refine s_addI (m := x1.2) (n := 8) rfl rfl ?_
      refine s_asv (v := vI (w64 (x1.2 + 8))) rfl ?_
      refine wpl_nil ?_
      refine nrm ?_
      have e0 := Option.some.inj q2
      subst e0
      exact ⟨outP, m1, L2, S1, ⟨rfl, rfl, trivial⟩⟩
    replace q2 := ifF hc2 q2
    refine wpc_skip ?_
    refine nrm ?_
    have e0 := Option.some.inj q2
    subst e0
    exact ⟨outP, m1, L2, S1, ⟨rfl, rfl, trivial⟩⟩
  rintro f2 w2 ho ⟨m2, l2, S2, ha⟩
  obtain ⟨u2, rfl⟩ := fr_of (N := 19) ho ha
  replace L0 := Mem.tr L0 l2
  clear S1
  refine wpc_seq ?_
  refine wpc_region ?_
  refine s_mvv (v := vI x2.2) rfl ?_
  refine s_mvv (v := vW x2.1) rfl ?_
  refine s_convB rfl Tryd.underlying82 Tryd.underlying5 ?_
  obtain ⟨x3, q3, hm⟩ := obind_some hm
  refine s_indexS (s := str_0) (i := ((toB (x2.1.toNat : Int)).toNat : Int)) rfl rfl Tryd.underlying9 q3 ?_
  refine s_convI rfl Tryd.underlying5 Tryd.underlying3 ?_
  refine s_addI (m := x2.2) (n := (w64 (x3.toNat : Int))) rfl rfl ?_
  obtain ⟨x4, q4, hm⟩ := bnd_eq hm
  refine s_asv (v := vI x4) (congrArg (fun z => vI z) q4.symm) ?_
  refine wpl_nil ?_
  refine nrm ?_
  refine wpc_ret ?_
  refine outRw ?_
  intro we hpd
  replace S2 := St.pd S2 hpd
  have e0 := Option.some.inj hm
  subst e0
  exact outR [_] rfl ⟨rfl, trivial⟩ ⟨_, L0, S2, rfl⟩

def m_bits_Len64 (a0 : UInt64) : Option Int :=
  obind (
    if (decide ((a0.toNat : Int) ≥ 4294967296)) = true then
      some ((shrU a0 32), 32)
    else
    some (a0, 0)
  ) fun x1 =>
  obind (
    if (decide ((x1.1.toNat : Int) ≥ 65536)) = true then
      some ((shrU x1.1 16), (w64 (x1.2 + 16)))
    else
    some (x1.1, x1.2)
  ) fun x2 =>
  obind (
    if (decide ((x2.1.toNat : Int) ≥ 256)) = true then
      some ((shrU x2.1 8), (w64 (x2.2 + 8)))
    else
    some (x2.1, x2.2)
  ) fun x3 =>
  obind (idx str_0.data.toList ((toB (x3.1.toNat : Int)).toNat : Int)) fun x4 =>
  bnd ((w64 (x3.2 + (w64 (x4.toNat : Int))))) fun x5 =>
  some x5

theorem w_bits_Len64 {m : Mem} {As : List Ow} {w : World} {a0 : UInt64} {r : Int} (S : St m (As) w) (hm : m_bits_Len64 a0 = some r) :
    CallsR Tryd.prog 72 #[vU a0] w fun v w' => ∃ (M : Mem), m ≤ M ∧ St M (As) w' ∧ v = vI r := by
  unfold m_bits_Len64 at hm
  have L0 := Mem.rfl' m
  refine callsR (args := [vU a0]) Tryd.func72 rfl Tryd.ntmps72 (Nat.le_of_ble_eq_true rfl) ?_
  refine wpc_seq ?_
  refine wpc_region ?_
  refine s_asv (v := vI 0) rfl ?_
  refine wpl_nil ?_
  refine nrm ?_
  obtain ⟨x1, q1, hm⟩ := obind_some hm
  have L1 := Mem.rfl' m
  refine wpc_seq ?_
  refine wpc_join [0, 2, 3, 4, 5, 6] (fun f' w' => ∃ (M1 : Mem), m ≤ M1 ∧ St M1 (As) w' ∧ AllAt f' [(0, vU x1.1), (2, vI x1.2)]) ?_ ?_
  · refine wpc_seq ?_
    refine wpc_region ?_
    refine s_mvv (v := vU a0) rfl ?_
    refine s_geq (m := (a0.toNat : Int)) (n := 4294967296) rfl rfl ?_
    refine wpl_nil ?_
    refine nrm ?_
    refine wpc_if (t := (decide ((a0.toNat : Int) ≥ 4294967296))) rfl (fun hc1 => ?_) (fun hc1 => ?_)
    · replace q1 := ifT hc1 q1
      refine wpc_seq ?_
      refine wpc_region ?_
      refine s_mvv (v := vU a0) rfl ?_
      refine s_shrU (m := a0) (n := 32) rfl rfl (by decide) ?_
      refine s_asv (v := vU (shrU a0 32)) rfl ?_
      refine wpl_nil ?_
      refine nrm ?_
      refine wpc_region ?_
      refine s_asv (v := vI 32) rfl ?_
      refine wpl_nil ?_
      refine nrm ?_
      have e0 := Option.some.inj q1
      subst e0
      exact ⟨outP, m, L1, S, ⟨rfl, rfl, trivial⟩⟩
    replace q1 := ifF hc1 q1
    refine wpc_skip ?_
    refine nrm ?_
    have e0 := Option.some.inj q1
    subst e0
    exact ⟨outP, m, L1, S, ⟨rfl, rfl, trivial⟩⟩
  rintro f1 w1 ho ⟨m1, l1, S1, ha⟩
  obtain ⟨u1, rfl⟩ := fr_of (N := 25) ho ha
  replace L0 := Mem.tr L0 l1
  clear S
  obtain ⟨x2, q2, hm⟩ := obind_some hm
  have L2 := Mem.rfl' m1
  refine wpc_seq ?_
  refine wpc_join [0, 2, 7, 8, 9, 10, 11, 12] (fun f' w' => ∃ (M2 : Mem), m1 ≤ M2 ∧ St M2 (As) w' ∧ AllAt f' [(0, vU x2.1), (2, vI x2.2)]) ?_ ?_
  · refine wpc_seq ?_
    refine wpc_region ?_
    refine s_mvv (v := vU x1.1) rfl ?_
    refine s_geq (m := (x1.1.toNat : Int)) (n := 65536) rfl rfl ?_
    refine wpl_nil ?_
    refine nrm ?_
    refine wpc_if (t := (decide ((x1.1.toNat : Int) ≥ 65536))) rfl (fun hc2 => ?_) (fun hc2 => ?_)
    · replace q2 := ifT hc2 q2
      refine wpc_seq ?_
      refine wpc_region ?_
      refine s_mvv (v := vU x1.1) rfl ?_
      refine s_shrU (m := x1.1) (n := 16) rfl rfl (by decide) ?_
      refine s_asv (v := vU (shrU x1.1 16)) rfl ?_
      refine wpl_nil ?_
      refine nrm ?_
      refine wpc_region ?_
      refine s_mvv (v := vI x1.2) rfl ?_
      refine s_addI (m := x1.2) (n := 16) rfl rfl ?_
      refine s_asv (v := vI (w64 (x1.2 + 16))) rfl ?_
      refine wpl_nil ?_
      refine nrm ?_
      have e0 := Option.some.inj q2
      subst e0
      exact ⟨outP, m1, L2, S1, ⟨rfl, rfl, trivial⟩⟩
    replace q2 := ifF hc2 q2
    refine wpc_skip ?_
    refine nrm ?_
    have e0 := Option.some.inj q2
    subst e0
    exact ⟨outP, m1, L2, S1, ⟨rfl, rfl, trivial⟩⟩
  rintro f2 w2 ho ⟨m2, l2, S2, ha⟩
  obtain ⟨u2, rfl⟩ := fr_of (N := 25) ho ha
  replace L0 := Mem.tr L0 l2
  clear S1
  obtain ⟨x3, q3, hm⟩ := obind_some hm
  have L3 := Mem.rfl' m2
  refine wpc_seq ?_
  refine wpc_join [0, 2, 13, 14, 15, 16, 17, 18] (fun f' w' => ∃ (M3 : Mem), m2 ≤ M3 ∧ St M3 (As) w' ∧ AllAt f' [(0, vU x3.1), (2, vI x3.2)]) ?_ ?_
  · refine wpc_seq ?_
    refine wpc_region ?_
    refine s_mvv (v := vU x2.1) rfl ?_
    refine s_geq (m := (x2.1.toNat : Int)) (n := 256) rfl rfl ?_
    refine wpl_nil ?_
    refine nrm ?_
    refine wpc_if (t := (decide ((x2.1.toNat : Int) ≥ 256))) rfl (fun hc3 => ?_) (fun hc3 => ?_)
    · replace q3 := ifT hc3 q3
      refine wpc_seq ?_
      refine wpc_region ?_
      refine s_mvv (v := vU x2.1) rfl ?_
      refine s_shrU (m := x2.1) (n := 8) rfl rfl (by decide) ?_
      refine s_asv (v := vU (shrU x2.1 8)) rfl ?_
      refine wpl_nil ?_
      refine nrm ?_
      refine wpc_region ?_
      refine s_mvv (v := vI x2.2) rfl ?_
      refine s_addI (m := x2.2) (n := 8) rfl rfl ?_
      refine s_asv (v := vI (w64 (x2.2 + 8))) rfl ?_
      refine wpl_nil ?_
      refine nrm ?_
      have e0 := Option.some.inj q3
      subst e0
      exact ⟨outP, m2, L3, S2, ⟨rfl, rfl, trivial⟩⟩
    replace q3 := ifF hc3 q3
    refine wpc_skip ?_
    refine nrm ?_
    have e0 := Option.some.inj q3
    subst e0
    exact ⟨outP, m2, L3, S2, ⟨rfl, rfl, trivial⟩⟩
  rintro f3 w3 ho ⟨m3, l3, S3, ha⟩
  obtain ⟨u3, rfl⟩ := fr_of (N := 25) ho ha
  replace L0 := Mem.tr L0 l3
  clear S2
  refine wpc_seq ?_
  refine wpc_region ?_
  refine s_mvv (v := vI x3.2) rfl ?_
  refine s_mvv (v := vU x3.1) rfl ?_
  refine s_convB rfl Tryd.underlying25 Tryd.underlying5 ?_
  obtain ⟨x4, q4, hm⟩ := obind_some hm
  refine s_indexS (s := str_0) (i := ((toB (x3.1.toNat : Int)).toNat : Int)) rfl rfl Tryd.underlying9 q4 ?_
  refine s_convI rfl Tryd.underlying5 Tryd.underlying3 ?_
  refine s_addI (m := x3.2) (n := (w64 (x4.toNat : Int))) rfl rfl ?_
  obtain ⟨x5, q5, hm⟩ := bnd_eq hm
  refine s_asv (v := vI x5) (congrArg (fun z => vI z) q5.symm) ?_
  refine wpl_nil ?_
  refine nrm ?_
  refine wpc_ret ?_
  refine outRw ?_
  intro we hpd
  replace S3 := St.pd S3 hpd
  have e0 := Option.some.inj hm
  subst e0
  exact outR [_] rfl ⟨rfl, trivial⟩ ⟨_, L0, S3, rfl⟩

def m_bits_Len (a0 : UInt64) : Option Int :=
  obind (m_bits_Len64 a0) fun x1 =>
  some x1

theorem w_bits_Len {m : Mem} {As : List Ow} {w : World} {a0 : UInt64} {r : Int} (S : St m (As) w) (hm : m_bits_Len a0 = some r) :
    CallsR Tryd.prog 60 #[vU a0] w fun v w' => ∃ (M : Mem), m ≤ M ∧ St M (As) w' ∧ v = vI r := by
  unfold m_bits_Len at hm
  have L0 := Mem.rfl' m
  refine callsR (args := [vU a0]) Tryd.func60 rfl Tryd.ntmps60 (Nat.le_of_ble_eq_true rfl) ?_
  refine wpc_seq ?_
  refine wpc_region ?_
  refine s_asv (v := vI 0) rfl ?_
  refine wpl_nil ?_
  refine nrm ?_
  refine wpc_seq ?_
  refine wpc_false rfl ?_
  refine wpc_skip ?_
  refine nrm ?_
  refine wpc_seq ?_
  refine wpc_region ?_
  refine s_mvv (v := vU a0) rfl ?_
  obtain ⟨x1, q1, hm⟩ := obind_some hm
  refine s_call Tryd.call72 (w_bits_Len64 (a0 := a0) S  q1) rfl ?_
  rintro _ w1 ⟨m1, l1, S1, rfl⟩
  replace L0 := Mem.tr L0 l1
  clear S
  replace S1 : St _ (As) _ := S1
  refine s_asv (v := vI x1) rfl ?_
  refine wpl_nil ?_
  refine nrm ?_
  refine wpc_ret ?_
  refine outRw ?_
  intro we hpd
  replace S1 := St.pd S1 hpd
  have e0 := Option.some.inj hm
  subst e0
  exact outR [_] rfl ⟨rfl, trivial⟩ ⟨_, L0, S1, rfl⟩

def m_slices_Clone_api_Sum_api_Sum (a0 : List (UInt64 × UInt64)) : Option (List (UInt64 × UInt64)) :=
  obind (app 16 ([] : List (UInt64 × UInt64)) a0) fun x1 =>
  some x1

theorem w_slices_Clone_api_Sum_api_Sum {m : Mem} {As : List Ow} {w : World} {a0 : List (UInt64 × UInt64)} {a0v0 : Value} {r : List (UInt64 × UInt64)} (S : St m (As) w) (a0h0 : SlR m a0v0 a0) (hm : m_slices_Clone_api_Sum_api_Sum a0 = some r) :
    CallsR Tryd.prog 61 #[a0v0] w fun v w' => ∃ (M : Mem), m ≤ M ∧ ∃ (rv0 : Value) (rc0 : List Value), St M ((row 2 rv0 rc0 r.length) :: As) w' ∧ v = rv0 ∧ RepL M rc0 r := by
  unfold m_slices_Clone_api_Sum_api_Sum at hm
  have L0 := Mem.rfl' m
  refine callsR (args := [a0v0]) Tryd.func61 rfl Tryd.ntmps61 (Nat.le_of_ble_eq_true rfl) ?_
  refine wpc_seq ?_
  refine wpc_region ?_
  refine s_asv (v := .slice none 0 0) rfl ?_
  refine wpl_nil ?_
  refine nrm ?_
  refine wpc_seq ?_
  refine wpc_seq ?_
  refine wpc_region ?_
  refine s_mvv (v := a0v0) rfl ?_
  refine s_eqlNil rfl rfl a0h0 Tryd.underlying22 ?_
  refine wpl_nil ?_
  refine nrm ?_
  refine wpc_if (t := (isNilV a0v0)) rfl (fun hc1 => ?_) (fun hc1 => ?_)
  · have he1 : a0 = [] := SlR.nilOf a0h0 hc1
    rw [he1] at hm
    replace hm : (some ([] : List (UInt64 × UInt64))) = some _ := hm
    refine wpc_seq ?_
    refine wpc_region ?_
    refine s_asv (v := .slice none 0 0) rfl ?_
    refine wpl_nil ?_
    refine nrm ?_
    refine wpc_ret ?_
    refine thR ?_
    refine outRw ?_
    intro we hpd
    replace S := St.pd S hpd
    have S1 := St.rowNil S 2
    have h1 : RepL m [] ([] : List (UInt64 × UInt64)) := RepL.nil
    replace S1 : St _ ((row 2 (.slice none 0 0) [] ([] : List (UInt64 × UInt64)).length) :: As) _ := S1
    clear S
    have e0 := Option.some.inj hm
    subst e0
    exact outR [_] rfl ⟨rfl, trivial⟩ ⟨_, L0, _, _, S1, rfl, h1⟩
  refine wpc_skip ?_
  refine nrm ?_
  refine wpc_seq ?_
  refine wpc_region ?_
  refine s_litOC (parts := []) (vs := []) (cls := []) (n := 0) (sz := 2) S Tryd.underlying22 Tryd.sizeOf27 Tryd.zeroValue27 rfl trivial rfl rfl (by decide) (by decide) ?_
  intro v1 w1 S2
  have h2 : RepL m [] ([] : List (UInt64 × UInt64)) := RepL.nil
  replace S2 : St _ ((row 2 v1 [] ([] : List (UInt64 × UInt64)).length) :: As) _ := S2
  clear S
  refine s_mvv (v := a0v0) rfl ?_
  obtain ⟨x1, q1, hm⟩ := obind_some hm
  refine s_app (i := 0) (zs := x1) (bytes := 16) (ti := Tryd.t27) S2 rfl rfl h2 rfl rfl a0h0 q1 Tryd.underlying22 Tryd.type27 rfl rfl rfl rfl ?_
  intro v2 c1 w2 S3 h3
  replace S3 : St _ ((row 2 v2 c1 x1.length) :: As) _ := S3
  clear S2
  refine s_asv (v := v2) rfl ?_
  refine wpl_nil ?_
  refine nrm ?_
  refine wpc_ret ?_
  refine outRw ?_
  intro we hpd
  replace S3 := St.pd S3 hpd
  have e0 := Option.some.inj hm
  subst e0
  exact outR [_] rfl ⟨rfl, trivial⟩ ⟨_, L0, _, _, S3, rfl, h3⟩

def m_merkle_parts_1_b3  (i3 : Int) (s3 : (List (UInt64 × UInt64))) : Option ((List (UInt64 × UInt64))) :=
  obind (idx s3 (w64 (2 * (i3 : Int)))) fun x14 =>
  obind (idx s3 (w64 ((w64 (2 * (i3 : Int))) + 1))) fun x15 =>
  obind (m_hash_Pair x14 x15) fun x16 =>
  obind (idx s3 (i3 : Int)) fun x17 =>
  bnd (s3.set (i3 : Int).toNat x16) fun x18 =>
  some x18

def m_merkle_parts_1_b2  (s2 : (List (UInt64 × UInt64))) : Option (((List (UInt64 × UInt64))) ⊕ ((List (UInt64 × UInt64)))) :=
  if (decide ((s2.length : Int) > 1)) = true then
    obind (
      bnd (w64 (Int.tdiv (s2.length : Int) 2)) fun x11 =>
      obind (eachN0 m_merkle_parts_1_b3 (Int.toNat x11) 0 s2) fun x12 =>
      some x12
    ) fun x10 =>
    bnd (w64 (Int.tdiv (x10.length : Int) 2)) fun x19 =>
    if (0 : Int) ≤ x19 ∧ x19 ≤ (x10.length : Int) then
      some (.inl (x10.take x19.toNat))
    else none
  else
  some (.inr s2)

def m_merkle_parts_1_b1 {σ : Type} (p0 : σ → g_merkle_part → Option (Bool × σ)) (s1 : (List (UInt64 × UInt64)) × σ) : Option (((List (UInt64 × UInt64)) × σ) ⊕ (((List (UInt64 × UInt64)) × σ) ⊕ ((List (UInt64 × UInt64)) × σ))) :=
  if (decide ((s1.1.length : Int) > 0)) = true then
    obind (m_bits_Len (toU (s1.1.length : Int))) fun x3 =>
    if (0 : Int) ≤ (w64 (x3 - 1)) then
      bnd ((shl64 1 ((w64 (x3 - 1)).toNat))) fun x4 =>
      obind (cut s1.1 0 x4) fun x5 =>
      obind (m_slices_Clone_api_Sum_api_Sum x5) fun x6 =>
      obind (
        obind (iter m_merkle_parts_1_b2 FUEL x6) fun x8 =>
        some x8
      ) fun x7 =>
      obind (idx x7 0) fun x20 =>
      obind (p0 s1.2 (⟨x4, x20⟩ : g_merkle_part)) fun x21 =>
      if (!x21.1) = true then
        some (.inr (.inr (s1.1, x21.2)))
      else
      obind (cut s1.1 x4 (s1.1.length : Int)) fun x22 =>
      some (.inl (x22, x21.2))
    else none
  else
  some (.inr (.inl (s1.1, s1.2)))

def m_merkle_parts_1 {σ : Type} (p0 : σ → g_merkle_part → Option (Bool × σ)) (k0 : List (UInt64 × UInt64)) (s0 : σ) : Option ((List (UInt64 × UInt64)) × σ) :=
  obind (iter (m_merkle_parts_1_b1 p0) FUEL (k0, s0)) fun x1 => match x1 with
  | .inr r => some r
  | .inl y1 =>
  some (y1.1, y1.2)

theorem w_merkle_parts_1 {m : Mem} {As : List Ow} {w : World} {σ : Type} {R : σ → Mem → List Ow → Prop} {p0 : σ → g_merkle_part → Option (Bool × σ)} {f0 : Value} {kb0 : Nat} {k0 : List (UInt64 × UInt64)} {k0v0 : Value} {s0 : σ} {X0 : List Ow} {r : (List (UInt64 × UInt64)) × σ} (S : St m ((bx kb0 [k0v0] 22) :: (X0 ++ As)) w) (hup : ∀ {s M M' X}, M ≤ M' → R s M X → R s M' X) (hX0 : R s0 m X0) (cb0 : ∀ {m' : Mem} {As' : List Ow} {w' : World} {s : σ} {X : List Ow} {b0 : g_merkle_part} {r : Bool × σ}, St m' (X ++ As') w' → R s m' X → p0 s b0 = some r → CallV Tryd.prog f0 [.agg #[vI b0.size_, vU b0.root_.1, vU b0.root_.2]] w' fun v w'' => ∃ (M : Mem) (X' : List Ow), m' ≤ M ∧ St M (X' ++ As') w'' ∧ R r.2 M X' ∧ v = vb r.1) (k0h0 : SlR m k0v0 k0) (hm : m_merkle_parts_1 p0 k0 s0 = some r) :
    CallsR Tryd.prog 59 #[f0, pt kb0 0] w fun v w' => ∃ (M : Mem), m ≤ M ∧ ∃ (rb0_0 : Value) (X : List Ow), St M ((bx kb0 [rb0_0] 22) :: (X ++ As)) w' ∧ v = .tuple #[] ∧ SlR M rb0_0 r.1 ∧ R r.2 M X := by
  unfold m_merkle_parts_1 at hm
  have L0 := Mem.rfl' m
  refine callsR (args := [f0, pt kb0 0]) Tryd.func59 rfl Tryd.ntmps59 (Nat.le_of_ble_eq_true rfl) ?_
  obtain ⟨x1, q1, hm⟩ := obind_some hm
  have L1 := Mem.rfl' m
  refine wpc_wrap ?_
  refine wpc_join [3, 4, 5, 6, 7, 8, 9, 10, 11, 12, 13, 14, 15, 16, 17, 18, 19, 20, 21, 22, 23, 24, 25, 26, 27, 28, 29, 30, 31, 32, 33, 34, 35, 36, 37, 38, 39, 40, 41, 42, 43, 44, 45, 46, 47, 48, 49, 50, 51, 52, 53, 54, 55, 56, 57, 58, 59] (fun f' w' => ∃ (M1 : Mem) (y1 : (List (UInt64 × UInt64)) × σ) (v2 : Value) (X2 : List Ow), x1 = .inl y1 ∧ m ≤ M1 ∧ St M1 ((bx kb0 [v2] 22) :: (X2 ++ As)) w' ∧ SlR M1 v2 y1.1 ∧ R y1.2 M1 X2 ∧ AllAt f' []) ?_ ?_
  · refine wpc_block ?_
    refine wpc_rounds [3, 4, 5, 6, 7, 8, 9, 10, 11, 12, 13, 14, 15, 16, 17, 18, 19, 20, 21, 22, 23, 24, 25, 26, 27, 28, 29, 30, 31, 32, 33, 34, 35, 36, 37, 38, 39, 40, 41, 42, 43, 44, 45, 46, 47, 48, 49, 50, 51, 52, 53, 54, 55, 56, 57, 58, 59] (fun n1 f' w' => ∃ (s1 : (List (UInt64 × UInt64)) × σ) (m31 : Mem) (v1 : Value) (X1 : List Ow), iter (m_merkle_parts_1_b1 p0) n1 s1 = some x1 ∧ m ≤ m31 ∧ St m31 ((bx kb0 [v1] 22) :: (X1 ++ As)) w' ∧ SlR m31 v1 s1.1 ∧ R s1.2 m31 X1 ∧ AllAt f' []) FUEL ⟨(k0, s0), m, _, _, q1, L1, S, k0h0, hX0, trivial⟩ ?_
    rintro n1 f1 w1 ho ⟨s1, m1, v1, X1, q2, L3, S1, h1, h2, ha⟩
    obtain ⟨u1, rfl⟩ := fr_of (N := 60) ho ha
    clear ho ha
    have L2 := Mem.rfl' m1
    clear S
    cases n1 with
    | zero => exact (iter_zero q2).elim
    | succ n1 =>
      obtain ⟨y2, q4, q3⟩ := iter_succ q2
      unfold m_merkle_parts_1_b1 at q4
      refine wpc_seq ?_
      refine wpc_seq ?_
      refine wpc_region ?_
      refine s_ld (i := 0) (cs := [v1]) S1 rfl rfl Tryd.isAgg22 Tryd.sizeOf22 rfl (fun _ => rfl) ?_
      refine s_lenR (xs := s1.1) rfl h1 Tryd.underlying22 ?_
      refine s_gtr (m := (s1.1.length : Int)) (n := 0) rfl rfl ?_
      refine wpl_nil ?_
      refine nrm ?_
      refine wpc_if (t := (decide ((s1.1.length : Int) > 0))) rfl (fun hc1 => ?_) (fun hc1 => ?_)
      · replace q4 := ifT hc1 q4
        refine wpc_skip ?_
        refine nrm ?_
        refine wpc_block ?_
        refine wpc_seq ?_
        refine wpc_region ?_
        refine s_ld (i := 0) (cs := [v1]) S1 rfl rfl Tryd.isAgg22 Tryd.sizeOf22 rfl (fun _ => rfl) ?_
        refine s_lenR (xs := s1.1) rfl h1 Tryd.underlying22 ?_
        refine s_convU rfl Tryd.underlying3 Tryd.underlying45 ?_
        obtain ⟨x3, q6, q4⟩ := obind_some q4
        refine s_call Tryd.call60 (w_bits_Len (a0 := (toU (s1.1.length : Int))) S1  q6) rfl ?_
        rintro _ w2 ⟨m2, l1, S2, rfl⟩
        replace h1 := h1.up l1
        replace h2 := hup l1 h2
        replace L2 := Mem.tr L2 l1
        clear S1
        replace S2 : St _ ((bx kb0 [v1] 22) :: (X1 ++ As)) _ := S2
        refine s_subI (m := x3) (n := 1) rfl rfl ?_
        obtain ⟨q7, q4⟩ := if_some q4
        refine s_shlI (m := 1) (n := (w64 (x3 - 1))) rfl rfl q7 ?_
        obtain ⟨x4, q8, q4⟩ := bnd_eq q4
        refine s_asv (v := vI x4) (congrArg (fun z => vI z) q8.symm) ?_
        refine wpl_nil ?_
        refine nrm ?_
        refine wpc_seq ?_
        refine wpc_region ?_
        refine s_ld (i := 0) (cs := [v1]) S2 rfl rfl Tryd.isAgg22 Tryd.sizeOf22 rfl (fun _ => rfl) ?_
        refine s_mvv (v := vI x4) rfl ?_
        obtain ⟨x5, q9, q4⟩ := obind_some q4
        refine s_cut (ys := x5) (l := 0) (h := x4) rfl h1 Tryd.underlying22 Tryd.sizeOf27 (.inl ⟨rfl, rfl⟩) (.inr ⟨_, rfl⟩) (.inl rfl) q9 ?_
        intro v3 h5
        obtain ⟨x6, q10, q4⟩ := obind_some q4
        refine s_call Tryd.call61 (w_slices_Clone_api_Sum_api_Sum (a0 := x5) S2 h5 q10) rfl ?_
        rintro v4 w3 ⟨m3, l2, _, c1, S3, rfl, h6⟩
        replace h5 := h5.up l2
        replace h1 := h1.up l2
        replace h2 := hup l2 h2
        replace L2 := Mem.tr L2 l2
        clear S2
        replace S3 : St _ ((row 2 v4 c1 x6.length) :: (bx kb0 [v1] 22) :: (X1 ++ As)) _ := S3
        refine s_asv (v := v4) rfl ?_
        refine wpl_nil ?_
        refine nrm ?_
        obtain ⟨x7, q11, q4⟩ := obind_some q4
        have L4 := Mem.rfl' m3
        refine wpc_seq ?_
        refine wpc_join [4, 5, 19, 20, 21, 22, 23, 24, 25, 26, 27, 28, 29, 30, 31, 32, 33, 34, 35, 36, 37, 38, 39, 40, 41, 42, 43, 44, 45, 46, 47, 48] (fun f' w' => ∃ (M2 : Mem) (v5 : Value) (c2 : List Value), m3 ≤ M2 ∧ St M2 ((row 2 v5 c2 x7.length) :: (bx kb0 [v1] 22) :: (X1 ++ As)) w' ∧ RepL M2 c2 x7 ∧ AllAt f' [(4, v5)]) ?_ ?_
        · obtain ⟨x8, q12, q11⟩ := obind_some q11
          have L5 := Mem.rfl' m3
          refine wpc_join [4, 5, 19, 20, 21, 22, 23, 24, 25, 26, 27, 28, 29, 30, 31, 32, 33, 34, 35, 36, 37, 38, 39, 40, 41, 42, 43, 44, 45, 46, 47, 48] (fun f' w' => ∃ (M3 : Mem) (v7 : Value) (c4 : List Value), m3 ≤ M3 ∧ St M3 ((row 2 v7 c4 x8.length) :: (bx kb0 [v1] 22) :: (X1 ++ As)) w' ∧ RepL M3 c4 x8 ∧ AllAt f' [(4, v7)]) ?_ ?_
          · refine wpc_block ?_
            refine wpc_rounds [4, 5, 19, 20, 21, 22, 23, 24, 25, 26, 27, 28, 29, 30, 31, 32, 33, 34, 35, 36, 37, 38, 39, 40, 41, 42, 43, 44, 45, 46, 47, 48] (fun n2 f' w' => ∃ (s2 : (List (UInt64 × UInt64))) (m25 : Mem) (v6 : Value) (c3 : List Value), iter m_merkle_parts_1_b2 n2 s2 = some x8 ∧ m3 ≤ m25 ∧ St m25 ((row 2 v6 c3 s2.length) :: (bx kb0 [v1] 22) :: (X1 ++ As)) w' ∧ RepL m25 c3 s2 ∧ AllAt f' [(4, v6)]) FUEL ⟨x6, m3, _, _, q12, L5, S3, h6, ⟨rfl, trivial⟩⟩ ?_
            rintro n2 f2 w4 ho ⟨s2, m4, v6, c3, q13, L7, S4, h8, ha⟩
            obtain ⟨u2, rfl⟩ := fr_of (N := 60) ho ha
            clear ho ha
            replace h1 := h1.up L7
            replace h2 := hup L7 h2
            have L6 := Mem.rfl' m4
            clear S3
            cases n2 with
            | zero => exact (iter_zero q13).elim
            | succ n2 =>
              obtain ⟨y3, q15, q14⟩ := iter_succ q13
              unfold m_merkle_parts_1_b2 at q15
              refine wpc_seq ?_
              refine wpc_seq ?_
              refine wpc_region ?_
              refine s_mvv (v := v6) rfl ?_
              refine s_lenO (i := 0) S4 rfl rfl Tryd.underlying22 ?_
              refine s_gtr (m := (s2.length : Int)) (n := 1) rfl rfl ?_
              refine wpl_nil ?_
              refine nrm ?_
              refine wpc_if (t := (decide ((s2.length : Int) > 1))) rfl (fun hc2 => ?_) (fun hc2 => ?_)
              · replace q15 := ifT hc2 q15
                refine wpc_skip ?_
                refine nrm ?_
                refine wpc_block ?_
                obtain ⟨x10, q17, q15⟩ := obind_some q15
                have L8 := Mem.rfl' m4
                refine wpc_seq ?_
                refine wpc_join [5, 22, 23, 24, 25, 26, 27, 28, 29, 30, 31, 32, 33, 34, 35, 36, 37, 38, 39, 40, 41, 42, 43] (fun f' w' => ∃ (M4 : Mem) (c5 : List Value), m4 ≤ M4 ∧ St M4 ((row 2 v6 c5 x10.length) :: (bx kb0 [v1] 22) :: (X1 ++ As)) w' ∧ RepL M4 c5 x10 ∧ AllAt f' []) ?_ ?_
                · refine wpc_seq ?_
                  refine wpc_region ?_
                  refine s_mvv (v := v6) rfl ?_
                  refine s_lenO (i := 0) S4 rfl rfl Tryd.underlying22 ?_
                  refine s_quoI (m := (s2.length : Int)) (n := 2) rfl rfl (by decide) ?_
                  obtain ⟨x11, q18, q17⟩ := bnd_eq q17
                  refine s_re (congrArg (fun z => vI z) q18.symm) ?_
                  refine s_mvv (v := vI 0) rfl ?_
                  refine wpl_nil ?_
                  refine nrm ?_
                  obtain ⟨x12, q19, q17⟩ := obind_some q17
                  have L9 := Mem.rfl' m4
                  refine wpc_join [5, 25, 26, 27, 28, 29, 30, 31, 32, 33, 34, 35, 36, 37, 38, 39, 40, 41, 42, 43] (fun f' w' => ∃ (M5 : Mem) (c7 : List Value), m4 ≤ M5 ∧ St M5 ((row 2 v6 c7 x12.length) :: (bx kb0 [v1] 22) :: (X1 ++ As)) w' ∧ RepL M5 c7 x12 ∧ AllAt f' []) ?_ ?_
                  · refine wpc_block ?_
                    refine wpc_rounds [5, 25, 26, 27, 28, 29, 30, 31, 32, 33, 34, 35, 36, 37, 38, 39, 40, 41, 42, 43] (fun n3 f' w' => ∃ (i3 : Nat) (s3 : (List (UInt64 × UInt64))) (m22 : Mem) (c6 : List Value), n3 = (Int.toNat x11) - i3 ∧ i3 ≤ (Int.toNat x11) ∧ eachN0 m_merkle_parts_1_b3 ((Int.toNat x11) - i3) (i3 : Int) s3 = some x12 ∧ m4 ≤ m22 ∧ St m22 ((row 2 v6 c6 s3.length) :: (bx kb0 [v1] 22) :: (X1 ++ As)) w' ∧ RepL m22 c6 s3 ∧ AllAt f' [(25, vI (i3 : Int))]) (Int.toNat x11) ⟨0, s2, m4, _, rfl, Nat.zero_le _, q19, L9, S4, h8, ⟨rfl, trivial⟩⟩ ?_
                    rintro n3 f3 w5 ho ⟨i3, s3, m5, c6, hn, hi, q20, L11, S5, h11, ha⟩
                    obtain ⟨u3, rfl⟩ := fr_of (N := 60) ho ha
                    clear ho ha
                    replace h1 := h1.up L11
                    replace h2 := hup L11 h2
                    have L10 := Mem.rfl' m5
                    clear S4
                    refine wpc_seq ?_
                    refine wpc_region ?_
                    refine s_lss (m := (i3 : Int)) (n := x11) rfl rfl ?_
                    refine wpl_nil ?_
                    refine nrm ?_
                    refine wpc_seq ?_
                    refine wpc_if (t := decide ((i3 : Int) < x11)) rfl (fun hc3 => ?_) (fun hc3 => ?_)
                    · have hlt3 : i3 < (Int.toNat x11) := by have := of_decide_eq_true hc3; omega
                      obtain ⟨y4, q22, q21⟩ := eachN0_in q20 hlt3
                      unfold m_merkle_parts_1_b3 at q22
                      refine wpc_skip ?_
                      refine nrm ?_
                      refine wpc_seq ?_
                      refine wpc_block ?_
                      refine wpc_seq ?_
                      refine wpc_region ?_
                      refine s_mvv (v := vI (i3 : Int)) rfl ?_
                      refine s_asv (v := vI (i3 : Int)) rfl ?_
                      refine wpl_nil ?_
                      refine nrm ?_
                      obtain ⟨x14, q24, q22⟩ := obind_some q22
                      obtain ⟨x15, q25, q22⟩ := obind_some q22
                      obtain ⟨x16, q26, q22⟩ := obind_some q22
                      have HM : MonoAll [(28, fun (M : Mem) (v : Value) => v = v6), (29, fun (M : Mem) (v : Value) => v = vI (i3 : Int)), (30, fun (M : Mem) (v : Value) => v = v6), (31, fun (M : Mem) (v : Value) => v = vI (i3 : Int)), (32, fun (M : Mem) (v : Value) => v = vI (w64 (2 * (i3 : Int)))), (33, fun (M : Mem) (v : Value) => ∃ (p1 : Value), v = p1 ∧ PtO v6 p1 ((w64 (2 * (i3 : Int))).toNat * 2)), (34, fun (M : Mem) (v : Value) => v = .agg #[vU x14.1, vU x14.2]), (35, fun (M : Mem) (v : Value) => v = v6), (36, fun (M : Mem) (v : Value) => v = vI (i3 : Int)), (37, fun (M : Mem) (v : Value) => v = vI (w64 (2 * (i3 : Int)))), (38, fun (M : Mem) (v : Value) => v = vI (w64 ((w64 (2 * (i3 : Int))) + 1))), (39, fun (M : Mem) (v : Value) => ∃ (p2 : Value), v = p2 ∧ PtO v6 p2 ((w64 ((w64 (2 * (i3 : Int))) + 1)).toNat * 2)), (40, fun (M : Mem) (v : Value) => v = .agg #[vU x15.1, vU x15.2]), (41, fun (M : Mem) (v : Value) => v = .agg #[vU x16.1, vU x16.2])] := ⟨(fun _ _ _ _ h => h), (fun _ _ _ _ h => h), (fun _ _ _ _ h => h), (fun _ _ _ _ h => h), (fun _ _ _ _ h => h), (fun _ _ _ l ⟨p1, e, h13⟩ => ⟨p1, e, h13⟩), (fun _ _ _ _ h => h), (fun _ _ _ _ h => h), (fun _ _ _ _ h => h), (fun _ _ _ _ h => h), (fun _ _ _ _ h => h), (fun _ _ _ l ⟨p2, e, h15⟩ => ⟨p2, e, h15⟩), (fun _ _ _ _ h => h), (fun _ _ _ _ h => h), trivial⟩
                      refine wpc_flowG HM 14 mixed rfl rfl rfl [28, 29, 30, 31, 32, 33, 34, 35, 36, 37, 38, 39, 40, 41] (fun L f M w => St M ((row 2 v6 c6 s3.length) :: (bx kb0 [v1] 22) :: (X1 ++ As)) w) (St.drew S5 _) ?_ ?_
                      · refine ⟨?_, ?_, ?_, ?_, ?_, ?_, ?_, ?_, ?_, ?_, ?_, ?_, ?_, ?_, trivial⟩
                        · intro L f4 w6 hL hd hc ⟨m6, L12, S6, K, hO⟩
                          obtain ⟨u4, rfl⟩ := fr_of (N := 60) (L := []) hO trivial
                          replace S6 : St _ ((row 2 v6 c6 s3.length) :: (bx kb0 [v1] 22) :: (X1 ++ As)) _ := S6
                          have L13 := Mem.rfl' m6
                          refine s_mvv (v := v6) rfl ?_
                          refine wpn ?_
                          refine ⟨m6, Mem.tr L12 L13, ?_, facts_step HM rfl K L13 rfl rfl rfl, outP⟩
                          exact S6
                        · intro L f5 w7 hL hd hc ⟨m7, L14, S7, K, hO⟩
                          obtain ⟨u5, rfl⟩ := fr_of (N := 60) (L := []) hO trivial
                          replace S7 : St _ ((row 2 v6 c6 s3.length) :: (bx kb0 [v1] 22) :: (X1 ++ As)) _ := S7
                          have L15 := Mem.rfl' m7
                          refine s_mvv (v := vI (i3 : Int)) rfl ?_
                          refine wpn ?_
                          refine ⟨m7, Mem.tr L14 L15, ?_, facts_step HM rfl K L15 rfl rfl rfl, outP⟩
                          exact S7
                        · intro L f6 w8 hL hd hc ⟨m8, L16, S8, K, hO⟩
                          obtain ⟨u6, rfl⟩ := fr_of (N := 60) (L := []) hO trivial
                          replace S8 : St _ ((row 2 v6 c6 s3.length) :: (bx kb0 [v1] 22) :: (X1 ++ As)) _ := S8
                          have L17 := Mem.rfl' m8
                          refine s_mvv (v := v6) rfl ?_
                          refine wpn ?_
                          refine ⟨m8, Mem.tr L16 L17, ?_, facts_step HM rfl K L17 rfl rfl rfl, outP⟩
                          exact S8
                        · intro L f7 w9 hL hd hc ⟨m9, L18, S9, K, hO⟩
                          obtain ⟨u7, rfl⟩ := fr_of (N := 60) (L := []) hO trivial
                          replace S9 : St _ ((row 2 v6 c6 s3.length) :: (bx kb0 [v1] 22) :: (X1 ++ As)) _ := S9
                          have L19 := Mem.rfl' m9
                          refine s_mvv (v := vI (i3 : Int)) rfl ?_
                          refine wpn ?_
                          refine ⟨m9, Mem.tr L18 L19, ?_, facts_step HM rfl K L19 rfl rfl rfl, outP⟩
                          exact S9
                        · intro L f8 w10 hL hd hc ⟨m10, L20, S10, K, hO⟩
                          have d3 : L 3 = true := dep hd rfl
                          have e1 := K 3 d3
                          obtain ⟨u8, rfl⟩ := fr_of (N := 60) (L := [(31, vI (i3 : Int))]) hO ⟨e1, trivial⟩
                          replace S10 : St _ ((row 2 v6 c6 s3.length) :: (bx kb0 [v1] 22) :: (X1 ++ As)) _ := S10
                          have L21 := Mem.rfl' m10
                          refine s_mulI (m := 2) (n := (i3 : Int)) rfl rfl ?_
                          refine wpn ?_
                          refine ⟨m10, Mem.tr L20 L21, ?_, facts_step HM rfl K L21 rfl rfl rfl, outP⟩
                          exact S10
                        · intro L f9 w11 hL hd hc ⟨m11, L22, S11, K, hO⟩
                          have d2 : L 2 = true := dep hd rfl
                          have e2 := K 2 d2
                          have d4 : L 4 = true := dep hd rfl
                          have e3 := K 4 d4
                          obtain ⟨u9, rfl⟩ := fr_of (N := 60) (L := [(30, v6), (32, vI (w64 (2 * (i3 : Int))))]) hO ⟨e2, e3, trivial⟩
                          replace S11 : St _ ((row 2 v6 c6 s3.length) :: (bx kb0 [v1] 22) :: (X1 ++ As)) _ := S11
                          replace h11 := RepL.up L22 h11
                          replace h1 := h1.up L22
                          replace h2 := hup L22 h2
                          have L23 := Mem.rfl' m11
                          refine s_idxO (i := 0) (j := (w64 (2 * (i3 : Int)))) S11 rfl rfl rfl (idx_rng q24).1 (idx_rng q24).2 Tryd.underlying22 Tryd.sizeOf27 ?_
                          intro p1 h13
                          refine wpn ?_
                          refine ⟨m11, Mem.tr L22 L23, ?_, facts_step HM rfl K L23 rfl rfl ⟨p1, rfl, h13⟩, outP⟩
                          exact S11
                        · intro L f10 w12 hL hd hc ⟨m12, L24, S12, K, hO⟩
                          have d5 : L 5 = true := dep hd rfl
                          obtain ⟨v8, e4, h14⟩ := K 5 d5
                          obtain ⟨u10, rfl⟩ := fr_of (N := 60) (L := [(33, v8)]) hO ⟨e4, trivial⟩
                          replace S12 : St _ ((row 2 v6 c6 s3.length) :: (bx kb0 [v1] 22) :: (X1 ++ As)) _ := S12
                          replace h11 := RepL.up L24 h11
                          replace h1 := h1.up L24
                          replace h2 := hup L24 h2
                          have L25 := Mem.rfl' m12
                          have e5 := rep_arr2_UInt64 (RepL.getI h11 q24)
                          refine s_ldO (i := 0) (off := (w64 (2 * (i3 : Int))).toNat * 2) (d := [vU x14.1, vU x14.2]) S12 rfl h14 rfl e5 Tryd.isAgg27 Tryd.sizeOf27 (fun h => by cases h) ?_
                          refine wpn ?_
                          refine ⟨m12, Mem.tr L24 L25, ?_, facts_step HM rfl K L25 rfl rfl rfl, outP⟩
                          exact S12
                        · intro L f11 w13 hL hd hc ⟨m13, L26, S13, K, hO⟩
                          obtain ⟨u11, rfl⟩ := fr_of (N := 60) (L := []) hO trivial
                          replace S13 : St _ ((row 2 v6 c6 s3.length) :: (bx kb0 [v1] 22) :: (X1 ++ As)) _ := S13
                          have L27 := Mem.rfl' m13
                          refine s_mvv (v := v6) rfl ?_
                          refine wpn ?_
                          refine ⟨m13, Mem.tr L26 L27, ?_, facts_step HM rfl K L27 rfl rfl rfl, outP⟩
                          exact S13
                        · intro L f12 w14 hL hd hc ⟨m14, L28, S14, K, hO⟩
                          obtain ⟨u12, rfl⟩ := fr_of (N := 60) (L := []) hO trivial
                          replace S14 : St _ ((row 2 v6 c6 s3.length) :: (bx kb0 [v1] 22) :: (X1 ++ As)) _ := S14
                          have L29 := Mem.rfl' m14
                          refine s_mvv (v := vI (i3 : Int)) rfl ?_
                          refine wpn ?_
                          refine ⟨m14, Mem.tr L28 L29, ?_, facts_step HM rfl K L29 rfl rfl rfl, outP⟩
                          exact S14
                        · intro L f13 w15 hL hd hc ⟨m15, L30, S15, K, hO⟩
                          have d8 : L 8 = true := dep hd rfl
                          have e6 := K 8 d8
                          obtain ⟨u13, rfl⟩ := fr_of (N := 60) (L := [(36, vI (i3 : Int))]) hO ⟨e6, trivial⟩
                          replace S15 : St _ ((row 2 v6 c6 s3.length) :: (bx kb0 [v1] 22) :: (X1 ++ As)) _ := S15
                          have L31 := Mem.rfl' m15
                          refine s_mulI (m := 2) (n := (i3 : Int)) rfl rfl ?_
                          refine wpn ?_
                          refine ⟨m15, Mem.tr L30 L31, ?_, facts_step HM rfl K L31 rfl rfl rfl, outP⟩
                          exact S15
                        · intro L f14 w16 hL hd hc ⟨m16, L32, S16, K, hO⟩
                          have d9 : L 9 = true := dep hd rfl
                          have e7 := K 9 d9
                          obtain ⟨u14, rfl⟩ := fr_of (N := 60) (L := [(37, vI (w64 (2 * (i3 : Int))))]) hO ⟨e7, trivial⟩
                          replace S16 : St _ ((row 2 v6 c6 s3.length) :: (bx kb0 [v1] 22) :: (X1 ++ As)) _ := S16
                          have L33 := Mem.rfl' m16
                          refine s_addI (m := (w64 (2 * (i3 : Int)))) (n := 1) rfl rfl ?_
                          refine wpn ?_
                          refine ⟨m16, Mem.tr L32 L33, ?_, facts_step HM rfl K L33 rfl rfl rfl, outP⟩
                          exact S16
                        · intro L f15 w17 hL hd hc ⟨m17, L34, S17, K, hO⟩
                          have d7 : L 7 = true := dep hd rfl
                          have e8 := K 7 d7
                          have d10 : L 10 = true := dep hd rfl
                          have e9 := K 10 d10
                          obtain ⟨u15, rfl⟩ := fr_of (N := 60) (L := [(35, v6), (38, vI (w64 ((w64 (2 * (i3 : Int))) + 1)))]) hO ⟨e8, e9, trivial⟩
                          replace S17 : St _ ((row 2 v6 c6 s3.length) :: (bx kb0 [v1] 22) :: (X1 ++ As)) _ := S17
                          replace h11 := RepL.up L34 h11
                          replace h1 := h1.up L34
                          replace h2 := hup L34 h2
                          have L35 := Mem.rfl' m17
                          refine s_idxO (i := 0) (j := (w64 ((w64 (2 * (i3 : Int))) + 1))) S17 rfl rfl rfl (idx_rng q25).1 (idx_rng q25).2 Tryd.underlying22 Tryd.sizeOf27 ?_
                          intro p2 h15
                          refine wpn ?_
                          refine ⟨m17, Mem.tr L34 L35, ?_, facts_step HM rfl K L35 rfl rfl ⟨p2, rfl, h15⟩, outP⟩
                          exact S17
                        · intro L f16 w18 hL hd hc ⟨m18, L36, S18, K, hO⟩
                          have d11 : L 11 = true := dep hd rfl
                          obtain ⟨v9, e10, h16⟩ := K 11 d11
                          obtain ⟨u16, rfl⟩ := fr_of (N := 60) (L := [(39, v9)]) hO ⟨e10, trivial⟩
                          replace S18 : St _ ((row 2 v6 c6 s3.length) :: (bx kb0 [v1] 22) :: (X1 ++ As)) _ := S18
                          replace h11 := RepL.up L36 h11
                          replace h1 := h1.up L36
                          replace h2 := hup L36 h2
                          have L37 := Mem.rfl' m18
                          have e11 := rep_arr2_UInt64 (RepL.getI h11 q25)
                          refine s_ldO (i := 0) (off := (w64 ((w64 (2 * (i3 : Int))) + 1)).toNat * 2) (d := [vU x15.1, vU x15.2]) S18 rfl h16 rfl e11 Tryd.isAgg27 Tryd.sizeOf27 (fun h => by cases h) ?_
                          refine wpn ?_
                          refine ⟨m18, Mem.tr L36 L37, ?_, facts_step HM rfl K L37 rfl rfl rfl, outP⟩
                          exact S18
                        · intro L f17 w19 hL hd hc ⟨m19, L38, S19, K, hO⟩
                          have d6 : L 6 = true := dep hd rfl
                          have e12 := K 6 d6
                          have d12 : L 12 = true := dep hd rfl
                          have e13 := K 12 d12
                          obtain ⟨u17, rfl⟩ := fr_of (N := 60) (L := [(34, .agg #[vU x14.1, vU x14.2]), (40, .agg #[vU x15.1, vU x15.2])]) hO ⟨e12, e13, trivial⟩
                          replace S19 : St _ ((row 2 v6 c6 s3.length) :: (bx kb0 [v1] 22) :: (X1 ++ As)) _ := S19
                          replace h11 := RepL.up L38 h11
                          replace h1 := h1.up L38
                          replace h2 := hup L38 h2
                          have L39 := Mem.rfl' m19
                          refine s_call Tryd.call29 (w_hash_Pair (a0 := x14) (a1 := x15) S19  q26) rfl ?_
                          rintro _ w20 ⟨m20, l3, S20, rfl⟩
                          replace h11 := RepL.up l3 h11
                          replace h1 := h1.up l3
                          replace L39 := Mem.tr L39 l3
                          clear S19
                          replace S20 : St _ ((row 2 v6 c6 s3.length) :: (bx kb0 [v1] 22) :: (X1 ++ As)) _ := S20
                          refine wpn ?_
                          refine ⟨m20, Mem.tr L38 L39, ?_, facts_step HM rfl K L39 rfl rfl rfl, outP⟩
                          exact S20
                      intro L f18 w21 hall ⟨m21, L40, S21, K, hO⟩
                      have d0 : L 0 = true := hall 0 (by decide)
                      have e14 := K 0 d0
                      have d1 : L 1 = true := hall 1 (by decide)
                      have e15 := K 1 d1
                      have d13 : L 13 = true := hall 13 (by decide)
                      have e16 := K 13 d13
                      obtain ⟨u18, rfl⟩ := fr_of (N := 60) (L := [(28, v6), (29, vI (i3 : Int)), (41, .agg #[vU x16.1, vU x16.2])]) hO ⟨e14, e15, e16, trivial⟩
                      replace S21 : St _ ((row 2 v6 c6 s3.length) :: (bx kb0 [v1] 22) :: (X1 ++ As)) _ := S21
                      replace h11 := RepL.up L40 h11
                      replace h1 := h1.up L40
                      replace h2 := hup L40 h2
                      replace L10 := Mem.tr L10 L40
                      clear S5
                      obtain ⟨x17, q27, q22⟩ := obind_some q22
                      refine s_idxO (i := 0) (j := (i3 : Int)) S21 rfl rfl rfl (idx_rng q27).1 (idx_rng q27).2 Tryd.underlying22 Tryd.sizeOf27 ?_
                      intro p3 h17
                      obtain ⟨x18, q28, q22⟩ := bnd_eq q22
                      refine s_stOR (i := 0) (j := (i3 : Int)) (z := x16) S21 rfl rfl h17 rfl h11 q27 Tryd.sizeOf27 (oneC rfl (oneC rfl oneN)) mk_arr2_UInt64 ?_
                      intro w22 c8 S22 h18
                      rw [← q28] at S22 h18
                      replace S22 : St _ ((row 2 v6 c8 x18.length) :: (bx kb0 [v1] 22) :: (X1 ++ As)) _ := S22
                      clear S21
                      refine wpl_nil ?_
                      refine nrmB ?_
                      refine nrm ?_
                      refine wpc_region ?_
                      refine s_addI (m := (i3 : Int)) (n := 1) rfl rfl ?_
                      refine s_mvv (v := vI (w64 ((i3 : Int) + 1))) rfl ?_
                      refine wpl_nil ?_
                      refine nrm ?_
                      have e0 := Option.some.inj q22
                      subst e0
                      exact ⟨outP, _, (by omega), ⟨i3 + 1, x18, m21, _, rfl, hlt3, q21, Mem.tr L11 L10, S22, h18, ⟨congrArg (Value.int .i64) (w64_succ hlt3 (by rw [q18]; exact w64_toNat_le _)), trivial⟩⟩⟩
                    have hlt3 : ¬ i3 < (Int.toNat x11) := by have := of_decide_eq_false hc3; omega
                    have e := Eq.symm (eachN0_out q20 hlt3)
                    subst e
                    refine wpc_exit ?_
                    refine thE ?_
                    refine thE ?_
                    refine exB ?_
                    refine nrm ?_
                    exact ⟨outP, m5, _, Mem.tr L11 L10, S5, h11, trivial⟩
                  rintro f19 w23 ho ⟨m23, c7, l4, S23, h12, ha⟩
                  obtain ⟨u19, rfl⟩ := fr_of (N := 60) ho ha
                  clear ho ha
                  replace h1 := h1.up l4
                  replace h2 := hup l4 h2
                  replace L8 := Mem.tr L8 l4
                  clear S4
                  have e0 := Option.some.inj q17
                  subst e0
                  exact ⟨outP, m23, _, L8, S23, h12, trivial⟩
                rintro f20 w24 ho ⟨m24, c5, l5, S24, h10, ha⟩
                obtain ⟨u20, rfl⟩ := fr_of (N := 60) ho ha
                replace h1 := h1.up l5
                replace h2 := hup l5 h2
                replace L6 := Mem.tr L6 l5
                clear S4
                refine wpc_region ?_
                refine s_mvv (v := v6) rfl ?_
                refine s_mvv (v := v6) rfl ?_
                refine s_lenO (i := 0) S24 rfl rfl Tryd.underlying22 ?_
                refine s_quoI (m := (x10.length : Int)) (n := 2) rfl rfl (by decide) ?_
                obtain ⟨x19, q29, q15⟩ := bnd_eq q15
                refine s_re (congrArg (fun z => vI z) q29.symm) ?_
                obtain ⟨⟨q30, q31⟩, q15⟩ := if_some q15
                refine s_cutO (i := 0) S24 rfl rfl Tryd.underlying22 Tryd.sizeOf27 rfl rfl q30 q31 ?_
                intro v10 S25
                have h19 := RepL.take h10 x19.toNat
                replace S25 : St m24 ((row 2 v10 (c5.take (x19.toNat * 2)) (x10.take x19.toNat).length) :: (bx kb0 [v1] 22) :: (X1 ++ As)) w24 := by rw [show ((x10.take x19.toNat)).length = x19.toNat from by simp; omega]; exact S25
                clear S24
                refine s_asv (v := v10) rfl ?_
                refine wpl_nil ?_
                refine nrmB ?_
                refine nrm ?_
                have e0 := Option.some.inj q15
                subst e0
                rcases q14 with ⟨sn, e, q14'⟩ | e
                · cases e
                  exact ⟨outP, _, Nat.lt_succ_self _, ⟨_, m24, _, _, q14', Mem.tr L7 L6, S25, h19, ⟨rfl, trivial⟩⟩⟩
                · cases e
              replace q15 := ifF hc2 q15
              refine wpc_exit ?_
              refine thE ?_
              refine thE ?_
              refine exB ?_
              refine nrm ?_
              have e0 := Option.some.inj q15
              subst e0
              rcases q14 with ⟨sn, e, _⟩ | e
              · cases e
              · cases e
                exact ⟨outP, m4, _, _, Mem.tr L7 L6, S4, h8, ⟨rfl, trivial⟩⟩
          rintro f21 w25 ho ⟨m26, v7, c4, l6, S26, h9, ha⟩
          obtain ⟨u21, rfl⟩ := fr_of (N := 60) ho ha
          clear ho ha
          replace h1 := h1.up l6
          replace h2 := hup l6 h2
          replace L4 := Mem.tr L4 l6
          clear S3
          have e0 := Option.some.inj q11
          subst e0
          exact ⟨outP, m26, _, _, L4, S26, h9, ⟨rfl, trivial⟩⟩
        rintro f22 w26 ho ⟨m27, v5, c2, l7, S27, h7, ha⟩
        obtain ⟨u22, rfl⟩ := fr_of (N := 60) ho ha
        replace h1 := h1.up l7
        replace h2 := hup l7 h2
        replace L2 := Mem.tr L2 l7
        clear S3
        refine wpc_seq ?_
        refine wpc_seq ?_
        refine wpc_region ?_
        refine s_mvv (v := f0) rfl ?_
        refine s_mvv (v := vI x4) rfl ?_
        refine s_mvv (v := v5) rfl ?_
        obtain ⟨x20, q32, q4⟩ := obind_some q4
        refine s_idxO (i := 0) (j := 0) S27 rfl rfl rfl (idx_rng q32).1 (idx_rng q32).2 Tryd.underlying22 Tryd.sizeOf27 ?_
        intro p4 h20
        have e17 := rep_arr2_UInt64 (RepL.getI h7 q32)
        refine s_ldO (i := 0) (off := (0 : Int).toNat * 2) (d := [vU x20.1, vU x20.2]) S27 rfl h20 rfl e17 Tryd.isAgg27 Tryd.sizeOf27 (fun h => by cases h) ?_
        refine s_build (parts := [(0, .tmp 50), (1, .tmp 53)]) (ps := [(0, vI x4, [vI x4]), (1, .agg #[vU x20.1, vU x20.2], [vU x20.1, vU x20.2])]) (cs := [vI x4, vU x20.1, vU x20.2]) Tryd.zeroValue53 (BuildPl.str (ss := [1, 2]) Tryd.underlying53 ⟨Tryd.sizeOf3, Tryd.sizeOf27, trivial⟩) rfl ⟨rfl, rfl, trivial⟩ rfl ?_
        obtain ⟨x21, q33, q4⟩ := obind_some q4
        have S28 := St.absF (L := [row 2 v5 c2 x7.length, bx kb0 [v1] 22]) (X := X1) (As := As) S27
        refine s_callV rfl (cb0 S28 h2 q33) rfl ?_
        rintro _ w27 ⟨m28, X3, l8, S29, h21, rfl⟩
        replace S29 := St.absF (L := X3) (X := [row 2 v5 c2 x7.length, bx kb0 [v1] 22]) (As := As) S29
        clear S28
        replace h7 := RepL.up l8 h7
        replace h1 := h1.up l8
        replace L2 := Mem.tr L2 l8
        replace S29 : St _ ((row 2 v5 c2 x7.length) :: (bx kb0 [v1] 22) :: (X3 ++ As)) _ := S29
        clear S27
        refine s_not rfl ?_
        refine wpl_nil ?_
        refine nrm ?_
        refine wpc_if (t := (!x21.1)) rfl (fun hc4 => ?_) (fun hc4 => ?_)
        · replace q4 := ifT hc4 q4
          refine wpc_ret ?_
          refine thR ?_
          refine blR ?_
          refine thR ?_
          refine blR ?_
          refine thR ?_
          refine outRw ?_
          intro we hpd
          replace S29 := St.pd S29 hpd
          obtain ⟨m29, l9, S30⟩ := St.drop S29 0
          replace h1 := h1.up l9
          replace h21 := hup l9 h21
          replace L2 := Mem.tr L2 l9
          clear S29
          replace S30 : St _ ((bx kb0 [v1] 22) :: (X3 ++ As)) _ := S30
          cases q4
          rcases q3 with ⟨sn, e, _⟩ | e
          · cases e
          cases e
          dsimp only at hm
          have e0 := Option.some.inj hm
          subst e0
          exact outR [] rfl trivial ⟨_, (Mem.tr L0 (Mem.tr L3 L2)), _, _, S30, rfl, h1, h21⟩
        replace q4 := ifF hc4 q4
        refine wpc_skip ?_
        refine nrm ?_
        refine wpc_region ?_
        refine s_ld (i := 1) (cs := [v1]) S29 rfl rfl Tryd.isAgg22 Tryd.sizeOf22 rfl (fun _ => rfl) ?_
        refine s_mvv (v := vI x4) rfl ?_
        obtain ⟨x22, q34, q4⟩ := obind_some q4
        refine s_cut (ys := x22) (l := x4) (h := (s1.1.length : Int)) rfl h1 Tryd.underlying22 Tryd.sizeOf27 (.inr ⟨_, rfl⟩) (.inl ⟨rfl, rfl⟩) (.inl rfl) q34 ?_
        intro v11 h22
        refine s_stS (i := 1) S29 rfl rfl rfl Tryd.sizeOf22 ⟨SlR.cells h22, SlR.one h22⟩ rfl ?_
        intro w28 S31
        replace S31 : St _ ((row 2 v5 c2 x7.length) :: (bx kb0 [v11] 22) :: (X3 ++ As)) _ := S31
        clear S29
        refine wpl_nil ?_
        refine nrmB ?_
        refine nrm ?_
        obtain ⟨m30, l10, S32⟩ := St.drop S31 0
        replace h22 := h22.up l10
        replace h21 := hup l10 h21
        replace L2 := Mem.tr L2 l10
        clear S31
        replace S32 : St _ ((bx kb0 [v11] 22) :: (X3 ++ As)) _ := S32
        have e0 := Option.some.inj q4
        subst e0
        rcases q3 with ⟨sn, e, q3'⟩ | e
        · cases e
          exact ⟨outP, _, Nat.lt_succ_self _, ⟨_, m30, _, _, q3', Mem.tr L3 L2, S32, h22, h21, trivial⟩⟩
        · cases e
      replace q4 := ifF hc1 q4
      refine wpc_exit ?_
      refine thE ?_
      refine thE ?_
      refine exB ?_
      refine nrm ?_
      have e0 := Option.some.inj q4
      subst e0
      rcases q3 with ⟨sn, e, _⟩ | e
      · cases e
      · cases e
        exact ⟨outP, m1, _, _, _, rfl, Mem.tr L3 L2, S1, h1, h2, trivial⟩
  rintro f23 w29 ho ⟨m32, y1, v2, X2, rfl, l11, S33, h3, h4, ha⟩
  obtain ⟨u23, rfl⟩ := fr_of (N := 60) ho ha
  clear ho ha
  dsimp only at hm
  replace L0 := Mem.tr L0 l11
  clear S
  refine outNw ?_
  intro we hpd
  replace S33 := St.pd S33 hpd
  have e0 := Option.some.inj hm
  subst e0
  exact outR [] rfl trivial ⟨_, L0, _, _, S33, rfl, h3, h4⟩

def m_merkle_parts (a0 : List (UInt64 × UInt64)) : Option (List (UInt64 × UInt64)) :=
  some a0

theorem w_merkle_parts {m : Mem} {As : List Ow} {w : World} {a0 : List (UInt64 × UInt64)} {a0v0 : Value} {r : (List (UInt64 × UInt64))} (S : St m (As) w) (a0h0 : SlR m a0v0 a0) (hm : m_merkle_parts a0 = some r) :
    CallsR Tryd.prog 32 #[a0v0] w fun v w' => ∃ (M : Mem), m ≤ M ∧ ∃ (rk0_0 : Nat) (rc0_0_0 : Value), St M ((bx rk0_0 [rc0_0_0] 22) :: As) w' ∧ v = .func (.func 59) #[] #[pt rk0_0 0] ∧ SlR M rc0_0_0 r := by
  unfold m_merkle_parts at hm
  have L0 := Mem.rfl' m
  refine callsR (args := [a0v0]) Tryd.func32 rfl Tryd.ntmps32 (Nat.le_of_ble_eq_true rfl) ?_
  refine wpc_seq ?_
  refine wpc_region ?_
  refine s_boxS S rfl (SlR.cells a0h0) ?_
  intro b1 w1 S1
  replace S1 : St _ ((bx b1 [a0v0] 22) :: As) _ := S1
  clear S
  refine s_asv (v := .nilFunc) rfl ?_
  refine wpl_nil ?_
  refine nrm ?_
  refine wpc_seq ?_
  refine wpc_region ?_
  refine s_funcC (caps := [pt b1 0]) rfl ?_
  refine s_asv (v := .func (.func 59) #[] #[pt b1 0]) rfl ?_
  refine wpl_nil ?_
  refine nrm ?_
  refine wpc_ret ?_
  refine outRw ?_
  intro we hpd
  replace S1 := St.pd S1 hpd
  have e0 := Option.some.inj hm
  subst e0
  exact outR [_] rfl ⟨rfl, trivial⟩ ⟨_, L0, _, _, S1, rfl, a0h0⟩

def m_slices_Reverse_merkle_part_merkle_part_b1  (s1 : Int × Int × (List g_merkle_part)) : Option ((Int × Int × (List g_merkle_part)) ⊕ ((List g_merkle_part))) :=
  if (decide (s1.1 < s1.2.1)) = true then
    obind (idx s1.2.2 s1.2.1) fun x4 =>
    obind (idx s1.2.2 s1.1) fun x5 =>
    obind (idx s1.2.2 s1.1) fun x6 =>
    bnd (s1.2.2.set s1.1.toNat x4) fun x7 =>
    obind (idx x7 s1.2.1) fun x8 =>
    bnd (x7.set s1.2.1.toNat x5) fun x9 =>
    some (.inl ((w64 (s1.1 + 1)), (w64 (s1.2.1 - 1)), x9))
  else
  some (.inr s1.2.2)

def m_slices_Reverse_merkle_part_merkle_part (a0 : List g_merkle_part) : Option (List g_merkle_part) :=
  bnd ((w64 ((a0.length : Int) - 1))) fun x1 =>
  obind (iter m_slices_Reverse_merkle_part_merkle_part_b1 FUEL (0, x1, a0)) fun x2 =>
  some x2

theorem w_slices_Reverse_merkle_part_merkle_part {m : Mem} {As : List Ow} {w : World} {a0 : List g_merkle_part} {a0v0 : Value} {a0c0 : List Value} {r : List g_merkle_part} (S : St m ((row 3 a0v0 a0c0 a0.length) :: As) w) (a0h0 : RepL m a0c0 a0) (hm : m_slices_Reverse_merkle_part_merkle_part a0 = some r) :
    CallsR Tryd.prog 33 #[a0v0] w fun v w' => ∃ (M : Mem), m ≤ M ∧ ∃ (rk0 : List Value), St M ((row 3 a0v0 rk0 r.length) :: As) w' ∧ v = .tuple #[] ∧ RepL M rk0 r := by
  unfold m_slices_Reverse_merkle_part_merkle_part at hm
  have L0 := Mem.rfl' m
  refine callsR (args := [a0v0]) Tryd.func33 rfl Tryd.ntmps33 (Nat.le_of_ble_eq_true rfl) ?_
  refine wpc_seq ?_
  refine wpc_region ?_
  refine s_mvv (v := a0v0) rfl ?_
  refine s_lenO (i := 0) S rfl rfl Tryd.underlying50 ?_
  refine s_subI (m := (a0.length : Int)) (n := 1) rfl rfl ?_
  refine s_asv (v := vI 0) rfl ?_
  obtain ⟨x1, q1, hm⟩ := bnd_eq hm
  refine s_asv (v := vI x1) (congrArg (fun z => vI z) q1.symm) ?_
  refine wpl_nil ?_
  refine nrm ?_
  obtain ⟨x2, q2, hm⟩ := obind_some hm
  have L1 := Mem.rfl' m
  refine wpc_wrap ?_
  refine wpc_join [2, 3, 7, 8, 9, 10, 11, 12, 13, 14, 15, 16, 17, 18, 19, 20, 21, 22, 23, 24, 25, 26, 27] (fun f' w' => ∃ (M1 : Mem) (c2 : List Value), m ≤ M1 ∧ St M1 ((row 3 a0v0 c2 x2.length) :: As) w' ∧ RepL M1 c2 x2 ∧ AllAt f' []) ?_ ?_
  · refine wpc_block ?_
    refine wpc_rounds [2, 3, 7, 8, 9, 10, 11, 12, 13, 14, 15, 16, 17, 18, 19, 20, 21, 22, 23, 24, 25, 26, 27] (fun n1 f' w' => ∃ (s1 : Int × Int × (List g_merkle_part)) (m17 : Mem) (c1 : List Value), iter m_slices_Reverse_merkle_part_merkle_part_b1 n1 s1 = some x2 ∧ m ≤ m17 ∧ St m17 ((row 3 a0v0 c1 s1.2.2.length) :: As) w' ∧ RepL m17 c1 s1.2.2 ∧ AllAt f' [(2, vI s1.1), (3, vI s1.2.1)]) FUEL ⟨(0, x1, a0), m, _, q2, L1, S, a0h0, ⟨rfl, rfl, trivial⟩⟩ ?_
    rintro n1 f1 w1 ho ⟨s1, m1, c1, q3, L3, S1, h1, ha⟩
    obtain ⟨u1, rfl⟩ := fr_of (N := 28) ho ha
    clear ho ha
    have L2 := Mem.rfl' m1
    clear S
    cases n1 with
    | zero => exact (iter_zero q3).elim
    | succ n1 =>
      obtain ⟨y1, q5, q4⟩ := iter_succ q3
      unfold m_slices_Reverse_merkle_part_merkle_part_b1 at q5
      refine wpc_seq ?_
      refine wpc_seq ?_
      refine wpc_region ?_
      refine s_mvv (v := vI s1.1) rfl ?_
      refine s_mvv (v := vI s1.2.1) rfl ?_
      refine s_lss (m := s1.1) (n := s1.2.1) rfl rfl ?_
      refine wpl_nil ?_
      refine nrm ?_
      refine wpc_if (t := (decide (s1.1 < s1.2.1))) rfl (fun hc1 => ?_) (fun hc1 => ?_)
      · replace q5 := ifT hc1 q5
        refine wpc_skip ?_
        refine nrm ?_
        refine wpc_seq ?_
        refine wpc_block ?_
        obtain ⟨x4, q7, q5⟩ := obind_some q5
        obtain ⟨x5, q8, q5⟩ := obind_some q5
        obtain ⟨x6, q9, q5⟩ := obind_some q5
        obtain ⟨x7, q10, q5⟩ := bnd_eq q5
        have HM : MonoAll [(14, fun (M : Mem) (v : Value) => v = a0v0), (15, fun (M : Mem) (v : Value) => v = vI s1.1), (16, fun (M : Mem) (v : Value) => v = a0v0), (17, fun (M : Mem) (v : Value) => v = vI s1.2.1), (18, fun (M : Mem) (v : Value) => v = a0v0), (19, fun (M : Mem) (v : Value) => v = vI s1.2.1), (20, fun (M : Mem) (v : Value) => ∃ (p1 : Value), v = p1 ∧ PtO a0v0 p1 (s1.2.1.toNat * 3)), (21, fun (M : Mem) (v : Value) => v = .agg #[vI x4.size_, vU x4.root_.1, vU x4.root_.2]), (22, fun (M : Mem) (v : Value) => v = a0v0), (23, fun (M : Mem) (v : Value) => v = vI s1.1), (24, fun (M : Mem) (v : Value) => ∃ (p2 : Value), v = p2 ∧ PtO a0v0 p2 (s1.1.toNat * 3)), (25, fun (M : Mem) (v : Value) => v = .agg #[vI x5.size_, vU x5.root_.1, vU x5.root_.2]), (26, fun (M : Mem) (v : Value) => ∃ (p3 : Value), v = p3 ∧ PtO a0v0 p3 (s1.1.toNat * 3)), (100013, fun _ _ => True)] := ⟨(fun _ _ _ _ h => h), (fun _ _ _ _ h => h), (fun _ _ _ _ h => h), (fun _ _ _ _ h => h), (fun _ _ _ _ h => h), (fun _ _ _ _ h => h), (fun _ _ _ l ⟨p1, e, h4⟩ => ⟨p1, e, h4⟩), (fun _ _ _ _ h => h), (fun _ _ _ _ h => h), (fun _ _ _ _ h => h), (fun _ _ _ l ⟨p2, e, h8⟩ => ⟨p2, e, h8⟩), (fun _ _ _ _ h => h), (fun _ _ _ l ⟨p3, e, h12⟩ => ⟨p3, e, h12⟩), (fun _ _ _ _ h => h), trivial⟩
        refine wpc_flowG HM 14 mixed rfl rfl rfl [14, 15, 16, 17, 18, 19, 20, 21, 22, 23, 24, 25, 26] (fun L f M w => ∃ (X1 : List Ow), ((L 13 = false → (RowS M X1 3 a0v0 s1.2.2)) ∧ (L 13 = true → (RowS M X1 3 a0v0 x7))) ∧ St M ((X1 ++ As)) w) (⟨[row 3 a0v0 c1 s1.2.2.length], ⟨fun _ => ⟨_, rfl, h1⟩, fun hx => ff hx⟩, St.drew S1 _⟩) ?_ ?_
        · refine ⟨?_, ?_, ?_, ?_, ?_, ?_, ?_, ?_, ?_, ?_, ?_, ?_, ?_, ?_, trivial⟩
          · intro L f2 w2 hL hd hc ⟨m2, L4, ⟨X1, C1, S2⟩, K, hO⟩
            obtain ⟨u2, rfl⟩ := fr_of (N := 28) (L := []) hO trivial
            replace S2 : St _ ((X1 ++ As)) _ := S2
            have L5 := Mem.rfl' m2
            refine s_mvv (v := a0v0) rfl ?_
            refine wpn ?_
            refine ⟨m2, Mem.tr L4 L5, ⟨X1, C1, ?_⟩, facts_step HM rfl K L5 rfl rfl rfl, outP⟩
            exact S2
          · intro L f3 w3 hL hd hc ⟨m3, L6, ⟨X1, C2, S3⟩, K, hO⟩
            obtain ⟨u3, rfl⟩ := fr_of (N := 28) (L := []) hO trivial
            replace S3 : St _ ((X1 ++ As)) _ := S3
            have L7 := Mem.rfl' m3
            refine s_mvv (v := vI s1.1) rfl ?_
            refine wpn ?_
            refine ⟨m3, Mem.tr L6 L7, ⟨X1, C2, ?_⟩, facts_step HM rfl K L7 rfl rfl rfl, outP⟩
            exact S3
          · intro L f4 w4 hL hd hc ⟨m4, L8, ⟨X1, C3, S4⟩, K, hO⟩
            obtain ⟨u4, rfl⟩ := fr_of (N := 28) (L := []) hO trivial
            replace S4 : St _ ((X1 ++ As)) _ := S4
            have L9 := Mem.rfl' m4
            refine s_mvv (v := a0v0) rfl ?_
            refine wpn ?_
            refine ⟨m4, Mem.tr L8 L9, ⟨X1, C3, ?_⟩, facts_step HM rfl K L9 rfl rfl rfl, outP⟩
            exact S4
          · intro L f5 w5 hL hd hc ⟨m5, L10, ⟨X1, C4, S5⟩, K, hO⟩
            obtain ⟨u5, rfl⟩ := fr_of (N := 28) (L := []) hO trivial
            replace S5 : St _ ((X1 ++ As)) _ := S5
            have L11 := Mem.rfl' m5
            refine s_mvv (v := vI s1.2.1) rfl ?_
            refine wpn ?_
            refine ⟨m5, Mem.tr L10 L11, ⟨X1, C4, ?_⟩, facts_step HM rfl K L11 rfl rfl rfl, outP⟩
            exact S5
          · intro L f6 w6 hL hd hc ⟨m6, L12, ⟨X1, C5, S6⟩, K, hO⟩
            obtain ⟨u6, rfl⟩ := fr_of (N := 28) (L := []) hO trivial
            replace S6 : St _ ((X1 ++ As)) _ := S6
            have L13 := Mem.rfl' m6
            refine s_mvv (v := a0v0) rfl ?_
            refine wpn ?_
            refine ⟨m6, Mem.tr L12 L13, ⟨X1, C5, ?_⟩, facts_step HM rfl K L13 rfl rfl rfl, outP⟩
            exact S6
          · intro L f7 w7 hL hd hc ⟨m7, L14, ⟨X1, C6, S7⟩, K, hO⟩
            obtain ⟨u7, rfl⟩ := fr_of (N := 28) (L := []) hO trivial
            replace S7 : St _ ((X1 ++ As)) _ := S7
            have L15 := Mem.rfl' m7
            refine s_mvv (v := vI s1.2.1) rfl ?_
            refine wpn ?_
            refine ⟨m7, Mem.tr L14 L15, ⟨X1, C6, ?_⟩, facts_step HM rfl K L15 rfl rfl rfl, outP⟩
            exact S7
          · intro L f8 w8 hL hd hc ⟨m8, L16, ⟨X1, C7, S8⟩, K, hO⟩
            have d4 : L 4 = true := dep hd rfl
            have e1 := K 4 d4
            have d5 : L 5 = true := dep hd rfl
            have e2 := K 5 d5
            have d13 : L 13 = false := undep hc hL rfl
            obtain ⟨u8, rfl⟩ := fr_of (N := 28) (L := [(18, a0v0), (19, vI s1.2.1)]) hO ⟨e1, e2, trivial⟩
            replace S8 : St _ ((X1 ++ As)) _ := S8
            obtain ⟨c3, rfl, h3⟩ := C7.1 d13
            replace h3 : RepL _ c3 s1.2.2 := h3
            replace S8 : St _ ((row 3 a0v0 c3 s1.2.2.length) :: As) _ := S8
            have L17 := Mem.rfl' m8
            refine s_idxO (i := 0) (j := s1.2.1) S8 rfl rfl rfl (idx_rng q7).1 (idx_rng q7).2 Tryd.underlying50 Tryd.sizeOf53 ?_
            intro p1 h4
            refine wpn ?_
            refine ⟨m8, Mem.tr L16 L17, ⟨[row 3 a0v0 c3 s1.2.2.length], ⟨fun _ => ⟨_, rfl, h3⟩, fun hx => tf hx d13⟩, ?_⟩, facts_step HM rfl K L17 rfl rfl ⟨p1, rfl, h4⟩, outP⟩
            exact S8
          · intro L f9 w9 hL hd hc ⟨m9, L18, ⟨X1, C8, S9⟩, K, hO⟩
            have d6 : L 6 = true := dep hd rfl
            obtain ⟨v1, e3, h5⟩ := K 6 d6
            have d13 : L 13 = false := undep hc hL rfl
            obtain ⟨u9, rfl⟩ := fr_of (N := 28) (L := [(20, v1)]) hO ⟨e3, trivial⟩
            replace S9 : St _ ((X1 ++ As)) _ := S9
            obtain ⟨c4, rfl, h6⟩ := C8.1 d13
            replace h6 : RepL _ c4 s1.2.2 := h6
            replace S9 : St _ ((row 3 a0v0 c4 s1.2.2.length) :: As) _ := S9
            have L19 := Mem.rfl' m9
            have e4 := rep_g_merkle_part (RepL.getI h6 q7)
            refine s_ldO (i := 0) (off := s1.2.1.toNat * 3) (d := [vI x4.size_, vU x4.root_.1, vU x4.root_.2]) S9 rfl h5 rfl e4 Tryd.isAgg53 Tryd.sizeOf53 (fun h => by cases h) ?_
            refine wpn ?_
            refine ⟨m9, Mem.tr L18 L19, ⟨[row 3 a0v0 c4 s1.2.2.length], ⟨fun _ => ⟨_, rfl, h6⟩, fun hx => tf hx d13⟩, ?_⟩, facts_step HM rfl K L19 rfl rfl rfl, outP⟩
            exact S9
          · intro L f10 w10 hL hd hc ⟨m10, L20, ⟨X1, C9, S10⟩, K, hO⟩
            obtain ⟨u10, rfl⟩ := fr_of (N := 28) (L := []) hO trivial
            replace S10 : St _ ((X1 ++ As)) _ := S10
            have L21 := Mem.rfl' m10
            refine s_mvv (v := a0v0) rfl ?_
            refine wpn ?_
            refine ⟨m10, Mem.tr L20 L21, ⟨X1, C9, ?_⟩, facts_step HM rfl K L21 rfl rfl rfl, outP⟩
            exact S10
          · intro L f11 w11 hL hd hc ⟨m11, L22, ⟨X1, C10, S11⟩, K, hO⟩
            obtain ⟨u11, rfl⟩ := fr_of (N := 28) (L := []) hO trivial
            replace S11 : St _ ((X1 ++ As)) _ := S11
            have L23 := Mem.rfl' m11
            refine s_mvv (v := vI s1.1) rfl ?_
            refine wpn ?_
            refine ⟨m11, Mem.tr L22 L23, ⟨X1, C10, ?_⟩, facts_step HM rfl K L23 rfl rfl rfl, outP⟩
            exact S11
          · intro L f12 w12 hL hd hc ⟨m12, L24, ⟨X1, C11, S12⟩, K, hO⟩
            have d8 : L 8 = true := dep hd rfl
            have e5 := K 8 d8
            have d9 : L 9 = true := dep hd rfl
            have e6 := K 9 d9
            have d11 : L 11 = false := undep hc hL rfl
            have d13 : L 13 = false := undep hc d11 rfl
            obtain ⟨u12, rfl⟩ := fr_of (N := 28) (L := [(22, a0v0), (23, vI s1.1)]) hO ⟨e5, e6, trivial⟩
            replace S12 : St _ ((X1 ++ As)) _ := S12
            obtain ⟨c5, rfl, h7⟩ := C11.1 d13
            replace h7 : RepL _ c5 s1.2.2 := h7
            replace S12 : St _ ((row 3 a0v0 c5 s1.2.2.length) :: As) _ := S12
            have L25 := Mem.rfl' m12
            refine s_idxO (i := 0) (j := s1.1) S12 rfl rfl rfl (idx_rng q8).1 (idx_rng q8).2 Tryd.underlying50 Tryd.sizeOf53 ?_
            intro p2 h8
            refine wpn ?_
            refine ⟨m12, Mem.tr L24 L25, ⟨[row 3 a0v0 c5 s1.2.2.length], ⟨fun _ => ⟨_, rfl, h7⟩, fun hx => tf hx d13⟩, ?_⟩, facts_step HM rfl K L25 rfl rfl ⟨p2, rfl, h8⟩, outP⟩
            exact S12
          · intro L f13 w13 hL hd hc ⟨m13, L26, ⟨X1, C12, S13⟩, K, hO⟩
            have d10 : L 10 = true := dep hd rfl
            obtain ⟨v2, e7, h9⟩ := K 10 d10
            have d13 : L 13 = false := undep hc hL rfl
            obtain ⟨u13, rfl⟩ := fr_of (N := 28) (L := [(24, v2)]) hO ⟨e7, trivial⟩
            replace S13 : St _ ((X1 ++ As)) _ := S13
            obtain ⟨c6, rfl, h10⟩ := C12.1 d13
            replace h10 : RepL _ c6 s1.2.2 := h10
            replace S13 : St _ ((row 3 a0v0 c6 s1.2.2.length) :: As) _ := S13
            have L27 := Mem.rfl' m13
            have e8 := rep_g_merkle_part (RepL.getI h10 q8)
            refine s_ldO (i := 0) (off := s1.1.toNat * 3) (d := [vI x5.size_, vU x5.root_.1, vU x5.root_.2]) S13 rfl h9 rfl e8 Tryd.isAgg53 Tryd.sizeOf53 (fun h => by cases h) ?_
            refine wpn ?_
            refine ⟨m13, Mem.tr L26 L27, ⟨[row 3 a0v0 c6 s1.2.2.length], ⟨fun _ => ⟨_, rfl, h10⟩, fun hx => tf hx d13⟩, ?_⟩, facts_step HM rfl K L27 rfl rfl rfl, outP⟩
            exact S13
          · intro L f14 w14 hL hd hc ⟨m14, L28, ⟨X1, C13, S14⟩, K, hO⟩
            have d0 : L 0 = true := dep hd rfl
            have e9 := K 0 d0
            have d1 : L 1 = true := dep hd rfl
            have e10 := K 1 d1
            have d13 : L 13 = false := undep hc hL rfl
            obtain ⟨u14, rfl⟩ := fr_of (N := 28) (L := [(14, a0v0), (15, vI s1.1)]) hO ⟨e9, e10, trivial⟩
            replace S14 : St _ ((X1 ++ As)) _ := S14
            obtain ⟨c7, rfl, h11⟩ := C13.1 d13
            replace h11 : RepL _ c7 s1.2.2 := h11
            replace S14 : St _ ((row 3 a0v0 c7 s1.2.2.length) :: As) _ := S14
            have L29 := Mem.rfl' m14
            refine s_idxO (i := 0) (j := s1.1) S14 rfl rfl rfl (idx_rng q9).1 (idx_rng q9).2 Tryd.underlying50 Tryd.sizeOf53 ?_
            intro p3 h12
            refine wpn ?_
            refine ⟨m14, Mem.tr L28 L29, ⟨[row 3 a0v0 c7 s1.2.2.length], ⟨fun _ => ⟨_, rfl, h11⟩, fun hx => tf hx d13⟩, ?_⟩, facts_step HM rfl K L29 rfl rfl ⟨p3, rfl, h12⟩, outP⟩
            exact S14
          · intro L f15 w15 hL hd hc ⟨m15, L30, ⟨X1, C14, S15⟩, K, hO⟩
            have d12 : L 12 = true := dep hd rfl
            obtain ⟨v3, e11, h13⟩ := K 12 d12
            have d7 : L 7 = true := dep hd rfl
            have e12 := K 7 d7
            have d13 : L 13 = false := hL
            obtain ⟨u15, rfl⟩ := fr_of (N := 28) (L := [(26, v3), (21, .agg #[vI x4.size_, vU x4.root_.1, vU x4.root_.2])]) hO ⟨e11, e12, trivial⟩
            replace S15 : St _ ((X1 ++ As)) _ := S15
            obtain ⟨c8, rfl, h14⟩ := C14.1 d13
            replace h14 : RepL _ c8 s1.2.2 := h14
            replace S15 : St _ ((row 3 a0v0 c8 s1.2.2.length) :: As) _ := S15
            have L31 := Mem.rfl' m15
            refine s_stOR (i := 0) (j := s1.1) (z := x4) S15 rfl rfl h13 rfl h14 q9 Tryd.sizeOf53 (oneC rfl (oneC rfl (oneC rfl oneN))) mk_g_merkle_part ?_
            intro w16 c9 S16 h15
            rw [← q10] at S16 h15
            replace S16 : St _ ((row 3 a0v0 c9 x7.length) :: As) _ := S16
            clear S15
            refine wpn ?_
            refine ⟨m15, Mem.tr L30 L31, ⟨[row 3 a0v0 c9 x7.length], ⟨fun hx => tf rfl hx, fun _ => ⟨_, rfl, h15⟩⟩, ?_⟩, facts_none HM K L31 rfl (fun _ => trivial), outP⟩
            exact S16
        intro L f16 w17 hall ⟨m16, L32, ⟨X1, C15, S17⟩, K, hO⟩
        have d2 : L 2 = true := hall 2 (by decide)
        have e13 := K 2 d2
        have d3 : L 3 = true := hall 3 (by decide)
        have e14 := K 3 d3
        have d11 : L 11 = true := hall 11 (by decide)
        have e15 := K 11 d11
        have d13 : L 13 = true := hall 13 (by decide)
        obtain ⟨u16, rfl⟩ := fr_of (N := 28) (L := [(16, a0v0), (17, vI s1.2.1), (25, .agg #[vI x5.size_, vU x5.root_.1, vU x5.root_.2])]) hO ⟨e13, e14, e15, trivial⟩
        replace S17 : St _ ((X1 ++ As)) _ := S17
        obtain ⟨c10, rfl, h16⟩ := C15.2 d13
        replace h16 : RepL _ c10 x7 := h16
        replace S17 : St _ ((row 3 a0v0 c10 x7.length) :: As) _ := S17
        replace L2 := Mem.tr L2 L32
        clear S1
        obtain ⟨x8, q11, q5⟩ := obind_some q5
        refine s_idxO (i := 0) (j := s1.2.1) S17 rfl rfl rfl (idx_rng q11).1 (idx_rng q11).2 Tryd.underlying50 Tryd.sizeOf53 ?_
        intro p4 h17
        obtain ⟨x9, q12, q5⟩ := bnd_eq q5
        refine s_stOR (i := 0) (j := s1.2.1) (z := x5) S17 rfl rfl h17 rfl h16 q11 Tryd.sizeOf53 (oneC rfl (oneC rfl (oneC rfl oneN))) mk_g_merkle_part ?_
        intro w18 c11 S18 h18
        rw [← q12] at S18 h18
        replace S18 : St _ ((row 3 a0v0 c11 x9.length) :: As) _ := S18
        clear S17
        refine wpl_nil ?_
        refine nrmB ?_
        refine nrm ?_
        refine wpc_region ?_
        refine s_mvv (v := vI s1.1) rfl ?_
        refine s_addI (m := s1.1) (n := 1) rfl rfl ?_
        refine s_mvv (v := vI s1.2.1) rfl ?_
        refine s_subI (m := s1.2.1) (n := 1) rfl rfl ?_
        refine s_asv (v := vI (w64 (s1.1 + 1))) rfl ?_
        refine s_asv (v := vI (w64 (s1.2.1 - 1))) rfl ?_
        refine wpl_nil ?_
        refine nrm ?_
        have e0 := Option.some.inj q5
        subst e0
        rcases q4 with ⟨sn, e, q4'⟩ | e
        · cases e
          exact ⟨outP, _, Nat.lt_succ_self _, ⟨_, m16, _, q4', Mem.tr L3 L2, S18, h18, ⟨rfl, rfl, trivial⟩⟩⟩
        · cases e
      replace q5 := ifF hc1 q5
      refine wpc_exit ?_
      refine thE ?_
      refine thE ?_
      refine exB ?_
      refine nrm ?_
      have e0 := Option.some.inj q5
      subst e0
      rcases q4 with ⟨sn, e, _⟩ | e
      · cases e
      · cases e
        exact ⟨outP, m1, _, Mem.tr L3 L2, S1, h1, trivial⟩
  rintro f17 w19 ho ⟨m18, c2, l1, S19, h2, ha⟩
  obtain ⟨u17, rfl⟩ := fr_of (N := 28) ho ha
  clear ho ha
  replace L0 := Mem.tr L0 l1
  clear S
  refine outNw ?_
  intro we hpd
  replace S19 := St.pd S19 hpd
  have e0 := Option.some.inj hm
  subst e0
  exact outR [] rfl trivial ⟨_, L0, _, S19, rfl, h2⟩

def m_slices_AppendSeq_merkle_part_merkle_part_59_b2 (b3 : g_merkle_part) (s1 : (List g_merkle_part)) : Option ((List g_merkle_part)) :=
  obind (app 24 s1 ([b3] : List g_merkle_part)) fun x2 =>
  some x2

def m_slices_AppendSeq_merkle_part_merkle_part_59 (a0 : List g_merkle_part) (k0 : List (UInt64 × UInt64)) : Option ((List g_merkle_part) × (List (UInt64 × UInt64))) :=
  obind (m_merkle_parts_1 (fun (s : (List g_merkle_part)) (b0 : g_merkle_part) => obind (m_slices_AppendSeq_merkle_part_merkle_part_59_b2 b0 s) fun y => some (true, y)) k0 a0) fun x1 =>
  some (x1.2, x1.1)

theorem w_slices_AppendSeq_merkle_part_merkle_part_59 {m : Mem} {As : List Ow} {w : World} {a0 : List g_merkle_part} {a0v0 : Value} {a0c0 : List Value} {kb0 : Nat} {k0 : List (UInt64 × UInt64)} {k0v0 : Value} {r : (List g_merkle_part) × (List (UInt64 × UInt64))} (S : St m ((row 3 a0v0 a0c0 a0.length) :: (bx kb0 [k0v0] 22) :: As) w) (a0h0 : RepL m a0c0 a0) (k0h0 : SlR m k0v0 k0) (hm : m_slices_AppendSeq_merkle_part_merkle_part_59 a0 k0 = some r) :
    CallsR Tryd.prog 58 #[a0v0, .func (.func 59) #[] #[pt kb0 0]] w fun v w' => ∃ (M : Mem), m ≤ M ∧ ∃ (rv0 : Value) (rc0 : List Value) (rb0_0 : Value), St M ((row 3 rv0 rc0 r.1.length) :: (bx kb0 [rb0_0] 22) :: As) w' ∧ v = rv0 ∧ RepL M rc0 r.1 ∧ SlR M rb0_0 r.2 := by
  unfold m_slices_AppendSeq_merkle_part_merkle_part_59 at hm
  have L0 := Mem.rfl' m
  refine callsR (args := [a0v0, .func (.func 59) #[] #[pt kb0 0]]) Tryd.func58 rfl Tryd.ntmps58 (Nat.le_of_ble_eq_true rfl) ?_
  refine wpc_seq ?_
  refine wpc_region ?_
  refine s_boxS S rfl (St.rowCells (i := 0) S rfl).1 ?_
  intro b1 w1 S1
  replace S1 : St _ ((bx b1 [a0v0] 50) :: (row 3 a0v0 a0c0 a0.length) :: (bx kb0 [k0v0] 22) :: As) _ := S1
  clear S
  refine s_asv (v := .slice none 0 0) rfl ?_
  refine wpl_nil ?_
  refine nrm ?_
  refine wpc_seq ?_
  refine wpc_seq ?_
  refine wpc_region ?_
  refine s_mvv (v := .func (.func 59) #[] #[pt kb0 0]) rfl ?_
  refine wpl_nil ?_
  refine nrm ?_
  refine wpc_block ?_
  have S2 : St _ ((bx kb0 [k0v0] 22) :: (bx b1 [a0v0] 50) :: (row 3 a0v0 a0c0 a0.length) :: As) _ := St.perm S1 (List.Perm.trans (List.Perm.cons _ (List.Perm.swap _ _ _)) (List.Perm.swap _ _ _))
  clear S1
  obtain ⟨x1, q1, hm⟩ := obind_some hm
  refine wpc_rangeFunc S2 rfl Tryd.call59 ?_
  intro lp1 rip2 w2 h1 S3
  replace S3 : St _ ((Lp lp1 rip2 .ready none) :: (bx kb0 [k0v0] 22) :: (bx b1 [a0v0] 50) :: (row 3 a0v0 a0c0 a0.length) :: As) _ := S3
  clear S2
  have S4 : St _ ((row 3 a0v0 a0c0 a0.length) :: (Lp lp1 rip2 .ready none) :: (bx kb0 [k0v0] 22) :: (bx b1 [a0v0] 50) :: As) _ := St.perm S3 (List.Perm.trans (List.Perm.cons _ (List.Perm.cons _ (List.Perm.swap _ _ _))) (List.Perm.trans (List.Perm.cons _ (List.Perm.swap _ _ _)) (List.Perm.swap _ _ _)))
  clear S3
  have S5 : St _ ((bx kb0 [k0v0] 22) :: (Lp lp1 rip2 .ready none) :: (row 3 a0v0 a0c0 a0.length) :: (bx b1 [a0v0] 50) :: As) _ := St.perm S4 (List.Perm.trans (List.Perm.cons _ (List.Perm.swap _ _ _)) (List.Perm.trans (List.Perm.swap _ _ _) (List.Perm.cons _ (List.Perm.swap _ _ _))))
  clear S4
  have hcb1 : ∀ {m' : Mem} {As' : List Ow} {w' : World} {s : (List g_merkle_part)} {X : List Ow} {b0 : g_merkle_part} {r : Bool × (List g_merkle_part)}, St m' (X ++ As') w' → (∃ (v2 : Value) (c2 : List Value), m ≤ m' ∧ X = Lp lp1 rip2 .ready none :: (row 3 v2 c2 (s).length) :: (bx b1 [v2] 50) :: [] ∧ RepL m' c2 (s)) → (fun (s : (List g_merkle_part)) (b0 : g_merkle_part) => obind (m_slices_AppendSeq_merkle_part_merkle_part_59_b2 b0 s) fun y => some (true, y)) s b0 = some r → CallV Tryd.prog (.func (.yield lp1) #[] #[]) [.agg #[vI b0.size_, vU b0.root_.1, vU b0.root_.2]] w' fun v w'' => ∃ (M : Mem) (X' : List Ow), m' ≤ M ∧ St M (X' ++ As') w'' ∧ (∃ (v2 : Value) (c2 : List Value), m ≤ M ∧ X' = Lp lp1 rip2 .ready none :: (row 3 v2 c2 (r.2).length) :: (bx b1 [v2] 50) :: [] ∧ RepL M c2 (r.2)) ∧ v = vb r.1 := by
    intro m1 As1 w3 s1 X1 b3 r3 S6 h4 hm1
    obtain ⟨v3, c3, L2, rfl, h5⟩ := h4
    obtain ⟨y1, q2, hm1⟩ := obind_some hm1
    cases hm1
    unfold m_slices_AppendSeq_merkle_part_merkle_part_59_b2 at q2
    replace S6 : St _ ((Lp lp1 rip2 .ready none) :: (row 3 v3 c3 s1.length) :: (bx b1 [v3] 50) :: As1) _ := S6
    have L1 := Mem.rfl' m1
    refine CallV.round h1 rfl S6 ?_
    refine wpc_region ?_
    refine s_alloc S6 Tryd.zeroValue53 ?_
    intro b4 w4 S7
    replace S7 : St _ ((bx b4 [vI 0, vU 0, vU 0] 53) :: (Lp lp1 rip2 .ready none) :: (row 3 v3 c3 s1.length) :: (bx b1 [v3] 50) :: As1) _ := S7
    clear S6
    refine s_stL (i := 0) S7 rfl rfl rfl Tryd.sizeOf53 (oneC rfl (oneC rfl (oneC rfl oneN))) rfl ?_
    intro w5 S8
    replace S8 : St _ ((bx b4 [vI b3.size_, vU b3.root_.1, vU b3.root_.2] 53) :: (Lp lp1 rip2 .ready none) :: (row 3 v3 c3 s1.length) :: (bx b1 [v3] 50) :: As1) _ := S8
    clear S7
    refine wpl_nil ?_
    refine nrm ?_
    have S9 : St _ ((Lp lp1 rip2 .ready none) :: (bx b4 [vI b3.size_, vU b3.root_.1, vU b3.root_.2] 53) :: (row 3 v3 c3 s1.length) :: (bx b1 [v3] 50) :: As1) _ := St.perm S8 (List.Perm.swap _ _ _)
    clear S8
    refine ⟨_, _, S9, ?_⟩
    intro w6 S10
    clear S9
    replace S10 : St _ ((Lp lp1 rip2 .busy none) :: (bx b4 [vI b3.size_, vU b3.root_.1, vU b3.root_.2] 53) :: (row 3 v3 c3 s1.length) :: (bx b1 [v3] 50) :: As1) _ := S10
    refine wpc_block ?_
    refine wpc_region ?_
    refine s_ld (i := 3) (cs := [v3]) S10 rfl rfl Tryd.isAgg50 Tryd.sizeOf50 rfl (fun _ => rfl) ?_
    refine s_ld (i := 1) (cs := [vI b3.size_, vU b3.root_.1, vU b3.root_.2]) S10 rfl rfl Tryd.isAgg53 Tryd.sizeOf53 rfl (fun h => by cases h) ?_
    refine s_litC (parts := [.tmp 9]) (vs := [.agg #[vI b3.size_, vU b3.root_.1, vU b3.root_.2]]) (cls := [[vI b3.size_, vU b3.root_.1, vU b3.root_.2]]) (xs := ([b3] : List g_merkle_part)) (n := 1) S10 Tryd.underlying50 Tryd.sizeOf53 Tryd.zeroValue53 rfl ⟨rfl, trivial⟩ (RepL.cons (c := [vI b3.size_, vU b3.root_.1, vU b3.root_.2]) (x := b3) mk_g_merkle_part RepL.nil) rfl rfl rfl (by decide) (by decide) ?_
    intro v4 m2 w7 l1 S11 h6
    replace h5 := RepL.up l1 h5
    replace L1 := Mem.tr L1 l1
    clear S10
    obtain ⟨x2, q3, q2⟩ := obind_some q2
    refine s_app (i := 2) (zs := x2) (bytes := 24) (ti := Tryd.t53) S11 rfl rfl h5 rfl rfl h6 q3 Tryd.underlying50 Tryd.type53 rfl rfl rfl rfl ?_
    intro v5 c4 w8 S12 h7
    replace S12 : St _ ((Lp lp1 rip2 .busy none) :: (bx b4 [vI b3.size_, vU b3.root_.1, vU b3.root_.2] 53) :: (row 3 v5 c4 x2.length) :: (bx b1 [v3] 50) :: As1) _ := S12
    clear S11
    refine s_stS (i := 3) S12 rfl rfl rfl Tryd.sizeOf50 (St.rowCells (i := 2) S12 rfl) rfl ?_
    intro w9 S13
    replace S13 : St _ ((Lp lp1 rip2 .busy none) :: (bx b4 [vI b3.size_, vU b3.root_.1, vU b3.root_.2] 53) :: (row 3 v5 c4 x2.length) :: (bx b1 [v5] 50) :: As1) _ := S13
    clear S12
    refine wpl_nil ?_
    refine nrmB ?_
    obtain ⟨m3, l2, S14⟩ := St.drop S13 1
    replace h7 := RepL.up l2 h7
    replace L1 := Mem.tr L1 l2
    clear S13
    replace S14 : St _ ((Lp lp1 rip2 .busy none) :: (row 3 v5 c4 x2.length) :: (bx b1 [v5] 50) :: As1) _ := S14
    have S15 : St _ ((row 3 v5 c4 x2.length) :: (Lp lp1 rip2 .busy none) :: (bx b1 [v5] 50) :: As1) _ := St.perm S14 (List.Perm.swap _ _ _)
    clear S14
    have S16 : St _ ((Lp lp1 rip2 .busy none) :: (row 3 v5 c4 x2.length) :: (bx b1 [v5] 50) :: As1) _ := St.perm S15 (List.Perm.swap _ _ _)
    clear S15
    refine ⟨_, _, S16, ?_⟩
    intro w10 S17
    have e0 := Option.some.inj q2
    subst e0
    exact ⟨_, Lp lp1 rip2 .ready none :: (row 3 v5 c4 x2.length) :: (bx b1 [v5] 50) :: [], L1, S17, ⟨_, _, Mem.tr L2 L1, rfl, h7⟩, rfl⟩
  refine CallsR.mono (w_merkle_parts_1 (p0 := (fun (s : (List g_merkle_part)) (b0 : g_merkle_part) => obind (m_slices_AppendSeq_merkle_part_merkle_part_59_b2 b0 s) fun y => some (true, y))) (k0 := k0) (s0 := a0) (R := (fun (s : (List g_merkle_part)) (M : Mem) (X : List Ow) => (∃ (v2 : Value) (c2 : List Value), m ≤ M ∧ X = Lp lp1 rip2 .ready none :: (row 3 v2 c2 (s).length) :: (bx b1 [v2] 50) :: [] ∧ RepL M c2 (s)))) (X0 := ((Lp lp1 rip2 .ready none) :: (row 3 a0v0 a0c0 a0.length) :: (bx b1 [a0v0] 50) :: [])) (As := As) S5 (fun l h => by obtain ⟨v2, c2, Lm, e, h3⟩ := h; exact ⟨_, _, Mem.tr Lm l, e, RepL.up l h3⟩) ⟨_, _, Mem.rfl' _, rfl, a0h0⟩ hcb1 k0h0 q1) ?_
  rintro _ w11 ⟨m4, l3, v6, X2, S18, rfl, h8, ⟨v7, c5, L3, rfl, h9⟩⟩
  replace S18 : St _ ((bx kb0 [v6] 22) :: (Lp lp1 rip2 .ready none) :: (row 3 v7 c5 x1.2.length) :: (bx b1 [v7] 50) :: As) _ := S18
  have S19 : St _ ((Lp lp1 rip2 .ready none) :: (bx kb0 [v6] 22) :: (row 3 v7 c5 x1.2.length) :: (bx b1 [v7] 50) :: As) _ := St.perm S18 (List.Perm.swap _ _ _)
  clear S18
  refine ⟨_, .ready, none, _, l3, (fun h => by cases h), S19, ?_⟩
  intro m5 w12 l4 S20
  have l5 := Mem.tr l3 l4
  replace h8 := h8.up l4
  replace h9 := RepL.up l4 h9
  replace L0 := Mem.tr L0 l5
  replace S20 : St _ ((bx kb0 [v6] 22) :: (row 3 v7 c5 x1.2.length) :: (bx b1 [v7] 50) :: As) _ := S20
  refine nrmB ?_
  refine nrm ?_
  refine wpc_seq ?_
  refine wpc_region ?_
  refine s_ld (i := 2) (cs := [v7]) S20 rfl rfl Tryd.isAgg50 Tryd.sizeOf50 rfl (fun _ => rfl) ?_
  refine s_asv (v := v7) rfl ?_
  refine wpl_nil ?_
  refine nrm ?_
  refine wpc_ret ?_
  refine outRw ?_
  intro we hpd
  replace S20 := St.pd S20 hpd
  obtain ⟨m6, l6, S21⟩ := St.drop S20 2
  replace h9 := RepL.up l6 h9
  replace h8 := h8.up l6
  replace L0 := Mem.tr L0 l6
  clear S20
  replace S21 : St _ ((bx kb0 [v6] 22) :: (row 3 v7 c5 x1.2.length) :: As) _ := S21
  have S22 : St _ ((row 3 v7 c5 x1.2.length) :: (bx kb0 [v6] 22) :: As) _ := St.perm S21 (List.Perm.swap _ _ _)
  have e0 := Option.some.inj hm
  subst e0
  exact outR [_] rfl ⟨rfl, trivial⟩ ⟨_, L0, _, _, _, S22, rfl, h9, h8⟩

def m_slices_Collect_merkle_part_59 (k0 : List (UInt64 × UInt64)) : Option ((List g_merkle_part) × (List (UInt64 × UInt64))) :=
  obind (m_slices_AppendSeq_merkle_part_merkle_part_59 ([] : List g_merkle_part) k0) fun x1 =>
  some (x1.1, x1.2)

theorem w_slices_Collect_merkle_part_59 {m : Mem} {As : List Ow} {w : World} {kb0 : Nat} {k0 : List (UInt64 × UInt64)} {k0v0 : Value} {r : (List g_merkle_part) × (List (UInt64 × UInt64))} (S : St m ((bx kb0 [k0v0] 22) :: As) w) (k0h0 : SlR m k0v0 k0) (hm : m_slices_Collect_merkle_part_59 k0 = some r) :
    CallsR Tryd.prog 31 #[.func (.func 59) #[] #[pt kb0 0]] w fun v w' => ∃ (M : Mem), m ≤ M ∧ ∃ (rv0 : Value) (rc0 : List Value) (rb0_0 : Value), St M ((row 3 rv0 rc0 r.1.length) :: (bx kb0 [rb0_0] 22) :: As) w' ∧ v = rv0 ∧ RepL M rc0 r.1 ∧ SlR M rb0_0 r.2 := by
  unfold m_slices_Collect_merkle_part_59 at hm
  have L0 := Mem.rfl' m
  refine callsR (args := [.func (.func 59) #[] #[pt kb0 0]]) Tryd.func31 rfl Tryd.ntmps31 (Nat.le_of_ble_eq_true rfl) ?_
  refine wpc_seq ?_
  refine wpc_region ?_
  refine s_asv (v := .slice none 0 0) rfl ?_
  refine wpl_nil ?_
  refine nrm ?_
  refine wpc_seq ?_
  refine wpc_region ?_
  refine s_mvv (v := .func (.func 59) #[] #[pt kb0 0]) rfl ?_
  have S1 := St.rowNil S 3
  have h1 : RepL m [] ([] : List g_merkle_part) := RepL.nil
  replace S1 : St _ ((row 3 (.slice none 0 0) [] ([] : List g_merkle_part).length) :: (bx kb0 [k0v0] 22) :: As) _ := S1
  clear S
  obtain ⟨x1, q1, hm⟩ := obind_some hm
  refine s_call Tryd.call58 (w_slices_AppendSeq_merkle_part_merkle_part_59 (a0 := ([] : List g_merkle_part)) (k0 := k0) S1 h1 k0h0 q1) rfl ?_
  rintro v1 w1 ⟨m1, l1, _, c1, v2, S2, rfl, h2, h3⟩
  replace L0 := Mem.tr L0 l1
  clear S1
  replace S2 : St _ ((row 3 v1 c1 x1.1.length) :: (bx kb0 [v2] 22) :: As) _ := S2
  refine s_asv (v := v1) rfl ?_
  refine wpl_nil ?_
  refine nrm ?_
  refine wpc_ret ?_
  refine outRw ?_
  intro we hpd
  replace S2 := St.pd S2 hpd
  have e0 := Option.some.inj hm
  subst e0
  exact outR [_] rfl ⟨rfl, trivial⟩ ⟨_, L0, _, _, _, S2, rfl, h2, h3⟩

def m_merkle_Root_b4  (i1 : Int) (x9 : g_merkle_part) (s1 : UInt64 × UInt64) : Option (UInt64 × UInt64) :=
  obind (m_hash_Pair x9.root_ s1) fun x10 =>
  some (x10.1, x10.2)

def m_merkle_Root (a0 : List (UInt64 × UInt64)) : Option (UInt64 × UInt64) :=
  obind (m_merkle_parts a0) fun x1 =>
  obind (m_slices_Collect_merkle_part_59 x1) fun x2 =>
  if ((x2.1.length : Int) == 0) = true then
    obind (m_hash_Tagged (⟨#[101, 109, 112, 116, 121]⟩ : ByteArray) ([] : List (List UInt8))) fun x3 =>
    some x3
  else
  obind (m_slices_Reverse_merkle_part_merkle_part x2.1) fun x4 =>
  obind (idx x4 0) fun x5 =>
  obind (
    obind (cut x4 1 (x4.length : Int)) fun x7 =>
    obind (each0 m_merkle_Root_b4 x7 0 (x5.root_.1, x5.root_.2)) fun x8 =>
    some (x8.1, x8.2)
  ) fun x6 =>
  some x6

theorem w_merkle_Root {m : Mem} {As : List Ow} {w : World} {a0 : List (UInt64 × UInt64)} {a0v0 : Value} {r : UInt64 × UInt64} (S : St m (As) w) (a0h0 : SlR m a0v0 a0) (hm : m_merkle_Root a0 = some r) :
    CallsR Tryd.prog 13 #[a0v0] w fun v w' => ∃ (M : Mem), m ≤ M ∧ St M (As) w' ∧ v = .agg #[vU r.1, vU r.2] := by
  unfold m_merkle_Root at hm
  have L0 := Mem.rfl' m
  refine callsR (args := [a0v0]) Tryd.func13 rfl Tryd.ntmps13 (Nat.le_of_ble_eq_true rfl) ?_
  refine wpc_seq ?_
  refine wpc_region ?_
  refine s_alloc S Tryd.zeroValue27 ?_
  intro b1 w1 S1
  replace S1 : St _ ((bx b1 [vU 0, vU 0] 27) :: As) _ := S1
  clear S
  refine wpl_nil ?_
  refine nrm ?_
  refine wpc_seq ?_
  refine wpc_region ?_
  refine s_mvv (v := a0v0) rfl ?_
  obtain ⟨x1, q1, hm⟩ := obind_some hm
  refine s_call Tryd.call32 (w_merkle_parts (a0 := a0) S1 a0h0 q1) rfl ?_
  rintro _ w2 ⟨m1, l1, b2, v1, S2, rfl, h1⟩
  replace a0h0 := a0h0.up l1
  replace L0 := Mem.tr L0 l1
  clear S1
  replace S2 : St _ ((bx b2 [v1] 22) :: (bx b1 [vU 0, vU 0] 27) :: As) _ := S2
  obtain ⟨x2, q2, hm⟩ := obind_some hm
  refine s_call Tryd.call31 (w_slices_Collect_merkle_part_59 (k0 := x1) S2 h1 q2) rfl ?_
  rintro v2 w3 ⟨m2, l2, _, c1, v3, S3, rfl, h2, h3⟩
  replace L0 := Mem.tr L0 l2
  clear S2
  replace S3 : St _ ((row 3 v2 c1 x2.1.length) :: (bx b2 [v3] 22) :: (bx b1 [vU 0, vU 0] 27) :: As) _ := S3
  refine s_asv (v := v2) rfl ?_
  refine wpl_nil ?_
  refine nrm ?_
  refine wpc_seq ?_
  refine wpc_seq ?_
  refine wpc_region ?_
  refine s_mvv (v := v2) rfl ?_
  refine s_lenO (i := 0) S3 rfl rfl Tryd.underlying50 ?_
  refine s_eql (m := (x2.1.length : Int)) (n := 0) rfl rfl ?_
  refine wpl_nil ?_
  refine nrm ?_
  refine wpc_if (t := ((x2.1.length : Int) == 0)) rfl (fun hc1 => ?_) (fun hc1 => ?_)
  · replace hm := ifT hc1 hm
    refine wpc_seq ?_
    refine wpc_region ?_
    obtain ⟨x3, q3, hm⟩ := obind_some hm
    refine s_call Tryd.call30 (w_hash_Tagged (a0 := (⟨#[101, 109, 112, 116, 121]⟩ : ByteArray)) (a1 := ([] : List (List UInt8))) S3 (SlR.nil (a := none) (c := 0)) q3) rfl ?_
    rintro _ w4 ⟨m3, l3, S4, rfl⟩
    replace h2 := RepL.up l3 h2
    replace h3 := h3.up l3
    replace L0 := Mem.tr L0 l3
    clear S3
    replace S4 : St _ ((row 3 v2 c1 x2.1.length) :: (bx b2 [v3] 22) :: (bx b1 [vU 0, vU 0] 27) :: As) _ := S4
    refine s_stL (i := 2) S4 rfl rfl rfl Tryd.sizeOf27 (oneC rfl (oneC rfl oneN)) rfl ?_
    intro w5 S5
    replace S5 : St _ ((row 3 v2 c1 x2.1.length) :: (bx b2 [v3] 22) :: (bx b1 [vU x3.1, vU x3.2] 27) :: As) _ := S5
    clear S4
    refine wpl_nil ?_
    refine nrm ?_
    refine wpc_ret ?_
    refine thR ?_
    refine outRw ?_
    intro we hpd
    replace S5 := St.pd S5 hpd
    have SR := S5
    obtain ⟨m4, l4, S6⟩ := St.drop S5 0
    replace h3 := h3.up l4
    replace L0 := Mem.tr L0 l4
    replace S6 : St _ ((bx b2 [v3] 22) :: (bx b1 [vU x3.1, vU x3.2] 27) :: As) _ := S6
    obtain ⟨m5, l5, S7⟩ := St.drop S6 0
    replace L0 := Mem.tr L0 l5
    clear S6
    replace S7 : St _ ((bx b1 [vU x3.1, vU x3.2] 27) :: As) _ := S7
    obtain ⟨m6, l6, S8⟩ := St.drop S7 0
    replace L0 := Mem.tr L0 l6
    clear S7
    replace S8 : St _ (As) _ := S8
    have e0 := Option.some.inj hm
    subst e0
    exact outR [_] rfl ⟨res_box (i := 2) (off := 0) (cs := [vU x3.1, vU x3.2]) SR rfl rfl Tryd.isAgg27 Tryd.sizeOf27 rfl (fun h => by cases h), trivial⟩ ⟨_, L0, S8, rfl⟩
  replace hm := ifF hc1 hm
  refine wpc_skip ?_
  refine nrm ?_
  refine wpc_seq ?_
  refine wpc_region ?_
  refine s_mvv (v := v2) rfl ?_
  obtain ⟨x4, q4, hm⟩ := obind_some hm
  refine s_call Tryd.call33 (w_slices_Reverse_merkle_part_merkle_part (a0 := x2.1) S3 h2 q4) rfl ?_
  rintro _ w6 ⟨m7, l7, c2, S9, rfl, h4⟩
  replace h3 := h3.up l7
  replace L0 := Mem.tr L0 l7
  clear S3
  replace S9 : St _ ((row 3 v2 c2 x4.length) :: (bx b2 [v3] 22) :: (bx b1 [vU 0, vU 0] 27) :: As) _ := S9
  refine wpl_nil ?_
  refine nrm ?_
  refine wpc_seq ?_
  refine wpc_region ?_
  refine s_mvv (v := v2) rfl ?_
  obtain ⟨x5, q5, hm⟩ := obind_some hm
  refine s_idxO (i := 0) (j := 0) S9 rfl rfl rfl (idx_rng q5).1 (idx_rng q5).2 Tryd.underlying50 Tryd.sizeOf53 ?_
  intro p1 h5
  refine s_fldO (n := 1) rfl h5 Tryd.underlying53 rfl rfl Tryd.sizeOf27 ?_
  intro p2 h6
  have e1 := rep_g_merkle_part (RepL.getI h4 q5)
  refine s_ldO (i := 0) (off := (0 : Int).toNat * 3 + 1) (d := [vU x5.root_.1, vU x5.root_.2]) S9 rfl h6 rfl (drop_sub e1 rfl (Nat.le_of_ble_eq_true rfl)) Tryd.isAgg27 Tryd.sizeOf27 (fun h => by cases h) ?_
  refine s_alloc S9 Tryd.zeroValue27 ?_
  intro b3 w7 S10
  replace S10 : St _ ((bx b3 [vU 0, vU 0] 27) :: (row 3 v2 c2 x4.length) :: (bx b2 [v3] 22) :: (bx b1 [vU 0, vU 0] 27) :: As) _ := S10
  clear S9
  refine s_stL (i := 0) S10 rfl rfl rfl Tryd.sizeOf27 (oneC rfl (oneC rfl oneN)) rfl ?_
  intro w8 S11
  replace S11 : St _ ((bx b3 [vU x5.root_.1, vU x5.root_.2] 27) :: (row 3 v2 c2 x4.length) :: (bx b2 [v3] 22) :: (bx b1 [vU 0, vU 0] 27) :: As) _ := S11
  clear S10
  refine wpl_nil ?_
  refine nrm ?_
  obtain ⟨x6, q6, hm⟩ := obind_some hm
  have L1 := Mem.rfl' m7
  refine wpc_seq ?_
  refine wpc_join [6, 20, 21, 22, 23, 24, 25, 26, 27, 28, 29, 30, 31] (fun f' w' => ∃ (M1 : Mem), m7 ≤ M1 ∧ St M1 ((bx b3 [vU x6.1, vU x6.2] 27) :: (bx b2 [v3] 22) :: (bx b1 [vU 0, vU 0] 27) :: As) w' ∧ AllAt f' []) ?_ ?_
  · refine wpc_seq ?_
    refine wpc_region ?_
    refine s_mvv (v := v2) rfl ?_
    obtain ⟨m8, l8, h7, S12⟩ := St.rowKeepT (i := 1) S11 rfl h4 rfl
    replace h3 := h3.up l8
    replace L1 := Mem.tr L1 l8
    clear S11
    obtain ⟨x7, q7, q6⟩ := obind_some q6
    refine s_cut (ys := x7) (l := 1) (h := (x4.length : Int)) rfl h7 Tryd.underlying50 Tryd.sizeOf53 (.inr ⟨_, rfl⟩) (.inl ⟨rfl, rfl⟩) (.inl rfl) q7 ?_
    intro v4 h8
    refine s_lenR (xs := x7) rfl h8 Tryd.underlying50 ?_
    refine s_mvv (v := vI 0) rfl ?_
    refine wpl_nil ?_
    refine nrm ?_
    obtain ⟨x8, q8, q6⟩ := obind_some q6
    have L2 := Mem.rfl' m8
    refine wpc_join [6, 23, 24, 25, 26, 27, 28, 29, 30, 31] (fun f' w' => ∃ (M2 : Mem), m8 ≤ M2 ∧ St M2 ((bx b3 [vU x8.1, vU x8.2] 27) :: (bx b2 [v3] 22) :: (bx b1 [vU 0, vU 0] 27) :: As) w' ∧ AllAt f' []) ?_ ?_
    · refine wpc_block ?_
      refine wpc_rounds [6, 23, 24, 25, 26, 27, 28, 29, 30, 31] (fun n1 f' w' => ∃ (i1 : Nat) (s1 : UInt64 × UInt64) (m12 : Mem), n1 = x7.length - i1 ∧ i1 ≤ x7.length ∧ each0 m_merkle_Root_b4 (x7.drop i1) (i1 : Int) s1 = some x8 ∧ m8 ≤ m12 ∧ St m12 ((bx b3 [vU s1.1, vU s1.2] 27) :: (bx b2 [v3] 22) :: (bx b1 [vU 0, vU 0] 27) :: As) w' ∧ AllAt f' [(23, vI (i1 : Int))]) x7.length ⟨0, (x5.root_.1, x5.root_.2), m8, rfl, Nat.zero_le _, q8, L2, S12, ⟨rfl, trivial⟩⟩ ?_
      rintro n1 f1 w9 ho ⟨i1, s1, m9, hn, hi, q9, L4, S13, ha⟩
      obtain ⟨u1, rfl⟩ := fr_of (N := 33) ho ha
      clear ho ha
      replace h8 := h8.up L4
      replace h3 := h3.up L4
      have L3 := Mem.rfl' m9
      clear S12
      refine wpc_seq ?_
      refine wpc_region ?_
      refine s_lss (m := (i1 : Int)) (n := (x7.length : Int)) rfl rfl ?_
      refine wpl_nil ?_
      refine nrm ?_
      refine wpc_seq ?_
      refine wpc_if (t := decide ((i1 : Int) < (x7.length : Int))) rfl (fun hc2 => ?_) (fun hc2 => ?_)
      · have hlt1 : i1 < x7.length := by have := of_decide_eq_true hc2; omega
        obtain ⟨x9, y1, q12, q11, q10⟩ := each0_in q9 hlt1
        unfold m_merkle_Root_b4 at q11
        refine wpc_skip ?_
        refine nrm ?_
        refine wpc_seq ?_
        refine wpc_block ?_
        refine wpc_seq ?_
        refine wpc_region ?_
        refine s_idx (q := x9) rfl rfl h8 q12 Tryd.underlying50 Tryd.sizeOf53 ?_
        intro p3 c3 h9 r2
        obtain rfl := rep_g_merkle_part r2
        refine s_ldM (cs := [vI x9.size_, vU x9.root_.1, vU x9.root_.2]) S13 rfl h9 rfl Tryd.isAgg53 Tryd.sizeOf53 (fun h => by cases h) ?_
        refine s_alloc S13 Tryd.zeroValue53 ?_
        intro b5 w10 S14
        replace S14 : St _ ((bx b5 [vI 0, vU 0, vU 0] 53) :: (bx b3 [vU s1.1, vU s1.2] 27) :: (bx b2 [v3] 22) :: (bx b1 [vU 0, vU 0] 27) :: As) _ := S14
        clear S13
        refine s_stL (i := 0) S14 rfl rfl rfl Tryd.sizeOf53 (oneC rfl (oneC rfl (oneC rfl oneN))) rfl ?_
        intro w11 S15
        replace S15 : St _ ((bx b5 [vI x9.size_, vU x9.root_.1, vU x9.root_.2] 53) :: (bx b3 [vU s1.1, vU s1.2] 27) :: (bx b2 [v3] 22) :: (bx b1 [vU 0, vU 0] 27) :: As) _ := S15
        clear S14
        refine wpl_nil ?_
        refine nrm ?_
        refine wpc_region ?_
        refine s_fld (n := 1) rfl Tryd.underlying53 rfl rfl Tryd.sizeOf27 ?_
        refine s_ld (i := 0) (cs := [vU x9.root_.1, vU x9.root_.2]) S15 rfl rfl Tryd.isAgg27 Tryd.sizeOf27 rfl (fun h => by cases h) ?_
        refine s_ld (i := 1) (cs := [vU s1.1, vU s1.2]) S15 rfl rfl Tryd.isAgg27 Tryd.sizeOf27 rfl (fun h => by cases h) ?_
        obtain ⟨x10, q13, q11⟩ := obind_some q11
        refine s_call Tryd.call29 (w_hash_Pair (a0 := x9.root_) (a1 := s1) S15  q13) rfl ?_
        rintro _ w12 ⟨m10, l9, S16, rfl⟩
        replace h8 := h8.up l9
        replace h3 := h3.up l9
        replace L3 := Mem.tr L3 l9
        clear S15
        replace S16 : St _ ((bx b5 [vI x9.size_, vU x9.root_.1, vU x9.root_.2] 53) :: (bx b3 [vU s1.1, vU s1.2] 27) :: (bx b2 [v3] 22) :: (bx b1 [vU 0, vU 0] 27) :: As) _ := S16
        refine s_stL (i := 1) S16 rfl rfl rfl Tryd.sizeOf27 (oneC rfl (oneC rfl oneN)) rfl ?_
        intro w13 S17
        replace S17 : St _ ((bx b5 [vI x9.size_, vU x9.root_.1, vU x9.root_.2] 53) :: (bx b3 [vU x10.1, vU x10.2] 27) :: (bx b2 [v3] 22) :: (bx b1 [vU 0, vU 0] 27) :: As) _ := S17
        clear S16
        refine wpl_nil ?_
        refine nrmB ?_
        refine nrm ?_
        refine wpc_region ?_
        refine s_addI (m := (i1 : Int)) (n := 1) rfl rfl ?_
        refine s_mvv (v := vI (w64 ((i1 : Int) + 1))) rfl ?_
        refine wpl_nil ?_
        refine nrm ?_
        obtain ⟨m11, l10, S18⟩ := St.drop S17 0
        replace h8 := h8.up l10
        replace h3 := h3.up l10
        replace L3 := Mem.tr L3 l10
        clear S17
        replace S18 : St _ ((bx b3 [vU x10.1, vU x10.2] 27) :: (bx b2 [v3] 22) :: (bx b1 [vU 0, vU 0] 27) :: As) _ := S18
        have e0 := Option.some.inj q11
        subst e0
        exact ⟨outP, _, (by omega), ⟨i1 + 1, (x10.1, x10.2), m11, rfl, hlt1, q10, Mem.tr L4 L3, S18, ⟨congrArg (Value.int .i64) (w64_succ hlt1 (SlR.le h8)), trivial⟩⟩⟩
      have hlt1 : ¬ i1 < x7.length := by have := of_decide_eq_false hc2; omega
      have e := Eq.symm (each0_out q9 hlt1)
      subst e
      refine wpc_exit ?_
      refine thE ?_
      refine thE ?_
      refine exB ?_
      refine nrm ?_
      exact ⟨outP, m9, Mem.tr L4 L3, S13, trivial⟩
    rintro f2 w14 ho ⟨m13, l11, S19, ha⟩
    obtain ⟨u2, rfl⟩ := fr_of (N := 33) ho ha
    clear ho ha
    replace h3 := h3.up l11
    replace L1 := Mem.tr L1 l11
    clear S12
    have e0 := Option.some.inj q6
    subst e0
    exact ⟨outP, m13, L1, S19, trivial⟩
  rintro f3 w15 ho ⟨m14, l12, S20, ha⟩
  obtain ⟨u3, rfl⟩ := fr_of (N := 33) ho ha
  replace h3 := h3.up l12
  replace L0 := Mem.tr L0 l12
  clear S11
  refine wpc_seq ?_
  refine wpc_region ?_
  refine s_ld (i := 0) (cs := [vU x6.1, vU x6.2]) S20 rfl rfl Tryd.isAgg27 Tryd.sizeOf27 rfl (fun h => by cases h) ?_
  refine s_stL (i := 2) S20 rfl rfl rfl Tryd.sizeOf27 (oneC rfl (oneC rfl oneN)) rfl ?_
  intro w16 S21
  replace S21 : St _ ((bx b3 [vU x6.1, vU x6.2] 27) :: (bx b2 [v3] 22) :: (bx b1 [vU x6.1, vU x6.2] 27) :: As) _ := S21
  clear S20
  refine wpl_nil ?_
  refine nrm ?_
  refine wpc_ret ?_
  refine outRw ?_
  intro we hpd
  replace S21 := St.pd S21 hpd
  have SR := S21
  obtain ⟨m15, l13, S22⟩ := St.drop S21 0
  replace h3 := h3.up l13
  replace L0 := Mem.tr L0 l13
  replace S22 : St _ ((bx b2 [v3] 22) :: (bx b1 [vU x6.1, vU x6.2] 27) :: As) _ := S22
  obtain ⟨m16, l14, S23⟩ := St.drop S22 0
  replace L0 := Mem.tr L0 l14
  clear S22
  replace S23 : St _ ((bx b1 [vU x6.1, vU x6.2] 27) :: As) _ := S23
  obtain ⟨m17, l15, S24⟩ := St.drop S23 0
  replace L0 := Mem.tr L0 l15
  clear S23
  replace S24 : St _ (As) _ := S24
  have e0 := Option.some.inj hm
  subst e0
  exact outR [_] rfl ⟨res_box (i := 2) (off := 0) (cs := [vU x6.1, vU x6.2]) SR rfl rfl Tryd.isAgg27 Tryd.sizeOf27 rfl (fun h => by cases h), trivial⟩ ⟨_, L0, S24, rfl⟩

def m_merkle_Leaf (a0 : List UInt8) : Option (UInt64 × UInt64) :=
  obind (m_hash_Tagged (⟨#[108, 101, 97, 102]⟩ : ByteArray) ([a0] : List (List UInt8))) fun x1 =>
  some x1

theorem w_merkle_Leaf {m : Mem} {As : List Ow} {w : World} {a0 : List UInt8} {a0v0 : Value} {r : UInt64 × UInt64} (S : St m (As) w) (a0h0 : SlR m a0v0 a0) (hm : m_merkle_Leaf a0 = some r) :
    CallsR Tryd.prog 15 #[a0v0] w fun v w' => ∃ (M : Mem), m ≤ M ∧ St M (As) w' ∧ v = .agg #[vU r.1, vU r.2] := by
  unfold m_merkle_Leaf at hm
  have L0 := Mem.rfl' m
  refine callsR (args := [a0v0]) Tryd.func15 rfl Tryd.ntmps15 (Nat.le_of_ble_eq_true rfl) ?_
  refine wpc_seq ?_
  refine wpc_region ?_
  refine s_alloc S Tryd.zeroValue27 ?_
  intro b1 w1 S1
  replace S1 : St _ ((bx b1 [vU 0, vU 0] 27) :: As) _ := S1
  clear S
  refine wpl_nil ?_
  refine nrm ?_
  refine wpc_seq ?_
  refine wpc_region ?_
  refine s_mvv (v := a0v0) rfl ?_
  refine s_litC (parts := [.tmp 3]) (vs := [a0v0]) (cls := [[a0v0]]) (xs := ([a0] : List (List UInt8))) (n := 1) S1 Tryd.underlying75 Tryd.sizeOf23 Tryd.zeroValue23 rfl ⟨SlR.cells a0h0, trivial⟩ (RepL.cons (c := [a0v0]) (x := a0) ⟨_, rfl, a0h0⟩ RepL.nil) rfl rfl rfl (by decide) (by decide) ?_
  intro v1 m1 w2 l1 S2 h1
  replace a0h0 := a0h0.up l1
  replace L0 := Mem.tr L0 l1
  clear S1
  obtain ⟨x1, q1, hm⟩ := obind_some hm
  refine s_call Tryd.call30 (w_hash_Tagged (a0 := (⟨#[108, 101, 97, 102]⟩ : ByteArray)) (a1 := ([a0] : List (List UInt8))) S2 h1 q1) rfl ?_
  rintro _ w3 ⟨m2, l2, S3, rfl⟩
  replace h1 := h1.up l2
  replace L0 := Mem.tr L0 l2
  clear S2
  replace S3 : St _ ((bx b1 [vU 0, vU 0] 27) :: As) _ := S3
  refine s_stL (i := 0) S3 rfl rfl rfl Tryd.sizeOf27 (oneC rfl (oneC rfl oneN)) rfl ?_
  intro w4 S4
  replace S4 : St _ ((bx b1 [vU x1.1, vU x1.2] 27) :: As) _ := S4
  clear S3
  refine wpl_nil ?_
  refine nrm ?_
  refine wpc_ret ?_
  refine outRw ?_
  intro we hpd
  replace S4 := St.pd S4 hpd
  have SR := S4
  obtain ⟨m3, l3, S5⟩ := St.drop S4 0
  replace L0 := Mem.tr L0 l3
  replace S5 : St _ (As) _ := S5
  have e0 := Option.some.inj hm
  subst e0
  exact outR [_] rfl ⟨res_box (i := 0) (off := 0) (cs := [vU x1.1, vU x1.2]) SR rfl rfl Tryd.isAgg27 Tryd.sizeOf27 rfl (fun h => by cases h), trivial⟩ ⟨_, L0, S5, rfl⟩

def m_merkle_half (a0 : Int) : Option Int :=
  obind (m_bits_Len (toU (w64 (a0 - 1)))) fun x1 =>
  if (0 : Int) ≤ (w64 (x1 - 1)) then
    bnd ((shl64 1 ((w64 (x1 - 1)).toNat))) fun x2 =>
    some x2
  else none

theorem w_merkle_half {m : Mem} {As : List Ow} {w : World} {a0 : Int} {r : Int} (S : St m (As) w) (hm : m_merkle_half a0 = some r) :
    CallsR Tryd.prog 38 #[vI a0] w fun v w' => ∃ (M : Mem), m ≤ M ∧ St M (As) w' ∧ v = vI r := by
  unfold m_merkle_half at hm
  have L0 := Mem.rfl' m
  refine callsR (args := [vI a0]) Tryd.func38 rfl Tryd.ntmps38 (Nat.le_of_ble_eq_true rfl) ?_
  refine wpc_seq ?_
  refine wpc_region ?_
  refine s_asv (v := vI 0) rfl ?_
  refine wpl_nil ?_
  refine nrm ?_
  refine wpc_seq ?_
  refine wpc_region ?_
  refine s_mvv (v := vI a0) rfl ?_
  refine s_subI (m := a0) (n := 1) rfl rfl ?_
  refine s_convU rfl Tryd.underlying3 Tryd.underlying45 ?_
  obtain ⟨x1, q1, hm⟩ := obind_some hm
  refine s_call Tryd.call60 (w_bits_Len (a0 := (toU (w64 (a0 - 1)))) S  q1) rfl ?_
  rintro _ w1 ⟨m1, l1, S1, rfl⟩
  replace L0 := Mem.tr L0 l1
  clear S
  replace S1 : St _ (As) _ := S1
  refine s_subI (m := x1) (n := 1) rfl rfl ?_
  obtain ⟨q2, hm⟩ := if_some hm
  refine s_shlI (m := 1) (n := (w64 (x1 - 1))) rfl rfl q2 ?_
  obtain ⟨x2, q3, hm⟩ := bnd_eq hm
  refine s_asv (v := vI x2) (congrArg (fun z => vI z) q3.symm) ?_
  refine wpl_nil ?_
  refine nrm ?_
  refine wpc_ret ?_
  refine outRw ?_
  intro we hpd
  replace S1 := St.pd S1 hpd
  have e0 := Option.some.inj hm
  subst e0
  exact outR [_] rfl ⟨rfl, trivial⟩ ⟨_, L0, S1, rfl⟩

def r_merkle_Prove_1 : Nat → (List (UInt64 × UInt64)) → Int → (List (UInt64 × UInt64)) → Option (List (UInt64 × UInt64))
  | 0, _, _, _ => none
  | n + 1, a0, a1, k1 =>
    if ((a0.length : Int) == 1) = true then
      some k1
    else
    obind (m_merkle_half (a0.length : Int)) fun x1 =>
    obind (cut a0 0 x1) fun x2 =>
    obind (cut a0 x1 (a0.length : Int)) fun x3 =>
    obind (
      if (decide (a1 ≥ x1)) = true then
        some ((w64 (a1 - x1)), x3, x2)
      else
      some (a1, x2, x3)
    ) fun x4 =>
    obind (r_merkle_Prove_1 n x4.2.1 x4.1 k1) fun x5 =>
    obind (m_merkle_Root x4.2.2) fun x6 =>
    obind (app 16 x5 ([x6] : List (UInt64 × UInt64))) fun x7 =>
    some x7

def m_merkle_Prove_1 (a0 : List (UInt64 × UInt64)) (a1 : Int) (k1 : List (UInt64 × UInt64)) : Option (List (UInt64 × UInt64)) := r_merkle_Prove_1 FUEL a0 a1 k1

theorem wr_merkle_Prove_1 (n : Nat) : ∀ {m : Mem} {As : List Ow} {w : World} {a0 : List (UInt64 × UInt64)} {a0v0 : Value} {a1 : Int} {kb0 : Nat} {kb1 : Nat} {k1 : List (UInt64 × UInt64)} {k1v0 : Value} {k1c0 : List Value} {r : List (UInt64 × UInt64)} (S : St m ((bx kb0 [.func (.func 37) #[] #[pt kb0 0, pt kb1 0]] 59) :: (bx kb1 [k1v0] 22) :: (row 2 k1v0 k1c0 k1.length) :: As) w) (a0h0 : SlR m a0v0 a0) (k1h0 : RepL m k1c0 k1) (hm : r_merkle_Prove_1 n a0 a1 k1 = some r),
    CallsR Tryd.prog 37 #[a0v0, vI a1, pt kb0 0, pt kb1 0] w fun v w' => ∃ (M : Mem), m ≤ M ∧ ∃ (rbv1 : Value) (rbc1 : List Value), St M ((bx kb1 [rbv1] 22) :: (row 2 rbv1 rbc1 r.length) :: (bx kb0 [.func (.func 37) #[] #[pt kb0 0, pt kb1 0]] 59) :: As) w' ∧ v = .tuple #[] ∧ RepL M rbc1 r := by
  induction n with
  | zero => intro m As w a0 a0v0 a1 kb0 kb1 k1 k1v0 k1c0 r S a0h0 k1h0 hm; cases hm
  | succ n ih =>
    intro m As w a0 a0v0 a1 kb0 kb1 k1 k1v0 k1c0 r S a0h0 k1h0 hm
    unfold r_merkle_Prove_1 at hm
    have L0 := Mem.rfl' m
    refine callsR (args := [a0v0, vI a1, pt kb0 0, pt kb1 0]) Tryd.func37 rfl Tryd.ntmps37 (Nat.le_of_ble_eq_true rfl) ?_
    refine wpc_seq ?_
    refine wpc_seq ?_
    refine wpc_region ?_
    refine s_mvv (v := a0v0) rfl ?_
    refine s_lenR (xs := a0) rfl a0h0 Tryd.underlying22 ?_
    refine s_eql (m := (a0.length : Int)) (n := 1) rfl rfl ?_
    refine wpl_nil ?_
    refine nrm ?_
    refine wpc_if (t := ((a0.length : Int) == 1)) rfl (fun hc1 => ?_) (fun hc1 => ?_)
    · replace hm := ifT hc1 hm
      refine wpc_ret ?_
      refine thR ?_
      refine outRw ?_
      intro we hpd
      replace S := St.pd S hpd
      have S1 : St _ ((bx kb1 [k1v0] 22) :: (row 2 k1v0 k1c0 k1.length) :: (bx kb0 [.func (.func 37) #[] #[pt kb0 0, pt kb1 0]] 59) :: As) _ := St.perm S (List.Perm.trans (List.Perm.swap _ _ _) (List.Perm.cons _ (List.Perm.swap _ _ _)))
      have e0 := Option.some.inj hm
      subst e0
      exact outR [] rfl trivial ⟨_, L0, _, _, S1, rfl, k1h0⟩
    replace hm := ifF hc1 hm
    refine wpc_skip ?_
    refine nrm ?_
    refine wpc_seq ?_
    refine wpc_region ?_
    refine s_mvv (v := a0v0) rfl ?_
    refine s_lenR (xs := a0) rfl a0h0 Tryd.underlying22 ?_
    obtain ⟨x1, q1, hm⟩ := obind_some hm
    refine s_call Tryd.call38 (w_merkle_half (a0 := (a0.length : Int)) S  q1) rfl ?_
    rintro _ w1 ⟨m1, l1, S2, rfl⟩
    replace a0h0 := a0h0.up l1
    replace k1h0 := RepL.up l1 k1h0
    replace L0 := Mem.tr L0 l1
    clear S
    replace S2 : St _ ((bx kb0 [.func (.func 37) #[] #[pt kb0 0, pt kb1 0]] 59) :: (bx kb1 [k1v0] 22) :: (row 2 k1v0 k1c0 k1.length) :: As) _ := S2
    refine s_asv (v := vI x1) rfl ?_
    refine wpl_nil ?_
    refine nrm ?_
    refine wpc_seq ?_
    obtain ⟨x2, q2, hm⟩ := obind_some hm
    obtain ⟨x3, q3, hm⟩ := obind_some hm
    have HM : MonoAll [(15, fun (M : Mem) (v : Value) => v = a0v0), (16, fun (M : Mem) (v : Value) => v = vI x1), (17, fun (M : Mem) (v : Value) => ∃ (v1 : Value), v = v1 ∧ SlR M v1 x2), (18, fun (M : Mem) (v : Value) => v = a0v0), (19, fun (M : Mem) (v : Value) => v = vI x1), (20, fun (M : Mem) (v : Value) => ∃ (v2 : Value), v = v2 ∧ SlR M v2 x3), (7, fun (M : Mem) (v : Value) => ∃ (v3 : Value), v = v3 ∧ SlR M v3 x2)] := ⟨(fun _ _ _ _ h => h), (fun _ _ _ _ h => h), (fun _ _ _ l ⟨v1, e, h1⟩ => ⟨v1, e, h1.up l⟩), (fun _ _ _ _ h => h), (fun _ _ _ _ h => h), (fun _ _ _ l ⟨v2, e, h2⟩ => ⟨v2, e, h2.up l⟩), (fun _ _ _ l ⟨v3, e, h3⟩ => ⟨v3, e, h3.up l⟩), trivial⟩
    refine wpc_flowG HM 7 mixed rfl rfl rfl [7, 15, 16, 17, 18, 19, 20] (fun L f M w => St M ((bx kb0 [.func (.func 37) #[] #[pt kb0 0, pt kb1 0]] 59) :: (bx kb1 [k1v0] 22) :: (row 2 k1v0 k1c0 k1.length) :: As) w) (St.drew S2 _) ?_ ?_
    · refine ⟨?_, ?_, ?_, ?_, ?_, ?_, ?_, trivial⟩
      · intro L f1 w2 hL hd hc ⟨m2, L1, S3, K, hO⟩
        obtain ⟨u1, rfl⟩ := fr_of (N := 38) (L := []) hO trivial
        replace S3 : St _ ((bx kb0 [.func (.func 37) #[] #[pt kb0 0, pt kb1 0]] 59) :: (bx kb1 [k1v0] 22) :: (row 2 k1v0 k1c0 k1.length) :: As) _ := S3
        have L2 := Mem.rfl' m2
        refine s_mvv (v := a0v0) rfl ?_
        refine wpn ?_
        refine ⟨m2, Mem.tr L1 L2, ?_, facts_step HM rfl K L2 rfl rfl rfl, outP⟩
        exact S3
      · intro L f2 w3 hL hd hc ⟨m3, L3, S4, K, hO⟩
        obtain ⟨u2, rfl⟩ := fr_of (N := 38) (L := []) hO trivial
        replace S4 : St _ ((bx kb0 [.func (.func 37) #[] #[pt kb0 0, pt kb1 0]] 59) :: (bx kb1 [k1v0] 22) :: (row 2 k1v0 k1c0 k1.length) :: As) _ := S4
        have L4 := Mem.rfl' m3
        refine s_mvv (v := vI x1) rfl ?_
        refine wpn ?_
        refine ⟨m3, Mem.tr L3 L4, ?_, facts_step HM rfl K L4 rfl rfl rfl, outP⟩
        exact S4
      · intro L f3 w4 hL hd hc ⟨m4, L5, S5, K, hO⟩
        have d0 : L 0 = true := dep hd rfl
        have e1 := K 0 d0
        have d1 : L 1 = true := dep hd rfl
        have e2 := K 1 d1
        obtain ⟨u3, rfl⟩ := fr_of (N := 38) (L := [(15, a0v0), (16, vI x1)]) hO ⟨e1, e2, trivial⟩
        replace S5 : St _ ((bx kb0 [.func (.func 37) #[] #[pt kb0 0, pt kb1 0]] 59) :: (bx kb1 [k1v0] 22) :: (row 2 k1v0 k1c0 k1.length) :: As) _ := S5
        replace a0h0 := a0h0.up L5
        replace k1h0 := RepL.up L5 k1h0
        have L6 := Mem.rfl' m4
        refine s_cut (ys := x2) (l := 0) (h := x1) rfl a0h0 Tryd.underlying22 Tryd.sizeOf27 (.inl ⟨rfl, rfl⟩) (.inr ⟨_, rfl⟩) (.inl rfl) q2 ?_
        intro v1 h1
        refine wpn ?_
        refine ⟨m4, Mem.tr L5 L6, ?_, facts_step HM rfl K L6 rfl rfl ⟨v1, rfl, h1⟩, outP⟩
        exact S5
      · intro L f4 w5 hL hd hc ⟨m5, L7, S6, K, hO⟩
        obtain ⟨u4, rfl⟩ := fr_of (N := 38) (L := []) hO trivial
        replace S6 : St _ ((bx kb0 [.func (.func 37) #[] #[pt kb0 0, pt kb1 0]] 59) :: (bx kb1 [k1v0] 22) :: (row 2 k1v0 k1c0 k1.length) :: As) _ := S6
        have L8 := Mem.rfl' m5
        refine s_mvv (v := a0v0) rfl ?_
        refine wpn ?_
        refine ⟨m5, Mem.tr L7 L8, ?_, facts_step HM rfl K L8 rfl rfl rfl, outP⟩
        exact S6
      · intro L f5 w6 hL hd hc ⟨m6, L9, S7, K, hO⟩
        obtain ⟨u5, rfl⟩ := fr_of (N := 38) (L := []) hO trivial
        replace S7 : St _ ((bx kb0 [.func (.func 37) #[] #[pt kb0 0, pt kb1 0]] 59) :: (bx kb1 [k1v0] 22) :: (row 2 k1v0 k1c0 k1.length) :: As) _ := S7
        have L10 := Mem.rfl' m6
        refine s_mvv (v := vI x1) rfl ?_
        refine wpn ?_
        refine ⟨m6, Mem.tr L9 L10, ?_, facts_step HM rfl K L10 rfl rfl rfl, outP⟩
        exact S7
      · intro L f6 w7 hL hd hc ⟨m7, L11, S8, K, hO⟩
        have d3 : L 3 = true := dep hd rfl
        have e3 := K 3 d3
        have d4 : L 4 = true := dep hd rfl
        have e4 := K 4 d4
        obtain ⟨u6, rfl⟩ := fr_of (N := 38) (L := [(18, a0v0), (19, vI x1)]) hO ⟨e3, e4, trivial⟩
        replace S8 : St _ ((bx kb0 [.func (.func 37) #[] #[pt kb0 0, pt kb1 0]] 59) :: (bx kb1 [k1v0] 22) :: (row 2 k1v0 k1c0 k1.length) :: As) _ := S8
        replace a0h0 := a0h0.up L11
        replace k1h0 := RepL.up L11 k1h0
        have L12 := Mem.rfl' m7
        refine s_cut (ys := x3) (l := x1) (h := (a0.length : Int)) rfl a0h0 Tryd.underlying22 Tryd.sizeOf27 (.inr ⟨_, rfl⟩) (.inl ⟨rfl, rfl⟩) (.inl rfl) q3 ?_
        intro v2 h2
        refine wpn ?_
        refine ⟨m7, Mem.tr L11 L12, ?_, facts_step HM rfl K L12 rfl rfl ⟨v2, rfl, h2⟩, outP⟩
        exact S8
      · intro L f7 w8 hL hd hc ⟨m8, L13, S9, K, hO⟩
        have d2 : L 2 = true := dep hd rfl
        obtain ⟨v3, e5, h3⟩ := K 2 d2
        obtain ⟨u7, rfl⟩ := fr_of (N := 38) (L := [(17, v3)]) hO ⟨e5, trivial⟩
        replace S9 : St _ ((bx kb0 [.func (.func 37) #[] #[pt kb0 0, pt kb1 0]] 59) :: (bx kb1 [k1v0] 22) :: (row 2 k1v0 k1c0 k1.length) :: As) _ := S9
        have L14 := Mem.rfl' m8
        refine s_asv (v := v3) rfl ?_
        refine wpn ?_
        refine ⟨m8, Mem.tr L13 L14, ?_, facts_step HM rfl K L14 rfl rfl ⟨v3, rfl, h3⟩, outP⟩
        exact S9
    intro L f8 w9 hall ⟨m9, L15, S10, K, hO⟩
    have d6 : L 6 = true := hall 6 (by decide)
    obtain ⟨v4, e6, h4⟩ := K 6 d6
    have d5 : L 5 = true := hall 5 (by decide)
    obtain ⟨v5, e7, h5⟩ := K 5 d5
    obtain ⟨u8, rfl⟩ := fr_of (N := 38) (L := [(7, v4), (20, v5)]) hO ⟨e6, e7, trivial⟩
    replace S10 : St _ ((bx kb0 [.func (.func 37) #[] #[pt kb0 0, pt kb1 0]] 59) :: (bx kb1 [k1v0] 22) :: (row 2 k1v0 k1c0 k1.length) :: As) _ := S10
    replace a0h0 := a0h0.up L15
    replace k1h0 := RepL.up L15 k1h0
    replace L0 := Mem.tr L0 L15
    clear S2
    refine s_asv (v := v5) rfl ?_
    refine wpl_nil ?_
    refine nrm ?_
    obtain ⟨x4, q4, hm⟩ := obind_some hm
    have L16 := Mem.rfl' m9
    refine wpc_seq ?_
    refine wpc_join [1, 7, 8, 21, 22, 23, 24, 25, 26, 27, 28] (fun f' w' => ∃ (M1 : Mem) (v6 : Value) (v7 : Value), m9 ≤ M1 ∧ St M1 ((bx kb0 [.func (.func 37) #[] #[pt kb0 0, pt kb1 0]] 59) :: (bx kb1 [k1v0] 22) :: (row 2 k1v0 k1c0 k1.length) :: As) w' ∧ SlR M1 v6 x4.2.1 ∧ SlR M1 v7 x4.2.2 ∧ AllAt f' [(1, vI x4.1), (7, v6), (8, v7)]) ?_ ?_
    · refine wpc_seq ?_
      refine wpc_region ?_
      refine s_mvv (v := vI a1) rfl ?_
      refine s_mvv (v := vI x1) rfl ?_
      refine s_geq (m := a1) (n := x1) rfl rfl ?_
      refine wpl_nil ?_
      refine nrm ?_
      refine wpc_if (t := (decide (a1 ≥ x1))) rfl (fun hc2 => ?_) (fun hc2 => ?_)
      · replace q4 := ifT hc2 q4
        refine wpc_region ?_
        refine s_mvv (v := v5) rfl ?_
        refine s_mvv (v := v4) rfl ?_
        refine s_mvv (v := vI a1) rfl ?_
        refine s_mvv (v := vI x1) rfl ?_
        refine s_subI (m := a1) (n := x1) rfl rfl ?_
        refine s_asv (v := v5) rfl ?_
        refine s_asv (v := v4) rfl ?_
        refine s_asv (v := vI (w64 (a1 - x1))) rfl ?_
        refine wpl_nil ?_
        refine nrm ?_
        have e0 := Option.some.inj q4
        subst e0
        exact ⟨outP, m9, _, _, L16, S10, h5, h4, ⟨rfl, rfl, rfl, trivial⟩⟩
      replace q4 := ifF hc2 q4
      refine wpc_skip ?_
      refine nrm ?_
      have e0 := Option.some.inj q4
      subst e0
      exact ⟨outP, m9, _, _, L16, S10, h4, h5, ⟨rfl, rfl, rfl, trivial⟩⟩
    rintro f9 w10 ho ⟨m10, v6, v7, l2, S11, h6, h7, ha⟩
    obtain ⟨u9, rfl⟩ := fr_of (N := 38) ho ha
    replace k1h0 := RepL.up l2 k1h0
    replace L0 := Mem.tr L0 l2
    clear S10
    refine wpc_seq ?_
    refine wpc_region ?_
    refine s_ld (i := 0) (cs := [.func (.func 37) #[] #[pt kb0 0, pt kb1 0]]) S11 rfl rfl Tryd.isAgg59 Tryd.sizeOf59 rfl (fun _ => rfl) ?_
    refine s_mvv (v := v6) rfl ?_
    refine s_mvv (v := vI x4.1) rfl ?_
    obtain ⟨x5, q5, hm⟩ := obind_some hm
    refine s_callC rfl Tryd.call37 (ih (a0 := x4.2.1) (a1 := x4.1) (k1 := k1) S11 h6 k1h0 q5) rfl rfl ?_
    rintro _ w11 ⟨m11, l3, v8, c1, S12, rfl, h8⟩
    replace h7 := h7.up l3
    replace h6 := h6.up l3
    replace L0 := Mem.tr L0 l3
    clear S11
    replace S12 : St _ ((bx kb1 [v8] 22) :: (row 2 v8 c1 x5.length) :: (bx kb0 [.func (.func 37) #[] #[pt kb0 0, pt kb1 0]] 59) :: As) _ := S12
    refine wpl_nil ?_
    refine nrm ?_
    obtain ⟨x6, q6, hm⟩ := obind_some hm
    have HM : MonoAll [(33, fun (M : Mem) (v : Value) => v = v8), (34, fun (M : Mem) (v : Value) => v = v7), (35, fun (M : Mem) (v : Value) => v = .agg #[vU x6.1, vU x6.2]), (36, fun (M : Mem) (v : Value) => ∃ (v9 : Value), v = v9 ∧ SlR M v9 ([x6] : List (UInt64 × UInt64)))] := ⟨(fun _ _ _ _ h => h), (fun _ _ _ _ h => h), (fun _ _ _ _ h => h), (fun _ _ _ l ⟨v9, e, h9⟩ => ⟨v9, e, h9.up l⟩), trivial⟩
    refine wpc_flowG HM 4 mixed rfl rfl rfl [33, 34, 35, 36] (fun L f M w => St M ((bx kb1 [v8] 22) :: (row 2 v8 c1 x5.length) :: (bx kb0 [.func (.func 37) #[] #[pt kb0 0, pt kb1 0]] 59) :: As) w) (St.drew S12 _) ?_ ?_
    · refine ⟨?_, ?_, ?_, ?_, trivial⟩
      · intro L f10 w12 hL hd hc ⟨m12, L17, S13, K, hO⟩
        obtain ⟨u10, rfl⟩ := fr_of (N := 38) (L := []) hO trivial
        replace S13 : St _ ((bx kb1 [v8] 22) :: (row 2 v8 c1 x5.length) :: (bx kb0 [.func (.func 37) #[] #[pt kb0 0, pt kb1 0]] 59) :: As) _ := S13
        replace h7 := h7.up L17
        replace h8 := RepL.up L17 h8
        have L18 := Mem.rfl' m12
        refine s_ld (i := 0) (cs := [v8]) S13 rfl rfl Tryd.isAgg22 Tryd.sizeOf22 rfl (fun _ => rfl) ?_
        refine wpn ?_
        refine ⟨m12, Mem.tr L17 L18, ?_, facts_step HM rfl K L18 rfl rfl rfl, outP⟩
        exact S13
      · intro L f11 w13 hL hd hc ⟨m13, L19, S14, K, hO⟩
        obtain ⟨u11, rfl⟩ := fr_of (N := 38) (L := []) hO trivial
        replace S14 : St _ ((bx kb1 [v8] 22) :: (row 2 v8 c1 x5.length) :: (bx kb0 [.func (.func 37) #[] #[pt kb0 0, pt kb1 0]] 59) :: As) _ := S14
        have L20 := Mem.rfl' m13
        refine s_mvv (v := v7) rfl ?_
        refine wpn ?_
        refine ⟨m13, Mem.tr L19 L20, ?_, facts_step HM rfl K L20 rfl rfl rfl, outP⟩
        exact S14
      · intro L f12 w14 hL hd hc ⟨m14, L21, S15, K, hO⟩
        have d1 : L 1 = true := dep hd rfl
        have e8 := K 1 d1
        obtain ⟨u12, rfl⟩ := fr_of (N := 38) (L := [(34, v7)]) hO ⟨e8, trivial⟩
        replace S15 : St _ ((bx kb1 [v8] 22) :: (row 2 v8 c1 x5.length) :: (bx kb0 [.func (.func 37) #[] #[pt kb0 0, pt kb1 0]] 59) :: As) _ := S15
        replace h7 := h7.up L21
        replace h8 := RepL.up L21 h8
        have L22 := Mem.rfl' m14
        refine s_call Tryd.call13 (w_merkle_Root (a0 := x4.2.2) S15 h7 q6) rfl ?_
        rintro _ w15 ⟨m15, l4, S16, rfl⟩
        replace h7 := h7.up l4
        replace h8 := RepL.up l4 h8
        replace L22 := Mem.tr L22 l4
        clear S15
        replace S16 : St _ ((bx kb1 [v8] 22) :: (row 2 v8 c1 x5.length) :: (bx kb0 [.func (.func 37) #[] #[pt kb0 0, pt kb1 0]] 59) :: As) _ := S16
        refine wpn ?_
        refine ⟨m15, Mem.tr L21 L22, ?_, facts_step HM rfl K L22 rfl rfl rfl, outP⟩
        exact S16
      · intro L f13 w16 hL hd hc ⟨m16, L23, S17, K, hO⟩
        have d2 : L 2 = true := dep hd rfl
        have e9 := K 2 d2
        obtain ⟨u13, rfl⟩ := fr_of (N := 38) (L := [(35, .agg #[vU x6.1, vU x6.2])]) hO ⟨e9, trivial⟩
        replace S17 : St _ ((bx kb1 [v8] 22) :: (row 2 v8 c1 x5.length) :: (bx kb0 [.func (.func 37) #[] #[pt kb0 0, pt kb1 0]] 59) :: As) _ := S17
        replace h7 := h7.up L23
        replace h8 := RepL.up L23 h8
        have L24 := Mem.rfl' m16
        refine s_litC (parts := [.tmp 35]) (vs := [.agg #[vU x6.1, vU x6.2]]) (cls := [[vU x6.1, vU x6.2]]) (xs := ([x6] : List (UInt64 × UInt64))) (n := 1) S17 Tryd.underlying22 Tryd.sizeOf27 Tryd.zeroValue27 rfl ⟨rfl, trivial⟩ (RepL.cons (c := [vU x6.1, vU x6.2]) (x := x6) mk_arr2_UInt64 RepL.nil) rfl rfl rfl (by decide) (by decide) ?_
        intro v9 m17 w17 l5 S18 h9
        replace h7 := h7.up l5
        replace h8 := RepL.up l5 h8
        replace L24 := Mem.tr L24 l5
        clear S17
        refine wpn ?_
        refine ⟨m17, Mem.tr L23 L24, ?_, facts_step HM rfl K L24 rfl rfl ⟨v9, rfl, h9⟩, outP⟩
        exact S18
    intro L f14 w18 hall ⟨m18, L25, S19, K, hO⟩
    have d0 : L 0 = true := hall 0 (by decide)
    have e10 := K 0 d0
    have d3 : L 3 = true := hall 3 (by decide)
    obtain ⟨v10, e11, h10⟩ := K 3 d3
    obtain ⟨u14, rfl⟩ := fr_of (N := 38) (L := [(33, v8), (36, v10)]) hO ⟨e10, e11, trivial⟩
    replace S19 : St _ ((bx kb1 [v8] 22) :: (row 2 v8 c1 x5.length) :: (bx kb0 [.func (.func 37) #[] #[pt kb0 0, pt kb1 0]] 59) :: As) _ := S19
    replace h7 := h7.up L25
    replace h8 := RepL.up L25 h8
    replace L0 := Mem.tr L0 L25
    clear S12
    obtain ⟨x7, q7, hm⟩ := obind_some hm
    refine s_app (i := 1) (zs := x7) (bytes := 16) (ti := Tryd.t27) S19 rfl rfl h8 rfl rfl h10 q7 Tryd.underlying22 Tryd.type27 rfl rfl rfl rfl ?_
    intro v11 c2 w19 S20 h11
    replace S20 : St _ ((bx kb1 [v8] 22) :: (row 2 v11 c2 x7.length) :: (bx kb0 [.func (.func 37) #[] #[pt kb0 0, pt kb1 0]] 59) :: As) _ := S20
    clear S19
    refine s_stS (i := 0) S20 rfl rfl rfl Tryd.sizeOf22 (St.rowCells (i := 1) S20 rfl) rfl ?_
    intro w20 S21
    replace S21 : St _ ((bx kb1 [v11] 22) :: (row 2 v11 c2 x7.length) :: (bx kb0 [.func (.func 37) #[] #[pt kb0 0, pt kb1 0]] 59) :: As) _ := S21
    clear S20
    refine wpl_nil ?_
    refine outNw ?_
    intro we hpd
    replace S21 := St.pd S21 hpd
    have e0 := Option.some.inj hm
    subst e0
    exact outR [] rfl trivial ⟨_, L0, _, _, S21, rfl, h11⟩

theorem w_merkle_Prove_1 {m : Mem} {As : List Ow} {w : World} {a0 : List (UInt64 × UInt64)} {a0v0 : Value} {a1 : Int} {kb0 : Nat} {kb1 : Nat} {k1 : List (UInt64 × UInt64)} {k1v0 : Value} {k1c0 : List Value} {r : List (UInt64 × UInt64)} (S : St m ((bx kb0 [.func (.func 37) #[] #[pt kb0 0, pt kb1 0]] 59) :: (bx kb1 [k1v0] 22) :: (row 2 k1v0 k1c0 k1.length) :: As) w) (a0h0 : SlR m a0v0 a0) (k1h0 : RepL m k1c0 k1) (hm : m_merkle_Prove_1 a0 a1 k1 = some r) :
    CallsR Tryd.prog 37 #[a0v0, vI a1, pt kb0 0, pt kb1 0] w fun v w' => ∃ (M : Mem), m ≤ M ∧ ∃ (rbv1 : Value) (rbc1 : List Value), St M ((bx kb1 [rbv1] 22) :: (row 2 rbv1 rbc1 r.length) :: (bx kb0 [.func (.func 37) #[] #[pt kb0 0, pt kb1 0]] 59) :: As) w' ∧ v = .tuple #[] ∧ RepL M rbc1 r := wr_merkle_Prove_1 FUEL S a0h0 k1h0 hm

def m_merkle_Prove (a0 : List (UInt64 × UInt64)) (a1 : Int) : Option ((List (UInt64 × UInt64)) × Int) :=
  if (((decide ((a0.length : Int) > 256)) || (decide (a1 < 0))) || (decide (a1 ≥ (a0.length : Int)))) = true then
    some (([] : List (UInt64 × UInt64)), 80)
  else
  obind (m_merkle_Prove_1 a0 a1 ([] : List (UInt64 × UInt64))) fun x1 =>
  some (x1, 0)

theorem w_merkle_Prove {m : Mem} {As : List Ow} {w : World} {a0 : List (UInt64 × UInt64)} {a0v0 : Value} {a1 : Int} {r : (List (UInt64 × UInt64)) × Int} (S : St m (As) w) (a0h0 : SlR m a0v0 a0) (hm : m_merkle_Prove a0 a1 = some r) :
    CallsR Tryd.prog 18 #[a0v0, vI a1] w fun v w' => ∃ (M : Mem), m ≤ M ∧ ∃ (rv0 : Value) (rc0 : List Value), St M ((row 2 rv0 rc0 r.1.length) :: As) w' ∧ v = .tuple #[rv0, vI r.2] ∧ RepL M rc0 r.1 := by
  unfold m_merkle_Prove at hm
  have L0 := Mem.rfl' m
  refine callsR (args := [a0v0, vI a1]) Tryd.func18 rfl Tryd.ntmps18 (Nat.le_of_ble_eq_true rfl) ?_
  refine wpc_seq ?_
  refine wpc_region ?_
  refine s_asv (v := .slice none 0 0) rfl ?_
  refine s_asv (v := vI 0) rfl ?_
  refine wpl_nil ?_
  refine nrm ?_
  refine wpc_seq ?_
  refine wpc_seq ?_
  refine wpc_region ?_
  refine s_mvv (v := a0v0) rfl ?_
  refine s_lenR (xs := a0) rfl a0h0 Tryd.underlying22 ?_
  refine s_gtr (m := (a0.length : Int)) (n := 256) rfl rfl ?_
  refine s_mvv (v := vb (decide ((a0.length : Int) > 256))) rfl ?_
  refine wpl_cut 3 [12, 13, 14] (fun f' w' => w' = w ∧ AllAt f' [(14, vb ((decide ((a0.length : Int) > 256)) || (decide (a1 < 0))))]) ?_ ?_
  · rcases bool_tf (decide ((a0.length : Int) > 256)) with hb1 | hb1
    · refine wpl_no (d := 11) rfl rfl (congrArg Value.bool hb1) ?_
      refine wpl_no (d := 11) rfl rfl (congrArg Value.bool hb1) ?_
      refine s_pickT (congrArg Value.bool hb1) rfl ?_
      exact wpl_nil (nrm ⟨outP, rfl, congrArg Value.bool (or_t hb1), trivial⟩)
    · refine wpl_yes (d := 11) rfl rfl (congrArg Value.bool hb1) ?_
      refine s_mvv (v := vI a1) rfl ?_
      refine wpl_yes (d := 11) rfl rfl (congrArg Value.bool hb1) ?_
      refine s_lss (m := a1) (n := 0) rfl rfl ?_
      refine s_pickF (congrArg Value.bool hb1) rfl ?_
      exact wpl_nil (nrm ⟨outP, rfl, congrArg Value.bool (or_f hb1), trivial⟩)
  rintro f1 w1 ho ⟨h1, ha⟩
  subst h1
  obtain ⟨u1, rfl⟩ := fr_of (N := 27) ho ha
  refine s_mvv (v := vb ((decide ((a0.length : Int) > 256)) || (decide (a1 < 0)))) rfl ?_
  refine wpl_cut 5 [16, 17, 18, 19, 20] (fun f' w' => w' = w1 ∧ AllAt f' [(20, vb (((decide ((a0.length : Int) > 256)) || (decide (a1 < 0))) || (decide (a1 ≥ (a0.length : Int)))))]) ?_ ?_
  · rcases bool_tf ((decide ((a0.length : Int) > 256)) || (decide (a1 < 0))) with hb2 | hb2
    · refine wpl_no (d := 15) rfl rfl (congrArg Value.bool hb2) ?_
      refine wpl_no (d := 15) rfl rfl (congrArg Value.bool hb2) ?_
      refine wpl_no (d := 15) rfl rfl (congrArg Value.bool hb2) ?_
      refine wpl_no (d := 15) rfl rfl (congrArg Value.bool hb2) ?_
      refine s_pickT (congrArg Value.bool hb2) rfl ?_
      exact wpl_nil (nrm ⟨outP, rfl, congrArg Value.bool (or_t hb2), trivial⟩)
    · refine wpl_yes (d := 15) rfl rfl (congrArg Value.bool hb2) ?_
      refine s_mvv (v := vI a1) rfl ?_
      refine wpl_yes (d := 15) rfl rfl (congrArg Value.bool hb2) ?_
      refine s_mvv (v := a0v0) rfl ?_
      refine wpl_yes (d := 15) rfl rfl (congrArg Value.bool hb2) ?_
      refine s_lenR (xs := a0) rfl a0h0 Tryd.underlying22 ?_
      refine wpl_yes (d := 15) rfl rfl (congrArg Value.bool hb2) ?_
      refine s_geq (m := a1) (n := (a0.length : Int)) rfl rfl ?_
      refine s_pickF (congrArg Value.bool hb2) rfl ?_
      exact wpl_nil (nrm ⟨outP, rfl, congrArg Value.bool (or_f hb2), trivial⟩)
  rintro f2 w2 ho ⟨h2, ha⟩
  subst h2
  obtain ⟨u2, rfl⟩ := fr_of (N := 27) ho ha
  refine wpl_nil ?_
  refine nrm ?_
  refine wpc_if (t := (((decide ((a0.length : Int) > 256)) || (decide (a1 < 0))) || (decide (a1 ≥ (a0.length : Int))))) rfl (fun hc1 => ?_) (fun hc1 => ?_)
  · replace hm := ifT hc1 hm
    refine wpc_seq ?_
    refine wpc_region ?_
    refine s_asv (v := .slice none 0 0) rfl ?_
    refine s_asv (v := vI 80) rfl ?_
    refine wpl_nil ?_
    refine nrm ?_
    refine wpc_ret ?_
    refine thR ?_
    refine outRw ?_
    intro we hpd
    replace S := St.pd S hpd
    have S1 := St.rowNil S 2
    have h3 : RepL m [] ([] : List (UInt64 × UInt64)) := RepL.nil
    replace S1 : St _ ((row 2 (.slice none 0 0) [] ([] : List (UInt64 × UInt64)).length) :: As) _ := S1
    clear S
    have e0 := Option.some.inj hm
    subst e0
    exact outR [_, _] rfl ⟨rfl, rfl, trivial⟩ ⟨_, L0, _, _, S1, rfl, h3⟩
  replace hm := ifF hc1 hm
  refine wpc_skip ?_
  refine nrm ?_
  refine wpc_seq ?_
  refine wpc_region ?_
  refine s_alloc S Tryd.zeroValue22 ?_
  intro b1 w3 S2
  replace S2 : St _ ((bx b1 [.slice none 0 0] 22) :: As) _ := S2
  clear S
  refine wpl_nil ?_
  refine nrm ?_
  refine wpc_seq ?_
  refine wpc_region ?_
  refine s_alloc S2 Tryd.zeroValue59 ?_
  intro b2 w4 S3
  replace S3 : St _ ((bx b2 [.nilFunc] 59) :: (bx b1 [.slice none 0 0] 22) :: As) _ := S3
  clear S2
  refine wpl_nil ?_
  refine nrm ?_
  refine wpc_seq ?_
  refine wpc_region ?_
  refine s_funcC (caps := [pt b2 0, pt b1 0]) rfl ?_
  refine s_stL (i := 0) S3 rfl rfl rfl Tryd.sizeOf59 (oneC rfl oneN) rfl ?_
  intro w5 S4
  replace S4 : St _ ((bx b2 [.func (.func 37) #[] #[pt b2 0, pt b1 0]] 59) :: (bx b1 [.slice none 0 0] 22) :: As) _ := S4
  clear S3
  refine wpl_nil ?_
  refine nrm ?_
  refine wpc_seq ?_
  refine wpc_region ?_
  refine s_ld (i := 0) (cs := [.func (.func 37) #[] #[pt b2 0, pt b1 0]]) S4 rfl rfl Tryd.isAgg59 Tryd.sizeOf59 rfl (fun _ => rfl) ?_
  refine s_mvv (v := a0v0) rfl ?_
  refine s_mvv (v := vI a1) rfl ?_
  have S5 := St.rowNil S4 2
  have h4 : RepL m [] ([] : List (UInt64 × UInt64)) := RepL.nil
  replace S5 : St _ ((row 2 (.slice none 0 0) [] ([] : List (UInt64 × UInt64)).length) :: (bx b2 [.func (.func 37) #[] #[pt b2 0, pt b1 0]] 59) :: (bx b1 [(.slice none 0 0)] 22) :: As) _ := S5
  clear S4
  have S6 : St _ ((bx b2 [.func (.func 37) #[] #[pt b2 0, pt b1 0]] 59) :: (bx b1 [(.slice none 0 0)] 22) :: (row 2 (.slice none 0 0) [] ([] : List (UInt64 × UInt64)).length) :: As) _ := St.perm S5 (List.Perm.trans (List.Perm.swap _ _ _) (List.Perm.cons _ (List.Perm.swap _ _ _)))
  clear S5
  obtain ⟨x1, q1, hm⟩ := obind_some hm
  refine s_callC rfl Tryd.call37 (w_merkle_Prove_1 (a0 := a0) (a1 := a1) (k1 := ([] : List (UInt64 × UInt64))) S6 a0h0 h4 q1) rfl rfl ?_
  rintro _ w6 ⟨m1, l1, v1, c1, S7, rfl, h5⟩
  replace a0h0 := a0h0.up l1
  replace L0 := Mem.tr L0 l1
  clear S6
  replace S7 : St _ ((bx b1 [v1] 22) :: (row 2 v1 c1 x1.length) :: (bx b2 [.func (.func 37) #[] #[pt b2 0, pt b1 0]] 59) :: As) _ := S7
  refine wpl_nil ?_
  refine nrm ?_
  refine wpc_seq ?_
  refine wpc_region ?_
  refine s_ld (i := 0) (cs := [v1]) S7 rfl rfl Tryd.isAgg22 Tryd.sizeOf22 rfl (fun _ => rfl) ?_
  refine s_asv (v := v1) rfl ?_
  refine s_asv (v := vI 0) rfl ?_
  refine wpl_nil ?_
  refine nrm ?_
  refine wpc_ret ?_
  refine outRw ?_
  intro we hpd
  replace S7 := St.pd S7 hpd
  obtain ⟨m2, l2, S8⟩ := St.drop S7 0
  replace h5 := RepL.up l2 h5
  replace L0 := Mem.tr L0 l2
  clear S7
  replace S8 : St _ ((row 2 v1 c1 x1.length) :: (bx b2 [.func (.func 37) #[] #[pt b2 0, pt b1 0]] 59) :: As) _ := S8
  obtain ⟨m3, l3, S9⟩ := St.drop S8 1
  replace h5 := RepL.up l3 h5
  replace L0 := Mem.tr L0 l3
  clear S8
  replace S9 : St _ ((row 2 v1 c1 x1.length) :: As) _ := S9
  have e0 := Option.some.inj hm
  subst e0
  exact outR [_, _] rfl ⟨rfl, rfl, trivial⟩ ⟨_, L0, _, _, S9, rfl, h5⟩

def m_ref08_Sums_b1 (a0 : List (UInt64 × UInt64)) (a1 : List (UInt64 × UInt64)) (s1 : Int) : Option ((Int) ⊕ ((Unit) ⊕ Bool)) :=
  if (decide (s1 < (a0.length : Int))) = true then
    obind (idx a0 s1) fun x3 =>
    obind (idx a1 s1) fun x4 =>
    if (!eqSum x3 x4) = true then
      some (.inr (.inr false))
    else
    some (.inl (w64 (s1 + 1)))
  else
  some (.inr (.inl ()))

def m_ref08_Sums (a0 : List (UInt64 × UInt64)) (a1 : List (UInt64 × UInt64)) : Option Bool :=
  if ((a0.length : Int) != (a1.length : Int)) = true then
    some false
  else
  obind (iter (m_ref08_Sums_b1 a0 a1) FUEL 0) fun x1 => match x1 with
  | .inr r => some r
  | .inl y1 =>
  some true

theorem w_ref08_Sums {m : Mem} {As : List Ow} {w : World} {a0 : List (UInt64 × UInt64)} {a0v0 : Value} {a1 : List (UInt64 × UInt64)} {a1v0 : Value} {r : Bool} (S : St m (As) w) (a0h0 : SlR m a0v0 a0) (a1h0 : SlR m a1v0 a1) (hm : m_ref08_Sums a0 a1 = some r) :
    CallsR Tryd.prog 20 #[a0v0, a1v0] w fun v w' => ∃ (M : Mem), m ≤ M ∧ St M (As) w' ∧ v = vb r := by
  unfold m_ref08_Sums at hm
  have L0 := Mem.rfl' m
  refine callsR (args := [a0v0, a1v0]) Tryd.func20 rfl Tryd.ntmps20 (Nat.le_of_ble_eq_true rfl) ?_
  refine wpc_seq ?_
  refine wpc_region ?_
  refine s_asv (v := vb false) rfl ?_
  refine wpl_nil ?_
  refine nrm ?_
  refine wpc_seq ?_
  refine wpc_seq ?_
  refine wpc_region ?_
  refine s_mvv (v := a0v0) rfl ?_
  refine s_lenR (xs := a0) rfl a0h0 Tryd.underlying22 ?_
  refine s_mvv (v := a1v0) rfl ?_
  refine s_lenR (xs := a1) rfl a1h0 Tryd.underlying22 ?_
  refine s_neq (m := (a0.length : Int)) (n := (a1.length : Int)) rfl rfl ?_
  refine wpl_nil ?_
  refine nrm ?_
  refine wpc_if (t := ((a0.length : Int) != (a1.length : Int))) rfl (fun hc1 => ?_) (fun hc1 => ?_)
  · replace hm := ifT hc1 hm
    refine wpc_seq ?_
    refine wpc_region ?_
    refine s_asv (v := vb false) rfl ?_
    refine wpl_nil ?_
    refine nrm ?_
    refine wpc_ret ?_
    refine thR ?_
    refine outRw ?_
    intro we hpd
    replace S := St.pd S hpd
    have e0 := Option.some.inj hm
    subst e0
    exact outR [_] rfl ⟨rfl, trivial⟩ ⟨_, L0, S, rfl⟩
  replace hm := ifF hc1 hm
  refine wpc_skip ?_
  refine nrm ?_
  refine wpc_seq ?_
  refine wpc_seq ?_
  refine wpc_region ?_
  refine s_asv (v := vI 0) rfl ?_
  refine wpl_nil ?_
  refine nrm ?_
  obtain ⟨x1, q1, hm⟩ := obind_some hm
  have L1 := Mem.rfl' m
  refine wpc_join [4, 5, 11, 12, 13, 14, 15, 16, 17, 18, 19, 20, 21, 22, 23, 24, 25] (fun f' w' => ∃ (M1 : Mem) (y1 : Unit), x1 = .inl y1 ∧ m ≤ M1 ∧ St M1 (As) w' ∧ AllAt f' []) ?_ ?_
  · refine wpc_block ?_
    refine wpc_rounds [4, 5, 11, 12, 13, 14, 15, 16, 17, 18, 19, 20, 21, 22, 23, 24, 25] (fun n1 f' w' => ∃ (s1 : Int) (m11 : Mem), iter (m_ref08_Sums_b1 a0 a1) n1 s1 = some x1 ∧ m ≤ m11 ∧ St m11 (As) w' ∧ AllAt f' [(5, vI s1)]) FUEL ⟨0, m, q1, L1, S, ⟨rfl, trivial⟩⟩ ?_
    rintro n1 f1 w1 ho ⟨s1, m1, q2, L3, S1, ha⟩
    obtain ⟨u1, rfl⟩ := fr_of (N := 26) ho ha
    clear ho ha
    replace a0h0 := a0h0.up L3
    replace a1h0 := a1h0.up L3
    have L2 := Mem.rfl' m1
    clear S
    cases n1 with
    | zero => exact (iter_zero q2).elim
    | succ n1 =>
      obtain ⟨y2, q4, q3⟩ := iter_succ q2
      unfold m_ref08_Sums_b1 at q4
      refine wpc_seq ?_
      refine wpc_seq ?_
      refine wpc_region ?_
      refine s_mvv (v := vI s1) rfl ?_
      refine s_mvv (v := a0v0) rfl ?_
      refine s_lenR (xs := a0) rfl a0h0 Tryd.underlying22 ?_
      refine s_lss (m := s1) (n := (a0.length : Int)) rfl rfl ?_
      refine wpl_nil ?_
      refine nrm ?_
      refine wpc_if (t := (decide (s1 < (a0.length : Int)))) rfl (fun hc2 => ?_) (fun hc2 => ?_)
      · replace q4 := ifT hc2 q4
        refine wpc_skip ?_
        refine nrm ?_
        refine wpc_seq ?_
        refine wpc_block ?_
        refine wpc_seq ?_
        obtain ⟨x3, q6, q4⟩ := obind_some q4
        obtain ⟨x4, q7, q4⟩ := obind_some q4
        have HM : MonoAll [(17, fun (M : Mem) (v : Value) => v = a0v0), (18, fun (M : Mem) (v : Value) => v = vI s1), (19, fun (M : Mem) (v : Value) => ∃ (p1 : Value), v = p1 ∧ PtC M p1 [vU x3.1, vU x3.2]), (20, fun (M : Mem) (v : Value) => v = .agg #[vU x3.1, vU x3.2]), (21, fun (M : Mem) (v : Value) => v = a1v0), (22, fun (M : Mem) (v : Value) => v = vI s1), (23, fun (M : Mem) (v : Value) => ∃ (p2 : Value), v = p2 ∧ PtC M p2 [vU x4.1, vU x4.2]), (24, fun (M : Mem) (v : Value) => v = .agg #[vU x4.1, vU x4.2])] := ⟨(fun _ _ _ _ h => h), (fun _ _ _ _ h => h), (fun _ _ _ l ⟨p1, e, h1⟩ => ⟨p1, e, h1.up l⟩), (fun _ _ _ _ h => h), (fun _ _ _ _ h => h), (fun _ _ _ _ h => h), (fun _ _ _ l ⟨p2, e, h3⟩ => ⟨p2, e, h3.up l⟩), (fun _ _ _ _ h => h), trivial⟩
        refine wpc_flowG HM 8 mixed rfl rfl rfl [17, 18, 19, 20, 21, 22, 23, 24] (fun L f M w => St M (As) w) (St.drew S1 _) ?_ ?_
        · refine ⟨?_, ?_, ?_, ?_, ?_, ?_, ?_, ?_, trivial⟩
          · intro L f2 w2 hL hd hc ⟨m2, L4, S2, K, hO⟩
            obtain ⟨u2, rfl⟩ := fr_of (N := 26) (L := []) hO trivial
            replace S2 : St _ (As) _ := S2
            have L5 := Mem.rfl' m2
            refine s_mvv (v := a0v0) rfl ?_
            refine wpn ?_
            refine ⟨m2, Mem.tr L4 L5, ?_, facts_step HM rfl K L5 rfl rfl rfl, outP⟩
            exact S2
          · intro L f3 w3 hL hd hc ⟨m3, L6, S3, K, hO⟩
            obtain ⟨u3, rfl⟩ := fr_of (N := 26) (L := []) hO trivial
            replace S3 : St _ (As) _ := S3
            have L7 := Mem.rfl' m3
            refine s_mvv (v := vI s1) rfl ?_
            refine wpn ?_
            refine ⟨m3, Mem.tr L6 L7, ?_, facts_step HM rfl K L7 rfl rfl rfl, outP⟩
            exact S3
          · intro L f4 w4 hL hd hc ⟨m4, L8, S4, K, hO⟩
            have d0 : L 0 = true := dep hd rfl
            have e1 := K 0 d0
            have d1 : L 1 = true := dep hd rfl
            have e2 := K 1 d1
            obtain ⟨u4, rfl⟩ := fr_of (N := 26) (L := [(17, a0v0), (18, vI s1)]) hO ⟨e1, e2, trivial⟩
            replace S4 : St _ (As) _ := S4
            replace a0h0 := a0h0.up L8
            replace a1h0 := a1h0.up L8
            have L9 := Mem.rfl' m4
            refine s_idx (q := x3) rfl rfl a0h0 q6 Tryd.underlying22 Tryd.sizeOf27 ?_
            intro p1 c1 h1 r1
            obtain rfl := rep_arr2_UInt64 r1
            refine wpn ?_
            refine ⟨m4, Mem.tr L8 L9, ?_, facts_step HM rfl K L9 rfl rfl ⟨p1, rfl, h1⟩, outP⟩
            exact S4
          · intro L f5 w5 hL hd hc ⟨m5, L10, S5, K, hO⟩
            have d2 : L 2 = true := dep hd rfl
            obtain ⟨v1, e3, h2⟩ := K 2 d2
            obtain ⟨u5, rfl⟩ := fr_of (N := 26) (L := [(19, v1)]) hO ⟨e3, trivial⟩
            replace S5 : St _ (As) _ := S5
            replace a0h0 := a0h0.up L10
            replace a1h0 := a1h0.up L10
            have L11 := Mem.rfl' m5
            refine s_ldM (cs := [vU x3.1, vU x3.2]) S5 rfl h2 rfl Tryd.isAgg27 Tryd.sizeOf27 (fun h => by cases h) ?_
            refine wpn ?_
            refine ⟨m5, Mem.tr L10 L11, ?_, facts_step HM rfl K L11 rfl rfl rfl, outP⟩
            exact S5
          · intro L f6 w6 hL hd hc ⟨m6, L12, S6, K, hO⟩
            obtain ⟨u6, rfl⟩ := fr_of (N := 26) (L := []) hO trivial
            replace S6 : St _ (As) _ := S6
            have L13 := Mem.rfl' m6
            refine s_mvv (v := a1v0) rfl ?_
            refine wpn ?_
            refine ⟨m6, Mem.tr L12 L13, ?_, facts_step HM rfl K L13 rfl rfl rfl, outP⟩
            exact S6
          · intro L f7 w7 hL hd hc ⟨m7, L14, S7, K, hO⟩
            obtain ⟨u7, rfl⟩ := fr_of (N := 26) (L := []) hO trivial
            replace S7 : St _ (As) _ := S7
            have L15 := Mem.rfl' m7
            refine s_mvv (v := vI s1) rfl ?_
            refine wpn ?_
            refine ⟨m7, Mem.tr L14 L15, ?_, facts_step HM rfl K L15 rfl rfl rfl, outP⟩
            exact S7
          · intro L f8 w8 hL hd hc ⟨m8, L16, S8, K, hO⟩
            have d4 : L 4 = true := dep hd rfl
            have e4 := K 4 d4
            have d5 : L 5 = true := dep hd rfl
            have e5 := K 5 d5
            obtain ⟨u8, rfl⟩ := fr_of (N := 26) (L := [(21, a1v0), (22, vI s1)]) hO ⟨e4, e5, trivial⟩
            replace S8 : St _ (As) _ := S8
            replace a0h0 := a0h0.up L16
            replace a1h0 := a1h0.up L16
            have L17 := Mem.rfl' m8
            refine s_idx (q := x4) rfl rfl a1h0 q7 Tryd.underlying22 Tryd.sizeOf27 ?_
            intro p2 c2 h3 r2
            obtain rfl := rep_arr2_UInt64 r2
            refine wpn ?_
            refine ⟨m8, Mem.tr L16 L17, ?_, facts_step HM rfl K L17 rfl rfl ⟨p2, rfl, h3⟩, outP⟩
            exact S8
          · intro L f9 w9 hL hd hc ⟨m9, L18, S9, K, hO⟩
            have d6 : L 6 = true := dep hd rfl
            obtain ⟨v2, e6, h4⟩ := K 6 d6
            obtain ⟨u9, rfl⟩ := fr_of (N := 26) (L := [(23, v2)]) hO ⟨e6, trivial⟩
            replace S9 : St _ (As) _ := S9
            replace a0h0 := a0h0.up L18
            replace a1h0 := a1h0.up L18
            have L19 := Mem.rfl' m9
            refine s_ldM (cs := [vU x4.1, vU x4.2]) S9 rfl h4 rfl Tryd.isAgg27 Tryd.sizeOf27 (fun h => by cases h) ?_
            refine wpn ?_
            refine ⟨m9, Mem.tr L18 L19, ?_, facts_step HM rfl K L19 rfl rfl rfl, outP⟩
            exact S9
        intro L f10 w10 hall ⟨m10, L20, S10, K, hO⟩
        have d3 : L 3 = true := hall 3 (by decide)
        have e7 := K 3 d3
        have d7 : L 7 = true := hall 7 (by decide)
        have e8 := K 7 d7
        obtain ⟨u10, rfl⟩ := fr_of (N := 26) (L := [(20, .agg #[vU x3.1, vU x3.2]), (24, .agg #[vU x4.1, vU x4.2])]) hO ⟨e7, e8, trivial⟩
        replace S10 : St _ (As) _ := S10
        replace a0h0 := a0h0.up L20
        replace a1h0 := a1h0.up L20
        replace L2 := Mem.tr L2 L20
        clear S1
        refine s_neqSum (p := x3) (q := x4) rfl rfl Tryd.underlying27 Tryd.underlying25 Tryd.sizeOf25 Tryd.isAgg25 Tryd.eqGuardType27 ?_
        refine wpl_nil ?_
        refine nrm ?_
        refine wpc_if (t := (!eqSum x3 x4)) rfl (fun hc3 => ?_) (fun hc3 => ?_)
        · replace q4 := ifT hc3 q4
          refine wpc_seq ?_
          refine wpc_region ?_
          refine s_asv (v := vb false) rfl ?_
          refine wpl_nil ?_
          refine nrm ?_
          refine wpc_ret ?_
          refine blR ?_
          refine thR ?_
          refine thR ?_
          refine blR ?_
          refine thR ?_
          refine outRw ?_
          intro we hpd
          replace S10 := St.pd S10 hpd
          cases q4
          rcases q3 with ⟨sn, e, _⟩ | e
          · cases e
          cases e
          dsimp only at hm
          have e0 := Option.some.inj hm
          subst e0
          exact outR [_] rfl ⟨rfl, trivial⟩ ⟨_, (Mem.tr L0 (Mem.tr L3 L2)), S10, rfl⟩
        replace q4 := ifF hc3 q4
        refine wpc_skip ?_
        refine nrmB ?_
        refine nrm ?_
        refine wpc_region ?_
        refine s_mvv (v := vI s1) rfl ?_
        refine s_addI (m := s1) (n := 1) rfl rfl ?_
        refine s_asv (v := vI (w64 (s1 + 1))) rfl ?_
        refine wpl_nil ?_
        refine nrm ?_
        have e0 := Option.some.inj q4
        subst e0
        rcases q3 with ⟨sn, e, q3'⟩ | e
        · cases e
          exact ⟨outP, _, Nat.lt_succ_self _, ⟨_, m10, q3', Mem.tr L3 L2, S10, ⟨rfl, trivial⟩⟩⟩
        · cases e
      replace q4 := ifF hc2 q4
      refine wpc_exit ?_
      refine thE ?_
      refine thE ?_
      refine exB ?_
      refine nrm ?_
      have e0 := Option.some.inj q4
      subst e0
      rcases q3 with ⟨sn, e, _⟩ | e
      · cases e
      · cases e
        exact ⟨outP, m1, _, rfl, Mem.tr L3 L2, S1, trivial⟩
  rintro f11 w11 ho ⟨m12, y1, rfl, l1, S11, ha⟩
  obtain ⟨u11, rfl⟩ := fr_of (N := 26) ho ha
  clear ho ha
  dsimp only at hm
  replace L0 := Mem.tr L0 l1
  clear S
  refine wpc_seq ?_
  refine wpc_region ?_
  refine s_asv (v := vb true) rfl ?_
  refine wpl_nil ?_
  refine nrm ?_
  refine wpc_ret ?_
  refine outRw ?_
  intro we hpd
  replace S11 := St.pd S11 hpd
  have e0 := Option.some.inj hm
  subst e0
  exact outR [_] rfl ⟨rfl, trivial⟩ ⟨_, L0, S11, rfl⟩

def m_slices_Reverse_api_Sum_api_Sum_b1  (s1 : Int × Int × (List (UInt64 × UInt64))) : Option ((Int × Int × (List (UInt64 × UInt64))) ⊕ ((List (UInt64 × UInt64)))) :=
  if (decide (s1.1 < s1.2.1)) = true then
    obind (idx s1.2.2 s1.2.1) fun x4 =>
    obind (idx s1.2.2 s1.1) fun x5 =>
    obind (idx s1.2.2 s1.1) fun x6 =>
    bnd (s1.2.2.set s1.1.toNat x4) fun x7 =>
    obind (idx x7 s1.2.1) fun x8 =>
    bnd (x7.set s1.2.1.toNat x5) fun x9 =>
    some (.inl ((w64 (s1.1 + 1)), (w64 (s1.2.1 - 1)), x9))
  else
  some (.inr s1.2.2)

def m_slices_Reverse_api_Sum_api_Sum (a0 : List (UInt64 × UInt64)) : Option (List (UInt64 × UInt64)) :=
  bnd ((w64 ((a0.length : Int) - 1))) fun x1 =>
  obind (iter m_slices_Reverse_api_Sum_api_Sum_b1 FUEL (0, x1, a0)) fun x2 =>
  some x2

theorem w_slices_Reverse_api_Sum_api_Sum {m : Mem} {As : List Ow} {w : World} {a0 : List (UInt64 × UInt64)} {a0v0 : Value} {a0c0 : List Value} {r : List (UInt64 × UInt64)} (S : St m ((row 2 a0v0 a0c0 a0.length) :: As) w) (a0h0 : RepL m a0c0 a0) (hm : m_slices_Reverse_api_Sum_api_Sum a0 = some r) :
    CallsR Tryd.prog 46 #[a0v0] w fun v w' => ∃ (M : Mem), m ≤ M ∧ ∃ (rk0 : List Value), St M ((row 2 a0v0 rk0 r.length) :: As) w' ∧ v = .tuple #[] ∧ RepL M rk0 r := by
  unfold m_slices_Reverse_api_Sum_api_Sum at hm
  have L0 := Mem.rfl' m
  refine callsR (args := [a0v0]) Tryd.func46 rfl Tryd.ntmps46 (Nat.le_of_ble_eq_true rfl) ?_
  refine wpc_seq ?_
  refine wpc_region ?_
  refine s_mvv (v := a0v0) rfl ?_
  refine s_lenO (i := 0) S rfl rfl Tryd.underlying22 ?_
  refine s_subI (m := (a0.length : Int)) (n := 1) rfl rfl ?_
  refine s_asv (v := vI 0) rfl ?_
  obtain ⟨x1, q1, hm⟩ := bnd_eq hm
  refine s_asv (v := vI x1) (congrArg (fun z => vI z) q1.symm) ?_
  refine wpl_nil ?_
  refine nrm ?_
  obtain ⟨x2, q2, hm⟩ := obind_some hm
  have L1 := Mem.rfl' m
  refine wpc_wrap ?_
  refine wpc_join [2, 3, 7, 8, 9, 10, 11, 12, 13, 14, 15, 16, 17, 18, 19, 20, 21, 22, 23, 24, 25, 26, 27] (fun f' w' => ∃ (M1 : Mem) (c2 : List Value), m ≤ M1 ∧ St M1 ((row 2 a0v0 c2 x2.length) :: As) w' ∧ RepL M1 c2 x2 ∧ AllAt f' []) ?_ ?_
  · refine wpc_block ?_
    refine wpc_rounds [2, 3, 7, 8, 9, 10, 11, 12, 13, 14, 15, 16, 17, 18, 19, 20, 21, 22, 23, 24, 25, 26, 27] (fun n1 f' w' => ∃ (s1 : Int × Int × (List (UInt64 × UInt64))) (m17 : Mem) (c1 : List Value), iter m_slices_Reverse_api_Sum_api_Sum_b1 n1 s1 = some x2 ∧ m ≤ m17 ∧ St m17 ((row 2 a0v0 c1 s1.2.2.length) :: As) w' ∧ RepL m17 c1 s1.2.2 ∧ AllAt f' [(2, vI s1.1), (3, vI s1.2.1)]) FUEL ⟨(0, x1, a0), m, _, q2, L1, S, a0h0, ⟨rfl, rfl, trivial⟩⟩ ?_
    rintro n1 f1 w1 ho ⟨s1, m1, c1, q3, L3, S1, h1, ha⟩
    obtain ⟨u1, rfl⟩ := fr_of (N := 28) ho ha
    clear ho ha
    have L2 := Mem.rfl' m1
    clear S
    cases n1 with
    | zero => exact (iter_zero q3).elim
    | succ n1 =>
      obtain ⟨y1, q5, q4⟩ := iter_succ q3
      unfold m_slices_Reverse_api_Sum_api_Sum_b1 at q5
      refine wpc_seq ?_
      refine wpc_seq ?_
      refine wpc_region ?_
      refine s_mvv (v := vI s1.1) rfl ?_
      refine s_mvv (v := vI s1.2.1) rfl ?_
      refine s_lss (m := s1.1) (n := s1.2.1) rfl rfl ?_
      refine wpl_nil ?_
      refine nrm ?_
      refine wpc_if (t := (decide (s1.1 < s1.2.1))) rfl (fun hc1 => ?_) (fun hc1 => ?_)
      · replace q5 := ifT hc1 q5
        refine wpc_skip ?_
        refine nrm ?_
        refine wpc_seq ?_
        refine wpc_block ?_
        obtain ⟨x4, q7, q5⟩ := obind_some q5
        obtain ⟨x5, q8, q5⟩ := obind_some q5
        obtain ⟨x6, q9, q5⟩ := obind_some q5
        obtain ⟨x7, q10, q5⟩ := bnd_eq q5
        have HM : MonoAll [(14, fun (M : Mem) (v : Value) => v = a0v0), (15, fun (M : Mem) (v : Value) => v = vI s1.1), (16, fun (M : Mem) (v : Value) => v = a0v0), (17, fun (M : Mem) (v : Value) => v = vI s1.2.1), (18, fun (M : Mem) (v : Value) => v = a0v0), (19, fun (M : Mem) (v : Value) => v = vI s1.2.1), (20, fun (M : Mem) (v : Value) => ∃ (p1 : Value), v = p1 ∧ PtO a0v0 p1 (s1.2.1.toNat * 2)), (21, fun (M : Mem) (v : Value) => v = .agg #[vU x4.1, vU x4.2]), (22, fun (M : Mem) (v : Value) => v = a0v0), (23, fun (M : Mem) (v : Value) => v = vI s1.1), (24, fun (M : Mem) (v : Value) => ∃ (p2 : Value), v = p2 ∧ PtO a0v0 p2 (s1.1.toNat * 2)), (25, fun (M : Mem) (v : Value) => v = .agg #[vU x5.1, vU x5.2]), (26, fun (M : Mem) (v : Value) => ∃ (p3 : Value), v = p3 ∧ PtO a0v0 p3 (s1.1.toNat * 2)), (100013, fun _ _ => True)] := ⟨(fun _ _ _ _ h => h), (fun _ _ _ _ h => h), (fun _ _ _ _ h => h), (fun _ _ _ _ h => h), (fun _ _ _ _ h => h), (fun _ _ _ _ h => h), (fun _ _ _ l ⟨p1, e, h4⟩ => ⟨p1, e, h4⟩), (fun _ _ _ _ h => h), (fun _ _ _ _ h => h), (fun _ _ _ _ h => h), (fun _ _ _ l ⟨p2, e, h8⟩ => ⟨p2, e, h8⟩), (fun _ _ _ _ h => h), (fun _ _ _ l ⟨p3, e, h12⟩ => ⟨p3, e, h12⟩), (fun _ _ _ _ h => h), trivial⟩
        refine wpc_flowG HM 14 mixed rfl rfl rfl [14, 15, 16, 17, 18, 19, 20, 21, 22, 23, 24, 25, 26] (fun L f M w => ∃ (X1 : List Ow), ((L 13 = false → (RowS M X1 2 a0v0 s1.2.2)) ∧ (L 13 = true → (RowS M X1 2 a0v0 x7))) ∧ St M ((X1 ++ As)) w) (⟨[row 2 a0v0 c1 s1.2.2.length], ⟨fun _ => ⟨_, rfl, h1⟩, fun hx => ff hx⟩, St.drew S1 _⟩) ?_ ?_
        · refine ⟨?_, ?_, ?_, ?_, ?_, ?_, ?_, ?_, ?_, ?_, ?_, ?_, ?_, ?_, trivial⟩
          · intro L f2 w2 hL hd hc ⟨m2, L4, ⟨X1, C1, S2⟩, K, hO⟩
            obtain ⟨u2, rfl⟩ := fr_of (N := 28) (L := []) hO trivial
            replace S2 : St _ ((X1 ++ As)) _ := S2
            have L5 := Mem.rfl' m2
            refine s_mvv (v := a0v0) rfl ?_
            refine wpn ?_
            refine ⟨m2, Mem.tr L4 L5, ⟨X1, C1, ?_⟩, facts_step HM rfl K L5 rfl rfl rfl, outP⟩
            exact S2
          · intro L f3 w3 hL hd hc ⟨m3, L6, ⟨X1, C2, S3⟩, K, hO⟩
            obtain ⟨u3, rfl⟩ := fr_of (N := 28) (L := []) hO trivial
            replace S3 : St _ ((X1 ++ As)) _ := S3
            have L7 := Mem.rfl' m3
            refine s_mvv (v := vI s1.1) rfl ?_
            refine wpn ?_
            refine ⟨m3, Mem.tr L6 L7, ⟨X1, C2, ?_⟩, facts_step HM rfl K L7 rfl rfl rfl, outP⟩
            exact S3
          · intro L f4 w4 hL hd hc ⟨m4, L8, ⟨X1, C3, S4⟩, K, hO⟩
            obtain ⟨u4, rfl⟩ := fr_of (N := 28) (L := []) hO trivial
            replace S4 : St _ ((X1 ++ As)) _ := S4
            have L9 := Mem.rfl' m4
            refine s_mvv (v := a0v0) rfl ?_
            refine wpn ?_
            refine ⟨m4, Mem.tr L8 L9, ⟨X1, C3, ?_⟩, facts_step HM rfl K L9 rfl rfl rfl, outP⟩
            exact S4
          · intro L f5 w5 hL hd hc ⟨m5, L10, ⟨X1, C4, S5⟩, K, hO⟩
            obtain ⟨u5, rfl⟩ := fr_of (N := 28) (L := []) hO trivial
            replace S5 : St _ ((X1 ++ As)) _ := S5
            have L11 := Mem.rfl' m5
            refine s_mvv (v := vI s1.2.1) rfl ?_
            refine wpn ?_
            refine ⟨m5, Mem.tr L10 L11, ⟨X1, C4, ?_⟩, facts_step HM rfl K L11 rfl rfl rfl, outP⟩
            exact S5
          · intro L f6 w6 hL hd hc ⟨m6, L12, ⟨X1, C5, S6⟩, K, hO⟩
            obtain ⟨u6, rfl⟩ := fr_of (N := 28) (L := []) hO trivial
            replace S6 : St _ ((X1 ++ As)) _ := S6
            have L13 := Mem.rfl' m6
            refine s_mvv (v := a0v0) rfl ?_
            refine wpn ?_
            refine ⟨m6, Mem.tr L12 L13, ⟨X1, C5, ?_⟩, facts_step HM rfl K L13 rfl rfl rfl, outP⟩
            exact S6
          · intro L f7 w7 hL hd hc ⟨m7, L14, ⟨X1, C6, S7⟩, K, hO⟩
            obtain ⟨u7, rfl⟩ := fr_of (N := 28) (L := []) hO trivial
            replace S7 : St _ ((X1 ++ As)) _ := S7
            have L15 := Mem.rfl' m7
            refine s_mvv (v := vI s1.2.1) rfl ?_
            refine wpn ?_
            refine ⟨m7, Mem.tr L14 L15, ⟨X1, C6, ?_⟩, facts_step HM rfl K L15 rfl rfl rfl, outP⟩
            exact S7
          · intro L f8 w8 hL hd hc ⟨m8, L16, ⟨X1, C7, S8⟩, K, hO⟩
            have d4 : L 4 = true := dep hd rfl
            have e1 := K 4 d4
            have d5 : L 5 = true := dep hd rfl
            have e2 := K 5 d5
            have d13 : L 13 = false := undep hc hL rfl
            obtain ⟨u8, rfl⟩ := fr_of (N := 28) (L := [(18, a0v0), (19, vI s1.2.1)]) hO ⟨e1, e2, trivial⟩
            replace S8 : St _ ((X1 ++ As)) _ := S8
            obtain ⟨c3, rfl, h3⟩ := C7.1 d13
            replace h3 : RepL _ c3 s1.2.2 := h3
            replace S8 : St _ ((row 2 a0v0 c3 s1.2.2.length) :: As) _ := S8
            have L17 := Mem.rfl' m8
            refine s_idxO (i := 0) (j := s1.2.1) S8 rfl rfl rfl (idx_rng q7).1 (idx_rng q7).2 Tryd.underlying22 Tryd.sizeOf27 ?_
            intro p1 h4
            refine wpn ?_
            refine ⟨m8, Mem.tr L16 L17, ⟨[row 2 a0v0 c3 s1.2.2.length], ⟨fun _ => ⟨_, rfl, h3⟩, fun hx => tf hx d13⟩, ?_⟩, facts_step HM rfl K L17 rfl rfl ⟨p1, rfl, h4⟩, outP⟩
            exact S8
          · intro L f9 w9 hL hd hc ⟨m9, L18, ⟨X1, C8, S9⟩, K, hO⟩
            have d6 : L 6 = true := dep hd rfl
            obtain ⟨v1, e3, h5⟩ := K 6 d6
            have d13 : L 13 = false := undep hc hL rfl
            obtain ⟨u9, rfl⟩ := fr_of (N := 28) (L := [(20, v1)]) hO ⟨e3, trivial⟩
            replace S9 : St _ ((X1 ++ As)) _ := S9
            obtain ⟨c4, rfl, h6⟩ := C8.1 d13
            replace h6 : RepL _ c4 s1.2.2 := h6
            replace S9 : St _ ((row 2 a0v0 c4 s1.2.2.length) :: As) _ := S9
            have L19 := Mem.rfl' m9
            have e4 := rep_arr2_UInt64 (RepL.getI h6 q7)
            refine s_ldO (i := 0) (off := s1.2.1.toNat * 2) (d := [vU x4.1, vU x4.2]) S9 rfl h5 rfl e4 Tryd.isAgg27 Tryd.sizeOf27 (fun h => by cases h) ?_
            refine wpn ?_
            refine ⟨m9, Mem.tr L18 L19, ⟨[row 2 a0v0 c4 s1.2.2.length], ⟨fun _ => ⟨_, rfl, h6⟩, fun hx => tf hx d13⟩, ?_⟩, facts_step HM rfl K L19 rfl rfl rfl, outP⟩
            exact S9
          · intro L f10 w10 hL hd hc ⟨m10, L20, ⟨X1, C9, S10⟩, K, hO⟩
            obtain ⟨u10, rfl⟩ := fr_of (N := 28) (L := []) hO trivial
            replace S10 : St _ ((X1 ++ As)) _ := S10
            have L21 := Mem.rfl' m10
            refine s_mvv (v := a0v0) rfl ?_
            refine wpn ?_
            refine ⟨m10, Mem.tr L20 L21, ⟨X1, C9, ?_⟩, facts_step HM rfl K L21 rfl rfl rfl, outP⟩
            exact S10
          · intro L f11 w11 hL hd hc ⟨m11, L22, ⟨X1, C10, S11⟩, K, hO⟩
            obtain ⟨u11, rfl⟩ := fr_of (N := 28) (L := []) hO trivial
            replace S11 : St _ ((X1 ++ As)) _ := S11
            have L23 := Mem.rfl' m11
            refine s_mvv (v := vI s1.1) rfl ?_
            refine wpn ?_
            refine ⟨m11, Mem.tr L22 L23, ⟨X1, C10, ?_⟩, facts_step HM rfl K L23 rfl rfl rfl, outP⟩
            exact S11
          · intro L f12 w12 hL hd hc ⟨m12, L24, ⟨X1, C11, S12⟩, K, hO⟩
            have d8 : L 8 = true := dep hd rfl
            have e5 := K 8 d8
            have d9 : L 9 = true := dep hd rfl
            have e6 := K 9 d9
            have d11 : L 11 = false := undep hc hL rfl
            have d13 : L 13 = false := undep hc d11 rfl
            obtain ⟨u12, rfl⟩ := fr_of (N := 28) (L := [(22, a0v0), (23, vI s1.1)]) hO ⟨e5, e6, trivial⟩
            replace S12 : St _ ((X1 ++ As)) _ := S12
            obtain ⟨c5, rfl, h7⟩ := C11.1 d13
            replace h7 : RepL _ c5 s1.2.2 := h7
            replace S12 : St _ ((row 2 a0v0 c5 s1.2.2.length) :: As) _ := S12
            have L25 := Mem.rfl' m12
            refine s_idxO (i := 0) (j := s1.1) S12 rfl rfl rfl (idx_rng q8).1 (idx_rng q8).2 Tryd.underlying22 Tryd.sizeOf27 ?_
            intro p2 h8
            refine wpn ?_
            refine ⟨m12, Mem.tr L24 L25, ⟨[row 2 a0v0 c5 s1.2.2.length], ⟨fun _ => ⟨_, rfl, h7⟩, fun hx => tf hx d13⟩, ?_⟩, facts_step HM rfl K L25 rfl rfl ⟨p2, rfl, h8⟩, outP⟩
            exact S12
          · intro L f13 w13 hL hd hc ⟨m13, L26, ⟨X1, C12, S13⟩, K, hO⟩
            have d10 : L 10 = true := dep hd rfl
            obtain ⟨v2, e7, h9⟩ := K 10 d10
            have d13 : L 13 = false := undep hc hL rfl
            obtain ⟨u13, rfl⟩ := fr_of (N := 28) (L := [(24, v2)]) hO ⟨e7, trivial⟩
            replace S13 : St _ ((X1 ++ As)) _ := S13
            obtain ⟨c6, rfl, h10⟩ := C12.1 d13
            replace h10 : RepL _ c6 s1.2.2 := h10
            replace S13 : St _ ((row 2 a0v0 c6 s1.2.2.length) :: As) _ := S13
            have L27 := Mem.rfl' m13
            have e8 := rep_arr2_UInt64 (RepL.getI h10 q8)
            refine s_ldO (i := 0) (off := s1.1.toNat * 2) (d := [vU x5.1, vU x5.2]) S13 rfl h9 rfl e8 Tryd.isAgg27 Tryd.sizeOf27 (fun h => by cases h) ?_
            refine wpn ?_
            refine ⟨m13, Mem.tr L26 L27, ⟨[row 2 a0v0 c6 s1.2.2.length], ⟨fun _ => ⟨_, rfl, h10⟩, fun hx => tf hx d13⟩, ?_⟩, facts_step HM rfl K L27 rfl rfl rfl, outP⟩
            exact S13
          · intro L f14 w14 hL hd hc ⟨m14, L28, ⟨X1, C13, S14⟩, K, hO⟩
            have d0 : L 0 = true := dep hd rfl
            have e9 := K 0 d0
            have d1 : L 1 = true := dep hd rfl
            have e10 := K 1 d1
            have d13 : L 13 = false := undep hc hL rfl
            obtain ⟨u14, rfl⟩ := fr_of (N := 28) (L := [(14, a0v0), (15, vI s1.1)]) hO ⟨e9, e10, trivial⟩
            replace S14 : St _ ((X1 ++ As)) _ := S14
            obtain ⟨c7, rfl, h11⟩ := C13.1 d13
            replace h11 : RepL _ c7 s1.2.2 := h11
            replace S14 : St _ ((row 2 a0v0 c7 s1.2.2.length) :: As) _ := S14
            have L29 := Mem.rfl' m14
            refine s_idxO (i := 0) (j := s1.1) S14 rfl rfl rfl (idx_rng q9).1 (idx_rng q9).2 Tryd.underlying22 Tryd.sizeOf27 ?_
            intro p3 h12
            refine wpn ?_
            refine ⟨m14, Mem.tr L28 L29, ⟨[row 2 a0v0 c7 s1.2.2.length], ⟨fun _ => ⟨_, rfl, h11⟩, fun hx => tf hx d13⟩, ?_⟩, facts_step HM rfl K L29 rfl rfl ⟨p3, rfl, h12⟩, outP⟩
            exact S14
          · intro L f15 w15 hL hd hc ⟨m15, L30, ⟨X1, C14, S15⟩, K, hO⟩
            have d12 : L 12 = true := dep hd rfl
            obtain ⟨v3, e11, h13⟩ := K 12 d12
            have d7 : L 7 = true := dep hd rfl
            have e12 := K 7 d7
            have d13 : L 13 = false := hL
            obtain ⟨u15, rfl⟩ := fr_of (N := 28) (L := [(26, v3), (21, .agg #[vU x4.1, vU x4.2])]) hO ⟨e11, e12, trivial⟩
            replace S15 : St _ ((X1 ++ As)) _ := S15
            obtain ⟨c8, rfl, h14⟩ := C14.1 d13
            replace h14 : RepL _ c8 s1.2.2 := h14
            replace S15 : St _ ((row 2 a0v0 c8 s1.2.2.length) :: As) _ := S15
            have L31 := Mem.rfl' m15
            refine s_stOR (i := 0) (j := s1.1) (z := x4) S15 rfl rfl h13 rfl h14 q9 Tryd.sizeOf27 (oneC rfl (oneC rfl oneN)) mk_arr2_UInt64 ?_
            intro w16 c9 S16 h15
            rw [← q10] at S16 h15
            replace S16 : St _ ((row 2 a0v0 c9 x7.length) :: As) _ := S16
            clear S15
            refine wpn ?_
            refine ⟨m15, Mem.tr L30 L31, ⟨[row 2 a0v0 c9 x7.length], ⟨fun hx => tf rfl hx, fun _ => ⟨_, rfl, h15⟩⟩, ?_⟩, facts_none HM K L31 rfl (fun _ => trivial), outP⟩
            exact S16
        intro L f16 w17 hall ⟨m16, L32, ⟨X1, C15, S17⟩, K, hO⟩
        have d2 : L 2 = true := hall 2 (by decide)
        have e13 := K 2 d2
        have d3 : L 3 = true := hall 3 (by decide)
        have e14 := K 3 d3
        have d11 : L 11 = true := hall 11 (by decide)
        have e15 := K 11 d11
        have d13 : L 13 = true := hall 13 (by decide)
        obtain ⟨u16, rfl⟩ := fr_of (N := 28) (L := [(16, a0v0), (17, vI s1.2.1), (25, .agg #[vU x5.1, vU x5.2])]) hO ⟨e13, e14, e15, trivial⟩
        replace S17 : St _ ((X1 ++ As)) _ := S17
        obtain ⟨c10, rfl, h16⟩ := C15.2 d13
        replace h16 : RepL _ c10 x7 := h16
        replace S17 : St _ ((row 2 a0v0 c10 x7.length) :: As) _ := S17
        replace L2 := Mem.tr L2 L32
        clear S1
        obtain ⟨x8, q11, q5⟩ := obind_some q5
        refine s_idxO (i := 0) (j := s1.2.1) S17 rfl rfl rfl (idx_rng q11).1 (idx_rng q11).2 Tryd.underlying22 Tryd.sizeOf27 ?_
        intro p4 h17
        obtain ⟨x9, q12, q5⟩ := bnd_eq q5
        refine s_stOR (i := 0) (j := s1.2.1) (z := x5) S17 rfl rfl h17 rfl h16 q11 Tryd.sizeOf27 (oneC rfl (oneC rfl oneN)) mk_arr2_UInt64 ?_
        intro w18 c11 S18 h18
        rw [← q12] at S18 h18
        replace S18 : St _ ((row 2 a0v0 c11 x9.length) :: As) _ := S18
        clear S17
        refine wpl_nil ?_
        refine nrmB ?_
        refine nrm ?_
        refine wpc_region ?_
        refine s_mvv (v := vI s1.1) rfl ?_
        refine s_addI (m := s1.1) (n := 1) rfl rfl ?_
        refine s_mvv (v := vI s1.2.1) rfl ?_
        refine s_subI (m := s1.2.1) (n := 1) rfl rfl ?_
        refine s_asv (v := vI (w64 (s1.1 + 1))) rfl ?_
        refine s_asv (v := vI (w64 (s1.2.1 - 1))) rfl ?_
        refine wpl_nil ?_
        refine nrm ?_
        have e0 := Option.some.inj q5
        subst e0
        rcases q4 with ⟨sn, e, q4'⟩ | e
        · cases e
          exact ⟨outP, _, Nat.lt_succ_self _, ⟨_, m16, _, q4', Mem.tr L3 L2, S18, h18, ⟨rfl, rfl, trivial⟩⟩⟩
        · cases e
      replace q5 := ifF hc1 q5
      refine wpc_exit ?_
      refine thE ?_
      refine thE ?_
      refine exB ?_
      refine nrm ?_
      have e0 := Option.some.inj q5
      subst e0
      rcases q4 with ⟨sn, e, _⟩ | e
      · cases e
      · cases e
        exact ⟨outP, m1, _, Mem.tr L3 L2, S1, h1, trivial⟩
  rintro f17 w19 ho ⟨m18, c2, l1, S19, h2, ha⟩
  obtain ⟨u17, rfl⟩ := fr_of (N := 28) ho ha
  clear ho ha
  replace L0 := Mem.tr L0 l1
  clear S
  refine outNw ?_
  intro we hpd
  replace S19 := St.pd S19 hpd
  have e0 := Option.some.inj hm
  subst e0
  exact outR [] rfl trivial ⟨_, L0, _, S19, rfl, h2⟩

def m_merkle_Grow_b1  (s1 : (List (UInt64 × UInt64)) × Int × (List (UInt64 × UInt64)) × Bool) : Option (((List (UInt64 × UInt64)) × Int × (List (UInt64 × UInt64)) × Bool) ⊕ ((Unit) ⊕ ((List (UInt64 × UInt64)) × Int))) :=
  if (s1.2.1 == (s1.1.length : Int)) = true then
    obind (
      if (!s1.2.2.2) = true then
        obind (m_merkle_Root s1.1) fun x4 =>
        obind (app 16 s1.2.2.1 ([x4] : List (UInt64 × UInt64))) fun x5 =>
        some x5
      else
      some s1.2.2.1
    ) fun x3 =>
    obind (m_slices_Reverse_api_Sum_api_Sum x3) fun x6 =>
    some (.inr (.inr (x6, 0)))
  else
  obind (m_merkle_half (s1.1.length : Int)) fun x7 =>
  if (decide (s1.2.1 ≤ x7)) = true then
    obind (cut s1.1 x7 (s1.1.length : Int)) fun x8 =>
    obind (m_merkle_Root x8) fun x9 =>
    obind (app 16 s1.2.2.1 ([x9] : List (UInt64 × UInt64))) fun x10 =>
    obind (cut s1.1 0 x7) fun x11 =>
    some (.inl (x11, s1.2.1, x10, s1.2.2.2))
  else
  obind (cut s1.1 0 x7) fun x12 =>
  obind (m_merkle_Root x12) fun x13 =>
  obind (app 16 s1.2.2.1 ([x13] : List (UInt64 × UInt64))) fun x14 =>
  obind (cut s1.1 x7 (s1.1.length : Int)) fun x15 =>
  some (.inl (x15, (w64 (s1.2.1 - x7)), x14, false))

def m_merkle_Grow (a0 : List (UInt64 × UInt64)) (a1 : Int) : Option ((List (UInt64 × UInt64)) × Int) :=
  if (((decide ((a0.length : Int) > 256)) || (decide (a1 < 0))) || (decide (a1 > (a0.length : Int)))) = true then
    some (([] : List (UInt64 × UInt64)), 80)
  else
  if (a1 == 0) = true then
    some (([] : List (UInt64 × UInt64)), 0)
  else
  obind (iter m_merkle_Grow_b1 FUEL (a0, a1, ([] : List (UInt64 × UInt64)), true)) fun x1 => match x1 with
  | .inr r => some r
  | .inl _ => none

theorem w_merkle_Grow {m : Mem} {As : List Ow} {w : World} {a0 : List (UInt64 × UInt64)} {a0v0 : Value} {a1 : Int} {r : (List (UInt64 × UInt64)) × Int} (S : St m (As) w) (a0h0 : SlR m a0v0 a0) (hm : m_merkle_Grow a0 a1 = some r) :
    CallsR Tryd.prog 23 #[a0v0, vI a1] w fun v w' => ∃ (M : Mem), m ≤ M ∧ ∃ (rv0 : Value) (rc0 : List Value), St M ((row 2 rv0 rc0 r.1.length) :: As) w' ∧ v = .tuple #[rv0, vI r.2] ∧ RepL M rc0 r.1 := by
  unfold m_merkle_Grow at hm
  have L0 := Mem.rfl' m
  refine callsR (args := [a0v0, vI a1]) Tryd.func23 rfl Tryd.ntmps23 (Nat.le_of_ble_eq_true rfl) ?_
  refine wpc_seq ?_
  refine wpc_region ?_
  refine s_asv (v := .slice none 0 0) rfl ?_
  refine s_asv (v := vI 0) rfl ?_
  refine wpl_nil ?_
  refine nrm ?_
  refine wpc_seq ?_
  refine wpc_seq ?_
  refine wpc_region ?_
  refine s_mvv (v := a0v0) rfl ?_
  refine s_lenR (xs := a0) rfl a0h0 Tryd.underlying22 ?_
  refine s_gtr (m := (a0.length : Int)) (n := 256) rfl rfl ?_
  refine s_mvv (v := vb (decide ((a0.length : Int) > 256))) rfl ?_
  refine wpl_cut 3 [13, 14, 15] (fun f' w' => w' = w ∧ AllAt f' [(15, vb ((decide ((a0.length : Int) > 256)) || (decide (a1 < 0))))]) ?_ ?_
  · rcases bool_tf (decide ((a0.length : Int) > 256)) with hb1 | hb1
    · refine wpl_no (d := 12) rfl rfl (congrArg Value.bool hb1) ?_
      refine wpl_no (d := 12) rfl rfl (congrArg Value.bool hb1) ?_
      refine s_pickT (congrArg Value.bool hb1) rfl ?_
      exact wpl_nil (nrm ⟨outP, rfl, congrArg Value.bool (or_t hb1), trivial⟩)
    · refine wpl_yes (d := 12) rfl rfl (congrArg Value.bool hb1) ?_
      refine s_mvv (v := vI a1) rfl ?_
      refine wpl_yes (d := 12) rfl rfl (congrArg Value.bool hb1) ?_
      refine s_lss (m := a1) (n := 0) rfl rfl ?_
      refine s_pickF (congrArg Value.bool hb1) rfl ?_
      exact wpl_nil (nrm ⟨outP, rfl, congrArg Value.bool (or_f hb1), trivial⟩)
  rintro f1 w1 ho ⟨h1, ha⟩
  subst h1
  obtain ⟨u1, rfl⟩ := fr_of (N := 67) ho ha
  refine s_mvv (v := vb ((decide ((a0.length : Int) > 256)) || (decide (a1 < 0)))) rfl ?_
  refine wpl_cut 5 [17, 18, 19, 20, 21] (fun f' w' => w' = w1 ∧ AllAt f' [(21, vb (((decide ((a0.length : Int) > 256)) || (decide (a1 < 0))) || (decide (a1 > (a0.length : Int)))))]) ?_ ?_
  · rcases bool_tf ((decide ((a0.length : Int) > 256)) || (decide (a1 < 0))) with hb2 | hb2
    · refine wpl_no (d := 16) rfl rfl (congrArg Value.bool hb2) ?_
      refine wpl_no (d := 16) rfl rfl (congrArg Value.bool hb2) ?_
      refine wpl_no (d := 16) rfl rfl (congrArg Value.bool hb2) ?_
      refine wpl_no (d := 16) rfl rfl (congrArg Value.bool hb2) ?_
      refine s_pickT (congrArg Value.bool hb2) rfl ?_
      exact wpl_nil (nrm ⟨outP, rfl, congrArg Value.bool (or_t hb2), trivial⟩)
    · refine wpl_yes (d := 16) rfl rfl (congrArg Value.bool hb2) ?_
      refine s_mvv (v := vI a1) rfl ?_
      refine wpl_yes (d := 16) rfl rfl (congrArg Value.bool hb2) ?_
      refine s_mvv (v := a0v0) rfl ?_
      refine wpl_yes (d := 16) rfl rfl (congrArg Value.bool hb2) ?_
      refine s_lenR (xs := a0) rfl a0h0 Tryd.underlying22 ?_
      refine wpl_yes (d := 16) rfl rfl (congrArg Value.bool hb2) ?_
      refine s_gtr (m := a1) (n := (a0.length : Int)) rfl rfl ?_
      refine s_pickF (congrArg Value.bool hb2) rfl ?_
      exact wpl_nil (nrm ⟨outP, rfl, congrArg Value.bool (or_f hb2), trivial⟩)
  rintro f2 w2 ho ⟨h2, ha⟩
  subst h2
  obtain ⟨u2, rfl⟩ := fr_of (N := 67) ho ha
  refine wpl_nil ?_
  refine nrm ?_
  refine wpc_if (t := (((decide ((a0.length : Int) > 256)) || (decide (a1 < 0))) || (decide (a1 > (a0.length : Int))))) rfl (fun hc1 => ?_) (fun hc1 => ?_)
  · replace hm := ifT hc1 hm
    refine wpc_seq ?_
    refine wpc_region ?_
    refine s_asv (v := .slice none 0 0) rfl ?_
    refine s_asv (v := vI 80) rfl ?_
    refine wpl_nil ?_
    refine nrm ?_
    refine wpc_ret ?_
    refine thR ?_
    refine outRw ?_
    intro we hpd
    replace S := St.pd S hpd
    have S1 := St.rowNil S 2
    have h3 : RepL m [] ([] : List (UInt64 × UInt64)) := RepL.nil
    replace S1 : St _ ((row 2 (.slice none 0 0) [] ([] : List (UInt64 × UInt64)).length) :: As) _ := S1
    clear S
    have e0 := Option.some.inj hm
    subst e0
    exact outR [_, _] rfl ⟨rfl, rfl, trivial⟩ ⟨_, L0, _, _, S1, rfl, h3⟩
  replace hm := ifF hc1 hm
  refine wpc_skip ?_
  refine nrm ?_
  refine wpc_seq ?_
  refine wpc_seq ?_
  refine wpc_region ?_
  refine s_mvv (v := vI a1) rfl ?_
  refine s_eql (m := a1) (n := 0) rfl rfl ?_
  refine wpl_nil ?_
  refine nrm ?_
  refine wpc_if (t := (a1 == 0)) rfl (fun hc2 => ?_) (fun hc2 => ?_)
  · replace hm := ifT hc2 hm
    refine wpc_seq ?_
    refine wpc_region ?_
    refine s_asv (v := .slice none 0 0) rfl ?_
    refine s_asv (v := vI 0) rfl ?_
    refine wpl_nil ?_
    refine nrm ?_
    refine wpc_ret ?_
    refine thR ?_
    refine outRw ?_
    intro we hpd
    replace S := St.pd S hpd
    have S2 := St.rowNil S 2
    have h4 : RepL m [] ([] : List (UInt64 × UInt64)) := RepL.nil
    replace S2 : St _ ((row 2 (.slice none 0 0) [] ([] : List (UInt64 × UInt64)).length) :: As) _ := S2
    clear S
    have e0 := Option.some.inj hm
    subst e0
    exact outR [_, _] rfl ⟨rfl, rfl, trivial⟩ ⟨_, L0, _, _, S2, rfl, h4⟩
  replace hm := ifF hc2 hm
  refine wpc_skip ?_
  refine nrm ?_
  refine wpc_seq ?_
  refine wpc_region ?_
  refine s_asv (v := .slice none 0 0) rfl ?_
  refine wpl_nil ?_
  refine nrm ?_
  refine wpc_seq ?_
  refine wpc_region ?_
  refine s_asv (v := vb true) rfl ?_
  refine wpl_nil ?_
  refine nrm ?_
  obtain ⟨x1, q1, hm⟩ := obind_some hm
  have L1 := Mem.rfl' m
  have S3 := St.rowNil S 2
  have h7 : RepL m [] ([] : List (UInt64 × UInt64)) := RepL.nil
  replace S3 : St _ ((row 2 (.slice none 0 0) [] ([] : List (UInt64 × UInt64)).length) :: As) _ := S3
  clear S
  refine wpc_wrap ?_
  refine wpc_join [0, 1, 4, 5, 6, 7, 8, 24, 25, 26, 27, 28, 29, 30, 31, 32, 33, 34, 35, 36, 37, 38, 39, 40, 41, 42, 43, 44, 45, 46, 47, 48, 49, 50, 51, 52, 53, 54, 55, 56, 57, 58, 59, 60, 61, 62, 63, 64, 65, 66] (fun _ _ => False) ?_ ?_
  · refine wpc_block ?_
    refine wpc_rounds [0, 1, 4, 5, 6, 7, 8, 24, 25, 26, 27, 28, 29, 30, 31, 32, 33, 34, 35, 36, 37, 38, 39, 40, 41, 42, 43, 44, 45, 46, 47, 48, 49, 50, 51, 52, 53, 54, 55, 56, 57, 58, 59, 60, 61, 62, 63, 64, 65, 66] (fun n1 f' w' => ∃ (s1 : (List (UInt64 × UInt64)) × Int × (List (UInt64 × UInt64)) × Bool) (m11 : Mem) (v1 : Value) (v2 : Value) (c1 : List Value), iter m_merkle_Grow_b1 n1 s1 = some x1 ∧ m ≤ m11 ∧ St m11 ((row 2 v2 c1 s1.2.2.1.length) :: As) w' ∧ SlR m11 v1 s1.1 ∧ RepL m11 c1 s1.2.2.1 ∧ AllAt f' [(0, v1), (1, vI s1.2.1), (6, v2), (7, vb s1.2.2.2)]) FUEL ⟨(a0, a1, ([] : List (UInt64 × UInt64)), true), m, _, _, _, q1, L1, S3, a0h0, h7, ⟨rfl, rfl, rfl, rfl, trivial⟩⟩ ?_
    rintro n1 f3 w3 ho ⟨s1, m1, v1, v2, c1, q2, L3, S4, h5, h6, ha⟩
    obtain ⟨u3, rfl⟩ := fr_of (N := 67) ho ha
    clear ho ha
    have L2 := Mem.rfl' m1
    clear S3
    cases n1 with
    | zero => exact (iter_zero q2).elim
    | succ n1 =>
      obtain ⟨y2, q4, q3⟩ := iter_succ q2
      unfold m_merkle_Grow_b1 at q4
      refine wpc_block ?_
      refine wpc_seq ?_
      refine wpc_seq ?_
      refine wpc_region ?_
      refine s_mvv (v := vI s1.2.1) rfl ?_
      refine s_mvv (v := v1) rfl ?_
      refine s_lenR (xs := s1.1) rfl h5 Tryd.underlying22 ?_
      refine s_eql (m := s1.2.1) (n := (s1.1.length : Int)) rfl rfl ?_
      refine wpl_nil ?_
      refine nrm ?_
      refine wpc_if (t := (s1.2.1 == (s1.1.length : Int))) rfl (fun hc3 => ?_) (fun hc3 => ?_)
      · replace q4 := ifT hc3 q4
        obtain ⟨x3, q6, q4⟩ := obind_some q4
        have L4 := Mem.rfl' m1
        refine wpc_seq ?_
        refine wpc_join [6, 28, 29, 30, 31, 32, 33, 34] (fun f' w' => ∃ (M2 : Mem) (v3 : Value) (c2 : List Value), m1 ≤ M2 ∧ St M2 ((row 2 v3 c2 x3.length) :: As) w' ∧ RepL M2 c2 x3 ∧ AllAt f' [(6, v3)]) ?_ ?_
        · refine wpc_seq ?_
          refine wpc_region ?_
          refine s_mvv (v := vb s1.2.2.2) rfl ?_
          refine s_not rfl ?_
          refine wpl_nil ?_
          refine nrm ?_
          refine wpc_if (t := (!s1.2.2.2)) rfl (fun hc4 => ?_) (fun hc4 => ?_)
          · replace q6 := ifT hc4 q6
            refine wpc_region ?_
            refine s_mvv (v := v2) rfl ?_
            refine s_mvv (v := v1) rfl ?_
            obtain ⟨x4, q7, q6⟩ := obind_some q6
            refine s_call Tryd.call13 (w_merkle_Root (a0 := s1.1) S4 h5 q7) rfl ?_
            rintro _ w4 ⟨m2, l1, S5, rfl⟩
            replace h6 := RepL.up l1 h6
            replace h5 := h5.up l1
            replace L4 := Mem.tr L4 l1
            clear S4
            replace S5 : St _ ((row 2 v2 c1 s1.2.2.1.length) :: As) _ := S5
            refine s_litC (parts := [.tmp 32]) (vs := [.agg #[vU x4.1, vU x4.2]]) (cls := [[vU x4.1, vU x4.2]]) (xs := ([x4] : List (UInt64 × UInt64))) (n := 1) S5 Tryd.underlying22 Tryd.sizeOf27 Tryd.zeroValue27 rfl ⟨rfl, trivial⟩ (RepL.cons (c := [vU x4.1, vU x4.2]) (x := x4) mk_arr2_UInt64 RepL.nil) rfl rfl rfl (by decide) (by decide) ?_
            intro v4 m3 w5 l2 S6 h9
            replace h6 := RepL.up l2 h6
            replace L4 := Mem.tr L4 l2
            clear S5
            obtain ⟨x5, q8, q6⟩ := obind_some q6
            refine s_app (i := 0) (zs := x5) (bytes := 16) (ti := Tryd.t27) S6 rfl rfl h6 rfl rfl h9 q8 Tryd.underlying22 Tryd.type27 rfl rfl rfl rfl ?_
            intro v5 c3 w6 S7 h10
            replace S7 : St _ ((row 2 v5 c3 x5.length) :: As) _ := S7
            clear S6
            refine s_asv (v := v5) rfl ?_
            refine wpl_nil ?_
            refine nrm ?_
            have e0 := Option.some.inj q6
            subst e0
            exact ⟨outP, m3, _, _, L4, S7, h10, ⟨rfl, trivial⟩⟩
          replace q6 := ifF hc4 q6
          refine wpc_skip ?_
          refine nrm ?_
          have e0 := Option.some.inj q6
          subst e0
          exact ⟨outP, m1, _, _, L4, S4, h6, ⟨rfl, trivial⟩⟩
        rintro f4 w7 ho ⟨m4, v3, c2, l3, S8, h8, ha⟩
        obtain ⟨u4, rfl⟩ := fr_of (N := 67) ho ha
        replace L2 := Mem.tr L2 l3
        clear S4
        refine wpc_seq ?_
        refine wpc_region ?_
        refine s_mvv (v := v3) rfl ?_
        obtain ⟨x6, q9, q4⟩ := obind_some q4
        refine s_call Tryd.call46 (w_slices_Reverse_api_Sum_api_Sum (a0 := x3) S8 h8 q9) rfl ?_
        rintro _ w8 ⟨m5, l4, c4, S9, rfl, h11⟩
        replace L2 := Mem.tr L2 l4
        clear S8
        replace S9 : St _ ((row 2 v3 c4 x6.length) :: As) _ := S9
        refine wpl_nil ?_
        refine nrm ?_
        refine wpc_seq ?_
        refine wpc_region ?_
        refine s_mvv (v := v3) rfl ?_
        refine s_asv (v := v3) rfl ?_
        refine s_asv (v := vI 0) rfl ?_
        refine wpl_nil ?_
        refine nrm ?_
        refine wpc_ret ?_
        refine thR ?_
        refine blR ?_
        refine thR ?_
        refine blR ?_
        refine thR ?_
        refine outRw ?_
        intro we hpd
        replace S9 := St.pd S9 hpd
        cases q4
        rcases q3 with ⟨sn, e, _⟩ | e
        · cases e
        cases e
        dsimp only at hm
        have e0 := Option.some.inj hm
        subst e0
        exact outR [_, _] rfl ⟨rfl, rfl, trivial⟩ ⟨_, (Mem.tr L0 (Mem.tr L3 L2)), _, _, S9, rfl, h11⟩
      replace q4 := ifF hc3 q4
      refine wpc_skip ?_
      refine nrm ?_
      refine wpc_seq ?_
      refine wpc_region ?_
      refine s_mvv (v := v1) rfl ?_
      refine s_lenR (xs := s1.1) rfl h5 Tryd.underlying22 ?_
      obtain ⟨x7, q10, q4⟩ := obind_some q4
      refine s_call Tryd.call38 (w_merkle_half (a0 := (s1.1.length : Int)) S4  q10) rfl ?_
      rintro _ w9 ⟨m6, l5, S10, rfl⟩
      replace h5 := h5.up l5
      replace h6 := RepL.up l5 h6
      replace L2 := Mem.tr L2 l5
      clear S4
      replace S10 : St _ ((row 2 v2 c1 s1.2.2.1.length) :: As) _ := S10
      refine s_asv (v := vI x7) rfl ?_
      refine wpl_nil ?_
      refine nrm ?_
      refine wpc_seq ?_
      refine wpc_seq ?_
      refine wpc_region ?_
      refine s_mvv (v := vI s1.2.1) rfl ?_
      refine s_mvv (v := vI x7) rfl ?_
      refine s_leq (m := s1.2.1) (n := x7) rfl rfl ?_
      refine wpl_nil ?_
      refine nrm ?_
      refine wpc_if (t := (decide (s1.2.1 ≤ x7))) rfl (fun hc5 => ?_) (fun hc5 => ?_)
      · replace q4 := ifT hc5 q4
        refine wpc_seq ?_
        refine wpc_region ?_
        refine s_mvv (v := v2) rfl ?_
        refine s_mvv (v := v1) rfl ?_
        refine s_mvv (v := vI x7) rfl ?_
        obtain ⟨x8, q11, q4⟩ := obind_some q4
        refine s_cut (ys := x8) (l := x7) (h := (s1.1.length : Int)) rfl h5 Tryd.underlying22 Tryd.sizeOf27 (.inr ⟨_, rfl⟩) (.inl ⟨rfl, rfl⟩) (.inl rfl) q11 ?_
        intro v6 h12
        obtain ⟨x9, q12, q4⟩ := obind_some q4
        refine s_call Tryd.call13 (w_merkle_Root (a0 := x8) S10 h12 q12) rfl ?_
        rintro _ w10 ⟨m7, l6, S11, rfl⟩
        replace h5 := h5.up l6
        replace h6 := RepL.up l6 h6
        replace h12 := h12.up l6
        replace L2 := Mem.tr L2 l6
        clear S10
        replace S11 : St _ ((row 2 v2 c1 s1.2.2.1.length) :: As) _ := S11
        refine s_litC (parts := [.tmp 48]) (vs := [.agg #[vU x9.1, vU x9.2]]) (cls := [[vU x9.1, vU x9.2]]) (xs := ([x9] : List (UInt64 × UInt64))) (n := 1) S11 Tryd.underlying22 Tryd.sizeOf27 Tryd.zeroValue27 rfl ⟨rfl, trivial⟩ (RepL.cons (c := [vU x9.1, vU x9.2]) (x := x9) mk_arr2_UInt64 RepL.nil) rfl rfl rfl (by decide) (by decide) ?_
        intro v7 m8 w11 l7 S12 h13
        replace h5 := h5.up l7
        replace h6 := RepL.up l7 h6
        replace L2 := Mem.tr L2 l7
        clear S11
        obtain ⟨x10, q13, q4⟩ := obind_some q4
        refine s_app (i := 0) (zs := x10) (bytes := 16) (ti := Tryd.t27) S12 rfl rfl h6 rfl rfl h13 q13 Tryd.underlying22 Tryd.type27 rfl rfl rfl rfl ?_
        intro v8 c5 w12 S13 h14
        replace S13 : St _ ((row 2 v8 c5 x10.length) :: As) _ := S13
        clear S12
        refine s_asv (v := v8) rfl ?_
        refine wpl_nil ?_
        refine nrm ?_
        refine wpc_seq ?_
        refine wpc_region ?_
        refine s_mvv (v := v1) rfl ?_
        refine s_mvv (v := vI x7) rfl ?_
        obtain ⟨x11, q14, q4⟩ := obind_some q4
        refine s_cut (ys := x11) (l := 0) (h := x7) rfl h5 Tryd.underlying22 Tryd.sizeOf27 (.inl ⟨rfl, rfl⟩) (.inr ⟨_, rfl⟩) (.inl rfl) q14 ?_
        intro v9 h15
        refine s_asv (v := v9) rfl ?_
        refine wpl_nil ?_
        refine nrm ?_
        refine wpc_exit ?_
        refine thE ?_
        refine exB ?_
        refine nrm ?_
        have e0 := Option.some.inj q4
        subst e0
        rcases q3 with ⟨sn, e, q3'⟩ | e
        · cases e
          exact ⟨outP, _, Nat.lt_succ_self _, ⟨_, m8, _, _, _, q3', Mem.tr L3 L2, S13, h15, h14, ⟨rfl, rfl, rfl, rfl, trivial⟩⟩⟩
        · cases e
      replace q4 := ifF hc5 q4
      refine wpc_skip ?_
      refine nrm ?_
      refine wpc_seq ?_
      refine wpc_region ?_
      refine s_mvv (v := v2) rfl ?_
      refine s_mvv (v := v1) rfl ?_
      refine s_mvv (v := vI x7) rfl ?_
      obtain ⟨x12, q15, q4⟩ := obind_some q4
      refine s_cut (ys := x12) (l := 0) (h := x7) rfl h5 Tryd.underlying22 Tryd.sizeOf27 (.inl ⟨rfl, rfl⟩) (.inr ⟨_, rfl⟩) (.inl rfl) q15 ?_
      intro v10 h16
      obtain ⟨x13, q16, q4⟩ := obind_some q4
      refine s_call Tryd.call13 (w_merkle_Root (a0 := x12) S10 h16 q16) rfl ?_
      rintro _ w13 ⟨m9, l8, S14, rfl⟩
      replace h5 := h5.up l8
      replace h6 := RepL.up l8 h6
      replace h16 := h16.up l8
      replace L2 := Mem.tr L2 l8
      clear S10
      replace S14 : St _ ((row 2 v2 c1 s1.2.2.1.length) :: As) _ := S14
      refine s_litC (parts := [.tmp 58]) (vs := [.agg #[vU x13.1, vU x13.2]]) (cls := [[vU x13.1, vU x13.2]]) (xs := ([x13] : List (UInt64 × UInt64))) (n := 1) S14 Tryd.underlying22 Tryd.sizeOf27 Tryd.zeroValue27 rfl ⟨rfl, trivial⟩ (RepL.cons (c := [vU x13.1, vU x13.2]) (x := x13) mk_arr2_UInt64 RepL.nil) rfl rfl rfl (by decide) (by decide) ?_
      intro v11 m10 w14 l9 S15 h17
      replace h5 := h5.up l9
      replace h6 := RepL.up l9 h6
      replace L2 := Mem.tr L2 l9
      clear S14
      obtain ⟨x14, q17, q4⟩ := obind_some q4
      refine s_app (i := 0) (zs := x14) (bytes := 16) (ti := Tryd.t27) S15 rfl rfl h6 rfl rfl h17 q17 Tryd.underlying22 Tryd.type27 rfl rfl rfl rfl ?_
      intro v12 c6 w15 S16 h18
      replace S16 : St _ ((row 2 v12 c6 x14.length) :: As) _ := S16
      clear S15
      refine s_asv (v := v12) rfl ?_
      refine wpl_nil ?_
      refine nrm ?_
      refine wpc_region ?_
      refine s_mvv (v := v1) rfl ?_
      refine s_mvv (v := vI x7) rfl ?_
      obtain ⟨x15, q18, q4⟩ := obind_some q4
      refine s_cut (ys := x15) (l := x7) (h := (s1.1.length : Int)) rfl h5 Tryd.underlying22 Tryd.sizeOf27 (.inr ⟨_, rfl⟩) (.inl ⟨rfl, rfl⟩) (.inl rfl) q18 ?_
      intro v13 h19
      refine s_mvv (v := vI s1.2.1) rfl ?_
      refine s_mvv (v := vI x7) rfl ?_
      refine s_subI (m := s1.2.1) (n := x7) rfl rfl ?_
      refine s_asv (v := v13) rfl ?_
      refine s_asv (v := vI (w64 (s1.2.1 - x7))) rfl ?_
      refine s_asv (v := vb false) rfl ?_
      refine wpl_nil ?_
      refine nrmB ?_
      refine nrm ?_
      have e0 := Option.some.inj q4
      subst e0
      rcases q3 with ⟨sn, e, q3'⟩ | e
      · cases e
        exact ⟨outP, _, Nat.lt_succ_self _, ⟨_, m10, _, _, _, q3', Mem.tr L3 L2, S16, h19, h18, ⟨rfl, rfl, rfl, rfl, trivial⟩⟩⟩
      · cases e
  rintro _ _ _ hF
  exact hF.elim

end Go.Proofs.YtohipjalgccmnaaDoor
