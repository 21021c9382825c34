/- The walks of some functions, written by program. Conditions: none. -/
import Derived.Test.YtemiampgjgenhaaGreatWkF
import Derived.Test.YtemiampgjgenhaaGreatWkG
set_option maxHeartbeats 20000000
set_option maxRecDepth 100000
set_option linter.unusedVariables false
set_option linter.unusedSimpArgs false
namespace Go.Proofs.YtemiampgjgenhaaGreat
open Go Go.Gw Tryz

def m_ref08_Leaf (a0 : List UInt8) : Option (UInt64 × UInt64) :=
  obind (m_ref02_Tagged (⟨#[108, 101, 97, 102]⟩ : ByteArray) ([a0] : List (List UInt8))) fun x1 =>
  some x1

theorem w_ref08_Leaf {m : Mem} {As : List Ow} {w : World} {a0 : List UInt8} {a0v0 : Value} {r : UInt64 × UInt64} (S : St m (As) w) (a0h0 : SlR m a0v0 a0) (hm : m_ref08_Leaf a0 = some r) :
    CallsR Tryz.prog 57 #[a0v0] w fun v w' => ∃ (M : Mem), m ≤ M ∧ St M (As) w' ∧ v = .agg #[vU r.1, vU r.2] := by
 unfold m_ref08_Leaf at hm
 have L0 := Mem.rfl' m
 refine callsR (args := [a0v0]) func57 rfl ntmps57 (nb rfl) <| ws <| s_alloc S zeroValue41 fun b1 w1 S1 => ?_
 replace S1 : St _ ((bx b1 z_api_Sig 41) :: As) _ := S1
 clear S
 refine nx <| s_mvv (v := a0v0) rfl <| s_litC (parts := [.tmp 3]) (vs := [a0v0]) (cls := [[a0v0]]) (xs := ([a0] : List (List UInt8))) (n := 1) S1 underlying117 sizeOf27 zeroValue27 rfl ⟨SlR.cells a0h0, trivial⟩ (RepL.cons (c := [a0v0]) (x := a0) ⟨_, rfl, a0h0⟩ RepL.nil) rfl rfl rfl (by decide) (by decide) fun v1 m1 w2 l1 S2 h1 => ?_
 clear S1
 obtain ⟨x1, q1, hm⟩ := obind_some hm
 refine s_call call80 (w_ref02_Tagged (a0 := (⟨#[108, 101, 97, 102]⟩ : ByteArray)) (a1 := ([a0] : List (List UInt8))) S2 h1 q1) rfl ?_
 rintro _ w3 ⟨m2, l2, S3, rfl⟩
 clear S2
 refine s_stL (i := 0) S3 rfl rfl rfl sizeOf41 (oneC rfl (oneC rfl oneN)) rfl fun w4 S4 => ?_
 replace S4 : St _ ((bx b1 [vU x1.1, vU x1.2] 41) :: As) _ := S4
 clear S3
 refine wpl_nil <| nrm <| wpc_ret <| outRw fun we hpd => ?_
 replace S4 := St.pd S4 hpd
 have SR := S4
 obtain ⟨m3, l3, S5⟩ := St.drop S4 0
 replace S5 : St _ (As) _ := S5
 have e0 := Option.some.inj hm
 subst e0
 replace L0 := Mem.tr L0 (mt l1 (mt l2 l3))
 exact outR [_] rfl ⟨res_box (i := 0) (off := 0) (cs := [vU x1.1, vU x1.2]) SR rfl rfl isAgg41 sizeOf41 rfl (fun h => by cases h), trivial⟩ ⟨_, L0, S5, rfl⟩

def m_ref03_AddR (a0 : UInt64) (a1 : UInt64) : Option UInt64 :=
  obind (m_ref03_sum (a0 % 1152921504606845789) (a1 % 1152921504606845789) 1152921504606845789) fun x1 =>
  some x1

theorem w_ref03_AddR {m : Mem} {As : List Ow} {w : World} {a0 : UInt64} {a1 : UInt64} {r : UInt64} (S : St m (As) w) (hm : m_ref03_AddR a0 a1 = some r) :
    CallsR Tryz.prog 95 #[vU a0, vU a1] w fun v w' => ∃ (M : Mem), m ≤ M ∧ St M (As) w' ∧ v = vU r := by
 unfold m_ref03_AddR at hm
 have L0 := Mem.rfl' m
 refine callsR (args := [vU a0, vU a1]) func95 rfl ntmps95 (nb rfl) <| ws <| s_asv (v := vU 0) rfl <| nx <| s_mvv (v := vU a0) rfl <| s_remU (m := a0) (n := 1152921504606845789) rfl rfl (by decide) <| s_mvv (v := vU a1) rfl <| s_remU (m := a1) (n := 1152921504606845789) rfl rfl (by decide) ?_
 obtain ⟨x1, q1, hm⟩ := obind_some hm
 refine s_call call129 (w_ref03_sum (a0 := (a0 % 1152921504606845789)) (a1 := (a1 % 1152921504606845789)) (a2 := 1152921504606845789) S  q1) rfl ?_
 rintro _ w1 ⟨m1, l1, S1, rfl⟩
 clear S
 refine s_asv (v := vU x1) rfl <| wpl_nil <| nrm <| wpc_ret <| outRw fun we hpd => ?_
 replace S1 := St.pd S1 hpd
 have e0 := Option.some.inj hm
 subst e0
 replace L0 := Mem.tr L0 l1
 exact outR [_] rfl ⟨rfl, trivial⟩ ⟨_, L0, S1, rfl⟩

def m_ref03_MulR (a0 : UInt64) (a1 : UInt64) : Option UInt64 :=
  obind (m_ref03_times a0 a1 1152921504606845789) fun x1 =>
  some x1

theorem w_ref03_MulR {m : Mem} {As : List Ow} {w : World} {a0 : UInt64} {a1 : UInt64} {r : UInt64} (S : St m (As) w) (hm : m_ref03_MulR a0 a1 = some r) :
    CallsR Tryz.prog 96 #[vU a0, vU a1] w fun v w' => ∃ (M : Mem), m ≤ M ∧ St M (As) w' ∧ v = vU r := by
 unfold m_ref03_MulR at hm
 have L0 := Mem.rfl' m
 refine callsR (args := [vU a0, vU a1]) func96 rfl ntmps96 (nb rfl) <| ws <| s_asv (v := vU 0) rfl <| nx <| s_mvv (v := vU a0) rfl <| s_mvv (v := vU a1) rfl ?_
 obtain ⟨x1, q1, hm⟩ := obind_some hm
 refine s_call call130 (w_ref03_times (a0 := a0) (a1 := a1) (a2 := 1152921504606845789) S  q1) rfl ?_
 rintro _ w1 ⟨m1, l1, S1, rfl⟩
 clear S
 refine s_asv (v := vU x1) rfl <| wpl_nil <| nrm <| wpc_ret <| outRw fun we hpd => ?_
 replace S1 := St.pd S1 hpd
 have e0 := Option.some.inj hm
 subst e0
 replace L0 := Mem.tr L0 l1
 exact outR [_] rfl ⟨rfl, trivial⟩ ⟨_, L0, S1, rfl⟩

def m_ref04_Sign (a0 : UInt64) (a1 : List UInt8) : Option (g_api_Sig × Int) :=
  obind (m_ref04_Public a0) fun x1 =>
  if (x1.2 != 0) = true then
    some ((⟨0, 0⟩ : g_api_Sig), x1.2)
  else
  obind (m_ref04_Eight a0) fun x2 =>
  obind (m_ref02_Tagged (⟨#[110, 111, 110, 99, 101]⟩ : ByteArray) ([x2, a1] : List (List UInt8))) fun x3 =>
  obind (m_ref02_Num x3 1152921504606845788) fun x4 =>
  obind (m_ref03_Base (1 + x4)) fun x5 =>
  obind (m_ref04_Challenge x5 x1.1 a1) fun x6 =>
  obind (m_ref03_MulR x6 a0) fun x7 =>
  obind (m_ref03_AddR (1 + x4) x7) fun x8 =>
  some ((⟨x6, x8⟩ : g_api_Sig), 0)

theorem w_ref04_Sign {m : Mem} {As : List Ow} {w : World} {a0 : UInt64} {a1 : List UInt8} {a1v0 : Value} {r : g_api_Sig × Int} (S : St m (As) w) (a1h0 : SlR m a1v0 a1) (hm : m_ref04_Sign a0 a1 = some r) :
    CallsR Tryz.prog 58 #[vU a0, a1v0] w fun v w' => ∃ (M : Mem), m ≤ M ∧ St M (As) w' ∧ v = .tuple #[.agg (c_api_Sig r.1).toArray, vI r.2] := by
 unfold m_ref04_Sign at hm
 have L0 := Mem.rfl' m
 refine callsR (args := [vU a0, a1v0]) func58 rfl ntmps58 (nb rfl) <| ws <| s_alloc S zeroValue43 fun b1 w1 S1 => ?_
 replace S1 : St _ ((bx b1 z_api_Sig 43) :: As) _ := S1
 clear S
 refine s_asv (v := vI 0) rfl <| nx <| s_mvv (v := vU a0) rfl ?_
 obtain ⟨x1, q1, hm⟩ := obind_some hm
 refine s_call call41 (w_ref04_Public (a0 := a0) S1  q1) rfl ?_
 rintro _ w2 ⟨m1, l1, S2, rfl⟩
 clear S1
 refine s_mvv (v := .tuple #[vU x1.1, vI x1.2]) rfl <| s_ext (i := 0) rfl rfl <| s_ext (i := 1) rfl rfl <| s_asv (v := vU x1.1) rfl <| s_asv (v := vI x1.2) rfl <| wpl_nil <| nrm <| wpc_seq <| ws <| s_mvv (v := vI x1.2) rfl <| s_neq (m := x1.2) (n := 0) rfl rfl <| wpl_nil <| nrm <| wpc_if (t := (x1.2 != 0)) rfl (fun hc1 => ?_) (fun hc1 => ?_)
 · replace hm := ifT hc1 hm
   refine ws <| s_build (parts := []) (ps := []) (cs := z_api_Sig) zeroValue43 (BuildPl.str (ss := [1, 1]) underlying43 ⟨sizeOf22, sizeOf22, trivial⟩) rfl trivial rfl <| s_mvv (v := vI x1.2) rfl <| s_stL (i := 0) S2 rfl rfl rfl sizeOf43 (oneC rfl (oneC rfl oneN)) rfl fun w3 S3 => ?_
   replace S3 : St _ ((bx b1 z_api_Sig 43) :: As) _ := S3
   clear S2
   refine s_asv (v := vI x1.2) rfl <| wpl_nil <| nrm <| wpc_ret <| thR <| outRw fun we hpd => ?_
   replace S3 := St.pd S3 hpd
   have SR := S3
   obtain ⟨m2, l2, S4⟩ := St.drop S3 0
   replace S4 : St _ (As) _ := S4
   have e0 := Option.some.inj hm
   subst e0
   replace L0 := Mem.tr L0 (mt l1 l2)
   exact outR [_, _] rfl ⟨res_box (i := 0) (off := 0) (cs := z_api_Sig) SR rfl rfl isAgg43 sizeOf43 rfl (fun h => by cases h), rfl, trivial⟩ ⟨_, L0, S4, rfl⟩
 replace hm := ifF hc1 hm
 refine wpc_skip <| nrm <| ws <| s_mvv (v := vU a0) rfl ?_
 obtain ⟨x2, q2, hm⟩ := obind_some hm
 refine s_call call93 (w_ref04_Eight (a0 := a0) S2  q2) rfl ?_
 rintro v1 w4 ⟨m3, l3, _, c1, S5, rfl, h1⟩
 clear S2
 refine s_mvv (v := a1v0) rfl ?_
 obtain ⟨m4, l4, h2, S6⟩ := St.rowKeepT (i := 0) S5 rfl h1 rfl
 clear S5
 replace a1h0 := a1h0.up (mt l1 (mt l3 l4))
 refine s_litC (parts := [.tmp 20, .tmp 21]) (vs := [v1, a1v0]) (cls := [[v1], [a1v0]]) (xs := ([x2, a1] : List (List UInt8))) (n := 2) S6 underlying117 sizeOf27 zeroValue27 rfl ⟨SlR.cells h2, SlR.cells a1h0, trivial⟩ (RepL.cons (c := [v1]) (x := x2) ⟨_, rfl, h2⟩ (RepL.cons (c := [a1v0]) (x := a1) ⟨_, rfl, a1h0⟩ RepL.nil)) rfl rfl rfl (by decide) (by decide) fun v2 m5 w5 l5 S7 h3 => ?_
 clear S6
 obtain ⟨x3, q3, hm⟩ := obind_some hm
 refine s_call call80 (w_ref02_Tagged (a0 := (⟨#[110, 111, 110, 99, 101]⟩ : ByteArray)) (a1 := ([x2, a1] : List (List UInt8))) S7 h3 q3) rfl ?_
 rintro _ w6 ⟨m6, l6, S8, rfl⟩
 clear S7
 obtain ⟨x4, q4, hm⟩ := obind_some hm
 refine s_call call79 (w_ref02_Num (a0 := x3) (a1 := 1152921504606845788) S8  q4) rfl ?_
 rintro _ w7 ⟨m7, l7, S9, rfl⟩
 clear S8
 refine s_addU (m := 1) (n := x4) rfl rfl <| s_asv (v := vU (1 + x4)) rfl <| nx <| s_mvv (v := vU (1 + x4)) rfl ?_
 obtain ⟨x5, q5, hm⟩ := obind_some hm
 refine s_call call84 (w_ref03_Base (a0 := (1 + x4)) S9  q5) rfl ?_
 rintro _ w8 ⟨m8, l8, S10, rfl⟩
 clear S9
 refine s_mvv (v := vU x1.1) rfl <| s_mvv (v := a1v0) rfl ?_
 obtain ⟨x6, q6, hm⟩ := obind_some hm
 replace a1h0 := a1h0.up (mt l5 (mt l6 (mt l7 l8)))
 refine s_call call94 (w_ref04_Challenge (a0 := x5) (a1 := x1.1) (a2 := a1) S10 a1h0 q6) rfl ?_
 rintro _ w9 ⟨m9, l9, S11, rfl⟩
 clear S10
 refine s_asv (v := vU x6) rfl <| nx <| s_mvv (v := vU x6) rfl <| s_mvv (v := vU (1 + x4)) rfl <| s_mvv (v := vU x6) rfl <| s_mvv (v := vU a0) rfl ?_
 obtain ⟨x7, q7, hm⟩ := obind_some hm
 refine s_call call96 (w_ref03_MulR (a0 := x6) (a1 := a0) S11  q7) rfl ?_
 rintro _ w10 ⟨m10, l10, S12, rfl⟩
 clear S11
 obtain ⟨x8, q8, hm⟩ := obind_some hm
 refine s_call call95 (w_ref03_AddR (a0 := (1 + x4)) (a1 := x7) S12  q8) rfl ?_
 rintro _ w11 ⟨m11, l11, S13, rfl⟩
 clear S12
 refine s_build (parts := [(0, .tmp 31), (1, .tmp 36)]) (ps := [(0, vU x6, [vU x6]), (1, vU x8, [vU x8])]) (cs := [vU x6, vU x8]) zeroValue43 (BuildPl.str (ss := [1, 1]) underlying43 ⟨sizeOf22, sizeOf22, trivial⟩) rfl ⟨rfl, rfl, trivial⟩ rfl <| s_stL (i := 0) S13 rfl rfl rfl sizeOf43 (oneC rfl (oneC rfl oneN)) rfl fun w12 S14 => ?_
 replace S14 : St _ ((bx b1 [vU x6, vU x8] 43) :: As) _ := S14
 clear S13
 refine s_asv (v := vI 0) rfl <| wpl_nil <| nrm <| wpc_ret <| outRw fun we hpd => ?_
 replace S14 := St.pd S14 hpd
 have SR := S14
 obtain ⟨m12, l12, S15⟩ := St.drop S14 0
 replace S15 : St _ (As) _ := S15
 have e0 := Option.some.inj hm
 subst e0
 replace L0 := Mem.tr L0 (mt l1 (mt l3 (mt l4 (mt l5 (mt l6 (mt l7 (mt l8 (mt l9 (mt l10 (mt l11 l12))))))))))
 exact outR [_, _] rfl ⟨res_box (i := 0) (off := 0) (cs := [vU x6, vU x8]) SR rfl rfl isAgg43 sizeOf43 rfl (fun h => by cases h), rfl, trivial⟩ ⟨_, L0, S15, rfl⟩

def m_ref24_hidden_b2 (a0 : g_api_Log) (a1 : Int) (s1 : Int) : Option ((Int) ⊕ ((Unit) ⊕ Bool)) :=
  if (decide (s1 < (a0.Hide.length : Int))) = true then
    obind (idx a0.Hide s1) fun x3 =>
    if (x3 == a1) = true then
      some (.inr (.inr true))
    else
    some (.inl (w64 (s1 + 1)))
  else
  some (.inr (.inl ()))

def m_ref24_hidden (a0 : g_api_Log) (a1 : Int) : Option Bool :=
  obind (iter (m_ref24_hidden_b2 a0 a1) FUEL 0) fun x1 => match x1 with
  | .inr r => some r
  | .inl y1 =>
  some false

theorem w_ref24_hidden {m : Mem} {As : List Ow} {w : World} {a0 : g_api_Log} {a0v3 : Value} {a0v4 : Value} {a0v5 : Value} {a1 : Int} {r : Bool} (S : St m (As) w) (a0h3 : SlR m a0v3 a0.L) (a0h4 : SlR m a0v4 a0.Hide) (a0h5 : SlR m a0v5 a0.Wait) (hm : m_ref24_hidden a0 a1 = some r) :
    CallsR Tryz.prog 63 #[.agg (c_api_Log a0 a0v3 a0v4 a0v5).toArray, vI a1] w fun v w' => ∃ (M : Mem), m ≤ M ∧ St M (As) w' ∧ v = vb r := by
 unfold m_ref24_hidden at hm
 have L0 := Mem.rfl' m
 refine callsR (args := [.agg (c_api_Log a0 a0v3 a0v4 a0v5).toArray, vI a1]) func63 rfl ntmps63 (nb rfl) <| ws <| s_box S rfl fun b1 w1 S1 => ?_
 replace S1 : St _ ((bx b1 (c_api_Log a0 a0v3 a0v4 a0v5) 26) :: As) _ := S1
 clear S
 refine s_asv (v := vb false) rfl <| wpl_nil <| nrm <| wpc_seq <| ws <| s_asv (v := vI 0) rfl <| wpl_nil <| nrm ?_
 obtain ⟨x1, q1, hm⟩ := obind_some hm
 have L1 := Mem.rfl' m
 refine wpc_join (rg 4 16) (fun f' w' => ∃ (M1 : Mem) (y1 : Unit), x1 = .inl y1 ∧ m ≤ M1 ∧ St M1 ((bx b1 (c_api_Log a0 a0v3 a0v4 a0v5) 26) :: As) w' ∧ AllAt f' []) ?_ ?_
 · refine wpc_block <| wpc_rounds (rg 4 16) (fun n1 f' w' => ∃ (s1 : Int) (m3 : Mem), iter (m_ref24_hidden_b2 a0 a1) n1 s1 = some x1 ∧ m ≤ m3 ∧ St m3 ((bx b1 (c_api_Log a0 a0v3 a0v4 a0v5) 26) :: As) w' ∧ AllAt f' [(5, vI s1)]) FUEL ⟨0, m, q1, L1, S1, ⟨rfl, trivial⟩⟩ ?_
   rintro n1 f1 w2 ho ⟨s1, m1, q2, L3, S2, ha⟩
   obtain ⟨u1, rfl⟩ := fr_of (N := 20) ho ha
   clear ho ha
   have L2 := Mem.rfl' m1
   clear S1
   cases n1 with
   | zero => exact (iter_zero q2).elim
   | succ n1 =>
    obtain ⟨y2, q4, q3⟩ := iter_succ q2
    unfold m_ref24_hidden_b2 at q4
    refine wpc_seq <| ws <| s_mvv (v := vI s1) rfl <| s_fld (n := 0) rfl underlying26 rfl rfl sizeOf24 <| s_ld (i := 0) (cs := [a0v4]) S2 rfl rfl isAgg24 sizeOf24 rfl (fun _ => rfl) <| s_lenR (xs := a0.Hide) rfl (a0h4.up L3) underlying24 <| s_lss (m := s1) (n := (a0.Hide.length : Int)) rfl rfl <| wpl_nil <| nrm <| wpc_if (t := (decide (s1 < (a0.Hide.length : Int)))) rfl (fun hc1 => ?_) (fun hc1 => ?_)
    · replace q4 := ifT hc1 q4
      refine wpc_skip <| nrm <| wpc_seq <| wpc_block <| ws <| s_fld (n := 0) rfl underlying26 rfl rfl sizeOf24 <| s_ld (i := 0) (cs := [a0v4]) S2 rfl rfl isAgg24 sizeOf24 rfl (fun _ => rfl) <| s_mvv (v := vI s1) rfl ?_
      obtain ⟨x3, q6, q4⟩ := obind_some q4
      refine s_idx (q := x3) rfl rfl (a0h4.up L3) q6 underlying24 sizeOf3 fun p1 c1 h1 r1 => ?_
      obtain rfl : c1 = [vI x3] := r1
      refine s_ldM (cs := [vI x3]) S2 rfl h1 rfl isAgg3 sizeOf3 (fun _ => rfl) <| s_mvv (v := vI a1) rfl <| s_eql (m := x3) (n := a1) rfl rfl <| wpl_nil <| nrm <| wpc_if (t := (x3 == a1)) rfl (fun hc2 => ?_) (fun hc2 => ?_)
      · replace q4 := ifT hc2 q4
        refine ws <| s_asv (v := vb true) rfl <| wpl_nil <| nrm <| wpc_ret <| blR <| thR <| thR <| blR <| thR <| outRw fun we hpd => ?_
        replace S2 := St.pd S2 hpd
        obtain ⟨m2, l1, S3⟩ := St.drop S2 0
        clear S2
        replace S3 : St _ (As) _ := S3
        cases q4
        rcases q3 with ⟨sn, e, _⟩ | e
        · cases e
        cases e
        dsimp only at hm
        have e0 := Option.some.inj hm
        subst e0
        replace L2 := Mem.tr L2 l1
        exact outR [_] rfl ⟨rfl, trivial⟩ ⟨_, (Mem.tr L0 (Mem.tr L3 L2)), S3, rfl⟩
      replace q4 := ifF hc2 q4
      refine wpc_skip <| nrmB <| nrm <| wpc_region <| s_mvv (v := vI s1) rfl <| s_addI (m := s1) (n := 1) rfl rfl <| s_asv (v := vI (w64 (s1 + 1))) rfl <| wpl_nil <| nrm ?_
      have e0 := Option.some.inj q4
      subst e0
      rcases q3 with ⟨sn, e, q3'⟩ | e
      · cases e
        exact ⟨outP, _, Nat.lt_succ_self _, ⟨_, m1, q3', Mem.tr L3 L2, S2, ⟨rfl, trivial⟩⟩⟩
      · cases e
    replace q4 := ifF hc1 q4
    refine wpc_exit <| thE <| thE <| exB <| nrm ?_
    have e0 := Option.some.inj q4
    subst e0
    rcases q3 with ⟨sn, e, _⟩ | e
    · cases e
    · cases e
      exact ⟨outP, m1, _, rfl, Mem.tr L3 L2, S2, trivial⟩
 rintro f2 w3 ho ⟨m4, y1, rfl, l2, S4, ha⟩
 obtain ⟨u2, rfl⟩ := fr_of (N := 20) ho ha
 clear ho ha
 dsimp only at hm
 clear S1
 refine ws <| s_asv (v := vb false) rfl <| wpl_nil <| nrm <| wpc_ret <| outRw fun we hpd => ?_
 replace S4 := St.pd S4 hpd
 obtain ⟨m5, l3, S5⟩ := St.drop S4 0
 clear S4
 replace S5 : St _ (As) _ := S5
 have e0 := Option.some.inj hm
 subst e0
 replace L0 := Mem.tr L0 (mt l2 l3)
 exact outR [_] rfl ⟨rfl, trivial⟩ ⟨_, L0, S5, rfl⟩

end Go.Proofs.YtemiampgjgenhaaGreat
