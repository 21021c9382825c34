/- The walks of some functions, written by program. Conditions: none. -/
import Derived.Test.YtemiampgjgenhaaGreatWkE
set_option maxHeartbeats 20000000
set_option maxRecDepth 100000
set_option linter.unusedVariables false
set_option linter.unusedSimpArgs false
namespace Go.Proofs.YtemiampgjgenhaaGreat
open Go Go.Gw Tryz

def m_ref04_Eight_b1  (s1 : UInt64 × Int × (List UInt8)) : Option ((UInt64 × Int × (List UInt8)) ⊕ ((List UInt8))) :=
  if (decide (s1.2.1 ≥ 0)) = true then
    obind (idx s1.2.2 s1.2.1) fun x4 =>
    bnd (s1.2.2.set s1.2.1.toNat (toB ((s1.1 % 256).toNat : Int))) fun x5 =>
    some (.inl ((s1.1 / 256), (w64 (s1.2.1 - 1)), x5))
  else
  some (.inr s1.2.2)

def m_ref04_Eight (a0 : UInt64) : Option (List UInt8) :=
  obind (
    obind (iter m_ref04_Eight_b1 FUEL (a0, 7, (List.replicate 8 (0 : UInt8)))) fun x2 =>
    some x2
  ) fun x1 =>
  some x1

theorem w_ref04_Eight {m : Mem} {As : List Ow} {w : World} {a0 : UInt64} {r : List UInt8} (S : St m (As) w) (hm : m_ref04_Eight a0 = some r) :
    CallsR Tryz.prog 93 #[vU a0] w fun v w' => ∃ (M : Mem), m ≤ M ∧ ∃ (rv0 : Value) (rc0 : List Value), St M ((row 1 rv0 rc0 r.length) :: As) w' ∧ v = rv0 ∧ RepL M rc0 r := by
 unfold m_ref04_Eight at hm
 have L0 := Mem.rfl' m
 refine callsR (args := [vU a0]) func93 rfl ntmps93 (nb rfl) <| ws <| s_asv (v := .slice none 0 0) rfl <| nx <| s_mk1 (k := 8) (x0 := (0 : UInt8)) (bytes := 1) (ti := Tryz.t5) S rfl rfl ⟨by decide, by decide, by decide⟩ underlying27 type5 rfl rfl rfl rfl rfl fun v1 c1 w1 S1 h1 => ?_
 replace S1 : St _ ((row 1 v1 c1 (List.replicate 8 (0 : UInt8)).length) :: As) _ := S1
 clear S
 refine s_asv (v := v1) rfl <| wpl_nil <| nrm ?_
 obtain ⟨x1, q1, hm⟩ := obind_some hm
 have L1 := Mem.rfl' m
 refine wpc_seq <| wpc_join [0, 4, 6, 7, 8, 9, 10, 11, 12, 13, 14, 15, 16, 17] (fun f' w' => ∃ (M1 : Mem) (c2 : List Value), m ≤ M1 ∧ St M1 ((row 1 v1 c2 x1.length) :: As) w' ∧ RepL M1 c2 x1 ∧ AllAt f' []) ?_ ?_
 · refine ws <| s_asv (v := vI 7) rfl <| wpl_nil <| nrm ?_
   obtain ⟨x2, q2, q1⟩ := obind_some q1
   have L2 := Mem.rfl' m
   refine wpc_join [0, 4, 6, 7, 8, 9, 10, 11, 12, 13, 14, 15, 16, 17] (fun f' w' => ∃ (M2 : Mem) (c4 : List Value), m ≤ M2 ∧ St M2 ((row 1 v1 c4 x2.length) :: As) w' ∧ RepL M2 c4 x2 ∧ AllAt f' []) ?_ ?_
   · refine wpc_block <| wpc_rounds [0, 4, 6, 7, 8, 9, 10, 11, 12, 13, 14, 15, 16, 17] (fun n1 f' w' => ∃ (s1 : UInt64 × Int × (List UInt8)) (m2 : Mem) (c3 : List Value), iter m_ref04_Eight_b1 n1 s1 = some x2 ∧ m ≤ m2 ∧ St m2 ((row 1 v1 c3 s1.2.2.length) :: As) w' ∧ RepL m2 c3 s1.2.2 ∧ AllAt f' [(0, vU s1.1), (4, vI s1.2.1)]) FUEL ⟨(a0, 7, (List.replicate 8 (0 : UInt8))), m, _, q2, L2, S1, h1, ⟨rfl, rfl, trivial⟩⟩ ?_
     rintro n1 f1 w2 ho ⟨s1, m1, c3, q3, L4, S2, h3, ha⟩
     obtain ⟨u1, rfl⟩ := fr_of (N := 19) ho ha
     clear ho ha
     have L3 := Mem.rfl' m1
     clear S1
     cases n1 with
     | zero => exact (iter_zero q3).elim
     | succ n1 =>
      obtain ⟨y1, q5, q4⟩ := iter_succ q3
      unfold m_ref04_Eight_b1 at q5
      refine wpc_seq <| ws <| s_mvv (v := vI s1.2.1) rfl <| s_geq (m := s1.2.1) (n := 0) rfl rfl <| wpl_nil <| nrm <| wpc_if (t := (decide (s1.2.1 ≥ 0))) rfl (fun hc1 => ?_) (fun hc1 => ?_)
      · replace q5 := ifT hc1 q5
        refine wpc_skip <| nrm <| wpc_seq <| wpc_block <| ws <| s_mvv (v := v1) rfl <| s_mvv (v := vI s1.2.1) rfl <| s_mvv (v := vU s1.1) rfl <| s_remU (m := s1.1) (n := 256) rfl rfl (by decide) <| s_convB rfl underlying22 underlying5 ?_
        obtain ⟨x4, q7, q5⟩ := obind_some q5
        refine s_idxO (i := 0) (j := s1.2.1) S2 rfl rfl rfl (idx_rng q7).1 (idx_rng q7).2 underlying27 sizeOf5 fun p1 h5 => ?_
        obtain ⟨x5, q8, q5⟩ := bnd_eq q5
        refine s_stOR (i := 0) (j := s1.2.1) (z := (toB ((s1.1 % 256).toNat : Int))) S2 rfl rfl h5 rfl h3 q7 sizeOf5 (oneC rfl oneN) rfl fun w3 c5 S3 h6 => ?_
        rw [← q8] at S3 h6
        replace S3 : St _ ((row 1 v1 c5 x5.length) :: As) _ := S3
        clear S2
        refine wpl_nil <| nrm <| wpc_region <| s_mvv (v := vU s1.1) rfl <| s_quoU (m := s1.1) (n := 256) rfl rfl (by decide) <| s_asv (v := vU (s1.1 / 256)) rfl <| wpl_nil <| nrmB <| nrm <| wpc_region <| s_mvv (v := vI s1.2.1) rfl <| s_subI (m := s1.2.1) (n := 1) rfl rfl <| s_asv (v := vI (w64 (s1.2.1 - 1))) rfl <| wpl_nil <| nrm ?_
        have e0 := Option.some.inj q5
        subst e0
        rcases q4 with ⟨sn, e, q4'⟩ | e
        · cases e
          exact ⟨outP, _, Nat.lt_succ_self _, ⟨_, m1, _, q4', Mem.tr L4 L3, S3, h6, ⟨rfl, rfl, trivial⟩⟩⟩
        · cases e
      replace q5 := ifF hc1 q5
      refine wpc_exit <| thE <| thE <| exB <| nrm ?_
      have e0 := Option.some.inj q5
      subst e0
      rcases q4 with ⟨sn, e, _⟩ | e
      · cases e
      · cases e
        exact ⟨outP, m1, _, Mem.tr L4 L3, S2, h3, trivial⟩
   rintro f2 w4 ho ⟨m3, c4, l1, S4, h4, ha⟩
   obtain ⟨u2, rfl⟩ := fr_of (N := 19) ho ha
   clear ho ha S1
   have e0 := Option.some.inj q1
   subst e0
   replace L1 := Mem.tr L1 l1
   exact ⟨outP, m3, _, L1, S4, h4, trivial⟩
 rintro f3 w5 ho ⟨m4, c2, l2, S5, h2, ha⟩
 obtain ⟨u3, rfl⟩ := fr_of (N := 19) ho ha
 clear S1
 refine ws <| s_mvv (v := v1) rfl <| s_asv (v := v1) rfl <| wpl_nil <| nrm <| wpc_ret <| outRw fun we hpd => ?_
 replace S5 := St.pd S5 hpd
 have e0 := Option.some.inj hm
 subst e0
 replace L0 := Mem.tr L0 l2
 exact outR [_] rfl ⟨rfl, trivial⟩ ⟨_, L0, _, _, S5, rfl, h2⟩

def m_ref04_Challenge (a0 : UInt64) (a1 : UInt64) (a2 : List UInt8) : Option UInt64 :=
  obind (m_ref04_Eight a0) fun x1 =>
  obind (m_ref04_Eight a1) fun x2 =>
  obind (m_ref02_Tagged (⟨#[115, 105, 103, 110]⟩ : ByteArray) ([x1, x2, a2] : List (List UInt8))) fun x3 =>
  obind (m_ref02_Num x3 1152921504606845789) fun x4 =>
  some x4

theorem w_ref04_Challenge {m : Mem} {As : List Ow} {w : World} {a0 : UInt64} {a1 : UInt64} {a2 : List UInt8} {a2v0 : Value} {r : UInt64} (S : St m (As) w) (a2h0 : SlR m a2v0 a2) (hm : m_ref04_Challenge a0 a1 a2 = some r) :
    CallsR Tryz.prog 94 #[vU a0, vU a1, a2v0] w fun v w' => ∃ (M : Mem), m ≤ M ∧ St M (As) w' ∧ v = vU r := by
 unfold m_ref04_Challenge at hm
 have L0 := Mem.rfl' m
 refine callsR (args := [vU a0, vU a1, a2v0]) func94 rfl ntmps94 (nb rfl) <| ws <| s_asv (v := vU 0) rfl <| nx <| s_mvv (v := vU a0) rfl ?_
 obtain ⟨x1, q1, hm⟩ := obind_some hm
 refine s_call call93 (w_ref04_Eight (a0 := a0) S  q1) rfl ?_
 rintro v1 w1 ⟨m1, l1, _, c1, S1, rfl, h1⟩
 clear S
 refine s_mvv (v := vU a1) rfl ?_
 obtain ⟨x2, q2, hm⟩ := obind_some hm
 refine s_call call93 (w_ref04_Eight (a0 := a1) S1  q2) rfl ?_
 rintro v2 w2 ⟨m2, l2, _, c2, S2, rfl, h2⟩
 clear S1
 refine s_mvv (v := a2v0) rfl ?_
 replace h1 := RepL.up l2 h1
 obtain ⟨m3, l3, h3, S3⟩ := St.rowKeepT (i := 1) S2 rfl h1 rfl
 clear S2
 replace h2 := RepL.up l3 h2
 obtain ⟨m4, l4, h4, S4⟩ := St.rowKeepT (i := 0) S3 rfl h2 rfl
 clear S3
 replace a2h0 := a2h0.up (mt l1 (mt l2 (mt l3 l4)))
 replace h3 := h3.up l4
 refine s_litC (parts := [.tmp 8, .tmp 10, .tmp 11]) (vs := [v1, v2, a2v0]) (cls := [[v1], [v2], [a2v0]]) (xs := ([x1, x2, a2] : List (List UInt8))) (n := 3) S4 underlying117 sizeOf27 zeroValue27 rfl ⟨SlR.cells h3, SlR.cells h4, SlR.cells a2h0, trivial⟩ (RepL.cons (c := [v1]) (x := x1) ⟨_, rfl, h3⟩ (RepL.cons (c := [v2]) (x := x2) ⟨_, rfl, h4⟩ (RepL.cons (c := [a2v0]) (x := a2) ⟨_, rfl, a2h0⟩ RepL.nil))) rfl rfl rfl (by decide) (by decide) fun v3 m5 w3 l5 S5 h5 => ?_
 clear S4
 obtain ⟨x3, q3, hm⟩ := obind_some hm
 refine s_call call80 (w_ref02_Tagged (a0 := (⟨#[115, 105, 103, 110]⟩ : ByteArray)) (a1 := ([x1, x2, a2] : List (List UInt8))) S5 h5 q3) rfl ?_
 rintro _ w4 ⟨m6, l6, S6, rfl⟩
 clear S5
 obtain ⟨x4, q4, hm⟩ := obind_some hm
 refine s_call call79 (w_ref02_Num (a0 := x3) (a1 := 1152921504606845789) S6  q4) rfl ?_
 rintro _ w5 ⟨m7, l7, S7, rfl⟩
 clear S6
 refine s_asv (v := vU x4) rfl <| wpl_nil <| nrm <| wpc_ret <| outRw fun we hpd => ?_
 replace S7 := St.pd S7 hpd
 have e0 := Option.some.inj hm
 subst e0
 replace L0 := Mem.tr L0 (mt l1 (mt l2 (mt l3 (mt l4 (mt l5 (mt l6 l7))))))
 exact outR [_] rfl ⟨rfl, trivial⟩ ⟨_, L0, S7, rfl⟩

def m_ref02_Bytes (a0 : UInt64 × UInt64) : Option (List UInt8) :=
  obind (m_ref02_Eight a0.1) fun x1 =>
  obind (m_ref02_Eight a0.2) fun x2 =>
  obind (app 1 x1 x2) fun x3 =>
  some x3

theorem w_ref02_Bytes {m : Mem} {As : List Ow} {w : World} {a0 : UInt64 × UInt64} {r : List UInt8} (S : St m (As) w) (hm : m_ref02_Bytes a0 = some r) :
    CallsR Tryz.prog 97 #[.agg #[vU a0.1, vU a0.2]] w fun v w' => ∃ (M : Mem), m ≤ M ∧ ∃ (rv0 : Value) (rc0 : List Value), St M ((row 1 rv0 rc0 r.length) :: As) w' ∧ v = rv0 ∧ RepL M rc0 r := by
 unfold m_ref02_Bytes at hm
 have L0 := Mem.rfl' m
 refine callsR (args := [.agg #[vU a0.1, vU a0.2]]) func97 rfl ntmps97 (nb rfl) <| ws <| s_box S rfl fun b1 w1 S1 => ?_
 replace S1 : St _ ((bx b1 [vU a0.1, vU a0.2] 41) :: As) _ := S1
 clear S
 refine s_asv (v := .slice none 0 0) rfl <| wpl_nil <| nrm <| wpc_seq ?_
 obtain ⟨x1, q1, hm⟩ := obind_some hm
 have HM : MonoAll [(3, fv (pt b1 0)), (4, fv (vU a0.1)), (5, fun _ _ => True), (6, fv (pt b1 1)), (7, fv (vU a0.2))] := ⟨mv, mv, (fun _ _ _ _ h => h), mv, mv, trivial⟩
 refine wpc_flowG HM 5 mixed rfl rfl rfl (rg 3 5) (fun L f M w => ∃ (X1 : List Ow), ((L 2 = false → X1 = []) ∧ (L 2 = true → (RowS M X1 1 (f 5) x1))) ∧ St M ((bx b1 [vU a0.1, vU a0.2] 41) :: (X1 ++ As)) w) (⟨[], ⟨fun _ => rfl, fun hx => ff hx⟩, St.drew S1 _⟩) ?_ ?_
 · refine ⟨?_, ?_, ?_, ?_, ?_, trivial⟩
   · exact flp HM rfl [] (fun _ _ => trivial) (fun _ _ q => s_idxA (i := 0) rfl rfl underlying41 sizeOf22 (by decide) (by decide) q) rfl
   · exact flp HM rfl [(3, _)] (fun K _ => ⟨K 0 rfl, trivial⟩) (fun _ ⟨_, _, S3⟩ q => s_ld (i := 0) (cs := [vU a0.1]) S3 rfl rfl isAgg22 sizeOf22 rfl (fun _ => rfl) q) rfl
   · intro L f3 w4 hL hd hc ⟨m3, L5, ⟨X1, C3, S4⟩, K, hO⟩
     have d2 : L 2 = false := hL
     obtain ⟨u3, rfl⟩ := fr_of (N := 10) (L := [(4, _)]) hO ⟨K 1 (dep hd rfl), trivial⟩
     obtain rfl := C3.1 d2
     replace S4 : St _ ((bx b1 [vU a0.1, vU a0.2] 41) :: As) _ := S4
     have L6 := Mem.rfl' m3
     refine s_call call131 (w_ref02_Eight (a0 := a0.1) S4  q1) rfl ?_
     rintro v1 w5 ⟨m4, l1, _, c1, S5, rfl, h1⟩
     clear S4
     refine wpn ?_
     replace L6 := Mem.tr L6 l1
     refine ⟨m4, Mem.tr L5 L6, ⟨[row 1 v1 c1 x1.length], ⟨fun hx => tf rfl hx, fun _ => ⟨_, rfl, h1⟩⟩, ?_⟩, facts_step HM rfl K L6 rfl rfl trivial, outP⟩
     have S13 : St _ ((bx b1 [vU a0.1, vU a0.2] 41) :: (row 1 v1 c1 x1.length) :: As) _ := St.perm S5 (List.Perm.swap _ _ _)
     exact S13
   · exact flp HM rfl [] (fun _ _ => trivial) (fun _ _ q => s_idxA (i := 1) rfl rfl underlying41 sizeOf22 (by decide) (by decide) q) rfl
   · exact flp HM rfl [(6, _)] (fun K _ => ⟨K 3 rfl, trivial⟩) (fun _ ⟨_, _, S7⟩ q => s_ld (i := 0) (cs := [vU a0.2]) S7 rfl rfl isAgg22 sizeOf22 rfl (fun _ => rfl) q) rfl
 intro L f6 w8 hall ⟨m7, L11, ⟨X1, C6, S8⟩, K, hO⟩
 obtain ⟨v2, e4⟩ : ∃ x, f6 5 = x := ⟨_, rfl⟩
 have d4 : L 4 = true := hall 4 (by decide)
 have d2 : L 2 = true := hall 2 (by decide)
 obtain ⟨u6, rfl⟩ := fr_of (N := 10) (L := [(5, _), (7, _)]) hO ⟨e4, K 4 d4, trivial⟩
 replace S8 : St _ ((bx b1 [vU a0.1, vU a0.2] 41) :: (X1 ++ As)) _ := S8
 obtain ⟨c2, rfl, h2⟩ := C6.2 d2
 replace h2 : RepL _ c2 x1 := h2
 replace S8 : St _ ((bx b1 [vU a0.1, vU a0.2] 41) :: (row 1 v2 c2 x1.length) :: As) _ := S8
 clear S1
 obtain ⟨x2, q2, hm⟩ := obind_some hm
 refine s_call call131 (w_ref02_Eight (a0 := a0.2) S8  q2) rfl ?_
 rintro v3 w9 ⟨m8, l2, _, c3, S9, rfl, h3⟩
 clear S8
 obtain ⟨m9, l3, h4, S10⟩ := St.rowKeepT (i := 0) S9 rfl h3 rfl
 clear S9
 obtain ⟨x3, q3, hm⟩ := obind_some hm
 replace h2 := RepL.up (mt l2 l3) h2
 refine s_app (i := 1) (zs := x3) (bytes := 1) (ti := Tryz.t5) S10 rfl rfl h2 rfl rfl h4 q3 underlying27 type5 rfl rfl rfl rfl fun v4 c4 w10 S11 h5 => ?_
 replace S11 : St _ ((bx b1 [vU a0.1, vU a0.2] 41) :: (row 1 v4 c4 x3.length) :: As) _ := S11
 clear S10
 refine s_asv (v := v4) rfl <| wpl_nil <| nrm <| wpc_ret <| outRw fun we hpd => ?_
 replace S11 := St.pd S11 hpd
 obtain ⟨m10, l4, S12⟩ := St.drop S11 0
 clear S11
 replace S12 : St _ ((row 1 v4 c4 x3.length) :: As) _ := S12
 have e0 := Option.some.inj hm
 subst e0
 replace L0 := Mem.tr L0 (mt L11 (mt l2 (mt l3 l4)))
 replace h5 := RepL.up l4 h5
 exact outR [_] rfl ⟨rfl, trivial⟩ ⟨_, L0, _, _, S12, rfl, h5⟩

end Go.Proofs.YtemiampgjgenhaaGreat
