/- The walks of some functions, by the executor, written by program. Conditions: none. -/
import Derived.Test.YtgnklegamndglaaGreatZg
import Derived.Test.YtgnklegamndglaaGreatZh
import Derived.Test.YtgnklegamndglaaGreatZi
set_option linter.unusedSimpArgs false
set_option linter.unusedVariables false
set_option maxHeartbeats 20000000
set_option maxRecDepth 100000
namespace Go.Proofs.YtgnklegamndglaaGreat
open Go Go.Gw Go.Ax Tryz
def m_ref02_round_b4 (a0 : UInt64 × UInt64 × UInt64) (a1 : Int) (s1 : Int × UInt64 × UInt64 × UInt64) : Option ((Int × UInt64 × UInt64 × UInt64) ⊕ (UInt64 × UInt64 × UInt64)) :=
  if (decide (s1.1 < 3)) = true then
    obind (m_ref02_raised (toU (w64 ((w64 ((w64 (3 * a1)) + s1.1)) + 1))) 3) fun x4 =>
    obind (m_ref01_Add x4 7) fun x5 =>
    obind (idx [a0.1, a0.2.1, a0.2.2] s1.1) fun x6 =>
    obind (m_ref01_Add x6 x5) fun x7 =>
    obind (m_ref02_raised x7 17) fun x8 =>
    obind (idx [s1.2.1, s1.2.2.1, s1.2.2.2] s1.1) fun x9 =>
    bnd (if s1.1 = 0 then x8 else s1.2.1) fun x10 =>
    bnd (if s1.1 = 1 then x8 else s1.2.2.1) fun x11 =>
    bnd (if s1.1 = 2 then x8 else s1.2.2.2) fun x12 =>
    some (.inl ((w64 (s1.1 + 1)), x10, x11, x12))
  else
  some (.inr (s1.2.1, s1.2.2.1, s1.2.2.2))
def m_ref02_round_b5 (x14 : UInt64) (s2 : Int × UInt64 × UInt64 × UInt64) : Option ((Int × UInt64 × UInt64 × UInt64) ⊕ (UInt64 × UInt64 × UInt64)) :=
  if (decide (s2.1 < 3)) = true then
    obind (idx [s2.2.1, s2.2.2.1, s2.2.2.2] s2.1) fun x18 =>
    obind (m_ref01_Add x18 x14) fun x19 =>
    obind (idx [s2.2.1, s2.2.2.1, s2.2.2.2] s2.1) fun x20 =>
    bnd (if s2.1 = 0 then x19 else s2.2.1) fun x21 =>
    bnd (if s2.1 = 1 then x19 else s2.2.2.1) fun x22 =>
    bnd (if s2.1 = 2 then x19 else s2.2.2.2) fun x23 =>
    some (.inl ((w64 (s2.1 + 1)), x21, x22, x23))
  else
  some (.inr (s2.2.1, s2.2.2.1, s2.2.2.2))
def m_ref02_round (a0 : UInt64 × UInt64 × UInt64) (a1 : Int) : Option (UInt64 × UInt64 × UInt64) :=
  obind (
    obind (iter (m_ref02_round_b4 a0 a1) FUEL (0, 0, 0, 0)) fun x2 =>
    some (x2.1, x2.2.1, x2.2.2)
  ) fun x1 =>
  obind (m_ref01_Add x1.1 x1.2.1) fun x13 =>
  obind (m_ref01_Add x13 x1.2.2) fun x14 =>
  obind (
    obind (iter (m_ref02_round_b5 x14) FUEL (0, x1.1, x1.2.1, x1.2.2)) fun x16 =>
    some (x16.1, x16.2.1, x16.2.2)
  ) fun x15 =>
  some x15
theorem w_ref02_round {m : Mem} {As : List Ow} {w : World} {a0 : UInt64 × UInt64 × UInt64} {a1 : Int} {r : UInt64 × UInt64 × UInt64} (S : St m (As) w) (hm : m_ref02_round a0 a1 = some r) :
    CallsR Tryz.prog 165 #[.agg #[vU a0.1, vU a0.2.1, vU a0.2.2], vI a1] w fun v w' => ∃ (M : Mem), m ≤ M ∧ St M (As) w' ∧ v = .agg #[vU r.1, vU r.2.1, vU r.2.2] := by
 unfold m_ref02_round at hm
 have L0 := Mem.rfl' m
 refine callsR (args := [.agg #[vU a0.1, vU a0.2.1, vU a0.2.2], vI a1]) func165 rfl ntmps165 (nb rfl) <| ws <| s_box S rfl fun b1 w1 S1 => ?_
 replace S1 : St _ ((bx b1 [vU a0.1, vU a0.2.1, vU a0.2.2] 168) :: As) _ := S1
 clear S
 refine s_alloc S1 zeroValue168 fun b2 w2 S2 => nx <| s_alloc S2 zeroValue168 fun b3 w3 S3 => ?_
 replace S3 : St _ ((bx b3 [vU 0, vU 0, vU 0] 168) :: (bx b2 [vU 0, vU 0, vU 0] 168) :: (bx b1 [vU a0.1, vU a0.2.1, vU a0.2.2] 168) :: As) _ := S3
 clear S1 S2
 refine wpl_nil <| nrm ?_
 obtain ⟨x1, q1, hm⟩ := obind_some hm
 have L1 := Mem.rfl' m
 refine wpc_seq <| wpc_join [6, 7, 10, 11, 12, 13, 14, 15, 16, 17, 18, 19, 20, 21, 22, 23, 24, 25, 26, 27, 28, 29] (fun f' w' => ∃ (M1 : Mem), m ≤ M1 ∧ St M1 ((bx b3 [vU x1.1, vU x1.2.1, vU x1.2.2] 168) :: (bx b2 [vU 0, vU 0, vU 0] 168) :: (bx b1 [vU a0.1, vU a0.2.1, vU a0.2.2] 168) :: As) w' ∧ AllAt f' []) ?_ ?_
 · refine ws <| s_asv (v := vI 0) rfl <| wpl_nil <| nrm ?_
   obtain ⟨x2, q2, q1⟩ := obind_some q1
   have L2 := Mem.rfl' m
   refine wpc_join [6, 7, 10, 11, 12, 13, 14, 15, 16, 17, 18, 19, 20, 21, 22, 23, 24, 25, 26, 27, 28, 29] (fun f' w' => ∃ (M2 : Mem), m ≤ M2 ∧ St M2 ((bx b3 [vU x2.1, vU x2.2.1, vU x2.2.2] 168) :: (bx b2 [vU 0, vU 0, vU 0] 168) :: (bx b1 [vU a0.1, vU a0.2.1, vU a0.2.2] 168) :: As) w' ∧ AllAt f' []) ?_ ?_
   · refine wpc_block <| wpc_rounds [6, 7, 10, 11, 12, 13, 14, 15, 16, 17, 18, 19, 20, 21, 22, 23, 24, 25, 26, 27, 28, 29] (fun n1 f' w' => ∃ (s1 : Int × UInt64 × UInt64 × UInt64) (m6 : Mem), iter (m_ref02_round_b4 a0 a1) n1 s1 = some x2 ∧ m ≤ m6 ∧ St m6 ((bx b3 [vU s1.2.1, vU s1.2.2.1, vU s1.2.2.2] 168) :: (bx b2 [vU 0, vU 0, vU 0] 168) :: (bx b1 [vU a0.1, vU a0.2.1, vU a0.2.2] 168) :: As) w' ∧ AllAt f' [(6, vI s1.1)]) FUEL ⟨(0, 0, 0, 0), m, q2, L2, S3, ⟨rfl, trivial⟩⟩ ?_
     rintro n1 f1 w4 ho ⟨s1, m1, q3, L4, S4, ha⟩
     obtain ⟨u1, rfl⟩ := fr_of (N := 50) ho ha
     clear ho ha
     have L3 := Mem.rfl' m1
     clear S3
     cases n1 with
     | zero => exact (iter_zero q3).elim
     | succ n1 =>
      obtain ⟨y1, q5, q4⟩ := iter_succ q3
      unfold m_ref02_round_b4 at q5
      refine wpc_seq <| ws <| s_mvv (v := vI s1.1) rfl <| s_lss (m := s1.1) (n := 3) rfl rfl <| wpl_nil <| nrm <| wpc_if (t := (decide (s1.1 < 3))) rfl (fun hc1 => ?_) (fun hc1 => ?_)
      · replace q5 := ifT hc1 q5
        refine wpc_skip <| nrm <| wpc_seq <| wpc_block <| ws <| s_mvv (v := vI a1) rfl <| s_mulI (m := 3) (n := a1) rfl rfl <| s_mvv (v := vI s1.1) rfl <| s_addI (m := (w64 (3 * a1))) (n := s1.1) rfl rfl <| s_addI (m := (w64 ((w64 (3 * a1)) + s1.1))) (n := 1) rfl rfl <| s_convU rfl underlying3 underlying25 ?_
        obtain ⟨x4, q7, q5⟩ := obind_some q5
        refine s_call call166 (v_ref02_raised (a0 := (toU (w64 ((w64 ((w64 (3 * a1)) + s1.1)) + 1)))) (a1 := 3) S4  q7) rfl ?_
        rintro _ w5 ⟨m2, l1, S5, rfl⟩
        clear S4
        obtain ⟨x5, q8, q5⟩ := obind_some q5
        refine s_call call163 (v_ref01_Add (a0 := x4) (a1 := 7) S5  q8) rfl ?_
        rintro _ w6 ⟨m3, l2, S6, rfl⟩
        clear S5
        refine s_asv (v := vU x5) rfl <| wpl_nil <| nrm <| wpc_region <| s_mvv (v := vI s1.1) rfl <| s_mvv (v := vI s1.1) rfl ?_
        obtain ⟨x6, q9, q5⟩ := obind_some q5
        refine s_idxA (i := s1.1) rfl rfl underlying168 sizeOf25 (idx_rng q9).1 (idx_rng q9).2 <| s_ld (i := 2) (off := 0 + s1.1.toNat * 1) (cs := [vU x6]) S6 rfl rfl isAgg25 sizeOf25 (by rcases idx3 q9 with ⟨h, h'⟩ | ⟨h, h'⟩ | ⟨h, h'⟩ <;> (rw [h, h']; rfl)) (fun _ => rfl) <| s_mvv (v := vU x5) rfl ?_
        obtain ⟨x7, q10, q5⟩ := obind_some q5
        refine s_call call163 (v_ref01_Add (a0 := x6) (a1 := x5) S6  q10) rfl ?_
        rintro _ w7 ⟨m4, l3, S7, rfl⟩
        clear S6
        obtain ⟨x8, q11, q5⟩ := obind_some q5
        refine s_call call166 (v_ref02_raised (a0 := x7) (a1 := 17) S7  q11) rfl ?_
        rintro _ w8 ⟨m5, l4, S8, rfl⟩
        clear S7
        obtain ⟨x9, q12, q5⟩ := obind_some q5
        refine s_idxA (i := s1.1) rfl rfl underlying168 sizeOf25 (idx_rng q12).1 (idx_rng q12).2 ?_
        obtain ⟨x10, q13, q5⟩ := bnd_eq q5
        obtain ⟨x11, q14, q5⟩ := bnd_eq q5
        obtain ⟨x12, q15, q5⟩ := bnd_eq q5
        refine s_st (i := 0) (off := 0 + s1.1.toNat * 1) S8 rfl rfl rfl sizeOf25 (OneL.all (oneC rfl oneN)) (by rcases idx3 q12 with ⟨h, h'⟩ | ⟨h, h'⟩ | ⟨h, h'⟩ <;> (rw [h]; exact nb rfl)) fun w9 S9 => ?_
        replace S9 := St.cellsTo (i := 0) (l' := [vU x10, vU x11, vU x12]) S9 (by rcases idx3 q12 with ⟨h, h'⟩ | ⟨h, h'⟩ | ⟨h, h'⟩ <;> (simp only [q13, q14, q15, h]; rfl)) rfl
        replace S9 : St _ ((bx b3 [vU x10, vU x11, vU x12] 168) :: (bx b2 [vU 0, vU 0, vU 0] 168) :: (bx b1 [vU a0.1, vU a0.2.1, vU a0.2.2] 168) :: As) _ := S9
        clear S8
        refine wpl_nil <| nrmB <| nrm <| wpc_region <| s_mvv (v := vI s1.1) rfl <| s_addI (m := s1.1) (n := 1) rfl rfl <| s_asv (v := vI (w64 (s1.1 + 1))) rfl <| wpl_nil <| nrm ?_
        have e0 := Option.some.inj q5
        subst e0
        rcases q4 with ⟨sn, e, q4'⟩ | e
        · cases e
          replace L3 := Mem.tr L3 (mt l1 (mt l2 (mt l3 l4)))
          exact ⟨outP, _, Nat.lt_succ_self _, ⟨_, m5, q4', Mem.tr L4 L3, S9, ⟨rfl, trivial⟩⟩⟩
        · cases e
      replace q5 := ifF hc1 q5
      refine wpc_exit <| thE <| thE <| exB <| nrm ?_
      have e0 := Option.some.inj q5
      subst e0
      rcases q4 with ⟨sn, e, _⟩ | e
      · cases e
      · cases e
        exact ⟨outP, m1, Mem.tr L4 L3, S4, trivial⟩
   rintro f2 w10 ho ⟨m7, l5, S10, ha⟩
   obtain ⟨u2, rfl⟩ := fr_of (N := 50) ho ha
   clear ho ha S3
   have e0 := Option.some.inj q1
   subst e0
   replace L1 := Mem.tr L1 l5
   exact ⟨outP, m7, L1, S10, trivial⟩
 rintro f3 w11 ho ⟨m8, l6, S11, ha⟩
 obtain ⟨u3, rfl⟩ := fr_of (N := 50) ho ha
 clear S3
 refine wpc_seq ?_
 obtain ⟨x13, q16, hm⟩ := obind_some hm
 have HM : MonoAll [(30, fv (pt b3 0)), (31, fv (vU x1.1)), (32, fv (pt b3 1)), (33, fv (vU x1.2.1)), (34, fv (vU x13)), (35, fv (pt b3 2)), (36, fv (vU x1.2.2))] := ⟨mv, mv, mv, mv, mv, mv, mv, trivial⟩
 refine wpc_flowG HM 7 mixed rfl rfl rfl (rg 30 7) (fun L f M w => St M ((bx b3 [vU x1.1, vU x1.2.1, vU x1.2.2] 168) :: (bx b2 [vU 0, vU 0, vU 0] 168) :: (bx b1 [vU a0.1, vU a0.2.1, vU a0.2.2] 168) :: As) w) (St.drew S11 _) ?_ ?_
 · refine ⟨?_, ?_, ?_, ?_, ?_, ?_, ?_, trivial⟩
   · exact flp HM rfl [] (fun _ _ => trivial) (fun _ _ q => s_idxA (i := 0) rfl rfl underlying168 sizeOf25 (by decide) (by decide) q) rfl
   · exact flp HM rfl [(30, _)] (fun K _ => ⟨K 0 rfl, trivial⟩) (fun _ S13 q => s_ld (i := 0) (cs := [vU x1.1]) S13 rfl rfl isAgg25 sizeOf25 rfl (fun _ => rfl) q) rfl
   · exact flp HM rfl [] (fun _ _ => trivial) (fun _ _ q => s_idxA (i := 1) rfl rfl underlying168 sizeOf25 (by decide) (by decide) q) rfl
   · exact flp HM rfl [(32, _)] (fun K _ => ⟨K 2 rfl, trivial⟩) (fun _ S15 q => s_ld (i := 0) (cs := [vU x1.2.1]) S15 rfl rfl isAgg25 sizeOf25 rfl (fun _ => rfl) q) rfl
   · intro L f8 w16 hL hd hc ⟨m13, L13, S16, K, hO⟩
     obtain ⟨u8, rfl⟩ := fr_of (N := 50) (L := [(31, _), (33, _)]) hO ⟨K 1 (dep hd rfl), K 3 (dep hd rfl), trivial⟩
     have L14 := Mem.rfl' m13
     refine s_call call163 (v_ref01_Add (a0 := x1.1) (a1 := x1.2.1) S16  q16) rfl ?_
     rintro _ w17 ⟨m14, l7, S17, rfl⟩
     clear S16
     refine wpn ?_
     replace L14 := Mem.tr L14 l7
     exact ⟨m14, Mem.tr L13 L14, S17, facts_step HM rfl K L14 rfl rfl rfl, outP⟩
   · exact flp HM rfl [] (fun _ _ => trivial) (fun _ _ q => s_idxA (i := 2) rfl rfl underlying168 sizeOf25 (by decide) (by decide) q) rfl
   · exact flp HM rfl [(35, _)] (fun K _ => ⟨K 5 rfl, trivial⟩) (fun _ S19 q => s_ld (i := 0) (cs := [vU x1.2.2]) S19 rfl rfl isAgg25 sizeOf25 rfl (fun _ => rfl) q) rfl
 intro L f11 w20 hall ⟨m17, L19, S20, K, hO⟩
 have d4 : L 4 = true := hall 4 (by decide)
 have d6 : L 6 = true := hall 6 (by decide)
 obtain ⟨u11, rfl⟩ := fr_of (N := 50) (L := [(34, _), (36, _)]) hO ⟨K 4 d4, K 6 d6, trivial⟩
 replace S20 : St _ ((bx b3 [vU x1.1, vU x1.2.1, vU x1.2.2] 168) :: (bx b2 [vU 0, vU 0, vU 0] 168) :: (bx b1 [vU a0.1, vU a0.2.1, vU a0.2.2] 168) :: As) _ := S20
 clear S11
 obtain ⟨x14, q17, hm⟩ := obind_some hm
 refine s_call call163 (v_ref01_Add (a0 := x13) (a1 := x1.2.2) S20  q17) rfl ?_
 rintro _ w21 ⟨m18, l8, S21, rfl⟩
 clear S20
 refine s_asv (v := vU x14) rfl <| wpl_nil <| nrm ?_
 obtain ⟨x15, q18, hm⟩ := obind_some hm
 have L20 := Mem.rfl' m18
 refine wpc_seq <| wpc_join [9, 38, 39, 40, 41, 42, 43, 44, 45, 46, 47, 48] (fun f' w' => ∃ (M3 : Mem), m18 ≤ M3 ∧ St M3 ((bx b3 [vU x15.1, vU x15.2.1, vU x15.2.2] 168) :: (bx b2 [vU 0, vU 0, vU 0] 168) :: (bx b1 [vU a0.1, vU a0.2.1, vU a0.2.2] 168) :: As) w' ∧ AllAt f' []) ?_ ?_
 · refine ws <| s_asv (v := vI 0) rfl <| wpl_nil <| nrm ?_
   obtain ⟨x16, q19, q18⟩ := obind_some q18
   have L21 := Mem.rfl' m18
   refine wpc_join [9, 38, 39, 40, 41, 42, 43, 44, 45, 46, 47, 48] (fun f' w' => ∃ (M4 : Mem), m18 ≤ M4 ∧ St M4 ((bx b3 [vU x16.1, vU x16.2.1, vU x16.2.2] 168) :: (bx b2 [vU 0, vU 0, vU 0] 168) :: (bx b1 [vU a0.1, vU a0.2.1, vU a0.2.2] 168) :: As) w' ∧ AllAt f' []) ?_ ?_
   · refine wpc_block <| wpc_rounds [9, 38, 39, 40, 41, 42, 43, 44, 45, 46, 47, 48] (fun n2 f' w' => ∃ (s2 : Int × UInt64 × UInt64 × UInt64) (m21 : Mem), iter (m_ref02_round_b5 x14) n2 s2 = some x16 ∧ m18 ≤ m21 ∧ St m21 ((bx b3 [vU s2.2.1, vU s2.2.2.1, vU s2.2.2.2] 168) :: (bx b2 [vU 0, vU 0, vU 0] 168) :: (bx b1 [vU a0.1, vU a0.2.1, vU a0.2.2] 168) :: As) w' ∧ AllAt f' [(9, vI s2.1)]) FUEL ⟨(0, x1.1, x1.2.1, x1.2.2), m18, q19, L21, S21, ⟨rfl, trivial⟩⟩ ?_
     rintro n2 f12 w22 ho ⟨s2, m19, q20, L23, S22, ha⟩
     obtain ⟨u12, rfl⟩ := fr_of (N := 50) ho ha
     clear ho ha
     have L22 := Mem.rfl' m19
     clear S21
     cases n2 with
     | zero => exact (iter_zero q20).elim
     | succ n2 =>
      obtain ⟨y2, q22, q21⟩ := iter_succ q20
      unfold m_ref02_round_b5 at q22
      refine wpc_seq <| ws <| s_mvv (v := vI s2.1) rfl <| s_lss (m := s2.1) (n := 3) rfl rfl <| wpl_nil <| nrm <| wpc_if (t := (decide (s2.1 < 3))) rfl (fun hc2 => ?_) (fun hc2 => ?_)
      · replace q22 := ifT hc2 q22
        refine wpc_skip <| nrm <| wpc_seq <| wpc_block <| wpc_region <| s_mvv (v := vI s2.1) rfl <| s_mvv (v := vI s2.1) rfl ?_
        obtain ⟨x18, q24, q22⟩ := obind_some q22
        refine s_idxA (i := s2.1) rfl rfl underlying168 sizeOf25 (idx_rng q24).1 (idx_rng q24).2 <| s_ld (i := 0) (off := 0 + s2.1.toNat * 1) (cs := [vU x18]) S22 rfl rfl isAgg25 sizeOf25 (by rcases idx3 q24 with ⟨h, h'⟩ | ⟨h, h'⟩ | ⟨h, h'⟩ <;> (rw [h, h']; rfl)) (fun _ => rfl) <| s_mvv (v := vU x14) rfl ?_
        obtain ⟨x19, q25, q22⟩ := obind_some q22
        refine s_call call163 (v_ref01_Add (a0 := x18) (a1 := x14) S22  q25) rfl ?_
        rintro _ w23 ⟨m20, l9, S23, rfl⟩
        clear S22
        obtain ⟨x20, q26, q22⟩ := obind_some q22
        refine s_idxA (i := s2.1) rfl rfl underlying168 sizeOf25 (idx_rng q26).1 (idx_rng q26).2 ?_
        obtain ⟨x21, q27, q22⟩ := bnd_eq q22
        obtain ⟨x22, q28, q22⟩ := bnd_eq q22
        obtain ⟨x23, q29, q22⟩ := bnd_eq q22
        refine s_st (i := 0) (off := 0 + s2.1.toNat * 1) S23 rfl rfl rfl sizeOf25 (OneL.all (oneC rfl oneN)) (by rcases idx3 q26 with ⟨h, h'⟩ | ⟨h, h'⟩ | ⟨h, h'⟩ <;> (rw [h]; exact nb rfl)) fun w24 S24 => ?_
        replace S24 := St.cellsTo (i := 0) (l' := [vU x21, vU x22, vU x23]) S24 (by rcases idx3 q26 with ⟨h, h'⟩ | ⟨h, h'⟩ | ⟨h, h'⟩ <;> (simp only [q27, q28, q29, h]; rfl)) rfl
        replace S24 : St _ ((bx b3 [vU x21, vU x22, vU x23] 168) :: (bx b2 [vU 0, vU 0, vU 0] 168) :: (bx b1 [vU a0.1, vU a0.2.1, vU a0.2.2] 168) :: As) _ := S24
        clear S23
        refine wpl_nil <| nrmB <| nrm <| wpc_region <| s_mvv (v := vI s2.1) rfl <| s_addI (m := s2.1) (n := 1) rfl rfl <| s_asv (v := vI (w64 (s2.1 + 1))) rfl <| wpl_nil <| nrm ?_
        have e0 := Option.some.inj q22
        subst e0
        rcases q21 with ⟨sn, e, q21'⟩ | e
        · cases e
          replace L22 := Mem.tr L22 l9
          exact ⟨outP, _, Nat.lt_succ_self _, ⟨_, m20, q21', Mem.tr L23 L22, S24, ⟨rfl, trivial⟩⟩⟩
        · cases e
      replace q22 := ifF hc2 q22
      refine wpc_exit <| thE <| thE <| exB <| nrm ?_
      have e0 := Option.some.inj q22
      subst e0
      rcases q21 with ⟨sn, e, _⟩ | e
      · cases e
      · cases e
        exact ⟨outP, m19, Mem.tr L23 L22, S22, trivial⟩
   rintro f13 w25 ho ⟨m22, l10, S25, ha⟩
   obtain ⟨u13, rfl⟩ := fr_of (N := 50) ho ha
   clear ho ha S21
   have e0 := Option.some.inj q18
   subst e0
   replace L20 := Mem.tr L20 l10
   exact ⟨outP, m22, L20, S25, trivial⟩
 rintro f14 w26 ho ⟨m23, l11, S26, ha⟩
 obtain ⟨u14, rfl⟩ := fr_of (N := 50) ho ha
 clear S21
 refine ws <| s_ld (i := 0) (cs := [vU x15.1, vU x15.2.1, vU x15.2.2]) S26 rfl rfl isAgg168 sizeOf168 rfl (fun h => by cases h) <| s_stL (i := 1) S26 rfl rfl rfl sizeOf168 (oneC rfl (oneC rfl (oneC rfl oneN))) rfl fun w27 S27 => ?_
 replace S27 : St _ ((bx b3 [vU x15.1, vU x15.2.1, vU x15.2.2] 168) :: (bx b2 [vU x15.1, vU x15.2.1, vU x15.2.2] 168) :: (bx b1 [vU a0.1, vU a0.2.1, vU a0.2.2] 168) :: As) _ := S27
 clear S26
 refine wpl_nil <| nrm <| wpc_ret <| outRw fun we hpd => ?_
 replace S27 := St.pd S27 hpd
 have SR := S27
 obtain ⟨m24, l12, S28⟩ := St.drop S27 0
 replace S28 : St _ ((bx b2 [vU x15.1, vU x15.2.1, vU x15.2.2] 168) :: (bx b1 [vU a0.1, vU a0.2.1, vU a0.2.2] 168) :: As) _ := S28
 obtain ⟨m25, l13, S29⟩ := St.drop S28 0
 clear S28
 replace S29 : St _ ((bx b1 [vU a0.1, vU a0.2.1, vU a0.2.2] 168) :: As) _ := S29
 obtain ⟨m26, l14, S30⟩ := St.drop S29 0
 clear S29
 replace S30 : St _ (As) _ := S30
 have e0 := Option.some.inj hm
 subst e0
 replace L0 := Mem.tr L0 (mt l6 (mt L19 (mt l8 (mt l11 (mt l12 (mt l13 l14))))))
 exact outR [_] rfl ⟨res_box (i := 1) (off := 0) (cs := [vU x15.1, vU x15.2.1, vU x15.2.2]) SR rfl rfl isAgg168 sizeOf168 rfl (fun h => by cases h), trivial⟩ ⟨_, L0, S30, rfl⟩
theorem s_ref02_round {a0 : UInt64 × UInt64 × UInt64} {a1 : Int} {r : UInt64 × UInt64 × UInt64} (hm : m_ref02_round a0 a1 = some r) : Sf prog 165 [ag (e_a3_eU a0), .d (.i a1)] (ag (e_a3_eU r)) :=
  ⟨call165, fun η m As w vs hv0 hd S => by
    have S : St m As w := S
    obtain ⟨v0, u0, rfl, r0, hv1⟩ := RelL.cons_inv hv0
    obtain ⟨c0, rfl, g0⟩ := Br.ofA b_a3_eU r0
    obtain rfl := rep_arr3_UInt64 g0
    obtain ⟨v1, u1, rfl, r1, hv2⟩ := RelL.cons_inv hv1
    obtain rfl := r1.i_inv
    obtain rfl := RelL.nil_inv hv2
    refine CallsR.mono (w_ref02_round S  hm) ?_
    rintro v w' ⟨M, hle, S0, rfl⟩
    exact ⟨M, none0, _, _, _, hle, dom0 hd _, ⟨rfl, rfl, rfl⟩, fun n h => absurd rfl h, (Br.toA b_a3_eU (mk_arr3_UInt64)), S0⟩⟩
def m_ref02_Mix_b3  (s1 : Int × UInt64 × UInt64 × UInt64) : Option ((Int × UInt64 × UInt64 × UInt64) ⊕ (UInt64 × UInt64 × UInt64)) :=
  if (decide (s1.1 < 8)) = true then
    obind (m_ref02_round s1.2 s1.1) fun x4 =>
    some (.inl ((w64 (s1.1 + 1)), x4.1, x4.2.1, x4.2.2))
  else
  some (.inr (s1.2.1, s1.2.2.1, s1.2.2.2))
def m_ref02_Mix (a0 : UInt64 × UInt64 × UInt64) : Option (UInt64 × UInt64 × UInt64) :=
  obind (
    obind (iter m_ref02_Mix_b3 FUEL (0, a0.1, a0.2.1, a0.2.2)) fun x2 =>
    some (x2.1, x2.2.1, x2.2.2)
  ) fun x1 =>
  some x1
theorem w_ref02_Mix {a0 : UInt64 × UInt64 × UInt64} {r : UInt64 × UInt64 × UInt64} (hm : m_ref02_Mix a0 = some r) : Sf prog 164 [ag (e_a3_eU a0)] (ag (e_a3_eU r)) :=
  sp call164 func164 rfl ntmps164 rfl fun D0 As η0 m0 hd => by
    unfold m_ref02_Mix at hm
    obtain ⟨x1, q1, hm⟩ := obind_some hm
    obtain ⟨x2, q2, q1⟩ := obind_some q1
    refine gjU 0 (fun (_ : Unit) => let (y_0, y_1, y_2) := x1; ⟨[(1, .pb 0 0), (2, .pb 1 0)], [(0, .box 1 [.d (.u 0), .d (.u 0), .d (.u 0)] 168), (1, .box 0 [.d (.u y_0), .d (.u y_1), .d (.u y_2)] 168)], [], 2⟩) (fun _ => True) (by kernel_rfl) (fun Jp bk1 => ?_) fun _ _ => ?_
    · refine gjU 0 (fun (_ : Unit) => let (y_0, y_1, y_2) := x2; ⟨[(1, .pb 0 0), (2, .pb 1 0)], [(0, .box 1 [.d (.u 0), .d (.u 0), .d (.u 0)] 168), (1, .box 0 [.d (.u y_0), .d (.u y_1), .d (.u y_2)] 168)], [], 2⟩) (fun _ => True) (by kernel_rfl) (fun Jp bk2 => ?_) fun _ _ => ?_
      · refine gl hd (fun (p : Nat × (Int × UInt64 × UInt64 × UInt64)) => let (p0, p_0, p_1, p_2, p_3) := p; ⟨[(1, .pb 0 0), (2, .pb 1 0), (3, .d (.i p_0))], [(0, .box 1 [.d (.u 0), .d (.u 0), .d (.u 0)] 168), (1, .box 0 [.d (.u p_1), .d (.u p_2), .d (.u p_3)] 168)], [], 2⟩) (fun p => iter m_ref02_Mix_b3 p.1 p.2 = some x2) (fun p => p.1) (FUEL, (0, a0.1, a0.2.1, a0.2.2)) q2 (by kernel_rfl) ?_
        rintro ⟨n1, s1⟩ q3 Jl bl1
        cases n1 with
        | zero => exact (iter_zero q3).elim
        | succ n1 =>
          obtain ⟨y1, q5, q4⟩ := iter_succ q3
          unfold m_ref02_Mix_b3 at q5
          refine gi q5 (by kernel_rfl) (fun hc1 q5 => ?_) fun hc1 q5 => ?_
          · skip
            obtain ⟨x4, q7, q5⟩ := obind_some q5
            refine gc (fun _ => s_ref02_round q7) (by kernel_rfl) ?_
            have e0 := Option.some.inj q5
            subst e0
            rcases q4 with ⟨sn, e, q4'⟩ | e
            · have e := Sum.inl.inj e
              subst e
              exact gb bl1 hd (n1, _) ⟨q4', Nat.lt_succ_self _⟩ (by kernel_rfl)
            cases sum_lr e
          have e0 := Option.some.inj q5
          subst e0
          rcases q4 with ⟨sn, e, _⟩ | e
          · cases sum_rl e
          have e := Sum.inr.inj e
          subst e
          exact gb bk2 hd () trivial (by kernel_rfl)
      have e0 := Option.some.inj q1
      subst e0
      exact gb bk1 hd () trivial (by kernel_rfl)
    have e0 := Option.some.inj hm
    subst e0
    exact gend hd (by kernel_rfl)
def m_ref02_Sum_b3 (x1 : List UInt64) (s1 : Int × UInt64 × UInt64 × UInt64) : Option ((Int × UInt64 × UInt64 × UInt64) ⊕ (UInt64 × UInt64 × UInt64)) :=
  if ((decide (s1.1 < (x1.length : Int))) || (s1.1 == 0)) = true then
    obind (
      if (decide (s1.1 < (x1.length : Int))) = true then
        obind (idx x1 s1.1) fun x6 =>
        obind (m_ref01_Add s1.2.1 x6) fun x7 =>
        some x7
      else
      some s1.2.1
    ) fun x5 =>
    obind (
      if (decide ((w64 (s1.1 + 1)) < (x1.length : Int))) = true then
        obind (idx x1 (w64 (s1.1 + 1))) fun x9 =>
        obind (m_ref01_Add s1.2.2.1 x9) fun x10 =>
        some x10
      else
      some s1.2.2.1
    ) fun x8 =>
    obind (m_ref02_Mix (x5, x8, s1.2.2.2)) fun x11 =>
    some (.inl ((w64 (s1.1 + 2)), x11.1, x11.2.1, x11.2.2))
  else
  some (.inr (s1.2.1, s1.2.2.1, s1.2.2.2))
def m_ref02_Sum (a0 : List UInt8) : Option (UInt64 × UInt64) :=
  obind (m_ref01_Of a0) fun x1 =>
  obind (
    obind (iter (m_ref02_Sum_b3 x1) FUEL (0, 0, 0, (toU (a0.length : Int)))) fun x3 =>
    some (x3.1, x3.2.1, x3.2.2)
  ) fun x2 =>
  some (x2.1, x2.2.1)
theorem w_ref02_Sum {a0 : List UInt8} {r : UInt64 × UInt64} (hm : m_ref02_Sum a0 = some r) : Sf prog 156 [sl eB a0] (ag (e_a2_eU r)) :=
  sp call156 func156 rfl ntmps156 rfl fun D0 As η0 m0 hd => by
    unfold m_ref02_Sum at hm
    obtain ⟨x1, q1, hm⟩ := obind_some hm
    refine gco (w_ref01_Of q1) (by kernel_rfl) ?_
    obtain ⟨x2, q2, hm⟩ := obind_some hm
    obtain ⟨x3, q3, q2⟩ := obind_some q2
    refine gjU 0 (fun (_ : Unit) => let (y_0, y_1, y_2) := x2; ⟨[(2, .pb 0 0), (4, .pb 1 0)], [(0, .box 1 [.d (.u y_0), .d (.u y_1), .d (.u y_2)] 168), (1, .box 0 [.d (.u 0), .d (.u 0)] 27)], [], 2⟩) (fun _ => True) (by kernel_rfl) (fun Jp bk1 => ?_) fun _ _ => ?_
    · refine gjU 0 (fun (_ : Unit) => let (y_0, y_1, y_2) := x3; ⟨[(2, .pb 0 0), (4, .pb 1 0)], [(0, .box 1 [.d (.u y_0), .d (.u y_1), .d (.u y_2)] 168), (1, .box 0 [.d (.u 0), .d (.u 0)] 27)], [], 2⟩) (fun _ => True) (by kernel_rfl) (fun Jp bk2 => ?_) fun _ _ => ?_
      · refine gl hd (fun (p : Nat × (Int × UInt64 × UInt64 × UInt64)) => let (p0, p_0, p_1, p_2, p_3) := p; ⟨[(2, .pb 0 0), (3, .ow 1), (4, .pb 2 0), (5, .d (.i p_0))], [(0, .box 2 [.d (.u p_1), .d (.u p_2), .d (.u p_3)] 168), (1, .row 1 1 _ eU x1), (2, .box 0 [.d (.u 0), .d (.u 0)] 27)], [], 3⟩) (fun p => iter (m_ref02_Sum_b3 x1) p.1 p.2 = some x3) (fun p => p.1) (FUEL, (0, 0, 0, (toU (a0.length : Int)))) q3 (by kernel_rfl) ?_
        rintro ⟨n1, s1⟩ q4 Jl bl1
        cases n1 with
        | zero => exact (iter_zero q4).elim
        | succ n1 =>
          obtain ⟨y1, q6, q5⟩ := iter_succ q4
          unfold m_ref02_Sum_b3 at q6
          refine gi q6 (by kernel_rfl) (fun hc1 q6 => ?_) fun hc1 q6 => ?_
          · skip
            obtain ⟨x5, q8, q6⟩ := obind_some q6
            refine gj (fun (_ : Unit) => ⟨[(2, .pb 0 0), (3, .ow 1), (4, .pb 2 0), (5, .d (.i s1.1))], [(0, .box 2 [.d (.u x5), .d (.u s1.2.2.1), .d (.u s1.2.2.2)] 168), (1, .row 1 1 _ eU x1), (2, .box 0 [.d (.u 0), .d (.u 0)] 27)], [], 3⟩) (fun _ => True) (by kernel_rfl) (fun Jp bk3 => ?_) fun _ _ => ?_
            · refine gi q8 (by kernel_rfl) (fun hc2 q8 => ?_) fun hc2 q8 => ?_
              · obtain ⟨x6, q9, q8⟩ := obind_some q8
                refine gidxO (E := eU) (fun _ => q9) (by kernel_rfl) ?_
                refine gldO (k := 1) (fo := 0) (nn := 1) (ag := false) (E := eU) (fun _ => rfl) (fun _ => q9) (by kernel_rfl) ?_
                obtain ⟨x7, q10, q8⟩ := obind_some q8
                refine gc (fun _ => w_ref01_Add q10) (by kernel_rfl) ?_
                have e0 := Option.some.inj q8
                subst e0
                exact gb bk3 hd () trivial (by kernel_rfl)
              have e0 := Option.some.inj q8
              subst e0
              exact gb bk3 hd () trivial (by kernel_rfl)
            obtain ⟨x8, q11, q6⟩ := obind_some q6
            refine gj (fun (_ : Unit) => ⟨[(2, .pb 0 0), (3, .ow 1), (4, .pb 2 0), (5, .d (.i s1.1))], [(0, .box 2 [.d (.u x5), .d (.u x8), .d (.u s1.2.2.2)] 168), (1, .row 1 1 _ eU x1), (2, .box 0 [.d (.u 0), .d (.u 0)] 27)], [], 3⟩) (fun _ => True) (by kernel_rfl) (fun Jp bk4 => ?_) fun _ _ => ?_
            · refine gi q11 (by kernel_rfl) (fun hc3 q11 => ?_) fun hc3 q11 => ?_
              · obtain ⟨x9, q12, q11⟩ := obind_some q11
                refine gidxO (E := eU) (fun _ => q12) (by kernel_rfl) ?_
                refine gldO (k := 1) (fo := 0) (nn := 1) (ag := false) (E := eU) (fun _ => rfl) (fun _ => q12) (by kernel_rfl) ?_
                obtain ⟨x10, q13, q11⟩ := obind_some q11
                refine gc (fun _ => w_ref01_Add q13) (by kernel_rfl) ?_
                have e0 := Option.some.inj q11
                subst e0
                exact gb bk4 hd () trivial (by kernel_rfl)
              have e0 := Option.some.inj q11
              subst e0
              exact gb bk4 hd () trivial (by kernel_rfl)
            obtain ⟨x11, q14, q6⟩ := obind_some q6
            refine gc (fun _ => w_ref02_Mix q14) (by kernel_rfl) ?_
            have e0 := Option.some.inj q6
            subst e0
            rcases q5 with ⟨sn, e, q5'⟩ | e
            · have e := Sum.inl.inj e
              subst e
              exact gb bl1 hd (n1, _) ⟨q5', Nat.lt_succ_self _⟩ (by kernel_rfl)
            cases sum_lr e
          have e0 := Option.some.inj q6
          subst e0
          rcases q5 with ⟨sn, e, _⟩ | e
          · cases sum_rl e
          have e := Sum.inr.inj e
          subst e
          exact gb bk2 hd () trivial (by kernel_rfl)
      have e0 := Option.some.inj q2
      subst e0
      exact gb bk1 hd () trivial (by kernel_rfl)
    have e0 := Option.some.inj hm
    subst e0
    exact gend hd (by kernel_rfl)
def m_ref02_Eight_b1 (a0 : UInt64) (s1 : (List UInt8) × Int) : Option (((List UInt8) × Int) ⊕ ((List UInt8))) :=
  if (decide (s1.2 ≥ 0)) = true then
    obind (app 1 s1.1 ([(toB ((shrU a0 ((toU (w64 (8 * s1.2))).toNat)).toNat : Int))] : List UInt8)) fun x4 =>
    some (.inl (x4, (w64 (s1.2 - 1))))
  else
  some (.inr s1.1)
def m_ref02_Eight (a0 : UInt64) : Option (List UInt8) :=
  obind (
    obind (iter (m_ref02_Eight_b1 a0) FUEL (([] : List UInt8), 7)) fun x2 =>
    some x2
  ) fun x1 =>
  some x1
theorem w_ref02_Eight {a0 : UInt64} {r : List UInt8} (hm : m_ref02_Eight a0 = some r) : Sp prog 145 [.d (.u a0)] [] 0 (is (.ow 0) [.row 0 1 _ eB r] 1) :=
  sp call145 func145 rfl ntmps145 rfl fun D0 As η0 m0 hd => by
    unfold m_ref02_Eight at hm
    obtain ⟨x1, q1, hm⟩ := obind_some hm
    obtain ⟨x2, q2, q1⟩ := obind_some q1
    refine gnilU 0 eB 3 1 (by kernel_rfl) ?_
    refine gjU 0 (fun (_ : Unit) => ⟨[(3, .ow 0)], [(0, .row 0 1 _ eB x1)], [], 1⟩) (fun _ => True) (by kernel_rfl) (fun Jp bk1 => ?_) fun _ _ => ?_
    · refine gjU 0 (fun (_ : Unit) => ⟨[(3, .ow 0)], [(0, .row 0 1 _ eB x2)], [], 1⟩) (fun _ => True) (by kernel_rfl) (fun Jp bk2 => ?_) fun _ _ => ?_
      · refine gl hd (fun (p : Nat × ((List UInt8) × Int)) => let (p0, p_0, p_1) := p; ⟨[(0, .d (.u a0)), (3, .ow 0), (4, .d (.i p_1))], [(0, .row 0 1 _ eB p_0)], [], 1⟩) (fun p => iter (m_ref02_Eight_b1 a0) p.1 p.2 = some x2) (fun p => p.1) (FUEL, (([] : List UInt8), 7)) q2 (by kernel_rfl) ?_
        rintro ⟨n1, s1⟩ q3 Jl bl1
        cases n1 with
        | zero => exact (iter_zero q3).elim
        | succ n1 =>
          obtain ⟨y1, q5, q4⟩ := iter_succ q3
          unfold m_ref02_Eight_b1 at q5
          refine gi q5 (by kernel_rfl) (fun hc1 q5 => ?_) fun hc1 q5 => ?_
          · skip
            refine glitF (k := 1) eB ([(toB ((shrU a0 ((toU (w64 (8 * s1.2))).toNat)).toNat : Int))] : List UInt8) (fun _ => rfl) (by kernel_rfl) ?_
            obtain ⟨x4, q7, q5⟩ := obind_some q5
            refine gapp (k := 1) (E := eB) (fun _ => rfl) q7 (by kernel_rfl) ?_
            have e0 := Option.some.inj q5
            subst e0
            rcases q4 with ⟨sn, e, q4'⟩ | e
            · have e := Sum.inl.inj e
              subst e
              exact gb bl1 hd (n1, _) ⟨q4', Nat.lt_succ_self _⟩ (by kernel_rfl)
            cases sum_lr e
          have e0 := Option.some.inj q5
          subst e0
          rcases q4 with ⟨sn, e, _⟩ | e
          · cases sum_rl e
          have e := Sum.inr.inj e
          subst e
          exact gb bk2 hd () trivial (by kernel_rfl)
      have e0 := Option.some.inj q1
      subst e0
      exact gb bk1 hd () trivial (by kernel_rfl)
    have e0 := Option.some.inj hm
    subst e0
    exact gend hd (by kernel_rfl)
def m_ref02_Coded_b1 (a1 : List (List UInt8)) (s1 : (List UInt8) × Int) : Option (((List UInt8) × Int) ⊕ ((List UInt8))) :=
  if (decide (s1.2 < (a1.length : Int))) = true then
    obind (idx a1 s1.2) fun x5 =>
    obind (m_ref02_Eight (toU (x5.length : Int))) fun x6 =>
    obind (cut x6 4 (x6.length : Int)) fun x7 =>
    obind (app 1 s1.1 x7) fun x8 =>
    obind (idx a1 s1.2) fun x9 =>
    obind (app 1 x8 x9) fun x10 =>
    some (.inl (x10, (w64 (s1.2 + 1))))
  else
  some (.inr s1.1)
def m_ref02_Coded (a0 : ByteArray) (a1 : List (List UInt8)) : Option (List UInt8) :=
  obind (app 1 ([(toB (a0.size : Int))] : List UInt8) a0.data.toList) fun x1 =>
  obind (
    obind (iter (m_ref02_Coded_b1 a1) FUEL (x1, 0)) fun x3 =>
    some x3
  ) fun x2 =>
  some x2
theorem w_ref02_Coded {a0 : ByteArray} {a1 : List (List UInt8)} {r : List UInt8} (hm : m_ref02_Coded a0 a1 = some r) : Sp prog 157 [.d (.s a0), sl (eL eB) a1] [] 0 (is (.ow 0) [.row 0 1 _ eB r] 1) :=
  sp call157 func157 rfl ntmps157 rfl fun D0 As η0 m0 hd => by
    unfold m_ref02_Coded at hm
    refine glit (k := 1) eB ([(toB (a0.size : Int))] : List UInt8) (fun _ => rfl) (by kernel_rfl) ?_
    obtain ⟨x1, q1, hm⟩ := obind_some hm
    refine gapS q1 (by kernel_rfl) ?_
    obtain ⟨x2, q2, hm⟩ := obind_some hm
    obtain ⟨x3, q3, q2⟩ := obind_some q2
    refine gjU 0 (fun (_ : Unit) => ⟨[(5, .ow 0)], [(0, .row 0 1 _ eB x2)], [], 1⟩) (fun _ => True) (by kernel_rfl) (fun Jp bk1 => ?_) fun _ _ => ?_
    · refine gjU 0 (fun (_ : Unit) => ⟨[(5, .ow 0)], [(0, .row 0 1 _ eB x3)], [], 1⟩) (fun _ => True) (by kernel_rfl) (fun Jp bk2 => ?_) fun _ _ => ?_
      · refine gl hd (fun (p : Nat × ((List UInt8) × Int)) => let (p0, p_0, p_1) := p; ⟨[(1, sl (eL eB) a1), (5, .ow 0), (6, .d (.i p_1))], [(0, .row 0 1 _ eB p_0)], [], 1⟩) (fun p => iter (m_ref02_Coded_b1 a1) p.1 p.2 = some x3) (fun p => p.1) (FUEL, (x1, 0)) q3 (by kernel_rfl) ?_
        rintro ⟨n1, s1⟩ q4 Jl bl1
        cases n1 with
        | zero => exact (iter_zero q4).elim
        | succ n1 =>
          obtain ⟨y1, q6, q5⟩ := iter_succ q4
          unfold m_ref02_Coded_b1 at q6
          refine gi q6 (by kernel_rfl) (fun hc1 q6 => ?_) fun hc1 q6 => ?_
          · skip
            obtain ⟨x5, q8, q6⟩ := obind_some q6
            refine gidx (k := 1) (E := (eL eB)) (fun _ => rfl) (fun _ => q8) (by kernel_rfl) ?_
            obtain ⟨x6, q9, q6⟩ := obind_some q6
            refine gco (w_ref02_Eight q9) (by kernel_rfl) ?_
            obtain ⟨x7, q10, q6⟩ := obind_some q6
            refine gcutF (k := 1) (E := eB) (fun _ => rfl) q10 (by kernel_rfl) ?_
            obtain ⟨x8, q11, q6⟩ := obind_some q6
            refine gapp (k := 1) (E := eB) (fun _ => rfl) q11 (by kernel_rfl) ?_
            obtain ⟨x9, q12, q6⟩ := obind_some q6
            refine gidx (k := 1) (E := (eL eB)) (fun _ => rfl) (fun _ => q12) (by kernel_rfl) ?_
            obtain ⟨x10, q13, q6⟩ := obind_some q6
            refine gapp (k := 1) (E := eB) (fun _ => rfl) q13 (by kernel_rfl) ?_
            have e0 := Option.some.inj q6
            subst e0
            rcases q5 with ⟨sn, e, q5'⟩ | e
            · have e := Sum.inl.inj e
              subst e
              exact gb bl1 hd (n1, _) ⟨q5', Nat.lt_succ_self _⟩ (by kernel_rfl)
            cases sum_lr e
          have e0 := Option.some.inj q6
          subst e0
          rcases q5 with ⟨sn, e, _⟩ | e
          · cases sum_rl e
          have e := Sum.inr.inj e
          subst e
          exact gb bk2 hd () trivial (by kernel_rfl)
      have e0 := Option.some.inj q2
      subst e0
      exact gb bk1 hd () trivial (by kernel_rfl)
    have e0 := Option.some.inj hm
    subst e0
    exact gend hd (by kernel_rfl)
def m_ref02_Tagged (a0 : ByteArray) (a1 : List (List UInt8)) : Option (UInt64 × UInt64) :=
  obind (m_ref02_Coded a0 a1) fun x1 =>
  obind (m_ref02_Sum x1) fun x2 =>
  some x2
theorem w_ref02_Tagged {a0 : ByteArray} {a1 : List (List UInt8)} {r : UInt64 × UInt64} (hm : m_ref02_Tagged a0 a1 = some r) : Sf prog 144 [.d (.s a0), sl (eL eB) a1] (ag (e_a2_eU r)) :=
  sp call144 func144 rfl ntmps144 rfl fun D0 As η0 m0 hd => by
    unfold m_ref02_Tagged at hm
    obtain ⟨x1, q1, hm⟩ := obind_some hm
    refine gco (w_ref02_Coded q1) (by kernel_rfl) ?_
    obtain ⟨x2, q2, hm⟩ := obind_some hm
    refine gco (w_ref02_Sum q2) (by kernel_rfl) ?_
    have e0 := Option.some.inj hm
    subst e0
    exact gend hd (by kernel_rfl)
def m_ref04_Challenge (a0 : UInt64) (a1 : UInt64) (a2 : List UInt8) : Option UInt64 :=
  obind (m_ref04_Eight a0) fun x1 =>
  obind (m_ref04_Eight a1) fun x2 =>
  obind (m_ref02_Tagged (⟨#[115, 105, 103, 110]⟩ : ByteArray) ([x1, x2, a2] : List (List UInt8))) fun x3 =>
  obind (m_ref02_Num x3 1152921504606845789) fun x4 =>
  some x4
theorem w_ref04_Challenge {a0 : UInt64} {a1 : UInt64} {a2 : List UInt8} {r : UInt64} (hm : m_ref04_Challenge a0 a1 a2 = some r) : Sf prog 124 [.d (.u a0), .d (.u a1), sl eB a2] (.d (.u r)) :=
  sp call124 func124 rfl ntmps124 rfl fun D0 As η0 m0 hd => by
    unfold m_ref04_Challenge at hm
    obtain ⟨x1, q1, hm⟩ := obind_some hm
    refine gco (s_ref04_Eight q1) (by kernel_rfl) ?_
    obtain ⟨x2, q2, hm⟩ := obind_some hm
    refine gco (s_ref04_Eight q2) (by kernel_rfl) ?_
    refine glitV (k := 1) (eL eB) ([x1, x2, a2] : List (List UInt8)) (fun _ => rfl) (by kernel_rfl) ?_
    obtain ⟨x3, q3, hm⟩ := obind_some hm
    refine gc (fun _ => w_ref02_Tagged q3) (by kernel_rfl) ?_
    obtain ⟨x4, q4, hm⟩ := obind_some hm
    refine gc (fun _ => w_ref02_Num q4) (by kernel_rfl) ?_
    have e0 := Option.some.inj hm
    subst e0
    exact gend hd (by kernel_rfl)
def m_ref04_Check (a0 : UInt64) (a1 : List UInt8) (a2 : g_api_Sig) : Option Int :=
  obind (m_ref03_In a0) fun x1 =>
  if (!x1) = true then
    some 1
  else
  if ((decide ((a2.E.toNat : Int) ≥ 1152921504606845789)) || (decide ((a2.S.toNat : Int) ≥ 1152921504606845789))) = true then
    some 40
  else
  obind (m_ref03_Base a2.S) fun x2 =>
  obind (m_ref03_Pow a0 (1152921504606845789 - a2.E)) fun x3 =>
  obind (m_ref03_Mul x2 x3) fun x4 =>
  obind (m_ref04_Challenge x4 a0 a1) fun x5 =>
  if ((x5.toNat : Int) != (a2.E.toNat : Int)) = true then
    some 40
  else
  some 0
theorem w_ref04_Check {a0 : UInt64} {a1 : List UInt8} {a2 : g_api_Sig} {r : Int} (hm : m_ref04_Check a0 a1 a2 = some r) : Sf prog 100 [.d (.u a0), sl eB a1, ag (e_api_Sig a2)] (.d (.i r)) :=
  sp call100 func100 rfl ntmps100 rfl fun D0 As η0 m0 hd => by
    unfold m_ref04_Check at hm
    obtain ⟨x1, q1, hm⟩ := obind_some hm
    refine gc (fun _ => w_ref03_In q1) (by kernel_rfl) ?_
    refine gi hm (by kernel_rfl) (fun hc1 hm => ?_) fun hc1 hm => ?_
    · skip
      have e0 := Option.some.inj hm
      subst e0
      exact gend hd (by kernel_rfl)
    refine gi hm (by kernel_rfl) (fun hc2 hm => ?_) fun hc2 hm => ?_
    · skip
      have e0 := Option.some.inj hm
      subst e0
      exact gend hd (by kernel_rfl)
    obtain ⟨x2, q2, hm⟩ := obind_some hm
    refine gc (fun _ => w_ref03_Base q2) (by kernel_rfl) ?_
    obtain ⟨x3, q3, hm⟩ := obind_some hm
    refine gc (fun _ => w_ref03_Pow q3) (by kernel_rfl) ?_
    obtain ⟨x4, q4, hm⟩ := obind_some hm
    refine gc (fun _ => w_ref03_Mul q4) (by kernel_rfl) ?_
    obtain ⟨x5, q5, hm⟩ := obind_some hm
    refine gc (fun _ => w_ref04_Challenge q5) (by kernel_rfl) ?_
    refine gi hm (by kernel_rfl) (fun hc3 hm => ?_) fun hc3 hm => ?_
    · skip
      have e0 := Option.some.inj hm
      subst e0
      exact gend hd (by kernel_rfl)
    have e0 := Option.some.inj hm
    subst e0
    exact gend hd (by kernel_rfl)
def m_ref02_Bytes (a0 : UInt64 × UInt64) : Option (List UInt8) :=
  obind (m_ref02_Eight a0.1) fun x1 =>
  obind (m_ref02_Eight a0.2) fun x2 =>
  obind (app 1 x1 x2) fun x3 =>
  some x3
theorem w_ref02_Bytes {a0 : UInt64 × UInt64} {r : List UInt8} (hm : m_ref02_Bytes a0 = some r) : Sp prog 126 [ag (e_a2_eU a0)] [] 0 (is (.ow 0) [.row 0 1 _ eB r] 1) :=
  sp call126 func126 rfl ntmps126 rfl fun D0 As η0 m0 hd => by
    unfold m_ref02_Bytes at hm
    obtain ⟨x1, q1, hm⟩ := obind_some hm
    refine gco (w_ref02_Eight q1) (by kernel_rfl) ?_
    obtain ⟨x2, q2, hm⟩ := obind_some hm
    refine gco (w_ref02_Eight q2) (by kernel_rfl) ?_
    obtain ⟨x3, q3, hm⟩ := obind_some hm
    refine gapp (k := 1) (E := eB) (fun _ => rfl) q3 (by kernel_rfl) ?_
    have e0 := Option.some.inj hm
    subst e0
    exact gend hd (by kernel_rfl)
def m_ref24_HeadBytes (a0 : g_api_Head) : Option (List UInt8) :=
  obind (m_ref04_Eight (toU a0.Log)) fun x1 =>
  obind (app 1 ([104, 101, 97, 100] : List UInt8) x1) fun x2 =>
  obind (m_ref04_Eight (toU a0.Size)) fun x3 =>
  obind (app 1 x2 x3) fun x4 =>
  obind (m_ref02_Bytes a0.Root) fun x5 =>
  obind (app 1 x4 x5) fun x6 =>
  obind (m_ref04_Eight (toU a0.At)) fun x7 =>
  obind (app 1 x6 x7) fun x8 =>
  some x8
theorem w_ref24_HeadBytes {a0 : g_api_Head} {r : List UInt8} (hm : m_ref24_HeadBytes a0 = some r) : Sp prog 101 [ag (e_api_Head a0)] [] 0 (is (.ow 0) [.row 0 1 _ eB r] 1) :=
  sp call101 func101 rfl ntmps101 rfl fun D0 As η0 m0 hd => by
    unfold m_ref24_HeadBytes at hm
    refine glit (k := 1) eB ([104, 101, 97, 100] : List UInt8) (fun _ => rfl) (by kernel_rfl) ?_
    obtain ⟨x1, q1, hm⟩ := obind_some hm
    refine gco (s_ref04_Eight q1) (by kernel_rfl) ?_
    obtain ⟨x2, q2, hm⟩ := obind_some hm
    refine gapp (k := 1) (E := eB) (fun _ => rfl) q2 (by kernel_rfl) ?_
    obtain ⟨x3, q3, hm⟩ := obind_some hm
    refine gco (s_ref04_Eight q3) (by kernel_rfl) ?_
    obtain ⟨x4, q4, hm⟩ := obind_some hm
    refine gapp (k := 1) (E := eB) (fun _ => rfl) q4 (by kernel_rfl) ?_
    obtain ⟨x5, q5, hm⟩ := obind_some hm
    refine gco (w_ref02_Bytes q5) (by kernel_rfl) ?_
    obtain ⟨x6, q6, hm⟩ := obind_some hm
    refine gapp (k := 1) (E := eB) (fun _ => rfl) q6 (by kernel_rfl) ?_
    obtain ⟨x7, q7, hm⟩ := obind_some hm
    refine gco (s_ref04_Eight q7) (by kernel_rfl) ?_
    obtain ⟨x8, q8, hm⟩ := obind_some hm
    refine gapp (k := 1) (E := eB) (fun _ => rfl) q8 (by kernel_rfl) ?_
    have e0 := Option.some.inj hm
    subst e0
    exact gend hd (by kernel_rfl)
def m_ref24_CheckHead (a0 : g_api_Key) (a1 : g_api_Head) : Option Int :=
  obind (m_ref24_num a1.Log) fun x1 =>
  obind (gu (!(!x1)) (m_ref24_num a1.At)) fun x2 =>
  if ((((!x1) || (!x2)) || (decide (a1.Size < 0))) || (decide (a1.Size > 256))) = true then
    some 1
  else
  if (a1.Log != a0.Log) = true then
    some 240
  else
  obind (m_ref24_HeadBytes a1) fun x3 =>
  obind (m_ref04_Check a0.Key x3 a1.Sig) fun x4 =>
  some x4
theorem w_ref24_CheckHead {a0 : g_api_Key} {a1 : g_api_Head} {r : Int} (hm : m_ref24_CheckHead a0 a1 = some r) : Sf prog 73 [ag (e_api_Key a0), ag (e_api_Head a1)] (.d (.i r)) :=
  sp call73 func73 rfl ntmps73 rfl fun D0 As η0 m0 hd => by
    unfold m_ref24_CheckHead at hm
    obtain ⟨x1, q1, hm⟩ := obind_some hm
    refine gc (fun _ => w_ref24_num q1) (by kernel_rfl) ?_
    obtain ⟨x2, q2, hm⟩ := obind_some hm
    refine gcG (fun h => w_ref24_num (gu_t h q2)) (by kernel_rfl) ?_
    refine gi hm (by kernel_rfl) (fun hc1 hm => ?_) fun hc1 hm => ?_
    · skip
      have e0 := Option.some.inj hm
      subst e0
      exact gend hd (by kernel_rfl)
    refine gi hm (by kernel_rfl) (fun hc2 hm => ?_) fun hc2 hm => ?_
    · skip
      have e0 := Option.some.inj hm
      subst e0
      exact gend hd (by kernel_rfl)
    obtain ⟨x3, q3, hm⟩ := obind_some hm
    refine gco (w_ref24_HeadBytes q3) (by kernel_rfl) ?_
    obtain ⟨x4, q4, hm⟩ := obind_some hm
    refine gco (w_ref04_Check q4) (by kernel_rfl) ?_
    have e0 := Option.some.inj hm
    subst e0
    exact gend hd (by kernel_rfl)
def m_ref28_Right_b2 (a0 : g_api_Head) (a1 : List g_api_Key) (s1 : Int) : Option ((Int) ⊕ ((Unit) ⊕ Bool)) :=
  if (decide (s1 < (a1.length : Int))) = true then
    obind (idx a1 s1) fun x3 =>
    if (x3.Log == a0.Log) = true then
      obind (idx a1 s1) fun x4 =>
      obind (m_ref24_CheckHead x4 a0) fun x5 =>
      some (.inr (.inr (x5 == 0)))
    else
    some (.inl (w64 (s1 + 1)))
  else
  some (.inr (.inl ()))
def m_ref28_Right (a0 : g_api_Head) (a1 : List g_api_Key) : Option Bool :=
  obind (iter (m_ref28_Right_b2 a0 a1) FUEL 0) fun x1 => match x1 with
  | .inr r => some r
  | .inl y1 =>
  some false
theorem w_ref28_Right {a0 : g_api_Head} {a1 : List g_api_Key} {r : Bool} (hm : m_ref28_Right a0 a1 = some r) : Sf prog 42 [ag (e_api_Head a0), sl e_api_Key a1] (.d (.t r)) :=
  sp call42 func42 rfl ntmps42 rfl fun D0 As η0 m0 hd => by
    unfold m_ref28_Right at hm
    obtain ⟨x1, q1, hm⟩ := obind_some hm
    refine gjU 0 (fun (y1 : Unit) => ⟨[], [(0, .box 0 [.d (.i a0.Log), .d (.i a0.Size), .d (.u a0.Root.1), .d (.u a0.Root.2), .d (.i a0.At), .d (.u a0.Sig.E), .d (.u a0.Sig.S)] 31)], [], 1⟩) (fun y1 => x1 = .inl y1) (by kernel_rfl) (fun Jp bk1 => ?_) fun y1 hy => ?_
    · refine gl hd (fun (p : Nat × (Int)) => let (p0, p_0) := p; ⟨[(1, sl e_api_Key a1), (2, .pb 0 0), (5, .d (.i p_0))], [(0, .box 0 [.d (.i a0.Log), .d (.i a0.Size), .d (.u a0.Root.1), .d (.u a0.Root.2), .d (.i a0.At), .d (.u a0.Sig.E), .d (.u a0.Sig.S)] 31)], [], 1⟩) (fun p => iter (m_ref28_Right_b2 a0 a1) p.1 p.2 = some x1) (fun p => p.1) (FUEL, 0) q1 (by kernel_rfl) ?_
      rintro ⟨n1, s1⟩ q2 Jl bl1
      cases n1 with
      | zero => exact (iter_zero q2).elim
      | succ n1 =>
        obtain ⟨y2, q4, q3⟩ := iter_succ q2
        unfold m_ref28_Right_b2 at q4
        refine gi q4 (by kernel_rfl) (fun hc1 q4 => ?_) fun hc1 q4 => ?_
        · skip
          obtain ⟨x3, q6, q4⟩ := obind_some q4
          refine gidx (k := 3) (E := e_api_Key) (fun _ => rfl) (fun _ => q6) (by kernel_rfl) ?_
          refine gi q4 (by kernel_rfl) (fun hc2 q4 => ?_) fun hc2 q4 => ?_
          · skip
            obtain ⟨x4, q7, q4⟩ := obind_some q4
            refine gidx (k := 3) (E := e_api_Key) (fun _ => rfl) (fun _ => q7) (by kernel_rfl) ?_
            obtain ⟨x5, q8, q4⟩ := obind_some q4
            refine gc (fun _ => w_ref24_CheckHead q8) (by kernel_rfl) ?_
            cases q4
            rcases q3 with ⟨sn, e, _⟩ | e
            · cases e
            cases e
            dsimp only at hm
            have e0 := Option.some.inj hm
            subst e0
            exact gend hd (by kernel_rfl)
          have e0 := Option.some.inj q4
          subst e0
          rcases q3 with ⟨sn, e, q3'⟩ | e
          · have e := Sum.inl.inj e
            subst e
            exact gb bl1 hd (n1, _) ⟨q3', Nat.lt_succ_self _⟩ (by kernel_rfl)
          cases sum_lr e
        have e0 := Option.some.inj q4
        subst e0
        rcases q3 with ⟨sn, e, _⟩ | e
        · cases sum_rl e
        have e := Sum.inr.inj e
        subst e
        exact gb bk1 hd () rfl (by kernel_rfl)
    subst hy
    dsimp only at hm
    have e0 := Option.some.inj hm
    subst e0
    exact gend hd (by kernel_rfl)
def m_ref28_ahead (a0 : g_api_Head) (a1 : g_api_Head) : Option Bool :=
  if (a0.Log != a1.Log) = true then
    some (decide (a0.Log < a1.Log))
  else
  if (a0.Size != a1.Size) = true then
    some (decide (a0.Size < a1.Size))
  else
  if ((a0.Root.1.toNat : Int) != (a1.Root.1.toNat : Int)) = true then
    bnd ((decide ((a0.Root.1.toNat : Int) < (a1.Root.1.toNat : Int)))) fun x1 =>
    some x1
  else
  if ((a0.Root.2.toNat : Int) != (a1.Root.2.toNat : Int)) = true then
    bnd ((decide ((a0.Root.2.toNat : Int) < (a1.Root.2.toNat : Int)))) fun x2 =>
    some x2
  else
  some (decide (a0.At < a1.At))
theorem w_ref28_ahead {a0 : g_api_Head} {a1 : g_api_Head} {r : Bool} (hm : m_ref28_ahead a0 a1 = some r) : Sf prog 75 [ag (e_api_Head a0), ag (e_api_Head a1)] (.d (.t r)) :=
  sp call75 func75 rfl ntmps75 rfl fun D0 As η0 m0 hd => by
    unfold m_ref28_ahead at hm
    refine gi hm (by kernel_rfl) (fun hc1 hm => ?_) fun hc1 hm => ?_
    · skip
      have e0 := Option.some.inj hm
      subst e0
      exact gend hd (by kernel_rfl)
    refine gi hm (by kernel_rfl) (fun hc2 hm => ?_) fun hc2 hm => ?_
    · skip
      have e0 := Option.some.inj hm
      subst e0
      exact gend hd (by kernel_rfl)
    refine gi hm (by kernel_rfl) (fun hc3 hm => ?_) fun hc3 hm => ?_
    · skip
      have hm := bnd_is hm
      let x1 : Bool := ((decide ((a0.Root.1.toNat : Int) < (a1.Root.1.toNat : Int))))
      have e0 := Option.some.inj hm
      subst e0
      exact gend hd (by kernel_rfl)
    refine gi hm (by kernel_rfl) (fun hc4 hm => ?_) fun hc4 hm => ?_
    · skip
      have hm := bnd_is hm
      let x2 : Bool := ((decide ((a0.Root.2.toNat : Int) < (a1.Root.2.toNat : Int))))
      have e0 := Option.some.inj hm
      subst e0
      exact gend hd (by kernel_rfl)
    have e0 := Option.some.inj hm
    subst e0
    exact gend hd (by kernel_rfl)
def m_ref28_InOrder_b2 (a0 : g_api_Pool) (s1 : Int) : Option ((Int) ⊕ ((Unit) ⊕ Bool)) :=
  if (decide (s1 < (a0.L.length : Int))) = true then
    obind (idx a0.L (w64 (s1 - 1))) fun x3 =>
    obind (idx a0.L s1) fun x4 =>
    obind (m_ref28_ahead x3 x4) fun x5 =>
    if (!x5) = true then
      some (.inr (.inr false))
    else
    some (.inl (w64 (s1 + 1)))
  else
  some (.inr (.inl ()))
def m_ref28_InOrder (a0 : g_api_Pool) : Option Bool :=
  obind (iter (m_ref28_InOrder_b2 a0) FUEL 1) fun x1 => match x1 with
  | .inr r => some r
  | .inl y1 =>
  some true
theorem w_ref28_InOrder {a0 : g_api_Pool} {r : Bool} (hm : m_ref28_InOrder a0 = some r) : Sf prog 46 [ag (e_api_Pool a0)] (.d (.t r)) :=
  sp call46 func46 rfl ntmps46 rfl fun D0 As η0 m0 hd => by
    unfold m_ref28_InOrder at hm
    obtain ⟨x1, q1, hm⟩ := obind_some hm
    refine gjU 0 (fun (y1 : Unit) => ⟨[], [(0, .box 0 [sl e_api_Head a0.L] 24)], [], 1⟩) (fun y1 => x1 = .inl y1) (by kernel_rfl) (fun Jp bk1 => ?_) fun y1 hy => ?_
    · refine gl hd (fun (p : Nat × (Int)) => let (p0, p_0) := p; ⟨[(1, .pb 0 0), (3, .d (.i p_0))], [(0, .box 0 [sl e_api_Head a0.L] 24)], [], 1⟩) (fun p => iter (m_ref28_InOrder_b2 a0) p.1 p.2 = some x1) (fun p => p.1) (FUEL, 1) q1 (by kernel_rfl) ?_
      rintro ⟨n1, s1⟩ q2 Jl bl1
      cases n1 with
      | zero => exact (iter_zero q2).elim
      | succ n1 =>
        obtain ⟨y2, q4, q3⟩ := iter_succ q2
        unfold m_ref28_InOrder_b2 at q4
        refine gi q4 (by kernel_rfl) (fun hc1 q4 => ?_) fun hc1 q4 => ?_
        · skip
          obtain ⟨x3, q6, q4⟩ := obind_some q4
          refine gidx (k := 7) (E := e_api_Head) (fun _ => rfl) (fun _ => q6) (by kernel_rfl) ?_
          obtain ⟨x4, q7, q4⟩ := obind_some q4
          refine gidx (k := 7) (E := e_api_Head) (fun _ => rfl) (fun _ => q7) (by kernel_rfl) ?_
          obtain ⟨x5, q8, q4⟩ := obind_some q4
          refine gc (fun _ => w_ref28_ahead q8) (by kernel_rfl) ?_
          refine gi q4 (by kernel_rfl) (fun hc2 q4 => ?_) fun hc2 q4 => ?_
          · skip
            cases q4
            rcases q3 with ⟨sn, e, _⟩ | e
            · cases e
            cases e
            dsimp only at hm
            have e0 := Option.some.inj hm
            subst e0
            exact gend hd (by kernel_rfl)
          have e0 := Option.some.inj q4
          subst e0
          rcases q3 with ⟨sn, e, q3'⟩ | e
          · have e := Sum.inl.inj e
            subst e
            exact gb bl1 hd (n1, _) ⟨q3', Nat.lt_succ_self _⟩ (by kernel_rfl)
          cases sum_lr e
        have e0 := Option.some.inj q4
        subst e0
        rcases q3 with ⟨sn, e, _⟩ | e
        · cases sum_rl e
        have e := Sum.inr.inj e
        subst e
        exact gb bk1 hd () rfl (by kernel_rfl)
    subst hy
    dsimp only at hm
    have e0 := Option.some.inj hm
    subst e0
    exact gend hd (by kernel_rfl)
def m_ref28_Check_b2 (a0 : g_api_Pool) (a1 : List g_api_Key) (s1 : Int) : Option ((Int) ⊕ ((Unit) ⊕ Int)) :=
  if (decide (s1 < (a0.L.length : Int))) = true then
    obind (idx a0.L s1) fun x4 =>
    obind (m_ref28_Right x4 a1) fun x5 =>
    if (!x5) = true then
      some (.inr (.inr 40))
    else
    some (.inl (w64 (s1 + 1)))
  else
  some (.inr (.inl ()))
def m_ref28_Check (a0 : g_api_Pool) (a1 : List g_api_Key) : Option Int :=
  if (decide ((a0.L.length : Int) > 1024)) = true then
    some 2
  else
  obind (m_ref28_InOrder a0) fun x1 =>
  if (!x1) = true then
    some 1
  else
  obind (iter (m_ref28_Check_b2 a0 a1) FUEL 0) fun x2 => match x2 with
  | .inr r => some r
  | .inl y1 =>
  some 0
theorem w_ref28_Check {a0 : g_api_Pool} {a1 : List g_api_Key} {r : Int} (hm : m_ref28_Check a0 a1 = some r) : Sf prog 17 [ag (e_api_Pool a0), sl e_api_Key a1] (.d (.i r)) :=
  sp call17 func17 rfl ntmps17 rfl fun D0 As η0 m0 hd => by
    unfold m_ref28_Check at hm
    refine gi hm (by kernel_rfl) (fun hc1 hm => ?_) fun hc1 hm => ?_
    · skip
      have e0 := Option.some.inj hm
      subst e0
      exact gend hd (by kernel_rfl)
    obtain ⟨x1, q1, hm⟩ := obind_some hm
    refine gc (fun _ => w_ref28_InOrder q1) (by kernel_rfl) ?_
    refine gi hm (by kernel_rfl) (fun hc2 hm => ?_) fun hc2 hm => ?_
    · skip
      have e0 := Option.some.inj hm
      subst e0
      exact gend hd (by kernel_rfl)
    obtain ⟨x2, q2, hm⟩ := obind_some hm
    refine gjU 0 (fun (y1 : Unit) => ⟨[], [(0, .box 0 [sl e_api_Head a0.L] 24)], [], 1⟩) (fun y1 => x2 = .inl y1) (by kernel_rfl) (fun Jp bk1 => ?_) fun y1 hy => ?_
    · refine gl hd (fun (p : Nat × (Int)) => let (p0, p_0) := p; ⟨[(1, sl e_api_Key a1), (2, .pb 0 0), (5, .d (.i p_0))], [(0, .box 0 [sl e_api_Head a0.L] 24)], [], 1⟩) (fun p => iter (m_ref28_Check_b2 a0 a1) p.1 p.2 = some x2) (fun p => p.1) (FUEL, 0) q2 (by kernel_rfl) ?_
      rintro ⟨n1, s1⟩ q3 Jl bl1
      cases n1 with
      | zero => exact (iter_zero q3).elim
      | succ n1 =>
        obtain ⟨y2, q5, q4⟩ := iter_succ q3
        unfold m_ref28_Check_b2 at q5
        refine gi q5 (by kernel_rfl) (fun hc3 q5 => ?_) fun hc3 q5 => ?_
        · skip
          obtain ⟨x4, q7, q5⟩ := obind_some q5
          refine gidx (k := 7) (E := e_api_Head) (fun _ => rfl) (fun _ => q7) (by kernel_rfl) ?_
          obtain ⟨x5, q8, q5⟩ := obind_some q5
          refine gc (fun _ => w_ref28_Right q8) (by kernel_rfl) ?_
          refine gi q5 (by kernel_rfl) (fun hc4 q5 => ?_) fun hc4 q5 => ?_
          · skip
            cases q5
            rcases q4 with ⟨sn, e, _⟩ | e
            · cases e
            cases e
            dsimp only at hm
            have e0 := Option.some.inj hm
            subst e0
            exact gend hd (by kernel_rfl)
          have e0 := Option.some.inj q5
          subst e0
          rcases q4 with ⟨sn, e, q4'⟩ | e
          · have e := Sum.inl.inj e
            subst e
            exact gb bl1 hd (n1, _) ⟨q4', Nat.lt_succ_self _⟩ (by kernel_rfl)
          cases sum_lr e
        have e0 := Option.some.inj q5
        subst e0
        rcases q4 with ⟨sn, e, _⟩ | e
        · cases sum_rl e
        have e := Sum.inr.inj e
        subst e
        exact gb bk1 hd () rfl (by kernel_rfl)
    subst hy
    dsimp only at hm
    have e0 := Option.some.inj hm
    subst e0
    exact gend hd (by kernel_rfl)
def m_ref28_Place (a0 : g_api_Head) (a1 : g_api_Head) : Option Bool :=
  bnd (((((a0.Log == a1.Log) && (a0.Size == a1.Size)) && (eqSum a0.Root a1.Root)) && (a0.At == a1.At))) fun x1 =>
  some x1
theorem w_ref28_Place {a0 : g_api_Head} {a1 : g_api_Head} {r : Bool} (hm : m_ref28_Place a0 a1 = some r) : Sf prog 74 [ag (e_api_Head a0), ag (e_api_Head a1)] (.d (.t r)) :=
  sp call74 func74 rfl ntmps74 rfl fun D0 As η0 m0 hd => by
    unfold m_ref28_Place at hm
    have hm := bnd_is hm
    let x1 : Bool := (((((a0.Log == a1.Log) && (a0.Size == a1.Size)) && (eqSum a0.Root a1.Root)) && (a0.At == a1.At)))
    have e0 := Option.some.inj hm
    subst e0
    exact gend hd (by kernel_rfl)
def m_ref28_Has_b2 (a0 : List g_api_Head) (a1 : g_api_Head) (s1 : Int) : Option ((Int) ⊕ ((Unit) ⊕ Bool)) :=
  if (decide (s1 < (a0.length : Int))) = true then
    obind (idx a0 s1) fun x3 =>
    obind (m_ref28_Place x3 a1) fun x4 =>
    if x4 = true then
      some (.inr (.inr true))
    else
    some (.inl (w64 (s1 + 1)))
  else
  some (.inr (.inl ()))
def m_ref28_Has (a0 : List g_api_Head) (a1 : g_api_Head) : Option Bool :=
  obind (iter (m_ref28_Has_b2 a0 a1) FUEL 0) fun x1 => match x1 with
  | .inr r => some r
  | .inl y1 =>
  some false
theorem w_ref28_Has {a0 : List g_api_Head} {a1 : g_api_Head} {r : Bool} (hm : m_ref28_Has a0 a1 = some r) : Sf prog 43 [sl e_api_Head a0, ag (e_api_Head a1)] (.d (.t r)) :=
  sp call43 func43 rfl ntmps43 rfl fun D0 As η0 m0 hd => by
    unfold m_ref28_Has at hm
    obtain ⟨x1, q1, hm⟩ := obind_some hm
    refine gjU 0 (fun (y1 : Unit) => ⟨[], [(0, .box 0 [.d (.i a1.Log), .d (.i a1.Size), .d (.u a1.Root.1), .d (.u a1.Root.2), .d (.i a1.At), .d (.u a1.Sig.E), .d (.u a1.Sig.S)] 31)], [], 1⟩) (fun y1 => x1 = .inl y1) (by kernel_rfl) (fun Jp bk1 => ?_) fun y1 hy => ?_
    · refine gl hd (fun (p : Nat × (Int)) => let (p0, p_0) := p; ⟨[(0, sl e_api_Head a0), (3, .pb 0 0), (5, .d (.i p_0))], [(0, .box 0 [.d (.i a1.Log), .d (.i a1.Size), .d (.u a1.Root.1), .d (.u a1.Root.2), .d (.i a1.At), .d (.u a1.Sig.E), .d (.u a1.Sig.S)] 31)], [], 1⟩) (fun p => iter (m_ref28_Has_b2 a0 a1) p.1 p.2 = some x1) (fun p => p.1) (FUEL, 0) q1 (by kernel_rfl) ?_
      rintro ⟨n1, s1⟩ q2 Jl bl1
      cases n1 with
      | zero => exact (iter_zero q2).elim
      | succ n1 =>
        obtain ⟨y2, q4, q3⟩ := iter_succ q2
        unfold m_ref28_Has_b2 at q4
        refine gi q4 (by kernel_rfl) (fun hc1 q4 => ?_) fun hc1 q4 => ?_
        · skip
          obtain ⟨x3, q6, q4⟩ := obind_some q4
          refine gidx (k := 7) (E := e_api_Head) (fun _ => rfl) (fun _ => q6) (by kernel_rfl) ?_
          obtain ⟨x4, q7, q4⟩ := obind_some q4
          refine gc (fun _ => w_ref28_Place q7) (by kernel_rfl) ?_
          refine gi q4 (by kernel_rfl) (fun hc2 q4 => ?_) fun hc2 q4 => ?_
          · skip
            cases q4
            rcases q3 with ⟨sn, e, _⟩ | e
            · cases e
            cases e
            dsimp only at hm
            have e0 := Option.some.inj hm
            subst e0
            exact gend hd (by kernel_rfl)
          have e0 := Option.some.inj q4
          subst e0
          rcases q3 with ⟨sn, e, q3'⟩ | e
          · have e := Sum.inl.inj e
            subst e
            exact gb bl1 hd (n1, _) ⟨q3', Nat.lt_succ_self _⟩ (by kernel_rfl)
          cases sum_lr e
        have e0 := Option.some.inj q4
        subst e0
        rcases q3 with ⟨sn, e, _⟩ | e
        · cases sum_rl e
        have e := Sum.inr.inj e
        subst e
        exact gb bk1 hd () rfl (by kernel_rfl)
    subst hy
    dsimp only at hm
    have e0 := Option.some.inj hm
    subst e0
    exact gend hd (by kernel_rfl)
def m_ref28_with_b2 (a0 : List g_api_Head) (a1 : g_api_Head) (s1 : Int) : Option ((Int) ⊕ (Int)) :=
  obind (gu (decide (s1 < (a0.length : Int))) (idx a0 s1)) fun x4 =>
  obind (gu (decide (s1 < (a0.length : Int))) (m_ref28_ahead x4 a1)) fun x5 =>
  if ((decide (s1 < (a0.length : Int))) && x5) = true then
    some (.inl (w64 (s1 + 1)))
  else
  some (.inr s1)
def m_ref28_with (a0 : List g_api_Head) (a1 : g_api_Head) : Option (List g_api_Head) :=
  obind (
    obind (iter (m_ref28_with_b2 a0 a1) FUEL 0) fun x2 =>
    some x2
  ) fun x1 =>
  obind (cut a0 0 x1) fun x6 =>
  obind (app 56 ([] : List g_api_Head) x6) fun x7 =>
  obind (app 56 x7 ([a1] : List g_api_Head)) fun x8 =>
  obind (cut a0 x1 (a0.length : Int)) fun x9 =>
  obind (app 56 x8 x9) fun x10 =>
  some x10
theorem w_ref28_with {a0 : List g_api_Head} {a1 : g_api_Head} {r : List g_api_Head} (hm : m_ref28_with a0 a1 = some r) : Sp prog 44 [sl e_api_Head a0, ag (e_api_Head a1)] [] 0 (is (.ow 0) [.row 0 7 _ e_api_Head r] 1) :=
  sp call44 func44 rfl ntmps44 rfl fun D0 As η0 m0 hd => by
    unfold m_ref28_with at hm
    obtain ⟨x1, q1, hm⟩ := obind_some hm
    obtain ⟨x2, q2, q1⟩ := obind_some q1
    refine gjU 0 (fun (_ : Unit) => ⟨[(0, sl e_api_Head a0), (3, .pb 0 0), (5, .d (.i x1))], [(0, .box 0 [.d (.i a1.Log), .d (.i a1.Size), .d (.u a1.Root.1), .d (.u a1.Root.2), .d (.i a1.At), .d (.u a1.Sig.E), .d (.u a1.Sig.S)] 31)], [], 1⟩) (fun _ => True) (by kernel_rfl) (fun Jp bk1 => ?_) fun _ _ => ?_
    · refine gjU 0 (fun (_ : Unit) => ⟨[(0, sl e_api_Head a0), (3, .pb 0 0), (5, .d (.i x2))], [(0, .box 0 [.d (.i a1.Log), .d (.i a1.Size), .d (.u a1.Root.1), .d (.u a1.Root.2), .d (.i a1.At), .d (.u a1.Sig.E), .d (.u a1.Sig.S)] 31)], [], 1⟩) (fun _ => True) (by kernel_rfl) (fun Jp bk2 => ?_) fun _ _ => ?_
      · refine gl hd (fun (p : Nat × (Int)) => let (p0, p_0) := p; ⟨[(0, sl e_api_Head a0), (3, .pb 0 0), (5, .d (.i p_0))], [(0, .box 0 [.d (.i a1.Log), .d (.i a1.Size), .d (.u a1.Root.1), .d (.u a1.Root.2), .d (.i a1.At), .d (.u a1.Sig.E), .d (.u a1.Sig.S)] 31)], [], 1⟩) (fun p => iter (m_ref28_with_b2 a0 a1) p.1 p.2 = some x2) (fun p => p.1) (FUEL, 0) q2 (by kernel_rfl) ?_
        rintro ⟨n1, s1⟩ q3 Jl bl1
        cases n1 with
        | zero => exact (iter_zero q3).elim
        | succ n1 =>
          obtain ⟨y1, q5, q4⟩ := iter_succ q3
          unfold m_ref28_with_b2 at q5
          obtain ⟨x4, q7, q5⟩ := obind_some q5
          refine gidxG (k := 7) (E := e_api_Head) (fun _ => rfl) (fun h => gu_t h q7) (by kernel_rfl) ?_
          obtain ⟨x5, q8, q5⟩ := obind_some q5
          refine gcG (fun h => w_ref28_ahead (gu_t h q8)) (by kernel_rfl) ?_
          refine gi q5 (by kernel_rfl) (fun hc1 q5 => ?_) fun hc1 q5 => ?_
          · skip
            have e0 := Option.some.inj q5
            subst e0
            rcases q4 with ⟨sn, e, q4'⟩ | e
            · have e := Sum.inl.inj e
              subst e
              exact gb bl1 hd (n1, _) ⟨q4', Nat.lt_succ_self _⟩ (by kernel_rfl)
            cases sum_lr e
          have e0 := Option.some.inj q5
          subst e0
          rcases q4 with ⟨sn, e, _⟩ | e
          · cases sum_rl e
          have e := Sum.inr.inj e
          subst e
          exact gb bk2 hd () trivial (by kernel_rfl)
      have e0 := Option.some.inj q1
      subst e0
      exact gb bk1 hd () trivial (by kernel_rfl)
    refine glit (k := 7) e_api_Head ([] : List g_api_Head) (fun _ => rfl) (by kernel_rfl) ?_
    obtain ⟨x6, q9, hm⟩ := obind_some hm
    refine gcut (k := 7) (E := e_api_Head) (fun _ => rfl) (fun _ => q9) (by kernel_rfl) ?_
    obtain ⟨x7, q10, hm⟩ := obind_some hm
    refine gapp (k := 7) (E := e_api_Head) (fun _ => rfl) q10 (by kernel_rfl) ?_
    refine glitF (k := 7) e_api_Head ([a1] : List g_api_Head) (fun _ => rfl) (by kernel_rfl) ?_
    obtain ⟨x8, q11, hm⟩ := obind_some hm
    refine gapp (k := 7) (E := e_api_Head) (fun _ => rfl) q11 (by kernel_rfl) ?_
    obtain ⟨x9, q12, hm⟩ := obind_some hm
    refine gcut (k := 7) (E := e_api_Head) (fun _ => rfl) (fun _ => q12) (by kernel_rfl) ?_
    obtain ⟨x10, q13, hm⟩ := obind_some hm
    refine gapp (k := 7) (E := e_api_Head) (fun _ => rfl) q13 (by kernel_rfl) ?_
    have e0 := Option.some.inj hm
    subst e0
    exact gend hd (by kernel_rfl)
def m_ref28_Add (a0 : g_api_Pool) (a1 : g_api_Head) (a2 : List g_api_Key) : Option (g_api_Pool × Int) :=
  obind (m_ref28_Check a0 a2) fun x1 =>
  if (x1 != 0) = true then
    some ((⟨[]⟩ : g_api_Pool), x1)
  else
  obind (m_ref28_Right a1 a2) fun x2 =>
  if (!x2) = true then
    some ((⟨[]⟩ : g_api_Pool), 40)
  else
  obind (m_ref28_Has a0.L a1) fun x3 =>
  if x3 = true then
    some (a0, 0)
  else
  if ((a0.L.length : Int) == 1024) = true then
    some ((⟨[]⟩ : g_api_Pool), 2)
  else
  obind (m_ref28_with a0.L a1) fun x4 =>
  some ((⟨x4⟩ : g_api_Pool), 0)
theorem w_ref28_Add {a0 : g_api_Pool} {a1 : g_api_Head} {a2 : List g_api_Key} {r : g_api_Pool × Int} (hm : m_ref28_Add a0 a1 a2 = some r) : Sf prog 14 [ag (e_api_Pool a0), ag (e_api_Head a1), sl e_api_Key a2] (.tup [ag (e_api_Pool r.1), .d (.i r.2)]) :=
  sp call14 func14 rfl ntmps14 rfl fun D0 As η0 m0 hd => by
    unfold m_ref28_Add at hm
    obtain ⟨x1, q1, hm⟩ := obind_some hm
    refine gc (fun _ => w_ref28_Check q1) (by kernel_rfl) ?_
    refine gi hm (by kernel_rfl) (fun hc1 hm => ?_) fun hc1 hm => ?_
    · skip
      have e0 := Option.some.inj hm
      subst e0
      exact gend hd (by kernel_rfl)
    obtain ⟨x2, q2, hm⟩ := obind_some hm
    refine gc (fun _ => w_ref28_Right q2) (by kernel_rfl) ?_
    refine gi hm (by kernel_rfl) (fun hc2 hm => ?_) fun hc2 hm => ?_
    · skip
      have e0 := Option.some.inj hm
      subst e0
      exact gend hd (by kernel_rfl)
    obtain ⟨x3, q3, hm⟩ := obind_some hm
    refine gc (fun _ => w_ref28_Has q3) (by kernel_rfl) ?_
    refine gi hm (by kernel_rfl) (fun hc3 hm => ?_) fun hc3 hm => ?_
    · skip
      have e0 := Option.some.inj hm
      subst e0
      exact gend hd (by kernel_rfl)
    refine gi hm (by kernel_rfl) (fun hc4 hm => ?_) fun hc4 hm => ?_
    · skip
      have e0 := Option.some.inj hm
      subst e0
      exact gend hd (by kernel_rfl)
    obtain ⟨x4, q4, hm⟩ := obind_some hm
    refine gco (w_ref28_with q4) (by kernel_rfl) ?_
    have e0 := Option.some.inj hm
    subst e0
    exact gend hd (by kernel_rfl)
def m_ref28_Same_b3 (a0 : g_api_Pool) (a1 : g_api_Pool) (s1 : Int) : Option ((Int) ⊕ ((Unit) ⊕ Bool)) :=
  if (decide (s1 < (a0.L.length : Int))) = true then
    obind (idx a0.L s1) fun x3 =>
    obind (idx a1.L s1) fun x4 =>
    if (!eq_api_Head x3 x4) = true then
      some (.inr (.inr false))
    else
    some (.inl (w64 (s1 + 1)))
  else
  some (.inr (.inl ()))
def m_ref28_Same (a0 : g_api_Pool) (a1 : g_api_Pool) : Option Bool :=
  if ((a0.L.length : Int) != (a1.L.length : Int)) = true then
    some false
  else
  obind (iter (m_ref28_Same_b3 a0 a1) FUEL 0) fun x1 => match x1 with
  | .inr r => some r
  | .inl y1 =>
  some true
theorem w_ref28_Same {a0 : g_api_Pool} {a1 : g_api_Pool} {r : Bool} (hm : m_ref28_Same a0 a1 = some r) : Sf prog 15 [ag (e_api_Pool a0), ag (e_api_Pool a1)] (.d (.t r)) :=
  sp call15 func15 rfl ntmps15 rfl fun D0 As η0 m0 hd => by
    unfold m_ref28_Same at hm
    refine gi hm (by kernel_rfl) (fun hc1 hm => ?_) fun hc1 hm => ?_
    · skip
      have e0 := Option.some.inj hm
      subst e0
      exact gend hd (by kernel_rfl)
    obtain ⟨x1, q1, hm⟩ := obind_some hm
    refine gjU 0 (fun (y1 : Unit) => ⟨[], [(0, .box 1 [sl e_api_Head a1.L] 24), (1, .box 0 [sl e_api_Head a0.L] 24)], [], 2⟩) (fun y1 => x1 = .inl y1) (by kernel_rfl) (fun Jp bk1 => ?_) fun y1 hy => ?_
    · refine gl hd (fun (p : Nat × (Int)) => let (p0, p_0) := p; ⟨[(2, .pb 0 0), (3, .pb 1 0), (5, .d (.i p_0))], [(0, .box 1 [sl e_api_Head a1.L] 24), (1, .box 0 [sl e_api_Head a0.L] 24)], [], 2⟩) (fun p => iter (m_ref28_Same_b3 a0 a1) p.1 p.2 = some x1) (fun p => p.1) (FUEL, 0) q1 (by kernel_rfl) ?_
      rintro ⟨n1, s1⟩ q2 Jl bl1
      cases n1 with
      | zero => exact (iter_zero q2).elim
      | succ n1 =>
        obtain ⟨y2, q4, q3⟩ := iter_succ q2
        unfold m_ref28_Same_b3 at q4
        refine gi q4 (by kernel_rfl) (fun hc2 q4 => ?_) fun hc2 q4 => ?_
        · skip
          obtain ⟨x3, q6, q4⟩ := obind_some q4
          refine gidx (k := 7) (E := e_api_Head) (fun _ => rfl) (fun _ => q6) (by kernel_rfl) ?_
          obtain ⟨x4, q7, q4⟩ := obind_some q4
          refine gidx (k := 7) (E := e_api_Head) (fun _ => rfl) (fun _ => q7) (by kernel_rfl) ?_
          refine gi q4 (by kernel_rfl) (fun hc3 q4 => ?_) fun hc3 q4 => ?_
          · skip
            cases q4
            rcases q3 with ⟨sn, e, _⟩ | e
            · cases e
            cases e
            dsimp only at hm
            have e0 := Option.some.inj hm
            subst e0
            exact gend hd (by kernel_rfl)
          have e0 := Option.some.inj q4
          subst e0
          rcases q3 with ⟨sn, e, q3'⟩ | e
          · have e := Sum.inl.inj e
            subst e
            exact gb bl1 hd (n1, _) ⟨q3', Nat.lt_succ_self _⟩ (by kernel_rfl)
          cases sum_lr e
        have e0 := Option.some.inj q4
        subst e0
        rcases q3 with ⟨sn, e, _⟩ | e
        · cases sum_rl e
        have e := Sum.inr.inj e
        subst e
        exact gb bk1 hd () rfl (by kernel_rfl)
    subst hy
    dsimp only at hm
    have e0 := Option.some.inj hm
    subst e0
    exact gend hd (by kernel_rfl)
def m_law28_GossipAdds (a0 : g_api_Pool) (a1 : g_api_Head) (a2 : List g_api_Key) : Option Bool :=
  obind (m_law28_live ) fun x1 =>
  if (!x1) = true then
    some false
  else
  obind (m_law28_few a0 a2) fun x2 =>
  if (!x2) = true then
    some x1
  else
  obind (m_gossip_Add a0 a1 a2) fun x3 =>
  obind (m_ref28_Add a0 a1 a2) fun x4 =>
  obind (m_ref28_Same x3.1 x4.1) fun x5 =>
  obind (gu ((x1 && x5) && (x3.2 == x4.2)) (m_gossip_Check a0 a2)) fun x6 =>
  obind (gu ((x1 && x5) && (x3.2 == x4.2)) (m_ref28_Check a0 a2)) fun x7 =>
  bnd ((((x1 && x5) && (x3.2 == x4.2)) && (x6 == x7))) fun x8 =>
  some x8
theorem w_law28_GossipAdds {a0 : g_api_Pool} {a1 : g_api_Head} {a2 : List g_api_Key} {r : Bool} (hm : m_law28_GossipAdds a0 a1 a2 = some r) : Sf prog 3 [ag (e_api_Pool a0), ag (e_api_Head a1), sl e_api_Key a2] (.d (.t r)) :=
  sp call3 func3 rfl ntmps3 rfl fun D0 As η0 m0 hd => by
    unfold m_law28_GossipAdds at hm
    obtain ⟨x1, q1, hm⟩ := obind_some hm
    refine gc (fun _ => w_law28_live q1) (by kernel_rfl) ?_
    refine gi hm (by kernel_rfl) (fun hc1 hm => ?_) fun hc1 hm => ?_
    · skip
      have e0 := Option.some.inj hm
      subst e0
      exact gend hd (by kernel_rfl)
    obtain ⟨x2, q2, hm⟩ := obind_some hm
    refine gc (fun _ => w_law28_few q2) (by kernel_rfl) ?_
    refine gi hm (by kernel_rfl) (fun hc2 hm => ?_) fun hc2 hm => ?_
    · skip
      have e0 := Option.some.inj hm
      subst e0
      exact gend hd (by kernel_rfl)
    obtain ⟨x3, q3, hm⟩ := obind_some hm
    refine gc (fun _ => s_gossip_Add q3) (by kernel_rfl) ?_
    obtain ⟨x4, q4, hm⟩ := obind_some hm
    refine gc (fun _ => w_ref28_Add q4) (by kernel_rfl) ?_
    obtain ⟨x5, q5, hm⟩ := obind_some hm
    refine gc (fun _ => w_ref28_Same q5) (by kernel_rfl) ?_
    obtain ⟨x6, q6, hm⟩ := obind_some hm
    refine gcG (fun h => w_gossip_Check (gu_t h q6)) (by kernel_rfl) ?_
    obtain ⟨x7, q7, hm⟩ := obind_some hm
    refine gcG (fun h => w_ref28_Check (gu_t h q7)) (by kernel_rfl) ?_
    have hm := bnd_is hm
    let x8 : Bool := ((((x1 && x5) && (x3.2 == x4.2)) && (x6 == x7)))
    have e0 := Option.some.inj hm
    subst e0
    exact gend hd (by kernel_rfl)
end Go.Proofs.YtgnklegamndglaaGreat
